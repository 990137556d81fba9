/- Lemmas for the claims of this seat, without a condition: part 30 (V12, V3, V13, V14, V15). -/
import Derived.Test.YtddfphmpfnmknaaGreatDoorBA29
import Derived.Test.YtddfphmpfnmknaaGreatDoorBA04
set_option maxHeartbeats 4000000
namespace Go.Eng
open Go.Proofs
def My(x:List Rl)(roots:List Rq)(s:Sl):Int:=if GG x s true≠0 then GG x s true else if HI x roots≠0 then HI x roots else if HI (HJ x s true) roots≠0 then HI (HJ x s true) roots else 0
def M5(x:List Rl)(roots:List Rq)(s:Sl):List Mv:=if My x roots s=0 then rm (Kv x roots) (Kv (HJ x s true) roots)else []
theorem wq(x:List Rl)(ifs:List (List AV))(roots:List Rq)(s:Sl)(Na:PC 11 [Hr x ifs,.agg (Ae s)] (LX x ifs s true))(th:PC 17 [Hr x ifs,sl AN roots] (.tup [sl Ae (Kv x roots),vi (HI x roots)]))(ti:PC 17 [Hr (HJ x s true) (if GG x s true=0 then ifs else []),sl AN roots] (.tup [sl Ae (Kv (HJ x s true) roots),vi (HI (HJ x s true) roots)]))(rv:GG x s true=0→HI x roots=0→HI (HJ x s true) roots=0→PC 54 [sl Ae (Kv x roots),sl Ae (Kv (HJ x s true) roots)] (.tup [sl DQ (rm (Kv x roots) (Kv (HJ x s true) roots)),vi 0])):PC 28 [.agg (Ic x ifs),sl AN roots,.agg (Ae s)] (.tup [sl DQ (M5 x roots s),vi (My x roots s)]):=by
 refine Ps ⟨[3,5,8],[],[],[],[],[],[],[],[],[],[2,5,8]⟩ Tryz.func28 rfl (Nz rfl) ?_;refine Yi (Nz rfl) ?_;refine Yi (Nz rfl) ?_;refine Xi .pure (Xi _ (Yi Na ?_));refine Yi (Nz rfl) ?_;refine Xi ⟨[(1,sl AN roots),(3,.ref 3 0),(8,.ref 8 0),(9,vi (GG x s true))],[(3,.ro (Ic x ifs)),(8,.ro [sl Ah (HJ x s true),.slice .none (if GG x s true=0 then ifs else [])])],Aa⟩ (Yi ⟨Z4,Z2,Fh,Tv⟩ ?_)
 refine Yi (fun h1=>?_) (fun h1=>?_)
 ·have h1:((GG x s true):Int)≠(0:Int):=h1;have eE:My x roots s=GG x s true:=by unfold My;rw[Ao h1]
  have eA:M5 x roots s=[]:=by unfold M5;rw[eE,Ai h1]
  exact(show Hf (.tup [.v (.slice none 0 0),vi (GG x s true)]) (.tup [.slice .none [],vi (GG x s true)])from .tup ⟨.nil,.refl _,trivial⟩).trans (.of_eq (show AV.tup [sl DQ ([]:List Mv),vi (GG x s true)]=.tup [sl DQ (M5 x roots s),vi (My x roots s)] by rw[eA,eE]))
 have h1:((GG x s true):Int)=(0:Int):=AS h1;refine Yi (Nz rfl) ?_;refine Xi .pure (Xi _ (Yi th ?_));refine Xi ⟨[(1,sl AN roots),(8,.ref 8 0),(9,vi (HI x roots)),(10,sl Ae (Kv x roots))],[(8,.ro [sl Ah (HJ x s true),.slice .none (if GG x s true=0 then ifs else [])])],Aa⟩ (Yi ⟨Z4,Z1,Fh,Tv⟩ ?_)
 refine Yi (fun h3=>?_) (fun h3=>?_)
 ·have h3:((HI x roots):Int)≠(0:Int):=h3;have eE:My x roots s=HI x roots:=by unfold My;rw[Ai (fun q=>q h1),Ao h3]
  have eA:M5 x roots s=[]:=by unfold M5;rw[eE,Ai h3]
  exact(show Hf (.tup [.v (.slice none 0 0),vi (HI x roots)]) (.tup [.slice .none [],vi (HI x roots)])from .tup ⟨.nil,.refl _,trivial⟩).trans (.of_eq (show AV.tup [sl DQ ([]:List Mv),vi (HI x roots)]=.tup [sl DQ (M5 x roots s),vi (My x roots s)] by rw[eA,eE]))
 have h3:((HI x roots):Int)=(0:Int):=AS h3;refine Yi (Nz rfl) ?_;refine Xi .pure (Xi _ (Yi ti ?_));refine Xi ⟨[(9,vi (HI (HJ x s true) roots)),(10,sl Ae (Kv x roots)),(11,sl Ae (Kv (HJ x s true) roots))],[],Aa⟩ (Yi ⟨Z3,Tv,Fh,Tv⟩ ?_)
 refine Yi (fun h5=>?_) (fun h5=>?_)
 ·have h5:((HI (HJ x s true) roots):Int)≠(0:Int):=h5;have eE:My x roots s=HI (HJ x s true) roots:=by unfold My;rw[Ai (fun q=>q h1),Ai (fun q=>q h3),Ao h5]
  have eA:M5 x roots s=[]:=by unfold M5;rw[eE,Ai h5]
  exact(show Hf (.tup [.v (.slice none 0 0),vi (HI (HJ x s true) roots)]) (.tup [.slice .none [],vi (HI (HJ x s true) roots)])from .tup ⟨.nil,.refl _,trivial⟩).trans (.of_eq (show AV.tup [sl DQ ([]:List Mv),vi (HI (HJ x s true) roots)]=.tup [sl DQ (M5 x roots s),vi (My x roots s)] by rw[eA,eE]))
 have h5:((HI (HJ x s true) roots):Int)=(0:Int):=AS h5;refine Xi .pure (Xi _ (Yi (rv h1 h3 h5) ?_));have eE:My x roots s=0:=by unfold My;rw[Ai (fun q=>q h1),Ai (fun q=>q h3),Ai (fun q=>q h5)]
 have eA:M5 x roots s=rm (Kv x roots) (Kv (HJ x s true) roots):=by unfold M5;rw[eE,Ao rfl]
 exact .of_eq (show AV.tup [sl DQ (rm (Kv x roots) (Kv (HJ x s true) roots)),vi 0]=.tup [sl DQ (M5 x roots s),vi (My x roots s)] by rw[eA,eE])
end Go.Eng
namespace Go.Eng
def Ci(here:Int)(s:Sl)(r:Rl):Int:=if here<plc r.ver then(if r.ver.b=s.ver.b then 3 else 2)else if plc r.ver<here then 1 else 0
def Dy(here:Int)(s:Sl)(a:Sl×Int)(r:Rl):Sl×Int:=if r.path≠s.path∨r.yanked=true then a else
 if a.2<Ci here s r∨Ci here s r=1∧a.2=1 then(DJ r,Ci here s r)else a
def Bp(here:Int)(s:Sl)(l:List Rl):Sl×Int:=l.foldl (Dy here s) (ll,0)
def Ip(x:List Rl)(s:Sl):Int:=if AX x≠0∨B8 s.ver=false then 1 else if(Bp (plc s.ver) s x).2=0 then 6 else 0
def Cf(x:List Rl)(s:Sl):Sl:=if Ip x s=0 then(Bp (plc s.ver) s x).1 else ll
theorem Dx{here:Int}{s:Sl}{x:List Rl}{i:Nat}(h:i<x.length):Bp here s (x.take (i+1))=Dy here s (Bp here s (x.take i)) x[i]:=by
 unfold Bp;rw[Bn,Ge h,Ff]
 rfl
structure cY(here:Int)(s:Sl)(l:List Rl)(a:Sl×Int):Prop where
 src:a.2≠0→∃r∈l,r.path=s.path∧r.yanked=false∧a=(DJ r,Ci here s r)
 r0:a.2=0→a=(ll,0)
 rng:0≤a.2∧a.2≤3
 no:∀r∈l,r.path=s.path→r.yanked=false→Ci here s r≤a.2
 le:∀r∈l,r.path=s.path→r.yanked=false→Ci here s r=a.2→(1<a.2→plc a.1.ver≤plc r.ver)∧(a.2=1→plc r.ver≤plc a.1.ver)
 two:a.2=2→∀r∈l,r.path=s.path→r.yanked=false→here<plc r.ver→plc a.1.ver≤plc r.ver
theorem Xt(here:Int)(s:Sl)(r:Rl):0≤Ci here s r∧Ci here s r≤3:=by
 unfold Ci;split
 ·split<;>omega
 ·split<;>omega
theorem cf{here:Int}{s:Sl}{l:List Rl}{a:Sl×Int}{r:Rl}(h:cY here s l a)(hr:∀b∈l,b.path=r.path→plc b.ver<plc r.ver):cY here s (l++[r]) (Dy here s a r):=by
 have hn:=Xt here s r;unfold Dy
 by_cases h1:r.path≠s.path∨r.yanked=true
 ·rw[Ao h1];have out:∀q∈l++[r],q.path=s.path→q.yanked=false→q∈l:=fun q hq hp hy=>by
   rcases AL.1 hq with hq | hq
   ·exact hq
   ·rw[Ak.1 hq]at hp hy;exact absurd h1 (by simp[hp,hy])
  exact⟨fun e=>(h.src e).imp fun q hq=>⟨Bd _ hq.1,hq.2⟩,h.r0,h.rng,fun q hq hp hy=>h.no q (out q hq hp hy) hp hy,fun q hq hp hy=>h.le q (out q hq hp hy) hp hy,fun e q hq hp hy=>h.two e q (out q hq hp hy) hp hy⟩
 ·rw[Ai h1];have hp:r.path=s.path:=AS fun e=>h1 (.inl e);have hy:r.yanked=false:=by cases e:r.yanked with
   |false=>rfl
   |true=>exact absurd (.inr e) h1
  have lt:∀q∈l,q.path=s.path→plc q.ver<plc r.ver:=fun q hq Zt=>hr q hq (Zt.trans hp.symm)
  by_cases h2:a.2<Ci here s r∨Ci here s r=1∧a.2=1
  ·rw[Ao h2];refine⟨fun _=>⟨r,Bc _ (Ak.2 rfl),hp,hy,rfl⟩,fun e=>?_,hn,fun q hq Zt eT=>?_,fun q hq Zt eT e=>?_,fun e q hq Zt eT Ds=>?_⟩
   ·have e:Ci here s r=0:=e
    have:=h.rng
    omega
   ·show Ci here s q≤Ci here s r;rcases AL.1 hq with hq | hq
    ·have:=h.no q hq Zt eT;omega
    ·rw[Ak.1 hq];exact BD _
   ·show(1<Ci here s r→plc r.ver≤plc q.ver)∧(Ci here s r=1→plc q.ver≤plc r.ver);have e:Ci here s q=Ci here s r:=e;rcases AL.1 hq with hq | hq
    ·have h3:=h.no q hq Zt eT;have h4:=lt q hq Zt;exact⟨fun h=>by omega,fun _=>by omega⟩
    ·rw[Ak.1 hq];exact⟨fun _=>BD _,fun _=>BD _⟩
   ·show plc r.ver≤plc q.ver;have e:Ci here s r=2:=e;rcases AL.1 hq with hq | hq
    ·have h3:=h.no q hq Zt eT
     have:2≤Ci here s q:=by unfold Ci;rw[Ao Ds];split<;>omega
     omega
    ·rw[Ak.1 hq];exact BD _
  ·rw[Ai h2];have h5:Ci here s r≤a.2:=by omega
   refine⟨fun e=>(h.src e).imp fun q hq=>⟨Bd _ hq.1,hq.2⟩,h.r0,h.rng,fun q hq Zt eT=>?_,fun q hq Zt eT e=>?_,fun e q hq Zt eT Ds=>?_⟩
   ·rcases AL.1 hq with hq | hq
    ·exact h.no q hq Zt eT
    ·rw[Ak.1 hq];exact h5
   ·rcases AL.1 hq with hq | hq
    ·exact h.le q hq Zt eT e
    ·rw[Ak.1 hq]at e⊢;refine⟨fun h6=>?_,fun h6=>by omega⟩;obtain⟨b,hb,tM,yQ,e2⟩:=h.src (by omega)
     have:=lt b hb tM
     rw[e2];show plc b.ver≤_;omega
   ·rcases AL.1 hq with hq | hq
    ·exact h.two e q hq Zt eT Ds
    ·rw[Ak.1 hq];obtain⟨b,hb,tM,yQ,e2⟩:=h.src (by omega)
     have:=lt b hb tM
     rw[e2];show plc b.ver≤_;omega
theorem ng{a b:Rl}(ha:OR a)(hb:OR b)(h:Zz a b)(hp:a.path=b.path):plc a.ver<plc b.ver:=by
 have e:a.ver.a=b.ver.a:=by
  have e1:=ha.maj;rw[hp,hb.maj]at e1;exact(B2 e1).symm
 have h:fB a.ver b.ver:=by
  rcases h with h | h
  ·rw[hp]at h;exact absurd h (by simp[CO])
  ·exact h.2
 have va:=ha.val;have vb:=hb.val;unfold plc;rw[Ao va,Ao vb];unfold B8 at va vb;simp only[Af]at va vb;have a2:okPart a.ver.b:=A8 va.1.2;have a3:okPart a.ver.c:=A8 va.2;have b2:okPart b.ver.b:=A8 vb.1.2;have b3:okPart b.ver.c:=A8 vb.2;unfold okPart at a2 a3 b2 b3;unfold fB at h;unfold place;omega
theorem ZS{x:List Rl}(hx:AX x=0)(here:Int)(s:Sl):∀i,i≤x.length→cY here s (x.take i) (Bp here s (x.take i))
 |0,_=>by
  show cY here s [] (ll,0);exact⟨fun h=>absurd rfl h,fun _=>rfl,⟨by decide,by decide⟩,nofun,nofun,nofun⟩
 |i+1,h=>by
  have hi:i<x.length:=h;rw[Dx hi,Bn,Ge hi];obtain⟨h1,h2⟩:=Cc hx;refine cf (ZS hx here s i (by omega)) fun b hb hp=>?_;obtain⟨j,hj,rfl⟩:=CD.1 hb;rw[AB]at hj;rw[F1]at hp⊢;exact ng (h1 _ (At _)) (h1 _ (At _)) ((AT.1 h2) j i (by omega) hi (by omega)) hp
def Mx(s t:Sl)(y:Rl):Prop:=plc s.ver<plc t.ver∧plc s.ver<plc y.ver∧plc y.ver<plc t.ver∧(y.ver.b=s.ver.b∨t.ver.b≠s.ver.b) ∨
 plc t.ver<plc s.ver∧(plc s.ver<plc y.ver∨plc t.ver<plc y.ver∧plc y.ver<plc s.ver)
structure cW(x:List Rl)(s:Sl):Prop where
 no:Ip x s≠0→Cf x s=ll
 src:Ip x s=0→∃r,DV x (Cf x s)=some r∧r.yanked=false∧(Cf x s).path=s.path∧Cf x s≠s
 val:Ip x s=0→AX x=0∧B8 s.ver=true∧B8 (Cf x s).ver=true
 all:Ip x s=0→∀y∈x,y.path=s.path→y.yanked=false→¬Mx s (Cf x s) y
theorem iU(x:List Rl)(s:Sl):cW x s:=by
 have key:Ip x s=0→AX x=0∧B8 s.ver=true∧(Bp (plc s.ver) s x).2≠0∧cY (plc s.ver) s x (Bp (plc s.ver) s x)∧Cf x s=(Bp (plc s.ver) s x).1:=fun h=>by
  have hA:Cf x s=(Bp (plc s.ver) s x).1:=by unfold Cf;rw[Ao h]
  unfold Ip at h;split at h
  ·cases h
  ·rename_i h1;split at h
   ·cases h
   ·rename_i h2;have hx:AX x=0:=AS fun e=>h1 (.inl e);have hv:B8 s.ver=true:=by cases e:B8 s.ver with
     |true=>rfl
     |false=>exact absurd (.inr e) h1
    have:=ZS hx (plc s.ver) s x.length (Am _)
    rw[DA]at this;exact⟨hx,hv,h2,this,hA⟩
 refine⟨fun h=>by unfold Cf;rw[Ai h],fun h=>?_,fun h=>?_,fun h y hy hp uK=>?_⟩
 ·obtain⟨hx,hv,h0,hI,hA⟩:=key h;obtain⟨r,hr,hp,hy,e⟩:=hI.src h0;rw[hA,e];refine⟨r,IS hx hr,hy,hp,fun e2=>?_⟩;rw[e]at h0;have e2:DJ r=s:=e2
  have:plc r.ver=plc s.ver:=by rw[←e2]
  refine h0 ?_;show Ci (plc s.ver) s r=0;unfold Ci;rw[this,Ai (by omega),Ai (by omega)]
 ·obtain⟨hx,hv,h0,hI,hA⟩:=key h;obtain⟨r,hr,hp,hy,e⟩:=hI.src h0;refine⟨hx,hv,?_⟩;rw[hA,e];exact((Cc hx).1 r hr).val
 ·obtain⟨hx,hv,h0,hI,hA⟩:=key h;obtain⟨r,hr,hrp,xo,e⟩:=hI.src h0;have n1:=hI.no y hy hp uK;have l1:=hI.le y hy hp uK;have t1:=hI.two;rw[hA];rw[e]at n1 l1 t1 h0⊢;have n1:Ci (plc s.ver) s y≤Ci (plc s.ver) s r:=n1;have l1:Ci (plc s.ver) s y=Ci (plc s.ver) s r→(1<Ci (plc s.ver) s r→plc r.ver≤plc y.ver)∧(Ci (plc s.ver) s r=1→plc y.ver≤plc r.ver):=l1;have t1:Ci (plc s.ver) s r=2→plc s.ver<plc y.ver→plc r.ver≤plc y.ver:=fun q=>t1 q y hy hp uK;unfold Mx;show ¬(plc s.ver<plc r.ver∧plc s.ver<plc y.ver∧plc y.ver<plc r.ver∧(y.ver.b=s.ver.b∨r.ver.b≠s.ver.b)∨plc r.ver<plc s.ver∧(plc s.ver<plc y.ver∨plc r.ver<plc y.ver∧plc y.ver<plc s.ver))
  rintro(⟨a1,a2,a3,a4⟩ | ⟨a1,a2⟩)
  ·have hr:Ci (plc s.ver) s r=if r.ver.b=s.ver.b then 3 else 2:=by unfold Ci;rw[Ao a1]
   have hy:Ci (plc s.ver) s y=if y.ver.b=s.ver.b then 3 else 2:=by unfold Ci;rw[Ao a2]
   by_cases c1:r.ver.b=s.ver.b
   ·rw[Ao c1]at hr;have c2:y.ver.b=s.ver.b:=a4.elim id fun h=>absurd c1 h;rw[Ao c2]at hy
    have:=(l1 (by omega)).1 (by omega)
    omega
   ·rw[Ai c1]at hr
    have:=t1 hr a2
    omega
  ·have hr:Ci (plc s.ver) s r=1:=by unfold Ci;rw[Ai (by omega),Ao a1]
   rcases a2 with a2 | ⟨a2,a3⟩
   ·have:2≤Ci (plc s.ver) s y:=by unfold Ci;rw[Ao a2];split<;>omega
    omega
   ·have hy:Ci (plc s.ver) s y=1:=by unfold Ci;rw[Ai (by omega),Ao a3]
    have:=(l1 (by omega)).2 hr
    omega
end Go.Eng
namespace Go.Eng
open Go.Proofs
theorem XK(here:Int)(s:Sl)(a:Sl×Int)(r:Rl)(h:0≤a.2∧a.2≤3):0≤(Dy here s a r).2∧(Dy here s a r).2≤3:=by
 unfold Dy;split
 ·exact h
 ·split
  ·exact Xt here s r
  ·exact h
theorem gv(here:Int)(s:Sl)(l:List Rl):0≤(Bp here s l).2∧(Bp here s l).2≤3:=by
 have key:∀(l:List Rl) (a:Sl×Int),(0≤a.2∧a.2≤3)→0≤(l.foldl (Dy here s) a).2∧(l.foldl (Dy here s) a).2≤3:=fun l=>by
  induction l with
  |nil=>intro a h;exact h
  |cons r l ih=>intro a h;exact ih _ (XK here s a r h)
 exact key l _ ⟨by decide,by decide⟩
theorem rj(v:Ver):PC 39 [.agg (FW v)] (.tup [vi (plc v),vi (if B8 v then 0 else 2)]):=oU v
theorem rb(x:List Rl)(ifs:List (List AV))(s:Sl)(hl:CU x)(k:Int)(QE:k=0)(hv:¬(AX x≠0∨B8 s.ver=false))(hk:PC 37 [Hr x ifs] (vi k))(hV:PC 38 [.agg (FW s.ver)] (vb true))(i7:PC 39 [.agg (FW s.ver)] (.tup [vi (plc s.ver),vi (if B8 s.ver then 0 else 2)])):PC 14 [.agg (Ic x ifs),.agg (Ae s)] (.tup [.agg (Ae (Cf x s)),vi (Ip x s)]):=by
 have hl:x.length≤1073741824:=hl;refine Ps ⟨[2,3,11],[],[],[],[],[],[],[],[],[],[2,3,5,9,12,13,17,18,19]⟩ Tryz.func14 rfl (Nz rfl) ?_;refine Yi (Nz rfl) ?_;refine Xi .pure (Xi _ (Yi hk ?_));refine Yi (fun h1=>?_) (fun h1=>?_)
 ·have h1:(k:Int)≠(0:Int):=h1;exact absurd QE h1
 have h1:(k:Int)=(0:Int):=AS h1;refine Yi (Nz rfl) ?_;refine Xi .pure (Xi _ (Yi hV ?_));refine Xi ⟨[(2,.ref 2 0),(3,.ref 3 0),(4,.ref 4 0)],[(2,.ro (Ic x ifs)),(3,.ro (Ae s)),(4,.cells [vs ⟨#[]⟩,vi 0,vi 0,vi 0])],Aa⟩ (Yi ⟨Z3,Z3,Fh,Tv⟩ ?_)
 refine Yi (Nz rfl) ?_;refine Xi .pure (Xi _ (Yi i7 ?_));refine Yi (Nz rfl) ?_;refine Xi ⟨[(2,.ref 2 0),(3,.ref 3 0),(4,.ref 4 0),(6,vi (plc s.ver)),(8,.ref 8 0),(9,vi 0)],[(2,.ro (Ic x ifs)),(3,.ro (Ae s)),(4,.cells [vs ⟨#[]⟩,vi 0,vi 0,vi 0]),(8,.cells [vs ⟨#[]⟩,vi 0,vi 0,vi 0])],Aa⟩ (Yi ⟨Z6,Z4,Fh,Tv⟩ ?_)
 refine Xi {q:Nat // q≤x.length} (Xi (fun q=>⟨[(3,.ref 3 0),(4,.ref 4 0),(6,vi (plc s.ver)),(8,.ref 8 0),(9,vi (Bp (plc s.ver) s (x.take q.1)).2),(33,sl Ah x),(34,vi (x.map Ah).length),(35,vi q.1)],[(3,.ro (Ae s)),(4,.cells [vs ⟨#[]⟩,vi 0,vi 0,vi 0]),(8,.cells (Ae (Bp (plc s.ver) s (x.take q.1)).1))],Aa⟩) (Xi (fun q=>x.length-q.1) (Yi (Xi ⟨0,AO _⟩ ?_) ?_)))
 ·exact⟨Z8,Z3,Fh,Tv⟩
 intro⟨i,i1⟩;have i1:i≤x.length:=i1;have i3:0≤(Bp (plc s.ver) s (x.take i)).2∧(Bp (plc s.ver) s (x.take i)).2≤3:=gv _ _ _;refine Yi (fun h2=>?_) (fun h2=>?_)
 ·have h2:(i:Int)<((x.map Ah).length:Int):=h2;have n2:=MB h2;refine Xi (Ah x[i]) (Yi (Wj n2) (Yi rfl ?_));refine Yi (Nz rfl) ?_;refine Yi (Nz rfl) ?_;refine Yi (fun h4=>?_) (fun h4=>?_)
  ·have h4:(x[i].path:ByteArray)≠s.path:=h4;refine Xi ⟨[(3,.ref 3 0),(4,.ref 4 0),(6,vi (plc s.ver)),(8,.ref 8 0),(9,vi (Bp (plc s.ver) s (x.take i)).2),(33,sl Ah x),(34,vi (x.map Ah).length),(35,vi i)],[(3,.ro (Ae s)),(4,.cells [vs ⟨#[]⟩,vi 0,vi 0,vi 0]),(8,.cells (Ae (Bp (plc s.ver) s (x.take i)).1))],Aa⟩ (Yi ⟨Z8,Z3,Fh,Tv⟩ ?_)
   refine Yi (Ii i (by omega)) ?_;have eN:=Dx (here:=(plc s.ver)) (s:=s) n2;have eS:Dy (plc s.ver) s (Bp (plc s.ver) s (x.take i)) x[i]=(Bp (plc s.ver) s (x.take i)):=Ao (.inl h4);rw[eS]at eN;refine Xi ⟨i+1,n2⟩ ?_;exact⟨Dl x.length i (by omega),⟨Zr,Zr,Zr,Zr,⟨(show vi (Bp (plc s.ver) s (x.take i)).2=vi (Bp (plc s.ver) s (x.take (i+1))).2 by rw[eN]),rfl⟩,Zr,Zr,Zr,Tv⟩,⟨Zr,Zr,⟨(show HO.cells (Ae (Bp (plc s.ver) s (x.take i)).1)=.cells (Ae (Bp (plc s.ver) s (x.take (i+1))).1) by rw[eN]),rfl⟩,Tv⟩,Fh,Tv⟩
  have h4:(x[i].path:ByteArray)=s.path:=AS h4;refine Yi (fun h6=>?_) (fun h6=>?_)
  ·have h6:x[i].yanked=true:=h6;refine Xi ⟨[(3,.ref 3 0),(4,.ref 4 0),(6,vi (plc s.ver)),(8,.ref 8 0),(9,vi (Bp (plc s.ver) s (x.take i)).2),(33,sl Ah x),(34,vi (x.map Ah).length),(35,vi i)],[(3,.ro (Ae s)),(4,.cells [vs ⟨#[]⟩,vi 0,vi 0,vi 0]),(8,.cells (Ae (Bp (plc s.ver) s (x.take i)).1))],Aa⟩ (Yi ⟨Z8,Z3,Fh,Tv⟩ ?_)
   refine Yi (Ii i (by omega)) ?_;have eN:=Dx (here:=(plc s.ver)) (s:=s) n2;have eS:Dy (plc s.ver) s (Bp (plc s.ver) s (x.take i)) x[i]=(Bp (plc s.ver) s (x.take i)):=Ao (.inr h6);rw[eS]at eN;refine Xi ⟨i+1,n2⟩ ?_;exact⟨Dl x.length i (by omega),⟨Zr,Zr,Zr,Zr,⟨(show vi (Bp (plc s.ver) s (x.take i)).2=vi (Bp (plc s.ver) s (x.take (i+1))).2 by rw[eN]),rfl⟩,Zr,Zr,Zr,Tv⟩,⟨Zr,Zr,⟨(show HO.cells (Ae (Bp (plc s.ver) s (x.take i)).1)=.cells (Ae (Bp (plc s.ver) s (x.take (i+1))).1) by rw[eN]),rfl⟩,Tv⟩,Fh,Tv⟩
  have h6:x[i].yanked=false:=h6;refine Xi ⟨[(3,.ref 3 0),(4,.ref 4 0),(6,vi (plc s.ver)),(8,.ref 8 0),(9,vi (Bp (plc s.ver) s (x.take i)).2),(11,.ref 11 0),(33,sl Ah x),(34,vi (x.map Ah).length),(35,vi i)],[(3,.ro (Ae s)),(4,.cells [vs ⟨#[]⟩,vi 0,vi 0,vi 0]),(8,.cells (Ae (Bp (plc s.ver) s (x.take i)).1)),(11,.ro (Ah x[i]))],Aa⟩ (Yi ⟨Z9,Z4,Fh,Tv⟩ ?_)
  refine Yi (Nz rfl) ?_;refine Xi .pure (Xi _ (Yi (rj x[i].ver) ?_));refine Yi (fun h8=>?_) (fun h8=>?_)
  ·have h8:((plc s.ver):Int)<((plc x[i].ver):Int):=h8;refine Yi (fun h9=>?_) (fun h9=>?_)
   ·have h9:(x[i].ver.b:Int)=(s.ver.b:Int):=h9;refine Xi ⟨[(3,.ref 3 0),(4,.ref 4 0),(6,vi (plc s.ver)),(8,.ref 8 0),(9,vi (Bp (plc s.ver) s (x.take i)).2),(11,.ref 11 0),(33,sl Ah x),(34,vi (x.map Ah).length),(35,vi i)],[(3,.ro (Ae s)),(4,.cells [vs ⟨#[]⟩,vi 0,vi 0,vi 0]),(8,.cells (Ae (Bp (plc s.ver) s (x.take i)).1)),(11,.ro (Ah x[i]))],Aa⟩ (Yi ⟨Z9,Z4,Fh,Tv⟩ ?_)
    have eW:Ci (plc s.ver) s x[i]=3:=by unfold Ci;rw[Ao (by omega),Ao (by omega)]
    refine Xi ⟨[(3,.ref 3 0),(4,.ref 4 0),(6,vi (plc s.ver)),(8,.ref 8 0),(9,vi (Bp (plc s.ver) s (x.take i)).2),(11,.ref 11 0),(14,vi (Ci (plc s.ver) s x[i])),(33,sl Ah x),(34,vi (x.map Ah).length),(35,vi i)],[(3,.ro (Ae s)),(4,.cells [vs ⟨#[]⟩,vi 0,vi 0,vi 0]),(8,.cells (Ae (Bp (plc s.ver) s (x.take i)).1)),(11,.ro (Ah x[i]))],Aa⟩ (Yi ⟨⟨Zr,Zr,Zr,Zr,Zr,Zr,⟨(show vi 3=vi (Ci (plc s.ver) s x[i]) by rw[eW]),rfl⟩,Zr,Zr,Zr,Tv⟩,Z4,Fh,Tv⟩ ?_)
    refine Yi (fun RV=>?_) (fun RV=>?_)
    ·have RV:((Bp (plc s.ver) s (x.take i)).2:Int)<((Ci (plc s.ver) s x[i]):Int):=RV;refine Xi ⟨[(3,.ref 3 0),(4,.ref 4 0),(6,vi (plc s.ver)),(8,.ref 8 0),(11,.ref 11 0),(14,vi (Ci (plc s.ver) s x[i])),(33,sl Ah x),(34,vi (x.map Ah).length),(35,vi i)],[(3,.ro (Ae s)),(4,.cells [vs ⟨#[]⟩,vi 0,vi 0,vi 0]),(8,.cells (Ae (Bp (plc s.ver) s (x.take i)).1)),(11,.ro (Ah x[i]))],Aa⟩ (Yi ⟨Z9,Z4,Fh,Tv⟩ ?_)
     refine Yi (Nz rfl) ?_;refine Xi .pure (Xi _ (Yi (QN x[i]) ?_));refine Yi (Nz rfl) ?_;refine Xi ⟨[(3,.ref 3 0),(4,.ref 4 0),(6,vi (plc s.ver)),(8,.ref 8 0),(9,vi (Ci (plc s.ver) s x[i])),(33,sl Ah x),(34,vi (x.map Ah).length),(35,vi i)],[(3,.ro (Ae s)),(4,.cells [vs ⟨#[]⟩,vi 0,vi 0,vi 0]),(8,.cells (Ae (DJ x[i])))],Aa⟩ (Yi ⟨Z8,Z3,Fh,Tv⟩ ?_)
     refine Yi (Ii i (by omega)) ?_;have eN:=Dx (here:=(plc s.ver)) (s:=s) n2;have e0:¬(x[i].path≠s.path∨x[i].yanked=true):=fun q=>q.elim (fun q=>q h4) (fun q=>by rw[h6]at q;cases q);have eS:Dy (plc s.ver) s (Bp (plc s.ver) s (x.take i)) x[i]=(DJ x[i],Ci (plc s.ver) s x[i]):=(Ai e0).trans (Ao (by omega));rw[eS]at eN;refine Xi ⟨i+1,n2⟩ ?_;exact⟨Dl x.length i (by omega),⟨Zr,Zr,Zr,Zr,⟨(show vi (Ci (plc s.ver) s x[i])=vi (Bp (plc s.ver) s (x.take (i+1))).2 by rw[eN]),rfl⟩,Zr,Zr,Zr,Tv⟩,⟨Zr,Zr,⟨(show HO.cells (Ae (DJ x[i]))=.cells (Ae (Bp (plc s.ver) s (x.take (i+1))).1) by rw[eN]),rfl⟩,Tv⟩,Fh,Tv⟩
    have RV:¬(((Bp (plc s.ver) s (x.take i)).2:Int)<((Ci (plc s.ver) s x[i]):Int)):=RV;refine Yi (fun Yq=>?_) (fun Yq=>?_)
    ·have Yq:((Ci (plc s.ver) s x[i]):Int)=(1:Int):=Yq;refine Yi (fun dW=>?_) (fun dW=>?_)
     ·have dW:((Bp (plc s.ver) s (x.take i)).2:Int)=(1:Int):=dW;refine Xi ⟨[(3,.ref 3 0),(4,.ref 4 0),(6,vi (plc s.ver)),(8,.ref 8 0),(11,.ref 11 0),(14,vi (Ci (plc s.ver) s x[i])),(33,sl Ah x),(34,vi (x.map Ah).length),(35,vi i)],[(3,.ro (Ae s)),(4,.cells [vs ⟨#[]⟩,vi 0,vi 0,vi 0]),(8,.cells (Ae (Bp (plc s.ver) s (x.take i)).1)),(11,.ro (Ah x[i]))],Aa⟩ (Yi ⟨Z9,Z4,Fh,Tv⟩ ?_)
      refine Yi (Nz rfl) ?_;refine Xi .pure (Xi _ (Yi (QN x[i]) ?_));refine Yi (Nz rfl) ?_;refine Xi ⟨[(3,.ref 3 0),(4,.ref 4 0),(6,vi (plc s.ver)),(8,.ref 8 0),(9,vi (Ci (plc s.ver) s x[i])),(33,sl Ah x),(34,vi (x.map Ah).length),(35,vi i)],[(3,.ro (Ae s)),(4,.cells [vs ⟨#[]⟩,vi 0,vi 0,vi 0]),(8,.cells (Ae (DJ x[i])))],Aa⟩ (Yi ⟨Z8,Z3,Fh,Tv⟩ ?_)
      refine Yi (Ii i (by omega)) ?_;have eN:=Dx (here:=(plc s.ver)) (s:=s) n2;have e0:¬(x[i].path≠s.path∨x[i].yanked=true):=fun q=>q.elim (fun q=>q h4) (fun q=>by rw[h6]at q;cases q);have eS:Dy (plc s.ver) s (Bp (plc s.ver) s (x.take i)) x[i]=(DJ x[i],Ci (plc s.ver) s x[i]):=(Ai e0).trans (Ao (by omega));rw[eS]at eN;refine Xi ⟨i+1,n2⟩ ?_;exact⟨Dl x.length i (by omega),⟨Zr,Zr,Zr,Zr,⟨(show vi (Ci (plc s.ver) s x[i])=vi (Bp (plc s.ver) s (x.take (i+1))).2 by rw[eN]),rfl⟩,Zr,Zr,Zr,Tv⟩,⟨Zr,Zr,⟨(show HO.cells (Ae (DJ x[i]))=.cells (Ae (Bp (plc s.ver) s (x.take (i+1))).1) by rw[eN]),rfl⟩,Tv⟩,Fh,Tv⟩
     have dW:¬(((Bp (plc s.ver) s (x.take i)).2:Int)=(1:Int)):=dW;refine Xi ⟨[(3,.ref 3 0),(4,.ref 4 0),(6,vi (plc s.ver)),(8,.ref 8 0),(9,vi (Bp (plc s.ver) s (x.take i)).2),(33,sl Ah x),(34,vi (x.map Ah).length),(35,vi i)],[(3,.ro (Ae s)),(4,.cells [vs ⟨#[]⟩,vi 0,vi 0,vi 0]),(8,.cells (Ae (Bp (plc s.ver) s (x.take i)).1))],Aa⟩ (Yi ⟨Z8,Z3,Fh,Tv⟩ ?_)
     refine Yi (Ii i (by omega)) ?_;have eN:=Dx (here:=(plc s.ver)) (s:=s) n2;have e0:¬(x[i].path≠s.path∨x[i].yanked=true):=fun q=>q.elim (fun q=>q h4) (fun q=>by rw[h6]at q;cases q);have eS:Dy (plc s.ver) s (Bp (plc s.ver) s (x.take i)) x[i]=(Bp (plc s.ver) s (x.take i)):=(Ai e0).trans (Ai (by omega));rw[eS]at eN;refine Xi ⟨i+1,n2⟩ ?_;exact⟨Dl x.length i (by omega),⟨Zr,Zr,Zr,Zr,⟨(show vi (Bp (plc s.ver) s (x.take i)).2=vi (Bp (plc s.ver) s (x.take (i+1))).2 by rw[eN]),rfl⟩,Zr,Zr,Zr,Tv⟩,⟨Zr,Zr,⟨(show HO.cells (Ae (Bp (plc s.ver) s (x.take i)).1)=.cells (Ae (Bp (plc s.ver) s (x.take (i+1))).1) by rw[eN]),rfl⟩,Tv⟩,Fh,Tv⟩
    have Yq:¬(((Ci (plc s.ver) s x[i]):Int)=(1:Int)):=Yq;refine Xi ⟨[(3,.ref 3 0),(4,.ref 4 0),(6,vi (plc s.ver)),(8,.ref 8 0),(9,vi (Bp (plc s.ver) s (x.take i)).2),(33,sl Ah x),(34,vi (x.map Ah).length),(35,vi i)],[(3,.ro (Ae s)),(4,.cells [vs ⟨#[]⟩,vi 0,vi 0,vi 0]),(8,.cells (Ae (Bp (plc s.ver) s (x.take i)).1))],Aa⟩ (Yi ⟨Z8,Z3,Fh,Tv⟩ ?_)
    refine Yi (Ii i (by omega)) ?_;have eN:=Dx (here:=(plc s.ver)) (s:=s) n2;have e0:¬(x[i].path≠s.path∨x[i].yanked=true):=fun q=>q.elim (fun q=>q h4) (fun q=>by rw[h6]at q;cases q);have eS:Dy (plc s.ver) s (Bp (plc s.ver) s (x.take i)) x[i]=(Bp (plc s.ver) s (x.take i)):=(Ai e0).trans (Ai (by omega));rw[eS]at eN;refine Xi ⟨i+1,n2⟩ ?_;exact⟨Dl x.length i (by omega),⟨Zr,Zr,Zr,Zr,⟨(show vi (Bp (plc s.ver) s (x.take i)).2=vi (Bp (plc s.ver) s (x.take (i+1))).2 by rw[eN]),rfl⟩,Zr,Zr,Zr,Tv⟩,⟨Zr,Zr,⟨(show HO.cells (Ae (Bp (plc s.ver) s (x.take i)).1)=.cells (Ae (Bp (plc s.ver) s (x.take (i+1))).1) by rw[eN]),rfl⟩,Tv⟩,Fh,Tv⟩
   have h9:¬((x[i].ver.b:Int)=(s.ver.b:Int)):=h9;refine Xi ⟨[(3,.ref 3 0),(4,.ref 4 0),(6,vi (plc s.ver)),(8,.ref 8 0),(9,vi (Bp (plc s.ver) s (x.take i)).2),(11,.ref 11 0),(12,vi (plc x[i].ver)),(14,vi 0),(33,sl Ah x),(34,vi (x.map Ah).length),(35,vi i)],[(3,.ro (Ae s)),(4,.cells [vs ⟨#[]⟩,vi 0,vi 0,vi 0]),(8,.cells (Ae (Bp (plc s.ver) s (x.take i)).1)),(11,.ro (Ah x[i]))],Aa⟩ (Yi ⟨Z11,Z4,Fh,Tv⟩ ?_)
   refine Yi (fun _=>?_) (fun hf=>absurd h8 hf);have eW:Ci (plc s.ver) s x[i]=2:=by unfold Ci;rw[Ao (by omega),Ai (by omega)]
   refine Xi ⟨[(3,.ref 3 0),(4,.ref 4 0),(6,vi (plc s.ver)),(8,.ref 8 0),(9,vi (Bp (plc s.ver) s (x.take i)).2),(11,.ref 11 0),(14,vi (Ci (plc s.ver) s x[i])),(33,sl Ah x),(34,vi (x.map Ah).length),(35,vi i)],[(3,.ro (Ae s)),(4,.cells [vs ⟨#[]⟩,vi 0,vi 0,vi 0]),(8,.cells (Ae (Bp (plc s.ver) s (x.take i)).1)),(11,.ro (Ah x[i]))],Aa⟩ (Yi ⟨⟨Zr,Zr,Zr,Zr,Zr,Zr,⟨(show vi 2=vi (Ci (plc s.ver) s x[i]) by rw[eW]),rfl⟩,Zr,Zr,Zr,Tv⟩,Z4,Fh,Tv⟩ ?_)
   refine Yi (fun pf=>?_) (fun pf=>?_)
   ·have pf:((Bp (plc s.ver) s (x.take i)).2:Int)<((Ci (plc s.ver) s x[i]):Int):=pf;refine Xi ⟨[(3,.ref 3 0),(4,.ref 4 0),(6,vi (plc s.ver)),(8,.ref 8 0),(11,.ref 11 0),(14,vi (Ci (plc s.ver) s x[i])),(33,sl Ah x),(34,vi (x.map Ah).length),(35,vi i)],[(3,.ro (Ae s)),(4,.cells [vs ⟨#[]⟩,vi 0,vi 0,vi 0]),(8,.cells (Ae (Bp (plc s.ver) s (x.take i)).1)),(11,.ro (Ah x[i]))],Aa⟩ (Yi ⟨Z9,Z4,Fh,Tv⟩ ?_)
    refine Yi (Nz rfl) ?_;refine Xi .pure (Xi _ (Yi (QN x[i]) ?_));refine Yi (Nz rfl) ?_;refine Xi ⟨[(3,.ref 3 0),(4,.ref 4 0),(6,vi (plc s.ver)),(8,.ref 8 0),(9,vi (Ci (plc s.ver) s x[i])),(33,sl Ah x),(34,vi (x.map Ah).length),(35,vi i)],[(3,.ro (Ae s)),(4,.cells [vs ⟨#[]⟩,vi 0,vi 0,vi 0]),(8,.cells (Ae (DJ x[i])))],Aa⟩ (Yi ⟨Z8,Z3,Fh,Tv⟩ ?_)
    refine Yi (Ii i (by omega)) ?_;have eN:=Dx (here:=(plc s.ver)) (s:=s) n2;have e0:¬(x[i].path≠s.path∨x[i].yanked=true):=fun q=>q.elim (fun q=>q h4) (fun q=>by rw[h6]at q;cases q);have eS:Dy (plc s.ver) s (Bp (plc s.ver) s (x.take i)) x[i]=(DJ x[i],Ci (plc s.ver) s x[i]):=(Ai e0).trans (Ao (by omega));rw[eS]at eN;refine Xi ⟨i+1,n2⟩ ?_;exact⟨Dl x.length i (by omega),⟨Zr,Zr,Zr,Zr,⟨(show vi (Ci (plc s.ver) s x[i])=vi (Bp (plc s.ver) s (x.take (i+1))).2 by rw[eN]),rfl⟩,Zr,Zr,Zr,Tv⟩,⟨Zr,Zr,⟨(show HO.cells (Ae (DJ x[i]))=.cells (Ae (Bp (plc s.ver) s (x.take (i+1))).1) by rw[eN]),rfl⟩,Tv⟩,Fh,Tv⟩
   have pf:¬(((Bp (plc s.ver) s (x.take i)).2:Int)<((Ci (plc s.ver) s x[i]):Int)):=pf;refine Yi (fun pg=>?_) (fun pg=>?_)
   ·have pg:((Ci (plc s.ver) s x[i]):Int)=(1:Int):=pg;refine Yi (fun Wd=>?_) (fun Wd=>?_)
    ·have Wd:((Bp (plc s.ver) s (x.take i)).2:Int)=(1:Int):=Wd;refine Xi ⟨[(3,.ref 3 0),(4,.ref 4 0),(6,vi (plc s.ver)),(8,.ref 8 0),(11,.ref 11 0),(14,vi (Ci (plc s.ver) s x[i])),(33,sl Ah x),(34,vi (x.map Ah).length),(35,vi i)],[(3,.ro (Ae s)),(4,.cells [vs ⟨#[]⟩,vi 0,vi 0,vi 0]),(8,.cells (Ae (Bp (plc s.ver) s (x.take i)).1)),(11,.ro (Ah x[i]))],Aa⟩ (Yi ⟨Z9,Z4,Fh,Tv⟩ ?_)
     refine Yi (Nz rfl) ?_;refine Xi .pure (Xi _ (Yi (QN x[i]) ?_));refine Yi (Nz rfl) ?_;refine Xi ⟨[(3,.ref 3 0),(4,.ref 4 0),(6,vi (plc s.ver)),(8,.ref 8 0),(9,vi (Ci (plc s.ver) s x[i])),(33,sl Ah x),(34,vi (x.map Ah).length),(35,vi i)],[(3,.ro (Ae s)),(4,.cells [vs ⟨#[]⟩,vi 0,vi 0,vi 0]),(8,.cells (Ae (DJ x[i])))],Aa⟩ (Yi ⟨Z8,Z3,Fh,Tv⟩ ?_)
     refine Yi (Ii i (by omega)) ?_;have eN:=Dx (here:=(plc s.ver)) (s:=s) n2;have e0:¬(x[i].path≠s.path∨x[i].yanked=true):=fun q=>q.elim (fun q=>q h4) (fun q=>by rw[h6]at q;cases q);have eS:Dy (plc s.ver) s (Bp (plc s.ver) s (x.take i)) x[i]=(DJ x[i],Ci (plc s.ver) s x[i]):=(Ai e0).trans (Ao (by omega));rw[eS]at eN;refine Xi ⟨i+1,n2⟩ ?_;exact⟨Dl x.length i (by omega),⟨Zr,Zr,Zr,Zr,⟨(show vi (Ci (plc s.ver) s x[i])=vi (Bp (plc s.ver) s (x.take (i+1))).2 by rw[eN]),rfl⟩,Zr,Zr,Zr,Tv⟩,⟨Zr,Zr,⟨(show HO.cells (Ae (DJ x[i]))=.cells (Ae (Bp (plc s.ver) s (x.take (i+1))).1) by rw[eN]),rfl⟩,Tv⟩,Fh,Tv⟩
    have Wd:¬(((Bp (plc s.ver) s (x.take i)).2:Int)=(1:Int)):=Wd;refine Xi ⟨[(3,.ref 3 0),(4,.ref 4 0),(6,vi (plc s.ver)),(8,.ref 8 0),(9,vi (Bp (plc s.ver) s (x.take i)).2),(33,sl Ah x),(34,vi (x.map Ah).length),(35,vi i)],[(3,.ro (Ae s)),(4,.cells [vs ⟨#[]⟩,vi 0,vi 0,vi 0]),(8,.cells (Ae (Bp (plc s.ver) s (x.take i)).1))],Aa⟩ (Yi ⟨Z8,Z3,Fh,Tv⟩ ?_)
    refine Yi (Ii i (by omega)) ?_;have eN:=Dx (here:=(plc s.ver)) (s:=s) n2;have e0:¬(x[i].path≠s.path∨x[i].yanked=true):=fun q=>q.elim (fun q=>q h4) (fun q=>by rw[h6]at q;cases q);have eS:Dy (plc s.ver) s (Bp (plc s.ver) s (x.take i)) x[i]=(Bp (plc s.ver) s (x.take i)):=(Ai e0).trans (Ai (by omega));rw[eS]at eN;refine Xi ⟨i+1,n2⟩ ?_;exact⟨Dl x.length i (by omega),⟨Zr,Zr,Zr,Zr,⟨(show vi (Bp (plc s.ver) s (x.take i)).2=vi (Bp (plc s.ver) s (x.take (i+1))).2 by rw[eN]),rfl⟩,Zr,Zr,Zr,Tv⟩,⟨Zr,Zr,⟨(show HO.cells (Ae (Bp (plc s.ver) s (x.take i)).1)=.cells (Ae (Bp (plc s.ver) s (x.take (i+1))).1) by rw[eN]),rfl⟩,Tv⟩,Fh,Tv⟩
   have pg:¬(((Ci (plc s.ver) s x[i]):Int)=(1:Int)):=pg;refine Xi ⟨[(3,.ref 3 0),(4,.ref 4 0),(6,vi (plc s.ver)),(8,.ref 8 0),(9,vi (Bp (plc s.ver) s (x.take i)).2),(33,sl Ah x),(34,vi (x.map Ah).length),(35,vi i)],[(3,.ro (Ae s)),(4,.cells [vs ⟨#[]⟩,vi 0,vi 0,vi 0]),(8,.cells (Ae (Bp (plc s.ver) s (x.take i)).1))],Aa⟩ (Yi ⟨Z8,Z3,Fh,Tv⟩ ?_)
   refine Yi (Ii i (by omega)) ?_;have eN:=Dx (here:=(plc s.ver)) (s:=s) n2;have e0:¬(x[i].path≠s.path∨x[i].yanked=true):=fun q=>q.elim (fun q=>q h4) (fun q=>by rw[h6]at q;cases q);have eS:Dy (plc s.ver) s (Bp (plc s.ver) s (x.take i)) x[i]=(Bp (plc s.ver) s (x.take i)):=(Ai e0).trans (Ai (by omega));rw[eS]at eN;refine Xi ⟨i+1,n2⟩ ?_;exact⟨Dl x.length i (by omega),⟨Zr,Zr,Zr,Zr,⟨(show vi (Bp (plc s.ver) s (x.take i)).2=vi (Bp (plc s.ver) s (x.take (i+1))).2 by rw[eN]),rfl⟩,Zr,Zr,Zr,Tv⟩,⟨Zr,Zr,⟨(show HO.cells (Ae (Bp (plc s.ver) s (x.take i)).1)=.cells (Ae (Bp (plc s.ver) s (x.take (i+1))).1) by rw[eN]),rfl⟩,Tv⟩,Fh,Tv⟩
  have h8:¬(((plc s.ver):Int)<((plc x[i].ver):Int)):=h8;refine Xi ⟨[(3,.ref 3 0),(4,.ref 4 0),(6,vi (plc s.ver)),(8,.ref 8 0),(9,vi (Bp (plc s.ver) s (x.take i)).2),(11,.ref 11 0),(12,vi (plc x[i].ver)),(14,vi 0),(33,sl Ah x),(34,vi (x.map Ah).length),(35,vi i)],[(3,.ro (Ae s)),(4,.cells [vs ⟨#[]⟩,vi 0,vi 0,vi 0]),(8,.cells (Ae (Bp (plc s.ver) s (x.take i)).1)),(11,.ro (Ah x[i]))],Aa⟩ (Yi ⟨Z11,Z4,Fh,Tv⟩ ?_)
  refine Yi (fun hf=>absurd hf h8) (fun _=>?_);refine Yi (fun dY=>?_) (fun dY=>?_)
  ·have dY:((plc x[i].ver):Int)<((plc s.ver):Int):=dY;have eW:Ci (plc s.ver) s x[i]=1:=by unfold Ci;rw[Ai (by omega),Ao (by omega)]
   refine Xi ⟨[(3,.ref 3 0),(4,.ref 4 0),(6,vi (plc s.ver)),(8,.ref 8 0),(9,vi (Bp (plc s.ver) s (x.take i)).2),(11,.ref 11 0),(14,vi (Ci (plc s.ver) s x[i])),(33,sl Ah x),(34,vi (x.map Ah).length),(35,vi i)],[(3,.ro (Ae s)),(4,.cells [vs ⟨#[]⟩,vi 0,vi 0,vi 0]),(8,.cells (Ae (Bp (plc s.ver) s (x.take i)).1)),(11,.ro (Ah x[i]))],Aa⟩ (Yi ⟨⟨Zr,Zr,Zr,Zr,Zr,Zr,⟨(show vi 1=vi (Ci (plc s.ver) s x[i]) by rw[eW]),rfl⟩,Zr,Zr,Zr,Tv⟩,Z4,Fh,Tv⟩ ?_)
   refine Yi (fun dZ=>?_) (fun dZ=>?_)
   ·have dZ:((Bp (plc s.ver) s (x.take i)).2:Int)<((Ci (plc s.ver) s x[i]):Int):=dZ;refine Xi ⟨[(3,.ref 3 0),(4,.ref 4 0),(6,vi (plc s.ver)),(8,.ref 8 0),(11,.ref 11 0),(14,vi (Ci (plc s.ver) s x[i])),(33,sl Ah x),(34,vi (x.map Ah).length),(35,vi i)],[(3,.ro (Ae s)),(4,.cells [vs ⟨#[]⟩,vi 0,vi 0,vi 0]),(8,.cells (Ae (Bp (plc s.ver) s (x.take i)).1)),(11,.ro (Ah x[i]))],Aa⟩ (Yi ⟨Z9,Z4,Fh,Tv⟩ ?_)
    refine Yi (Nz rfl) ?_;refine Xi .pure (Xi _ (Yi (QN x[i]) ?_));refine Yi (Nz rfl) ?_;refine Xi ⟨[(3,.ref 3 0),(4,.ref 4 0),(6,vi (plc s.ver)),(8,.ref 8 0),(9,vi (Ci (plc s.ver) s x[i])),(33,sl Ah x),(34,vi (x.map Ah).length),(35,vi i)],[(3,.ro (Ae s)),(4,.cells [vs ⟨#[]⟩,vi 0,vi 0,vi 0]),(8,.cells (Ae (DJ x[i])))],Aa⟩ (Yi ⟨Z8,Z3,Fh,Tv⟩ ?_)
    refine Yi (Ii i (by omega)) ?_;have eN:=Dx (here:=(plc s.ver)) (s:=s) n2;have e0:¬(x[i].path≠s.path∨x[i].yanked=true):=fun q=>q.elim (fun q=>q h4) (fun q=>by rw[h6]at q;cases q);have eS:Dy (plc s.ver) s (Bp (plc s.ver) s (x.take i)) x[i]=(DJ x[i],Ci (plc s.ver) s x[i]):=(Ai e0).trans (Ao (by omega));rw[eS]at eN;refine Xi ⟨i+1,n2⟩ ?_;exact⟨Dl x.length i (by omega),⟨Zr,Zr,Zr,Zr,⟨(show vi (Ci (plc s.ver) s x[i])=vi (Bp (plc s.ver) s (x.take (i+1))).2 by rw[eN]),rfl⟩,Zr,Zr,Zr,Tv⟩,⟨Zr,Zr,⟨(show HO.cells (Ae (DJ x[i]))=.cells (Ae (Bp (plc s.ver) s (x.take (i+1))).1) by rw[eN]),rfl⟩,Tv⟩,Fh,Tv⟩
   have dZ:¬(((Bp (plc s.ver) s (x.take i)).2:Int)<((Ci (plc s.ver) s x[i]):Int)):=dZ;refine Yi (fun Pe=>?_) (fun Pe=>?_)
   ·have Pe:((Ci (plc s.ver) s x[i]):Int)=(1:Int):=Pe;refine Yi (fun kB=>?_) (fun kB=>?_)
    ·have kB:((Bp (plc s.ver) s (x.take i)).2:Int)=(1:Int):=kB;refine Xi ⟨[(3,.ref 3 0),(4,.ref 4 0),(6,vi (plc s.ver)),(8,.ref 8 0),(11,.ref 11 0),(14,vi (Ci (plc s.ver) s x[i])),(33,sl Ah x),(34,vi (x.map Ah).length),(35,vi i)],[(3,.ro (Ae s)),(4,.cells [vs ⟨#[]⟩,vi 0,vi 0,vi 0]),(8,.cells (Ae (Bp (plc s.ver) s (x.take i)).1)),(11,.ro (Ah x[i]))],Aa⟩ (Yi ⟨Z9,Z4,Fh,Tv⟩ ?_)
     refine Yi (Nz rfl) ?_;refine Xi .pure (Xi _ (Yi (QN x[i]) ?_));refine Yi (Nz rfl) ?_;refine Xi ⟨[(3,.ref 3 0),(4,.ref 4 0),(6,vi (plc s.ver)),(8,.ref 8 0),(9,vi (Ci (plc s.ver) s x[i])),(33,sl Ah x),(34,vi (x.map Ah).length),(35,vi i)],[(3,.ro (Ae s)),(4,.cells [vs ⟨#[]⟩,vi 0,vi 0,vi 0]),(8,.cells (Ae (DJ x[i])))],Aa⟩ (Yi ⟨Z8,Z3,Fh,Tv⟩ ?_)
     refine Yi (Ii i (by omega)) ?_;have eN:=Dx (here:=(plc s.ver)) (s:=s) n2;have e0:¬(x[i].path≠s.path∨x[i].yanked=true):=fun q=>q.elim (fun q=>q h4) (fun q=>by rw[h6]at q;cases q);have eS:Dy (plc s.ver) s (Bp (plc s.ver) s (x.take i)) x[i]=(DJ x[i],Ci (plc s.ver) s x[i]):=(Ai e0).trans (Ao (by omega));rw[eS]at eN;refine Xi ⟨i+1,n2⟩ ?_;exact⟨Dl x.length i (by omega),⟨Zr,Zr,Zr,Zr,⟨(show vi (Ci (plc s.ver) s x[i])=vi (Bp (plc s.ver) s (x.take (i+1))).2 by rw[eN]),rfl⟩,Zr,Zr,Zr,Tv⟩,⟨Zr,Zr,⟨(show HO.cells (Ae (DJ x[i]))=.cells (Ae (Bp (plc s.ver) s (x.take (i+1))).1) by rw[eN]),rfl⟩,Tv⟩,Fh,Tv⟩
    have kB:¬(((Bp (plc s.ver) s (x.take i)).2:Int)=(1:Int)):=kB;refine Xi ⟨[(3,.ref 3 0),(4,.ref 4 0),(6,vi (plc s.ver)),(8,.ref 8 0),(9,vi (Bp (plc s.ver) s (x.take i)).2),(33,sl Ah x),(34,vi (x.map Ah).length),(35,vi i)],[(3,.ro (Ae s)),(4,.cells [vs ⟨#[]⟩,vi 0,vi 0,vi 0]),(8,.cells (Ae (Bp (plc s.ver) s (x.take i)).1))],Aa⟩ (Yi ⟨Z8,Z3,Fh,Tv⟩ ?_)
    refine Yi (Ii i (by omega)) ?_;have eN:=Dx (here:=(plc s.ver)) (s:=s) n2;have e0:¬(x[i].path≠s.path∨x[i].yanked=true):=fun q=>q.elim (fun q=>q h4) (fun q=>by rw[h6]at q;cases q);have eS:Dy (plc s.ver) s (Bp (plc s.ver) s (x.take i)) x[i]=(Bp (plc s.ver) s (x.take i)):=(Ai e0).trans (Ai (by omega));rw[eS]at eN;refine Xi ⟨i+1,n2⟩ ?_;exact⟨Dl x.length i (by omega),⟨Zr,Zr,Zr,Zr,⟨(show vi (Bp (plc s.ver) s (x.take i)).2=vi (Bp (plc s.ver) s (x.take (i+1))).2 by rw[eN]),rfl⟩,Zr,Zr,Zr,Tv⟩,⟨Zr,Zr,⟨(show HO.cells (Ae (Bp (plc s.ver) s (x.take i)).1)=.cells (Ae (Bp (plc s.ver) s (x.take (i+1))).1) by rw[eN]),rfl⟩,Tv⟩,Fh,Tv⟩
   have Pe:¬(((Ci (plc s.ver) s x[i]):Int)=(1:Int)):=Pe;refine Xi ⟨[(3,.ref 3 0),(4,.ref 4 0),(6,vi (plc s.ver)),(8,.ref 8 0),(9,vi (Bp (plc s.ver) s (x.take i)).2),(33,sl Ah x),(34,vi (x.map Ah).length),(35,vi i)],[(3,.ro (Ae s)),(4,.cells [vs ⟨#[]⟩,vi 0,vi 0,vi 0]),(8,.cells (Ae (Bp (plc s.ver) s (x.take i)).1))],Aa⟩ (Yi ⟨Z8,Z3,Fh,Tv⟩ ?_)
   refine Yi (Ii i (by omega)) ?_;have eN:=Dx (here:=(plc s.ver)) (s:=s) n2;have e0:¬(x[i].path≠s.path∨x[i].yanked=true):=fun q=>q.elim (fun q=>q h4) (fun q=>by rw[h6]at q;cases q);have eS:Dy (plc s.ver) s (Bp (plc s.ver) s (x.take i)) x[i]=(Bp (plc s.ver) s (x.take i)):=(Ai e0).trans (Ai (by omega));rw[eS]at eN;refine Xi ⟨i+1,n2⟩ ?_;exact⟨Dl x.length i (by omega),⟨Zr,Zr,Zr,Zr,⟨(show vi (Bp (plc s.ver) s (x.take i)).2=vi (Bp (plc s.ver) s (x.take (i+1))).2 by rw[eN]),rfl⟩,Zr,Zr,Zr,Tv⟩,⟨Zr,Zr,⟨(show HO.cells (Ae (Bp (plc s.ver) s (x.take i)).1)=.cells (Ae (Bp (plc s.ver) s (x.take (i+1))).1) by rw[eN]),rfl⟩,Tv⟩,Fh,Tv⟩
  have dY:¬(((plc x[i].ver):Int)<((plc s.ver):Int)):=dY;have eW:Ci (plc s.ver) s x[i]=0:=by unfold Ci;rw[Ai (by omega),Ai (by omega)]
  refine Xi ⟨[(3,.ref 3 0),(4,.ref 4 0),(6,vi (plc s.ver)),(8,.ref 8 0),(9,vi (Bp (plc s.ver) s (x.take i)).2),(11,.ref 11 0),(14,vi (Ci (plc s.ver) s x[i])),(33,sl Ah x),(34,vi (x.map Ah).length),(35,vi i)],[(3,.ro (Ae s)),(4,.cells [vs ⟨#[]⟩,vi 0,vi 0,vi 0]),(8,.cells (Ae (Bp (plc s.ver) s (x.take i)).1)),(11,.ro (Ah x[i]))],Aa⟩ (Yi ⟨⟨Zr,Zr,Zr,Zr,Zr,Zr,⟨(show vi 0=vi (Ci (plc s.ver) s x[i]) by rw[eW]),rfl⟩,Zr,Zr,Zr,Tv⟩,Z4,Fh,Tv⟩ ?_)
  refine Yi (fun d4=>?_) (fun d4=>?_)
  ·have d4:((Bp (plc s.ver) s (x.take i)).2:Int)<((Ci (plc s.ver) s x[i]):Int):=d4;refine Xi ⟨[(3,.ref 3 0),(4,.ref 4 0),(6,vi (plc s.ver)),(8,.ref 8 0),(11,.ref 11 0),(14,vi (Ci (plc s.ver) s x[i])),(33,sl Ah x),(34,vi (x.map Ah).length),(35,vi i)],[(3,.ro (Ae s)),(4,.cells [vs ⟨#[]⟩,vi 0,vi 0,vi 0]),(8,.cells (Ae (Bp (plc s.ver) s (x.take i)).1)),(11,.ro (Ah x[i]))],Aa⟩ (Yi ⟨Z9,Z4,Fh,Tv⟩ ?_)
   refine Yi (Nz rfl) ?_;refine Xi .pure (Xi _ (Yi (QN x[i]) ?_));refine Yi (Nz rfl) ?_;refine Xi ⟨[(3,.ref 3 0),(4,.ref 4 0),(6,vi (plc s.ver)),(8,.ref 8 0),(9,vi (Ci (plc s.ver) s x[i])),(33,sl Ah x),(34,vi (x.map Ah).length),(35,vi i)],[(3,.ro (Ae s)),(4,.cells [vs ⟨#[]⟩,vi 0,vi 0,vi 0]),(8,.cells (Ae (DJ x[i])))],Aa⟩ (Yi ⟨Z8,Z3,Fh,Tv⟩ ?_)
   refine Yi (Ii i (by omega)) ?_;have eN:=Dx (here:=(plc s.ver)) (s:=s) n2;have e0:¬(x[i].path≠s.path∨x[i].yanked=true):=fun q=>q.elim (fun q=>q h4) (fun q=>by rw[h6]at q;cases q);have eS:Dy (plc s.ver) s (Bp (plc s.ver) s (x.take i)) x[i]=(DJ x[i],Ci (plc s.ver) s x[i]):=(Ai e0).trans (Ao (by omega));rw[eS]at eN;refine Xi ⟨i+1,n2⟩ ?_;exact⟨Dl x.length i (by omega),⟨Zr,Zr,Zr,Zr,⟨(show vi (Ci (plc s.ver) s x[i])=vi (Bp (plc s.ver) s (x.take (i+1))).2 by rw[eN]),rfl⟩,Zr,Zr,Zr,Tv⟩,⟨Zr,Zr,⟨(show HO.cells (Ae (DJ x[i]))=.cells (Ae (Bp (plc s.ver) s (x.take (i+1))).1) by rw[eN]),rfl⟩,Tv⟩,Fh,Tv⟩
  have d4:¬(((Bp (plc s.ver) s (x.take i)).2:Int)<((Ci (plc s.ver) s x[i]):Int)):=d4;refine Yi (fun pi=>?_) (fun pi=>?_)
  ·have pi:((Ci (plc s.ver) s x[i]):Int)=(1:Int):=pi;refine Yi (fun Yr=>?_) (fun Yr=>?_)
   ·have Yr:((Bp (plc s.ver) s (x.take i)).2:Int)=(1:Int):=Yr;refine Xi ⟨[(3,.ref 3 0),(4,.ref 4 0),(6,vi (plc s.ver)),(8,.ref 8 0),(11,.ref 11 0),(14,vi (Ci (plc s.ver) s x[i])),(33,sl Ah x),(34,vi (x.map Ah).length),(35,vi i)],[(3,.ro (Ae s)),(4,.cells [vs ⟨#[]⟩,vi 0,vi 0,vi 0]),(8,.cells (Ae (Bp (plc s.ver) s (x.take i)).1)),(11,.ro (Ah x[i]))],Aa⟩ (Yi ⟨Z9,Z4,Fh,Tv⟩ ?_)
    refine Yi (Nz rfl) ?_;refine Xi .pure (Xi _ (Yi (QN x[i]) ?_));refine Yi (Nz rfl) ?_;refine Xi ⟨[(3,.ref 3 0),(4,.ref 4 0),(6,vi (plc s.ver)),(8,.ref 8 0),(9,vi (Ci (plc s.ver) s x[i])),(33,sl Ah x),(34,vi (x.map Ah).length),(35,vi i)],[(3,.ro (Ae s)),(4,.cells [vs ⟨#[]⟩,vi 0,vi 0,vi 0]),(8,.cells (Ae (DJ x[i])))],Aa⟩ (Yi ⟨Z8,Z3,Fh,Tv⟩ ?_)
    refine Yi (Ii i (by omega)) ?_;have eN:=Dx (here:=(plc s.ver)) (s:=s) n2;have e0:¬(x[i].path≠s.path∨x[i].yanked=true):=fun q=>q.elim (fun q=>q h4) (fun q=>by rw[h6]at q;cases q);have eS:Dy (plc s.ver) s (Bp (plc s.ver) s (x.take i)) x[i]=(DJ x[i],Ci (plc s.ver) s x[i]):=(Ai e0).trans (Ao (by omega));rw[eS]at eN;refine Xi ⟨i+1,n2⟩ ?_;exact⟨Dl x.length i (by omega),⟨Zr,Zr,Zr,Zr,⟨(show vi (Ci (plc s.ver) s x[i])=vi (Bp (plc s.ver) s (x.take (i+1))).2 by rw[eN]),rfl⟩,Zr,Zr,Zr,Tv⟩,⟨Zr,Zr,⟨(show HO.cells (Ae (DJ x[i]))=.cells (Ae (Bp (plc s.ver) s (x.take (i+1))).1) by rw[eN]),rfl⟩,Tv⟩,Fh,Tv⟩
   have Yr:¬(((Bp (plc s.ver) s (x.take i)).2:Int)=(1:Int)):=Yr;refine Xi ⟨[(3,.ref 3 0),(4,.ref 4 0),(6,vi (plc s.ver)),(8,.ref 8 0),(9,vi (Bp (plc s.ver) s (x.take i)).2),(33,sl Ah x),(34,vi (x.map Ah).length),(35,vi i)],[(3,.ro (Ae s)),(4,.cells [vs ⟨#[]⟩,vi 0,vi 0,vi 0]),(8,.cells (Ae (Bp (plc s.ver) s (x.take i)).1))],Aa⟩ (Yi ⟨Z8,Z3,Fh,Tv⟩ ?_)
   refine Yi (Ii i (by omega)) ?_;have eN:=Dx (here:=(plc s.ver)) (s:=s) n2;have e0:¬(x[i].path≠s.path∨x[i].yanked=true):=fun q=>q.elim (fun q=>q h4) (fun q=>by rw[h6]at q;cases q);have eS:Dy (plc s.ver) s (Bp (plc s.ver) s (x.take i)) x[i]=(Bp (plc s.ver) s (x.take i)):=(Ai e0).trans (Ai (by omega));rw[eS]at eN;refine Xi ⟨i+1,n2⟩ ?_;exact⟨Dl x.length i (by omega),⟨Zr,Zr,Zr,Zr,⟨(show vi (Bp (plc s.ver) s (x.take i)).2=vi (Bp (plc s.ver) s (x.take (i+1))).2 by rw[eN]),rfl⟩,Zr,Zr,Zr,Tv⟩,⟨Zr,Zr,⟨(show HO.cells (Ae (Bp (plc s.ver) s (x.take i)).1)=.cells (Ae (Bp (plc s.ver) s (x.take (i+1))).1) by rw[eN]),rfl⟩,Tv⟩,Fh,Tv⟩
  have pi:¬(((Ci (plc s.ver) s x[i]):Int)=(1:Int)):=pi;refine Xi ⟨[(3,.ref 3 0),(4,.ref 4 0),(6,vi (plc s.ver)),(8,.ref 8 0),(9,vi (Bp (plc s.ver) s (x.take i)).2),(33,sl Ah x),(34,vi (x.map Ah).length),(35,vi i)],[(3,.ro (Ae s)),(4,.cells [vs ⟨#[]⟩,vi 0,vi 0,vi 0]),(8,.cells (Ae (Bp (plc s.ver) s (x.take i)).1))],Aa⟩ (Yi ⟨Z8,Z3,Fh,Tv⟩ ?_)
  refine Yi (Ii i (by omega)) ?_;have eN:=Dx (here:=(plc s.ver)) (s:=s) n2;have e0:¬(x[i].path≠s.path∨x[i].yanked=true):=fun q=>q.elim (fun q=>q h4) (fun q=>by rw[h6]at q;cases q);have eS:Dy (plc s.ver) s (Bp (plc s.ver) s (x.take i)) x[i]=(Bp (plc s.ver) s (x.take i)):=(Ai e0).trans (Ai (by omega));rw[eS]at eN;refine Xi ⟨i+1,n2⟩ ?_;exact⟨Dl x.length i (by omega),⟨Zr,Zr,Zr,Zr,⟨(show vi (Bp (plc s.ver) s (x.take i)).2=vi (Bp (plc s.ver) s (x.take (i+1))).2 by rw[eN]),rfl⟩,Zr,Zr,Zr,Tv⟩,⟨Zr,Zr,⟨(show HO.cells (Ae (Bp (plc s.ver) s (x.take i)).1)=.cells (Ae (Bp (plc s.ver) s (x.take (i+1))).1) by rw[eN]),rfl⟩,Tv⟩,Fh,Tv⟩
 have h2:¬((i:Int)<((x.map Ah).length:Int)):=h2;have n2:=MA h2;refine Yi (fun i7=>?_) (fun i7=>?_)
 ·have i7:((Bp (plc s.ver) s (x.take i)).2:Int)=(0:Int):=i7;refine Yi (Nz rfl) ?_;refine Yi (Nz rfl) ?_;have ei:x.take i=x:=AD (by omega);have eE:Ip x s=if(Bp (plc s.ver) s x).2=0 then 6 else 0:=Ai hv
  have hz:=i7;rw[ei]at hz;exact .of_eq (show AV.tup [.agg (Ae ll),vi 6]=.tup [.agg (Ae (Cf x s)),vi (Ip x s)] by rw[Cf,eE,Ao hz];rfl)
 have i7:¬(((Bp (plc s.ver) s (x.take i)).2:Int)=(0:Int)):=i7;refine Yi (Nz rfl) ?_;refine Yi (Nz rfl) ?_;refine Yi (Nz rfl) ?_;have ei:x.take i=x:=AD (by omega);have eE:Ip x s=if(Bp (plc s.ver) s x).2=0 then 6 else 0:=Ai hv
 have hz:=i7;rw[ei]at hz;exact .of_eq (show AV.tup [.agg (Ae (Bp (plc s.ver) s (x.take i)).1),vi 0]=.tup [.agg (Ae (Cf x s)),vi (Ip x s)] by rw[ei,Cf,eE,Ai hz];rfl)
theorem q9(x:List Rl)(ifs:List (List AV))(s:Sl)(hl:CU x)(k:Int)(QE:k≠0)(hE:Ip x s=1)(hk:PC 37 [Hr x ifs] (vi k)):PC 14 [.agg (Ic x ifs),.agg (Ae s)] (.tup [.agg (Ae (Cf x s)),vi (Ip x s)]):=by
 have hl:x.length≤1073741824:=hl;refine Ps ⟨[2,3,11],[],[],[],[],[],[],[],[],[],[2,3,5,9,12,13,17,18,19]⟩ Tryz.func14 rfl (Nz rfl) ?_;refine Yi (Nz rfl) ?_;refine Xi .pure (Xi _ (Yi hk ?_));refine Yi (fun h1=>?_) (fun h1=>?_)
 ·have h1:(k:Int)≠(0:Int):=h1;refine Xi ⟨[(4,.ref 4 0)],[(4,.cells [vs ⟨#[]⟩,vi 0,vi 0,vi 0])],Aa⟩ (Yi ⟨Z1,Z1,Fh,Tv⟩ ?_)
  refine Yi (Nz rfl) ?_;refine Yi (Nz rfl) ?_;exact .of_eq (show AV.tup [.agg (Ae ll),vi 1]=.tup [.agg (Ae (Cf x s)),vi (Ip x s)] by rw[Cf,show Ip x s=1 from hE];rfl)
 have h1:(k:Int)=(0:Int):=AS h1;exact absurd h1 QE
theorem ra(x:List Rl)(ifs:List (List AV))(s:Sl)(hl:CU x)(k:Int)(QE:k=0)(hE:Ip x s=1)(hk:PC 37 [Hr x ifs] (vi k))(hV:PC 38 [.agg (FW s.ver)] (vb false)):PC 14 [.agg (Ic x ifs),.agg (Ae s)] (.tup [.agg (Ae (Cf x s)),vi (Ip x s)]):=by
 have hl:x.length≤1073741824:=hl;refine Ps ⟨[2,3,11],[],[],[],[],[],[],[],[],[],[2,3,5,9,12,13,17,18,19]⟩ Tryz.func14 rfl (Nz rfl) ?_;refine Yi (Nz rfl) ?_;refine Xi .pure (Xi _ (Yi hk ?_));refine Yi (fun h1=>?_) (fun h1=>?_)
 ·have h1:(k:Int)≠(0:Int):=h1;exact absurd QE h1
 have h1:(k:Int)=(0:Int):=AS h1;refine Yi (Nz rfl) ?_;refine Xi .pure (Xi _ (Yi hV ?_));refine Xi ⟨[(4,.ref 4 0)],[(4,.cells [vs ⟨#[]⟩,vi 0,vi 0,vi 0])],Aa⟩ (Yi ⟨Z1,Z1,Fh,Tv⟩ ?_)
 refine Yi (Nz rfl) ?_;refine Yi (Nz rfl) ?_;exact .of_eq (show AV.tup [.agg (Ae ll),vi 1]=.tup [.agg (Ae (Cf x s)),vi (Ip x s)] by rw[Cf,show Ip x s=1 from hE];rfl)
theorem nC{x:List Rl}(ifs:List (List AV))(s:Sl)(h:NG x):PC 14 [Hr x ifs,.agg (Ae s)] (.tup [.agg (Ae (Cf x s)),vi (Ip x s)]):=by
 have hk:=ks Vj x ifs h.few;have hl:CU x:=Br h.len (by decide);have hV:=lJ s.ver
 by_cases h0:AX x=0
 ·cases hv:B8 s.ver with
  |true =>
   rw[hv]at hV;exact rb x ifs s hl _ h0 (fun q=>q.elim (fun q=>q h0) (fun q=>by rw[hv]at q;cases q)) hk hV (rj s.ver)
  |false =>
   rw[hv]at hV;exact ra x ifs s hl _ h0 (Ao (.inr hv)) hk hV
 ·exact q9 x ifs s hl _ h0 (Ao (.inl h0)) hk
abbrev vy(b c:Int):Ver:=⟨1,b,c⟩
abbrev sy(b c:Int):Sl:=⟨pb,vy b c⟩
abbrev ry(b c:Int)(y:Bool):Rl:=⟨pb,vy b c,[],mt,mt,mt,y⟩
abbrev QM:List Rl:=[ry 0 0 false,ry 1 0 false,ry 1 2 true,ry 2 0 false]
abbrev rk:List Rl:=[ry 0 0 false,ry 1 0 false,ry 1 2 false,ry 2 0 false]
abbrev sa:List Rl:=[ry 0 0 false,ry 1 0 true,ry 1 2 true,ry 2 0 false]
abbrev gu:List Rq:=[⟨pb,[(1000,1000000)]⟩]
abbrev qv:List Mv:=[⟨pb,1000,2000⟩]
abbrev XM(b c:Int)(y:Bool):List AV:=[vs pb,vi 1,vi b,vi c,.v (.slice none 0 0),vs mt,vs mt,vs mt,vb y]
abbrev gZ:List AV:=[.slice .none [XM 0 0 false,XM 1 0 false,XM 1 2 true,XM 2 0 false],.v (.slice none 0 0)]
theorem Rb:Hf (.agg gZ) (Hr QM []) :=
 have h (b c:Int) (y:Bool):OS (XM b c y) (Ah (ry b c y)):=⟨.refl _,.refl _,.refl _,.refl _,.nil,.refl _,.refl _,.refl _,.refl _,trivial⟩
 Hf.agg ⟨Hf.slice ⟨h 0 0 false,h 1 0 false,h 1 2 true,h 2 0 false,trivial⟩,.nil,trivial⟩
theorem dG(f:Int→Int→Bool):NG [ry 0 0 (f 0 0),ry 1 0 (f 1 0),ry 1 2 (f 1 2),ry 2 0 (f 2 0)] :=
 have h:HF pb:=by decide
 ⟨show 4≤16 by decide,CW.2 ⟨⟨h,Dh _⟩,CW.2 ⟨⟨h,Dh _⟩,CW.2 ⟨⟨h,Dh _⟩,CW.2 ⟨⟨h,Dh _⟩,Dh _⟩⟩⟩⟩⟩
theorem nl(f:Int→Int→Bool):∀r∈[ry 0 0 (f 0 0),ry 1 0 (f 1 0),ry 1 2 (f 1 2),ry 2 0 (f 2 0)],r.reqs.length≤1000 :=
 CW.2 ⟨AO _,CW.2 ⟨AO _,CW.2 ⟨AO _,CW.2 ⟨AO _,Dh _⟩⟩⟩⟩
theorem Q0(b:Int)(h:B8 (vy b 0)=true):Lr [sy b 0]:=⟨show 1≤1073741824 by decide,CW.2 ⟨h,Dh _⟩,.cons (Dh _) .nil⟩
theorem To(b c:Int):PC 31 [vi b,vi c] (.agg (Ae (sy b c))):=by
 refine Ps ⟨[],[],[],[],[],[],[],[],[],[],[]⟩ Tryz.func31 rfl (Nz rfl) ?_;refine Yi (Nz rfl) ?_;refine Yi (Nz rfl) ?_;exact .refl _
theorem rc(s:Sl):PC 32 [.agg (Ae s),vb true] (.agg [vs s.path,vi s.ver.a,vi s.ver.b,vi s.ver.c,.v (.slice none 0 0),vs ⟨#[]⟩,vs ⟨#[]⟩,vs ⟨#[]⟩,vb true]):=by
 refine Ps ⟨[2],[],[],[],[],[],[],[],[],[],[]⟩ Tryz.func32 rfl (Nz rfl) ?_;refine Yi (Nz rfl) ?_;refine Yi (Nz rfl) ?_;refine Yi (Nz rfl) ?_;exact .refl _
theorem g9(s:Sl):PC 32 [.agg (Ae s),vb false] (.agg [vs s.path,vi s.ver.a,vi s.ver.b,vi s.ver.c,.v (.slice none 0 0),vs ⟨#[]⟩,vs ⟨#[]⟩,vs ⟨#[]⟩,vb false]):=by
 refine Ps ⟨[2],[],[],[],[],[],[],[],[],[],[]⟩ Tryz.func32 rfl (Nz rfl) ?_;refine Yi (Nz rfl) ?_;refine Yi (Nz rfl) ?_;refine Yi (Nz rfl) ?_;exact .refl _
theorem yk9  : PC 9 [] (vb true):=by
 have hq:∀q∈gu,NH q:=CW.2 ⟨⟨by decide,by decide⟩,Dh _⟩;have hcl:=zL [] (by decide) (Dh _);have fx:NG QM:=dG fun b c=>b == 1&&c == 2;have fz:NG rk:=dG fun _ _=>false;have rx:∀r∈QM,r.reqs.length≤1000:=nl fun b c=>b == 1&&c == 2;have fw:NG sa:=dG fun b c=>b == 1;have dX:=(nC [] (sy 1 0) fx).args (args':=[.agg gZ,.agg (Ae (sy 1 0))]) ⟨Rb,.refl _,trivial⟩;rw[show Cf QM (sy 1 0)=sy 2 0 by kernel_rfl,show Ip QM (sy 1 0)=0 by kernel_rfl]at dX;have g14:=nC [] (sy 1 0) fz;rw[show Cf rk (sy 1 0)=sy 1 2 by kernel_rfl,show Ip rk (sy 1 0)=0 by kernel_rfl]at g14;have Yq:=(wm QM [] (sy 1 2) (rd [] (sy 1 2) fx rx hcl)).args (args':=[.agg gZ,.agg (Ae (sy 1 2))]) ⟨Rb,.refl _,trivial⟩;rw[show LX QM [] (sy 1 2) false=.tup [Hr rk [],vi 0] by rw[VU (show GG QM (sy 1 2) false=0 by kernel_rfl)];kernel_rfl]at Yq;have Na:=wl QM [] (sy 1 0) (re [] (sy 1 0) fx rx hcl);have mL:Kv QM gu=[sy 1 0]:=by kernel_rfl
 have tY:HI QM gu=0:=by kernel_rfl
 have hw:HJ QM (sy 1 0) true=sa:=by kernel_rfl
 have jn:Kv sa gu=[sy 2 0]:=by kernel_rfl
 have cM:HI sa gu=0:=by kernel_rfl
 have rv:=zM [sy 1 0] [sy 2 0] [pb,pb] (Q0 1 (by kernel_rfl)) (Q0 2 (by kernel_rfl)) (by decide) (by decide) (.refl _) (by decide);rw[fG (t:=[pb,pb]) (Q0 1 (by kernel_rfl)) (Q0 2 (by kernel_rfl)) (.refl _) (by decide)]at rv;have kB:=(wq QM [] gu (sy 1 0) Na (xP QM [] gu fx.few hq) (xP (HJ QM (sy 1 0) true) _ gu (by rw[hw];exact fw.few) hq) (fun _ _ _=>by rw[mL,hw,jn];exact rv)).args (args':=[.agg gZ,sl AN gu,.agg (Ae (sy 1 0))]) ⟨Rb,.refl _,.refl _,trivial⟩;have eE:My QM gu (sy 1 0)=0:=by
  unfold My;rw[Ai (fun h=>h (show GG QM (sy 1 0) true=0 by kernel_rfl)),Ai (fun h=>h tY),hw,Ai (fun h=>h cM)]
 have eA:M5 QM gu (sy 1 0)=qv:=by
  unfold M5;rw[Ao eE,mL,hw,jn];unfold rm;unfold rm;kernel_rfl
 rw[eA,eE]at kB;have hl:CU [sy 1 2]:=by decide
 have ky:=(wo QM [] [sy 1 2] hl (ws QM [] _ hl (ks Vj QM [] fx.few)) (fun z=>wx QM [] z.path z.ver (c84 QM [] fx.few) fx.few)).args (args':=[.agg gZ,sl Ae [sy 1 2]]) ⟨Rb,.refl _,trivial⟩;rw[show Tn QM [sy 1 2]=[sy 1 2] by kernel_rfl,show JA QM [sy 1 2]=0 by kernel_rfl]at ky;have cK:=zK qv qv (by decide);rw[AE rfl]at cK;refine Ps ⟨[3],[],[],[],[],[],[],[],[],[],[4,5,6,7,8,9]⟩ Tryz.func9 rfl (Nz rfl) ?_;refine Xi .pure (Xi _ (Yi (To 0 0) ?_));refine Xi .pure (Xi _ (Yi (g9 (sy 0 0)) ?_));refine Xi .pure (Xi _ (Yi (To 1 0) ?_));refine Xi .pure (Xi _ (Yi (g9 (sy 1 0)) ?_));refine Xi .pure (Xi _ (Yi (To 1 2) ?_));refine Xi .pure (Xi _ (Yi (rc (sy 1 2)) ?_));refine Xi .pure (Xi _ (Yi (To 2 0) ?_));refine Xi .pure (Xi _ (Yi (g9 (sy 2 0)) ?_));refine Yi (Nz rfl) ?_;refine Xi ⟨[(1,.v (.func (.func 31) #[] #[])),(3,.ref 3 0)],[(3,.ro [.slice .none [[vs pb,vi 1,vi 0,vi 0,.v (.slice none 0 0),vs mt,vs mt,vs mt,vb false],[vs pb,vi 1,vi 1,vi 0,.v (.slice none 0 0),vs mt,vs mt,vs mt,vb false],[vs pb,vi 1,vi 1,vi 2,.v (.slice none 0 0),vs mt,vs mt,vs mt,vb true],[vs pb,vi 1,vi 2,vi 0,.v (.slice none 0 0),vs mt,vs mt,vs mt,vb false]],.v (.slice none 0 0)])],Aa⟩ (Yi ⟨Z2,Z1,Fh,Tv⟩ ?_)
 refine Yi (Nz rfl) ?_;refine Xi _ (Yi (To 1 0) ?_);refine Xi _ (Yi dX ?_);refine Yi (Nz rfl) ?_;refine Yi (by kernel_rfl) ?_;refine Xi ⟨[(1,.v (.func (.func 31) #[] #[])),(3,.ref 3 0),(4,.ref 4 0),(5,vi 0)],[(3,.ro [.slice .none [[vs pb,vi 1,vi 0,vi 0,.v (.slice none 0 0),vs mt,vs mt,vs mt,vb false],[vs pb,vi 1,vi 1,vi 0,.v (.slice none 0 0),vs mt,vs mt,vs mt,vb false],[vs pb,vi 1,vi 1,vi 2,.v (.slice none 0 0),vs mt,vs mt,vs mt,vb true],[vs pb,vi 1,vi 2,vi 0,.v (.slice none 0 0),vs mt,vs mt,vs mt,vb false]],.v (.slice none 0 0)]),(4,.cells (Ae (sy 2 0)))],Aa⟩ (Yi ⟨Z4,Z2,Fh,Tv⟩ ?_)
 refine Yi (Nz rfl) ?_;refine Xi _ (Yi (To 1 2) ?_);refine Xi _ (Yi Yq ?_);refine Yi (Nz rfl) ?_;refine Yi (by kernel_rfl) ?_;refine Xi ⟨[(1,.v (.func (.func 31) #[] #[])),(3,.ref 3 0),(4,.ref 4 0),(5,vi 0),(6,.ref 6 0),(7,vi 0)],[(3,.ro [.slice .none [[vs pb,vi 1,vi 0,vi 0,.v (.slice none 0 0),vs mt,vs mt,vs mt,vb false],[vs pb,vi 1,vi 1,vi 0,.v (.slice none 0 0),vs mt,vs mt,vs mt,vb false],[vs pb,vi 1,vi 1,vi 2,.v (.slice none 0 0),vs mt,vs mt,vs mt,vb true],[vs pb,vi 1,vi 2,vi 0,.v (.slice none 0 0),vs mt,vs mt,vs mt,vb false]],.v (.slice none 0 0)]),(4,.cells (Ae (sy 2 0))),(6,.cells [sl Ah rk,.slice .none []])],Aa⟩ (Yi ⟨Z6,Z3,Fh,Tv⟩ ?_)
 refine Yi (Nz rfl) ?_;refine Xi _ (Yi (To 1 0) ?_);refine Xi _ (Yi g14 ?_);refine Yi (Nz rfl) ?_;refine Yi (by kernel_rfl) ?_;refine Xi ⟨[(1,.v (.func (.func 31) #[] #[])),(3,.ref 3 0),(4,.ref 4 0),(5,vi 0),(7,vi 0),(8,.ref 8 0),(9,vi 0)],[(3,.ro [.slice .none [[vs pb,vi 1,vi 0,vi 0,.v (.slice none 0 0),vs mt,vs mt,vs mt,vb false],[vs pb,vi 1,vi 1,vi 0,.v (.slice none 0 0),vs mt,vs mt,vs mt,vb false],[vs pb,vi 1,vi 1,vi 2,.v (.slice none 0 0),vs mt,vs mt,vs mt,vb true],[vs pb,vi 1,vi 2,vi 0,.v (.slice none 0 0),vs mt,vs mt,vs mt,vb false]],.v (.slice none 0 0)]),(4,.cells (Ae (sy 2 0))),(8,.cells (Ae (sy 1 2)))],Aa⟩ (Yi ⟨Z7,Z3,Fh,Tv⟩ ?_)
 refine Yi (Nz rfl) ?_;refine Xi _ (Yi (To 1 0) ?_);refine Xi _ (Yi kB ?_);refine Yi (by kernel_rfl) ?_;refine Xi ⟨[(1,.v (.func (.func 31) #[] #[])),(3,.ref 3 0),(4,.ref 4 0),(5,vi 0),(7,vi 0),(8,.ref 8 0),(9,vi 0),(10,sl DQ qv),(11,vi 0)],[(3,.ro [.slice .none [[vs pb,vi 1,vi 0,vi 0,.v (.slice none 0 0),vs mt,vs mt,vs mt,vb false],[vs pb,vi 1,vi 1,vi 0,.v (.slice none 0 0),vs mt,vs mt,vs mt,vb false],[vs pb,vi 1,vi 1,vi 2,.v (.slice none 0 0),vs mt,vs mt,vs mt,vb true],[vs pb,vi 1,vi 2,vi 0,.v (.slice none 0 0),vs mt,vs mt,vs mt,vb false]],.v (.slice none 0 0)]),(4,.cells (Ae (sy 2 0))),(8,.cells (Ae (sy 1 2)))],Aa⟩ (Yi ⟨Z9,Z3,Fh,Tv⟩ ?_)
 refine Yi (Nz rfl) ?_;refine Xi _ (Yi (To 1 2) ?_);refine Xi _ (Yi ky ?_);refine Yi (by kernel_rfl) ?_;refine Xi ⟨[(1,.v (.func (.func 31) #[] #[])),(4,.ref 4 0),(5,vi 0),(7,vi 0),(8,.ref 8 0),(9,vi 0),(10,sl DQ qv),(11,vi 0),(12,sl Ae [sy 1 2]),(13,vi 0)],[(4,.cells (Ae (sy 2 0))),(8,.cells (Ae (sy 1 2)))],Aa⟩ (Yi ⟨Z10,Z2,Fh,Tv⟩ ?_)
 refine Yi (fun _=>?_) (fun h=>absurd (by decide) h);refine Yi (Nz rfl) ?_;refine Xi _ (Yi (To 2 0) ?_);refine Yi (fun h1=>?_) (fun h1=>?_)
 ·have h1:((sy 2 0).path:ByteArray)=(sy 2 0).path∧((sy 2 0).ver.a:Int)=(sy 2 0).ver.a∧((sy 2 0).ver.b:Int)=(sy 2 0).ver.b∧((sy 2 0).ver.c:Int)=(sy 2 0).ver.c∧True:=h1;refine Yi (fun _=>?_) (fun h=>absurd (by decide) h);refine Yi (fun _=>?_) (fun h=>absurd (by decide) h);refine Yi (Nz rfl) ?_;refine Xi _ (Yi (To 1 2) ?_);refine Yi (fun h2=>?_) (fun h2=>?_)
  ·have h2:((sy 1 2).path:ByteArray)=(sy 1 2).path∧((sy 1 2).ver.a:Int)=(sy 1 2).ver.a∧((sy 1 2).ver.b:Int)=(sy 1 2).ver.b∧((sy 1 2).ver.c:Int)=(sy 1 2).ver.c∧True:=h2;refine Yi (fun _=>?_) (fun h=>absurd (by decide) h);refine Xi _ (Yi cK ?_);refine Yi (fun _=>?_) (fun h=>absurd (by decide) h);refine Yi (fun h3=>?_) (fun h3=>?_)
   ·have h3:(([sy 1 2].map Ae).length:Int)=(1:Int):=h3;refine Yi (by kernel_rfl) ?_;exact .refl _
   have h3:¬((([sy 1 2].map Ae).length:Int)=(1:Int)):=h3;refine Yi (by kernel_rfl) ?_;exact absurd rfl h3
  have h2:¬(((sy 1 2).path:ByteArray)=(sy 1 2).path∧((sy 1 2).ver.a:Int)=(sy 1 2).ver.a∧((sy 1 2).ver.b:Int)=(sy 1 2).ver.b∧((sy 1 2).ver.c:Int)=(sy 1 2).ver.c∧True):=h2;refine Yi (by kernel_rfl) ?_;exact absurd ⟨rfl,rfl,rfl,rfl,trivial⟩ h2
 have h1:¬(((sy 2 0).path:ByteArray)=(sy 2 0).path∧((sy 2 0).ver.a:Int)=(sy 2 0).ver.a∧((sy 2 0).ver.b:Int)=(sy 2 0).ver.b∧((sy 2 0).ver.c:Int)=(sy 2 0).ver.c∧True):=h1;refine Yi (by kernel_rfl) ?_;exact absurd ⟨rfl,rfl,rfl,rfl,trivial⟩ h1
theorem wk{x:List Rl}(h:ib x [])(ifs:List (List AV)):PC 10 [Hr x ifs,.v (.slice none 0 0)] (vb (GS x 16)):=by
 have q:=(h.c11 ifs).args (args':=[Hr x ifs,.v (.slice none 0 0)]) ⟨.refl _,.nil,trivial⟩;rw[show(GS x 16&&Gp [])=GS x 16 by rw[show Gp []=true by decide,Bool.and_true]]at q;exact q
theorem Y2{x:List Rl}(h:GS x 16=true):x.length≤16:=by
 unfold GS at h;simp only[Af,Av]at h;omega
structure kp(x:List Rl)(ifs:List (List AV)):Prop where
 lim:ib x []
 fi:CU ifs
 si:∀c∈ifs,c.length=5
end Go.Eng
