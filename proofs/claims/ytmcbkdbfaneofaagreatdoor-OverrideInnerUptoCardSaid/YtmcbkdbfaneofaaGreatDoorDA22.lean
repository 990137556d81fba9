/- Lemmas for the claims of this seat, without a condition: part 22 (O3, R12, R13, O4). -/
import Derived.Test.YtmcbkdbfaneofaaGreatDoorDA21
set_option maxHeartbeats 4000000
namespace Go.Eng
open Go.Proofs
theorem o70{fF:Nat}{caps:List AV}(hs:Es caps)(l:List (Sl))(p:Sl→Bool)(hF:∀x∈l,PC fF ([.agg (Ae x)]++caps) (vb (p x)))(hl:l.length<9223372036854775807) :
  PC 70 [sl Ae l,.clo fF caps] (vi (Hy p l 0)):=by
 refine Ps F7 Tryz.func70 rfl (Nz rfl) ?_;refine Xi {i:Nat // i≤l.length∧∀j (hj:j<l.length),j<i→p l[j]=false} (Xi (fun i=>⟨[(0,sl Ae l),(1,.clo fF caps),(7,vi (l.map Ae).length),(8,vi i.1)],[],Ab⟩) (Xi (fun i=>l.length-i.1) (Yi (Xi ⟨0,by simp⟩ ?_) ?_)))
 ·exact⟨⟨Zr,⟨rfl,hs.ids _⟩,Zr,Zr,Tv⟩,Tv,Fh,Tv⟩
 ·intro⟨i,h1,h2⟩;refine Yi ?_ ?_
  ·intro h;have h:(i:Int)<(l.map Ae).length:=h;have h:i<l.length:=by simpa using h
   have hg:l[i]?=some l[i]:=Ge h;refine Xi (Ae l[i]) (Yi (Yi (Nn i) (by simp[hg])) (Yi rfl (Yi (Nz rfl) ?_)));have Dg:∀h,PC fF ([.agg (Ae l[i])]++caps.map (str0 h)) (vb (p l[i])):=fun h=>by rw[hs.map];exact hF l[i] (Ao _)
   cases hp:p l[i]with
   |true =>
    rw[hp]at Dg;refine Xi .pure (Xi (vb true) (Yi (Dg _) ?_));rw[IB h (fun j hj HL=>h2 j hj HL) hp,EE];exact .refl _
   |false =>
    rw[hp]at Dg;refine Xi .pure (Xi (vb false) (Yi (Dg _) ?_));refine Yi (Ii i (by omega)) ?_;refine Xi ⟨i+1,by omega,fun j hj HL=>?_⟩ ?_
    ·by_cases e:j=i
     ·subst e;exact hp
     ·exact h2 j hj (by omega)
    ·exact⟨Dl l.length i (by omega),⟨Zr,⟨rfl,hs.ids _⟩,Zr,Zr,Tv⟩,Tv,Fh,Tv⟩
  ·intro h;have h:¬(i:Int)<(l.map Ae).length:=h;have h:¬i<l.length:=by simpa using h
   rw[FU fun j hj=>h2 j hj (by omega)];exact .refl _
theorem o44{fF:Nat}{caps:List AV}(hs:Es caps)(l:List (Rl))(p:Rl→Bool)(hF:∀x∈l,PC fF ([.agg (Ah x)]++caps) (vb (p x)))(hl:l.length<9223372036854775807) :
  PC 44 [sl Ah l,.clo fF caps] (vi (Hy p l 0)):=by
 refine Ps F7 Tryz.func44 rfl (Nz rfl) ?_;refine Xi {i:Nat // i≤l.length∧∀j (hj:j<l.length),j<i→p l[j]=false} (Xi (fun i=>⟨[(0,sl Ah l),(1,.clo fF caps),(7,vi (l.map Ah).length),(8,vi i.1)],[],Ab⟩) (Xi (fun i=>l.length-i.1) (Yi (Xi ⟨0,by simp⟩ ?_) ?_)))
 ·exact⟨⟨Zr,⟨rfl,hs.ids _⟩,Zr,Zr,Tv⟩,Tv,Fh,Tv⟩
 ·intro⟨i,h1,h2⟩;refine Yi ?_ ?_
  ·intro h;have h:(i:Int)<(l.map Ah).length:=h;have h:i<l.length:=by simpa using h
   have hg:l[i]?=some l[i]:=Ge h;refine Xi (Ah l[i]) (Yi (Yi (Nn i) (by simp[hg])) (Yi rfl (Yi (Nz rfl) ?_)));have Dg:∀h,PC fF ([.agg (Ah l[i])]++caps.map (str0 h)) (vb (p l[i])):=fun h=>by rw[hs.map];exact hF l[i] (Ao _)
   cases hp:p l[i]with
   |true =>
    rw[hp]at Dg;refine Xi .pure (Xi (vb true) (Yi (Dg _) ?_));rw[IB h (fun j hj HL=>h2 j hj HL) hp,EE];exact .refl _
   |false =>
    rw[hp]at Dg;refine Xi .pure (Xi (vb false) (Yi (Dg _) ?_));refine Yi (Ii i (by omega)) ?_;refine Xi ⟨i+1,by omega,fun j hj HL=>?_⟩ ?_
    ·by_cases e:j=i
     ·subst e;exact hp
     ·exact h2 j hj (by omega)
    ·exact⟨Dl l.length i (by omega),⟨Zr,⟨rfl,hs.ids _⟩,Zr,Zr,Tv⟩,Tv,Fh,Tv⟩
  ·intro h;have h:¬(i:Int)<(l.map Ah).length:=h;have h:¬i<l.length:=by simpa using h
   rw[FU fun j hj=>h2 j hj (by omega)];exact .refl _
theorem sr{fF:Nat}{caps:List AV}(hs:Es caps)(l:List (Sl))(p:Sl→Bool)(hF:∀x∈l,PC fF ([.agg (Ae x)]++caps) (vb (p x)))(hl:Cn l) :
  PC 25 [sl Ae l,.clo fF caps] (vb (l.any p)):=by
 refine Ps F7 Tryz.func25 rfl (Nz rfl) ?_;have hi:=o70 hs l p hF (by unfold Cn at hl;omega);have Dg:∀h,PC 70 [sl Ae l,.clo fF (caps.map (str0 h))] (vi (Hy p l 0)):=fun h=>by rw[hs.map];exact hi
 refine Xi .pure (Xi _ (Yi (Dg _) ?_));have ha:=JJ (p:=p) l 0 (AX 0);refine Yi ?_ ?_
 ·intro h;have h:(0:Int)≤Hy p l 0:=h;rw[←ha,Aw h];exact .refl _
 ·intro h;have h:¬(0:Int)≤Hy p l 0:=h;rw[←ha,Ap h];exact .refl _
theorem xQ{fF:Nat}{caps:List AV}(hs:Es caps)(l:List (Rl))(p:Rl→Bool)(hF:∀x∈l,PC fF ([.agg (Ah x)]++caps) (vb (p x)))(hl:Cn l) :
  PC 21 [sl Ah l,.clo fF caps] (vb (l.any p)):=by
 refine Ps F7 Tryz.func21 rfl (Nz rfl) ?_;have hi:=o44 hs l p hF (by unfold Cn at hl;omega);have Dg:∀h,PC 44 [sl Ah l,.clo fF (caps.map (str0 h))] (vi (Hy p l 0)):=fun h=>by rw[hs.map];exact hi
 refine Xi .pure (Xi _ (Yi (Dg _) ?_));have ha:=JJ (p:=p) l 0 (AX 0);refine Yi ?_ ?_
 ·intro h;have h:(0:Int)≤Hy p l 0:=h;rw[←ha,Aw h];exact .refl _
 ·intro h;have h:¬(0:Int)≤Hy p l 0:=h;rw[←ha,Ap h];exact .refl _
def E2(a b:Sl):Int:=if Gt a.path b.path≠0 then Gt a.path b.path else LH a.ver b.ver
def QK(s:Sl):Bool:=decide (Cr s.path=some s.ver.a)&&CM s.ver
def jX(l:List Sl)(s:Sl):Int:=Hy (fun y=>decide (s=y)) l 0
theorem ii{a b:Sl}(h:a.path=b.path∧a.ver.a=b.ver.a∧a.ver.b=b.ver.b∧a.ver.c=b.ver.c∧True):a=b:=by
 obtain⟨p,⟨x,y,z⟩⟩:=a;obtain⟨p',⟨x',y',z'⟩⟩:=b;obtain⟨h1,h2,h3,h4,_⟩:=h;cases h1;cases h2;cases h3;cases h4;rfl
theorem lX{a b:Sl}(h:¬(a.path=b.path∧a.ver.a=b.ver.a∧a.ver.b=b.ver.b∧a.ver.c=b.ver.c∧True)):a≠b:=fun e=>h (by subst e;exact⟨rfl,rfl,rfl,rfl,trivial⟩)
theorem ae(l:List Sl)(s:Sl):(0≤jX l s)↔s∈l:=by
 have:=JJ (p:=fun y=>decide (s=y)) l 0 (AX 0)
 unfold jX;have h2:(0≤Hy (fun y=>decide (s=y)) l 0)↔(l.any fun y=>decide (s=y))=true:=by rw[←this,AA]
 rw[h2,A7];constructor
 ·rintro⟨y,hy,e⟩;simp only[AA]at e;subst e;exact hy
 ·intro h;exact⟨s,h,by simp⟩
theorem qW(r:Rl):PC 42 [.agg (Ah r)] (.agg (Ae ⟨r.path,r.ver⟩)):=by
 refine Ps ⟨[1],[],[],[],[],[],[],[],[],[],[]⟩ Tryz.func42 rfl (Nz rfl) ?_;refine Yi (Nz rfl) ?_;refine Yi (Nz rfl) ?_;refine Yi (Nz rfl) ?_;exact .refl _
theorem vg(a b:Sl):PC 55 [.agg (Ae a),.agg (Ae b)] (vi (E2 a b)):=by
 refine Ps ⟨[2,3],[],[],[],[],[],[],[],[],[],[]⟩ Tryz.func55 rfl (Nz rfl) ?_;refine Xi _ (Yi (jl a.path b.path) ?_);refine Yi (Nz rfl) ?_;refine Yi (Nz rfl) ?_;refine Xi _ (Yi (pg a.ver b.ver) ?_);refine Xi _ (Yi (pf (Gt a.path b.path) (LH a.ver b.ver)) ?_);refine Yi (by kernel_rfl) ?_;exact .refl _
theorem xS(r s:Rl):PC 39 [.agg (Ah r),.agg (Ah s)] (vi (E2 ⟨r.path,r.ver⟩ ⟨s.path,s.ver⟩)):=by
 refine Ps ⟨[],[],[],[],[],[],[],[],[],[],[]⟩ Tryz.func39 rfl (Nz rfl) ?_;refine Yi (Nz rfl) ?_;refine Xi _ (Yi (qW r) ?_);refine Yi (Nz rfl) ?_;refine Xi _ (Yi (qW s) ?_);refine Xi _ (Yi (vg ⟨r.path,r.ver⟩ ⟨s.path,s.ver⟩) ?_);refine Yi (by kernel_rfl) ?_;exact .refl _
theorem o52(a b:Sl):PC 52 [.agg (Ae a),.agg (Ae b)] (vi (Gt a.path b.path)):=by
 refine Ps ⟨[2,3],[],[],[],[],[],[],[],[],[],[]⟩ Tryz.func52 rfl (Nz rfl) ?_;refine Xi .pure (Xi _ (Yi (jl a.path b.path) ?_));exact .refl _
theorem o61(a b:Sl):PC 61 [.agg (Ae a),.agg (Ae b)] (vi (Gt a.path b.path)):=by
 refine Ps ⟨[2,3],[],[],[],[],[],[],[],[],[],[]⟩ Tryz.func61 rfl (Nz rfl) ?_;refine Xi .pure (Xi _ (Yi (jl a.path b.path) ?_));exact .refl _
theorem vq(s:Sl)(e:Cr s.path=none)(hl:PC 91 [vs s.path] (.tup [vs ⟨#[]⟩,vi 0,vi 4])):PC 82 [.agg (Ae s)] (vb (QK s)):=by
 refine Ps ⟨[1],[],[],[],[],[],[],[],[],[],[2]⟩ Tryz.func82 rfl (Nz rfl) ?_;refine Xi .pure (Xi _ (Yi hl ?_));refine Xi ⟨[(1,.ref 1 0),(4,vi 0),(5,vi 4)],[(1,.ro (Ae s))],Ab⟩ (Yi ⟨Z3,Z1,Fh,Tv⟩ ?_)
 refine Yi (fun h=>absurd h (by decide)) (fun _=>?_);exact .of_eq (show vb false=vb (QK s) by unfold QK;rw[e,Ap (by intro h;cases h)];rfl)
theorem vr(s:Sl)(m:Int)(e:Cr s.path=some m)(hl:PC 91 [vs s.path] (.tup [vs (fV s.path),vi m,vi 0])):PC 82 [.agg (Ae s)] (vb (QK s)):=by
 refine Ps ⟨[1],[],[],[],[],[],[],[],[],[],[2]⟩ Tryz.func82 rfl (Nz rfl) ?_;refine Xi .pure (Xi _ (Yi hl ?_));refine Xi ⟨[(1,.ref 1 0),(4,vi m),(5,vi 0)],[(1,.ro (Ae s))],Ab⟩ (Yi ⟨Z3,Z1,Fh,Tv⟩ ?_)
 refine Yi (fun _=>?_) (fun h=>absurd (by decide) h);refine Yi (Nz rfl) ?_;refine BN (Bt (CM s.ver)) (fun h1=>?_) (fun h1=>?_)
 ·have h1:(CM s.ver)=true:=h1;refine Xi .pure (Xi _ (Yi (cb h1 (jk s.ver)) ?_));refine Yi (fun h2=>?_) (fun h2=>?_)
  ·have h2:(s.ver.a:Int)=(m:Int):=h2;exact .of_eq (show vb true=vb (QK s) by unfold QK;rw[e,Aw (Ac some h2.symm),h1];rfl)
  have h2:¬((s.ver.a:Int)=(m:Int)):=h2;exact .of_eq (show vb false=vb (QK s) by unfold QK;rw[e,Ap (fun h=>h2 (BM h).symm),h1];rfl)
 have h1:(CM s.ver)=false:=h1;refine Xi .pure (Xi _ (Yi (cb h1 (jk s.ver)) ?_));exact .of_eq (show vb false=vb (QK s) by unfold QK;rw[h1,DH])
theorem sw(s:Sl)(hp:Gn s.path):PC 82 [.agg (Ae s)] (vb (QK s)):=by
 have hl:=YA s.path hp;cases e:Cr s.path with
 |none=>exact vq s e (by have q:=hl;unfold UY at q;rw[e]at q;exact q)
 |some m=>exact vr s m e (by have q:=hl;unfold UY at q;rw[e]at q;exact q)
def SG(c:Sl→Sl→Int):Option Sl→List Sl→Bool
 |_,[]=>true
 |p,y::l=>QK y&&(match p with |none=>true |some z=>decide (c z y<0))&&SG c (some y) l
def GF(c:Sl→Sl→Int)(l:List Sl):Bool:=SG c none l
theorem SH(c:Sl→Sl→Int):∀(l:List Sl) (p:Option Sl),SG c p l=true↔(∀i (h:i<l.length),QK l[i]=true∧∀(h0:0<i),c (l[i-1]'(by omega)) l[i]<0)∧∀z,p=some z→∀(h:0<l.length),c z l[0]<0
 | [],p=>by simp[SG]
 |y::l,p=>by
  have ih:=SH c l (some y);unfold SG;rw[Ag,Ag,ih];constructor
  ·rintro⟨⟨h1,h2⟩,h3,h4⟩
   refine⟨fun i h=>?_,fun z e h=>?_⟩
   ·cases i with
    |zero=>exact⟨h1,fun h0=>absurd h0 (Nat.lt_irrefl _)⟩
    |succ i =>
     have hi:i<l.length:=by simpa using h
     refine⟨(h3 i hi).1,fun _=>?_⟩;cases i with
     |zero=>exact h4 y rfl hi
     |succ i=>exact(h3 (i+1) hi).2 (by omega)
   ·subst e;simpa using h2
  ·rintro⟨h1,h2⟩
   refine⟨⟨(h1 0 (by simp)).1,?_⟩,fun i h=>?_,fun z e h=>?_⟩
   ·cases p with
    |none=>rfl
    |some z=>exact Aw (h2 z rfl (Nat.succ_pos _))
   ·refine⟨(h1 (i+1) (by simpa using h)).1,fun h0=>?_⟩
    have:=(h1 (i+1) (by simpa using h)).2 (by omega)
    obtain⟨k,rfl⟩:∃k,i=k+1:=⟨i-1,by omega⟩;exact this
   ·cases e
    exact(h1 1 (by simpa using h)).2 (by omega)
theorem Hz{c:Sl→Sl→Int}{l:List Sl}:GF c l=true↔∀i (h:i<l.length),QK l[i]=true∧∀(h0:0<i),c (l[i-1]'(by omega)) l[i]<0:=by
 unfold GF;rw[SH];exact⟨fun h=>h.1,fun h=>⟨h,fun _ e=>by cases e⟩⟩
def kE(l:List Sl)(p:ByteArray):Option Sl:=l.find? fun y=>decide (y.path=p)
theorem o71(l:List Sl)(s:Sl)(hl:Cn l):PC 71 [sl Ae l,.agg (Ae s)] (vi (jX l s)):=by
 refine Ps ⟨[3],[],[],[],[],[],[],[],[],[],[5,6]⟩ Tryz.func71 rfl (Nz rfl) ?_;refine Xi {q:Nat // q≤l.length∧∀j (hj:j<l.length),j<q→s≠l[j]} (Xi (fun q=>⟨[(0,sl Ae l),(3,.ref 3 0),(7,vi (l.map Ae).length),(8,vi q.1)],[(3,.ro (Ae s))],Ab⟩) (Xi (fun q=>l.length-q.1) (Yi (Xi ⟨0,AM _,fun _ _ h=>absurd h (Du _)⟩ ?_) ?_)))
 ·exact⟨Z4,Z1,Fh,Tv⟩
 intro⟨i,i1,i2⟩;have i1:i≤l.length:=i1;have i2:∀j (hj:j<l.length),j<i→s≠l[j]:=i2;refine Yi (fun h1=>?_) (fun h1=>?_)
 ·have h1:(i:Int)<((l.map Ae).length:Int):=h1;have n1:=Jy h1;refine Yi (Nz rfl) ?_;refine Xi (Ae l[i]) (Yi (NP n1) (Yi rfl ?_));refine Yi (Nz rfl) ?_;refine Yi (fun h2=>?_) (fun h2=>?_)
  ·have h2:(s.path:ByteArray)=l[i].path∧(s.ver.a:Int)=l[i].ver.a∧(s.ver.b:Int)=l[i].ver.b∧(s.ver.c:Int)=l[i].ver.c∧True:=h2;refine Yi (by kernel_rfl) ?_;refine Xi ⟨[(5,vi i)],[],Ab⟩ (Yi ⟨Z1,Tv,Fh,Tv⟩ ?_)
   exact .of_eq (show vi i=vi (jX l s) by unfold jX;rw[IB n1 (fun j hj HL=>Ap (i2 j hj HL)) (Aw (ii h2)),EE])
  have h2:¬((s.path:ByteArray)=l[i].path∧(s.ver.a:Int)=l[i].ver.a∧(s.ver.b:Int)=l[i].ver.b∧(s.ver.c:Int)=l[i].ver.c∧True):=h2;refine Yi (by kernel_rfl) ?_;refine Xi ⟨[(0,sl Ae l),(3,.ref 3 0),(7,vi (l.map Ae).length),(8,vi i)],[(3,.ro (Ae s))],Ab⟩ (Yi ⟨Z4,Z1,Fh,Tv⟩ ?_)
  refine Yi (Ii i (by omega)) ?_;refine Xi ⟨i+1,n1,fun j hj HL=>if e:j<i then i2 j hj e else by
    have e:j=i:=by omega
    subst e;exact lX h2⟩ ?_
  exact⟨Dl l.length i (by omega),Z4,Z1,Fh,Tv⟩
 have h1:¬((i:Int)<((l.map Ae).length:Int)):=h1;have n1:=Jx h1;exact .of_eq (show vi (-1)=vi (jX l s) by unfold jX;rw[FU (p:=fun y=>decide (s=y)) fun j hj=>Ap (i2 j hj (by have q:=h1;rw[Lm]at q;omega))])
theorem iQ(l:List Sl)(s:Sl)(hl:Cn l):PC 27 [sl Ae l,.agg (Ae s)] (vb (decide (s∈l))):=by
 refine Ps ⟨[3],[],[],[],[],[],[],[],[],[],[]⟩ Tryz.func27 rfl (Nz rfl) ?_;refine Yi (Nz rfl) ?_;refine Xi .pure (Xi _ (Yi (o71 l s hl) ?_));refine Yi (fun h1=>?_) (fun h1=>?_)
 ·have h1:(0:Int)≤((jX l s):Int):=h1;exact .of_eq (show vb true=vb (decide (s∈l)) by rw[Aw ((ae l s).1 h1)])
 have h1:¬((0:Int)≤((jX l s):Int)):=h1;exact .of_eq (show vb false=vb (decide (s∈l)) by rw[Ap (fun h=>h1 ((ae l s).2 h))])
theorem qZ(l:List Sl)(hl:Cn l)(hp:∀s∈l,Gn s.path):PC 54 [sl Ae l,.v (.func (.func 55) #[] #[])] (vb (GF E2 l)):=by
 refine Ps ⟨[],[],[],[],[],[],[],[],[],[],[5,6]⟩ Tryz.func54 rfl (Nz rfl) ?_;refine Xi {q:Nat // q≤l.length∧∀j (hj:j<l.length),j<q→QK l[j]=true∧∀(h0:0<j),E2 (l[j-1]'(by omega)) l[j]<0} (Xi (fun q=>⟨[(0,sl Ae l),(1,.v (.func (.func 55) #[] #[])),(7,vi (l.map Ae).length),(8,vi q.1)],[],Ab⟩) (Xi (fun q=>l.length-q.1) (Yi (Xi ⟨0,AM _,fun _ _ h=>absurd h (Du _)⟩ ?_) ?_)))
 ·exact⟨Z4,Tv,Fh,Tv⟩
 intro⟨i,i1,i2⟩;have i1:i≤l.length:=i1;have i2:∀j (hj:j<l.length),j<i→QK l[j]=true∧∀(h0:0<j),E2 (l[j-1]'(by omega)) l[j]<0:=i2;refine Yi (fun h1=>?_) (fun h1=>?_)
 ·have h1:(i:Int)<((l.map Ae).length:Int):=h1;have n1:=Jy h1;refine Xi (Ae l[i]) (Yi (NP n1) (Yi rfl ?_));refine Yi (Nz rfl) ?_;refine BN (Bt (QK l[i])) (fun h2=>?_) (fun h2=>?_)
  ·have h2:(QK l[i])=true:=h2;refine Xi _ (Yi (cb h2 (sw l[i] (hp _ (Ao n1)))) ?_);refine Yi (fun h3=>?_) (fun h3=>?_)
   ·have h3:(0:Int)<(i:Int):=h3;refine Yi (by show BY ((i:Int)-(1:Int));unfold BY;omega) ?_;have m6:i-1<l.length:=by omega
    refine Xi (Ae (l[i-1])) (Yi (Yi (show(0:Int)≤(i:Int)-1 by omega) (by rw[show((i:Int)-1).toNat=i-1 by omega];exact Cg (Ge m6))) (Yi rfl ?_));refine Yi (Nz rfl) ?_;refine Xi (Ae l[i]) (Yi (NP n1) (Yi rfl ?_));refine Yi (Nz rfl) ?_;refine Xi _ (Yi (vg l[i-1] l[i]) ?_);refine Yi (fun h4=>?_) (fun h4=>?_)
    ·have h4:(0:Int)≤((E2 l[i-1] l[i]):Int):=h4;refine Yi (by kernel_rfl) ?_;refine Xi ⟨[],[],Ab⟩ (Yi ⟨Tv,Tv,Fh,Tv⟩ ?_)
     exact .of_eq (show vb false=vb (GF E2 l) by rw[show GF E2 l=false from AI.2 (fun hi=>by have q:=(Hz.1 hi i n1).2 (by omega);exact absurd h4 (TQ.2 q))])
    have h4:¬((0:Int)≤((E2 l[i-1] l[i]):Int)):=h4;refine Yi (by kernel_rfl) ?_;refine Xi ⟨[(0,sl Ae l),(1,.v (.func (.func 55) #[] #[])),(7,vi (l.map Ae).length),(8,vi i)],[],Ab⟩ (Yi ⟨Z4,Tv,Fh,Tv⟩ ?_)
    refine Yi (Ii i (by omega)) ?_;refine Xi ⟨i+1,n1,fun j hj HL=>if e:j<i then i2 j hj e else by
      have e:j=i:=by omega
      subst e;exact⟨h2,fun _=>TQ.1 h4⟩⟩ ?_
    exact⟨Dl l.length i (by omega),Z4,Tv,Fh,Tv⟩
   have h3:¬((0:Int)<(i:Int)):=h3;refine Yi (by kernel_rfl) ?_;refine Xi ⟨[(0,sl Ae l),(1,.v (.func (.func 55) #[] #[])),(7,vi (l.map Ae).length),(8,vi i)],[],Ab⟩ (Yi ⟨Z4,Tv,Fh,Tv⟩ ?_)
   refine Yi (Ii i (by omega)) ?_;refine Xi ⟨i+1,n1,fun j hj HL=>if e:j<i then i2 j hj e else by
     have e:j=i:=by omega
     subst e;exact⟨h2,fun h0=>absurd h0 (by omega)⟩⟩ ?_
   exact⟨Dl l.length i (by omega),Z4,Tv,Fh,Tv⟩
  have h2:(QK l[i])=false:=h2;refine Xi _ (Yi (cb h2 (sw l[i] (hp _ (Ao n1)))) ?_);refine Yi (by kernel_rfl) ?_;refine Xi ⟨[],[],Ab⟩ (Yi ⟨Tv,Tv,Fh,Tv⟩ ?_)
  exact .of_eq (show vb false=vb (GF E2 l) by rw[show GF E2 l=false from AI.2 (fun hi=>by have q:=(Hz.1 hi i n1).1;rw[h2]at q;cases q)])
 have h1:¬((i:Int)<((l.map Ae).length:Int)):=h1;have n1:=Jx h1;exact .of_eq (show vb true=vb (GF E2 l) by rw[Hz.2 fun j hj=>i2 j hj (by have q:=h1;rw[Lm]at q;omega)])
theorem qY(l:List Sl)(hl:Cn l)(hp:∀s∈l,Gn s.path):PC 54 [sl Ae l,.v (.func (.func 52) #[] #[])] (vb (GF (fun a b=>Gt a.path b.path) l)):=by
 refine Ps ⟨[],[],[],[],[],[],[],[],[],[],[5,6]⟩ Tryz.func54 rfl (Nz rfl) ?_;refine Xi {q:Nat // q≤l.length∧∀j (hj:j<l.length),j<q→QK l[j]=true∧∀(h0:0<j),(fun a b=>Gt a.path b.path) (l[j-1]'(by omega)) l[j]<0} (Xi (fun q=>⟨[(0,sl Ae l),(1,.v (.func (.func 52) #[] #[])),(7,vi (l.map Ae).length),(8,vi q.1)],[],Ab⟩) (Xi (fun q=>l.length-q.1) (Yi (Xi ⟨0,AM _,fun _ _ h=>absurd h (Du _)⟩ ?_) ?_)))
 ·exact⟨Z4,Tv,Fh,Tv⟩
 intro⟨i,i1,i2⟩;have i1:i≤l.length:=i1;have i2:∀j (hj:j<l.length),j<i→QK l[j]=true∧∀(h0:0<j),(fun a b=>Gt a.path b.path) (l[j-1]'(by omega)) l[j]<0:=i2;refine Yi (fun h1=>?_) (fun h1=>?_)
 ·have h1:(i:Int)<((l.map Ae).length:Int):=h1;have n1:=Jy h1;refine Xi (Ae l[i]) (Yi (NP n1) (Yi rfl ?_));refine Yi (Nz rfl) ?_;refine BN (Bt (QK l[i])) (fun h2=>?_) (fun h2=>?_)
  ·have h2:(QK l[i])=true:=h2;refine Xi _ (Yi (cb h2 (sw l[i] (hp _ (Ao n1)))) ?_);refine Yi (fun h3=>?_) (fun h3=>?_)
   ·have h3:(0:Int)<(i:Int):=h3;refine Yi (by show BY ((i:Int)-(1:Int));unfold BY;omega) ?_;have m6:i-1<l.length:=by omega
    refine Xi (Ae (l[i-1])) (Yi (Yi (show(0:Int)≤(i:Int)-1 by omega) (by rw[show((i:Int)-1).toNat=i-1 by omega];exact Cg (Ge m6))) (Yi rfl ?_));refine Yi (Nz rfl) ?_;refine Xi (Ae l[i]) (Yi (NP n1) (Yi rfl ?_));refine Yi (Nz rfl) ?_;refine Xi _ (Yi (o52 l[i-1] l[i]) ?_);refine Yi (fun h4=>?_) (fun h4=>?_)
    ·have h4:(0:Int)≤((Gt l[i-1].path l[i].path):Int):=h4;refine Yi (by kernel_rfl) ?_;refine Xi ⟨[],[],Ab⟩ (Yi ⟨Tv,Tv,Fh,Tv⟩ ?_)
     exact .of_eq (show vb false=vb (GF (fun a b=>Gt a.path b.path) l) by rw[show GF (fun a b=>Gt a.path b.path) l=false from AI.2 (fun hi=>by have q:=(Hz.1 hi i n1).2 (by omega);exact absurd h4 (TQ.2 q))])
    have h4:¬((0:Int)≤((Gt l[i-1].path l[i].path):Int)):=h4;refine Yi (by kernel_rfl) ?_;refine Xi ⟨[(0,sl Ae l),(1,.v (.func (.func 52) #[] #[])),(7,vi (l.map Ae).length),(8,vi i)],[],Ab⟩ (Yi ⟨Z4,Tv,Fh,Tv⟩ ?_)
    refine Yi (Ii i (by omega)) ?_;refine Xi ⟨i+1,n1,fun j hj HL=>if e:j<i then i2 j hj e else by
      have e:j=i:=by omega
      subst e;exact⟨h2,fun _=>TQ.1 h4⟩⟩ ?_
    exact⟨Dl l.length i (by omega),Z4,Tv,Fh,Tv⟩
   have h3:¬((0:Int)<(i:Int)):=h3;refine Yi (by kernel_rfl) ?_;refine Xi ⟨[(0,sl Ae l),(1,.v (.func (.func 52) #[] #[])),(7,vi (l.map Ae).length),(8,vi i)],[],Ab⟩ (Yi ⟨Z4,Tv,Fh,Tv⟩ ?_)
   refine Yi (Ii i (by omega)) ?_;refine Xi ⟨i+1,n1,fun j hj HL=>if e:j<i then i2 j hj e else by
     have e:j=i:=by omega
     subst e;exact⟨h2,fun h0=>absurd h0 (by omega)⟩⟩ ?_
   exact⟨Dl l.length i (by omega),Z4,Tv,Fh,Tv⟩
  have h2:(QK l[i])=false:=h2;refine Xi _ (Yi (cb h2 (sw l[i] (hp _ (Ao n1)))) ?_);refine Yi (by kernel_rfl) ?_;refine Xi ⟨[],[],Ab⟩ (Yi ⟨Tv,Tv,Fh,Tv⟩ ?_)
  exact .of_eq (show vb false=vb (GF (fun a b=>Gt a.path b.path) l) by rw[show GF (fun a b=>Gt a.path b.path) l=false from AI.2 (fun hi=>by have q:=(Hz.1 hi i n1).1;rw[h2]at q;cases q)])
 have h1:¬((i:Int)<((l.map Ae).length:Int)):=h1;have n1:=Jx h1;exact .of_eq (show vb true=vb (GF (fun a b=>Gt a.path b.path) l) by rw[Hz.2 fun j hj=>i2 j hj (by have q:=h1;rw[Lm]at q;omega)])
structure Wk where
 rep:List Rl
 exc:List Sl
 pin:List Sl
abbrev Bg(w:Wk):List AV:=[sl Ah w.rep,sl Ae w.exc,sl Ae w.pin]
structure WD(w:Wk):Prop where
 rep:∀r∈w.rep,Ka r
 reps:Cn w.rep
 exc:Cn w.exc
 pin:Cn w.pin
 excs:∀s∈w.exc,Gn s.path
 pins:∀s∈w.pin,Gn s.path
abbrev Kp:Sl→Sl→Int:=fun a b=>Gt a.path b.path
def BU(w:Wk):Int:=if A9 w.rep≠0∨GF E2 w.exc=false∨GF Kp w.pin=false then 1 else if(w.pin.any fun s=>decide (s∈w.exc))=true then 17 else 0
theorem WW{a b:ByteArray}:Gt a b<0↔Ff a b=true:=by
 unfold Gt
 by_cases h:Ff a b=true
 ·rw[Az h];simp[h]
 ·rw[Al h];split<;>simp[h]
theorem HY{a b:ByteArray}:Gt a b=0↔a=b:=by
 unfold Gt;constructor
 ·intro h;split at h
  ·cases h
  ·rename_i h1;split at h
   ·cases h
   ·rename_i h2;exact Hp (by simpa using h1) (by simpa using h2)
 ·rintro rfl
  rw[Al (by rw[CY];decide),Al (by rw[CY];decide)]
theorem VI{w:Wk}(h:A9 w.rep≠0∨GF E2 w.exc=false∨GF Kp w.pin=false):BU w=1:=by unfold BU;rw[Az h]
theorem VJ{w:Wk}(h1:A9 w.rep=0)(h2:GF E2 w.exc=true)(h3:GF Kp w.pin=true):BU w=if(w.pin.any fun s=>decide (s∈w.exc))=true then 17 else 0:=by
 unfold BU;rw[Al (by rintro(c | c | c);exact c h1;rw[h2]at c;cases c;rw[h3]at c;cases c)]
theorem xU(s:Sl)(w:Wk)(hl:Cn w.exc):PC 56 [.agg (Ae s),.cptr (Bg w)] (vb (decide (s∈w.exc))):=by
 refine Ps ⟨[2],[],[],[],[],[],[],[],[],[],[]⟩ Tryz.func56 rfl (Nz rfl) ?_;refine Yi (Nz rfl) ?_;refine BN (Bt (decide (s∈w.exc))) (fun h1=>?_) (fun h1=>?_)
 ·have h1:(decide (s∈w.exc))=true:=h1;refine Xi .pure (Xi _ (Yi (cb h1 (iQ w.exc s hl)) ?_));exact .of_eq (show vb true=vb (decide (s∈w.exc)) by rw[h1])
 have h1:(decide (s∈w.exc))=false:=h1;refine Xi .pure (Xi _ (Yi (cb h1 (iQ w.exc s hl)) ?_));exact .of_eq (show vb false=vb (decide (s∈w.exc)) by rw[h1])
theorem qV(w:Wk)(hW:WD w):PC 13 [.agg (Bg w)] (vi (BU w)):=by
 refine Ps ⟨[1],[],[],[],[],[],[],[],[],[],[3,4]⟩ Tryz.func13 rfl (Nz rfl) ?_;refine Xi .pure (Xi _ (Yi ((pt YA w.rep [] hW.rep).args (args':=[.agg [sl Ah w.rep,.v (.slice none 0 0)]]) ⟨Hm.agg ⟨.refl _,.nil,trivial⟩,trivial⟩) ?_));refine Yi (fun h1=>?_) (fun h1=>?_)
 ·have h1:((A9 w.rep):Int)≠(0:Int):=h1;refine Xi ⟨[],[],Ab⟩ (Yi ⟨Tv,Tv,Fh,Tv⟩ ?_)
  exact .of_eq (Ac vi (VI (.inl h1)).symm)
 have h1:((A9 w.rep):Int)=(0:Int):=Br h1;refine BN (Bt (GF E2 w.exc)) (fun h3=>?_) (fun h3=>?_)
 ·have h3:(GF E2 w.exc)=true:=h3;refine Xi .pure (Xi _ (Yi (cb h3 (qZ w.exc hW.exc hW.excs)) ?_));refine BN (Bt (GF Kp w.pin)) (fun h4=>?_) (fun h4=>?_)
  ·have h4:(GF Kp w.pin)=true:=h4;refine Xi .pure (Xi _ (Yi (cb h4 (qY w.pin hW.pin hW.pins)) ?_));refine Xi ⟨[(1,.ref 1 0)],[(1,.ro (Bg w))],Ab⟩ (Yi ⟨Z1,Z1,Fh,Tv⟩ ?_)
   refine BN (Bt (w.pin.any fun s=>decide (s∈w.exc))) (fun h5=>?_) (fun h5=>?_)
   ·have h5:(w.pin.any fun s=>decide (s∈w.exc))=true:=h5;refine Xi .pure (Xi _ (Yi (cb h5 (sr (fF:=56) (caps:=[.cptr (Bg w)]) (fun c hc=>by obtain rfl:=Ai.1 hc;intro h;rfl) w.pin (fun s=>decide (s∈w.exc)) (fun s _=>xU s w hW.exc) hW.pin)) ?_));exact .of_eq (Ac vi (show 17=BU w by rw[VJ h1 h3 h4,Az h5]))
   have h5:(w.pin.any fun s=>decide (s∈w.exc))=false:=h5;refine Xi .pure (Xi _ (Yi (cb h5 (sr (fF:=56) (caps:=[.cptr (Bg w)]) (fun c hc=>by obtain rfl:=Ai.1 hc;intro h;rfl) w.pin (fun s=>decide (s∈w.exc)) (fun s _=>xU s w hW.exc) hW.pin)) ?_));exact .of_eq (Ac vi (show 0=BU w by rw[VJ h1 h3 h4,Al (by rw[h5];decide)]))
  have h4:(GF Kp w.pin)=false:=h4;refine Xi .pure (Xi _ (Yi (cb h4 (qY w.pin hW.pin hW.pins)) ?_));refine Xi ⟨[],[],Ab⟩ (Yi ⟨Tv,Tv,Fh,Tv⟩ ?_)
  exact .of_eq (Ac vi (VI (.inr (.inr h4))).symm)
 have h3:(GF E2 w.exc)=false:=h3;refine Xi .pure (Xi _ (Yi (cb h3 (qZ w.exc hW.exc hW.excs)) ?_));refine Xi ⟨[],[],Ab⟩ (Yi ⟨Tv,Tv,Fh,Tv⟩ ?_)
 exact .of_eq (Ac vi (VI (.inr (.inl h3))).symm)
end Go.Eng
