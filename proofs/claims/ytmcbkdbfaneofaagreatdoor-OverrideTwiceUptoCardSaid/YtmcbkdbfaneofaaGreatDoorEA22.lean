/- Lemmas for the claims of this seat, without a condition: part 22 (O3, R12, R13, O4). -/
import Derived.Test.YtmcbkdbfaneofaaGreatDoorEA21
set_option maxHeartbeats 4000000
namespace Go.Eng
open Go.Proofs
theorem o70{fF:Nat}{caps:List AV}(hs:EH caps)(l:List (Sl))(p:Sl→Bool)(hF:∀x∈l,PC fF ([.agg (Af x)]++caps) (vb (p x)))(hl:l.length<9223372036854775807) :
  PC 70 [sl Af l,.clo fF caps] (vi (H1 p l 0)):=by
 refine Ps F3 Tryz.func70 rfl (Nz rfl) ?_;refine Xi {i:Nat // i≤l.length∧∀j (hj:j<l.length),j<i→p l[j]=false} (Xi (fun i=>⟨[(0,sl Af l),(1,.clo fF caps),(7,vi (l.map Af).length),(8,vi i.1)],[],Ab⟩) (Xi (fun i=>l.length-i.1) (Yi (Xi ⟨0,by simp⟩ ?_) ?_)))
 ·exact⟨⟨Zr,⟨rfl,hs.ids _⟩,Zr,Zr,Tv⟩,Tv,Fh,Tv⟩
 ·intro⟨i,h1,h2⟩;refine Yi ?_ ?_
  ·intro h;have h:(i:Int)<(l.map Af).length:=h;have h:i<l.length:=by simpa using h
   have hg:l[i]?=some l[i]:=Ge h;refine Xi (Af l[i]) (Yi (Yi (Nn i) (by simp[hg])) (Yi rfl (Yi (Nz rfl) ?_)));have DD:∀h,PC fF ([.agg (Af l[i])]++caps.map (str0 h)) (vb (p l[i])):=fun h=>by rw[hs.map];exact hF l[i] (Ap _)
   cases hp:p l[i]with
   |true =>
    rw[hp]at DD;refine Xi .pure (Xi (vb true) (Yi (DD _) ?_));rw[Jh h (fun j hj HZ=>h2 j hj HZ) hp,E0];exact .refl _
   |false =>
    rw[hp]at DD;refine Xi .pure (Xi (vb false) (Yi (DD _) ?_));refine Yi (Ii i (by omega)) ?_;refine Xi ⟨i+1,by omega,fun j hj HZ=>?_⟩ ?_
    ·by_cases e:j=i
     ·subst e;exact hp
     ·exact h2 j hj (by omega)
    ·exact⟨Dl l.length i (by omega),⟨Zr,⟨rfl,hs.ids _⟩,Zr,Zr,Tv⟩,Tv,Fh,Tv⟩
  ·intro h;have h:¬(i:Int)<(l.map Af).length:=h;have h:¬i<l.length:=by simpa using h
   rw[Gc fun j hj=>h2 j hj (by omega)];exact .refl _
theorem yg{fF:Nat}{caps:List AV}(hs:EH caps)(l:List (Sl))(p:Sl→Bool)(hF:∀x∈l,PC fF ([.agg (Af x)]++caps) (vb (p x)))(hl:Cm l) :
  PC 25 [sl Af l,.clo fF caps] (vb (l.any p)):=by
 refine Ps F3 Tryz.func25 rfl (Nz rfl) ?_;have hi:=o70 hs l p hF (by unfold Cm at hl;omega);have DD:∀h,PC 70 [sl Af l,.clo fF (caps.map (str0 h))] (vi (H1 p l 0)):=fun h=>by rw[hs.map];exact hi
 refine Xi .pure (Xi _ (Yi (DD _) ?_));have ha:=K6 (p:=p) l 0 (AZ 0);refine Yi ?_ ?_
 ·intro h;have h:(0:Int)≤H1 p l 0:=h;rw[←ha,Ax h];exact .refl _
 ·intro h;have h:¬(0:Int)≤H1 p l 0:=h;rw[←ha,Ar h];exact .refl _
def Gr(a b:Sl):Int:=if Gq a.path b.path≠0 then Gq a.path b.path else LW a.ver b.ver
def RF(s:Sl):Bool:=decide (Cs s.path=some s.ver.a)&&CN s.ver
def ko(l:List Sl)(s:Sl):Int:=H1 (fun y=>decide (s=y)) l 0
theorem iE{a b:Sl}(h:a.path=b.path∧a.ver.a=b.ver.a∧a.ver.b=b.ver.b∧a.ver.c=b.ver.c∧True):a=b:=by
 obtain⟨p,⟨x,y,z⟩⟩:=a;obtain⟨p',⟨x',y',z'⟩⟩:=b;obtain⟨h1,h2,h3,h4,_⟩:=h;cases h1;cases h2;cases h3;cases h4;rfl
theorem ml{a b:Sl}(h:¬(a.path=b.path∧a.ver.a=b.ver.a∧a.ver.b=b.ver.b∧a.ver.c=b.ver.c∧True)):a≠b:=fun e=>h (by subst e;exact⟨rfl,rfl,rfl,rfl,trivial⟩)
theorem aE(l:List Sl)(s:Sl):(0≤ko l s)↔s∈l:=by
 have:=K6 (p:=fun y=>decide (s=y)) l 0 (AZ 0)
 unfold ko;have h2:(0≤H1 (fun y=>decide (s=y)) l 0)↔(l.any fun y=>decide (s=y))=true:=by rw[←this,AA]
 rw[h2,Bb];constructor
 ·rintro⟨y,hy,e⟩;simp only[AA]at e;subst e;exact hy
 ·intro h;exact⟨s,h,by simp⟩
theorem rp(r:Rl):PC 42 [.agg (Al r)] (.agg (Af ⟨r.path,r.ver⟩)):=by
 refine Ps ⟨[1],[],[],[],[],[],[],[],[],[],[]⟩ Tryz.func42 rfl (Nz rfl) ?_;refine Yi (Nz rfl) ?_;refine Yi (Nz rfl) ?_;refine Yi (Nz rfl) ?_;exact .refl _
theorem vJ(a b:Sl):PC 55 [.agg (Af a),.agg (Af b)] (vi (Gr a b)):=by
 refine Ps ⟨[2,3],[],[],[],[],[],[],[],[],[],[]⟩ Tryz.func55 rfl (Nz rfl) ?_;refine Xi _ (Yi (jE a.path b.path) ?_);refine Yi (Nz rfl) ?_;refine Yi (Nz rfl) ?_;refine Xi _ (Yi (pE a.ver b.ver) ?_);refine Xi _ (Yi (pD (Gq a.path b.path) (LW a.ver b.ver)) ?_);refine Yi (by kernel_rfl) ?_;exact .refl _
theorem yi(r s:Rl):PC 39 [.agg (Al r),.agg (Al s)] (vi (Gr ⟨r.path,r.ver⟩ ⟨s.path,s.ver⟩)):=by
 refine Ps ⟨[],[],[],[],[],[],[],[],[],[],[]⟩ Tryz.func39 rfl (Nz rfl) ?_;refine Yi (Nz rfl) ?_;refine Xi _ (Yi (rp r) ?_);refine Yi (Nz rfl) ?_;refine Xi _ (Yi (rp s) ?_);refine Xi _ (Yi (vJ ⟨r.path,r.ver⟩ ⟨s.path,s.ver⟩) ?_);refine Yi (by kernel_rfl) ?_;exact .refl _
theorem o52(a b:Sl):PC 52 [.agg (Af a),.agg (Af b)] (vi (Gq a.path b.path)):=by
 refine Ps ⟨[2,3],[],[],[],[],[],[],[],[],[],[]⟩ Tryz.func52 rfl (Nz rfl) ?_;refine Xi .pure (Xi _ (Yi (jE a.path b.path) ?_));exact .refl _
theorem o61(a b:Sl):PC 61 [.agg (Af a),.agg (Af b)] (vi (Gq a.path b.path)):=by
 refine Ps ⟨[2,3],[],[],[],[],[],[],[],[],[],[]⟩ Tryz.func61 rfl (Nz rfl) ?_;refine Xi .pure (Xi _ (Yi (jE a.path b.path) ?_));exact .refl _
theorem vN(s:Sl)(e:Cs s.path=none)(hl:PC 91 [vs s.path] (.tup [vs ⟨#[]⟩,vi 0,vi 4])):PC 82 [.agg (Af s)] (vb (RF s)):=by
 refine Ps ⟨[1],[],[],[],[],[],[],[],[],[],[2]⟩ Tryz.func82 rfl (Nz rfl) ?_;refine Xi .pure (Xi _ (Yi hl ?_));refine Xi ⟨[(1,.ref 1 0),(4,vi 0),(5,vi 4)],[(1,.ro (Af s))],Ab⟩ (Yi ⟨Z3,Z1,Fh,Tv⟩ ?_)
 refine Yi (fun h=>absurd h (by decide)) (fun _=>?_);exact .of_eq (show vb false=vb (RF s) by unfold RF;rw[e,Ar (by intro h;cases h)];rfl)
theorem vO(s:Sl)(m:Int)(e:Cs s.path=some m)(hl:PC 91 [vs s.path] (.tup [vs (gv s.path),vi m,vi 0])):PC 82 [.agg (Af s)] (vb (RF s)):=by
 refine Ps ⟨[1],[],[],[],[],[],[],[],[],[],[2]⟩ Tryz.func82 rfl (Nz rfl) ?_;refine Xi .pure (Xi _ (Yi hl ?_));refine Xi ⟨[(1,.ref 1 0),(4,vi m),(5,vi 0)],[(1,.ro (Af s))],Ab⟩ (Yi ⟨Z3,Z1,Fh,Tv⟩ ?_)
 refine Yi (fun _=>?_) (fun h=>absurd (by decide) h);refine Yi (Nz rfl) ?_;refine BU (Bt (CN s.ver)) (fun h1=>?_) (fun h1=>?_)
 ·have h1:(CN s.ver)=true:=h1;refine Xi .pure (Xi _ (Yi (cb h1 (jD s.ver)) ?_));refine Yi (fun h2=>?_) (fun h2=>?_)
  ·have h2:(s.ver.a:Int)=(m:Int):=h2;exact .of_eq (show vb true=vb (RF s) by unfold RF;rw[e,Ax (Ac some h2.symm),h1];rfl)
  have h2:¬((s.ver.a:Int)=(m:Int)):=h2;exact .of_eq (show vb false=vb (RF s) by unfold RF;rw[e,Ar (fun h=>h2 (BM h).symm),h1];rfl)
 have h1:(CN s.ver)=false:=h1;refine Xi .pure (Xi _ (Yi (cb h1 (jD s.ver)) ?_));exact .of_eq (show vb false=vb (RF s) by unfold RF;rw[h1,DH])
theorem sT(s:Sl)(hp:Gk s.path):PC 82 [.agg (Af s)] (vb (RF s)):=by
 have hl:=Se s.path hp;cases e:Cs s.path with
 |none=>exact vN s e (by have q:=hl;unfold Vf at q;rw[e]at q;exact q)
 |some m=>exact vO s m e (by have q:=hl;unfold Vf at q;rw[e]at q;exact q)
def SY(c:Sl→Sl→Int):Option Sl→List Sl→Bool
 |_,[]=>true
 |p,y::l=>RF y&&(match p with |none=>true |some z=>decide (c z y<0))&&SY c (some y) l
def Hz(c:Sl→Sl→Int)(l:List Sl):Bool:=SY c none l
theorem SZ(c:Sl→Sl→Int):∀(l:List Sl) (p:Option Sl),SY c p l=true↔(∀i (h:i<l.length),RF l[i]=true∧∀(h0:0<i),c (l[i-1]'(by omega)) l[i]<0)∧∀z,p=some z→∀(h:0<l.length),c z l[0]<0
 | [],p=>by simp[SY]
 |y::l,p=>by
  have ih:=SZ c l (some y);unfold SY;rw[Ag,Ag,ih];constructor
  ·rintro⟨⟨h1,h2⟩,h3,h4⟩
   refine⟨fun i h=>?_,fun z e h=>?_⟩
   ·cases i with
    |zero=>exact⟨h1,fun h0=>absurd h0 (Nat.lt_irrefl _)⟩
    |succ i =>
     have hi:i<l.length:=by simpa using h
     refine⟨(h3 i hi).1,fun _=>?_⟩;cases i with
     |zero=>exact h4 y rfl hi
     |succ i=>exact(h3 (i+1) hi).2 (by omega)
   ·subst e;simpa using h2
  ·rintro⟨h1,h2⟩
   refine⟨⟨(h1 0 (by simp)).1,?_⟩,fun i h=>?_,fun z e h=>?_⟩
   ·cases p with
    |none=>rfl
    |some z=>exact Ax (h2 z rfl (Nat.succ_pos _))
   ·refine⟨(h1 (i+1) (by simpa using h)).1,fun h0=>?_⟩
    have:=(h1 (i+1) (by simpa using h)).2 (by omega)
    obtain⟨k,rfl⟩:∃k,i=k+1:=⟨i-1,by omega⟩;exact this
   ·cases e
    exact(h1 1 (by simpa using h)).2 (by omega)
theorem Ji{c:Sl→Sl→Int}{l:List Sl}:Hz c l=true↔∀i (h:i<l.length),RF l[i]=true∧∀(h0:0<i),c (l[i-1]'(by omega)) l[i]<0:=by
 unfold Hz;rw[SZ];exact⟨fun h=>h.1,fun h=>⟨h,fun _ e=>by cases e⟩⟩
def ib(l:List Sl)(p:ByteArray):Option Sl:=l.find? fun y=>decide (y.path=p)
theorem o71(l:List Sl)(s:Sl)(hl:Cm l):PC 71 [sl Af l,.agg (Af s)] (vi (ko l s)):=by
 refine Ps ⟨[3],[],[],[],[],[],[],[],[],[],[5,6]⟩ Tryz.func71 rfl (Nz rfl) ?_;refine Xi {q:Nat // q≤l.length∧∀j (hj:j<l.length),j<q→s≠l[j]} (Xi (fun q=>⟨[(0,sl Af l),(3,.ref 3 0),(7,vi (l.map Af).length),(8,vi q.1)],[(3,.ro (Af s))],Ab⟩) (Xi (fun q=>l.length-q.1) (Yi (Xi ⟨0,AO _,fun _ _ h=>absurd h (Dt _)⟩ ?_) ?_)))
 ·exact⟨Z4,Z1,Fh,Tv⟩
 intro⟨i,i1,i2⟩;have i1:i≤l.length:=i1;have i2:∀j (hj:j<l.length),j<i→s≠l[j]:=i2;refine Yi (fun h1=>?_) (fun h1=>?_)
 ·have h1:(i:Int)<((l.map Af).length:Int):=h1;have n1:=Ld h1;refine Yi (Nz rfl) ?_;refine Xi (Af l[i]) (Yi (Pu n1) (Yi rfl ?_));refine Yi (Nz rfl) ?_;refine Yi (fun h2=>?_) (fun h2=>?_)
  ·have h2:(s.path:ByteArray)=l[i].path∧(s.ver.a:Int)=l[i].ver.a∧(s.ver.b:Int)=l[i].ver.b∧(s.ver.c:Int)=l[i].ver.c∧True:=h2;refine Yi (by kernel_rfl) ?_;refine Xi ⟨[(5,vi i)],[],Ab⟩ (Yi ⟨Z1,Tv,Fh,Tv⟩ ?_)
   exact .of_eq (show vi i=vi (ko l s) by unfold ko;rw[Jh n1 (fun j hj HZ=>Ar (i2 j hj HZ)) (Ax (iE h2)),E0])
  have h2:¬((s.path:ByteArray)=l[i].path∧(s.ver.a:Int)=l[i].ver.a∧(s.ver.b:Int)=l[i].ver.b∧(s.ver.c:Int)=l[i].ver.c∧True):=h2;refine Yi (by kernel_rfl) ?_;refine Xi ⟨[(0,sl Af l),(3,.ref 3 0),(7,vi (l.map Af).length),(8,vi i)],[(3,.ro (Af s))],Ab⟩ (Yi ⟨Z4,Z1,Fh,Tv⟩ ?_)
  refine Yi (Ii i (by omega)) ?_;refine Xi ⟨i+1,n1,fun j hj HZ=>if e:j<i then i2 j hj e else by
    have e:j=i:=by omega
    subst e;exact ml h2⟩ ?_
  exact⟨Dl l.length i (by omega),Z4,Z1,Fh,Tv⟩
 have h1:¬((i:Int)<((l.map Af).length:Int)):=h1;have n1:=Lc h1;exact .of_eq (show vi (-1)=vi (ko l s) by unfold ko;rw[Gc (p:=fun y=>decide (s=y)) fun j hj=>Ar (i2 j hj (by have q:=h1;rw[Lm]at q;omega))])
theorem ph(l:List Sl)(s:Sl)(hl:Cm l):PC 27 [sl Af l,.agg (Af s)] (vb (decide (s∈l))):=by
 refine Ps ⟨[3],[],[],[],[],[],[],[],[],[],[]⟩ Tryz.func27 rfl (Nz rfl) ?_;refine Yi (Nz rfl) ?_;refine Xi .pure (Xi _ (Yi (o71 l s hl) ?_));refine Yi (fun h1=>?_) (fun h1=>?_)
 ·have h1:(0:Int)≤((ko l s):Int):=h1;exact .of_eq (show vb true=vb (decide (s∈l)) by rw[Ax ((aE l s).1 h1)])
 have h1:¬((0:Int)≤((ko l s):Int)):=h1;exact .of_eq (show vb false=vb (decide (s∈l)) by rw[Ar (fun h=>h1 ((aE l s).2 h))])
theorem ru(l:List Sl)(hl:Cm l)(hp:∀s∈l,Gk s.path):PC 54 [sl Af l,.v (.func (.func 55) #[] #[])] (vb (Hz Gr l)):=by
 refine Ps ⟨[],[],[],[],[],[],[],[],[],[],[5,6]⟩ Tryz.func54 rfl (Nz rfl) ?_;refine Xi {q:Nat // q≤l.length∧∀j (hj:j<l.length),j<q→RF l[j]=true∧∀(h0:0<j),Gr (l[j-1]'(by omega)) l[j]<0} (Xi (fun q=>⟨[(0,sl Af l),(1,.v (.func (.func 55) #[] #[])),(7,vi (l.map Af).length),(8,vi q.1)],[],Ab⟩) (Xi (fun q=>l.length-q.1) (Yi (Xi ⟨0,AO _,fun _ _ h=>absurd h (Dt _)⟩ ?_) ?_)))
 ·exact⟨Z4,Tv,Fh,Tv⟩
 intro⟨i,i1,i2⟩;have i1:i≤l.length:=i1;have i2:∀j (hj:j<l.length),j<i→RF l[j]=true∧∀(h0:0<j),Gr (l[j-1]'(by omega)) l[j]<0:=i2;refine Yi (fun h1=>?_) (fun h1=>?_)
 ·have h1:(i:Int)<((l.map Af).length:Int):=h1;have n1:=Ld h1;refine Xi (Af l[i]) (Yi (Pu n1) (Yi rfl ?_));refine Yi (Nz rfl) ?_;refine BU (Bt (RF l[i])) (fun h2=>?_) (fun h2=>?_)
  ·have h2:(RF l[i])=true:=h2;refine Xi _ (Yi (cb h2 (sT l[i] (hp _ (Ap n1)))) ?_);refine Yi (fun h3=>?_) (fun h3=>?_)
   ·have h3:(0:Int)<(i:Int):=h3;refine Yi (by show B2 ((i:Int)-(1:Int));unfold B2;omega) ?_;have nw:i-1<l.length:=by omega
    refine Xi (Af (l[i-1])) (Yi (Yi (show(0:Int)≤(i:Int)-1 by omega) (by rw[show((i:Int)-1).toNat=i-1 by omega];exact Ch (Ge nw))) (Yi rfl ?_));refine Yi (Nz rfl) ?_;refine Xi (Af l[i]) (Yi (Pu n1) (Yi rfl ?_));refine Yi (Nz rfl) ?_;refine Xi _ (Yi (vJ l[i-1] l[i]) ?_);refine Yi (fun h4=>?_) (fun h4=>?_)
    ·have h4:(0:Int)≤((Gr l[i-1] l[i]):Int):=h4;refine Yi (by kernel_rfl) ?_;refine Xi ⟨[],[],Ab⟩ (Yi ⟨Tv,Tv,Fh,Tv⟩ ?_)
     exact .of_eq (show vb false=vb (Hz Gr l) by rw[show Hz Gr l=false from AI.2 (fun hi=>by have q:=(Ji.1 hi i n1).2 (by omega);exact absurd h4 (T6.2 q))])
    have h4:¬((0:Int)≤((Gr l[i-1] l[i]):Int)):=h4;refine Yi (by kernel_rfl) ?_;refine Xi ⟨[(0,sl Af l),(1,.v (.func (.func 55) #[] #[])),(7,vi (l.map Af).length),(8,vi i)],[],Ab⟩ (Yi ⟨Z4,Tv,Fh,Tv⟩ ?_)
    refine Yi (Ii i (by omega)) ?_;refine Xi ⟨i+1,n1,fun j hj HZ=>if e:j<i then i2 j hj e else by
      have e:j=i:=by omega
      subst e;exact⟨h2,fun _=>T6.1 h4⟩⟩ ?_
    exact⟨Dl l.length i (by omega),Z4,Tv,Fh,Tv⟩
   have h3:¬((0:Int)<(i:Int)):=h3;refine Yi (by kernel_rfl) ?_;refine Xi ⟨[(0,sl Af l),(1,.v (.func (.func 55) #[] #[])),(7,vi (l.map Af).length),(8,vi i)],[],Ab⟩ (Yi ⟨Z4,Tv,Fh,Tv⟩ ?_)
   refine Yi (Ii i (by omega)) ?_;refine Xi ⟨i+1,n1,fun j hj HZ=>if e:j<i then i2 j hj e else by
     have e:j=i:=by omega
     subst e;exact⟨h2,fun h0=>absurd h0 (by omega)⟩⟩ ?_
   exact⟨Dl l.length i (by omega),Z4,Tv,Fh,Tv⟩
  have h2:(RF l[i])=false:=h2;refine Xi _ (Yi (cb h2 (sT l[i] (hp _ (Ap n1)))) ?_);refine Yi (by kernel_rfl) ?_;refine Xi ⟨[],[],Ab⟩ (Yi ⟨Tv,Tv,Fh,Tv⟩ ?_)
  exact .of_eq (show vb false=vb (Hz Gr l) by rw[show Hz Gr l=false from AI.2 (fun hi=>by have q:=(Ji.1 hi i n1).1;rw[h2]at q;cases q)])
 have h1:¬((i:Int)<((l.map Af).length:Int)):=h1;have n1:=Lc h1;exact .of_eq (show vb true=vb (Hz Gr l) by rw[Ji.2 fun j hj=>i2 j hj (by have q:=h1;rw[Lm]at q;omega)])
theorem rt(l:List Sl)(hl:Cm l)(hp:∀s∈l,Gk s.path):PC 54 [sl Af l,.v (.func (.func 52) #[] #[])] (vb (Hz (fun a b=>Gq a.path b.path) l)):=by
 refine Ps ⟨[],[],[],[],[],[],[],[],[],[],[5,6]⟩ Tryz.func54 rfl (Nz rfl) ?_;refine Xi {q:Nat // q≤l.length∧∀j (hj:j<l.length),j<q→RF l[j]=true∧∀(h0:0<j),(fun a b=>Gq a.path b.path) (l[j-1]'(by omega)) l[j]<0} (Xi (fun q=>⟨[(0,sl Af l),(1,.v (.func (.func 52) #[] #[])),(7,vi (l.map Af).length),(8,vi q.1)],[],Ab⟩) (Xi (fun q=>l.length-q.1) (Yi (Xi ⟨0,AO _,fun _ _ h=>absurd h (Dt _)⟩ ?_) ?_)))
 ·exact⟨Z4,Tv,Fh,Tv⟩
 intro⟨i,i1,i2⟩;have i1:i≤l.length:=i1;have i2:∀j (hj:j<l.length),j<i→RF l[j]=true∧∀(h0:0<j),(fun a b=>Gq a.path b.path) (l[j-1]'(by omega)) l[j]<0:=i2;refine Yi (fun h1=>?_) (fun h1=>?_)
 ·have h1:(i:Int)<((l.map Af).length:Int):=h1;have n1:=Ld h1;refine Xi (Af l[i]) (Yi (Pu n1) (Yi rfl ?_));refine Yi (Nz rfl) ?_;refine BU (Bt (RF l[i])) (fun h2=>?_) (fun h2=>?_)
  ·have h2:(RF l[i])=true:=h2;refine Xi _ (Yi (cb h2 (sT l[i] (hp _ (Ap n1)))) ?_);refine Yi (fun h3=>?_) (fun h3=>?_)
   ·have h3:(0:Int)<(i:Int):=h3;refine Yi (by show B2 ((i:Int)-(1:Int));unfold B2;omega) ?_;have nw:i-1<l.length:=by omega
    refine Xi (Af (l[i-1])) (Yi (Yi (show(0:Int)≤(i:Int)-1 by omega) (by rw[show((i:Int)-1).toNat=i-1 by omega];exact Ch (Ge nw))) (Yi rfl ?_));refine Yi (Nz rfl) ?_;refine Xi (Af l[i]) (Yi (Pu n1) (Yi rfl ?_));refine Yi (Nz rfl) ?_;refine Xi _ (Yi (o52 l[i-1] l[i]) ?_);refine Yi (fun h4=>?_) (fun h4=>?_)
    ·have h4:(0:Int)≤((Gq l[i-1].path l[i].path):Int):=h4;refine Yi (by kernel_rfl) ?_;refine Xi ⟨[],[],Ab⟩ (Yi ⟨Tv,Tv,Fh,Tv⟩ ?_)
     exact .of_eq (show vb false=vb (Hz (fun a b=>Gq a.path b.path) l) by rw[show Hz (fun a b=>Gq a.path b.path) l=false from AI.2 (fun hi=>by have q:=(Ji.1 hi i n1).2 (by omega);exact absurd h4 (T6.2 q))])
    have h4:¬((0:Int)≤((Gq l[i-1].path l[i].path):Int)):=h4;refine Yi (by kernel_rfl) ?_;refine Xi ⟨[(0,sl Af l),(1,.v (.func (.func 52) #[] #[])),(7,vi (l.map Af).length),(8,vi i)],[],Ab⟩ (Yi ⟨Z4,Tv,Fh,Tv⟩ ?_)
    refine Yi (Ii i (by omega)) ?_;refine Xi ⟨i+1,n1,fun j hj HZ=>if e:j<i then i2 j hj e else by
      have e:j=i:=by omega
      subst e;exact⟨h2,fun _=>T6.1 h4⟩⟩ ?_
    exact⟨Dl l.length i (by omega),Z4,Tv,Fh,Tv⟩
   have h3:¬((0:Int)<(i:Int)):=h3;refine Yi (by kernel_rfl) ?_;refine Xi ⟨[(0,sl Af l),(1,.v (.func (.func 52) #[] #[])),(7,vi (l.map Af).length),(8,vi i)],[],Ab⟩ (Yi ⟨Z4,Tv,Fh,Tv⟩ ?_)
   refine Yi (Ii i (by omega)) ?_;refine Xi ⟨i+1,n1,fun j hj HZ=>if e:j<i then i2 j hj e else by
     have e:j=i:=by omega
     subst e;exact⟨h2,fun h0=>absurd h0 (by omega)⟩⟩ ?_
   exact⟨Dl l.length i (by omega),Z4,Tv,Fh,Tv⟩
  have h2:(RF l[i])=false:=h2;refine Xi _ (Yi (cb h2 (sT l[i] (hp _ (Ap n1)))) ?_);refine Yi (by kernel_rfl) ?_;refine Xi ⟨[],[],Ab⟩ (Yi ⟨Tv,Tv,Fh,Tv⟩ ?_)
  exact .of_eq (show vb false=vb (Hz (fun a b=>Gq a.path b.path) l) by rw[show Hz (fun a b=>Gq a.path b.path) l=false from AI.2 (fun hi=>by have q:=(Ji.1 hi i n1).1;rw[h2]at q;cases q)])
 have h1:¬((i:Int)<((l.map Af).length:Int)):=h1;have n1:=Lc h1;exact .of_eq (show vb true=vb (Hz (fun a b=>Gq a.path b.path) l) by rw[Ji.2 fun j hj=>i2 j hj (by have q:=h1;rw[Lm]at q;omega)])
structure Wk where
 rep:List Rl
 exc:List Sl
 pin:List Sl
abbrev BK(w:Wk):List AV:=[sl Al w.rep,sl Af w.exc,sl Af w.pin]
structure bv(w:Wk):Prop where
 rep:∀r∈w.rep,IR r
 reps:Cm w.rep
 exc:Cm w.exc
 pin:Cm w.pin
 excs:∀s∈w.exc,Gk s.path
 pins:∀s∈w.pin,Gk s.path
abbrev PH:Sl→Sl→Int:=fun a b=>Gq a.path b.path
def CQ(w:Wk):Int:=if A4 w.rep≠0∨Hz Gr w.exc=false∨Hz PH w.pin=false then 1 else if(w.pin.any fun s=>decide (s∈w.exc))=true then 17 else 0
theorem Xc{a b:ByteArray}:Gq a b<0↔Fg a b=true:=by
 unfold Gq
 by_cases h:Fg a b=true
 ·rw[Aw h];simp[h]
 ·rw[Ah h];split<;>simp[h]
theorem HX{a b:ByteArray}:Gq a b=0↔a=b:=by
 unfold Gq;constructor
 ·intro h;split at h
  ·cases h
  ·rename_i h1;split at h
   ·cases h
   ·rename_i h2;exact Hp (by simpa using h1) (by simpa using h2)
 ·rintro rfl
  rw[Ah (by rw[Dg];decide),Ah (by rw[Dg];decide)]
theorem VX{w:Wk}(h:A4 w.rep≠0∨Hz Gr w.exc=false∨Hz PH w.pin=false):CQ w=1:=by unfold CQ;rw[Aw h]
theorem ae{w:Wk}(h1:A4 w.rep=0)(h2:Hz Gr w.exc=true)(h3:Hz PH w.pin=true):CQ w=if(w.pin.any fun s=>decide (s∈w.exc))=true then 17 else 0:=by
 unfold CQ;rw[Ah (by rintro(c | c | c);exact c h1;rw[h2]at c;cases c;rw[h3]at c;cases c)]
theorem yk(s:Sl)(w:Wk)(hl:Cm w.exc):PC 56 [.agg (Af s),.cptr (BK w)] (vb (decide (s∈w.exc))):=by
 refine Ps ⟨[2],[],[],[],[],[],[],[],[],[],[]⟩ Tryz.func56 rfl (Nz rfl) ?_;refine Yi (Nz rfl) ?_;refine BU (Bt (decide (s∈w.exc))) (fun h1=>?_) (fun h1=>?_)
 ·have h1:(decide (s∈w.exc))=true:=h1;refine Xi .pure (Xi _ (Yi (cb h1 (ph w.exc s hl)) ?_));exact .of_eq (show vb true=vb (decide (s∈w.exc)) by rw[h1])
 have h1:(decide (s∈w.exc))=false:=h1;refine Xi .pure (Xi _ (Yi (cb h1 (ph w.exc s hl)) ?_));exact .of_eq (show vb false=vb (decide (s∈w.exc)) by rw[h1])
theorem sP(w:Wk)(hW:bv w):PC 13 [.agg (BK w)] (vi (CQ w)):=by
 refine Ps ⟨[1],[],[],[],[],[],[],[],[],[],[3,4]⟩ Tryz.func13 rfl (Nz rfl) ?_;refine Xi .pure (Xi _ (Yi ((jG Se w.rep [] hW.rep).args (args':=[.agg [sl Al w.rep,.v (.slice none 0 0)]]) ⟨Hm.agg ⟨.refl _,.nil,trivial⟩,trivial⟩) ?_));refine Yi (fun h1=>?_) (fun h1=>?_)
 ·have h1:((A4 w.rep):Int)≠(0:Int):=h1;refine Xi ⟨[],[],Ab⟩ (Yi ⟨Tv,Tv,Fh,Tv⟩ ?_)
  exact .of_eq (Ac vi (VX (.inl h1)).symm)
 have h1:((A4 w.rep):Int)=(0:Int):=Bn h1;refine BU (Bt (Hz Gr w.exc)) (fun h3=>?_) (fun h3=>?_)
 ·have h3:(Hz Gr w.exc)=true:=h3;refine Xi .pure (Xi _ (Yi (cb h3 (ru w.exc hW.exc hW.excs)) ?_));refine BU (Bt (Hz PH w.pin)) (fun h4=>?_) (fun h4=>?_)
  ·have h4:(Hz PH w.pin)=true:=h4;refine Xi .pure (Xi _ (Yi (cb h4 (rt w.pin hW.pin hW.pins)) ?_));refine Xi ⟨[(1,.ref 1 0)],[(1,.ro (BK w))],Ab⟩ (Yi ⟨Z1,Z1,Fh,Tv⟩ ?_)
   refine BU (Bt (w.pin.any fun s=>decide (s∈w.exc))) (fun h5=>?_) (fun h5=>?_)
   ·have h5:(w.pin.any fun s=>decide (s∈w.exc))=true:=h5;refine Xi .pure (Xi _ (Yi (cb h5 (yg (fF:=56) (caps:=[.cptr (BK w)]) (fun c hc=>by obtain rfl:=Am.1 hc;intro h;rfl) w.pin (fun s=>decide (s∈w.exc)) (fun s _=>yk s w hW.exc) hW.pin)) ?_));exact .of_eq (Ac vi (show 17=CQ w by rw[ae h1 h3 h4,Aw h5]))
   have h5:(w.pin.any fun s=>decide (s∈w.exc))=false:=h5;refine Xi .pure (Xi _ (Yi (cb h5 (yg (fF:=56) (caps:=[.cptr (BK w)]) (fun c hc=>by obtain rfl:=Am.1 hc;intro h;rfl) w.pin (fun s=>decide (s∈w.exc)) (fun s _=>yk s w hW.exc) hW.pin)) ?_));exact .of_eq (Ac vi (show 0=CQ w by rw[ae h1 h3 h4,Ah (by rw[h5];decide)]))
  have h4:(Hz PH w.pin)=false:=h4;refine Xi .pure (Xi _ (Yi (cb h4 (rt w.pin hW.pin hW.pins)) ?_));refine Xi ⟨[],[],Ab⟩ (Yi ⟨Tv,Tv,Fh,Tv⟩ ?_)
  exact .of_eq (Ac vi (VX (.inr (.inr h4))).symm)
 have h3:(Hz Gr w.exc)=false:=h3;refine Xi .pure (Xi _ (Yi (cb h3 (ru w.exc hW.exc hW.excs)) ?_));refine Xi ⟨[],[],Ab⟩ (Yi ⟨Tv,Tv,Fh,Tv⟩ ?_)
 exact .of_eq (Ac vi (VX (.inr (.inl h3))).symm)
end Go.Eng
