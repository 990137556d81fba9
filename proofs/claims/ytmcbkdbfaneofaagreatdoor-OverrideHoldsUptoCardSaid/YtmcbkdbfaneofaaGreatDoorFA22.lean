/- Lemmas for the claims of this seat, without a condition: part 22 (O3, R12, R13, O4). -/
import Derived.Test.YtmcbkdbfaneofaaGreatDoorFA21
set_option maxHeartbeats 4000000
namespace Go.Eng
open Go.Proofs
theorem o70{fF:Nat}{caps:List AV}(hs:EM caps)(l:List (Sl))(p:Sl→Bool)(hF:∀x∈l,PC fF ([.agg (Ae x)]++caps) (vb (p x)))(hl:l.length<9223372036854775807) :
  PC 70 [sl Ae l,.clo fF caps] (vi (H3 p l 0)):=by
 refine Ps F6 Tryz.func70 rfl (Nz rfl) ?_;refine Xi {i:Nat // i≤l.length∧∀j (hj:j<l.length),j<i→p l[j]=false} (Xi (fun i=>⟨[(0,sl Ae l),(1,.clo fF caps),(7,vi (l.map Ae).length),(8,vi i.1)],[],Aa⟩) (Xi (fun i=>l.length-i.1) (Yi (Xi ⟨0,by simp⟩ ?_) ?_)))
 ·exact⟨⟨Zr,⟨rfl,hs.ids _⟩,Zr,Zr,Tv⟩,Tv,Fh,Tv⟩
 ·intro⟨i,h1,h2⟩;refine Yi ?_ ?_
  ·intro h;have h:(i:Int)<(l.map Ae).length:=h;have h:i<l.length:=by simpa using h
   have hg:l[i]?=some l[i]:=Ge h;refine Xi (Ae l[i]) (Yi (Yi (Nn i) (by simp[hg])) (Yi rfl (Yi (Nz rfl) ?_)));have DF:∀h,PC fF ([.agg (Ae l[i])]++caps.map (str0 h)) (vb (p l[i])):=fun h=>by rw[hs.map];exact hF l[i] (Ap _)
   cases hp:p l[i]with
   |true =>
    rw[hp]at DF;refine Xi .pure (Xi (vb true) (Yi (DF _) ?_));rw[Ji h (fun j hj H2=>h2 j hj H2) hp,E4];exact .refl _
   |false =>
    rw[hp]at DF;refine Xi .pure (Xi (vb false) (Yi (DF _) ?_));refine Yi (Ii i (by omega)) ?_;refine Xi ⟨i+1,by omega,fun j hj H2=>?_⟩ ?_
    ·by_cases e:j=i
     ·subst e;exact hp
     ·exact h2 j hj (by omega)
    ·exact⟨Dl l.length i (by omega),⟨Zr,⟨rfl,hs.ids _⟩,Zr,Zr,Tv⟩,Tv,Fh,Tv⟩
  ·intro h;have h:¬(i:Int)<(l.map Ae).length:=h;have h:¬i<l.length:=by simpa using h
   rw[Gk fun j hj=>h2 j hj (by omega)];exact .refl _
theorem wi{fF:Nat}{caps:List AV}(hs:EM caps)(l:List (Sl))(p:Sl→Bool)(hF:∀x∈l,PC fF ([.agg (Ae x)]++caps) (vb (p x)))(hl:Ci l) :
  PC 25 [sl Ae l,.clo fF caps] (vb (l.any p)):=by
 refine Ps F6 Tryz.func25 rfl (Nz rfl) ?_;have hi:=o70 hs l p hF (by unfold Ci at hl;omega);have DF:∀h,PC 70 [sl Ae l,.clo fF (caps.map (str0 h))] (vi (H3 p l 0)):=fun h=>by rw[hs.map];exact hi
 refine Xi .pure (Xi _ (Yi (DF _) ?_));have ha:=La (p:=p) l 0 (AY 0);refine Yi ?_ ?_
 ·intro h;have h:(0:Int)≤H3 p l 0:=h;rw[←ha,Ax h];exact .refl _
 ·intro h;have h:¬(0:Int)≤H3 p l 0:=h;rw[←ha,Aq h];exact .refl _
def Gw(a b:Sl):Int:=if Gv a.path b.path≠0 then Gv a.path b.path else LV a.ver b.ver
def RG(s:Sl):Bool:=decide (Ct s.path=some s.ver.a)&&CO s.ver
def kL(l:List Sl)(s:Sl):Int:=H3 (fun y=>decide (s=y)) l 0
theorem iU{a b:Sl}(h:a.path=b.path∧a.ver.a=b.ver.a∧a.ver.b=b.ver.b∧a.ver.c=b.ver.c∧True):a=b:=by
 obtain⟨p,⟨x,y,z⟩⟩:=a;obtain⟨p',⟨x',y',z'⟩⟩:=b;obtain⟨h1,h2,h3,h4,_⟩:=h;cases h1;cases h2;cases h3;cases h4;rfl
theorem mG{a b:Sl}(h:¬(a.path=b.path∧a.ver.a=b.ver.a∧a.ver.b=b.ver.b∧a.ver.c=b.ver.c∧True)):a≠b:=fun e=>h (by subst e;exact⟨rfl,rfl,rfl,rfl,trivial⟩)
theorem aH(l:List Sl)(s:Sl):(0≤kL l s)↔s∈l:=by
 have:=La (p:=fun y=>decide (s=y)) l 0 (AY 0)
 unfold kL;have h2:(0≤H3 (fun y=>decide (s=y)) l 0)↔(l.any fun y=>decide (s=y))=true:=by rw[←this,Ay]
 rw[h2,Bc];constructor
 ·rintro⟨y,hy,e⟩;simp only[Ay]at e;subst e;exact hy
 ·intro h;exact⟨s,h,by simp⟩
theorem rM(r:Rl):PC 42 [.agg (Ah r)] (.agg (Ae ⟨r.path,r.ver⟩)):=by
 refine Ps ⟨[1],[],[],[],[],[],[],[],[],[],[]⟩ Tryz.func42 rfl (Nz rfl) ?_;refine Yi (Nz rfl) ?_;refine Yi (Nz rfl) ?_;refine Yi (Nz rfl) ?_;exact .refl _
theorem wl(a b:Sl):PC 55 [.agg (Ae a),.agg (Ae b)] (vi (Gw a b)):=by
 refine Ps ⟨[2,3],[],[],[],[],[],[],[],[],[],[]⟩ Tryz.func55 rfl (Nz rfl) ?_;refine Xi _ (Yi (jU a.path b.path) ?_);refine Yi (Nz rfl) ?_;refine Yi (Nz rfl) ?_;refine Xi _ (Yi (pV a.ver b.ver) ?_);refine Xi _ (Yi (pU (Gv a.path b.path) (LV a.ver b.ver)) ?_);refine Yi (by kernel_rfl) ?_;exact .refl _
theorem yM(r s:Rl):PC 39 [.agg (Ah r),.agg (Ah s)] (vi (Gw ⟨r.path,r.ver⟩ ⟨s.path,s.ver⟩)):=by
 refine Ps ⟨[],[],[],[],[],[],[],[],[],[],[]⟩ Tryz.func39 rfl (Nz rfl) ?_;refine Yi (Nz rfl) ?_;refine Xi _ (Yi (rM r) ?_);refine Yi (Nz rfl) ?_;refine Xi _ (Yi (rM s) ?_);refine Xi _ (Yi (wl ⟨r.path,r.ver⟩ ⟨s.path,s.ver⟩) ?_);refine Yi (by kernel_rfl) ?_;exact .refl _
theorem o52(a b:Sl):PC 52 [.agg (Ae a),.agg (Ae b)] (vi (Gv a.path b.path)):=by
 refine Ps ⟨[2,3],[],[],[],[],[],[],[],[],[],[]⟩ Tryz.func52 rfl (Nz rfl) ?_;refine Xi .pure (Xi _ (Yi (jU a.path b.path) ?_));exact .refl _
theorem o61(a b:Sl):PC 61 [.agg (Ae a),.agg (Ae b)] (vi (Gv a.path b.path)):=by
 refine Ps ⟨[2,3],[],[],[],[],[],[],[],[],[],[]⟩ Tryz.func61 rfl (Nz rfl) ?_;refine Xi .pure (Xi _ (Yi (jU a.path b.path) ?_));exact .refl _
theorem ws(s:Sl)(e:Ct s.path=none)(hl:PC 91 [vs s.path] (.tup [vs ⟨#[]⟩,vi 0,vi 4])):PC 82 [.agg (Ae s)] (vb (RG s)):=by
 refine Ps ⟨[1],[],[],[],[],[],[],[],[],[],[2]⟩ Tryz.func82 rfl (Nz rfl) ?_;refine Xi .pure (Xi _ (Yi hl ?_));refine Xi ⟨[(1,.ref 1 0),(4,vi 0),(5,vi 4)],[(1,.ro (Ae s))],Aa⟩ (Yi ⟨Z3,Z1,Fh,Tv⟩ ?_)
 refine Yi (fun h=>absurd h (by decide)) (fun _=>?_);exact .of_eq (show vb false=vb (RG s) by unfold RG;rw[e,Aq (by intro h;cases h)];rfl)
theorem wt(s:Sl)(m:Int)(e:Ct s.path=some m)(hl:PC 91 [vs s.path] (.tup [vs (gJ s.path),vi m,vi 0])):PC 82 [.agg (Ae s)] (vb (RG s)):=by
 refine Ps ⟨[1],[],[],[],[],[],[],[],[],[],[2]⟩ Tryz.func82 rfl (Nz rfl) ?_;refine Xi .pure (Xi _ (Yi hl ?_));refine Xi ⟨[(1,.ref 1 0),(4,vi m),(5,vi 0)],[(1,.ro (Ae s))],Aa⟩ (Yi ⟨Z3,Z1,Fh,Tv⟩ ?_)
 refine Yi (fun _=>?_) (fun h=>absurd (by decide) h);refine Yi (Nz rfl) ?_;refine BH (Bt (CO s.ver)) (fun h1=>?_) (fun h1=>?_)
 ·have h1:(CO s.ver)=true:=h1;refine Xi .pure (Xi _ (Yi (cb h1 (jT s.ver)) ?_));refine Yi (fun h2=>?_) (fun h2=>?_)
  ·have h2:(s.ver.a:Int)=(m:Int):=h2;exact .of_eq (show vb true=vb (RG s) by unfold RG;rw[e,Ax (Ac some h2.symm),h1];rfl)
  have h2:¬((s.ver.a:Int)=(m:Int)):=h2;exact .of_eq (show vb false=vb (RG s) by unfold RG;rw[e,Aq (fun h=>h2 (BP h).symm),h1];rfl)
 have h1:(CO s.ver)=false:=h1;refine Xi .pure (Xi _ (Yi (cb h1 (jT s.ver)) ?_));exact .of_eq (show vb false=vb (RG s) by unfold RG;rw[h1,DJ])
theorem tj(s:Sl)(hp:Gr s.path):PC 82 [.agg (Ae s)] (vb (RG s)):=by
 have hl:=YP s.path hp;cases e:Ct s.path with
 |none=>exact ws s e (by have q:=hl;unfold U9 at q;rw[e]at q;exact q)
 |some m=>exact wt s m e (by have q:=hl;unfold U9 at q;rw[e]at q;exact q)
def SX(c:Sl→Sl→Int):Option Sl→List Sl→Bool
 |_,[]=>true
 |p,y::l=>RG y&&(match p with |none=>true |some z=>decide (c z y<0))&&SX c (some y) l
def HB(c:Sl→Sl→Int)(l:List Sl):Bool:=SX c none l
theorem SY(c:Sl→Sl→Int):∀(l:List Sl) (p:Option Sl),SX c p l=true↔(∀i (h:i<l.length),RG l[i]=true∧∀(h0:0<i),c (l[i-1]'(by omega)) l[i]<0)∧∀z,p=some z→∀(h:0<l.length),c z l[0]<0
 | [],p=>by simp[SX]
 |y::l,p=>by
  have ih:=SY c l (some y);unfold SX;rw[Ag,Ag,ih];constructor
  ·rintro⟨⟨h1,h2⟩,h3,h4⟩
   refine⟨fun i h=>?_,fun z e h=>?_⟩
   ·cases i with
    |zero=>exact⟨h1,fun h0=>absurd h0 (Nat.lt_irrefl _)⟩
    |succ i =>
     have hi:i<l.length:=by simpa using h
     refine⟨(h3 i hi).1,fun _=>?_⟩;cases i with
     |zero=>exact h4 y rfl hi
     |succ i=>exact(h3 (i+1) hi).2 (by omega)
   ·subst e;simpa using h2
  ·rintro⟨h1,h2⟩
   refine⟨⟨(h1 0 (by simp)).1,?_⟩,fun i h=>?_,fun z e h=>?_⟩
   ·cases p with
    |none=>rfl
    |some z=>exact Ax (h2 z rfl (Nat.succ_pos _))
   ·refine⟨(h1 (i+1) (by simpa using h)).1,fun h0=>?_⟩
    have:=(h1 (i+1) (by simpa using h)).2 (by omega)
    obtain⟨k,rfl⟩:∃k,i=k+1:=⟨i-1,by omega⟩;exact this
   ·cases e
    exact(h1 1 (by simpa using h)).2 (by omega)
theorem Jj{c:Sl→Sl→Int}{l:List Sl}:HB c l=true↔∀i (h:i<l.length),RG l[i]=true∧∀(h0:0<i),c (l[i-1]'(by omega)) l[i]<0:=by
 unfold HB;rw[SY];exact⟨fun h=>h.1,fun h=>⟨h,fun _ e=>by cases e⟩⟩
def ZO(l:List Sl)(p:ByteArray):Option Sl:=l.find? fun y=>decide (y.path=p)
theorem o71(l:List Sl)(s:Sl)(hl:Ci l):PC 71 [sl Ae l,.agg (Ae s)] (vi (kL l s)):=by
 refine Ps ⟨[3],[],[],[],[],[],[],[],[],[],[5,6]⟩ Tryz.func71 rfl (Nz rfl) ?_;refine Xi {q:Nat // q≤l.length∧∀j (hj:j<l.length),j<q→s≠l[j]} (Xi (fun q=>⟨[(0,sl Ae l),(3,.ref 3 0),(7,vi (l.map Ae).length),(8,vi q.1)],[(3,.ro (Ae s))],Aa⟩) (Xi (fun q=>l.length-q.1) (Yi (Xi ⟨0,AL _,fun _ _ h=>absurd h (Du _)⟩ ?_) ?_)))
 ·exact⟨Z4,Z1,Fh,Tv⟩
 intro⟨i,i1,i2⟩;have i1:i≤l.length:=i1;have i2:∀j (hj:j<l.length),j<i→s≠l[j]:=i2;refine Yi (fun h1=>?_) (fun h1=>?_)
 ·have h1:(i:Int)<((l.map Ae).length:Int):=h1;have n1:=Ka h1;refine Yi (Nz rfl) ?_;refine Xi (Ae l[i]) (Yi (OO n1) (Yi rfl ?_));refine Yi (Nz rfl) ?_;refine Yi (fun h2=>?_) (fun h2=>?_)
  ·have h2:(s.path:ByteArray)=l[i].path∧(s.ver.a:Int)=l[i].ver.a∧(s.ver.b:Int)=l[i].ver.b∧(s.ver.c:Int)=l[i].ver.c∧True:=h2;refine Yi (by kernel_rfl) ?_;refine Xi ⟨[(5,vi i)],[],Aa⟩ (Yi ⟨Z1,Tv,Fh,Tv⟩ ?_)
   exact .of_eq (show vi i=vi (kL l s) by unfold kL;rw[Ji n1 (fun j hj H2=>Aq (i2 j hj H2)) (Ax (iU h2)),E4])
  have h2:¬((s.path:ByteArray)=l[i].path∧(s.ver.a:Int)=l[i].ver.a∧(s.ver.b:Int)=l[i].ver.b∧(s.ver.c:Int)=l[i].ver.c∧True):=h2;refine Yi (by kernel_rfl) ?_;refine Xi ⟨[(0,sl Ae l),(3,.ref 3 0),(7,vi (l.map Ae).length),(8,vi i)],[(3,.ro (Ae s))],Aa⟩ (Yi ⟨Z4,Z1,Fh,Tv⟩ ?_)
  refine Yi (Ii i (by omega)) ?_;refine Xi ⟨i+1,n1,fun j hj H2=>if e:j<i then i2 j hj e else by
    have e:j=i:=by omega
    subst e;exact mG h2⟩ ?_
  exact⟨Dl l.length i (by omega),Z4,Z1,Fh,Tv⟩
 have h1:¬((i:Int)<((l.map Ae).length:Int)):=h1;have n1:=KC h1;exact .of_eq (show vi (-1)=vi (kL l s) by unfold kL;rw[Gk (p:=fun y=>decide (s=y)) fun j hj=>Aq (i2 j hj (by have q:=h1;rw[Lm]at q;omega))])
theorem ii(l:List Sl)(s:Sl)(hl:Ci l):PC 27 [sl Ae l,.agg (Ae s)] (vb (decide (s∈l))):=by
 refine Ps ⟨[3],[],[],[],[],[],[],[],[],[],[]⟩ Tryz.func27 rfl (Nz rfl) ?_;refine Yi (Nz rfl) ?_;refine Xi .pure (Xi _ (Yi (o71 l s hl) ?_));refine Yi (fun h1=>?_) (fun h1=>?_)
 ·have h1:(0:Int)≤((kL l s):Int):=h1;exact .of_eq (show vb true=vb (decide (s∈l)) by rw[Ax ((aH l s).1 h1)])
 have h1:¬((0:Int)≤((kL l s):Int)):=h1;exact .of_eq (show vb false=vb (decide (s∈l)) by rw[Aq (fun h=>h1 ((aH l s).2 h))])
theorem rP(l:List Sl)(hl:Ci l)(hp:∀s∈l,Gr s.path):PC 54 [sl Ae l,.v (.func (.func 55) #[] #[])] (vb (HB Gw l)):=by
 refine Ps ⟨[],[],[],[],[],[],[],[],[],[],[5,6]⟩ Tryz.func54 rfl (Nz rfl) ?_;refine Xi {q:Nat // q≤l.length∧∀j (hj:j<l.length),j<q→RG l[j]=true∧∀(h0:0<j),Gw (l[j-1]'(by omega)) l[j]<0} (Xi (fun q=>⟨[(0,sl Ae l),(1,.v (.func (.func 55) #[] #[])),(7,vi (l.map Ae).length),(8,vi q.1)],[],Aa⟩) (Xi (fun q=>l.length-q.1) (Yi (Xi ⟨0,AL _,fun _ _ h=>absurd h (Du _)⟩ ?_) ?_)))
 ·exact⟨Z4,Tv,Fh,Tv⟩
 intro⟨i,i1,i2⟩;have i1:i≤l.length:=i1;have i2:∀j (hj:j<l.length),j<i→RG l[j]=true∧∀(h0:0<j),Gw (l[j-1]'(by omega)) l[j]<0:=i2;refine Yi (fun h1=>?_) (fun h1=>?_)
 ·have h1:(i:Int)<((l.map Ae).length:Int):=h1;have n1:=Ka h1;refine Xi (Ae l[i]) (Yi (OO n1) (Yi rfl ?_));refine Yi (Nz rfl) ?_;refine BH (Bt (RG l[i])) (fun h2=>?_) (fun h2=>?_)
  ·have h2:(RG l[i])=true:=h2;refine Xi _ (Yi (cb h2 (tj l[i] (hp _ (Ap n1)))) ?_);refine Yi (fun h3=>?_) (fun h3=>?_)
   ·have h3:(0:Int)<(i:Int):=h3;refine Yi (by show B3 ((i:Int)-(1:Int));unfold B3;omega) ?_;have nO:i-1<l.length:=by omega
    refine Xi (Ae (l[i-1])) (Yi (Yi (show(0:Int)≤(i:Int)-1 by omega) (by rw[show((i:Int)-1).toNat=i-1 by omega];exact Ch (Ge nO))) (Yi rfl ?_));refine Yi (Nz rfl) ?_;refine Xi (Ae l[i]) (Yi (OO n1) (Yi rfl ?_));refine Yi (Nz rfl) ?_;refine Xi _ (Yi (wl l[i-1] l[i]) ?_);refine Yi (fun h4=>?_) (fun h4=>?_)
    ·have h4:(0:Int)≤((Gw l[i-1] l[i]):Int):=h4;refine Yi (by kernel_rfl) ?_;refine Xi ⟨[],[],Aa⟩ (Yi ⟨Tv,Tv,Fh,Tv⟩ ?_)
     exact .of_eq (show vb false=vb (HB Gw l) by rw[show HB Gw l=false from AK.2 (fun hi=>by have q:=(Jj.1 hi i n1).2 (by omega);exact absurd h4 (T2.2 q))])
    have h4:¬((0:Int)≤((Gw l[i-1] l[i]):Int)):=h4;refine Yi (by kernel_rfl) ?_;refine Xi ⟨[(0,sl Ae l),(1,.v (.func (.func 55) #[] #[])),(7,vi (l.map Ae).length),(8,vi i)],[],Aa⟩ (Yi ⟨Z4,Tv,Fh,Tv⟩ ?_)
    refine Yi (Ii i (by omega)) ?_;refine Xi ⟨i+1,n1,fun j hj H2=>if e:j<i then i2 j hj e else by
      have e:j=i:=by omega
      subst e;exact⟨h2,fun _=>T2.1 h4⟩⟩ ?_
    exact⟨Dl l.length i (by omega),Z4,Tv,Fh,Tv⟩
   have h3:¬((0:Int)<(i:Int)):=h3;refine Yi (by kernel_rfl) ?_;refine Xi ⟨[(0,sl Ae l),(1,.v (.func (.func 55) #[] #[])),(7,vi (l.map Ae).length),(8,vi i)],[],Aa⟩ (Yi ⟨Z4,Tv,Fh,Tv⟩ ?_)
   refine Yi (Ii i (by omega)) ?_;refine Xi ⟨i+1,n1,fun j hj H2=>if e:j<i then i2 j hj e else by
     have e:j=i:=by omega
     subst e;exact⟨h2,fun h0=>absurd h0 (by omega)⟩⟩ ?_
   exact⟨Dl l.length i (by omega),Z4,Tv,Fh,Tv⟩
  have h2:(RG l[i])=false:=h2;refine Xi _ (Yi (cb h2 (tj l[i] (hp _ (Ap n1)))) ?_);refine Yi (by kernel_rfl) ?_;refine Xi ⟨[],[],Aa⟩ (Yi ⟨Tv,Tv,Fh,Tv⟩ ?_)
  exact .of_eq (show vb false=vb (HB Gw l) by rw[show HB Gw l=false from AK.2 (fun hi=>by have q:=(Jj.1 hi i n1).1;rw[h2]at q;cases q)])
 have h1:¬((i:Int)<((l.map Ae).length:Int)):=h1;have n1:=KC h1;exact .of_eq (show vb true=vb (HB Gw l) by rw[Jj.2 fun j hj=>i2 j hj (by have q:=h1;rw[Lm]at q;omega)])
theorem rO(l:List Sl)(hl:Ci l)(hp:∀s∈l,Gr s.path):PC 54 [sl Ae l,.v (.func (.func 52) #[] #[])] (vb (HB (fun a b=>Gv a.path b.path) l)):=by
 refine Ps ⟨[],[],[],[],[],[],[],[],[],[],[5,6]⟩ Tryz.func54 rfl (Nz rfl) ?_;refine Xi {q:Nat // q≤l.length∧∀j (hj:j<l.length),j<q→RG l[j]=true∧∀(h0:0<j),(fun a b=>Gv a.path b.path) (l[j-1]'(by omega)) l[j]<0} (Xi (fun q=>⟨[(0,sl Ae l),(1,.v (.func (.func 52) #[] #[])),(7,vi (l.map Ae).length),(8,vi q.1)],[],Aa⟩) (Xi (fun q=>l.length-q.1) (Yi (Xi ⟨0,AL _,fun _ _ h=>absurd h (Du _)⟩ ?_) ?_)))
 ·exact⟨Z4,Tv,Fh,Tv⟩
 intro⟨i,i1,i2⟩;have i1:i≤l.length:=i1;have i2:∀j (hj:j<l.length),j<i→RG l[j]=true∧∀(h0:0<j),(fun a b=>Gv a.path b.path) (l[j-1]'(by omega)) l[j]<0:=i2;refine Yi (fun h1=>?_) (fun h1=>?_)
 ·have h1:(i:Int)<((l.map Ae).length:Int):=h1;have n1:=Ka h1;refine Xi (Ae l[i]) (Yi (OO n1) (Yi rfl ?_));refine Yi (Nz rfl) ?_;refine BH (Bt (RG l[i])) (fun h2=>?_) (fun h2=>?_)
  ·have h2:(RG l[i])=true:=h2;refine Xi _ (Yi (cb h2 (tj l[i] (hp _ (Ap n1)))) ?_);refine Yi (fun h3=>?_) (fun h3=>?_)
   ·have h3:(0:Int)<(i:Int):=h3;refine Yi (by show B3 ((i:Int)-(1:Int));unfold B3;omega) ?_;have nO:i-1<l.length:=by omega
    refine Xi (Ae (l[i-1])) (Yi (Yi (show(0:Int)≤(i:Int)-1 by omega) (by rw[show((i:Int)-1).toNat=i-1 by omega];exact Ch (Ge nO))) (Yi rfl ?_));refine Yi (Nz rfl) ?_;refine Xi (Ae l[i]) (Yi (OO n1) (Yi rfl ?_));refine Yi (Nz rfl) ?_;refine Xi _ (Yi (o52 l[i-1] l[i]) ?_);refine Yi (fun h4=>?_) (fun h4=>?_)
    ·have h4:(0:Int)≤((Gv l[i-1].path l[i].path):Int):=h4;refine Yi (by kernel_rfl) ?_;refine Xi ⟨[],[],Aa⟩ (Yi ⟨Tv,Tv,Fh,Tv⟩ ?_)
     exact .of_eq (show vb false=vb (HB (fun a b=>Gv a.path b.path) l) by rw[show HB (fun a b=>Gv a.path b.path) l=false from AK.2 (fun hi=>by have q:=(Jj.1 hi i n1).2 (by omega);exact absurd h4 (T2.2 q))])
    have h4:¬((0:Int)≤((Gv l[i-1].path l[i].path):Int)):=h4;refine Yi (by kernel_rfl) ?_;refine Xi ⟨[(0,sl Ae l),(1,.v (.func (.func 52) #[] #[])),(7,vi (l.map Ae).length),(8,vi i)],[],Aa⟩ (Yi ⟨Z4,Tv,Fh,Tv⟩ ?_)
    refine Yi (Ii i (by omega)) ?_;refine Xi ⟨i+1,n1,fun j hj H2=>if e:j<i then i2 j hj e else by
      have e:j=i:=by omega
      subst e;exact⟨h2,fun _=>T2.1 h4⟩⟩ ?_
    exact⟨Dl l.length i (by omega),Z4,Tv,Fh,Tv⟩
   have h3:¬((0:Int)<(i:Int)):=h3;refine Yi (by kernel_rfl) ?_;refine Xi ⟨[(0,sl Ae l),(1,.v (.func (.func 52) #[] #[])),(7,vi (l.map Ae).length),(8,vi i)],[],Aa⟩ (Yi ⟨Z4,Tv,Fh,Tv⟩ ?_)
   refine Yi (Ii i (by omega)) ?_;refine Xi ⟨i+1,n1,fun j hj H2=>if e:j<i then i2 j hj e else by
     have e:j=i:=by omega
     subst e;exact⟨h2,fun h0=>absurd h0 (by omega)⟩⟩ ?_
   exact⟨Dl l.length i (by omega),Z4,Tv,Fh,Tv⟩
  have h2:(RG l[i])=false:=h2;refine Xi _ (Yi (cb h2 (tj l[i] (hp _ (Ap n1)))) ?_);refine Yi (by kernel_rfl) ?_;refine Xi ⟨[],[],Aa⟩ (Yi ⟨Tv,Tv,Fh,Tv⟩ ?_)
  exact .of_eq (show vb false=vb (HB (fun a b=>Gv a.path b.path) l) by rw[show HB (fun a b=>Gv a.path b.path) l=false from AK.2 (fun hi=>by have q:=(Jj.1 hi i n1).1;rw[h2]at q;cases q)])
 have h1:¬((i:Int)<((l.map Ae).length:Int)):=h1;have n1:=KC h1;exact .of_eq (show vb true=vb (HB (fun a b=>Gv a.path b.path) l) by rw[Jj.2 fun j hj=>i2 j hj (by have q:=h1;rw[Lm]at q;omega)])
structure Wk where
 rep:List Rl
 exc:List Sl
 pin:List Sl
abbrev Bu(w:Wk):List AV:=[sl Ah w.rep,sl Ae w.exc,sl Ae w.pin]
structure bE(w:Wk):Prop where
 rep:∀r∈w.rep,IB r
 reps:Ci w.rep
 exc:Ci w.exc
 pin:Ci w.pin
 excs:∀s∈w.exc,Gr s.path
 pins:∀s∈w.pin,Gr s.path
abbrev PE:Sl→Sl→Int:=fun a b=>Gv a.path b.path
def CW(w:Wk):Int:=if A5 w.rep≠0∨HB Gw w.exc=false∨HB PE w.pin=false then 1 else if(w.pin.any fun s=>decide (s∈w.exc))=true then 17 else 0
theorem W7{a b:ByteArray}:Gv a b<0↔Fl a b=true:=by
 unfold Gv
 by_cases h:Fl a b=true
 ·rw[Aw h];simp[h]
 ·rw[Ai h];split<;>simp[h]
theorem HZ{a b:ByteArray}:Gv a b=0↔a=b:=by
 unfold Gv;constructor
 ·intro h;split at h
  ·cases h
  ·rename_i h1;split at h
   ·cases h
   ·rename_i h2;exact Hs (by simpa using h1) (by simpa using h2)
 ·rintro rfl
  rw[Ai (by rw[Di];decide),Ai (by rw[Di];decide)]
theorem VT{w:Wk}(h:A5 w.rep≠0∨HB Gw w.exc=false∨HB PE w.pin=false):CW w=1:=by unfold CW;rw[Aw h]
theorem aj{w:Wk}(h1:A5 w.rep=0)(h2:HB Gw w.exc=true)(h3:HB PE w.pin=true):CW w=if(w.pin.any fun s=>decide (s∈w.exc))=true then 17 else 0:=by
 unfold CW;rw[Ai (by rintro(c | c | c);exact c h1;rw[h2]at c;cases c;rw[h3]at c;cases c)]
theorem yO(s:Sl)(w:Wk)(hl:Ci w.exc):PC 56 [.agg (Ae s),.cptr (Bu w)] (vb (decide (s∈w.exc))):=by
 refine Ps ⟨[2],[],[],[],[],[],[],[],[],[],[]⟩ Tryz.func56 rfl (Nz rfl) ?_;refine Yi (Nz rfl) ?_;refine BH (Bt (decide (s∈w.exc))) (fun h1=>?_) (fun h1=>?_)
 ·have h1:(decide (s∈w.exc))=true:=h1;refine Xi .pure (Xi _ (Yi (cb h1 (ii w.exc s hl)) ?_));exact .of_eq (show vb true=vb (decide (s∈w.exc)) by rw[h1])
 have h1:(decide (s∈w.exc))=false:=h1;refine Xi .pure (Xi _ (Yi (cb h1 (ii w.exc s hl)) ?_));exact .of_eq (show vb false=vb (decide (s∈w.exc)) by rw[h1])
theorem tg(w:Wk)(hW:bE w):PC 13 [.agg (Bu w)] (vi (CW w)):=by
 refine Ps ⟨[1],[],[],[],[],[],[],[],[],[],[3,4]⟩ Tryz.func13 rfl (Nz rfl) ?_;refine Xi .pure (Xi _ (Yi ((qb YP w.rep [] hW.rep).args (args':=[.agg [sl Ah w.rep,.v (.slice none 0 0)]]) ⟨Hq.agg ⟨.refl _,.nil,trivial⟩,trivial⟩) ?_));refine Yi (fun h1=>?_) (fun h1=>?_)
 ·have h1:((A5 w.rep):Int)≠(0:Int):=h1;refine Xi ⟨[],[],Aa⟩ (Yi ⟨Tv,Tv,Fh,Tv⟩ ?_)
  exact .of_eq (Ac vi (VT (.inl h1)).symm)
 have h1:((A5 w.rep):Int)=(0:Int):=Bn h1;refine BH (Bt (HB Gw w.exc)) (fun h3=>?_) (fun h3=>?_)
 ·have h3:(HB Gw w.exc)=true:=h3;refine Xi .pure (Xi _ (Yi (cb h3 (rP w.exc hW.exc hW.excs)) ?_));refine BH (Bt (HB PE w.pin)) (fun h4=>?_) (fun h4=>?_)
  ·have h4:(HB PE w.pin)=true:=h4;refine Xi .pure (Xi _ (Yi (cb h4 (rO w.pin hW.pin hW.pins)) ?_));refine Xi ⟨[(1,.ref 1 0)],[(1,.ro (Bu w))],Aa⟩ (Yi ⟨Z1,Z1,Fh,Tv⟩ ?_)
   refine BH (Bt (w.pin.any fun s=>decide (s∈w.exc))) (fun h5=>?_) (fun h5=>?_)
   ·have h5:(w.pin.any fun s=>decide (s∈w.exc))=true:=h5;refine Xi .pure (Xi _ (Yi (cb h5 (wi (fF:=56) (caps:=[.cptr (Bu w)]) (fun c hc=>by obtain rfl:=Am.1 hc;intro h;rfl) w.pin (fun s=>decide (s∈w.exc)) (fun s _=>yO s w hW.exc) hW.pin)) ?_));exact .of_eq (Ac vi (show 17=CW w by rw[aj h1 h3 h4,Aw h5]))
   have h5:(w.pin.any fun s=>decide (s∈w.exc))=false:=h5;refine Xi .pure (Xi _ (Yi (cb h5 (wi (fF:=56) (caps:=[.cptr (Bu w)]) (fun c hc=>by obtain rfl:=Am.1 hc;intro h;rfl) w.pin (fun s=>decide (s∈w.exc)) (fun s _=>yO s w hW.exc) hW.pin)) ?_));exact .of_eq (Ac vi (show 0=CW w by rw[aj h1 h3 h4,Ai (by rw[h5];decide)]))
  have h4:(HB PE w.pin)=false:=h4;refine Xi .pure (Xi _ (Yi (cb h4 (rO w.pin hW.pin hW.pins)) ?_));refine Xi ⟨[],[],Aa⟩ (Yi ⟨Tv,Tv,Fh,Tv⟩ ?_)
  exact .of_eq (Ac vi (VT (.inr (.inr h4))).symm)
 have h3:(HB Gw w.exc)=false:=h3;refine Xi .pure (Xi _ (Yi (cb h3 (rP w.exc hW.exc hW.excs)) ?_));refine Xi ⟨[],[],Aa⟩ (Yi ⟨Tv,Tv,Fh,Tv⟩ ?_)
 exact .of_eq (Ac vi (VT (.inr (.inl h3))).symm)
end Go.Eng
