/- Lemmas for the claims of this seat, without a condition: part 22 (O3, R12, R13, O4). -/
import Derived.Test.YtmcbkdbfaneofaaGreatDoorCA21
set_option maxHeartbeats 4000000
namespace Go.Eng
open Go.Proofs
theorem z8{fF:Nat}{caps:List AV}(hs:ED caps)(l:List (Sl))(p:Sl→Bool)(hF:∀x∈l,PC fF ([.agg (Ae x)]++caps) (vb (p x)))(hl:l.length<9223372036854775807) :
  PC 70 [sl Ae l,.clo fF caps] (vi (HU p l 0)):=by
 refine Ps Gc Tryz.func70 rfl (Nz rfl) ?_;refine Xi {i:Nat // i≤l.length∧∀j (hj:j<l.length),j<i→p l[j]=false} (Xi (fun i=>⟨[(0,sl Ae l),(1,.clo fF caps),(7,vi (l.map Ae).length),(8,vi i.1)],[],Ab⟩) (Xi (fun i=>l.length-i.1) (Yi (Xi ⟨0,by simp⟩ ?_) ?_)))
 ·exact⟨⟨Zr,⟨rfl,hs.ids _⟩,Zr,Zr,Tv⟩,Tv,Fh,Tv⟩
 ·intro⟨i,h1,h2⟩;refine Yi ?_ ?_
  ·intro h;have h:(i:Int)<(l.map Ae).length:=h;have h:i<l.length:=by simpa using h
   have hg:l[i]?=some l[i]:=Ge h;refine Xi (Ae l[i]) (Yi (Yi (Nn i) (by simp[hg])) (Yi rfl (Yi (Nz rfl) ?_)));have DA:∀h,PC fF ([.agg (Ae l[i])]++caps.map (str0 h)) (vb (p l[i])):=fun h=>by rw[hs.map];exact hF l[i] (Aq _)
   cases hp:p l[i]with
   |true =>
    rw[hp]at DA;refine Xi .pure (Xi (vb true) (Yi (DA _) ?_));rw[Ja h (fun j hj HT=>h2 j hj HT) hp,EV];exact .refl _
   |false =>
    rw[hp]at DA;refine Xi .pure (Xi (vb false) (Yi (DA _) ?_));refine Yi (Ii i (by omega)) ?_;refine Xi ⟨i+1,by omega,fun j hj HT=>?_⟩ ?_
    ·by_cases e:j=i
     ·subst e;exact hp
     ·exact h2 j hj (by omega)
    ·exact⟨Dl l.length i (by omega),⟨Zr,⟨rfl,hs.ids _⟩,Zr,Zr,Tv⟩,Tv,Fh,Tv⟩
  ·intro h;have h:¬(i:Int)<(l.map Ae).length:=h;have h:¬i<l.length:=by simpa using h
   rw[F7 fun j hj=>h2 j hj (by omega)];exact .refl _
theorem xz{fF:Nat}{caps:List AV}(hs:ED caps)(l:List (Sl))(p:Sl→Bool)(hF:∀x∈l,PC fF ([.agg (Ae x)]++caps) (vb (p x)))(hl:Cp l) :
  PC 25 [sl Ae l,.clo fF caps] (vb (l.any p)):=by
 refine Ps Gc Tryz.func25 rfl (Nz rfl) ?_;have hi:=z8 hs l p hF (by unfold Cp at hl;omega);have DA:∀h,PC 70 [sl Ae l,.clo fF (caps.map (str0 h))] (vi (HU p l 0)):=fun h=>by rw[hs.map];exact hi
 refine Xi .pure (Xi _ (Yi (DA _) ?_));have ha:=KT (p:=p) l 0 (AX 0);refine Yi ?_ ?_
 ·intro h;have h:(0:Int)≤HU p l 0:=h;rw[←ha,AA h];exact .refl _
 ·intro h;have h:¬(0:Int)≤HU p l 0:=h;rw[←ha,Ap h];exact .refl _
def F5(a b:Sl):Int:=if Gm a.path b.path≠0 then Gm a.path b.path else LD a.ver b.ver
def Rv(s:Sl):Bool:=decide (Cr s.path=some s.ver.a)&&CL s.ver
def jL(l:List Sl)(s:Sl):Int:=HU (fun y=>decide (s=y)) l 0
theorem gZ{a b:Sl}(h:a.path=b.path∧a.ver.a=b.ver.a∧a.ver.b=b.ver.b∧a.ver.c=b.ver.c∧True):a=b:=by
 obtain⟨p,⟨x,y,z⟩⟩:=a;obtain⟨p',⟨x',y',z'⟩⟩:=b;obtain⟨h1,h2,h3,h4,_⟩:=h;cases h1;cases h2;cases h3;cases h4;rfl
theorem lI{a b:Sl}(h:¬(a.path=b.path∧a.ver.a=b.ver.a∧a.ver.b=b.ver.b∧a.ver.c=b.ver.c∧True)):a≠b:=fun e=>h (by subst e;exact⟨rfl,rfl,rfl,rfl,trivial⟩)
theorem ae(l:List Sl)(s:Sl):(0≤jL l s)↔s∈l:=by
 have:=KT (p:=fun y=>decide (s=y)) l 0 (AX 0)
 unfold jL;have h2:(0≤HU (fun y=>decide (s=y)) l 0)↔(l.any fun y=>decide (s=y))=true:=by rw[←this,Az]
 rw[h2,Ba];constructor
 ·rintro⟨y,hy,e⟩;simp only[Az]at e;subst e;exact hy
 ·intro h;exact⟨s,h,by simp⟩
theorem qI(r:Rl):PC 42 [.agg (Ai r)] (.agg (Ae ⟨r.path,r.ver⟩)):=by
 refine Ps ⟨[1],[],[],[],[],[],[],[],[],[],[]⟩ Tryz.func42 rfl (Nz rfl) ?_;refine Yi (Nz rfl) ?_;refine Yi (Nz rfl) ?_;refine Yi (Nz rfl) ?_;exact .refl _
theorem uQ(a b:Sl):PC 55 [.agg (Ae a),.agg (Ae b)] (vi (F5 a b)):=by
 refine Ps ⟨[2,3],[],[],[],[],[],[],[],[],[],[]⟩ Tryz.func55 rfl (Nz rfl) ?_;refine Xi _ (Yi (i9 a.path b.path) ?_);refine Yi (Nz rfl) ?_;refine Yi (Nz rfl) ?_;refine Xi _ (Yi (oX a.ver b.ver) ?_);refine Xi _ (Yi (oW (Gm a.path b.path) (LD a.ver b.ver)) ?_);refine Yi (by kernel_rfl) ?_;exact .refl _
theorem xB(r s:Rl):PC 39 [.agg (Ai r),.agg (Ai s)] (vi (F5 ⟨r.path,r.ver⟩ ⟨s.path,s.ver⟩)):=by
 refine Ps ⟨[],[],[],[],[],[],[],[],[],[],[]⟩ Tryz.func39 rfl (Nz rfl) ?_;refine Yi (Nz rfl) ?_;refine Xi _ (Yi (qI r) ?_);refine Yi (Nz rfl) ?_;refine Xi _ (Yi (qI s) ?_);refine Xi _ (Yi (uQ ⟨r.path,r.ver⟩ ⟨s.path,s.ver⟩) ?_);refine Yi (by kernel_rfl) ?_;exact .refl _
theorem z6(a b:Sl):PC 52 [.agg (Ae a),.agg (Ae b)] (vi (Gm a.path b.path)):=by
 refine Ps ⟨[2,3],[],[],[],[],[],[],[],[],[],[]⟩ Tryz.func52 rfl (Nz rfl) ?_;refine Xi .pure (Xi _ (Yi (i9 a.path b.path) ?_));exact .refl _
theorem z7(a b:Sl):PC 61 [.agg (Ae a),.agg (Ae b)] (vi (Gm a.path b.path)):=by
 refine Ps ⟨[2,3],[],[],[],[],[],[],[],[],[],[]⟩ Tryz.func61 rfl (Nz rfl) ?_;refine Xi .pure (Xi _ (Yi (i9 a.path b.path) ?_));exact .refl _
theorem uU(s:Sl)(e:Cr s.path=none)(hl:PC 91 [vs s.path] (.tup [vs ⟨#[]⟩,vi 0,vi 4])):PC 82 [.agg (Ae s)] (vb (Rv s)):=by
 refine Ps ⟨[1],[],[],[],[],[],[],[],[],[],[2]⟩ Tryz.func82 rfl (Nz rfl) ?_;refine Xi .pure (Xi _ (Yi hl ?_));refine Xi ⟨[(1,.ref 1 0),(4,vi 0),(5,vi 4)],[(1,.ro (Ae s))],Ab⟩ (Yi ⟨Z3,Z1,Fh,Tv⟩ ?_)
 refine Yi (fun h=>absurd h (by decide)) (fun _=>?_);exact .of_eq (show vb false=vb (Rv s) by unfold Rv;rw[e,Ap (by intro h;cases h)];rfl)
theorem uV(s:Sl)(m:Int)(e:Cr s.path=some m)(hl:PC 91 [vs s.path] (.tup [vs (fR s.path),vi m,vi 0])):PC 82 [.agg (Ae s)] (vb (Rv s)):=by
 refine Ps ⟨[1],[],[],[],[],[],[],[],[],[],[2]⟩ Tryz.func82 rfl (Nz rfl) ?_;refine Xi .pure (Xi _ (Yi hl ?_));refine Xi ⟨[(1,.ref 1 0),(4,vi m),(5,vi 0)],[(1,.ro (Ae s))],Ab⟩ (Yi ⟨Z3,Z1,Fh,Tv⟩ ?_)
 refine Yi (fun _=>?_) (fun h=>absurd (by decide) h);refine Yi (Nz rfl) ?_;refine BV (Bt (CL s.ver)) (fun h1=>?_) (fun h1=>?_)
 ·have h1:(CL s.ver)=true:=h1;refine Xi .pure (Xi _ (Yi (cb h1 (i7 s.ver)) ?_));refine Yi (fun h2=>?_) (fun h2=>?_)
  ·have h2:(s.ver.a:Int)=(m:Int):=h2;exact .of_eq (show vb true=vb (Rv s) by unfold Rv;rw[e,AA (Ac some h2.symm),h1];rfl)
  have h2:¬((s.ver.a:Int)=(m:Int)):=h2;exact .of_eq (show vb false=vb (Rv s) by unfold Rv;rw[e,Ap (fun h=>h2 (BL h).symm),h1];rfl)
 have h1:(CL s.ver)=false:=h1;refine Xi .pure (Xi _ (Yi (cb h1 (i7 s.ver)) ?_));exact .of_eq (show vb false=vb (Rv s) by unfold Rv;rw[h1,DE])
theorem r9(s:Sl)(hp:Gg s.path):PC 82 [.agg (Ae s)] (vb (Rv s)):=by
 have hl:=YA s.path hp;cases e:Cr s.path with
 |none=>exact uU s e (by have q:=hl;unfold U2 at q;rw[e]at q;exact q)
 |some m=>exact uV s m e (by have q:=hl;unfold U2 at q;rw[e]at q;exact q)
def SH(c:Sl→Sl→Int):Option Sl→List Sl→Bool
 |_,[]=>true
 |p,y::l=>Rv y&&(match p with |none=>true |some z=>decide (c z y<0))&&SH c (some y) l
def Hs(c:Sl→Sl→Int)(l:List Sl):Bool:=SH c none l
theorem SI(c:Sl→Sl→Int):∀(l:List Sl) (p:Option Sl),SH c p l=true↔(∀i (h:i<l.length),Rv l[i]=true∧∀(h0:0<i),c (l[i-1]'(by omega)) l[i]<0)∧∀z,p=some z→∀(h:0<l.length),c z l[0]<0
 | [],p=>by simp[SH]
 |y::l,p=>by
  have ih:=SI c l (some y);unfold SH;rw[Ag,Ag,ih];constructor
  ·rintro⟨⟨h1,h2⟩,h3,h4⟩
   refine⟨fun i h=>?_,fun z e h=>?_⟩
   ·cases i with
    |zero=>exact⟨h1,fun h0=>absurd h0 (Nat.lt_irrefl _)⟩
    |succ i =>
     have hi:i<l.length:=by simpa using h
     refine⟨(h3 i hi).1,fun _=>?_⟩;cases i with
     |zero=>exact h4 y rfl hi
     |succ i=>exact(h3 (i+1) hi).2 (by omega)
   ·subst e;simpa using h2
  ·rintro⟨h1,h2⟩
   refine⟨⟨(h1 0 (by simp)).1,?_⟩,fun i h=>?_,fun z e h=>?_⟩
   ·cases p with
    |none=>rfl
    |some z=>exact AA (h2 z rfl (Nat.succ_pos _))
   ·refine⟨(h1 (i+1) (by simpa using h)).1,fun h0=>?_⟩
    have:=(h1 (i+1) (by simpa using h)).2 (by omega)
    obtain⟨k,rfl⟩:∃k,i=k+1:=⟨i-1,by omega⟩;exact this
   ·cases e
    exact(h1 1 (by simpa using h)).2 (by omega)
theorem Jb{c:Sl→Sl→Int}{l:List Sl}:Hs c l=true↔∀i (h:i<l.length),Rv l[i]=true∧∀(h0:0<i),c (l[i-1]'(by omega)) l[i]<0:=by
 unfold Hs;rw[SI];exact⟨fun h=>h.1,fun h=>⟨h,fun _ e=>by cases e⟩⟩
theorem o71(l:List Sl)(s:Sl)(hl:Cp l):PC 71 [sl Ae l,.agg (Ae s)] (vi (jL l s)):=by
 refine Ps ⟨[3],[],[],[],[],[],[],[],[],[],[5,6]⟩ Tryz.func71 rfl (Nz rfl) ?_;refine Xi {q:Nat // q≤l.length∧∀j (hj:j<l.length),j<q→s≠l[j]} (Xi (fun q=>⟨[(0,sl Ae l),(3,.ref 3 0),(7,vi (l.map Ae).length),(8,vi q.1)],[(3,.ro (Ae s))],Ab⟩) (Xi (fun q=>l.length-q.1) (Yi (Xi ⟨0,AN _,fun _ _ h=>absurd h (Dt _)⟩ ?_) ?_)))
 ·exact⟨Z4,Z1,Fh,Tv⟩
 intro⟨i,i1,i2⟩;have i1:i≤l.length:=i1;have i2:∀j (hj:j<l.length),j<i→s≠l[j]:=i2;refine Yi (fun h1=>?_) (fun h1=>?_)
 ·have h1:(i:Int)<((l.map Ae).length:Int):=h1;have n1:=KZ h1;refine Yi (Nz rfl) ?_;refine Xi (Ae l[i]) (Yi (Pi n1) (Yi rfl ?_));refine Yi (Nz rfl) ?_;refine Yi (fun h2=>?_) (fun h2=>?_)
  ·have h2:(s.path:ByteArray)=l[i].path∧(s.ver.a:Int)=l[i].ver.a∧(s.ver.b:Int)=l[i].ver.b∧(s.ver.c:Int)=l[i].ver.c∧True:=h2;refine Yi (by kernel_rfl) ?_;refine Xi ⟨[(5,vi i)],[],Ab⟩ (Yi ⟨Z1,Tv,Fh,Tv⟩ ?_)
   exact .of_eq (show vi i=vi (jL l s) by unfold jL;rw[Ja n1 (fun j hj HT=>Ap (i2 j hj HT)) (AA (gZ h2)),EV])
  have h2:¬((s.path:ByteArray)=l[i].path∧(s.ver.a:Int)=l[i].ver.a∧(s.ver.b:Int)=l[i].ver.b∧(s.ver.c:Int)=l[i].ver.c∧True):=h2;refine Yi (by kernel_rfl) ?_;refine Xi ⟨[(0,sl Ae l),(3,.ref 3 0),(7,vi (l.map Ae).length),(8,vi i)],[(3,.ro (Ae s))],Ab⟩ (Yi ⟨Z4,Z1,Fh,Tv⟩ ?_)
  refine Yi (Ii i (by omega)) ?_;refine Xi ⟨i+1,n1,fun j hj HT=>if e:j<i then i2 j hj e else by
    have e:j=i:=by omega
    subst e;exact lI h2⟩ ?_
  exact⟨Dl l.length i (by omega),Z4,Z1,Fh,Tv⟩
 have h1:¬((i:Int)<((l.map Ae).length:Int)):=h1;have n1:=KY h1;exact .of_eq (show vi (-1)=vi (jL l s) by unfold jL;rw[F7 (p:=fun y=>decide (s=y)) fun j hj=>Ap (i2 j hj (by have q:=h1;rw[Lm]at q;omega))])
theorem oD(l:List Sl)(s:Sl)(hl:Cp l):PC 27 [sl Ae l,.agg (Ae s)] (vb (decide (s∈l))):=by
 refine Ps ⟨[3],[],[],[],[],[],[],[],[],[],[]⟩ Tryz.func27 rfl (Nz rfl) ?_;refine Yi (Nz rfl) ?_;refine Xi .pure (Xi _ (Yi (o71 l s hl) ?_));refine Yi (fun h1=>?_) (fun h1=>?_)
 ·have h1:(0:Int)≤((jL l s):Int):=h1;exact .of_eq (show vb true=vb (decide (s∈l)) by rw[AA ((ae l s).1 h1)])
 have h1:¬((0:Int)≤((jL l s):Int)):=h1;exact .of_eq (show vb false=vb (decide (s∈l)) by rw[Ap (fun h=>h1 ((ae l s).2 h))])
theorem qL(l:List Sl)(hl:Cp l)(hp:∀s∈l,Gg s.path):PC 54 [sl Ae l,.v (.func (.func 55) #[] #[])] (vb (Hs F5 l)):=by
 refine Ps ⟨[],[],[],[],[],[],[],[],[],[],[5,6]⟩ Tryz.func54 rfl (Nz rfl) ?_;refine Xi {q:Nat // q≤l.length∧∀j (hj:j<l.length),j<q→Rv l[j]=true∧∀(h0:0<j),F5 (l[j-1]'(by omega)) l[j]<0} (Xi (fun q=>⟨[(0,sl Ae l),(1,.v (.func (.func 55) #[] #[])),(7,vi (l.map Ae).length),(8,vi q.1)],[],Ab⟩) (Xi (fun q=>l.length-q.1) (Yi (Xi ⟨0,AN _,fun _ _ h=>absurd h (Dt _)⟩ ?_) ?_)))
 ·exact⟨Z4,Tv,Fh,Tv⟩
 intro⟨i,i1,i2⟩;have i1:i≤l.length:=i1;have i2:∀j (hj:j<l.length),j<i→Rv l[j]=true∧∀(h0:0<j),F5 (l[j-1]'(by omega)) l[j]<0:=i2;refine Yi (fun h1=>?_) (fun h1=>?_)
 ·have h1:(i:Int)<((l.map Ae).length:Int):=h1;have n1:=KZ h1;refine Xi (Ae l[i]) (Yi (Pi n1) (Yi rfl ?_));refine Yi (Nz rfl) ?_;refine BV (Bt (Rv l[i])) (fun h2=>?_) (fun h2=>?_)
  ·have h2:(Rv l[i])=true:=h2;refine Xi _ (Yi (cb h2 (r9 l[i] (hp _ (Aq n1)))) ?_);refine Yi (fun h3=>?_) (fun h3=>?_)
   ·have h3:(0:Int)<(i:Int):=h3;refine Yi (by show B1 ((i:Int)-(1:Int));unfold B1;omega) ?_;have mO:i-1<l.length:=by omega
    refine Xi (Ae (l[i-1])) (Yi (Yi (show(0:Int)≤(i:Int)-1 by omega) (by rw[show((i:Int)-1).toNat=i-1 by omega];exact Cf (Ge mO))) (Yi rfl ?_));refine Yi (Nz rfl) ?_;refine Xi (Ae l[i]) (Yi (Pi n1) (Yi rfl ?_));refine Yi (Nz rfl) ?_;refine Xi _ (Yi (uQ l[i-1] l[i]) ?_);refine Yi (fun h4=>?_) (fun h4=>?_)
    ·have h4:(0:Int)≤((F5 l[i-1] l[i]):Int):=h4;refine Yi (by kernel_rfl) ?_;refine Xi ⟨[],[],Ab⟩ (Yi ⟨Tv,Tv,Fh,Tv⟩ ?_)
     exact .of_eq (show vb false=vb (Hs F5 l) by rw[show Hs F5 l=false from AI.2 (fun hi=>by have q:=(Jb.1 hi i n1).2 (by omega);exact absurd h4 (TO.2 q))])
    have h4:¬((0:Int)≤((F5 l[i-1] l[i]):Int)):=h4;refine Yi (by kernel_rfl) ?_;refine Xi ⟨[(0,sl Ae l),(1,.v (.func (.func 55) #[] #[])),(7,vi (l.map Ae).length),(8,vi i)],[],Ab⟩ (Yi ⟨Z4,Tv,Fh,Tv⟩ ?_)
    refine Yi (Ii i (by omega)) ?_;refine Xi ⟨i+1,n1,fun j hj HT=>if e:j<i then i2 j hj e else by
      have e:j=i:=by omega
      subst e;exact⟨h2,fun _=>TO.1 h4⟩⟩ ?_
    exact⟨Dl l.length i (by omega),Z4,Tv,Fh,Tv⟩
   have h3:¬((0:Int)<(i:Int)):=h3;refine Yi (by kernel_rfl) ?_;refine Xi ⟨[(0,sl Ae l),(1,.v (.func (.func 55) #[] #[])),(7,vi (l.map Ae).length),(8,vi i)],[],Ab⟩ (Yi ⟨Z4,Tv,Fh,Tv⟩ ?_)
   refine Yi (Ii i (by omega)) ?_;refine Xi ⟨i+1,n1,fun j hj HT=>if e:j<i then i2 j hj e else by
     have e:j=i:=by omega
     subst e;exact⟨h2,fun h0=>absurd h0 (by omega)⟩⟩ ?_
   exact⟨Dl l.length i (by omega),Z4,Tv,Fh,Tv⟩
  have h2:(Rv l[i])=false:=h2;refine Xi _ (Yi (cb h2 (r9 l[i] (hp _ (Aq n1)))) ?_);refine Yi (by kernel_rfl) ?_;refine Xi ⟨[],[],Ab⟩ (Yi ⟨Tv,Tv,Fh,Tv⟩ ?_)
  exact .of_eq (show vb false=vb (Hs F5 l) by rw[show Hs F5 l=false from AI.2 (fun hi=>by have q:=(Jb.1 hi i n1).1;rw[h2]at q;cases q)])
 have h1:¬((i:Int)<((l.map Ae).length:Int)):=h1;have n1:=KY h1;exact .of_eq (show vb true=vb (Hs F5 l) by rw[Jb.2 fun j hj=>i2 j hj (by have q:=h1;rw[Lm]at q;omega)])
theorem qK(l:List Sl)(hl:Cp l)(hp:∀s∈l,Gg s.path):PC 54 [sl Ae l,.v (.func (.func 52) #[] #[])] (vb (Hs (fun a b=>Gm a.path b.path) l)):=by
 refine Ps ⟨[],[],[],[],[],[],[],[],[],[],[5,6]⟩ Tryz.func54 rfl (Nz rfl) ?_;refine Xi {q:Nat // q≤l.length∧∀j (hj:j<l.length),j<q→Rv l[j]=true∧∀(h0:0<j),(fun a b=>Gm a.path b.path) (l[j-1]'(by omega)) l[j]<0} (Xi (fun q=>⟨[(0,sl Ae l),(1,.v (.func (.func 52) #[] #[])),(7,vi (l.map Ae).length),(8,vi q.1)],[],Ab⟩) (Xi (fun q=>l.length-q.1) (Yi (Xi ⟨0,AN _,fun _ _ h=>absurd h (Dt _)⟩ ?_) ?_)))
 ·exact⟨Z4,Tv,Fh,Tv⟩
 intro⟨i,i1,i2⟩;have i1:i≤l.length:=i1;have i2:∀j (hj:j<l.length),j<i→Rv l[j]=true∧∀(h0:0<j),(fun a b=>Gm a.path b.path) (l[j-1]'(by omega)) l[j]<0:=i2;refine Yi (fun h1=>?_) (fun h1=>?_)
 ·have h1:(i:Int)<((l.map Ae).length:Int):=h1;have n1:=KZ h1;refine Xi (Ae l[i]) (Yi (Pi n1) (Yi rfl ?_));refine Yi (Nz rfl) ?_;refine BV (Bt (Rv l[i])) (fun h2=>?_) (fun h2=>?_)
  ·have h2:(Rv l[i])=true:=h2;refine Xi _ (Yi (cb h2 (r9 l[i] (hp _ (Aq n1)))) ?_);refine Yi (fun h3=>?_) (fun h3=>?_)
   ·have h3:(0:Int)<(i:Int):=h3;refine Yi (by show B1 ((i:Int)-(1:Int));unfold B1;omega) ?_;have mO:i-1<l.length:=by omega
    refine Xi (Ae (l[i-1])) (Yi (Yi (show(0:Int)≤(i:Int)-1 by omega) (by rw[show((i:Int)-1).toNat=i-1 by omega];exact Cf (Ge mO))) (Yi rfl ?_));refine Yi (Nz rfl) ?_;refine Xi (Ae l[i]) (Yi (Pi n1) (Yi rfl ?_));refine Yi (Nz rfl) ?_;refine Xi _ (Yi (z6 l[i-1] l[i]) ?_);refine Yi (fun h4=>?_) (fun h4=>?_)
    ·have h4:(0:Int)≤((Gm l[i-1].path l[i].path):Int):=h4;refine Yi (by kernel_rfl) ?_;refine Xi ⟨[],[],Ab⟩ (Yi ⟨Tv,Tv,Fh,Tv⟩ ?_)
     exact .of_eq (show vb false=vb (Hs (fun a b=>Gm a.path b.path) l) by rw[show Hs (fun a b=>Gm a.path b.path) l=false from AI.2 (fun hi=>by have q:=(Jb.1 hi i n1).2 (by omega);exact absurd h4 (TO.2 q))])
    have h4:¬((0:Int)≤((Gm l[i-1].path l[i].path):Int)):=h4;refine Yi (by kernel_rfl) ?_;refine Xi ⟨[(0,sl Ae l),(1,.v (.func (.func 52) #[] #[])),(7,vi (l.map Ae).length),(8,vi i)],[],Ab⟩ (Yi ⟨Z4,Tv,Fh,Tv⟩ ?_)
    refine Yi (Ii i (by omega)) ?_;refine Xi ⟨i+1,n1,fun j hj HT=>if e:j<i then i2 j hj e else by
      have e:j=i:=by omega
      subst e;exact⟨h2,fun _=>TO.1 h4⟩⟩ ?_
    exact⟨Dl l.length i (by omega),Z4,Tv,Fh,Tv⟩
   have h3:¬((0:Int)<(i:Int)):=h3;refine Yi (by kernel_rfl) ?_;refine Xi ⟨[(0,sl Ae l),(1,.v (.func (.func 52) #[] #[])),(7,vi (l.map Ae).length),(8,vi i)],[],Ab⟩ (Yi ⟨Z4,Tv,Fh,Tv⟩ ?_)
   refine Yi (Ii i (by omega)) ?_;refine Xi ⟨i+1,n1,fun j hj HT=>if e:j<i then i2 j hj e else by
     have e:j=i:=by omega
     subst e;exact⟨h2,fun h0=>absurd h0 (by omega)⟩⟩ ?_
   exact⟨Dl l.length i (by omega),Z4,Tv,Fh,Tv⟩
  have h2:(Rv l[i])=false:=h2;refine Xi _ (Yi (cb h2 (r9 l[i] (hp _ (Aq n1)))) ?_);refine Yi (by kernel_rfl) ?_;refine Xi ⟨[],[],Ab⟩ (Yi ⟨Tv,Tv,Fh,Tv⟩ ?_)
  exact .of_eq (show vb false=vb (Hs (fun a b=>Gm a.path b.path) l) by rw[show Hs (fun a b=>Gm a.path b.path) l=false from AI.2 (fun hi=>by have q:=(Jb.1 hi i n1).1;rw[h2]at q;cases q)])
 have h1:¬((i:Int)<((l.map Ae).length:Int)):=h1;have n1:=KY h1;exact .of_eq (show vb true=vb (Hs (fun a b=>Gm a.path b.path) l) by rw[Jb.2 fun j hj=>i2 j hj (by have q:=h1;rw[Lm]at q;omega)])
structure Wk where
 rep:List Rl
 exc:List Sl
 pin:List Sl
abbrev Bx(w:Wk):List AV:=[sl Ai w.rep,sl Ae w.exc,sl Ae w.pin]
structure aV(w:Wk):Prop where
 rep:∀r∈w.rep,J3 r
 reps:Cp w.rep
 exc:Cp w.exc
 pin:Cp w.pin
 excs:∀s∈w.exc,Gg s.path
 pins:∀s∈w.pin,Gg s.path
abbrev No:Sl→Sl→Int:=fun a b=>Gm a.path b.path
def B4(w:Wk):Int:=if Bb w.rep≠0∨Hs F5 w.exc=false∨Hs No w.pin=false then 1 else if(w.pin.any fun s=>decide (s∈w.exc))=true then 17 else 0
theorem WW{a b:ByteArray}:Gm a b<0↔Fa a b=true:=by
 unfold Gm
 by_cases h:Fa a b=true
 ·rw[Aw h];simp[h]
 ·rw[Ak h];split<;>simp[h]
theorem HR{a b:ByteArray}:Gm a b=0↔a=b:=by
 unfold Gm;constructor
 ·intro h;split at h
  ·cases h
  ·rename_i h1;split at h
   ·cases h
   ·rename_i h2;exact Hi (by simpa using h1) (by simpa using h2)
 ·rintro rfl
  rw[Ak (by rw[CY];decide),Ak (by rw[CY];decide)]
theorem VM{w:Wk}(h:Bb w.rep≠0∨Hs F5 w.exc=false∨Hs No w.pin=false):B4 w=1:=by unfold B4;rw[Aw h]
theorem ZL{w:Wk}(h1:Bb w.rep=0)(h2:Hs F5 w.exc=true)(h3:Hs No w.pin=true):B4 w=if(w.pin.any fun s=>decide (s∈w.exc))=true then 17 else 0:=by
 unfold B4;rw[Ak (by rintro(c | c | c);exact c h1;rw[h2]at c;cases c;rw[h3]at c;cases c)]
theorem xD(s:Sl)(w:Wk)(hl:Cp w.exc):PC 56 [.agg (Ae s),.cptr (Bx w)] (vb (decide (s∈w.exc))):=by
 refine Ps ⟨[2],[],[],[],[],[],[],[],[],[],[]⟩ Tryz.func56 rfl (Nz rfl) ?_;refine Yi (Nz rfl) ?_;refine BV (Bt (decide (s∈w.exc))) (fun h1=>?_) (fun h1=>?_)
 ·have h1:(decide (s∈w.exc))=true:=h1;refine Xi .pure (Xi _ (Yi (cb h1 (oD w.exc s hl)) ?_));exact .of_eq (show vb true=vb (decide (s∈w.exc)) by rw[h1])
 have h1:(decide (s∈w.exc))=false:=h1;refine Xi .pure (Xi _ (Yi (cb h1 (oD w.exc s hl)) ?_));exact .of_eq (show vb false=vb (decide (s∈w.exc)) by rw[h1])
theorem oC(w:Wk)(hW:aV w):PC 13 [.agg (Bx w)] (vi (B4 w)):=by
 refine Ps ⟨[1],[],[],[],[],[],[],[],[],[],[3,4]⟩ Tryz.func13 rfl (Nz rfl) ?_;refine Xi .pure (Xi _ (Yi ((pe YA w.rep [] hW.rep).args (args':=[.agg [sl Ai w.rep,.v (.slice none 0 0)]]) ⟨Ha.agg ⟨.refl _,.nil,trivial⟩,trivial⟩) ?_));refine Yi (fun h1=>?_) (fun h1=>?_)
 ·have h1:((Bb w.rep):Int)≠(0:Int):=h1;refine Xi ⟨[],[],Ab⟩ (Yi ⟨Tv,Tv,Fh,Tv⟩ ?_)
  exact .of_eq (Ac vi (VM (.inl h1)).symm)
 have h1:((Bb w.rep):Int)=(0:Int):=Bq h1;refine BV (Bt (Hs F5 w.exc)) (fun h3=>?_) (fun h3=>?_)
 ·have h3:(Hs F5 w.exc)=true:=h3;refine Xi .pure (Xi _ (Yi (cb h3 (qL w.exc hW.exc hW.excs)) ?_));refine BV (Bt (Hs No w.pin)) (fun h4=>?_) (fun h4=>?_)
  ·have h4:(Hs No w.pin)=true:=h4;refine Xi .pure (Xi _ (Yi (cb h4 (qK w.pin hW.pin hW.pins)) ?_));refine Xi ⟨[(1,.ref 1 0)],[(1,.ro (Bx w))],Ab⟩ (Yi ⟨Z1,Z1,Fh,Tv⟩ ?_)
   refine BV (Bt (w.pin.any fun s=>decide (s∈w.exc))) (fun h5=>?_) (fun h5=>?_)
   ·have h5:(w.pin.any fun s=>decide (s∈w.exc))=true:=h5;refine Xi .pure (Xi _ (Yi (cb h5 (xz (fF:=56) (caps:=[.cptr (Bx w)]) (fun c hc=>by obtain rfl:=Al.1 hc;intro h;rfl) w.pin (fun s=>decide (s∈w.exc)) (fun s _=>xD s w hW.exc) hW.pin)) ?_));exact .of_eq (Ac vi (show 17=B4 w by rw[ZL h1 h3 h4,Aw h5]))
   have h5:(w.pin.any fun s=>decide (s∈w.exc))=false:=h5;refine Xi .pure (Xi _ (Yi (cb h5 (xz (fF:=56) (caps:=[.cptr (Bx w)]) (fun c hc=>by obtain rfl:=Al.1 hc;intro h;rfl) w.pin (fun s=>decide (s∈w.exc)) (fun s _=>xD s w hW.exc) hW.pin)) ?_));exact .of_eq (Ac vi (show 0=B4 w by rw[ZL h1 h3 h4,Ak (by rw[h5];decide)]))
  have h4:(Hs No w.pin)=false:=h4;refine Xi .pure (Xi _ (Yi (cb h4 (qK w.pin hW.pin hW.pins)) ?_));refine Xi ⟨[],[],Ab⟩ (Yi ⟨Tv,Tv,Fh,Tv⟩ ?_)
  exact .of_eq (Ac vi (VM (.inr (.inr h4))).symm)
 have h3:(Hs F5 w.exc)=false:=h3;refine Xi .pure (Xi _ (Yi (cb h3 (qL w.exc hW.exc hW.excs)) ?_));refine Xi ⟨[],[],Ab⟩ (Yi ⟨Tv,Tv,Fh,Tv⟩ ?_)
 exact .of_eq (Ac vi (VM (.inr (.inl h3))).symm)
end Go.Eng
