/- Lemmas for the claims of this seat, without a condition: part 24 (R11, O3, R12, R13, O4). -/
import Derived.Test.YtmcbkdbfaneofaaGreatDoorBA23
set_option maxHeartbeats 4000000
namespace Go.Eng
open Go.Proofs
theorem ol(s:ByteArray):PC 107 [vs s] (vb (DW s)):=by
 refine Ps EY Tryz.func107 rfl (Nz rfl) ?_;refine Yi (fun h=>?_) (fun h=>?_)
 ·have h:((s.size:Nat):Int)=0:=h;exact .of_eq (Aa vb (show true=DW s by unfold DW;rw[At (by omega:s.size=0)];rfl))
 have h:¬((s.size:Nat):Int)=0:=h;refine Yi (fun h2=>?_) (fun h2=>?_)
 ·have h2:((s.size:Nat):Int)=32:=h2;exact .of_eq (Aa vb (show true=DW s by unfold DW;rw[At (by omega:s.size=32),UG]))
 have h2:¬((s.size:Nat):Int)=32:=h2;exact .of_eq (Aa vb (show false=DW s by unfold DW;rw[Aj (by omega:¬s.size=0),Aj (by omega:¬s.size=32)];rfl))
def I6(v:Ver):Nat→Int
 |0=>v.a
 |1=>v.b
 |_=>v.c
abbrev OG(v:Ver):List (List AV):=[[vi v.a],[vi v.b],[vi v.c]]
theorem PV(v:Ver)(i:Nat)(h:i<3):(OG v)[((i:Nat):Int).toNat]?=some [vi (I6 v i)]:=by
 rw[Bl]
 match i,h with
 |0,_=>rfl
 |1,_=>rfl
 |2,_=>rfl
theorem fX(a b:Ver)(i:Nat)(hi:i<3)(h:∀j,j<i→I6 a j=I6 b j)(hl:I6 a i<I6 b i):GY a b=-1:=by
 match i,hi,h,hl with
 |0,_,h,hl =>
  have hl:a.a<b.a:=hl;unfold GY E8;simp[hl]
 |1,_,h,hl =>
  have hl:a.b<b.b:=hl;have h0:a.a=b.a:=h 0 (by omega);unfold GY E8;simp[hl,h0]
 |2,_,h,hl =>
  have hl:a.c<b.c:=hl;have h0:a.a=b.a:=h 0 (by omega);have h1:a.b=b.b:=h 1 (by omega);unfold GY E8;simp[hl,h0,h1]
theorem fW(a b:Ver)(i:Nat)(hi:i<3)(h:∀j,j<i→I6 a j=I6 b j)(hl:I6 b i<I6 a i):GY a b=1:=by
 match i,hi,h,hl with
 |0,_,h,hl =>
  have hl:b.a<a.a:=hl;have hn:¬a.a<b.a:=by omega
  unfold GY E8;simp[hl,hn]
 |1,_,h,hl =>
  have hl:b.b<a.b:=hl;have hn:¬a.b<b.b:=by omega
  have h0:a.a=b.a:=h 0 (by omega);unfold GY E8;simp[hl,hn,h0]
 |2,_,h,hl =>
  have hl:b.c<a.c:=hl;have hn:¬a.c<b.c:=by omega
  have h0:a.a=b.a:=h 0 (by omega);have h1:a.b=b.b:=h 1 (by omega);unfold GY E8;simp[hl,hn,h0,h1]
theorem fV(a b:Ver)(h:∀j,j<3→I6 a j=I6 b j):GY a b=0:=by
 have h0:a.a=b.a:=h 0 (by omega);have h1:a.b=b.b:=h 1 (by omega);have h2:a.c=b.c:=h 2 (by omega);unfold GY E8;simp[h0,h1,h2]
theorem ra(a b:Ver):PC 87 [.agg (JC a),.agg (JC b)] (vi (GY a b)):=by
 refine Ps (Ip [3,5]) Tryz.func87 rfl (Nz rfl) ?_;refine Xi ⟨[(5,.slice (.id 14 1) (OG a)),(6,.slice (.id 21 1) (OG b))],[(14,.tok 1 3),(21,.tok 1 3)],Ab⟩ (Yi ⟨Z2,Z2,Fh,Tv⟩ ?_)
 refine Xi {i:Nat // i≤3∧∀j,j<i→I6 a j=I6 b j} (Xi (fun i=>⟨[(5,.slice (.id 14 1) (OG a)),(6,.slice (.id 21 1) (OG b)),(7,vi i.1)],[(14,.tok 1 3),(21,.tok 1 3)],Ab⟩) (Xi (fun i=>3-i.1) (Yi (Xi ⟨0,AF _,fun j h=>by omega⟩ ?_) ?_)))
 ·exact⟨Z3,Z2,Fh,Tv⟩
 intro⟨i,i1,i2⟩;refine Yi (fun h=>?_) (fun h=>?_)
 ·have h:(i:Int)<3:=h;have h:i<3:=by omega
  refine Xi [vi (I6 a i)] (Yi (Yi (Nn i) (PV a i h)) (Yi rfl ?_));refine Xi [vi (I6 b i)] (Yi (Yi (Nn i) (PV b i h)) (Yi rfl ?_));refine Yi (fun h2=>?_) (fun h2=>?_)
  ·have h2:I6 a i<I6 b i:=h2;refine Yi (by kernel_rfl) ?_;exact .of_eq (Aa vi (fX a b i h i2 h2).symm)
  have h2:¬I6 a i<I6 b i:=h2;refine Yi (by kernel_rfl) ?_;refine Xi [vi (I6 a i)] (Yi (Yi (Nn i) (PV a i h)) (Yi rfl ?_));refine Xi [vi (I6 b i)] (Yi (Yi (Nn i) (PV b i h)) (Yi rfl ?_));refine Yi (fun h3=>?_) (fun h3=>?_)
  ·have h3:I6 b i<I6 a i:=h3;refine Yi (by kernel_rfl) ?_;exact .of_eq (Aa vi (fW a b i h i2 h3).symm)
  have h3:¬I6 b i<I6 a i:=h3;refine Yi (by kernel_rfl) ?_;refine Xi ⟨[(5,.slice (.id 14 1) (OG a)),(6,.slice (.id 21 1) (OG b)),(7,vi i)],[(14,.tok 1 3),(21,.tok 1 3)],Ab⟩ (Yi ⟨Z3,Z2,Fh,Tv⟩ ?_)
  refine Yi (Ii i (by omega)) ?_;refine Xi ⟨i+1,by omega,fun j hj=>?_⟩ ?_
  ·rcases Cv j i with z | z
   ·exact i2 j z
   ·have:j=i:=by omega
    subst this;omega
  exact⟨Dl 3 i (by omega),Z3,Z2,Fh,Tv⟩
 ·have h:¬(i:Int)<3:=h;exact .of_eq (Aa vi (fV a b fun j hj=>i2 j (by omega)).symm)
theorem u7(a b:Rl):PC 80 [.agg (Ag a),.agg (Ag b)] (vi (IQ a b)):=by
 have hc:=ra a.ver b.ver;refine Ps EY Tryz.func80 rfl (Nz rfl) ?_;refine Yi (fun h=>?_) (fun h=>?_)
 ·have h:Op.bytesLess a.path.toList b.path.toList=true:=h;exact .of_eq (Aa vi (show(-1:Int)=IQ a b by unfold IQ F8;rw[Au (show EJ a.path b.path=true by rw[EX];exact h)];rfl))
 have h:¬Op.bytesLess a.path.toList b.path.toList=true:=h;refine Yi (fun h2=>?_) (fun h2=>?_)
 ·have h2:Op.bytesLess b.path.toList a.path.toList=true:=h2;exact .of_eq (Aa vi (show(1:Int)=IQ a b by unfold IQ F8;rw[Al (show ¬EJ a.path b.path=true by rw[EX];exact h),Au (show EJ b.path a.path=true by rw[EX];exact h2)];rfl))
 have h2:¬Op.bytesLess b.path.toList a.path.toList=true:=h2;refine Yi (Nz rfl) (Yi (Nz rfl) ?_);refine Xi .pure (Xi _ (Yi (hc) ?_));exact .of_eq (Aa vi (show GY a.ver b.ver=IQ a b by unfold IQ F8;rw[Al (show ¬EJ a.path b.path=true by rw[EX];exact h),Al (show ¬EJ b.path a.path=true by rw[EX];exact h2)];rfl))
theorem o70{fF:Nat}{caps:List AV}(hs:EW caps)(l:List (Sl))(p:Sl→Bool)(hF:∀x∈l,PC fF ([.agg (Ae x)]++caps) (vb (p x)))(hl:l.length<9223372036854775807) :
  PC 70 [sl Ae l,.clo fF caps] (vi (Iv p l 0)):=by
 refine Ps EY Tryz.func70 rfl (Nz rfl) ?_;refine Xi {i:Nat // i≤l.length∧∀j (hj:j<l.length),j<i→p l[j]=false} (Xi (fun i=>⟨[(0,sl Ae l),(1,.clo fF caps),(7,vi (l.map Ae).length),(8,vi i.1)],[],Ab⟩) (Xi (fun i=>l.length-i.1) (Yi (Xi ⟨0,by simp⟩ ?_) ?_)))
 ·exact⟨⟨Zr,⟨rfl,hs.ids _⟩,Zr,Zr,Tv⟩,Tv,Fh,Tv⟩
 ·intro⟨i,h1,h2⟩;refine Yi ?_ ?_
  ·intro h;have h:(i:Int)<(l.map Ae).length:=h;have h:i<l.length:=by simpa using h
   have hg:l[i]?=some l[i]:=Ge h;refine Xi (Ae l[i]) (Yi (Yi (Nn i) (by simp[hg])) (Yi rfl (Yi (Nz rfl) ?_)));have DN:∀h,PC fF ([.agg (Ae l[i])]++caps.map (str0 h)) (vb (p l[i])):=fun h=>by rw[hs.map];exact hF l[i] (Ak _)
   cases hp:p l[i]with
   |true =>
    rw[hp]at DN;refine Xi .pure (Xi (vb true) (Yi (DN _) ?_));rw[JI h (fun j hj GF=>h2 j hj GF) hp,Fj];exact .refl _
   |false =>
    rw[hp]at DN;refine Xi .pure (Xi (vb false) (Yi (DN _) ?_));refine Yi (Ii i (by omega)) ?_;refine Xi ⟨i+1,by omega,fun j hj GF=>?_⟩ ?_
    ·by_cases e:j=i
     ·subst e;exact hp
     ·exact h2 j hj (by omega)
    ·exact⟨Dl l.length i (by omega),⟨Zr,⟨rfl,hs.ids _⟩,Zr,Zr,Tv⟩,Tv,Fh,Tv⟩
  ·intro h;have h:¬(i:Int)<(l.map Ae).length:=h;have h:¬i<l.length:=by simpa using h
   rw[GG fun j hj=>h2 j hj (by omega)];exact .refl _
theorem o25{fF:Nat}{caps:List AV}(hs:EW caps)(l:List (Sl))(p:Sl→Bool)(hF:∀x∈l,PC fF ([.agg (Ae x)]++caps) (vb (p x)))(hl:Ci l) :
  PC 25 [sl Ae l,.clo fF caps] (vb (l.any p)):=by
 refine Ps EY Tryz.func25 rfl (Nz rfl) ?_;have hi:=o70 hs l p hF (by unfold Ci at hl;omega);have DN:∀h,PC 70 [sl Ae l,.clo fF (caps.map (str0 h))] (vi (Iv p l 0)):=fun h=>by rw[hs.map];exact hi
 refine Xi .pure (Xi _ (Yi (DN _) ?_));have ha:=Lx (p:=p) l 0 (AZ 0);refine Yi ?_ ?_
 ·intro h;have h:(0:Int)≤Iv p l 0:=h;rw[←ha,At h];exact .refl _
 ·intro h;have h:¬(0:Int)≤Iv p l 0:=h;rw[←ha,Aj h];exact .refl _
def Gn(a b:Sl):Int:=if F8 a.path b.path≠0 then F8 a.path b.path else GY a.ver b.ver
def HI(s:Sl):Bool:=decide (Bh s.path=some s.ver.a)&&Cy s.ver
def HZ(a b:Sl):Bool:=if a.path≠b.path then EJ a.path b.path else decide (GY a.ver b.ver<0)
def lM(l:List Sl)(s:Sl):Int:=Iv (fun y=>decide (s=y)) l 0
theorem bW{a b:Sl}(h:a.path=b.path∧a.ver.a=b.ver.a∧a.ver.b=b.ver.b∧a.ver.c=b.ver.c∧True):a=b:=by
 obtain⟨p,⟨x,y,z⟩⟩:=a;obtain⟨p',⟨x',y',z'⟩⟩:=b;obtain⟨h1,h2,h3,h4,_⟩:=h;cases h1;cases h2;cases h3;cases h4;rfl
theorem jN{a b:Sl}(h:¬(a.path=b.path∧a.ver.a=b.ver.a∧a.ver.b=b.ver.b∧a.ver.c=b.ver.c∧True)):a≠b:=fun e=>h (by subst e;exact⟨rfl,rfl,rfl,rfl,trivial⟩)
theorem bv(l:List Sl)(s:Sl):(0≤lM l s)↔s∈l:=by
 have:=Lx (p:=fun y=>decide (s=y)) l 0 (AZ 0)
 unfold lM;have h2:(0≤Iv (fun y=>decide (s=y)) l 0)↔(l.any fun y=>decide (s=y))=true:=by rw[←this,Ay]
 rw[h2,A8];constructor
 ·rintro⟨y,hy,e⟩;simp only[Ay]at e;subst e;exact hy
 ·intro h;exact⟨s,h,by simp⟩
theorem s9(r:Rl):PC 42 [.agg (Ag r)] (.agg (Ae ⟨r.path,r.ver⟩)):=by
 refine Ps ⟨[1],[],[],[],[],[],[],[],[],[],[]⟩ Tryz.func42 rfl (Nz rfl) ?_;refine Yi (Nz rfl) ?_;refine Yi (Nz rfl) ?_;refine Yi (Nz rfl) ?_;exact .refl _
theorem qG(r:Rl):PC 50 [.agg (Ag r)] (.agg (Ae ⟨r.path,r.ver⟩)):=by
 refine Ps ⟨[1],[],[],[],[],[],[],[],[],[],[]⟩ Tryz.func50 rfl (Nz rfl) ?_;refine Yi (Nz rfl) ?_;refine Yi (Nz rfl) ?_;refine Yi (Nz rfl) ?_;exact .refl _
theorem xJ(a b:Sl):PC 55 [.agg (Ae a),.agg (Ae b)] (vi (Gn a b)):=by
 refine Ps ⟨[2,3],[],[],[],[],[],[],[],[],[],[]⟩ Tryz.func55 rfl (Nz rfl) ?_;refine Xi _ (Yi (kR a.path b.path) ?_);refine Yi (Nz rfl) ?_;refine Yi (Nz rfl) ?_;refine Xi _ (Yi (q8 a.ver b.ver) ?_);refine Xi _ (Yi (qZ (F8 a.path b.path) (GY a.ver b.ver)) ?_);refine Yi (by kernel_rfl) ?_;exact .refl _
theorem o39(r s:Rl):PC 39 [.agg (Ag r),.agg (Ag s)] (vi (Gn ⟨r.path,r.ver⟩ ⟨s.path,s.ver⟩)):=by
 refine Ps ⟨[],[],[],[],[],[],[],[],[],[],[]⟩ Tryz.func39 rfl (Nz rfl) ?_;refine Yi (Nz rfl) ?_;refine Xi _ (Yi (s9 r) ?_);refine Yi (Nz rfl) ?_;refine Xi _ (Yi (s9 s) ?_);refine Xi _ (Yi (xJ ⟨r.path,r.ver⟩ ⟨s.path,s.ver⟩) ?_);refine Yi (by kernel_rfl) ?_;exact .refl _
theorem o52(a b:Sl):PC 52 [.agg (Ae a),.agg (Ae b)] (vi (F8 a.path b.path)):=by
 refine Ps ⟨[2,3],[],[],[],[],[],[],[],[],[],[]⟩ Tryz.func52 rfl (Nz rfl) ?_;refine Xi .pure (Xi _ (Yi (kR a.path b.path) ?_));exact .refl _
theorem o61(a b:Sl):PC 61 [.agg (Ae a),.agg (Ae b)] (vi (F8 a.path b.path)):=by
 refine Ps ⟨[2,3],[],[],[],[],[],[],[],[],[],[]⟩ Tryz.func61 rfl (Nz rfl) ?_;refine Xi .pure (Xi _ (Yi (kR a.path b.path) ?_));exact .refl _
theorem uB(a b:Sl):PC 59 [.agg (Ae a),.agg (Ae b)] (vb (HZ a b)):=by
 refine Ps ⟨[2,3],[],[],[],[],[],[],[],[],[],[]⟩ Tryz.func59 rfl (Nz rfl) ?_;refine Yi (fun h2=>?_) (fun h2=>?_)
 ·have h2:(a.path:ByteArray)≠b.path:=h2;refine Yi (fun h3=>?_) (fun h3=>?_)
  ·have h3:EJ a.path b.path=true:=(EX _ _).trans h3;exact .of_eq (show vb true=vb (HZ a b) by unfold HZ;rw[Au h2,h3])
  have h3:EJ a.path b.path=false:=(EX _ _).trans (AD.2 h3);exact .of_eq (show vb false=vb (HZ a b) by unfold HZ;rw[Au h2,h3])
 have h2:(a.path:ByteArray)=b.path:=A9 h2;refine Yi (Nz rfl) ?_;refine Yi (Nz rfl) ?_;refine Xi .pure (Xi _ (Yi (ra a.ver b.ver) ?_));refine Yi (fun h6=>?_) (fun h6=>?_)
 ·have h6:((GY a.ver b.ver):Int)<(0:Int):=h6;exact .of_eq (show vb true=vb (HZ a b) by unfold HZ;rw[Al (fun h=>h h2),At h6])
 have h6:¬(((GY a.ver b.ver):Int)<(0:Int)):=h6;exact .of_eq (show vb false=vb (HZ a b) by unfold HZ;rw[Al (fun h=>h h2),Aj h6])
theorem xP(s:Sl)(e:Bh s.path=none)(hl:PC 91 [vs s.path] (.tup [vs ⟨#[]⟩,vi 0,vi 4])):PC 82 [.agg (Ae s)] (vb (HI s)):=by
 refine Ps ⟨[1],[],[],[],[],[],[],[],[],[],[2]⟩ Tryz.func82 rfl (Nz rfl) ?_;refine Xi .pure (Xi _ (Yi hl ?_));refine Xi ⟨[(1,.ref 1 0),(4,vi 0),(5,vi 4)],[(1,.ro (Ae s))],Ab⟩ (Yi ⟨Z3,Z1,Fh,Tv⟩ ?_)
 refine Yi (fun h=>absurd h (by decide)) (fun _=>?_);exact .of_eq (show vb false=vb (HI s) by unfold HI;rw[e,Aj (by intro h;cases h)];rfl)
theorem xQ(s:Sl)(m:Int)(e:Bh s.path=some m)(hl:PC 91 [vs s.path] (.tup [vs (QF s.path),vi m,vi 0])):PC 82 [.agg (Ae s)] (vb (HI s)):=by
 refine Ps ⟨[1],[],[],[],[],[],[],[],[],[],[2]⟩ Tryz.func82 rfl (Nz rfl) ?_;refine Xi .pure (Xi _ (Yi hl ?_));refine Xi ⟨[(1,.ref 1 0),(4,vi m),(5,vi 0)],[(1,.ro (Ae s))],Ab⟩ (Yi ⟨Z3,Z1,Fh,Tv⟩ ?_)
 refine Yi (fun _=>?_) (fun h=>absurd (by decide) h);refine Yi (Nz rfl) ?_;refine Bp (Bt (Cy s.ver)) (fun h1=>?_) (fun h1=>?_)
 ·have h1:(Cy s.ver)=true:=h1;refine Xi .pure (Xi _ (Yi (cb h1 (kQ s.ver)) ?_));refine Yi (fun h2=>?_) (fun h2=>?_)
  ·have h2:(s.ver.a:Int)=(m:Int):=h2;exact .of_eq (show vb true=vb (HI s) by unfold HI;rw[e,At (Aa some h2.symm),h1];rfl)
  have h2:¬((s.ver.a:Int)=(m:Int)):=h2;exact .of_eq (show vb false=vb (HI s) by unfold HI;rw[e,Aj (fun h=>h2 (Bv h).symm),h1];rfl)
 have h1:(Cy s.ver)=false:=h1;refine Xi .pure (Xi _ (Yi (cb h1 (kQ s.ver)) ?_));exact .of_eq (show vb false=vb (HI s) by unfold HI;rw[h1,Cz])
theorem uE(s:Sl)(hp:E7 s.path):PC 82 [.agg (Ae s)] (vb (HI s)):=by
 have hl:=Zw s.path hp;cases e:Bh s.path with
 |none=>exact xP s e (by have q:=hl;unfold MC at q;rw[e]at q;exact q)
 |some m=>exact xQ s m e (by have q:=hl;unfold MC at q;rw[e]at q;exact q)
theorem xK(s:Sl)(e:Bh s.path=none)(hl:PC 85 [vs s.path] (.tup [vs ⟨#[]⟩,vi 0,vi 4])):PC 58 [.agg (Ae s)] (vb (HI s)):=by
 refine Ps ⟨[1],[],[],[],[],[],[],[],[],[],[2]⟩ Tryz.func58 rfl (Nz rfl) ?_;refine Xi .pure (Xi _ (Yi hl ?_));refine Xi ⟨[(1,.ref 1 0),(4,vi 0),(5,vi 4)],[(1,.ro (Ae s))],Ab⟩ (Yi ⟨Z3,Z1,Fh,Tv⟩ ?_)
 refine Yi (fun h=>absurd h (by decide)) (fun _=>?_);exact .of_eq (show vb false=vb (HI s) by unfold HI;rw[e,Aj (by intro h;cases h)];rfl)
theorem xL(s:Sl)(m:Int)(e:Bh s.path=some m)(hl:PC 85 [vs s.path] (.tup [vs (QF s.path),vi m,vi 0])):PC 58 [.agg (Ae s)] (vb (HI s)):=by
 refine Ps ⟨[1],[],[],[],[],[],[],[],[],[],[2]⟩ Tryz.func58 rfl (Nz rfl) ?_;refine Xi .pure (Xi _ (Yi hl ?_));refine Xi ⟨[(1,.ref 1 0),(4,vi m),(5,vi 0)],[(1,.ro (Ae s))],Ab⟩ (Yi ⟨Z3,Z1,Fh,Tv⟩ ?_)
 refine Yi (fun _=>?_) (fun h=>absurd (by decide) h);refine Yi (Nz rfl) ?_;refine Bp (Bt (Cy s.ver)) (fun h1=>?_) (fun h1=>?_)
 ·have h1:(Cy s.ver)=true:=h1;refine Xi .pure (Xi _ (Yi (cb h1 (oh s.ver)) ?_));refine Yi (fun h2=>?_) (fun h2=>?_)
  ·have h2:(s.ver.a:Int)=(m:Int):=h2;exact .of_eq (show vb true=vb (HI s) by unfold HI;rw[e,At (Aa some h2.symm),h1];rfl)
  have h2:¬((s.ver.a:Int)=(m:Int)):=h2;exact .of_eq (show vb false=vb (HI s) by unfold HI;rw[e,Aj (fun h=>h2 (Bv h).symm),h1];rfl)
 have h1:(Cy s.ver)=false:=h1;refine Xi .pure (Xi _ (Yi (cb h1 (oh s.ver)) ?_));exact .of_eq (show vb false=vb (HI s) by unfold HI;rw[h1,Cz])
theorem uA(s:Sl)(hp:E7 s.path):PC 58 [.agg (Ae s)] (vb (HI s)):=by
 have hl:=rb s.path hp;cases e:Bh s.path with
 |none=>exact xK s e (by have q:=hl;unfold MC at q;rw[e]at q;exact q)
 |some m=>exact xL s m e (by have q:=hl;unfold MC at q;rw[e]at q;exact q)
def My(c:Sl→Sl→Int):Option Sl→List Sl→Bool
 |_,[]=>true
 |p,y::l=>HI y&&(match p with |none=>true |some z=>decide (c z y<0))&&My c (some y) l
def Ha(c:Sl→Sl→Int)(l:List Sl):Bool:=My c none l
theorem TP(c:Sl→Sl→Int):∀(l:List Sl) (p:Option Sl),My c p l=true↔(∀i (h:i<l.length),HI l[i]=true∧∀(h0:0<i),c (l[i-1]'(by omega)) l[i]<0)∧∀z,p=some z→∀(h:0<l.length),c z l[0]<0
 | [],p=>by simp[My]
 |y::l,p=>by
  have ih:=TP c l (some y);unfold My;rw[Ai,Ai,ih];constructor
  ·rintro⟨⟨h1,h2⟩,h3,h4⟩
   refine⟨fun i h=>?_,fun z e h=>?_⟩
   ·cases i with
    |zero=>exact⟨h1,fun h0=>absurd h0 (Nat.lt_irrefl _)⟩
    |succ i =>
     have hi:i<l.length:=by simpa using h
     refine⟨(h3 i hi).1,fun _=>?_⟩;cases i with
     |zero=>exact h4 y rfl hi
     |succ i=>exact(h3 (i+1) hi).2 (by omega)
   ·subst e;simpa using h2
  ·rintro⟨h1,h2⟩
   refine⟨⟨(h1 0 (by simp)).1,?_⟩,fun i h=>?_,fun z e h=>?_⟩
   ·cases p with
    |none=>rfl
    |some z=>exact At (h2 z rfl (Nat.succ_pos _))
   ·refine⟨(h1 (i+1) (by simpa using h)).1,fun h0=>?_⟩
    have:=(h1 (i+1) (by simpa using h)).2 (by omega)
    obtain⟨k,rfl⟩:∃k,i=k+1:=⟨i-1,by omega⟩;exact this
   ·cases e
    exact(h1 1 (by simpa using h)).2 (by omega)
theorem GH{c:Sl→Sl→Int}{l:List Sl}:Ha c l=true↔∀i (h:i<l.length),HI l[i]=true∧∀(h0:0<i),c (l[i-1]'(by omega)) l[i]<0:=by
 unfold Ha;rw[TP];exact⟨fun h=>h.1,fun h=>⟨h,fun _ e=>by cases e⟩⟩
def Nx(l:List Sl)(p:ByteArray):Option Sl:=l.find? fun y=>decide (y.path=p)
def zSl:Sl:=⟨mt,⟨0,0,0⟩⟩
theorem mp{l:List Sl}{p:ByteArray}{i:Nat}(hi:i<l.length)(h:∀j (hj:j<l.length),j<i→l[j].path≠p)(hp:l[i].path=p):Nx l p=some l[i]:=by
 unfold Nx;rw[List.find?_eq_some_iff_getElem];exact⟨by simpa using hp,i,hi,rfl,fun j hj=>by simpa using h j (by omega) hj⟩
theorem d6{l:List Sl}{p:ByteArray}(h:∀j (hj:j<l.length),l[j].path≠p):Nx l p=none:=by
 unfold Nx;rw[D2];intro y hy;obtain⟨j,hj,rfl⟩:=Ce.1 hy;simpa using h j hj
theorem o71(l:List Sl)(s:Sl)(hl:Ci l):PC 71 [sl Ae l,.agg (Ae s)] (vi (lM l s)):=by
 refine Ps ⟨[3],[],[],[],[],[],[],[],[],[],[5,6]⟩ Tryz.func71 rfl (Nz rfl) ?_;refine Xi {q:Nat // q≤l.length∧∀j (hj:j<l.length),j<q→s≠l[j]} (Xi (fun q=>⟨[(0,sl Ae l),(3,.ref 3 0),(7,vi (l.map Ae).length),(8,vi q.1)],[(3,.ro (Ae s))],Ab⟩) (Xi (fun q=>l.length-q.1) (Yi (Xi ⟨0,AF _,fun _ _ h=>absurd h (Cr _)⟩ ?_) ?_)))
 ·exact⟨Z4,Z1,Fh,Tv⟩
 intro⟨i,i1,i2⟩;have i1:i≤l.length:=i1;have i2:∀j (hj:j<l.length),j<i→s≠l[j]:=i2;refine Yi (fun h1=>?_) (fun h1=>?_)
 ·have h1:(i:Int)<((l.map Ae).length:Int):=h1;have n1:=Iy h1;refine Yi (Nz rfl) ?_;refine Xi (Ae l[i]) (Yi (J3 n1) (Yi rfl ?_));refine Yi (Nz rfl) ?_;refine Yi (fun h2=>?_) (fun h2=>?_)
  ·have h2:(s.path:ByteArray)=l[i].path∧(s.ver.a:Int)=l[i].ver.a∧(s.ver.b:Int)=l[i].ver.b∧(s.ver.c:Int)=l[i].ver.c∧True:=h2;refine Yi (by kernel_rfl) ?_;refine Xi ⟨[(5,vi i)],[],Ab⟩ (Yi ⟨Z1,Tv,Fh,Tv⟩ ?_)
   exact .of_eq (show vi i=vi (lM l s) by unfold lM;rw[JI n1 (fun j hj GF=>Aj (i2 j hj GF)) (At (bW h2)),Fj])
  have h2:¬((s.path:ByteArray)=l[i].path∧(s.ver.a:Int)=l[i].ver.a∧(s.ver.b:Int)=l[i].ver.b∧(s.ver.c:Int)=l[i].ver.c∧True):=h2;refine Yi (by kernel_rfl) ?_;refine Xi ⟨[(0,sl Ae l),(3,.ref 3 0),(7,vi (l.map Ae).length),(8,vi i)],[(3,.ro (Ae s))],Ab⟩ (Yi ⟨Z4,Z1,Fh,Tv⟩ ?_)
  refine Yi (Ii i (by omega)) ?_;refine Xi ⟨i+1,n1,fun j hj GF=>if e:j<i then i2 j hj e else by
    have e:j=i:=by omega
    subst e;exact jN h2⟩ ?_
  exact⟨Dl l.length i (by omega),Z4,Z1,Fh,Tv⟩
 have h1:¬((i:Int)<((l.map Ae).length:Int)):=h1;have n1:=Ix h1;exact .of_eq (show vi (-1)=vi (lM l s) by unfold lM;rw[GG (p:=fun y=>decide (s=y)) fun j hj=>Aj (i2 j hj (by have q:=h1;rw[Lm]at q;omega))])
theorem qE(l:List Sl)(s:Sl)(hl:Ci l):PC 27 [sl Ae l,.agg (Ae s)] (vb (decide (s∈l))):=by
 refine Ps ⟨[3],[],[],[],[],[],[],[],[],[],[]⟩ Tryz.func27 rfl (Nz rfl) ?_;refine Yi (Nz rfl) ?_;refine Xi .pure (Xi _ (Yi (o71 l s hl) ?_));refine Yi (fun h1=>?_) (fun h1=>?_)
 ·have h1:(0:Int)≤((lM l s):Int):=h1;exact .of_eq (show vb true=vb (decide (s∈l)) by rw[At ((bv l s).1 h1)])
 have h1:¬((0:Int)≤((lM l s):Int)):=h1;exact .of_eq (show vb false=vb (decide (s∈l)) by rw[Aj (fun h=>h1 ((bv l s).2 h))])
theorem uz(l:List Sl)(s:Sl)(hl:Ci l):PC 49 [sl Ae l,.agg (Ae s)] (vb (decide (s∈l))):=by
 refine Ps ⟨[3],[],[],[],[],[],[],[],[],[],[3,5]⟩ Tryz.func49 rfl (Nz rfl) ?_;refine Xi {q:Nat // q≤l.length∧∀j (hj:j<l.length),j<q→l[j]≠s} (Xi (fun q=>⟨[(0,sl Ae l),(3,.ref 3 0),(5,vi q.1)],[(3,.ro (Ae s))],Ab⟩) (Xi (fun q=>l.length-q.1) (Yi (Xi ⟨0,AF _,fun _ _ h=>absurd h (Cr _)⟩ ?_) ?_)))
 ·exact⟨Z3,Z1,Fh,Tv⟩
 intro⟨i,i1,i2⟩;have i1:i≤l.length:=i1;have i2:∀j (hj:j<l.length),j<i→l[j]≠s:=i2;refine Yi (fun h1=>?_) (fun h1=>?_)
 ·have h1:(i:Int)<((l.map Ae).length:Int):=h1;have n1:=Iy h1;refine Xi (Ae l[i]) (Yi (J3 n1) (Yi rfl ?_));refine Yi (Nz rfl) ?_;refine Yi (Nz rfl) ?_;refine Yi (fun h2=>?_) (fun h2=>?_)
  ·have h2:(l[i].path:ByteArray)=s.path∧(l[i].ver.a:Int)=s.ver.a∧(l[i].ver.b:Int)=s.ver.b∧(l[i].ver.c:Int)=s.ver.c∧True:=h2;refine Yi (by kernel_rfl) ?_;refine Xi ⟨[],[],Ab⟩ (Yi ⟨Tv,Tv,Fh,Tv⟩ ?_)
   exact .of_eq (show vb true=vb (decide (s∈l)) by rw[At (by rw[←bW h2];exact Ak _)])
  have h2:¬((l[i].path:ByteArray)=s.path∧(l[i].ver.a:Int)=s.ver.a∧(l[i].ver.b:Int)=s.ver.b∧(l[i].ver.c:Int)=s.ver.c∧True):=h2;refine Yi (by kernel_rfl) ?_;refine Xi ⟨[(0,sl Ae l),(3,.ref 3 0),(5,vi i)],[(3,.ro (Ae s))],Ab⟩ (Yi ⟨Z3,Z1,Fh,Tv⟩ ?_)
  refine Yi (Ii i (by omega)) ?_;refine Xi ⟨i+1,n1,fun j hj GF=>if e:j<i then i2 j hj e else by
    have e:j=i:=by omega
    subst e;exact jN h2⟩ ?_
  exact⟨Dl l.length i (by omega),Z3,Z1,Fh,Tv⟩
 have h1:¬((i:Int)<((l.map Ae).length:Int)):=h1;have n1:=Ix h1;exact .of_eq (show vb false=vb (decide (s∈l)) by rw[Aj (fun hm=>by obtain⟨j,hj,e⟩:=Ce.1 hm;exact i2 j hj (by have q:=h1;rw[Lm]at q;omega) e)])
abbrev jg(o:Option Sl):AV:=.tup [.agg (Ae (o.getD zSl)),vb o.isSome]
theorem o51(l:List Sl)(p:ByteArray)(hl:Ci l):PC 51 [sl Ae l,vs p] (jg (Nx l p)):=by
 refine Ps ⟨[],[],[],[],[],[],[],[],[],[],[3,5]⟩ Tryz.func51 rfl (Nz rfl) ?_;refine Xi {q:Nat // q≤l.length∧∀j (hj:j<l.length),j<q→l[j].path≠p} (Xi (fun q=>⟨[(0,sl Ae l),(1,vs p),(4,.ref 4 0),(6,vi q.1)],[(4,.cells [vs ⟨#[]⟩,vi 0,vi 0,vi 0])],Ab⟩) (Xi (fun q=>l.length-q.1) (Yi (Xi ⟨0,AF _,fun _ _ h=>absurd h (Cr _)⟩ ?_) ?_)))
 ·exact⟨Z4,Z1,Fh,Tv⟩
 intro⟨i,i1,i2⟩;have i1:i≤l.length:=i1;have i2:∀j (hj:j<l.length),j<i→l[j].path≠p:=i2;refine Yi (fun h1=>?_) (fun h1=>?_)
 ·have h1:(i:Int)<((l.map Ae).length:Int):=h1;have n1:=Iy h1;refine Xi (Ae l[i]) (Yi (J3 n1) (Yi rfl ?_));refine Yi (fun h2=>?_) (fun h2=>?_)
  ·have h2:(l[i].path:ByteArray)=p:=h2;refine Xi ⟨[(0,sl Ae l),(4,.ref 4 0),(6,vi i)],[(4,.cells [vs ⟨#[]⟩,vi 0,vi 0,vi 0])],Ab⟩ (Yi ⟨Z3,Z1,Fh,Tv⟩ ?_)
   refine Xi (Ae l[i]) (Yi (J3 n1) (Yi rfl ?_));refine Yi (Nz rfl) ?_;refine Yi (Nz rfl) ?_;refine Yi (Nz rfl) ?_;exact .of_eq (show _=jg (Nx l p) by rw[mp n1 i2 h2];rfl)
  have h2:¬(l[i].path:ByteArray)=p:=h2;refine Xi ⟨[(0,sl Ae l),(1,vs p),(4,.ref 4 0),(6,vi i)],[(4,.cells [vs ⟨#[]⟩,vi 0,vi 0,vi 0])],Ab⟩ (Yi ⟨Z4,Z1,Fh,Tv⟩ ?_)
  refine Yi (Ii i (by omega)) ?_;refine Xi ⟨i+1,n1,fun j hj GF=>if e:j<i then i2 j hj e else by
    have e:j=i:=by omega
    subst e;exact h2⟩ ?_
  exact⟨Dl l.length i (by omega),Z4,Z1,Fh,Tv⟩
 have h1:¬((i:Int)<((l.map Ae).length:Int)):=h1;have n1:=Ix h1;refine Yi (Nz rfl) ?_;refine Yi (Nz rfl) ?_;exact .of_eq (show _=jg (Nx l p) by rw[d6 fun j hj=>i2 j hj (by have q:=h1;rw[Lm]at q;omega)];rfl)
theorem tc(l:List Sl)(hl:Ci l)(hp:∀s∈l,E7 s.path):PC 54 [sl Ae l,.v (.func (.func 55) #[] #[])] (vb (Ha Gn l)):=by
 refine Ps ⟨[],[],[],[],[],[],[],[],[],[],[5,6]⟩ Tryz.func54 rfl (Nz rfl) ?_;refine Xi {q:Nat // q≤l.length∧∀j (hj:j<l.length),j<q→HI l[j]=true∧∀(h0:0<j),Gn (l[j-1]'(by omega)) l[j]<0} (Xi (fun q=>⟨[(0,sl Ae l),(1,.v (.func (.func 55) #[] #[])),(7,vi (l.map Ae).length),(8,vi q.1)],[],Ab⟩) (Xi (fun q=>l.length-q.1) (Yi (Xi ⟨0,AF _,fun _ _ h=>absurd h (Cr _)⟩ ?_) ?_)))
 ·exact⟨Z4,Tv,Fh,Tv⟩
 intro⟨i,i1,i2⟩;have i1:i≤l.length:=i1;have i2:∀j (hj:j<l.length),j<i→HI l[j]=true∧∀(h0:0<j),Gn (l[j-1]'(by omega)) l[j]<0:=i2;refine Yi (fun h1=>?_) (fun h1=>?_)
 ·have h1:(i:Int)<((l.map Ae).length:Int):=h1;have n1:=Iy h1;refine Xi (Ae l[i]) (Yi (J3 n1) (Yi rfl ?_));refine Yi (Nz rfl) ?_;refine Bp (Bt (HI l[i])) (fun h2=>?_) (fun h2=>?_)
  ·have h2:(HI l[i])=true:=h2;refine Xi _ (Yi (cb h2 (uE l[i] (hp _ (Ak n1)))) ?_);refine Yi (fun h3=>?_) (fun h3=>?_)
   ·have h3:(0:Int)<(i:Int):=h3;refine Yi (by show Bs ((i:Int)-(1:Int));unfold Bs;omega) ?_;have gW:i-1<l.length:=by omega
    refine Xi (Ae (l[i-1])) (Yi (Yi (show(0:Int)≤(i:Int)-1 by omega) (by rw[show((i:Int)-1).toNat=i-1 by omega];exact B3 (Ge gW))) (Yi rfl ?_));refine Yi (Nz rfl) ?_;refine Xi (Ae l[i]) (Yi (J3 n1) (Yi rfl ?_));refine Yi (Nz rfl) ?_;refine Xi _ (Yi (xJ l[i-1] l[i]) ?_);refine Yi (fun h4=>?_) (fun h4=>?_)
    ·have h4:(0:Int)≤((Gn l[i-1] l[i]):Int):=h4;refine Yi (by kernel_rfl) ?_;refine Xi ⟨[],[],Ab⟩ (Yi ⟨Tv,Tv,Fh,Tv⟩ ?_)
     exact .of_eq (show vb false=vb (Ha Gn l) by rw[show Ha Gn l=false from AD.2 (fun hi=>by have q:=(GH.1 hi i n1).2 (by omega);exact absurd h4 (UH.2 q))])
    have h4:¬((0:Int)≤((Gn l[i-1] l[i]):Int)):=h4;refine Yi (by kernel_rfl) ?_;refine Xi ⟨[(0,sl Ae l),(1,.v (.func (.func 55) #[] #[])),(7,vi (l.map Ae).length),(8,vi i)],[],Ab⟩ (Yi ⟨Z4,Tv,Fh,Tv⟩ ?_)
    refine Yi (Ii i (by omega)) ?_;refine Xi ⟨i+1,n1,fun j hj GF=>if e:j<i then i2 j hj e else by
      have e:j=i:=by omega
      subst e;exact⟨h2,fun _=>UH.1 h4⟩⟩ ?_
    exact⟨Dl l.length i (by omega),Z4,Tv,Fh,Tv⟩
   have h3:¬((0:Int)<(i:Int)):=h3;refine Yi (by kernel_rfl) ?_;refine Xi ⟨[(0,sl Ae l),(1,.v (.func (.func 55) #[] #[])),(7,vi (l.map Ae).length),(8,vi i)],[],Ab⟩ (Yi ⟨Z4,Tv,Fh,Tv⟩ ?_)
   refine Yi (Ii i (by omega)) ?_;refine Xi ⟨i+1,n1,fun j hj GF=>if e:j<i then i2 j hj e else by
     have e:j=i:=by omega
     subst e;exact⟨h2,fun h0=>absurd h0 (by omega)⟩⟩ ?_
   exact⟨Dl l.length i (by omega),Z4,Tv,Fh,Tv⟩
  have h2:(HI l[i])=false:=h2;refine Xi _ (Yi (cb h2 (uE l[i] (hp _ (Ak n1)))) ?_);refine Yi (by kernel_rfl) ?_;refine Xi ⟨[],[],Ab⟩ (Yi ⟨Tv,Tv,Fh,Tv⟩ ?_)
  exact .of_eq (show vb false=vb (Ha Gn l) by rw[show Ha Gn l=false from AD.2 (fun hi=>by have q:=(GH.1 hi i n1).1;rw[h2]at q;cases q)])
 have h1:¬((i:Int)<((l.map Ae).length:Int)):=h1;have n1:=Ix h1;exact .of_eq (show vb true=vb (Ha Gn l) by rw[GH.2 fun j hj=>i2 j hj (by have q:=h1;rw[Lm]at q;omega)])
theorem tb(l:List Sl)(hl:Ci l)(hp:∀s∈l,E7 s.path):PC 54 [sl Ae l,.v (.func (.func 52) #[] #[])] (vb (Ha (fun a b=>F8 a.path b.path) l)):=by
 refine Ps ⟨[],[],[],[],[],[],[],[],[],[],[5,6]⟩ Tryz.func54 rfl (Nz rfl) ?_;refine Xi {q:Nat // q≤l.length∧∀j (hj:j<l.length),j<q→HI l[j]=true∧∀(h0:0<j),(fun a b=>F8 a.path b.path) (l[j-1]'(by omega)) l[j]<0} (Xi (fun q=>⟨[(0,sl Ae l),(1,.v (.func (.func 52) #[] #[])),(7,vi (l.map Ae).length),(8,vi q.1)],[],Ab⟩) (Xi (fun q=>l.length-q.1) (Yi (Xi ⟨0,AF _,fun _ _ h=>absurd h (Cr _)⟩ ?_) ?_)))
 ·exact⟨Z4,Tv,Fh,Tv⟩
 intro⟨i,i1,i2⟩;have i1:i≤l.length:=i1;have i2:∀j (hj:j<l.length),j<i→HI l[j]=true∧∀(h0:0<j),(fun a b=>F8 a.path b.path) (l[j-1]'(by omega)) l[j]<0:=i2;refine Yi (fun h1=>?_) (fun h1=>?_)
 ·have h1:(i:Int)<((l.map Ae).length:Int):=h1;have n1:=Iy h1;refine Xi (Ae l[i]) (Yi (J3 n1) (Yi rfl ?_));refine Yi (Nz rfl) ?_;refine Bp (Bt (HI l[i])) (fun h2=>?_) (fun h2=>?_)
  ·have h2:(HI l[i])=true:=h2;refine Xi _ (Yi (cb h2 (uE l[i] (hp _ (Ak n1)))) ?_);refine Yi (fun h3=>?_) (fun h3=>?_)
   ·have h3:(0:Int)<(i:Int):=h3;refine Yi (by show Bs ((i:Int)-(1:Int));unfold Bs;omega) ?_;have gW:i-1<l.length:=by omega
    refine Xi (Ae (l[i-1])) (Yi (Yi (show(0:Int)≤(i:Int)-1 by omega) (by rw[show((i:Int)-1).toNat=i-1 by omega];exact B3 (Ge gW))) (Yi rfl ?_));refine Yi (Nz rfl) ?_;refine Xi (Ae l[i]) (Yi (J3 n1) (Yi rfl ?_));refine Yi (Nz rfl) ?_;refine Xi _ (Yi (o52 l[i-1] l[i]) ?_);refine Yi (fun h4=>?_) (fun h4=>?_)
    ·have h4:(0:Int)≤((F8 l[i-1].path l[i].path):Int):=h4;refine Yi (by kernel_rfl) ?_;refine Xi ⟨[],[],Ab⟩ (Yi ⟨Tv,Tv,Fh,Tv⟩ ?_)
     exact .of_eq (show vb false=vb (Ha (fun a b=>F8 a.path b.path) l) by rw[show Ha (fun a b=>F8 a.path b.path) l=false from AD.2 (fun hi=>by have q:=(GH.1 hi i n1).2 (by omega);exact absurd h4 (UH.2 q))])
    have h4:¬((0:Int)≤((F8 l[i-1].path l[i].path):Int)):=h4;refine Yi (by kernel_rfl) ?_;refine Xi ⟨[(0,sl Ae l),(1,.v (.func (.func 52) #[] #[])),(7,vi (l.map Ae).length),(8,vi i)],[],Ab⟩ (Yi ⟨Z4,Tv,Fh,Tv⟩ ?_)
    refine Yi (Ii i (by omega)) ?_;refine Xi ⟨i+1,n1,fun j hj GF=>if e:j<i then i2 j hj e else by
      have e:j=i:=by omega
      subst e;exact⟨h2,fun _=>UH.1 h4⟩⟩ ?_
    exact⟨Dl l.length i (by omega),Z4,Tv,Fh,Tv⟩
   have h3:¬((0:Int)<(i:Int)):=h3;refine Yi (by kernel_rfl) ?_;refine Xi ⟨[(0,sl Ae l),(1,.v (.func (.func 52) #[] #[])),(7,vi (l.map Ae).length),(8,vi i)],[],Ab⟩ (Yi ⟨Z4,Tv,Fh,Tv⟩ ?_)
   refine Yi (Ii i (by omega)) ?_;refine Xi ⟨i+1,n1,fun j hj GF=>if e:j<i then i2 j hj e else by
     have e:j=i:=by omega
     subst e;exact⟨h2,fun h0=>absurd h0 (by omega)⟩⟩ ?_
   exact⟨Dl l.length i (by omega),Z4,Tv,Fh,Tv⟩
  have h2:(HI l[i])=false:=h2;refine Xi _ (Yi (cb h2 (uE l[i] (hp _ (Ak n1)))) ?_);refine Yi (by kernel_rfl) ?_;refine Xi ⟨[],[],Ab⟩ (Yi ⟨Tv,Tv,Fh,Tv⟩ ?_)
  exact .of_eq (show vb false=vb (Ha (fun a b=>F8 a.path b.path) l) by rw[show Ha (fun a b=>F8 a.path b.path) l=false from AD.2 (fun hi=>by have q:=(GH.1 hi i n1).1;rw[h2]at q;cases q)])
 have h1:¬((i:Int)<((l.map Ae).length:Int)):=h1;have n1:=Ix h1;exact .of_eq (show vb true=vb (Ha (fun a b=>F8 a.path b.path) l) by rw[GH.2 fun j hj=>i2 j hj (by have q:=h1;rw[Lm]at q;omega)])
theorem u6(r:Rl)(hr:Jg r):PC 79 [.agg (Ag r)] (vi (Dd r)):=by
 have h1:=lh r.path hr.1;have h2:=oh r.ver;have h3:=c68 lh oM r.reqs hr.2;have h4:=ol r.arch;have h5:=ol r.ifc;have h6:=ol r.cert;obtain⟨N,hN⟩:∃N,N=Dd r:=⟨_,rfl⟩;rw[←hN];refine Ps EY Tryz.func79 rfl (Nz rfl) ?_;refine Xi .pure (Xi _ (Yi (h1) ?_));refine Yi (fun h=>?_) (fun h=>?_)
 ·have h:QG r.path<0:=h;exact .of_eq (Aa vi (show(4:Int)=N by
   have e:=(Pz r.path).1 h;rw[hN];unfold Dd;cases hp:Bh r.path with
   |none=>rfl
   |some m=>rw[hp]at e;cases e))
 have h:¬QG r.path<0:=h;refine BM (show ∃m,Bh r.path=some m by
  cases hp:Bh r.path with
  |none=>exact absurd ((Pz r.path).2 (by rw[hp];rfl)) h
  |some m=>exact⟨m,rfl⟩) (fun m hp=>?_)
 have em:QG r.path=m:=by unfold QG;rw[hp]
 have hN:N=if !Cy r.ver||!decide (r.ver.a=m)then 2 else if Bx r.reqs≠0 then Bx r.reqs else if DW r.arch&&DW r.ifc&&DW r.cert then 0 else 1:=by
  rw[hN];unfold Dd;rw[hp]
 refine Yi (Nz rfl) ?_;refine Bp (Bt (Cy r.ver)).symm (fun e=>?_) (fun e=>?_)
 ·rw[e]at h2;refine Xi .pure (Xi _ (Yi (h2) ?_));exact .of_eq (Aa vi (show(2:Int)=N by rw[hN,e];rfl))
 rw[e]at h2;refine Xi .pure (Xi _ (Yi (h2) ?_));refine Yi (fun h7=>?_) (fun h7=>?_)
 ·have h7:r.ver.a≠QG r.path:=h7;exact .of_eq (Aa vi (show(2:Int)=N by rw[hN,e,Aj (by rw[←em];exact h7)];rfl))
 have h7:¬r.ver.a≠QG r.path:=h7;have hN:N=if Bx r.reqs≠0 then Bx r.reqs else if DW r.arch&&DW r.ifc&&DW r.cert then 0 else 1:=by
  rw[hN,e,At (by rw[←em];exact B1.1 h7)];rfl
 refine Xi .pure (Xi _ (Yi (h3) ?_));refine Yi (fun h8=>?_) (fun h8=>?_)
 ·have h8:Bx r.reqs≠0:=h8;exact .of_eq (Aa vi (show Bx r.reqs=N by rw[hN,Au h8]))
 have h8:¬Bx r.reqs≠0:=h8;have hN:N=if DW r.arch&&DW r.ifc&&DW r.cert then 0 else 1:=by rw[hN,Al h8]
 refine Bp (Bt (DW r.arch)).symm (fun e1=>?_) (fun e1=>?_)
 ·rw[e1]at h4;refine Xi .pure (Xi _ (Yi (h4) ?_));exact .of_eq (Aa vi (show(1:Int)=N by rw[hN,e1];rfl))
 rw[e1]at h4;refine Xi .pure (Xi _ (Yi (h4) ?_));refine Bp (Bt (DW r.ifc)).symm (fun e2=>?_) (fun e2=>?_)
 ·rw[e2]at h5;refine Xi .pure (Xi _ (Yi (h5) ?_));exact .of_eq (Aa vi (show(1:Int)=N by rw[hN,e1,e2];rfl))
 rw[e2]at h5;refine Xi .pure (Xi _ (Yi (h5) ?_));refine Bp (Bt (DW r.cert)).symm (fun e3=>?_) (fun e3=>?_)
 ·rw[e3]at h6;refine Xi .pure (Xi _ (Yi (h6) ?_));exact .of_eq (Aa vi (show(1:Int)=N by rw[hN,e1,e2,e3];rfl))
 rw[e3]at h6;refine Xi .pure (Xi _ (Yi (h6) ?_));exact .of_eq (Aa vi (show(0:Int)=N by rw[hN,e1,e2,e3];rfl))
theorem XL{a b:Rl}(h:Gf a=Gf b):IQ a b=0:=by
 obtain⟨h1,h2,h3,h4⟩:=VJ h;unfold IQ F8 GY E8;rw[h1,h2,h3,h4,Dk];simp
theorem y7(x:List Rl)(ifs:List (List AV))(hs:∀r∈x,Jg r):PC 47 [M8 x ifs] (vi (A6 x)):=by
 refine Ps (Ip [4,6,8,10,12]) Tryz.func47 rfl (Nz rfl) ?_;refine BM (show ∃N,N=A6 x from⟨_,rfl⟩) (fun N hN=>?_);refine Yi (fun h=>?_) (fun h=>?_)
 ·have h:(256:Int)<(x.map Ag).length:=h;exact .of_eq (Aa vi (show(7:Int)=A6 x by unfold A6;rw[Au (by rw[Lm]at h;omega)]))
 have h:¬(256:Int)<(x.map Ag).length:=h;have hl:x.length≤256:=by rw[Lm]at h;omega
 have OH:A6 x=Dc none x:=by unfold A6;rw[Al (by omega)]
 refine Xi ⟨[(3,sl Ag x)],[],Ab⟩ (Yi ⟨Z1,Tv,Fh,Tv⟩ ?_)
 refine Xi {i:Nat // i≤x.length∧Dc none x=Dc (Wu x i) (x.drop i)} (Xi (fun i=>⟨[(3,sl Ag x),(4,vi i.1)],[],Ab⟩) (Xi (fun i=>x.length-i.1) (Yi (Xi ⟨0,AF _,rfl⟩ ?_) ?_)))
 ·exact⟨Z2,Tv,Fh,Tv⟩
 intro⟨i,h1,h2⟩;refine Yi (fun h=>?_) (fun h=>?_)
 ·skip
  have h:(i:Int)<(x.map Ag).length:=h;have h:i<x.length:=by simpa using h
  have hg:x[i]?=some x[i]:=Ge h;have hd:x.drop i=x[i]::x.drop (i+1):=Bd h;have hc:=u6 x[i] (hs x[i] (Ak h));have HH:Dc none x=if Dd x[i]≠0 then Dd x[i]else match Wu x i with
   |none=>Dc (some x[i]) (x.drop (i+1))
   |some b=>if Gf b=Gf x[i]then 5 else if 0<IQ b x[i]then 1 else Dc (some x[i]) (x.drop (i+1)):=by rw[h2,hd];rfl
  have Yk:Wu x (i+1)=some x[i]:=Ge h;refine Xi (Ag x[i]) (Yi (Yi (Nn i) (by simp[hg])) (Yi rfl ?_));refine Yi (Nz rfl) ?_;refine Xi .pure (Xi _ (Yi (hc) ?_));refine Xi ⟨[(3,sl Ag x),(4,vi i),(5,vi (Dd x[i]))],[],Ab⟩ (Yi ⟨Z3,Tv,Fh,Tv⟩ ?_)
  refine Yi (fun h3=>?_) (fun h3=>?_)
  ·have h3:Dd x[i]≠0:=h3;exact .of_eq (Aa vi (show Dd x[i]=A6 x by rw[OH,HH,Au h3]))
  have h3:¬Dd x[i]≠0:=h3;rw[Al h3]at HH;refine Xi ⟨[(3,sl Ag x),(4,vi i)],[],Ab⟩ (Yi ⟨Z2,Tv,Fh,Tv⟩ ?_)
  refine Yi (fun h4=>?_) (fun h4=>?_)
  ·have h4:(0:Int)<i:=h4;have hk:i-1<x.length:=by omega
   have Sp:x[i-1]?=some x[i-1]:=Ge hk;have hn:((i:Int)-1).toNat=i-1:=by omega
   have hb:Wu x i=some x[i-1]:=by
    cases i with
    |zero=>omega
    |succ k=>exact Sp
   rw[hb]at HH;have HH:Dc none x=if Gf x[i-1]=Gf x[i]then 5 else if 0<IQ x[i-1] x[i]then 1 else Dc (some x[i]) (x.drop (i+1)):=HH
   have rW:=u7 x[i-1] x[i];have RZ:(0:Int)≤(i:Int)-1∧(x.map Ag)[((i:Int)-1).toNat]?=some (Ag x[i-1]):=⟨by omega,by rw[hn];exact B3 Sp⟩;refine Yi (show Bs ((i:Int)-1) by unfold Bs;omega) ?_;refine Xi (Ag x[i-1]) (Yi RZ (Yi rfl ?_));refine Yi (Nz rfl) ?_;refine Xi (Ag x[i]) (Yi (Yi (Nn i) (by simp[hg])) (Yi rfl ?_));refine Yi (Nz rfl) ?_;refine Xi _ (Yi (rW) ?_);refine Yi (fun h5=>?_) (fun h5=>?_)
   ·have h5:IQ x[i-1] x[i]=0:=h5;refine Yi (by kernel_rfl) ?_;exact .of_eq (Aa vi (show(5:Int)=A6 x by rw[OH,HH,Au (Vq h5)]))
   have h5:¬IQ x[i-1] x[i]=0:=h5;refine Yi (by kernel_rfl) ?_;refine Xi ⟨[(3,sl Ag x),(4,vi i)],[],Ab⟩ (Yi ⟨Z2,Tv,Fh,Tv⟩ ?_)
   refine Yi (fun _=>?_) (fun h9=>absurd h4 h9);refine Yi (show Bs ((i:Int)-1) by unfold Bs;omega) ?_;refine Xi (Ag x[i-1]) (Yi RZ (Yi rfl ?_));refine Yi (Nz rfl) ?_;refine Xi (Ag x[i]) (Yi (Yi (Nn i) (by simp[hg])) (Yi rfl ?_));refine Yi (Nz rfl) ?_;refine Xi _ (Yi (rW) ?_);refine Yi (fun h6=>?_) (fun h6=>?_)
   ·have h6:0<IQ x[i-1] x[i]:=h6;refine Yi (by kernel_rfl) ?_;exact .of_eq (Aa vi (show(1:Int)=A6 x by rw[OH,HH,Al (fun e=>h5 (XL e)),Au h6]))
   have h6:¬0<IQ x[i-1] x[i]:=h6;refine Yi (by kernel_rfl) ?_;refine Xi ⟨[(3,sl Ag x),(4,vi i)],[],Ab⟩ (Yi ⟨Z2,Tv,Fh,Tv⟩ ?_)
   refine Yi (Ii i (by omega)) ?_;refine Xi ⟨i+1,by omega,by rw[HH,Al (fun e=>h5 (XL e)),Al h6,Yk]⟩ ?_;exact⟨Dl x.length i (by omega),Z2,Tv,Fh,Tv⟩
  have h4:¬(0:Int)<i:=h4;have hb:Wu x i=none:=by
   rw[show i=0 by omega]
  rw[hb]at HH;have HH:Dc none x=Dc (some x[i]) (x.drop (i+1)):=HH;refine Yi (by kernel_rfl) ?_;refine Xi ⟨[(3,sl Ag x),(4,vi i)],[],Ab⟩ (Yi ⟨Z2,Tv,Fh,Tv⟩ ?_)
  refine Yi (fun h9=>absurd h9 h4) (fun _=>?_);refine Yi (by kernel_rfl) ?_;refine Xi ⟨[(3,sl Ag x),(4,vi i)],[],Ab⟩ (Yi ⟨Z2,Tv,Fh,Tv⟩ ?_)
  refine Yi (Ii i (by omega)) ?_;refine Xi ⟨i+1,by omega,by rw[HH,Yk]⟩ ?_;exact⟨Dl x.length i (by omega),Z2,Tv,Fh,Tv⟩
 ·skip
  have h:¬(i:Int)<(x.map Ag).length:=h;have h:¬i<x.length:=by simpa using h
  have e:(0:Int)=A6 x:=by rw[OH,h2,HD (by omega)];rfl
  exact .of_eq (Aa vi e)
structure Wk where
 rep:List Rl
 exc:List Sl
 pin:List Sl
abbrev BH(w:Wk):List AV:=[sl Ag w.rep,sl Ae w.exc,sl Ae w.pin]
structure Xs(w:Wk):Prop where
 rep:∀r∈w.rep,Jg r
 reps:Ci w.rep
 exc:Ci w.exc
 pin:Ci w.pin
 excs:∀s∈w.exc,E7 s.path
 pins:∀s∈w.pin,E7 s.path
abbrev Lo:Sl→Sl→Int:=fun a b=>F8 a.path b.path
def Ct(w:Wk):Int:=if A6 w.rep≠0∨Ha Gn w.exc=false∨Ha Lo w.pin=false then 1 else if(w.pin.any fun s=>decide (s∈w.exc))=true then 17 else 0
theorem Mj{a b:ByteArray}:F8 a b<0↔EJ a b=true:=by
 unfold F8
 by_cases h:EJ a b=true
 ·rw[Au h];simp[h]
 ·rw[Al h];split<;>simp[h]
theorem GC{a b:ByteArray}:F8 a b=0↔a=b:=by
 unfold F8;constructor
 ·intro h;split at h
  ·cases h
  ·rename_i h1;split at h
   ·cases h
   ·rename_i h2;exact HP (by simpa using h1) (by simpa using h2)
 ·rintro rfl
  rw[Al (by rw[Dk];decide),Al (by rw[Dk];decide)]
theorem Nc{a b:Sl}:HZ a b=true↔Gn a b<0:=by
 unfold HZ Gn
 by_cases h:a.path=b.path
 ·rw[Al (fun c=>c h),Al (fun c=>c (GC.2 h)),decide_eq_true_iff]
 ·rw[Au h,Au (fun c=>h (GC.1 c)),Mj]
theorem iv:∀(l:List Sl) (p:Option Sl),My Lo p l=(l.all HI&&In (p.map (·.path)) l)
 | [],_=>by unfold My In;rfl
 |y::l,p=>by
  unfold My In;rw[iv l (some y),List.all_cons];cases p with
  |none =>
   show((HI y&&true)&&(l.all HI&&In (some y.path) l))=((HI y&&l.all HI)&&(true&&In (some y.path) l));cases HI y<;>cases l.all HI<;>simp
  |some z =>
   have e:decide (Lo z y<0)=EJ z.path y.path:=by
    show decide (F8 z.path y.path<0)=_
    by_cases h:EJ z.path y.path=true
    ·rw[h,At (Mj.2 h)]
    ·rw[Aj (fun c=>h (Mj.1 c))];simpa using h
   show((HI y&&decide (Lo z y<0))&&(l.all HI&&In (some y.path) l))=((HI y&&l.all HI)&&(EJ z.path y.path&&In (some y.path) l));rw[e];cases HI y<;>cases l.all HI<;>simp
theorem Sr(l:List Sl):Ha Lo l=(l.all HI&&Et l):=iv l none
theorem J7{w:Wk}(h:A6 w.rep≠0∨Ha Gn w.exc=false∨Ha Lo w.pin=false):Ct w=1:=by unfold Ct;rw[Au h]
theorem Sj{w:Wk}(h1:A6 w.rep=0)(h2:Ha Gn w.exc=true)(h3:Ha Lo w.pin=true):Ct w=if(w.pin.any fun s=>decide (s∈w.exc))=true then 17 else 0:=by
 unfold Ct;rw[Al (by rintro(c | c | c);exact c h1;rw[h2]at c;cases c;rw[h3]at c;cases c)]
theorem o56(s:Sl)(w:Wk)(hl:Ci w.exc):PC 56 [.agg (Ae s),.cptr (BH w)] (vb (decide (s∈w.exc))):=by
 refine Ps ⟨[2],[],[],[],[],[],[],[],[],[],[]⟩ Tryz.func56 rfl (Nz rfl) ?_;refine Yi (Nz rfl) ?_;refine Bp (Bt (decide (s∈w.exc))) (fun h1=>?_) (fun h1=>?_)
 ·have h1:(decide (s∈w.exc))=true:=h1;refine Xi .pure (Xi _ (Yi (cb h1 (qE w.exc s hl)) ?_));exact .of_eq (show vb true=vb (decide (s∈w.exc)) by rw[h1])
 have h1:(decide (s∈w.exc))=false:=h1;refine Xi .pure (Xi _ (Yi (cb h1 (qE w.exc s hl)) ?_));exact .of_eq (show vb false=vb (decide (s∈w.exc)) by rw[h1])
theorem s8(w:Wk)(hW:Xs w):PC 13 [.agg (BH w)] (vi (Ct w)):=by
 refine Ps ⟨[1],[],[],[],[],[],[],[],[],[],[3,4]⟩ Tryz.func13 rfl (Nz rfl) ?_;refine Xi .pure (Xi _ (Yi ((rm Zw w.rep [] hW.rep).args (args':=[.agg [sl Ag w.rep,.v (.slice none 0 0)]]) ⟨Hi.agg ⟨.refl _,.nil,trivial⟩,trivial⟩) ?_));refine Yi (fun h1=>?_) (fun h1=>?_)
 ·have h1:((A6 w.rep):Int)≠(0:Int):=h1;refine Xi ⟨[],[],Ab⟩ (Yi ⟨Tv,Tv,Fh,Tv⟩ ?_)
  exact .of_eq (Aa vi (J7 (.inl h1)).symm)
 have h1:((A6 w.rep):Int)=(0:Int):=A9 h1;refine Bp (Bt (Ha Gn w.exc)) (fun h3=>?_) (fun h3=>?_)
 ·have h3:(Ha Gn w.exc)=true:=h3;refine Xi .pure (Xi _ (Yi (cb h3 (tc w.exc hW.exc hW.excs)) ?_));refine Bp (Bt (Ha Lo w.pin)) (fun h4=>?_) (fun h4=>?_)
  ·have h4:(Ha Lo w.pin)=true:=h4;refine Xi .pure (Xi _ (Yi (cb h4 (tb w.pin hW.pin hW.pins)) ?_));refine Xi ⟨[(1,.ref 1 0)],[(1,.ro (BH w))],Ab⟩ (Yi ⟨Z1,Z1,Fh,Tv⟩ ?_)
   refine Bp (Bt (w.pin.any fun s=>decide (s∈w.exc))) (fun h5=>?_) (fun h5=>?_)
   ·have h5:(w.pin.any fun s=>decide (s∈w.exc))=true:=h5;refine Xi .pure (Xi _ (Yi (cb h5 (o25 (fF:=56) (caps:=[.cptr (BH w)]) (fun c hc=>by obtain rfl:=As.1 hc;intro h;rfl) w.pin (fun s=>decide (s∈w.exc)) (fun s _=>o56 s w hW.exc) hW.pin)) ?_));exact .of_eq (Aa vi (show 17=Ct w by rw[Sj h1 h3 h4,Au h5]))
   have h5:(w.pin.any fun s=>decide (s∈w.exc))=false:=h5;refine Xi .pure (Xi _ (Yi (cb h5 (o25 (fF:=56) (caps:=[.cptr (BH w)]) (fun c hc=>by obtain rfl:=As.1 hc;intro h;rfl) w.pin (fun s=>decide (s∈w.exc)) (fun s _=>o56 s w hW.exc) hW.pin)) ?_));exact .of_eq (Aa vi (show 0=Ct w by rw[Sj h1 h3 h4,Al (by rw[h5];decide)]))
  have h4:(Ha Lo w.pin)=false:=h4;refine Xi .pure (Xi _ (Yi (cb h4 (tb w.pin hW.pin hW.pins)) ?_));refine Xi ⟨[],[],Ab⟩ (Yi ⟨Tv,Tv,Fh,Tv⟩ ?_)
  exact .of_eq (Aa vi (J7 (.inr (.inr h4))).symm)
 have h3:(Ha Gn w.exc)=false:=h3;refine Xi .pure (Xi _ (Yi (cb h3 (tc w.exc hW.exc hW.excs)) ?_));refine Xi ⟨[],[],Ab⟩ (Yi ⟨Tv,Tv,Fh,Tv⟩ ?_)
 exact .of_eq (Aa vi (J7 (.inr (.inl h3))).symm)
theorem o14(w:Wk)(hW:Xs w):PC 14 [.agg (BH w)] (vi (Ct w)):=by
 have rO:w.exc.length≤1073741824:=hW.exc;have hW2:w.pin.length≤1073741824:=hW.pin;refine Ps ⟨[1],[],[],[],[],[],[],[],[],[],[2,3,5,7,10,12,15,17]⟩ Tryz.func14 rfl (Nz rfl) ?_;refine Xi .pure (Xi _ (Yi ((y7 w.rep [] hW.rep).args (args':=[.agg [sl Ag w.rep,.v (.slice none 0 0)]]) ⟨Hi.agg ⟨.refl _,.nil,trivial⟩,trivial⟩) ?_));refine Yi (fun h1=>?_) (fun h1=>?_)
 ·have h1:((A6 w.rep):Int)≠(0:Int):=h1;refine Xi ⟨[],[],Ab⟩ (Yi ⟨Tv,Tv,Fh,Tv⟩ ?_)
  exact .of_eq (Aa vi (J7 (.inl h1)).symm)
 have h1:((A6 w.rep):Int)=(0:Int):=A9 h1;refine Bp (Bt (Et w.pin)) (fun h3=>?_) (fun h3=>?_)
 ·have h3:(Et w.pin)=true:=h3;refine Xi .pure (Xi _ (Yi (cb h3 (y9 w.pin hW.pin)) ?_));refine Xi ⟨[(1,.ref 1 0)],[(1,.ro (BH w))],Ab⟩ (Yi ⟨Z1,Z1,Fh,Tv⟩ ?_)
  refine Xi {q:Nat // q≤w.exc.length∧∀j (hj:j<w.exc.length),j<q→HI w.exc[j]=true∧∀(h0:0<j),Gn (w.exc[j-1]'(by omega)) w.exc[j]<0} (Xi (fun q=>⟨[(1,.ref 1 0),(3,vi q.1)],[(1,.ro (BH w))],Ab⟩) (Xi (fun q=>w.exc.length-q.1) (Yi (Xi ⟨0,AF _,fun _ _ h=>absurd h (Cr _)⟩ ?_) ?_)))
  ·exact⟨Z2,Z1,Fh,Tv⟩
  intro⟨i,i1,i2⟩;have i1:i≤w.exc.length:=i1;have i2:∀j (hj:j<w.exc.length),j<i→HI w.exc[j]=true∧∀(h0:0<j),Gn (w.exc[j-1]'(by omega)) w.exc[j]<0:=i2;refine Yi (fun h4=>?_) (fun h4=>?_)
  ·have h4:(i:Int)<((w.exc.map Ae).length:Int):=h4;have n4:=Iy h4;refine Xi (Ae w.exc[i]) (Yi (J3 n4) (Yi rfl ?_));refine Yi (Nz rfl) ?_;refine Bp (Bt (HI w.exc[i])) (fun h5=>?_) (fun h5=>?_)
   ·have h5:(HI w.exc[i])=true:=h5;refine Xi _ (Yi (cb h5 (uA w.exc[i] (hW.excs _ (Ak n4)))) ?_);refine Yi (fun h6=>?_) (fun h6=>?_)
    ·have h6:(0:Int)<(i:Int):=h6;refine Yi (by show Bs ((i:Int)-(1:Int));unfold Bs;omega) ?_;have gW:i-1<w.exc.length:=by omega
     refine Xi (Ae (w.exc[i-1])) (Yi (Yi (show(0:Int)≤(i:Int)-1 by omega) (by rw[show((i:Int)-1).toNat=i-1 by omega];exact B3 (Ge gW))) (Yi rfl ?_));refine Yi (Nz rfl) ?_;refine Xi (Ae w.exc[i]) (Yi (J3 n4) (Yi rfl ?_));refine Yi (Nz rfl) ?_;refine Bp (Bt (HZ w.exc[i-1] w.exc[i])) (fun h7=>?_) (fun h7=>?_)
     ·have h7:(HZ w.exc[i-1] w.exc[i])=true:=h7;refine Xi _ (Yi (cb h7 (uB w.exc[i-1] w.exc[i])) ?_);refine Yi (by kernel_rfl) ?_;refine Xi ⟨[(1,.ref 1 0),(3,vi i)],[(1,.ro (BH w))],Ab⟩ (Yi ⟨Z2,Z1,Fh,Tv⟩ ?_)
      refine Yi (Ii i (by omega)) ?_;refine Xi ⟨i+1,n4,fun j hj GF=>if e:j<i then i2 j hj e else by
        have e:j=i:=by omega
        subst e;exact⟨h5,fun _=>Nc.1 h7⟩⟩ ?_
      exact⟨Dl w.exc.length i (by omega),Z2,Z1,Fh,Tv⟩
     have h7:(HZ w.exc[i-1] w.exc[i])=false:=h7;refine Xi _ (Yi (cb h7 (uB w.exc[i-1] w.exc[i])) ?_);refine Yi (by kernel_rfl) ?_;refine Xi ⟨[],[],Ab⟩ (Yi ⟨Tv,Tv,Fh,Tv⟩ ?_)
     exact .of_eq (Aa vi (J7 (.inr (.inl (AD.2 fun hi=>by have q:=(GH.1 hi i n4).2 (by omega);rw[←Nc,h7]at q;cases q)))).symm)
    have h6:¬((0:Int)<(i:Int)):=h6;refine Yi (by kernel_rfl) ?_;refine Xi ⟨[(1,.ref 1 0),(3,vi i)],[(1,.ro (BH w))],Ab⟩ (Yi ⟨Z2,Z1,Fh,Tv⟩ ?_)
    refine Yi (Ii i (by omega)) ?_;refine Xi ⟨i+1,n4,fun j hj GF=>if e:j<i then i2 j hj e else by
      have e:j=i:=by omega
      subst e;exact⟨h5,fun h0=>absurd h0 (by omega)⟩⟩ ?_
    exact⟨Dl w.exc.length i (by omega),Z2,Z1,Fh,Tv⟩
   have h5:(HI w.exc[i])=false:=h5;refine Xi _ (Yi (cb h5 (uA w.exc[i] (hW.excs _ (Ak n4)))) ?_);refine Yi (by kernel_rfl) ?_;refine Xi ⟨[],[],Ab⟩ (Yi ⟨Tv,Tv,Fh,Tv⟩ ?_)
   exact .of_eq (Aa vi (J7 (.inr (.inl (AD.2 fun hi=>by have q:=(GH.1 hi i n4).1;rw[h5]at q;cases q)))).symm)
  have h4:¬((i:Int)<((w.exc.map Ae).length:Int)):=h4;have n4:=Ix h4;refine Xi {q:Nat // q≤w.pin.length∧∀j (hj:j<w.pin.length),j<q→HI w.pin[j]=true} (Xi (fun q=>⟨[(1,.ref 1 0),(4,vi q.1)],[(1,.ro (BH w))],Ab⟩) (Xi (fun q=>w.pin.length-q.1) (Yi (Xi ⟨0,AF _,fun _ _ h=>absurd h (Cr _)⟩ ?_) ?_)))
  ·exact⟨Z2,Z1,Fh,Tv⟩
  intro⟨k,k1,k2⟩;have k1:k≤w.pin.length:=k1;have k2:∀j (hj:j<w.pin.length),j<k→HI w.pin[j]=true:=k2;refine Yi (fun Iu=>?_) (fun Iu=>?_)
  ·have Iu:(k:Int)<((w.pin.map Ae).length:Int):=Iu;have n12:=Iy Iu;refine Xi (Ae w.pin[k]) (Yi (J3 n12) (Yi rfl ?_));refine Yi (Nz rfl) ?_;refine Bp (Bt (HI w.pin[k])) (fun Pt=>?_) (fun Pt=>?_)
   ·have Pt:(HI w.pin[k])=true:=Pt;refine Xi .pure (Xi _ (Yi (cb Pt (uA w.pin[k] (hW.pins _ (Ak n12)))) ?_));refine Xi ⟨[(1,.ref 1 0),(4,vi k)],[(1,.ro (BH w))],Ab⟩ (Yi ⟨Z2,Z1,Fh,Tv⟩ ?_)
    refine Yi (Ii k (by omega)) ?_;refine Xi ⟨k+1,n12,fun j hj GF=>if e:j<k then k2 j hj e else by
      have e:j=k:=by omega
      subst e;exact Pt⟩ ?_
    exact⟨Dl w.pin.length k (by omega),Z2,Z1,Fh,Tv⟩
   have Pt:(HI w.pin[k])=false:=Pt;refine Xi .pure (Xi _ (Yi (cb Pt (uA w.pin[k] (hW.pins _ (Ak n12)))) ?_));refine Xi ⟨[],[],Ab⟩ (Yi ⟨Tv,Tv,Fh,Tv⟩ ?_)
   exact .of_eq (Aa vi (J7 (.inr (.inr (by rw[Sr,show w.pin.all HI=false from AD.2 fun h=>by have q:=AS.1 h _ (Ak n12);rw[Pt]at q;cases q];rfl)))).symm)
  have Iu:¬((k:Int)<((w.pin.map Ae).length:Int)):=Iu;have n12:=Ix Iu;refine Xi {q:Nat // q≤w.pin.length∧∀j (hj:j<w.pin.length),j<q→w.pin[j]∉w.exc} (Xi (fun q=>⟨[(1,.ref 1 0),(5,vi q.1)],[(1,.ro (BH w))],Ab⟩) (Xi (fun q=>w.pin.length-q.1) (Yi (Xi ⟨0,AF _,fun _ _ h=>absurd h (Cr _)⟩ ?_) ?_)))
  ·exact⟨Z2,Z1,Fh,Tv⟩
  intro⟨m,m1,m2⟩;have m1:m≤w.pin.length:=m1;have m2:∀j (hj:j<w.pin.length),j<m→w.pin[j]∉w.exc:=m2;refine Yi (fun Qw=>?_) (fun Qw=>?_)
  ·have Qw:(m:Int)<((w.pin.map Ae).length:Int):=Qw;have n16:=Iy Qw;refine Xi (Ae w.pin[m]) (Yi (J3 n16) (Yi rfl ?_));refine Yi (Nz rfl) ?_;refine Bp (Bt (decide (w.pin[m]∈w.exc))) (fun bi=>?_) (fun bi=>?_)
   ·have bi:(decide (w.pin[m]∈w.exc))=true:=bi;refine Xi _ (Yi (cb bi (uz w.exc w.pin[m] hW.exc)) ?_);refine Yi (by kernel_rfl) ?_;refine Xi ⟨[],[],Ab⟩ (Yi ⟨Tv,Tv,Fh,Tv⟩ ?_)
    have hE:=GH.2 fun j hj=>i2 j hj (by have q:=h4;rw[Lm]at q;omega);have hP:Ha Lo w.pin=true:=by rw[Sr,h3,RV,AS];intro y hy;obtain⟨j,hj,rfl⟩:=Ce.1 hy;exact k2 j hj (by have q:=Iu;rw[Lm]at q;omega)
    exact .of_eq (Aa vi (show(17:Int)=Ct w by rw[Sj h1 hE hP,Au (A8.2 ⟨_,Ak n16,bi⟩)]))
   have bi:(decide (w.pin[m]∈w.exc))=false:=bi;refine Xi _ (Yi (cb bi (uz w.exc w.pin[m] hW.exc)) ?_);refine Yi (by kernel_rfl) ?_;refine Xi ⟨[(1,.ref 1 0),(5,vi m)],[(1,.ro (BH w))],Ab⟩ (Yi ⟨Z2,Z1,Fh,Tv⟩ ?_)
   refine Yi (Ii m (by omega)) ?_;refine Xi ⟨m+1,n16,fun j hj GF=>if e:j<m then m2 j hj e else by
     have e:j=m:=by omega
     subst e;exact HG bi⟩ ?_
   exact⟨Dl w.pin.length m (by omega),Z2,Z1,Fh,Tv⟩
  have Qw:¬((m:Int)<((w.pin.map Ae).length:Int)):=Qw;have n16:=Ix Qw;have hE:=GH.2 fun j hj=>i2 j hj (by have q:=h4;rw[Lm]at q;omega);have hP:Ha Lo w.pin=true:=by rw[Sr,h3,RV,AS];intro y hy;obtain⟨j,hj,rfl⟩:=Ce.1 hy;exact k2 j hj (by have q:=Iu;rw[Lm]at q;omega)
  exact .of_eq (Aa vi (show(0:Int)=Ct w by rw[Sj h1 hE hP,Al (by rw[A8];rintro⟨y,hy,hm⟩;obtain⟨j,hj,rfl⟩:=Ce.1 hy;exact m2 j hj (by have q:=Qw;rw[Lm]at q;omega) (BC hm))]))
 have h3:(Et w.pin)=false:=h3;refine Xi .pure (Xi _ (Yi (cb h3 (y9 w.pin hW.pin)) ?_));refine Xi ⟨[],[],Ab⟩ (Yi ⟨Tv,Tv,Fh,Tv⟩ ?_)
 exact .of_eq (Aa vi (J7 (.inr (.inr (by rw[Sr,h3,Cz])))).symm)
end Go.Eng
