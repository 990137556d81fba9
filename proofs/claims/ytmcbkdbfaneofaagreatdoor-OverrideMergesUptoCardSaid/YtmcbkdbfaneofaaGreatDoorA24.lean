/- Lemmas for the claims of this seat, without a condition: part 24 (R11, O3, R12, R13, O4). -/
import Derived.Test.YtmcbkdbfaneofaaGreatDoorA23
set_option maxHeartbeats 4000000
namespace Go.Eng
open Go.Proofs
theorem ox(s:ByteArray):PC 107 [vs s] (vb (DU s)):=by
 refine Ps E8 Tryz.func107 rfl (Nz rfl) ?_;refine Yi (fun h=>?_) (fun h=>?_)
 ·have h:((s.size:Nat):Int)=0:=h;exact .of_eq (Ab vb (show true=DU s by unfold DU;rw[At (by omega:s.size=0)];rfl))
 have h:¬((s.size:Nat):Int)=0:=h;refine Yi (fun h2=>?_) (fun h2=>?_)
 ·have h2:((s.size:Nat):Int)=32:=h2;exact .of_eq (Ab vb (show true=DU s by unfold DU;rw[At (by omega:s.size=32),UL]))
 have h2:¬((s.size:Nat):Int)=32:=h2;exact .of_eq (Ab vb (show false=DU s by unfold DU;rw[Aj (by omega:¬s.size=0),Aj (by omega:¬s.size=32)];rfl))
def I6(v:Ver):Nat→Int
 |0=>v.a
 |1=>v.b
 |_=>v.c
abbrev OB(v:Ver):List (List AV):=[[vi v.a],[vi v.b],[vi v.c]]
theorem PT(v:Ver)(i:Nat)(h:i<3):(OB v)[((i:Nat):Int).toNat]?=some [vi (I6 v i)]:=by
 rw[Ba]
 match i,h with
 |0,_=>rfl
 |1,_=>rfl
 |2,_=>rfl
theorem gq(a b:Ver)(i:Nat)(hi:i<3)(h:∀j,j<i→I6 a j=I6 b j)(hl:I6 a i<I6 b i):G3 a b=-1:=by
 match i,hi,h,hl with
 |0,_,h,hl =>
  have hl:a.a<b.a:=hl;unfold G3 Fa;simp[hl]
 |1,_,h,hl =>
  have hl:a.b<b.b:=hl;have h0:a.a=b.a:=h 0 (by omega);unfold G3 Fa;simp[hl,h0]
 |2,_,h,hl =>
  have hl:a.c<b.c:=hl;have h0:a.a=b.a:=h 0 (by omega);have h1:a.b=b.b:=h 1 (by omega);unfold G3 Fa;simp[hl,h0,h1]
theorem gp(a b:Ver)(i:Nat)(hi:i<3)(h:∀j,j<i→I6 a j=I6 b j)(hl:I6 b i<I6 a i):G3 a b=1:=by
 match i,hi,h,hl with
 |0,_,h,hl =>
  have hl:b.a<a.a:=hl;have hn:¬a.a<b.a:=by omega
  unfold G3 Fa;simp[hl,hn]
 |1,_,h,hl =>
  have hl:b.b<a.b:=hl;have hn:¬a.b<b.b:=by omega
  have h0:a.a=b.a:=h 0 (by omega);unfold G3 Fa;simp[hl,hn,h0]
 |2,_,h,hl =>
  have hl:b.c<a.c:=hl;have hn:¬a.c<b.c:=by omega
  have h0:a.a=b.a:=h 0 (by omega);have h1:a.b=b.b:=h 1 (by omega);unfold G3 Fa;simp[hl,hn,h0,h1]
theorem gn(a b:Ver)(h:∀j,j<3→I6 a j=I6 b j):G3 a b=0:=by
 have h0:a.a=b.a:=h 0 (by omega);have h1:a.b=b.b:=h 1 (by omega);have h2:a.c=b.c:=h 2 (by omega);unfold G3 Fa;simp[h0,h1,h2]
theorem rf(a b:Ver):PC 87 [.agg (JH a),.agg (JH b)] (vi (G3 a b)):=by
 refine Ps (Iq [3,5]) Tryz.func87 rfl (Nz rfl) ?_;refine Xi ⟨[(5,.slice (.id 14 1) (OB a)),(6,.slice (.id 21 1) (OB b))],[(14,.tok 1 3),(21,.tok 1 3)],Aa⟩ (Yi ⟨Z2,Z2,Fh,Tv⟩ ?_)
 refine Xi {i:Nat // i≤3∧∀j,j<i→I6 a j=I6 b j} (Xi (fun i=>⟨[(5,.slice (.id 14 1) (OB a)),(6,.slice (.id 21 1) (OB b)),(7,vi i.1)],[(14,.tok 1 3),(21,.tok 1 3)],Aa⟩) (Xi (fun i=>3-i.1) (Yi (Xi ⟨0,AG _,fun j h=>by omega⟩ ?_) ?_)))
 ·exact⟨Z3,Z2,Fh,Tv⟩
 intro⟨i,i1,i2⟩;refine Yi (fun h=>?_) (fun h=>?_)
 ·have h:(i:Int)<3:=h;have h:i<3:=by omega
  refine Xi [vi (I6 a i)] (Yi (Yi (Nn i) (PT a i h)) (Yi rfl ?_));refine Xi [vi (I6 b i)] (Yi (Yi (Nn i) (PT b i h)) (Yi rfl ?_));refine Yi (fun h2=>?_) (fun h2=>?_)
  ·have h2:I6 a i<I6 b i:=h2;refine Yi (by kernel_rfl) ?_;exact .of_eq (Ab vi (gq a b i h i2 h2).symm)
  have h2:¬I6 a i<I6 b i:=h2;refine Yi (by kernel_rfl) ?_;refine Xi [vi (I6 a i)] (Yi (Yi (Nn i) (PT a i h)) (Yi rfl ?_));refine Xi [vi (I6 b i)] (Yi (Yi (Nn i) (PT b i h)) (Yi rfl ?_));refine Yi (fun h3=>?_) (fun h3=>?_)
  ·have h3:I6 b i<I6 a i:=h3;refine Yi (by kernel_rfl) ?_;exact .of_eq (Ab vi (gp a b i h i2 h3).symm)
  have h3:¬I6 b i<I6 a i:=h3;refine Yi (by kernel_rfl) ?_;refine Xi ⟨[(5,.slice (.id 14 1) (OB a)),(6,.slice (.id 21 1) (OB b)),(7,vi i)],[(14,.tok 1 3),(21,.tok 1 3)],Aa⟩ (Yi ⟨Z3,Z2,Fh,Tv⟩ ?_)
  refine Yi (Ii i (by omega)) ?_;refine Xi ⟨i+1,by omega,fun j hj=>?_⟩ ?_
  ·rcases Ch j i with z | z
   ·exact i2 j z
   ·have:j=i:=by omega
    subst this;omega
  exact⟨Dl 3 i (by omega),Z3,Z2,Fh,Tv⟩
 ·have h:¬(i:Int)<3:=h;exact .of_eq (Ab vi (gn a b fun j hj=>i2 j (by omega)).symm)
theorem vq(a b:Rl):PC 80 [.agg (Ai a),.agg (Ai b)] (vi (IQ a b)):=by
 have hc:=rf a.ver b.ver;refine Ps E8 Tryz.func80 rfl (Nz rfl) ?_;refine Yi (fun h=>?_) (fun h=>?_)
 ·have h:Op.bytesLess a.path.toList b.path.toList=true:=h;exact .of_eq (Ab vi (show(-1:Int)=IQ a b by unfold IQ Gd;rw[Ax (show EM a.path b.path=true by rw[E0];exact h)];rfl))
 have h:¬Op.bytesLess a.path.toList b.path.toList=true:=h;refine Yi (fun h2=>?_) (fun h2=>?_)
 ·have h2:Op.bytesLess b.path.toList a.path.toList=true:=h2;exact .of_eq (Ab vi (show(1:Int)=IQ a b by unfold IQ Gd;rw[Ao (show ¬EM a.path b.path=true by rw[E0];exact h),Ax (show EM b.path a.path=true by rw[E0];exact h2)];rfl))
 have h2:¬Op.bytesLess b.path.toList a.path.toList=true:=h2;refine Yi (Nz rfl) (Yi (Nz rfl) ?_);refine Xi .pure (Xi _ (Yi (hc) ?_));exact .of_eq (Ab vi (show G3 a.ver b.ver=IQ a b by unfold IQ Gd;rw[Ao (show ¬EM a.path b.path=true by rw[E0];exact h),Ao (show ¬EM b.path a.path=true by rw[E0];exact h2)];rfl))
theorem o70{fF:Nat}{caps:List AV}(hs:EZ caps)(l:List (Sl))(p:Sl→Bool)(hF:∀x∈l,PC fF ([.agg (Ae x)]++caps) (vb (p x)))(hl:l.length<9223372036854775807) :
  PC 70 [sl Ae l,.clo fF caps] (vi (Iw p l 0)):=by
 refine Ps E8 Tryz.func70 rfl (Nz rfl) ?_;refine Xi {i:Nat // i≤l.length∧∀j (hj:j<l.length),j<i→p l[j]=false} (Xi (fun i=>⟨[(0,sl Ae l),(1,.clo fF caps),(7,vi (l.map Ae).length),(8,vi i.1)],[],Aa⟩) (Xi (fun i=>l.length-i.1) (Yi (Xi ⟨0,by simp⟩ ?_) ?_)))
 ·exact⟨⟨Zr,⟨rfl,hs.ids _⟩,Zr,Zr,Tv⟩,Tv,Fh,Tv⟩
 ·intro⟨i,h1,h2⟩;refine Yi ?_ ?_
  ·intro h;have h:(i:Int)<(l.map Ae).length:=h;have h:i<l.length:=by simpa using h
   have hg:l[i]?=some l[i]:=Ge h;refine Xi (Ae l[i]) (Yi (Yi (Nn i) (by simp[hg])) (Yi rfl (Yi (Nz rfl) ?_)));have DM:∀h,PC fF ([.agg (Ae l[i])]++caps.map (str0 h)) (vb (p l[i])):=fun h=>by rw[hs.map];exact hF l[i] (Ak _)
   cases hp:p l[i]with
   |true =>
    rw[hp]at DM;refine Xi .pure (Xi (vb true) (Yi (DM _) ?_));rw[JN h (fun j hj GA=>h2 j hj GA) hp,Fl];exact .refl _
   |false =>
    rw[hp]at DM;refine Xi .pure (Xi (vb false) (Yi (DM _) ?_));refine Yi (Ii i (by omega)) ?_;refine Xi ⟨i+1,by omega,fun j hj GA=>?_⟩ ?_
    ·by_cases e:j=i
     ·subst e;exact hp
     ·exact h2 j hj (by omega)
    ·exact⟨Dl l.length i (by omega),⟨Zr,⟨rfl,hs.ids _⟩,Zr,Zr,Tv⟩,Tv,Fh,Tv⟩
  ·intro h;have h:¬(i:Int)<(l.map Ae).length:=h;have h:¬i<l.length:=by simpa using h
   rw[GI fun j hj=>h2 j hj (by omega)];exact .refl _
theorem o25{fF:Nat}{caps:List AV}(hs:EZ caps)(l:List (Sl))(p:Sl→Bool)(hF:∀x∈l,PC fF ([.agg (Ae x)]++caps) (vb (p x)))(hl:Co l) :
  PC 25 [sl Ae l,.clo fF caps] (vb (l.any p)):=by
 refine Ps E8 Tryz.func25 rfl (Nz rfl) ?_;have hi:=o70 hs l p hF (by unfold Co at hl;omega);have DM:∀h,PC 70 [sl Ae l,.clo fF (caps.map (str0 h))] (vi (Iw p l 0)):=fun h=>by rw[hs.map];exact hi
 refine Xi .pure (Xi _ (Yi (DM _) ?_));have ha:=Lz (p:=p) l 0 (AZ 0);refine Yi ?_ ?_
 ·intro h;have h:(0:Int)≤Iw p l 0:=h;rw[←ha,At h];exact .refl _
 ·intro h;have h:¬(0:Int)≤Iw p l 0:=h;rw[←ha,Aj h];exact .refl _
def Fi(a b:Sl):Int:=if Gd a.path b.path≠0 then Gd a.path b.path else G3 a.ver b.ver
def HN(s:Sl):Bool:=decide (Bi s.path=some s.ver.a)&&Cy s.ver
def FA(a b:Sl):Bool:=if a.path≠b.path then EM a.path b.path else decide (G3 a.ver b.ver<0)
def lN(l:List Sl)(s:Sl):Int:=Iw (fun y=>decide (s=y)) l 0
theorem ci{a b:Sl}(h:a.path=b.path∧a.ver.a=b.ver.a∧a.ver.b=b.ver.b∧a.ver.c=b.ver.c∧True):a=b:=by
 obtain⟨p,⟨x,y,z⟩⟩:=a;obtain⟨p',⟨x',y',z'⟩⟩:=b;obtain⟨h1,h2,h3,h4,_⟩:=h;cases h1;cases h2;cases h3;cases h4;rfl
theorem jQ{a b:Sl}(h:¬(a.path=b.path∧a.ver.a=b.ver.a∧a.ver.b=b.ver.b∧a.ver.c=b.ver.c∧True)):a≠b:=fun e=>h (by subst e;exact⟨rfl,rfl,rfl,rfl,trivial⟩)
theorem bE(l:List Sl)(s:Sl):(0≤lN l s)↔s∈l:=by
 have:=Lz (p:=fun y=>decide (s=y)) l 0 (AZ 0)
 unfold lN;have h2:(0≤Iw (fun y=>decide (s=y)) l 0)↔(l.any fun y=>decide (s=y))=true:=by rw[←this,AB]
 rw[h2,Bb];constructor
 ·rintro⟨y,hy,e⟩;simp only[AB]at e;subst e;exact hy
 ·intro h;exact⟨s,h,by simp⟩
theorem te(r:Rl):PC 42 [.agg (Ai r)] (.agg (Ae ⟨r.path,r.ver⟩)):=by
 refine Ps ⟨[1],[],[],[],[],[],[],[],[],[],[]⟩ Tryz.func42 rfl (Nz rfl) ?_;refine Yi (Nz rfl) ?_;refine Yi (Nz rfl) ?_;refine Yi (Nz rfl) ?_;exact .refl _
theorem uH(r:Rl):PC 50 [.agg (Ai r)] (.agg (Ae ⟨r.path,r.ver⟩)):=by
 refine Ps ⟨[1],[],[],[],[],[],[],[],[],[],[]⟩ Tryz.func50 rfl (Nz rfl) ?_;refine Yi (Nz rfl) ?_;refine Yi (Nz rfl) ?_;refine Yi (Nz rfl) ?_;exact .refl _
theorem xO(a b:Sl):PC 55 [.agg (Ae a),.agg (Ae b)] (vi (Fi a b)):=by
 refine Ps ⟨[2,3],[],[],[],[],[],[],[],[],[],[]⟩ Tryz.func55 rfl (Nz rfl) ?_;refine Xi _ (Yi (kP a.path b.path) ?_);refine Yi (Nz rfl) ?_;refine Yi (Nz rfl) ?_;refine Xi _ (Yi (rd a.ver b.ver) ?_);refine Xi _ (Yi (rc (Gd a.path b.path) (G3 a.ver b.ver)) ?_);refine Yi (by kernel_rfl) ?_;exact .refl _
theorem o39(r s:Rl):PC 39 [.agg (Ai r),.agg (Ai s)] (vi (Fi ⟨r.path,r.ver⟩ ⟨s.path,s.ver⟩)):=by
 refine Ps ⟨[],[],[],[],[],[],[],[],[],[],[]⟩ Tryz.func39 rfl (Nz rfl) ?_;refine Yi (Nz rfl) ?_;refine Xi _ (Yi (te r) ?_);refine Yi (Nz rfl) ?_;refine Xi _ (Yi (te s) ?_);refine Xi _ (Yi (xO ⟨r.path,r.ver⟩ ⟨s.path,s.ver⟩) ?_);refine Yi (by kernel_rfl) ?_;exact .refl _
theorem o52(a b:Sl):PC 52 [.agg (Ae a),.agg (Ae b)] (vi (Gd a.path b.path)):=by
 refine Ps ⟨[2,3],[],[],[],[],[],[],[],[],[],[]⟩ Tryz.func52 rfl (Nz rfl) ?_;refine Xi .pure (Xi _ (Yi (kP a.path b.path) ?_));exact .refl _
theorem o61(a b:Sl):PC 61 [.agg (Ae a),.agg (Ae b)] (vi (Gd a.path b.path)):=by
 refine Ps ⟨[2,3],[],[],[],[],[],[],[],[],[],[]⟩ Tryz.func61 rfl (Nz rfl) ?_;refine Xi .pure (Xi _ (Yi (kP a.path b.path) ?_));exact .refl _
theorem qJ(a b:Sl):PC 59 [.agg (Ae a),.agg (Ae b)] (vb (FA a b)):=by
 refine Ps ⟨[2,3],[],[],[],[],[],[],[],[],[],[]⟩ Tryz.func59 rfl (Nz rfl) ?_;refine Yi (fun h2=>?_) (fun h2=>?_)
 ·have h2:(a.path:ByteArray)≠b.path:=h2;refine Yi (fun h3=>?_) (fun h3=>?_)
  ·have h3:EM a.path b.path=true:=(E0 _ _).trans h3;exact .of_eq (show vb true=vb (FA a b) by unfold FA;rw[Ax h2,h3])
  have h3:EM a.path b.path=false:=(E0 _ _).trans (AF.2 h3);exact .of_eq (show vb false=vb (FA a b) by unfold FA;rw[Ax h2,h3])
 have h2:(a.path:ByteArray)=b.path:=Bj h2;refine Yi (Nz rfl) ?_;refine Yi (Nz rfl) ?_;refine Xi .pure (Xi _ (Yi (rf a.ver b.ver) ?_));refine Yi (fun h6=>?_) (fun h6=>?_)
 ·have h6:((G3 a.ver b.ver):Int)<(0:Int):=h6;exact .of_eq (show vb true=vb (FA a b) by unfold FA;rw[Ao (fun h=>h h2),At h6])
 have h6:¬(((G3 a.ver b.ver):Int)<(0:Int)):=h6;exact .of_eq (show vb false=vb (FA a b) by unfold FA;rw[Ao (fun h=>h h2),Aj h6])
theorem xU(s:Sl)(e:Bi s.path=none)(hl:PC 91 [vs s.path] (.tup [vs ⟨#[]⟩,vi 0,vi 4])):PC 82 [.agg (Ae s)] (vb (HN s)):=by
 refine Ps ⟨[1],[],[],[],[],[],[],[],[],[],[2]⟩ Tryz.func82 rfl (Nz rfl) ?_;refine Xi .pure (Xi _ (Yi hl ?_));refine Xi ⟨[(1,.ref 1 0),(4,vi 0),(5,vi 4)],[(1,.ro (Ae s))],Aa⟩ (Yi ⟨Z3,Z1,Fh,Tv⟩ ?_)
 refine Yi (fun h=>absurd h (by decide)) (fun _=>?_);exact .of_eq (show vb false=vb (HN s) by unfold HN;rw[e,Aj (by intro h;cases h)];rfl)
theorem xV(s:Sl)(m:Int)(e:Bi s.path=some m)(hl:PC 91 [vs s.path] (.tup [vs (QB s.path),vi m,vi 0])):PC 82 [.agg (Ae s)] (vb (HN s)):=by
 refine Ps ⟨[1],[],[],[],[],[],[],[],[],[],[2]⟩ Tryz.func82 rfl (Nz rfl) ?_;refine Xi .pure (Xi _ (Yi hl ?_));refine Xi ⟨[(1,.ref 1 0),(4,vi m),(5,vi 0)],[(1,.ro (Ae s))],Aa⟩ (Yi ⟨Z3,Z1,Fh,Tv⟩ ?_)
 refine Yi (fun _=>?_) (fun h=>absurd (by decide) h);refine Yi (Nz rfl) ?_;refine Bq (Bt (Cy s.ver)) (fun h1=>?_) (fun h1=>?_)
 ·have h1:(Cy s.ver)=true:=h1;refine Xi .pure (Xi _ (Yi (cb h1 (kO s.ver)) ?_));refine Yi (fun h2=>?_) (fun h2=>?_)
  ·have h2:(s.ver.a:Int)=(m:Int):=h2;exact .of_eq (show vb true=vb (HN s) by unfold HN;rw[e,At (Ab some h2.symm),h1];rfl)
  have h2:¬((s.ver.a:Int)=(m:Int)):=h2;exact .of_eq (show vb false=vb (HN s) by unfold HN;rw[e,Aj (fun h=>h2 (BA h).symm),h1];rfl)
 have h1:(Cy s.ver)=false:=h1;refine Xi .pure (Xi _ (Yi (cb h1 (kO s.ver)) ?_));exact .of_eq (show vb false=vb (HN s) by unfold HN;rw[h1,Cz])
theorem uL(s:Sl)(hp:E9 s.path):PC 82 [.agg (Ae s)] (vb (HN s)):=by
 have hl:=ZG s.path hp;cases e:Bi s.path with
 |none=>exact xU s e (by have q:=hl;unfold Mz at q;rw[e]at q;exact q)
 |some m=>exact xV s m e (by have q:=hl;unfold Mz at q;rw[e]at q;exact q)
theorem xP(s:Sl)(e:Bi s.path=none)(hl:PC 85 [vs s.path] (.tup [vs ⟨#[]⟩,vi 0,vi 4])):PC 58 [.agg (Ae s)] (vb (HN s)):=by
 refine Ps ⟨[1],[],[],[],[],[],[],[],[],[],[2]⟩ Tryz.func58 rfl (Nz rfl) ?_;refine Xi .pure (Xi _ (Yi hl ?_));refine Xi ⟨[(1,.ref 1 0),(4,vi 0),(5,vi 4)],[(1,.ro (Ae s))],Aa⟩ (Yi ⟨Z3,Z1,Fh,Tv⟩ ?_)
 refine Yi (fun h=>absurd h (by decide)) (fun _=>?_);exact .of_eq (show vb false=vb (HN s) by unfold HN;rw[e,Aj (by intro h;cases h)];rfl)
theorem xQ(s:Sl)(m:Int)(e:Bi s.path=some m)(hl:PC 85 [vs s.path] (.tup [vs (QB s.path),vi m,vi 0])):PC 58 [.agg (Ae s)] (vb (HN s)):=by
 refine Ps ⟨[1],[],[],[],[],[],[],[],[],[],[2]⟩ Tryz.func58 rfl (Nz rfl) ?_;refine Xi .pure (Xi _ (Yi hl ?_));refine Xi ⟨[(1,.ref 1 0),(4,vi m),(5,vi 0)],[(1,.ro (Ae s))],Aa⟩ (Yi ⟨Z3,Z1,Fh,Tv⟩ ?_)
 refine Yi (fun _=>?_) (fun h=>absurd (by decide) h);refine Yi (Nz rfl) ?_;refine Bq (Bt (Cy s.ver)) (fun h1=>?_) (fun h1=>?_)
 ·have h1:(Cy s.ver)=true:=h1;refine Xi .pure (Xi _ (Yi (cb h1 (ov s.ver)) ?_));refine Yi (fun h2=>?_) (fun h2=>?_)
  ·have h2:(s.ver.a:Int)=(m:Int):=h2;exact .of_eq (show vb true=vb (HN s) by unfold HN;rw[e,At (Ab some h2.symm),h1];rfl)
  have h2:¬((s.ver.a:Int)=(m:Int)):=h2;exact .of_eq (show vb false=vb (HN s) by unfold HN;rw[e,Aj (fun h=>h2 (BA h).symm),h1];rfl)
 have h1:(Cy s.ver)=false:=h1;refine Xi .pure (Xi _ (Yi (cb h1 (ov s.ver)) ?_));exact .of_eq (show vb false=vb (HN s) by unfold HN;rw[h1,Cz])
theorem uI(s:Sl)(hp:E9 s.path):PC 58 [.agg (Ae s)] (vb (HN s)):=by
 have hl:=rg s.path hp;cases e:Bi s.path with
 |none=>exact xP s e (by have q:=hl;unfold Mz at q;rw[e]at q;exact q)
 |some m=>exact xQ s m e (by have q:=hl;unfold Mz at q;rw[e]at q;exact q)
def Mw(c:Sl→Sl→Int):Option Sl→List Sl→Bool
 |_,[]=>true
 |p,y::l=>HN y&&(match p with |none=>true |some z=>decide (c z y<0))&&Mw c (some y) l
def He(c:Sl→Sl→Int)(l:List Sl):Bool:=Mw c none l
theorem TO(c:Sl→Sl→Int):∀(l:List Sl) (p:Option Sl),Mw c p l=true↔(∀i (h:i<l.length),HN l[i]=true∧∀(h0:0<i),c (l[i-1]'(by omega)) l[i]<0)∧∀z,p=some z→∀(h:0<l.length),c z l[0]<0
 | [],p=>by simp[Mw]
 |y::l,p=>by
  have ih:=TO c l (some y);unfold Mw;rw[Ah,Ah,ih];constructor
  ·rintro⟨⟨h1,h2⟩,h3,h4⟩
   refine⟨fun i h=>?_,fun z e h=>?_⟩
   ·cases i with
    |zero=>exact⟨h1,fun h0=>absurd h0 (Nat.lt_irrefl _)⟩
    |succ i =>
     have hi:i<l.length:=by simpa using h
     refine⟨(h3 i hi).1,fun _=>?_⟩;cases i with
     |zero=>exact h4 y rfl hi
     |succ i=>exact(h3 (i+1) hi).2 (by omega)
   ·subst e;simpa using h2
  ·rintro⟨h1,h2⟩
   refine⟨⟨(h1 0 (by simp)).1,?_⟩,fun i h=>?_,fun z e h=>?_⟩
   ·cases p with
    |none=>rfl
    |some z=>exact At (h2 z rfl (Nat.succ_pos _))
   ·refine⟨(h1 (i+1) (by simpa using h)).1,fun h0=>?_⟩
    have:=(h1 (i+1) (by simpa using h)).2 (by omega)
    obtain⟨k,rfl⟩:∃k,i=k+1:=⟨i-1,by omega⟩;exact this
   ·cases e
    exact(h1 1 (by simpa using h)).2 (by omega)
theorem GK{c:Sl→Sl→Int}{l:List Sl}:He c l=true↔∀i (h:i<l.length),HN l[i]=true∧∀(h0:0<i),c (l[i-1]'(by omega)) l[i]<0:=by
 unfold He;rw[TO];exact⟨fun h=>h.1,fun h=>⟨h,fun _ e=>by cases e⟩⟩
def QL(l:List Sl)(p:ByteArray):Option Sl:=l.find? fun y=>decide (y.path=p)
def zSl:Sl:=⟨mt,⟨0,0,0⟩⟩
theorem mq{l:List Sl}{p:ByteArray}{i:Nat}(hi:i<l.length)(h:∀j (hj:j<l.length),j<i→l[j].path≠p)(hp:l[i].path=p):QL l p=some l[i]:=by
 unfold QL;rw[List.find?_eq_some_iff_getElem];exact⟨by simpa using hp,i,hi,rfl,fun j hj=>by simpa using h j (by omega) hj⟩
theorem eD{l:List Sl}{p:ByteArray}(h:∀j (hj:j<l.length),l[j].path≠p):QL l p=none:=by
 unfold QL;rw[D0];intro y hy;obtain⟨j,hj,rfl⟩:=BR.1 hy;simpa using h j hj
theorem o71(l:List Sl)(s:Sl)(hl:Co l):PC 71 [sl Ae l,.agg (Ae s)] (vi (lN l s)):=by
 refine Ps ⟨[3],[],[],[],[],[],[],[],[],[],[5,6]⟩ Tryz.func71 rfl (Nz rfl) ?_;refine Xi {q:Nat // q≤l.length∧∀j (hj:j<l.length),j<q→s≠l[j]} (Xi (fun q=>⟨[(0,sl Ae l),(3,.ref 3 0),(7,vi (l.map Ae).length),(8,vi q.1)],[(3,.ro (Ae s))],Aa⟩) (Xi (fun q=>l.length-q.1) (Yi (Xi ⟨0,AG _,fun _ _ h=>absurd h (Cu _)⟩ ?_) ?_)))
 ·exact⟨Z4,Z1,Fh,Tv⟩
 intro⟨i,i1,i2⟩;have i1:i≤l.length:=i1;have i2:∀j (hj:j<l.length),j<i→s≠l[j]:=i2;refine Yi (fun h1=>?_) (fun h1=>?_)
 ·have h1:(i:Int)<((l.map Ae).length:Int):=h1;have n1:=H5 h1;refine Yi (Nz rfl) ?_;refine Xi (Ae l[i]) (Yi (Jp n1) (Yi rfl ?_));refine Yi (Nz rfl) ?_;refine Yi (fun h2=>?_) (fun h2=>?_)
  ·have h2:(s.path:ByteArray)=l[i].path∧(s.ver.a:Int)=l[i].ver.a∧(s.ver.b:Int)=l[i].ver.b∧(s.ver.c:Int)=l[i].ver.c∧True:=h2;refine Yi (by kernel_rfl) ?_;refine Xi ⟨[(5,vi i)],[],Aa⟩ (Yi ⟨Z1,Tv,Fh,Tv⟩ ?_)
   exact .of_eq (show vi i=vi (lN l s) by unfold lN;rw[JN n1 (fun j hj GA=>Aj (i2 j hj GA)) (At (ci h2)),Fl])
  have h2:¬((s.path:ByteArray)=l[i].path∧(s.ver.a:Int)=l[i].ver.a∧(s.ver.b:Int)=l[i].ver.b∧(s.ver.c:Int)=l[i].ver.c∧True):=h2;refine Yi (by kernel_rfl) ?_;refine Xi ⟨[(0,sl Ae l),(3,.ref 3 0),(7,vi (l.map Ae).length),(8,vi i)],[(3,.ro (Ae s))],Aa⟩ (Yi ⟨Z4,Z1,Fh,Tv⟩ ?_)
  refine Yi (Ii i (by omega)) ?_;refine Xi ⟨i+1,n1,fun j hj GA=>if e:j<i then i2 j hj e else by
    have e:j=i:=by omega
    subst e;exact jQ h2⟩ ?_
  exact⟨Dl l.length i (by omega),Z4,Z1,Fh,Tv⟩
 have h1:¬((i:Int)<((l.map Ae).length:Int)):=h1;have n1:=H4 h1;exact .of_eq (show vi (-1)=vi (lN l s) by unfold lN;rw[GI (p:=fun y=>decide (s=y)) fun j hj=>Aj (i2 j hj (by have q:=h1;rw[Lm]at q;omega))])
theorem qH(l:List Sl)(s:Sl)(hl:Co l):PC 27 [sl Ae l,.agg (Ae s)] (vb (decide (s∈l))):=by
 refine Ps ⟨[3],[],[],[],[],[],[],[],[],[],[]⟩ Tryz.func27 rfl (Nz rfl) ?_;refine Yi (Nz rfl) ?_;refine Xi .pure (Xi _ (Yi (o71 l s hl) ?_));refine Yi (fun h1=>?_) (fun h1=>?_)
 ·have h1:(0:Int)≤((lN l s):Int):=h1;exact .of_eq (show vb true=vb (decide (s∈l)) by rw[At ((bE l s).1 h1)])
 have h1:¬((0:Int)≤((lN l s):Int)):=h1;exact .of_eq (show vb false=vb (decide (s∈l)) by rw[Aj (fun h=>h1 ((bE l s).2 h))])
theorem nJ(l:List Sl)(s:Sl)(hl:Co l):PC 49 [sl Ae l,.agg (Ae s)] (vb (decide (s∈l))):=by
 refine Ps ⟨[3],[],[],[],[],[],[],[],[],[],[3,5]⟩ Tryz.func49 rfl (Nz rfl) ?_;refine Xi {q:Nat // q≤l.length∧∀j (hj:j<l.length),j<q→l[j]≠s} (Xi (fun q=>⟨[(0,sl Ae l),(3,.ref 3 0),(5,vi q.1)],[(3,.ro (Ae s))],Aa⟩) (Xi (fun q=>l.length-q.1) (Yi (Xi ⟨0,AG _,fun _ _ h=>absurd h (Cu _)⟩ ?_) ?_)))
 ·exact⟨Z3,Z1,Fh,Tv⟩
 intro⟨i,i1,i2⟩;have i1:i≤l.length:=i1;have i2:∀j (hj:j<l.length),j<i→l[j]≠s:=i2;refine Yi (fun h1=>?_) (fun h1=>?_)
 ·have h1:(i:Int)<((l.map Ae).length:Int):=h1;have n1:=H5 h1;refine Xi (Ae l[i]) (Yi (Jp n1) (Yi rfl ?_));refine Yi (Nz rfl) ?_;refine Yi (Nz rfl) ?_;refine Yi (fun h2=>?_) (fun h2=>?_)
  ·have h2:(l[i].path:ByteArray)=s.path∧(l[i].ver.a:Int)=s.ver.a∧(l[i].ver.b:Int)=s.ver.b∧(l[i].ver.c:Int)=s.ver.c∧True:=h2;refine Yi (by kernel_rfl) ?_;refine Xi ⟨[],[],Aa⟩ (Yi ⟨Tv,Tv,Fh,Tv⟩ ?_)
   exact .of_eq (show vb true=vb (decide (s∈l)) by rw[At (by rw[←ci h2];exact Ak _)])
  have h2:¬((l[i].path:ByteArray)=s.path∧(l[i].ver.a:Int)=s.ver.a∧(l[i].ver.b:Int)=s.ver.b∧(l[i].ver.c:Int)=s.ver.c∧True):=h2;refine Yi (by kernel_rfl) ?_;refine Xi ⟨[(0,sl Ae l),(3,.ref 3 0),(5,vi i)],[(3,.ro (Ae s))],Aa⟩ (Yi ⟨Z3,Z1,Fh,Tv⟩ ?_)
  refine Yi (Ii i (by omega)) ?_;refine Xi ⟨i+1,n1,fun j hj GA=>if e:j<i then i2 j hj e else by
    have e:j=i:=by omega
    subst e;exact jQ h2⟩ ?_
  exact⟨Dl l.length i (by omega),Z3,Z1,Fh,Tv⟩
 have h1:¬((i:Int)<((l.map Ae).length:Int)):=h1;have n1:=H4 h1;exact .of_eq (show vb false=vb (decide (s∈l)) by rw[Aj (fun hm=>by obtain⟨j,hj,e⟩:=BR.1 hm;exact i2 j hj (by have q:=h1;rw[Lm]at q;omega) e)])
abbrev jm(o:Option Sl):AV:=.tup [.agg (Ae (o.getD zSl)),vb o.isSome]
theorem o51(l:List Sl)(p:ByteArray)(hl:Co l):PC 51 [sl Ae l,vs p] (jm (QL l p)):=by
 refine Ps ⟨[],[],[],[],[],[],[],[],[],[],[3,5]⟩ Tryz.func51 rfl (Nz rfl) ?_;refine Xi {q:Nat // q≤l.length∧∀j (hj:j<l.length),j<q→l[j].path≠p} (Xi (fun q=>⟨[(0,sl Ae l),(1,vs p),(4,.ref 4 0),(6,vi q.1)],[(4,.cells [vs ⟨#[]⟩,vi 0,vi 0,vi 0])],Aa⟩) (Xi (fun q=>l.length-q.1) (Yi (Xi ⟨0,AG _,fun _ _ h=>absurd h (Cu _)⟩ ?_) ?_)))
 ·exact⟨Z4,Z1,Fh,Tv⟩
 intro⟨i,i1,i2⟩;have i1:i≤l.length:=i1;have i2:∀j (hj:j<l.length),j<i→l[j].path≠p:=i2;refine Yi (fun h1=>?_) (fun h1=>?_)
 ·have h1:(i:Int)<((l.map Ae).length:Int):=h1;have n1:=H5 h1;refine Xi (Ae l[i]) (Yi (Jp n1) (Yi rfl ?_));refine Yi (fun h2=>?_) (fun h2=>?_)
  ·have h2:(l[i].path:ByteArray)=p:=h2;refine Xi ⟨[(0,sl Ae l),(4,.ref 4 0),(6,vi i)],[(4,.cells [vs ⟨#[]⟩,vi 0,vi 0,vi 0])],Aa⟩ (Yi ⟨Z3,Z1,Fh,Tv⟩ ?_)
   refine Xi (Ae l[i]) (Yi (Jp n1) (Yi rfl ?_));refine Yi (Nz rfl) ?_;refine Yi (Nz rfl) ?_;refine Yi (Nz rfl) ?_;exact .of_eq (show _=jm (QL l p) by rw[mq n1 i2 h2];rfl)
  have h2:¬(l[i].path:ByteArray)=p:=h2;refine Xi ⟨[(0,sl Ae l),(1,vs p),(4,.ref 4 0),(6,vi i)],[(4,.cells [vs ⟨#[]⟩,vi 0,vi 0,vi 0])],Aa⟩ (Yi ⟨Z4,Z1,Fh,Tv⟩ ?_)
  refine Yi (Ii i (by omega)) ?_;refine Xi ⟨i+1,n1,fun j hj GA=>if e:j<i then i2 j hj e else by
    have e:j=i:=by omega
    subst e;exact h2⟩ ?_
  exact⟨Dl l.length i (by omega),Z4,Z1,Fh,Tv⟩
 have h1:¬((i:Int)<((l.map Ae).length:Int)):=h1;have n1:=H4 h1;refine Yi (Nz rfl) ?_;refine Yi (Nz rfl) ?_;exact .of_eq (show _=jm (QL l p) by rw[eD fun j hj=>i2 j hj (by have q:=h1;rw[Lm]at q;omega)];rfl)
theorem th(l:List Sl)(hl:Co l)(hp:∀s∈l,E9 s.path):PC 54 [sl Ae l,.v (.func (.func 55) #[] #[])] (vb (He Fi l)):=by
 refine Ps ⟨[],[],[],[],[],[],[],[],[],[],[5,6]⟩ Tryz.func54 rfl (Nz rfl) ?_;refine Xi {q:Nat // q≤l.length∧∀j (hj:j<l.length),j<q→HN l[j]=true∧∀(h0:0<j),Fi (l[j-1]'(by omega)) l[j]<0} (Xi (fun q=>⟨[(0,sl Ae l),(1,.v (.func (.func 55) #[] #[])),(7,vi (l.map Ae).length),(8,vi q.1)],[],Aa⟩) (Xi (fun q=>l.length-q.1) (Yi (Xi ⟨0,AG _,fun _ _ h=>absurd h (Cu _)⟩ ?_) ?_)))
 ·exact⟨Z4,Tv,Fh,Tv⟩
 intro⟨i,i1,i2⟩;have i1:i≤l.length:=i1;have i2:∀j (hj:j<l.length),j<i→HN l[j]=true∧∀(h0:0<j),Fi (l[j-1]'(by omega)) l[j]<0:=i2;refine Yi (fun h1=>?_) (fun h1=>?_)
 ·have h1:(i:Int)<((l.map Ae).length:Int):=h1;have n1:=H5 h1;refine Xi (Ae l[i]) (Yi (Jp n1) (Yi rfl ?_));refine Yi (Nz rfl) ?_;refine Bq (Bt (HN l[i])) (fun h2=>?_) (fun h2=>?_)
  ·have h2:(HN l[i])=true:=h2;refine Xi _ (Yi (cb h2 (uL l[i] (hp _ (Ak n1)))) ?_);refine Yi (fun h3=>?_) (fun h3=>?_)
   ·have h3:(0:Int)<(i:Int):=h3;refine Yi (by show Bu ((i:Int)-(1:Int));unfold Bu;omega) ?_;have ii:i-1<l.length:=by omega
    refine Xi (Ae (l[i-1])) (Yi (Yi (show(0:Int)≤(i:Int)-1 by omega) (by rw[show((i:Int)-1).toNat=i-1 by omega];exact B4 (Ge ii))) (Yi rfl ?_));refine Yi (Nz rfl) ?_;refine Xi (Ae l[i]) (Yi (Jp n1) (Yi rfl ?_));refine Yi (Nz rfl) ?_;refine Xi _ (Yi (xO l[i-1] l[i]) ?_);refine Yi (fun h4=>?_) (fun h4=>?_)
    ·have h4:(0:Int)≤((Fi l[i-1] l[i]):Int):=h4;refine Yi (by kernel_rfl) ?_;refine Xi ⟨[],[],Aa⟩ (Yi ⟨Tv,Tv,Fh,Tv⟩ ?_)
     exact .of_eq (show vb false=vb (He Fi l) by rw[show He Fi l=false from AF.2 (fun hi=>by have q:=(GK.1 hi i n1).2 (by omega);exact absurd h4 (UM.2 q))])
    have h4:¬((0:Int)≤((Fi l[i-1] l[i]):Int)):=h4;refine Yi (by kernel_rfl) ?_;refine Xi ⟨[(0,sl Ae l),(1,.v (.func (.func 55) #[] #[])),(7,vi (l.map Ae).length),(8,vi i)],[],Aa⟩ (Yi ⟨Z4,Tv,Fh,Tv⟩ ?_)
    refine Yi (Ii i (by omega)) ?_;refine Xi ⟨i+1,n1,fun j hj GA=>if e:j<i then i2 j hj e else by
      have e:j=i:=by omega
      subst e;exact⟨h2,fun _=>UM.1 h4⟩⟩ ?_
    exact⟨Dl l.length i (by omega),Z4,Tv,Fh,Tv⟩
   have h3:¬((0:Int)<(i:Int)):=h3;refine Yi (by kernel_rfl) ?_;refine Xi ⟨[(0,sl Ae l),(1,.v (.func (.func 55) #[] #[])),(7,vi (l.map Ae).length),(8,vi i)],[],Aa⟩ (Yi ⟨Z4,Tv,Fh,Tv⟩ ?_)
   refine Yi (Ii i (by omega)) ?_;refine Xi ⟨i+1,n1,fun j hj GA=>if e:j<i then i2 j hj e else by
     have e:j=i:=by omega
     subst e;exact⟨h2,fun h0=>absurd h0 (by omega)⟩⟩ ?_
   exact⟨Dl l.length i (by omega),Z4,Tv,Fh,Tv⟩
  have h2:(HN l[i])=false:=h2;refine Xi _ (Yi (cb h2 (uL l[i] (hp _ (Ak n1)))) ?_);refine Yi (by kernel_rfl) ?_;refine Xi ⟨[],[],Aa⟩ (Yi ⟨Tv,Tv,Fh,Tv⟩ ?_)
  exact .of_eq (show vb false=vb (He Fi l) by rw[show He Fi l=false from AF.2 (fun hi=>by have q:=(GK.1 hi i n1).1;rw[h2]at q;cases q)])
 have h1:¬((i:Int)<((l.map Ae).length:Int)):=h1;have n1:=H4 h1;exact .of_eq (show vb true=vb (He Fi l) by rw[GK.2 fun j hj=>i2 j hj (by have q:=h1;rw[Lm]at q;omega)])
theorem tg(l:List Sl)(hl:Co l)(hp:∀s∈l,E9 s.path):PC 54 [sl Ae l,.v (.func (.func 52) #[] #[])] (vb (He (fun a b=>Gd a.path b.path) l)):=by
 refine Ps ⟨[],[],[],[],[],[],[],[],[],[],[5,6]⟩ Tryz.func54 rfl (Nz rfl) ?_;refine Xi {q:Nat // q≤l.length∧∀j (hj:j<l.length),j<q→HN l[j]=true∧∀(h0:0<j),(fun a b=>Gd a.path b.path) (l[j-1]'(by omega)) l[j]<0} (Xi (fun q=>⟨[(0,sl Ae l),(1,.v (.func (.func 52) #[] #[])),(7,vi (l.map Ae).length),(8,vi q.1)],[],Aa⟩) (Xi (fun q=>l.length-q.1) (Yi (Xi ⟨0,AG _,fun _ _ h=>absurd h (Cu _)⟩ ?_) ?_)))
 ·exact⟨Z4,Tv,Fh,Tv⟩
 intro⟨i,i1,i2⟩;have i1:i≤l.length:=i1;have i2:∀j (hj:j<l.length),j<i→HN l[j]=true∧∀(h0:0<j),(fun a b=>Gd a.path b.path) (l[j-1]'(by omega)) l[j]<0:=i2;refine Yi (fun h1=>?_) (fun h1=>?_)
 ·have h1:(i:Int)<((l.map Ae).length:Int):=h1;have n1:=H5 h1;refine Xi (Ae l[i]) (Yi (Jp n1) (Yi rfl ?_));refine Yi (Nz rfl) ?_;refine Bq (Bt (HN l[i])) (fun h2=>?_) (fun h2=>?_)
  ·have h2:(HN l[i])=true:=h2;refine Xi _ (Yi (cb h2 (uL l[i] (hp _ (Ak n1)))) ?_);refine Yi (fun h3=>?_) (fun h3=>?_)
   ·have h3:(0:Int)<(i:Int):=h3;refine Yi (by show Bu ((i:Int)-(1:Int));unfold Bu;omega) ?_;have ii:i-1<l.length:=by omega
    refine Xi (Ae (l[i-1])) (Yi (Yi (show(0:Int)≤(i:Int)-1 by omega) (by rw[show((i:Int)-1).toNat=i-1 by omega];exact B4 (Ge ii))) (Yi rfl ?_));refine Yi (Nz rfl) ?_;refine Xi (Ae l[i]) (Yi (Jp n1) (Yi rfl ?_));refine Yi (Nz rfl) ?_;refine Xi _ (Yi (o52 l[i-1] l[i]) ?_);refine Yi (fun h4=>?_) (fun h4=>?_)
    ·have h4:(0:Int)≤((Gd l[i-1].path l[i].path):Int):=h4;refine Yi (by kernel_rfl) ?_;refine Xi ⟨[],[],Aa⟩ (Yi ⟨Tv,Tv,Fh,Tv⟩ ?_)
     exact .of_eq (show vb false=vb (He (fun a b=>Gd a.path b.path) l) by rw[show He (fun a b=>Gd a.path b.path) l=false from AF.2 (fun hi=>by have q:=(GK.1 hi i n1).2 (by omega);exact absurd h4 (UM.2 q))])
    have h4:¬((0:Int)≤((Gd l[i-1].path l[i].path):Int)):=h4;refine Yi (by kernel_rfl) ?_;refine Xi ⟨[(0,sl Ae l),(1,.v (.func (.func 52) #[] #[])),(7,vi (l.map Ae).length),(8,vi i)],[],Aa⟩ (Yi ⟨Z4,Tv,Fh,Tv⟩ ?_)
    refine Yi (Ii i (by omega)) ?_;refine Xi ⟨i+1,n1,fun j hj GA=>if e:j<i then i2 j hj e else by
      have e:j=i:=by omega
      subst e;exact⟨h2,fun _=>UM.1 h4⟩⟩ ?_
    exact⟨Dl l.length i (by omega),Z4,Tv,Fh,Tv⟩
   have h3:¬((0:Int)<(i:Int)):=h3;refine Yi (by kernel_rfl) ?_;refine Xi ⟨[(0,sl Ae l),(1,.v (.func (.func 52) #[] #[])),(7,vi (l.map Ae).length),(8,vi i)],[],Aa⟩ (Yi ⟨Z4,Tv,Fh,Tv⟩ ?_)
   refine Yi (Ii i (by omega)) ?_;refine Xi ⟨i+1,n1,fun j hj GA=>if e:j<i then i2 j hj e else by
     have e:j=i:=by omega
     subst e;exact⟨h2,fun h0=>absurd h0 (by omega)⟩⟩ ?_
   exact⟨Dl l.length i (by omega),Z4,Tv,Fh,Tv⟩
  have h2:(HN l[i])=false:=h2;refine Xi _ (Yi (cb h2 (uL l[i] (hp _ (Ak n1)))) ?_);refine Yi (by kernel_rfl) ?_;refine Xi ⟨[],[],Aa⟩ (Yi ⟨Tv,Tv,Fh,Tv⟩ ?_)
  exact .of_eq (show vb false=vb (He (fun a b=>Gd a.path b.path) l) by rw[show He (fun a b=>Gd a.path b.path) l=false from AF.2 (fun hi=>by have q:=(GK.1 hi i n1).1;rw[h2]at q;cases q)])
 have h1:¬((i:Int)<((l.map Ae).length:Int)):=h1;have n1:=H4 h1;exact .of_eq (show vb true=vb (He (fun a b=>Gd a.path b.path) l) by rw[GK.2 fun j hj=>i2 j hj (by have q:=h1;rw[Lm]at q;omega)])
theorem vo(r:Rl)(hr:J4 r):PC 79 [.agg (Ai r)] (vi (De r)):=by
 have h1:=lh r.path hr.1;have h2:=ov r.ver;have h3:=c68 lh oT r.reqs hr.2;have h4:=ox r.arch;have h5:=ox r.ifc;have h6:=ox r.cert;obtain⟨N,hN⟩:∃N,N=De r:=⟨_,rfl⟩;rw[←hN];refine Ps E8 Tryz.func79 rfl (Nz rfl) ?_;refine Xi .pure (Xi _ (Yi (h1) ?_));refine Yi (fun h=>?_) (fun h=>?_)
 ·have h:QD r.path<0:=h;exact .of_eq (Ab vi (show(4:Int)=N by
   have e:=(Px r.path).1 h;rw[hN];unfold De;cases hp:Bi r.path with
   |none=>rfl
   |some m=>rw[hp]at e;cases e))
 have h:¬QD r.path<0:=h;refine BN (show ∃m,Bi r.path=some m by
  cases hp:Bi r.path with
  |none=>exact absurd ((Px r.path).2 (by rw[hp];rfl)) h
  |some m=>exact⟨m,rfl⟩) (fun m hp=>?_)
 have em:QD r.path=m:=by unfold QD;rw[hp]
 have hN:N=if !Cy r.ver||!decide (r.ver.a=m)then 2 else if By r.reqs≠0 then By r.reqs else if DU r.arch&&DU r.ifc&&DU r.cert then 0 else 1:=by
  rw[hN];unfold De;rw[hp]
 refine Yi (Nz rfl) ?_;refine Bq (Bt (Cy r.ver)).symm (fun e=>?_) (fun e=>?_)
 ·rw[e]at h2;refine Xi .pure (Xi _ (Yi (h2) ?_));exact .of_eq (Ab vi (show(2:Int)=N by rw[hN,e];rfl))
 rw[e]at h2;refine Xi .pure (Xi _ (Yi (h2) ?_));refine Yi (fun h7=>?_) (fun h7=>?_)
 ·have h7:r.ver.a≠QD r.path:=h7;exact .of_eq (Ab vi (show(2:Int)=N by rw[hN,e,Aj (by rw[←em];exact h7)];rfl))
 have h7:¬r.ver.a≠QD r.path:=h7;have hN:N=if By r.reqs≠0 then By r.reqs else if DU r.arch&&DU r.ifc&&DU r.cert then 0 else 1:=by
  rw[hN,e,At (by rw[←em];exact B2.1 h7)];rfl
 refine Xi .pure (Xi _ (Yi (h3) ?_));refine Yi (fun h8=>?_) (fun h8=>?_)
 ·have h8:By r.reqs≠0:=h8;exact .of_eq (Ab vi (show By r.reqs=N by rw[hN,Ax h8]))
 have h8:¬By r.reqs≠0:=h8;have hN:N=if DU r.arch&&DU r.ifc&&DU r.cert then 0 else 1:=by rw[hN,Ao h8]
 refine Bq (Bt (DU r.arch)).symm (fun e1=>?_) (fun e1=>?_)
 ·rw[e1]at h4;refine Xi .pure (Xi _ (Yi (h4) ?_));exact .of_eq (Ab vi (show(1:Int)=N by rw[hN,e1];rfl))
 rw[e1]at h4;refine Xi .pure (Xi _ (Yi (h4) ?_));refine Bq (Bt (DU r.ifc)).symm (fun e2=>?_) (fun e2=>?_)
 ·rw[e2]at h5;refine Xi .pure (Xi _ (Yi (h5) ?_));exact .of_eq (Ab vi (show(1:Int)=N by rw[hN,e1,e2];rfl))
 rw[e2]at h5;refine Xi .pure (Xi _ (Yi (h5) ?_));refine Bq (Bt (DU r.cert)).symm (fun e3=>?_) (fun e3=>?_)
 ·rw[e3]at h6;refine Xi .pure (Xi _ (Yi (h6) ?_));exact .of_eq (Ab vi (show(1:Int)=N by rw[hN,e1,e2,e3];rfl))
 rw[e3]at h6;refine Xi .pure (Xi _ (Yi (h6) ?_));exact .of_eq (Ab vi (show(0:Int)=N by rw[hN,e1,e2,e3];rfl))
theorem XQ{a b:Rl}(h:Gl a=Gl b):IQ a b=0:=by
 obtain⟨h1,h2,h3,h4⟩:=VQ h;unfold IQ Gd G3 Fa;rw[h1,h2,h3,h4,CW];simp
theorem c67(x:List Rl)(ifs:List (List AV))(hs:∀r∈x,J4 r):PC 47 [RF x ifs] (vi (A9 x)):=by
 refine Ps (Iq [4,6,8,10,12]) Tryz.func47 rfl (Nz rfl) ?_;refine BN (show ∃N,N=A9 x from⟨_,rfl⟩) (fun N hN=>?_);refine Yi (fun h=>?_) (fun h=>?_)
 ·have h:(256:Int)<(x.map Ai).length:=h;exact .of_eq (Ab vi (show(7:Int)=A9 x by unfold A9;rw[Ax (by rw[Lm]at h;omega)]))
 have h:¬(256:Int)<(x.map Ai).length:=h;have hl:x.length≤256:=by rw[Lm]at h;omega
 have OD:A9 x=Dd none x:=by unfold A9;rw[Ao (by omega)]
 refine Xi ⟨[(3,sl Ai x)],[],Aa⟩ (Yi ⟨Z1,Tv,Fh,Tv⟩ ?_)
 refine Xi {i:Nat // i≤x.length∧Dd none x=Dd (WC x i) (x.drop i)} (Xi (fun i=>⟨[(3,sl Ai x),(4,vi i.1)],[],Aa⟩) (Xi (fun i=>x.length-i.1) (Yi (Xi ⟨0,AG _,rfl⟩ ?_) ?_)))
 ·exact⟨Z2,Tv,Fh,Tv⟩
 intro⟨i,h1,h2⟩;refine Yi (fun h=>?_) (fun h=>?_)
 ·skip
  have h:(i:Int)<(x.map Ai).length:=h;have h:i<x.length:=by simpa using h
  have hg:x[i]?=some x[i]:=Ge h;have hd:x.drop i=x[i]::x.drop (i+1):=Be h;have hc:=vo x[i] (hs x[i] (Ak h));have HM:Dd none x=if De x[i]≠0 then De x[i]else match WC x i with
   |none=>Dd (some x[i]) (x.drop (i+1))
   |some b=>if Gl b=Gl x[i]then 5 else if 0<IQ b x[i]then 1 else Dd (some x[i]) (x.drop (i+1)):=by rw[h2,hd];rfl
  have Yp:WC x (i+1)=some x[i]:=Ge h;refine Xi (Ai x[i]) (Yi (Yi (Nn i) (by simp[hg])) (Yi rfl ?_));refine Yi (Nz rfl) ?_;refine Xi .pure (Xi _ (Yi (hc) ?_));refine Xi ⟨[(3,sl Ai x),(4,vi i),(5,vi (De x[i]))],[],Aa⟩ (Yi ⟨Z3,Tv,Fh,Tv⟩ ?_)
  refine Yi (fun h3=>?_) (fun h3=>?_)
  ·have h3:De x[i]≠0:=h3;exact .of_eq (Ab vi (show De x[i]=A9 x by rw[OD,HM,Ax h3]))
  have h3:¬De x[i]≠0:=h3;rw[Ao h3]at HM;refine Xi ⟨[(3,sl Ai x),(4,vi i)],[],Aa⟩ (Yi ⟨Z2,Tv,Fh,Tv⟩ ?_)
  refine Yi (fun h4=>?_) (fun h4=>?_)
  ·have h4:(0:Int)<i:=h4;have hk:i-1<x.length:=by omega
   have Sq:x[i-1]?=some x[i-1]:=Ge hk;have hn:((i:Int)-1).toNat=i-1:=by omega
   have hb:WC x i=some x[i-1]:=by
    cases i with
    |zero=>omega
    |succ k=>exact Sq
   rw[hb]at HM;have HM:Dd none x=if Gl x[i-1]=Gl x[i]then 5 else if 0<IQ x[i-1] x[i]then 1 else Dd (some x[i]) (x.drop (i+1)):=HM
   have r5:=vq x[i-1] x[i];have RZ:(0:Int)≤(i:Int)-1∧(x.map Ai)[((i:Int)-1).toNat]?=some (Ai x[i-1]):=⟨by omega,by rw[hn];exact B4 Sq⟩;refine Yi (show Bu ((i:Int)-1) by unfold Bu;omega) ?_;refine Xi (Ai x[i-1]) (Yi RZ (Yi rfl ?_));refine Yi (Nz rfl) ?_;refine Xi (Ai x[i]) (Yi (Yi (Nn i) (by simp[hg])) (Yi rfl ?_));refine Yi (Nz rfl) ?_;refine Xi _ (Yi (r5) ?_);refine Yi (fun h5=>?_) (fun h5=>?_)
   ·have h5:IQ x[i-1] x[i]=0:=h5;refine Yi (by kernel_rfl) ?_;exact .of_eq (Ab vi (show(5:Int)=A9 x by rw[OD,HM,Ax (Vu h5)]))
   have h5:¬IQ x[i-1] x[i]=0:=h5;refine Yi (by kernel_rfl) ?_;refine Xi ⟨[(3,sl Ai x),(4,vi i)],[],Aa⟩ (Yi ⟨Z2,Tv,Fh,Tv⟩ ?_)
   refine Yi (fun _=>?_) (fun h9=>absurd h4 h9);refine Yi (show Bu ((i:Int)-1) by unfold Bu;omega) ?_;refine Xi (Ai x[i-1]) (Yi RZ (Yi rfl ?_));refine Yi (Nz rfl) ?_;refine Xi (Ai x[i]) (Yi (Yi (Nn i) (by simp[hg])) (Yi rfl ?_));refine Yi (Nz rfl) ?_;refine Xi _ (Yi (r5) ?_);refine Yi (fun h6=>?_) (fun h6=>?_)
   ·have h6:0<IQ x[i-1] x[i]:=h6;refine Yi (by kernel_rfl) ?_;exact .of_eq (Ab vi (show(1:Int)=A9 x by rw[OD,HM,Ao (fun e=>h5 (XQ e)),Ax h6]))
   have h6:¬0<IQ x[i-1] x[i]:=h6;refine Yi (by kernel_rfl) ?_;refine Xi ⟨[(3,sl Ai x),(4,vi i)],[],Aa⟩ (Yi ⟨Z2,Tv,Fh,Tv⟩ ?_)
   refine Yi (Ii i (by omega)) ?_;refine Xi ⟨i+1,by omega,by rw[HM,Ao (fun e=>h5 (XQ e)),Ao h6,Yp]⟩ ?_;exact⟨Dl x.length i (by omega),Z2,Tv,Fh,Tv⟩
  have h4:¬(0:Int)<i:=h4;have hb:WC x i=none:=by
   rw[show i=0 by omega]
  rw[hb]at HM;have HM:Dd none x=Dd (some x[i]) (x.drop (i+1)):=HM;refine Yi (by kernel_rfl) ?_;refine Xi ⟨[(3,sl Ai x),(4,vi i)],[],Aa⟩ (Yi ⟨Z2,Tv,Fh,Tv⟩ ?_)
  refine Yi (fun h9=>absurd h9 h4) (fun _=>?_);refine Yi (by kernel_rfl) ?_;refine Xi ⟨[(3,sl Ai x),(4,vi i)],[],Aa⟩ (Yi ⟨Z2,Tv,Fh,Tv⟩ ?_)
  refine Yi (Ii i (by omega)) ?_;refine Xi ⟨i+1,by omega,by rw[HM,Yp]⟩ ?_;exact⟨Dl x.length i (by omega),Z2,Tv,Fh,Tv⟩
 ·skip
  have h:¬(i:Int)<(x.map Ai).length:=h;have h:¬i<x.length:=by simpa using h
  have e:(0:Int)=A9 x:=by rw[OD,h2,HH (by omega)];rfl
  exact .of_eq (Ab vi e)
structure Wk where
 rep:List Rl
 exc:List Sl
 pin:List Sl
abbrev Bc(w:Wk):List AV:=[sl Ai w.rep,sl Ae w.exc,sl Ae w.pin]
structure SH(w:Wk):Prop where
 rep:∀r∈w.rep,J4 r
 reps:Co w.rep
 exc:Co w.exc
 pin:Co w.pin
 excs:∀s∈w.exc,E9 s.path
 pins:∀s∈w.pin,E9 s.path
abbrev I3:Sl→Sl→Int:=fun a b=>Gd a.path b.path
def B6(w:Wk):Int:=if A9 w.rep≠0∨He Fi w.exc=false∨He I3 w.pin=false then 1 else if(w.pin.any fun s=>decide (s∈w.exc))=true then 17 else 0
theorem Mh{a b:ByteArray}:Gd a b<0↔EM a b=true:=by
 unfold Gd
 by_cases h:EM a b=true
 ·rw[Ax h];simp[h]
 ·rw[Ao h];split<;>simp[h]
theorem GF{a b:ByteArray}:Gd a b=0↔a=b:=by
 unfold Gd;constructor
 ·intro h;split at h
  ·cases h
  ·rename_i h1;split at h
   ·cases h
   ·rename_i h2;exact HT (by simpa using h1) (by simpa using h2)
 ·rintro rfl
  rw[Ao (by rw[CW];decide),Ao (by rw[CW];decide)]
theorem Jx{a b:Sl}:FA a b=true↔Fi a b<0:=by
 unfold FA Fi
 by_cases h:a.path=b.path
 ·rw[Ao (fun c=>c h),Ao (fun c=>c (GF.2 h)),decide_eq_true_iff]
 ·rw[Ax h,Ax (fun c=>h (GF.1 c)),Mh]
theorem iF:∀(l:List Sl) (p:Option Sl),Mw I3 p l=(l.all HN&&Io (p.map (·.path)) l)
 | [],_=>by unfold Mw Io;rfl
 |y::l,p=>by
  unfold Mw Io;rw[iF l (some y),List.all_cons];cases p with
  |none =>
   show((HN y&&true)&&(l.all HN&&Io (some y.path) l))=((HN y&&l.all HN)&&(true&&Io (some y.path) l));cases HN y<;>cases l.all HN<;>simp
  |some z =>
   have e:decide (I3 z y<0)=EM z.path y.path:=by
    show decide (Gd z.path y.path<0)=_
    by_cases h:EM z.path y.path=true
    ·rw[h,At (Mh.2 h)]
    ·rw[Aj (fun c=>h (Mh.1 c))];simpa using h
   show((HN y&&decide (I3 z y<0))&&(l.all HN&&Io (some y.path) l))=((HN y&&l.all HN)&&(EM z.path y.path&&Io (some y.path) l));rw[e];cases HN y<;>cases l.all HN<;>simp
theorem Ss(l:List Sl):He I3 l=(l.all HN&&Es l):=iF l none
theorem Kc{w:Wk}(h:A9 w.rep≠0∨He Fi w.exc=false∨He I3 w.pin=false):B6 w=1:=by unfold B6;rw[Ax h]
theorem Sm{w:Wk}(h1:A9 w.rep=0)(h2:He Fi w.exc=true)(h3:He I3 w.pin=true):B6 w=if(w.pin.any fun s=>decide (s∈w.exc))=true then 17 else 0:=by
 unfold B6;rw[Ao (by rintro(c | c | c);exact c h1;rw[h2]at c;cases c;rw[h3]at c;cases c)]
theorem o56(s:Sl)(w:Wk)(hl:Co w.exc):PC 56 [.agg (Ae s),.cptr (Bc w)] (vb (decide (s∈w.exc))):=by
 refine Ps ⟨[2],[],[],[],[],[],[],[],[],[],[]⟩ Tryz.func56 rfl (Nz rfl) ?_;refine Yi (Nz rfl) ?_;refine Bq (Bt (decide (s∈w.exc))) (fun h1=>?_) (fun h1=>?_)
 ·have h1:(decide (s∈w.exc))=true:=h1;refine Xi .pure (Xi _ (Yi (cb h1 (qH w.exc s hl)) ?_));exact .of_eq (show vb true=vb (decide (s∈w.exc)) by rw[h1])
 have h1:(decide (s∈w.exc))=false:=h1;refine Xi .pure (Xi _ (Yi (cb h1 (qH w.exc s hl)) ?_));exact .of_eq (show vb false=vb (decide (s∈w.exc)) by rw[h1])
theorem uF(w:Wk)(hW:SH w):PC 13 [.agg (Bc w)] (vi (B6 w)):=by
 refine Ps ⟨[1],[],[],[],[],[],[],[],[],[],[3,4]⟩ Tryz.func13 rfl (Nz rfl) ?_;refine Xi .pure (Xi _ (Yi ((ru ZG w.rep [] hW.rep).args (args':=[.agg [sl Ai w.rep,.v (.slice none 0 0)]]) ⟨Hm.agg ⟨.refl _,.nil,trivial⟩,trivial⟩) ?_));refine Yi (fun h1=>?_) (fun h1=>?_)
 ·have h1:((A9 w.rep):Int)≠(0:Int):=h1;refine Xi ⟨[],[],Aa⟩ (Yi ⟨Tv,Tv,Fh,Tv⟩ ?_)
  exact .of_eq (Ab vi (Kc (.inl h1)).symm)
 have h1:((A9 w.rep):Int)=(0:Int):=Bj h1;refine Bq (Bt (He Fi w.exc)) (fun h3=>?_) (fun h3=>?_)
 ·have h3:(He Fi w.exc)=true:=h3;refine Xi .pure (Xi _ (Yi (cb h3 (th w.exc hW.exc hW.excs)) ?_));refine Bq (Bt (He I3 w.pin)) (fun h4=>?_) (fun h4=>?_)
  ·have h4:(He I3 w.pin)=true:=h4;refine Xi .pure (Xi _ (Yi (cb h4 (tg w.pin hW.pin hW.pins)) ?_));refine Xi ⟨[(1,.ref 1 0)],[(1,.ro (Bc w))],Aa⟩ (Yi ⟨Z1,Z1,Fh,Tv⟩ ?_)
   refine Bq (Bt (w.pin.any fun s=>decide (s∈w.exc))) (fun h5=>?_) (fun h5=>?_)
   ·have h5:(w.pin.any fun s=>decide (s∈w.exc))=true:=h5;refine Xi .pure (Xi _ (Yi (cb h5 (o25 (fF:=56) (caps:=[.cptr (Bc w)]) (fun c hc=>by obtain rfl:=As.1 hc;intro h;rfl) w.pin (fun s=>decide (s∈w.exc)) (fun s _=>o56 s w hW.exc) hW.pin)) ?_));exact .of_eq (Ab vi (show 17=B6 w by rw[Sm h1 h3 h4,Ax h5]))
   have h5:(w.pin.any fun s=>decide (s∈w.exc))=false:=h5;refine Xi .pure (Xi _ (Yi (cb h5 (o25 (fF:=56) (caps:=[.cptr (Bc w)]) (fun c hc=>by obtain rfl:=As.1 hc;intro h;rfl) w.pin (fun s=>decide (s∈w.exc)) (fun s _=>o56 s w hW.exc) hW.pin)) ?_));exact .of_eq (Ab vi (show 0=B6 w by rw[Sm h1 h3 h4,Ao (by rw[h5];decide)]))
  have h4:(He I3 w.pin)=false:=h4;refine Xi .pure (Xi _ (Yi (cb h4 (tg w.pin hW.pin hW.pins)) ?_));refine Xi ⟨[],[],Aa⟩ (Yi ⟨Tv,Tv,Fh,Tv⟩ ?_)
  exact .of_eq (Ab vi (Kc (.inr (.inr h4))).symm)
 have h3:(He Fi w.exc)=false:=h3;refine Xi .pure (Xi _ (Yi (cb h3 (th w.exc hW.exc hW.excs)) ?_));refine Xi ⟨[],[],Aa⟩ (Yi ⟨Tv,Tv,Fh,Tv⟩ ?_)
 exact .of_eq (Ab vi (Kc (.inr (.inl h3))).symm)
theorem o14(w:Wk)(hW:SH w):PC 14 [.agg (Bc w)] (vi (B6 w)):=by
 have rT:w.exc.length≤1073741824:=hW.exc;have hW2:w.pin.length≤1073741824:=hW.pin;refine Ps ⟨[1],[],[],[],[],[],[],[],[],[],[2,3,5,7,10,12,15,17]⟩ Tryz.func14 rfl (Nz rfl) ?_;refine Xi .pure (Xi _ (Yi ((c67 w.rep [] hW.rep).args (args':=[.agg [sl Ai w.rep,.v (.slice none 0 0)]]) ⟨Hm.agg ⟨.refl _,.nil,trivial⟩,trivial⟩) ?_));refine Yi (fun h1=>?_) (fun h1=>?_)
 ·have h1:((A9 w.rep):Int)≠(0:Int):=h1;refine Xi ⟨[],[],Aa⟩ (Yi ⟨Tv,Tv,Fh,Tv⟩ ?_)
  exact .of_eq (Ab vi (Kc (.inl h1)).symm)
 have h1:((A9 w.rep):Int)=(0:Int):=Bj h1;refine Bq (Bt (Es w.pin)) (fun h3=>?_) (fun h3=>?_)
 ·have h3:(Es w.pin)=true:=h3;refine Xi .pure (Xi _ (Yi (cb h3 (zd w.pin hW.pin)) ?_));refine Xi ⟨[(1,.ref 1 0)],[(1,.ro (Bc w))],Aa⟩ (Yi ⟨Z1,Z1,Fh,Tv⟩ ?_)
  refine Xi {q:Nat // q≤w.exc.length∧∀j (hj:j<w.exc.length),j<q→HN w.exc[j]=true∧∀(h0:0<j),Fi (w.exc[j-1]'(by omega)) w.exc[j]<0} (Xi (fun q=>⟨[(1,.ref 1 0),(3,vi q.1)],[(1,.ro (Bc w))],Aa⟩) (Xi (fun q=>w.exc.length-q.1) (Yi (Xi ⟨0,AG _,fun _ _ h=>absurd h (Cu _)⟩ ?_) ?_)))
  ·exact⟨Z2,Z1,Fh,Tv⟩
  intro⟨i,i1,i2⟩;have i1:i≤w.exc.length:=i1;have i2:∀j (hj:j<w.exc.length),j<i→HN w.exc[j]=true∧∀(h0:0<j),Fi (w.exc[j-1]'(by omega)) w.exc[j]<0:=i2;refine Yi (fun h4=>?_) (fun h4=>?_)
  ·have h4:(i:Int)<((w.exc.map Ae).length:Int):=h4;have n4:=H5 h4;refine Xi (Ae w.exc[i]) (Yi (Jp n4) (Yi rfl ?_));refine Yi (Nz rfl) ?_;refine Bq (Bt (HN w.exc[i])) (fun h5=>?_) (fun h5=>?_)
   ·have h5:(HN w.exc[i])=true:=h5;refine Xi _ (Yi (cb h5 (uI w.exc[i] (hW.excs _ (Ak n4)))) ?_);refine Yi (fun h6=>?_) (fun h6=>?_)
    ·have h6:(0:Int)<(i:Int):=h6;refine Yi (by show Bu ((i:Int)-(1:Int));unfold Bu;omega) ?_;have ii:i-1<w.exc.length:=by omega
     refine Xi (Ae (w.exc[i-1])) (Yi (Yi (show(0:Int)≤(i:Int)-1 by omega) (by rw[show((i:Int)-1).toNat=i-1 by omega];exact B4 (Ge ii))) (Yi rfl ?_));refine Yi (Nz rfl) ?_;refine Xi (Ae w.exc[i]) (Yi (Jp n4) (Yi rfl ?_));refine Yi (Nz rfl) ?_;refine Bq (Bt (FA w.exc[i-1] w.exc[i])) (fun h7=>?_) (fun h7=>?_)
     ·have h7:(FA w.exc[i-1] w.exc[i])=true:=h7;refine Xi _ (Yi (cb h7 (qJ w.exc[i-1] w.exc[i])) ?_);refine Yi (by kernel_rfl) ?_;refine Xi ⟨[(1,.ref 1 0),(3,vi i)],[(1,.ro (Bc w))],Aa⟩ (Yi ⟨Z2,Z1,Fh,Tv⟩ ?_)
      refine Yi (Ii i (by omega)) ?_;refine Xi ⟨i+1,n4,fun j hj GA=>if e:j<i then i2 j hj e else by
        have e:j=i:=by omega
        subst e;exact⟨h5,fun _=>Jx.1 h7⟩⟩ ?_
      exact⟨Dl w.exc.length i (by omega),Z2,Z1,Fh,Tv⟩
     have h7:(FA w.exc[i-1] w.exc[i])=false:=h7;refine Xi _ (Yi (cb h7 (qJ w.exc[i-1] w.exc[i])) ?_);refine Yi (by kernel_rfl) ?_;refine Xi ⟨[],[],Aa⟩ (Yi ⟨Tv,Tv,Fh,Tv⟩ ?_)
     exact .of_eq (Ab vi (Kc (.inr (.inl (AF.2 fun hi=>by have q:=(GK.1 hi i n4).2 (by omega);rw[←Jx,h7]at q;cases q)))).symm)
    have h6:¬((0:Int)<(i:Int)):=h6;refine Yi (by kernel_rfl) ?_;refine Xi ⟨[(1,.ref 1 0),(3,vi i)],[(1,.ro (Bc w))],Aa⟩ (Yi ⟨Z2,Z1,Fh,Tv⟩ ?_)
    refine Yi (Ii i (by omega)) ?_;refine Xi ⟨i+1,n4,fun j hj GA=>if e:j<i then i2 j hj e else by
      have e:j=i:=by omega
      subst e;exact⟨h5,fun h0=>absurd h0 (by omega)⟩⟩ ?_
    exact⟨Dl w.exc.length i (by omega),Z2,Z1,Fh,Tv⟩
   have h5:(HN w.exc[i])=false:=h5;refine Xi _ (Yi (cb h5 (uI w.exc[i] (hW.excs _ (Ak n4)))) ?_);refine Yi (by kernel_rfl) ?_;refine Xi ⟨[],[],Aa⟩ (Yi ⟨Tv,Tv,Fh,Tv⟩ ?_)
   exact .of_eq (Ab vi (Kc (.inr (.inl (AF.2 fun hi=>by have q:=(GK.1 hi i n4).1;rw[h5]at q;cases q)))).symm)
  have h4:¬((i:Int)<((w.exc.map Ae).length:Int)):=h4;have n4:=H4 h4;refine Xi {q:Nat // q≤w.pin.length∧∀j (hj:j<w.pin.length),j<q→HN w.pin[j]=true} (Xi (fun q=>⟨[(1,.ref 1 0),(4,vi q.1)],[(1,.ro (Bc w))],Aa⟩) (Xi (fun q=>w.pin.length-q.1) (Yi (Xi ⟨0,AG _,fun _ _ h=>absurd h (Cu _)⟩ ?_) ?_)))
  ·exact⟨Z2,Z1,Fh,Tv⟩
  intro⟨k,k1,k2⟩;have k1:k≤w.pin.length:=k1;have k2:∀j (hj:j<w.pin.length),j<k→HN w.pin[j]=true:=k2;refine Yi (fun IZ=>?_) (fun IZ=>?_)
  ·have IZ:(k:Int)<((w.pin.map Ae).length:Int):=IZ;have n12:=H5 IZ;refine Xi (Ae w.pin[k]) (Yi (Jp n12) (Yi rfl ?_));refine Yi (Nz rfl) ?_;refine Bq (Bt (HN w.pin[k])) (fun Pp=>?_) (fun Pp=>?_)
   ·have Pp:(HN w.pin[k])=true:=Pp;refine Xi .pure (Xi _ (Yi (cb Pp (uI w.pin[k] (hW.pins _ (Ak n12)))) ?_));refine Xi ⟨[(1,.ref 1 0),(4,vi k)],[(1,.ro (Bc w))],Aa⟩ (Yi ⟨Z2,Z1,Fh,Tv⟩ ?_)
    refine Yi (Ii k (by omega)) ?_;refine Xi ⟨k+1,n12,fun j hj GA=>if e:j<k then k2 j hj e else by
      have e:j=k:=by omega
      subst e;exact Pp⟩ ?_
    exact⟨Dl w.pin.length k (by omega),Z2,Z1,Fh,Tv⟩
   have Pp:(HN w.pin[k])=false:=Pp;refine Xi .pure (Xi _ (Yi (cb Pp (uI w.pin[k] (hW.pins _ (Ak n12)))) ?_));refine Xi ⟨[],[],Aa⟩ (Yi ⟨Tv,Tv,Fh,Tv⟩ ?_)
   exact .of_eq (Ab vi (Kc (.inr (.inr (by rw[Ss,show w.pin.all HN=false from AF.2 fun h=>by have q:=AR.1 h _ (Ak n12);rw[Pp]at q;cases q];rfl)))).symm)
  have IZ:¬((k:Int)<((w.pin.map Ae).length:Int)):=IZ;have n12:=H4 IZ;refine Xi {q:Nat // q≤w.pin.length∧∀j (hj:j<w.pin.length),j<q→w.pin[j]∉w.exc} (Xi (fun q=>⟨[(1,.ref 1 0),(5,vi q.1)],[(1,.ro (Bc w))],Aa⟩) (Xi (fun q=>w.pin.length-q.1) (Yi (Xi ⟨0,AG _,fun _ _ h=>absurd h (Cu _)⟩ ?_) ?_)))
  ·exact⟨Z2,Z1,Fh,Tv⟩
  intro⟨m,m1,m2⟩;have m1:m≤w.pin.length:=m1;have m2:∀j (hj:j<w.pin.length),j<m→w.pin[j]∉w.exc:=m2;refine Yi (fun L7=>?_) (fun L7=>?_)
  ·have L7:(m:Int)<((w.pin.map Ae).length:Int):=L7;have n16:=H5 L7;refine Xi (Ae w.pin[m]) (Yi (Jp n16) (Yi rfl ?_));refine Yi (Nz rfl) ?_;refine Bq (Bt (decide (w.pin[m]∈w.exc))) (fun RY=>?_) (fun RY=>?_)
   ·have RY:(decide (w.pin[m]∈w.exc))=true:=RY;refine Xi _ (Yi (cb RY (nJ w.exc w.pin[m] hW.exc)) ?_);refine Yi (by kernel_rfl) ?_;refine Xi ⟨[],[],Aa⟩ (Yi ⟨Tv,Tv,Fh,Tv⟩ ?_)
    have hE:=GK.2 fun j hj=>i2 j hj (by have q:=h4;rw[Lm]at q;omega);have hP:He I3 w.pin=true:=by rw[Ss,h3,Bool.and_true,AR];intro y hy;obtain⟨j,hj,rfl⟩:=BR.1 hy;exact k2 j hj (by have q:=IZ;rw[Lm]at q;omega)
    exact .of_eq (Ab vi (show(17:Int)=B6 w by rw[Sm h1 hE hP,Ax (Bb.2 ⟨_,Ak n16,RY⟩)]))
   have RY:(decide (w.pin[m]∈w.exc))=false:=RY;refine Xi _ (Yi (cb RY (nJ w.exc w.pin[m] hW.exc)) ?_);refine Yi (by kernel_rfl) ?_;refine Xi ⟨[(1,.ref 1 0),(5,vi m)],[(1,.ro (Bc w))],Aa⟩ (Yi ⟨Z2,Z1,Fh,Tv⟩ ?_)
   refine Yi (Ii m (by omega)) ?_;refine Xi ⟨m+1,n16,fun j hj GA=>if e:j<m then m2 j hj e else by
     have e:j=m:=by omega
     subst e;exact D2 RY⟩ ?_
   exact⟨Dl w.pin.length m (by omega),Z2,Z1,Fh,Tv⟩
  have L7:¬((m:Int)<((w.pin.map Ae).length:Int)):=L7;have n16:=H4 L7;have hE:=GK.2 fun j hj=>i2 j hj (by have q:=h4;rw[Lm]at q;omega);have hP:He I3 w.pin=true:=by rw[Ss,h3,Bool.and_true,AR];intro y hy;obtain⟨j,hj,rfl⟩:=BR.1 hy;exact k2 j hj (by have q:=IZ;rw[Lm]at q;omega)
  exact .of_eq (Ab vi (show(0:Int)=B6 w by rw[Sm h1 hE hP,Ao (by rw[Bb];rintro⟨y,hy,hm⟩;obtain⟨j,hj,rfl⟩:=BR.1 hy;exact m2 j hj (by have q:=L7;rw[Lm]at q;omega) (BD hm))]))
 have h3:(Es w.pin)=false:=h3;refine Xi .pure (Xi _ (Yi (cb h3 (zd w.pin hW.pin)) ?_));refine Xi ⟨[],[],Aa⟩ (Yi ⟨Tv,Tv,Fh,Tv⟩ ?_)
 exact .of_eq (Ab vi (Kc (.inr (.inr (by rw[Ss,h3,Cz])))).symm)
end Go.Eng
