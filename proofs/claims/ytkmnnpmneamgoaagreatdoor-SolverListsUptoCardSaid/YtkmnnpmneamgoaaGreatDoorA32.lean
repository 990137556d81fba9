/- Lemmas for the claims of this seat, without a condition: part 32 (S35, S36, S28, S38). -/
import Derived.Test.YtkmnnpmneamgoaaGreatDoorA31
namespace Go.Eng
open Go.Proofs
def jH(o:List (List Sl)):AV:=match o with | []=>.v (.slice none 0 0) | y::ys=>.slice (.id 18400 1) ((y::ys).map Bs)
def jA(o:List (List Sl)):HO:=match o with | []=>.free | y::ys=>.tok 1 (y::ys).length
theorem cn(k:Nat):Af [(k,.free)] Aa=Af [] Aa:=funext fun i=>by
 show(bif Nat.beq i k then HO.free else Aa i)=Aa i;cases Nat.beq i k<;>rfl
theorem lS(y:List Sl)(ys:List (List Sl))(L:List (List Cd))(m:Nat):∃z zs,tk (y::ys) L m=z::zs:=⟨y,_,rfl⟩
set_option maxHeartbeats 8000000 in
theorem yc(x:List Rl)(ifs:List (List AV))(roots:List Rq)(n:Nat)(dec:List Cd)(p:ByteArray)(n0:Nd)(l:List Nd)(m:Nat)(aN:0<m)(hL:tT x ifs roots n dec p n0 l)(SV:BS x roots (n+1) dec=VE (LH x roots n dec (n0::l) p) x x.length)(PL:m≤1024) :
  Bo Tryz.prog 32 [.agg (Ic x ifs),sl Ap roots,sl Ah (Am dec),.v (.slice none 0 0),vi (m:Nat)] (Af [] Aa) (RN (tk [] (BS x roots (n+1) dec) m)):=by
 obtain⟨hE0,hx,hxf,hr,hrn,hdl,hv,hplc,hrl,hneeds,hNx,hDec,hval,ihT,ihN⟩:=hL;have wZ:x.length≤1073741824:=hxf;have PL:m≤1024:=PL;have Lj:=tb x ifs roots (Am dec) hx hxf (by omega) (by rw[Lm];omega);rw[hneeds]at Lj;unfold O0 at Lj;rw[hNx.next]at Lj
 have Zh:∀(q:ByteArray) (k:Int),PC 75 [Mm x ifs,sl Ap roots,sl Ah (Am dec),vs q,vi k] (vb (Gw (DD roots dec) q k)):=fun q k=>by
  have:=qk x ifs roots (Am dec) q k hx hxf (fun q hq=>(hr q hq).1) (by omega) (by rw[Lm];omega)
  rw[hneeds]at this;exact this
 refine CF (MG ⟨[5,14],[],[],[],[],[],[],[],[],[],[2,4,6,7,8,9,10,11]⟩) [(18400,2000)] rfl CG hm rfl Tryz.func32 (by kernel_rfl) rfl (Nz rfl) (by kernel_rfl) rfl ?_;refine Yi (Nz rfl) ?_;refine Xi .pure (Xi _ (Yi Lj ?_));refine Xi ⟨[(1,sl Ap roots),(2,sl Ah (Am dec)),(3,.v (.slice none 0 0)),(4,vi (m:Nat)),(5,.ref 5 0),(11,vs p),(12,vb true)],[(5,.ro (Ic x ifs))],Aa⟩ (Yi ⟨Z7,Z1,Fh,As (by kernel_rfl)⟩ ?_)
 refine Xi ⟨[(1,sl Ap roots),(2,sl Ah (Am dec)),(3,.v (.slice none 0 0)),(4,vi (m:Nat)),(5,.ref 5 0),(11,vs p)],[(5,.ro (Ic x ifs))],Aa⟩ (Yi ⟨Z6,Z1,Fh,As (by kernel_rfl)⟩ ?_)
 refine Xi {q:Nat×List (List Sl) // q.1≤x.length∧q.2=tk [] (VE (LH x roots n dec (n0::l) p) x q.1) m} (Xi (fun q=>⟨[(1,sl Ap roots),(2,sl Ah (Am dec)),(3,jH q.1.2),(4,vi (m:Nat)),(5,.ref 5 0),(11,vs p),(13,vi q.1.1)],[(5,.ro (Ic x ifs)),(18400,jA q.1.2)],Aa⟩) (Xi (fun q=>x.length-q.1.1) (Yi (Xi ⟨(0,[]),AL _,by rw[YB,jk]⟩ ?_) ?_)))
 ·exact⟨⟨Zr,Zr,⟨(show(.v (.slice none 0 0):AV)=jH []from rfl),rfl⟩,Zr,Zr,Zr,Zr,Tv⟩,⟨Zr,⟨(show HO.free=jA []from rfl),rfl⟩,Tv⟩,Fh,As (by kernel_rfl)⟩
 intro⟨⟨i,o⟩,i1,i2⟩;have i1:i≤x.length:=i1;have i2:o=tk [] (VE (LH x roots n dec (n0::l) p) x i) m:=i2;refine BG (ZH o) (fun h1=>?_) (fun h1=>?_)
 ·have i2:[]=tk [] (VE (LH x roots n dec (n0::l) p) x i) m:=by have q:=i2;rw[h1]at q;exact q
  refine VV (s':=⟨[(1,sl Ap roots),(2,sl Ah (Am dec)),(3,.v (.slice none 0 0)),(4,vi (m:Nat)),(5,.ref 5 0),(11,vs p),(13,vi i)],[(5,.ro (Ic x ifs)),(18400,.free)],Aa⟩) (Ac (fun o'=>(⟨[(1,sl Ap roots),(2,sl Ah (Am dec)),(3,jH o'),(4,vi (m:Nat)),(5,.ref 5 0),(11,vs p),(13,vi i)],[(5,.ro (Ic x ifs)),(18400,jA o')],Aa⟩:LS)) h1) ?_;refine Yi (fun h2=>?_) (fun h2=>?_)
  ·have h2:(i:Int)<((x.map AY).length:Int):=h2;have n2:i<x.length:=by have q:=h2;rw[Lm]at q;omega
   have g2:x[i]?=some x[i]:=Ge n2;refine Yi (fun h3=>?_) (fun h3=>?_)
   ·have h3:(0:Int)<((m:Nat):Int):=h3;refine Xi ⟨[(1,sl Ap roots),(2,sl Ah (Am dec)),(3,.v (.slice none 0 0)),(4,vi (m:Nat)),(5,.ref 5 0),(11,vs p),(13,vi i)],[(5,.ro (Ic x ifs))],Aa⟩ (Yi ⟨Z7,Z1,Fh,As (by kernel_rfl)⟩ ?_)
    refine Xi (AY x[i]) (Yi (Yi (Nn i) (B5 g2)) (Yi rfl ?_));refine Yi (Nz rfl) ?_;refine Yi (Nz rfl) ?_;refine Xi ⟨[(1,sl Ap roots),(2,sl Ah (Am dec)),(3,.v (.slice none 0 0)),(4,vi (m:Nat)),(5,.ref 5 0),(11,vs p),(13,vi i),(14,.ref 14 0)],[(5,.ro (Ic x ifs)),(14,.ro (AY x[i]))],Aa⟩ (Yi ⟨Z8,Z2,Fh,As (by kernel_rfl)⟩ ?_)
    refine Yi (fun h5=>?_) (fun h5=>?_)
    ·have h5:(x[i].path:ByteArray)≠p:=h5;refine Yi (by kernel_rfl) ?_;refine Xi ⟨[(1,sl Ap roots),(2,sl Ah (Am dec)),(3,.v (.slice none 0 0)),(4,vi (m:Nat)),(5,.ref 5 0),(11,vs p),(13,vi i)],[(5,.ro (Ic x ifs))],Aa⟩ (Yi ⟨Z7,Z1,Fh,As (by kernel_rfl)⟩ ?_)
     refine Yi (Ii i (by omega)) ?_;have Jc:(LH x roots n dec (n0::l) p) x[i]=[]:=by unfold LH;rw[Ar (fun h=>h5 h.1)]
     refine Xi ⟨(i+1,[]),n2,by rw[IL n2 Jc];exact i2⟩ ?_;exact⟨Dl x.length i (by omega),⟨Zr,Zr,⟨(show(.v (.slice none 0 0):AV)=jH []from rfl),rfl⟩,Zr,Zr,Zr,Zr,Tv⟩,⟨Zr,⟨(show HO.free=jA []from rfl),rfl⟩,Tv⟩,Fh,As (by kernel_rfl)⟩
    have h5:(x[i].path:ByteArray)=p:=Cs h5;refine Yi (fun h7=>?_) (fun h7=>?_)
    ·have h7:x[i].yanked=true:=h7;refine Yi (by kernel_rfl) ?_;refine Xi ⟨[(1,sl Ap roots),(2,sl Ah (Am dec)),(3,.v (.slice none 0 0)),(4,vi (m:Nat)),(5,.ref 5 0),(11,vs p),(13,vi i)],[(5,.ro (Ic x ifs))],Aa⟩ (Yi ⟨Z7,Z1,Fh,As (by kernel_rfl)⟩ ?_)
     refine Yi (Ii i (by omega)) ?_;have Jc:(LH x roots n dec (n0::l) p) x[i]=[]:=by unfold LH;rw[Ar (fun h=>by rw[h7]at h;cases h.2)]
     refine Xi ⟨(i+1,[]),n2,by rw[IL n2 Jc];exact i2⟩ ?_;exact⟨Dl x.length i (by omega),⟨Zr,Zr,⟨(show(.v (.slice none 0 0):AV)=jH []from rfl),rfl⟩,Zr,Zr,Zr,Zr,Tv⟩,⟨Zr,⟨(show HO.free=jA []from rfl),rfl⟩,Tv⟩,Fh,As (by kernel_rfl)⟩
    have h7:x[i].yanked=false:=h7;refine Yi (Nz rfl) ?_;refine Yi (Nz rfl) ?_;refine Xi _ (Yi (td x[i].ver (hv _ (Aj n2))) ?_);refine BG (Bt (Gw (DD roots dec) p (place x[i].ver))) (fun h9=>?_) (fun h9=>?_)
    ·have h9:(Gw (DD roots dec) p (place x[i].ver))=true:=h9;have qS:=(Zh p (place x[i].ver));rw[show(Gw (DD roots dec) p (place x[i].ver))=true from h9]at qS;refine Xi _ (Yi qS ?_);refine Yi (by kernel_rfl) ?_;refine Xi ⟨[(1,sl Ap roots),(2,sl Ah (Am dec)),(3,.v (.slice none 0 0)),(4,vi (m:Nat)),(5,.ref 5 0),(11,vs p),(13,vi i)],[(5,.ro (Ic x ifs))],Aa⟩ (Yi ⟨Z7,Z1,Fh,As (by kernel_rfl)⟩ ?_)
     refine Yi (Ii i (by omega)) ?_;have Jc:(LH x roots n dec (n0::l) p) x[i]=[]:=Ws hNx (hplc _ (Aj n2)) h9;refine Xi ⟨(i+1,[]),n2,by rw[IL n2 Jc];exact i2⟩ ?_;exact⟨Dl x.length i (by omega),⟨Zr,Zr,⟨(show(.v (.slice none 0 0):AV)=jH []from rfl),rfl⟩,Zr,Zr,Zr,Zr,Tv⟩,⟨Zr,⟨(show HO.free=jA []from rfl),rfl⟩,Tv⟩,Fh,As (by kernel_rfl)⟩
    have h9:(Gw (DD roots dec) p (place x[i].ver))=false:=h9;have ga:=(Zh p (place x[i].ver));rw[show(Gw (DD roots dec) p (place x[i].ver))=false from h9]at ga;refine Xi _ (Yi ga ?_);refine Yi (by kernel_rfl) ?_;refine Xi ⟨[(1,sl Ap roots),(2,sl Ah (Am dec)),(3,.v (.slice none 0 0)),(4,vi (m:Nat)),(5,.ref 5 0),(11,vs p),(13,vi i),(14,.ref 14 0)],[(5,.ro (Ic x ifs)),(14,.ro (AY x[i]))],Aa⟩ (Yi ⟨Z8,Z2,Fh,As (by kernel_rfl)⟩ ?_)
    have t7:B1 4 ((Am dec).map Ah)∧([]:List (List AV)).length=0∧(([]:List (List AV)).length+((Am dec).map Ah).length)*40≤140737488355328∧([]:List (List AV)).length+((Am dec).map Ah).length≤9223372036854775807:=⟨(DQ (enc:=Ah) (n:=4) (fun _=>rfl) (Am dec)),(by first | (simp;done) | (rw[Lm];assumption)),(by simp only[Lm,Al];omega),(by simp only[Lm,Al];omega)⟩
    refine Yi t7 ?_;refine Yi (Nz rfl) ?_;have b14:B1 4 [[vs p,vi x[i].ver.a,vi x[i].ver.b,vi x[i].ver.c]]∧(([]++((Am dec).map Ah)):List (List AV)).length=(([]:List (List AV)).length+((Am dec).map Ah).length)∧((([]++((Am dec).map Ah)):List (List AV)).length+([[vs p,vi x[i].ver.a,vi x[i].ver.b,vi x[i].ver.c]]:List (List AV)).length)*40≤140737488355328∧(([]++((Am dec).map Ah)):List (List AV)).length+([[vs p,vi x[i].ver.a,vi x[i].ver.b,vi x[i].ver.c]]:List (List AV)).length≤9223372036854775807:=⟨⟨rfl,trivial⟩,(by first | (simp;done) | (rw[Lm];assumption)),(by simp only[Lm,Ad,Ak,Al];omega),(by simp only[Lm,Ad,Ak,Al];omega)⟩
    refine Yi b14 ?_;refine Yi (by kernel_rfl) ?_;have Rk:x[i].path=p:=h5;have Xx:(⟨plc x[i].ver,x[i]⟩:Cd)∈BH x p:=G7.2 ⟨x[i],Aj n2,Rk,h7,rfl⟩;have hD:=hDec (⟨plc x[i].ver,x[i]⟩:Cd) Xx;refine Xi ⟨[(1,sl Ap roots),(2,sl Ah (Am dec)),(3,.v (.slice none 0 0)),(4,vi (m:Nat)),(5,.ref 5 0),(11,vs p),(13,vi i),(15,.slice (.id 66 4) ((Am (dec++[(⟨plc x[i].ver,x[i]⟩:Cd)])).map Ah))],[(5,.ro (Ic x ifs)),(66,.tok 4 ((Am (dec++[(⟨plc x[i].ver,x[i]⟩:Cd)])).map Ah).length)],Aa⟩ (Yi ⟨⟨Zr,Zr,Zr,Zr,Zr,Zr,Zr,⟨(show(.slice (.id 66 4) (([]++((Am dec).map Ah))++[[vs p,vi x[i].ver.a,vi x[i].ver.b,vi x[i].ver.c]]):AV)=.slice (.id 66 4) ((Am (dec++[(⟨plc x[i].ver,x[i]⟩:Cd)])).map Ah)from Ac (AV.slice (.id 66 4)) (MN Rk)),rfl⟩,Tv⟩,⟨Zr,⟨(show(.tok 4 ((([]++((Am dec).map Ah)):List (List AV)).length+([[vs p,vi x[i].ver.a,vi x[i].ver.b,vi x[i].ver.c]]:List (List AV)).length):HO)=.tok 4 ((Am (dec++[(⟨plc x[i].ver,x[i]⟩:Cd)])).map Ah).length by rw[←MN (dec:=dec) Rk];simp),rfl⟩,Tv⟩,Fh,As (by kernel_rfl)⟩ ?_)
    refine Yi (Nz rfl) ?_;have SP:=yo x ifs (Am (dec++[(⟨plc x[i].ver,x[i]⟩:Cd)])) (Am dec) (M4 (⟨plc x[i].ver,x[i]⟩:Cd)) x[i] hx hxf (by rw[Lm,Ad,AC];omega) (by unfold Am;rw[AA];rfl) (I8 hE0 (Aj n2)) (fun y hy=>hval (⟨plc x[i].ver,x[i]⟩:Cd) Xx y hy) (fun q hq=>((hx _ (Aj n2)).2 q hq).1) (hrl _ (Aj n2));have hcl:L4 x[i] (Am (dec++[(⟨plc x[i].ver,x[i]⟩:Cd)]))=(Co dec (⟨plc x[i].ver,x[i]⟩:Cd)).isSome:=Sm hE0 hD;rw[hcl]at SP;refine BG (Bt (Co dec (⟨plc x[i].ver,x[i]⟩:Cd)).isSome) (fun T2=>?_) (fun T2=>?_)
    ·have T2:(Co dec (⟨plc x[i].ver,x[i]⟩:Cd)).isSome=true:=T2;have gb:=SP;rw[show(Co dec (⟨plc x[i].ver,x[i]⟩:Cd)).isSome=true from T2]at gb;refine Xi .pure (Xi _ (Yi gb ?_));refine Xi ⟨[(1,sl Ap roots),(2,sl Ah (Am dec)),(3,.v (.slice none 0 0)),(4,vi (m:Nat)),(5,.ref 5 0),(11,vs p),(13,vi i)],[(5,.ro (Ic x ifs))],Aa⟩ (Yi ⟨Z7,Z1,Fh,As (by kernel_rfl)⟩ ?_)
     refine Yi (Ii i (by omega)) ?_;have Jc:(LH x roots n dec (n0::l) p) x[i]=[]:=gW T2;refine Xi ⟨(i+1,[]),n2,by rw[IL n2 Jc];exact i2⟩ ?_;exact⟨Dl x.length i (by omega),⟨Zr,Zr,⟨(show(.v (.slice none 0 0):AV)=jH []from rfl),rfl⟩,Zr,Zr,Zr,Zr,Tv⟩,⟨Zr,⟨(show HO.free=jA []from rfl),rfl⟩,Tv⟩,Fh,As (by kernel_rfl)⟩
    have T2:(Co dec (⟨plc x[i].ver,x[i]⟩:Cd)).isSome=false:=T2;have qW:=SP;rw[show(Co dec (⟨plc x[i].ver,x[i]⟩:Cd)).isSome=false from T2]at qW;refine Xi .pure (Xi _ (Yi qW ?_));refine Xi ⟨[(1,sl Ap roots),(2,sl Ah (Am dec)),(3,.v (.slice none 0 0)),(4,vi (m:Nat)),(5,.ref 5 0),(11,vs p),(13,vi i),(15,.slice (.id 66 4) ((Am (dec++[(⟨plc x[i].ver,x[i]⟩:Cd)])).map Ah))],[(5,.ro (Ic x ifs)),(66,.tok 4 ((Am (dec++[(⟨plc x[i].ver,x[i]⟩:Cd)])).map Ah).length)],Aa⟩ (Yi ⟨Z8,Z2,Fh,As (by kernel_rfl)⟩ ?_)
    refine Yi (Nz rfl) ?_;have FO:Vk dec (n0::l) (⟨plc x[i].ver,x[i]⟩:Cd)=true:=GL.2 ⟨fun m hm=>by have q:=(Oy hNx (place x[i].ver)).1 h9 m hm;rw[←hplc _ (Aj n2)]at q;exact q,by have q:=T2;simpa using q⟩;have Jc:(LH x roots n dec (n0::l) p) x[i]=(BS x roots n (dec++[(⟨plc x[i].ver,x[i]⟩:Cd)])):=by unfold LH Ro;rw[AB ⟨Rk,h7⟩,AB FO]
    have SW:=ihN (⟨plc x[i].ver,x[i]⟩:Cd) Xx m aN PL;have mv:tk [] (VE (LH x roots n dec (n0::l) p) x (i+1)) m=tk [] (BS x roots n (dec++[(⟨plc x[i].ver,x[i]⟩:Cd)])) m:=by rw[Pi n2,Jc,ah (by rw[←i2];exact aN),←i2]
    refine BG (ZH (tk [] (BS x roots n (dec++[(⟨plc x[i].ver,x[i]⟩:Cd)])) m)) (fun hT=>?_) (fun hT=>?_)
    ·rw[hT]at SW;refine Xi (.gen [] 1) (Yi rfl (Bo.imp SW ?_));intro v19 g19 sv;have oN:=sv.1;have oO:=sv.2;subst oN;subst oO;refine Xi ⟨[(1,sl Ap roots),(2,sl Ah (Am dec)),(3,.v (.slice none 0 0)),(4,vi (m:Nat)),(5,.ref 5 0),(11,vs p),(13,vi i)],[(5,.ro (Ic x ifs))],Aa⟩ (Yi ⟨Z7,Z1,Fh,As (by kernel_rfl)⟩ ?_)
     refine Yi (Ii i (by omega)) ?_;refine Xi ⟨(i+1,[]),n2,by rw[mv,hT]⟩ ?_;exact⟨Dl x.length i (by omega),⟨Zr,Zr,⟨(show(.v (.slice none 0 0):AV)=jH []from rfl),rfl⟩,Zr,Zr,Zr,Zr,Tv⟩,⟨Zr,⟨(show HO.free=jA []from rfl),rfl⟩,Tv⟩,Fh,As (by kernel_rfl)⟩
    refine A8 hT (fun z hT=>A8 hT (fun zs hT=>?_));rw[hT]at SW;refine Xi (.gen [] 1) (Yi rfl (Bo.imp SW ?_));intro v19 g19 sv;have oN:=sv.1;have oO:=sv.2;subst oN;subst oO;refine Xi ⟨[(1,sl Ap roots),(2,sl Ah (Am dec)),(3,.slice (.id 18400 1) ((z::zs).map Bs)),(4,vi (m:Nat)),(5,.ref 5 0),(11,vs p),(13,vi i)],[(5,.ro (Ic x ifs)),(18400,.tok 1 (z::zs).length)],Aa⟩ (Yi ⟨Z7,Z2,Fh,As (by kernel_rfl)⟩ ?_)
    refine Yi (Ii i (by omega)) ?_;refine Xi ⟨(i+1,z::zs),n2,by rw[mv,hT]⟩ ?_;exact⟨Dl x.length i (by omega),Z7,Z2,Fh,As (by kernel_rfl)⟩
   have h3:¬((0:Int)<((m:Nat):Int)):=h3;exact absurd (by omega) h3
  have h2:¬((i:Int)<((x.map AY).length:Int)):=h2;have n2:¬i<x.length:=by have q:=h2;rw[Lm]at q;omega
  have eo:([]:List (List Sl))=tk [] (BS x roots (n+1) dec) m:=i2.trans (by
   rw[SV,show i=x.length by have q:=h2;rw[Lm]at q;omega])
  rw[←eo];exact Xi _ (Yi (.refl _) ⟨rfl,cn 2000⟩)
 refine A8 h1 (fun y h1=>A8 h1 (fun ys h1=>?_));have i2:y::ys=tk [] (VE (LH x roots n dec (n0::l) p) x i) m:=by have q:=i2;rw[h1]at q;exact q
 refine VV (s':=⟨[(1,sl Ap roots),(2,sl Ah (Am dec)),(3,.slice (.id 18400 1) ((y::ys).map Bs)),(4,vi (m:Nat)),(5,.ref 5 0),(11,vs p),(13,vi i)],[(5,.ro (Ic x ifs)),(18400,.tok 1 (y::ys).length)],Aa⟩) (Ac (fun o'=>(⟨[(1,sl Ap roots),(2,sl Ah (Am dec)),(3,jH o'),(4,vi (m:Nat)),(5,.ref 5 0),(11,vs p),(13,vi i)],[(5,.ro (Ic x ifs)),(18400,jA o')],Aa⟩:LS)) h1) ?_;refine Yi (fun WP=>?_) (fun WP=>?_)
 ·have WP:(i:Int)<((x.map AY).length:Int):=WP;have n23:i<x.length:=by have q:=WP;rw[Lm]at q;omega
  have g23:x[i]?=some x[i]:=Ge n23;refine Yi (fun nA=>?_) (fun nA=>?_)
  ·have nA:(((y::ys).map Bs).length:Int)<((m:Nat):Int):=nA;have rL:(y::ys).length<m:=by have q:=nA;rw[Lm]at q;omega
   refine Xi ⟨[(1,sl Ap roots),(2,sl Ah (Am dec)),(3,.slice (.id 18400 1) ((y::ys).map Bs)),(4,vi (m:Nat)),(5,.ref 5 0),(11,vs p),(13,vi i)],[(5,.ro (Ic x ifs)),(18400,.tok 1 (y::ys).length)],Aa⟩ (Yi ⟨Z7,Z2,Fh,As (by kernel_rfl)⟩ ?_)
   refine Xi (AY x[i]) (Yi (Yi (Nn i) (B5 g23)) (Yi rfl ?_));refine Yi (Nz rfl) ?_;refine Yi (Nz rfl) ?_;refine Xi ⟨[(1,sl Ap roots),(2,sl Ah (Am dec)),(3,.slice (.id 18400 1) ((y::ys).map Bs)),(4,vi (m:Nat)),(5,.ref 5 0),(11,vs p),(13,vi i),(14,.ref 14 0)],[(5,.ro (Ic x ifs)),(14,.ro (AY x[i])),(18400,.tok 1 (y::ys).length)],Aa⟩ (Yi ⟨Z8,Z3,Fh,As (by kernel_rfl)⟩ ?_)
   refine Yi (fun nB=>?_) (fun nB=>?_)
   ·have nB:(x[i].path:ByteArray)≠p:=nB;refine Yi (by kernel_rfl) ?_;refine Xi ⟨[(1,sl Ap roots),(2,sl Ah (Am dec)),(3,.slice (.id 18400 1) ((y::ys).map Bs)),(4,vi (m:Nat)),(5,.ref 5 0),(11,vs p),(13,vi i)],[(5,.ro (Ic x ifs)),(18400,.tok 1 (y::ys).length)],Aa⟩ (Yi ⟨Z7,Z2,Fh,As (by kernel_rfl)⟩ ?_)
    refine Yi (Ii i (by omega)) ?_;have Jc:(LH x roots n dec (n0::l) p) x[i]=[]:=by unfold LH;rw[Ar (fun h=>nB h.1)]
    refine Xi ⟨(i+1,y::ys),n23,by rw[IL n23 Jc];exact i2⟩ ?_;exact⟨Dl x.length i (by omega),Z7,Z2,Fh,As (by kernel_rfl)⟩
   have nB:(x[i].path:ByteArray)=p:=Cs nB;refine Yi (fun md=>?_) (fun md=>?_)
   ·have md:x[i].yanked=true:=md;refine Yi (by kernel_rfl) ?_;refine Xi ⟨[(1,sl Ap roots),(2,sl Ah (Am dec)),(3,.slice (.id 18400 1) ((y::ys).map Bs)),(4,vi (m:Nat)),(5,.ref 5 0),(11,vs p),(13,vi i)],[(5,.ro (Ic x ifs)),(18400,.tok 1 (y::ys).length)],Aa⟩ (Yi ⟨Z7,Z2,Fh,As (by kernel_rfl)⟩ ?_)
    refine Yi (Ii i (by omega)) ?_;have Jc:(LH x roots n dec (n0::l) p) x[i]=[]:=by unfold LH;rw[Ar (fun h=>by rw[md]at h;cases h.2)]
    refine Xi ⟨(i+1,y::ys),n23,by rw[IL n23 Jc];exact i2⟩ ?_;exact⟨Dl x.length i (by omega),Z7,Z2,Fh,As (by kernel_rfl)⟩
   have md:x[i].yanked=false:=md;refine Yi (Nz rfl) ?_;refine Yi (Nz rfl) ?_;refine Xi _ (Yi (td x[i].ver (hv _ (Aj n23))) ?_);refine BG (Bt (Gw (DD roots dec) p (place x[i].ver))) (fun kp=>?_) (fun kp=>?_)
   ·have kp:(Gw (DD roots dec) p (place x[i].ver))=true:=kp;have qZ:=(Zh p (place x[i].ver));rw[show(Gw (DD roots dec) p (place x[i].ver))=true from kp]at qZ;refine Xi _ (Yi qZ ?_);refine Yi (by kernel_rfl) ?_;refine Xi ⟨[(1,sl Ap roots),(2,sl Ah (Am dec)),(3,.slice (.id 18400 1) ((y::ys).map Bs)),(4,vi (m:Nat)),(5,.ref 5 0),(11,vs p),(13,vi i)],[(5,.ro (Ic x ifs)),(18400,.tok 1 (y::ys).length)],Aa⟩ (Yi ⟨Z7,Z2,Fh,As (by kernel_rfl)⟩ ?_)
    refine Yi (Ii i (by omega)) ?_;have Jc:(LH x roots n dec (n0::l) p) x[i]=[]:=Ws hNx (hplc _ (Aj n23)) kp;refine Xi ⟨(i+1,y::ys),n23,by rw[IL n23 Jc];exact i2⟩ ?_;exact⟨Dl x.length i (by omega),Z7,Z2,Fh,As (by kernel_rfl)⟩
   have kp:(Gw (DD roots dec) p (place x[i].ver))=false:=kp;have ra:=(Zh p (place x[i].ver));rw[show(Gw (DD roots dec) p (place x[i].ver))=false from kp]at ra;refine Xi _ (Yi ra ?_);refine Yi (by kernel_rfl) ?_;refine Xi ⟨[(1,sl Ap roots),(2,sl Ah (Am dec)),(3,.slice (.id 18400 1) ((y::ys).map Bs)),(4,vi (m:Nat)),(5,.ref 5 0),(11,vs p),(13,vi i),(14,.ref 14 0)],[(5,.ro (Ic x ifs)),(14,.ro (AY x[i])),(18400,.tok 1 (y::ys).length)],Aa⟩ (Yi ⟨Z8,Z3,Fh,As (by kernel_rfl)⟩ ?_)
   have b34:B1 4 ((Am dec).map Ah)∧([]:List (List AV)).length=0∧(([]:List (List AV)).length+((Am dec).map Ah).length)*40≤140737488355328∧([]:List (List AV)).length+((Am dec).map Ah).length≤9223372036854775807:=⟨(DQ (enc:=Ah) (n:=4) (fun _=>rfl) (Am dec)),(by first | (simp;done) | (rw[Lm];assumption)),(by simp only[Lm,Al];omega),(by simp only[Lm,Al];omega)⟩
   refine Yi b34 ?_;refine Yi (Nz rfl) ?_;have b35:B1 4 [[vs p,vi x[i].ver.a,vi x[i].ver.b,vi x[i].ver.c]]∧(([]++((Am dec).map Ah)):List (List AV)).length=(([]:List (List AV)).length+((Am dec).map Ah).length)∧((([]++((Am dec).map Ah)):List (List AV)).length+([[vs p,vi x[i].ver.a,vi x[i].ver.b,vi x[i].ver.c]]:List (List AV)).length)*40≤140737488355328∧(([]++((Am dec).map Ah)):List (List AV)).length+([[vs p,vi x[i].ver.a,vi x[i].ver.b,vi x[i].ver.c]]:List (List AV)).length≤9223372036854775807:=⟨⟨rfl,trivial⟩,(by first | (simp;done) | (rw[Lm];assumption)),(by simp only[Lm,Ad,Ak,Al];omega),(by simp only[Lm,Ad,Ak,Al];omega)⟩
   refine Yi b35 ?_;refine Yi (by kernel_rfl) ?_;have Rk:x[i].path=p:=nB;have Xx:(⟨plc x[i].ver,x[i]⟩:Cd)∈BH x p:=G7.2 ⟨x[i],Aj n23,Rk,md,rfl⟩;have hD:=hDec (⟨plc x[i].ver,x[i]⟩:Cd) Xx;refine Xi ⟨[(1,sl Ap roots),(2,sl Ah (Am dec)),(3,.slice (.id 18400 1) ((y::ys).map Bs)),(4,vi (m:Nat)),(5,.ref 5 0),(11,vs p),(13,vi i),(15,.slice (.id 66 4) ((Am (dec++[(⟨plc x[i].ver,x[i]⟩:Cd)])).map Ah))],[(5,.ro (Ic x ifs)),(66,.tok 4 ((Am (dec++[(⟨plc x[i].ver,x[i]⟩:Cd)])).map Ah).length),(18400,.tok 1 (y::ys).length)],Aa⟩ (Yi ⟨⟨Zr,Zr,Zr,Zr,Zr,Zr,Zr,⟨(show(.slice (.id 66 4) (([]++((Am dec).map Ah))++[[vs p,vi x[i].ver.a,vi x[i].ver.b,vi x[i].ver.c]]):AV)=.slice (.id 66 4) ((Am (dec++[(⟨plc x[i].ver,x[i]⟩:Cd)])).map Ah)from Ac (AV.slice (.id 66 4)) (MN Rk)),rfl⟩,Tv⟩,⟨Zr,⟨(show(.tok 4 ((([]++((Am dec).map Ah)):List (List AV)).length+([[vs p,vi x[i].ver.a,vi x[i].ver.b,vi x[i].ver.c]]:List (List AV)).length):HO)=.tok 4 ((Am (dec++[(⟨plc x[i].ver,x[i]⟩:Cd)])).map Ah).length by rw[←MN (dec:=dec) Rk];simp),rfl⟩,Zr,Tv⟩,Fh,As (by kernel_rfl)⟩ ?_)
   refine Yi (Nz rfl) ?_;have SP:=yo x ifs (Am (dec++[(⟨plc x[i].ver,x[i]⟩:Cd)])) (Am dec) (M4 (⟨plc x[i].ver,x[i]⟩:Cd)) x[i] hx hxf (by rw[Lm,Ad,AC];omega) (by unfold Am;rw[AA];rfl) (I8 hE0 (Aj n23)) (fun y hy=>hval (⟨plc x[i].ver,x[i]⟩:Cd) Xx y hy) (fun q hq=>((hx _ (Aj n23)).2 q hq).1) (hrl _ (Aj n23));have hcl:L4 x[i] (Am (dec++[(⟨plc x[i].ver,x[i]⟩:Cd)]))=(Co dec (⟨plc x[i].ver,x[i]⟩:Cd)).isSome:=Sm hE0 hD;rw[hcl]at SP;refine BG (Bt (Co dec (⟨plc x[i].ver,x[i]⟩:Cd)).isSome) (fun kr=>?_) (fun kr=>?_)
   ·have kr:(Co dec (⟨plc x[i].ver,x[i]⟩:Cd)).isSome=true:=kr;have rc:=SP;rw[show(Co dec (⟨plc x[i].ver,x[i]⟩:Cd)).isSome=true from kr]at rc;refine Xi .pure (Xi _ (Yi rc ?_));refine Xi ⟨[(1,sl Ap roots),(2,sl Ah (Am dec)),(3,.slice (.id 18400 1) ((y::ys).map Bs)),(4,vi (m:Nat)),(5,.ref 5 0),(11,vs p),(13,vi i)],[(5,.ro (Ic x ifs)),(18400,.tok 1 (y::ys).length)],Aa⟩ (Yi ⟨Z7,Z2,Fh,As (by kernel_rfl)⟩ ?_)
    refine Yi (Ii i (by omega)) ?_;have Jc:(LH x roots n dec (n0::l) p) x[i]=[]:=gW kr;refine Xi ⟨(i+1,y::ys),n23,by rw[IL n23 Jc];exact i2⟩ ?_;exact⟨Dl x.length i (by omega),Z7,Z2,Fh,As (by kernel_rfl)⟩
   have kr:(Co dec (⟨plc x[i].ver,x[i]⟩:Cd)).isSome=false:=kr;have ge:=SP;rw[show(Co dec (⟨plc x[i].ver,x[i]⟩:Cd)).isSome=false from kr]at ge;refine Xi .pure (Xi _ (Yi ge ?_));refine Xi ⟨[(1,sl Ap roots),(2,sl Ah (Am dec)),(3,.slice (.id 18400 1) ((y::ys).map Bs)),(4,vi (m:Nat)),(5,.ref 5 0),(11,vs p),(13,vi i),(15,.slice (.id 66 4) ((Am (dec++[(⟨plc x[i].ver,x[i]⟩:Cd)])).map Ah))],[(5,.ro (Ic x ifs)),(66,.tok 4 ((Am (dec++[(⟨plc x[i].ver,x[i]⟩:Cd)])).map Ah).length),(18400,.tok 1 (y::ys).length)],Aa⟩ (Yi ⟨Z8,Z3,Fh,As (by kernel_rfl)⟩ ?_)
   refine Yi (Nz rfl) ?_;have FO:Vk dec (n0::l) (⟨plc x[i].ver,x[i]⟩:Cd)=true:=GL.2 ⟨fun m hm=>by have q:=(Oy hNx (place x[i].ver)).1 kp m hm;rw[←hplc _ (Aj n23)]at q;exact q,by have q:=kr;simpa using q⟩;have Jc:(LH x roots n dec (n0::l) p) x[i]=(BS x roots n (dec++[(⟨plc x[i].ver,x[i]⟩:Cd)])):=by unfold LH Ro;rw[AB ⟨Rk,md⟩,AB FO]
   have SW:=ihT (⟨plc x[i].ver,x[i]⟩:Cd) Xx (y::ys) m rL PL;refine Xi (.gen [(18400,1000)] 0) (Yi rfl (Bo.imp SW ?_));intro v40 g40 zH;have xC:=zH.1;have xD:=zH.2;subst xC;subst xD;refine Xi ⟨[(1,sl Ap roots),(2,sl Ah (Am dec)),(3,.slice (.id 18400 1) ((tk (y::ys) (BS x roots n (dec++[(⟨plc x[i].ver,x[i]⟩:Cd)])) m).map Bs)),(4,vi (m:Nat)),(5,.ref 5 0),(11,vs p),(13,vi i)],[(5,.ro (Ic x ifs)),(18400,.tok 1 (tk (y::ys) (BS x roots n (dec++[(⟨plc x[i].ver,x[i]⟩:Cd)])) m).length)],Aa⟩ (Yi ⟨Z7,Z2,Fh,As (by kernel_rfl)⟩ ?_)
   refine Yi (Ii i (by omega)) ?_;refine A8 (lS y ys (BS x roots n (dec++[(⟨plc x[i].ver,x[i]⟩:Cd)])) m) (fun z hz=>A8 hz (fun zs hz=>?_));refine Xi ⟨(i+1,z::zs),n23,by rw[Pi n23,Jc,ah (by rw[←i2];exact rL),←i2,hz]⟩ ?_;exact⟨Dl x.length i (by omega),⟨Zr,Zr,⟨(show AV.slice (.id 18400 1) ((tk (y::ys) (BS x roots n (dec++[(⟨plc x[i].ver,x[i]⟩:Cd)])) m).map Bs)=jH (z::zs) by rw[hz];rfl),rfl⟩,Zr,Zr,Zr,Zr,Tv⟩,⟨Zr,⟨(show HO.tok 1 (tk (y::ys) (BS x roots n (dec++[(⟨plc x[i].ver,x[i]⟩:Cd)])) m).length=jA (z::zs) by rw[hz];rfl),rfl⟩,Tv⟩,Fh,As (by kernel_rfl)⟩
  have nA:¬((((y::ys).map Bs).length:Int)<((m:Nat):Int)):=nA;have eo:(y::ys)=tk [] (BS x roots (n+1) dec) m:=i2.trans (by
   rw[SV,VF _ x i,bo (by rw[←i2];have q:=nA;rw[Lm]at q;omega) (AL _)])
  rw[←eo];exact Xi _ (Yi (.refl _) Zr)
 have WP:¬((i:Int)<((x.map AY).length:Int)):=WP;have n23:¬i<x.length:=by have q:=WP;rw[Lm]at q;omega
 have eo:(y::ys)=tk [] (BS x roots (n+1) dec) m:=i2.trans (by
  rw[SV,show i=x.length by have q:=WP;rw[Lm]at q;omega])
 rw[←eo];exact Xi _ (Yi (.refl _) Zr)
set_option maxHeartbeats 8000000 in
theorem sW(x:List Rl)(ifs:List (List AV))(roots:List Rq)(dec:List Cd)(m:Nat)(F:List (List Sl))(hF:F.length<m)(hx:∀r∈x,Gf r)(hxf:CK x)(hrn:roots.length≤1000)(hdl:dec.length≤1000)(hneeds:EB x roots (Am dec)=DD roots dec)(UY:HJ (DD roots dec) (Am dec)=none)(MJ:((Am dec).map (·.path)).Nodup)(PL:m≤1024) :
  Bo Tryz.prog 32 [.agg (Ic x ifs),sl Ap roots,sl Ah (Am dec),.slice (.id 1000 1) (F.map Bs),vi (m:Nat)] (Af [(1000,.tok 1 F.length)] Aa) (fun r h'=>r=.slice (.id 1000 1) ((F++[Dm (Am dec)]).map Bs)∧h'=Af [(1000,.tok 1 (F++[Dm (Am dec)]).length)] Aa):=by
 have Lj:=tb x ifs roots (Am dec) hx hxf (by omega) (by rw[Lm];omega);rw[hneeds]at Lj;unfold O0 at Lj;rw[UY]at Lj;have nO:=zR (Am dec) (by unfold CK;rw[Lm];omega) MJ;refine CF (MG ⟨[5,14],[],[],[],[],[],[],[],[],[],[2,4,6,7,8,9,10]⟩) [(1000,1000)] rfl CG hm rfl Tryz.func32 (by kernel_rfl) rfl (Nz rfl) (by kernel_rfl) rfl ?_;refine Yi (Nz rfl) ?_;refine Xi .pure (Xi _ (Yi Lj ?_));refine Xi ⟨[(1,sl Ap roots),(2,sl Ah (Am dec)),(3,.slice (.id 1000 1) (F.map Bs)),(4,vi (m:Nat)),(5,.ref 5 0),(11,vs mt),(12,vb false)],[(5,.ro (Ic x ifs)),(1000,.tok 1 F.length)],Aa⟩ (Yi ⟨Z7,Z2,Fh,As (by kernel_rfl)⟩ ?_)
 refine Xi .pure (Xi _ (Yi nO ?_));have b1:B1 1 [[sl Ah (Dm (Am dec))]]∧(F.map Bs).length=F.length∧((F.map Bs).length+([[sl Ah (Dm (Am dec))]]:List (List AV)).length)*24≤140737488355328∧(F.map Bs).length+([[sl Ah (Dm (Am dec))]]:List (List AV)).length≤9223372036854775807:=⟨⟨rfl,trivial⟩,(by rw[Lm]),(by simp only[Lm,Ak,Al];omega),(by simp only[Lm,Ak,Al];omega)⟩;refine Yi b1 ?_;exact Xi _ (Yi (.refl _) (Yi (show AV.slice (.id 1000 1) (F.map Bs++[Bs (Dm (Am dec))])=_ by rw[AA];rfl) (show Af [(1000,HO.tok 1 ((F.map Bs).length+([Bs (Dm (Am dec))]:List (List AV)).length))] Aa=_ by rw[Ad,Lm];rfl)))
set_option maxHeartbeats 8000000 in
theorem sV(x:List Rl)(ifs:List (List AV))(roots:List Rq)(dec:List Cd)(m:Nat)  (hx:∀r∈x,Gf r) (hxf:CK x) (hrn:roots.length≤1000) (hdl:dec.length≤1000) (hneeds:EB x roots (Am dec)=DD roots dec) (UY:HJ (DD roots dec) (Am dec)=none) (MJ:((Am dec).map (·.path)).Nodup) :
  Bo Tryz.prog 32 [.agg (Ic x ifs),sl Ap roots,sl Ah (Am dec),.v (.slice none 0 0),vi (m:Nat)] (Af [] Aa) (RN [Dm (Am dec)]):=by
 have Lj:=tb x ifs roots (Am dec) hx hxf (by omega) (by rw[Lm];omega);rw[hneeds]at Lj;unfold O0 at Lj;rw[UY]at Lj;have nO:=zR (Am dec) (by unfold CK;rw[Lm];omega) MJ;refine CF (MG ⟨[5,14],[],[],[],[],[],[29],[],[],[],[2,4,6,7,8,9,10]⟩) [(18400,2000)] rfl CG hm rfl Tryz.func32 (by kernel_rfl) rfl (Nz rfl) (by kernel_rfl) rfl ?_;refine Xi 0 ?_;refine Xi 0 ?_;refine Yi (Nz rfl) ?_;refine Xi .pure (Xi _ (Yi Lj ?_));refine Xi ⟨[(1,sl Ap roots),(2,sl Ah (Am dec)),(3,.v (.slice none 0 0)),(4,vi (m:Nat)),(5,.ref 5 0),(11,vs mt),(12,vb false)],[(5,.ro (Ic x ifs))],Aa⟩ (Yi ⟨Z7,Z1,Fh,As (by kernel_rfl)⟩ ?_)
 refine Xi 0 ?_;refine Xi 18400 ?_;refine Xi .pure (Xi _ (Yi nO ?_));have b1:B1 1 [[sl Ah (Dm (Am dec))]]∧([[sl Ah (Dm (Am dec))]]:List (List AV)).length*24≤140737488355328∧([[sl Ah (Dm (Am dec))]]:List (List AV)).length≤9223372036854775807:=⟨⟨rfl,trivial⟩,(by simp only[Ak,Al];omega),(by simp only[Ak,Al];omega)⟩;refine Yi b1 ?_;exact Xi _ (Yi (.refl _) (Zr))
end Go.Eng

namespace Go.Eng
open Go.Proofs
theorem jl{F:List (List Sl)}{d:List Cd}{m:Nat}(h:F.length<m):tk F [d] m=F++[Dm (Am d)]:=by
 unfold tk;rw[Az (by show 1≤m-F.length;omega)];rfl
theorem yb{x:List Rl}(ifs:List (List AV)){roots:List Rq}(h0:A7 x=0)(h1:Bm roots=0)(hx:∀r∈x,Gf r)(hr:∀q∈roots,H4 q) :
  ∀(n:Nat) {dec:List Cd},DY x dec→KE x dec<n→BT x ifs roots n dec∧BN x ifs roots n dec
 |0,_,_,h=>by omega
 |n+1,dec,hd,hn=>by
  have QO:=Kd h0;have hdl:=L7 hd;have hxf:CK x:=by unfold CK;omega
  have hrn:=JB h1;have MJ:((Am dec).map (·.path)).Nodup:=by rw[Jv];exact hd.nodup
  cases hN:(EO roots dec).2 with
  |nil =>
   have Jc:=Ti (x:=x) (n:=n) hN;have UY:=NW.1 hN;refine⟨fun F m hF PL=>?_,fun m aN PL=>?_⟩
   ·have h:=sW x ifs roots dec m F hF hx hxf (by omega) (by omega) (Tt h0 hd) UY MJ PL;rw[Jc,jl hF];exact h
   ·have h:=sV x ifs roots dec m hx hxf (by omega) (by omega) (Tt h0 hd) UY MJ;rw[Jc,jl (show([]:List (List Sl)).length<m from aN)];exact h
  |cons n0 l =>
   have hNx:=Jy hN;have Jc:=Zy (x:=x) (n:=n) hN;have FO:=CN h0;have hD:∀c∈BH x (EO roots dec).1,DY x (dec++[c])∧KE x (dec++[c])<n:=fun c hc=>by
    obtain⟨c1,c2⟩:=Hw hc;have hu:Df dec c.rel.path=false:=by rw[c1];exact hNx.undone
    have:=Lg (dec:=dec) ⟨c2.1,c2.2.1⟩ hu
    exact⟨hd.snoc c2 hu,by omega⟩
   have hL:tT x ifs roots n dec (EO roots dec).1 n0 l:={
    hE0:=h0
    hx:=hx
    hxf:=hxf
    hr:=hr
    hrn:=by omega
    hdl:=by omega
    hv:=fun r h=>(FO.1 r h).val
    hplc:=fun r h=>(FO.1 r h).plc
    hrl:=fun r h=>by have:=QO.2 r h;omega
    hneeds:=Tt h0 hd
    hNx:=hNx
    hDec:=fun c hc=>(hD c hc).1
    hval:=fun c hc y hy=>by
     obtain⟨d,hd1,rfl⟩:=Aq.1 hy;exact(FO.1 _ ((hD c hc).1.cand d hd1).1).val
    ihT:=fun c hc=>(yb ifs h0 h1 hx hr n (hD c hc).1 (hD c hc).2).1
    ihN:=fun c hc=>(yb ifs h0 h1 hx hr n (hD c hc).1 (hD c hc).2).2 }
   exact⟨fun F m hF PL=>yd x ifs roots n dec _ n0 l m F hF hL Jc PL,fun m aN PL=>yc x ifs roots n dec _ n0 l m aN hL Jc PL⟩
theorem fN(x:List Rl):KE x []<x.length+1:=Nat.lt_succ_of_le (By _ _)
set_option maxHeartbeats 4000000 in
theorem sU(x:List Rl)(ifs:List (List AV))(roots:List Rq)(hx:∀r∈x,Gf r)(hr:∀q∈roots,H4 q):PC 31 [.agg (Ic x ifs),sl Ap roots] (vb (CI x roots)):=by
 have h71:=yB x ifs hx;have h72:=yC fV km roots hr;refine Ps ⟨[2],[],[],[],[],[],[],[],[],[],[]⟩ Tryz.func31 rfl (Nz rfl) ?_;refine Yi (Nz rfl) ?_;refine Xi .pure (Xi _ (Yi h71 ?_));refine Yi (fun h1=>?_) (fun h1=>?_)
 ·have h1:((A7 x):Int)=(0:Int):=h1;refine Xi .pure (Xi _ (Yi h72 ?_));refine Yi (fun h2=>?_) (fun h2=>?_)
  ·have h2:((Bm roots):Int)=(0:Int):=h2;exact .of_eq (show vb true=vb (CI x roots) by unfold CI;rw[Av h1];rw[Av h2];first | rfl | (rw[Ct]))
  have h2:¬(((Bm roots):Int)=(0:Int)):=h2;exact .of_eq (show vb false=vb (CI x roots) by unfold CI;rw[Av h1];rw[At h2];first | rfl | (rw[Ct]))
 have h1:¬(((A7 x):Int)=(0:Int)):=h1;exact .of_eq (show vb false=vb (CI x roots) by unfold CI;rw[At h1];first | rfl | (rw[Ct]))
set_option maxHeartbeats 4000000 in
theorem x6(x:List Rl)(ifs:List (List AV))(roots:List Rq)(m:Nat)(hx:∀r∈x,Gf r)(hr:∀q∈roots,H4 q):PC 11 [.agg (Ic x ifs),sl Ap roots,vi ((m:Nat):Int)] (.tup [sl Bs (HW x roots ((m:Nat):Int)),vi (H6 x roots ((m:Nat):Int))]):=by
 have Ui:=sU x ifs roots hx hr;refine Ps ⟨[3],[],[],[],[],[],[],[],[],[],[2,3]⟩ Tryz.func11 rfl (Nz rfl) ?_;refine Yi (Nz rfl) ?_;refine BG (Bt (CI x roots)) (fun h1=>?_) (fun h1=>?_)
 ·have h1:(CI x roots)=true:=h1;have N6:=Ui;rw[show(CI x roots)=true from h1]at N6;refine Xi .pure (Xi _ (Yi N6 ?_));refine Yi (fun h3=>?_) (fun h3=>?_)
  ·have h3:(((m:Nat):Int):Int)<(0:Int):=h3;refine Xi ⟨[],[],Aa⟩ (Yi ⟨Tv,Tv,Fh,Tv⟩ ?_)
   have eE:H6 x roots m=1:=by unfold H6;rw[AB (.inr (.inl h3))]
   have eF:HW x roots m=[]:=by unfold HW;rw[eE];rfl
   rw[eF,eE];exact .tup ⟨.nil,.refl _,trivial⟩
  have h3:¬((((m:Nat):Int):Int)<(0:Int)):=h3;refine Yi (fun h5=>?_) (fun h5=>?_)
  ·have h5:(1024:Int)<(((m:Nat):Int):Int):=h5;refine Xi ⟨[],[],Aa⟩ (Yi ⟨Tv,Tv,Fh,Tv⟩ ?_)
   have eE:H6 x roots m=1:=by unfold H6;rw[AB (.inr (.inr h5))]
   have eF:HW x roots m=[]:=by unfold HW;rw[eE];rfl
   rw[eF,eE];exact .tup ⟨.nil,.refl _,trivial⟩
  have h5:¬((1024:Int)<(((m:Nat):Int):Int)):=h5;refine Xi ⟨[(1,sl Ap roots),(2,vi ((m:Nat):Int)),(3,.ref 3 0)],[(3,.ro (Ic x ifs))],Aa⟩ (Yi ⟨Z3,Z1,Fh,Tv⟩ ?_)
  refine Yi (fun h7=>?_) (fun h7=>?_)
  ·have h7:(((m:Nat):Int):Int)=(0:Int):=h7;have em:m=0:=by have q:=h7;omega
   have eF:HW x roots m=[]:=by unfold HW;rw[em];split<;>rfl
   have hval:CI x roots=true:=h1;have eE:H6 x roots m=0:=by unfold H6;rw[em,hval];rfl
   rw[eF,eE];exact .tup ⟨.nil,.refl _,trivial⟩
  have h7:¬((((m:Nat):Int):Int)=(0:Int)):=h7;refine Yi (Nz rfl) ?_;have hval:CI x roots=true:=h1;have aN:0<m:=by omega
  have PL:m≤1024:=by omega
  have SW:=(yb ifs (My hval).1 (My hval).2 hx hr (x.length+1) (.nil x) (fN x)).2 m aN PL;have eF:HW x roots (m:Nat)=tk [] (BS x roots (x.length+1) []) m:=by unfold HW H6 tk;rw[hval,AB (by rw[Ar (by rintro(c | c | c);exact absurd c (by decide);omega;omega)]),A6];rfl
  have eE:H6 x roots (m:Nat)=0:=by unfold H6;rw[hval,Ar (by rintro(c | c | c);exact absurd c (by decide);omega;omega)]
  refine BG (ZH (tk [] (BS x roots (x.length+1) []) m)) (fun hT=>?_) (fun hT=>?_)
  ·rw[hT]at SW;refine Xi (.gen [] 1) (Yi rfl (Bo.imp SW ?_));intro v9 g9 q9;have oP:=q9.1;have oQ:=q9.2;subst oP;subst oQ;rw[eF,eE,hT];exact .tup ⟨.nil,.refl _,trivial⟩
  refine A8 hT (fun z hT=>A8 hT (fun zs hT=>?_));rw[hT]at SW;refine Xi (.gen [] 1) (Yi rfl (Bo.imp SW ?_));intro v9 g9 q9;have oP:=q9.1;have oQ:=q9.2;subst oP;subst oQ;rw[eF,eE,hT];exact .refl _
 have h1:(CI x roots)=false:=h1;have ga:=Ui;rw[show(CI x roots)=false from h1]at ga;refine Xi .pure (Xi _ (Yi ga ?_));refine Xi ⟨[],[],Aa⟩ (Yi ⟨Tv,Tv,Fh,Tv⟩ ?_)
 have eE:H6 x roots m=1:=by unfold H6;rw[AB (.inl (by simpa using h1))]
 have eF:HW x roots m=[]:=by unfold HW;rw[eE];rfl
 rw[eF,eE];exact .tup ⟨.nil,.refl _,trivial⟩
set_option maxHeartbeats 4000000 in
theorem x7(x:List Rl)(ifs:List (List AV))(roots:List Rq)(m:Int)(wB:m<0)(hx:∀r∈x,Gf r)(hr:∀q∈roots,H4 q):PC 11 [.agg (Ic x ifs),sl Ap roots,vi m] (.tup [sl Bs (HW x roots m),vi (H6 x roots m)]):=by
 have Ui:=sU x ifs roots hx hr;refine Ps ⟨[3],[],[],[],[],[],[],[],[],[],[2,3]⟩ Tryz.func11 rfl (Nz rfl) ?_;refine Yi (Nz rfl) ?_;refine BG (Bt (CI x roots)) (fun h1=>?_) (fun h1=>?_)
 ·have h1:(CI x roots)=true:=h1;have N6:=Ui;rw[show(CI x roots)=true from h1]at N6;refine Xi .pure (Xi _ (Yi N6 ?_));refine Yi (fun h3=>?_) (fun h3=>?_)
  ·have h3:(m:Int)<(0:Int):=h3;refine Xi ⟨[],[],Aa⟩ (Yi ⟨Tv,Tv,Fh,Tv⟩ ?_)
   have eE:H6 x roots m=1:=by unfold H6;rw[AB (.inr (.inl h3))]
   have eF:HW x roots m=[]:=by unfold HW;rw[eE];rfl
   rw[eF,eE];exact .tup ⟨.nil,.refl _,trivial⟩
  have h3:¬((m:Int)<(0:Int)):=h3;exact absurd wB h3
 have h1:(CI x roots)=false:=h1;have gg:=Ui;rw[show(CI x roots)=false from h1]at gg;refine Xi .pure (Xi _ (Yi gg ?_));refine Xi ⟨[],[],Aa⟩ (Yi ⟨Tv,Tv,Fh,Tv⟩ ?_)
 have eE:H6 x roots m=1:=by unfold H6;rw[AB (.inl (by simpa using h1))]
 have eF:HW x roots m=[]:=by unfold HW;rw[eE];rfl
 rw[eF,eE];exact .tup ⟨.nil,.refl _,trivial⟩
theorem s11(x:List Rl)(ifs:List (List AV))(roots:List Rq)(m:Int)(hx:∀r∈x,Gf r)(hr:∀q∈roots,H4 q):PC 11 [Mm x ifs,sl Ap roots,vi m] (.tup [sl Bs (HW x roots m),vi (H6 x roots m)]):=by
 by_cases h:m<0
 ·exact x7 x ifs roots m h hx hr
 ·obtain⟨k,rfl⟩:=Int.eq_ofNat_of_zero_le (show 0≤m by omega);exact x6 x ifs roots k hx hr
end Go.Eng

namespace Go.Eng
open Go.Proofs
theorem s15(l m:List Int)(hl:CK l):PC 15 [sl Cr l,sl Cr m] (vb (decide (l=m))):=by
 refine Ps EI Tryz.func15 rfl (Nz rfl) ?_;refine Yi ?_ ?_
 ·intro h;have h:¬((l.map Cr).length:Int)=(m.map Cr).length:=h
  have:l≠m:=fun e=>h (by rw[e])
  rw[At this];exact .refl _
 ·intro h;have h:¬((l.map Cr).length:Int)≠(m.map Cr).length:=h;have CW:l.length=m.length:=by simp at h;omega
  refine Xi {i:Nat // i≤l.length∧l.take i=m.take i} (Xi (fun i=>⟨[(0,sl Cr l),(1,sl Cr m),(12,vi (l.map Cr).length),(13,vi i.1)],[],Aa⟩) (Xi (fun i=>l.length-i.1) (Yi (Xi ⟨0,by simp⟩ ?_) ?_)))
  ·exact⟨Z4,Tv,Fh,Tv⟩
  ·intro⟨i,h1,h2⟩;refine Yi ?_ ?_
   ·intro h;have h:(i:Int)<(l.map Cr).length:=h;have h:i<l.length:=by simpa using h
    have h' : i<m.length:=by omega
    have hg:l[i]?=some l[i]:=Ge h;have XC : m[i]?=some m[i]:=Ge h';refine Xi (Cr l[i]) (Yi (Yi (Nn i) (by simp[hg])) (Yi rfl ?_));refine Xi (Cr m[i]) (Yi (Yi (Nn i) (by simp[XC])) (Yi rfl ?_));refine Yi ?_ ?_
    ·intro h5;refine Yi (by kernel_rfl) ?_;have h5:(l[i]:Int)≠(m[i]:Int):=h5
     have:l≠m:=fun e=>h5 (by subst e;rfl)
     rw[At this];exact .refl _
    ·intro h5;have h5:¬(l[i]:Int)≠(m[i]:Int):=h5;have e:l[i]=m[i]:=by have:=B3.1 h5;omega
     refine Yi (by kernel_rfl) ?_;refine Yi (by show Bf ((i:Int)+1);unfold CK at hl;unfold Bf;omega) ?_;refine Xi ⟨i+1,by omega,?_⟩ ?_
     ·rw[Bb,Bb,h2,hg,XC,e]
     ·exact⟨Dl l.length i (by omega),Z4,Tv,Fh,Tv⟩
   ·intro h;have h:¬(i:Int)<(l.map Cr).length:=h;have h:¬i<l.length:=by simpa using h
    have e:l=m:=by
     rw[←Az (l:=l) (i:=i) (by omega),h2,Az (by omega)]
    rw[Av e];exact .refl _

abbrev pa:ByteArray:=⟨#[97,47,118,49]⟩
abbrev pb:ByteArray:=⟨#[98,47,118,49]⟩
abbrev pc:ByteArray:=⟨#[99,47,118,49]⟩
abbrev jJ(m:Int):Ver:=⟨1,m,0⟩
abbrev ZY(p:ByteArray)(m:Int)(q:List Rq):Rl:=⟨p,jJ m,q,mt,mt,mt,false⟩
abbrev bu:List Rl:=[ZY pa 0 [⟨pb,[(0,1)]⟩],ZY pa 1 [⟨pb,[(1000,1000000)]⟩],ZY pb 0 [],ZY pb 1 []]
abbrev I6:Rq:=⟨pa,[(0,1000000)]⟩
abbrev Ls:Rq:=⟨pb,[(1000,1000000)]⟩
abbrev iP:Rq:=⟨pc,[(0,1000000)]⟩
abbrev Rr:List Sl:=[⟨pa,jJ 1⟩,⟨pb,jJ 1⟩]
theorem aA:∀r∈bu,Gf r:=by
 refine DB.2 ⟨⟨by decide,by decide⟩,DB.2 ⟨⟨by decide,by decide⟩,DB.2 ⟨⟨by decide,by decide⟩,DB.2 ⟨⟨by decide,by decide⟩,Na _⟩⟩⟩⟩
abbrev iU(p:ByteArray)(b:Int):List AV:=[vs p,vi 1,vi b,vi 0,sf,vs mt,vs mt,vs mt,vb false]
abbrev jt:List AV:=[.slice .none [AY (ZY pa 0 [⟨pb,[(0,1)]⟩]),AY (ZY pa 1 [⟨pb,[(1000,1000000)]⟩]),iU pb 0,iU pb 1],sf]
theorem RO:GU (.agg jt) (Mm bu []) :=
 have h (p:ByteArray) (b:Int):M1 (iU p b) (AY (ZY p b [])):=⟨.refl _,.refl _,.refl _,.refl _,.nil,.refl _,.refl _,.refl _,.refl _,trivial⟩
 GU.agg ⟨GU.slice ⟨.refl _,.refl _,h pb 0,h pb 1,trivial⟩,.nil,trivial⟩
theorem sT(m:Int):PC 24 [vi m] (.agg [vi 1,vi m,vi 0]):=by
 refine Ps ⟨[],[],[],[],[],[],[],[],[],[],[]⟩ Tryz.func24 rfl (Nz rfl) ?_;refine Yi (Nz rfl) ?_;refine Yi (Nz rfl) ?_;exact .refl _
set_option maxHeartbeats 4000000 in
theorem s8  : PC 8 [] (vb true):=by
 have hq:∀q∈[I6,Ls,iP],H4 q:=DB.2 ⟨⟨by decide,by decide⟩,DB.2 ⟨⟨by decide,by decide⟩,DB.2 ⟨⟨by decide,by decide⟩,Na _⟩⟩⟩;have hqa:∀q∈[I6],H4 q:=fun q h=>hq q (by simp at h;subst h;simp);have zk:∀q∈[I6,Ls],H4 q:=fun q h=>hq q (by simp at h;rcases h with rfl | rfl<;>simp)
 obtain⟨A,hA⟩:∃A,A=GE bu [I6,Ls]:=⟨_,rfl⟩;have a1:A.found=true:=by rw[hA];kernel_rfl
 have a2:A.sel=Rr:=by rw[hA];kernel_rfl
 have a3:A.skips.length=1:=by rw[hA];kernel_rfl
 have a4:GF bu [I6,Ls]=0:=by kernel_rfl
 have ny:=tM bu [] [I6,Ls] aA zk;have ny:=ny.args (args':=[.agg jt,sl Ap [I6,Ls]]) ⟨RO,.refl _,trivial⟩;unfold aa at ny;rw[←hA,a4,show Jo A=[vb A.found,sl Ah A.sel,sl BO A.infs,sl BD A.skips]from rfl,a1,a2]at ny;have a5:dG bu [I6,Ls]=0:=by unfold dG;rw[a4,←hA,a1];rfl
 have a6:i9 bu [I6,Ls]=Rr:=by unfold i9;rw[a5,←hA,a2];rfl
 have tf:=s16 bu [] [I6,Ls] aA zk;rw[a5,a6]at tf;have tf:=tf.args (args':=[.agg jt,sl Ap [I6,Ls]]) ⟨RO,.refl _,trivial⟩;have Wb:=zM bu [] [I6] 9 aA hqa;rw[show H6 bu [I6] 9=0 by kernel_rfl]at Wb;obtain⟨L,hL⟩:∃L,L=HW bu [I6] 9:=⟨_,rfl⟩;have vJ:L.length=2:=by rw[hL];kernel_rfl
 rw[←hL]at Wb;have Wb:=Wb.args (args':=[.agg jt,sl Ap [I6],vi 9]) ⟨RO,.refl _,.refl _,trivial⟩;have WO:=s13 bu [] [I6,Ls,iP] aA hq (by decide);rw[show KA bu [I6,Ls,iP]=0 by kernel_rfl,show US bu [I6,Ls,iP]=[2] by kernel_rfl]at WO;have WO:=WO.args (args':=[.agg jt,sl Ap [I6,Ls,iP]]) ⟨RO,.refl _,trivial⟩;have yN:=c27 Rr Rr (by decide);rw[Av rfl]at yN;have T2:=s15 [2] [2] (by decide);rw[Av rfl]at T2;generalize A.infs=F at ny;generalize A.skips=K at ny a3;have hLi:((L.map Bs).length:Int)=2:=by rw[Lm,vJ];rfl
 have hKi:((K.map BD).length:Int)=1:=by rw[Lm,a3];rfl
 refine Ps ⟨[],[],[],[],[],[],[],[],[(65,3)],[],[2,3,4,5,6,7,8,9]⟩ Tryz.func8 rfl (Nz rfl) ?_;refine Xi ⟨[(1,.v (.func (.func 24) #[] #[]))],[],Aa⟩ (Yi ⟨Z1,Tv,Fh,Tv⟩ ?_)
 refine Xi .pure (Xi _ (Yi (sT 0) ?_));refine Xi .pure (Xi _ (Yi (sT 1) ?_));refine Xi .pure (Xi _ (Yi (sT 0) ?_));refine Xi .pure (Xi _ (Yi (sT 1) ?_));refine Yi (Nz rfl) ?_;refine Xi ⟨[(1,.v (.func (.func 24) #[] #[])),(2,.ref 2 0)],[(2,.cells [.slice (.id 33 9) [[vs ⟨#[97,47,118,49]⟩,vi 1,vi 0,vi 0,.slice .none [[vs ⟨#[98,47,118,49]⟩,.slice .none [[vi 0,vi 1]]]],vs ⟨#[]⟩,vs ⟨#[]⟩,vs ⟨#[]⟩,vb false],[vs ⟨#[97,47,118,49]⟩,vi 1,vi 1,vi 0,.slice .none [[vs ⟨#[98,47,118,49]⟩,.slice .none [[vi 1000,vi 1000000]]]],vs ⟨#[]⟩,vs ⟨#[]⟩,vs ⟨#[]⟩,vb false],[vs ⟨#[98,47,118,49]⟩,vi 1,vi 0,vi 0,.v (.slice none 0 0),vs ⟨#[]⟩,vs ⟨#[]⟩,vs ⟨#[]⟩,vb false],[vs ⟨#[98,47,118,49]⟩,vi 1,vi 1,vi 0,.v (.slice none 0 0),vs ⟨#[]⟩,vs ⟨#[]⟩,vs ⟨#[]⟩,vb false]],.v (.slice none 0 0)]),(33,.tok 9 4)],Aa⟩ (Yi ⟨Z2,Z2,Fh,Tv⟩ ?_)
 refine Xi ⟨[(1,.v (.func (.func 24) #[] #[])),(2,.ref 2 0),(3,.slice (.id 36 2) [[vi 0,vi 1000000]])],[(2,.cells [.slice (.id 33 9) [[vs ⟨#[97,47,118,49]⟩,vi 1,vi 0,vi 0,.slice .none [[vs ⟨#[98,47,118,49]⟩,.slice .none [[vi 0,vi 1]]]],vs ⟨#[]⟩,vs ⟨#[]⟩,vs ⟨#[]⟩,vb false],[vs ⟨#[97,47,118,49]⟩,vi 1,vi 1,vi 0,.slice .none [[vs ⟨#[98,47,118,49]⟩,.slice .none [[vi 1000,vi 1000000]]]],vs ⟨#[]⟩,vs ⟨#[]⟩,vs ⟨#[]⟩,vb false],[vs ⟨#[98,47,118,49]⟩,vi 1,vi 0,vi 0,.v (.slice none 0 0),vs ⟨#[]⟩,vs ⟨#[]⟩,vs ⟨#[]⟩,vb false],[vs ⟨#[98,47,118,49]⟩,vi 1,vi 1,vi 0,.v (.slice none 0 0),vs ⟨#[]⟩,vs ⟨#[]⟩,vs ⟨#[]⟩,vb false]],.v (.slice none 0 0)]),(33,.tok 9 4),(36,.tok 2 1)],Aa⟩ (Yi ⟨Z3,Z3,Fh,Tv⟩ ?_)
 refine Xi ⟨[(1,.v (.func (.func 24) #[] #[])),(2,.ref 2 0),(3,.slice (.id 36 2) [[vi 0,vi 1000000]]),(4,.slice (.id 42 2) [[vs ⟨#[97,47,118,49]⟩,.slice .none [[vi 0,vi 1000000]]],[vs ⟨#[98,47,118,49]⟩,.slice .none [[vi 1000,vi 1000000]]]])],[(2,.cells [.slice (.id 33 9) [[vs ⟨#[97,47,118,49]⟩,vi 1,vi 0,vi 0,.slice .none [[vs ⟨#[98,47,118,49]⟩,.slice .none [[vi 0,vi 1]]]],vs ⟨#[]⟩,vs ⟨#[]⟩,vs ⟨#[]⟩,vb false],[vs ⟨#[97,47,118,49]⟩,vi 1,vi 1,vi 0,.slice .none [[vs ⟨#[98,47,118,49]⟩,.slice .none [[vi 1000,vi 1000000]]]],vs ⟨#[]⟩,vs ⟨#[]⟩,vs ⟨#[]⟩,vb false],[vs ⟨#[98,47,118,49]⟩,vi 1,vi 0,vi 0,.v (.slice none 0 0),vs ⟨#[]⟩,vs ⟨#[]⟩,vs ⟨#[]⟩,vb false],[vs ⟨#[98,47,118,49]⟩,vi 1,vi 1,vi 0,.v (.slice none 0 0),vs ⟨#[]⟩,vs ⟨#[]⟩,vs ⟨#[]⟩,vb false]],.v (.slice none 0 0)]),(33,.tok 9 4),(36,.tok 2 1),(42,.tok 2 2)],Aa⟩ (Yi ⟨Z4,Z4,Fh,Tv⟩ ?_)
 refine Yi (Nz rfl) ?_;refine Xi .pure (Xi _ (Yi ny ?_));refine Yi (Nz rfl) ?_;refine Xi ⟨[(1,.v (.func (.func 24) #[] #[])),(2,.ref 2 0),(3,.slice (.id 36 2) [[vi 0,vi 1000000]]),(4,.slice (.id 42 2) [[vs ⟨#[97,47,118,49]⟩,.slice .none [[vi 0,vi 1000000]]],[vs ⟨#[98,47,118,49]⟩,.slice .none [[vi 1000,vi 1000000]]]]),(5,.ref 5 0),(6,vi 0)],[(2,.cells [.slice (.id 33 9) [[vs ⟨#[97,47,118,49]⟩,vi 1,vi 0,vi 0,.slice .none [[vs ⟨#[98,47,118,49]⟩,.slice .none [[vi 0,vi 1]]]],vs ⟨#[]⟩,vs ⟨#[]⟩,vs ⟨#[]⟩,vb false],[vs ⟨#[97,47,118,49]⟩,vi 1,vi 1,vi 0,.slice .none [[vs ⟨#[98,47,118,49]⟩,.slice .none [[vi 1000,vi 1000000]]]],vs ⟨#[]⟩,vs ⟨#[]⟩,vs ⟨#[]⟩,vb false],[vs ⟨#[98,47,118,49]⟩,vi 1,vi 0,vi 0,.v (.slice none 0 0),vs ⟨#[]⟩,vs ⟨#[]⟩,vs ⟨#[]⟩,vb false],[vs ⟨#[98,47,118,49]⟩,vi 1,vi 1,vi 0,.v (.slice none 0 0),vs ⟨#[]⟩,vs ⟨#[]⟩,vs ⟨#[]⟩,vb false]],.v (.slice none 0 0)]),(5,.cells [vb true,sl Ah Rr,sl BO F,sl BD K]),(33,.tok 9 4),(36,.tok 2 1),(42,.tok 2 2)],Aa⟩ (Yi ⟨Z6,Z5,Fh,Tv⟩ ?_)
 refine Yi (Nz rfl) ?_;refine Yi ⟨BQ _,by decide,by decide⟩ (Yi (DB.2 ⟨rfl,DB.2 ⟨rfl,Na _⟩⟩) ?_);refine Xi _ (Yi Wb ?_);refine Yi (by kernel_rfl) ?_;refine Xi ⟨[(1,.v (.func (.func 24) #[] #[])),(2,.ref 2 0),(3,.slice (.id 36 2) [[vi 0,vi 1000000]]),(4,.slice (.id 42 2) [[vs ⟨#[97,47,118,49]⟩,.slice .none [[vi 0,vi 1000000]]],[vs ⟨#[98,47,118,49]⟩,.slice .none [[vi 1000,vi 1000000]]]]),(5,.ref 5 0),(6,vi 0),(7,sl Bs L),(8,vi 0)],[(2,.cells [.slice (.id 33 9) [[vs ⟨#[97,47,118,49]⟩,vi 1,vi 0,vi 0,.slice .none [[vs ⟨#[98,47,118,49]⟩,.slice .none [[vi 0,vi 1]]]],vs ⟨#[]⟩,vs ⟨#[]⟩,vs ⟨#[]⟩,vb false],[vs ⟨#[97,47,118,49]⟩,vi 1,vi 1,vi 0,.slice .none [[vs ⟨#[98,47,118,49]⟩,.slice .none [[vi 1000,vi 1000000]]]],vs ⟨#[]⟩,vs ⟨#[]⟩,vs ⟨#[]⟩,vb false],[vs ⟨#[98,47,118,49]⟩,vi 1,vi 0,vi 0,.v (.slice none 0 0),vs ⟨#[]⟩,vs ⟨#[]⟩,vs ⟨#[]⟩,vb false],[vs ⟨#[98,47,118,49]⟩,vi 1,vi 1,vi 0,.v (.slice none 0 0),vs ⟨#[]⟩,vs ⟨#[]⟩,vs ⟨#[]⟩,vb false]],.v (.slice none 0 0)]),(5,.cells [vb true,sl Ah Rr,sl BO F,sl BD K]),(33,.tok 9 4),(36,.tok 2 1),(42,.tok 2 2)],Aa⟩ (Yi ⟨Z8,Z5,Fh,Tv⟩ ?_)
 refine Yi (Nz rfl) ?_;refine Xi .pure (Xi _ (Yi tf ?_));refine Xi ⟨[(1,.v (.func (.func 24) #[] #[])),(2,.ref 2 0),(3,.slice (.id 36 2) [[vi 0,vi 1000000]]),(4,.slice (.id 42 2) [[vs ⟨#[97,47,118,49]⟩,.slice .none [[vi 0,vi 1000000]]],[vs ⟨#[98,47,118,49]⟩,.slice .none [[vi 1000,vi 1000000]]]]),(5,.ref 5 0),(6,vi 0),(7,sl Bs L),(8,vi 0),(9,sl Ah Rr),(10,vi 0)],[(2,.cells [.slice (.id 33 9) [[vs ⟨#[97,47,118,49]⟩,vi 1,vi 0,vi 0,.slice .none [[vs ⟨#[98,47,118,49]⟩,.slice .none [[vi 0,vi 1]]]],vs ⟨#[]⟩,vs ⟨#[]⟩,vs ⟨#[]⟩,vb false],[vs ⟨#[97,47,118,49]⟩,vi 1,vi 1,vi 0,.slice .none [[vs ⟨#[98,47,118,49]⟩,.slice .none [[vi 1000,vi 1000000]]]],vs ⟨#[]⟩,vs ⟨#[]⟩,vs ⟨#[]⟩,vb false],[vs ⟨#[98,47,118,49]⟩,vi 1,vi 0,vi 0,.v (.slice none 0 0),vs ⟨#[]⟩,vs ⟨#[]⟩,vs ⟨#[]⟩,vb false],[vs ⟨#[98,47,118,49]⟩,vi 1,vi 1,vi 0,.v (.slice none 0 0),vs ⟨#[]⟩,vs ⟨#[]⟩,vs ⟨#[]⟩,vb false]],.v (.slice none 0 0)]),(5,.cells [vb true,sl Ah Rr,sl BO F,sl BD K]),(33,.tok 9 4),(36,.tok 2 1),(42,.tok 2 2)],Aa⟩ (Yi ⟨Z10,Z5,Fh,Tv⟩ ?_)
 refine Yi (Nz rfl) ?_;refine Xi _ (Xi _ (Yi (by kernel_rfl) (Yi (vl [I6,Ls] (by decide)) ?_)));have b1:B1 2 [[vs ⟨#[99,47,118,49]⟩,.slice .none [[vi 0,vi 1000000]]]]∧([I6,Ls].map Ap).length=([I6,Ls].map Ap).length∧(([I6,Ls].map Ap).length+([[vs ⟨#[99,47,118,49]⟩,.slice .none [[vi 0,vi 1000000]]]]:List (List AV)).length)*40≤140737488355328∧([I6,Ls].map Ap).length+([[vs ⟨#[99,47,118,49]⟩,.slice .none [[vi 0,vi 1000000]]]]:List (List AV)).length≤9223372036854775807:=⟨⟨rfl,trivial⟩,rfl,(by simp only[Lm,Ak,Al];omega),(by simp only[Lm,Ak,Al];omega)⟩;refine Yi b1 ?_;refine Xi _ (Yi WO ?_);refine Yi (by kernel_rfl) ?_;refine Xi ⟨[(1,.v (.func (.func 24) #[] #[])),(5,.ref 5 0),(6,vi 0),(7,sl Bs L),(8,vi 0),(9,sl Ah Rr),(10,vi 0),(11,sl Cr [2]),(12,vi 0)],[(5,.cells [vb true,sl Ah Rr,sl BO F,sl BD K])],Aa⟩ (Yi ⟨Z9,Z1,Fh,Tv⟩ ?_)
 refine Yi (fun _=>?_) (fun h=>absurd (by decide) h);refine Yi (fun _=>?_) (fun h=>absurd h (by decide));refine Yi (fun h2=>?_) (fun h2=>?_)
 ·have h2:((K.map BD).length:Int)=(1:Int):=h2;refine Xi _ (Yi yN ?_);refine Yi (fun _=>?_) (fun h=>absurd (by decide) h);refine Yi (fun h3=>?_) (fun h3=>?_)
  ·have h3:((L.map Bs).length:Int)=(2:Int):=h3;refine Yi (fun _=>?_) (fun h=>absurd (by decide) h);refine Yi (fun h4=>?_) (fun h4=>?_)
   ·have h4:((Rr.map Ah).length:Int)=(2:Int):=h4;refine Xi (Ah (⟨pa,jJ 1⟩:Sl)) (Yi ⟨by decide,rfl⟩ (Yi rfl ?_));refine Yi (Nz rfl) ?_;refine Xi _ (Yi (sT 1) ?_);refine Yi (fun h5=>?_) (fun h5=>?_)
    ·have h5:((⟨pa,jJ 1⟩:Sl).ver.a:Int)=1∧((⟨pa,jJ 1⟩:Sl).ver.b:Int)=1∧((⟨pa,jJ 1⟩:Sl).ver.c:Int)=0∧True:=h5;refine Yi (fun _=>?_) (fun h=>absurd (by decide) h);refine Xi _ (Yi T2 ?_);refine Yi (by kernel_rfl) ?_;exact .refl _
    have h5:¬(((⟨pa,jJ 1⟩:Sl).ver.a:Int)=1∧((⟨pa,jJ 1⟩:Sl).ver.b:Int)=1∧((⟨pa,jJ 1⟩:Sl).ver.c:Int)=0∧True):=h5;refine Yi (by kernel_rfl) ?_;exact absurd (⟨rfl,rfl,rfl,trivial⟩) h5
   have h4:¬(((Rr.map Ah).length:Int)=(2:Int)):=h4;refine Yi (by kernel_rfl) ?_;exact absurd rfl h4
  have h3:¬(((L.map Bs).length:Int)=(2:Int)):=h3;refine Yi (by kernel_rfl) ?_;exact absurd hLi h3
 have h2:¬(((K.map BD).length:Int)=(1:Int)):=h2;refine Yi (by kernel_rfl) ?_;exact absurd hKi h2
end Go.Eng

namespace Go.Eng
open Go.Proofs
theorem eD(x:List Rl)(roots:List Rq)(m:Int):(HW x roots m).length≤1024∧∀s∈HW x roots m,s.length≤256:=by
 unfold HW;split
 ·rename_i h;have hm:CI x roots=true∧0≤m∧m≤1024:=by
   unfold H6 at h;split at h
   ·cases h
   ·rename_i hn;refine⟨?_,?_,?_⟩
    ·cases e:CI x roots with
     |true=>rfl
     |false=>exact absurd (.inl e) hn
    ·exact Int.not_lt.1 fun c=>hn (.inr (.inl c))
    ·exact Int.not_lt.1 fun c=>hn (.inr (.inr c))
  refine⟨by rw[AK];omega,fun s hs=>?_⟩;obtain⟨d,hd,rfl⟩:=Aq.1 (DT hs);have hx:=(My hm.1).1;have h1:=(PR (.nil x) (.nil roots) d hd).ok;have h2:=L7 h1;have h3:=(Kd hx).1;rw[(Lu _).length_eq];unfold Am;rw[Lm];omega
 ·exact⟨AL _,fun _ h=>by cases h⟩
set_option maxHeartbeats 4000000 in
theorem ye(s:List Sl)(hs:s.length≤1000000):PC 33 [sl Ah s,sl Ah s] (vb true):=by
 refine Ps ⟨[],[],[],[],[],[],[],[],[],[],[2,3,5,7]⟩ Tryz.func33 rfl (Nz rfl) ?_;refine Yi (fun h1=>?_) (fun h1=>?_)
 ·have h1:((s.map Ah).length:Int)≠((s.map Ah).length:Int):=h1;refine Xi ⟨[],[],Aa⟩ (Yi ⟨Tv,Tv,Fh,Tv⟩ ?_)
  exact absurd rfl h1
 have h1:((s.map Ah).length:Int)=((s.map Ah).length:Int):=Cs h1;refine Xi ⟨[(0,sl Ah s),(1,sl Ah s)],[],Aa⟩ (Yi ⟨Z2,Tv,Fh,Tv⟩ ?_)
 refine Xi {q:Nat // q≤s.length} (Xi (fun q=>⟨[(0,sl Ah s),(1,sl Ah s),(5,vi q.1)],[],Aa⟩) (Xi (fun q=>s.length-q.1) (Yi (Xi ⟨0,AL _⟩ ?_) ?_)))
 ·exact⟨Z3,Tv,Fh,Tv⟩
 intro⟨i,i1⟩;have i1:i≤s.length:=i1;refine Yi (fun h3=>?_) (fun h3=>?_)
 ·have h3:(i:Int)<((s.map Ah).length:Int):=h3;have n3:i<s.length:=by have q:=h3;rw[Lm]at q;omega
  have g3:s[i]?=some s[i]:=Ge n3;refine Xi (Ah s[i]) (Yi (Yi (Nn i) (B5 g3)) (Yi rfl ?_));refine Yi (Nz rfl) ?_;refine Xi (Ah s[i]) (Yi (Yi (Nn i) (B5 g3)) (Yi rfl ?_));refine Yi (Nz rfl) ?_;refine Yi (fun h4=>?_) (fun h4=>?_)
  ·have h4:(s[i].path:ByteArray)=s[i].path∧(s[i].ver.a:Int)=s[i].ver.a∧(s[i].ver.b:Int)=s[i].ver.b∧(s[i].ver.c:Int)=s[i].ver.c∧True:=h4;refine Yi (by kernel_rfl) ?_;refine Xi ⟨[(0,sl Ah s),(1,sl Ah s),(5,vi i)],[],Aa⟩ (Yi ⟨Z3,Tv,Fh,Tv⟩ ?_)
   refine Yi (Ii i (by omega)) ?_;refine Xi ⟨i+1,n3⟩ ?_;exact⟨Dl s.length i (by omega),Z3,Tv,Fh,Tv⟩
  have h4:¬((s[i].path:ByteArray)=s[i].path∧(s[i].ver.a:Int)=s[i].ver.a∧(s[i].ver.b:Int)=s[i].ver.b∧(s[i].ver.c:Int)=s[i].ver.c∧True):=h4;refine Yi (by kernel_rfl) ?_;refine Xi ⟨[],[],Aa⟩ (Yi ⟨Tv,Tv,Fh,Tv⟩ ?_)
  exact absurd ⟨rfl,rfl,rfl,rfl,trivial⟩ h4
 have h3:¬((i:Int)<((s.map Ah).length:Int)):=h3;have n3:¬i<s.length:=by have q:=h3;rw[Lm]at q;omega
 exact .refl _
set_option maxHeartbeats 4000000 in
theorem x8(F:List (List Sl))(hF:F.length≤1024)(hs:∀s∈F,s.length≤256):PC 12 [sl Bs F,sl Bs F] (vb true):=by
 refine Ps ⟨[],[],[],[],[],[],[],[],[],[],[2,3,5,7]⟩ Tryz.func12 rfl (Nz rfl) ?_;refine Yi (fun h1=>?_) (fun h1=>?_)
 ·have h1:((F.map Bs).length:Int)≠((F.map Bs).length:Int):=h1;refine Xi ⟨[],[],Aa⟩ (Yi ⟨Tv,Tv,Fh,Tv⟩ ?_)
  exact absurd rfl h1
 have h1:((F.map Bs).length:Int)=((F.map Bs).length:Int):=Cs h1;refine Xi ⟨[(0,sl Bs F),(1,sl Bs F)],[],Aa⟩ (Yi ⟨Z2,Tv,Fh,Tv⟩ ?_)
 refine Xi {q:Nat // q≤F.length} (Xi (fun q=>⟨[(0,sl Bs F),(1,sl Bs F),(5,vi q.1)],[],Aa⟩) (Xi (fun q=>F.length-q.1) (Yi (Xi ⟨0,AL _⟩ ?_) ?_)))
 ·exact⟨Z3,Tv,Fh,Tv⟩
 intro⟨i,i1⟩;have i1:i≤F.length:=i1;refine Yi (fun h3=>?_) (fun h3=>?_)
 ·have h3:(i:Int)<((F.map Bs).length:Int):=h3;have n3:i<F.length:=by have q:=h3;rw[Lm]at q;omega
  have g3:F[i]?=some F[i]:=Ge n3;refine Xi (Bs F[i]) (Yi (Yi (Nn i) (B5 g3)) (Yi rfl ?_));refine Xi (Bs F[i]) (Yi (Yi (Nn i) (B5 g3)) (Yi rfl ?_));refine Xi _ (Yi (ye F[i] (Bu (hs _ (Aj n3)) (by decide))) ?_);refine Yi (by kernel_rfl) ?_;refine Xi ⟨[(0,sl Bs F),(1,sl Bs F),(5,vi i)],[],Aa⟩ (Yi ⟨Z3,Tv,Fh,Tv⟩ ?_)
  refine Yi (Ii i (by omega)) ?_;refine Xi ⟨i+1,n3⟩ ?_;exact⟨Dl F.length i (by omega),Z3,Tv,Fh,Tv⟩
 have h3:¬((i:Int)<((F.map Bs).length:Int)):=h3;have n3:¬i<F.length:=by have q:=h3;rw[Lm]at q;omega
 exact .refl _
set_option maxHeartbeats 4000000 in
theorem sX(x:List Rl)(ifs:List (List AV))(roots:List Rq)(EY:Int)(hL:ph x roots):PC 3 [Mm x ifs,sl Ap roots,vi EY] (vb true):=by
 have hx:=hL.x;have hr:=hL.rq;have h8:=s8;have h9:=hL.c11 ifs;have Wb:=zM x ifs roots EY hx hr;have KZ:=s11 x ifs roots EY hx hr;have hF:=eD x roots EY;have dX:=x8 (HW x roots EY) hF.1 hF.2;generalize HW x roots EY=F at Wb KZ dX;generalize H6 x roots EY=ae at Wb KZ;refine Ps ⟨[3],[],[],[],[],[],[],[],[],[],[4,5,6,7]⟩ Tryz.func3 rfl (Nz rfl) ?_;refine Xi .pure (Xi _ (Yi h8 ?_));refine Yi (Nz rfl) ?_;refine BG (Bt (Hc x 16&&FJ roots)) (fun h1=>?_) (fun h1=>?_)
 ·have h1:(Hc x 16&&FJ roots)=true:=h1;have N6:=h9;rw[show(Hc x 16&&FJ roots)=true from h1]at N6;refine Xi .pure (Xi _ (Yi N6 ?_));refine Xi ⟨[(1,sl Ap roots),(2,vi (EY:Int)),(3,.ref 3 0)],[(3,.ro (Ic x ifs))],Aa⟩ (Yi ⟨Z3,Z1,Fh,Tv⟩ ?_)
  refine Yi (Nz rfl) ?_;refine Xi .pure (Xi _ (Yi Wb ?_));refine Xi ⟨[(1,sl Ap roots),(2,vi (EY:Int)),(3,.ref 3 0),(7,sl Bs F),(8,vi (ae:Int))],[(3,.ro (Ic x ifs))],Aa⟩ (Yi ⟨Z5,Z1,Fh,Tv⟩ ?_)
  refine Yi (Nz rfl) ?_;refine Xi .pure (Xi _ (Yi KZ ?_));refine Xi ⟨[(7,sl Bs F),(8,vi (ae:Int)),(9,sl Bs F),(10,vi (ae:Int))],[],Aa⟩ (Yi ⟨Z4,Tv,Fh,Tv⟩ ?_)
  refine Xi .pure (Xi _ (Yi dX ?_));refine Yi (fun h3=>?_) (fun h3=>?_)
  ·have h3:((ae:Int):Int)=((ae:Int):Int):=h3;exact .refl _
  have h3:¬(((ae:Int):Int)=((ae:Int):Int)):=h3;exact absurd rfl h3
 have h1:(Hc x 16&&FJ roots)=false:=h1;have gi:=h9;rw[show(Hc x 16&&FJ roots)=false from h1]at gi;refine Xi .pure (Xi _ (Yi gi ?_));refine Xi ⟨[],[],Aa⟩ (Yi ⟨Tv,Tv,Fh,Tv⟩ ?_)
 exact .refl _
end Go.Eng
