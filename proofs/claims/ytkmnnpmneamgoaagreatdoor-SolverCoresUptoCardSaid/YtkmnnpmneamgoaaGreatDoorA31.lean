/- Lemmas for the claims of this seat, without a condition: part 31 (S34, S35). -/
import Derived.Test.YtkmnnpmneamgoaaGreatDoorA30
namespace Go.Eng
open Go.Proofs
def BT(x:List Rl)(ifs:List (List AV))(roots:List Rq)(n:Nat)(dec:List Cd):Prop:=∀(F:List (List Sl)) (m:Nat),F.length<m→m≤1024 →
 Bo Tryz.prog 32 [L6 x ifs,sl Al roots,sl Ak (Ap dec),.slice (.id 1000 1) (F.map BI),vi (m:Nat)] (Ag [(1000,.tok 1 F.length)] Aa) fun r h' =>
  r=.slice (.id 1000 1) ((tk F (BS x roots n dec) m).map BI)∧h'=Ag [(1000,.tok 1 (tk F (BS x roots n dec) m).length)] Aa
def RN(o:List (List Sl))(r:AV)(h' : Nat→HO):Prop:=match o with
 | []=>r=.v (.slice none 0 0)∧h'=Ag [] Aa
 |y::ys=>r=.slice (.id 2000 1) ((y::ys).map BI)∧h'=Ag [(2000,.tok 1 (y::ys).length)] Aa
def BN(x:List Rl)(ifs:List (List AV))(roots:List Rq)(n:Nat)(dec:List Cd):Prop:=∀(m:Nat),0<m→m≤1024 →
 Bo Tryz.prog 32 [L6 x ifs,sl Al roots,sl Ak (Ap dec),.v (.slice none 0 0),vi (m:Nat)] (Ag [] Aa) (RN (tk [] (BS x roots n dec) m))
structure uy(x:List Rl)(ifs:List (List AV))(roots:List Rq)(n:Nat)(dec:List Cd)(p:ByteArray)(n0:Nd)(l:List Nd):Prop where
 hE0:Ba x=0
 hx:∀r∈x,Gj r
 hxf:CL x
 hr:∀q∈roots,H4 q
 hrn:roots.length≤1000
 hdl:dec.length≤1000
 hv:∀r∈x,CJ r.ver=true
 hplc:∀r∈x,plc r.ver=place r.ver
 hrl:∀r∈x,r.reqs.length≤100000
 hneeds:EH x roots (Ap dec)=DH roots dec
 hNx:ki roots dec p (n0::l)
 hDec:∀c∈Br x p,D6 x (dec++[c])
 hval:∀c∈Br x p,∀y∈Ap (dec++[c]),CJ y.ver=true
 ihT:∀c∈Br x p,BT x ifs roots n (dec++[c])
 ihN:∀c∈Br x p,BN x ifs roots n (dec++[c])
theorem WM{x:List Rl}{roots:List Rq}{n:Nat}{dec:List Cd}{N:List Nd}{p:ByteArray}{r:Rl}(hN:ki roots dec p N)(hp:plc r.ver=place r.ver)(h:GB (DH roots dec) p (place r.ver)=true):LP x roots n dec N p r=[]:=by
 unfold LP;split
 ·unfold Rf;rw[Aq];intro hc;have q:=(OJ hN (place r.ver)).2 fun m hm=>by have z:=(GO.1 hc).1 m hm;rw[←hp];exact z
  rw[h]at q;cases q
 ·rfl
theorem iw{x:List Rl}{roots:List Rq}{n:Nat}{dec:List Cd}{N:List Nd}{p:ByteArray}{r:Rl}(h:(Co dec ⟨plc r.ver,r⟩).isSome=true):LP x roots n dec N p r=[]:=by
 unfold LP;split
 ·unfold Rf;rw[Aq];intro hc;rw[(GO.1 hc).2]at h;cases h
 ·rfl
theorem MU{dec:List Cd}{r:Rl}{p:ByteArray}(h:r.path=p):(Ap dec).map Ak++[[vs p,vi r.ver.a,vi r.ver.b,vi r.ver.c]]=(Ap (dec++[(⟨plc r.ver,r⟩:Cd)])).map Ak:=by
 subst h;unfold Ap;rw[Az,Az];rfl
theorem WQ{α:Type}(o:List α):o=[]∨∃y ys,o=y::ys:=by cases o with | nil=>exact .inl rfl | cons y ys=>exact .inr ⟨y,ys,rfl⟩
set_option maxHeartbeats 8000000 in
theorem yN(x:List Rl)(ifs:List (List AV))(roots:List Rq)(n:Nat)(dec:List Cd)(p:ByteArray)(n0:Nd)(l:List Nd)(m:Nat)(F:List (List Sl))(hF:F.length<m)(hL:uy x ifs roots n dec p n0 l)(UC:BS x roots (n+1) dec=VZ (LP x roots n dec (n0::l) p) x x.length)(PW:m≤1024) :
  Bo Tryz.prog 32 [.agg (Ic x ifs),sl Al roots,sl Ak (Ap dec),.slice (.id 1000 1) (F.map BI),vi (m:Nat)] (Ag [(1000,.tok 1 F.length)] Aa) (fun r h'=>r=.slice (.id 1000 1) ((tk F (BS x roots (n+1) dec) m).map BI)∧h'=Ag [(1000,.tok 1 (tk F (BS x roots (n+1) dec) m).length)] Aa):=by
 obtain⟨hE0,hx,hxf,hr,hrn,hdl,hv,hplc,hrl,hneeds,hNx,hDec,hval,ihT,ihN⟩:=hL;have xD:x.length≤1073741824:=hxf;have PW:m≤1024:=PW;have Lq:=tT x ifs roots (Ap dec) hx hxf (by omega) (by rw[Lm];omega);rw[hneeds]at Lq;unfold Pb at Lq;rw[hNx.next]at Lq
 have ZI:∀(q:ByteArray) (k:Int),PC 75 [L6 x ifs,sl Al roots,sl Ak (Ap dec),vs q,vi k] (vb (GB (DH roots dec) q k)):=fun q k=>by
  have:=qR x ifs roots (Ap dec) q k hx hxf (fun q hq=>(hr q hq).1) (by omega) (by rw[Lm];omega)
  rw[hneeds]at this;exact this
 refine CH (MN ⟨[5,14],[],[],[],[],[],[],[],[],[],[2,4,6,7,8,9,10,11]⟩) [(1000,1000)] rfl CI hm rfl Tryz.func32 (by kernel_rfl) rfl (Nz rfl) (by kernel_rfl) rfl ?_;refine Yi (Nz rfl) ?_;refine Xi .pure (Xi _ (Yi Lq ?_));refine Xi ⟨[(1,sl Al roots),(2,sl Ak (Ap dec)),(3,.slice (.id 1000 1) (F.map BI)),(4,vi (m:Nat)),(5,.ref 5 0),(11,vs p),(12,vb true)],[(5,.ro (Ic x ifs)),(1000,.tok 1 F.length)],Aa⟩ (Yi ⟨Z7,Z2,Fh,At (by kernel_rfl)⟩ ?_)
 refine Xi ⟨[(1,sl Al roots),(2,sl Ak (Ap dec)),(3,.slice (.id 1000 1) (F.map BI)),(4,vi (m:Nat)),(5,.ref 5 0),(11,vs p)],[(5,.ro (Ic x ifs)),(1000,.tok 1 F.length)],Aa⟩ (Yi ⟨Z6,Z2,Fh,At (by kernel_rfl)⟩ ?_)
 refine Xi {q:Nat×List (List Sl) // q.1≤x.length∧q.2=tk F (VZ (LP x roots n dec (n0::l) p) x q.1) m} (Xi (fun q=>⟨[(1,sl Al roots),(2,sl Ak (Ap dec)),(3,.slice (.id 1000 1) (q.1.2.map BI)),(4,vi (m:Nat)),(5,.ref 5 0),(11,vs p),(13,vi q.1.1)],[(5,.ro (Ic x ifs)),(1000,.tok 1 q.1.2.length)],Aa⟩) (Xi (fun q=>x.length-q.1.1) (Yi (Xi ⟨(0,F),AL _,by rw[Y1,jF]⟩ ?_) ?_)))
 ·exact⟨Z7,Z2,Fh,At (by kernel_rfl)⟩
 intro⟨⟨i,o⟩,i1,i2⟩;have i1:i≤x.length:=i1;have i2:o=tk F (VZ (LP x roots n dec (n0::l) p) x i) m:=i2;refine Yi (fun h1=>?_) (fun h1=>?_)
 ·have h1:(i:Int)<((x.map AY).length:Int):=h1;have n1:i<x.length:=by have q:=h1;rw[Lm]at q;omega
  have g1:x[i]?=some x[i]:=Ge n1;refine Yi (fun h2=>?_) (fun h2=>?_)
  ·have h2:((o.map BI).length:Int)<((m:Nat):Int):=h2;have sm:o.length<m:=by have q:=h2;rw[Lm]at q;omega
   refine Xi ⟨[(1,sl Al roots),(2,sl Ak (Ap dec)),(3,.slice (.id 1000 1) (o.map BI)),(4,vi (m:Nat)),(5,.ref 5 0),(11,vs p),(13,vi i)],[(5,.ro (Ic x ifs)),(1000,.tok 1 o.length)],Aa⟩ (Yi ⟨Z7,Z2,Fh,At (by kernel_rfl)⟩ ?_)
   refine Xi (AY x[i]) (Yi (Yi (Nn i) (Cg g1)) (Yi rfl ?_));refine Yi (Nz rfl) ?_;refine Yi (Nz rfl) ?_;refine Xi ⟨[(1,sl Al roots),(2,sl Ak (Ap dec)),(3,.slice (.id 1000 1) (o.map BI)),(4,vi (m:Nat)),(5,.ref 5 0),(11,vs p),(13,vi i),(14,.ref 14 0)],[(5,.ro (Ic x ifs)),(14,.ro (AY x[i])),(1000,.tok 1 o.length)],Aa⟩ (Yi ⟨Z8,Z3,Fh,At (by kernel_rfl)⟩ ?_)
   refine Yi (fun h4=>?_) (fun h4=>?_)
   ·have h4:(x[i].path:ByteArray)≠p:=h4;refine Yi (by kernel_rfl) ?_;refine Xi ⟨[(1,sl Al roots),(2,sl Ak (Ap dec)),(3,.slice (.id 1000 1) (o.map BI)),(4,vi (m:Nat)),(5,.ref 5 0),(11,vs p),(13,vi i)],[(5,.ro (Ic x ifs)),(1000,.tok 1 o.length)],Aa⟩ (Yi ⟨Z7,Z2,Fh,At (by kernel_rfl)⟩ ?_)
    refine Yi (Ii i (by omega)) ?_;have I2:(LP x roots n dec (n0::l) p) x[i]=[]:=by unfold LP;rw[Aq (fun h=>h4 h.1)]
    refine Xi ⟨(i+1,o),n1,by rw[i2,IX n1 I2]⟩ ?_;exact⟨Dl x.length i (by omega),Z7,Z2,Fh,At (by kernel_rfl)⟩
   have h4:(x[i].path:ByteArray)=p:=Ch h4;refine Yi (fun h6=>?_) (fun h6=>?_)
   ·have h6:x[i].yanked=true:=h6;refine Yi (by kernel_rfl) ?_;refine Xi ⟨[(1,sl Al roots),(2,sl Ak (Ap dec)),(3,.slice (.id 1000 1) (o.map BI)),(4,vi (m:Nat)),(5,.ref 5 0),(11,vs p),(13,vi i)],[(5,.ro (Ic x ifs)),(1000,.tok 1 o.length)],Aa⟩ (Yi ⟨Z7,Z2,Fh,At (by kernel_rfl)⟩ ?_)
    refine Yi (Ii i (by omega)) ?_;have I2:(LP x roots n dec (n0::l) p) x[i]=[]:=by unfold LP;rw[Aq (fun h=>by rw[h6]at h;cases h.2)]
    refine Xi ⟨(i+1,o),n1,by rw[i2,IX n1 I2]⟩ ?_;exact⟨Dl x.length i (by omega),Z7,Z2,Fh,At (by kernel_rfl)⟩
   have h6:x[i].yanked=false:=h6;refine Yi (Nz rfl) ?_;refine Yi (Nz rfl) ?_;refine Xi _ (Yi (tV x[i].ver (hv _ (Am n1))) ?_);refine BO (Bt (GB (DH roots dec) p (place x[i].ver))) (fun h8=>?_) (fun h8=>?_)
   ·have h8:(GB (DH roots dec) p (place x[i].ver))=true:=h8;have zE:=(ZI p (place x[i].ver));rw[show(GB (DH roots dec) p (place x[i].ver))=true from h8]at zE;refine Xi _ (Yi zE ?_);refine Yi (by kernel_rfl) ?_;refine Xi ⟨[(1,sl Al roots),(2,sl Ak (Ap dec)),(3,.slice (.id 1000 1) (o.map BI)),(4,vi (m:Nat)),(5,.ref 5 0),(11,vs p),(13,vi i)],[(5,.ro (Ic x ifs)),(1000,.tok 1 o.length)],Aa⟩ (Yi ⟨Z7,Z2,Fh,At (by kernel_rfl)⟩ ?_)
    refine Yi (Ii i (by omega)) ?_;have I2:(LP x roots n dec (n0::l) p) x[i]=[]:=WM hNx (hplc _ (Am n1)) h8;refine Xi ⟨(i+1,o),n1,by rw[i2,IX n1 I2]⟩ ?_;exact⟨Dl x.length i (by omega),Z7,Z2,Fh,At (by kernel_rfl)⟩
   have h8:(GB (DH roots dec) p (place x[i].ver))=false:=h8;have rE:=(ZI p (place x[i].ver));rw[show(GB (DH roots dec) p (place x[i].ver))=false from h8]at rE;refine Xi _ (Yi rE ?_);refine Yi (by kernel_rfl) ?_;refine Xi ⟨[(1,sl Al roots),(2,sl Ak (Ap dec)),(3,.slice (.id 1000 1) (o.map BI)),(4,vi (m:Nat)),(5,.ref 5 0),(11,vs p),(13,vi i),(14,.ref 14 0)],[(5,.ro (Ic x ifs)),(14,.ro (AY x[i])),(1000,.tok 1 o.length)],Aa⟩ (Yi ⟨Z8,Z3,Fh,At (by kernel_rfl)⟩ ?_)
   have pW:BW 4 ((Ap dec).map Ak)∧([]:List (List AV)).length=0∧(([]:List (List AV)).length+((Ap dec).map Ak).length)*40≤140737488355328∧([]:List (List AV)).length+((Ap dec).map Ak).length≤9223372036854775807:=⟨(Du (enc:=Ak) (n:=4) (fun _=>rfl) (Ap dec)),(by first | (simp;done) | (rw[Lm];assumption)),(by simp only[Lm,Ah];omega),(by simp only[Lm,Ah];omega)⟩
   refine Yi pW ?_;refine Yi (Nz rfl) ?_;have uG:BW 4 [[vs p,vi x[i].ver.a,vi x[i].ver.b,vi x[i].ver.c]]∧(([]++((Ap dec).map Ak)):List (List AV)).length=(([]:List (List AV)).length+((Ap dec).map Ak).length)∧((([]++((Ap dec).map Ak)):List (List AV)).length+([[vs p,vi x[i].ver.a,vi x[i].ver.b,vi x[i].ver.c]]:List (List AV)).length)*40≤140737488355328∧(([]++((Ap dec).map Ak)):List (List AV)).length+([[vs p,vi x[i].ver.a,vi x[i].ver.b,vi x[i].ver.c]]:List (List AV)).length≤9223372036854775807:=⟨⟨rfl,trivial⟩,(by first | (simp;done) | (rw[Lm];assumption)),(by simp only[Lm,Ad,Aj,Ah];omega),(by simp only[Lm,Ad,Aj,Ah];omega)⟩
   refine Yi uG ?_;refine Yi (by kernel_rfl) ?_;have RB:x[i].path=p:=h4;have XV:(⟨plc x[i].ver,x[i]⟩:Cd)∈Br x p:=Hf.2 ⟨x[i],Am n1,RB,h6,rfl⟩;have hD:=hDec (⟨plc x[i].ver,x[i]⟩:Cd) XV;refine Xi ⟨[(1,sl Al roots),(2,sl Ak (Ap dec)),(3,.slice (.id 1000 1) (o.map BI)),(4,vi (m:Nat)),(5,.ref 5 0),(11,vs p),(13,vi i),(15,.slice (.id 66 4) ((Ap (dec++[(⟨plc x[i].ver,x[i]⟩:Cd)])).map Ak))],[(5,.ro (Ic x ifs)),(66,.tok 4 ((Ap (dec++[(⟨plc x[i].ver,x[i]⟩:Cd)])).map Ak).length),(1000,.tok 1 o.length)],Aa⟩ (Yi ⟨⟨Zr,Zr,Zr,Zr,Zr,Zr,Zr,⟨(show(.slice (.id 66 4) (([]++((Ap dec).map Ak))++[[vs p,vi x[i].ver.a,vi x[i].ver.b,vi x[i].ver.c]]):AV)=.slice (.id 66 4) ((Ap (dec++[(⟨plc x[i].ver,x[i]⟩:Cd)])).map Ak)from Ac (AV.slice (.id 66 4)) (MU RB)),rfl⟩,Tv⟩,⟨Zr,⟨(show(.tok 4 ((([]++((Ap dec).map Ak)):List (List AV)).length+([[vs p,vi x[i].ver.a,vi x[i].ver.b,vi x[i].ver.c]]:List (List AV)).length):HO)=.tok 4 ((Ap (dec++[(⟨plc x[i].ver,x[i]⟩:Cd)])).map Ak).length by rw[←MU (dec:=dec) RB];simp),rfl⟩,Zr,Tv⟩,Fh,At (by kernel_rfl)⟩ ?_)
   refine Yi (Nz rfl) ?_;have Ti:=yZ x ifs (Ap (dec++[(⟨plc x[i].ver,x[i]⟩:Cd)])) (Ap dec) (Ng (⟨plc x[i].ver,x[i]⟩:Cd)) x[i] hx hxf (by rw[Lm,Ad,AB];omega) (by unfold Ap;rw[Az];rfl) (Jh hE0 (Am n1)) (fun y hy=>hval (⟨plc x[i].ver,x[i]⟩:Cd) XV y hy) (fun q hq=>((hx _ (Am n1)).2 q hq).1) (hrl _ (Am n1));have hcl:Md x[i] (Ap (dec++[(⟨plc x[i].ver,x[i]⟩:Cd)]))=(Co dec (⟨plc x[i].ver,x[i]⟩:Cd)).isSome:=SF hE0 hD;rw[hcl]at Ti;refine BO (Bt (Co dec (⟨plc x[i].ver,x[i]⟩:Cd)).isSome) (fun Vh=>?_) (fun Vh=>?_)
   ·have Vh:(Co dec (⟨plc x[i].ver,x[i]⟩:Cd)).isSome=true:=Vh;have XT:=Ti;rw[show(Co dec (⟨plc x[i].ver,x[i]⟩:Cd)).isSome=true from Vh]at XT;refine Xi .pure (Xi _ (Yi XT ?_));refine Xi ⟨[(1,sl Al roots),(2,sl Ak (Ap dec)),(3,.slice (.id 1000 1) (o.map BI)),(4,vi (m:Nat)),(5,.ref 5 0),(11,vs p),(13,vi i)],[(5,.ro (Ic x ifs)),(1000,.tok 1 o.length)],Aa⟩ (Yi ⟨Z7,Z2,Fh,At (by kernel_rfl)⟩ ?_)
    refine Yi (Ii i (by omega)) ?_;have I2:(LP x roots n dec (n0::l) p) x[i]=[]:=iw Vh;refine Xi ⟨(i+1,o),n1,by rw[i2,IX n1 I2]⟩ ?_;exact⟨Dl x.length i (by omega),Z7,Z2,Fh,At (by kernel_rfl)⟩
   have Vh:(Co dec (⟨plc x[i].ver,x[i]⟩:Cd)).isSome=false:=Vh;have rG:=Ti;rw[show(Co dec (⟨plc x[i].ver,x[i]⟩:Cd)).isSome=false from Vh]at rG;refine Xi .pure (Xi _ (Yi rG ?_));refine Xi ⟨[(1,sl Al roots),(2,sl Ak (Ap dec)),(3,.slice (.id 1000 1) (o.map BI)),(4,vi (m:Nat)),(5,.ref 5 0),(11,vs p),(13,vi i),(15,.slice (.id 66 4) ((Ap (dec++[(⟨plc x[i].ver,x[i]⟩:Cd)])).map Ak))],[(5,.ro (Ic x ifs)),(66,.tok 4 ((Ap (dec++[(⟨plc x[i].ver,x[i]⟩:Cd)])).map Ak).length),(1000,.tok 1 o.length)],Aa⟩ (Yi ⟨Z8,Z3,Fh,At (by kernel_rfl)⟩ ?_)
   refine Yi (Nz rfl) ?_;have FV:VC dec (n0::l) (⟨plc x[i].ver,x[i]⟩:Cd)=true:=GO.2 ⟨fun m hm=>by have q:=(OJ hNx (place x[i].ver)).1 h8 m hm;rw[←hplc _ (Am n1)]at q;exact q,by have q:=Vh;simpa using q⟩;have I2:(LP x roots n dec (n0::l) p) x[i]=(BS x roots n (dec++[(⟨plc x[i].ver,x[i]⟩:Cd)])):=by unfold LP Rf;rw[Ax ⟨RB,h6⟩,Ax FV]
   have Uk:=ihT (⟨plc x[i].ver,x[i]⟩:Cd) XV o m sm PW;refine Xi (.gen [(1000,1000)] 0) (Yi rfl (Bo.imp Uk ?_));intro v18 g18 q18;have xV:=q18.1;have xW:=q18.2;subst xV;subst xW;refine Xi ⟨[(1,sl Al roots),(2,sl Ak (Ap dec)),(3,.slice (.id 1000 1) ((tk o (BS x roots n (dec++[(⟨plc x[i].ver,x[i]⟩:Cd)])) m).map BI)),(4,vi (m:Nat)),(5,.ref 5 0),(11,vs p),(13,vi i)],[(5,.ro (Ic x ifs)),(1000,.tok 1 (tk o (BS x roots n (dec++[(⟨plc x[i].ver,x[i]⟩:Cd)])) m).length)],Aa⟩ (Yi ⟨Z7,Z2,Fh,At (by kernel_rfl)⟩ ?_)
   refine Yi (Ii i (by omega)) ?_;refine Xi ⟨(i+1,(tk o (BS x roots n (dec++[(⟨plc x[i].ver,x[i]⟩:Cd)])) m)),n1,by rw[Pt n1,I2,aL (by rw[←i2];exact sm),←i2]⟩ ?_;exact⟨Dl x.length i (by omega),Z7,Z2,Fh,At (by kernel_rfl)⟩
  have h2:¬(((o.map BI).length:Int)<((m:Nat):Int)):=h2;have eo:o=tk F (BS x roots (n+1) dec) m:=by
   rw[i2,UC,V0 _ x i,bQ (by rw[←i2];have q:=h2;rw[Lm]at q;omega) (by omega)]
  rw[←eo];exact Xi _ (Yi (.refl _) Zr)
 have h1:¬((i:Int)<((x.map AY).length:Int)):=h1;have n1:¬i<x.length:=by have q:=h1;rw[Lm]at q;omega
 have eo:o=tk F (BS x roots (n+1) dec) m:=by
  rw[i2,UC,show i=x.length by have q:=h1;rw[Lm]at q;omega]
 rw[←eo];exact Xi _ (Yi (.refl _) Zr)
end Go.Eng

namespace Go.Eng
open Go.Proofs
def kb(o:List (List Sl)):AV:=match o with | []=>.v (.slice none 0 0) | y::ys=>.slice (.id 18400 1) ((y::ys).map BI)
def jX(o:List (List Sl)):HO:=match o with | []=>.free | y::ys=>.tok 1 (y::ys).length
theorem cV(k:Nat):Ag [(k,.free)] Aa=Ag [] Aa:=funext fun i=>by
 show(bif Nat.beq i k then HO.free else Aa i)=Aa i;cases Nat.beq i k<;>rfl
theorem mG(y:List Sl)(ys:List (List Sl))(L:List (List Cd))(m:Nat):∃z zs,tk (y::ys) L m=z::zs:=⟨y,_,rfl⟩
set_option maxHeartbeats 8000000 in
theorem yM(x:List Rl)(ifs:List (List AV))(roots:List Rq)(n:Nat)(dec:List Cd)(p:ByteArray)(n0:Nd)(l:List Nd)(m:Nat)(br:0<m)(hL:uy x ifs roots n dec p n0 l)(UC:BS x roots (n+1) dec=VZ (LP x roots n dec (n0::l) p) x x.length)(PW:m≤1024) :
  Bo Tryz.prog 32 [.agg (Ic x ifs),sl Al roots,sl Ak (Ap dec),.v (.slice none 0 0),vi (m:Nat)] (Ag [] Aa) (RN (tk [] (BS x roots (n+1) dec) m)):=by
 obtain⟨hE0,hx,hxf,hr,hrn,hdl,hv,hplc,hrl,hneeds,hNx,hDec,hval,ihT,ihN⟩:=hL;have xD:x.length≤1073741824:=hxf;have PW:m≤1024:=PW;have Lq:=tT x ifs roots (Ap dec) hx hxf (by omega) (by rw[Lm];omega);rw[hneeds]at Lq;unfold Pb at Lq;rw[hNx.next]at Lq
 have ZI:∀(q:ByteArray) (k:Int),PC 75 [L6 x ifs,sl Al roots,sl Ak (Ap dec),vs q,vi k] (vb (GB (DH roots dec) q k)):=fun q k=>by
  have:=qR x ifs roots (Ap dec) q k hx hxf (fun q hq=>(hr q hq).1) (by omega) (by rw[Lm];omega)
  rw[hneeds]at this;exact this
 refine CH (MN ⟨[5,14],[],[],[],[],[],[],[],[],[],[2,4,6,7,8,9,10,11]⟩) [(18400,2000)] rfl CI hm rfl Tryz.func32 (by kernel_rfl) rfl (Nz rfl) (by kernel_rfl) rfl ?_;refine Yi (Nz rfl) ?_;refine Xi .pure (Xi _ (Yi Lq ?_));refine Xi ⟨[(1,sl Al roots),(2,sl Ak (Ap dec)),(3,.v (.slice none 0 0)),(4,vi (m:Nat)),(5,.ref 5 0),(11,vs p),(12,vb true)],[(5,.ro (Ic x ifs))],Aa⟩ (Yi ⟨Z7,Z1,Fh,At (by kernel_rfl)⟩ ?_)
 refine Xi ⟨[(1,sl Al roots),(2,sl Ak (Ap dec)),(3,.v (.slice none 0 0)),(4,vi (m:Nat)),(5,.ref 5 0),(11,vs p)],[(5,.ro (Ic x ifs))],Aa⟩ (Yi ⟨Z6,Z1,Fh,At (by kernel_rfl)⟩ ?_)
 refine Xi {q:Nat×List (List Sl) // q.1≤x.length∧q.2=tk [] (VZ (LP x roots n dec (n0::l) p) x q.1) m} (Xi (fun q=>⟨[(1,sl Al roots),(2,sl Ak (Ap dec)),(3,kb q.1.2),(4,vi (m:Nat)),(5,.ref 5 0),(11,vs p),(13,vi q.1.1)],[(5,.ro (Ic x ifs)),(18400,jX q.1.2)],Aa⟩) (Xi (fun q=>x.length-q.1.1) (Yi (Xi ⟨(0,[]),AL _,by rw[Y1,jF]⟩ ?_) ?_)))
 ·exact⟨⟨Zr,Zr,⟨(show(.v (.slice none 0 0):AV)=kb []from rfl),rfl⟩,Zr,Zr,Zr,Zr,Tv⟩,⟨Zr,⟨(show HO.free=jX []from rfl),rfl⟩,Tv⟩,Fh,At (by kernel_rfl)⟩
 intro⟨⟨i,o⟩,i1,i2⟩;have i1:i≤x.length:=i1;have i2:o=tk [] (VZ (LP x roots n dec (n0::l) p) x i) m:=i2;refine BO (WQ o) (fun h1=>?_) (fun h1=>?_)
 ·have i2:[]=tk [] (VZ (LP x roots n dec (n0::l) p) x i) m:=by have q:=i2;rw[h1]at q;exact q
  refine We (s':=⟨[(1,sl Al roots),(2,sl Ak (Ap dec)),(3,.v (.slice none 0 0)),(4,vi (m:Nat)),(5,.ref 5 0),(11,vs p),(13,vi i)],[(5,.ro (Ic x ifs)),(18400,.free)],Aa⟩) (Ac (fun o'=>(⟨[(1,sl Al roots),(2,sl Ak (Ap dec)),(3,kb o'),(4,vi (m:Nat)),(5,.ref 5 0),(11,vs p),(13,vi i)],[(5,.ro (Ic x ifs)),(18400,jX o')],Aa⟩:LS)) h1) ?_;refine Yi (fun h2=>?_) (fun h2=>?_)
  ·have h2:(i:Int)<((x.map AY).length:Int):=h2;have n2:i<x.length:=by have q:=h2;rw[Lm]at q;omega
   have g2:x[i]?=some x[i]:=Ge n2;refine Yi (fun h3=>?_) (fun h3=>?_)
   ·have h3:(0:Int)<((m:Nat):Int):=h3;refine Xi ⟨[(1,sl Al roots),(2,sl Ak (Ap dec)),(3,.v (.slice none 0 0)),(4,vi (m:Nat)),(5,.ref 5 0),(11,vs p),(13,vi i)],[(5,.ro (Ic x ifs))],Aa⟩ (Yi ⟨Z7,Z1,Fh,At (by kernel_rfl)⟩ ?_)
    refine Xi (AY x[i]) (Yi (Yi (Nn i) (Cg g2)) (Yi rfl ?_));refine Yi (Nz rfl) ?_;refine Yi (Nz rfl) ?_;refine Xi ⟨[(1,sl Al roots),(2,sl Ak (Ap dec)),(3,.v (.slice none 0 0)),(4,vi (m:Nat)),(5,.ref 5 0),(11,vs p),(13,vi i),(14,.ref 14 0)],[(5,.ro (Ic x ifs)),(14,.ro (AY x[i]))],Aa⟩ (Yi ⟨Z8,Z2,Fh,At (by kernel_rfl)⟩ ?_)
    refine Yi (fun h5=>?_) (fun h5=>?_)
    ·have h5:(x[i].path:ByteArray)≠p:=h5;refine Yi (by kernel_rfl) ?_;refine Xi ⟨[(1,sl Al roots),(2,sl Ak (Ap dec)),(3,.v (.slice none 0 0)),(4,vi (m:Nat)),(5,.ref 5 0),(11,vs p),(13,vi i)],[(5,.ro (Ic x ifs))],Aa⟩ (Yi ⟨Z7,Z1,Fh,At (by kernel_rfl)⟩ ?_)
     refine Yi (Ii i (by omega)) ?_;have I2:(LP x roots n dec (n0::l) p) x[i]=[]:=by unfold LP;rw[Aq (fun h=>h5 h.1)]
     refine Xi ⟨(i+1,[]),n2,by rw[IX n2 I2];exact i2⟩ ?_;exact⟨Dl x.length i (by omega),⟨Zr,Zr,⟨(show(.v (.slice none 0 0):AV)=kb []from rfl),rfl⟩,Zr,Zr,Zr,Zr,Tv⟩,⟨Zr,⟨(show HO.free=jX []from rfl),rfl⟩,Tv⟩,Fh,At (by kernel_rfl)⟩
    have h5:(x[i].path:ByteArray)=p:=Ch h5;refine Yi (fun h7=>?_) (fun h7=>?_)
    ·have h7:x[i].yanked=true:=h7;refine Yi (by kernel_rfl) ?_;refine Xi ⟨[(1,sl Al roots),(2,sl Ak (Ap dec)),(3,.v (.slice none 0 0)),(4,vi (m:Nat)),(5,.ref 5 0),(11,vs p),(13,vi i)],[(5,.ro (Ic x ifs))],Aa⟩ (Yi ⟨Z7,Z1,Fh,At (by kernel_rfl)⟩ ?_)
     refine Yi (Ii i (by omega)) ?_;have I2:(LP x roots n dec (n0::l) p) x[i]=[]:=by unfold LP;rw[Aq (fun h=>by rw[h7]at h;cases h.2)]
     refine Xi ⟨(i+1,[]),n2,by rw[IX n2 I2];exact i2⟩ ?_;exact⟨Dl x.length i (by omega),⟨Zr,Zr,⟨(show(.v (.slice none 0 0):AV)=kb []from rfl),rfl⟩,Zr,Zr,Zr,Zr,Tv⟩,⟨Zr,⟨(show HO.free=jX []from rfl),rfl⟩,Tv⟩,Fh,At (by kernel_rfl)⟩
    have h7:x[i].yanked=false:=h7;refine Yi (Nz rfl) ?_;refine Yi (Nz rfl) ?_;refine Xi _ (Yi (tV x[i].ver (hv _ (Am n2))) ?_);refine BO (Bt (GB (DH roots dec) p (place x[i].ver))) (fun h9=>?_) (fun h9=>?_)
    ·have h9:(GB (DH roots dec) p (place x[i].ver))=true:=h9;have rD:=(ZI p (place x[i].ver));rw[show(GB (DH roots dec) p (place x[i].ver))=true from h9]at rD;refine Xi _ (Yi rD ?_);refine Yi (by kernel_rfl) ?_;refine Xi ⟨[(1,sl Al roots),(2,sl Ak (Ap dec)),(3,.v (.slice none 0 0)),(4,vi (m:Nat)),(5,.ref 5 0),(11,vs p),(13,vi i)],[(5,.ro (Ic x ifs))],Aa⟩ (Yi ⟨Z7,Z1,Fh,At (by kernel_rfl)⟩ ?_)
     refine Yi (Ii i (by omega)) ?_;have I2:(LP x roots n dec (n0::l) p) x[i]=[]:=WM hNx (hplc _ (Am n2)) h9;refine Xi ⟨(i+1,[]),n2,by rw[IX n2 I2];exact i2⟩ ?_;exact⟨Dl x.length i (by omega),⟨Zr,Zr,⟨(show(.v (.slice none 0 0):AV)=kb []from rfl),rfl⟩,Zr,Zr,Zr,Zr,Tv⟩,⟨Zr,⟨(show HO.free=jX []from rfl),rfl⟩,Tv⟩,Fh,At (by kernel_rfl)⟩
    have h9:(GB (DH roots dec) p (place x[i].ver))=false:=h9;have gE:=(ZI p (place x[i].ver));rw[show(GB (DH roots dec) p (place x[i].ver))=false from h9]at gE;refine Xi _ (Yi gE ?_);refine Yi (by kernel_rfl) ?_;refine Xi ⟨[(1,sl Al roots),(2,sl Ak (Ap dec)),(3,.v (.slice none 0 0)),(4,vi (m:Nat)),(5,.ref 5 0),(11,vs p),(13,vi i),(14,.ref 14 0)],[(5,.ro (Ic x ifs)),(14,.ro (AY x[i]))],Aa⟩ (Yi ⟨Z8,Z2,Fh,At (by kernel_rfl)⟩ ?_)
    have uG:BW 4 ((Ap dec).map Ak)∧([]:List (List AV)).length=0∧(([]:List (List AV)).length+((Ap dec).map Ak).length)*40≤140737488355328∧([]:List (List AV)).length+((Ap dec).map Ak).length≤9223372036854775807:=⟨(Du (enc:=Ak) (n:=4) (fun _=>rfl) (Ap dec)),(by first | (simp;done) | (rw[Lm];assumption)),(by simp only[Lm,Ah];omega),(by simp only[Lm,Ah];omega)⟩
    refine Yi uG ?_;refine Yi (Nz rfl) ?_;have b14:BW 4 [[vs p,vi x[i].ver.a,vi x[i].ver.b,vi x[i].ver.c]]∧(([]++((Ap dec).map Ak)):List (List AV)).length=(([]:List (List AV)).length+((Ap dec).map Ak).length)∧((([]++((Ap dec).map Ak)):List (List AV)).length+([[vs p,vi x[i].ver.a,vi x[i].ver.b,vi x[i].ver.c]]:List (List AV)).length)*40≤140737488355328∧(([]++((Ap dec).map Ak)):List (List AV)).length+([[vs p,vi x[i].ver.a,vi x[i].ver.b,vi x[i].ver.c]]:List (List AV)).length≤9223372036854775807:=⟨⟨rfl,trivial⟩,(by first | (simp;done) | (rw[Lm];assumption)),(by simp only[Lm,Ad,Aj,Ah];omega),(by simp only[Lm,Ad,Aj,Ah];omega)⟩
    refine Yi b14 ?_;refine Yi (by kernel_rfl) ?_;have RB:x[i].path=p:=h5;have XV:(⟨plc x[i].ver,x[i]⟩:Cd)∈Br x p:=Hf.2 ⟨x[i],Am n2,RB,h7,rfl⟩;have hD:=hDec (⟨plc x[i].ver,x[i]⟩:Cd) XV;refine Xi ⟨[(1,sl Al roots),(2,sl Ak (Ap dec)),(3,.v (.slice none 0 0)),(4,vi (m:Nat)),(5,.ref 5 0),(11,vs p),(13,vi i),(15,.slice (.id 66 4) ((Ap (dec++[(⟨plc x[i].ver,x[i]⟩:Cd)])).map Ak))],[(5,.ro (Ic x ifs)),(66,.tok 4 ((Ap (dec++[(⟨plc x[i].ver,x[i]⟩:Cd)])).map Ak).length)],Aa⟩ (Yi ⟨⟨Zr,Zr,Zr,Zr,Zr,Zr,Zr,⟨(show(.slice (.id 66 4) (([]++((Ap dec).map Ak))++[[vs p,vi x[i].ver.a,vi x[i].ver.b,vi x[i].ver.c]]):AV)=.slice (.id 66 4) ((Ap (dec++[(⟨plc x[i].ver,x[i]⟩:Cd)])).map Ak)from Ac (AV.slice (.id 66 4)) (MU RB)),rfl⟩,Tv⟩,⟨Zr,⟨(show(.tok 4 ((([]++((Ap dec).map Ak)):List (List AV)).length+([[vs p,vi x[i].ver.a,vi x[i].ver.b,vi x[i].ver.c]]:List (List AV)).length):HO)=.tok 4 ((Ap (dec++[(⟨plc x[i].ver,x[i]⟩:Cd)])).map Ak).length by rw[←MU (dec:=dec) RB];simp),rfl⟩,Tv⟩,Fh,At (by kernel_rfl)⟩ ?_)
    refine Yi (Nz rfl) ?_;have Ti:=yZ x ifs (Ap (dec++[(⟨plc x[i].ver,x[i]⟩:Cd)])) (Ap dec) (Ng (⟨plc x[i].ver,x[i]⟩:Cd)) x[i] hx hxf (by rw[Lm,Ad,AB];omega) (by unfold Ap;rw[Az];rfl) (Jh hE0 (Am n2)) (fun y hy=>hval (⟨plc x[i].ver,x[i]⟩:Cd) XV y hy) (fun q hq=>((hx _ (Am n2)).2 q hq).1) (hrl _ (Am n2));have hcl:Md x[i] (Ap (dec++[(⟨plc x[i].ver,x[i]⟩:Cd)]))=(Co dec (⟨plc x[i].ver,x[i]⟩:Cd)).isSome:=SF hE0 hD;rw[hcl]at Ti;refine BO (Bt (Co dec (⟨plc x[i].ver,x[i]⟩:Cd)).isSome) (fun RM=>?_) (fun RM=>?_)
    ·have RM:(Co dec (⟨plc x[i].ver,x[i]⟩:Cd)).isSome=true:=RM;have gF:=Ti;rw[show(Co dec (⟨plc x[i].ver,x[i]⟩:Cd)).isSome=true from RM]at gF;refine Xi .pure (Xi _ (Yi gF ?_));refine Xi ⟨[(1,sl Al roots),(2,sl Ak (Ap dec)),(3,.v (.slice none 0 0)),(4,vi (m:Nat)),(5,.ref 5 0),(11,vs p),(13,vi i)],[(5,.ro (Ic x ifs))],Aa⟩ (Yi ⟨Z7,Z1,Fh,At (by kernel_rfl)⟩ ?_)
     refine Yi (Ii i (by omega)) ?_;have I2:(LP x roots n dec (n0::l) p) x[i]=[]:=iw RM;refine Xi ⟨(i+1,[]),n2,by rw[IX n2 I2];exact i2⟩ ?_;exact⟨Dl x.length i (by omega),⟨Zr,Zr,⟨(show(.v (.slice none 0 0):AV)=kb []from rfl),rfl⟩,Zr,Zr,Zr,Zr,Tv⟩,⟨Zr,⟨(show HO.free=jX []from rfl),rfl⟩,Tv⟩,Fh,At (by kernel_rfl)⟩
    have RM:(Co dec (⟨plc x[i].ver,x[i]⟩:Cd)).isSome=false:=RM;have rH:=Ti;rw[show(Co dec (⟨plc x[i].ver,x[i]⟩:Cd)).isSome=false from RM]at rH;refine Xi .pure (Xi _ (Yi rH ?_));refine Xi ⟨[(1,sl Al roots),(2,sl Ak (Ap dec)),(3,.v (.slice none 0 0)),(4,vi (m:Nat)),(5,.ref 5 0),(11,vs p),(13,vi i),(15,.slice (.id 66 4) ((Ap (dec++[(⟨plc x[i].ver,x[i]⟩:Cd)])).map Ak))],[(5,.ro (Ic x ifs)),(66,.tok 4 ((Ap (dec++[(⟨plc x[i].ver,x[i]⟩:Cd)])).map Ak).length)],Aa⟩ (Yi ⟨Z8,Z2,Fh,At (by kernel_rfl)⟩ ?_)
    refine Yi (Nz rfl) ?_;have FV:VC dec (n0::l) (⟨plc x[i].ver,x[i]⟩:Cd)=true:=GO.2 ⟨fun m hm=>by have q:=(OJ hNx (place x[i].ver)).1 h9 m hm;rw[←hplc _ (Am n2)]at q;exact q,by have q:=RM;simpa using q⟩;have I2:(LP x roots n dec (n0::l) p) x[i]=(BS x roots n (dec++[(⟨plc x[i].ver,x[i]⟩:Cd)])):=by unfold LP Rf;rw[Ax ⟨RB,h7⟩,Ax FV]
    have Uk:=ihN (⟨plc x[i].ver,x[i]⟩:Cd) XV m br PW;have nf:tk [] (VZ (LP x roots n dec (n0::l) p) x (i+1)) m=tk [] (BS x roots n (dec++[(⟨plc x[i].ver,x[i]⟩:Cd)])) m:=by rw[Pt n2,I2,aL (by rw[←i2];exact br),←i2]
    refine BO (WQ (tk [] (BS x roots n (dec++[(⟨plc x[i].ver,x[i]⟩:Cd)])) m)) (fun hT=>?_) (fun hT=>?_)
    ·rw[hT]at Uk;refine Xi (.gen [] 1) (Yi rfl (Bo.imp Uk ?_));intro v19 g19 s9;have pA:=s9.1;have pB:=s9.2;subst pA;subst pB;refine Xi ⟨[(1,sl Al roots),(2,sl Ak (Ap dec)),(3,.v (.slice none 0 0)),(4,vi (m:Nat)),(5,.ref 5 0),(11,vs p),(13,vi i)],[(5,.ro (Ic x ifs))],Aa⟩ (Yi ⟨Z7,Z1,Fh,At (by kernel_rfl)⟩ ?_)
     refine Yi (Ii i (by omega)) ?_;refine Xi ⟨(i+1,[]),n2,by rw[nf,hT]⟩ ?_;exact⟨Dl x.length i (by omega),⟨Zr,Zr,⟨(show(.v (.slice none 0 0):AV)=kb []from rfl),rfl⟩,Zr,Zr,Zr,Zr,Tv⟩,⟨Zr,⟨(show HO.free=jX []from rfl),rfl⟩,Tv⟩,Fh,At (by kernel_rfl)⟩
    refine Bb hT (fun z hT=>Bb hT (fun zs hT=>?_));rw[hT]at Uk;refine Xi (.gen [] 1) (Yi rfl (Bo.imp Uk ?_));intro v19 g19 s9;have pA:=s9.1;have pB:=s9.2;subst pA;subst pB;refine Xi ⟨[(1,sl Al roots),(2,sl Ak (Ap dec)),(3,.slice (.id 18400 1) ((z::zs).map BI)),(4,vi (m:Nat)),(5,.ref 5 0),(11,vs p),(13,vi i)],[(5,.ro (Ic x ifs)),(18400,.tok 1 (z::zs).length)],Aa⟩ (Yi ⟨Z7,Z2,Fh,At (by kernel_rfl)⟩ ?_)
    refine Yi (Ii i (by omega)) ?_;refine Xi ⟨(i+1,z::zs),n2,by rw[nf,hT]⟩ ?_;exact⟨Dl x.length i (by omega),Z7,Z2,Fh,At (by kernel_rfl)⟩
   have h3:¬((0:Int)<((m:Nat):Int)):=h3;exact absurd (by omega) h3
  have h2:¬((i:Int)<((x.map AY).length:Int)):=h2;have n2:¬i<x.length:=by have q:=h2;rw[Lm]at q;omega
  have eo:([]:List (List Sl))=tk [] (BS x roots (n+1) dec) m:=i2.trans (by
   rw[UC,show i=x.length by have q:=h2;rw[Lm]at q;omega])
  rw[←eo];exact Xi _ (Yi (.refl _) ⟨rfl,cV 2000⟩)
 refine Bb h1 (fun y h1=>Bb h1 (fun ys h1=>?_));have i2:y::ys=tk [] (VZ (LP x roots n dec (n0::l) p) x i) m:=by have q:=i2;rw[h1]at q;exact q
 refine We (s':=⟨[(1,sl Al roots),(2,sl Ak (Ap dec)),(3,.slice (.id 18400 1) ((y::ys).map BI)),(4,vi (m:Nat)),(5,.ref 5 0),(11,vs p),(13,vi i)],[(5,.ro (Ic x ifs)),(18400,.tok 1 (y::ys).length)],Aa⟩) (Ac (fun o'=>(⟨[(1,sl Al roots),(2,sl Ak (Ap dec)),(3,kb o'),(4,vi (m:Nat)),(5,.ref 5 0),(11,vs p),(13,vi i)],[(5,.ro (Ic x ifs)),(18400,jX o')],Aa⟩:LS)) h1) ?_;refine Yi (fun Xa=>?_) (fun Xa=>?_)
 ·have Xa:(i:Int)<((x.map AY).length:Int):=Xa;have n23:i<x.length:=by have q:=Xa;rw[Lm]at q;omega
  have g23:x[i]?=some x[i]:=Ge n23;refine Yi (fun oo=>?_) (fun oo=>?_)
  ·have oo:(((y::ys).map BI).length:Int)<((m:Nat):Int):=oo;have sm:(y::ys).length<m:=by have q:=oo;rw[Lm]at q;omega
   refine Xi ⟨[(1,sl Al roots),(2,sl Ak (Ap dec)),(3,.slice (.id 18400 1) ((y::ys).map BI)),(4,vi (m:Nat)),(5,.ref 5 0),(11,vs p),(13,vi i)],[(5,.ro (Ic x ifs)),(18400,.tok 1 (y::ys).length)],Aa⟩ (Yi ⟨Z7,Z2,Fh,At (by kernel_rfl)⟩ ?_)
   refine Xi (AY x[i]) (Yi (Yi (Nn i) (Cg g23)) (Yi rfl ?_));refine Yi (Nz rfl) ?_;refine Yi (Nz rfl) ?_;refine Xi ⟨[(1,sl Al roots),(2,sl Ak (Ap dec)),(3,.slice (.id 18400 1) ((y::ys).map BI)),(4,vi (m:Nat)),(5,.ref 5 0),(11,vs p),(13,vi i),(14,.ref 14 0)],[(5,.ro (Ic x ifs)),(14,.ro (AY x[i])),(18400,.tok 1 (y::ys).length)],Aa⟩ (Yi ⟨Z8,Z3,Fh,At (by kernel_rfl)⟩ ?_)
   refine Yi (fun oq=>?_) (fun oq=>?_)
   ·have oq:(x[i].path:ByteArray)≠p:=oq;refine Yi (by kernel_rfl) ?_;refine Xi ⟨[(1,sl Al roots),(2,sl Ak (Ap dec)),(3,.slice (.id 18400 1) ((y::ys).map BI)),(4,vi (m:Nat)),(5,.ref 5 0),(11,vs p),(13,vi i)],[(5,.ro (Ic x ifs)),(18400,.tok 1 (y::ys).length)],Aa⟩ (Yi ⟨Z7,Z2,Fh,At (by kernel_rfl)⟩ ?_)
    refine Yi (Ii i (by omega)) ?_;have I2:(LP x roots n dec (n0::l) p) x[i]=[]:=by unfold LP;rw[Aq (fun h=>oq h.1)]
    refine Xi ⟨(i+1,y::ys),n23,by rw[IX n23 I2];exact i2⟩ ?_;exact⟨Dl x.length i (by omega),Z7,Z2,Fh,At (by kernel_rfl)⟩
   have oq:(x[i].path:ByteArray)=p:=Ch oq;refine Yi (fun mU=>?_) (fun mU=>?_)
   ·have mU:x[i].yanked=true:=mU;refine Yi (by kernel_rfl) ?_;refine Xi ⟨[(1,sl Al roots),(2,sl Ak (Ap dec)),(3,.slice (.id 18400 1) ((y::ys).map BI)),(4,vi (m:Nat)),(5,.ref 5 0),(11,vs p),(13,vi i)],[(5,.ro (Ic x ifs)),(18400,.tok 1 (y::ys).length)],Aa⟩ (Yi ⟨Z7,Z2,Fh,At (by kernel_rfl)⟩ ?_)
    refine Yi (Ii i (by omega)) ?_;have I2:(LP x roots n dec (n0::l) p) x[i]=[]:=by unfold LP;rw[Aq (fun h=>by rw[mU]at h;cases h.2)]
    refine Xi ⟨(i+1,y::ys),n23,by rw[IX n23 I2];exact i2⟩ ?_;exact⟨Dl x.length i (by omega),Z7,Z2,Fh,At (by kernel_rfl)⟩
   have mU:x[i].yanked=false:=mU;refine Yi (Nz rfl) ?_;refine Yi (Nz rfl) ?_;refine Xi _ (Yi (tV x[i].ver (hv _ (Am n23))) ?_);refine BO (Bt (GB (DH roots dec) p (place x[i].ver))) (fun kW=>?_) (fun kW=>?_)
   ·have kW:(GB (DH roots dec) p (place x[i].ver))=true:=kW;have rK:=(ZI p (place x[i].ver));rw[show(GB (DH roots dec) p (place x[i].ver))=true from kW]at rK;refine Xi _ (Yi rK ?_);refine Yi (by kernel_rfl) ?_;refine Xi ⟨[(1,sl Al roots),(2,sl Ak (Ap dec)),(3,.slice (.id 18400 1) ((y::ys).map BI)),(4,vi (m:Nat)),(5,.ref 5 0),(11,vs p),(13,vi i)],[(5,.ro (Ic x ifs)),(18400,.tok 1 (y::ys).length)],Aa⟩ (Yi ⟨Z7,Z2,Fh,At (by kernel_rfl)⟩ ?_)
    refine Yi (Ii i (by omega)) ?_;have I2:(LP x roots n dec (n0::l) p) x[i]=[]:=WM hNx (hplc _ (Am n23)) kW;refine Xi ⟨(i+1,y::ys),n23,by rw[IX n23 I2];exact i2⟩ ?_;exact⟨Dl x.length i (by omega),Z7,Z2,Fh,At (by kernel_rfl)⟩
   have kW:(GB (DH roots dec) p (place x[i].ver))=false:=kW;have rL:=(ZI p (place x[i].ver));rw[show(GB (DH roots dec) p (place x[i].ver))=false from kW]at rL;refine Xi _ (Yi rL ?_);refine Yi (by kernel_rfl) ?_;refine Xi ⟨[(1,sl Al roots),(2,sl Ak (Ap dec)),(3,.slice (.id 18400 1) ((y::ys).map BI)),(4,vi (m:Nat)),(5,.ref 5 0),(11,vs p),(13,vi i),(14,.ref 14 0)],[(5,.ro (Ic x ifs)),(14,.ro (AY x[i])),(18400,.tok 1 (y::ys).length)],Aa⟩ (Yi ⟨Z8,Z3,Fh,At (by kernel_rfl)⟩ ?_)
   have b34:BW 4 ((Ap dec).map Ak)∧([]:List (List AV)).length=0∧(([]:List (List AV)).length+((Ap dec).map Ak).length)*40≤140737488355328∧([]:List (List AV)).length+((Ap dec).map Ak).length≤9223372036854775807:=⟨(Du (enc:=Ak) (n:=4) (fun _=>rfl) (Ap dec)),(by first | (simp;done) | (rw[Lm];assumption)),(by simp only[Lm,Ah];omega),(by simp only[Lm,Ah];omega)⟩
   refine Yi b34 ?_;refine Yi (Nz rfl) ?_;have b35:BW 4 [[vs p,vi x[i].ver.a,vi x[i].ver.b,vi x[i].ver.c]]∧(([]++((Ap dec).map Ak)):List (List AV)).length=(([]:List (List AV)).length+((Ap dec).map Ak).length)∧((([]++((Ap dec).map Ak)):List (List AV)).length+([[vs p,vi x[i].ver.a,vi x[i].ver.b,vi x[i].ver.c]]:List (List AV)).length)*40≤140737488355328∧(([]++((Ap dec).map Ak)):List (List AV)).length+([[vs p,vi x[i].ver.a,vi x[i].ver.b,vi x[i].ver.c]]:List (List AV)).length≤9223372036854775807:=⟨⟨rfl,trivial⟩,(by first | (simp;done) | (rw[Lm];assumption)),(by simp only[Lm,Ad,Aj,Ah];omega),(by simp only[Lm,Ad,Aj,Ah];omega)⟩
   refine Yi b35 ?_;refine Yi (by kernel_rfl) ?_;have RB:x[i].path=p:=oq;have XV:(⟨plc x[i].ver,x[i]⟩:Cd)∈Br x p:=Hf.2 ⟨x[i],Am n23,RB,mU,rfl⟩;have hD:=hDec (⟨plc x[i].ver,x[i]⟩:Cd) XV;refine Xi ⟨[(1,sl Al roots),(2,sl Ak (Ap dec)),(3,.slice (.id 18400 1) ((y::ys).map BI)),(4,vi (m:Nat)),(5,.ref 5 0),(11,vs p),(13,vi i),(15,.slice (.id 66 4) ((Ap (dec++[(⟨plc x[i].ver,x[i]⟩:Cd)])).map Ak))],[(5,.ro (Ic x ifs)),(66,.tok 4 ((Ap (dec++[(⟨plc x[i].ver,x[i]⟩:Cd)])).map Ak).length),(18400,.tok 1 (y::ys).length)],Aa⟩ (Yi ⟨⟨Zr,Zr,Zr,Zr,Zr,Zr,Zr,⟨(show(.slice (.id 66 4) (([]++((Ap dec).map Ak))++[[vs p,vi x[i].ver.a,vi x[i].ver.b,vi x[i].ver.c]]):AV)=.slice (.id 66 4) ((Ap (dec++[(⟨plc x[i].ver,x[i]⟩:Cd)])).map Ak)from Ac (AV.slice (.id 66 4)) (MU RB)),rfl⟩,Tv⟩,⟨Zr,⟨(show(.tok 4 ((([]++((Ap dec).map Ak)):List (List AV)).length+([[vs p,vi x[i].ver.a,vi x[i].ver.b,vi x[i].ver.c]]:List (List AV)).length):HO)=.tok 4 ((Ap (dec++[(⟨plc x[i].ver,x[i]⟩:Cd)])).map Ak).length by rw[←MU (dec:=dec) RB];simp),rfl⟩,Zr,Tv⟩,Fh,At (by kernel_rfl)⟩ ?_)
   refine Yi (Nz rfl) ?_;have Ti:=yZ x ifs (Ap (dec++[(⟨plc x[i].ver,x[i]⟩:Cd)])) (Ap dec) (Ng (⟨plc x[i].ver,x[i]⟩:Cd)) x[i] hx hxf (by rw[Lm,Ad,AB];omega) (by unfold Ap;rw[Az];rfl) (Jh hE0 (Am n23)) (fun y hy=>hval (⟨plc x[i].ver,x[i]⟩:Cd) XV y hy) (fun q hq=>((hx _ (Am n23)).2 q hq).1) (hrl _ (Am n23));have hcl:Md x[i] (Ap (dec++[(⟨plc x[i].ver,x[i]⟩:Cd)]))=(Co dec (⟨plc x[i].ver,x[i]⟩:Cd)).isSome:=SF hE0 hD;rw[hcl]at Ti;refine BO (Bt (Co dec (⟨plc x[i].ver,x[i]⟩:Cd)).isSome) (fun kY=>?_) (fun kY=>?_)
   ·have kY:(Co dec (⟨plc x[i].ver,x[i]⟩:Cd)).isSome=true:=kY;have rN:=Ti;rw[show(Co dec (⟨plc x[i].ver,x[i]⟩:Cd)).isSome=true from kY]at rN;refine Xi .pure (Xi _ (Yi rN ?_));refine Xi ⟨[(1,sl Al roots),(2,sl Ak (Ap dec)),(3,.slice (.id 18400 1) ((y::ys).map BI)),(4,vi (m:Nat)),(5,.ref 5 0),(11,vs p),(13,vi i)],[(5,.ro (Ic x ifs)),(18400,.tok 1 (y::ys).length)],Aa⟩ (Yi ⟨Z7,Z2,Fh,At (by kernel_rfl)⟩ ?_)
    refine Yi (Ii i (by omega)) ?_;have I2:(LP x roots n dec (n0::l) p) x[i]=[]:=iw kY;refine Xi ⟨(i+1,y::ys),n23,by rw[IX n23 I2];exact i2⟩ ?_;exact⟨Dl x.length i (by omega),Z7,Z2,Fh,At (by kernel_rfl)⟩
   have kY:(Co dec (⟨plc x[i].ver,x[i]⟩:Cd)).isSome=false:=kY;have gH:=Ti;rw[show(Co dec (⟨plc x[i].ver,x[i]⟩:Cd)).isSome=false from kY]at gH;refine Xi .pure (Xi _ (Yi gH ?_));refine Xi ⟨[(1,sl Al roots),(2,sl Ak (Ap dec)),(3,.slice (.id 18400 1) ((y::ys).map BI)),(4,vi (m:Nat)),(5,.ref 5 0),(11,vs p),(13,vi i),(15,.slice (.id 66 4) ((Ap (dec++[(⟨plc x[i].ver,x[i]⟩:Cd)])).map Ak))],[(5,.ro (Ic x ifs)),(66,.tok 4 ((Ap (dec++[(⟨plc x[i].ver,x[i]⟩:Cd)])).map Ak).length),(18400,.tok 1 (y::ys).length)],Aa⟩ (Yi ⟨Z8,Z3,Fh,At (by kernel_rfl)⟩ ?_)
   refine Yi (Nz rfl) ?_;have FV:VC dec (n0::l) (⟨plc x[i].ver,x[i]⟩:Cd)=true:=GO.2 ⟨fun m hm=>by have q:=(OJ hNx (place x[i].ver)).1 kW m hm;rw[←hplc _ (Am n23)]at q;exact q,by have q:=kY;simpa using q⟩;have I2:(LP x roots n dec (n0::l) p) x[i]=(BS x roots n (dec++[(⟨plc x[i].ver,x[i]⟩:Cd)])):=by unfold LP Rf;rw[Ax ⟨RB,mU⟩,Ax FV]
   have Uk:=ihT (⟨plc x[i].ver,x[i]⟩:Cd) XV (y::ys) m sm PW;refine Xi (.gen [(18400,1000)] 0) (Yi rfl (Bo.imp Uk ?_));intro v40 g40 q40;have yf:=q40.1;have yg:=q40.2;subst yf;subst yg;refine Xi ⟨[(1,sl Al roots),(2,sl Ak (Ap dec)),(3,.slice (.id 18400 1) ((tk (y::ys) (BS x roots n (dec++[(⟨plc x[i].ver,x[i]⟩:Cd)])) m).map BI)),(4,vi (m:Nat)),(5,.ref 5 0),(11,vs p),(13,vi i)],[(5,.ro (Ic x ifs)),(18400,.tok 1 (tk (y::ys) (BS x roots n (dec++[(⟨plc x[i].ver,x[i]⟩:Cd)])) m).length)],Aa⟩ (Yi ⟨Z7,Z2,Fh,At (by kernel_rfl)⟩ ?_)
   refine Yi (Ii i (by omega)) ?_;refine Bb (mG y ys (BS x roots n (dec++[(⟨plc x[i].ver,x[i]⟩:Cd)])) m) (fun z hz=>Bb hz (fun zs hz=>?_));refine Xi ⟨(i+1,z::zs),n23,by rw[Pt n23,I2,aL (by rw[←i2];exact sm),←i2,hz]⟩ ?_;exact⟨Dl x.length i (by omega),⟨Zr,Zr,⟨(show AV.slice (.id 18400 1) ((tk (y::ys) (BS x roots n (dec++[(⟨plc x[i].ver,x[i]⟩:Cd)])) m).map BI)=kb (z::zs) by rw[hz];rfl),rfl⟩,Zr,Zr,Zr,Zr,Tv⟩,⟨Zr,⟨(show HO.tok 1 (tk (y::ys) (BS x roots n (dec++[(⟨plc x[i].ver,x[i]⟩:Cd)])) m).length=jX (z::zs) by rw[hz];rfl),rfl⟩,Tv⟩,Fh,At (by kernel_rfl)⟩
  have oo:¬((((y::ys).map BI).length:Int)<((m:Nat):Int)):=oo;have eo:(y::ys)=tk [] (BS x roots (n+1) dec) m:=i2.trans (by
   rw[UC,V0 _ x i,bQ (by rw[←i2];have q:=oo;rw[Lm]at q;omega) (AL _)])
  rw[←eo];exact Xi _ (Yi (.refl _) Zr)
 have Xa:¬((i:Int)<((x.map AY).length:Int)):=Xa;have n23:¬i<x.length:=by have q:=Xa;rw[Lm]at q;omega
 have eo:(y::ys)=tk [] (BS x roots (n+1) dec) m:=i2.trans (by
  rw[UC,show i=x.length by have q:=Xa;rw[Lm]at q;omega])
 rw[←eo];exact Xi _ (Yi (.refl _) Zr)
set_option maxHeartbeats 8000000 in
theorem tJ(x:List Rl)(ifs:List (List AV))(roots:List Rq)(dec:List Cd)(m:Nat)(F:List (List Sl))(hF:F.length<m)(hx:∀r∈x,Gj r)(hxf:CL x)(hrn:roots.length≤1000)(hdl:dec.length≤1000)(hneeds:EH x roots (Ap dec)=DH roots dec)(Vi:HT (DH roots dec) (Ap dec)=none)(MP:((Ap dec).map (·.path)).Nodup)(PW:m≤1024) :
  Bo Tryz.prog 32 [.agg (Ic x ifs),sl Al roots,sl Ak (Ap dec),.slice (.id 1000 1) (F.map BI),vi (m:Nat)] (Ag [(1000,.tok 1 F.length)] Aa) (fun r h'=>r=.slice (.id 1000 1) ((F++[Dp (Ap dec)]).map BI)∧h'=Ag [(1000,.tok 1 (F++[Dp (Ap dec)]).length)] Aa):=by
 have Lq:=tT x ifs roots (Ap dec) hx hxf (by omega) (by rw[Lm];omega);rw[hneeds]at Lq;unfold Pb at Lq;rw[Vi]at Lq;have oH:=s74 (Ap dec) (by unfold CL;rw[Lm];omega) MP;refine CH (MN ⟨[5,14],[],[],[],[],[],[],[],[],[],[2,4,6,7,8,9,10]⟩) [(1000,1000)] rfl CI hm rfl Tryz.func32 (by kernel_rfl) rfl (Nz rfl) (by kernel_rfl) rfl ?_;refine Yi (Nz rfl) ?_;refine Xi .pure (Xi _ (Yi Lq ?_));refine Xi ⟨[(1,sl Al roots),(2,sl Ak (Ap dec)),(3,.slice (.id 1000 1) (F.map BI)),(4,vi (m:Nat)),(5,.ref 5 0),(11,vs mt),(12,vb false)],[(5,.ro (Ic x ifs)),(1000,.tok 1 F.length)],Aa⟩ (Yi ⟨Z7,Z2,Fh,At (by kernel_rfl)⟩ ?_)
 refine Xi .pure (Xi _ (Yi oH ?_));have b1:BW 1 [[sl Ak (Dp (Ap dec))]]∧(F.map BI).length=F.length∧((F.map BI).length+([[sl Ak (Dp (Ap dec))]]:List (List AV)).length)*24≤140737488355328∧(F.map BI).length+([[sl Ak (Dp (Ap dec))]]:List (List AV)).length≤9223372036854775807:=⟨⟨rfl,trivial⟩,(by rw[Lm]),(by simp only[Lm,Aj,Ah];omega),(by simp only[Lm,Aj,Ah];omega)⟩;refine Yi b1 ?_;exact Xi _ (Yi (.refl _) (Yi (show AV.slice (.id 1000 1) (F.map BI++[BI (Dp (Ap dec))])=_ by rw[Az];rfl) (show Ag [(1000,HO.tok 1 ((F.map BI).length+([BI (Dp (Ap dec))]:List (List AV)).length))] Aa=_ by rw[Ad,Lm];rfl)))
set_option maxHeartbeats 8000000 in
theorem tH(x:List Rl)(ifs:List (List AV))(roots:List Rq)(dec:List Cd)(m:Nat)  (hx:∀r∈x,Gj r) (hxf:CL x) (hrn:roots.length≤1000) (hdl:dec.length≤1000) (hneeds:EH x roots (Ap dec)=DH roots dec) (Vi:HT (DH roots dec) (Ap dec)=none) (MP:((Ap dec).map (·.path)).Nodup) :
  Bo Tryz.prog 32 [.agg (Ic x ifs),sl Al roots,sl Ak (Ap dec),.v (.slice none 0 0),vi (m:Nat)] (Ag [] Aa) (RN [Dp (Ap dec)]):=by
 have Lq:=tT x ifs roots (Ap dec) hx hxf (by omega) (by rw[Lm];omega);rw[hneeds]at Lq;unfold Pb at Lq;rw[Vi]at Lq;have oH:=s74 (Ap dec) (by unfold CL;rw[Lm];omega) MP;refine CH (MN ⟨[5,14],[],[],[],[],[],[29],[],[],[],[2,4,6,7,8,9,10]⟩) [(18400,2000)] rfl CI hm rfl Tryz.func32 (by kernel_rfl) rfl (Nz rfl) (by kernel_rfl) rfl ?_;refine Xi 0 ?_;refine Xi 0 ?_;refine Yi (Nz rfl) ?_;refine Xi .pure (Xi _ (Yi Lq ?_));refine Xi ⟨[(1,sl Al roots),(2,sl Ak (Ap dec)),(3,.v (.slice none 0 0)),(4,vi (m:Nat)),(5,.ref 5 0),(11,vs mt),(12,vb false)],[(5,.ro (Ic x ifs))],Aa⟩ (Yi ⟨Z7,Z1,Fh,At (by kernel_rfl)⟩ ?_)
 refine Xi 0 ?_;refine Xi 18400 ?_;refine Xi .pure (Xi _ (Yi oH ?_));have b1:BW 1 [[sl Ak (Dp (Ap dec))]]∧([[sl Ak (Dp (Ap dec))]]:List (List AV)).length*24≤140737488355328∧([[sl Ak (Dp (Ap dec))]]:List (List AV)).length≤9223372036854775807:=⟨⟨rfl,trivial⟩,(by simp only[Aj,Ah];omega),(by simp only[Aj,Ah];omega)⟩;refine Yi b1 ?_;exact Xi _ (Yi (.refl _) (Zr))
end Go.Eng
