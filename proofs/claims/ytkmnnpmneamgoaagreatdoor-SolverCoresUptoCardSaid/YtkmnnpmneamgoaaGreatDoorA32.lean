/- Lemmas for the claims of this seat, without a condition: part 32 (S36, S28, S37). -/
import Derived.Test.YtkmnnpmneamgoaaGreatDoorA31
namespace Go.Eng
open Go.Proofs
theorem jG{F:List (List Sl)}{d:List Cd}{m:Nat}(h:F.length<m):tk F [d] m=F++[Dp (Ap d)]:=by
 unfold tk;rw[AC (by show 1≤m-F.length;omega)];rfl
theorem yL{x:List Rl}(ifs:List (List AV)){roots:List Rq}(h0:Ba x=0)(h1:Bn roots=0)(hx:∀r∈x,Gj r)(hr:∀q∈roots,H4 q) :
  ∀(n:Nat) {dec:List Cd},D6 x dec→E9 x dec<n→BT x ifs roots n dec∧BN x ifs roots n dec
 |0,_,_,h=>by omega
 |n+1,dec,hd,hn=>by
  have NY:=Ls h0;have hdl:=OG hd;have hxf:CL x:=by unfold CL;omega
  have hrn:=JJ h1;have MP:((Ap dec).map (·.path)).Nodup:=by rw[JD];exact hd.nodup
  cases hN:(DR roots dec).2 with
  |nil =>
   have I2:=TC (x:=x) (n:=n) hN;have Vi:=N8.1 hN;refine⟨fun F m hF PW=>?_,fun m br PW=>?_⟩
   ·have h:=tJ x ifs roots dec m F hF hx hxf (by omega) (by omega) (TN h0 hd) Vi MP PW;rw[I2,jG hF];exact h
   ·have h:=tH x ifs roots dec m hx hxf (by omega) (by omega) (TN h0 hd) Vi MP;rw[I2,jG (show([]:List (List Sl)).length<m from br)];exact h
  |cons n0 l =>
   have hNx:=Im hN;have I2:=ZY (x:=x) (n:=n) hN;have FV:=CQ h0;have hD:∀c∈Br x (DR roots dec).1,D6 x (dec++[c])∧E9 x (dec++[c])<n:=fun c hc=>by
    obtain⟨c1,c2⟩:=Hb hc;have hu:CR dec c.rel.path=false:=by rw[c1];exact hNx.undone
    have:=Ll (dec:=dec) ⟨c2.1,c2.2.1⟩ hu
    exact⟨hd.snoc c2 hu,by omega⟩
   have hL:uy x ifs roots n dec (DR roots dec).1 n0 l:={
    hE0:=h0
    hx:=hx
    hxf:=hxf
    hr:=hr
    hrn:=by omega
    hdl:=by omega
    hv:=fun r h=>(FV.1 r h).val
    hplc:=fun r h=>(FV.1 r h).plc
    hrl:=fun r h=>by have:=NY.2 r h;omega
    hneeds:=TN h0 hd
    hNx:=hNx
    hDec:=fun c hc=>(hD c hc).1
    hval:=fun c hc y hy=>by
     obtain⟨d,hd1,rfl⟩:=Ar.1 hy;exact(FV.1 _ ((hD c hc).1.cand d hd1).1).val
    ihT:=fun c hc=>(yL ifs h0 h1 hx hr n (hD c hc).1 (hD c hc).2).1
    ihN:=fun c hc=>(yL ifs h0 h1 hx hr n (hD c hc).1 (hD c hc).2).2 }
   exact⟨fun F m hF PW=>yN x ifs roots n dec _ n0 l m F hF hL I2 PW,fun m br PW=>yM x ifs roots n dec _ n0 l m br hL I2 PW⟩
def He(x:List Rl)(roots:List Rq)(m:Int):Int:=if Dc x roots=false∨m<0∨1024<m then 1 else 0
def H6(x:List Rl)(roots:List Rq)(m:Int):List (List Sl):=if He x roots m=0 then(Nh (BS x roots (x.length+1) [])).take m.toNat else []
theorem gl(x:List Rl):E9 x []<x.length+1:=Nat.lt_succ_of_le (Bp _ _)
set_option maxHeartbeats 4000000 in
theorem tG(x:List Rl)(ifs:List (List AV))(roots:List Rq)(hx:∀r∈x,Gj r)(hr:∀q∈roots,H4 q):PC 31 [.agg (Ic x ifs),sl Al roots] (vb (Dc x roots)):=by
 have h71:=zg x ifs hx;have h72:=zh gw kS roots hr;refine Ps ⟨[2],[],[],[],[],[],[],[],[],[],[]⟩ Tryz.func31 rfl (Nz rfl) ?_;refine Yi (Nz rfl) ?_;refine Xi .pure (Xi _ (Yi h71 ?_));refine Yi (fun h1=>?_) (fun h1=>?_)
 ·have h1:((Ba x):Int)=(0:Int):=h1;refine Xi .pure (Xi _ (Yi h72 ?_));refine Yi (fun h2=>?_) (fun h2=>?_)
  ·have h2:((Bn roots):Int)=(0:Int):=h2;exact .of_eq (show vb true=vb (Dc x roots) by unfold Dc;rw[Av h1];rw[Av h2];first | rfl | (rw[Ct]))
  have h2:¬(((Bn roots):Int)=(0:Int)):=h2;exact .of_eq (show vb false=vb (Dc x roots) by unfold Dc;rw[Av h1];rw[Au h2];first | rfl | (rw[Ct]))
 have h1:¬(((Ba x):Int)=(0:Int)):=h1;exact .of_eq (show vb false=vb (Dc x roots) by unfold Dc;rw[Au h1];first | rfl | (rw[Ct]))
set_option maxHeartbeats 4000000 in
theorem yH(x:List Rl)(ifs:List (List AV))(roots:List Rq)(m:Nat)(hx:∀r∈x,Gj r)(hr:∀q∈roots,H4 q):PC 11 [.agg (Ic x ifs),sl Al roots,vi ((m:Nat):Int)] (.tup [sl BI (H6 x roots ((m:Nat):Int)),vi (He x roots ((m:Nat):Int))]):=by
 have Uz:=tG x ifs roots hx hr;refine Ps ⟨[3],[],[],[],[],[],[],[],[],[],[2,3]⟩ Tryz.func11 rfl (Nz rfl) ?_;refine Yi (Nz rfl) ?_;refine BO (Bt (Dc x roots)) (fun h1=>?_) (fun h1=>?_)
 ·have h1:(Dc x roots)=true:=h1;have PT:=Uz;rw[show(Dc x roots)=true from h1]at PT;refine Xi .pure (Xi _ (Yi PT ?_));refine Yi (fun h3=>?_) (fun h3=>?_)
  ·have h3:(((m:Nat):Int):Int)<(0:Int):=h3;refine Xi ⟨[],[],Aa⟩ (Yi ⟨Tv,Tv,Fh,Tv⟩ ?_)
   have eE:He x roots m=1:=by unfold He;rw[Ax (.inr (.inl h3))]
   have eF:H6 x roots m=[]:=by unfold H6;rw[eE];rfl
   rw[eF,eE];exact .tup ⟨.nil,.refl _,trivial⟩
  have h3:¬((((m:Nat):Int):Int)<(0:Int)):=h3;refine Yi (fun h5=>?_) (fun h5=>?_)
  ·have h5:(1024:Int)<(((m:Nat):Int):Int):=h5;refine Xi ⟨[],[],Aa⟩ (Yi ⟨Tv,Tv,Fh,Tv⟩ ?_)
   have eE:He x roots m=1:=by unfold He;rw[Ax (.inr (.inr h5))]
   have eF:H6 x roots m=[]:=by unfold H6;rw[eE];rfl
   rw[eF,eE];exact .tup ⟨.nil,.refl _,trivial⟩
  have h5:¬((1024:Int)<(((m:Nat):Int):Int)):=h5;refine Xi ⟨[(1,sl Al roots),(2,vi ((m:Nat):Int)),(3,.ref 3 0)],[(3,.ro (Ic x ifs))],Aa⟩ (Yi ⟨Z3,Z1,Fh,Tv⟩ ?_)
  refine Yi (fun h7=>?_) (fun h7=>?_)
  ·have h7:(((m:Nat):Int):Int)=(0:Int):=h7;have em:m=0:=by have q:=h7;omega
   have eF:H6 x roots m=[]:=by unfold H6;rw[em];split<;>rfl
   have hval:Dc x roots=true:=h1;have eE:He x roots m=0:=by unfold He;rw[em,hval];rfl
   rw[eF,eE];exact .tup ⟨.nil,.refl _,trivial⟩
  have h7:¬((((m:Nat):Int):Int)=(0:Int)):=h7;refine Yi (Nz rfl) ?_;have hval:Dc x roots=true:=h1;have br:0<m:=by omega
  have PW:m≤1024:=by omega
  have Uk:=(yL ifs (K6 hval).1 (K6 hval).2 hx hr (x.length+1) (.nil x) (gl x)).2 m br PW;have eF:H6 x roots (m:Nat)=tk [] (BS x roots (x.length+1) []) m:=by unfold H6 He tk;rw[hval,Ax (by rw[Aq (by rintro(c | c | c);exact absurd c (by decide);omega;omega)]),AX];rfl
  have eE:He x roots (m:Nat)=0:=by unfold He;rw[hval,Aq (by rintro(c | c | c);exact absurd c (by decide);omega;omega)]
  refine BO (WQ (tk [] (BS x roots (x.length+1) []) m)) (fun hT=>?_) (fun hT=>?_)
  ·rw[hT]at Uk;refine Xi (.gen [] 1) (Yi rfl (Bo.imp Uk ?_));intro v9 g9 q9;have pC:=q9.1;have pD:=q9.2;subst pC;subst pD;rw[eF,eE,hT];exact .tup ⟨.nil,.refl _,trivial⟩
  refine Bb hT (fun z hT=>Bb hT (fun zs hT=>?_));rw[hT]at Uk;refine Xi (.gen [] 1) (Yi rfl (Bo.imp Uk ?_));intro v9 g9 q9;have pC:=q9.1;have pD:=q9.2;subst pC;subst pD;rw[eF,eE,hT];exact .refl _
 have h1:(Dc x roots)=false:=h1;have gE:=Uz;rw[show(Dc x roots)=false from h1]at gE;refine Xi .pure (Xi _ (Yi gE ?_));refine Xi ⟨[],[],Aa⟩ (Yi ⟨Tv,Tv,Fh,Tv⟩ ?_)
 have eE:He x roots m=1:=by unfold He;rw[Ax (.inl (by simpa using h1))]
 have eF:H6 x roots m=[]:=by unfold H6;rw[eE];rfl
 rw[eF,eE];exact .tup ⟨.nil,.refl _,trivial⟩
set_option maxHeartbeats 4000000 in
theorem yI(x:List Rl)(ifs:List (List AV))(roots:List Rq)(m:Int)(xf:m<0)(hx:∀r∈x,Gj r)(hr:∀q∈roots,H4 q):PC 11 [.agg (Ic x ifs),sl Al roots,vi m] (.tup [sl BI (H6 x roots m),vi (He x roots m)]):=by
 have Uz:=tG x ifs roots hx hr;refine Ps ⟨[3],[],[],[],[],[],[],[],[],[],[2,3]⟩ Tryz.func11 rfl (Nz rfl) ?_;refine Yi (Nz rfl) ?_;refine BO (Bt (Dc x roots)) (fun h1=>?_) (fun h1=>?_)
 ·have h1:(Dc x roots)=true:=h1;have PT:=Uz;rw[show(Dc x roots)=true from h1]at PT;refine Xi .pure (Xi _ (Yi PT ?_));refine Yi (fun h3=>?_) (fun h3=>?_)
  ·have h3:(m:Int)<(0:Int):=h3;refine Xi ⟨[],[],Aa⟩ (Yi ⟨Tv,Tv,Fh,Tv⟩ ?_)
   have eE:He x roots m=1:=by unfold He;rw[Ax (.inr (.inl h3))]
   have eF:H6 x roots m=[]:=by unfold H6;rw[eE];rfl
   rw[eF,eE];exact .tup ⟨.nil,.refl _,trivial⟩
  have h3:¬((m:Int)<(0:Int)):=h3;exact absurd xf h3
 have h1:(Dc x roots)=false:=h1;have gI:=Uz;rw[show(Dc x roots)=false from h1]at gI;refine Xi .pure (Xi _ (Yi gI ?_));refine Xi ⟨[],[],Aa⟩ (Yi ⟨Tv,Tv,Fh,Tv⟩ ?_)
 have eE:He x roots m=1:=by unfold He;rw[Ax (.inl (by simpa using h1))]
 have eF:H6 x roots m=[]:=by unfold H6;rw[eE];rfl
 rw[eF,eE];exact .tup ⟨.nil,.refl _,trivial⟩
theorem s11(x:List Rl)(ifs:List (List AV))(roots:List Rq)(m:Int)(hx:∀r∈x,Gj r)(hr:∀q∈roots,H4 q):PC 11 [L6 x ifs,sl Al roots,vi m] (.tup [sl BI (H6 x roots m),vi (He x roots m)]):=by
 by_cases h:m<0
 ·exact yI x ifs roots m h hx hr
 ·obtain⟨k,rfl⟩:=Int.eq_ofNat_of_zero_le (show 0≤m by omega);exact yH x ifs roots k hx hr
def RF(x:List Rl)(roots:List Rq):List Sl:=(H6 x roots 1).headD []
def JL(x:List Rl)(roots:List Rq):Int:=if He x roots 1≠0 then He x roots 1 else if H6 x roots 1=[]then 17 else 0
theorem jx{x:List Rl}{roots:List Rq}{e:Int}(he:He x roots 1=e)(h:e≠0):GI (.tup [.v (.slice none 0 0),vi e]) (.tup [sl Ak (RF x roots),vi (JL x roots)]):=by
 have h1:RF x roots=[]:=by unfold RF H6;rw[he,Aq h];rfl
 have h2:JL x roots=e:=by unfold JL;rw[he,Ax h]
 rw[h1,h2];exact .tup ⟨.nil,.refl _,trivial⟩
theorem mD{x:List Rl}{roots:List Rq}(he:He x roots 1=0)(h:H6 x roots 1=[]):GI (.tup [.v (.slice none 0 0),vi 17]) (.tup [sl Ak (RF x roots),vi (JL x roots)]):=by
 have h1:RF x roots=[]:=by unfold RF;rw[h];rfl
 have h2:JL x roots=17:=by unfold JL;rw[he,Aq (fun h=>h rfl),Ax h]
 rw[h1,h2];exact .tup ⟨.nil,.refl _,trivial⟩
theorem mE{x:List Rl}{roots:List Rq}{y:List Sl}{ys:List (List Sl)}(he:He x roots 1=0)(h:H6 x roots 1=y::ys):GI (.tup [sl Ak y,vi 0]) (.tup [sl Ak (RF x roots),vi (JL x roots)]):=by
 have h1:RF x roots=y:=by unfold RF;rw[h];rfl
 have h2:JL x roots=0:=by unfold JL;rw[he,h,Aq (fun h=>h rfl),Aq (fun h=>by cases h)]
 rw[h1,h2];exact .refl _
set_option maxHeartbeats 4000000 in
theorem yP(x:List Rl)(ifs:List (List AV))(roots:List Rq)(e:Int)(he:He x roots 1=e)(hF:H6 x roots 1=([]:List (List Sl)))(K8:PC 11 [L6 x ifs,sl Al roots,vi 1] (.tup [sl BI ([]:List (List Sl)),vi e])):PC 37 [.agg (Ic x ifs),sl Al roots] (.tup [sl Ak (RF x roots),vi (JL x roots)]):=by
 refine Ps ⟨[2],[],[],[],[],[],[],[],[],[],[2,5,6]⟩ Tryz.func37 rfl (Nz rfl) ?_;refine Yi (Nz rfl) ?_;refine Xi .pure (Xi _ (Yi K8 ?_));refine Xi ⟨[(6,sl BI ([]:List (List Sl))),(7,vi (e:Int))],[],Aa⟩ (Yi ⟨Z2,Tv,Fh,Tv⟩ ?_)
 refine Yi (fun h1=>?_) (fun h1=>?_)
 ·have h1:((e:Int):Int)≠(0:Int):=h1;exact jx he h1
 have h1:((e:Int):Int)=(0:Int):=Ch h1;refine Yi (fun h3=>?_) (fun h3=>?_)
 ·have h3:((([]:List (List Sl)).map BI).length:Int)=(0:Int):=h3;refine Xi ⟨[],[],Aa⟩ (Yi ⟨Tv,Tv,Fh,Tv⟩ ?_)
  exact mD (he.trans (by have q:=h1;simpa using q)) hF
 have h3:¬(((([]:List (List Sl)).map BI).length:Int)=(0:Int)):=h3;exact absurd rfl h3
set_option maxHeartbeats 4000000 in
theorem yO(x:List Rl)(ifs:List (List AV))(roots:List Rq)(e:Int)(y:List Sl)(ys:List (List Sl))(he:He x roots 1=e)(hF:H6 x roots 1=(y::ys))(K8:PC 11 [L6 x ifs,sl Al roots,vi 1] (.tup [sl BI (y::ys),vi e])):PC 37 [.agg (Ic x ifs),sl Al roots] (.tup [sl Ak (RF x roots),vi (JL x roots)]):=by
 refine Ps ⟨[2],[],[],[],[],[],[],[],[],[],[2,5,6]⟩ Tryz.func37 rfl (Nz rfl) ?_;refine Yi (Nz rfl) ?_;refine Xi .pure (Xi _ (Yi K8 ?_));refine Xi ⟨[(6,sl BI (y::ys)),(7,vi (e:Int))],[],Aa⟩ (Yi ⟨Z2,Tv,Fh,Tv⟩ ?_)
 refine Yi (fun h1=>?_) (fun h1=>?_)
 ·have h1:((e:Int):Int)≠(0:Int):=h1;exact jx he h1
 have h1:((e:Int):Int)=(0:Int):=Ch h1;refine Yi (fun h3=>?_) (fun h3=>?_)
 ·have h3:(((y::ys).map BI).length:Int)=(0:Int):=h3;refine Xi ⟨[],[],Aa⟩ (Yi ⟨Tv,Tv,Fh,Tv⟩ ?_)
  exact absurd h3 (by rw[Lm,Aj];omega)
 have h3:¬((((y::ys).map BI).length:Int)=(0:Int)):=h3;refine Xi ⟨[(6,sl BI (y::ys))],[],Aa⟩ (Yi ⟨Z1,Tv,Fh,Tv⟩ ?_)
 refine Xi [sl Ak y] (Yi (Yi (BF 0) rfl) (Yi rfl ?_));exact mE (he.trans (by have q:=h1;simpa using q)) hF
theorem s37(x:List Rl)(ifs:List (List AV))(roots:List Rq)(hx:∀r∈x,Gj r)(hr:∀q∈roots,H4 q):PC 37 [L6 x ifs,sl Al roots] (.tup [sl Ak (RF x roots),vi (JL x roots)]):=by
 have h:=s11 x ifs roots 1 hx hr;obtain⟨e,he⟩:∃e,e=He x roots 1:=⟨_,rfl⟩;rcases WQ (H6 x roots 1)with hF | ⟨y,ys,hF⟩
 ·rw[hF,←he]at h;exact yP x ifs roots e he.symm hF h
 ·rw[hF,←he]at h;exact yO x ifs roots e y ys he.symm hF h
set_option maxHeartbeats 4000000 in
theorem s38(P:List Rq)(j:Nat)(nj:j<P.length)(hn:P.length≤1000000):PC 38 [sl Al P,vi (j:Nat)] (sl Al (P.take j++P.drop (j+1))):=by
 have hPl:(P.map Al).length=P.length:=Lm _;have wa:(((P.map Al).take ((j:Nat):Int).toNat).drop (0:Int).toNat)=(P.take j).map Al:=by rw[AX];simp
 have wb:(((P.map Al).take (((P.map Al).length:Nat):Int).toNat).drop ((j:Int)+1).toNat)=(P.drop (j+1)).map Al:=by rw[AX,CN,show((j:Int)+1).toNat=j+1 by omega];simp
 have l1:(((P.map Al).take ((j:Nat):Int).toNat).drop (0:Int).toNat).length≤1000000:=by rw[wa,Lm,AG];omega
 have l2:(((P.map Al).take (((P.map Al).length:Nat):Int).toNat).drop ((j:Int)+1).toNat).length≤1000000:=by rw[wb,Lm,B4];omega
 have l3:=l2;rw[hPl]at l3;refine Ps ⟨[],[],[],[],[],[],[],[],[],[],[]⟩ Tryz.func38 rfl (Nz rfl) ?_;refine Yi ⟨BF _,by show(0:Int)≤(j:Nat);omega,by show((j:Nat):Int)≤((P.map Al).length:Nat);omega⟩ (Yi (fun cs hcs=>by obtain⟨q,_,rfl⟩:=Ar.1 hcs;rfl) ?_);have b1:BW 2 (((P.map Al).take ((j:Nat):Int).toNat).drop (0:Int).toNat)∧([]:List (List AV)).length=0∧(([]:List (List AV)).length+((((P.map Al).take ((j:Nat):Int).toNat).drop (0:Int).toNat):List (List AV)).length)*40≤140737488355328∧([]:List (List AV)).length+((((P.map Al).take ((j:Nat):Int).toNat).drop (0:Int).toNat):List (List AV)).length≤9223372036854775807:=⟨(by rw[wa];exact Du (enc:=Al) (n:=2) (fun _=>rfl) _),(by first | (simp;done) | (rw[Lm];assumption)),(by simp only[Ah];omega),(by simp only[Ah];omega)⟩
 refine Yi b1 ?_;refine Yi (by show A9 (((j:Nat):Int)+(1:Int));unfold A9;omega) ?_;refine Yi ⟨by show(0:Int)≤(j:Int)+1;omega,by show(j:Int)+1≤((P.map Al).length:Nat);omega,BF _⟩ (Yi (fun cs hcs=>by obtain⟨q,_,rfl⟩:=Ar.1 hcs;rfl) ?_);have b2:BW 2 (((P.map Al).take (((P.map Al).length:Nat):Int).toNat).drop ((j:Int)+1).toNat)∧(([]++(((P.map Al).take ((j:Nat):Int).toNat).drop (0:Int).toNat)):List (List AV)).length=(([]:List (List AV)).length+((((P.map Al).take ((j:Nat):Int).toNat).drop (0:Int).toNat):List (List AV)).length)∧((([]++(((P.map Al).take ((j:Nat):Int).toNat).drop (0:Int).toNat)):List (List AV)).length+((((P.map Al).take (((P.map Al).length:Nat):Int).toNat).drop ((j:Int)+1).toNat):List (List AV)).length)*40≤140737488355328∧(([]++(((P.map Al).take ((j:Nat):Int).toNat).drop (0:Int).toNat)):List (List AV)).length+((((P.map Al).take (((P.map Al).length:Nat):Int).toNat).drop ((j:Int)+1).toNat):List (List AV)).length≤9223372036854775807:=⟨(by rw[wb];exact Du (enc:=Al) (n:=2) (fun _=>rfl) _),(by first | (simp;done) | (rw[Lm];assumption)),(by simp only[Ad,Lm,Ah];omega),(by simp only[Ad,Lm,Ah];omega)⟩
 refine Yi b2 ?_;refine Yi (by kernel_rfl) ?_;show GI (.slice .none (([]++(((P.map Al).take ((j:Nat):Int).toNat).drop (0:Int).toNat))++(((P.map Al).take (((P.map Al).length:Nat):Int).toNat).drop ((j:Int)+1).toNat))) _;exact .of_eq (by rw[wa,wb,DL,←Az])
end Go.Eng

namespace Go.Eng
open Go.Proofs
theorem s15(l m:List Int)(hl:CL l):PC 15 [sl B8 l,sl B8 m] (vb (decide (l=m))):=by
 refine Ps EP Tryz.func15 rfl (Nz rfl) ?_;refine Yi ?_ ?_
 ·intro h;have h:¬((l.map B8).length:Int)=(m.map B8).length:=h
  have:l≠m:=fun e=>h (by rw[e])
  rw[Au this];exact .refl _
 ·intro h;have h:¬((l.map B8).length:Int)≠(m.map B8).length:=h;have CW:l.length=m.length:=by simp at h;omega
  refine Xi {i:Nat // i≤l.length∧l.take i=m.take i} (Xi (fun i=>⟨[(0,sl B8 l),(1,sl B8 m),(12,vi (l.map B8).length),(13,vi i.1)],[],Aa⟩) (Xi (fun i=>l.length-i.1) (Yi (Xi ⟨0,by simp⟩ ?_) ?_)))
  ·exact⟨Z4,Tv,Fh,Tv⟩
  ·intro⟨i,h1,h2⟩;refine Yi ?_ ?_
   ·intro h;have h:(i:Int)<(l.map B8).length:=h;have h:i<l.length:=by simpa using h
    have h' : i<m.length:=by omega
    have hg:l[i]?=some l[i]:=Ge h;have X2 : m[i]?=some m[i]:=Ge h';refine Xi (B8 l[i]) (Yi (Yi (Nn i) (by simp[hg])) (Yi rfl ?_));refine Xi (B8 m[i]) (Yi (Yi (Nn i) (by simp[X2])) (Yi rfl ?_));refine Yi ?_ ?_
    ·intro h5;refine Yi (by kernel_rfl) ?_;have h5:(l[i]:Int)≠(m[i]:Int):=h5
     have:l≠m:=fun e=>h5 (by subst e;rfl)
     rw[Au this];exact .refl _
    ·intro h5;have h5:¬(l[i]:Int)≠(m[i]:Int):=h5;have e:l[i]=m[i]:=by have:=BR.1 h5;omega
     refine Yi (by kernel_rfl) ?_;refine Yi (by show A9 ((i:Int)+1);unfold CL at hl;unfold A9;omega) ?_;refine Xi ⟨i+1,by omega,?_⟩ ?_
     ·rw[Bd,Bd,h2,hg,X2,e]
     ·exact⟨Dl l.length i (by omega),Z4,Tv,Fh,Tv⟩
   ·intro h;have h:¬(i:Int)<(l.map B8).length:=h;have h:¬i<l.length:=by simpa using h
    have e:l=m:=by
     rw[←AC (l:=l) (i:=i) (by omega),h2,AC (by omega)]
    rw[Av e];exact .refl _

abbrev pa:ByteArray:=⟨#[97,47,118,49]⟩
abbrev pb:ByteArray:=⟨#[98,47,118,49]⟩
abbrev pc:ByteArray:=⟨#[99,47,118,49]⟩
abbrev kd(m:Int):Ver:=⟨1,m,0⟩
abbrev aD(p:ByteArray)(m:Int)(q:List Rq):Rl:=⟨p,kd m,q,mt,mt,mt,false⟩
abbrev bV:List Rl:=[aD pa 0 [⟨pb,[(0,1)]⟩],aD pa 1 [⟨pb,[(1000,1000000)]⟩],aD pb 0 [],aD pb 1 []]
abbrev JI:Rq:=⟨pa,[(0,1000000)]⟩
abbrev Lz:Rq:=⟨pb,[(1000,1000000)]⟩
abbrev jk:Rq:=⟨pc,[(0,1000000)]⟩
abbrev RG:List Sl:=[⟨pa,kd 1⟩,⟨pb,kd 1⟩]
theorem aY:∀r∈bV,Gj r:=by
 refine DG.2 ⟨⟨by decide,by decide⟩,DG.2 ⟨⟨by decide,by decide⟩,DG.2 ⟨⟨by decide,by decide⟩,DG.2 ⟨⟨by decide,by decide⟩,No _⟩⟩⟩⟩
abbrev jm(p:ByteArray)(b:Int):List AV:=[vs p,vi 1,vi b,vi 0,sT,vs mt,vs mt,vs mt,vb false]
abbrev jP:List AV:=[.slice .none [AY (aD pa 0 [⟨pb,[(0,1)]⟩]),AY (aD pa 1 [⟨pb,[(1000,1000000)]⟩]),jm pb 0,jm pb 1],sT]
theorem Se:GI (.agg jP) (L6 bV []) :=
 have h (p:ByteArray) (b:Int):Na (jm p b) (AY (aD p b [])):=⟨.refl _,.refl _,.refl _,.refl _,.nil,.refl _,.refl _,.refl _,.refl _,trivial⟩
 GI.agg ⟨GI.slice ⟨.refl _,.refl _,h pb 0,h pb 1,trivial⟩,.nil,trivial⟩
theorem tD(m:Int):PC 24 [vi m] (.agg [vi 1,vi m,vi 0]):=by
 refine Ps ⟨[],[],[],[],[],[],[],[],[],[],[]⟩ Tryz.func24 rfl (Nz rfl) ?_;refine Yi (Nz rfl) ?_;refine Yi (Nz rfl) ?_;exact .refl _
set_option maxHeartbeats 4000000 in
theorem s8  : PC 8 [] (vb true):=by
 have hq:∀q∈[JI,Lz,jk],H4 q:=DG.2 ⟨⟨by decide,by decide⟩,DG.2 ⟨⟨by decide,by decide⟩,DG.2 ⟨⟨by decide,by decide⟩,No _⟩⟩⟩;have hqa:∀q∈[JI],H4 q:=fun q h=>hq q (by simp at h;subst h;simp);have zY:∀q∈[JI,Lz],H4 q:=fun q h=>hq q (by simp at h;rcases h with rfl | rfl<;>simp)
 obtain⟨A,hA⟩:∃A,A=EO bV [JI,Lz]:=⟨_,rfl⟩;have a1:A.found=true:=by rw[hA];kernel_rfl
 have a2:A.sel=RG:=by rw[hA];kernel_rfl
 have a3:A.skips.length=1:=by rw[hA];kernel_rfl
 have a4:Et bV [JI,Lz]=0:=by kernel_rfl
 have om:=ut bV [] [JI,Lz] aY zY;have om:=om.args (args':=[.agg jP,sl Al [JI,Lz]]) ⟨Se,.refl _,trivial⟩;unfold aH at om;rw[←hA,a4,show Jw A=[vb A.found,sl Ak A.sel,sl BQ A.infs,sl BE A.skips]from rfl,a1,a2]at om;have a5:Gs bV [JI,Lz]=0:=by unfold Gs;rw[a4,←hA,a1];rfl
 have a6:jt bV [JI,Lz]=RG:=by unfold jt;rw[a5,←hA,a2];rfl
 have tX:=s16 bV [] [JI,Lz] aY zY;rw[a5,a6]at tX;have tX:=tX.args (args':=[.agg jP,sl Al [JI,Lz]]) ⟨Se,.refl _,trivial⟩;have bj:=pI bV [] [JI] 9 aY hqa (by kernel_rfl) (by decide) (by decide) (Gf (by kernel_rfl));obtain⟨L,hL⟩:∃L,L=Nh (BS bV [JI] (bV.length+1) []):=⟨_,rfl⟩;have wA:L.length=2:=by rw[hL];kernel_rfl
 rw[←hL]at bj;have bj:=bj.args (args':=[.agg jP,sl Al [JI],vi 9]) ⟨Se,.refl _,.refl _,trivial⟩;have Uy:=s13 bV [] [JI,Lz,jk] aY hq (by decide);rw[show G5 bV [JI,Lz,jk]=0 by kernel_rfl,show Nq bV [JI,Lz,jk]=[2] by kernel_rfl]at Uy;have Uy:=Uy.args (args':=[.agg jP,sl Al [JI,Lz,jk]]) ⟨Se,.refl _,trivial⟩;have zt:=c27 RG RG (by decide);rw[Av rfl]at zt;have RM:=s15 [2] [2] (by decide);rw[Av rfl]at RM;generalize A.infs=F at om;generalize A.skips=K at om a3;have hLi:((L.map BI).length:Int)=2:=by rw[Lm,wA];rfl
 have hKi:((K.map BE).length:Int)=1:=by rw[Lm,a3];rfl
 refine Ps ⟨[],[],[],[],[],[],[],[],[(65,3)],[],[2,3,4,5,6,7,8,9]⟩ Tryz.func8 rfl (Nz rfl) ?_;refine Xi ⟨[(1,.v (.func (.func 24) #[] #[]))],[],Aa⟩ (Yi ⟨Z1,Tv,Fh,Tv⟩ ?_)
 refine Xi .pure (Xi _ (Yi (tD 0) ?_));refine Xi .pure (Xi _ (Yi (tD 1) ?_));refine Xi .pure (Xi _ (Yi (tD 0) ?_));refine Xi .pure (Xi _ (Yi (tD 1) ?_));refine Yi (Nz rfl) ?_;refine Xi ⟨[(1,.v (.func (.func 24) #[] #[])),(2,.ref 2 0)],[(2,.cells [.slice (.id 33 9) [[vs ⟨#[97,47,118,49]⟩,vi 1,vi 0,vi 0,.slice .none [[vs ⟨#[98,47,118,49]⟩,.slice .none [[vi 0,vi 1]]]],vs ⟨#[]⟩,vs ⟨#[]⟩,vs ⟨#[]⟩,vb false],[vs ⟨#[97,47,118,49]⟩,vi 1,vi 1,vi 0,.slice .none [[vs ⟨#[98,47,118,49]⟩,.slice .none [[vi 1000,vi 1000000]]]],vs ⟨#[]⟩,vs ⟨#[]⟩,vs ⟨#[]⟩,vb false],[vs ⟨#[98,47,118,49]⟩,vi 1,vi 0,vi 0,.v (.slice none 0 0),vs ⟨#[]⟩,vs ⟨#[]⟩,vs ⟨#[]⟩,vb false],[vs ⟨#[98,47,118,49]⟩,vi 1,vi 1,vi 0,.v (.slice none 0 0),vs ⟨#[]⟩,vs ⟨#[]⟩,vs ⟨#[]⟩,vb false]],.v (.slice none 0 0)]),(33,.tok 9 4)],Aa⟩ (Yi ⟨Z2,Z2,Fh,Tv⟩ ?_)
 refine Xi ⟨[(1,.v (.func (.func 24) #[] #[])),(2,.ref 2 0),(3,.slice (.id 36 2) [[vi 0,vi 1000000]])],[(2,.cells [.slice (.id 33 9) [[vs ⟨#[97,47,118,49]⟩,vi 1,vi 0,vi 0,.slice .none [[vs ⟨#[98,47,118,49]⟩,.slice .none [[vi 0,vi 1]]]],vs ⟨#[]⟩,vs ⟨#[]⟩,vs ⟨#[]⟩,vb false],[vs ⟨#[97,47,118,49]⟩,vi 1,vi 1,vi 0,.slice .none [[vs ⟨#[98,47,118,49]⟩,.slice .none [[vi 1000,vi 1000000]]]],vs ⟨#[]⟩,vs ⟨#[]⟩,vs ⟨#[]⟩,vb false],[vs ⟨#[98,47,118,49]⟩,vi 1,vi 0,vi 0,.v (.slice none 0 0),vs ⟨#[]⟩,vs ⟨#[]⟩,vs ⟨#[]⟩,vb false],[vs ⟨#[98,47,118,49]⟩,vi 1,vi 1,vi 0,.v (.slice none 0 0),vs ⟨#[]⟩,vs ⟨#[]⟩,vs ⟨#[]⟩,vb false]],.v (.slice none 0 0)]),(33,.tok 9 4),(36,.tok 2 1)],Aa⟩ (Yi ⟨Z3,Z3,Fh,Tv⟩ ?_)
 refine Xi ⟨[(1,.v (.func (.func 24) #[] #[])),(2,.ref 2 0),(3,.slice (.id 36 2) [[vi 0,vi 1000000]]),(4,.slice (.id 42 2) [[vs ⟨#[97,47,118,49]⟩,.slice .none [[vi 0,vi 1000000]]],[vs ⟨#[98,47,118,49]⟩,.slice .none [[vi 1000,vi 1000000]]]])],[(2,.cells [.slice (.id 33 9) [[vs ⟨#[97,47,118,49]⟩,vi 1,vi 0,vi 0,.slice .none [[vs ⟨#[98,47,118,49]⟩,.slice .none [[vi 0,vi 1]]]],vs ⟨#[]⟩,vs ⟨#[]⟩,vs ⟨#[]⟩,vb false],[vs ⟨#[97,47,118,49]⟩,vi 1,vi 1,vi 0,.slice .none [[vs ⟨#[98,47,118,49]⟩,.slice .none [[vi 1000,vi 1000000]]]],vs ⟨#[]⟩,vs ⟨#[]⟩,vs ⟨#[]⟩,vb false],[vs ⟨#[98,47,118,49]⟩,vi 1,vi 0,vi 0,.v (.slice none 0 0),vs ⟨#[]⟩,vs ⟨#[]⟩,vs ⟨#[]⟩,vb false],[vs ⟨#[98,47,118,49]⟩,vi 1,vi 1,vi 0,.v (.slice none 0 0),vs ⟨#[]⟩,vs ⟨#[]⟩,vs ⟨#[]⟩,vb false]],.v (.slice none 0 0)]),(33,.tok 9 4),(36,.tok 2 1),(42,.tok 2 2)],Aa⟩ (Yi ⟨Z4,Z4,Fh,Tv⟩ ?_)
 refine Yi (Nz rfl) ?_;refine Xi .pure (Xi _ (Yi om ?_));refine Yi (Nz rfl) ?_;refine Xi ⟨[(1,.v (.func (.func 24) #[] #[])),(2,.ref 2 0),(3,.slice (.id 36 2) [[vi 0,vi 1000000]]),(4,.slice (.id 42 2) [[vs ⟨#[97,47,118,49]⟩,.slice .none [[vi 0,vi 1000000]]],[vs ⟨#[98,47,118,49]⟩,.slice .none [[vi 1000,vi 1000000]]]]),(5,.ref 5 0),(6,vi 0)],[(2,.cells [.slice (.id 33 9) [[vs ⟨#[97,47,118,49]⟩,vi 1,vi 0,vi 0,.slice .none [[vs ⟨#[98,47,118,49]⟩,.slice .none [[vi 0,vi 1]]]],vs ⟨#[]⟩,vs ⟨#[]⟩,vs ⟨#[]⟩,vb false],[vs ⟨#[97,47,118,49]⟩,vi 1,vi 1,vi 0,.slice .none [[vs ⟨#[98,47,118,49]⟩,.slice .none [[vi 1000,vi 1000000]]]],vs ⟨#[]⟩,vs ⟨#[]⟩,vs ⟨#[]⟩,vb false],[vs ⟨#[98,47,118,49]⟩,vi 1,vi 0,vi 0,.v (.slice none 0 0),vs ⟨#[]⟩,vs ⟨#[]⟩,vs ⟨#[]⟩,vb false],[vs ⟨#[98,47,118,49]⟩,vi 1,vi 1,vi 0,.v (.slice none 0 0),vs ⟨#[]⟩,vs ⟨#[]⟩,vs ⟨#[]⟩,vb false]],.v (.slice none 0 0)]),(5,.cells [vb true,sl Ak RG,sl BQ F,sl BE K]),(33,.tok 9 4),(36,.tok 2 1),(42,.tok 2 2)],Aa⟩ (Yi ⟨Z6,Z5,Fh,Tv⟩ ?_)
 refine Yi (Nz rfl) ?_;refine Yi ⟨BF _,by decide,by decide⟩ (Yi (DG.2 ⟨rfl,DG.2 ⟨rfl,No _⟩⟩) ?_);refine Xi _ (Yi bj ?_);refine Yi (by kernel_rfl) ?_;refine Xi ⟨[(1,.v (.func (.func 24) #[] #[])),(2,.ref 2 0),(3,.slice (.id 36 2) [[vi 0,vi 1000000]]),(4,.slice (.id 42 2) [[vs ⟨#[97,47,118,49]⟩,.slice .none [[vi 0,vi 1000000]]],[vs ⟨#[98,47,118,49]⟩,.slice .none [[vi 1000,vi 1000000]]]]),(5,.ref 5 0),(6,vi 0),(7,sl BI L),(8,vi 0)],[(2,.cells [.slice (.id 33 9) [[vs ⟨#[97,47,118,49]⟩,vi 1,vi 0,vi 0,.slice .none [[vs ⟨#[98,47,118,49]⟩,.slice .none [[vi 0,vi 1]]]],vs ⟨#[]⟩,vs ⟨#[]⟩,vs ⟨#[]⟩,vb false],[vs ⟨#[97,47,118,49]⟩,vi 1,vi 1,vi 0,.slice .none [[vs ⟨#[98,47,118,49]⟩,.slice .none [[vi 1000,vi 1000000]]]],vs ⟨#[]⟩,vs ⟨#[]⟩,vs ⟨#[]⟩,vb false],[vs ⟨#[98,47,118,49]⟩,vi 1,vi 0,vi 0,.v (.slice none 0 0),vs ⟨#[]⟩,vs ⟨#[]⟩,vs ⟨#[]⟩,vb false],[vs ⟨#[98,47,118,49]⟩,vi 1,vi 1,vi 0,.v (.slice none 0 0),vs ⟨#[]⟩,vs ⟨#[]⟩,vs ⟨#[]⟩,vb false]],.v (.slice none 0 0)]),(5,.cells [vb true,sl Ak RG,sl BQ F,sl BE K]),(33,.tok 9 4),(36,.tok 2 1),(42,.tok 2 2)],Aa⟩ (Yi ⟨Z8,Z5,Fh,Tv⟩ ?_)
 refine Yi (Nz rfl) ?_;refine Xi .pure (Xi _ (Yi tX ?_));refine Xi ⟨[(1,.v (.func (.func 24) #[] #[])),(2,.ref 2 0),(3,.slice (.id 36 2) [[vi 0,vi 1000000]]),(4,.slice (.id 42 2) [[vs ⟨#[97,47,118,49]⟩,.slice .none [[vi 0,vi 1000000]]],[vs ⟨#[98,47,118,49]⟩,.slice .none [[vi 1000,vi 1000000]]]]),(5,.ref 5 0),(6,vi 0),(7,sl BI L),(8,vi 0),(9,sl Ak RG),(10,vi 0)],[(2,.cells [.slice (.id 33 9) [[vs ⟨#[97,47,118,49]⟩,vi 1,vi 0,vi 0,.slice .none [[vs ⟨#[98,47,118,49]⟩,.slice .none [[vi 0,vi 1]]]],vs ⟨#[]⟩,vs ⟨#[]⟩,vs ⟨#[]⟩,vb false],[vs ⟨#[97,47,118,49]⟩,vi 1,vi 1,vi 0,.slice .none [[vs ⟨#[98,47,118,49]⟩,.slice .none [[vi 1000,vi 1000000]]]],vs ⟨#[]⟩,vs ⟨#[]⟩,vs ⟨#[]⟩,vb false],[vs ⟨#[98,47,118,49]⟩,vi 1,vi 0,vi 0,.v (.slice none 0 0),vs ⟨#[]⟩,vs ⟨#[]⟩,vs ⟨#[]⟩,vb false],[vs ⟨#[98,47,118,49]⟩,vi 1,vi 1,vi 0,.v (.slice none 0 0),vs ⟨#[]⟩,vs ⟨#[]⟩,vs ⟨#[]⟩,vb false]],.v (.slice none 0 0)]),(5,.cells [vb true,sl Ak RG,sl BQ F,sl BE K]),(33,.tok 9 4),(36,.tok 2 1),(42,.tok 2 2)],Aa⟩ (Yi ⟨Z10,Z5,Fh,Tv⟩ ?_)
 refine Yi (Nz rfl) ?_;refine Xi _ (Xi _ (Yi (by kernel_rfl) (Yi (vY [JI,Lz] (by decide)) ?_)));have b1:BW 2 [[vs ⟨#[99,47,118,49]⟩,.slice .none [[vi 0,vi 1000000]]]]∧([JI,Lz].map Al).length=([JI,Lz].map Al).length∧(([JI,Lz].map Al).length+([[vs ⟨#[99,47,118,49]⟩,.slice .none [[vi 0,vi 1000000]]]]:List (List AV)).length)*40≤140737488355328∧([JI,Lz].map Al).length+([[vs ⟨#[99,47,118,49]⟩,.slice .none [[vi 0,vi 1000000]]]]:List (List AV)).length≤9223372036854775807:=⟨⟨rfl,trivial⟩,rfl,(by simp only[Lm,Aj,Ah];omega),(by simp only[Lm,Aj,Ah];omega)⟩;refine Yi b1 ?_;refine Xi _ (Yi Uy ?_);refine Yi (by kernel_rfl) ?_;refine Xi ⟨[(1,.v (.func (.func 24) #[] #[])),(5,.ref 5 0),(6,vi 0),(7,sl BI L),(8,vi 0),(9,sl Ak RG),(10,vi 0),(11,sl B8 [2]),(12,vi 0)],[(5,.cells [vb true,sl Ak RG,sl BQ F,sl BE K])],Aa⟩ (Yi ⟨Z9,Z1,Fh,Tv⟩ ?_)
 refine Yi (fun _=>?_) (fun h=>absurd (by decide) h);refine Yi (fun _=>?_) (fun h=>absurd h (by decide));refine Yi (fun h2=>?_) (fun h2=>?_)
 ·have h2:((K.map BE).length:Int)=(1:Int):=h2;refine Xi _ (Yi zt ?_);refine Yi (fun _=>?_) (fun h=>absurd (by decide) h);refine Yi (fun h3=>?_) (fun h3=>?_)
  ·have h3:((L.map BI).length:Int)=(2:Int):=h3;refine Yi (fun _=>?_) (fun h=>absurd (by decide) h);refine Yi (fun h4=>?_) (fun h4=>?_)
   ·have h4:((RG.map Ak).length:Int)=(2:Int):=h4;refine Xi (Ak (⟨pa,kd 1⟩:Sl)) (Yi ⟨by decide,rfl⟩ (Yi rfl ?_));refine Yi (Nz rfl) ?_;refine Xi _ (Yi (tD 1) ?_);refine Yi (fun h5=>?_) (fun h5=>?_)
    ·have h5:((⟨pa,kd 1⟩:Sl).ver.a:Int)=1∧((⟨pa,kd 1⟩:Sl).ver.b:Int)=1∧((⟨pa,kd 1⟩:Sl).ver.c:Int)=0∧True:=h5;refine Yi (fun _=>?_) (fun h=>absurd (by decide) h);refine Xi _ (Yi RM ?_);refine Yi (by kernel_rfl) ?_;exact .refl _
    have h5:¬(((⟨pa,kd 1⟩:Sl).ver.a:Int)=1∧((⟨pa,kd 1⟩:Sl).ver.b:Int)=1∧((⟨pa,kd 1⟩:Sl).ver.c:Int)=0∧True):=h5;refine Yi (by kernel_rfl) ?_;exact absurd (⟨rfl,rfl,rfl,trivial⟩) h5
   have h4:¬(((RG.map Ak).length:Int)=(2:Int)):=h4;refine Yi (by kernel_rfl) ?_;exact absurd rfl h4
  have h3:¬(((L.map BI).length:Int)=(2:Int)):=h3;refine Yi (by kernel_rfl) ?_;exact absurd hLi h3
 have h2:¬(((K.map BE).length:Int)=(1:Int)):=h2;refine Yi (by kernel_rfl) ?_;exact absurd hKi h2
end Go.Eng

namespace Go.Eng
open Go.Proofs
section
variable {x:List Rl}{roots:List Rq}
theorem lM{L:List (List Cd)}:(Nh L).take 1=[]↔L=[]:=by cases L<;>simp[Nh]
theorem WK(hv:Dc x roots=true)(hx:x.length≤16):BS x roots (x.length+1) []≠[]↔Sj x roots:=by
 obtain⟨h0,h1⟩:=K6 hv;constructor
 ·intro h;cases hl:BS x roots (x.length+1) []with
  |nil=>exact absurd hl h
  |cons d L =>
   have hm:d∈BS x roots (x.length+1) []:=by rw[hl];exact Ab ..
   exact⟨_,(MW (.nil x) (.nil roots) _ hm).sol h0⟩
 ·intro h e;have hf:=(Vf hv hx).2 h;have hR:=Qz h0 h1;rw[VO hv hx]at hf;unfold fo at hf
  by_cases Ui:(Fc x roots).found=true
  ·obtain⟨_,t,sl,y2,y3,y4,y5⟩:=hR.yes Ui;have hm:=List.mem_of_head? y5;rw[e]at hm;cases hm
  ·rw[Aq Ui]at hf;cases hf
theorem YV(hx:x.length≤16):JL x roots=Gs x roots:=by
 cases hv:Dc x roots with
 |false =>
  have h1:He x roots 1=1:=by unfold He;rw[hv,Ax (.inl rfl)]
  have h2:Et x roots=1:=by unfold Et;rw[hv];rfl
  unfold JL Gs;rw[h1,h2];rfl
 |true =>
  have h1:He x roots 1=0:=by unfold He;rw[hv,Aq (by decide)]
  have hF:H6 x roots 1=[]↔¬Sj x roots:=by
   unfold H6;rw[h1,Ax rfl,show(1:Int).toNat=1 from rfl,lM,←WK hv hx,BR]
  have hS:=mA (roots:=roots) hv hx;unfold JL;rw[h1,Aq (fun h=>h rfl)]
  by_cases h:H6 x roots 1=[]
  ·rw[Ax h,hS.2.2 (hF.1 h)]
  ·rw[Aq h,hS.1.2 (BR.1 fun c=>h (hF.2 c))]
theorem cy:G5 x roots=8↔Gs x roots=0:=by
 unfold G5 Gs
 by_cases h1:Et x roots=0
 ·rw[h1]
  by_cases h2:(EO x roots).found=true<;>simp[h2]
 ·simp only[h1,Ri,KU,L5,iff_false];intro e;unfold Et at e;split at e
  ·split at e<;>cases e
  ·cases e
theorem W2:Gs x roots=17↔Et x roots=0∧(EO x roots).found=false:=by
 unfold Gs
 by_cases h1:Et x roots=0
 ·rw[h1]
  by_cases h2:(EO x roots).found=true<;>simp[h2]
 ·simp only[h1,Ri,KU,L5,false_and,iff_false];intro e;unfold Et at e;split at e
  ·split at e<;>cases e
  ·cases e
theorem kK(h:Gs x roots=17):G5 x roots=0:=by
 obtain⟨a,b⟩:=W2.1 h;unfold G5;rw[a,Aq (fun h=>h rfl),Aq (by rw[b];decide)]
theorem Zt(h0:Gs x roots≠0)(h1:Gs x roots≠17):G5 x roots=Gs x roots:=by
 have h:Et x roots≠0:=fun e=>by
  cases hf:(EO x roots).found with
  |true=>exact h0 (by unfold Gs;rw[e,Aq (fun h=>h rfl),Ax hf])
  |false=>exact h1 (W2.2 ⟨e,hf⟩)
 unfold G5 Gs;rw[Ax h,Ax h]
def preI(i:Nat):List Int:=(List.range i).map fun k:Nat=>(k:Int)
theorem Qo(i:Nat):preI (i+1)=preI i++[(i:Int)]:=by unfold preI;rw[List.range_succ,Az];rfl
theorem mi(n:Nat):PX n n=preI n:=A8 fun _ hk=>Ax (Iw.1 hk)
theorem jf(i:Nat)(h:i≤roots.length):Cz roots (preI i)=roots.take i:=by
 induction i with
 |zero=>rw[List.take_zero];rfl
 |succ i ih =>
  rw[Qo,Qm,ih (by omega),CO (by omega)];unfold Cz;rw[List.filterMap_cons,AX,Ge (by omega)];rfl
theorem iv{i:Nat}{o:List Int}(ho:∀z∈o,(i+1:Nat)≤z):Ce (preI (i+1)++o) i=preI i++o:=by
 unfold Ce;rw[Qo,D0,D0];have h1:(preI i).filter (fun z=>!decide (z=(i:Int)))=preI i:=List.filter_eq_self.2 fun z hz=>by
  obtain⟨k,hk,rfl⟩:=Ar.1 hz
  have:=Iw.1 hk
  simp only[Cy,FJ];omega
 have h2:o.filter (fun z=>!decide (z=(i:Int)))=o:=List.filter_eq_self.2 fun z hz=>by
  have:=ho z hz
  simp only[Cy,FJ];omega
 rw[h1,h2,G0 (by simp)];simp
structure G2(x:List Rl)(roots:List Rq)(i:Nat)(o:List Int):Prop where
 rng:∀z∈o,(i:Int)≤z
 len:i+o.length≤roots.length
 go:Ih x roots i (preI i++o)=Mf x roots
theorem G2.start(x:List Rl)(roots:List Rq):G2 x roots roots.length []:=⟨(fun _ h=>by cases h),Ao _,by unfold Mf;rw[mi,CV]⟩
theorem G2.step{i:Nat}{o:List Int}(h:G2 x roots (i+1) o):Ih x roots i (if Gs x (roots.take i++Cz roots o)=17 then preI i++o else preI (i+1)++o)=Mf x roots:=by
 rw[←h.go];show _=Ih x roots i (E7 x roots _ _);unfold E7;rw[iv h.rng,Qm,jf i (by have:=h.len;omega)]
 by_cases hs:Gs x (roots.take i++Cz roots o)=17
 ·rw[Ax hs,Ax (W2.1 hs)]
 ·rw[Aq hs,Aq (fun c=>hs (W2.2 c))]
theorem G2.drop{i:Nat}{o:List Int}(h:G2 x roots (i+1) o)(hs:Gs x (roots.take i++Cz roots o)=17):G2 x roots i o :=
 ⟨fun z hz=>by have:=h.rng z hz;omega,by have:=h.len;omega,by rw[←h.step,Ax hs]⟩
theorem G2.keep{i:Nat}{o:List Int}(h:G2 x roots (i+1) o)(hs:Gs x (roots.take i++Cz roots o)≠17):G2 x roots i ([(i:Int)]++o) :=
 ⟨fun z hz=>by
  rcases A4.1 hz with hz | hz
  ·rw[As]at hz;omega
  ·have:=h.rng z hz;omega,by have:=h.len;rw[Ad,AB];omega,by rw[←h.step,Aq hs,Qo,BH]⟩
theorem kM{i:Nat}{o:List Int}(h:i<roots.length):(roots.take (i+1)++Cz roots o).take i++(roots.take (i+1)++Cz roots o).drop (i+1)=roots.take i++Cz roots o:=by
 have e:(roots.take (i+1)).length=i+1:=by rw[AG];omega
 rw[Eg (by omega),KA,M8 (by omega),List.drop_append_of_le_length (by omega),Kw (by omega),DL]
theorem io{i:Nat}{o:List Int}(h:i<roots.length):roots.take (i+1)++Cz roots o=roots.take i++Cz roots ([(i:Int)]++o):=by
 rw[CO h,BH,Qm];unfold Cz;rw[List.filterMap_cons,AX,Ge h];rfl
theorem mh{i:Nat}(h:0<i):i-1+1=i:=by omega
theorem G2.drop'{i:Nat}{o:List Int}(hi:0<i)(h:G2 x roots i o)(hs:Gs x (roots.take (i-1)++Cz roots o)=17):G2 x roots (i-1) o :=
 G2.drop (by rw[mh hi];exact h) hs
theorem G2.keep'{i:Nat}{o:List Int}(hi:0<i)(h:G2 x roots i o)(hs:Gs x (roots.take (i-1)++Cz roots o)≠17):G2 x roots (i-1) ([(i:Int)-1]++o):=by
 have:=G2.keep (i:=i-1) (by rw[mh hi];exact h) hs
 rw[show((i-1:Nat):Int)=(i:Int)-1 by omega]at this;exact this
theorem fT{i:Nat}{o:List Int}(hi:0<i)(h:i≤roots.length):(roots.take i++Cz roots o).take (i-1)++(roots.take i++Cz roots o).drop (i-1+1)=roots.take (i-1)++Cz roots o:=by
 have:=kM (roots:=roots) (i:=i-1) (o:=o) (by omega)
 rw[mh hi]at this⊢;exact this
theorem dn{i:Nat}{o:List Int}(hi:0<i)(h:i≤roots.length):roots.take i++Cz roots o=roots.take (i-1)++Cz roots ([(i:Int)-1]++o):=by
 have:=io (roots:=roots) (i:=i-1) (o:=o) (by omega)
 rw[mh hi,show((i-1:Nat):Int)=(i:Int)-1 by omega]at this;exact this
end
set_option maxHeartbeats 4000000 in
theorem s14(x:List Rl)(ifs:List (List AV))(roots:List Rq)(hx:∀r∈x,Gj r)(hr:∀q∈roots,H4 q)(NY:x.length≤16)(hrl:roots.length≤1000000):PC 14 [.agg (Ic x ifs),sl Al roots] (.tup [sl B8 (Nq x roots),vi (G5 x roots)]):=by
 have zu:=s37 x ifs roots hx hr;rw[YV NY]at zu;refine Ps ⟨[2],[(8,0),(9,0)],[],[],[],[],[],[],[],[],[2,5,6,8,10,12]⟩ Tryz.func14 rfl (Nz rfl) ?_;refine Yi (Nz rfl) ?_;refine Xi .pure (Xi _ (Yi zu ?_));refine Xi ⟨[(1,sl Al roots),(2,.ref 2 0),(7,vi (Gs x roots))],[(2,.ro (Ic x ifs))],Aa⟩ (Yi ⟨Z3,Z1,Fh,Tv⟩ ?_)
 refine Yi (fun h1=>?_) (fun h1=>?_)
 ·have h1:((Gs x roots):Int)=(0:Int):=h1;exact Wk (cy.2 h1) (by decide)
 have h1:¬(((Gs x roots):Int)=(0:Int)):=h1;refine Yi (fun h3=>?_) (fun h3=>?_)
 ·have h3:((Gs x roots):Int)≠(17:Int):=h3;refine Xi ⟨[(7,vi (Gs x roots))],[],Aa⟩ (Yi ⟨Z1,Tv,Fh,Tv⟩ ?_)
  exact Wk (Zt h1 h3) h1
 have h3:((Gs x roots):Int)=(17:Int):=Ch h3;refine Xi ⟨[(1,sl Al roots),(2,.ref 2 0)],[(2,.ro (Ic x ifs))],Aa⟩ (Yi ⟨Z2,Z1,Fh,Tv⟩ ?_)
 have b5:BW 2 (roots.map Al)∧([]:List (List AV)).length=0∧(([]:List (List AV)).length+(roots.map Al).length)*40≤140737488355328∧([]:List (List AV)).length+(roots.map Al).length≤9223372036854775807:=⟨(Du (enc:=Al) (n:=2) (fun _=>rfl) roots),(by first | (simp;done) | (rw[Lm];assumption)),(by simp only[Lm,Ah];omega),(by simp only[Lm,Ah];omega)⟩
 refine Yi b5 ?_;refine Xi ⟨[(1,sl Al roots),(2,.ref 2 0),(8,.slice .none ([]++(roots.map Al))),(9,.slice .none [])],[(2,.ro (Ic x ifs))],Aa⟩ (Yi ⟨Z4,Z1,Fh,Tv⟩ ?_)
 refine Yi (by show A9 (((roots.map Al).length:Int)-(1:Int));unfold A9;omega) ?_;refine Xi {q:Nat×List Int // G2 x roots q.1 q.2} (Xi (fun q=>⟨[(2,.ref 2 0),(8,sl Al (roots.take q.1.1++Cz roots q.1.2)),(9,sl B8 q.1.2),(10,vi ((q.1.1:Int)-1))],[(2,.ro (Ic x ifs))],Aa⟩) (Xi (fun q=>q.1.1) (Yi (Xi ⟨(roots.length,[]),G2.start x roots⟩ ?_) ?_)))
 ·exact⟨⟨Zr,⟨(show AV.slice .none ([]++roots.map Al)=sl Al (roots.take roots.length++Cz roots []) by rw[DL,CN];unfold Cz;rw[List.filterMap_nil,CV]),rfl⟩,Zr,⟨(show vi (((roots.map Al).length:Int)-1)=vi ((roots.length:Int)-1) by rw[Lm]),rfl⟩,Tv⟩,Z1,Fh,Tv⟩
 intro⟨⟨i,o⟩,k1⟩;have k1:G2 x roots i o:=k1;have ol:i+o.length≤roots.length:=k1.len;refine Yi (fun h6=>?_) (fun h6=>?_)
 ·have h6:(0:Int)≤(((i:Int)-1):Int):=h6;refine Yi (Nz rfl) ?_;have eZ:0<i:=by omega
  have qe:i≤roots.length:=by have:=k1.len;omega
  have e10:((i-1:Nat):Int)=(i:Int)-1:=by omega
  have hKl:(roots.take i++Cz roots o).length≤roots.length:=by have a:=VD roots o;have b:=k1.len;rw[Ad,AG];omega
  have wk:=s38 (roots.take i++Cz roots o) (i-1) (by rw[Ad,AG];omega) (by omega);rw[fT eZ qe,e10]at wk;refine Xi _ (Yi wk ?_);have hrK:∀q∈(roots.take (i-1)++Cz roots o),H4 q:=fun q hq=>hr q ((A4.1 hq).elim D1 VE);have rn:=s37 x ifs (roots.take (i-1)++Cz roots o) hx hrK;rw[YV NY]at rn;refine Xi _ (Yi rn ?_);refine Yi (by kernel_rfl) ?_;refine Xi ⟨[(2,.ref 2 0),(8,sl Al (roots.take i++Cz roots o)),(9,sl B8 o),(10,vi ((i:Int)-1)),(12,vi (Gs x (roots.take (i-1)++Cz roots o)))],[(2,.ro (Ic x ifs))],Aa⟩ (Yi ⟨Z5,Z1,Fh,Tv⟩ ?_)
  refine Yi (fun h7=>?_) (fun h7=>?_)
  ·have h7:((Gs x (roots.take (i-1)++Cz roots o)):Int)=(17:Int):=h7;refine Xi .pure (Xi _ (Yi wk ?_));refine Xi ⟨[(2,.ref 2 0),(8,sl Al (roots.take (i-1)++Cz roots o)),(9,sl B8 o),(10,vi ((i:Int)-1))],[(2,.ro (Ic x ifs))],Aa⟩ (Yi ⟨Z4,Z1,Fh,Tv⟩ ?_)
   refine Yi (by show A9 ((((i:Int)-1):Int)-(1:Int));unfold A9;omega) ?_;refine Xi ⟨(i-1,o),k1.drop' eZ h7⟩ ?_;exact⟨by show(i-1:Nat)<i;omega,⟨Zr,Zr,Zr,⟨(show vi ((i:Int)-1-1)=vi (((i-1:Nat):Int)-1)from Ac vi (by omega)),rfl⟩,Tv⟩,Z1,Fh,Tv⟩
  have h7:¬(((Gs x (roots.take (i-1)++Cz roots o)):Int)=(17:Int)):=h7;have b9:BW 1 (o.map B8)∧([[vi ((i:Int)-1)]]:List (List AV)).length=1∧(([[vi ((i:Int)-1)]]:List (List AV)).length+(o.map B8).length)*8≤140737488355328∧([[vi ((i:Int)-1)]]:List (List AV)).length+(o.map B8).length≤9223372036854775807:=⟨(Du (enc:=B8) (n:=1) (fun _=>rfl) o),(by first | (simp;done) | (rw[Lm];assumption)),(by simp only[Lm,Aj,Ah];omega),(by simp only[Lm,Aj,Ah];omega)⟩
  refine Yi b9 ?_;refine Xi ⟨[(2,.ref 2 0),(8,sl Al (roots.take i++Cz roots o)),(9,.slice .none ([[vi ((i:Int)-1)]]++(o.map B8))),(10,vi ((i:Int)-1))],[(2,.ro (Ic x ifs))],Aa⟩ (Yi ⟨Z4,Z1,Fh,Tv⟩ ?_)
  refine Yi (by show A9 ((((i:Int)-1):Int)-(1:Int));unfold A9;omega) ?_;refine Xi ⟨(i-1,[(i:Int)-1]++o),k1.keep' eZ h7⟩ ?_;exact⟨by show(i-1:Nat)<i;omega,⟨Zr,⟨(show sl Al (roots.take i++Cz roots o)=sl Al (roots.take (i-1)++Cz roots ([(i:Int)-1]++o))from Ac (fun z=>sl Al z) (dn eZ qe)),rfl⟩,Zr,⟨(show vi ((i:Int)-1-1)=vi (((i-1:Nat):Int)-1)from Ac vi (by omega)),rfl⟩,Tv⟩,Z1,Fh,Tv⟩
 have h6:¬((0:Int)≤(((i:Int)-1):Int)):=h6;have hi:i=0:=by have q:=h6;omega
 subst hi;exact mR (kK h3) k1.go
theorem SK{x:List Rl}{roots:List Rq}:∀{i:Nat} {kept:List Int},(Ih x roots i kept).length≤kept.length
 |0,_=>Ao _
 |i+1,kept=>by
  refine Bw (SK (i:=i)) ?_;unfold E7;split
  ·exact Bp _ _
  ·exact Ao _
theorem cw{x:List Rl}{roots:List Rq}:(Nq x roots).length≤roots.length:=by
 unfold Nq;split
 ·have:=SK (x:=x) (roots:=roots) (i:=roots.length) (kept:=PX roots.length roots.length)
  rw[RR]at this;exact this
 ·exact AL _
theorem aG{x:List Rl}{roots:List Rq}(h:(Gm x 16&&EZ roots)=true):x.length≤16:=by
 simp only[Af,Gm,AD]at h;exact h.1.2
set_option maxHeartbeats 4000000 in
theorem tL(x:List Rl)(ifs:List (List AV))(roots:List Rq)(hL:pV x roots):PC 4 [L6 x ifs,sl Al roots] (vb true):=by
 have hx:=hL.x;have hr:=hL.rq;have h8:=s8;have h9:=hL.c11 ifs;obtain⟨c,hc⟩:∃c,c=Nq x roots:=⟨_,rfl⟩;obtain⟨ce,zF⟩:∃ce,ce=G5 x roots:=⟨_,rfl⟩;refine Ps ⟨[2],[],[],[],[],[],[],[],[],[],[4,5,6,7]⟩ Tryz.func4 rfl (Nz rfl) ?_;refine Xi .pure (Xi _ (Yi h8 ?_));refine Yi (Nz rfl) ?_;refine BO (Bt (Gm x 16&&EZ roots)) (fun h1=>?_) (fun h1=>?_)
 ·have h1:(Gm x 16&&EZ roots)=true:=h1;have PT:=h9;rw[show(Gm x 16&&EZ roots)=true from h1]at PT;refine Xi .pure (Xi _ (Yi PT ?_));refine Xi ⟨[(1,sl Al roots),(2,.ref 2 0)],[(2,.ro (Ic x ifs))],Aa⟩ (Yi ⟨Z2,Z1,Fh,Tv⟩ ?_)
  refine Yi (Nz rfl) ?_;have ZR:=h1;have NY:x.length≤16:=aG ZR;have hrl:=cE ZR;have Uy:=s13 x ifs roots hx hr (by omega);rw[←hc,←zF]at Uy;have hcl:c.length≤roots.length:=by rw[hc];exact cw
  refine Xi .pure (Xi _ (Yi Uy ?_));refine Xi ⟨[(1,sl Al roots),(2,.ref 2 0),(5,sl B8 c),(6,vi (ce:Int))],[(2,.ro (Ic x ifs))],Aa⟩ (Yi ⟨Z4,Z1,Fh,Tv⟩ ?_)
  refine Yi (Nz rfl) ?_;have Vh:=s14 x ifs roots hx hr NY (by omega);rw[←hc,←zF]at Vh;refine Xi .pure (Xi _ (Yi Vh ?_));refine Xi ⟨[(5,sl B8 c),(6,vi (ce:Int)),(7,sl B8 c),(8,vi (ce:Int))],[],Aa⟩ (Yi ⟨Z4,Tv,Fh,Tv⟩ ?_)
  have RM:PC 15 [sl B8 c,sl B8 c] (vb true):=by have q:=s15 c c (by unfold CL;omega);rw[Av rfl]at q;exact q
  refine Xi .pure (Xi _ (Yi RM ?_));refine Yi (fun h3=>?_) (fun h3=>?_)
  ·have h3:((ce:Int):Int)=((ce:Int):Int):=h3;exact .refl _
  have h3:¬(((ce:Int):Int)=((ce:Int):Int)):=h3;exact absurd rfl h3
 have h1:(Gm x 16&&EZ roots)=false:=h1;have gJ:=h9;rw[show(Gm x 16&&EZ roots)=false from h1]at gJ;refine Xi .pure (Xi _ (Yi gJ ?_));refine Xi ⟨[],[],Aa⟩ (Yi ⟨Tv,Tv,Fh,Tv⟩ ?_)
 exact .refl _
end Go.Eng
