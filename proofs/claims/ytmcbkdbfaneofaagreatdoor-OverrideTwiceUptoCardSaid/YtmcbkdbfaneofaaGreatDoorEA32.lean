/- Lemmas for the claims of this seat, without a condition: part 32 (O21, O20, O22, O23). -/
import Derived.Test.YtmcbkdbfaneofaaGreatDoorEA31
set_option maxHeartbeats 4000000
namespace Go.Eng
theorem Ok:∀{l:List Rl} {b:Option Rl},Dw b l=0→∀r∈l,Dv r=0
 | [],_,_,r,hr=>by cases hr
 |x::l,b,h,r,hr=>by
  unfold Dw at h;split at h
  ·rename_i h1;exact absurd h h1
  ·rename_i h1;have h1:Dv x=0:=BT.1 h1;have go:Dw (some x) l=0:=by
    cases b with
    |none=>exact h
    |some b =>
     dsimp only at h;split at h
     ·cases h
     ·split at h
      ·cases h
      ·exact h
   rcases Aq.1 hr with rfl | hr
   ·exact h1
   ·exact Ok go r hr
theorem Oj:∀{l:List Rl} {b:Option Rl},(∀r∈l,Dv r=0)→l.Pairwise RC→(∀c,b=some c→∀r∈l,RC c r)→Dw b l=0
 | [],_,_,_,_=>rfl
 |x::l,b,h,hp,hb=>by
  obtain⟨p1,p2⟩:=BI.1 hp;have ih:Dw (some x) l=0:=Oj (fun r hr=>h r (Ae _ hr)) p2 (fun c e r hr=>by cases e;exact p1 r hr);unfold Dw;rw[Ah (fun q=>q (h x (Aa ..)))];cases b with
  |none=>exact ih
  |some c =>
   have hl:=hb c rfl x (Aa ..);dsimp only;rw[Ah (fun q=>Jl hl q),Ah (fun q=>by
    have:Gr (EU c) (EU x)<0:=Xd.2 hl
    have q:0<Gr (EU c) (EU x):=q;omega)]
   exact ih
theorem LU{l:List Rl}:A4 l=0↔l.length≤256∧(∀r∈l,Dv r=0)∧l.Pairwise RC:=by
 constructor
 ·intro h;refine⟨QG h,?_,(Cg h).2⟩;unfold A4 at h;split at h
  ·cases h
  ·exact Ok h
 ·rintro⟨h1,h2,h3⟩
  unfold A4;rw[Ah (by omega)];exact Oj h2 h3 (fun c e=>by cases e)
/-! What is merged. -/
section
variable {a b:Wk}
end
/-! What a workspace makes of an index. -/
theorem YK{x:List Rl}{w:Wk}(h:(DQ x w).2≠0):(DQ x w).1=[]:=by
 unfold DQ at h⊢;split
 ·rfl
 ·split
  ·rfl
  ·split
   ·rfl
   ·rename_i h1 h2 h3;rw[Ah h1,Ah h2,Ah h3]at h;cases e:HE w.pin (kept (GX w) (AX B5 x w.rep))with
    |none=>rfl
    |some B=>rw[e]at h;exact absurd rfl h
def Yw(w:Wk)(r:Rl):Option Rl:=if GX w r=true then none else Jq w.pin r
theorem Wu(w:Wk):∀l:List Rl,ry w l=l.filterMap (Yw w)
 | []=>rfl
 |r::l=>by
  have ih:=Wu w l;unfold ry kept at ih⊢;rw[DK,M4];unfold Yw;cases e:GX w r with
  |true=>simp only[Bool.not_true,Cw,Fc,Kw];exact ih
  |false =>
   simp only[Bool.not_false,Kw,Cw,Fc,M4];cases Jq w.pin r with
   |none=>exact ih
   |some z=>exact Ac (z :: ·) ih
structure Pw(x:List Rl)(w:Wk)(y:List Rl):Prop where
 hx:A4 x=0
 hw:CQ w=0
 len:¬256<((AX B5 x w.rep).length:Int)
 pins:∀s∈w.pin,s∈(kept (GX w) (AX B5 x w.rep)).map EU
 out:y=(AX B5 x w.rep).filterMap (Yw w)
theorem Td{w:Wk}{A:List Rl}(h:A.Pairwise RC):((kept (GX w) A).map EU).Nodup:=I3 n8 (List.Pairwise.filter _ h)
theorem W4{x:List Rl}{w:Wk}(h:(DQ x w).2=0):Pw x w (DQ x w).1:=by
 unfold DQ at h⊢;split at h
 ·cases h
 ·rename_i h1;split at h
  ·rename_i h2;exact absurd h h2
  ·rename_i h2;split at h
   ·cases h
   ·rename_i h3;rw[Ah h1,Ah h2,Ah h3];have h1:=BT.1 h1;have h2:=BT.1 h2;have hp:=Ww (pins:=w.pin) (B:=kept (GX w) (AX B5 x w.rep)) (I3 rv (Kb h2)) (Td (Lh h1 h2))
    by_cases q:∀s∈w.pin,s∈(kept (GX w) (AX B5 x w.rep)).map EU
    ·rw[Aw q]at hp;rw[hp];exact⟨h1,h2,h3,q,Wu w _⟩
    ·rw[Ah q]at hp;rw[hp]at h;cases h
theorem UE{x:List Rl}{w:Wk}{y:List Rl}(h:Pw x w y):DQ x w=(y,0):=by
 rw[RV h.hx h.hw rfl h.len rfl,Ww (I3 rv (Kb h.hw)) (Td (Lh h.hx h.hw)),Aw h.pins,h.out,←Wu]
 rfl
theorem Pp{w:Wk}{r r' : Rl}(h:Yw w r=some r'):EU r'=EU r:=by
 unfold Yw at h;split at h
 ·cases h
 ·exact Yo h
theorem oG{w:Wk}{r r' : Rl}(h:Yw w r=some r'):r'=r∨r'={ r with yanked:=false }:=by
 unfold Yw at h;split at h
 ·cases h
 ·unfold Jq at h;split at h
  ·cases h;exact .inl rfl
  ·split at h
   ·cases h;exact .inr rfl
   ·cases h
theorem VC{w:Wk}{r r' : Rl}(h:Yw w r=some r'):Yw w r'=some r':=by
 have hk:=Pp h;unfold Yw at h⊢;split at h
 ·cases h
 ·rename_i he;have e1:GX w r'=GX w r:=by unfold GX;rw[hk]
  rw[Ah (by rw[e1];exact he)];have hp:r'.path=r.path:=Ac Sl.path hk;unfold Jq at h⊢;rw[hp];split at h
  ·rename_i e;rfl
  ·rename_i p e;split at h
   ·rename_i e2;cases h;dsimp only;rw[Aw (show p=EU { r with yanked:=false }from e2)]
   ·cases h
theorem Nb{f:Rl→Option Rl}(hf:∀r r',f r=some r'→EU r'=EU r){A:List Rl}(h:A.Pairwise RC):(A.filterMap f).Pairwise RC:=by
 rw[List.pairwise_filterMap];refine h.imp fun {a b} je a' ha b' hb=>?_;have h1:=hf a a' ha;have h2:=hf b b' hb;show nV (EU a') (EU b');rw[h1,h2];exact je
theorem Pw.inc{x:List Rl}{w:Wk}{y:List Rl}(h:Pw x w y):y.Pairwise RC:=by
 rw[h.out];exact Nb (fun _ _=>Pp) (Lh h.hx h.hw)
theorem Pw.src{x:List Rl}{w:Wk}{y:List Rl}(h:Pw x w y){r:Rl}(hr:r∈y):∃r0∈AX B5 x w.rep,Yw w r0=some r:=by
 rw[h.out]at hr;exact Hg.1 hr
theorem Pw.check{x:List Rl}{w:Wk}{y:List Rl}(h:Pw x w y):A4 y=0:=by
 have i1:=LU.1 h.hx;have i2:=LU.1 (Io h.hw).1;have hl:=h.len;refine LU.2 ⟨?_,fun r hr=>?_,h.inc⟩
 ·rw[h.out];exact AU (List.length_filterMap_le ..) (by omega)
 ·obtain⟨r0,Yz,hg⟩:=h.src hr
  have:Dv r0=0:=(H7 Yz).elim (i1.2.1 r0) (i2.2.1 r0)
  rcases oG hg with rfl | rfl
  ·exact this
  ·exact this
theorem Pw.mem_iff{x:List Rl}{w:Wk}{y:List Rl}(h:Pw x w y)(r:Rl):r∈AX B5 x w.rep↔r∈w.rep∨(r∈x∧∀s∈w.rep,EU r≠EU s) :=
 Tq n8 (Cg h.hx).2 (Cg (Io h.hw).1).2 r
theorem Pw.again{x:List Rl}{w:Wk}{y:List Rl}(h:Pw x w y):Pw y w y:=by
 have D4:w.rep.Pairwise RC:=(Cg (Io h.hw).1).2;have mi:=fun r=>Tq n8 h.inc D4 r;have sf : (AX B5 y w.rep).Pairwise RC:=Tr n8 h.inc D4;have hA:=Lh h.hx h.hw;have names:∀r∈AX B5 y w.rep,EU r∈(AX B5 x w.rep).map EU:=fun r hr=>by
  rcases(mi r).1 hr with q | ⟨q,_⟩
  ·exact List.mem_map_of_mem ((h.mem_iff r).2 (.inl q))
  ·obtain⟨r0,Yz,hg⟩:=h.src q;rw[Pp hg];exact List.mem_map_of_mem Yz
 have Zk:y=(AX B5 y w.rep).filterMap (Yw w):=by
  refine aC n8 h.inc (Nb (fun _ _=>Pp) sf) fun r=>?_;rw[Hg];constructor
  ·intro hr;obtain⟨r1,cp,hg⟩:=h.src hr;rcases(h.mem_iff r1).1 cp with q | ⟨_,q⟩
   ·exact⟨r1,(mi r1).2 (.inl q),hg⟩
   ·exact⟨r,(mi r).2 (.inr ⟨hr,fun s hs e=>q s hs ((Pp hg).symm.trans e)⟩),VC hg⟩
  ·rintro⟨r0,Yz,hg⟩
   rcases(mi r0).1 Yz with q | ⟨q,_⟩
   ·rw[h.out,Hg];exact⟨r0,(h.mem_iff r0).2 (.inl q),hg⟩
   ·obtain⟨r1,_,SP⟩:=h.src q
    have:=VC SP
    rw[hg]at this;cases this;exact q
 refine⟨h.check,h.hw,?_,fun s hs=>?_,Zk⟩
 ·have:=PX (l:=(AX B5 y w.rep).map EU) (m:=(AX B5 x w.rep).map EU) (I3 n8 sf) (fun s hs=>by
   obtain⟨r,hr,rfl⟩:=Ak.1 hs;exact names r hr)
  rw[Lm,Lm]at this;have hl:=h.len;omega
 ·obtain⟨r0,Yz,e0⟩:=Ak.1 (h.pins s hs);have qN:=Bo.1 Yz;have hex:GX w r0=false:=by simpa using qN.2
  have hz:Yw w r0=some { r0 with yanked:=false }:=by
   unfold Yw;rw[Ah (by rw[hex];decide)];unfold Jq;rw[show r0.path=s.path from Ac Sl.path e0,dp (I3 rv (Kb h.hw)) hs];dsimp only;rw[Aw e0.symm]
  have hy:({ r0 with yanked:=false }:Rl)∈y:=by
   rw[h.out,Hg];exact⟨r0,qN.1,hz⟩
  have key:∃r∈AX B5 y w.rep,EU r=s:=by
   by_cases q:∃s'∈w.rep,EU s'=s
   ·obtain⟨s',h1,h2⟩:=q;exact⟨s',(mi s').2 (.inl h1),h2⟩
   ·exact⟨_,(mi _).2 (.inr ⟨hy,fun s' U6 e=>q ⟨s',U6,e.symm.trans e0⟩⟩),e0⟩
  obtain⟨r,hr,e⟩:=key;refine Ak.2 ⟨r,Bo.2 ⟨hr,?_⟩,e⟩;have e2:GX w r=GX w r0:=by unfold GX;rw[e,e0]
  rw[e2,hex];rfl
theorem PB{x:List Rl}:DQ x WK=if A4 x=0 then(x,0)else([],1):=by
 by_cases h:A4 x=0
 ·rw[Aw h];refine UE ⟨h,bN,?_,fun s hs=>(by cases hs),?_⟩
  ·have:=QG h
   rw[show AX B5 x WK.rep=x from Lg x];omega
  ·rw[show AX B5 x WK.rep=x from Lg x]
   have:∀r,Yw WK r=some r:=fun r=>by unfold Yw;rw[Ah (by unfold GX;simp)];rfl
   rw[show(Yw WK)=some from funext this,List.filterMap_some]
 ·rw[Ah h,W2 h]
/-! What the solver selects. -/
end Go.Eng
namespace Go.Eng
open Go.Proofs
theorem ra(x:List Rl)(ifs:List (List AV))(w:Wk)(hL:dW x [])(hW:LP w)(WM:Cm ifs)(aA:∀c∈ifs,c.length=5)(Zm:x.length≤1048576)(h:¬A4 x=0):PC 5 [I2 x ifs,.agg (BK w)] (vb true):=by
 have qW:RL x:=fun r hr=>⟨(hL.rel r hr).1,fun q hq=>((hL.rel r hr).2.2 q hq).1⟩;have x8:=hW.rep;have h0:=(nZ x ifs WK hL.x (by show x.length+0≤_;omega) (fun r hr=>(hL.rel r hr).1) Mf.few Mf.rq WM aA).args (args':=[I2 x ifs,.agg [.v (.slice none 0 0),.v (.slice none 0 0),.v (.slice none 0 0)]]) ⟨.refl _,.agg ⟨.nil,.nil,.nil,trivial⟩,trivial⟩;unfold IC at h0;have lE:=jG Se x ifs hL.x;rw[PB,Ah h]at h0;have h0:PC 11 [I2 x ifs,.agg [.v (.slice none 0 0),.v (.slice none 0 0),.v (.slice none 0 0)]] (.tup [.agg [.slice .none [],.slice .none []],vi 1]):=h0;obtain⟨c,hc⟩:∃c,c=A4 x:=⟨_,rfl⟩;have lK:c≠0:=by rw[hc];exact h
 rw[←hc]at lE;refine EP (Y0 ⟨[2,3,5,7,8],[],[],[],[],[],[],[],[],[],[3,5,6,8,10,11,13,14]⟩) rfl CB Go.Eng.hm rfl Tryz.func5 (by kernel_rfl) rfl (Nz rfl) (by kernel_rfl) ?_;refine Xi .pure (Xi _ (Yi o9 ?_));refine Xi ⟨[(2,.ref 2 0),(3,.ref 3 0)],[(2,.ro (Ic x ifs)),(3,.ro (BK w))],Ab⟩ (Yi ⟨Z2,Z2,Fh,Tv⟩ ?_)
 refine Yi (Nz rfl) ?_;refine Yi (Nz rfl) ?_;refine BU (Bt (DV x 16&&D3 w)) (fun h1=>?_) (fun h1=>?_)
 ·have h1:(DV x 16&&D3 w)=true:=h1;refine Xi .pure (Xi _ (Yi (cb h1 (pg x ifs w hL hW)) ?_));refine Xi ⟨[(2,.ref 2 0),(3,.ref 3 0)],[(2,.ro (Ic x ifs)),(3,.ro (BK w))],Ab⟩ (Yi ⟨Z2,Z2,Fh,Tv⟩ ?_)
  refine Yi (Nz rfl) ?_;refine Xi .pure (Xi _ (Yi h0 ?_));refine Yi (Nz rfl) ?_;refine Xi ⟨[(2,.ref 2 0),(3,.ref 3 0),(5,.ref 5 0),(6,vi 1)],[(2,.ro (Ic x ifs)),(3,.ro (BK w)),(5,.ro [.slice .none [],.slice .none []])],Ab⟩ (Yi ⟨Z4,Z3,Fh,Tv⟩ ?_)
  refine Yi (Nz rfl) ?_;refine Xi .pure (Xi _ (Yi lE ?_));refine Yi (fun h2=>?_) (fun h2=>?_)
  ·have h2:(c:Int)≠(0:Int):=h2;refine Yi (fun _=>?_) (fun h=>absurd (by decide) h);refine Yi (fun _=>?_) (fun h=>absurd (by decide) h);exact .refl _
  have h2:(c:Int)=(0:Int):=Bn h2;exact absurd h2 lK
 have h1:(DV x 16&&D3 w)=false:=h1;refine Xi .pure (Xi _ (Yi (cb h1 (pg x ifs w hL hW)) ?_));exact .refl _
theorem rb(x:List Rl)(ifs:List (List AV))(w:Wk)(hL:dW x [])(hW:LP w)(WM:Cm ifs)(aA:∀c∈ifs,c.length=5)(Zm:x.length≤1048576)(h:A4 x=0)(k:(DQ x w).2≠0):PC 5 [I2 x ifs,.agg (BK w)] (vb true):=by
 have qW:RL x:=fun r hr=>⟨(hL.rel r hr).1,fun q hq=>((hL.rel r hr).2.2 q hq).1⟩;have x8:=hW.rep;have h0:=(nZ x ifs WK hL.x (by show x.length+0≤_;omega) (fun r hr=>(hL.rel r hr).1) Mf.few Mf.rq WM aA).args (args':=[I2 x ifs,.agg [.v (.slice none 0 0),.v (.slice none 0 0),.v (.slice none 0 0)]]) ⟨.refl _,.agg ⟨.nil,.nil,.nil,trivial⟩,trivial⟩;unfold IC at h0;have lE:=jG Se x ifs hL.x;rw[PB,Aw h]at h0;have h0:PC 11 [I2 x ifs,.agg [.v (.slice none 0 0),.v (.slice none 0 0),.v (.slice none 0 0)]] (.tup [I2 x ifs,vi 0]):=h0;rw[h]at lE;have K3:=rn x x (by unfold Cm;omega) qW;rw[Ax rfl]at K3;have Hu:=nZ x ifs w hL.x (by omega) (fun r hr=>(hL.rel r hr).1) hW.few hW.rq WM aA;unfold IC at Hu;obtain⟨c,hc⟩:∃c,c=(DQ x w).2:=⟨_,rfl⟩;have lK:c≠0:=by rw[hc];exact k
 rw[YK k,←hc,Ah lK]at Hu;have Hu:PC 11 [I2 x ifs,.agg (BK w)] (.tup [.agg [.slice .none [],.slice .none []],vi c]):=Hu;refine EP (Y0 ⟨[2,3,5,7,8],[],[],[],[],[],[],[],[],[],[3,5,6,8,10,11,13,14]⟩) rfl CB Go.Eng.hm rfl Tryz.func5 (by kernel_rfl) rfl (Nz rfl) (by kernel_rfl) ?_;refine Xi .pure (Xi _ (Yi o9 ?_));refine Xi ⟨[(2,.ref 2 0),(3,.ref 3 0)],[(2,.ro (Ic x ifs)),(3,.ro (BK w))],Ab⟩ (Yi ⟨Z2,Z2,Fh,Tv⟩ ?_)
 refine Yi (Nz rfl) ?_;refine Yi (Nz rfl) ?_;refine BU (Bt (DV x 16&&D3 w)) (fun h1=>?_) (fun h1=>?_)
 ·have h1:(DV x 16&&D3 w)=true:=h1;refine Xi .pure (Xi _ (Yi (cb h1 (pg x ifs w hL hW)) ?_));refine Xi ⟨[(2,.ref 2 0),(3,.ref 3 0)],[(2,.ro (Ic x ifs)),(3,.ro (BK w))],Ab⟩ (Yi ⟨Z2,Z2,Fh,Tv⟩ ?_)
  refine Yi (Nz rfl) ?_;refine Xi .pure (Xi _ (Yi h0 ?_));refine Yi (Nz rfl) ?_;refine Xi ⟨[(2,.ref 2 0),(3,.ref 3 0),(5,.ref 5 0),(6,vi 0)],[(2,.ro (Ic x ifs)),(3,.ro (BK w)),(5,.ro (Ic x ifs))],Ab⟩ (Yi ⟨Z4,Z3,Fh,Tv⟩ ?_)
  refine Yi (Nz rfl) ?_;refine Xi .pure (Xi _ (Yi lE ?_));refine Yi (fun h=>absurd h (by decide)) (fun _=>?_);refine Xi ⟨[(2,.ref 2 0),(3,.ref 3 0),(5,.ref 5 0),(6,vi 0)],[(2,.ro (Ic x ifs)),(3,.ro (BK w)),(5,.ro (Ic x ifs))],Ab⟩ (Yi ⟨Z4,Z3,Fh,Tv⟩ ?_)
  refine Yi (fun h=>absurd h (by decide)) (fun _=>?_);refine Xi .pure (Xi _ (Yi K3 ?_));refine Xi ⟨[(2,.ref 2 0),(3,.ref 3 0)],[(2,.ro (Ic x ifs)),(3,.ro (BK w))],Ab⟩ (Yi ⟨Z2,Z2,Fh,Tv⟩ ?_)
  refine Yi (Nz rfl) ?_;refine Yi (Nz rfl) ?_;refine Xi .pure (Xi _ (Yi Hu ?_));refine Yi (Nz rfl) ?_;refine Xi ⟨[(3,.ref 3 0),(6,vi c),(7,.ref 7 0)],[(3,.ro (BK w)),(7,.ro [.slice .none [],.slice .none []])],Ab⟩ (Yi ⟨Z3,Z2,Fh,Tv⟩ ?_)
  refine Yi (fun h2=>?_) (fun h2=>?_)
  ·have h2:(c:Int)≠(0:Int):=h2;refine Yi (fun _=>?_) (fun h=>absurd (by decide) h);exact .refl _
  have h2:(c:Int)=(0:Int):=Bn h2;exact absurd h2 lK
 have h1:(DV x 16&&D3 w)=false:=h1;refine Xi .pure (Xi _ (Yi (cb h1 (pg x ifs w hL hW)) ?_));exact .refl _
theorem rc(x:List Rl)(ifs:List (List AV))(w:Wk)(hL:dW x [])(hW:LP w)(WM:Cm ifs)(aA:∀c∈ifs,c.length=5)(Zm:x.length≤1048576)(h:A4 x=0)(k:(DQ x w).2=0):PC 5 [I2 x ifs,.agg (BK w)] (vb true):=by
 have qW:RL x:=fun r hr=>⟨(hL.rel r hr).1,fun q hq=>((hL.rel r hr).2.2 q hq).1⟩;have x8:=hW.rep;have h0:=(nZ x ifs WK hL.x (by show x.length+0≤_;omega) (fun r hr=>(hL.rel r hr).1) Mf.few Mf.rq WM aA).args (args':=[I2 x ifs,.agg [.v (.slice none 0 0),.v (.slice none 0 0),.v (.slice none 0 0)]]) ⟨.refl _,.agg ⟨.nil,.nil,.nil,trivial⟩,trivial⟩;unfold IC at h0;have lE:=jG Se x ifs hL.x;rw[PB,Aw h]at h0;have h0:PC 11 [I2 x ifs,.agg [.v (.slice none 0 0),.v (.slice none 0 0),.v (.slice none 0 0)]] (.tup [I2 x ifs,vi 0]):=h0;rw[h]at lE;have K3:=rn x x (by unfold Cm;omega) qW;rw[Ax rfl]at K3;have Hu:=nZ x ifs w hL.x (by omega) (fun r hr=>(hL.rel r hr).1) hW.few hW.rq WM aA;unfold IC at Hu;have hm:=W4 k;have hy:=UE hm.again;have vv:=W3 hL.x hW;have qX:=bD qW hW;rw[k,Aw rfl]at Hu;obtain⟨y,hyd⟩:∃y,y=(DQ x w).1:=⟨_,rfl⟩;rw[←hyd]at Hu hm hy vv qX;have Hu:PC 11 [I2 x ifs,.agg (BK w)] (.tup [I2 y ifs,vi 0]):=Hu;have Lw:=nZ y ifs w vv (by have:=qX.2;omega) (fun r hr=>(qX.1 r hr).1) hW.few hW.rq WM aA;unfold IC at Lw;rw[hy]at Lw;have Lw:PC 11 [I2 y ifs,.agg (BK w)] (.tup [I2 y ifs,vi 0]):=Lw;have Uh:=rn y y (AU qX.2 (by decide)) qX.1;rw[Ax rfl]at Uh;have dL:=jG Se y ifs vv;rw[hm.check]at dL;refine EP (Y0 ⟨[2,3,5,7,8],[],[],[],[],[],[],[],[],[],[3,5,6,8,10,11,13,14]⟩) rfl CB Go.Eng.hm rfl Tryz.func5 (by kernel_rfl) rfl (Nz rfl) (by kernel_rfl) ?_;refine Xi .pure (Xi _ (Yi o9 ?_));refine Xi ⟨[(2,.ref 2 0),(3,.ref 3 0)],[(2,.ro (Ic x ifs)),(3,.ro (BK w))],Ab⟩ (Yi ⟨Z2,Z2,Fh,Tv⟩ ?_)
 refine Yi (Nz rfl) ?_;refine Yi (Nz rfl) ?_;refine BU (Bt (DV x 16&&D3 w)) (fun h1=>?_) (fun h1=>?_)
 ·have h1:(DV x 16&&D3 w)=true:=h1;refine Xi .pure (Xi _ (Yi (cb h1 (pg x ifs w hL hW)) ?_));refine Xi ⟨[(2,.ref 2 0),(3,.ref 3 0)],[(2,.ro (Ic x ifs)),(3,.ro (BK w))],Ab⟩ (Yi ⟨Z2,Z2,Fh,Tv⟩ ?_)
  refine Yi (Nz rfl) ?_;refine Xi .pure (Xi _ (Yi h0 ?_));refine Yi (Nz rfl) ?_;refine Xi ⟨[(2,.ref 2 0),(3,.ref 3 0),(5,.ref 5 0),(6,vi 0)],[(2,.ro (Ic x ifs)),(3,.ro (BK w)),(5,.ro (Ic x ifs))],Ab⟩ (Yi ⟨Z4,Z3,Fh,Tv⟩ ?_)
  refine Yi (Nz rfl) ?_;refine Xi .pure (Xi _ (Yi lE ?_));refine Yi (fun h=>absurd h (by decide)) (fun _=>?_);refine Xi ⟨[(2,.ref 2 0),(3,.ref 3 0),(5,.ref 5 0),(6,vi 0)],[(2,.ro (Ic x ifs)),(3,.ro (BK w)),(5,.ro (Ic x ifs))],Ab⟩ (Yi ⟨Z4,Z3,Fh,Tv⟩ ?_)
  refine Yi (fun h=>absurd h (by decide)) (fun _=>?_);refine Xi .pure (Xi _ (Yi K3 ?_));refine Xi ⟨[(2,.ref 2 0),(3,.ref 3 0)],[(2,.ro (Ic x ifs)),(3,.ro (BK w))],Ab⟩ (Yi ⟨Z2,Z2,Fh,Tv⟩ ?_)
  refine Yi (Nz rfl) ?_;refine Yi (Nz rfl) ?_;refine Xi .pure (Xi _ (Yi Hu ?_));refine Yi (Nz rfl) ?_;refine Xi ⟨[(3,.ref 3 0),(6,vi 0),(7,.ref 7 0)],[(3,.ro (BK w)),(7,.ro (Ic y ifs))],Ab⟩ (Yi ⟨Z3,Z2,Fh,Tv⟩ ?_)
  refine Yi (fun h=>absurd h (by decide)) (fun _=>?_);refine Xi ⟨[(3,.ref 3 0),(7,.ref 7 0)],[(3,.ro (BK w)),(7,.ro (Ic y ifs))],Ab⟩ (Yi ⟨Z2,Z2,Fh,Tv⟩ ?_)
  refine Yi (Nz rfl) ?_;refine Yi (Nz rfl) ?_;refine Xi .pure (Xi _ (Yi Lw ?_));refine Yi (Nz rfl) ?_;refine Xi ⟨[(6,vi 0),(7,.ref 7 0),(8,.ref 8 0)],[(7,.ro (Ic y ifs)),(8,.ro (Ic y ifs))],Ab⟩ (Yi ⟨Z3,Z2,Fh,Tv⟩ ?_)
  refine Yi (fun _=>?_) (fun h=>absurd (by decide) h);refine Xi .pure (Xi _ (Yi Uh ?_));refine Yi (Nz rfl) ?_;refine Xi .pure (Xi _ (Yi dL ?_));refine Yi (fun _=>?_) (fun h=>absurd (by decide) h);exact .refl _
 have h1:(DV x 16&&D3 w)=false:=h1;refine Xi .pure (Xi _ (Yi (cb h1 (pg x ifs w hL hW)) ?_));exact .refl _
theorem vB(x:List Rl)(ifs:List (List AV))(w:Wk)(hL:dW x [])(hW:LP w)(WM:Cm ifs)(aA:∀c∈ifs,c.length=5)(Zm:x.length≤1048576):PC 5 [I2 x ifs,.agg (BK w)] (vb true):=by
 by_cases h:A4 x=0
 ·by_cases k:(DQ x w).2=0
  ·exact rc x ifs w hL hW WM aA Zm h k
  ·exact rb x ifs w hL hW WM aA Zm h k
 ·exact ra x ifs w hL hW WM aA Zm h
end Go.Eng
