/- Lemmas for the claims of this seat, without a condition: part 32 (O21, O20, O22, O23, O24). -/
import Derived.Test.YtmcbkdbfaneofaaGreatDoorFA31
set_option maxHeartbeats 4000000
namespace Go.Eng
theorem Oj:∀{l:List Rl} {b:Option Rl},Dx b l=0→∀r∈l,Dw r=0
 | [],_,_,r,hr=>by cases hr
 |x::l,b,h,r,hr=>by
  unfold Dx at h;split at h
  ·rename_i h1;exact absurd h h1
  ·rename_i h1;have h1:Dw x=0:=BM.1 h1;have go:Dx (some x) l=0:=by
    cases b with
    |none=>exact h
    |some b =>
     dsimp only at h;split at h
     ·cases h
     ·split at h
      ·cases h
      ·exact h
   rcases As.1 hr with rfl | hr
   ·exact h1
   ·exact Oj go r hr
theorem Oi:∀{l:List Rl} {b:Option Rl},(∀r∈l,Dw r=0)→l.Pairwise TZ→(∀c,b=some c→∀r∈l,TZ c r)→Dx b l=0
 | [],_,_,_,_=>rfl
 |x::l,b,h,hp,hb=>by
  obtain⟨p1,p2⟩:=BX.1 hp;have ih:Dx (some x) l=0:=Oi (fun r hr=>h r (Af _ hr)) p2 (fun c e r hr=>by cases e;exact p1 r hr);unfold Dx;rw[Ai (fun q=>q (h x (Ab ..)))];cases b with
  |none=>exact ih
  |some c =>
   have hl:=hb c rfl x (Ab ..);dsimp only;rw[Ai (fun q=>G1 hl q),Ai (fun q=>by
    have:Gw (EG c) (EG x)<0:=W8.2 hl
    have q:0<Gw (EG c) (EG x):=q;omega)]
   exact ih
theorem LT{l:List Rl}:A5 l=0↔l.length≤256∧(∀r∈l,Dw r=0)∧l.Pairwise TZ:=by
 constructor
 ·intro h;refine⟨W5 h,?_,(B9 h).2⟩;unfold A5 at h;split at h
  ·cases h
  ·exact Oj h
 ·rintro⟨h1,h2,h3⟩
  unfold A5;rw[Ai (by omega)];exact Oi h2 h3 (fun c e=>by cases e)
/-! What is merged. -/
section
variable {a b:Wk}
end
/-! What a workspace makes of an index. -/
theorem YI{x:List Rl}{w:Wk}(h:(Dz x w).2≠0):(Dz x w).1=[]:=by
 unfold Dz at h⊢;split
 ·rfl
 ·split
  ·rfl
  ·split
   ·rfl
   ·rename_i h1 h2 h3;rw[Ai h1,Ai h2,Ai h3]at h;cases e:HG w.pin (kept (Jc w) (A3 Cs x w.rep))with
    |none=>rfl
    |some B=>rw[e]at h;exact absurd rfl h
def dW(w:Wk)(r:Rl):Option Rl:=if Jc w r=true then none else Jq w.pin r
theorem aV(w:Wk):∀l:List Rl,rS w l=l.filterMap (dW w)
 | []=>rfl
 |r::l=>by
  have ih:=aV w l;unfold rS kept at ih⊢;rw[DN,M1];unfold dW;cases e:Jc w r with
  |true=>simp only[Bool.not_true,Cy,Fg,Kz];exact ih
  |false =>
   simp only[Bool.not_false,Kz,Cy,Fg,M1];cases Jq w.pin r with
   |none=>exact ih
   |some z=>exact Ac (z :: ·) ih
structure T6(x:List Rl)(w:Wk)(y:List Rl):Prop where
 hx:A5 x=0
 hw:CW w=0
 len:¬256<((A3 Cs x w.rep).length:Int)
 pins:∀s∈w.pin,s∈(kept (Jc w) (A3 Cs x w.rep)).map EG
 out:y=(A3 Cs x w.rep).filterMap (dW w)
theorem Zo{w:Wk}{A:List Rl}(h:A.Pairwise TZ):((kept (Jc w) A).map EG).Nodup:=I3 rQ (List.Pairwise.filter _ h)
theorem QD{x:List Rl}{w:Wk}(h:(Dz x w).2=0):T6 x w (Dz x w).1:=by
 unfold Dz at h⊢;split at h
 ·cases h
 ·rename_i h1;split at h
  ·rename_i h2;exact absurd h h2
  ·rename_i h2;split at h
   ·cases h
   ·rename_i h3;rw[Ai h1,Ai h2,Ai h3];have h1:=BM.1 h1;have h2:=BM.1 h2;have hp:=aY (pins:=w.pin) (B:=kept (Jc w) (A3 Cs x w.rep)) (I3 tn (Nm h2)) (Zo (NP h1 h2))
    by_cases q:∀s∈w.pin,s∈(kept (Jc w) (A3 Cs x w.rep)).map EG
    ·rw[Aw q]at hp;rw[hp];exact⟨h1,h2,h3,q,aV w _⟩
    ·rw[Ai q]at hp;rw[hp]at h;cases h
theorem bx{w:Wk}{r r' : Rl}(h:dW w r=some r'):EG r'=EG r:=by
 unfold dW at h;split at h
 ·cases h
 ·exact Ym h
theorem oZ{w:Wk}{r r' : Rl}(h:dW w r=some r'):r'=r∨r'={ r with yanked:=false }:=by
 unfold dW at h;split at h
 ·cases h
 ·unfold Jq at h;split at h
  ·cases h;exact .inl rfl
  ·split at h
   ·cases h;exact .inr rfl
   ·cases h
theorem Uc{f:Rl→Option Rl}(hf:∀r r',f r=some r'→EG r'=EG r){A:List Rl}(h:A.Pairwise TZ):(A.filterMap f).Pairwise TZ:=by
 rw[List.pairwise_filterMap];refine h.imp fun {a b} jr a' ha b' hb=>?_;have h1:=hf a a' ha;have h2:=hf b b' hb;show oy (EG a') (EG b');rw[h1,h2];exact jr
theorem T6.inc{x:List Rl}{w:Wk}{y:List Rl}(h:T6 x w y):y.Pairwise TZ:=by
 rw[h.out];exact Uc (fun _ _=>bx) (NP h.hx h.hw)
theorem T6.src{x:List Rl}{w:Wk}{y:List Rl}(h:T6 x w y){r:Rl}(hr:r∈y):∃r0∈A3 Cs x w.rep,dW w r0=some r:=by
 rw[h.out]at hr;exact List.mem_filterMap.1 hr
theorem T6.check{x:List Rl}{w:Wk}{y:List Rl}(h:T6 x w y):A5 y=0:=by
 have i1:=LT.1 h.hx;have i2:=LT.1 (Iq h.hw).1;have hl:=h.len;refine LT.2 ⟨?_,fun r hr=>?_,h.inc⟩
 ·rw[h.out];exact AU (List.length_filterMap_le ..) (by omega)
 ·obtain⟨r0,cz,hg⟩:=h.src hr
  have:Dw r0=0:=(H9 cz).elim (i1.2.1 r0) (i2.2.1 r0)
  rcases oZ hg with rfl | rfl
  ·exact this
  ·exact this
theorem T6.mem_iff{x:List Rl}{w:Wk}{y:List Rl}(h:T6 x w y)(r:Rl):r∈A3 Cs x w.rep↔r∈w.rep∨(r∈x∧∀s∈w.rep,EG r≠EG s) :=
 Zv rQ (B9 h.hx).2 (B9 (Iq h.hw).1).2 r
/-! What the solver selects. -/
theorem iP{x:List Rl}{roots:List Rq}(h:Rr x roots=0):(∀z∈Rp x roots,∃r∈x,EG r=z)∧(Rp x roots).length≤x.length∧A5 x=0:=by
 have h0:=h;unfold Rr at h0;split at h0
 ·rename_i hs;exact absurd h0 hs
 ·rename_i hs;have hs:Jw x roots=0:=BM.1 hs;split at h0
  ·rename_i hf;have hv:F4 x roots=true:=by
    cases e:F4 x roots with
    |true=>rfl
    |false=>unfold Jw at hs;rw[e]at hs;cases hs
   have XC:(Em x roots).ss.full=false:=by
    cases e:(Em x roots).ss.full with
    |false=>rfl
    |true=>unfold Jw at hs;rw[hv,e]at hs;cases hs
   obtain⟨hx,hr⟩:=Yu hv;have hA:Kf x roots=d9 x roots:=by unfold Kf;rw[Aw ⟨hv,XC⟩]
   rw[hA]at hf;have aE:(Em x roots).found=true:=by
    cases e:(Em x roots).found with
    |true=>rfl
    |false=>unfold d9 at hf;rw[e]at hf;cases hf
   have vM:Rp x roots=FP (AM (Em x roots).dec):=by
    unfold Rp;rw[Aw h,hA];unfold d9;rw[Aw aE]
   obtain⟨_,t,sl,y2,y3,y4,y5⟩:=(Vq hx hr).yes aE;have vl:(Em x roots).dec∈Mc x roots (x.length+1) []:=List.mem_of_head? y5;have lf:=PP (EA.nil x) (In.nil roots) _ vl;rw[vM];refine⟨fun z hz=>?_,?_,hx⟩
   ·rw[Hg]at hz;obtain⟨c,hc,rfl⟩:=Al.1 hz;exact⟨c.rel,(lf.ok.cand c hc).1,rfl⟩
   ·rw[(NZ _).length_eq,Lm]
    have:=PT (l:=(Em x roots).dec.map fun c=>c.rel) (m:=x) (ZC (f:=fun r:Rl=>r.path) (by rw[BN];exact lf.ok.nodup)) (fun r hr=>by
     obtain⟨c,hc,rfl⟩:=Al.1 hr;exact(lf.ok.cand c hc).1)
    rwa [Lm]at this
  ·cases h0
end Go.Eng
namespace Go.Eng
open Go.Proofs
structure pG(x:List Rl)(w:Wk)(y:List Rl)(z:Sl)(ra:Rl):Prop where
 fy:Ec y z=some ra
 ex:decide (z∈w.exc)=false
 np:(w.pin.any fun p=>decide (p.path=z.path)&&decide (p≠z))=false
 rep:∀rc,Ec w.rep z=some rc→(z∈w.pin→ra={ rc with yanked:=false })∧(z∉w.pin→ra=rc)
 src:Ec w.rep z=none→∃rb,Ec x z=some rb∧(z∈w.pin→ra={ rb with yanked:=false })∧(z∉w.pin→ra=rb)
theorem V1{l:List Rl}(h:A5 l=0){r:Rl}(hr:r∈l):Ec l (EG r)=some r:=by
 unfold Ec;rw[Ai (fun c=>c h)];have hn:=I3 rQ (B9 h).2;cases e:l.find? fun r'=>decide (FM r'=EG r)with
 |none=>exact absurd (DB.1 e r hr) (by simp[FM])
 |some r' =>
  have h1:EG r'=EG r:=by simpa[FM]using DK e
  rw[XP hn (BO e) hr h1]
theorem Xq{l:List Rl}(h:A5 l=0){z:Sl}{r:Rl}(e:Ec l z=some r):r∈l∧EG r=z:=by
 unfold Ec at e;rw[Ai (fun c=>c h)]at e;exact⟨BO e,show EG r=z from Bq (DK (p:=fun r=>decide (FM r=z)) e)⟩
theorem bz{w:Wk}{r ra:Rl}(hp:(w.pin.map (·.path)).Nodup)(h:dW w r=some ra):(EG r∈w.pin→ra={ r with yanked:=false })∧(EG r∉w.pin→ra=r):=by
 unfold dW at h;split at h
 ·cases h
 ·unfold Jq at h;split at h
  ·rename_i e;refine⟨fun q=>?_,fun _=>by cases h;rfl⟩
   have:=Vl hp q
   rw[show(EG r).path=r.path from rfl,e]at this;cases this
  ·rename_i p e;split at h
   ·rename_i e2;refine⟨fun _=>by cases h;rfl,fun q=>?_⟩;exact absurd (e2▸(iy e).1) q
   ·cases h
theorem kz{x:List Rl}{w:Wk}{y:List Rl}(hm:T6 x w y){z:Sl}(hz:∃r∈y,EG r=z):∃ra,pG x w y z ra:=by
 obtain⟨ra,nX,rfl⟩:=hz;have hp:(w.pin.map (·.path)).Nodup:=I3 tn (Nm hm.hw);obtain⟨r0,cz,hg⟩:=hm.src nX;have hk:=bx hg;have hA:=I3 rQ (NP hm.hx hm.hw);have D6:=(Iq hm.hw).1;refine⟨ra,V1 hm.check nX,?_,?_,fun rc hc=>?_,fun hn=>?_⟩
 ·rw[hk];unfold dW at hg;split at hg
  ·cases hg
  ·rename_i e;simpa using e
 ·rw[Fs];intro p jw
  have:¬(p.path=(EG ra).path∧p≠EG ra):=by
   rintro⟨h1,h2⟩
   unfold dW at hg;split at hg
   ·cases hg
   ·unfold Jq at hg;have e1:=Vl hp jw;rw[h1,hk]at e1;rw[show r0.path=(EG r0).path from rfl,e1]at hg;dsimp only at hg;split at hg
    ·rename_i e2;exact h2 (by rw[hk];exact e2)
    ·cases hg
  simpa using this
 ·obtain⟨h1,h2⟩:=Xq D6 hc
  have:rc=r0:=XP hA ((hm.mem_iff rc).2 (.inl h1)) cz (h2.trans hk)
  subst this;rw[hk];exact bz hp hg
 ·have hx:r0∈x:=by
   rcases(hm.mem_iff r0).1 cz with q | ⟨q,_⟩
   ·have:=V1 D6 q
    rw[←hk,hn]at this;cases this
   ·exact q
  refine⟨r0,by rw[hk];exact V1 hm.hx hx,?_⟩;rw[hk];exact bz hp hg
theorem Wy{ra rb:Rl}(e:ra=rb)(h:Ci ra.reqs∧∀q∈ra.reqs,Ci q.set):PC 23 [.agg (Ah ra),.agg (Ah rb)] (vb true):=by
 subst e
 have:=wh ra ra h.1 h.2
 rwa [Ax rfl]at this
theorem lW{f:Nat}{args:List AV}{o:Option Rl}{r:Rl}(h:PC f args (Vh o))(e:o=some r):PC f args (.tup [.agg (Ah r),vb true]):=by subst e;exact h
theorem lR{f:Nat}{args:List AV}{b:Bool}(x:Bool)(h:PC f args (vb b))(e:b=x):PC f args (vb x):=e▸h
theorem o31(p z:Sl):PC 31 [.agg (Ae p),.cptr (Ae z)] (vb (decide (p.path=z.path)&&decide (p≠z))):=by
 refine Ps ⟨[2],[],[],[],[],[],[],[],[],[],[]⟩ Tryz.func31 rfl (Nz rfl) ?_;refine Yi (fun h1=>?_) (fun h1=>?_)
 ·have h1:(p.path:ByteArray)=z.path:=h1;refine Yi (Nz rfl) ?_;refine Yi (Nz rfl) ?_;refine Yi (fun h2=>?_) (fun h2=>?_)
  ·have h2:(p.path:ByteArray)=z.path∧(p.ver.a:Int)=z.ver.a∧(p.ver.b:Int)=z.ver.b∧(p.ver.c:Int)=z.ver.c∧True:=h2;exact .of_eq (show vb false=vb (decide (p.path=z.path)&&decide (p≠z)) by rw[Ax h1,show decide (p≠z)=false from Aq (fun e=>e (Qe.1 h2))];rfl)
  have h2:¬((p.path:ByteArray)=z.path∧(p.ver.a:Int)=z.ver.a∧(p.ver.b:Int)=z.ver.b∧(p.ver.c:Int)=z.ver.c∧True):=h2;exact .of_eq (show vb true=vb (decide (p.path=z.path)&&decide (p≠z)) by rw[Ax h1,show decide (p≠z)=true from Ax (fun e=>h2 (Qe.2 e))];rfl)
 have h1:¬(p.path:ByteArray)=z.path:=h1;exact .of_eq (show vb false=vb (decide (p.path=z.path)&&decide (p≠z)) by rw[Aq h1];rfl)
theorem rz(x:List Rl)(ifs:List (List AV))(roots:List Rq)(w:Wk)(hL:Z0 x roots)(hW:LO w)(Zg:Ci ifs)(fY:∀c∈ifs,c.length=5)(Zl:x.length≤1048576)(k:(Dz x w).2≠0):PC 8 [JP x ifs,sl AE roots,.agg (Bu w)] (vb true):=by
 have s9:RM x:=fun r hr=>⟨(hL.rel r hr).1,fun q hq=>((hL.rel r hr).2.2 q hq).1⟩;have l5:Z0 x []:=⟨hL.ix,AL _,hL.rel,fun q hq=>by cases hq⟩;have yD:=hW.rep;have kH:=hL.x;have GK:=tf x ifs w kH (by omega) (fun r hr=>(hL.rel r hr).1) hW.few hW.rq Zg fY;unfold KR at GK;have lY:=qa roots hL.rs;obtain⟨c,hc⟩:∃c,c=(Dz x w).2:=⟨_,rfl⟩;have ma:c≠0:=by rw[hc];exact k
 rw[YI k,←hc,Ai ma]at GK;have GK:PC 11 [JP x ifs,.agg (Bu w)] (.tup [.agg [.slice .none [],.slice .none []],vi c]):=GK;refine EU (YZ ⟨[3,5,7,11,12],[],[],[],[],[],[],[],[],[],[3,4,5,6,8,9,11,13,14,15,16,17,18,20,22,23,24]⟩) rfl CD Go.Eng.hm rfl Tryz.func8 (by kernel_rfl) rfl (Nz rfl) (by kernel_rfl) ?_;refine Xi .pure (Xi _ (Yi o9 ?_));refine Xi ⟨[(1,sl AE roots),(3,.ref 3 0),(5,.ref 5 0)],[(3,.ro (Ic x ifs)),(5,.ro (Bu w))],Aa⟩ (Yi ⟨Z3,Z2,Fh,Tv⟩ ?_)
 refine Yi (Nz rfl) ?_;refine Yi (Nz rfl) ?_;refine BH (Bt (DX x 16&&D5 w)) (fun h1=>?_) (fun h1=>?_)
 ·have h1:(DX x 16&&D5 w)=true:=h1;refine Xi .pure (Xi _ (Yi (cb h1 (pB x ifs w l5 hW)) ?_));refine BH (Bt (Et roots)) (fun h2=>?_) (fun h2=>?_)
  ·have h2:(Et roots)=true:=h2;refine Xi .pure (Xi _ (Yi (cb h2 lY) ?_));refine Xi ⟨[(1,sl AE roots),(3,.ref 3 0),(5,.ref 5 0)],[(3,.ro (Ic x ifs)),(5,.ro (Bu w))],Aa⟩ (Yi ⟨Z3,Z2,Fh,Tv⟩ ?_)
   refine Yi (Nz rfl) ?_;refine Yi (Nz rfl) ?_;refine Xi .pure (Xi _ (Yi GK ?_));refine Yi (Nz rfl) ?_;refine Xi ⟨[(1,sl AE roots),(3,.ref 3 0),(5,.ref 5 0),(7,.ref 7 0),(8,vi c)],[(3,.ro (Ic x ifs)),(5,.ro (Bu w)),(7,.ro [.slice .none [],.slice .none []])],Aa⟩ (Yi ⟨Z5,Z3,Fh,Tv⟩ ?_)
   refine Yi (fun h3=>?_) (fun h3=>?_)
   ·have h3:(c:Int)≠(0:Int):=h3;exact .refl _
   have h3:(c:Int)=(0:Int):=Bn h3;exact absurd h3 ma
  have h2:(Et roots)=false:=h2;refine Xi .pure (Xi _ (Yi (cb h2 lY) ?_));refine Xi ⟨[],[],Aa⟩ (Yi ⟨Tv,Tv,Fh,Tv⟩ ?_)
  exact .refl _
 have h1:(DX x 16&&D5 w)=false:=h1;refine Xi .pure (Xi _ (Yi (cb h1 (pB x ifs w l5 hW)) ?_));refine Xi ⟨[],[],Aa⟩ (Yi ⟨Tv,Tv,Fh,Tv⟩ ?_)
 exact .refl _
theorem rA(x:List Rl)(ifs:List (List AV))(roots:List Rq)(w:Wk)(hL:Z0 x roots)(hW:LO w)(Zg:Ci ifs)(fY:∀c∈ifs,c.length=5)(Zl:x.length≤1048576)(k:(Dz x w).2=0)(s:Rr (Dz x w).1 roots≠0):PC 8 [JP x ifs,sl AE roots,.agg (Bu w)] (vb true):=by
 have s9:RM x:=fun r hr=>⟨(hL.rel r hr).1,fun q hq=>((hL.rel r hr).2.2 q hq).1⟩;have l5:Z0 x []:=⟨hL.ix,AL _,hL.rel,fun q hq=>by cases hq⟩;have yD:=hW.rep;have kH:=hL.x;have GK:=tf x ifs w kH (by omega) (fun r hr=>(hL.rel r hr).1) hW.few hW.rq Zg fY;unfold KR at GK;have lY:=qa roots hL.rs;have hm:=QD k;have od:=QC kH hW;have mv:=UC s9 hW;rw[k,Aw rfl]at GK;obtain⟨y,vW⟩:∃y,y=(Dz x w).1:=⟨_,rfl⟩;rw[←vW]at GK hm od mv s;have GK:PC 11 [JP x ifs,.agg (Bu w)] (.tup [JP y ifs,vi 0]):=GK;have V8:=tv y ifs roots od hL.rq;rw[show Rp y roots=[] by unfold Rp;rw[Ai s]]at V8;obtain⟨c,hc⟩:∃c,c=Rr y roots:=⟨_,rfl⟩;have ma:c≠0:=by rw[hc];exact s
 rw[←hc]at V8;have V8:PC 30 [JP y ifs,sl AE roots] (.tup [.slice .none [],vi c]):=V8;refine EU (YZ ⟨[3,5,7,11,12],[],[],[],[],[],[],[],[],[],[3,4,5,6,8,9,11,13,14,15,16,17,18,20,22,23,24]⟩) rfl CD Go.Eng.hm rfl Tryz.func8 (by kernel_rfl) rfl (Nz rfl) (by kernel_rfl) ?_;refine Xi .pure (Xi _ (Yi o9 ?_));refine Xi ⟨[(1,sl AE roots),(3,.ref 3 0),(5,.ref 5 0)],[(3,.ro (Ic x ifs)),(5,.ro (Bu w))],Aa⟩ (Yi ⟨Z3,Z2,Fh,Tv⟩ ?_)
 refine Yi (Nz rfl) ?_;refine Yi (Nz rfl) ?_;refine BH (Bt (DX x 16&&D5 w)) (fun h1=>?_) (fun h1=>?_)
 ·have h1:(DX x 16&&D5 w)=true:=h1;refine Xi .pure (Xi _ (Yi (cb h1 (pB x ifs w l5 hW)) ?_));refine BH (Bt (Et roots)) (fun h2=>?_) (fun h2=>?_)
  ·have h2:(Et roots)=true:=h2;refine Xi .pure (Xi _ (Yi (cb h2 lY) ?_));refine Xi ⟨[(1,sl AE roots),(3,.ref 3 0),(5,.ref 5 0)],[(3,.ro (Ic x ifs)),(5,.ro (Bu w))],Aa⟩ (Yi ⟨Z3,Z2,Fh,Tv⟩ ?_)
   refine Yi (Nz rfl) ?_;refine Yi (Nz rfl) ?_;refine Xi .pure (Xi _ (Yi GK ?_));refine Yi (Nz rfl) ?_;refine Xi ⟨[(1,sl AE roots),(3,.ref 3 0),(5,.ref 5 0),(7,.ref 7 0),(8,vi 0)],[(3,.ro (Ic x ifs)),(5,.ro (Bu w)),(7,.ro (Ic y ifs))],Aa⟩ (Yi ⟨Z5,Z3,Fh,Tv⟩ ?_)
   refine Yi (fun h=>absurd h (by decide)) (fun _=>?_);refine Xi ⟨[(1,sl AE roots),(3,.ref 3 0),(5,.ref 5 0),(7,.ref 7 0)],[(3,.ro (Ic x ifs)),(5,.ro (Bu w)),(7,.ro (Ic y ifs))],Aa⟩ (Yi ⟨Z4,Z3,Fh,Tv⟩ ?_)
   refine Yi (Nz rfl) ?_;refine Xi .pure (Xi _ (Yi V8 ?_));refine Xi ⟨[(3,.ref 3 0),(5,.ref 5 0),(7,.ref 7 0),(8,vi c),(9,.slice .none [])],[(3,.ro (Ic x ifs)),(5,.ro (Bu w)),(7,.ro (Ic y ifs))],Aa⟩ (Yi ⟨Z5,Z3,Fh,Tv⟩ ?_)
   refine Yi (fun h3=>?_) (fun h3=>?_)
   ·have h3:(c:Int)≠(0:Int):=h3;refine Yi (fun _=>?_) (fun h=>absurd (by decide) h);exact .refl _
   have h3:(c:Int)=(0:Int):=Bn h3;exact absurd h3 ma
  have h2:(Et roots)=false:=h2;refine Xi .pure (Xi _ (Yi (cb h2 lY) ?_));refine Xi ⟨[],[],Aa⟩ (Yi ⟨Tv,Tv,Fh,Tv⟩ ?_)
  exact .refl _
 have h1:(DX x 16&&D5 w)=false:=h1;refine Xi .pure (Xi _ (Yi (cb h1 (pB x ifs w l5 hW)) ?_));refine Xi ⟨[],[],Aa⟩ (Yi ⟨Tv,Tv,Fh,Tv⟩ ?_)
 exact .refl _
theorem rC(x:List Rl)(ifs:List (List AV))(roots:List Rq)(w:Wk)(hL:Z0 x roots)(hW:LO w)(Zg:Ci ifs)(fY:∀c∈ifs,c.length=5)(Zl:x.length≤1048576)(k:(Dz x w).2=0)(s:Rr (Dz x w).1 roots=0):PC 8 [JP x ifs,sl AE roots,.agg (Bu w)] (vb true):=by
 have s9:RM x:=fun r hr=>⟨(hL.rel r hr).1,fun q hq=>((hL.rel r hr).2.2 q hq).1⟩;have l5:Z0 x []:=⟨hL.ix,AL _,hL.rel,fun q hq=>by cases hq⟩;have yD:=hW.rep;have kH:=hL.x;have GK:=tf x ifs w kH (by omega) (fun r hr=>(hL.rel r hr).1) hW.few hW.rq Zg fY;unfold KR at GK;have lY:=qa roots hL.rs;have hm:=QD k;have od:=QC kH hW;have mv:=UC s9 hW;rw[k,Aw rfl]at GK;obtain⟨y,vW⟩:∃y,y=(Dz x w).1:=⟨_,rfl⟩;rw[←vW]at GK hm od mv s;have GK:PC 11 [JP x ifs,.agg (Bu w)] (.tup [JP y ifs,vi 0]):=GK;have V8:=tv y ifs roots od hL.rq;have hs:=iP s;rw[s]at V8;obtain⟨S,hS⟩:∃S,S=Rp y roots:=⟨_,rfl⟩;rw[←hS]at V8 hs;have hSl:S.length≤256:=AU hs.2.1 mv.2;have hfy (z:Sl):=uw y ifs z.path z.ver (c84 y ifs od) od;have hfx (z:Sl):=uw x ifs z.path z.ver (c84 x ifs kH) kH;have fT (z:Sl):PC 32 [.agg [sl Ah w.rep,.v (.slice none 0 0)],vs z.path,.agg (IG z.ver)] (Vh (Ec w.rep z)) :=
  (uw w.rep [] z.path z.ver (c84 w.rep [] hW.few.rep) hW.few.rep).args ⟨.agg ⟨.refl _,.nil,trivial⟩,.refl _,.refl _,trivial⟩
 refine EU (YZ ⟨[3,5,7,11,12],[],[],[],[],[],[],[],[],[],[3,4,5,6,8,9,11,13,14,15,16,17,18,20,22,23,24]⟩) rfl CD Go.Eng.hm rfl Tryz.func8 (by kernel_rfl) rfl (Nz rfl) (by kernel_rfl) ?_;refine Xi .pure (Xi _ (Yi o9 ?_));refine Xi ⟨[(1,sl AE roots),(3,.ref 3 0),(5,.ref 5 0)],[(3,.ro (Ic x ifs)),(5,.ro (Bu w))],Aa⟩ (Yi ⟨Z3,Z2,Fh,Tv⟩ ?_)
 refine Yi (Nz rfl) ?_;refine Yi (Nz rfl) ?_;refine BH (Bt (DX x 16&&D5 w)) (fun h1=>?_) (fun h1=>?_)
 ·have h1:(DX x 16&&D5 w)=true:=h1;refine Xi .pure (Xi _ (Yi (cb h1 (pB x ifs w l5 hW)) ?_));refine BH (Bt (Et roots)) (fun h2=>?_) (fun h2=>?_)
  ·have h2:(Et roots)=true:=h2;refine Xi .pure (Xi _ (Yi (cb h2 lY) ?_));refine Xi ⟨[(1,sl AE roots),(3,.ref 3 0),(5,.ref 5 0)],[(3,.ro (Ic x ifs)),(5,.ro (Bu w))],Aa⟩ (Yi ⟨Z3,Z2,Fh,Tv⟩ ?_)
   refine Yi (Nz rfl) ?_;refine Yi (Nz rfl) ?_;refine Xi .pure (Xi _ (Yi GK ?_));refine Yi (Nz rfl) ?_;refine Xi ⟨[(1,sl AE roots),(3,.ref 3 0),(5,.ref 5 0),(7,.ref 7 0),(8,vi 0)],[(3,.ro (Ic x ifs)),(5,.ro (Bu w)),(7,.ro (Ic y ifs))],Aa⟩ (Yi ⟨Z5,Z3,Fh,Tv⟩ ?_)
   refine Yi (fun h=>absurd h (by decide)) (fun _=>?_);refine Xi ⟨[(1,sl AE roots),(3,.ref 3 0),(5,.ref 5 0),(7,.ref 7 0)],[(3,.ro (Ic x ifs)),(5,.ro (Bu w)),(7,.ro (Ic y ifs))],Aa⟩ (Yi ⟨Z4,Z3,Fh,Tv⟩ ?_)
   refine Yi (Nz rfl) ?_;refine Xi .pure (Xi _ (Yi V8 ?_));refine Xi ⟨[(3,.ref 3 0),(5,.ref 5 0),(7,.ref 7 0),(8,vi 0),(9,sl Ae S)],[(3,.ro (Ic x ifs)),(5,.ro (Bu w)),(7,.ro (Ic y ifs))],Aa⟩ (Yi ⟨Z5,Z3,Fh,Tv⟩ ?_)
   refine Yi (fun h=>absurd h (by decide)) (fun _=>?_);refine Xi ⟨[(3,.ref 3 0),(5,.ref 5 0),(7,.ref 7 0),(9,sl Ae S)],[(3,.ro (Ic x ifs)),(5,.ro (Bu w)),(7,.ro (Ic y ifs))],Aa⟩ (Yi ⟨Z4,Z3,Fh,Tv⟩ ?_)
   refine Xi {q:Nat // q≤S.length} (Xi (fun q=>⟨[(3,.ref 3 0),(5,.ref 5 0),(7,.ref 7 0),(46,sl Ae S),(47,vi (S.map Ae).length),(48,vi q.1)],[(3,.ro (Ic x ifs)),(5,.ro (Bu w)),(7,.ro (Ic y ifs))],Aa⟩) (Xi (fun q=>S.length-q.1) (Yi (Xi ⟨0,AL _⟩ ?_) ?_)))
   ·exact⟨Z6,Z3,Fh,Tv⟩
   intro⟨i,i1⟩;have i1:i≤S.length:=i1;refine Yi (fun h3=>?_) (fun h3=>?_)
   ·have h3:(i:Int)<((S.map Ae).length:Int):=h3;have n3:=Ka h3;refine CK (kz hm (hs.1 _ (Ap (Ka h3)))) (fun ra hz=>?_);have nX:=Xq hm.check hz.fy;refine Xi ⟨[(3,.ref 3 0),(5,.ref 5 0),(7,.ref 7 0),(46,sl Ae S),(47,vi (S.map Ae).length),(48,vi i)],[(3,.ro (Ic x ifs)),(5,.ro (Bu w)),(7,.ro (Ic y ifs))],Aa⟩ (Yi ⟨Z6,Z3,Fh,Tv⟩ ?_)
    refine Xi (Ae S[i]) (Yi (OO n3) (Yi rfl ?_));refine Yi (Nz rfl) ?_;refine Yi (Nz rfl) ?_;refine Xi ⟨[(3,.ref 3 0),(5,.ref 5 0),(7,.ref 7 0),(11,.ref 11 0),(46,sl Ae S),(47,vi (S.map Ae).length),(48,vi i)],[(3,.ro (Ic x ifs)),(5,.ro (Bu w)),(7,.ro (Ic y ifs)),(11,.ro (Ae S[i]))],Aa⟩ (Yi ⟨Z7,Z4,Fh,Tv⟩ ?_)
    refine Yi (Nz rfl) ?_;refine Xi .pure (Xi _ (Yi (lR false (ii w.exc S[i] hW.few.exc) hz.ex) ?_));refine Xi .pure (Xi _ (Yi (lR false (wi (fF:=31) (caps:=[.cptr (Ae S[i])]) (fun c hc=>by obtain rfl:=Am.1 hc;intro h;rfl) w.pin (fun p=>decide (p.path=S[i].path)&&decide (p≠S[i])) (fun p _=>o31 p S[i]) hW.few.pin) hz.np) ?_));refine Xi ⟨[(3,.ref 3 0),(5,.ref 5 0),(7,.ref 7 0),(11,.ref 11 0),(46,sl Ae S),(47,vi (S.map Ae).length),(48,vi i)],[(3,.ro (Ic x ifs)),(5,.ro (Bu w)),(7,.ro (Ic y ifs)),(11,.ro (Ae S[i]))],Aa⟩ (Yi ⟨Z7,Z4,Fh,Tv⟩ ?_)
    refine Yi (Nz rfl) ?_;refine Yi (Nz rfl) ?_;refine Xi .pure (Xi _ (Yi (lW (hfy S[i]) hz.fy) ?_));refine Yi (Nz rfl) ?_;refine Xi ⟨[(3,.ref 3 0),(5,.ref 5 0),(7,.ref 7 0),(11,.ref 11 0),(12,.ref 12 0),(13,vb true),(46,sl Ae S),(47,vi (S.map Ae).length),(48,vi i)],[(3,.ro (Ic x ifs)),(5,.ro (Bu w)),(7,.ro (Ic y ifs)),(11,.ro (Ae S[i])),(12,.ro (Ah ra))],Aa⟩ (Yi ⟨Z9,Z5,Fh,Tv⟩ ?_)
    refine Yi (Nz rfl) ?_;refine BH (dh (Ec w.rep S[i])) (fun h4=>?_) (fun h4=>?_)
    ·refine CK h4 (fun rc h4=>?_);have qG:=(fT S[i]);rw[h4]at qG;refine Xi .pure (Xi _ (Yi qG ?_));refine Yi (Nz rfl) ?_;refine Xi ⟨[(3,.ref 3 0),(5,.ref 5 0),(7,.ref 7 0),(11,.ref 11 0),(12,.ref 12 0),(13,vb true),(14,.ref 14 0),(15,vb true),(46,sl Ae S),(47,vi (S.map Ae).length),(48,vi i)],[(3,.ro (Ic x ifs)),(5,.ro (Bu w)),(7,.ro (Ic y ifs)),(11,.ro (Ae S[i])),(12,.ro (Ah ra)),(14,.cells (Ah rc))],Aa⟩ (Yi ⟨Z11,Z6,Fh,Tv⟩ ?_)
     refine Xi ⟨[(3,.ref 3 0),(5,.ref 5 0),(7,.ref 7 0),(11,.ref 11 0),(12,.ref 12 0),(13,vb true),(14,.ref 14 0),(15,vb true),(46,sl Ae S),(47,vi (S.map Ae).length),(48,vi i)],[(3,.ro (Ic x ifs)),(5,.ro (Bu w)),(7,.ro (Ic y ifs)),(11,.ro (Ae S[i])),(12,.ro (Ah ra)),(14,.cells (Ah rc))],Aa⟩ (Yi ⟨Z11,Z6,Fh,Tv⟩ ?_)
     refine Yi (Nz rfl) ?_;refine BH (Bt (decide (S[i]∈w.pin))) (fun h5=>?_) (fun h5=>?_)
     ·have h5:(decide (S[i]∈w.pin))=true:=h5;refine Xi .pure (Xi _ (Yi (cb h5 (ii w.pin S[i] hW.few.pin)) ?_));refine Yi (Nz rfl) ?_;refine Xi ⟨[(3,.ref 3 0),(5,.ref 5 0),(7,.ref 7 0),(12,.ref 12 0),(13,vb true),(14,.ref 14 0),(15,vb true),(46,sl Ae S),(47,vi (S.map Ae).length),(48,vi i)],[(3,.ro (Ic x ifs)),(5,.ro (Bu w)),(7,.ro (Ic y ifs)),(12,.ro (Ah ra)),(14,.cells [vs rc.path,vi rc.ver.a,vi rc.ver.b,vi rc.ver.c,sl AE rc.reqs,vs rc.arch,vs rc.ifc,vs rc.cert,vb false])],Aa⟩ (Yi ⟨Z10,Z5,Fh,Tv⟩ ?_)
      refine Yi (Nz rfl) ?_;refine Yi (Nz rfl) ?_;refine Xi .pure (Xi _ (Yi (Wy ((hz.rep rc h4).1 (Bq h5)) (mv.1 _ nX.1)) ?_));refine Xi ⟨[(3,.ref 3 0),(5,.ref 5 0),(7,.ref 7 0),(46,sl Ae S),(47,vi (S.map Ae).length),(48,vi i)],[(3,.ro (Ic x ifs)),(5,.ro (Bu w)),(7,.ro (Ic y ifs))],Aa⟩ (Yi ⟨Z6,Z3,Fh,Tv⟩ ?_)
      refine Yi (Ii i (by omega)) ?_;refine Xi ⟨i+1,n3⟩ ?_;exact⟨Dl S.length i (by omega),Z6,Z3,Fh,Tv⟩
     have h5:(decide (S[i]∈w.pin))=false:=h5;refine Xi .pure (Xi _ (Yi (cb h5 (ii w.pin S[i] hW.few.pin)) ?_));refine Xi ⟨[(3,.ref 3 0),(5,.ref 5 0),(7,.ref 7 0),(12,.ref 12 0),(13,vb true),(14,.ref 14 0),(15,vb true),(46,sl Ae S),(47,vi (S.map Ae).length),(48,vi i)],[(3,.ro (Ic x ifs)),(5,.ro (Bu w)),(7,.ro (Ic y ifs)),(12,.ro (Ah ra)),(14,.cells (Ah rc))],Aa⟩ (Yi ⟨Z10,Z5,Fh,Tv⟩ ?_)
     refine Yi (Nz rfl) ?_;refine Yi (Nz rfl) ?_;refine Xi .pure (Xi _ (Yi (Wy ((hz.rep rc h4).2 (FZ h5)) (mv.1 _ nX.1)) ?_));refine Xi ⟨[(3,.ref 3 0),(5,.ref 5 0),(7,.ref 7 0),(46,sl Ae S),(47,vi (S.map Ae).length),(48,vi i)],[(3,.ro (Ic x ifs)),(5,.ro (Bu w)),(7,.ro (Ic y ifs))],Aa⟩ (Yi ⟨Z6,Z3,Fh,Tv⟩ ?_)
     refine Yi (Ii i (by omega)) ?_;refine Xi ⟨i+1,n3⟩ ?_;exact⟨Dl S.length i (by omega),Z6,Z3,Fh,Tv⟩
    have qG:=(fT S[i]);rw[h4]at qG;refine Xi .pure (Xi _ (Yi qG ?_));refine Yi (Nz rfl) ?_;refine Xi ⟨[(3,.ref 3 0),(5,.ref 5 0),(7,.ref 7 0),(11,.ref 11 0),(12,.ref 12 0),(13,vb true),(14,.ref 14 0),(15,vb false),(46,sl Ae S),(47,vi (S.map Ae).length),(48,vi i)],[(3,.ro (Ic x ifs)),(5,.ro (Bu w)),(7,.ro (Ic y ifs)),(11,.ro (Ae S[i])),(12,.ro (Ah ra)),(14,.cells [vs ⟨#[]⟩,vi 0,vi 0,vi 0,.v (.slice none 0 0),vs ⟨#[]⟩,vs ⟨#[]⟩,vs ⟨#[]⟩,vb false])],Aa⟩ (Yi ⟨Z11,Z6,Fh,Tv⟩ ?_)
    refine Yi (Nz rfl) ?_;refine Yi (Nz rfl) ?_;refine CK (hz.src h4) (fun rb hb=>?_);refine Xi .pure (Xi _ (Yi (lW (hfx S[i]) hb.1) ?_));refine Yi (Nz rfl) ?_;refine Xi ⟨[(3,.ref 3 0),(5,.ref 5 0),(7,.ref 7 0),(11,.ref 11 0),(12,.ref 12 0),(13,vb true),(14,.ref 14 0),(15,vb true),(46,sl Ae S),(47,vi (S.map Ae).length),(48,vi i)],[(3,.ro (Ic x ifs)),(5,.ro (Bu w)),(7,.ro (Ic y ifs)),(11,.ro (Ae S[i])),(12,.ro (Ah ra)),(14,.cells (Ah rb))],Aa⟩ (Yi ⟨Z11,Z6,Fh,Tv⟩ ?_)
    refine Yi (Nz rfl) ?_;refine BH (Bt (decide (S[i]∈w.pin))) (fun h8=>?_) (fun h8=>?_)
    ·have h8:(decide (S[i]∈w.pin))=true:=h8;refine Xi .pure (Xi _ (Yi (cb h8 (ii w.pin S[i] hW.few.pin)) ?_));refine Yi (Nz rfl) ?_;refine Xi ⟨[(3,.ref 3 0),(5,.ref 5 0),(7,.ref 7 0),(12,.ref 12 0),(13,vb true),(14,.ref 14 0),(15,vb true),(46,sl Ae S),(47,vi (S.map Ae).length),(48,vi i)],[(3,.ro (Ic x ifs)),(5,.ro (Bu w)),(7,.ro (Ic y ifs)),(12,.ro (Ah ra)),(14,.cells [vs rb.path,vi rb.ver.a,vi rb.ver.b,vi rb.ver.c,sl AE rb.reqs,vs rb.arch,vs rb.ifc,vs rb.cert,vb false])],Aa⟩ (Yi ⟨Z10,Z5,Fh,Tv⟩ ?_)
     refine Yi (Nz rfl) ?_;refine Yi (Nz rfl) ?_;refine Xi .pure (Xi _ (Yi (Wy (hb.2.1 (Bq h8)) (mv.1 _ nX.1)) ?_));refine Xi ⟨[(3,.ref 3 0),(5,.ref 5 0),(7,.ref 7 0),(46,sl Ae S),(47,vi (S.map Ae).length),(48,vi i)],[(3,.ro (Ic x ifs)),(5,.ro (Bu w)),(7,.ro (Ic y ifs))],Aa⟩ (Yi ⟨Z6,Z3,Fh,Tv⟩ ?_)
     refine Yi (Ii i (by omega)) ?_;refine Xi ⟨i+1,n3⟩ ?_;exact⟨Dl S.length i (by omega),Z6,Z3,Fh,Tv⟩
    have h8:(decide (S[i]∈w.pin))=false:=h8;refine Xi .pure (Xi _ (Yi (cb h8 (ii w.pin S[i] hW.few.pin)) ?_));refine Xi ⟨[(3,.ref 3 0),(5,.ref 5 0),(7,.ref 7 0),(12,.ref 12 0),(13,vb true),(14,.ref 14 0),(15,vb true),(46,sl Ae S),(47,vi (S.map Ae).length),(48,vi i)],[(3,.ro (Ic x ifs)),(5,.ro (Bu w)),(7,.ro (Ic y ifs)),(12,.ro (Ah ra)),(14,.cells (Ah rb))],Aa⟩ (Yi ⟨Z10,Z5,Fh,Tv⟩ ?_)
    refine Yi (Nz rfl) ?_;refine Yi (Nz rfl) ?_;refine Xi .pure (Xi _ (Yi (Wy (hb.2.2 (FZ h8)) (mv.1 _ nX.1)) ?_));refine Xi ⟨[(3,.ref 3 0),(5,.ref 5 0),(7,.ref 7 0),(46,sl Ae S),(47,vi (S.map Ae).length),(48,vi i)],[(3,.ro (Ic x ifs)),(5,.ro (Bu w)),(7,.ro (Ic y ifs))],Aa⟩ (Yi ⟨Z6,Z3,Fh,Tv⟩ ?_)
    refine Yi (Ii i (by omega)) ?_;refine Xi ⟨i+1,n3⟩ ?_;exact⟨Dl S.length i (by omega),Z6,Z3,Fh,Tv⟩
   have h3:¬((i:Int)<((S.map Ae).length:Int)):=h3;have n3:=KC h3;exact .refl _
  have h2:(Et roots)=false:=h2;refine Xi .pure (Xi _ (Yi (cb h2 lY) ?_));refine Xi ⟨[],[],Aa⟩ (Yi ⟨Tv,Tv,Fh,Tv⟩ ?_)
  exact .refl _
 have h1:(DX x 16&&D5 w)=false:=h1;refine Xi .pure (Xi _ (Yi (cb h1 (pB x ifs w l5 hW)) ?_));refine Xi ⟨[],[],Aa⟩ (Yi ⟨Tv,Tv,Fh,Tv⟩ ?_)
 exact .refl _
theorem v8(x:List Rl)(ifs:List (List AV))(roots:List Rq)(w:Wk)(hL:Z0 x roots)(hW:LO w)(Zg:Ci ifs)(fY:∀c∈ifs,c.length=5)(Zl:x.length≤1048576):PC 8 [JP x ifs,sl AE roots,.agg (Bu w)] (vb true):=by
 by_cases k:(Dz x w).2=0
 ·by_cases s:Rr (Dz x w).1 roots=0
  ·exact rC x ifs roots w hL hW Zg fY Zl k s
  ·exact rA x ifs roots w hL hW Zg fY Zl k s
 ·exact rz x ifs roots w hL hW Zg fY Zl k
end Go.Eng
