/- Lemmas for the claims of this seat, without a condition: part 26 (S8d, S8e, S11, S12, S13, S14, S16, S18, R24, C74, R25, R26, R27, R28, R29, R30, R31). -/
import Derived.Test.YtddfphmpfnmknaaGreatDoorFA25
import Derived.Test.YtddfphmpfnmknaaGreatDoorFA04
set_option maxHeartbeats 8000000
namespace Go.Eng
open Go.Proofs
theorem w8(x:List Rl)(roots:List Rq)(C A:List (Value×AV))(n:Nat)(s:SS)(dec:List Cd)(st:List (List Sk))(p:ByteArray)(n0:Nd)(l:List Nd)(V:AV)(cs:List Cd)(R O:JC)(hL:tq x roots C A n dec p n0 l V cs)(hs:JD x roots s)(Jl:st.length=dec.length)
  (Rg:A3 Tryz.prog 87 [.ref 1000 0] (Ai (I4 roots C A s dec st) Ab) fun r h'=>r=.tup [vs p,sl A9 (n0::l)]∧h'=Ai (I4 roots C A s dec st) Ab)
  (qy:cs=[]) (uw:∀a,(Value.string p,a)∉C) (hR:DC (CB x roots n) x p (n0::l) n0 dec st cs s [] []=R) (ao:O=R) :
  A3 Tryz.prog 65 [.ref 1000 0] (Ai (I4 roots C A s dec st) Ab) (YK roots C A O):=by
 obtain⟨hx,hr,hdl,hcl,hcs,hnl,hnq,hnp,hex,hcx,hcq,hcp_,hcr,hcs_,hkey,hinf0,⟨ql,qm,qn⟩,ih⟩:=hL;have hdl:dec.length≤256:=hdl;have hcl:cs.length≤256:=hcl;have Jl:st.length=dec.length:=Jl;have xV:∀(i:Nat) (h:i<cs.length),cs[i]∈BN x p:=fun i h=>by rw[←hcs];exact AC h
 have pf:∀(i:Nat) (h:i<cs.length),CM (AI (dec++[cs[i]])):=fun i h=>by unfold CM AI;rw[Lm,Ad];simp;omega
 clear hcs
 refine BS (KV ⟨[9],[(6,1),(7,3),(145,1)],[],[],[],[],[],[],[],[(300001,500091000),(300026,500091000),(300029,500091000)],[1,2,5,10,11,13,14,15,16,17,19,21,22,23,24,25,26,28,29,31,32,33,35]⟩) [(1000,1000),(1001,1001),(1002,1002),(1003,1003),(1004,1004),(500,2000)] rfl Ck hm rfl Tryz.func65 (by kernel_rfl) rfl (Nz rfl) (by kernel_rfl) rfl ?_;refine Yi (show st.length=(st.map AR).length by simp) ?_;refine Xi ⟨[(0,.ref 1000 0)],[(500,.arr 1 (st.map AR)),(1000,.cells (srM roots C A s dec 500 st.length)),(1001,.tok 6 s.infs.length),(1002,.tok 1 s.drv.length),(1003,.map DS (DW 0 s.infs)),(1004,.dead)],Ab⟩ (Yi ⟨Z1,Z6,Fh,Aw (by kernel_rfl)⟩ ?_)
 refine Xi (.gen YJ 0) (Yi rfl (A3.imp Rg ?_));intro v1 g1 q1;have ld:=q1.1;have lg:=q1.2;subst ld;subst lg;refine Xi ⟨[(0,.ref 1000 0),(4,vs p),(5,sl A9 (n0::l))],[(500,.arr 1 (st.map AR)),(1000,.cells (srM roots C A s dec 500 st.length)),(1001,.tok 6 s.infs.length),(1002,.tok 1 s.drv.length),(1003,.map DS (DW 0 s.infs)),(1004,.dead)],Ab⟩ (Yi ⟨Z3,Z6,Fh,Aw (by kernel_rfl)⟩ ?_)
 refine Yi (fun h2=>?_) (fun h2=>?_)
 ·have h2:(((n0::l).map A9).length:Int)=(0:Int):=h2;exact absurd h2 (by simp;omega)
 have h2:¬((((n0::l).map A9).length:Int)=(0:Int)):=h2;refine Xi ⟨[(0,.ref 1000 0),(4,vs p),(5,sl A9 (n0::l)),(6,.slice (.id 6 1) [])],[(6,.tok 1 0),(500,.arr 1 (st.map AR)),(1000,.cells (srM roots C A s dec 500 st.length)),(1001,.tok 6 s.infs.length),(1002,.tok 1 s.drv.length),(1003,.map DS (DW 0 s.infs)),(1004,.dead)],Ab⟩ (Yi ⟨Z4,Z7,Fh,Aw (by kernel_rfl)⟩ ?_)
 refine Yi (fun a ha=>?_) (fun Ri=>?_)
 ·exact absurd ha (uw a)
 refine Xi {q:Nat×SS×List Nat×List Sk // q.1≤cs.length∧DC (CB x roots n) x p (n0::l) n0 dec st (cs.drop q.1) q.2.1 q.2.2.1 q.2.2.2=R∧JD x roots q.2.1∧(∀r∈q.2.2.1,r<q.2.1.drv.length)∧q.2.2.1.length≤q.1∧q.2.2.2.length≤q.1} (Xi (fun q=>⟨[(0,.ref 1000 0),(4,vs p),(5,sl A9 (n0::l)),(6,.slice (.id 6 1) (q.1.2.2.1.map BJ)),(7,.slice (.id 7 3) (q.1.2.2.2.map BL)),(32,.v (.slice none 0 0)),(33,vi 0),(34,vi q.1.1)],[(6,.tok 1 q.1.2.2.1.length),(7,.tok 3 q.1.2.2.2.length),(500,.arr 1 (st.map AR)),(1000,.cells (srM roots C A q.1.2.1 dec 500 st.length)),(1001,.tok 6 q.1.2.1.infs.length),(1002,.tok 1 q.1.2.1.drv.length),(1003,.map DS (DW 0 q.1.2.1.infs)),(1004,.dead)],Ab⟩) (Xi (fun q=>cs.length-q.1.1) (Yi (Xi ⟨(0,s,[],[]),AJ _,hR,hs,fun r h=>(by cases h),Al _,Al _⟩ ?_) ?_)))
 ·exact⟨Z8,Z8,Fh,Aw (by kernel_rfl)⟩
 intro⟨⟨i,S,rs,sk⟩,j1,j2,j3,j4,j5,j6⟩;have j1:i≤cs.length:=j1;have j2:DC (CB x roots n) x p (n0::l) n0 dec st (cs.drop i) S rs sk=R:=j2;have j3:JD x roots S:=j3;have j4:∀r∈rs,r<S.drv.length:=j4;have j5:rs.length≤i:=j5;have j6:sk.length≤i:=j6;have hw:=j3.dl;have fN:∀t∈S.drv,dT t:=fun t ht=>by have q:=j3.der.few hx hr t ht;exact⟨E6 q,q.2⟩
 refine Yi (fun h3=>?_) (fun h3=>?_)
 ·have h3:(i:Int)<(0:Int):=h3;exact absurd h3 (by have q:=j1;rw[qy,AF]at q;omega)
 have h3:¬((i:Int)<(0:Int)):=h3;refine Xi (A9 n0) (Yi (Yi (show(0:Int)≤0 by decide) rfl) (Yi rfl ?_));refine Yi (Nz rfl) ?_;refine Xi (.gen YJ 0) (Yi rfl (A3.imp (yT x roots C A S dec st p n0 rs V hx hr j3 hinf0 j4 (by omega) (hnq n0 (Aa ..)) (hnp n0 (Aa ..)) ql qm qn) ?_));intro v4 g4 q4;have wJ:=q4.1;have wK:=q4.2;subst wJ;subst wK;have hj:¬i<cs.length:=by rw[qy];simp
 have eR:R=⟨(DF x p n0 rs S).1,false,(DF x p n0 rs S).2,dec,st⟩:=by rw[←j2];exact eF hj
 exact Xi _ (Yi (.refl _) (Ni (ao.trans eR)))
theorem xa(roots:List Rq)(C A:List (Value×AV))(s:SS)(dec:List Cd)(st:List (List Sk))(p:ByteArray)(N:List Nd)(O:JC)(hN:N=[])
  (Rg:A3 Tryz.prog 87 [.ref 1000 0] (Ai (I4 roots C A s dec st) Ab) fun r h'=>r=.tup [vs p,sl A9 N]∧h'=Ai (I4 roots C A s dec st) Ab) (hO:O=⟨0,true,s,dec,st⟩) :
  A3 Tryz.prog 65 [.ref 1000 0] (Ai (I4 roots C A s dec st) Ab) (YK roots C A O):=by
 refine BS (KV ⟨[],[],[],[],[],[],[],[],[],[(300001,500091000)],[1,2,5,10,11,13,14,15,16,17,19,21,22,23,25,28,29,31,32,33,35]⟩) [(1000,1000),(1001,1001),(1002,1002),(1003,1003),(1004,1004),(500,2000)] rfl Ck hm rfl Tryz.func65 (by kernel_rfl) rfl (Nz rfl) (by kernel_rfl) rfl ?_;refine Yi (show st.length=(st.map AR).length by simp) ?_;refine Xi ⟨[(0,.ref 1000 0)],[(500,.arr 1 (st.map AR)),(1000,.cells (srM roots C A s dec 500 st.length)),(1001,.tok 6 s.infs.length),(1002,.tok 1 s.drv.length),(1003,.map DS (DW 0 s.infs)),(1004,.dead)],Ab⟩ (Yi ⟨Z1,Z6,Fh,Aw (by kernel_rfl)⟩ ?_)
 refine Xi (.gen YJ 0) (Yi rfl (A3.imp Rg ?_));intro v1 g1 q1;have ld:=q1.1;have lg:=q1.2;subst ld;subst lg;refine Xi ⟨[(0,.ref 1000 0),(4,vs p),(5,sl A9 N)],[(500,.arr 1 (st.map AR)),(1000,.cells (srM roots C A s dec 500 st.length)),(1001,.tok 6 s.infs.length),(1002,.tok 1 s.drv.length),(1003,.map DS (DW 0 s.infs)),(1004,.dead)],Ab⟩ (Yi ⟨Z3,Z6,Fh,Aw (by kernel_rfl)⟩ ?_)
 refine Yi (fun h2=>?_) (fun h2=>?_)
 ·have h2:((N.map A9).length:Int)=(0:Int):=h2;exact Xi _ (Yi (.refl _) (Ni (st:=st) hO))
 have h2:¬(((N.map A9).length:Int)=(0:Int)):=h2;exact absurd (by rw[hN];rfl) h2
section
variable {x:List Rl}{roots:List Rq}{p:ByteArray}
theorem Ig:∀(l:List Nat) {k:Nat} {s:SS},s.infs.Nodup→(B3 p l k s).2.infs.Nodup
 | [],_,_,h=>h
 |r::l,k,s,h=>by
  unfold B3;split
  ·exact h
  split
  ·exact Ig l h
  split
  ·exact Ig l h
  ·exact Ig l (H2 h)
theorem KM{needs:List Nd}{n0:Nd}{dec:List Cd}{st:List (List Sk)}{rec:List Cd→SS→List (List Sk)→JC}(Wn:∀c s st,s.infs.Nodup→(rec (dec++[c]) s st).ss.infs.Nodup) :
  ∀(cs:List Cd) {s:SS} {rs:List Nat} {sk:List Sk},s.infs.Nodup→(DC rec x p needs n0 dec st cs s rs sk).ss.infs.Nodup
 | [],s,rs,sk,h=>Ig _ (H2 (H2 h))
 |c::cs,s,rs,sk,h=>by
  have dY:∀(s' : SS) (k:Nat),s'.infs.Nodup→(In rec x p needs n0 dec st c cs rs sk k s').ss.infs.Nodup:=fun s' k h'=>by
   unfold In;split
   ·exact h'
   ·exact KM Wn cs h'
  rw[FO];split
  ·exact h
  cases needs.find? fun n=>!has n.rq.set c.place with
  |some n=>exact KM Wn cs (H2 h)
  |none =>
   dsimp only;cases Ns s.drv (AI (dec++[c]))with
   |some k=>exact dY s k h
   |none =>
    dsimp only;cases D0 dec c with
    |some n=>exact dY _ _ (H2 h)
    |none =>
     dsimp only;have h2:=Wn c s (st++[sk]) h;split
     ·exact h2
     split
     ·exact h2
     ·exact dY _ _ h2
theorem Pg:∀(n:Nat) {dec:List Cd} {s:SS} {st:List (List Sk)},s.infs.Nodup→(CB x roots n dec s st).ss.infs.Nodup
 |0,_,_,_,h=>h
 |n+1,dec,s,st,h=>by
  unfold CB;cases (EF roots dec).2 with
  |nil=>exact h
  |cons n0 l=>exact KM (fun c s st h=>Pg n h) _ h
structure tp(x:List Rl)(roots:List Rq)(C A:List (Value×AV)):Prop where
 hx:AQ x=0
 hr:BK roots=0
 fx:∀r∈x,JW r
 fr:∀q∈roots,N1 q
 c1:∀(p:ByteArray) (a:AV),(Value.string p,a)∈C→a=sl AA (BN x p)
 c2:∀p:ByteArray,(∀a,(Value.string p,a)∉C)→BN x p=[]
 c3:∀p:ByteArray,BN x p=[]→∀a,(Value.string p,a)∉C
 av:∀p:ByteArray,∃V,HV x A p V
theorem nl{dec:List Cd}(h:∀c∈dec,c.rel.reqs.length≤16):((dec.map fun c=>c.rel.reqs).flatten).length≤16*dec.length:=by
 induction dec with
 |nil=>simp
 |cons c dec ih =>
  rw[AL,Bv,Ad,Av]
  have:=h c (Aa ..)
  have:=ih fun d hd=>h d (Ag _ hd)
  omega
theorem ot{r:Rl}(h:RP r):0≤plc r.ver∧plc r.ver<1000000:=by rw[h.plc];exact Ju h.val
theorem cN(dec:List Cd):(EF roots dec).2.length≤(Dm roots dec).length:=by
 rw[Tj];cases Kx (HN roots dec) (AI dec)with
 |none=>simp
 |some q=>exact BA _ _
theorem yQ{C A:List (Value×AV)}(hE:tp x roots C A)(ns:yY roots C A):∀(n:Nat) {dec:List Cd} {s:SS} {st:List (List Sk)},Eg x dec→Hr roots dec→JD x roots s→s.full=false→FP x dec<n→st.length=dec.length →
  A3 Tryz.prog 65 [.ref 1000 0] (Ai (I4 roots C A s dec st) Ab) (YK roots C A (CB x roots n dec s st))
 |0,_,_,_,_,_,_,_,h,_=>by omega
 |n+1,dec,s,st,hd,cn,hs,hf,hn,Jl=>by
  have hx:=hE.hx;have hr:=hE.hr;have l8:=NG hx;have hdl:=Xg hd;have uX:dec.length≤256:=by have:=l8.1;omega
  have hrl:∀c∈dec,c.rel.reqs.length≤16:=fun c hc=>l8.2 _ (hd.cand c hc).1;have Rg:=ns s dec st (by omega) fun c hc=>Br (hrl c hc) (by decide);generalize hO:CB x roots (n+1) dec s st=O;obtain⟨N,hN⟩:∃N,N=(EF roots dec).2:=⟨_,rfl⟩;obtain⟨q,hq⟩:∃q,q=(EF roots dec).1:=⟨_,rfl⟩;rw[←hN,←hq]at Rg;have zF:N.length≤10000:=by
   have h1:=cN (roots:=roots) dec;have h2:(Dm roots dec).length=(HN roots dec).length:=by rw[←MD,Lm]
   have h3:=nl hrl;have h4:=Pb hr;rw[←hN]at h1;unfold HN at h2;rw[Ad]at h2;omega
  cases hNc:N with
  |nil =>
   rw[hNc]at hN Rg;refine xa roots C A s dec st q [] O rfl Rg ?_;rw[←hO];unfold CB;rw[←hN]
  |cons n0 l =>
   rw[hNc]at hN Rg;have hNx:=K6 hN.symm;rw[←hq]at hNx;have Rh:∀nd∈n0::l,nd∈Dm roots dec:=fun nd h=>((hNx.mem nd).1 h).1;have Gw:=(Co hx).1;have few:∀{E:List Cd},Eg x E→∀nd∈Dm roots E,CM nd.rq.set∧BR (nd.place+1):=fun zx nd h=>by
    rcases L8 h with ⟨k,r,h1,rfl⟩ | ⟨c,hc,k,r,h1,rfl⟩
    ·exact⟨(hE.fr r (Ar h1)).1,by unfold BR;show -9223372036854775808≤(0:Int)+1∧(0:Int)+1<9223372036854775808;decide⟩
    ·have h2:=zx.cand c hc;have h3:=ot (Gw _ h2.1);rw[←h2.2.2]at h3;exact⟨((hE.fx _ h2.1).2 r (Ar h1)).1,by unfold BR;show _≤c.place+1∧c.place+1<_;omega⟩
   have l6:∀c∈BN x q,Eg x (dec++[c])∧c.rel.path=q∧c.rel∈x:=fun c hc=>by
    obtain⟨c1,c2⟩:=IW hc;exact⟨hd.snoc c2 (by rw[c1];exact hNx.undone),c1,c2.1⟩
   have Fc:∀(i:Nat) (h:i<(BN x q).length),(BN x q)[i]∈BN x q:=fun i h=>AC h;obtain⟨V,hV⟩:=hE.av q
   have hL:tq x roots C A n dec q n0 l V (BN x q):={
    hx:=hx
    hr:=hr
    hdl:=uX
    hcl:=Br (UI x q) l8.1
    hcs:=rfl
    hnl:=by rw[hNc]at zF;omega
    hnq:=fun nd h=>(few hd nd (Rh nd h)).1
    hnp:=fun nd h=>(few hd nd (Rh nd h)).2
    hex:=fun i h nd hm hh=>by
     obtain⟨a,b,_⟩:=l6 _ (Fc i h);exact⟨(OR hx hr a (NL (Rh nd hm)) ⟨(BN x q)[i],by simp,b.trans ((hNx.mem nd).1 hm).2.symm,hh⟩).1,trivial⟩
    hcx:=fun i h nc hc=>by
     obtain⟨a,b,_⟩:=l6 _ (Fc i h);obtain⟨m1,m2⟩:=KR hc;exact⟨(OR hx hr a (ME m1) m2).1,trivial⟩
    hcq:=fun i h nc hm=>(few (l6 _ (Fc i h)).1 nc (ME hm)).1
    hcp_:=fun i h nc hm=>(few (l6 _ (Fc i h)).1 nc (ME hm)).2
    hcr:=fun i h=>by have:=l8.2 _ (l6 _ (Fc i h)).2.2;omega
    hcs_:=fun i h r hm=>((hE.fx _ (l6 _ (Fc i h)).2.2).2 r hm).1
    hkey:=fun i h=>by
     have b:=(l6 _ (Fc i h)).2.1;unfold AI;rw[Ay,Ay];show _=_++[[vs (BN x q)[i].rel.path,vi (BN x q)[i].rel.ver.a,vi (BN x q)[i].rel.ver.b,vi (BN x q)[i].rel.ver.c]];rw[b]
    hinf0:=(Rw hx hr hd (Rh n0 (Aa ..)) (.inl (by
     rw[((hNx.mem n0).1 (Aa ..)).2];exact Hy (by rw[FU];exact hNx.undone)))).inf
    hV:=hV
    ih:=fun c hc vA S D7 hl hS xO=>by
     obtain⟨a,b,c3⟩:=l6 c hc;obtain⟨k1,k2⟩:=OX.1 vA;obtain⟨_,c2⟩:=IW hc;have l5:=cn.snoc hNx b k1 k2;have dN:FP x (dec++[c])<n:=by have:=SB (dec:=dec) ⟨c2.1,c2.2.1⟩ (by rw[b];exact hNx.undone);omega
     have h1:=yQ hE ns n a l5 hS xO dN (st:=D7) (by rw[hl];simp);have h2:=Qd hx hr n a l5 hS.der xO dN (st:=D7);exact⟨h1,⟨h2.der,Pg n hS.nodup⟩,⟨h2.grow.len,fun e1 e2=>((h2.no e1).2.2 e2).1⟩,fun e1=>(h2.no e1).2.1⟩ }
   have hR:DC (CB x roots n) x q (n0::l) n0 dec st (BN x q) s [] []=O:=by
    rw[←hO]
    conv=>rhs;unfold CB
    rw[←hN,hq]
   by_cases hm:∀a,(Value.string q,a)∉C
   ·exact w8 x roots C A n s dec st q n0 l V (BN x q) O O hL hs Jl Rg (hE.c2 q hm) hm hR rfl
   ·exact w7 x roots C A n s dec st q n0 l V (BN x q) O O hL hs Jl Rg (hE.c1 q) hm hR rfl
end
theorem w9{x:List Rl}{roots:List Rq}{C A:List (Value×AV)}(hE:tp x roots C A)(n:Nat){dec:List Cd}{s:SS}{st:List (List Sk)}(h1:Eg x dec)(h2:Hr roots dec)(h3:JD x roots s)(h4:s.full=false)(h5:FP x dec<n)(h6:st.length=dec.length) :
  A3 Tryz.prog 65 [.ref 1000 0] (Ai (I4 roots C A s dec st) Ab) (YK roots C A (CB x roots n dec s st)) :=
 yQ hE (fun s dec st a b=>s64 roots C A s dec st (Br (Pb hE.hr) (by decide)) a b) n h1 h2 h3 h4 h5 h6
def DT(x:List Rl)(roots:List Rq):Bool:=decide (AQ x=0)&&decide (BK roots=0)
theorem tf(x:List Rl)(ifs:List (List AV))(roots:List Rq)(hx:∀r∈x,JW r)(hr:∀q∈roots,N1 q):PC 63 [.agg (Ic x ifs),sl AK roots] (vb (DT x roots)):=by
 refine Ps ⟨[2],[],[],[],[],[],[],[],[],[],[]⟩ Tryz.func63 rfl (Nz rfl) ?_;refine Yi (Nz rfl) ?_;refine Xi .pure (Xi _ (Yi (jC Ua x ifs hx) ?_));refine Yi (fun h1=>?_) (fun h1=>?_)
 ·have h1:((AQ x):Int)=(0:Int):=h1;refine Xi .pure (Xi _ (Yi (xw Ua roots hr) ?_));refine Yi (fun h2=>?_) (fun h2=>?_)
  ·have h2:((BK roots):Int)=(0:Int):=h2;exact .of_eq (show vb true=vb (DT x roots) by unfold DT;rw[h1,h2];rfl)
  have h2:¬(((BK roots):Int)=(0:Int)):=h2;exact .of_eq (show vb false=vb (DT x roots) by unfold DT;rw[Az h2,D8])
 have h1:¬(((AQ x):Int)=(0:Int)):=h1;exact .of_eq (show vb false=vb (DT x roots) by unfold DT;rw[Az h1];rfl)
abbrev QD(r:Rl):List AV:=AA ⟨plc r.ver,r⟩
abbrev Gm(y:List Rl)(p:ByteArray):List (List AV):=(y.filter fun r=>decide (r.path=p)).map QD
abbrev XD(y:List Rl)(q:ByteArray×Nat):Value×AV:=(.string q.1,.slice (.id (q.2+100) 10) (Gm y q.1))
abbrev It(y:List Rl):List (Value×AV):=(AO y []).zipIdx.map (XD y)
def F7(y:List Rl)(l:Nat):HO:=match(AO y [])[l]? with
 |some q=>.tok 10 (Gm y q).length
 |none=>.free
def I2(y:List Rl)(j:Nat):HO:=bif Nat.ble 100 j&&Nat.blt j 1000 then F7 y (j-100)else .free
theorem EZ(y:List Rl)(hy:y.length≤256)(l:Nat):I2 y (l+100)=F7 y l:=by
 unfold I2;rw[show Nat.ble 100 (l+100)=true by rw[CV];omega,Ey,Nat.add_sub_cancel]
 by_cases h:l+100<1000
 ·rw[show Nat.blt (l+100) 1000=true by rw[B9];exact h];rfl
 ·rw[show Nat.blt (l+100) 1000=false by rw[AM];intro hc;rw[B9]at hc;omega]
  have:=Hg y []
  rw[AF]at this;unfold F7;rw[A1 (by omega)];rfl
theorem j7(y:List Rl){j:Nat}(h:j<100):I2 y j=.free:=by
 unfold I2;rw[show Nat.ble 100 j=false by rw[AM];intro hc;rw[CV]at hc;omega];rfl
theorem Hf(y:List Rl)(r:Rl)(q:ByteArray):Gm (y++[r]) q=if r.path=q then Gm y q++[QD r]else Gm y q:=by
 unfold Gm;rw[De]
 by_cases h:r.path=q
 ·rw[Ao h,RL (by simpa using h)];simp
 ·rw[Ah h,RK (by simpa using h)];simp
section
variable {y:List Rl}{r:Rl}{k:Nat}
open Classical in
theorem fB(h:(AO y [])[k]?=some r.path):ER (It y) (.string r.path) (.slice (.id (k+100) 10) (Gm y r.path++[QD r]))=It (y++[r]):=by
 have hd:=EN y [] E9;have hm:XD y (r.path,k)∈It y:=Ak.2 ⟨_,Fw.2 h,rfl⟩;rw[X5 (a':=.slice (.id (k+100) 10) (Gm y r.path)) hm];unfold It;rw[Jb h,BB];refine A5 fun q hq=>?_;have hg:=Ik hq;obtain⟨q,j⟩:=q;show(if Value.string q=Value.string r.path then _ else _)=XD (y++[r]) (q,j);have hg:(AO y [])[j]?=some q:=hg
 by_cases he:q=r.path
 ·subst he
  have:j=k:=I8 hd hg h
  subst this;rw[Ao rfl];show _=(Value.string r.path,AV.slice (.id (j+100) 10) (Gm (y++[r]) r.path));rw[Hf,Ao rfl]
 ·rw[Ah (fun e=>he (by simpa using e))];show(Value.string q,AV.slice (.id (j+100) 10) (Gm y q))=(Value.string q,AV.slice (.id (j+100) 10) (Gm (y++[r]) q));rw[Hf,Ah (fun e=>he e.symm)]
theorem Yc(h:r.path∉AO y []):Gm y r.path=[]:=by
 have:y.filter (fun s=>decide (s.path=r.path))=[]:=by
  rw[Hj];intro s hs he;exact h ((Hh y [] r.path).2 (.inr ⟨s,hs,A2 he⟩))
 unfold Gm;rw[this];rfl
theorem UV(h:r.path∉AO y [])(a:AV):(Value.string r.path,a)∉It y:=by
 intro hc;obtain⟨q,h1,h2⟩:=Ak.1 hc;simp only[XD,FM,Value.string.injEq]at h2;exact h (by rw[←h2.1];exact Ar (Ik h1))
theorem fA(h:r.path∉AO y []):ER (It y) (.string r.path) (.slice (.id ((AO y []).length+100) 10) [QD r])=It (y++[r]):=by
 rw[L7 (fun a=>UV h a)];unfold It;rw[Ja h,List.zipIdx_append,Ay]
 congr 1
 ·refine A5 fun q hq=>?_;have hg:=Ik hq
  have:q.1≠r.path:=fun e=>h (by rw[←e];exact Ar hg)
  show(Value.string q.1,AV.slice (.id (q.2+100) 10) (Gm y q.1))=(Value.string q.1,AV.slice (.id (q.2+100) 10) (Gm (y++[r]) q.1));rw[Hf,Ah (fun e=>this e.symm)]
 ·show [_]=[(Value.string r.path,AV.slice (.id (0+(AO y []).length+100) 10) (Gm (y++[r]) r.path))];rw[Hf,Ao rfl,Yc h,Bg];rfl
theorem cc{p:ByteArray}{j:Nat}(h:(AO y [])[j]?=some p):(Value.string p,AV.slice (.id (j+100) 10) (Gm y p))∈It y∧∀b,(Value.string p,b)∈It y→b=AV.slice (.id (j+100) 10) (Gm y p):=by
 refine⟨Ak.2 ⟨(p,j),Fw.2 h,rfl⟩,fun b hb=>?_⟩;obtain⟨q,h1,h2⟩:=Ak.1 hb;simp only[XD,FM,Value.string.injEq]at h2;have hg:=Ik h1;rw[h2.1]at hg
 have:=I8 (EN y [] E9) hg h
 rw[←h2.2,h2.1,this]
theorem bm{p:ByteArray}{j:Nat}(h:(AO y [])[j]?=some p):F7 y j=.tok 10 (Gm y p).length:=by
 unfold F7;rw[h]
theorem iL(h:(AO y [])[k]?=some r.path)(l:Nat):(bif Nat.beq (l+100) (k+100)then HO.tok 10 ((Gm y r.path).length+1)else F7 y l)=F7 (y++[r]) l:=by
 by_cases he:l=k
 ·subst he;rw[show Nat.beq (l+100) (l+100)=true from CN _];unfold F7;rw[Jb h,h];show HO.tok 10 _=HO.tok 10 (Gm (y++[r]) r.path).length;rw[Hf,Ao rfl,Ad];rfl
 ·rw[show Nat.beq (l+100) (k+100)=false by rw[AM];intro hc;have:=AH hc;omega];show F7 y l=_;unfold F7;rw[Jb h];cases hq:(AO y [])[l]? with
  |none=>rfl
  |some q =>
   show HO.tok 10 (Gm y q).length=HO.tok 10 (Gm (y++[r]) q).length;rw[Hf,Ah];intro e;subst e;exact he (I8 (EN y [] E9) hq h)
theorem iK(h:r.path∉AO y [])(l:Nat):(bif Nat.beq (l+100) ((AO y []).length+100)then HO.tok 10 1 else F7 y l)=F7 (y++[r]) l:=by
 by_cases he:l=(AO y []).length
 ·subst he;rw[show Nat.beq ((AO y []).length+100) ((AO y []).length+100)=true from CN _];unfold F7;rw[Ja h];simp only[AY (Al _),Gg,A7];show HO.tok 10 1=HO.tok 10 (Gm (y++[r]) r.path).length;rw[Hf,Ao rfl,Yc h];rfl
 ·rw[show Nat.beq (l+100) ((AO y []).length+100)=false by rw[AM];intro hc;have:=AH hc;omega];show F7 y l=_;unfold F7;rw[Ja h]
  by_cases hl:l<(AO y []).length
  ·rw[AX hl,Ge hl];show HO.tok 10 (Gm y (AO y [])[l]).length=HO.tok 10 (Gm (y++[r]) (AO y [])[l]).length;rw[Hf,Ah];intro e;exact h (by rw[e];exact AC hl)
  ·rw[A1 (by omega),A1 (by rw[Ad];simp;omega)]
end
theorem Hx(y:List Rl){h:Nat→HO}(hh:∀l,h (l+100)=F7 y l):QJ h (It y)=true:=by
 refine PI fun p hp=>?_;obtain⟨q,h1,rfl⟩:=Ak.1 hp;show Rk h (q.2+100)=true;unfold Rk;rw[hh,bm (Ik h1)]
theorem Gv{y:List Rl}(hy:y.length≤256){h h' : Nat→HO}(hh:∀l,h (l+100)=F7 y l)(j:Nat):I2 y j=.free∨(h j=I2 y j∧XP h' (I2 y j)=true):=by
 by_cases hj:j<100
 ·exact .inl (j7 y hj)
 ·obtain⟨l,rfl⟩:∃l,j=l+100:=⟨j-100,by omega⟩
  right
  rw[EZ y hy];refine⟨hh l,?_⟩;unfold F7;cases (AO y [])[l]?<;>rfl
abbrev yR(x:List Rl):List Rl:=x.filter fun r=>!r.yanked
theorem Zv(x:List Rl)(p:ByteArray):Gm (yR x) p=(BN x p).map AA:=by
 unfold Gm BN;rw[List.filter_filter,BB]
 rfl
def mC(x:List Rl):List (Value×AV):=(AO (yR x) []).map fun p=>(.string p,sl AA (BN x p))
theorem gC{x:List Rl}{p:ByteArray}{a:AV}:(Value.string p,a)∈mC x↔p∈AO (yR x) []∧a=sl AA (BN x p):=by
 unfold mC;rw[Ak];constructor
 ·rintro⟨q,hq,e⟩
  injection e with e1 e2
  injection e1 with e1
  subst e1;exact⟨hq,e2.symm⟩
 ·rintro⟨h1,h2⟩
  exact⟨p,h1,by rw[h2]⟩
theorem UJ{x:List Rl}{p:ByteArray}:BN x p=[]↔p∉AO (yR x) []:=by
 rw[Hh];unfold BN;rw[D3,Hj];constructor
 ·rintro h (h1 | ⟨r,h1,h2⟩)
  ·cases h1
  ·obtain⟨h3,h4⟩:=BI.1 h1;exact h r h3 (by rw[Ax h2,h4];rfl)
 ·intro h r hr hc;rw[Af,As]at hc;exact h (.inr ⟨r,BI.2 ⟨hr,hc.2⟩,hc.1⟩)
theorem rk(x:List Rl):∀(p:ByteArray) (a:AV),(Value.string p,a)∈mC x→a=sl AA (BN x p):=fun _ _ h=>(gC.1 h).2
theorem rl(x:List Rl):∀p:ByteArray,(∀a,(Value.string p,a)∉mC x)→BN x p=[]:=fun _ h=>UJ.2 fun hp=>h _ (gC.2 ⟨hp,rfl⟩)
theorem rn(x:List Rl):∀p:ByteArray,BN x p=[]→∀a,(Value.string p,a)∉mC x:=fun _ h _ ha=>UJ.1 h (gC.1 ha).1
abbrev plN:RO:=⟨[2],[],[],[(52,[12])],[],[12],[50],[(53,(16,3,90,6)),(54,(16,4,91,1)),(55,(16,7,93,10)),(56,(16,8,94,4))],[],[(850013,13),(800013,10016),(810013,20016),(900013,10000000000+92000000+90016)],[5,7,8,9,11,12,13]⟩
abbrev kC(x:List Rl)(p:ByteArray):Value×AV:=(.string p,sl AA (BN x p))
abbrev kA(x:List Rl)(p:ByteArray):Value×AV:=(.string p,sl Aq (BZ x p))
theorem kH{x:List Rl}{l:List ByteArray}{kv:Value×AV}{NP : List (Value×AV)}(h:(l.map (kC x)).Perm (kv::NP)):∃t r,kv=kC x t∧NP=r.map (kC x)∧l.Perm (t::r):=by
 obtain⟨ps,h1,h2⟩:=Mb h l rfl;cases ps with
 |nil=>cases h2
 |cons t r =>
  rw[AL,Fv]at h2;exact⟨t,r,h2.1.symm,h2.2.symm,h1.symm⟩
abbrev srN(roots:List Rq)(C A:List (Value×AV)):List (Nat×HO) :=
 [(2000,.cells [sl AK roots,.cmap CP C,.cmap CP A,.slice (.id 2001 6) [],.slice (.id 2002 1) [],.mref 2003,vb false,.slice .none [],.slice .none [],.msl 2004 0]),(2001,.tok 6 0),(2002,.tok 1 0),(2003,.map DS []),(2004,.arr 1 [])]
theorem Wr{x:List Rl}{l:List ByteArray}{p:ByteArray}{a:AV}:(Value.string p,a)∈l.map (kA x)↔p∈l∧a=sl Aq (BZ x p):=by
 rw[Ak];constructor
 ·rintro⟨q,hq,e⟩
  injection e with e1 e2
  injection e1 with e1
  subst e1;exact⟨hq,e2.symm⟩
 ·rintro⟨h1,h2⟩
  exact⟨p,h1,by rw[h2]⟩
theorem aq(y:List Rl)(n:Nat):I2 y (n+1000)=.free:=by
 unfold I2;rw[show Nat.blt (n+1000) 1000=false by rw[AM];intro hc;rw[B9]at hc;omega,D8];rfl
theorem VY{h s:Nat→HO}(H:∀n,h (n+1000)=.free):∀j,1000≤j→j<2000→h j≠.free→s j≠.free:=fun j h1 _ hn=>by
 refine absurd (H (j-1000)) ?_;rw[show j-1000+1000=j by omega];exact hn
theorem jw{n k:Nat}(h:k<1000):Nat.beq (n+1000) k=false:=by
 rw[AM];intro hc;have:=AH hc;omega
theorem ZY{y:List Rl}{n k:Nat}{o:HO}(h:k<1000):(bif Nat.beq (n+1000) k then o else I2 y (n+1000))=.free:=by
 rw[jw h,aq];rfl
attribute [local irreducible] Ie
set_option maxRecDepth 30000 in
theorem w6(x:List Rl)(ifs:List (List AV))(roots:List Rq)(hx:∀r∈x,JW r)(h0:AQ x=0):A3 Tryz.prog 64 [F5 x ifs,sl AK roots] (Ai [] Ab) fun r h'=>∃l:List ByteArray,l.Perm (AO (yR x) [])∧r=.ref 2000 0∧h'=Ai (srN roots (mC x) (l.map (kA x))) Ab:=by
 have l8:x.length≤256:=(NG h0).1;refine BS (KV plN) [(16,2000),(90,2001),(91,2002),(14,2003),(92,2004)] rfl Ck hm rfl Tryz.func64 (by kernel_rfl) rfl (Nz rfl) (by kernel_rfl) rfl ?_;refine Xi 0 ?_;refine Xi 0 ?_;refine Xi 0 ?_;refine Xi {i:Nat // i≤x.length} (Xi (fun i=>⟨[(2,.ref 2 0),(5,.ref 16 0),(18,sl Aj x),(19,vi (x.map Aj).length),(20,vi i.1)],[(2,.ro (Ic x ifs)),(12,.mapU CP (It (yR (x.take i.1)))),(13,.map CP []),(14,.map DS []),(16,.cells [sl AK roots,.mref 12,.mref 13,.v (.slice none 0 0),.v (.slice none 0 0),.mref 14,vb false,.v (.slice none 0 0),.v (.slice none 0 0),.v (.slice none 0 0)])],I2 (yR (x.take i.1))⟩) (Xi (fun i=>x.length-i.1) (Yi (Xi ⟨0,AJ _⟩ ?_) ?_)))
 ·refine⟨Z5,Z5,fun j=>.inl ?_,Aw (by kernel_rfl)⟩;show I2 [] j=.free;unfold I2;cases (Nat.ble 100 j&&Nat.blt j 1000)<;>rfl
 intro⟨i,i1⟩;have i1:i≤x.length:=i1;have hq:∀k,(yR (x.take k)).length≤256:=fun k=>by
  have:=BA (fun r:Rl=>!r.yanked) (x.take k)
  rw[AB]at this;show(List.filter _ _).length≤256;omega
 refine Xi 0 ?_;refine Yi ?_ ?_
 ·intro h;have h:(i:Int)<(x.map Aj).length:=h;have h:i<x.length:=by simpa using h
  have hg:x[i]?=some x[i]:=Ge h;have Kt:x.take (i+1)=x.take i++[x[i]]:=by rw[Bq,hg];rfl
  refine Xi 0 ?_;refine Xi (Aj x[i]) (Yi (Yi (Nn i) (by simp[hg])) (Yi rfl ?_));refine Yi (Nz rfl) (Yi (Nz rfl) ?_);refine Xi ⟨[(2,.ref 2 0),(5,.ref 16 0),(7,.ref 7 0),(18,sl Aj x),(19,vi (x.map Aj).length),(20,vi i)],[(2,.ro (Ic x ifs)),(7,.cells (Aj x[i])),(12,.mapU CP (It (yR (x.take i)))),(13,.map CP []),(14,.map DS []),(16,.cells [sl AK roots,.mref 12,.mref 13,.v (.slice none 0 0),.v (.slice none 0 0),.mref 14,vb false,.v (.slice none 0 0),.v (.slice none 0 0),.v (.slice none 0 0)])],I2 (yR (x.take i))⟩ (Yi ?_ ?_)
  ·exact⟨Z6,⟨Zr,Zr,⟨rfl,Hx _ (EZ _ (hq _))⟩,Zr,Zr,Zr,Tv⟩,Gv (hq _) (EZ _ (hq _)),Aw (by kernel_rfl)⟩
  refine Xi 0 ?_;refine Yi (fun hy=>?_) (fun hy=>?_)
  ·have hy:x[i].yanked=true:=hy;have ey:yR (x.take (i+1))=yR (x.take i):=by
    unfold yR;rw[Kt,De,RK (by rw[hy];decide)];simp
   refine Xi ⟨[(2,.ref 2 0),(5,.ref 16 0),(18,sl Aj x),(19,vi (x.map Aj).length),(20,vi i)],[(2,.ro (Ic x ifs)),(12,.mapU CP (It (yR (x.take (i+1))))),(13,.map CP []),(14,.map DS []),(16,.cells [sl AK roots,.mref 12,.mref 13,.v (.slice none 0 0),.v (.slice none 0 0),.mref 14,vb false,.v (.slice none 0 0),.v (.slice none 0 0),.v (.slice none 0 0)])],I2 (yR (x.take (i+1)))⟩ (Yi ?_ ?_)
   ·rw[ey];exact⟨Z5,⟨Zr,⟨rfl,Hx _ (EZ _ (hq _))⟩,Zr,Zr,Zr,Tv⟩,Gv (hq _) (EZ _ (hq _)),Aw (by kernel_rfl)⟩
   refine Xi 0 ?_;refine Yi (Ii i (by omega)) ?_;refine Xi ⟨i+1,by omega⟩ ?_;exact⟨Dl x.length i (by omega),Z5,⟨Zr,⟨rfl,Hx _ (EZ _ (hq _))⟩,Zr,Zr,Zr,Tv⟩,Gv (hq _) (EZ _ (hq _)),Aw (by kernel_rfl)⟩
  have hy:x[i].yanked=false:=hy;refine Xi 0 ?_;refine Yi (Nz rfl) ?_;refine Xi .pure (Xi _ (Yi (pR x[i].ver) ?_));refine Xi ⟨[(2,.ref 2 0),(5,.ref 16 0),(7,.ref 7 0),(8,vi (plc x[i].ver)),(18,sl Aj x),(19,vi (x.map Aj).length),(20,vi i)],[(2,.ro (Ic x ifs)),(7,.cells (Aj x[i])),(12,.mapU CP (It (yR (x.take i)))),(13,.map CP []),(14,.map DS []),(16,.cells [sl AK roots,.mref 12,.mref 13,.v (.slice none 0 0),.v (.slice none 0 0),.mref 14,vb false,.v (.slice none 0 0),.v (.slice none 0 0),.v (.slice none 0 0)])],I2 (yR (x.take i))⟩ (Yi ?_ ?_)
  ·exact⟨Z7,⟨Zr,Zr,⟨rfl,Hx _ (EZ _ (hq _))⟩,Zr,Zr,Zr,Tv⟩,Gv (hq _) (EZ _ (hq _)),Aw (by kernel_rfl)⟩
  have ey:yR (x.take (i+1))=yR (x.take i)++[x[i]]:=by
   unfold yR;rw[Kt,De,RL (by rw[hy];decide)];rfl
  have hyl:(yR (x.take i)).length≤256:=by
   have:=BA (fun r:Rl=>!r.yanked) (x.take i)
   rw[AB]at this;show(List.filter _ _).length≤256;omega
  have hP:∀l,I2 (yR (x.take i)) (l+100)=F7 (yR (x.take i)) l:=EZ _ (hq _);refine Dp (Classical.em (x[i].path∈AO (yR (x.take i)) [])) (fun hp=>?_) (fun hp=>?_)
  ·refine CF (B4.1 hp) (fun k hk=>?_);have hu:=cc hk;have hl:(Gm (yR (x.take i)) x[i].path).length≤256:=by
    rw[Lm];exact Br (BA _ _) hyl
   have qK:k<256:=by
    have:=(Ap.1 hk).1
    have:=Hg (yR (x.take i)) []
    simp only[AF]at this;omega
   have hr:I2 (yR (x.take i)) (k+100)=.tok 10 (Gm (yR (x.take i)) x[i].path).length:=by rw[hP,bm hk]
   refine Xi 0 ?_;refine Or.inl (Xi (.slice (.id (k+100) 10) (Gm (yR (x.take i)) x[i].path)) (Yi hu ?_));refine Yi (Nz rfl) ?_;refine Qy (e:=150) (m:=9) (es2:=[QD x[i]]) rfl rfl rfl (fun _ h=>h) hr ⟨rfl,trivial⟩ (by show(_+1)*128≤_;omega) (by show _+1≤_;omega) ?_;refine Yi (IZ ⟨AZ _,AZ _,AZ _,AZ _,AZ _,AZ _,AZ _,AZ _,AZ _,AZ _,AZ _,AZ _,AZ _,AZ _,AZ _,AZ _,D5 (show 49<10000000 by decide),D5 (by show _+100<10000000;omega),D5 (show 12<10000000 by decide),trivial⟩ (by kernel_rfl)) ?_;have e9:ER (It (yR (x.take i))) (.string x[i].path) (.slice (.id (k+100) 10) (Gm (yR (x.take i)) x[i].path++[QD x[i]]))=It (yR (x.take (i+1))):=by rw[ey];exact fB hk
   have hG:∀l,(bif Nat.beq (l+100) (k+100)then HO.tok 10 ((Gm (yR (x.take i)) x[i].path).length+1)else F7 (yR (x.take i)) l)=F7 (yR (x.take (i+1))) l:=by rw[ey];exact iL hk
   refine Xi ⟨[(2,.ref 2 0),(5,.ref 16 0),(18,sl Aj x),(19,vi (x.map Aj).length),(20,vi i)],[(2,.ro (Ic x ifs)),(12,.mapU CP (It (yR (x.take (i+1))))),(13,.map CP []),(14,.map DS []),(16,.cells [sl AK roots,.mref 12,.mref 13,.v (.slice none 0 0),.v (.slice none 0 0),.mref 14,vb false,.v (.slice none 0 0),.v (.slice none 0 0),.v (.slice none 0 0)])],I2 (yR (x.take (i+1)))⟩ (Yi ?_ ?_)
   ·refine⟨Z5,⟨Zr,⟨Ac (HO.mapU CP) e9,Hx _ (EZ _ (hq _))⟩,Zr,Zr,Zr,Tv⟩,Gv (hq _) (fun l=>?_),VY (fun n=>?_)⟩
    ·show(bif Nat.beq (l+100) (k+100)then HO.tok 10 ((Gm (yR (x.take i)) x[i].path).length+1)else I2 (yR (x.take i)) (l+100))=_;rw[hP];exact hG l
    ·exact ZY (y:=yR (x.take i)) (show k+100<1000 by omega)
   refine Xi 0 ?_;refine Yi (Ii i (by omega)) ?_;refine Xi ⟨i+1,by omega⟩ ?_;exact⟨Dl x.length i (by omega),Z5,⟨Zr,⟨rfl,Hx _ (EZ _ (hq _))⟩,Zr,Zr,Zr,Tv⟩,Gv (hq _) (EZ _ (hq _)),Aw (by kernel_rfl)⟩
  ·have Lq:(AO (yR (x.take i)) []).length≤256:=by
    have:=Hg (yR (x.take i)) []
    simp only[AF]at this;omega
   have hn:=UV hp;have hr:I2 (yR (x.take i)) ((AO (yR (x.take i)) []).length+100)=.free:=by
    rw[hP];unfold F7;rw[A1 (Al _)]
   refine Xi ((AO (yR (x.take i)) []).length+100) ?_;refine Or.inr (Yi hn ?_);refine Yi (Nz rfl) ?_;refine Qx (e:=150) (m:=9) (es2:=[QD x[i]]) rfl rfl rfl (fun _ h=>h) hr rfl ⟨rfl,trivial⟩ (by show 1*128≤_;omega) (by show 1≤_;omega) ?_;refine Yi (IZ ⟨AZ _,AZ _,AZ _,AZ _,AZ _,AZ _,AZ _,AZ _,AZ _,AZ _,AZ _,AZ _,AZ _,AZ _,AZ _,AZ _,D5 (show 49<10000000 by decide),D5 (by show _+100<10000000;omega),D5 (show 12<10000000 by decide),trivial⟩ (by kernel_rfl)) ?_;have e9:ER (It (yR (x.take i))) (.string x[i].path) (.slice (.id ((AO (yR (x.take i)) []).length+100) 10) [QD x[i]])=It (yR (x.take (i+1))):=by rw[ey];exact fA hp
   have hG:∀l,(bif Nat.beq (l+100) ((AO (yR (x.take i)) []).length+100)then HO.tok 10 1 else F7 (yR (x.take i)) l)=F7 (yR (x.take (i+1))) l:=by rw[ey];exact iK hp
   refine Xi ⟨[(2,.ref 2 0),(5,.ref 16 0),(18,sl Aj x),(19,vi (x.map Aj).length),(20,vi i)],[(2,.ro (Ic x ifs)),(12,.mapU CP (It (yR (x.take (i+1))))),(13,.map CP []),(14,.map DS []),(16,.cells [sl AK roots,.mref 12,.mref 13,.v (.slice none 0 0),.v (.slice none 0 0),.mref 14,vb false,.v (.slice none 0 0),.v (.slice none 0 0),.v (.slice none 0 0)])],I2 (yR (x.take (i+1)))⟩ (Yi ?_ ?_)
   ·refine⟨Z5,⟨Zr,⟨Ac (HO.mapU CP) e9,Hx _ (EZ _ (hq _))⟩,Zr,Zr,Zr,Tv⟩,Gv (hq _) (fun l=>?_),VY (fun n=>?_)⟩
    ·show(bif Nat.beq (l+100) ((AO (yR (x.take i)) []).length+100)then HO.tok 10 1 else I2 (yR (x.take i)) (l+100))=_;rw[hP];exact hG l
    ·exact ZY (y:=yR (x.take i)) (show(AO (yR (x.take i)) []).length+100<1000 by omega)
   refine Xi 0 ?_;refine Yi (Ii i (by omega)) ?_;refine Xi ⟨i+1,by omega⟩ ?_;exact⟨Dl x.length i (by omega),Z5,⟨Zr,⟨rfl,Hx _ (EZ _ (hq _))⟩,Zr,Zr,Zr,Tv⟩,Gv (hq _) (EZ _ (hq _)),Aw (by kernel_rfl)⟩
 ·intro h;have h:¬(i:Int)<(x.map Aj).length:=h;have h:¬i<x.length:=by simpa using h
  have et:x.take i=x:=AE (by omega);have eM:∀hh:Nat→HO,Ro hh (It (yR (x.take i)))=(AO (yR x) []).map (kC x):=fun hh=>by
   rw[et];unfold Ro It;rw[BB];refine CX fun j=>?_;rw[AG,AG,List.getElem?_zipIdx];cases (AO (yR x) [])[j]? with
   |none=>rfl
   |some q=>show some (Value.string q,AV.slice .none (Gm (yR x) q))=_;rw[Zv];rfl
  refine Xi ⟨[(2,.ref 2 0),(5,.ref 16 0)],[(2,.ro (Ic x ifs)),(12,.mapU CP (It (yR (x.take i)))),(13,.map CP []),(14,.map DS []),(16,.cells [sl AK roots,.mref 12,.mref 13,.v (.slice none 0 0),.v (.slice none 0 0),.mref 14,vb false,.v (.slice none 0 0),.v (.slice none 0 0),.v (.slice none 0 0)])],I2 (yR (x.take i))⟩ (Yi ?_ ?_)
  ·exact⟨Z2,⟨Zr,⟨rfl,Hx _ (EZ _ (hq _))⟩,Zr,Zr,Zr,Tv⟩,Gv (hq _) (EZ _ (hq _)),Aw (by kernel_rfl)⟩
  refine Xi 0 ?_;refine Xi {p:List ByteArray×List ByteArray×Option (Value×AV) // (p.1++p.2.1).Perm (AO (yR x) [])} (Xi (fun p=>⟨[(2,.ref 2 0),(5,.ref 16 0),(56,.ref 56 0)],[(2,.ro (Ic x ifs)),(12,.rom CP ((AO (yR x) []).map (kC x))),(13,.map CP (p.1.1.map (kA x))),(14,.map DS []),(16,.cells [sl AK roots,.mref 12,.mref 13,.slice (.id 90 6) [],.slice (.id 91 1) [],.mref 14,vb false,.slice (.id 93 10) [],.slice (.id 94 4) [],.v (.slice none 0 0)]),(56,.iter ((AO (yR x) []).map (kC x)) (p.1.2.1.map (kC x)) p.1.2.2),(90,.tok 6 0),(91,.tok 1 0),(93,.tok 10 0),(94,.tok 4 0)],Ab⟩) (Xi (fun p=>p.1.2.1.length) (Yi (Xi ⟨([],AO (yR x) [],none),.refl _⟩ ?_) ?_)))
  ·refine⟨Z3,⟨Zr,⟨Ac (HO.rom CP) (eM _),rfl⟩,Zr,Zr,Zr,⟨?_,rfl⟩,Zr,Zr,Zr,Zr,Tv⟩,Fh,VY (fun n=>?_)⟩
   ·show HO.iter (Ro _ (It (yR (x.take i)))) (Ro _ (It (yR (x.take i)))) none=_;rw[eM]
   ·exact aq (yR (x.take i)) n
  intro⟨⟨done,rem,FA⟩,r1⟩;have r1:(done++rem).Perm (AO (yR x) []):=r1;refine Xi 0 ?_;refine Yi ?_ ?_
  ·intro hr;have hr:rem.map (kC x)=[]:=hr;have hr:rem=[]:=D3.1 hr;subst hr;rw[BP]at r1;refine Xi ⟨[(5,.ref 16 0)],[(14,.map DS []),(16,.cells [sl AK roots,.cmap CP (mC x),.cmap CP (done.map (kA x)),.slice (.id 90 6) [],.slice (.id 91 1) [],.mref 14,vb false,.slice (.id 93 10) [],.slice (.id 94 4) [],.msl 92 0]),(90,.tok 6 0),(91,.tok 1 0),(92,.arr 1 []),(93,.tok 10 0),(94,.tok 4 0)],Ab⟩ (Yi ⟨Z1,Z7,Fh,Aw (by kernel_rfl)⟩ ?_)
   refine Xi 0 ?_;exact Xi _ (Yi (.refl _) (Xi done (Yi r1 (Yi rfl rfl))))
  ·intro kv NP hp;refine CF (kH hp) (fun t hp=>CF hp (fun r hp=>?_));have e1:=hp.1;have e2:=hp.2.1;subst e1;subst e2;have hp:=hp.2.2;refine Xi ⟨[(2,.ref 2 0),(5,.ref 16 0),(56,.ref 56 0)],[(2,.ro (Ic x ifs)),(12,.rom CP ((AO (yR x) []).map (kC x))),(13,.map CP (done.map (kA x))),(14,.map DS []),(16,.cells [sl AK roots,.mref 12,.mref 13,.slice (.id 90 6) [],.slice (.id 91 1) [],.mref 14,vb false,.slice (.id 93 10) [],.slice (.id 94 4) [],.v (.slice none 0 0)]),(56,.iter ((AO (yR x) []).map (kC x)) (r.map (kC x)) (some (kC x t))),(90,.tok 6 0),(91,.tok 1 0),(93,.tok 10 0),(94,.tok 4 0)],Ab⟩ (Yi ⟨Z3,Z10,Fh,Aw (by kernel_rfl)⟩ ?_)
   refine Xi 0 ?_;refine Xi ⟨[(2,.ref 2 0),(5,.ref 16 0),(10,vs t),(56,.ref 56 0)],[(2,.ro (Ic x ifs)),(12,.rom CP ((AO (yR x) []).map (kC x))),(13,.map CP (done.map (kA x))),(14,.map DS []),(16,.cells [sl AK roots,.mref 12,.mref 13,.slice (.id 90 6) [],.slice (.id 91 1) [],.mref 14,vb false,.slice (.id 93 10) [],.slice (.id 94 4) [],.v (.slice none 0 0)]),(56,.iter ((AO (yR x) []).map (kC x)) (r.map (kC x)) (some (kC x t))),(90,.tok 6 0),(91,.tok 1 0),(93,.tok 10 0),(94,.tok 4 0)],Ab⟩ (Yi ⟨Z4,Z10,Fh,Aw (by kernel_rfl)⟩ ?_)
   refine Xi 0 ?_;have Rh:(done++rem).Nodup:=r1.nodup_iff.2 (EN _ [] E9);have vN:t∉done:=fun hc=>(Gd.1 Rh).2.2 t hc t (hp.mem_iff.2 (Aa ..)) rfl;have em:ER (done.map (kA x)) (.string t) (sl Aq (BZ x t))=(done++[t]).map (kA x):=by
    rw[L7 (fun a ha=>vN (Wr.1 ha).1),Ay];rfl
   have T0:((done++[t])++r).Perm (AO (yR x) []):=by
    rw[BH];exact(List.Perm.append_left _ hp.symm).trans r1
   refine Yi (Nz rfl) ?_;refine Xi _ (Yi (t6 x ifs t (c84 x ifs hx)) ?_);refine Yi (by kernel_rfl) ?_;refine Xi ⟨(done++[t],r,some (kC x t)),T0⟩ ?_;exact⟨by show r.length<rem.length;rw[hp.length_eq,Av];omega,Z3,⟨Zr,Zr,⟨Ac (HO.map CP) em,rfl⟩,Zr,Zr,Zr,Zr,Zr,Zr,Zr,Tv⟩,Fh,Aw (by kernel_rfl)⟩
end Go.Eng
namespace Go.Eng
open Go.Proofs
theorem YS{x:List Rl}(h0:AQ x=0){p:ByteArray}(h:p∉AO (yR x) []):BZ x p=[]:=by
 rw[bE h0]
 have:x.filter (aj p)=[]:=by
  rw[Hj];intro r hr hc;unfold aj at hc;rw[Af,As]at hc;exact h ((Hh _ _ _).2 (.inr ⟨r,BI.2 ⟨hr,hc.2⟩,hc.1⟩))
 rw[this];rfl
theorem ng{x:List Rl}{roots:List Rq}(hx:∀r∈x,JW r)(hr:∀q∈roots,N1 q)(h0:AQ x=0)(h1:BK roots=0){l:List ByteArray}(hl:l.Perm (AO (yR x) [])):tp x roots (mC x) (l.map (kA x)) where
 hx:=h0
 hr:=h1
 fx:=hx
 fr:=hr
 c1:=rk x
 c2:=rl x
 c3:=rn x
 av p:=by
  by_cases hp:p∈l
  ·exact⟨sl Aq (BZ x p),fun a ha=>(Wr.1 ha).2,fun hn=>(hn _ (Wr.2 ⟨hp,rfl⟩)).elim,fun h=>pL p (BZ x p) (RV x p)⟩
  ·refine⟨.v (.slice none 0 0),fun a ha=>(hp (Wr.1 ha).1).elim,fun _=>rfl,fun h=>?_⟩;have e:=YS h0 (fun hc=>hp (hl.mem_iff.2 hc));have hc:=pL p (BZ x p) (RV x p);rw[e]at hc⊢;exact Jc.args hc ⟨.refl _,.nil,trivial⟩
abbrev IG(b:Bool):List AV:=[vb b]
end Go.Eng
