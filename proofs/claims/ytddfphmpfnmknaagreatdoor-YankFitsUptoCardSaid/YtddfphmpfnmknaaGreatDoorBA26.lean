/- Lemmas for the claims of this seat, without a condition: part 26 (S8d, S8e, S11, S12, S13, S14, S16, S18, R24, C74, R25, R26, R27, R28, R29, R30, R31). -/
import Derived.Test.YtddfphmpfnmknaaGreatDoorBA25
set_option maxHeartbeats 8000000
namespace Go.Eng
open Go.Proofs
theorem vY(x:List Rl)(roots:List Rq)(C A:List (Value×AV))(n:Nat)(s:SS)(dec:List Cd)(st:List (List Sk))(p:ByteArray)(n0:Nd)(l:List Nd)(V:AV)(cs:List Cd)(R O:JJ)(hL:sc x roots C A n dec p n0 l V cs)(hs:Jm x roots s)(I7:st.length=dec.length)
  (QD:A3 Tryz.prog 87 [.ref 1000 0] (Aj (IR roots C A s dec st) Aa) fun r h'=>r=.tup [vs p,sl A6 (n0::l)]∧h'=Aj (IR roots C A s dec st) Aa)
  (pJ:cs=[]) (tn:∀a,(Value.string p,a)∉C) (hR:DU (CQ x roots n) x p (n0::l) n0 dec st cs s [] []=R) (Zm:O=R) :
  A3 Tryz.prog 65 [.ref 1000 0] (Aj (IR roots C A s dec st) Aa) (XY roots C A O):=by
 obtain⟨hx,hr,hdl,hcl,hcs,hnl,hnq,hnp,hex,hcx,hcq,hcp_,hcr,hcs_,hkey,hinf0,⟨px,py,pz⟩,ih⟩:=hL;have hdl:dec.length≤256:=hdl;have hcl:cs.length≤256:=hcl;have I7:st.length=dec.length:=I7;have wW:∀(i:Nat) (h:i<cs.length),cs[i]∈Ch x p:=fun i h=>by rw[←hcs];exact At h
 have n6:∀(i:Nat) (h:i<cs.length),CU (AI (dec++[cs[i]])):=fun i h=>by unfold CU AI;rw[Lm,Ac];simp;omega
 clear hcs
 refine BV (Lh ⟨[9],[(6,1),(7,3),(145,1)],[],[],[],[],[],[],[],[(300001,500091000),(300026,500091000),(300029,500091000)],[1,2,5,10,11,13,14,15,16,17,19,21,22,23,24,25,26,28,29,31,32,33,35]⟩) [(1000,1000),(1001,1001),(1002,1002),(1003,1003),(1004,1004),(500,2000)] rfl Cs hm rfl Tryz.func65 (by kernel_rfl) rfl (Nz rfl) (by kernel_rfl) rfl ?_;refine Yi (show st.length=(st.map AR).length by simp) ?_;refine Xi ⟨[(0,.ref 1000 0)],[(500,.arr 1 (st.map AR)),(1000,.cells (srM roots C A s dec 500 st.length)),(1001,.tok 6 s.infs.length),(1002,.tok 1 s.drv.length),(1003,.map DO (DR 0 s.infs)),(1004,.dead)],Aa⟩ (Yi ⟨Z1,Z6,Fh,Aw (by kernel_rfl)⟩ ?_)
 refine Xi (.gen XX 0) (Yi rfl (A3.imp QD ?_));intro v1 g1 q1;have jY:=q1.1;have jZ:=q1.2;subst jY;subst jZ;refine Xi ⟨[(0,.ref 1000 0),(4,vs p),(5,sl A6 (n0::l))],[(500,.arr 1 (st.map AR)),(1000,.cells (srM roots C A s dec 500 st.length)),(1001,.tok 6 s.infs.length),(1002,.tok 1 s.drv.length),(1003,.map DO (DR 0 s.infs)),(1004,.dead)],Aa⟩ (Yi ⟨Z3,Z6,Fh,Aw (by kernel_rfl)⟩ ?_)
 refine Yi (fun h2=>?_) (fun h2=>?_)
 ·have h2:(((n0::l).map A6).length:Int)=(0:Int):=h2;exact absurd h2 (by simp;omega)
 have h2:¬((((n0::l).map A6).length:Int)=(0:Int)):=h2;refine Xi ⟨[(0,.ref 1000 0),(4,vs p),(5,sl A6 (n0::l)),(6,.slice (.id 6 1) [])],[(6,.tok 1 0),(500,.arr 1 (st.map AR)),(1000,.cells (srM roots C A s dec 500 st.length)),(1001,.tok 6 s.infs.length),(1002,.tok 1 s.drv.length),(1003,.map DO (DR 0 s.infs)),(1004,.dead)],Aa⟩ (Yi ⟨Z4,Z7,Fh,Aw (by kernel_rfl)⟩ ?_)
 refine Yi (fun a ha=>?_) (fun QG=>?_)
 ·exact absurd ha (tn a)
 refine Xi {q:Nat×SS×List Nat×List Sk // q.1≤cs.length∧DU (CQ x roots n) x p (n0::l) n0 dec st (cs.drop q.1) q.2.1 q.2.2.1 q.2.2.2=R∧Jm x roots q.2.1∧(∀r∈q.2.2.1,r<q.2.1.drv.length)∧q.2.2.1.length≤q.1∧q.2.2.2.length≤q.1} (Xi (fun q=>⟨[(0,.ref 1000 0),(4,vs p),(5,sl A6 (n0::l)),(6,.slice (.id 6 1) (q.1.2.2.1.map BJ)),(7,.slice (.id 7 3) (q.1.2.2.2.map BN)),(32,.v (.slice none 0 0)),(33,vi 0),(34,vi q.1.1)],[(6,.tok 1 q.1.2.2.1.length),(7,.tok 3 q.1.2.2.2.length),(500,.arr 1 (st.map AR)),(1000,.cells (srM roots C A q.1.2.1 dec 500 st.length)),(1001,.tok 6 q.1.2.1.infs.length),(1002,.tok 1 q.1.2.1.drv.length),(1003,.map DO (DR 0 q.1.2.1.infs)),(1004,.dead)],Aa⟩) (Xi (fun q=>cs.length-q.1.1) (Yi (Xi ⟨(0,s,[],[]),AO _,hR,hs,fun r h=>(by cases h),Am _,Am _⟩ ?_) ?_)))
 ·exact⟨Z8,Z8,Fh,Aw (by kernel_rfl)⟩
 intro⟨⟨i,S,rs,sk⟩,j1,j2,j3,j4,j5,j6⟩;have j1:i≤cs.length:=j1;have j2:DU (CQ x roots n) x p (n0::l) n0 dec st (cs.drop i) S rs sk=R:=j2;have j3:Jm x roots S:=j3;have j4:∀r∈rs,r<S.drv.length:=j4;have j5:rs.length≤i:=j5;have j6:sk.length≤i:=j6;have hw:=j3.dl;have eB:∀t∈S.drv,cV t:=fun t ht=>by have q:=j3.der.few hx hr t ht;exact⟨EX q,q.2⟩
 refine Yi (fun h3=>?_) (fun h3=>?_)
 ·have h3:(i:Int)<(0:Int):=h3;exact absurd h3 (by have q:=j1;rw[pJ,AF]at q;omega)
 have h3:¬((i:Int)<(0:Int)):=h3;refine Xi (A6 n0) (Yi (Yi (show(0:Int)≤0 by decide) rfl) (Yi rfl ?_));refine Yi (Nz rfl) ?_;refine Xi (.gen XX 0) (Yi rfl (A3.imp (xS x roots C A S dec st p n0 rs V hx hr j3 hinf0 j4 (by omega) (hnq n0 (Ab ..)) (hnp n0 (Ab ..)) px py pz) ?_));intro v4 g4 q4;have vF:=q4.1;have vG:=q4.2;subst vF;subst vG;have hj:¬i<cs.length:=by rw[pJ];simp
 have eR:R=⟨(DX x p n0 rs S).1,false,(DX x p n0 rs S).2,dec,st⟩:=by rw[←j2];exact dq hj
 exact Xi _ (Yi (.refl _) (MX (Zm.trans eR)))
theorem v8(roots:List Rq)(C A:List (Value×AV))(s:SS)(dec:List Cd)(st:List (List Sk))(p:ByteArray)(N:List Nd)(O:JJ)(hN:N=[])
  (QD:A3 Tryz.prog 87 [.ref 1000 0] (Aj (IR roots C A s dec st) Aa) fun r h'=>r=.tup [vs p,sl A6 N]∧h'=Aj (IR roots C A s dec st) Aa) (hO:O=⟨0,true,s,dec,st⟩) :
  A3 Tryz.prog 65 [.ref 1000 0] (Aj (IR roots C A s dec st) Aa) (XY roots C A O):=by
 refine BV (Lh ⟨[],[],[],[],[],[],[],[],[],[(300001,500091000)],[1,2,5,10,11,13,14,15,16,17,19,21,22,23,25,28,29,31,32,33,35]⟩) [(1000,1000),(1001,1001),(1002,1002),(1003,1003),(1004,1004),(500,2000)] rfl Cs hm rfl Tryz.func65 (by kernel_rfl) rfl (Nz rfl) (by kernel_rfl) rfl ?_;refine Yi (show st.length=(st.map AR).length by simp) ?_;refine Xi ⟨[(0,.ref 1000 0)],[(500,.arr 1 (st.map AR)),(1000,.cells (srM roots C A s dec 500 st.length)),(1001,.tok 6 s.infs.length),(1002,.tok 1 s.drv.length),(1003,.map DO (DR 0 s.infs)),(1004,.dead)],Aa⟩ (Yi ⟨Z1,Z6,Fh,Aw (by kernel_rfl)⟩ ?_)
 refine Xi (.gen XX 0) (Yi rfl (A3.imp QD ?_));intro v1 g1 q1;have jY:=q1.1;have jZ:=q1.2;subst jY;subst jZ;refine Xi ⟨[(0,.ref 1000 0),(4,vs p),(5,sl A6 N)],[(500,.arr 1 (st.map AR)),(1000,.cells (srM roots C A s dec 500 st.length)),(1001,.tok 6 s.infs.length),(1002,.tok 1 s.drv.length),(1003,.map DO (DR 0 s.infs)),(1004,.dead)],Aa⟩ (Yi ⟨Z3,Z6,Fh,Aw (by kernel_rfl)⟩ ?_)
 refine Yi (fun h2=>?_) (fun h2=>?_)
 ·have h2:((N.map A6).length:Int)=(0:Int):=h2;exact Xi _ (Yi (.refl _) (MX (st:=st) hO))
 have h2:¬(((N.map A6).length:Int)=(0:Int)):=h2;exact absurd (by rw[hN];rfl) h2
section
variable {x:List Rl}{roots:List Rq}{p:ByteArray}
theorem H5:∀(l:List Nat) {k:Nat} {s:SS},s.infs.Nodup→(Ca p l k s).2.infs.Nodup
 | [],_,_,h=>h
 |r::l,k,s,h=>by
  unfold Ca;split
  ·exact h
  split
  ·exact H5 l h
  split
  ·exact H5 l h
  ·exact H5 l (HP h)
theorem KE{needs:List Nd}{n0:Nd}{dec:List Cd}{st:List (List Sk)}{rec:List Cd→SS→List (List Sk)→JJ}(bh:∀c s st,s.infs.Nodup→(rec (dec++[c]) s st).ss.infs.Nodup) :
  ∀(cs:List Cd) {s:SS} {rs:List Nat} {sk:List Sk},s.infs.Nodup→(DU rec x p needs n0 dec st cs s rs sk).ss.infs.Nodup
 | [],s,rs,sk,h=>H5 _ (HP (HP h))
 |c::cs,s,rs,sk,h=>by
  have lz:∀(s' : SS) (k:Nat),s'.infs.Nodup→(Jr rec x p needs n0 dec st c cs rs sk k s').ss.infs.Nodup:=fun s' k h'=>by
   unfold Jr;split
   ·exact h'
   ·exact KE bh cs h'
  rw[F5];split
  ·exact h
  cases needs.find? fun n=>!has n.rq.set c.place with
  |some n=>exact KE bh cs (HP h)
  |none =>
   dsimp only;cases NZ s.drv (AI (dec++[c]))with
   |some k=>exact lz s k h
   |none =>
    dsimp only;cases D2 dec c with
    |some n=>exact lz _ _ (HP h)
    |none =>
     dsimp only;have h2:=bh c s (st++[sk]) h;split
     ·exact h2
     split
     ·exact h2
     ·exact lz _ _ h2
theorem OI:∀(n:Nat) {dec:List Cd} {s:SS} {st:List (List Sk)},s.infs.Nodup→(CQ x roots n dec s st).ss.infs.Nodup
 |0,_,_,_,h=>h
 |n+1,dec,s,st,h=>by
  unfold CQ;cases (Gs roots dec).2 with
  |nil=>exact h
  |cons n0 l=>exact KE (fun c s st h=>OI n h) _ h
structure sb(x:List Rl)(roots:List Rq)(C A:List (Value×AV)):Prop where
 hx:AX x=0
 hr:BL roots=0
 fx:∀r∈x,KC r
 fr:∀q∈roots,NH q
 c1:∀(p:ByteArray) (a:AV),(Value.string p,a)∈C→a=sl Az (Ch x p)
 c2:∀p:ByteArray,(∀a,(Value.string p,a)∉C)→Ch x p=[]
 c3:∀p:ByteArray,Ch x p=[]→∀a,(Value.string p,a)∉C
 av:∀p:ByteArray,∃V,HV x A p V
theorem mc{dec:List Cd}(h:∀c∈dec,c.rel.reqs.length≤16):((dec.map fun c=>c.rel.reqs).flatten).length≤16*dec.length:=by
 induction dec with
 |nil=>simp
 |cons c dec ih =>
  rw[AJ,Bv,Ac,Ax]
  have:=h c (Ab ..)
  have:=ih fun d hd=>h d (Ag _ hd)
  omega
theorem nf{r:Rl}(h:OR r):0≤plc r.ver∧plc r.ver<1000000:=by rw[h.plc];exact Je h.val
theorem bH(dec:List Cd):(Gs roots dec).2.length≤(Dk roots dec).length:=by
 rw[SF];cases Ko (HA roots dec) (AI dec)with
 |none=>simp
 |some q=>exact BA _ _
theorem xQ{C A:List (Value×AV)}(hE:sb x roots C A)(mf:xX roots C A):∀(n:Nat) {dec:List Cd} {s:SS} {st:List (List Sk)},Ew x dec→Iz roots dec→Jm x roots s→s.full=false→Qc x dec<n→st.length=dec.length →
  A3 Tryz.prog 65 [.ref 1000 0] (Aj (IR roots C A s dec st) Aa) (XY roots C A (CQ x roots n dec s st))
 |0,_,_,_,_,_,_,_,h,_=>by omega
 |n+1,dec,s,st,hd,bi,hs,hf,hn,I7=>by
  have hx:=hE.hx;have hr:=hE.hr;have kW:=Nj hx;have hdl:=WE hd;have tW:dec.length≤256:=by have:=kW.1;omega
  have Wf:∀c∈dec,c.rel.reqs.length≤16:=fun c hc=>kW.2 _ (hd.cand c hc).1;have QD:=mf s dec st (by omega) fun c hc=>Br (Wf c hc) (by decide);generalize hO:CQ x roots (n+1) dec s st=O;obtain⟨N,hN⟩:∃N,N=(Gs roots dec).2:=⟨_,rfl⟩;obtain⟨q,hq⟩:∃q,q=(Gs roots dec).1:=⟨_,rfl⟩;rw[←hN,←hq]at QD;have yE:N.length≤10000:=by
   have h1:=bH (roots:=roots) dec;have h2:(Dk roots dec).length=(HA roots dec).length:=by rw[←Ml,Lm]
   have h3:=mc Wf;have h4:=OD hr;rw[←hN]at h1;unfold HA at h2;rw[Ac]at h2;omega
  cases hNc:N with
  |nil =>
   rw[hNc]at hN QD;refine v8 roots C A s dec st q [] O rfl QD ?_;rw[←hO];unfold CQ;rw[←hN]
  |cons n0 l =>
   rw[hNc]at hN QD;have kE:=Nt hN.symm;rw[←hq]at kE;have QF:∀nd∈n0::l,nd∈Dk roots dec:=fun nd h=>((kE.mem nd).1 h).1;have Gk:=(Cc hx).1;have few:∀{E:List Cd},Ew x E→∀nd∈Dk roots E,CU nd.rq.set∧BM (nd.place+1):=fun yx nd h=>by
    rcases LO h with ⟨k,r,h1,rfl⟩ | ⟨c,hc,k,r,h1,rfl⟩
    ·exact⟨(hE.fr r (Ar h1)).1,by unfold BM;show -9223372036854775808≤(0:Int)+1∧(0:Int)+1<9223372036854775808;decide⟩
    ·have h2:=yx.cand c hc;have h3:=nf (Gk _ h2.1);rw[←h2.2.2]at h3;exact⟨((hE.fx _ h2.1).2 r (Ar h1)).1,by unfold BM;show _≤c.place+1∧c.place+1<_;omega⟩
   have kV:∀c∈Ch x q,Ew x (dec++[c])∧c.rel.path=q∧c.rel∈x:=fun c hc=>by
    obtain⟨c1,c2⟩:=Js hc;exact⟨hd.snoc c2 (by rw[c1];exact kE.undone),c1,c2.1⟩
   have E5:∀(i:Nat) (h:i<(Ch x q).length),(Ch x q)[i]∈Ch x q:=fun i h=>At h;obtain⟨V,hV⟩:=hE.av q
   have hL:sc x roots C A n dec q n0 l V (Ch x q):={
    hx:=hx
    hr:=hr
    hdl:=tW
    hcl:=Br (Ub x q) kW.1
    hcs:=rfl
    hnl:=by rw[hNc]at yE;omega
    hnq:=fun nd h=>(few hd nd (QF nd h)).1
    hnp:=fun nd h=>(few hd nd (QF nd h)).2
    hex:=fun i h nd hm hh=>by
     obtain⟨a,b,_⟩:=kV _ (E5 i h);exact⟨(Oq hx hr a (Nq (QF nd hm)) ⟨(Ch x q)[i],by simp,b.trans ((kE.mem nd).1 hm).2.symm,hh⟩).1,trivial⟩
    hcx:=fun i h nc hc=>by
     obtain⟨a,b,_⟩:=kV _ (E5 i h);obtain⟨m1,m2⟩:=KJ hc;exact⟨(Oq hx hr a (Mm m1) m2).1,trivial⟩
    hcq:=fun i h nc hm=>(few (kV _ (E5 i h)).1 nc (Mm hm)).1
    hcp_:=fun i h nc hm=>(few (kV _ (E5 i h)).1 nc (Mm hm)).2
    hcr:=fun i h=>by have:=kW.2 _ (kV _ (E5 i h)).2.2;omega
    hcs_:=fun i h r hm=>((hE.fx _ (kV _ (E5 i h)).2.2).2 r hm).1
    hkey:=fun i h=>by
     have b:=(kV _ (E5 i h)).2.1;unfold AI;rw[Ay,Ay];show _=_++[[vs (Ch x q)[i].rel.path,vi (Ch x q)[i].rel.ver.a,vi (Ch x q)[i].rel.ver.b,vi (Ch x q)[i].rel.ver.c]];rw[b]
    hinf0:=(QS hx hr hd (QF n0 (Ab ..)) (.inl (by
     rw[((kE.mem n0).1 (Ab ..)).2];exact Hm (by rw[FH];exact kE.undone)))).inf
    hV:=hV
    ih:=fun c hc uq S D3 hl hS wO=>by
     obtain⟨a,b,c3⟩:=kV c hc;obtain⟨k1,k2⟩:=Oy.1 uq;obtain⟨_,c2⟩:=Js hc;have kU:=bi.snoc kE b k1 k2;have cO:Qc x (dec++[c])<n:=by have:=RU (dec:=dec) ⟨c2.1,c2.2.1⟩ (by rw[b];exact kE.undone);omega
     have h1:=xQ hE mf n a kU hS wO cO (st:=D3) (by rw[hl];simp);have h2:=PB hx hr n a kU hS.der wO cO (st:=D3);exact⟨h1,⟨h2.der,OI n hS.nodup⟩,⟨h2.grow.len,fun e1 e2=>((h2.no e1).2.2 e2).1⟩,fun e1=>(h2.no e1).2.1⟩ }
   have hR:DU (CQ x roots n) x q (n0::l) n0 dec st (Ch x q) s [] []=O:=by
    rw[←hO]
    conv=>rhs;unfold CQ
    rw[←hN,hq]
   by_cases hm:∀a,(Value.string q,a)∉C
   ·exact vY x roots C A n s dec st q n0 l V (Ch x q) O O hL hs I7 QD (hE.c2 q hm) hm hR rfl
   ·exact vX x roots C A n s dec st q n0 l V (Ch x q) O O hL hs I7 QD (hE.c1 q) hm hR rfl
end
theorem vZ{x:List Rl}{roots:List Rq}{C A:List (Value×AV)}(hE:sb x roots C A)(n:Nat){dec:List Cd}{s:SS}{st:List (List Sk)}(h1:Ew x dec)(h2:Iz roots dec)(h3:Jm x roots s)(h4:s.full=false)(h5:Qc x dec<n)(h6:st.length=dec.length) :
  A3 Tryz.prog 65 [.ref 1000 0] (Aj (IR roots C A s dec st) Aa) (XY roots C A (CQ x roots n dec s st)) :=
 xQ hE (fun s dec st a b=>zZ roots C A s dec st (Br (OD hE.hr) (by decide)) a b) n h1 h2 h3 h4 h5 h6
def Gx(x:List Rl)(roots:List Rq):Bool:=decide (AX x=0)&&decide (BL roots=0)
theorem r4(x:List Rl)(ifs:List (List AV))(roots:List Rq)(hx:∀r∈x,KC r)(hr:∀q∈roots,NH q):PC 63 [.agg (Ic x ifs),sl AN roots] (vb (Gx x roots)):=by
 refine Ps ⟨[2],[],[],[],[],[],[],[],[],[],[]⟩ Tryz.func63 rfl (Nz rfl) ?_;refine Yi (Nz rfl) ?_;refine Xi .pure (Xi _ (Yi (ks Vj x ifs hx) ?_));refine Yi (fun h1=>?_) (fun h1=>?_)
 ·have h1:((AX x):Int)=(0:Int):=h1;refine Xi .pure (Xi _ (Yi (wz Vj roots hr) ?_));refine Yi (fun h2=>?_) (fun h2=>?_)
  ·have h2:((BL roots):Int)=(0:Int):=h2;exact .of_eq (show vb true=vb (Gx x roots) by unfold Gx;rw[h1,h2];rfl)
  have h2:¬(((BL roots):Int)=(0:Int)):=h2;exact .of_eq (show vb false=vb (Gx x roots) by unfold Gx;rw[AG h2,D4])
 have h1:¬(((AX x):Int)=(0:Int)):=h1;exact .of_eq (show vb false=vb (Gx x roots) by unfold Gx;rw[AG h1];rfl)
abbrev PY(r:Rl):List AV:=Az ⟨plc r.ver,r⟩
abbrev F9(y:List Rl)(p:ByteArray):List (List AV):=(y.filter fun r=>decide (r.path=p)).map PY
abbrev WY(y:List Rl)(q:ByteArray×Nat):Value×AV:=(.string q.1,.slice (.id (q.2+100) 10) (F9 y q.1))
abbrev Ij(y:List Rl):List (Value×AV):=(AP y []).zipIdx.map (WY y)
def FY(y:List Rl)(l:Nat):HO:=match(AP y [])[l]? with
 |some q=>.tok 10 (F9 y q).length
 |none=>.free
def IN(y:List Rl)(j:Nat):HO:=bif Nat.ble 100 j&&Nat.blt j 1000 then FY y (j-100)else .free
theorem ER(y:List Rl)(hy:y.length≤256)(l:Nat):IN y (l+100)=FY y l:=by
 unfold IN;rw[show Nat.ble 100 (l+100)=true by rw[CR];omega,Eu,Nat.add_sub_cancel]
 by_cases h:l+100<1000
 ·rw[show Nat.blt (l+100) 1000=true by rw[B9];exact h];rfl
 ·rw[show Nat.blt (l+100) 1000=false by rw[AK];intro hc;rw[B9]at hc;omega]
  have:=G3 y []
  rw[AF]at this;unfold FY;rw[A2 (by omega)];rfl
theorem jd(y:List Rl){j:Nat}(h:j<100):IN y j=.free:=by
 unfold IN;rw[show Nat.ble 100 j=false by rw[AK];intro hc;rw[CR]at hc;omega];rfl
theorem G2(y:List Rl)(r:Rl)(q:ByteArray):F9 (y++[r]) q=if r.path=q then F9 y q++[PY r]else F9 y q:=by
 unfold F9;rw[Dd]
 by_cases h:r.path=q
 ·rw[Ao h,Rh (by simpa using h)];simp
 ·rw[Ai h,Rg (by simpa using h)];simp
section
variable {y:List Rl}{r:Rl}{k:Nat}
open Classical in
theorem dU(h:(AP y [])[k]?=some r.path):EK (Ij y) (.string r.path) (.slice (.id (k+100) 10) (F9 y r.path++[PY r]))=Ij (y++[r]):=by
 have hd:=EG y [] E1;have hm:WY y (r.path,k)∈Ij y:=Al.2 ⟨_,Fl.2 h,rfl⟩;rw[Xq (a':=.slice (.id (k+100) 10) (F9 y r.path)) hm];unfold Ij;rw[IY h,BK];refine Ba fun q hq=>?_;have hg:=H8 hq;obtain⟨q,j⟩:=q;show(if Value.string q=Value.string r.path then _ else _)=WY (y++[r]) (q,j);have hg:(AP y [])[j]?=some q:=hg
 by_cases he:q=r.path
 ·subst he
  have:j=k:=IV hd hg h
  subst this;rw[Ao rfl];show _=(Value.string r.path,AV.slice (.id (j+100) 10) (F9 (y++[r]) r.path));rw[G2,Ao rfl]
 ·rw[Ai (fun e=>he (by simpa using e))];show(Value.string q,AV.slice (.id (j+100) 10) (F9 y q))=(Value.string q,AV.slice (.id (j+100) 10) (F9 (y++[r]) q));rw[G2,Ai (fun e=>he e.symm)]
theorem Xy(h:r.path∉AP y []):F9 y r.path=[]:=by
 have:y.filter (fun s=>decide (s.path=r.path))=[]:=by
  rw[G6];intro s hs he;exact h ((G4 y [] r.path).2 (.inr ⟨s,hs,A8 he⟩))
 unfold F9;rw[this];rfl
theorem Uo(h:r.path∉AP y [])(a:AV):(Value.string r.path,a)∉Ij y:=by
 intro hc;obtain⟨q,h1,h2⟩:=Al.1 hc;simp only[WY,FC,Value.string.injEq]at h2;exact h (by rw[←h2.1];exact Ar (H8 h1))
theorem dT(h:r.path∉AP y []):EK (Ij y) (.string r.path) (.slice (.id ((AP y []).length+100) 10) [PY r])=Ij (y++[r]):=by
 rw[LN (fun a=>Uo h a)];unfold Ij;rw[IX h,List.zipIdx_append,Ay]
 congr 1
 ·refine Ba fun q hq=>?_;have hg:=H8 hq
  have:q.1≠r.path:=fun e=>h (by rw[←e];exact Ar hg)
  show(Value.string q.1,AV.slice (.id (q.2+100) 10) (F9 y q.1))=(Value.string q.1,AV.slice (.id (q.2+100) 10) (F9 (y++[r]) q.1));rw[G2,Ai (fun e=>this e.symm)]
 ·show [_]=[(Value.string r.path,AV.slice (.id (0+(AP y []).length+100) 10) (F9 (y++[r]) r.path))];rw[G2,Ao rfl,Xy h,Bg];rfl
theorem aU{p:ByteArray}{j:Nat}(h:(AP y [])[j]?=some p):(Value.string p,AV.slice (.id (j+100) 10) (F9 y p))∈Ij y∧∀b,(Value.string p,b)∈Ij y→b=AV.slice (.id (j+100) 10) (F9 y p):=by
 refine⟨Al.2 ⟨(p,j),Fl.2 h,rfl⟩,fun b hb=>?_⟩;obtain⟨q,h1,h2⟩:=Al.1 hb;simp only[WY,FC,Value.string.injEq]at h2;have hg:=H8 h1;rw[h2.1]at hg
 have:=IV (EG y [] E1) hg h
 rw[←h2.2,h2.1,this]
theorem Z0{p:ByteArray}{j:Nat}(h:(AP y [])[j]?=some p):FY y j=.tok 10 (F9 y p).length:=by
 unfold FY;rw[h]
theorem gS(h:(AP y [])[k]?=some r.path)(l:Nat):(bif Nat.beq (l+100) (k+100)then HO.tok 10 ((F9 y r.path).length+1)else FY y l)=FY (y++[r]) l:=by
 by_cases he:l=k
 ·subst he;rw[show Nat.beq (l+100) (l+100)=true from CJ _];unfold FY;rw[IY h,h];show HO.tok 10 _=HO.tok 10 (F9 (y++[r]) r.path).length;rw[G2,Ao rfl,Ac];rfl
 ·rw[show Nat.beq (l+100) (k+100)=false by rw[AK];intro hc;have:=AH hc;omega];show FY y l=_;unfold FY;rw[IY h];cases hq:(AP y [])[l]? with
  |none=>rfl
  |some q =>
   show HO.tok 10 (F9 y q).length=HO.tok 10 (F9 (y++[r]) q).length;rw[G2,Ai];intro e;subst e;exact he (IV (EG y [] E1) hq h)
theorem gR(h:r.path∉AP y [])(l:Nat):(bif Nat.beq (l+100) ((AP y []).length+100)then HO.tok 10 1 else FY y l)=FY (y++[r]) l:=by
 by_cases he:l=(AP y []).length
 ·subst he;rw[show Nat.beq ((AP y []).length+100) ((AP y []).length+100)=true from CJ _];unfold FY;rw[IX h];simp only[AZ (Am _),F3,A4];show HO.tok 10 1=HO.tok 10 (F9 (y++[r]) r.path).length;rw[G2,Ao rfl,Xy h];rfl
 ·rw[show Nat.beq (l+100) ((AP y []).length+100)=false by rw[AK];intro hc;have:=AH hc;omega];show FY y l=_;unfold FY;rw[IX h]
  by_cases hl:l<(AP y []).length
  ·rw[AY hl,Ge hl];show HO.tok 10 (F9 y (AP y [])[l]).length=HO.tok 10 (F9 (y++[r]) (AP y [])[l]).length;rw[G2,Ai];intro e;exact h (by rw[e];exact At hl)
  ·rw[A2 (by omega),A2 (by rw[Ac];simp;omega)]
end
theorem Hl(y:List Rl){h:Nat→HO}(hh:∀l,h (l+100)=FY y l):Qf h (Ij y)=true:=by
 refine Pg fun p hp=>?_;obtain⟨q,h1,rfl⟩:=Al.1 hp;show QI h (q.2+100)=true;unfold QI;rw[hh,Z0 (H8 h1)]
theorem Gj{y:List Rl}(hy:y.length≤256){h h' : Nat→HO}(hh:∀l,h (l+100)=FY y l)(j:Nat):IN y j=.free∨(h j=IN y j∧W8 h' (IN y j)=true):=by
 by_cases hj:j<100
 ·exact .inl (jd y hj)
 ·obtain⟨l,rfl⟩:∃l,j=l+100:=⟨j-100,by omega⟩
  right
  rw[ER y hy];refine⟨hh l,?_⟩;unfold FY;cases (AP y [])[l]?<;>rfl
abbrev yR(x:List Rl):List Rl:=x.filter fun r=>!r.yanked
theorem YK(x:List Rl)(p:ByteArray):F9 (yR x) p=(Ch x p).map Az:=by
 unfold F9 Ch;rw[List.filter_filter,BK]
 rfl
def mC(x:List Rl):List (Value×AV):=(AP (yR x) []).map fun p=>(.string p,sl Az (Ch x p))
theorem fC{x:List Rl}{p:ByteArray}{a:AV}:(Value.string p,a)∈mC x↔p∈AP (yR x) []∧a=sl Az (Ch x p):=by
 unfold mC;rw[Al];constructor
 ·rintro⟨q,hq,e⟩
  injection e with e1 e2
  injection e1 with e1
  subst e1;exact⟨hq,e2.symm⟩
 ·rintro⟨h1,h2⟩
  exact⟨p,h1,by rw[h2]⟩
theorem Uc{x:List Rl}{p:ByteArray}:Ch x p=[]↔p∉AP (yR x) []:=by
 rw[G4];unfold Ch;rw[DY,G6];constructor
 ·rintro h (h1 | ⟨r,h1,h2⟩)
  ·cases h1
  ·obtain⟨h3,h4⟩:=BI.1 h1;exact h r h3 (by rw[AE h2,h4];rfl)
 ·intro h r hr hc;rw[Af,Av]at hc;exact h (.inr ⟨r,BI.2 ⟨hr,hc.2⟩,hc.1⟩)
theorem qw(x:List Rl):∀(p:ByteArray) (a:AV),(Value.string p,a)∈mC x→a=sl Az (Ch x p):=fun _ _ h=>(fC.1 h).2
theorem qx(x:List Rl):∀p:ByteArray,(∀a,(Value.string p,a)∉mC x)→Ch x p=[]:=fun _ h=>Uc.2 fun hp=>h _ (fC.2 ⟨hp,rfl⟩)
theorem qy(x:List Rl):∀p:ByteArray,Ch x p=[]→∀a,(Value.string p,a)∉mC x:=fun _ h _ ha=>Uc.1 h (fC.1 ha).1
abbrev zP:Rk:=⟨[2],[],[],[(52,[12])],[],[12],[50],[(53,(16,3,90,6)),(54,(16,4,91,1)),(55,(16,7,93,10)),(56,(16,8,94,4))],[],[(850013,13),(800013,10016),(810013,20016),(900013,10000000000+92000000+90016)],[5,7,8,9,11,12,13]⟩
abbrev kC(x:List Rl)(p:ByteArray):Value×AV:=(.string p,sl Az (Ch x p))
abbrev kA(x:List Rl)(p:ByteArray):Value×AV:=(.string p,sl Aq (BZ x p))
theorem jE{x:List Rl}{l:List ByteArray}{kv:Value×AV}{Nv : List (Value×AV)}(h:(l.map (kC x)).Perm (kv::Nv)):∃t r,kv=kC x t∧Nv=r.map (kC x)∧l.Perm (t::r):=by
 obtain⟨ps,h1,h2⟩:=LR h l rfl;cases ps with
 |nil=>cases h2
 |cons t r =>
  rw[AJ,Fk]at h2;exact⟨t,r,h2.1.symm,h2.2.symm,h1.symm⟩
abbrev srN(roots:List Rq)(C A:List (Value×AV)):List (Nat×HO) :=
 [(2000,.cells [sl AN roots,.cmap CL C,.cmap CL A,.slice (.id 2001 6) [],.slice (.id 2002 1) [],.mref 2003,vb false,.slice .none [],.slice .none [],.msl 2004 0]),(2001,.tok 6 0),(2002,.tok 1 0),(2003,.map DO []),(2004,.arr 1 [])]
theorem VJ{x:List Rl}{l:List ByteArray}{p:ByteArray}{a:AV}:(Value.string p,a)∈l.map (kA x)↔p∈l∧a=sl Aq (BZ x p):=by
 rw[Al];constructor
 ·rintro⟨q,hq,e⟩
  injection e with e1 e2
  injection e1 with e1
  subst e1;exact⟨hq,e2.symm⟩
 ·rintro⟨h1,h2⟩
  exact⟨p,h1,by rw[h2]⟩
theorem Zo(y:List Rl)(n:Nat):IN y (n+1000)=.free:=by
 unfold IN;rw[show Nat.blt (n+1000) 1000=false by rw[AK];intro hc;rw[B9]at hc;omega,D4];rfl
theorem Vs{h s:Nat→HO}(H:∀n,h (n+1000)=.free):∀j,1000≤j→j<2000→h j≠.free→s j≠.free:=fun j h1 _ hn=>by
 refine absurd (H (j-1000)) ?_;rw[show j-1000+1000=j by omega];exact hn
theorem iE{n k:Nat}(h:k<1000):Nat.beq (n+1000) k=false:=by
 rw[AK];intro hc;have:=AH hc;omega
theorem Za{y:List Rl}{n k:Nat}{o:HO}(h:k<1000):(bif Nat.beq (n+1000) k then o else IN y (n+1000))=.free:=by
 rw[iE h,Zo];rfl
attribute [local irreducible] H3
set_option maxRecDepth 30000 in
theorem vW(x:List Rl)(ifs:List (List AV))(roots:List Rq)(hx:∀r∈x,KC r)(h0:AX x=0):A3 Tryz.prog 64 [Hr x ifs,sl AN roots] (Aj [] Aa) fun r h'=>∃l:List ByteArray,l.Perm (AP (yR x) [])∧r=.ref 2000 0∧h'=Aj (srN roots (mC x) (l.map (kA x))) Aa:=by
 have kW:x.length≤256:=(Nj h0).1;refine BV (Lh zP) [(16,2000),(90,2001),(91,2002),(14,2003),(92,2004)] rfl Cs hm rfl Tryz.func64 (by kernel_rfl) rfl (Nz rfl) (by kernel_rfl) rfl ?_;refine Xi 0 ?_;refine Xi 0 ?_;refine Xi 0 ?_;refine Xi {i:Nat // i≤x.length} (Xi (fun i=>⟨[(2,.ref 2 0),(5,.ref 16 0),(18,sl Ah x),(19,vi (x.map Ah).length),(20,vi i.1)],[(2,.ro (Ic x ifs)),(12,.mapU CL (Ij (yR (x.take i.1)))),(13,.map CL []),(14,.map DO []),(16,.cells [sl AN roots,.mref 12,.mref 13,.v (.slice none 0 0),.v (.slice none 0 0),.mref 14,vb false,.v (.slice none 0 0),.v (.slice none 0 0),.v (.slice none 0 0)])],IN (yR (x.take i.1))⟩) (Xi (fun i=>x.length-i.1) (Yi (Xi ⟨0,AO _⟩ ?_) ?_)))
 ·refine⟨Z5,Z5,fun j=>.inl ?_,Aw (by kernel_rfl)⟩;show IN [] j=.free;unfold IN;cases (Nat.ble 100 j&&Nat.blt j 1000)<;>rfl
 intro⟨i,i1⟩;have i1:i≤x.length:=i1;have hq:∀k,(yR (x.take k)).length≤256:=fun k=>by
  have:=BA (fun r:Rl=>!r.yanked) (x.take k)
  rw[AB]at this;show(List.filter _ _).length≤256;omega
 refine Xi 0 ?_;refine Yi ?_ ?_
 ·intro h;have h:(i:Int)<(x.map Ah).length:=h;have h:i<x.length:=by simpa using h
  have hg:x[i]?=some x[i]:=Ge h;have Kj:x.take (i+1)=x.take i++[x[i]]:=by rw[Bn,hg];rfl
  refine Xi 0 ?_;refine Xi (Ah x[i]) (Yi (Yi (Nn i) (by simp[hg])) (Yi rfl ?_));refine Yi (Nz rfl) (Yi (Nz rfl) ?_);refine Xi ⟨[(2,.ref 2 0),(5,.ref 16 0),(7,.ref 7 0),(18,sl Ah x),(19,vi (x.map Ah).length),(20,vi i)],[(2,.ro (Ic x ifs)),(7,.cells (Ah x[i])),(12,.mapU CL (Ij (yR (x.take i)))),(13,.map CL []),(14,.map DO []),(16,.cells [sl AN roots,.mref 12,.mref 13,.v (.slice none 0 0),.v (.slice none 0 0),.mref 14,vb false,.v (.slice none 0 0),.v (.slice none 0 0),.v (.slice none 0 0)])],IN (yR (x.take i))⟩ (Yi ?_ ?_)
  ·exact⟨Z6,⟨Zr,Zr,⟨rfl,Hl _ (ER _ (hq _))⟩,Zr,Zr,Zr,Tv⟩,Gj (hq _) (ER _ (hq _)),Aw (by kernel_rfl)⟩
  refine Xi 0 ?_;refine Yi (fun hy=>?_) (fun hy=>?_)
  ·have hy:x[i].yanked=true:=hy;have ey:yR (x.take (i+1))=yR (x.take i):=by
    unfold yR;rw[Kj,Dd,Rg (by rw[hy];decide)];simp
   refine Xi ⟨[(2,.ref 2 0),(5,.ref 16 0),(18,sl Ah x),(19,vi (x.map Ah).length),(20,vi i)],[(2,.ro (Ic x ifs)),(12,.mapU CL (Ij (yR (x.take (i+1))))),(13,.map CL []),(14,.map DO []),(16,.cells [sl AN roots,.mref 12,.mref 13,.v (.slice none 0 0),.v (.slice none 0 0),.mref 14,vb false,.v (.slice none 0 0),.v (.slice none 0 0),.v (.slice none 0 0)])],IN (yR (x.take (i+1)))⟩ (Yi ?_ ?_)
   ·rw[ey];exact⟨Z5,⟨Zr,⟨rfl,Hl _ (ER _ (hq _))⟩,Zr,Zr,Zr,Tv⟩,Gj (hq _) (ER _ (hq _)),Aw (by kernel_rfl)⟩
   refine Xi 0 ?_;refine Yi (Ii i (by omega)) ?_;refine Xi ⟨i+1,by omega⟩ ?_;exact⟨Dl x.length i (by omega),Z5,⟨Zr,⟨rfl,Hl _ (ER _ (hq _))⟩,Zr,Zr,Zr,Tv⟩,Gj (hq _) (ER _ (hq _)),Aw (by kernel_rfl)⟩
  have hy:x[i].yanked=false:=hy;refine Xi 0 ?_;refine Yi (Nz rfl) ?_;refine Xi .pure (Xi _ (Yi (oU x[i].ver) ?_));refine Xi ⟨[(2,.ref 2 0),(5,.ref 16 0),(7,.ref 7 0),(8,vi (plc x[i].ver)),(18,sl Ah x),(19,vi (x.map Ah).length),(20,vi i)],[(2,.ro (Ic x ifs)),(7,.cells (Ah x[i])),(12,.mapU CL (Ij (yR (x.take i)))),(13,.map CL []),(14,.map DO []),(16,.cells [sl AN roots,.mref 12,.mref 13,.v (.slice none 0 0),.v (.slice none 0 0),.mref 14,vb false,.v (.slice none 0 0),.v (.slice none 0 0),.v (.slice none 0 0)])],IN (yR (x.take i))⟩ (Yi ?_ ?_)
  ·exact⟨Z7,⟨Zr,Zr,⟨rfl,Hl _ (ER _ (hq _))⟩,Zr,Zr,Zr,Tv⟩,Gj (hq _) (ER _ (hq _)),Aw (by kernel_rfl)⟩
  have ey:yR (x.take (i+1))=yR (x.take i)++[x[i]]:=by
   unfold yR;rw[Kj,Dd,Rh (by rw[hy];decide)];rfl
  have zE:(yR (x.take i)).length≤256:=by
   have:=BA (fun r:Rl=>!r.yanked) (x.take i)
   rw[AB]at this;show(List.filter _ _).length≤256;omega
  have hP:∀l,IN (yR (x.take i)) (l+100)=FY (yR (x.take i)) l:=ER _ (hq _);refine Dj (Classical.em (x[i].path∈AP (yR (x.take i)) [])) (fun hp=>?_) (fun hp=>?_)
  ·refine B4 (B1.1 hp) (fun k hk=>?_);have hu:=aU hk;have hl:(F9 (yR (x.take i)) x[i].path).length≤256:=by
    rw[Lm];exact Br (BA _ _) zE
   have pV:k<256:=by
    have:=(Ap.1 hk).1
    have:=G3 (yR (x.take i)) []
    simp only[AF]at this;omega
   have hr:IN (yR (x.take i)) (k+100)=.tok 10 (F9 (yR (x.take i)) x[i].path).length:=by rw[hP,Z0 hk]
   refine Xi 0 ?_;refine Or.inl (Xi (.slice (.id (k+100) 10) (F9 (yR (x.take i)) x[i].path)) (Yi hu ?_));refine Yi (Nz rfl) ?_;refine PU (e:=150) (m:=9) (es2:=[PY x[i]]) rfl rfl rfl (fun _ h=>h) hr ⟨rfl,trivial⟩ (by show(_+1)*128≤_;omega) (by show _+1≤_;omega) ?_;refine Yi (IL ⟨A0 _,A0 _,A0 _,A0 _,A0 _,A0 _,A0 _,A0 _,A0 _,A0 _,A0 _,A0 _,A0 _,A0 _,A0 _,A0 _,D0 (show 49<10000000 by decide),D0 (by show _+100<10000000;omega),D0 (show 12<10000000 by decide),trivial⟩ (by kernel_rfl)) ?_;have e9:EK (Ij (yR (x.take i))) (.string x[i].path) (.slice (.id (k+100) 10) (F9 (yR (x.take i)) x[i].path++[PY x[i]]))=Ij (yR (x.take (i+1))):=by rw[ey];exact dU hk
   have hG:∀l,(bif Nat.beq (l+100) (k+100)then HO.tok 10 ((F9 (yR (x.take i)) x[i].path).length+1)else FY (yR (x.take i)) l)=FY (yR (x.take (i+1))) l:=by rw[ey];exact gS hk
   refine Xi ⟨[(2,.ref 2 0),(5,.ref 16 0),(18,sl Ah x),(19,vi (x.map Ah).length),(20,vi i)],[(2,.ro (Ic x ifs)),(12,.mapU CL (Ij (yR (x.take (i+1))))),(13,.map CL []),(14,.map DO []),(16,.cells [sl AN roots,.mref 12,.mref 13,.v (.slice none 0 0),.v (.slice none 0 0),.mref 14,vb false,.v (.slice none 0 0),.v (.slice none 0 0),.v (.slice none 0 0)])],IN (yR (x.take (i+1)))⟩ (Yi ?_ ?_)
   ·refine⟨Z5,⟨Zr,⟨Ad (HO.mapU CL) e9,Hl _ (ER _ (hq _))⟩,Zr,Zr,Zr,Tv⟩,Gj (hq _) (fun l=>?_),Vs (fun n=>?_)⟩
    ·show(bif Nat.beq (l+100) (k+100)then HO.tok 10 ((F9 (yR (x.take i)) x[i].path).length+1)else IN (yR (x.take i)) (l+100))=_;rw[hP];exact hG l
    ·exact Za (y:=yR (x.take i)) (show k+100<1000 by omega)
   refine Xi 0 ?_;refine Yi (Ii i (by omega)) ?_;refine Xi ⟨i+1,by omega⟩ ?_;exact⟨Dl x.length i (by omega),Z5,⟨Zr,⟨rfl,Hl _ (ER _ (hq _))⟩,Zr,Zr,Zr,Tv⟩,Gj (hq _) (ER _ (hq _)),Aw (by kernel_rfl)⟩
  ·have K7:(AP (yR (x.take i)) []).length≤256:=by
    have:=G3 (yR (x.take i)) []
    simp only[AF]at this;omega
   have hn:=Uo hp;have hr:IN (yR (x.take i)) ((AP (yR (x.take i)) []).length+100)=.free:=by
    rw[hP];unfold FY;rw[A2 (Am _)]
   refine Xi ((AP (yR (x.take i)) []).length+100) ?_;refine Or.inr (Yi hn ?_);refine Yi (Nz rfl) ?_;refine PT (e:=150) (m:=9) (es2:=[PY x[i]]) rfl rfl rfl (fun _ h=>h) hr rfl ⟨rfl,trivial⟩ (by show 1*128≤_;omega) (by show 1≤_;omega) ?_;refine Yi (IL ⟨A0 _,A0 _,A0 _,A0 _,A0 _,A0 _,A0 _,A0 _,A0 _,A0 _,A0 _,A0 _,A0 _,A0 _,A0 _,A0 _,D0 (show 49<10000000 by decide),D0 (by show _+100<10000000;omega),D0 (show 12<10000000 by decide),trivial⟩ (by kernel_rfl)) ?_;have e9:EK (Ij (yR (x.take i))) (.string x[i].path) (.slice (.id ((AP (yR (x.take i)) []).length+100) 10) [PY x[i]])=Ij (yR (x.take (i+1))):=by rw[ey];exact dT hp
   have hG:∀l,(bif Nat.beq (l+100) ((AP (yR (x.take i)) []).length+100)then HO.tok 10 1 else FY (yR (x.take i)) l)=FY (yR (x.take (i+1))) l:=by rw[ey];exact gR hp
   refine Xi ⟨[(2,.ref 2 0),(5,.ref 16 0),(18,sl Ah x),(19,vi (x.map Ah).length),(20,vi i)],[(2,.ro (Ic x ifs)),(12,.mapU CL (Ij (yR (x.take (i+1))))),(13,.map CL []),(14,.map DO []),(16,.cells [sl AN roots,.mref 12,.mref 13,.v (.slice none 0 0),.v (.slice none 0 0),.mref 14,vb false,.v (.slice none 0 0),.v (.slice none 0 0),.v (.slice none 0 0)])],IN (yR (x.take (i+1)))⟩ (Yi ?_ ?_)
   ·refine⟨Z5,⟨Zr,⟨Ad (HO.mapU CL) e9,Hl _ (ER _ (hq _))⟩,Zr,Zr,Zr,Tv⟩,Gj (hq _) (fun l=>?_),Vs (fun n=>?_)⟩
    ·show(bif Nat.beq (l+100) ((AP (yR (x.take i)) []).length+100)then HO.tok 10 1 else IN (yR (x.take i)) (l+100))=_;rw[hP];exact hG l
    ·exact Za (y:=yR (x.take i)) (show(AP (yR (x.take i)) []).length+100<1000 by omega)
   refine Xi 0 ?_;refine Yi (Ii i (by omega)) ?_;refine Xi ⟨i+1,by omega⟩ ?_;exact⟨Dl x.length i (by omega),Z5,⟨Zr,⟨rfl,Hl _ (ER _ (hq _))⟩,Zr,Zr,Zr,Tv⟩,Gj (hq _) (ER _ (hq _)),Aw (by kernel_rfl)⟩
 ·intro h;have h:¬(i:Int)<(x.map Ah).length:=h;have h:¬i<x.length:=by simpa using h
  have et:x.take i=x:=AD (by omega);have eM:∀hh:Nat→HO,QK hh (Ij (yR (x.take i)))=(AP (yR x) []).map (kC x):=fun hh=>by
   rw[et];unfold QK Ij;rw[BK];refine CV fun j=>?_;rw[AC,AC,List.getElem?_zipIdx];cases (AP (yR x) [])[j]? with
   |none=>rfl
   |some q=>show some (Value.string q,AV.slice .none (F9 (yR x) q))=_;rw[YK];rfl
  refine Xi ⟨[(2,.ref 2 0),(5,.ref 16 0)],[(2,.ro (Ic x ifs)),(12,.mapU CL (Ij (yR (x.take i)))),(13,.map CL []),(14,.map DO []),(16,.cells [sl AN roots,.mref 12,.mref 13,.v (.slice none 0 0),.v (.slice none 0 0),.mref 14,vb false,.v (.slice none 0 0),.v (.slice none 0 0),.v (.slice none 0 0)])],IN (yR (x.take i))⟩ (Yi ?_ ?_)
  ·exact⟨Z2,⟨Zr,⟨rfl,Hl _ (ER _ (hq _))⟩,Zr,Zr,Zr,Tv⟩,Gj (hq _) (ER _ (hq _)),Aw (by kernel_rfl)⟩
  refine Xi 0 ?_;refine Xi {p:List ByteArray×List ByteArray×Option (Value×AV) // (p.1++p.2.1).Perm (AP (yR x) [])} (Xi (fun p=>⟨[(2,.ref 2 0),(5,.ref 16 0),(56,.ref 56 0)],[(2,.ro (Ic x ifs)),(12,.rom CL ((AP (yR x) []).map (kC x))),(13,.map CL (p.1.1.map (kA x))),(14,.map DO []),(16,.cells [sl AN roots,.mref 12,.mref 13,.slice (.id 90 6) [],.slice (.id 91 1) [],.mref 14,vb false,.slice (.id 93 10) [],.slice (.id 94 4) [],.v (.slice none 0 0)]),(56,.iter ((AP (yR x) []).map (kC x)) (p.1.2.1.map (kC x)) p.1.2.2),(90,.tok 6 0),(91,.tok 1 0),(93,.tok 10 0),(94,.tok 4 0)],Aa⟩) (Xi (fun p=>p.1.2.1.length) (Yi (Xi ⟨([],AP (yR x) [],none),.refl _⟩ ?_) ?_)))
  ·refine⟨Z3,⟨Zr,⟨Ad (HO.rom CL) (eM _),rfl⟩,Zr,Zr,Zr,⟨?_,rfl⟩,Zr,Zr,Zr,Zr,Tv⟩,Fh,Vs (fun n=>?_)⟩
   ·show HO.iter (QK _ (Ij (yR (x.take i)))) (QK _ (Ij (yR (x.take i)))) none=_;rw[eM]
   ·exact Zo (yR (x.take i)) n
  intro⟨⟨done,rem,Fq⟩,r1⟩;have r1:(done++rem).Perm (AP (yR x) []):=r1;refine Xi 0 ?_;refine Yi ?_ ?_
  ·intro hr;have hr:rem.map (kC x)=[]:=hr;have hr:rem=[]:=DY.1 hr;subst hr;rw[BT]at r1;refine Xi ⟨[(5,.ref 16 0)],[(14,.map DO []),(16,.cells [sl AN roots,.cmap CL (mC x),.cmap CL (done.map (kA x)),.slice (.id 90 6) [],.slice (.id 91 1) [],.mref 14,vb false,.slice (.id 93 10) [],.slice (.id 94 4) [],.msl 92 0]),(90,.tok 6 0),(91,.tok 1 0),(92,.arr 1 []),(93,.tok 10 0),(94,.tok 4 0)],Aa⟩ (Yi ⟨Z1,Z7,Fh,Aw (by kernel_rfl)⟩ ?_)
   refine Xi 0 ?_;exact Xi _ (Yi (.refl _) (Xi done (Yi r1 (Yi rfl rfl))))
  ·intro kv Nv hp;refine B4 (jE hp) (fun t hp=>B4 hp (fun r hp=>?_));have e1:=hp.1;have e2:=hp.2.1;subst e1;subst e2;have hp:=hp.2.2;refine Xi ⟨[(2,.ref 2 0),(5,.ref 16 0),(56,.ref 56 0)],[(2,.ro (Ic x ifs)),(12,.rom CL ((AP (yR x) []).map (kC x))),(13,.map CL (done.map (kA x))),(14,.map DO []),(16,.cells [sl AN roots,.mref 12,.mref 13,.slice (.id 90 6) [],.slice (.id 91 1) [],.mref 14,vb false,.slice (.id 93 10) [],.slice (.id 94 4) [],.v (.slice none 0 0)]),(56,.iter ((AP (yR x) []).map (kC x)) (r.map (kC x)) (some (kC x t))),(90,.tok 6 0),(91,.tok 1 0),(93,.tok 10 0),(94,.tok 4 0)],Aa⟩ (Yi ⟨Z3,Z10,Fh,Aw (by kernel_rfl)⟩ ?_)
   refine Xi 0 ?_;refine Xi ⟨[(2,.ref 2 0),(5,.ref 16 0),(10,vs t),(56,.ref 56 0)],[(2,.ro (Ic x ifs)),(12,.rom CL ((AP (yR x) []).map (kC x))),(13,.map CL (done.map (kA x))),(14,.map DO []),(16,.cells [sl AN roots,.mref 12,.mref 13,.slice (.id 90 6) [],.slice (.id 91 1) [],.mref 14,vb false,.slice (.id 93 10) [],.slice (.id 94 4) [],.v (.slice none 0 0)]),(56,.iter ((AP (yR x) []).map (kC x)) (r.map (kC x)) (some (kC x t))),(90,.tok 6 0),(91,.tok 1 0),(93,.tok 10 0),(94,.tok 4 0)],Aa⟩ (Yi ⟨Z4,Z10,Fh,Aw (by kernel_rfl)⟩ ?_)
   refine Xi 0 ?_;have QF:(done++rem).Nodup:=r1.nodup_iff.2 (EG _ [] E1);have uE:t∉done:=fun hc=>(F2.1 QF).2.2 t hc t (hp.mem_iff.2 (Ab ..)) rfl;have em:EK (done.map (kA x)) (.string t) (sl Aq (BZ x t))=(done++[t]).map (kA x):=by
    rw[LN (fun a ha=>uE (VJ.1 ha).1),Ay];rfl
   have Tr:((done++[t])++r).Perm (AP (yR x) []):=by
    rw[BH];exact(List.Perm.append_left _ hp.symm).trans r1
   refine Yi (Nz rfl) ?_;refine Xi _ (Yi (sQ x ifs t (c84 x ifs hx)) ?_);refine Yi (by kernel_rfl) ?_;refine Xi ⟨(done++[t],r,some (kC x t)),Tr⟩ ?_;exact⟨by show r.length<rem.length;rw[hp.length_eq,Ax];omega,Z3,⟨Zr,Zr,⟨Ad (HO.map CL) em,rfl⟩,Zr,Zr,Zr,Zr,Zr,Zr,Zr,Tv⟩,Fh,Aw (by kernel_rfl)⟩
end Go.Eng
namespace Go.Eng
open Go.Proofs
theorem X5{x:List Rl}(h0:AX x=0){p:ByteArray}(h:p∉AP (yR x) []):BZ x p=[]:=by
 rw[ax h0]
 have:x.filter (Zk p)=[]:=by
  rw[G6];intro r hr hc;unfold Zk at hc;rw[Af,Av]at hc;exact h ((G4 _ _ _).2 (.inr ⟨r,BI.2 ⟨hr,hc.2⟩,hc.1⟩))
 rw[this];rfl
theorem l8{x:List Rl}{roots:List Rq}(hx:∀r∈x,KC r)(hr:∀q∈roots,NH q)(h0:AX x=0)(h1:BL roots=0){l:List ByteArray}(hl:l.Perm (AP (yR x) [])):sb x roots (mC x) (l.map (kA x)) where
 hx:=h0
 hr:=h1
 fx:=hx
 fr:=hr
 c1:=qw x
 c2:=qx x
 c3:=qy x
 av p:=by
  by_cases hp:p∈l
  ·exact⟨sl Aq (BZ x p),fun a ha=>(VJ.1 ha).2,fun hn=>(hn _ (VJ.2 ⟨hp,rfl⟩)).elim,fun h=>oN p (BZ x p) (Rs x p)⟩
  ·refine⟨.v (.slice none 0 0),fun a ha=>(hp (VJ.1 ha).1).elim,fun _=>rfl,fun h=>?_⟩;have e:=X5 h0 (fun hc=>hp (hl.mem_iff.2 hc));have hc:=oN p (BZ x p) (Rs x p);rw[e]at hc⊢;exact IZ.args hc ⟨.refl _,.nil,trivial⟩
abbrev Iv(b:Bool):List AV:=[vb b]
end Go.Eng
