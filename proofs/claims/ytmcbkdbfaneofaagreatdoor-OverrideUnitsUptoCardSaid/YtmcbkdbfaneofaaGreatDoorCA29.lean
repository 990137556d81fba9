/- Lemmas for the claims of this seat, without a condition: part 29 (S8d, S8e, S11, S12, S13, S14, S16, S18, R24, C74, R25, R26, R27, R28, R29, R30, R31). -/
import Derived.Test.YtmcbkdbfaneofaaGreatDoorCA28
import Derived.Test.YtmcbkdbfaneofaaGreatDoorCA25
set_option maxHeartbeats 8000000
namespace Go.Eng
open Go.Proofs
theorem wa(x:List Rl)(roots:List Rq)(C A:List (Value×AV))(n:Nat)(s:SS)(dec:List Cd)(st:List (List Sk))(p:ByteArray)(n0:Nd)(l:List Nd)(V:AV)(cs:List Cd)(R O:JN)(hL:sq x roots C A n dec p n0 l V cs)(hs:Jr x roots s)(I9:st.length=dec.length)
  (QZ:Bd Tryz.prog 119 [.ref 1000 0] (Ah (IW roots C A s dec st) Ab) fun r h'=>r=.tup [vs p,sl A8 (n0::l)]∧h'=Ah (IW roots C A s dec st) Ab)
  (pP:cs=[]) (tn:∀a,(Value.string p,a)∉C) (hR:DW (Da x roots n) x p (n0::l) n0 dec st cs s [] []=R) (ZW:O=R) :
  Bd Tryz.prog 97 [.ref 1000 0] (Ah (IW roots C A s dec st) Ab) (Yo roots C A O):=by
 obtain⟨hx,hr,hdl,hcl,hcs,hnl,hnq,hnp,hex,hcx,hcq,hcp_,hcr,hcs_,hkey,hinf0,⟨pD,pE,pF⟩,ih⟩:=hL;have hdl:dec.length≤256:=hdl;have hcl:cs.length≤256:=hcl;have I9:st.length=dec.length:=I9;have wS:∀(i:Nat) (h:i<cs.length),cs[i]∈Co x p:=fun i h=>by rw[←hcs];exact Aq h
 have oh:∀(i:Nat) (h:i<cs.length),Cp (AK (dec++[cs[i]])):=fun i h=>by unfold Cp AK;rw[Lm,Ad];simp;omega
 clear hcs
 refine Cm (Mo ⟨[9],[(6,1),(7,3),(145,1)],[],[],[],[],[],[],[],[(300001,500091000),(300026,500091000),(300029,500091000)],[1,2,5,10,11,13,14,15,16,17,19,21,22,23,24,25,26,28,29,31,32,33,35]⟩) [(1000,1000),(1001,1001),(1002,1002),(1003,1003),(1004,1004),(500,2000)] rfl CK hm rfl Tryz.func97 (by kernel_rfl) rfl (Nz rfl) (by kernel_rfl) rfl ?_;refine Yi (show st.length=(st.map AS).length by simp) ?_;refine Xi ⟨[(0,.ref 1000 0)],[(500,.arr 1 (st.map AS)),(1000,.cells (srM roots C A s dec 500 st.length)),(1001,.tok 6 s.infs.length),(1002,.tok 1 s.drv.length),(1003,.map DR (DT 0 s.infs)),(1004,.dead)],Ab⟩ (Yi ⟨Z1,Z6,Fh,Ax (by kernel_rfl)⟩ ?_)
 refine Xi (.gen Yn 0) (Yi rfl (Bd.imp QZ ?_));intro v1 g1 q1;have gN:=q1.1;have gO:=q1.2;subst gN;subst gO;refine Xi ⟨[(0,.ref 1000 0),(4,vs p),(5,sl A8 (n0::l))],[(500,.arr 1 (st.map AS)),(1000,.cells (srM roots C A s dec 500 st.length)),(1001,.tok 6 s.infs.length),(1002,.tok 1 s.drv.length),(1003,.map DR (DT 0 s.infs)),(1004,.dead)],Ab⟩ (Yi ⟨Z3,Z6,Fh,Ax (by kernel_rfl)⟩ ?_)
 refine Yi (fun h2=>?_) (fun h2=>?_)
 ·have h2:(((n0::l).map A8).length:Int)=(0:Int):=h2;exact absurd h2 (by simp;omega)
 have h2:¬((((n0::l).map A8).length:Int)=(0:Int)):=h2;refine Xi ⟨[(0,.ref 1000 0),(4,vs p),(5,sl A8 (n0::l)),(6,.slice (.id 6 1) [])],[(6,.tok 1 0),(500,.arr 1 (st.map AS)),(1000,.cells (srM roots C A s dec 500 st.length)),(1001,.tok 6 s.infs.length),(1002,.tok 1 s.drv.length),(1003,.map DR (DT 0 s.infs)),(1004,.dead)],Ab⟩ (Yi ⟨Z4,Z7,Fh,Ax (by kernel_rfl)⟩ ?_)
 refine Yi (fun a ha=>?_) (fun Ra=>?_)
 ·exact absurd ha (tn a)
 refine Xi {q:Nat×SS×List Nat×List Sk // q.1≤cs.length∧DW (Da x roots n) x p (n0::l) n0 dec st (cs.drop q.1) q.2.1 q.2.2.1 q.2.2.2=R∧Jr x roots q.2.1∧(∀r∈q.2.2.1,r<q.2.1.drv.length)∧q.2.2.1.length≤q.1∧q.2.2.2.length≤q.1} (Xi (fun q=>⟨[(0,.ref 1000 0),(4,vs p),(5,sl A8 (n0::l)),(6,.slice (.id 6 1) (q.1.2.2.1.map BM)),(7,.slice (.id 7 3) (q.1.2.2.2.map BS)),(32,.v (.slice none 0 0)),(33,vi 0),(34,vi q.1.1)],[(6,.tok 1 q.1.2.2.1.length),(7,.tok 3 q.1.2.2.2.length),(500,.arr 1 (st.map AS)),(1000,.cells (srM roots C A q.1.2.1 dec 500 st.length)),(1001,.tok 6 q.1.2.1.infs.length),(1002,.tok 1 q.1.2.1.drv.length),(1003,.map DR (DT 0 q.1.2.1.infs)),(1004,.dead)],Ab⟩) (Xi (fun q=>cs.length-q.1.1) (Yi (Xi ⟨(0,s,[],[]),AN _,hR,hs,fun r h=>(by cases h),Aj _,Aj _⟩ ?_) ?_)))
 ·exact⟨Z8,Z8,Fh,Ax (by kernel_rfl)⟩
 intro⟨⟨i,S,rs,sk⟩,j1,j2,j3,j4,j5,j6⟩;have j1:i≤cs.length:=j1;have j2:DW (Da x roots n) x p (n0::l) n0 dec st (cs.drop i) S rs sk=R:=j2;have j3:Jr x roots S:=j3;have j4:∀r∈rs,r<S.drv.length:=j4;have j5:rs.length≤i:=j5;have j6:sk.length≤i:=j6;have hw:=j3.dl;have ff:∀t∈S.drv,dz t:=fun t ht=>by have q:=j3.der.few hx hr t ht;exact⟨EZ q,q.2⟩
 refine Yi (fun h3=>?_) (fun h3=>?_)
 ·have h3:(i:Int)<(0:Int):=h3;exact absurd h3 (by have q:=j1;rw[pP,AC]at q;omega)
 have h3:¬((i:Int)<(0:Int)):=h3;refine Xi (A8 n0) (Yi (Yi (show(0:Int)≤0 by decide) rfl) (Yi rfl ?_));refine Yi (Nz rfl) ?_;refine Xi (.gen Yn 0) (Yi rfl (Bd.imp (xV x roots C A S dec st p n0 rs V hx hr j3 hinf0 j4 (by omega) (hnq n0 (Aa ..)) (hnp n0 (Aa ..)) pD pE pF) ?_));intro v4 g4 q4;have vI:=q4.1;have vJ:=q4.2;subst vI;subst vJ;have hj:¬i<cs.length:=by rw[pP];simp
 have eR:R=⟨(DX x p n0 rs S).1,false,(DX x p n0 rs S).2,dec,st⟩:=by rw[←j2];exact dT hj
 exact Xi _ (Yi (.refl _) (Nb (ZW.trans eR)))
theorem wd(roots:List Rq)(C A:List (Value×AV))(s:SS)(dec:List Cd)(st:List (List Sk))(p:ByteArray)(N:List Nd)(O:JN)(hN:N=[])
  (QZ:Bd Tryz.prog 119 [.ref 1000 0] (Ah (IW roots C A s dec st) Ab) fun r h'=>r=.tup [vs p,sl A8 N]∧h'=Ah (IW roots C A s dec st) Ab) (hO:O=⟨0,true,s,dec,st⟩) :
  Bd Tryz.prog 97 [.ref 1000 0] (Ah (IW roots C A s dec st) Ab) (Yo roots C A O):=by
 refine Cm (Mo ⟨[],[],[],[],[],[],[],[],[],[(300001,500091000)],[1,2,5,10,11,13,14,15,16,17,19,21,22,23,25,28,29,31,32,33,35]⟩) [(1000,1000),(1001,1001),(1002,1002),(1003,1003),(1004,1004),(500,2000)] rfl CK hm rfl Tryz.func97 (by kernel_rfl) rfl (Nz rfl) (by kernel_rfl) rfl ?_;refine Yi (show st.length=(st.map AS).length by simp) ?_;refine Xi ⟨[(0,.ref 1000 0)],[(500,.arr 1 (st.map AS)),(1000,.cells (srM roots C A s dec 500 st.length)),(1001,.tok 6 s.infs.length),(1002,.tok 1 s.drv.length),(1003,.map DR (DT 0 s.infs)),(1004,.dead)],Ab⟩ (Yi ⟨Z1,Z6,Fh,Ax (by kernel_rfl)⟩ ?_)
 refine Xi (.gen Yn 0) (Yi rfl (Bd.imp QZ ?_));intro v1 g1 q1;have gN:=q1.1;have gO:=q1.2;subst gN;subst gO;refine Xi ⟨[(0,.ref 1000 0),(4,vs p),(5,sl A8 N)],[(500,.arr 1 (st.map AS)),(1000,.cells (srM roots C A s dec 500 st.length)),(1001,.tok 6 s.infs.length),(1002,.tok 1 s.drv.length),(1003,.map DR (DT 0 s.infs)),(1004,.dead)],Ab⟩ (Yi ⟨Z3,Z6,Fh,Ax (by kernel_rfl)⟩ ?_)
 refine Yi (fun h2=>?_) (fun h2=>?_)
 ·have h2:((N.map A8).length:Int)=(0:Int):=h2;exact Xi _ (Yi (.refl _) (Nb (st:=st) hO))
 have h2:¬(((N.map A8).length:Int)=(0:Int)):=h2;exact absurd (by rw[hN];rfl) h2
section
variable {x:List Rl}{roots:List Rq}{p:ByteArray}
theorem H7:∀(l:List Nat) {k:Nat} {s:SS},s.infs.Nodup→(Ck p l k s).2.infs.Nodup
 | [],_,_,h=>h
 |r::l,k,s,h=>by
  unfold Ck;split
  ·exact h
  split
  ·exact H7 l h
  split
  ·exact H7 l h
  ·exact H7 l (HM h)
theorem KG{needs:List Nd}{n0:Nd}{dec:List Cd}{st:List (List Sk)}{rec:List Cd→SS→List (List Sk)→JN}(bQ:∀c s st,s.infs.Nodup→(rec (dec++[c]) s st).ss.infs.Nodup) :
  ∀(cs:List Cd) {s:SS} {rs:List Nat} {sk:List Sk},s.infs.Nodup→(DW rec x p needs n0 dec st cs s rs sk).ss.infs.Nodup
 | [],s,rs,sk,h=>H7 _ (HM (HM h))
 |c::cs,s,rs,sk,h=>by
  have lS:∀(s' : SS) (k:Nat),s'.infs.Nodup→(Jx rec x p needs n0 dec st c cs rs sk k s').ss.infs.Nodup:=fun s' k h'=>by
   unfold Jx;split
   ·exact h'
   ·exact KG bQ cs h'
  rw[F3];split
  ·exact h
  cases needs.find? fun n=>!has n.rq.set c.place with
  |some n=>exact KG bQ cs (HM h)
  |none =>
   dsimp only;cases Oe s.drv (AK (dec++[c]))with
   |some k=>exact lS s k h
   |none =>
    dsimp only;cases D1 dec c with
    |some n=>exact lS _ _ (HM h)
    |none =>
     dsimp only;have h2:=bQ c s (st++[sk]) h;split
     ·exact h2
     split
     ·exact h2
     ·exact lS _ _ h2
theorem OZ:∀(n:Nat) {dec:List Cd} {s:SS} {st:List (List Sk)},s.infs.Nodup→(Da x roots n dec s st).ss.infs.Nodup
 |0,_,_,_,h=>h
 |n+1,dec,s,st,h=>by
  unfold Da;cases (Gw roots dec).2 with
  |nil=>exact h
  |cons n0 l=>exact KG (fun c s st h=>OZ n h) _ h
structure so(x:List Rl)(roots:List Rq)(C A:List (Value×AV)):Prop where
 hx:Bb x=0
 hr:BR roots=0
 fx:∀r∈x,J3 r
 fr:∀q∈roots,NW q
 c1:∀(p:ByteArray) (a:AV),(Value.string p,a)∈C→a=sl AE (Co x p)
 c2:∀p:ByteArray,(∀a,(Value.string p,a)∉C)→Co x p=[]
 c3:∀p:ByteArray,Co x p=[]→∀a,(Value.string p,a)∉C
 av:∀p:ByteArray,∃V,HV x A p V
theorem mz{dec:List Cd}(h:∀c∈dec,c.rel.reqs.length≤16):((dec.map fun c=>c.rel.reqs).flatten).length≤16*dec.length:=by
 induction dec with
 |nil=>simp
 |cons c dec ih =>
  rw[AP,By,Ad,At]
  have:=h c (Aa ..)
  have:=ih fun d hd=>h d (Af _ hd)
  omega
theorem nA{r:Rl}(h:RF r):0≤plc r.ver∧plc r.ver<1000000:=by rw[h.plc];exact Jj h.val
theorem cr(dec:List Cd):(Gw roots dec).2.length≤(Dr roots dec).length:=by
 rw[Tb];cases Ks (HA roots dec) (AK dec)with
 |none=>simp
 |some q=>exact BD _ _
theorem xT{C A:List (Value×AV)}(hE:so x roots C A)(mB:x5 roots C A):∀(n:Nat) {dec:List Cd} {s:SS} {st:List (List Sk)},Ey x dec→IB roots dec→Jr x roots s→s.full=false→Qz x dec<n→st.length=dec.length →
  Bd Tryz.prog 97 [.ref 1000 0] (Ah (IW roots C A s dec st) Ab) (Yo roots C A (Da x roots n dec s st))
 |0,_,_,_,_,_,_,_,h,_=>by omega
 |n+1,dec,s,st,hd,bR,hs,hf,hn,I9=>by
  have hx:=hE.hx;have hr:=hE.hr;have lw:=PG hx;have hdl:=W2 hd;have tR:dec.length≤256:=by have:=lw.1;omega
  have Wz:∀c∈dec,c.rel.reqs.length≤16:=fun c hc=>lw.2 _ (hd.cand c hc).1;have QZ:=mB s dec st (by omega) fun c hc=>A3 (Wz c hc) (by decide);generalize hO:Da x roots (n+1) dec s st=O;obtain⟨N,hN⟩:∃N,N=(Gw roots dec).2:=⟨_,rfl⟩;obtain⟨q,hq⟩:∃q,q=(Gw roots dec).1:=⟨_,rfl⟩;rw[←hN,←hq]at QZ;have yH:N.length≤10000:=by
   have h1:=cr (roots:=roots) dec;have h2:(Dr roots dec).length=(HA roots dec).length:=by rw[←Mz,Lm]
   have h3:=mz Wz;have h4:=OU hr;rw[←hN]at h1;unfold HA at h2;rw[Ad]at h2;omega
  cases hNc:N with
  |nil =>
   rw[hNc]at hN QZ;refine wd roots C A s dec st q [] O rfl QZ ?_;rw[←hO];unfold Da;rw[←hN]
  |cons n0 l =>
   rw[hNc]at hN QZ;have kW:=NK hN.symm;rw[←hq]at kW;have Q0:∀nd∈n0::l,nd∈Dr roots dec:=fun nd h=>((kW.mem nd).1 h).1;have Gq:=(CI hx).1;have few:∀{E:List Cd},Ey x E→∀nd∈Dr roots E,Cp nd.rq.set∧B1 (nd.place+1):=fun yA nd h=>by
    rcases L4 h with ⟨k,r,h1,rfl⟩ | ⟨c,hc,k,r,h1,rfl⟩
    ·exact⟨(hE.fr r (Av h1)).1,by unfold B1;show -9223372036854775808≤(0:Int)+1∧(0:Int)+1<9223372036854775808;decide⟩
    ·have h2:=yA.cand c hc;have h3:=nA (Gq _ h2.1);rw[←h2.2.2]at h3;exact⟨((hE.fx _ h2.1).2 r (Av h1)).1,by unfold B1;show _≤c.place+1∧c.place+1<_;omega⟩
   have lu:∀c∈Co x q,Ey x (dec++[c])∧c.rel.path=q∧c.rel∈x:=fun c hc=>by
    obtain⟨c1,c2⟩:=Jy hc;exact⟨hd.snoc c2 (by rw[c1];exact kW.undone),c1,c2.1⟩
   have E6:∀(i:Nat) (h:i<(Co x q).length),(Co x q)[i]∈Co x q:=fun i h=>Aq h;obtain⟨V,hV⟩:=hE.av q
   have hL:sq x roots C A n dec q n0 l V (Co x q):={
    hx:=hx
    hr:=hr
    hdl:=tR
    hcl:=A3 (Uw x q) lw.1
    hcs:=rfl
    hnl:=by rw[hNc]at yH;omega
    hnq:=fun nd h=>(few hd nd (Q0 nd h)).1
    hnp:=fun nd h=>(few hd nd (Q0 nd h)).2
    hex:=fun i h nd hm hh=>by
     obtain⟨a,b,_⟩:=lu _ (E6 i h);exact⟨(OK hx hr a (NH (Q0 nd hm)) ⟨(Co x q)[i],by simp,b.trans ((kW.mem nd).1 hm).2.symm,hh⟩).1,trivial⟩
    hcx:=fun i h nc hc=>by
     obtain⟨a,b,_⟩:=lu _ (E6 i h);obtain⟨m1,m2⟩:=KK hc;exact⟨(OK hx hr a (MA m1) m2).1,trivial⟩
    hcq:=fun i h nc hm=>(few (lu _ (E6 i h)).1 nc (MA hm)).1
    hcp_:=fun i h nc hm=>(few (lu _ (E6 i h)).1 nc (MA hm)).2
    hcr:=fun i h=>by have:=lw.2 _ (lu _ (E6 i h)).2.2;omega
    hcs_:=fun i h r hm=>((hE.fx _ (lu _ (E6 i h)).2.2).2 r hm).1
    hkey:=fun i h=>by
     have b:=(lu _ (E6 i h)).2.1;unfold AK;rw[AH,AH];show _=_++[[vs (Co x q)[i].rel.path,vi (Co x q)[i].rel.ver.a,vi (Co x q)[i].rel.ver.b,vi (Co x q)[i].rel.ver.c]];rw[b]
    hinf0:=(Rm hx hr hd (Q0 n0 (Aa ..)) (.inl (by
     rw[((kW.mem n0).1 (Aa ..)).2];exact Ho (by rw[FI];exact kW.undone)))).inf
    hV:=hV
    ih:=fun c hc ui S D2 hl hS wL=>by
     obtain⟨a,b,c3⟩:=lu c hc;obtain⟨k1,k2⟩:=OQ.1 ui;obtain⟨_,c2⟩:=Jy hc;have lr:=bR.snoc kW b k1 k2;have lf:Qz x (dec++[c])<n:=by have:=Sq (dec:=dec) ⟨c2.1,c2.2.1⟩ (by rw[b];exact kW.undone);omega
     have h1:=xT hE mB n a lr hS wL lf (st:=D2) (by rw[hl];simp);have h2:=PX hx hr n a lr hS.der wL lf (st:=D2);exact⟨h1,⟨h2.der,OZ n hS.nodup⟩,⟨h2.grow.len,fun e1 e2=>((h2.no e1).2.2 e2).1⟩,fun e1=>(h2.no e1).2.1⟩ }
   have hR:DW (Da x roots n) x q (n0::l) n0 dec st (Co x q) s [] []=O:=by
    rw[←hO]
    conv=>rhs;unfold Da
    rw[←hN,hq]
   by_cases hm:∀a,(Value.string q,a)∉C
   ·exact wa x roots C A n s dec st q n0 l V (Co x q) O O hL hs I9 QZ (hE.c2 q hm) hm hR rfl
   ·exact v8 x roots C A n s dec st q n0 l V (Co x q) O O hL hs I9 QZ (hE.c1 q) hm hR rfl
end
theorem wb{x:List Rl}{roots:List Rq}{C A:List (Value×AV)}(hE:so x roots C A)(n:Nat){dec:List Cd}{s:SS}{st:List (List Sk)}(h1:Ey x dec)(h2:IB roots dec)(h3:Jr x roots s)(h4:s.full=false)(h5:Qz x dec<n)(h6:st.length=dec.length) :
  Bd Tryz.prog 97 [.ref 1000 0] (Ah (IW roots C A s dec st) Ab) (Yo roots C A (Da x roots n dec s st)) :=
 xT hE (fun s dec st a b=>s64 roots C A s dec st (A3 (OU hE.hr) (by decide)) a b) n h1 h2 h3 h4 h5 h6
def GB(x:List Rl)(roots:List Rq):Bool:=decide (Bb x=0)&&decide (BR roots=0)
theorem se(x:List Rl)(ifs:List (List AV))(roots:List Rq)(hx:∀r∈x,J3 r)(hr:∀q∈roots,NW q):PC 95 [.agg (Ic x ifs),sl AM roots] (vb (GB x roots)):=by
 refine Ps ⟨[2],[],[],[],[],[],[],[],[],[],[]⟩ Tryz.func95 rfl (Nz rfl) ?_;refine Yi (Nz rfl) ?_;refine Xi .pure (Xi _ (Yi (pe YA x ifs hx) ?_));refine Yi (fun h1=>?_) (fun h1=>?_)
 ·have h1:((Bb x):Int)=(0:Int):=h1;refine Xi .pure (Xi _ (Yi (wt YA roots hr) ?_));refine Yi (fun h2=>?_) (fun h2=>?_)
  ·have h2:((BR roots):Int)=(0:Int):=h2;exact .of_eq (show vb true=vb (GB x roots) by unfold GB;rw[h1,h2];rfl)
  have h2:¬(((BR roots):Int)=(0:Int)):=h2;exact .of_eq (show vb false=vb (GB x roots) by unfold GB;rw[Ap h2,DE])
 have h1:¬(((Bb x):Int)=(0:Int)):=h1;exact .of_eq (show vb false=vb (GB x roots) by unfold GB;rw[Ap h1];rfl)
abbrev Qu(r:Rl):List AV:=AE ⟨plc r.ver,r⟩
abbrev Ga(y:List Rl)(p:ByteArray):List (List AV):=(y.filter fun r=>decide (r.path=p)).map Qu
abbrev Xm(y:List Rl)(q:ByteArray×Nat):Value×AV:=(.string q.1,.slice (.id (q.2+100) 10) (Ga y q.1))
abbrev Il(y:List Rl):List (Value×AV):=(AQ y []).zipIdx.map (Xm y)
def FW(y:List Rl)(l:Nat):HO:=match(AQ y [])[l]? with
 |some q=>.tok 10 (Ga y q).length
 |none=>.free
def IQ(y:List Rl)(j:Nat):HO:=bif Nat.ble 100 j&&Nat.blt j 1000 then FW y (j-100)else .free
theorem ER(y:List Rl)(hy:y.length≤256)(l:Nat):IQ y (l+100)=FW y l:=by
 unfold IQ;rw[show Nat.ble 100 (l+100)=true by rw[Db];omega,Ev,Nat.add_sub_cancel]
 by_cases h:l+100<1000
 ·rw[show Nat.blt (l+100) 1000=true by rw[Cj];exact h];rfl
 ·rw[show Nat.blt (l+100) 1000=false by rw[AI];intro hc;rw[Cj]at hc;omega]
  have:=G5 y []
  rw[AC]at this;unfold FW;rw[A4 (by omega)];rfl
theorem jw(y:List Rl){j:Nat}(h:j<100):IQ y j=.free:=by
 unfold IQ;rw[show Nat.ble 100 j=false by rw[AI];intro hc;rw[Db]at hc;omega];rfl
theorem G4(y:List Rl)(r:Rl)(q:ByteArray):Ga (y++[r]) q=if r.path=q then Ga y q++[Qu r]else Ga y q:=by
 unfold Ga;rw[Eg]
 by_cases h:r.path=q
 ·rw[Aw h,RC (by simpa using h)];simp
 ·rw[Ak h,RB (by simpa using h)];simp
section
variable {y:List Rl}{r:Rl}{k:Nat}
open Classical in
theorem eQ(h:(AQ y [])[k]?=some r.path):EK (Il y) (.string r.path) (.slice (.id (k+100) 10) (Ga y r.path++[Qu r]))=Il (y++[r]):=by
 have hd:=EH y [] E2;have hm:Xm y (r.path,k)∈Il y:=Am.2 ⟨_,Fp.2 h,rfl⟩;rw[XR (a':=.slice (.id (k+100) 10) (Ga y r.path)) hm];unfold Il;rw[I2 h,BN];refine Be fun q hq=>?_;have hg:=Ia hq;obtain⟨q,j⟩:=q;show(if Value.string q=Value.string r.path then _ else _)=Xm (y++[r]) (q,j);have hg:(AQ y [])[j]?=some q:=hg
 by_cases he:q=r.path
 ·subst he
  have:j=k:=IZ hd hg h
  subst this;rw[Aw rfl];show _=(Value.string r.path,AV.slice (.id (j+100) 10) (Ga (y++[r]) r.path));rw[G4,Aw rfl]
 ·rw[Ak (fun e=>he (by simpa using e))];show(Value.string q,AV.slice (.id (j+100) 10) (Ga y q))=(Value.string q,AV.slice (.id (j+100) 10) (Ga (y++[r]) q));rw[G4,Ak (fun e=>he e.symm)]
theorem XY(h:r.path∉AQ y []):Ga y r.path=[]:=by
 have:y.filter (fun s=>decide (s.path=r.path))=[]:=by
  rw[G9];intro s hs he;exact h ((G6 y [] r.path).2 (.inr ⟨s,hs,BJ he⟩))
 unfold Ga;rw[this];rfl
theorem UL(h:r.path∉AQ y [])(a:AV):(Value.string r.path,a)∉Il y:=by
 intro hc;obtain⟨q,h1,h2⟩:=Am.1 hc;simp only[Xm,FD,Value.string.injEq]at h2;exact h (by rw[←h2.1];exact Av (Ia h1))
theorem eK(h:r.path∉AQ y []):EK (Il y) (.string r.path) (.slice (.id ((AQ y []).length+100) 10) [Qu r])=Il (y++[r]):=by
 rw[L3 (fun a=>UL h a)];unfold Il;rw[I1 h,List.zipIdx_append,AH]
 congr 1
 ·refine Be fun q hq=>?_;have hg:=Ia hq
  have:q.1≠r.path:=fun e=>h (by rw[←e];exact Av hg)
  show(Value.string q.1,AV.slice (.id (q.2+100) 10) (Ga y q.1))=(Value.string q.1,AV.slice (.id (q.2+100) 10) (Ga (y++[r]) q.1));rw[G4,Ak (fun e=>this e.symm)]
 ·show [_]=[(Value.string r.path,AV.slice (.id (0+(AQ y []).length+100) 10) (Ga (y++[r]) r.path))];rw[G4,Aw rfl,XY h,Bi];rfl
theorem bI{p:ByteArray}{j:Nat}(h:(AQ y [])[j]?=some p):(Value.string p,AV.slice (.id (j+100) 10) (Ga y p))∈Il y∧∀b,(Value.string p,b)∈Il y→b=AV.slice (.id (j+100) 10) (Ga y p):=by
 refine⟨Am.2 ⟨(p,j),Fp.2 h,rfl⟩,fun b hb=>?_⟩;obtain⟨q,h1,h2⟩:=Am.1 hb;simp only[Xm,FD,Value.string.injEq]at h2;have hg:=Ia h1;rw[h2.1]at hg
 have:=IZ (EH y [] E2) hg h
 rw[←h2.2,h2.1,this]
theorem aO{p:ByteArray}{j:Nat}(h:(AQ y [])[j]?=some p):FW y j=.tok 10 (Ga y p).length:=by
 unfold FW;rw[h]
theorem io(h:(AQ y [])[k]?=some r.path)(l:Nat):(bif Nat.beq (l+100) (k+100)then HO.tok 10 ((Ga y r.path).length+1)else FW y l)=FW (y++[r]) l:=by
 by_cases he:l=k
 ·subst he;rw[show Nat.beq (l+100) (l+100)=true from CV _];unfold FW;rw[I2 h,h];show HO.tok 10 _=HO.tok 10 (Ga (y++[r]) r.path).length;rw[G4,Aw rfl,Ad];rfl
 ·rw[show Nat.beq (l+100) (k+100)=false by rw[AI];intro hc;have:=AL hc;omega];show FW y l=_;unfold FW;rw[I2 h];cases hq:(AQ y [])[l]? with
  |none=>rfl
  |some q =>
   show HO.tok 10 (Ga y q).length=HO.tok 10 (Ga (y++[r]) q).length;rw[G4,Ak];intro e;subst e;exact he (IZ (EH y [] E2) hq h)
theorem im(h:r.path∉AQ y [])(l:Nat):(bif Nat.beq (l+100) ((AQ y []).length+100)then HO.tok 10 1 else FW y l)=FW (y++[r]) l:=by
 by_cases he:l=(AQ y []).length
 ·subst he;rw[show Nat.beq ((AQ y []).length+100) ((AQ y []).length+100)=true from CV _];unfold FW;rw[I1 h];simp only[A2 (Aj _),F1,A7];show HO.tok 10 1=HO.tok 10 (Ga (y++[r]) r.path).length;rw[G4,Aw rfl,XY h];rfl
 ·rw[show Nat.beq (l+100) ((AQ y []).length+100)=false by rw[AI];intro hc;have:=AL hc;omega];show FW y l=_;unfold FW;rw[I1 h]
  by_cases hl:l<(AQ y []).length
  ·rw[AW hl,Ge hl];show HO.tok 10 (Ga y (AQ y [])[l]).length=HO.tok 10 (Ga (y++[r]) (AQ y [])[l]).length;rw[G4,Ak];intro e;exact h (by rw[e];exact Aq hl)
  ·rw[A4 (by omega),A4 (by rw[Ad];simp;omega)]
end
theorem Hm(y:List Rl){h:Nat→HO}(hh:∀l,h (l+100)=FW y l):QC h (Il y)=true:=by
 refine PE fun p hp=>?_;obtain⟨q,h1,rfl⟩:=Am.1 hp;show Rc h (q.2+100)=true;unfold Rc;rw[hh,aO (Ia h1)]
theorem Gp{y:List Rl}(hy:y.length≤256){h h' : Nat→HO}(hh:∀l,h (l+100)=FW y l)(j:Nat):IQ y j=.free∨(h j=IQ y j∧Xx h' (IQ y j)=true):=by
 by_cases hj:j<100
 ·exact .inl (jw y hj)
 ·obtain⟨l,rfl⟩:∃l,j=l+100:=⟨j-100,by omega⟩
  right
  rw[ER y hy];refine⟨hh l,?_⟩;unfold FW;cases (AQ y [])[l]?<;>rfl
abbrev yR(x:List Rl):List Rl:=x.filter fun r=>!r.yanked
theorem Zh(x:List Rl)(p:ByteArray):Ga (yR x) p=(Co x p).map AE:=by
 unfold Ga Co;rw[List.filter_filter,BN]
 rfl
def mC(x:List Rl):List (Value×AV):=(AQ (yR x) []).map fun p=>(.string p,sl AE (Co x p))
theorem fS{x:List Rl}{p:ByteArray}{a:AV}:(Value.string p,a)∈mC x↔p∈AQ (yR x) []∧a=sl AE (Co x p):=by
 unfold mC;rw[Am];constructor
 ·rintro⟨q,hq,e⟩
  injection e with e1 e2
  injection e1 with e1
  subst e1;exact⟨hq,e2.symm⟩
 ·rintro⟨h1,h2⟩
  exact⟨p,h1,by rw[h2]⟩
theorem Ux{x:List Rl}{p:ByteArray}:Co x p=[]↔p∉AQ (yR x) []:=by
 rw[G6];unfold Co;rw[Dq,G9];constructor
 ·rintro h (h1 | ⟨r,h1,h2⟩)
  ·cases h1
  ·obtain⟨h3,h4⟩:=BK.1 h1;exact h r h3 (by rw[AA h2,h4];rfl)
 ·intro h r hr hc;rw[Ag,Az]at hc;exact h (.inr ⟨r,BK.2 ⟨hr,hc.2⟩,hc.1⟩)
theorem qA(x:List Rl):∀(p:ByteArray) (a:AV),(Value.string p,a)∈mC x→a=sl AE (Co x p):=fun _ _ h=>(fS.1 h).2
theorem qB(x:List Rl):∀p:ByteArray,(∀a,(Value.string p,a)∉mC x)→Co x p=[]:=fun _ h=>Ux.2 fun hp=>h _ (fS.2 ⟨hp,rfl⟩)
theorem qC(x:List Rl):∀p:ByteArray,Co x p=[]→∀a,(Value.string p,a)∉mC x:=fun _ h _ ha=>Ux.1 h (fS.1 ha).1
abbrev plN:TK:=⟨[2],[],[],[(52,[12])],[],[12],[50],[(53,(16,3,90,6)),(54,(16,4,91,1)),(55,(16,7,93,10)),(56,(16,8,94,4))],[],[(850013,13),(800013,10016),(810013,20016),(900013,10000000000+92000000+90016)],[5,7,8,9,11,12,13]⟩
abbrev kC(x:List Rl)(p:ByteArray):Value×AV:=(.string p,sl AE (Co x p))
abbrev kA(x:List Rl)(p:ByteArray):Value×AV:=(.string p,sl Ao (B7 x p))
theorem jY{x:List Rl}{l:List ByteArray}{kv:Value×AV}{NM : List (Value×AV)}(h:(l.map (kC x)).Perm (kv::NM)):∃t r,kv=kC x t∧NM=r.map (kC x)∧l.Perm (t::r):=by
 obtain⟨ps,h1,h2⟩:=L7 h l rfl;cases ps with
 |nil=>cases h2
 |cons t r =>
  rw[AP,Fk]at h2;exact⟨t,r,h2.1.symm,h2.2.symm,h1.symm⟩
abbrev srN(roots:List Rq)(C A:List (Value×AV)):List (Nat×HO) :=
 [(2000,.cells [sl AM roots,.cmap C3 C,.cmap C3 A,.slice (.id 2001 6) [],.slice (.id 2002 1) [],.mref 2003,vb false,.slice .none [],.slice .none [],.msl 2004 0]),(2001,.tok 6 0),(2002,.tok 1 0),(2003,.map DR []),(2004,.arr 1 [])]
theorem Wb{x:List Rl}{l:List ByteArray}{p:ByteArray}{a:AV}:(Value.string p,a)∈l.map (kA x)↔p∈l∧a=sl Ao (B7 x p):=by
 rw[Am];constructor
 ·rintro⟨q,hq,e⟩
  injection e with e1 e2
  injection e1 with e1
  subst e1;exact⟨hq,e2.symm⟩
 ·rintro⟨h1,h2⟩
  exact⟨p,h1,by rw[h2]⟩
theorem ZY(y:List Rl)(n:Nat):IQ y (n+1000)=.free:=by
 unfold IQ;rw[show Nat.blt (n+1000) 1000=false by rw[AI];intro hc;rw[Cj]at hc;omega,DE];rfl
theorem VS{h s:Nat→HO}(H:∀n,h (n+1000)=.free):∀j,1000≤j→j<2000→h j≠.free→s j≠.free:=fun j h1 _ hn=>by
 refine absurd (H (j-1000)) ?_;rw[show j-1000+1000=j by omega];exact hn
theorem iV{n k:Nat}(h:k<1000):Nat.beq (n+1000) k=false:=by
 rw[AI];intro hc;have:=AL hc;omega
theorem ZI{y:List Rl}{n k:Nat}{o:HO}(h:k<1000):(bif Nat.beq (n+1000) k then o else IQ y (n+1000))=.free:=by
 rw[iV h,ZY];rfl
attribute [local irreducible] H5
set_option maxRecDepth 30000 in
theorem vZ(x:List Rl)(ifs:List (List AV))(roots:List Rq)(hx:∀r∈x,J3 r)(h0:Bb x=0):Bd Tryz.prog 96 [Rd x ifs,sl AM roots] (Ah [] Ab) fun r h'=>∃l:List ByteArray,l.Perm (AQ (yR x) [])∧r=.ref 2000 0∧h'=Ah (srN roots (mC x) (l.map (kA x))) Ab:=by
 have lw:x.length≤256:=(PG h0).1;refine Cm (Mo plN) [(16,2000),(90,2001),(91,2002),(14,2003),(92,2004)] rfl CK hm rfl Tryz.func96 (by kernel_rfl) rfl (Nz rfl) (by kernel_rfl) rfl ?_;refine Xi 0 ?_;refine Xi 0 ?_;refine Xi 0 ?_;refine Xi {i:Nat // i≤x.length} (Xi (fun i=>⟨[(2,.ref 2 0),(5,.ref 16 0),(18,sl Ai x),(19,vi (x.map Ai).length),(20,vi i.1)],[(2,.ro (Ic x ifs)),(12,.mapU C3 (Il (yR (x.take i.1)))),(13,.map C3 []),(14,.map DR []),(16,.cells [sl AM roots,.mref 12,.mref 13,.v (.slice none 0 0),.v (.slice none 0 0),.mref 14,vb false,.v (.slice none 0 0),.v (.slice none 0 0),.v (.slice none 0 0)])],IQ (yR (x.take i.1))⟩) (Xi (fun i=>x.length-i.1) (Yi (Xi ⟨0,AN _⟩ ?_) ?_)))
 ·refine⟨Z5,Z5,fun j=>.inl ?_,Ax (by kernel_rfl)⟩;show IQ [] j=.free;unfold IQ;cases (Nat.ble 100 j&&Nat.blt j 1000)<;>rfl
 intro⟨i,i1⟩;have i1:i≤x.length:=i1;have hq:∀k,(yR (x.take k)).length≤256:=fun k=>by
  have:=BD (fun r:Rl=>!r.yanked) (x.take k)
  rw[AJ]at this;show(List.filter _ _).length≤256;omega
 refine Xi 0 ?_;refine Yi ?_ ?_
 ·intro h;have h:(i:Int)<(x.map Ai).length:=h;have h:i<x.length:=by simpa using h
  have hg:x[i]?=some x[i]:=Ge h;have Kl:x.take (i+1)=x.take i++[x[i]]:=by rw[Bs,hg];rfl
  refine Xi 0 ?_;refine Xi (Ai x[i]) (Yi (Yi (Nn i) (by simp[hg])) (Yi rfl ?_));refine Yi (Nz rfl) (Yi (Nz rfl) ?_);refine Xi ⟨[(2,.ref 2 0),(5,.ref 16 0),(7,.ref 7 0),(18,sl Ai x),(19,vi (x.map Ai).length),(20,vi i)],[(2,.ro (Ic x ifs)),(7,.cells (Ai x[i])),(12,.mapU C3 (Il (yR (x.take i)))),(13,.map C3 []),(14,.map DR []),(16,.cells [sl AM roots,.mref 12,.mref 13,.v (.slice none 0 0),.v (.slice none 0 0),.mref 14,vb false,.v (.slice none 0 0),.v (.slice none 0 0),.v (.slice none 0 0)])],IQ (yR (x.take i))⟩ (Yi ?_ ?_)
  ·exact⟨Z6,⟨Zr,Zr,⟨rfl,Hm _ (ER _ (hq _))⟩,Zr,Zr,Zr,Tv⟩,Gp (hq _) (ER _ (hq _)),Ax (by kernel_rfl)⟩
  refine Xi 0 ?_;refine Yi (fun hy=>?_) (fun hy=>?_)
  ·have hy:x[i].yanked=true:=hy;have ey:yR (x.take (i+1))=yR (x.take i):=by
    unfold yR;rw[Kl,Eg,RB (by rw[hy];decide)];simp
   refine Xi ⟨[(2,.ref 2 0),(5,.ref 16 0),(18,sl Ai x),(19,vi (x.map Ai).length),(20,vi i)],[(2,.ro (Ic x ifs)),(12,.mapU C3 (Il (yR (x.take (i+1))))),(13,.map C3 []),(14,.map DR []),(16,.cells [sl AM roots,.mref 12,.mref 13,.v (.slice none 0 0),.v (.slice none 0 0),.mref 14,vb false,.v (.slice none 0 0),.v (.slice none 0 0),.v (.slice none 0 0)])],IQ (yR (x.take (i+1)))⟩ (Yi ?_ ?_)
   ·rw[ey];exact⟨Z5,⟨Zr,⟨rfl,Hm _ (ER _ (hq _))⟩,Zr,Zr,Zr,Tv⟩,Gp (hq _) (ER _ (hq _)),Ax (by kernel_rfl)⟩
   refine Xi 0 ?_;refine Yi (Ii i (by omega)) ?_;refine Xi ⟨i+1,by omega⟩ ?_;exact⟨Dl x.length i (by omega),Z5,⟨Zr,⟨rfl,Hm _ (ER _ (hq _))⟩,Zr,Zr,Zr,Tv⟩,Gp (hq _) (ER _ (hq _)),Ax (by kernel_rfl)⟩
  have hy:x[i].yanked=false:=hy;refine Xi 0 ?_;refine Yi (Nz rfl) ?_;refine Xi .pure (Xi _ (Yi (ru x[i].ver) ?_));refine Xi ⟨[(2,.ref 2 0),(5,.ref 16 0),(7,.ref 7 0),(8,vi (plc x[i].ver)),(18,sl Ai x),(19,vi (x.map Ai).length),(20,vi i)],[(2,.ro (Ic x ifs)),(7,.cells (Ai x[i])),(12,.mapU C3 (Il (yR (x.take i)))),(13,.map C3 []),(14,.map DR []),(16,.cells [sl AM roots,.mref 12,.mref 13,.v (.slice none 0 0),.v (.slice none 0 0),.mref 14,vb false,.v (.slice none 0 0),.v (.slice none 0 0),.v (.slice none 0 0)])],IQ (yR (x.take i))⟩ (Yi ?_ ?_)
  ·exact⟨Z7,⟨Zr,Zr,⟨rfl,Hm _ (ER _ (hq _))⟩,Zr,Zr,Zr,Tv⟩,Gp (hq _) (ER _ (hq _)),Ax (by kernel_rfl)⟩
  have ey:yR (x.take (i+1))=yR (x.take i)++[x[i]]:=by
   unfold yR;rw[Kl,Eg,RC (by rw[hy];decide)];rfl
  have zM:(yR (x.take i)).length≤256:=by
   have:=BD (fun r:Rl=>!r.yanked) (x.take i)
   rw[AJ]at this;show(List.filter _ _).length≤256;omega
  have hP:∀l,IQ (yR (x.take i)) (l+100)=FW (yR (x.take i)) l:=ER _ (hq _);refine BV (Classical.em (x[i].path∈AQ (yR (x.take i)) [])) (fun hp=>?_) (fun hp=>?_)
  ·refine Dn (B8.1 hp) (fun k hk=>?_);have hu:=bI hk;have hl:(Ga (yR (x.take i)) x[i].path).length≤256:=by
    rw[Lm];exact A3 (BD _ _) zM
   have p6:k<256:=by
    have:=(As.1 hk).1
    have:=G5 (yR (x.take i)) []
    simp only[AC]at this;omega
   have hr:IQ (yR (x.take i)) (k+100)=.tok 10 (Ga (yR (x.take i)) x[i].path).length:=by rw[hP,aO hk]
   refine Xi 0 ?_;refine Or.inl (Xi (.slice (.id (k+100) 10) (Ga (yR (x.take i)) x[i].path)) (Yi hu ?_));refine Yi (Nz rfl) ?_;refine Qr (e:=162) (m:=9) (es2:=[Qu x[i]]) rfl rfl rfl (fun _ h=>h) hr ⟨rfl,trivial⟩ (by show(_+1)*128≤_;omega) (by show _+1≤_;omega) ?_;refine Yi (IN ⟨AZ _,AZ _,AZ _,AZ _,AZ _,AZ _,AZ _,AZ _,AZ _,AZ _,AZ _,AZ _,AZ _,AZ _,AZ _,AZ _,D0 (show 49<10000000 by decide),D0 (by show _+100<10000000;omega),D0 (show 12<10000000 by decide),trivial⟩ (by kernel_rfl)) ?_;have e9:EK (Il (yR (x.take i))) (.string x[i].path) (.slice (.id (k+100) 10) (Ga (yR (x.take i)) x[i].path++[Qu x[i]]))=Il (yR (x.take (i+1))):=by rw[ey];exact eQ hk
   have hG:∀l,(bif Nat.beq (l+100) (k+100)then HO.tok 10 ((Ga (yR (x.take i)) x[i].path).length+1)else FW (yR (x.take i)) l)=FW (yR (x.take (i+1))) l:=by rw[ey];exact io hk
   refine Xi ⟨[(2,.ref 2 0),(5,.ref 16 0),(18,sl Ai x),(19,vi (x.map Ai).length),(20,vi i)],[(2,.ro (Ic x ifs)),(12,.mapU C3 (Il (yR (x.take (i+1))))),(13,.map C3 []),(14,.map DR []),(16,.cells [sl AM roots,.mref 12,.mref 13,.v (.slice none 0 0),.v (.slice none 0 0),.mref 14,vb false,.v (.slice none 0 0),.v (.slice none 0 0),.v (.slice none 0 0)])],IQ (yR (x.take (i+1)))⟩ (Yi ?_ ?_)
   ·refine⟨Z5,⟨Zr,⟨Ac (HO.mapU C3) e9,Hm _ (ER _ (hq _))⟩,Zr,Zr,Zr,Tv⟩,Gp (hq _) (fun l=>?_),VS (fun n=>?_)⟩
    ·show(bif Nat.beq (l+100) (k+100)then HO.tok 10 ((Ga (yR (x.take i)) x[i].path).length+1)else IQ (yR (x.take i)) (l+100))=_;rw[hP];exact hG l
    ·exact ZI (y:=yR (x.take i)) (show k+100<1000 by omega)
   refine Xi 0 ?_;refine Yi (Ii i (by omega)) ?_;refine Xi ⟨i+1,by omega⟩ ?_;exact⟨Dl x.length i (by omega),Z5,⟨Zr,⟨rfl,Hm _ (ER _ (hq _))⟩,Zr,Zr,Zr,Tv⟩,Gp (hq _) (ER _ (hq _)),Ax (by kernel_rfl)⟩
  ·have Lj:(AQ (yR (x.take i)) []).length≤256:=by
    have:=G5 (yR (x.take i)) []
    simp only[AC]at this;omega
   have hn:=UL hp;have hr:IQ (yR (x.take i)) ((AQ (yR (x.take i)) []).length+100)=.free:=by
    rw[hP];unfold FW;rw[A4 (Aj _)]
   refine Xi ((AQ (yR (x.take i)) []).length+100) ?_;refine Or.inr (Yi hn ?_);refine Yi (Nz rfl) ?_;refine Qq (e:=162) (m:=9) (es2:=[Qu x[i]]) rfl rfl rfl (fun _ h=>h) hr rfl ⟨rfl,trivial⟩ (by show 1*128≤_;omega) (by show 1≤_;omega) ?_;refine Yi (IN ⟨AZ _,AZ _,AZ _,AZ _,AZ _,AZ _,AZ _,AZ _,AZ _,AZ _,AZ _,AZ _,AZ _,AZ _,AZ _,AZ _,D0 (show 49<10000000 by decide),D0 (by show _+100<10000000;omega),D0 (show 12<10000000 by decide),trivial⟩ (by kernel_rfl)) ?_;have e9:EK (Il (yR (x.take i))) (.string x[i].path) (.slice (.id ((AQ (yR (x.take i)) []).length+100) 10) [Qu x[i]])=Il (yR (x.take (i+1))):=by rw[ey];exact eK hp
   have hG:∀l,(bif Nat.beq (l+100) ((AQ (yR (x.take i)) []).length+100)then HO.tok 10 1 else FW (yR (x.take i)) l)=FW (yR (x.take (i+1))) l:=by rw[ey];exact im hp
   refine Xi ⟨[(2,.ref 2 0),(5,.ref 16 0),(18,sl Ai x),(19,vi (x.map Ai).length),(20,vi i)],[(2,.ro (Ic x ifs)),(12,.mapU C3 (Il (yR (x.take (i+1))))),(13,.map C3 []),(14,.map DR []),(16,.cells [sl AM roots,.mref 12,.mref 13,.v (.slice none 0 0),.v (.slice none 0 0),.mref 14,vb false,.v (.slice none 0 0),.v (.slice none 0 0),.v (.slice none 0 0)])],IQ (yR (x.take (i+1)))⟩ (Yi ?_ ?_)
   ·refine⟨Z5,⟨Zr,⟨Ac (HO.mapU C3) e9,Hm _ (ER _ (hq _))⟩,Zr,Zr,Zr,Tv⟩,Gp (hq _) (fun l=>?_),VS (fun n=>?_)⟩
    ·show(bif Nat.beq (l+100) ((AQ (yR (x.take i)) []).length+100)then HO.tok 10 1 else IQ (yR (x.take i)) (l+100))=_;rw[hP];exact hG l
    ·exact ZI (y:=yR (x.take i)) (show(AQ (yR (x.take i)) []).length+100<1000 by omega)
   refine Xi 0 ?_;refine Yi (Ii i (by omega)) ?_;refine Xi ⟨i+1,by omega⟩ ?_;exact⟨Dl x.length i (by omega),Z5,⟨Zr,⟨rfl,Hm _ (ER _ (hq _))⟩,Zr,Zr,Zr,Tv⟩,Gp (hq _) (ER _ (hq _)),Ax (by kernel_rfl)⟩
 ·intro h;have h:¬(i:Int)<(x.map Ai).length:=h;have h:¬i<x.length:=by simpa using h
  have et:x.take i=x:=AT (by omega);have eM:∀hh:Nat→HO,Rf hh (Il (yR (x.take i)))=(AQ (yR x) []).map (kC x):=fun hh=>by
   rw[et];unfold Rf Il;rw[BN];refine Cz fun j=>?_;rw[AG,AG,List.getElem?_zipIdx];cases (AQ (yR x) [])[j]? with
   |none=>rfl
   |some q=>show some (Value.string q,AV.slice .none (Ga (yR x) q))=_;rw[Zh];rfl
  refine Xi ⟨[(2,.ref 2 0),(5,.ref 16 0)],[(2,.ro (Ic x ifs)),(12,.mapU C3 (Il (yR (x.take i)))),(13,.map C3 []),(14,.map DR []),(16,.cells [sl AM roots,.mref 12,.mref 13,.v (.slice none 0 0),.v (.slice none 0 0),.mref 14,vb false,.v (.slice none 0 0),.v (.slice none 0 0),.v (.slice none 0 0)])],IQ (yR (x.take i))⟩ (Yi ?_ ?_)
  ·exact⟨Z2,⟨Zr,⟨rfl,Hm _ (ER _ (hq _))⟩,Zr,Zr,Zr,Tv⟩,Gp (hq _) (ER _ (hq _)),Ax (by kernel_rfl)⟩
  refine Xi 0 ?_;refine Xi {p:List ByteArray×List ByteArray×Option (Value×AV) // (p.1++p.2.1).Perm (AQ (yR x) [])} (Xi (fun p=>⟨[(2,.ref 2 0),(5,.ref 16 0),(56,.ref 56 0)],[(2,.ro (Ic x ifs)),(12,.rom C3 ((AQ (yR x) []).map (kC x))),(13,.map C3 (p.1.1.map (kA x))),(14,.map DR []),(16,.cells [sl AM roots,.mref 12,.mref 13,.slice (.id 90 6) [],.slice (.id 91 1) [],.mref 14,vb false,.slice (.id 93 10) [],.slice (.id 94 4) [],.v (.slice none 0 0)]),(56,.iter ((AQ (yR x) []).map (kC x)) (p.1.2.1.map (kC x)) p.1.2.2),(90,.tok 6 0),(91,.tok 1 0),(93,.tok 10 0),(94,.tok 4 0)],Ab⟩) (Xi (fun p=>p.1.2.1.length) (Yi (Xi ⟨([],AQ (yR x) [],none),.refl _⟩ ?_) ?_)))
  ·refine⟨Z3,⟨Zr,⟨Ac (HO.rom C3) (eM _),rfl⟩,Zr,Zr,Zr,⟨?_,rfl⟩,Zr,Zr,Zr,Zr,Tv⟩,Fh,VS (fun n=>?_)⟩
   ·show HO.iter (Rf _ (Il (yR (x.take i)))) (Rf _ (Il (yR (x.take i)))) none=_;rw[eM]
   ·exact ZY (yR (x.take i)) n
  intro⟨⟨done,rem,Fs⟩,r1⟩;have r1:(done++rem).Perm (AQ (yR x) []):=r1;refine Xi 0 ?_;refine Yi ?_ ?_
  ·intro hr;have hr:rem.map (kC x)=[]:=hr;have hr:rem=[]:=Dq.1 hr;subst hr;rw[BZ]at r1;refine Xi ⟨[(5,.ref 16 0)],[(14,.map DR []),(16,.cells [sl AM roots,.cmap C3 (mC x),.cmap C3 (done.map (kA x)),.slice (.id 90 6) [],.slice (.id 91 1) [],.mref 14,vb false,.slice (.id 93 10) [],.slice (.id 94 4) [],.msl 92 0]),(90,.tok 6 0),(91,.tok 1 0),(92,.arr 1 []),(93,.tok 10 0),(94,.tok 4 0)],Ab⟩ (Yi ⟨Z1,Z7,Fh,Ax (by kernel_rfl)⟩ ?_)
   refine Xi 0 ?_;exact Xi _ (Yi (.refl _) (Xi done (Yi r1 (Yi rfl rfl))))
  ·intro kv NM hp;refine Dn (jY hp) (fun t hp=>Dn hp (fun r hp=>?_));have e1:=hp.1;have e2:=hp.2.1;subst e1;subst e2;have hp:=hp.2.2;refine Xi ⟨[(2,.ref 2 0),(5,.ref 16 0),(56,.ref 56 0)],[(2,.ro (Ic x ifs)),(12,.rom C3 ((AQ (yR x) []).map (kC x))),(13,.map C3 (done.map (kA x))),(14,.map DR []),(16,.cells [sl AM roots,.mref 12,.mref 13,.slice (.id 90 6) [],.slice (.id 91 1) [],.mref 14,vb false,.slice (.id 93 10) [],.slice (.id 94 4) [],.v (.slice none 0 0)]),(56,.iter ((AQ (yR x) []).map (kC x)) (r.map (kC x)) (some (kC x t))),(90,.tok 6 0),(91,.tok 1 0),(93,.tok 10 0),(94,.tok 4 0)],Ab⟩ (Yi ⟨Z3,Z10,Fh,Ax (by kernel_rfl)⟩ ?_)
   refine Xi 0 ?_;refine Xi ⟨[(2,.ref 2 0),(5,.ref 16 0),(10,vs t),(56,.ref 56 0)],[(2,.ro (Ic x ifs)),(12,.rom C3 ((AQ (yR x) []).map (kC x))),(13,.map C3 (done.map (kA x))),(14,.map DR []),(16,.cells [sl AM roots,.mref 12,.mref 13,.slice (.id 90 6) [],.slice (.id 91 1) [],.mref 14,vb false,.slice (.id 93 10) [],.slice (.id 94 4) [],.v (.slice none 0 0)]),(56,.iter ((AQ (yR x) []).map (kC x)) (r.map (kC x)) (some (kC x t))),(90,.tok 6 0),(91,.tok 1 0),(93,.tok 10 0),(94,.tok 4 0)],Ab⟩ (Yi ⟨Z4,Z10,Fh,Ax (by kernel_rfl)⟩ ?_)
   refine Xi 0 ?_;have Q0:(done++rem).Nodup:=r1.nodup_iff.2 (EH _ [] E2);have uy:t∉done:=fun hc=>(F0.1 Q0).2.2 t hc t (hp.mem_iff.2 (Aa ..)) rfl;have em:EK (done.map (kA x)) (.string t) (sl Ao (B7 x t))=(done++[t]).map (kA x):=by
    rw[L3 (fun a ha=>uy (Wb.1 ha).1),AH];rfl
   have TM:((done++[t])++r).Perm (AQ (yR x) []):=by
    rw[AO];exact(List.Perm.append_left _ hp.symm).trans r1
   refine Yi (Nz rfl) ?_;refine Xi _ (Yi (sV x ifs t (c84 x ifs hx)) ?_);refine Yi (by kernel_rfl) ?_;refine Xi ⟨(done++[t],r,some (kC x t)),TM⟩ ?_;exact⟨by show r.length<rem.length;rw[hp.length_eq,At];omega,Z3,⟨Zr,Zr,⟨Ac (HO.map C3) em,rfl⟩,Zr,Zr,Zr,Zr,Zr,Zr,Zr,Tv⟩,Fh,Ax (by kernel_rfl)⟩
end Go.Eng
namespace Go.Eng
open Go.Proofs
theorem Yw{x:List Rl}(h0:Bb x=0){p:ByteArray}(h:p∉AQ (yR x) []):B7 x p=[]:=by
 rw[bl h0]
 have:x.filter (ZS p)=[]:=by
  rw[G9];intro r hr hc;unfold ZS at hc;rw[Ag,Az]at hc;exact h ((G6 _ _ _).2 (.inr ⟨r,BK.2 ⟨hr,hc.2⟩,hc.1⟩))
 rw[this];rfl
theorem mv{x:List Rl}{roots:List Rq}(hx:∀r∈x,J3 r)(hr:∀q∈roots,NW q)(h0:Bb x=0)(h1:BR roots=0){l:List ByteArray}(hl:l.Perm (AQ (yR x) [])):so x roots (mC x) (l.map (kA x)) where
 hx:=h0
 hr:=h1
 fx:=hx
 fr:=hr
 c1:=qA x
 c2:=qB x
 c3:=qC x
 av p:=by
  by_cases hp:p∈l
  ·exact⟨sl Ao (B7 x p),fun a ha=>(Wb.1 ha).2,fun hn=>(hn _ (Wb.2 ⟨hp,rfl⟩)).elim,fun h=>o5 p (B7 x p) (RL x p)⟩
  ·refine⟨.v (.slice none 0 0),fun a ha=>(hp (Wb.1 ha).1).elim,fun _=>rfl,fun h=>?_⟩;have e:=Yw h0 (fun hc=>hp (hl.mem_iff.2 hc));have hc:=o5 p (B7 x p) (RL x p);rw[e]at hc⊢;exact LA.args hc ⟨.refl _,.nil,trivial⟩
section
variable {x:List Rl}{roots:List Rq}{d:List (List Tm)}{i:Nf}
end
section
variable {s:List Sl}{q:Rq}{o:Option ByteArray}
end
section
variable {x:List Rl}{roots:List Rq}{s A:List Sl}{m:Nat}
end
section
variable {N:List Rq}{p:ByteArray}{pl:Int}{o:Rl}
end
abbrev Iv(b:Bool):List AV:=[vb b]
section
variable {l:List Rl}{roots:List Rq}{Cl:List ByteArray}{B:List Bool}
variable {B0:List Bool}{i:Nat}{ch:Bool}
end
section
variable {x l:List Rl}{roots:List Rq}{s:List Sl}
end
end Go.Eng
