/- Lemmas for the claims of this seat, without a condition: part 26 (S8d, S8e, S11, S12, S13, S14, S16, S18, R24, C74, R25, R26, R27, R28, R29, R30, R31). -/
import Derived.Test.YtddfphmpfnmknaaGreatDoorCA25
import Derived.Test.YtddfphmpfnmknaaGreatDoorCA04
set_option maxHeartbeats 8000000
namespace Go.Eng
open Go.Proofs
theorem wT(x:List Rl)(roots:List Rq)(C A:List (Value×AV))(n:Nat)(s:SS)(dec:List Cd)(st:List (List Sk))(p:ByteArray)(n0:Nd)(l:List Nd)(V:AV)(cs:List Cd)(R O:Jx)(hL:tc x roots C A n dec p n0 l V cs)(hs:Jy x roots s)(Jf:st.length=dec.length)
  (Ra:A3 Tryz.prog 87 [.ref 1000 0] (Ai (IZ roots C A s dec st) Aa) fun r h'=>r=.tup [vs p,sl A7 (n0::l)]∧h'=Ai (IZ roots C A s dec st) Aa)
  (qr:cs=[]) (uj:∀a,(Value.string p,a)∉C) (hR:DB (Cz x roots n) x p (n0::l) n0 dec st cs s [] []=R) (ab:O=R) :
  A3 Tryz.prog 65 [.ref 1000 0] (Ai (IZ roots C A s dec st) Aa) (YB roots C A O):=by
 obtain⟨hx,hr,hdl,hcl,hcs,hnl,hnq,hnp,hex,hcx,hcq,hcp_,hcr,hcs_,hkey,hinf0,⟨qf,qg,qh⟩,ih⟩:=hL;have hdl:dec.length≤256:=hdl;have hcl:cs.length≤256:=hcl;have Jf:st.length=dec.length:=Jf;have xK:∀(i:Nat) (h:i<cs.length),cs[i]∈BJ x p:=fun i h=>by rw[←hcs];exact AC h
 have o7:∀(i:Nat) (h:i<cs.length),CO (AJ (dec++[cs[i]])):=fun i h=>by unfold CO AJ;rw[Lm,Ad];simp;omega
 clear hcs
 refine BX (LC ⟨[9],[(6,1),(7,3),(145,1)],[],[],[],[],[],[],[],[(300001,500091000),(300026,500091000),(300029,500091000)],[1,2,5,10,11,13,14,15,16,17,19,21,22,23,24,25,26,28,29,31,32,33,35]⟩) [(1000,1000),(1001,1001),(1002,1002),(1003,1003),(1004,1004),(500,2000)] rfl Co hm rfl Tryz.func65 (by kernel_rfl) rfl (Nz rfl) (by kernel_rfl) rfl ?_;refine Yi (show st.length=(st.map AQ).length by simp) ?_;refine Xi ⟨[(0,.ref 1000 0)],[(500,.arr 1 (st.map AQ)),(1000,.cells (srM roots C A s dec 500 st.length)),(1001,.tok 6 s.infs.length),(1002,.tok 1 s.drv.length),(1003,.map DT (DX 0 s.infs)),(1004,.dead)],Aa⟩ (Yi ⟨Z1,Z6,Fh,Aw (by kernel_rfl)⟩ ?_)
 refine Xi (.gen YA 0) (Yi rfl (A3.imp Ra ?_));intro v1 g1 q1;have kN:=q1.1;have kO:=q1.2;subst kN;subst kO;refine Xi ⟨[(0,.ref 1000 0),(4,vs p),(5,sl A7 (n0::l))],[(500,.arr 1 (st.map AQ)),(1000,.cells (srM roots C A s dec 500 st.length)),(1001,.tok 6 s.infs.length),(1002,.tok 1 s.drv.length),(1003,.map DT (DX 0 s.infs)),(1004,.dead)],Aa⟩ (Yi ⟨Z3,Z6,Fh,Aw (by kernel_rfl)⟩ ?_)
 refine Yi (fun h2=>?_) (fun h2=>?_)
 ·have h2:(((n0::l).map A7).length:Int)=(0:Int):=h2;exact absurd h2 (by simp;omega)
 have h2:¬((((n0::l).map A7).length:Int)=(0:Int)):=h2;refine Xi ⟨[(0,.ref 1000 0),(4,vs p),(5,sl A7 (n0::l)),(6,.slice (.id 6 1) [])],[(6,.tok 1 0),(500,.arr 1 (st.map AQ)),(1000,.cells (srM roots C A s dec 500 st.length)),(1001,.tok 6 s.infs.length),(1002,.tok 1 s.drv.length),(1003,.map DT (DX 0 s.infs)),(1004,.dead)],Aa⟩ (Yi ⟨Z4,Z7,Fh,Aw (by kernel_rfl)⟩ ?_)
 refine Yi (fun a ha=>?_) (fun Rc=>?_)
 ·exact absurd ha (uj a)
 refine Xi {q:Nat×SS×List Nat×List Sk // q.1≤cs.length∧DB (Cz x roots n) x p (n0::l) n0 dec st (cs.drop q.1) q.2.1 q.2.2.1 q.2.2.2=R∧Jy x roots q.2.1∧(∀r∈q.2.2.1,r<q.2.1.drv.length)∧q.2.2.1.length≤q.1∧q.2.2.2.length≤q.1} (Xi (fun q=>⟨[(0,.ref 1000 0),(4,vs p),(5,sl A7 (n0::l)),(6,.slice (.id 6 1) (q.1.2.2.1.map BK)),(7,.slice (.id 7 3) (q.1.2.2.2.map BM)),(32,.v (.slice none 0 0)),(33,vi 0),(34,vi q.1.1)],[(6,.tok 1 q.1.2.2.1.length),(7,.tok 3 q.1.2.2.2.length),(500,.arr 1 (st.map AQ)),(1000,.cells (srM roots C A q.1.2.1 dec 500 st.length)),(1001,.tok 6 q.1.2.1.infs.length),(1002,.tok 1 q.1.2.1.drv.length),(1003,.map DT (DX 0 q.1.2.1.infs)),(1004,.dead)],Aa⟩) (Xi (fun q=>cs.length-q.1.1) (Yi (Xi ⟨(0,s,[],[]),AL _,hR,hs,fun r h=>(by cases h),Al _,Al _⟩ ?_) ?_)))
 ·exact⟨Z8,Z8,Fh,Aw (by kernel_rfl)⟩
 intro⟨⟨i,S,rs,sk⟩,j1,j2,j3,j4,j5,j6⟩;have j1:i≤cs.length:=j1;have j2:DB (Cz x roots n) x p (n0::l) n0 dec st (cs.drop i) S rs sk=R:=j2;have j3:Jy x roots S:=j3;have j4:∀r∈rs,r<S.drv.length:=j4;have j5:rs.length≤i:=j5;have j6:sk.length≤i:=j6;have hw:=j3.dl;have fE:∀t∈S.drv,dO t:=fun t ht=>by have q:=j3.der.few hx hr t ht;exact⟨E5 q,q.2⟩
 refine Yi (fun h3=>?_) (fun h3=>?_)
 ·have h3:(i:Int)<(0:Int):=h3;exact absurd h3 (by have q:=j1;rw[qr,AE]at q;omega)
 have h3:¬((i:Int)<(0:Int)):=h3;refine Xi (A7 n0) (Yi (Yi (show(0:Int)≤0 by decide) rfl) (Yi rfl ?_));refine Yi (Nz rfl) ?_;refine Xi (.gen YA 0) (Yi rfl (A3.imp (yG x roots C A S dec st p n0 rs V hx hr j3 hinf0 j4 (by omega) (hnq n0 (Ab ..)) (hnp n0 (Ab ..)) qf qg qh) ?_));intro v4 g4 q4;have wA:=q4.1;have wB:=q4.2;subst wA;subst wB;have hj:¬i<cs.length:=by rw[qr];simp
 have eR:R=⟨(DE x p n0 rs S).1,false,(DE x p n0 rs S).2,dec,st⟩:=by rw[←j2];exact ee hj
 exact Xi _ (Yi (.refl _) (Nl (ab.trans eR)))
theorem wV(roots:List Rq)(C A:List (Value×AV))(s:SS)(dec:List Cd)(st:List (List Sk))(p:ByteArray)(N:List Nd)(O:Jx)(hN:N=[])
  (Ra:A3 Tryz.prog 87 [.ref 1000 0] (Ai (IZ roots C A s dec st) Aa) fun r h'=>r=.tup [vs p,sl A7 N]∧h'=Ai (IZ roots C A s dec st) Aa) (hO:O=⟨0,true,s,dec,st⟩) :
  A3 Tryz.prog 65 [.ref 1000 0] (Ai (IZ roots C A s dec st) Aa) (YB roots C A O):=by
 refine BX (LC ⟨[],[],[],[],[],[],[],[],[],[(300001,500091000)],[1,2,5,10,11,13,14,15,16,17,19,21,22,23,25,28,29,31,32,33,35]⟩) [(1000,1000),(1001,1001),(1002,1002),(1003,1003),(1004,1004),(500,2000)] rfl Co hm rfl Tryz.func65 (by kernel_rfl) rfl (Nz rfl) (by kernel_rfl) rfl ?_;refine Yi (show st.length=(st.map AQ).length by simp) ?_;refine Xi ⟨[(0,.ref 1000 0)],[(500,.arr 1 (st.map AQ)),(1000,.cells (srM roots C A s dec 500 st.length)),(1001,.tok 6 s.infs.length),(1002,.tok 1 s.drv.length),(1003,.map DT (DX 0 s.infs)),(1004,.dead)],Aa⟩ (Yi ⟨Z1,Z6,Fh,Aw (by kernel_rfl)⟩ ?_)
 refine Xi (.gen YA 0) (Yi rfl (A3.imp Ra ?_));intro v1 g1 q1;have kN:=q1.1;have kO:=q1.2;subst kN;subst kO;refine Xi ⟨[(0,.ref 1000 0),(4,vs p),(5,sl A7 N)],[(500,.arr 1 (st.map AQ)),(1000,.cells (srM roots C A s dec 500 st.length)),(1001,.tok 6 s.infs.length),(1002,.tok 1 s.drv.length),(1003,.map DT (DX 0 s.infs)),(1004,.dead)],Aa⟩ (Yi ⟨Z3,Z6,Fh,Aw (by kernel_rfl)⟩ ?_)
 refine Yi (fun h2=>?_) (fun h2=>?_)
 ·have h2:((N.map A7).length:Int)=(0:Int):=h2;exact Xi _ (Yi (.refl _) (Nl (st:=st) hO))
 have h2:¬(((N.map A7).length:Int)=(0:Int)):=h2;exact absurd (by rw[hN];rfl) h2
section
variable {x:List Rl}{roots:List Rq}{p:ByteArray}
theorem Ia:∀(l:List Nat) {k:Nat} {s:SS},s.infs.Nodup→(B4 p l k s).2.infs.Nodup
 | [],_,_,h=>h
 |r::l,k,s,h=>by
  unfold B4;split
  ·exact h
  split
  ·exact Ia l h
  split
  ·exact Ia l h
  ·exact Ia l (HW h)
theorem KR{needs:List Nd}{n0:Nd}{dec:List Cd}{st:List (List Sk)}{rec:List Cd→SS→List (List Sk)→Jx}(Wh:∀c s st,s.infs.Nodup→(rec (dec++[c]) s st).ss.infs.Nodup) :
  ∀(cs:List Cd) {s:SS} {rs:List Nat} {sk:List Sk},s.infs.Nodup→(DB rec x p needs n0 dec st cs s rs sk).ss.infs.Nodup
 | [],s,rs,sk,h=>Ia _ (HW (HW h))
 |c::cs,s,rs,sk,h=>by
  have dT:∀(s' : SS) (k:Nat),s'.infs.Nodup→(Ik rec x p needs n0 dec st c cs rs sk k s').ss.infs.Nodup:=fun s' k h'=>by
   unfold Ik;split
   ·exact h'
   ·exact KR Wh cs h'
  rw[FM];split
  ·exact h
  cases needs.find? fun n=>!has n.rq.set c.place with
  |some n=>exact KR Wh cs (HW h)
  |none =>
   dsimp only;cases Nv s.drv (AJ (dec++[c]))with
   |some k=>exact dT s k h
   |none =>
    dsimp only;cases D2 dec c with
    |some n=>exact dT _ _ (HW h)
    |none =>
     dsimp only;have h2:=Wh c s (st++[sk]) h;split
     ·exact h2
     split
     ·exact h2
     ·exact dT _ _ h2
theorem Pe:∀(n:Nat) {dec:List Cd} {s:SS} {st:List (List Sk)},s.infs.Nodup→(Cz x roots n dec s st).ss.infs.Nodup
 |0,_,_,_,h=>h
 |n+1,dec,s,st,h=>by
  unfold Cz;cases (Eu roots dec).2 with
  |nil=>exact h
  |cons n0 l=>exact KR (fun c s st h=>Pe n h) _ h
structure tb(x:List Rl)(roots:List Rq)(C A:List (Value×AV)):Prop where
 hx:AT x=0
 hr:BL roots=0
 fx:∀r∈x,JX r
 fr:∀q∈roots,N2 q
 c1:∀(p:ByteArray) (a:AV),(Value.string p,a)∈C→a=sl Az (BJ x p)
 c2:∀p:ByteArray,(∀a,(Value.string p,a)∉C)→BJ x p=[]
 c3:∀p:ByteArray,BJ x p=[]→∀a,(Value.string p,a)∉C
 av:∀p:ByteArray,∃V,HV x A p V
theorem mY{dec:List Cd}(h:∀c∈dec,c.rel.reqs.length≤16):((dec.map fun c=>c.rel.reqs).flatten).length≤16*dec.length:=by
 induction dec with
 |nil=>simp
 |cons c dec ih =>
  rw[AH,Bm,Ad,Au]
  have:=h c (Ab ..)
  have:=ih fun d hd=>h d (Ag _ hd)
  omega
theorem od{r:Rl}(h:RL r):0≤plc r.ver∧plc r.ver<1000000:=by rw[h.plc];exact Jn h.val
theorem cI(dec:List Cd):(Eu roots dec).2.length≤(Di roots dec).length:=by
 rw[Tf];cases KC (HH roots dec) (AJ dec)with
 |none=>simp
 |some q=>exact BA _ _
theorem yE{C A:List (Value×AV)}(hE:tb x roots C A)(m9:yL roots C A):∀(n:Nat) {dec:List Cd} {s:SS} {st:List (List Sk)},Ez x dec→Ij roots dec→Jy x roots s→s.full=false→FN x dec<n→st.length=dec.length →
  A3 Tryz.prog 65 [.ref 1000 0] (Ai (IZ roots C A s dec st) Aa) (YB roots C A (Cz x roots n dec s st))
 |0,_,_,_,_,_,_,_,h,_=>by omega
 |n+1,dec,s,st,hd,cc,hs,hf,hn,Jf=>by
  have hx:=hE.hx;have hr:=hE.hr;have lR:=NI hx;have hdl:=W8 hd;have uM:dec.length≤256:=by have:=lR.1;omega
  have WJ:∀c∈dec,c.rel.reqs.length≤16:=fun c hc=>lR.2 _ (hd.cand c hc).1;have Ra:=m9 s dec st (by omega) fun c hc=>Br (WJ c hc) (by decide);generalize hO:Cz x roots (n+1) dec s st=O;obtain⟨N,hN⟩:∃N,N=(Eu roots dec).2:=⟨_,rfl⟩;obtain⟨q,hq⟩:∃q,q=(Eu roots dec).1:=⟨_,rfl⟩;rw[←hN,←hq]at Ra;have zr:N.length≤10000:=by
   have h1:=cI (roots:=roots) dec;have h2:(Di roots dec).length=(HH roots dec).length:=by rw[←MH,Lm]
   have h3:=mY WJ;have h4:=O0 hr;rw[←hN]at h1;unfold HH at h2;rw[Ad]at h2;omega
  cases hNc:N with
  |nil =>
   rw[hNc]at hN Ra;refine wV roots C A s dec st q [] O rfl Ra ?_;rw[←hO];unfold Cz;rw[←hN]
  |cons n0 l =>
   rw[hNc]at hN Ra;have lz:=La hN.symm;rw[←hq]at lz;have Rb:∀nd∈n0::l,nd∈Di roots dec:=fun nd h=>((lz.mem nd).1 h).1;have Gv:=(Cp hx).1;have few:∀{E:List Cd},Ez x E→∀nd∈Di roots E,CO nd.rq.set∧BQ (nd.place+1):=fun zk nd h=>by
    rcases Md h with ⟨k,r,h1,rfl⟩ | ⟨c,hc,k,r,h1,rfl⟩
    ·exact⟨(hE.fr r (Ar h1)).1,by unfold BQ;show -9223372036854775808≤(0:Int)+1∧(0:Int)+1<9223372036854775808;decide⟩
    ·have h2:=zk.cand c hc;have h3:=od (Gv _ h2.1);rw[←h2.2.2]at h3;exact⟨((hE.fx _ h2.1).2 r (Ar h1)).1,by unfold BQ;show _≤c.place+1∧c.place+1<_;omega⟩
   have lQ:∀c∈BJ x q,Ez x (dec++[c])∧c.rel.path=q∧c.rel∈x:=fun c hc=>by
    obtain⟨c1,c2⟩:=IS hc;exact⟨hd.snoc c2 (by rw[c1];exact lz.undone),c1,c2.1⟩
   have Fc:∀(i:Nat) (h:i<(BJ x q).length),(BJ x q)[i]∈BJ x q:=fun i h=>AC h;obtain⟨V,hV⟩:=hE.av q
   have hL:tc x roots C A n dec q n0 l V (BJ x q):={
    hx:=hx
    hr:=hr
    hdl:=uM
    hcl:=Br (UB x q) lR.1
    hcs:=rfl
    hnl:=by rw[hNc]at zr;omega
    hnq:=fun nd h=>(few hd nd (Rb nd h)).1
    hnp:=fun nd h=>(few hd nd (Rb nd h)).2
    hex:=fun i h nd hm hh=>by
     obtain⟨a,b,_⟩:=lQ _ (Fc i h);exact⟨(OP hx hr a (NN (Rb nd hm)) ⟨(BJ x q)[i],by simp,b.trans ((lz.mem nd).1 hm).2.symm,hh⟩).1,trivial⟩
    hcx:=fun i h nc hc=>by
     obtain⟨a,b,_⟩:=lQ _ (Fc i h);obtain⟨m1,m2⟩:=KX hc;exact⟨(OP hx hr a (MI m1) m2).1,trivial⟩
    hcq:=fun i h nc hm=>(few (lQ _ (Fc i h)).1 nc (MI hm)).1
    hcp_:=fun i h nc hm=>(few (lQ _ (Fc i h)).1 nc (MI hm)).2
    hcr:=fun i h=>by have:=lR.2 _ (lQ _ (Fc i h)).2.2;omega
    hcs_:=fun i h r hm=>((hE.fx _ (lQ _ (Fc i h)).2.2).2 r hm).1
    hkey:=fun i h=>by
     have b:=(lQ _ (Fc i h)).2.1;unfold AJ;rw[Ax,Ax];show _=_++[[vs (BJ x q)[i].rel.path,vi (BJ x q)[i].rel.ver.a,vi (BJ x q)[i].rel.ver.b,vi (BJ x q)[i].rel.ver.c]];rw[b]
    hinf0:=(Rp hx hr hd (Rb n0 (Ab ..)) (.inl (by
     rw[((lz.mem n0).1 (Ab ..)).2];exact Ht (by rw[FR];exact lz.undone)))).inf
    hV:=hV
    ih:=fun c hc vg S Eb hl hS xD=>by
     obtain⟨a,b,c3⟩:=lQ c hc;obtain⟨k1,k2⟩:=OV.1 vg;obtain⟨_,c2⟩:=IS hc;have lP:=cc.snoc lz b k1 k2;have dI:FN x (dec++[c])<n:=by have:=Sx (dec:=dec) ⟨c2.1,c2.2.1⟩ (by rw[b];exact lz.undone);omega
     have h1:=yE hE m9 n a lP hS xD dI (st:=Eb) (by rw[hl];simp);have h2:=PZ hx hr n a lP hS.der xD dI (st:=Eb);exact⟨h1,⟨h2.der,Pe n hS.nodup⟩,⟨h2.grow.len,fun e1 e2=>((h2.no e1).2.2 e2).1⟩,fun e1=>(h2.no e1).2.1⟩ }
   have hR:DB (Cz x roots n) x q (n0::l) n0 dec st (BJ x q) s [] []=O:=by
    rw[←hO]
    conv=>rhs;unfold Cz
    rw[←hN,hq]
   by_cases hm:∀a,(Value.string q,a)∉C
   ·exact wT x roots C A n s dec st q n0 l V (BJ x q) O O hL hs Jf Ra (hE.c2 q hm) hm hR rfl
   ·exact wS x roots C A n s dec st q n0 l V (BJ x q) O O hL hs Jf Ra (hE.c1 q) hm hR rfl
end
theorem wU{x:List Rl}{roots:List Rq}{C A:List (Value×AV)}(hE:tb x roots C A)(n:Nat){dec:List Cd}{s:SS}{st:List (List Sk)}(h1:Ez x dec)(h2:Ij roots dec)(h3:Jy x roots s)(h4:s.full=false)(h5:FN x dec<n)(h6:st.length=dec.length) :
  A3 Tryz.prog 65 [.ref 1000 0] (Ai (IZ roots C A s dec st) Aa) (YB roots C A (Cz x roots n dec s st)) :=
 yE hE (fun s dec st a b=>s64 roots C A s dec st (Br (O0 hE.hr) (by decide)) a b) n h1 h2 h3 h4 h5 h6
def DU(x:List Rl)(roots:List Rq):Bool:=decide (AT x=0)&&decide (BL roots=0)
theorem sZ(x:List Rl)(ifs:List (List AV))(roots:List Rq)(hx:∀r∈x,JX r)(hr:∀q∈roots,N2 q):PC 63 [.agg (Ic x ifs),sl AK roots] (vb (DU x roots)):=by
 refine Ps ⟨[2],[],[],[],[],[],[],[],[],[],[]⟩ Tryz.func63 rfl (Nz rfl) ?_;refine Yi (Nz rfl) ?_;refine Xi .pure (Xi _ (Yi (lr VK x ifs hx) ?_));refine Yi (fun h1=>?_) (fun h1=>?_)
 ·have h1:((AT x):Int)=(0:Int):=h1;refine Xi .pure (Xi _ (Yi (xj VK roots hr) ?_));refine Yi (fun h2=>?_) (fun h2=>?_)
  ·have h2:((BL roots):Int)=(0:Int):=h2;exact .of_eq (show vb true=vb (DU x roots) by unfold DU;rw[h1,h2];rfl)
  have h2:¬(((BL roots):Int)=(0:Int)):=h2;exact .of_eq (show vb false=vb (DU x roots) by unfold DU;rw[Ay h2,Ec])
 have h1:¬(((AT x):Int)=(0:Int)):=h1;exact .of_eq (show vb false=vb (DU x roots) by unfold DU;rw[Ay h1];rfl)
abbrev Qx(r:Rl):List AV:=Az ⟨plc r.ver,r⟩
abbrev Gk(y:List Rl)(p:ByteArray):List (List AV):=(y.filter fun r=>decide (r.path=p)).map Qx
abbrev Xw(y:List Rl)(q:ByteArray×Nat):Value×AV:=(.string q.1,.slice (.id (q.2+100) 10) (Gk y q.1))
abbrev Iq(y:List Rl):List (Value×AV):=(AO y []).zipIdx.map (Xw y)
def F8(y:List Rl)(l:Nat):HO:=match(AO y [])[l]? with
 |some q=>.tok 10 (Gk y q).length
 |none=>.free
def IX(y:List Rl)(j:Nat):HO:=bif Nat.ble 100 j&&Nat.blt j 1000 then F8 y (j-100)else .free
theorem EZ(y:List Rl)(hy:y.length≤256)(l:Nat):IX y (l+100)=F8 y l:=by
 unfold IX;rw[show Nat.ble 100 (l+100)=true by rw[CT];omega,Ed,Nat.add_sub_cancel]
 by_cases h:l+100<1000
 ·rw[show Nat.blt (l+100) 1000=true by rw[Ca];exact h];rfl
 ·rw[show Nat.blt (l+100) 1000=false by rw[AM];intro hc;rw[Ca]at hc;omega]
  have:=Ha y []
  rw[AE]at this;unfold F8;rw[A2 (by omega)];rfl
theorem jM(y:List Rl){j:Nat}(h:j<100):IX y j=.free:=by
 unfold IX;rw[show Nat.ble 100 j=false by rw[AM];intro hc;rw[CT]at hc;omega];rfl
theorem G9(y:List Rl)(r:Rl)(q:ByteArray):Gk (y++[r]) q=if r.path=q then Gk y q++[Qx r]else Gk y q:=by
 unfold Gk;rw[Dc]
 by_cases h:r.path=q
 ·rw[Ao h,RH (by simpa using h)];simp
 ·rw[Ah h,RG (by simpa using h)];simp
section
variable {y:List Rl}{r:Rl}{k:Nat}
open Classical in
theorem fq(h:(AO y [])[k]?=some r.path):ET (Iq y) (.string r.path) (.slice (.id (k+100) 10) (Gk y r.path++[Qx r]))=Iq (y++[r]):=by
 have hd:=EP y [] E9;have hm:Xw y (r.path,k)∈Iq y:=Aj.2 ⟨_,Fu.2 h,rfl⟩;rw[XZ (a':=.slice (.id (k+100) 10) (Gk y r.path)) hm];unfold Iq;rw[I5 h,BB];refine A9 fun q hq=>?_;have hg:=If hq;obtain⟨q,j⟩:=q;show(if Value.string q=Value.string r.path then _ else _)=Xw (y++[r]) (q,j);have hg:(AO y [])[j]?=some q:=hg
 by_cases he:q=r.path
 ·subst he
  have:j=k:=I2 hd hg h
  subst this;rw[Ao rfl];show _=(Value.string r.path,AV.slice (.id (j+100) 10) (Gk (y++[r]) r.path));rw[G9,Ao rfl]
 ·rw[Ah (fun e=>he (by simpa using e))];show(Value.string q,AV.slice (.id (j+100) 10) (Gk y q))=(Value.string q,AV.slice (.id (j+100) 10) (Gk (y++[r]) q));rw[G9,Ah (fun e=>he e.symm)]
theorem X6(h:r.path∉AO y []):Gk y r.path=[]:=by
 have:y.filter (fun s=>decide (s.path=r.path))=[]:=by
  rw[FJ];intro s hs he;exact h ((Hb y [] r.path).2 (.inr ⟨s,hs,Bv he⟩))
 unfold Gk;rw[this];rfl
theorem UO(h:r.path∉AO y [])(a:AV):(Value.string r.path,a)∉Iq y:=by
 intro hc;obtain⟨q,h1,h2⟩:=Aj.1 hc;simp only[Xw,FK,Value.string.injEq]at h2;exact h (by rw[←h2.1];exact Ar (If h1))
theorem fp(h:r.path∉AO y []):ET (Iq y) (.string r.path) (.slice (.id ((AO y []).length+100) 10) [Qx r])=Iq (y++[r]):=by
 rw[Mc (fun a=>UO h a)];unfold Iq;rw[I4 h,List.zipIdx_append,Ax]
 congr 1
 ·refine A9 fun q hq=>?_;have hg:=If hq
  have:q.1≠r.path:=fun e=>h (by rw[←e];exact Ar hg)
  show(Value.string q.1,AV.slice (.id (q.2+100) 10) (Gk y q.1))=(Value.string q.1,AV.slice (.id (q.2+100) 10) (Gk (y++[r]) q.1));rw[G9,Ah (fun e=>this e.symm)]
 ·show [_]=[(Value.string r.path,AV.slice (.id (0+(AO y []).length+100) 10) (Gk (y++[r]) r.path))];rw[G9,Ao rfl,X6 h,Be];rfl
theorem bT{p:ByteArray}{j:Nat}(h:(AO y [])[j]?=some p):(Value.string p,AV.slice (.id (j+100) 10) (Gk y p))∈Iq y∧∀b,(Value.string p,b)∈Iq y→b=AV.slice (.id (j+100) 10) (Gk y p):=by
 refine⟨Aj.2 ⟨(p,j),Fu.2 h,rfl⟩,fun b hb=>?_⟩;obtain⟨q,h1,h2⟩:=Aj.1 hb;simp only[Xw,FK,Value.string.injEq]at h2;have hg:=If h1;rw[h2.1]at hg
 have:=I2 (EP y [] E9) hg h
 rw[←h2.2,h2.1,this]
theorem aX{p:ByteArray}{j:Nat}(h:(AO y [])[j]?=some p):F8 y j=.tok 10 (Gk y p).length:=by
 unfold F8;rw[h]
theorem iF(h:(AO y [])[k]?=some r.path)(l:Nat):(bif Nat.beq (l+100) (k+100)then HO.tok 10 ((Gk y r.path).length+1)else F8 y l)=F8 (y++[r]) l:=by
 by_cases he:l=k
 ·subst he;rw[show Nat.beq (l+100) (l+100)=true from CK _];unfold F8;rw[I5 h,h];show HO.tok 10 _=HO.tok 10 (Gk (y++[r]) r.path).length;rw[G9,Ao rfl,Ad];rfl
 ·rw[show Nat.beq (l+100) (k+100)=false by rw[AM];intro hc;have:=AI hc;omega];show F8 y l=_;unfold F8;rw[I5 h];cases hq:(AO y [])[l]? with
  |none=>rfl
  |some q =>
   show HO.tok 10 (Gk y q).length=HO.tok 10 (Gk (y++[r]) q).length;rw[G9,Ah];intro e;subst e;exact he (I2 (EP y [] E9) hq h)
theorem iE(h:r.path∉AO y [])(l:Nat):(bif Nat.beq (l+100) ((AO y []).length+100)then HO.tok 10 1 else F8 y l)=F8 (y++[r]) l:=by
 by_cases he:l=(AO y []).length
 ·subst he;rw[show Nat.beq ((AO y []).length+100) ((AO y []).length+100)=true from CK _];unfold F8;rw[I4 h];simp only[AZ (Al _),Gf,A5];show HO.tok 10 1=HO.tok 10 (Gk (y++[r]) r.path).length;rw[G9,Ao rfl,X6 h];rfl
 ·rw[show Nat.beq (l+100) ((AO y []).length+100)=false by rw[AM];intro hc;have:=AI hc;omega];show F8 y l=_;unfold F8;rw[I4 h]
  by_cases hl:l<(AO y []).length
  ·rw[AX hl,Ge hl];show HO.tok 10 (Gk y (AO y [])[l]).length=HO.tok 10 (Gk (y++[r]) (AO y [])[l]).length;rw[G9,Ah];intro e;exact h (by rw[e];exact AC hl)
  ·rw[A2 (by omega),A2 (by rw[Ad];simp;omega)]
end
theorem Hs(y:List Rl){h:Nat→HO}(hh:∀l,h (l+100)=F8 y l):QD h (Iq y)=true:=by
 refine PE fun p hp=>?_;obtain⟨q,h1,rfl⟩:=Aj.1 hp;show Re h (q.2+100)=true;unfold Re;rw[hh,aX (If h1)]
theorem Gu{y:List Rl}(hy:y.length≤256){h h' : Nat→HO}(hh:∀l,h (l+100)=F8 y l)(j:Nat):IX y j=.free∨(h j=IX y j∧XI h' (IX y j)=true):=by
 by_cases hj:j<100
 ·exact .inl (jM y hj)
 ·obtain⟨l,rfl⟩:∃l,j=l+100:=⟨j-100,by omega⟩
  right
  rw[EZ y hy];refine⟨hh l,?_⟩;unfold F8;cases (AO y [])[l]?<;>rfl
abbrev yR(x:List Rl):List Rl:=x.filter fun r=>!r.yanked
theorem Zm(x:List Rl)(p:ByteArray):Gk (yR x) p=(BJ x p).map Az:=by
 unfold Gk BJ;rw[N4,BB]
 rfl
def mC(x:List Rl):List (Value×AV):=(AO (yR x) []).map fun p=>(.string p,sl Az (BJ x p))
theorem gq{x:List Rl}{p:ByteArray}{a:AV}:(Value.string p,a)∈mC x↔p∈AO (yR x) []∧a=sl Az (BJ x p):=by
 unfold mC;rw[Aj];constructor
 ·rintro⟨q,hq,e⟩
  injection e with e1 e2
  injection e1 with e1
  subst e1;exact⟨hq,e2.symm⟩
 ·rintro⟨h1,h2⟩
  exact⟨p,h1,by rw[h2]⟩
theorem UC{x:List Rl}{p:ByteArray}:BJ x p=[]↔p∉AO (yR x) []:=by
 rw[Hb];unfold BJ;rw[D5,FJ];constructor
 ·rintro h (h1 | ⟨r,h1,h2⟩)
  ·cases h1
  ·obtain⟨h3,h4⟩:=BC.1 h1;exact h r h3 (by rw[AA h2,h4];rfl)
 ·intro h r hr hc;rw[Af,As]at hc;exact h (.inr ⟨r,BC.2 ⟨hr,hc.2⟩,hc.1⟩)
theorem rg(x:List Rl):∀(p:ByteArray) (a:AV),(Value.string p,a)∈mC x→a=sl Az (BJ x p):=fun _ _ h=>(gq.1 h).2
theorem rh(x:List Rl):∀p:ByteArray,(∀a,(Value.string p,a)∉mC x)→BJ x p=[]:=fun _ h=>UC.2 fun hp=>h _ (gq.2 ⟨hp,rfl⟩)
theorem ri(x:List Rl):∀p:ByteArray,BJ x p=[]→∀a,(Value.string p,a)∉mC x:=fun _ h _ ha=>UC.1 h (gq.1 ha).1
abbrev plN:RK:=⟨[2],[],[],[(52,[12])],[],[12],[50],[(53,(16,3,90,6)),(54,(16,4,91,1)),(55,(16,7,93,10)),(56,(16,8,94,4))],[],[(850013,13),(800013,10016),(810013,20016),(900013,10000000000+92000000+90016)],[5,7,8,9,11,12,13]⟩
abbrev kC(x:List Rl)(p:ByteArray):Value×AV:=(.string p,sl Az (BJ x p))
abbrev kA(x:List Rl)(p:ByteArray):Value×AV:=(.string p,sl Aq (B1 x p))
theorem kn{x:List Rl}{l:List ByteArray}{kv:Value×AV}{NR : List (Value×AV)}(h:(l.map (kC x)).Perm (kv::NR)):∃t r,kv=kC x t∧NR=r.map (kC x)∧l.Perm (t::r):=by
 obtain⟨ps,h1,h2⟩:=Mg h l rfl;cases ps with
 |nil=>cases h2
 |cons t r =>
  rw[AH,Ft]at h2;exact⟨t,r,h2.1.symm,h2.2.symm,h1.symm⟩
abbrev srN(roots:List Rq)(C A:List (Value×AV)):List (Nat×HO) :=
 [(2000,.cells [sl AK roots,.cmap CM C,.cmap CM A,.slice (.id 2001 6) [],.slice (.id 2002 1) [],.mref 2003,vb false,.slice .none [],.slice .none [],.msl 2004 0]),(2001,.tok 6 0),(2002,.tok 1 0),(2003,.map DT []),(2004,.arr 1 [])]
theorem Wm{x:List Rl}{l:List ByteArray}{p:ByteArray}{a:AV}:(Value.string p,a)∈l.map (kA x)↔p∈l∧a=sl Aq (B1 x p):=by
 rw[Aj];constructor
 ·rintro⟨q,hq,e⟩
  injection e with e1 e2
  injection e1 with e1
  subst e1;exact⟨hq,e2.symm⟩
 ·rintro⟨h1,h2⟩
  exact⟨p,h1,by rw[h2]⟩
theorem ae(y:List Rl)(n:Nat):IX y (n+1000)=.free:=by
 unfold IX;rw[show Nat.blt (n+1000) 1000=false by rw[AM];intro hc;rw[Ca]at hc;omega,Ec];rfl
theorem VT{h s:Nat→HO}(H:∀n,h (n+1000)=.free):∀j,1000≤j→j<2000→h j≠.free→s j≠.free:=fun j h1 _ hn=>by
 refine absurd (H (j-1000)) ?_;rw[show j-1000+1000=j by omega];exact hn
theorem jm{n k:Nat}(h:k<1000):Nat.beq (n+1000) k=false:=by
 rw[AM];intro hc;have:=AI hc;omega
theorem ZP{y:List Rl}{n k:Nat}{o:HO}(h:k<1000):(bif Nat.beq (n+1000) k then o else IX y (n+1000))=.free:=by
 rw[jm h,ae];rfl
attribute [local irreducible] H8
set_option maxRecDepth 30000 in
theorem wR(x:List Rl)(ifs:List (List AV))(roots:List Rq)(hx:∀r∈x,JX r)(h0:AT x=0):A3 Tryz.prog 64 [Hi x ifs,sl AK roots] (Ai [] Aa) fun r h'=>∃l:List ByteArray,l.Perm (AO (yR x) [])∧r=.ref 2000 0∧h'=Ai (srN roots (mC x) (l.map (kA x))) Aa:=by
 have lR:x.length≤256:=(NI h0).1;refine BX (LC plN) [(16,2000),(90,2001),(91,2002),(14,2003),(92,2004)] rfl Co hm rfl Tryz.func64 (by kernel_rfl) rfl (Nz rfl) (by kernel_rfl) rfl ?_;refine Xi 0 ?_;refine Xi 0 ?_;refine Xi 0 ?_;refine Xi {i:Nat // i≤x.length} (Xi (fun i=>⟨[(2,.ref 2 0),(5,.ref 16 0),(18,sl Ak x),(19,vi (x.map Ak).length),(20,vi i.1)],[(2,.ro (Ic x ifs)),(12,.mapU CM (Iq (yR (x.take i.1)))),(13,.map CM []),(14,.map DT []),(16,.cells [sl AK roots,.mref 12,.mref 13,.v (.slice none 0 0),.v (.slice none 0 0),.mref 14,vb false,.v (.slice none 0 0),.v (.slice none 0 0),.v (.slice none 0 0)])],IX (yR (x.take i.1))⟩) (Xi (fun i=>x.length-i.1) (Yi (Xi ⟨0,AL _⟩ ?_) ?_)))
 ·refine⟨Z5,Z5,fun j=>.inl ?_,Aw (by kernel_rfl)⟩;show IX [] j=.free;unfold IX;cases (Nat.ble 100 j&&Nat.blt j 1000)<;>rfl
 intro⟨i,i1⟩;have i1:i≤x.length:=i1;have hq:∀k,(yR (x.take k)).length≤256:=fun k=>by
  have:=BA (fun r:Rl=>!r.yanked) (x.take k)
  rw[AD]at this;show(List.filter _ _).length≤256;omega
 refine Xi 0 ?_;refine Yi ?_ ?_
 ·intro h;have h:(i:Int)<(x.map Ak).length:=h;have h:i<x.length:=by simpa using h
  have hg:x[i]?=some x[i]:=Ge h;have Kx:x.take (i+1)=x.take i++[x[i]]:=by rw[Bq,hg];rfl
  refine Xi 0 ?_;refine Xi (Ak x[i]) (Yi (Yi (Nn i) (by simp[hg])) (Yi rfl ?_));refine Yi (Nz rfl) (Yi (Nz rfl) ?_);refine Xi ⟨[(2,.ref 2 0),(5,.ref 16 0),(7,.ref 7 0),(18,sl Ak x),(19,vi (x.map Ak).length),(20,vi i)],[(2,.ro (Ic x ifs)),(7,.cells (Ak x[i])),(12,.mapU CM (Iq (yR (x.take i)))),(13,.map CM []),(14,.map DT []),(16,.cells [sl AK roots,.mref 12,.mref 13,.v (.slice none 0 0),.v (.slice none 0 0),.mref 14,vb false,.v (.slice none 0 0),.v (.slice none 0 0),.v (.slice none 0 0)])],IX (yR (x.take i))⟩ (Yi ?_ ?_)
  ·exact⟨Z6,⟨Zr,Zr,⟨rfl,Hs _ (EZ _ (hq _))⟩,Zr,Zr,Zr,Tv⟩,Gu (hq _) (EZ _ (hq _)),Aw (by kernel_rfl)⟩
  refine Xi 0 ?_;refine Yi (fun hy=>?_) (fun hy=>?_)
  ·have hy:x[i].yanked=true:=hy;have ey:yR (x.take (i+1))=yR (x.take i):=by
    unfold yR;rw[Kx,Dc,RG (by rw[hy];decide)];simp
   refine Xi ⟨[(2,.ref 2 0),(5,.ref 16 0),(18,sl Ak x),(19,vi (x.map Ak).length),(20,vi i)],[(2,.ro (Ic x ifs)),(12,.mapU CM (Iq (yR (x.take (i+1))))),(13,.map CM []),(14,.map DT []),(16,.cells [sl AK roots,.mref 12,.mref 13,.v (.slice none 0 0),.v (.slice none 0 0),.mref 14,vb false,.v (.slice none 0 0),.v (.slice none 0 0),.v (.slice none 0 0)])],IX (yR (x.take (i+1)))⟩ (Yi ?_ ?_)
   ·rw[ey];exact⟨Z5,⟨Zr,⟨rfl,Hs _ (EZ _ (hq _))⟩,Zr,Zr,Zr,Tv⟩,Gu (hq _) (EZ _ (hq _)),Aw (by kernel_rfl)⟩
   refine Xi 0 ?_;refine Yi (Ii i (by omega)) ?_;refine Xi ⟨i+1,by omega⟩ ?_;exact⟨Dl x.length i (by omega),Z5,⟨Zr,⟨rfl,Hs _ (EZ _ (hq _))⟩,Zr,Zr,Zr,Tv⟩,Gu (hq _) (EZ _ (hq _)),Aw (by kernel_rfl)⟩
  have hy:x[i].yanked=false:=hy;refine Xi 0 ?_;refine Yi (Nz rfl) ?_;refine Xi .pure (Xi _ (Yi (pL x[i].ver) ?_));refine Xi ⟨[(2,.ref 2 0),(5,.ref 16 0),(7,.ref 7 0),(8,vi (plc x[i].ver)),(18,sl Ak x),(19,vi (x.map Ak).length),(20,vi i)],[(2,.ro (Ic x ifs)),(7,.cells (Ak x[i])),(12,.mapU CM (Iq (yR (x.take i)))),(13,.map CM []),(14,.map DT []),(16,.cells [sl AK roots,.mref 12,.mref 13,.v (.slice none 0 0),.v (.slice none 0 0),.mref 14,vb false,.v (.slice none 0 0),.v (.slice none 0 0),.v (.slice none 0 0)])],IX (yR (x.take i))⟩ (Yi ?_ ?_)
  ·exact⟨Z7,⟨Zr,Zr,⟨rfl,Hs _ (EZ _ (hq _))⟩,Zr,Zr,Zr,Tv⟩,Gu (hq _) (EZ _ (hq _)),Aw (by kernel_rfl)⟩
  have ey:yR (x.take (i+1))=yR (x.take i)++[x[i]]:=by
   unfold yR;rw[Kx,Dc,RH (by rw[hy];decide)];rfl
  have hyl:(yR (x.take i)).length≤256:=by
   have:=BA (fun r:Rl=>!r.yanked) (x.take i)
   rw[AD]at this;show(List.filter _ _).length≤256;omega
  have hP:∀l,IX (yR (x.take i)) (l+100)=F8 (yR (x.take i)) l:=EZ _ (hq _);refine Dd (Classical.em (x[i].path∈AO (yR (x.take i)) [])) (fun hp=>?_) (fun hp=>?_)
  ·refine CD (B5.1 hp) (fun k hk=>?_);have hu:=bT hk;have hl:(Gk (yR (x.take i)) x[i].path).length≤256:=by
    rw[Lm];exact Br (BA _ _) hyl
   have qE:k<256:=by
    have:=(Ap.1 hk).1
    have:=Ha (yR (x.take i)) []
    simp only[AE]at this;omega
   have hr:IX (yR (x.take i)) (k+100)=.tok 10 (Gk (yR (x.take i)) x[i].path).length:=by rw[hP,aX hk]
   refine Xi 0 ?_;refine Or.inl (Xi (.slice (.id (k+100) 10) (Gk (yR (x.take i)) x[i].path)) (Yi hu ?_));refine Yi (Nz rfl) ?_;refine Qs (e:=150) (m:=9) (es2:=[Qx x[i]]) rfl rfl rfl (fun _ h=>h) hr ⟨rfl,trivial⟩ (by show(_+1)*128≤_;omega) (by show _+1≤_;omega) ?_;refine Yi (IV ⟨A0 _,A0 _,A0 _,A0 _,A0 _,A0 _,A0 _,A0 _,A0 _,A0 _,A0 _,A0 _,A0 _,A0 _,A0 _,A0 _,D7 (show 49<10000000 by decide),D7 (by show _+100<10000000;omega),D7 (show 12<10000000 by decide),trivial⟩ (by kernel_rfl)) ?_;have e9:ET (Iq (yR (x.take i))) (.string x[i].path) (.slice (.id (k+100) 10) (Gk (yR (x.take i)) x[i].path++[Qx x[i]]))=Iq (yR (x.take (i+1))):=by rw[ey];exact fq hk
   have hG:∀l,(bif Nat.beq (l+100) (k+100)then HO.tok 10 ((Gk (yR (x.take i)) x[i].path).length+1)else F8 (yR (x.take i)) l)=F8 (yR (x.take (i+1))) l:=by rw[ey];exact iF hk
   refine Xi ⟨[(2,.ref 2 0),(5,.ref 16 0),(18,sl Ak x),(19,vi (x.map Ak).length),(20,vi i)],[(2,.ro (Ic x ifs)),(12,.mapU CM (Iq (yR (x.take (i+1))))),(13,.map CM []),(14,.map DT []),(16,.cells [sl AK roots,.mref 12,.mref 13,.v (.slice none 0 0),.v (.slice none 0 0),.mref 14,vb false,.v (.slice none 0 0),.v (.slice none 0 0),.v (.slice none 0 0)])],IX (yR (x.take (i+1)))⟩ (Yi ?_ ?_)
   ·refine⟨Z5,⟨Zr,⟨Ac (HO.mapU CM) e9,Hs _ (EZ _ (hq _))⟩,Zr,Zr,Zr,Tv⟩,Gu (hq _) (fun l=>?_),VT (fun n=>?_)⟩
    ·show(bif Nat.beq (l+100) (k+100)then HO.tok 10 ((Gk (yR (x.take i)) x[i].path).length+1)else IX (yR (x.take i)) (l+100))=_;rw[hP];exact hG l
    ·exact ZP (y:=yR (x.take i)) (show k+100<1000 by omega)
   refine Xi 0 ?_;refine Yi (Ii i (by omega)) ?_;refine Xi ⟨i+1,by omega⟩ ?_;exact⟨Dl x.length i (by omega),Z5,⟨Zr,⟨rfl,Hs _ (EZ _ (hq _))⟩,Zr,Zr,Zr,Tv⟩,Gu (hq _) (EZ _ (hq _)),Aw (by kernel_rfl)⟩
  ·have Lu:(AO (yR (x.take i)) []).length≤256:=by
    have:=Ha (yR (x.take i)) []
    simp only[AE]at this;omega
   have hn:=UO hp;have hr:IX (yR (x.take i)) ((AO (yR (x.take i)) []).length+100)=.free:=by
    rw[hP];unfold F8;rw[A2 (Al _)]
   refine Xi ((AO (yR (x.take i)) []).length+100) ?_;refine Or.inr (Yi hn ?_);refine Yi (Nz rfl) ?_;refine Qr (e:=150) (m:=9) (es2:=[Qx x[i]]) rfl rfl rfl (fun _ h=>h) hr rfl ⟨rfl,trivial⟩ (by show 1*128≤_;omega) (by show 1≤_;omega) ?_;refine Yi (IV ⟨A0 _,A0 _,A0 _,A0 _,A0 _,A0 _,A0 _,A0 _,A0 _,A0 _,A0 _,A0 _,A0 _,A0 _,A0 _,A0 _,D7 (show 49<10000000 by decide),D7 (by show _+100<10000000;omega),D7 (show 12<10000000 by decide),trivial⟩ (by kernel_rfl)) ?_;have e9:ET (Iq (yR (x.take i))) (.string x[i].path) (.slice (.id ((AO (yR (x.take i)) []).length+100) 10) [Qx x[i]])=Iq (yR (x.take (i+1))):=by rw[ey];exact fp hp
   have hG:∀l,(bif Nat.beq (l+100) ((AO (yR (x.take i)) []).length+100)then HO.tok 10 1 else F8 (yR (x.take i)) l)=F8 (yR (x.take (i+1))) l:=by rw[ey];exact iE hp
   refine Xi ⟨[(2,.ref 2 0),(5,.ref 16 0),(18,sl Ak x),(19,vi (x.map Ak).length),(20,vi i)],[(2,.ro (Ic x ifs)),(12,.mapU CM (Iq (yR (x.take (i+1))))),(13,.map CM []),(14,.map DT []),(16,.cells [sl AK roots,.mref 12,.mref 13,.v (.slice none 0 0),.v (.slice none 0 0),.mref 14,vb false,.v (.slice none 0 0),.v (.slice none 0 0),.v (.slice none 0 0)])],IX (yR (x.take (i+1)))⟩ (Yi ?_ ?_)
   ·refine⟨Z5,⟨Zr,⟨Ac (HO.mapU CM) e9,Hs _ (EZ _ (hq _))⟩,Zr,Zr,Zr,Tv⟩,Gu (hq _) (fun l=>?_),VT (fun n=>?_)⟩
    ·show(bif Nat.beq (l+100) ((AO (yR (x.take i)) []).length+100)then HO.tok 10 1 else IX (yR (x.take i)) (l+100))=_;rw[hP];exact hG l
    ·exact ZP (y:=yR (x.take i)) (show(AO (yR (x.take i)) []).length+100<1000 by omega)
   refine Xi 0 ?_;refine Yi (Ii i (by omega)) ?_;refine Xi ⟨i+1,by omega⟩ ?_;exact⟨Dl x.length i (by omega),Z5,⟨Zr,⟨rfl,Hs _ (EZ _ (hq _))⟩,Zr,Zr,Zr,Tv⟩,Gu (hq _) (EZ _ (hq _)),Aw (by kernel_rfl)⟩
 ·intro h;have h:¬(i:Int)<(x.map Ak).length:=h;have h:¬i<x.length:=by simpa using h
  have et:x.take i=x:=AG (by omega);have eM:∀hh:Nat→HO,Rg hh (Iq (yR (x.take i)))=(AO (yR x) []).map (kC x):=fun hh=>by
   rw[et];unfold Rg Iq;rw[BB];refine CU fun j=>?_;rw[AF,AF,List.getElem?_zipIdx];cases (AO (yR x) [])[j]? with
   |none=>rfl
   |some q=>show some (Value.string q,AV.slice .none (Gk (yR x) q))=_;rw[Zm];rfl
  refine Xi ⟨[(2,.ref 2 0),(5,.ref 16 0)],[(2,.ro (Ic x ifs)),(12,.mapU CM (Iq (yR (x.take i)))),(13,.map CM []),(14,.map DT []),(16,.cells [sl AK roots,.mref 12,.mref 13,.v (.slice none 0 0),.v (.slice none 0 0),.mref 14,vb false,.v (.slice none 0 0),.v (.slice none 0 0),.v (.slice none 0 0)])],IX (yR (x.take i))⟩ (Yi ?_ ?_)
  ·exact⟨Z2,⟨Zr,⟨rfl,Hs _ (EZ _ (hq _))⟩,Zr,Zr,Zr,Tv⟩,Gu (hq _) (EZ _ (hq _)),Aw (by kernel_rfl)⟩
  refine Xi 0 ?_;refine Xi {p:List ByteArray×List ByteArray×Option (Value×AV) // (p.1++p.2.1).Perm (AO (yR x) [])} (Xi (fun p=>⟨[(2,.ref 2 0),(5,.ref 16 0),(56,.ref 56 0)],[(2,.ro (Ic x ifs)),(12,.rom CM ((AO (yR x) []).map (kC x))),(13,.map CM (p.1.1.map (kA x))),(14,.map DT []),(16,.cells [sl AK roots,.mref 12,.mref 13,.slice (.id 90 6) [],.slice (.id 91 1) [],.mref 14,vb false,.slice (.id 93 10) [],.slice (.id 94 4) [],.v (.slice none 0 0)]),(56,.iter ((AO (yR x) []).map (kC x)) (p.1.2.1.map (kC x)) p.1.2.2),(90,.tok 6 0),(91,.tok 1 0),(93,.tok 10 0),(94,.tok 4 0)],Aa⟩) (Xi (fun p=>p.1.2.1.length) (Yi (Xi ⟨([],AO (yR x) [],none),.refl _⟩ ?_) ?_)))
  ·refine⟨Z3,⟨Zr,⟨Ac (HO.rom CM) (eM _),rfl⟩,Zr,Zr,Zr,⟨?_,rfl⟩,Zr,Zr,Zr,Zr,Tv⟩,Fh,VT (fun n=>?_)⟩
   ·show HO.iter (Rg _ (Iq (yR (x.take i)))) (Rg _ (Iq (yR (x.take i)))) none=_;rw[eM]
   ·exact ae (yR (x.take i)) n
  intro⟨⟨done,rem,Fx⟩,r1⟩;have r1:(done++rem).Perm (AO (yR x) []):=r1;refine Xi 0 ?_;refine Yi ?_ ?_
  ·intro hr;have hr:rem.map (kC x)=[]:=hr;have hr:rem=[]:=D5.1 hr;subst hr;rw[BV]at r1;refine Xi ⟨[(5,.ref 16 0)],[(14,.map DT []),(16,.cells [sl AK roots,.cmap CM (mC x),.cmap CM (done.map (kA x)),.slice (.id 90 6) [],.slice (.id 91 1) [],.mref 14,vb false,.slice (.id 93 10) [],.slice (.id 94 4) [],.msl 92 0]),(90,.tok 6 0),(91,.tok 1 0),(92,.arr 1 []),(93,.tok 10 0),(94,.tok 4 0)],Aa⟩ (Yi ⟨Z1,Z7,Fh,Aw (by kernel_rfl)⟩ ?_)
   refine Xi 0 ?_;exact Xi _ (Yi (.refl _) (Xi done (Yi r1 (Yi rfl rfl))))
  ·intro kv NR hp;refine CD (kn hp) (fun t hp=>CD hp (fun r hp=>?_));have e1:=hp.1;have e2:=hp.2.1;subst e1;subst e2;have hp:=hp.2.2;refine Xi ⟨[(2,.ref 2 0),(5,.ref 16 0),(56,.ref 56 0)],[(2,.ro (Ic x ifs)),(12,.rom CM ((AO (yR x) []).map (kC x))),(13,.map CM (done.map (kA x))),(14,.map DT []),(16,.cells [sl AK roots,.mref 12,.mref 13,.slice (.id 90 6) [],.slice (.id 91 1) [],.mref 14,vb false,.slice (.id 93 10) [],.slice (.id 94 4) [],.v (.slice none 0 0)]),(56,.iter ((AO (yR x) []).map (kC x)) (r.map (kC x)) (some (kC x t))),(90,.tok 6 0),(91,.tok 1 0),(93,.tok 10 0),(94,.tok 4 0)],Aa⟩ (Yi ⟨Z3,Z10,Fh,Aw (by kernel_rfl)⟩ ?_)
   refine Xi 0 ?_;refine Xi ⟨[(2,.ref 2 0),(5,.ref 16 0),(10,vs t),(56,.ref 56 0)],[(2,.ro (Ic x ifs)),(12,.rom CM ((AO (yR x) []).map (kC x))),(13,.map CM (done.map (kA x))),(14,.map DT []),(16,.cells [sl AK roots,.mref 12,.mref 13,.slice (.id 90 6) [],.slice (.id 91 1) [],.mref 14,vb false,.slice (.id 93 10) [],.slice (.id 94 4) [],.v (.slice none 0 0)]),(56,.iter ((AO (yR x) []).map (kC x)) (r.map (kC x)) (some (kC x t))),(90,.tok 6 0),(91,.tok 1 0),(93,.tok 10 0),(94,.tok 4 0)],Aa⟩ (Yi ⟨Z4,Z10,Fh,Aw (by kernel_rfl)⟩ ?_)
   refine Xi 0 ?_;have Rb:(done++rem).Nodup:=r1.nodup_iff.2 (EP _ [] E9);have vD:t∉done:=fun hc=>(Gc.1 Rb).2.2 t hc t (hp.mem_iff.2 (Ab ..)) rfl;have em:ET (done.map (kA x)) (.string t) (sl Aq (B1 x t))=(done++[t]).map (kA x):=by
    rw[Mc (fun a ha=>vD (Wm.1 ha).1),Ax];rfl
   have TT:((done++[t])++r).Perm (AO (yR x) []):=by
    rw[BI];exact(List.Perm.append_left _ hp.symm).trans r1
   refine Yi (Nz rfl) ?_;refine Xi _ (Yi (tO x ifs t (c84 x ifs hx)) ?_);refine Yi (by kernel_rfl) ?_;refine Xi ⟨(done++[t],r,some (kC x t)),TT⟩ ?_;exact⟨by show r.length<rem.length;rw[hp.length_eq,Au];omega,Z3,⟨Zr,Zr,⟨Ac (HO.map CM) em,rfl⟩,Zr,Zr,Zr,Zr,Zr,Zr,Zr,Tv⟩,Fh,Aw (by kernel_rfl)⟩
end Go.Eng
namespace Go.Eng
open Go.Proofs
theorem YJ{x:List Rl}(h0:AT x=0){p:ByteArray}(h:p∉AO (yR x) []):B1 x p=[]:=by
 rw[bu h0]
 have:x.filter (Z0 p)=[]:=by
  rw[FJ];intro r hr hc;unfold Z0 at hc;rw[Af,As]at hc;exact h ((Hb _ _ _).2 (.inr ⟨r,BC.2 ⟨hr,hc.2⟩,hc.1⟩))
 rw[this];rfl
theorem mW{x:List Rl}{roots:List Rq}(hx:∀r∈x,JX r)(hr:∀q∈roots,N2 q)(h0:AT x=0)(h1:BL roots=0){l:List ByteArray}(hl:l.Perm (AO (yR x) [])):tb x roots (mC x) (l.map (kA x)) where
 hx:=h0
 hr:=h1
 fx:=hx
 fr:=hr
 c1:=rg x
 c2:=rh x
 c3:=ri x
 av p:=by
  by_cases hp:p∈l
  ·exact⟨sl Aq (B1 x p),fun a ha=>(Wm.1 ha).2,fun hn=>(hn _ (Wm.2 ⟨hp,rfl⟩)).elim,fun h=>pF p (B1 x p) (RR x p)⟩
  ·refine⟨.v (.slice none 0 0),fun a ha=>(hp (Wm.1 ha).1).elim,fun _=>rfl,fun h=>?_⟩;have e:=YJ h0 (fun hc=>hp (hl.mem_iff.2 hc));have hc:=pF p (B1 x p) (RR x p);rw[e]at hc⊢;exact I6.args hc ⟨.refl _,.nil,trivial⟩
abbrev ID(b:Bool):List AV:=[vb b]
end Go.Eng
