/- Lemmas for the claims of this seat, without a condition: part 28 (S8d, S8e, S11, S12, S13, S14, S16, S18, R24, C74, R25, R26, R27, R28, R29, R30, R31). -/
import Derived.Test.YtddfphmpfnmknaaGreatDoorDA27
import Derived.Test.YtddfphmpfnmknaaGreatDoorDA24
set_option maxHeartbeats 8000000
namespace Go.Eng
open Go.Proofs
theorem yE(x:List Rl)(roots:List Rq)(C A:List (Value×AV))(n:Nat)(s:SS)(dec:List Cd)(st:List (List Sk))(p:ByteArray)(n0:Nd)(l:List Nd)(V:AV)(cs:List Cd)(R O:Kf)(hL:uJ x roots C A n dec p n0 l V cs)(hs:JO x roots s)(Jy:st.length=dec.length)
  (RJ:A6 Tryz.prog 87 [.ref 1000 0] (Ak (Jh roots C A s dec st) Aa) fun r h'=>r=.tup [vs p,sl A9 (n0::l)]∧h'=Ak (Jh roots C A s dec st) Aa)
  (rD:cs=[]) (wm:∀a,(Value.string p,a)∉C) (hR:D7 (Df x roots n) x p (n0::l) n0 dec st cs s [] []=R) (aN:O=R) :
  A6 Tryz.prog 65 [.ref 1000 0] (Ak (Jh roots C A s dec st) Aa) (Y9 roots C A O):=by
 obtain⟨hx,hr,hdl,hcl,hcs,hnl,hnq,hnp,hex,hcx,hcq,hcp_,hcr,hcs_,hkey,hinf0,⟨ri,rj,rk⟩,ih⟩:=hL;have hdl:dec.length≤256:=hdl;have hcl:cs.length≤256:=hcl;have Jy:st.length=dec.length:=Jy;have rA:∀(i:Nat) (h:i<cs.length),cs[i]∈Co x p:=fun i h=>by rw[←hcs];exact At h
 have p7:∀(i:Nat) (h:i<cs.length),Cp (AO (dec++[cs[i]])):=fun i h=>by unfold Cp AO;rw[Lm,Ae];simp;omega
 clear hcs
 refine BW (Lg ⟨[9],[(6,1),(7,3),(145,1)],[],[],[],[],[],[],[],[(300001,500091000),(300026,500091000),(300029,500091000)],[1,2,5,10,11,13,14,15,16,17,19,21,22,23,24,25,26,28,29,31,32,33,35]⟩) [(1000,1000),(1001,1001),(1002,1002),(1003,1003),(1004,1004),(500,2000)] rfl Cw hm rfl Tryz.func65 (by kernel_rfl) rfl (Nz rfl) (by kernel_rfl) rfl ?_;refine Yi (show st.length=(st.map AX).length by simp) ?_;refine Xi ⟨[(0,.ref 1000 0)],[(500,.arr 1 (st.map AX)),(1000,.cells (srM roots C A s dec 500 st.length)),(1001,.tok 6 s.infs.length),(1002,.tok 1 s.drv.length),(1003,.map D0 (D3 0 s.infs)),(1004,.dead)],Aa⟩ (Yi ⟨Z1,Z6,Fh,AB (by kernel_rfl)⟩ ?_)
 refine Xi (.gen Y8 0) (Yi rfl (A6.imp RJ ?_));intro v1 g1 q1;have lO:=q1.1;have lP:=q1.2;subst lO;subst lP;refine Xi ⟨[(0,.ref 1000 0),(4,vs p),(5,sl A9 (n0::l))],[(500,.arr 1 (st.map AX)),(1000,.cells (srM roots C A s dec 500 st.length)),(1001,.tok 6 s.infs.length),(1002,.tok 1 s.drv.length),(1003,.map D0 (D3 0 s.infs)),(1004,.dead)],Aa⟩ (Yi ⟨Z3,Z6,Fh,AB (by kernel_rfl)⟩ ?_)
 refine Yi (fun h2=>?_) (fun h2=>?_)
 ·have h2:(((n0::l).map A9).length:Int)=(0:Int):=h2;exact absurd h2 (by simp;omega)
 have h2:¬((((n0::l).map A9).length:Int)=(0:Int)):=h2;refine Xi ⟨[(0,.ref 1000 0),(4,vs p),(5,sl A9 (n0::l)),(6,.slice (.id 6 1) [])],[(6,.tok 1 0),(500,.arr 1 (st.map AX)),(1000,.cells (srM roots C A s dec 500 st.length)),(1001,.tok 6 s.infs.length),(1002,.tok 1 s.drv.length),(1003,.map D0 (D3 0 s.infs)),(1004,.dead)],Aa⟩ (Yi ⟨Z4,Z7,Fh,AB (by kernel_rfl)⟩ ?_)
 refine Yi (fun a ha=>?_) (fun RL=>?_)
 ·exact absurd ha (wm a)
 refine Xi {q:Nat×SS×List Nat×List Sk // q.1≤cs.length∧D7 (Df x roots n) x p (n0::l) n0 dec st (cs.drop q.1) q.2.1 q.2.2.1 q.2.2.2=R∧JO x roots q.2.1∧(∀r∈q.2.2.1,r<q.2.1.drv.length)∧q.2.2.1.length≤q.1∧q.2.2.2.length≤q.1} (Xi (fun q=>⟨[(0,.ref 1000 0),(4,vs p),(5,sl A9 (n0::l)),(6,.slice (.id 6 1) (q.1.2.2.1.map BP)),(7,.slice (.id 7 3) (q.1.2.2.2.map BS)),(32,.v (.slice none 0 0)),(33,vi 0),(34,vi q.1.1)],[(6,.tok 1 q.1.2.2.1.length),(7,.tok 3 q.1.2.2.2.length),(500,.arr 1 (st.map AX)),(1000,.cells (srM roots C A q.1.2.1 dec 500 st.length)),(1001,.tok 6 q.1.2.1.infs.length),(1002,.tok 1 q.1.2.1.drv.length),(1003,.map D0 (D3 0 q.1.2.1.infs)),(1004,.dead)],Aa⟩) (Xi (fun q=>cs.length-q.1.1) (Yi (Xi ⟨(0,s,[],[]),AD _,hR,hs,fun r h=>(by cases h),Al _,Al _⟩ ?_) ?_)))
 ·exact⟨Z8,Z8,Fh,AB (by kernel_rfl)⟩
 intro⟨⟨i,S,rs,sk⟩,j1,j2,j3,j4,j5,j6⟩;have j1:i≤cs.length:=j1;have j2:D7 (Df x roots n) x p (n0::l) n0 dec st (cs.drop i) S rs sk=R:=j2;have j3:JO x roots S:=j3;have j4:∀r∈rs,r<S.drv.length:=j4;have j5:rs.length≤i:=j5;have j6:sk.length≤i:=j6;have hw:=j3.dl;have gC:∀t∈S.drv,eI t:=fun t ht=>by have q:=j3.der.few hx hr t ht;exact⟨Fl q,q.2⟩
 refine Yi (fun h3=>?_) (fun h3=>?_)
 ·have h3:(i:Int)<(0:Int):=h3;exact absurd h3 (by have q:=j1;rw[rD,AJ]at q;omega)
 have h3:¬((i:Int)<(0:Int)):=h3;refine Xi (A9 n0) (Yi (Yi (show(0:Int)≤0 by decide) rfl) (Yi rfl ?_));refine Yi (Nz rfl) ?_;refine Xi (.gen Y8 0) (Yi rfl (A6.imp (s91 x roots C A S dec st p n0 rs V hx hr j3 hinf0 j4 (by omega) (hnq n0 (Ab ..)) (hnp n0 (Ab ..)) ri rj rk) ?_));intro v4 g4 q4;have yh:=q4.1;have yi:=q4.2;subst yh;subst yi;have hj:¬i<cs.length:=by rw[rD];simp
 have eR:R=⟨(Ec x p n0 rs S).1,false,(Ec x p n0 rs S).2,dec,st⟩:=by rw[←j2];exact fm hj
 exact Xi _ (Yi (.refl _) (ND (aN.trans eR)))
theorem yG(roots:List Rq)(C A:List (Value×AV))(s:SS)(dec:List Cd)(st:List (List Sk))(p:ByteArray)(N:List Nd)(O:Kf)(hN:N=[])
  (RJ:A6 Tryz.prog 87 [.ref 1000 0] (Ak (Jh roots C A s dec st) Aa) fun r h'=>r=.tup [vs p,sl A9 N]∧h'=Ak (Jh roots C A s dec st) Aa) (hO:O=⟨0,true,s,dec,st⟩) :
  A6 Tryz.prog 65 [.ref 1000 0] (Ak (Jh roots C A s dec st) Aa) (Y9 roots C A O):=by
 refine BW (Lg ⟨[],[],[],[],[],[],[],[],[],[(300001,500091000)],[1,2,5,10,11,13,14,15,16,17,19,21,22,23,25,28,29,31,32,33,35]⟩) [(1000,1000),(1001,1001),(1002,1002),(1003,1003),(1004,1004),(500,2000)] rfl Cw hm rfl Tryz.func65 (by kernel_rfl) rfl (Nz rfl) (by kernel_rfl) rfl ?_;refine Yi (show st.length=(st.map AX).length by simp) ?_;refine Xi ⟨[(0,.ref 1000 0)],[(500,.arr 1 (st.map AX)),(1000,.cells (srM roots C A s dec 500 st.length)),(1001,.tok 6 s.infs.length),(1002,.tok 1 s.drv.length),(1003,.map D0 (D3 0 s.infs)),(1004,.dead)],Aa⟩ (Yi ⟨Z1,Z6,Fh,AB (by kernel_rfl)⟩ ?_)
 refine Xi (.gen Y8 0) (Yi rfl (A6.imp RJ ?_));intro v1 g1 q1;have lO:=q1.1;have lP:=q1.2;subst lO;subst lP;refine Xi ⟨[(0,.ref 1000 0),(4,vs p),(5,sl A9 N)],[(500,.arr 1 (st.map AX)),(1000,.cells (srM roots C A s dec 500 st.length)),(1001,.tok 6 s.infs.length),(1002,.tok 1 s.drv.length),(1003,.map D0 (D3 0 s.infs)),(1004,.dead)],Aa⟩ (Yi ⟨Z3,Z6,Fh,AB (by kernel_rfl)⟩ ?_)
 refine Yi (fun h2=>?_) (fun h2=>?_)
 ·have h2:((N.map A9).length:Int)=(0:Int):=h2;exact Xi _ (Yi (.refl _) (ND (st:=st) hO))
 have h2:¬(((N.map A9).length:Int)=(0:Int)):=h2;exact absurd (by rw[hN];rfl) h2
section
variable {x:List Rl}{roots:List Rq}{p:ByteArray}
theorem Iw:∀(l:List Nat) {k:Nat} {s:SS},s.infs.Nodup→(Ci p l k s).2.infs.Nodup
 | [],_,_,h=>h
 |r::l,k,s,h=>by
  unfold Ci;split
  ·exact h
  split
  ·exact Iw l h
  split
  ·exact Iw l h
  ·exact Iw l (Ij h)
theorem K6{needs:List Nd}{n0:Nd}{dec:List Cd}{st:List (List Sk)}{rec:List Cd→SS→List (List Sk)→Kf}(cH:∀c s st,s.infs.Nodup→(rec (dec++[c]) s st).ss.infs.Nodup) :
  ∀(cs:List Cd) {s:SS} {rs:List Nat} {sk:List Sk},s.infs.Nodup→(D7 rec x p needs n0 dec st cs s rs sk).ss.infs.Nodup
 | [],s,rs,sk,h=>Iw _ (Ij (Ij h))
 |c::cs,s,rs,sk,h=>by
  have nf:∀(s' : SS) (k:Nat),s'.infs.Nodup→(JW rec x p needs n0 dec st c cs rs sk k s').ss.infs.Nodup:=fun s' k h'=>by
   unfold JW;split
   ·exact h'
   ·exact K6 cH cs h'
  rw[GD];split
  ·exact h
  cases needs.find? fun n=>!has n.rq.set c.place with
  |some n=>exact K6 cH cs (Ij h)
  |none =>
   dsimp only;cases OJ s.drv (AO (dec++[c]))with
   |some k=>exact nf s k h
   |none =>
    dsimp only;cases Ek dec c with
    |some n=>exact nf _ _ (Ij h)
    |none =>
     dsimp only;have h2:=cH c s (st++[sk]) h;split
     ·exact h2
     split
     ·exact h2
     ·exact nf _ _ h2
theorem PB:∀(n:Nat) {dec:List Cd} {s:SS} {st:List (List Sk)},s.infs.Nodup→(Df x roots n dec s st).ss.infs.Nodup
 |0,_,_,_,h=>h
 |n+1,dec,s,st,h=>by
  unfold Df;cases (GT roots dec).2 with
  |nil=>exact h
  |cons n0 l=>exact K6 (fun c s st h=>PB n h) _ h
structure uI(x:List Rl)(roots:List Rq)(C A:List (Value×AV)):Prop where
 hx:AQ x=0
 hr:Bp roots=0
 fx:∀r∈x,JM r
 fr:∀q∈roots,NE q
 c1:∀(p:ByteArray) (a:AV),(Value.string p,a)∈C→a=sl AE (Co x p)
 c2:∀p:ByteArray,(∀a,(Value.string p,a)∉C)→Co x p=[]
 c3:∀p:ByteArray,Co x p=[]→∀a,(Value.string p,a)∉C
 av:∀p:ByteArray,∃V,HV x A p V
theorem nV{dec:List Cd}(h:∀c∈dec,c.rel.reqs.length≤16):((dec.map fun c=>c.rel.reqs).flatten).length≤16*dec.length:=by
 induction dec with
 |nil=>simp
 |cons c dec ih =>
  rw[AP,BC,Ae,Az]
  have:=h c (Ab ..)
  have:=ih fun d hd=>h d (Ai _ hd)
  omega
theorem pf{r:Rl}(h:Sx r):0≤plc r.ver∧plc r.ver<1000000:=by rw[h.plc];exact JG h.val
theorem dg(dec:List Cd):(GT roots dec).2.length≤(Dx roots dec).length:=by
 rw[TT];cases KN (H2 roots dec) (AO dec)with
 |none=>simp
 |some q=>exact Bv _ _
theorem s45{C A:List (Value×AV)}(hE:uI x roots C A)(n8:H64 roots C A):∀(n:Nat) {dec:List Cd} {s:SS} {st:List (List Sk)},EN x dec→IZ roots dec→JO x roots s→s.full=false→Rd x dec<n→st.length=dec.length →
  A6 Tryz.prog 65 [.ref 1000 0] (Ak (Jh roots C A s dec st) Aa) (Y9 roots C A (Df x roots n dec s st))
 |0,_,_,_,_,_,_,_,h,_=>by omega
 |n+1,dec,s,st,hd,cI,hs,hf,hn,Jy=>by
  have hx:=hE.hx;have hr:=hE.hr;have gQ:=NY hx;have hdl:=XH hd;have wP:dec.length≤256:=by have:=gQ.1;omega
  have WP:∀c∈dec,c.rel.reqs.length≤16:=fun c hc=>gQ.2 _ (hd.cand c hc).1;have RJ:=n8 s dec st (by omega) fun c hc=>Bx (WP c hc) (by decide);generalize hO:Df x roots (n+1) dec s st=O;obtain⟨N,hN⟩:∃N,N=(GT roots dec).2:=⟨_,rfl⟩;obtain⟨q,hq⟩:∃q,q=(GT roots dec).1:=⟨_,rfl⟩;rw[←hN,←hq]at RJ;have hNl:N.length≤10000:=by
   have h1:=dg (roots:=roots) dec;have h2:(Dx roots dec).length=(H2 roots dec).length:=by rw[←MU,Lm]
   have h3:=nV WP;have h4:=Pv hr;rw[←hN]at h1;unfold H2 at h2;rw[Ae]at h2;omega
  cases hNc:N with
  |nil =>
   rw[hNc]at hN RJ;refine yG roots C A s dec st q [] O rfl RJ ?_;rw[←hO];unfold Df;rw[←hN]
  |cons n0 l =>
   rw[hNc]at hN RJ;have mr:=N8 hN.symm;rw[←hq]at mr;have RK:∀nd∈n0::l,nd∈Dx roots dec:=fun nd h=>((mr.mem nd).1 h).1;have GO:=(CF hx).1;have few:∀{E:List Cd},EN x E→∀nd∈Dx roots E,Cp nd.rq.set∧Bi (nd.place+1):=fun hE' nd h=>by
    rcases Mn h with ⟨k,r,h1,rfl⟩ | ⟨c,hc,k,r,h1,rfl⟩
    ·exact⟨(hE.fr r (Av h1)).1,by unfold Bi;show -9223372036854775808≤(0:Int)+1∧(0:Int)+1<9223372036854775808;decide⟩
    ·have h2:=hE'.cand c hc;have h3:=pf (GO _ h2.1);rw[←h2.2.2]at h3;exact⟨((hE.fx _ h2.1).2 r (Av h1)).1,by unfold Bi;show _≤c.place+1∧c.place+1<_;omega⟩
   have mJ:∀c∈Co x q,EN x (dec++[c])∧c.rel.path=q∧c.rel∈x:=fun c hc=>by
    obtain⟨c1,c2⟩:=JX hc;exact⟨hd.snoc c2 (by rw[c1];exact mr.undone),c1,c2.1⟩
   have Ft:∀(i:Nat) (h:i<(Co x q).length),(Co x q)[i]∈Co x q:=fun i h=>At h;obtain⟨V,hV⟩:=hE.av q
   have hL:uJ x roots C A n dec q n0 l V (Co x q):={
    hx:=hx
    hr:=hr
    hdl:=wP
    hcl:=Bx (U6 x q) gQ.1
    hcs:=rfl
    hnl:=by rw[hNc]at hNl;omega
    hnq:=fun nd h=>(few hd nd (RK nd h)).1
    hnp:=fun nd h=>(few hd nd (RK nd h)).2
    hex:=fun i h nd hm hh=>by
     obtain⟨a,b,_⟩:=mJ _ (Ft i h);exact⟨(Pj hx hr a (N5 (RK nd hm)) ⟨(Co x q)[i],by simp,b.trans ((mr.mem nd).1 hm).2.symm,hh⟩).1,trivial⟩
    hcx:=fun i h nc hc=>by
     obtain⟨a,b,_⟩:=mJ _ (Ft i h);obtain⟨m1,m2⟩:=Lb hc;exact⟨(Pj hx hr a (MV m1) m2).1,trivial⟩
    hcq:=fun i h nc hm=>(few (mJ _ (Ft i h)).1 nc (MV hm)).1
    hcp_:=fun i h nc hm=>(few (mJ _ (Ft i h)).1 nc (MV hm)).2
    hcr:=fun i h=>by have:=gQ.2 _ (mJ _ (Ft i h)).2.2;omega
    hcs_:=fun i h r hm=>((hE.fx _ (mJ _ (Ft i h)).2.2).2 r hm).1
    hkey:=fun i h=>by
     have b:=(mJ _ (Ft i h)).2.1;unfold AO;rw[Ay,Ay];show _=_++[[vs (Co x q)[i].rel.path,vi (Co x q)[i].rel.ver.a,vi (Co x q)[i].rel.ver.b,vi (Co x q)[i].rel.ver.c]];rw[b]
    hinf0:=(RZ hx hr hd (RK n0 (Ab ..)) (.inl (by
     rw[((mr.mem n0).1 (Ab ..)).2];exact HN (by rw[F5];exact mr.undone)))).inf
    hV:=hV
    ih:=fun c hc xg S El hl hS zu=>by
     obtain⟨a,b,c3⟩:=mJ c hc;obtain⟨k1,k2⟩:=Pp.1 xg;obtain⟨_,c2⟩:=JX hc;have mI:=cI.snoc mr b k1 k2;have d9:Rd x (dec++[c])<n:=by have:=Ti (dec:=dec) ⟨c2.1,c2.2.1⟩ (by rw[b];exact mr.undone);omega
     have h1:=s45 hE n8 n a mI hS zu d9 (st:=El) (by rw[hl];simp);have h2:=QD hx hr n a mI hS.der zu d9 (st:=El);exact⟨h1,⟨h2.der,PB n hS.nodup⟩,⟨h2.grow.len,fun e1 e2=>((h2.no e1).2.2 e2).1⟩,fun e1=>(h2.no e1).2.1⟩ }
   have hR:D7 (Df x roots n) x q (n0::l) n0 dec st (Co x q) s [] []=O:=by
    rw[←hO]
    conv=>rhs;unfold Df
    rw[←hN,hq]
   by_cases hm:∀a,(Value.string q,a)∉C
   ·exact yE x roots C A n s dec st q n0 l V (Co x q) O O hL hs Jy RJ (hE.c2 q hm) hm hR rfl
   ·exact yD x roots C A n s dec st q n0 l V (Co x q) O O hL hs Jy RJ (hE.c1 q) hm hR rfl
end
theorem yF{x:List Rl}{roots:List Rq}{C A:List (Value×AV)}(hE:uI x roots C A)(n:Nat){dec:List Cd}{s:SS}{st:List (List Sk)}(h1:EN x dec)(h2:IZ roots dec)(h3:JO x roots s)(h4:s.full=false)(h5:Rd x dec<n)(h6:st.length=dec.length) :
  A6 Tryz.prog 65 [.ref 1000 0] (Ak (Jh roots C A s dec st) Aa) (Y9 roots C A (Df x roots n dec s st)) :=
 s45 hE (fun s dec st a b=>s64 roots C A s dec st (Bx (Pv hE.hr) (by decide)) a b) n h1 h2 h3 h4 h5 h6
def GX(x:List Rl)(roots:List Rq):Bool:=decide (AQ x=0)&&decide (Bp roots=0)
theorem uB(x:List Rl)(ifs:List (List AV))(roots:List Rq)(hx:∀r∈x,JM r)(hr:∀q∈roots,NE q):PC 63 [.agg (Ic x ifs),sl AF roots] (vb (GX x roots)):=by
 refine Ps ⟨[2],[],[],[],[],[],[],[],[],[],[]⟩ Tryz.func63 rfl (Nz rfl) ?_;refine Yi (Nz rfl) ?_;refine Xi .pure (Xi _ (Yi (jG SH x ifs hx) ?_));refine Yi (fun h1=>?_) (fun h1=>?_)
 ·have h1:((AQ x):Int)=(0:Int):=h1;refine Xi .pure (Xi _ (Yi (zb SH roots hr) ?_));refine Yi (fun h2=>?_) (fun h2=>?_)
  ·have h2:((Bp roots):Int)=(0:Int):=h2;exact .of_eq (show vb true=vb (GX x roots) by unfold GX;rw[h1,h2];rfl)
  have h2:¬(((Bp roots):Int)=(0:Int)):=h2;exact .of_eq (show vb false=vb (GX x roots) by unfold GX;rw[Ao h2,Di])
 have h1:¬(((AQ x):Int)=(0:Int)):=h1;exact .of_eq (show vb false=vb (GX x roots) by unfold GX;rw[Ao h1];rfl)
abbrev Q0(r:Rl):List AV:=AE ⟨plc r.ver,r⟩
abbrev GG(y:List Rl)(p:ByteArray):List (List AV):=(y.filter fun r=>decide (r.path=p)).map Q0
abbrev X1(y:List Rl)(q:ByteArray×Nat):Value×AV:=(.string q.1,.slice (.id (q.2+100) 10) (GG y q.1))
abbrev IH(y:List Rl):List (Value×AV):=(AS y []).zipIdx.map (X1 y)
def Gu(y:List Rl)(l:Nat):HO:=match(AS y [])[l]? with
 |some q=>.tok 10 (GG y q).length
 |none=>.free
def Jd(y:List Rl)(j:Nat):HO:=bif Nat.ble 100 j&&Nat.blt j 1000 then Gu y (j-100)else .free
theorem Fe(y:List Rl)(hy:y.length≤256)(l:Nat):Jd y (l+100)=Gu y l:=by
 unfold Jd;rw[show Nat.ble 100 (l+100)=true by rw[Dg];omega,EL,Nat.add_sub_cancel]
 by_cases h:l+100<1000
 ·rw[show Nat.blt (l+100) 1000=true by rw[Cg];exact h];rfl
 ·rw[show Nat.blt (l+100) 1000=false by rw[AK];intro hc;rw[Cg]at hc;omega]
  have:=Ht y []
  rw[AJ]at this;unfold Gu;rw[A4 (by omega)];rfl
theorem kH(y:List Rl){j:Nat}(h:j<100):Jd y j=.free:=by
 unfold Jd;rw[show Nat.ble 100 j=false by rw[AK];intro hc;rw[Dg]at hc;omega];rfl
theorem Hs(y:List Rl)(r:Rl)(q:ByteArray):GG (y++[r]) q=if r.path=q then GG y q++[Q0 r]else GG y q:=by
 unfold GG;rw[Cf]
 by_cases h:r.path=q
 ·rw[Ap h,Su (by simpa using h)];simp
 ·rw[Aj h,Ss (by simpa using h)];simp
section
variable {y:List Rl}{r:Rl}{k:Nat}
open Classical in
theorem gj(h:(AS y [])[k]?=some r.path):E7 (IH y) (.string r.path) (.slice (.id (k+100) 10) (GG y r.path++[Q0 r]))=IH (y++[r]):=by
 have hd:=E3 y [] Fp;have hm:X1 y (r.path,k)∈IH y:=Am.2 ⟨_,FJ.2 h,rfl⟩;rw[Yy (a':=.slice (.id (k+100) 10) (GG y r.path)) hm];unfold IH;rw[Jo h,BQ];refine Be fun q hq=>?_;have hg:=Iz hq;obtain⟨q,j⟩:=q;show(if Value.string q=Value.string r.path then _ else _)=X1 (y++[r]) (q,j);have hg:(AS y [])[j]?=some q:=hg
 by_cases he:q=r.path
 ·subst he
  have:j=k:=Jl hd hg h
  subst this;rw[Ap rfl];show _=(Value.string r.path,AV.slice (.id (j+100) 10) (GG (y++[r]) r.path));rw[Hs,Ap rfl]
 ·rw[Aj (fun e=>he (by simpa using e))];show(Value.string q,AV.slice (.id (j+100) 10) (GG y q))=(Value.string q,AV.slice (.id (j+100) 10) (GG (y++[r]) q));rw[Hs,Aj (fun e=>he e.symm)]
theorem YF(h:r.path∉AS y []):GG y r.path=[]:=by
 have:y.filter (fun s=>decide (s.path=r.path))=[]:=by
  rw[Hz];intro s hs he;exact h ((Hu y [] r.path).2 (.inr ⟨s,hs,A5 he⟩))
 unfold GG;rw[this];rfl
theorem Vi(h:r.path∉AS y [])(a:AV):(Value.string r.path,a)∉IH y:=by
 intro hc;obtain⟨q,h1,h2⟩:=Am.1 hc;simp only[X1,F1,Value.string.injEq]at h2;exact h (by rw[←h2.1];exact Av (Iz h1))
theorem gg(h:r.path∉AS y []):E7 (IH y) (.string r.path) (.slice (.id ((AS y []).length+100) 10) [Q0 r])=IH (y++[r]):=by
 rw[Mm (fun a=>Vi h a)];unfold IH;rw[Jn h,List.zipIdx_append,Ay]
 congr 1
 ·refine Be fun q hq=>?_;have hg:=Iz hq
  have:q.1≠r.path:=fun e=>h (by rw[←e];exact Av hg)
  show(Value.string q.1,AV.slice (.id (q.2+100) 10) (GG y q.1))=(Value.string q.1,AV.slice (.id (q.2+100) 10) (GG (y++[r]) q.1));rw[Hs,Aj (fun e=>this e.symm)]
 ·show [_]=[(Value.string r.path,AV.slice (.id (0+(AS y []).length+100) 10) (GG (y++[r]) r.path))];rw[Hs,Ap rfl,YF h,Bl];rfl
theorem cy{p:ByteArray}{j:Nat}(h:(AS y [])[j]?=some p):(Value.string p,AV.slice (.id (j+100) 10) (GG y p))∈IH y∧∀b,(Value.string p,b)∈IH y→b=AV.slice (.id (j+100) 10) (GG y p):=by
 refine⟨Am.2 ⟨(p,j),FJ.2 h,rfl⟩,fun b hb=>?_⟩;obtain⟨q,h1,h2⟩:=Am.1 hb;simp only[X1,F1,Value.string.injEq]at h2;have hg:=Iz h1;rw[h2.1]at hg
 have:=Jl (E3 y [] Fp) hg h
 rw[←h2.2,h2.1,this]
theorem bF{p:ByteArray}{j:Nat}(h:(AS y [])[j]?=some p):Gu y j=.tok 10 (GG y p).length:=by
 unfold Gu;rw[h]
theorem jt(h:(AS y [])[k]?=some r.path)(l:Nat):(bif Nat.beq (l+100) (k+100)then HO.tok 10 ((GG y r.path).length+1)else Gu y l)=Gu (y++[r]) l:=by
 by_cases he:l=k
 ·subst he;rw[show Nat.beq (l+100) (l+100)=true from CX _];unfold Gu;rw[Jo h,h];show HO.tok 10 _=HO.tok 10 (GG (y++[r]) r.path).length;rw[Hs,Ap rfl,Ae];rfl
 ·rw[show Nat.beq (l+100) (k+100)=false by rw[AK];intro hc;have:=AM hc;omega];show Gu y l=_;unfold Gu;rw[Jo h];cases hq:(AS y [])[l]? with
  |none=>rfl
  |some q =>
   show HO.tok 10 (GG y q).length=HO.tok 10 (GG (y++[r]) q).length;rw[Hs,Aj];intro e;subst e;exact he (Jl (E3 y [] Fp) hq h)
theorem js(h:r.path∉AS y [])(l:Nat):(bif Nat.beq (l+100) ((AS y []).length+100)then HO.tok 10 1 else Gu y l)=Gu (y++[r]) l:=by
 by_cases he:l=(AS y []).length
 ·subst he;rw[show Nat.beq ((AS y []).length+100) ((AS y []).length+100)=true from CX _];unfold Gu;rw[Jn h];simp only[AW (Al _),ES,A8];show HO.tok 10 1=HO.tok 10 (GG (y++[r]) r.path).length;rw[Hs,Ap rfl,YF h];rfl
 ·rw[show Nat.beq (l+100) ((AS y []).length+100)=false by rw[AK];intro hc;have:=AM hc;omega];show Gu y l=_;unfold Gu;rw[Jn h]
  by_cases hl:l<(AS y []).length
  ·rw[A2 hl,Ge hl];show HO.tok 10 (GG y (AS y [])[l]).length=HO.tok 10 (GG (y++[r]) (AS y [])[l]).length;rw[Hs,Aj];intro e;exact h (by rw[e];exact At hl)
  ·rw[A4 (by omega),A4 (by rw[Ae];simp;omega)]
end
theorem HM(y:List Rl){h:Nat→HO}(hh:∀l,h (l+100)=Gu y l):Ri h (IH y)=true:=by
 refine Qd fun p hp=>?_;obtain⟨q,h1,rfl⟩:=Am.1 hp;show RO h (q.2+100)=true;unfold RO;rw[hh,bF (Iz h1)]
theorem GN{y:List Rl}(hy:y.length≤256){h h' : Nat→HO}(hh:∀l,h (l+100)=Gu y l)(j:Nat):Jd y j=.free∨(h j=Jd y j∧Yd h' (Jd y j)=true):=by
 by_cases hj:j<100
 ·exact .inl (kH y hj)
 ·obtain⟨l,rfl⟩:∃l,j=l+100:=⟨j-100,by omega⟩
  right
  rw[Fe y hy];refine⟨hh l,?_⟩;unfold Gu;cases (AS y [])[l]?<;>rfl
abbrev yR(x:List Rl):List Rl:=x.filter fun r=>!r.yanked
theorem ZW(x:List Rl)(p:ByteArray):GG (yR x) p=(Co x p).map AE:=by
 unfold GG Co;rw[List.filter_filter,BQ]
 rfl
def mC(x:List Rl):List (Value×AV):=(AS (yR x) []).map fun p=>(.string p,sl AE (Co x p))
theorem ig{x:List Rl}{p:ByteArray}{a:AV}:(Value.string p,a)∈mC x↔p∈AS (yR x) []∧a=sl AE (Co x p):=by
 unfold mC;rw[Am];constructor
 ·rintro⟨q,hq,e⟩
  injection e with e1 e2
  injection e1 with e1
  subst e1;exact⟨hq,e2.symm⟩
 ·rintro⟨h1,h2⟩
  exact⟨p,h1,by rw[h2]⟩
theorem U7{x:List Rl}{p:ByteArray}:Co x p=[]↔p∉AS (yR x) []:=by
 rw[Hu];unfold Co;rw[Ed,Hz];constructor
 ·rintro h (h1 | ⟨r,h1,h2⟩)
  ·cases h1
  ·obtain⟨h3,h4⟩:=BO.1 h1;exact h r h3 (by rw[Ar h2,h4];rfl)
 ·intro h r hr hc;rw[Ah,Au]at hc;exact h (.inr ⟨r,BO.2 ⟨hr,hc.2⟩,hc.1⟩)
theorem sF(x:List Rl):∀(p:ByteArray) (a:AV),(Value.string p,a)∈mC x→a=sl AE (Co x p):=fun _ _ h=>(ig.1 h).2
theorem sG(x:List Rl):∀p:ByteArray,(∀a,(Value.string p,a)∉mC x)→Co x p=[]:=fun _ h=>U7.2 fun hp=>h _ (ig.2 ⟨hp,rfl⟩)
theorem sH(x:List Rl):∀p:ByteArray,Co x p=[]→∀a,(Value.string p,a)∉mC x:=fun _ h _ ha=>U7.1 h (ig.1 ha).1
abbrev plN:RE:=⟨[2],[],[],[(52,[12])],[],[12],[50],[(53,(16,3,90,6)),(54,(16,4,91,1)),(55,(16,7,93,10)),(56,(16,8,94,4))],[],[(850013,13),(800013,10016),(810013,20016),(900013,10000000000+92000000+90016)],[5,7,8,9,11,12,13]⟩
abbrev kC(x:List Rl)(p:ByteArray):Value×AV:=(.string p,sl AE (Co x p))
abbrev kA(x:List Rl)(p:ByteArray):Value×AV:=(.string p,sl Af (B8 x p))
theorem lp{x:List Rl}{l:List ByteArray}{kv:Value×AV}{Oa : List (Value×AV)}(h:(l.map (kC x)).Perm (kv::Oa)):∃t r,kv=kC x t∧Oa=r.map (kC x)∧l.Perm (t::r):=by
 obtain⟨ps,h1,h2⟩:=Mq h l rfl;cases ps with
 |nil=>cases h2
 |cons t r =>
  rw[AP,FI]at h2;exact⟨t,r,h2.1.symm,h2.2.symm,h1.symm⟩
abbrev srN(roots:List Rq)(C A:List (Value×AV)):List (Nat×HO) :=
 [(2000,.cells [sl AF roots,.cmap CZ C,.cmap CZ A,.slice (.id 2001 6) [],.slice (.id 2002 1) [],.mref 2003,vb false,.slice .none [],.slice .none [],.msl 2004 0]),(2001,.tok 6 0),(2002,.tok 1 0),(2003,.map D0 []),(2004,.arr 1 [])]
theorem WU{x:List Rl}{l:List ByteArray}{p:ByteArray}{a:AV}:(Value.string p,a)∈l.map (kA x)↔p∈l∧a=sl Af (B8 x p):=by
 rw[Am];constructor
 ·rintro⟨q,hq,e⟩
  injection e with e1 e2
  injection e1 with e1
  subst e1;exact⟨hq,e2.symm⟩
 ·rintro⟨h1,h2⟩
  exact⟨p,h1,by rw[h2]⟩
theorem aP(y:List Rl)(n:Nat):Jd y (n+1000)=.free:=by
 unfold Jd;rw[show Nat.blt (n+1000) 1000=false by rw[AK];intro hc;rw[Cg]at hc;omega,Di];rfl
theorem WB{h s:Nat→HO}(H:∀n,h (n+1000)=.free):∀j,1000≤j→j<2000→h j≠.free→s j≠.free:=fun j h1 _ hn=>by
 refine absurd (H (j-1000)) ?_;rw[show j-1000+1000=j by omega];exact hn
theorem jZ{n k:Nat}(h:k<1000):Nat.beq (n+1000) k=false:=by
 rw[AK];intro hc;have:=AM hc;omega
theorem aB{y:List Rl}{n k:Nat}{o:HO}(h:k<1000):(bif Nat.beq (n+1000) k then o else Jd y (n+1000))=.free:=by
 rw[jZ h,aP];rfl
attribute [local irreducible] Iv
set_option maxRecDepth 30000 in
theorem yC(x:List Rl)(ifs:List (List AV))(roots:List Rq)(hx:∀r∈x,JM r)(h0:AQ x=0):A6 Tryz.prog 64 [EV x ifs,sl AF roots] (Ak [] Aa) fun r h'=>∃l:List ByteArray,l.Perm (AS (yR x) [])∧r=.ref 2000 0∧h'=Ak (srN roots (mC x) (l.map (kA x))) Aa:=by
 have gQ:x.length≤256:=(NY h0).1;refine BW (Lg plN) [(16,2000),(90,2001),(91,2002),(14,2003),(92,2004)] rfl Cw hm rfl Tryz.func64 (by kernel_rfl) rfl (Nz rfl) (by kernel_rfl) rfl ?_;refine Xi 0 ?_;refine Xi 0 ?_;refine Xi 0 ?_;refine Xi {i:Nat // i≤x.length} (Xi (fun i=>⟨[(2,.ref 2 0),(5,.ref 16 0),(18,sl Ag x),(19,vi (x.map Ag).length),(20,vi i.1)],[(2,.ro (Ic x ifs)),(12,.mapU CZ (IH (yR (x.take i.1)))),(13,.map CZ []),(14,.map D0 []),(16,.cells [sl AF roots,.mref 12,.mref 13,.v (.slice none 0 0),.v (.slice none 0 0),.mref 14,vb false,.v (.slice none 0 0),.v (.slice none 0 0),.v (.slice none 0 0)])],Jd (yR (x.take i.1))⟩) (Xi (fun i=>x.length-i.1) (Yi (Xi ⟨0,AD _⟩ ?_) ?_)))
 ·refine⟨Z5,Z5,fun j=>.inl ?_,AB (by kernel_rfl)⟩;show Jd [] j=.free;unfold Jd;cases (Nat.ble 100 j&&Nat.blt j 1000)<;>rfl
 intro⟨i,i1⟩;have i1:i≤x.length:=i1;have hq:∀k,(yR (x.take k)).length≤256:=fun k=>by
  have:=Bv (fun r:Rl=>!r.yanked) (x.take k)
  rw[AC]at this;show(List.filter _ _).length≤256;omega
 refine Xi 0 ?_;refine Yi ?_ ?_
 ·intro h;have h:(i:Int)<(x.map Ag).length:=h;have h:i<x.length:=by simpa using h
  have hg:x[i]?=some x[i]:=Ge h;have KJ:x.take (i+1)=x.take i++[x[i]]:=by rw[Bk,hg];rfl
  refine Xi 0 ?_;refine Xi (Ag x[i]) (Yi (Yi (Nn i) (by simp[hg])) (Yi rfl ?_));refine Yi (Nz rfl) (Yi (Nz rfl) ?_);refine Xi ⟨[(2,.ref 2 0),(5,.ref 16 0),(7,.ref 7 0),(18,sl Ag x),(19,vi (x.map Ag).length),(20,vi i)],[(2,.ro (Ic x ifs)),(7,.cells (Ag x[i])),(12,.mapU CZ (IH (yR (x.take i)))),(13,.map CZ []),(14,.map D0 []),(16,.cells [sl AF roots,.mref 12,.mref 13,.v (.slice none 0 0),.v (.slice none 0 0),.mref 14,vb false,.v (.slice none 0 0),.v (.slice none 0 0),.v (.slice none 0 0)])],Jd (yR (x.take i))⟩ (Yi ?_ ?_)
  ·exact⟨Z6,⟨Zr,Zr,⟨rfl,HM _ (Fe _ (hq _))⟩,Zr,Zr,Zr,Tv⟩,GN (hq _) (Fe _ (hq _)),AB (by kernel_rfl)⟩
  refine Xi 0 ?_;refine Yi (fun hy=>?_) (fun hy=>?_)
  ·have hy:x[i].yanked=true:=hy;have ey:yR (x.take (i+1))=yR (x.take i):=by
    unfold yR;rw[KJ,Cf,Ss (by rw[hy];decide)];simp
   refine Xi ⟨[(2,.ref 2 0),(5,.ref 16 0),(18,sl Ag x),(19,vi (x.map Ag).length),(20,vi i)],[(2,.ro (Ic x ifs)),(12,.mapU CZ (IH (yR (x.take (i+1))))),(13,.map CZ []),(14,.map D0 []),(16,.cells [sl AF roots,.mref 12,.mref 13,.v (.slice none 0 0),.v (.slice none 0 0),.mref 14,vb false,.v (.slice none 0 0),.v (.slice none 0 0),.v (.slice none 0 0)])],Jd (yR (x.take (i+1)))⟩ (Yi ?_ ?_)
   ·rw[ey];exact⟨Z5,⟨Zr,⟨rfl,HM _ (Fe _ (hq _))⟩,Zr,Zr,Zr,Tv⟩,GN (hq _) (Fe _ (hq _)),AB (by kernel_rfl)⟩
   refine Xi 0 ?_;refine Yi (Ii i (by omega)) ?_;refine Xi ⟨i+1,by omega⟩ ?_;exact⟨Dl x.length i (by omega),Z5,⟨Zr,⟨rfl,HM _ (Fe _ (hq _))⟩,Zr,Zr,Zr,Tv⟩,GN (hq _) (Fe _ (hq _)),AB (by kernel_rfl)⟩
  have hy:x[i].yanked=false:=hy;refine Xi 0 ?_;refine Yi (Nz rfl) ?_;refine Xi .pure (Xi _ (Yi (qM x[i].ver) ?_));refine Xi ⟨[(2,.ref 2 0),(5,.ref 16 0),(7,.ref 7 0),(8,vi (plc x[i].ver)),(18,sl Ag x),(19,vi (x.map Ag).length),(20,vi i)],[(2,.ro (Ic x ifs)),(7,.cells (Ag x[i])),(12,.mapU CZ (IH (yR (x.take i)))),(13,.map CZ []),(14,.map D0 []),(16,.cells [sl AF roots,.mref 12,.mref 13,.v (.slice none 0 0),.v (.slice none 0 0),.mref 14,vb false,.v (.slice none 0 0),.v (.slice none 0 0),.v (.slice none 0 0)])],Jd (yR (x.take i))⟩ (Yi ?_ ?_)
  ·exact⟨Z7,⟨Zr,Zr,⟨rfl,HM _ (Fe _ (hq _))⟩,Zr,Zr,Zr,Tv⟩,GN (hq _) (Fe _ (hq _)),AB (by kernel_rfl)⟩
  have ey:yR (x.take (i+1))=yR (x.take i)++[x[i]]:=by
   unfold yR;rw[KJ,Cf,Su (by rw[hy];decide)];rfl
  have hyl:(yR (x.take i)).length≤256:=by
   have:=Bv (fun r:Rl=>!r.yanked) (x.take i)
   rw[AC]at this;show(List.filter _ _).length≤256;omega
  have hP:∀l,Jd (yR (x.take i)) (l+100)=Gu (yR (x.take i)) l:=Fe _ (hq _);refine BT (Classical.em (x[i].path∈AS (yR (x.take i)) [])) (fun hp=>?_) (fun hp=>?_)
  ·refine Br (B9.1 hp) (fun k hk=>?_);have hu:=cy hk;have hl:(GG (yR (x.take i)) x[i].path).length≤256:=by
    rw[Lm];exact Bx (Bv _ _) hyl
   have rP:k<256:=by
    have:=(As.1 hk).1
    have:=Ht (yR (x.take i)) []
    simp only[AJ]at this;omega
   have hr:Jd (yR (x.take i)) (k+100)=.tok 10 (GG (yR (x.take i)) x[i].path).length:=by rw[hP,bF hk]
   refine Xi 0 ?_;refine Or.inl (Xi (.slice (.id (k+100) 10) (GG (yR (x.take i)) x[i].path)) (Yi hu ?_));refine Yi (Nz rfl) ?_;refine QW (e:=150) (m:=9) (es2:=[Q0 x[i]]) rfl rfl rfl (fun _ h=>h) hr ⟨rfl,trivial⟩ (by show(_+1)*128≤_;omega) (by show _+1≤_;omega) ?_;refine Yi (Ja ⟨A3 _,A3 _,A3 _,A3 _,A3 _,A3 _,A3 _,A3 _,A3 _,A3 _,A3 _,A3 _,A3 _,A3 _,A3 _,A3 _,Ei (show 49<10000000 by decide),Ei (by show _+100<10000000;omega),Ei (show 12<10000000 by decide),trivial⟩ (by kernel_rfl)) ?_;have e9:E7 (IH (yR (x.take i))) (.string x[i].path) (.slice (.id (k+100) 10) (GG (yR (x.take i)) x[i].path++[Q0 x[i]]))=IH (yR (x.take (i+1))):=by rw[ey];exact gj hk
   have hG:∀l,(bif Nat.beq (l+100) (k+100)then HO.tok 10 ((GG (yR (x.take i)) x[i].path).length+1)else Gu (yR (x.take i)) l)=Gu (yR (x.take (i+1))) l:=by rw[ey];exact jt hk
   refine Xi ⟨[(2,.ref 2 0),(5,.ref 16 0),(18,sl Ag x),(19,vi (x.map Ag).length),(20,vi i)],[(2,.ro (Ic x ifs)),(12,.mapU CZ (IH (yR (x.take (i+1))))),(13,.map CZ []),(14,.map D0 []),(16,.cells [sl AF roots,.mref 12,.mref 13,.v (.slice none 0 0),.v (.slice none 0 0),.mref 14,vb false,.v (.slice none 0 0),.v (.slice none 0 0),.v (.slice none 0 0)])],Jd (yR (x.take (i+1)))⟩ (Yi ?_ ?_)
   ·refine⟨Z5,⟨Zr,⟨Ac (HO.mapU CZ) e9,HM _ (Fe _ (hq _))⟩,Zr,Zr,Zr,Tv⟩,GN (hq _) (fun l=>?_),WB (fun n=>?_)⟩
    ·show(bif Nat.beq (l+100) (k+100)then HO.tok 10 ((GG (yR (x.take i)) x[i].path).length+1)else Jd (yR (x.take i)) (l+100))=_;rw[hP];exact hG l
    ·exact aB (y:=yR (x.take i)) (show k+100<1000 by omega)
   refine Xi 0 ?_;refine Yi (Ii i (by omega)) ?_;refine Xi ⟨i+1,by omega⟩ ?_;exact⟨Dl x.length i (by omega),Z5,⟨Zr,⟨rfl,HM _ (Fe _ (hq _))⟩,Zr,Zr,Zr,Tv⟩,GN (hq _) (Fe _ (hq _)),AB (by kernel_rfl)⟩
  ·have LD:(AS (yR (x.take i)) []).length≤256:=by
    have:=Ht (yR (x.take i)) []
    simp only[AJ]at this;omega
   have hn:=Vi hp;have hr:Jd (yR (x.take i)) ((AS (yR (x.take i)) []).length+100)=.free:=by
    rw[hP];unfold Gu;rw[A4 (Al _)]
   refine Xi ((AS (yR (x.take i)) []).length+100) ?_;refine Or.inr (Yi hn ?_);refine Yi (Nz rfl) ?_;refine QV (e:=150) (m:=9) (es2:=[Q0 x[i]]) rfl rfl rfl (fun _ h=>h) hr rfl ⟨rfl,trivial⟩ (by show 1*128≤_;omega) (by show 1≤_;omega) ?_;refine Yi (Ja ⟨A3 _,A3 _,A3 _,A3 _,A3 _,A3 _,A3 _,A3 _,A3 _,A3 _,A3 _,A3 _,A3 _,A3 _,A3 _,A3 _,Ei (show 49<10000000 by decide),Ei (by show _+100<10000000;omega),Ei (show 12<10000000 by decide),trivial⟩ (by kernel_rfl)) ?_;have e9:E7 (IH (yR (x.take i))) (.string x[i].path) (.slice (.id ((AS (yR (x.take i)) []).length+100) 10) [Q0 x[i]])=IH (yR (x.take (i+1))):=by rw[ey];exact gg hp
   have hG:∀l,(bif Nat.beq (l+100) ((AS (yR (x.take i)) []).length+100)then HO.tok 10 1 else Gu (yR (x.take i)) l)=Gu (yR (x.take (i+1))) l:=by rw[ey];exact js hp
   refine Xi ⟨[(2,.ref 2 0),(5,.ref 16 0),(18,sl Ag x),(19,vi (x.map Ag).length),(20,vi i)],[(2,.ro (Ic x ifs)),(12,.mapU CZ (IH (yR (x.take (i+1))))),(13,.map CZ []),(14,.map D0 []),(16,.cells [sl AF roots,.mref 12,.mref 13,.v (.slice none 0 0),.v (.slice none 0 0),.mref 14,vb false,.v (.slice none 0 0),.v (.slice none 0 0),.v (.slice none 0 0)])],Jd (yR (x.take (i+1)))⟩ (Yi ?_ ?_)
   ·refine⟨Z5,⟨Zr,⟨Ac (HO.mapU CZ) e9,HM _ (Fe _ (hq _))⟩,Zr,Zr,Zr,Tv⟩,GN (hq _) (fun l=>?_),WB (fun n=>?_)⟩
    ·show(bif Nat.beq (l+100) ((AS (yR (x.take i)) []).length+100)then HO.tok 10 1 else Jd (yR (x.take i)) (l+100))=_;rw[hP];exact hG l
    ·exact aB (y:=yR (x.take i)) (show(AS (yR (x.take i)) []).length+100<1000 by omega)
   refine Xi 0 ?_;refine Yi (Ii i (by omega)) ?_;refine Xi ⟨i+1,by omega⟩ ?_;exact⟨Dl x.length i (by omega),Z5,⟨Zr,⟨rfl,HM _ (Fe _ (hq _))⟩,Zr,Zr,Zr,Tv⟩,GN (hq _) (Fe _ (hq _)),AB (by kernel_rfl)⟩
 ·intro h;have h:¬(i:Int)<(x.map Ag).length:=h;have h:¬i<x.length:=by simpa using h
  have et:x.take i=x:=Aw (by omega);have eM:∀hh:Nat→HO,RQ hh (IH (yR (x.take i)))=(AS (yR x) []).map (kC x):=fun hh=>by
   rw[et];unfold RQ IH;rw[BQ];refine Dj fun j=>?_;rw[AI,AI,List.getElem?_zipIdx];cases (AS (yR x) [])[j]? with
   |none=>rfl
   |some q=>show some (Value.string q,AV.slice .none (GG (yR x) q))=_;rw[ZW];rfl
  refine Xi ⟨[(2,.ref 2 0),(5,.ref 16 0)],[(2,.ro (Ic x ifs)),(12,.mapU CZ (IH (yR (x.take i)))),(13,.map CZ []),(14,.map D0 []),(16,.cells [sl AF roots,.mref 12,.mref 13,.v (.slice none 0 0),.v (.slice none 0 0),.mref 14,vb false,.v (.slice none 0 0),.v (.slice none 0 0),.v (.slice none 0 0)])],Jd (yR (x.take i))⟩ (Yi ?_ ?_)
  ·exact⟨Z2,⟨Zr,⟨rfl,HM _ (Fe _ (hq _))⟩,Zr,Zr,Zr,Tv⟩,GN (hq _) (Fe _ (hq _)),AB (by kernel_rfl)⟩
  refine Xi 0 ?_;refine Xi {p:List ByteArray×List ByteArray×Option (Value×AV) // (p.1++p.2.1).Perm (AS (yR x) [])} (Xi (fun p=>⟨[(2,.ref 2 0),(5,.ref 16 0),(56,.ref 56 0)],[(2,.ro (Ic x ifs)),(12,.rom CZ ((AS (yR x) []).map (kC x))),(13,.map CZ (p.1.1.map (kA x))),(14,.map D0 []),(16,.cells [sl AF roots,.mref 12,.mref 13,.slice (.id 90 6) [],.slice (.id 91 1) [],.mref 14,vb false,.slice (.id 93 10) [],.slice (.id 94 4) [],.v (.slice none 0 0)]),(56,.iter ((AS (yR x) []).map (kC x)) (p.1.2.1.map (kC x)) p.1.2.2),(90,.tok 6 0),(91,.tok 1 0),(93,.tok 10 0),(94,.tok 4 0)],Aa⟩) (Xi (fun p=>p.1.2.1.length) (Yi (Xi ⟨([],AS (yR x) [],none),.refl _⟩ ?_) ?_)))
  ·refine⟨Z3,⟨Zr,⟨Ac (HO.rom CZ) (eM _),rfl⟩,Zr,Zr,Zr,⟨?_,rfl⟩,Zr,Zr,Zr,Zr,Tv⟩,Fh,WB (fun n=>?_)⟩
   ·show HO.iter (RQ _ (IH (yR (x.take i)))) (RQ _ (IH (yR (x.take i)))) none=_;rw[eM]
   ·exact aP (yR (x.take i)) n
  intro⟨⟨done,rem,FN⟩,r1⟩;have r1:(done++rem).Perm (AS (yR x) []):=r1;refine Xi 0 ?_;refine Yi ?_ ?_
  ·intro hr;have hr:rem.map (kC x)=[]:=hr;have hr:rem=[]:=Ed.1 hr;subst hr;rw[BN]at r1;refine Xi ⟨[(5,.ref 16 0)],[(14,.map D0 []),(16,.cells [sl AF roots,.cmap CZ (mC x),.cmap CZ (done.map (kA x)),.slice (.id 90 6) [],.slice (.id 91 1) [],.mref 14,vb false,.slice (.id 93 10) [],.slice (.id 94 4) [],.msl 92 0]),(90,.tok 6 0),(91,.tok 1 0),(92,.arr 1 []),(93,.tok 10 0),(94,.tok 4 0)],Aa⟩ (Yi ⟨Z1,Z7,Fh,AB (by kernel_rfl)⟩ ?_)
   refine Xi 0 ?_;exact Xi _ (Yi (.refl _) (Xi done (Yi r1 (Yi rfl rfl))))
  ·intro kv Oa hp;refine Br (lp hp) (fun t hp=>Br hp (fun r hp=>?_));have e1:=hp.1;have e2:=hp.2.1;subst e1;subst e2;have hp:=hp.2.2;refine Xi ⟨[(2,.ref 2 0),(5,.ref 16 0),(56,.ref 56 0)],[(2,.ro (Ic x ifs)),(12,.rom CZ ((AS (yR x) []).map (kC x))),(13,.map CZ (done.map (kA x))),(14,.map D0 []),(16,.cells [sl AF roots,.mref 12,.mref 13,.slice (.id 90 6) [],.slice (.id 91 1) [],.mref 14,vb false,.slice (.id 93 10) [],.slice (.id 94 4) [],.v (.slice none 0 0)]),(56,.iter ((AS (yR x) []).map (kC x)) (r.map (kC x)) (some (kC x t))),(90,.tok 6 0),(91,.tok 1 0),(93,.tok 10 0),(94,.tok 4 0)],Aa⟩ (Yi ⟨Z3,Z10,Fh,AB (by kernel_rfl)⟩ ?_)
   refine Xi 0 ?_;refine Xi ⟨[(2,.ref 2 0),(5,.ref 16 0),(10,vs t),(56,.ref 56 0)],[(2,.ro (Ic x ifs)),(12,.rom CZ ((AS (yR x) []).map (kC x))),(13,.map CZ (done.map (kA x))),(14,.map D0 []),(16,.cells [sl AF roots,.mref 12,.mref 13,.slice (.id 90 6) [],.slice (.id 91 1) [],.mref 14,vb false,.slice (.id 93 10) [],.slice (.id 94 4) [],.v (.slice none 0 0)]),(56,.iter ((AS (yR x) []).map (kC x)) (r.map (kC x)) (some (kC x t))),(90,.tok 6 0),(91,.tok 1 0),(93,.tok 10 0),(94,.tok 4 0)],Aa⟩ (Yi ⟨Z4,Z10,Fh,AB (by kernel_rfl)⟩ ?_)
   refine Xi 0 ?_;have RK:(done++rem).Nodup:=r1.nodup_iff.2 (E3 _ [] Fp);have xr:t∉done:=fun hc=>(GB.1 RK).2.2 t hc t (hp.mem_iff.2 (Ab ..)) rfl;have em:E7 (done.map (kA x)) (.string t) (sl Af (B8 x t))=(done++[t]).map (kA x):=by
    rw[Mm (fun a ha=>xr (WU.1 ha).1),Ay];rfl
   have Us:((done++[t])++r).Perm (AS (yR x) []):=by
    rw[BM];exact(List.Perm.append_left _ hp.symm).trans r1
   refine Yi (Nz rfl) ?_;refine Xi _ (Yi (vA x ifs t (c84 x ifs hx)) ?_);refine Yi (by kernel_rfl) ?_;refine Xi ⟨(done++[t],r,some (kC x t)),Us⟩ ?_;exact⟨by show r.length<rem.length;rw[hp.length_eq,Az];omega,Z3,⟨Zr,Zr,⟨Ac (HO.map CZ) em,rfl⟩,Zr,Zr,Zr,Zr,Zr,Zr,Zr,Tv⟩,Fh,AB (by kernel_rfl)⟩
end Go.Eng
namespace Go.Eng
open Go.Proofs
theorem Zg{x:List Rl}(h0:AQ x=0){p:ByteArray}(h:p∉AS (yR x) []):B8 x p=[]:=by
 rw[bU h0]
 have:x.filter (aL p)=[]:=by
  rw[Hz];intro r hr hc;unfold aL at hc;rw[Ah,Au]at hc;exact h ((Hu _ _ _).2 (.inr ⟨r,BO.2 ⟨hr,hc.2⟩,hc.1⟩))
 rw[this];rfl
theorem nT{x:List Rl}{roots:List Rq}(hx:∀r∈x,JM r)(hr:∀q∈roots,NE q)(h0:AQ x=0)(h1:Bp roots=0){l:List ByteArray}(hl:l.Perm (AS (yR x) [])):uI x roots (mC x) (l.map (kA x)) where
 hx:=h0
 hr:=h1
 fx:=hx
 fr:=hr
 c1:=sF x
 c2:=sG x
 c3:=sH x
 av p:=by
  by_cases hp:p∈l
  ·exact⟨sl Af (B8 x p),fun a ha=>(WU.1 ha).2,fun hn=>(hn _ (WU.2 ⟨hp,rfl⟩)).elim,fun h=>qF p (B8 x p) (SD x p)⟩
  ·refine⟨.v (.slice none 0 0),fun a ha=>(hp (WU.1 ha).1).elim,fun _=>rfl,fun h=>?_⟩;have e:=Zg h0 (fun hc=>hp (hl.mem_iff.2 hc));have hc:=qF p (B8 x p) (SD x p);rw[e]at hc⊢;exact Jq.args hc ⟨.refl _,.nil,trivial⟩
theorem aI{x:List Rl}{p:ByteArray}{v:Ver}(h:AQ x=0):CK x ⟨p,v⟩=x.find? fun r=>decide (EY r=⟨p,v⟩):=Aj (not_not_intro h)
theorem Pd{r:Rl}{p:ByteArray}{v:Ver}:EY r=⟨p,v⟩↔r.path=p∧r.ver.a=v.a∧r.ver.b=v.b∧r.ver.c=v.c:=by
 unfold EY;constructor
 ·intro h;cases h;exact⟨rfl,rfl,rfl,rfl⟩
 ·rintro⟨rfl,h1,h2,h3⟩
  cases hr:r.ver;cases v
  rw[hr]at h1 h2 h3;cases h1;cases h2;cases h3;rfl
theorem c83(x:List Rl)(ifs:List (List AV))(p:ByteArray)(v:Ver)(hx:∀r∈x,JM r)(gQ:Cp x):PC 49 [.agg (Ic x ifs),vs p,.agg (Ea v)] (J9 (CK x ⟨p,v⟩)):=by
 have gQ:x.length≤1073741824:=gQ;refine Ps ⟨[],[],[],[],[],[],[],[],[],[],[3,5,7]⟩ Tryz.func49 rfl (Nz rfl) ?_;refine Yi (Nz rfl) ?_;refine Xi .pure (Xi _ (Yi (zd x ifs hx) ?_));refine Yi (fun h1=>?_) (fun h1=>?_)
 ·have h1:(AQ x:Int)≠(0:Int):=h1;refine Yi (Nz rfl) ?_;refine Yi (Nz rfl) ?_;exact .of_eq (show AV.tup [.agg Xh,vb false]=J9 (CK x ⟨p,v⟩) by rw[show CK x ⟨p,v⟩=none from Ap h1])
 have h1:(AQ x:Int)=(0:Int):=AN h1;refine Xi ⟨[(1,vs p),(3,.ref 3 0),(5,.ref 5 0),(6,.ref 6 0)],[(3,.cells (Ic x ifs)),(5,.cells (Ea v)),(6,.cells [vs ⟨#[]⟩,vi 0,vi 0,vi 0,.v (.slice none 0 0),vs ⟨#[]⟩,vs ⟨#[]⟩,vs ⟨#[]⟩,vb false])],Aa⟩ (Yi ⟨Z4,Z3,Fh,Tv⟩ ?_)
 refine Xi {i:Nat // i≤x.length∧∀j (h:j<x.length),j<i→decide (EY x[j]=⟨p,v⟩)=false} (Xi (fun q=>⟨[(1,vs p),(3,.ref 3 0),(5,.ref 5 0),(6,.ref 6 0),(8,vi q.1)],[(3,.cells (Ic x ifs)),(5,.cells (Ea v)),(6,.cells [vs ⟨#[]⟩,vi 0,vi 0,vi 0,.v (.slice none 0 0),vs ⟨#[]⟩,vs ⟨#[]⟩,vs ⟨#[]⟩,vb false])],Aa⟩) (Xi (fun q=>x.length-q.1) (Yi (Xi ⟨0,AD _,fun j _ h=>by omega⟩ ?_) ?_)))
 ·exact⟨Z5,Z3,Fh,Tv⟩
 intro⟨i,i1,i2⟩;refine Yi (fun h3=>?_) (fun h3=>?_)
 ·have h3:(i:Int)<((x.map Ag).length:Int):=h3;have n3:i<x.length:=by have q:=h3;rw[Lm]at q;omega
  have g3:x[i]?=some x[i]:=Ge n3;refine Xi (Ag x[i]) (Yi (Yi (Nn i) (CC g3)) (Yi rfl ?_));refine Yi (fun h4=>?_) (fun h4=>?_)
  ·have h4:(x[i].path:ByteArray)=p:=h4;refine Xi (Ag x[i]) (Yi (Yi (Nn i) (CC g3)) (Yi rfl ?_));refine Yi (Nz rfl) ?_;refine Yi (Nz rfl) ?_;refine Yi (fun h5=>?_) (fun h5=>?_)
   ·have h5:(x[i].ver.a:Int)=v.a∧(x[i].ver.b:Int)=v.b∧(x[i].ver.c:Int)=v.c∧True:=h5;refine Yi (by kernel_rfl) ?_;refine Xi ⟨[(3,.ref 3 0),(6,.ref 6 0),(8,vi i)],[(3,.cells (Ic x ifs)),(6,.cells [vs ⟨#[]⟩,vi 0,vi 0,vi 0,.v (.slice none 0 0),vs ⟨#[]⟩,vs ⟨#[]⟩,vs ⟨#[]⟩,vb false])],Aa⟩ (Yi ⟨Z3,Z2,Fh,Tv⟩ ?_)
    refine Xi (Ag x[i]) (Yi (Yi (Nn i) (CC g3)) (Yi rfl ?_));refine Yi (Nz rfl) ?_;refine Yi (Nz rfl) ?_;refine Yi (Nz rfl) ?_;exact .of_eq (show AV.tup [.agg (Ag x[i]),vb true]=J9 (CK x ⟨p,v⟩) by rw[aI h1,fN n3 i2 (Ar (Pd.2 ⟨h4,h5.1,h5.2.1,h5.2.2.1⟩))])
   have h5:¬((x[i].ver.a:Int)=v.a∧(x[i].ver.b:Int)=v.b∧(x[i].ver.c:Int)=v.c∧True):=h5;refine Yi (by kernel_rfl) ?_;refine Xi ⟨[(1,vs p),(3,.ref 3 0),(5,.ref 5 0),(6,.ref 6 0),(8,vi i)],[(3,.cells (Ic x ifs)),(5,.cells (Ea v)),(6,.cells [vs ⟨#[]⟩,vi 0,vi 0,vi 0,.v (.slice none 0 0),vs ⟨#[]⟩,vs ⟨#[]⟩,vs ⟨#[]⟩,vb false])],Aa⟩ (Yi ⟨Z5,Z3,Fh,Tv⟩ ?_)
   refine Yi (Ii i (by omega)) ?_;refine Xi ⟨i+1,by omega,fun j hj Je=>(B7 j i).elim (i2 j hj) (fun z=>by have e:j=i:=(by omega);subst e;exact Ao (fun h=>h5 ⟨(Pd.1 h).2.1,(Pd.1 h).2.2.1,(Pd.1 h).2.2.2,trivial⟩))⟩ ?_;exact⟨Dl x.length i (by omega),Z5,Z3,Fh,Tv⟩
  have h4:¬(x[i].path:ByteArray)=p:=h4;refine Yi (by kernel_rfl) ?_;refine Xi ⟨[(1,vs p),(3,.ref 3 0),(5,.ref 5 0),(6,.ref 6 0),(8,vi i)],[(3,.cells (Ic x ifs)),(5,.cells (Ea v)),(6,.cells [vs ⟨#[]⟩,vi 0,vi 0,vi 0,.v (.slice none 0 0),vs ⟨#[]⟩,vs ⟨#[]⟩,vs ⟨#[]⟩,vb false])],Aa⟩ (Yi ⟨Z5,Z3,Fh,Tv⟩ ?_)
  refine Yi (Ii i (by omega)) ?_;refine Xi ⟨i+1,by omega,fun j hj Je=>(B7 j i).elim (i2 j hj) (fun z=>by have e:j=i:=(by omega);subst e;exact Ao (fun h=>h4 (Pd.1 h).1))⟩ ?_;exact⟨Dl x.length i (by omega),Z5,Z3,Fh,Tv⟩
 have h3:¬((i:Int)<((x.map Ag).length:Int)):=h3;have n3:¬i<x.length:=by have q:=h3;rw[Lm]at q;omega
 refine Yi (Nz rfl) ?_;refine Yi (Nz rfl) ?_;exact .of_eq (show AV.tup [.agg Xh,vb false]=J9 (CK x ⟨p,v⟩) by rw[aI h1,cr fun j hj=>i2 j hj (by omega)])
abbrev IT(b:Bool):List AV:=[vb b]
end Go.Eng
