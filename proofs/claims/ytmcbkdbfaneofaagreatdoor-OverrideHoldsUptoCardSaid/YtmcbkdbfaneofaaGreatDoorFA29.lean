/- Lemmas for the claims of this seat, without a condition: part 29 (S8d, S8e, S11, S12, S13, S14, S16, S18, R24, C74, R25, R26, R27, R28, R29, R30, R31). -/
import Derived.Test.YtmcbkdbfaneofaaGreatDoorFA28
import Derived.Test.YtmcbkdbfaneofaaGreatDoorFA25
set_option maxHeartbeats 8000000
namespace Go.Eng
open Go.Proofs
theorem xn(x:List Rl)(roots:List Rq)(C A:List (Value×AV))(n:Nat)(s:SS)(dec:List Cd)(st:List (List Sk))(p:ByteArray)(n0:Nd)(l:List Nd)(V:AV)(cs:List Cd)(R O:JZ)(hL:tG x roots C A n dec p n0 l V cs)(hs:JA x roots s)(Jh:st.length=dec.length)
  (Rj:Be Tryz.prog 119 [.ref 1000 0] (Aj (I2 roots C A s dec st) Aa) fun r h'=>r=.tup [vs p,sl Ba (n0::l)]∧h'=Aj (I2 roots C A s dec st) Aa)
  (qJ:cs=[]) (uD:∀a,(Value.string p,a)∉C) (hR:D3 (Dc x roots n) x p (n0::l) n0 dec st cs s [] []=R) (az:O=R) :
  Be Tryz.prog 97 [.ref 1000 0] (Aj (I2 roots C A s dec st) Aa) (YC roots C A O):=by
 obtain⟨hx,hr,hdl,hcl,hcs,hnl,hnq,hnp,hex,hcx,hcq,hcp_,hcr,hcs_,hkey,hinf0,⟨qx,qy,qz⟩,ih⟩:=hL;have hdl:dec.length≤256:=hdl;have hcl:cs.length≤256:=hcl;have Jh:st.length=dec.length:=Jh;have x6:∀(i:Nat) (h:i<cs.length),cs[i]∈Cq x p:=fun i h=>by rw[←hcs];exact Ap h
 have po:∀(i:Nat) (h:i<cs.length),Ci (AM (dec++[cs[i]])):=fun i h=>by unfold Ci AM;rw[Lm,Ad];simp;omega
 clear hcs
 refine Co (MA ⟨[9],[(6,1),(7,3),(145,1)],[],[],[],[],[],[],[],[(300001,500091000),(300026,500091000),(300029,500091000)],[1,2,5,10,11,13,14,15,16,17,19,21,22,23,24,25,26,28,29,31,32,33,35]⟩) [(1000,1000),(1001,1001),(1002,1002),(1003,1003),(1004,1004),(500,2000)] rfl CD hm rfl Tryz.func97 (by kernel_rfl) rfl (Nz rfl) (by kernel_rfl) rfl ?_;refine Yi (show st.length=(st.map AT).length by simp) ?_;refine Xi ⟨[(0,.ref 1000 0)],[(500,.arr 1 (st.map AT)),(1000,.cells (srM roots C A s dec 500 st.length)),(1001,.tok 6 s.infs.length),(1002,.tok 1 s.drv.length),(1003,.map DY (D0 0 s.infs)),(1004,.dead)],Aa⟩ (Yi ⟨Z1,Z6,Fh,Az (by kernel_rfl)⟩ ?_)
 refine Xi (.gen YB 0) (Yi rfl (Be.imp Rj ?_));intro v1 g1 q1;have iH:=q1.1;have iI:=q1.2;subst iH;subst iI;refine Xi ⟨[(0,.ref 1000 0),(4,vs p),(5,sl Ba (n0::l))],[(500,.arr 1 (st.map AT)),(1000,.cells (srM roots C A s dec 500 st.length)),(1001,.tok 6 s.infs.length),(1002,.tok 1 s.drv.length),(1003,.map DY (D0 0 s.infs)),(1004,.dead)],Aa⟩ (Yi ⟨Z3,Z6,Fh,Az (by kernel_rfl)⟩ ?_)
 refine Yi (fun h2=>?_) (fun h2=>?_)
 ·have h2:(((n0::l).map Ba).length:Int)=(0:Int):=h2;exact absurd h2 (by simp;omega)
 have h2:¬((((n0::l).map Ba).length:Int)=(0:Int)):=h2;refine Xi ⟨[(0,.ref 1000 0),(4,vs p),(5,sl Ba (n0::l)),(6,.slice (.id 6 1) [])],[(6,.tok 1 0),(500,.arr 1 (st.map AT)),(1000,.cells (srM roots C A s dec 500 st.length)),(1001,.tok 6 s.infs.length),(1002,.tok 1 s.drv.length),(1003,.map DY (D0 0 s.infs)),(1004,.dead)],Aa⟩ (Yi ⟨Z4,Z7,Fh,Az (by kernel_rfl)⟩ ?_)
 refine Yi (fun a ha=>?_) (fun OK=>?_)
 ·exact absurd ha (uD a)
 refine Xi {q:Nat×SS×List Nat×List Sk // q.1≤cs.length∧D3 (Dc x roots n) x p (n0::l) n0 dec st (cs.drop q.1) q.2.1 q.2.2.1 q.2.2.2=R∧JA x roots q.2.1∧(∀r∈q.2.2.1,r<q.2.1.drv.length)∧q.2.2.1.length≤q.1∧q.2.2.2.length≤q.1} (Xi (fun q=>⟨[(0,.ref 1000 0),(4,vs p),(5,sl Ba (n0::l)),(6,.slice (.id 6 1) (q.1.2.2.1.map BQ)),(7,.slice (.id 7 3) (q.1.2.2.2.map BV)),(32,.v (.slice none 0 0)),(33,vi 0),(34,vi q.1.1)],[(6,.tok 1 q.1.2.2.1.length),(7,.tok 3 q.1.2.2.2.length),(500,.arr 1 (st.map AT)),(1000,.cells (srM roots C A q.1.2.1 dec 500 st.length)),(1001,.tok 6 q.1.2.1.infs.length),(1002,.tok 1 q.1.2.1.drv.length),(1003,.map DY (D0 0 q.1.2.1.infs)),(1004,.dead)],Aa⟩) (Xi (fun q=>cs.length-q.1.1) (Yi (Xi ⟨(0,s,[],[]),AL _,hR,hs,fun r h=>(by cases h),Ak _,Ak _⟩ ?_) ?_)))
 ·exact⟨Z8,Z8,Fh,Az (by kernel_rfl)⟩
 intro⟨⟨i,S,rs,sk⟩,j1,j2,j3,j4,j5,j6⟩;have j1:i≤cs.length:=j1;have j2:D3 (Dc x roots n) x p (n0::l) n0 dec st (cs.drop i) S rs sk=R:=j2;have j3:JA x roots S:=j3;have j4:∀r∈rs,r<S.drv.length:=j4;have j5:rs.length≤i:=j5;have j6:sk.length≤i:=j6;have hw:=j3.dl;have fU:∀t∈S.drv,dZ t:=fun t ht=>by have q:=j3.der.few hx hr t ht;exact⟨E8 q,q.2⟩
 refine Yi (fun h3=>?_) (fun h3=>?_)
 ·have h3:(i:Int)<(0:Int):=h3;exact absurd h3 (by have q:=j1;rw[qJ,AD]at q;omega)
 have h3:¬((i:Int)<(0:Int)):=h3;refine Xi (Ba n0) (Yi (Yi (show(0:Int)≤0 by decide) rfl) (Yi rfl ?_));refine Yi (Nz rfl) ?_;refine Xi (.gen YB 0) (Yi rfl (Be.imp (za x roots C A S dec st p n0 rs V hx hr j3 hinf0 j4 (by omega) (hnq n0 (Ab ..)) (hnp n0 (Ab ..)) qx qy qz) ?_));intro v4 g4 q4;have wY:=q4.1;have wZ:=q4.2;subst wY;subst wZ;have hj:¬i<cs.length:=by rw[qJ];simp
 have eR:R=⟨(D4 x p n0 rs S).1,false,(D4 x p n0 rs S).2,dec,st⟩:=by rw[←j2];exact eZ hj
 exact Xi _ (Yi (.refl _) (Ns (az.trans eR)))
theorem xp(roots:List Rq)(C A:List (Value×AV))(s:SS)(dec:List Cd)(st:List (List Sk))(p:ByteArray)(N:List Nd)(O:JZ)(hN:N=[])
  (Rj:Be Tryz.prog 119 [.ref 1000 0] (Aj (I2 roots C A s dec st) Aa) fun r h'=>r=.tup [vs p,sl Ba N]∧h'=Aj (I2 roots C A s dec st) Aa) (hO:O=⟨0,true,s,dec,st⟩) :
  Be Tryz.prog 97 [.ref 1000 0] (Aj (I2 roots C A s dec st) Aa) (YC roots C A O):=by
 refine Co (MA ⟨[],[],[],[],[],[],[],[],[],[(300001,500091000)],[1,2,5,10,11,13,14,15,16,17,19,21,22,23,25,28,29,31,32,33,35]⟩) [(1000,1000),(1001,1001),(1002,1002),(1003,1003),(1004,1004),(500,2000)] rfl CD hm rfl Tryz.func97 (by kernel_rfl) rfl (Nz rfl) (by kernel_rfl) rfl ?_;refine Yi (show st.length=(st.map AT).length by simp) ?_;refine Xi ⟨[(0,.ref 1000 0)],[(500,.arr 1 (st.map AT)),(1000,.cells (srM roots C A s dec 500 st.length)),(1001,.tok 6 s.infs.length),(1002,.tok 1 s.drv.length),(1003,.map DY (D0 0 s.infs)),(1004,.dead)],Aa⟩ (Yi ⟨Z1,Z6,Fh,Az (by kernel_rfl)⟩ ?_)
 refine Xi (.gen YB 0) (Yi rfl (Be.imp Rj ?_));intro v1 g1 q1;have iH:=q1.1;have iI:=q1.2;subst iH;subst iI;refine Xi ⟨[(0,.ref 1000 0),(4,vs p),(5,sl Ba N)],[(500,.arr 1 (st.map AT)),(1000,.cells (srM roots C A s dec 500 st.length)),(1001,.tok 6 s.infs.length),(1002,.tok 1 s.drv.length),(1003,.map DY (D0 0 s.infs)),(1004,.dead)],Aa⟩ (Yi ⟨Z3,Z6,Fh,Az (by kernel_rfl)⟩ ?_)
 refine Yi (fun h2=>?_) (fun h2=>?_)
 ·have h2:((N.map Ba).length:Int)=(0:Int):=h2;exact Xi _ (Yi (.refl _) (Ns (st:=st) hO))
 have h2:¬(((N.map Ba).length:Int)=(0:Int)):=h2;exact absurd (by rw[hN];rfl) h2
section
variable {x:List Rl}{roots:List Rq}{p:ByteArray}
theorem Ig:∀(l:List Nat) {k:Nat} {s:SS},s.infs.Nodup→(Cn p l k s).2.infs.Nodup
 | [],_,_,h=>h
 |r::l,k,s,h=>by
  unfold Cn;split
  ·exact h
  split
  ·exact Ig l h
  split
  ·exact Ig l h
  ·exact Ig l (HW h)
theorem KU{needs:List Nd}{n0:Nd}{dec:List Cd}{st:List (List Sk)}{rec:List Cd→SS→List (List Sk)→JZ}(cA:∀c s st,s.infs.Nodup→(rec (dec++[c]) s st).ss.infs.Nodup) :
  ∀(cs:List Cd) {s:SS} {rs:List Nat} {sk:List Sk},s.infs.Nodup→(D3 rec x p needs n0 dec st cs s rs sk).ss.infs.Nodup
 | [],s,rs,sk,h=>Ig _ (HW (HW h))
 |c::cs,s,rs,sk,h=>by
  have mQ:∀(s' : SS) (k:Nat),s'.infs.Nodup→(JH rec x p needs n0 dec st c cs rs sk k s').ss.infs.Nodup:=fun s' k h'=>by
   unfold JH;split
   ·exact h'
   ·exact KU cA cs h'
  rw[Gg];split
  ·exact h
  cases needs.find? fun n=>!has n.rq.set c.place with
  |some n=>exact KU cA cs (HW h)
  |none =>
   dsimp only;cases Oo s.drv (AM (dec++[c]))with
   |some k=>exact mQ s k h
   |none =>
    dsimp only;cases Eb dec c with
    |some n=>exact mQ _ _ (HW h)
    |none =>
     dsimp only;have h2:=cA c s (st++[sk]) h;split
     ·exact h2
     split
     ·exact h2
     ·exact mQ _ _ h2
theorem Pj:∀(n:Nat) {dec:List Cd} {s:SS} {st:List (List Sk)},s.infs.Nodup→(Dc x roots n dec s st).ss.infs.Nodup
 |0,_,_,_,h=>h
 |n+1,dec,s,st,h=>by
  unfold Dc;cases (GF roots dec).2 with
  |nil=>exact h
  |cons n0 l=>exact KU (fun c s st h=>Pj n h) _ h
structure tE(x:List Rl)(roots:List Rq)(C A:List (Value×AV)):Prop where
 hx:A5 x=0
 hr:BU roots=0
 fx:∀r∈x,IB r
 fr:∀q∈roots,N5 q
 c1:∀(p:ByteArray) (a:AV),(Value.string p,a)∈C→a=sl AF (Cq x p)
 c2:∀p:ByteArray,(∀a,(Value.string p,a)∉C)→Cq x p=[]
 c3:∀p:ByteArray,Cq x p=[]→∀a,(Value.string p,a)∉C
 av:∀p:ByteArray,∃V,HV x A p V
theorem nA{dec:List Cd}(h:∀c∈dec,c.rel.reqs.length≤16):((dec.map fun c=>c.rel.reqs).flatten).length≤16*dec.length:=by
 induction dec with
 |nil=>simp
 |cons c dec ih =>
  rw[AN,BA,Ad,Au]
  have:=h c (Ab ..)
  have:=ih fun d hd=>h d (Af _ hd)
  omega
theorem oJ{r:Rl}(h:RT r):0≤plc r.ver∧plc r.ver<1000000:=by rw[h.plc];exact Js h.val
theorem cY(dec:List Cd):(GF roots dec).2.length≤(Ds roots dec).length:=by
 rw[Tr];cases KG (HJ roots dec) (AM dec)with
 |none=>simp
 |some q=>exact BF _ _
theorem y8{C A:List (Value×AV)}(hE:tE x roots C A)(nC:zg roots C A):∀(n:Nat) {dec:List Cd} {s:SS} {st:List (List Sk)},EA x dec→In roots dec→JA x roots s→s.full=false→QK x dec<n→st.length=dec.length →
  Be Tryz.prog 97 [.ref 1000 0] (Aj (I2 roots C A s dec st) Aa) (YC roots C A (Dc x roots n dec s st))
 |0,_,_,_,_,_,_,_,h,_=>by omega
 |n+1,dec,s,st,hd,cB,hs,hf,hn,Jh=>by
  have hx:=hE.hx;have hr:=hE.hr;have Zl:=NI hx;have hdl:=Xc hd;have uZ:dec.length≤256:=by have:=Zl.1;omega
  have WK:∀c∈dec,c.rel.reqs.length≤16:=fun c hc=>Zl.2 _ (hd.cand c hc).1;have Rj:=nC s dec st (by omega) fun c hc=>AU (WK c hc) (by decide);generalize hO:Dc x roots (n+1) dec s st=O;obtain⟨N,hN⟩:∃N,N=(GF roots dec).2:=⟨_,rfl⟩;obtain⟨q,hq⟩:∃q,q=(GF roots dec).1:=⟨_,rfl⟩;rw[←hN,←hq]at Rj;have zQ:N.length≤10000:=by
   have h1:=cY (roots:=roots) dec;have h2:(Ds roots dec).length=(HJ roots dec).length:=by rw[←MK,Lm]
   have h3:=nA WK;have h4:=Pe hr;rw[←hN]at h1;unfold HJ at h2;rw[Ad]at h2;omega
  cases hNc:N with
  |nil =>
   rw[hNc]at hN Rj;refine xp roots C A s dec st q [] O rfl Rj ?_;rw[←hO];unfold Dc;rw[←hN]
  |cons n0 l =>
   rw[hNc]at hN Rj;have l6:=NT hN.symm;rw[←hq]at l6;have Rk:∀nd∈n0::l,nd∈Ds roots dec:=fun nd h=>((l6.mem nd).1 h).1;have Gz:=(B9 hx).1;have few:∀{E:List Cd},EA x E→∀nd∈Ds roots E,Ci nd.rq.set∧B3 (nd.place+1):=fun zJ nd h=>by
    rcases Mh h with ⟨k,r,h1,rfl⟩ | ⟨c,hc,k,r,h1,rfl⟩
    ·exact⟨(hE.fr r (Av h1)).1,by unfold B3;show -9223372036854775808≤(0:Int)+1∧(0:Int)+1<9223372036854775808;decide⟩
    ·have h2:=zJ.cand c hc;have h3:=oJ (Gz _ h2.1);rw[←h2.2.2]at h3;exact⟨((hE.fx _ h2.1).2 r (Av h1)).1,by unfold B3;show _≤c.place+1∧c.place+1<_;omega⟩
   have mr:∀c∈Cq x q,EA x (dec++[c])∧c.rel.path=q∧c.rel∈x:=fun c hc=>by
    obtain⟨c1,c2⟩:=JI hc;exact⟨hd.snoc c2 (by rw[c1];exact l6.undone),c1,c2.1⟩
   have Ff:∀(i:Nat) (h:i<(Cq x q).length),(Cq x q)[i]∈Cq x q:=fun i h=>Ap h;obtain⟨V,hV⟩:=hE.av q
   have hL:tG x roots C A n dec q n0 l V (Cq x q):={
    hx:=hx
    hr:=hr
    hdl:=uZ
    hcl:=AU (UJ x q) Zl.1
    hcs:=rfl
    hnl:=by rw[hNc]at zQ;omega
    hnq:=fun nd h=>(few hd nd (Rk nd h)).1
    hnp:=fun nd h=>(few hd nd (Rk nd h)).2
    hex:=fun i h nd hm hh=>by
     obtain⟨a,b,_⟩:=mr _ (Ff i h);exact⟨(OV hx hr a (NQ (Rk nd hm)) ⟨(Cq x q)[i],by simp,b.trans ((l6.mem nd).1 hm).2.symm,hh⟩).1,trivial⟩
    hcx:=fun i h nc hc=>by
     obtain⟨a,b,_⟩:=mr _ (Ff i h);obtain⟨m1,m2⟩:=KY hc;exact⟨(OV hx hr a (ML m1) m2).1,trivial⟩
    hcq:=fun i h nc hm=>(few (mr _ (Ff i h)).1 nc (ML hm)).1
    hcp_:=fun i h nc hm=>(few (mr _ (Ff i h)).1 nc (ML hm)).2
    hcr:=fun i h=>by have:=Zl.2 _ (mr _ (Ff i h)).2.2;omega
    hcs_:=fun i h r hm=>((hE.fx _ (mr _ (Ff i h)).2.2).2 r hm).1
    hkey:=fun i h=>by
     have b:=(mr _ (Ff i h)).2.1;unfold AM;rw[AH,AH];show _=_++[[vs (Cq x q)[i].rel.path,vi (Cq x q)[i].rel.ver.a,vi (Cq x q)[i].rel.ver.b,vi (Cq x q)[i].rel.ver.c]];rw[b]
    hinf0:=(Ry hx hr hd (Rk n0 (Ab ..)) (.inl (by
     rw[((l6.mem n0).1 (Ab ..)).2];exact Hx (by rw[FU];exact l6.undone)))).inf
    hV:=hV
    ih:=fun c hc vB S Ed hl hS xU=>by
     obtain⟨a,b,c3⟩:=mr c hc;obtain⟨k1,k2⟩:=Pa.1 vB;obtain⟨_,c2⟩:=JI hc;have mq:=cB.snoc l6 b k1 k2;have fT:QK x (dec++[c])<n:=by have:=SF (dec:=dec) ⟨c2.1,c2.2.1⟩ (by rw[b];exact l6.undone);omega
     have h1:=y8 hE nC n a mq hS xU fT (st:=Ed) (by rw[hl];simp);have h2:=Qg hx hr n a mq hS.der xU fT (st:=Ed);exact⟨h1,⟨h2.der,Pj n hS.nodup⟩,⟨h2.grow.len,fun e1 e2=>((h2.no e1).2.2 e2).1⟩,fun e1=>(h2.no e1).2.1⟩ }
   have hR:D3 (Dc x roots n) x q (n0::l) n0 dec st (Cq x q) s [] []=O:=by
    rw[←hO]
    conv=>rhs;unfold Dc
    rw[←hN,hq]
   by_cases hm:∀a,(Value.string q,a)∉C
   ·exact xn x roots C A n s dec st q n0 l V (Cq x q) O O hL hs Jh Rj (hE.c2 q hm) hm hR rfl
   ·exact xm x roots C A n s dec st q n0 l V (Cq x q) O O hL hs Jh Rj (hE.c1 q) hm hR rfl
end
theorem xo{x:List Rl}{roots:List Rq}{C A:List (Value×AV)}(hE:tE x roots C A)(n:Nat){dec:List Cd}{s:SS}{st:List (List Sk)}(h1:EA x dec)(h2:In roots dec)(h3:JA x roots s)(h4:s.full=false)(h5:QK x dec<n)(h6:st.length=dec.length) :
  Be Tryz.prog 97 [.ref 1000 0] (Aj (I2 roots C A s dec st) Aa) (YC roots C A (Dc x roots n dec s st)) :=
 y8 hE (fun s dec st a b=>s64 roots C A s dec st (AU (Pe hE.hr) (by decide)) a b) n h1 h2 h3 h4 h5 h6
def F4(x:List Rl)(roots:List Rq):Bool:=decide (A5 x=0)&&decide (BU roots=0)
theorem tw(x:List Rl)(ifs:List (List AV))(roots:List Rq)(hx:∀r∈x,IB r)(hr:∀q∈roots,N5 q):PC 95 [.agg (Ic x ifs),sl AE roots] (vb (F4 x roots)):=by
 refine Ps ⟨[2],[],[],[],[],[],[],[],[],[],[]⟩ Tryz.func95 rfl (Nz rfl) ?_;refine Yi (Nz rfl) ?_;refine Xi .pure (Xi _ (Yi (qb YP x ifs hx) ?_));refine Yi (fun h1=>?_) (fun h1=>?_)
 ·have h1:((A5 x):Int)=(0:Int):=h1;refine Xi .pure (Xi _ (Yi (xB YP roots hr) ?_));refine Yi (fun h2=>?_) (fun h2=>?_)
  ·have h2:((BU roots):Int)=(0:Int):=h2;exact .of_eq (show vb true=vb (F4 x roots) by unfold F4;rw[h1,h2];rfl)
  have h2:¬(((BU roots):Int)=(0:Int)):=h2;exact .of_eq (show vb false=vb (F4 x roots) by unfold F4;rw[Aq h2,DJ])
 have h1:¬(((A5 x):Int)=(0:Int)):=h1;exact .of_eq (show vb false=vb (F4 x roots) by unfold F4;rw[Aq h1];rfl)
abbrev QG(r:Rl):List AV:=AF ⟨plc r.ver,r⟩
abbrev Gm(y:List Rl)(p:ByteArray):List (List AV):=(y.filter fun r=>decide (r.path=p)).map QG
abbrev Xx(y:List Rl)(q:ByteArray×Nat):Value×AV:=(.string q.1,.slice (.id (q.2+100) 10) (Gm y q.1))
abbrev Iu(y:List Rl):List (Value×AV):=(AQ y []).zipIdx.map (Xx y)
def F7(y:List Rl)(l:Nat):HO:=match(AQ y [])[l]? with
 |some q=>.tok 10 (Gm y q).length
 |none=>.free
def IZ(y:List Rl)(j:Nat):HO:=bif Nat.ble 100 j&&Nat.blt j 1000 then F7 y (j-100)else .free
theorem E1(y:List Rl)(hy:y.length≤256)(l:Nat):IZ y (l+100)=F7 y l:=by
 unfold IZ;rw[show Nat.ble 100 (l+100)=true by rw[Dd];omega,EF,Nat.add_sub_cancel]
 by_cases h:l+100<1000
 ·rw[show Nat.blt (l+100) 1000=true by rw[Cm];exact h];rfl
 ·rw[show Nat.blt (l+100) 1000=false by rw[AK];intro hc;rw[Cm]at hc;omega]
  have:=He y []
  rw[AD]at this;unfold F7;rw[A6 (by omega)];rfl
theorem ko(y:List Rl){j:Nat}(h:j<100):IZ y j=.free:=by
 unfold IZ;rw[show Nat.ble 100 j=false by rw[AK];intro hc;rw[Dd]at hc;omega];rfl
theorem Hd(y:List Rl)(r:Rl)(q:ByteArray):Gm (y++[r]) q=if r.path=q then Gm y q++[QG r]else Gm y q:=by
 unfold Gm;rw[Ep]
 by_cases h:r.path=q
 ·rw[Aw h,RO (by simpa using h)];simp
 ·rw[Ai h,RN (by simpa using h)];simp
section
variable {y:List Rl}{r:Rl}{k:Nat}
open Classical in
theorem fL(h:(AQ y [])[k]?=some r.path):ET (Iu y) (.string r.path) (.slice (.id (k+100) 10) (Gm y r.path++[QG r]))=Iu (y++[r]):=by
 have hd:=EQ y [] Fb;have hm:Xx y (r.path,k)∈Iu y:=Al.2 ⟨_,Fz.2 h,rfl⟩;rw[X2 (a':=.slice (.id (k+100) 10) (Gm y r.path)) hm];unfold Iu;rw[I9 h,BN];refine Bf fun q hq=>?_;have hg:=Ik hq;obtain⟨q,j⟩:=q;show(if Value.string q=Value.string r.path then _ else _)=Xx (y++[r]) (q,j);have hg:(AQ y [])[j]?=some q:=hg
 by_cases he:q=r.path
 ·subst he
  have:j=k:=I6 hd hg h
  subst this;rw[Aw rfl];show _=(Value.string r.path,AV.slice (.id (j+100) 10) (Gm (y++[r]) r.path));rw[Hd,Aw rfl]
 ·rw[Ai (fun e=>he (by simpa using e))];show(Value.string q,AV.slice (.id (j+100) 10) (Gm y q))=(Value.string q,AV.slice (.id (j+100) 10) (Gm (y++[r]) q));rw[Hd,Ai (fun e=>he e.symm)]
theorem X9(h:r.path∉AQ y []):Gm y r.path=[]:=by
 have:y.filter (fun s=>decide (s.path=r.path))=[]:=by
  rw[Hj];intro s hs he;exact h ((Hf y [] r.path).2 (.inr ⟨s,hs,Bq he⟩))
 unfold Gm;rw[this];rfl
theorem UY(h:r.path∉AQ y [])(a:AV):(Value.string r.path,a)∉Iu y:=by
 intro hc;obtain⟨q,h1,h2⟩:=Al.1 hc;simp only[Xx,FN,Value.string.injEq]at h2;exact h (by rw[←h2.1];exact Av (Ik h1))
theorem fK(h:r.path∉AQ y []):ET (Iu y) (.string r.path) (.slice (.id ((AQ y []).length+100) 10) [QG r])=Iu (y++[r]):=by
 rw[Mg (fun a=>UY h a)];unfold Iu;rw[I8 h,List.zipIdx_append,AH]
 congr 1
 ·refine Bf fun q hq=>?_;have hg:=Ik hq
  have:q.1≠r.path:=fun e=>h (by rw[←e];exact Av hg)
  show(Value.string q.1,AV.slice (.id (q.2+100) 10) (Gm y q.1))=(Value.string q.1,AV.slice (.id (q.2+100) 10) (Gm (y++[r]) q.1));rw[Hd,Ai (fun e=>this e.symm)]
 ·show [_]=[(Value.string r.path,AV.slice (.id (0+(AQ y []).length+100) 10) (Gm (y++[r]) r.path))];rw[Hd,Aw rfl,X9 h,Bi];rfl
theorem co{p:ByteArray}{j:Nat}(h:(AQ y [])[j]?=some p):(Value.string p,AV.slice (.id (j+100) 10) (Gm y p))∈Iu y∧∀b,(Value.string p,b)∈Iu y→b=AV.slice (.id (j+100) 10) (Gm y p):=by
 refine⟨Al.2 ⟨(p,j),Fz.2 h,rfl⟩,fun b hb=>?_⟩;obtain⟨q,h1,h2⟩:=Al.1 hb;simp only[Xx,FN,Value.string.injEq]at h2;have hg:=Ik h1;rw[h2.1]at hg
 have:=I6 (EQ y [] Fb) hg h
 rw[←h2.2,h2.1,this]
theorem bt{p:ByteArray}{j:Nat}(h:(AQ y [])[j]?=some p):F7 y j=.tok 10 (Gm y p).length:=by
 unfold F7;rw[h]
theorem jg(h:(AQ y [])[k]?=some r.path)(l:Nat):(bif Nat.beq (l+100) (k+100)then HO.tok 10 ((Gm y r.path).length+1)else F7 y l)=F7 (y++[r]) l:=by
 by_cases he:l=k
 ·subst he;rw[show Nat.beq (l+100) (l+100)=true from CY _];unfold F7;rw[I9 h,h];show HO.tok 10 _=HO.tok 10 (Gm (y++[r]) r.path).length;rw[Hd,Aw rfl,Ad];rfl
 ·rw[show Nat.beq (l+100) (k+100)=false by rw[AK];intro hc;have:=AO hc;omega];show F7 y l=_;unfold F7;rw[I9 h];cases hq:(AQ y [])[l]? with
  |none=>rfl
  |some q =>
   show HO.tok 10 (Gm y q).length=HO.tok 10 (Gm (y++[r]) q).length;rw[Hd,Ai];intro e;subst e;exact he (I6 (EQ y [] Fb) hq h)
theorem jf(h:r.path∉AQ y [])(l:Nat):(bif Nat.beq (l+100) ((AQ y []).length+100)then HO.tok 10 1 else F7 y l)=F7 (y++[r]) l:=by
 by_cases he:l=(AQ y []).length
 ·subst he;rw[show Nat.beq ((AQ y []).length+100) ((AQ y []).length+100)=true from CY _];unfold F7;rw[I8 h];simp only[A4 (Ak _),Gd,A9];show HO.tok 10 1=HO.tok 10 (Gm (y++[r]) r.path).length;rw[Hd,Aw rfl,X9 h];rfl
 ·rw[show Nat.beq (l+100) ((AQ y []).length+100)=false by rw[AK];intro hc;have:=AO hc;omega];show F7 y l=_;unfold F7;rw[I8 h]
  by_cases hl:l<(AQ y []).length
  ·rw[AX hl,Ge hl];show HO.tok 10 (Gm y (AQ y [])[l]).length=HO.tok 10 (Gm (y++[r]) (AQ y [])[l]).length;rw[Hd,Ai];intro e;exact h (by rw[e];exact Ap hl)
  ·rw[A6 (by omega),A6 (by rw[Ad];simp;omega)]
end
theorem Hw(y:List Rl){h:Nat→HO}(hh:∀l,h (l+100)=F7 y l):QO h (Iu y)=true:=by
 refine PL fun p hp=>?_;obtain⟨q,h1,rfl⟩:=Al.1 hp;show Rn h (q.2+100)=true;unfold Rn;rw[hh,bt (Ik h1)]
theorem Gy{y:List Rl}(hy:y.length≤256){h h' : Nat→HO}(hh:∀l,h (l+100)=F7 y l)(j:Nat):IZ y j=.free∨(h j=IZ y j∧XK h' (IZ y j)=true):=by
 by_cases hj:j<100
 ·exact .inl (ko y hj)
 ·obtain⟨l,rfl⟩:∃l,j=l+100:=⟨j-100,by omega⟩
  right
  rw[E1 y hy];refine⟨hh l,?_⟩;unfold F7;cases (AQ y [])[l]?<;>rfl
abbrev yR(x:List Rl):List Rl:=x.filter fun r=>!r.yanked
theorem ZD(x:List Rl)(p:ByteArray):Gm (yR x) p=(Cq x p).map AF:=by
 unfold Gm Cq;rw[List.filter_filter,BN]
 rfl
def mC(x:List Rl):List (Value×AV):=(AQ (yR x) []).map fun p=>(.string p,sl AF (Cq x p))
theorem gL{x:List Rl}{p:ByteArray}{a:AV}:(Value.string p,a)∈mC x↔p∈AQ (yR x) []∧a=sl AF (Cq x p):=by
 unfold mC;rw[Al];constructor
 ·rintro⟨q,hq,e⟩
  injection e with e1 e2
  injection e1 with e1
  subst e1;exact⟨hq,e2.symm⟩
 ·rintro⟨h1,h2⟩
  exact⟨p,h1,by rw[h2]⟩
theorem UK{x:List Rl}{p:ByteArray}:Cq x p=[]↔p∉AQ (yR x) []:=by
 rw[Hf];unfold Cq;rw[Dr,Hj];constructor
 ·rintro h (h1 | ⟨r,h1,h2⟩)
  ·cases h1
  ·obtain⟨h3,h4⟩:=By.1 h1;exact h r h3 (by rw[Ax h2,h4];rfl)
 ·intro h r hr hc;rw[Ag,Ay]at hc;exact h (.inr ⟨r,By.2 ⟨hr,hc.2⟩,hc.1⟩)
theorem rD(x:List Rl):∀(p:ByteArray) (a:AV),(Value.string p,a)∈mC x→a=sl AF (Cq x p):=fun _ _ h=>(gL.1 h).2
theorem rE(x:List Rl):∀p:ByteArray,(∀a,(Value.string p,a)∉mC x)→Cq x p=[]:=fun _ h=>UK.2 fun hp=>h _ (gL.2 ⟨hp,rfl⟩)
theorem rF(x:List Rl):∀p:ByteArray,Cq x p=[]→∀a,(Value.string p,a)∉mC x:=fun _ h _ ha=>UK.1 h (gL.1 ha).1
abbrev plN:RS:=⟨[2],[],[],[(52,[12])],[],[12],[50],[(53,(16,3,90,6)),(54,(16,4,91,1)),(55,(16,7,93,10)),(56,(16,8,94,4))],[],[(850013,13),(800013,10016),(810013,20016),(900013,10000000000+92000000+90016)],[5,7,8,9,11,12,13]⟩
abbrev kC(x:List Rl)(p:ByteArray):Value×AV:=(.string p,sl AF (Cq x p))
abbrev kA(x:List Rl)(p:ByteArray):Value×AV:=(.string p,sl Ao (B8 x p))
theorem kX{x:List Rl}{l:List ByteArray}{kv:Value×AV}{NV : List (Value×AV)}(h:(l.map (kC x)).Perm (kv::NV)):∃t r,kv=kC x t∧NV=r.map (kC x)∧l.Perm (t::r):=by
 obtain⟨ps,h1,h2⟩:=Mk h l rfl;cases ps with
 |nil=>cases h2
 |cons t r =>
  rw[AN,Fw]at h2;exact⟨t,r,h2.1.symm,h2.2.symm,h1.symm⟩
abbrev srN(roots:List Rq)(C A:List (Value×AV)):List (Nat×HO) :=
 [(2000,.cells [sl AE roots,.cmap C3 C,.cmap C3 A,.slice (.id 2001 6) [],.slice (.id 2002 1) [],.mref 2003,vb false,.slice .none [],.slice .none [],.msl 2004 0]),(2001,.tok 6 0),(2002,.tok 1 0),(2003,.map DY []),(2004,.arr 1 [])]
theorem Wl{x:List Rl}{l:List ByteArray}{p:ByteArray}{a:AV}:(Value.string p,a)∈l.map (kA x)↔p∈l∧a=sl Ao (B8 x p):=by
 rw[Al];constructor
 ·rintro⟨q,hq,e⟩
  injection e with e1 e2
  injection e1 with e1
  subst e1;exact⟨hq,e2.symm⟩
 ·rintro⟨h1,h2⟩
  exact⟨p,h1,by rw[h2]⟩
theorem aB(y:List Rl)(n:Nat):IZ y (n+1000)=.free:=by
 unfold IZ;rw[show Nat.blt (n+1000) 1000=false by rw[AK];intro hc;rw[Cm]at hc;omega,DJ];rfl
theorem VZ{h s:Nat→HO}(H:∀n,h (n+1000)=.free):∀j,1000≤j→j<2000→h j≠.free→s j≠.free:=fun j h1 _ hn=>by
 refine absurd (H (j-1000)) ?_;rw[show j-1000+1000=j by omega];exact hn
theorem jO{n k:Nat}(h:k<1000):Nat.beq (n+1000) k=false:=by
 rw[AK];intro hc;have:=AO hc;omega
theorem af{y:List Rl}{n k:Nat}{o:HO}(h:k<1000):(bif Nat.beq (n+1000) k then o else IZ y (n+1000))=.free:=by
 rw[jO h,aB];rfl
attribute [local irreducible] Ie
set_option maxRecDepth 30000 in
theorem xl(x:List Rl)(ifs:List (List AV))(roots:List Rq)(hx:∀r∈x,IB r)(h0:A5 x=0):Be Tryz.prog 96 [JP x ifs,sl AE roots] (Aj [] Aa) fun r h'=>∃l:List ByteArray,l.Perm (AQ (yR x) [])∧r=.ref 2000 0∧h'=Aj (srN roots (mC x) (l.map (kA x))) Aa:=by
 have Zl:x.length≤256:=(NI h0).1;refine Co (MA plN) [(16,2000),(90,2001),(91,2002),(14,2003),(92,2004)] rfl CD hm rfl Tryz.func96 (by kernel_rfl) rfl (Nz rfl) (by kernel_rfl) rfl ?_;refine Xi 0 ?_;refine Xi 0 ?_;refine Xi 0 ?_;refine Xi {i:Nat // i≤x.length} (Xi (fun i=>⟨[(2,.ref 2 0),(5,.ref 16 0),(18,sl Ah x),(19,vi (x.map Ah).length),(20,vi i.1)],[(2,.ro (Ic x ifs)),(12,.mapU C3 (Iu (yR (x.take i.1)))),(13,.map C3 []),(14,.map DY []),(16,.cells [sl AE roots,.mref 12,.mref 13,.v (.slice none 0 0),.v (.slice none 0 0),.mref 14,vb false,.v (.slice none 0 0),.v (.slice none 0 0),.v (.slice none 0 0)])],IZ (yR (x.take i.1))⟩) (Xi (fun i=>x.length-i.1) (Yi (Xi ⟨0,AL _⟩ ?_) ?_)))
 ·refine⟨Z5,Z5,fun j=>.inl ?_,Az (by kernel_rfl)⟩;show IZ [] j=.free;unfold IZ;cases (Nat.ble 100 j&&Nat.blt j 1000)<;>rfl
 intro⟨i,i1⟩;have i1:i≤x.length:=i1;have hq:∀k,(yR (x.take k)).length≤256:=fun k=>by
  have:=BF (fun r:Rl=>!r.yanked) (x.take k)
  rw[AJ]at this;show(List.filter _ _).length≤256;omega
 refine Xi 0 ?_;refine Yi ?_ ?_
 ·intro h;have h:(i:Int)<(x.map Ah).length:=h;have h:i<x.length:=by simpa using h
  have hg:x[i]?=some x[i]:=Ge h;have Ky:x.take (i+1)=x.take i++[x[i]]:=by rw[Bp,hg];rfl
  refine Xi 0 ?_;refine Xi (Ah x[i]) (Yi (Yi (Nn i) (by simp[hg])) (Yi rfl ?_));refine Yi (Nz rfl) (Yi (Nz rfl) ?_);refine Xi ⟨[(2,.ref 2 0),(5,.ref 16 0),(7,.ref 7 0),(18,sl Ah x),(19,vi (x.map Ah).length),(20,vi i)],[(2,.ro (Ic x ifs)),(7,.cells (Ah x[i])),(12,.mapU C3 (Iu (yR (x.take i)))),(13,.map C3 []),(14,.map DY []),(16,.cells [sl AE roots,.mref 12,.mref 13,.v (.slice none 0 0),.v (.slice none 0 0),.mref 14,vb false,.v (.slice none 0 0),.v (.slice none 0 0),.v (.slice none 0 0)])],IZ (yR (x.take i))⟩ (Yi ?_ ?_)
  ·exact⟨Z6,⟨Zr,Zr,⟨rfl,Hw _ (E1 _ (hq _))⟩,Zr,Zr,Zr,Tv⟩,Gy (hq _) (E1 _ (hq _)),Az (by kernel_rfl)⟩
  refine Xi 0 ?_;refine Yi (fun hy=>?_) (fun hy=>?_)
  ·have hy:x[i].yanked=true:=hy;have ey:yR (x.take (i+1))=yR (x.take i):=by
    unfold yR;rw[Ky,Ep,RN (by rw[hy];decide)];simp
   refine Xi ⟨[(2,.ref 2 0),(5,.ref 16 0),(18,sl Ah x),(19,vi (x.map Ah).length),(20,vi i)],[(2,.ro (Ic x ifs)),(12,.mapU C3 (Iu (yR (x.take (i+1))))),(13,.map C3 []),(14,.map DY []),(16,.cells [sl AE roots,.mref 12,.mref 13,.v (.slice none 0 0),.v (.slice none 0 0),.mref 14,vb false,.v (.slice none 0 0),.v (.slice none 0 0),.v (.slice none 0 0)])],IZ (yR (x.take (i+1)))⟩ (Yi ?_ ?_)
   ·rw[ey];exact⟨Z5,⟨Zr,⟨rfl,Hw _ (E1 _ (hq _))⟩,Zr,Zr,Zr,Tv⟩,Gy (hq _) (E1 _ (hq _)),Az (by kernel_rfl)⟩
   refine Xi 0 ?_;refine Yi (Ii i (by omega)) ?_;refine Xi ⟨i+1,by omega⟩ ?_;exact⟨Dl x.length i (by omega),Z5,⟨Zr,⟨rfl,Hw _ (E1 _ (hq _))⟩,Zr,Zr,Zr,Tv⟩,Gy (hq _) (E1 _ (hq _)),Az (by kernel_rfl)⟩
  have hy:x[i].yanked=false:=hy;refine Xi 0 ?_;refine Yi (Nz rfl) ?_;refine Xi .pure (Xi _ (Yi (sA x[i].ver) ?_));refine Xi ⟨[(2,.ref 2 0),(5,.ref 16 0),(7,.ref 7 0),(8,vi (plc x[i].ver)),(18,sl Ah x),(19,vi (x.map Ah).length),(20,vi i)],[(2,.ro (Ic x ifs)),(7,.cells (Ah x[i])),(12,.mapU C3 (Iu (yR (x.take i)))),(13,.map C3 []),(14,.map DY []),(16,.cells [sl AE roots,.mref 12,.mref 13,.v (.slice none 0 0),.v (.slice none 0 0),.mref 14,vb false,.v (.slice none 0 0),.v (.slice none 0 0),.v (.slice none 0 0)])],IZ (yR (x.take i))⟩ (Yi ?_ ?_)
  ·exact⟨Z7,⟨Zr,Zr,⟨rfl,Hw _ (E1 _ (hq _))⟩,Zr,Zr,Zr,Tv⟩,Gy (hq _) (E1 _ (hq _)),Az (by kernel_rfl)⟩
  have ey:yR (x.take (i+1))=yR (x.take i)++[x[i]]:=by
   unfold yR;rw[Ky,Ep,RO (by rw[hy];decide)];rfl
  have hyl:(yR (x.take i)).length≤256:=by
   have:=BF (fun r:Rl=>!r.yanked) (x.take i)
   rw[AJ]at this;show(List.filter _ _).length≤256;omega
  have hP:∀l,IZ (yR (x.take i)) (l+100)=F7 (yR (x.take i)) l:=E1 _ (hq _);refine BH (Classical.em (x[i].path∈AQ (yR (x.take i)) [])) (fun hp=>?_) (fun hp=>?_)
  ·refine CK (Ca.1 hp) (fun k hk=>?_);have hu:=co hk;have hl:(Gm (yR (x.take i)) x[i].path).length≤256:=by
    rw[Lm];exact AU (BF _ _) hyl
   have qU:k<256:=by
    have:=(At.1 hk).1
    have:=He (yR (x.take i)) []
    simp only[AD]at this;omega
   have hr:IZ (yR (x.take i)) (k+100)=.tok 10 (Gm (yR (x.take i)) x[i].path).length:=by rw[hP,bt hk]
   refine Xi 0 ?_;refine Or.inl (Xi (.slice (.id (k+100) 10) (Gm (yR (x.take i)) x[i].path)) (Yi hu ?_));refine Yi (Nz rfl) ?_;refine QB (e:=162) (m:=9) (es2:=[QG x[i]]) rfl rfl rfl (fun _ h=>h) hr ⟨rfl,trivial⟩ (by show(_+1)*128≤_;omega) (by show _+1≤_;omega) ?_;refine Yi (IX ⟨A1 _,A1 _,A1 _,A1 _,A1 _,A1 _,A1 _,A1 _,A1 _,A1 _,A1 _,A1 _,A1 _,A1 _,A1 _,A1 _,Ea (show 49<10000000 by decide),Ea (by show _+100<10000000;omega),Ea (show 12<10000000 by decide),trivial⟩ (by kernel_rfl)) ?_;have e9:ET (Iu (yR (x.take i))) (.string x[i].path) (.slice (.id (k+100) 10) (Gm (yR (x.take i)) x[i].path++[QG x[i]]))=Iu (yR (x.take (i+1))):=by rw[ey];exact fL hk
   have hG:∀l,(bif Nat.beq (l+100) (k+100)then HO.tok 10 ((Gm (yR (x.take i)) x[i].path).length+1)else F7 (yR (x.take i)) l)=F7 (yR (x.take (i+1))) l:=by rw[ey];exact jg hk
   refine Xi ⟨[(2,.ref 2 0),(5,.ref 16 0),(18,sl Ah x),(19,vi (x.map Ah).length),(20,vi i)],[(2,.ro (Ic x ifs)),(12,.mapU C3 (Iu (yR (x.take (i+1))))),(13,.map C3 []),(14,.map DY []),(16,.cells [sl AE roots,.mref 12,.mref 13,.v (.slice none 0 0),.v (.slice none 0 0),.mref 14,vb false,.v (.slice none 0 0),.v (.slice none 0 0),.v (.slice none 0 0)])],IZ (yR (x.take (i+1)))⟩ (Yi ?_ ?_)
   ·refine⟨Z5,⟨Zr,⟨Ac (HO.mapU C3) e9,Hw _ (E1 _ (hq _))⟩,Zr,Zr,Zr,Tv⟩,Gy (hq _) (fun l=>?_),VZ (fun n=>?_)⟩
    ·show(bif Nat.beq (l+100) (k+100)then HO.tok 10 ((Gm (yR (x.take i)) x[i].path).length+1)else IZ (yR (x.take i)) (l+100))=_;rw[hP];exact hG l
    ·exact af (y:=yR (x.take i)) (show k+100<1000 by omega)
   refine Xi 0 ?_;refine Yi (Ii i (by omega)) ?_;refine Xi ⟨i+1,by omega⟩ ?_;exact⟨Dl x.length i (by omega),Z5,⟨Zr,⟨rfl,Hw _ (E1 _ (hq _))⟩,Zr,Zr,Zr,Tv⟩,Gy (hq _) (E1 _ (hq _)),Az (by kernel_rfl)⟩
  ·have Lw:(AQ (yR (x.take i)) []).length≤256:=by
    have:=He (yR (x.take i)) []
    simp only[AD]at this;omega
   have hn:=UY hp;have hr:IZ (yR (x.take i)) ((AQ (yR (x.take i)) []).length+100)=.free:=by
    rw[hP];unfold F7;rw[A6 (Ak _)]
   refine Xi ((AQ (yR (x.take i)) []).length+100) ?_;refine Or.inr (Yi hn ?_);refine Yi (Nz rfl) ?_;refine QA (e:=162) (m:=9) (es2:=[QG x[i]]) rfl rfl rfl (fun _ h=>h) hr rfl ⟨rfl,trivial⟩ (by show 1*128≤_;omega) (by show 1≤_;omega) ?_;refine Yi (IX ⟨A1 _,A1 _,A1 _,A1 _,A1 _,A1 _,A1 _,A1 _,A1 _,A1 _,A1 _,A1 _,A1 _,A1 _,A1 _,A1 _,Ea (show 49<10000000 by decide),Ea (by show _+100<10000000;omega),Ea (show 12<10000000 by decide),trivial⟩ (by kernel_rfl)) ?_;have e9:ET (Iu (yR (x.take i))) (.string x[i].path) (.slice (.id ((AQ (yR (x.take i)) []).length+100) 10) [QG x[i]])=Iu (yR (x.take (i+1))):=by rw[ey];exact fK hp
   have hG:∀l,(bif Nat.beq (l+100) ((AQ (yR (x.take i)) []).length+100)then HO.tok 10 1 else F7 (yR (x.take i)) l)=F7 (yR (x.take (i+1))) l:=by rw[ey];exact jf hp
   refine Xi ⟨[(2,.ref 2 0),(5,.ref 16 0),(18,sl Ah x),(19,vi (x.map Ah).length),(20,vi i)],[(2,.ro (Ic x ifs)),(12,.mapU C3 (Iu (yR (x.take (i+1))))),(13,.map C3 []),(14,.map DY []),(16,.cells [sl AE roots,.mref 12,.mref 13,.v (.slice none 0 0),.v (.slice none 0 0),.mref 14,vb false,.v (.slice none 0 0),.v (.slice none 0 0),.v (.slice none 0 0)])],IZ (yR (x.take (i+1)))⟩ (Yi ?_ ?_)
   ·refine⟨Z5,⟨Zr,⟨Ac (HO.mapU C3) e9,Hw _ (E1 _ (hq _))⟩,Zr,Zr,Zr,Tv⟩,Gy (hq _) (fun l=>?_),VZ (fun n=>?_)⟩
    ·show(bif Nat.beq (l+100) ((AQ (yR (x.take i)) []).length+100)then HO.tok 10 1 else IZ (yR (x.take i)) (l+100))=_;rw[hP];exact hG l
    ·exact af (y:=yR (x.take i)) (show(AQ (yR (x.take i)) []).length+100<1000 by omega)
   refine Xi 0 ?_;refine Yi (Ii i (by omega)) ?_;refine Xi ⟨i+1,by omega⟩ ?_;exact⟨Dl x.length i (by omega),Z5,⟨Zr,⟨rfl,Hw _ (E1 _ (hq _))⟩,Zr,Zr,Zr,Tv⟩,Gy (hq _) (E1 _ (hq _)),Az (by kernel_rfl)⟩
 ·intro h;have h:¬(i:Int)<(x.map Ah).length:=h;have h:¬i<x.length:=by simpa using h
  have et:x.take i=x:=AS (by omega);have eM:∀hh:Nat→HO,Rs hh (Iu (yR (x.take i)))=(AQ (yR x) []).map (kC x):=fun hh=>by
   rw[et];unfold Rs Iu;rw[BN];refine CE fun j=>?_;rw[AI,AI,List.getElem?_zipIdx];cases (AQ (yR x) [])[j]? with
   |none=>rfl
   |some q=>show some (Value.string q,AV.slice .none (Gm (yR x) q))=_;rw[ZD];rfl
  refine Xi ⟨[(2,.ref 2 0),(5,.ref 16 0)],[(2,.ro (Ic x ifs)),(12,.mapU C3 (Iu (yR (x.take i)))),(13,.map C3 []),(14,.map DY []),(16,.cells [sl AE roots,.mref 12,.mref 13,.v (.slice none 0 0),.v (.slice none 0 0),.mref 14,vb false,.v (.slice none 0 0),.v (.slice none 0 0),.v (.slice none 0 0)])],IZ (yR (x.take i))⟩ (Yi ?_ ?_)
  ·exact⟨Z2,⟨Zr,⟨rfl,Hw _ (E1 _ (hq _))⟩,Zr,Zr,Zr,Tv⟩,Gy (hq _) (E1 _ (hq _)),Az (by kernel_rfl)⟩
  refine Xi 0 ?_;refine Xi {p:List ByteArray×List ByteArray×Option (Value×AV) // (p.1++p.2.1).Perm (AQ (yR x) [])} (Xi (fun p=>⟨[(2,.ref 2 0),(5,.ref 16 0),(56,.ref 56 0)],[(2,.ro (Ic x ifs)),(12,.rom C3 ((AQ (yR x) []).map (kC x))),(13,.map C3 (p.1.1.map (kA x))),(14,.map DY []),(16,.cells [sl AE roots,.mref 12,.mref 13,.slice (.id 90 6) [],.slice (.id 91 1) [],.mref 14,vb false,.slice (.id 93 10) [],.slice (.id 94 4) [],.v (.slice none 0 0)]),(56,.iter ((AQ (yR x) []).map (kC x)) (p.1.2.1.map (kC x)) p.1.2.2),(90,.tok 6 0),(91,.tok 1 0),(93,.tok 10 0),(94,.tok 4 0)],Aa⟩) (Xi (fun p=>p.1.2.1.length) (Yi (Xi ⟨([],AQ (yR x) [],none),.refl _⟩ ?_) ?_)))
  ·refine⟨Z3,⟨Zr,⟨Ac (HO.rom C3) (eM _),rfl⟩,Zr,Zr,Zr,⟨?_,rfl⟩,Zr,Zr,Zr,Zr,Tv⟩,Fh,VZ (fun n=>?_)⟩
   ·show HO.iter (Rs _ (Iu (yR (x.take i)))) (Rs _ (Iu (yR (x.take i)))) none=_;rw[eM]
   ·exact aB (yR (x.take i)) n
  intro⟨⟨done,rem,FC⟩,r1⟩;have r1:(done++rem).Perm (AQ (yR x) []):=r1;refine Xi 0 ?_;refine Yi ?_ ?_
  ·intro hr;have hr:rem.map (kC x)=[]:=hr;have hr:rem=[]:=Dr.1 hr;subst hr;rw[B2]at r1;refine Xi ⟨[(5,.ref 16 0)],[(14,.map DY []),(16,.cells [sl AE roots,.cmap C3 (mC x),.cmap C3 (done.map (kA x)),.slice (.id 90 6) [],.slice (.id 91 1) [],.mref 14,vb false,.slice (.id 93 10) [],.slice (.id 94 4) [],.msl 92 0]),(90,.tok 6 0),(91,.tok 1 0),(92,.arr 1 []),(93,.tok 10 0),(94,.tok 4 0)],Aa⟩ (Yi ⟨Z1,Z7,Fh,Az (by kernel_rfl)⟩ ?_)
   refine Xi 0 ?_;exact Xi _ (Yi (.refl _) (Xi done (Yi r1 (Yi rfl rfl))))
  ·intro kv NV hp;refine CK (kX hp) (fun t hp=>CK hp (fun r hp=>?_));have e1:=hp.1;have e2:=hp.2.1;subst e1;subst e2;have hp:=hp.2.2;refine Xi ⟨[(2,.ref 2 0),(5,.ref 16 0),(56,.ref 56 0)],[(2,.ro (Ic x ifs)),(12,.rom C3 ((AQ (yR x) []).map (kC x))),(13,.map C3 (done.map (kA x))),(14,.map DY []),(16,.cells [sl AE roots,.mref 12,.mref 13,.slice (.id 90 6) [],.slice (.id 91 1) [],.mref 14,vb false,.slice (.id 93 10) [],.slice (.id 94 4) [],.v (.slice none 0 0)]),(56,.iter ((AQ (yR x) []).map (kC x)) (r.map (kC x)) (some (kC x t))),(90,.tok 6 0),(91,.tok 1 0),(93,.tok 10 0),(94,.tok 4 0)],Aa⟩ (Yi ⟨Z3,Z10,Fh,Az (by kernel_rfl)⟩ ?_)
   refine Xi 0 ?_;refine Xi ⟨[(2,.ref 2 0),(5,.ref 16 0),(10,vs t),(56,.ref 56 0)],[(2,.ro (Ic x ifs)),(12,.rom C3 ((AQ (yR x) []).map (kC x))),(13,.map C3 (done.map (kA x))),(14,.map DY []),(16,.cells [sl AE roots,.mref 12,.mref 13,.slice (.id 90 6) [],.slice (.id 91 1) [],.mref 14,vb false,.slice (.id 93 10) [],.slice (.id 94 4) [],.v (.slice none 0 0)]),(56,.iter ((AQ (yR x) []).map (kC x)) (r.map (kC x)) (some (kC x t))),(90,.tok 6 0),(91,.tok 1 0),(93,.tok 10 0),(94,.tok 4 0)],Aa⟩ (Yi ⟨Z4,Z10,Fh,Az (by kernel_rfl)⟩ ?_)
   refine Xi 0 ?_;have Rk:(done++rem).Nodup:=r1.nodup_iff.2 (EQ _ [] Fb);have vQ:t∉done:=fun hc=>(Gc.1 Rk).2.2 t hc t (hp.mem_iff.2 (Ab ..)) rfl;have em:ET (done.map (kA x)) (.string t) (sl Ao (B8 x t))=(done++[t]).map (kA x):=by
    rw[Mg (fun a ha=>vQ (Wl.1 ha).1),AH];rfl
   have TY:((done++[t])++r).Perm (AQ (yR x) []):=by
    rw[AP];exact(List.Perm.append_left _ hp.symm).trans r1
   refine Yi (Nz rfl) ?_;refine Xi _ (Yi (uf x ifs t (c84 x ifs hx)) ?_);refine Yi (by kernel_rfl) ?_;refine Xi ⟨(done++[t],r,some (kC x t)),TY⟩ ?_;exact⟨by show r.length<rem.length;rw[hp.length_eq,Au];omega,Z3,⟨Zr,Zr,⟨Ac (HO.map C3) em,rfl⟩,Zr,Zr,Zr,Zr,Zr,Zr,Zr,Tv⟩,Fh,Az (by kernel_rfl)⟩
end Go.Eng
namespace Go.Eng
open Go.Proofs
theorem YL{x:List Rl}(h0:A5 x=0){p:ByteArray}(h:p∉AQ (yR x) []):B8 x p=[]:=by
 rw[bO h0]
 have:x.filter (aw p)=[]:=by
  rw[Hj];intro r hr hc;unfold aw at hc;rw[Ag,Ay]at hc;exact h ((Hf _ _ _).2 (.inr ⟨r,By.2 ⟨hr,hc.2⟩,hc.1⟩))
 rw[this];rfl
theorem nw{x:List Rl}{roots:List Rq}(hx:∀r∈x,IB r)(hr:∀q∈roots,N5 q)(h0:A5 x=0)(h1:BU roots=0){l:List ByteArray}(hl:l.Perm (AQ (yR x) [])):tE x roots (mC x) (l.map (kA x)) where
 hx:=h0
 hr:=h1
 fx:=hx
 fr:=hr
 c1:=rD x
 c2:=rE x
 c3:=rF x
 av p:=by
  by_cases hp:p∈l
  ·exact⟨sl Ao (B8 x p),fun a ha=>(Wl.1 ha).2,fun hn=>(hn _ (Wl.2 ⟨hp,rfl⟩)).elim,fun h=>pZ p (B8 x p) (Sa x p)⟩
  ·refine⟨.v (.slice none 0 0),fun a ha=>(hp (Wl.1 ha).1).elim,fun _=>rfl,fun h=>?_⟩;have e:=YL h0 (fun hc=>hp (hl.mem_iff.2 hc));have hc:=pZ p (B8 x p) (Sa x p);rw[e]at hc⊢;exact LQ.args hc ⟨.refl _,.nil,trivial⟩
section
variable {x:List Rl}{roots:List Rq}{d:List (List Tm)}{i:Nf}
end
section
variable {s:List Sl}{q:Rq}{o:Option ByteArray}
end
section
variable {x:List Rl}{roots:List Rq}{s A:List Sl}{m:Nat}
end
section
variable {N:List Rq}{p:ByteArray}{pl:Int}{o:Rl}
end
abbrev IF(b:Bool):List AV:=[vb b]
section
variable {l:List Rl}{roots:List Rq}{Cl:List ByteArray}{B:List Bool}
variable {B0:List Bool}{i:Nat}{ch:Bool}
end
section
variable {x l:List Rl}{roots:List Rq}{s:List Sl}
end
end Go.Eng
