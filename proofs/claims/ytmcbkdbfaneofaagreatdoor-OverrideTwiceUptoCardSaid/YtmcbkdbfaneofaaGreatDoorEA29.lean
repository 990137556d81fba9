/- Lemmas for the claims of this seat, without a condition: part 29 (S8d, S8e, S11, S12, S13, S14, S16, S18, R24, C74, R25, R26, R27, R28, R29, R30, R31). -/
import Derived.Test.YtmcbkdbfaneofaaGreatDoorEA28
import Derived.Test.YtmcbkdbfaneofaaGreatDoorEA25
set_option maxHeartbeats 8000000
namespace Go.Eng
open Go.Proofs
theorem wP(x:List Rl)(roots:List Rq)(C A:List (Value×AV))(n:Nat)(s:SS)(dec:List Cd)(st:List (List Sk))(p:ByteArray)(n0:Nd)(l:List Nd)(V:AV)(cs:List Cd)(R O:JV)(hL:tb x roots C A n dec p n0 l V cs)(hs:Jy x roots s)(Jg:st.length=dec.length)
  (Rj:Be Tryz.prog 119 [.ref 1000 0] (Ai (I1 roots C A s dec st) Ab) fun r h'=>r=.tup [vs p,sl A9 (n0::l)]∧h'=Ai (I1 roots C A s dec st) Ab)
  (qn:cs=[]) (ue:∀a,(Value.string p,a)∉C) (hR:D1 (Da x roots n) x p (n0::l) n0 dec st cs s [] []=R) (au:O=R) :
  Be Tryz.prog 97 [.ref 1000 0] (Ai (I1 roots C A s dec st) Ab) (YE roots C A O):=by
 obtain⟨hx,hr,hdl,hcl,hcs,hnl,hnq,hnp,hex,hcx,hcq,hcp_,hcr,hcs_,hkey,hinf0,⟨qc,qd,qe⟩,ih⟩:=hL;have hdl:dec.length≤256:=hdl;have hcl:cs.length≤256:=hcl;have Jg:st.length=dec.length:=Jg;have xA:∀(i:Nat) (h:i<cs.length),cs[i]∈Cq x p:=fun i h=>by rw[←hcs];exact Ap h
 have o0:∀(i:Nat) (h:i<cs.length),Cm (AK (dec++[cs[i]])):=fun i h=>by unfold Cm AK;rw[Lm,Ad];simp;omega
 clear hcs
 refine Co (MF ⟨[9],[(6,1),(7,3),(145,1)],[],[],[],[],[],[],[],[(300001,500091000),(300026,500091000),(300029,500091000)],[1,2,5,10,11,13,14,15,16,17,19,21,22,23,24,25,26,28,29,31,32,33,35]⟩) [(1000,1000),(1001,1001),(1002,1002),(1003,1003),(1004,1004),(500,2000)] rfl CB hm rfl Tryz.func97 (by kernel_rfl) rfl (Nz rfl) (by kernel_rfl) rfl ?_;refine Yi (show st.length=(st.map AS).length by simp) ?_;refine Xi ⟨[(0,.ref 1000 0)],[(500,.arr 1 (st.map AS)),(1000,.cells (srM roots C A s dec 500 st.length)),(1001,.tok 6 s.infs.length),(1002,.tok 1 s.drv.length),(1003,.map DW (DY 0 s.infs)),(1004,.dead)],Ab⟩ (Yi ⟨Z1,Z6,Fh,Ay (by kernel_rfl)⟩ ?_)
 refine Xi (.gen YD 0) (Yi rfl (Be.imp Rj ?_));intro v1 g1 q1;have ip:=q1.1;have iq:=q1.2;subst ip;subst iq;refine Xi ⟨[(0,.ref 1000 0),(4,vs p),(5,sl A9 (n0::l))],[(500,.arr 1 (st.map AS)),(1000,.cells (srM roots C A s dec 500 st.length)),(1001,.tok 6 s.infs.length),(1002,.tok 1 s.drv.length),(1003,.map DW (DY 0 s.infs)),(1004,.dead)],Ab⟩ (Yi ⟨Z3,Z6,Fh,Ay (by kernel_rfl)⟩ ?_)
 refine Yi (fun h2=>?_) (fun h2=>?_)
 ·have h2:(((n0::l).map A9).length:Int)=(0:Int):=h2;exact absurd h2 (by simp;omega)
 have h2:¬((((n0::l).map A9).length:Int)=(0:Int)):=h2;refine Xi ⟨[(0,.ref 1000 0),(4,vs p),(5,sl A9 (n0::l)),(6,.slice (.id 6 1) [])],[(6,.tok 1 0),(500,.arr 1 (st.map AS)),(1000,.cells (srM roots C A s dec 500 st.length)),(1001,.tok 6 s.infs.length),(1002,.tok 1 s.drv.length),(1003,.map DW (DY 0 s.infs)),(1004,.dead)],Ab⟩ (Yi ⟨Z4,Z7,Fh,Ay (by kernel_rfl)⟩ ?_)
 refine Yi (fun a ha=>?_) (fun OL=>?_)
 ·exact absurd ha (ue a)
 refine Xi {q:Nat×SS×List Nat×List Sk // q.1≤cs.length∧D1 (Da x roots n) x p (n0::l) n0 dec st (cs.drop q.1) q.2.1 q.2.2.1 q.2.2.2=R∧Jy x roots q.2.1∧(∀r∈q.2.2.1,r<q.2.1.drv.length)∧q.2.2.1.length≤q.1∧q.2.2.2.length≤q.1} (Xi (fun q=>⟨[(0,.ref 1000 0),(4,vs p),(5,sl A9 (n0::l)),(6,.slice (.id 6 1) (q.1.2.2.1.map BN)),(7,.slice (.id 7 3) (q.1.2.2.2.map BV)),(32,.v (.slice none 0 0)),(33,vi 0),(34,vi q.1.1)],[(6,.tok 1 q.1.2.2.1.length),(7,.tok 3 q.1.2.2.2.length),(500,.arr 1 (st.map AS)),(1000,.cells (srM roots C A q.1.2.1 dec 500 st.length)),(1001,.tok 6 q.1.2.1.infs.length),(1002,.tok 1 q.1.2.1.drv.length),(1003,.map DW (DY 0 q.1.2.1.infs)),(1004,.dead)],Ab⟩) (Xi (fun q=>cs.length-q.1.1) (Yi (Xi ⟨(0,s,[],[]),AO _,hR,hs,fun r h=>(by cases h),Aj _,Aj _⟩ ?_) ?_)))
 ·exact⟨Z8,Z8,Fh,Ay (by kernel_rfl)⟩
 intro⟨⟨i,S,rs,sk⟩,j1,j2,j3,j4,j5,j6⟩;have j1:i≤cs.length:=j1;have j2:D1 (Da x roots n) x p (n0::l) n0 dec st (cs.drop i) S rs sk=R:=j2;have j3:Jy x roots S:=j3;have j4:∀r∈rs,r<S.drv.length:=j4;have j5:rs.length≤i:=j5;have j6:sk.length≤i:=j6;have hw:=j3.dl;have fK:∀t∈S.drv,dU t:=fun t ht=>by have q:=j3.der.few hx hr t ht;exact⟨E4 q,q.2⟩
 refine Yi (fun h3=>?_) (fun h3=>?_)
 ·have h3:(i:Int)<(0:Int):=h3;exact absurd h3 (by have q:=j1;rw[qn,AC]at q;omega)
 have h3:¬((i:Int)<(0:Int)):=h3;refine Xi (A9 n0) (Yi (Yi (show(0:Int)≤0 by decide) rfl) (Yi rfl ?_));refine Yi (Nz rfl) ?_;refine Xi (.gen YD 0) (Yi rfl (Be.imp (yE x roots C A S dec st p n0 rs V hx hr j3 hinf0 j4 (by omega) (hnq n0 (Aa ..)) (hnp n0 (Aa ..)) qc qd qe) ?_));intro v4 g4 q4;have ww:=q4.1;have wx:=q4.2;subst ww;subst wx;have hj:¬i<cs.length:=by rw[qn];simp
 have eR:R=⟨(D2 x p n0 rs S).1,false,(D2 x p n0 rs S).2,dec,st⟩:=by rw[←j2];exact eJ hj
 exact Xi _ (Yi (.refl _) (Nu (au.trans eR)))
theorem wR(roots:List Rq)(C A:List (Value×AV))(s:SS)(dec:List Cd)(st:List (List Sk))(p:ByteArray)(N:List Nd)(O:JV)(hN:N=[])
  (Rj:Be Tryz.prog 119 [.ref 1000 0] (Ai (I1 roots C A s dec st) Ab) fun r h'=>r=.tup [vs p,sl A9 N]∧h'=Ai (I1 roots C A s dec st) Ab) (hO:O=⟨0,true,s,dec,st⟩) :
  Be Tryz.prog 97 [.ref 1000 0] (Ai (I1 roots C A s dec st) Ab) (YE roots C A O):=by
 refine Co (MF ⟨[],[],[],[],[],[],[],[],[],[(300001,500091000)],[1,2,5,10,11,13,14,15,16,17,19,21,22,23,25,28,29,31,32,33,35]⟩) [(1000,1000),(1001,1001),(1002,1002),(1003,1003),(1004,1004),(500,2000)] rfl CB hm rfl Tryz.func97 (by kernel_rfl) rfl (Nz rfl) (by kernel_rfl) rfl ?_;refine Yi (show st.length=(st.map AS).length by simp) ?_;refine Xi ⟨[(0,.ref 1000 0)],[(500,.arr 1 (st.map AS)),(1000,.cells (srM roots C A s dec 500 st.length)),(1001,.tok 6 s.infs.length),(1002,.tok 1 s.drv.length),(1003,.map DW (DY 0 s.infs)),(1004,.dead)],Ab⟩ (Yi ⟨Z1,Z6,Fh,Ay (by kernel_rfl)⟩ ?_)
 refine Xi (.gen YD 0) (Yi rfl (Be.imp Rj ?_));intro v1 g1 q1;have ip:=q1.1;have iq:=q1.2;subst ip;subst iq;refine Xi ⟨[(0,.ref 1000 0),(4,vs p),(5,sl A9 N)],[(500,.arr 1 (st.map AS)),(1000,.cells (srM roots C A s dec 500 st.length)),(1001,.tok 6 s.infs.length),(1002,.tok 1 s.drv.length),(1003,.map DW (DY 0 s.infs)),(1004,.dead)],Ab⟩ (Yi ⟨Z3,Z6,Fh,Ay (by kernel_rfl)⟩ ?_)
 refine Yi (fun h2=>?_) (fun h2=>?_)
 ·have h2:((N.map A9).length:Int)=(0:Int):=h2;exact Xi _ (Yi (.refl _) (Nu (st:=st) hO))
 have h2:¬(((N.map A9).length:Int)=(0:Int)):=h2;exact absurd (by rw[hN];rfl) h2
section
variable {x:List Rl}{roots:List Rq}{p:ByteArray}
theorem If:∀(l:List Nat) {k:Nat} {s:SS},s.infs.Nodup→(Cn p l k s).2.infs.Nodup
 | [],_,_,h=>h
 |r::l,k,s,h=>by
  unfold Cn;split
  ·exact h
  split
  ·exact If l h
  split
  ·exact If l h
  ·exact If l (HT h)
theorem KP{needs:List Nd}{n0:Nd}{dec:List Cd}{st:List (List Sk)}{rec:List Cd→SS→List (List Sk)→JV}(cq:∀c s st,s.infs.Nodup→(rec (dec++[c]) s st).ss.infs.Nodup) :
  ∀(cs:List Cd) {s:SS} {rs:List Nat} {sk:List Sk},s.infs.Nodup→(D1 rec x p needs n0 dec st cs s rs sk).ss.infs.Nodup
 | [],s,rs,sk,h=>If _ (HT (HT h))
 |c::cs,s,rs,sk,h=>by
  have mz:∀(s' : SS) (k:Nat),s'.infs.Nodup→(JE rec x p needs n0 dec st c cs rs sk k s').ss.infs.Nodup:=fun s' k h'=>by
   unfold JE;split
   ·exact h'
   ·exact KP cq cs h'
  rw[F9];split
  ·exact h
  cases needs.find? fun n=>!has n.rq.set c.place with
  |some n=>exact KP cq cs (HT h)
  |none =>
   dsimp only;cases Oq s.drv (AK (dec++[c]))with
   |some k=>exact mz s k h
   |none =>
    dsimp only;cases D8 dec c with
    |some n=>exact mz _ _ (HT h)
    |none =>
     dsimp only;have h2:=cq c s (st++[sk]) h;split
     ·exact h2
     split
     ·exact h2
     ·exact mz _ _ h2
theorem Pi:∀(n:Nat) {dec:List Cd} {s:SS} {st:List (List Sk)},s.infs.Nodup→(Da x roots n dec s st).ss.infs.Nodup
 |0,_,_,_,h=>h
 |n+1,dec,s,st,h=>by
  unfold Da;cases (GA roots dec).2 with
  |nil=>exact h
  |cons n0 l=>exact KP (fun c s st h=>Pi n h) _ h
structure ta(x:List Rl)(roots:List Rq)(C A:List (Value×AV)):Prop where
 hx:A4 x=0
 hr:BS roots=0
 fx:∀r∈x,IR r
 fr:∀q∈roots,N6 q
 c1:∀(p:ByteArray) (a:AV),(Value.string p,a)∈C→a=sl AE (Cq x p)
 c2:∀p:ByteArray,(∀a,(Value.string p,a)∉C)→Cq x p=[]
 c3:∀p:ByteArray,Cq x p=[]→∀a,(Value.string p,a)∉C
 av:∀p:ByteArray,∃V,HV x A p V
theorem m8{dec:List Cd}(h:∀c∈dec,c.rel.reqs.length≤16):((dec.map fun c=>c.rel.reqs).flatten).length≤16*dec.length:=by
 induction dec with
 |nil=>simp
 |cons c dec ih =>
  rw[AN,By,Ad,Au]
  have:=h c (Aa ..)
  have:=ih fun d hd=>h d (Ae _ hd)
  omega
theorem oh{r:Rl}(h:RR r):0≤plc r.ver∧plc r.ver<1000000:=by rw[h.plc];exact Js h.val
theorem cQ(dec:List Cd):(GA roots dec).2.length≤(Dr roots dec).length:=by
 rw[Tw];cases KC (HH roots dec) (AK dec)with
 |none=>simp
 |some q=>exact BD _ _
theorem yC{C A:List (Value×AV)}(hE:ta x roots C A)(na:yJ roots C A):∀(n:Nat) {dec:List Cd} {s:SS} {st:List (List Sk)},EC x dec→II roots dec→Jy x roots s→s.full=false→QM x dec<n→st.length=dec.length →
  Be Tryz.prog 97 [.ref 1000 0] (Ai (I1 roots C A s dec st) Ab) (YE roots C A (Da x roots n dec s st))
 |0,_,_,_,_,_,_,_,h,_=>by omega
 |n+1,dec,s,st,hd,cr,hs,hf,hn,Jg=>by
  have hx:=hE.hx;have hr:=hE.hr;have Zm:=PR hx;have hdl:=Xh hd;have uC:dec.length≤256:=by have:=Zm.1;omega
  have WO:∀c∈dec,c.rel.reqs.length≤16:=fun c hc=>Zm.2 _ (hd.cand c hc).1;have Rj:=na s dec st (by omega) fun c hc=>AU (WO c hc) (by decide);generalize hO:Da x roots (n+1) dec s st=O;obtain⟨N,hN⟩:∃N,N=(GA roots dec).2:=⟨_,rfl⟩;obtain⟨q,hq⟩:∃q,q=(GA roots dec).1:=⟨_,rfl⟩;rw[←hN,←hq]at Rj;have zn:N.length≤10000:=by
   have h1:=cQ (roots:=roots) dec;have h2:(Dr roots dec).length=(HH roots dec).length:=by rw[←MO,Lm]
   have h3:=m8 WO;have h4:=Pd hr;rw[←hN]at h1;unfold HH at h2;rw[Ad]at h2;omega
  cases hNc:N with
  |nil =>
   rw[hNc]at hN Rj;refine wR roots C A s dec st q [] O rfl Rj ?_;rw[←hO];unfold Da;rw[←hN]
  |cons n0 l =>
   rw[hNc]at hN Rj;have lH:=NV hN.symm;rw[←hq]at lH;have Rk:∀nd∈n0::l,nd∈Dr roots dec:=fun nd h=>((lH.mem nd).1 h).1;have Gu:=(Cg hx).1;have few:∀{E:List Cd},EC x E→∀nd∈Dr roots E,Cm nd.rq.set∧B2 (nd.place+1):=fun zg nd h=>by
    rcases Mk h with ⟨k,r,h1,rfl⟩ | ⟨c,hc,k,r,h1,rfl⟩
    ·exact⟨(hE.fr r (Av h1)).1,by unfold B2;show -9223372036854775808≤(0:Int)+1∧(0:Int)+1<9223372036854775808;decide⟩
    ·have h2:=zg.cand c hc;have h3:=oh (Gu _ h2.1);rw[←h2.2.2]at h3;exact⟨((hE.fx _ h2.1).2 r (Av h1)).1,by unfold B2;show _≤c.place+1∧c.place+1<_;omega⟩
   have l6:∀c∈Cq x q,EC x (dec++[c])∧c.rel.path=q∧c.rel∈x:=fun c hc=>by
    obtain⟨c1,c2⟩:=JF hc;exact⟨hd.snoc c2 (by rw[c1];exact lH.undone),c1,c2.1⟩
   have Fb:∀(i:Nat) (h:i<(Cq x q).length),(Cq x q)[i]∈Cq x q:=fun i h=>Ap h;obtain⟨V,hV⟩:=hE.av q
   have hL:tb x roots C A n dec q n0 l V (Cq x q):={
    hx:=hx
    hr:=hr
    hdl:=uC
    hcl:=AU (UL x q) Zm.1
    hcs:=rfl
    hnl:=by rw[hNc]at zn;omega
    hnq:=fun nd h=>(few hd nd (Rk nd h)).1
    hnp:=fun nd h=>(few hd nd (Rk nd h)).2
    hex:=fun i h nd hm hh=>by
     obtain⟨a,b,_⟩:=l6 _ (Fb i h);exact⟨(OU hx hr a (NS (Rk nd hm)) ⟨(Cq x q)[i],by simp,b.trans ((lH.mem nd).1 hm).2.symm,hh⟩).1,trivial⟩
    hcx:=fun i h nc hc=>by
     obtain⟨a,b,_⟩:=l6 _ (Fb i h);obtain⟨m1,m2⟩:=KU hc;exact⟨(OU hx hr a (MP m1) m2).1,trivial⟩
    hcq:=fun i h nc hm=>(few (l6 _ (Fb i h)).1 nc (MP hm)).1
    hcp_:=fun i h nc hm=>(few (l6 _ (Fb i h)).1 nc (MP hm)).2
    hcr:=fun i h=>by have:=Zm.2 _ (l6 _ (Fb i h)).2.2;omega
    hcs_:=fun i h r hm=>((hE.fx _ (l6 _ (Fb i h)).2.2).2 r hm).1
    hkey:=fun i h=>by
     have b:=(l6 _ (Fb i h)).2.1;unfold AK;rw[AH,AH];show _=_++[[vs (Cq x q)[i].rel.path,vi (Cq x q)[i].rel.ver.a,vi (Cq x q)[i].rel.ver.b,vi (Cq x q)[i].rel.ver.c]];rw[b]
    hinf0:=(Rw hx hr hd (Rk n0 (Aa ..)) (.inl (by
     rw[((lH.mem n0).1 (Aa ..)).2];exact Hv (by rw[FO];exact lH.undone)))).inf
    hV:=hV
    ih:=fun c hc uV S Ea hl hS xt=>by
     obtain⟨a,b,c3⟩:=l6 c hc;obtain⟨k1,k2⟩:=O0.1 uV;obtain⟨_,c2⟩:=JF hc;have l5:=cr.snoc lH b k1 k2;have lO:QM x (dec++[c])<n:=by have:=SF (dec:=dec) ⟨c2.1,c2.2.1⟩ (by rw[b];exact lH.undone);omega
     have h1:=yC hE na n a l5 hS xt lO (st:=Ea) (by rw[hl];simp);have h2:=Qj hx hr n a l5 hS.der xt lO (st:=Ea);exact⟨h1,⟨h2.der,Pi n hS.nodup⟩,⟨h2.grow.len,fun e1 e2=>((h2.no e1).2.2 e2).1⟩,fun e1=>(h2.no e1).2.1⟩ }
   have hR:D1 (Da x roots n) x q (n0::l) n0 dec st (Cq x q) s [] []=O:=by
    rw[←hO]
    conv=>rhs;unfold Da
    rw[←hN,hq]
   by_cases hm:∀a,(Value.string q,a)∉C
   ·exact wP x roots C A n s dec st q n0 l V (Cq x q) O O hL hs Jg Rj (hE.c2 q hm) hm hR rfl
   ·exact wO x roots C A n s dec st q n0 l V (Cq x q) O O hL hs Jg Rj (hE.c1 q) hm hR rfl
end
theorem wQ{x:List Rl}{roots:List Rq}{C A:List (Value×AV)}(hE:ta x roots C A)(n:Nat){dec:List Cd}{s:SS}{st:List (List Sk)}(h1:EC x dec)(h2:II roots dec)(h3:Jy x roots s)(h4:s.full=false)(h5:QM x dec<n)(h6:st.length=dec.length) :
  Be Tryz.prog 97 [.ref 1000 0] (Ai (I1 roots C A s dec st) Ab) (YE roots C A (Da x roots n dec s st)) :=
 yC hE (fun s dec st a b=>s64 roots C A s dec st (AU (Pd hE.hr) (by decide)) a b) n h1 h2 h3 h4 h5 h6
def GF(x:List Rl)(roots:List Rq):Bool:=decide (A4 x=0)&&decide (BS roots=0)
theorem sY(x:List Rl)(ifs:List (List AV))(roots:List Rq)(hx:∀r∈x,IR r)(hr:∀q∈roots,N6 q):PC 95 [.agg (Ic x ifs),sl AM roots] (vb (GF x roots)):=by
 refine Ps ⟨[2],[],[],[],[],[],[],[],[],[],[]⟩ Tryz.func95 rfl (Nz rfl) ?_;refine Yi (Nz rfl) ?_;refine Xi .pure (Xi _ (Yi (jG Se x ifs hx) ?_));refine Yi (fun h1=>?_) (fun h1=>?_)
 ·have h1:((A4 x):Int)=(0:Int):=h1;refine Xi .pure (Xi _ (Yi (w9 Se roots hr) ?_));refine Yi (fun h2=>?_) (fun h2=>?_)
  ·have h2:((BS roots):Int)=(0:Int):=h2;exact .of_eq (show vb true=vb (GF x roots) by unfold GF;rw[h1,h2];rfl)
  have h2:¬(((BS roots):Int)=(0:Int)):=h2;exact .of_eq (show vb false=vb (GF x roots) by unfold GF;rw[Ar h2,DH])
 have h1:¬(((A4 x):Int)=(0:Int)):=h1;exact .of_eq (show vb false=vb (GF x roots) by unfold GF;rw[Ar h1];rfl)
abbrev QI(r:Rl):List AV:=AE ⟨plc r.ver,r⟩
abbrev Gf(y:List Rl)(p:ByteArray):List (List AV):=(y.filter fun r=>decide (r.path=p)).map QI
abbrev XB(y:List Rl)(q:ByteArray×Nat):Value×AV:=(.string q.1,.slice (.id (q.2+100) 10) (Gf y q.1))
abbrev Is(y:List Rl):List (Value×AV):=(AQ y []).zipIdx.map (XB y)
def F0(y:List Rl)(l:Nat):HO:=match(AQ y [])[l]? with
 |some q=>.tok 10 (Gf y q).length
 |none=>.free
def IY(y:List Rl)(j:Nat):HO:=bif Nat.ble 100 j&&Nat.blt j 1000 then F0 y (j-100)else .free
theorem EX(y:List Rl)(hy:y.length≤256)(l:Nat):IY y (l+100)=F0 y l:=by
 unfold IY;rw[show Nat.ble 100 (l+100)=true by rw[Db];omega,EA,Nat.add_sub_cancel]
 by_cases h:l+100<1000
 ·rw[show Nat.blt (l+100) 1000=true by rw[Ck];exact h];rfl
 ·rw[show Nat.blt (l+100) 1000=false by rw[AI];intro hc;rw[Ck]at hc;omega]
  have:=Hb y []
  rw[AC]at this;unfold F0;rw[A6 (by omega)];rfl
theorem jZ(y:List Rl){j:Nat}(h:j<100):IY y j=.free:=by
 unfold IY;rw[show Nat.ble 100 j=false by rw[AI];intro hc;rw[Db]at hc;omega];rfl
theorem Ha(y:List Rl)(r:Rl)(q:ByteArray):Gf (y++[r]) q=if r.path=q then Gf y q++[QI r]else Gf y q:=by
 unfold Gf;rw[El]
 by_cases h:r.path=q
 ·rw[Aw h,RN (by simpa using h)];simp
 ·rw[Ah h,RM (by simpa using h)];simp
section
variable {y:List Rl}{r:Rl}{k:Nat}
open Classical in
theorem fA(h:(AQ y [])[k]?=some r.path):EO (Is y) (.string r.path) (.slice (.id (k+100) 10) (Gf y r.path++[QI r]))=Is (y++[r]):=by
 have hd:=EL y [] E7;have hm:XB y (r.path,k)∈Is y:=Ak.2 ⟨_,Fv.2 h,rfl⟩;rw[X4 (a':=.slice (.id (k+100) 10) (Gf y r.path)) hm];unfold Is;rw[I9 h,BO];refine Bf fun q hq=>?_;have hg:=Ij hq;obtain⟨q,j⟩:=q;show(if Value.string q=Value.string r.path then _ else _)=XB (y++[r]) (q,j);have hg:(AQ y [])[j]?=some q:=hg
 by_cases he:q=r.path
 ·subst he
  have:j=k:=I6 hd hg h
  subst this;rw[Aw rfl];show _=(Value.string r.path,AV.slice (.id (j+100) 10) (Gf (y++[r]) r.path));rw[Ha,Aw rfl]
 ·rw[Ah (fun e=>he (by simpa using e))];show(Value.string q,AV.slice (.id (j+100) 10) (Gf y q))=(Value.string q,AV.slice (.id (j+100) 10) (Gf (y++[r]) q));rw[Ha,Ah (fun e=>he e.symm)]
theorem Yb(h:r.path∉AQ y []):Gf y r.path=[]:=by
 have:y.filter (fun s=>decide (s.path=r.path))=[]:=by
  rw[Hf];intro s hs he;exact h ((Hc y [] r.path).2 (.inr ⟨s,hs,BF he⟩))
 unfold Gf;rw[this];rfl
theorem U0(h:r.path∉AQ y [])(a:AV):(Value.string r.path,a)∉Is y:=by
 intro hc;obtain⟨q,h1,h2⟩:=Ak.1 hc;simp only[XB,FJ,Value.string.injEq]at h2;exact h (by rw[←h2.1];exact Av (Ij h1))
theorem fy(h:r.path∉AQ y []):EO (Is y) (.string r.path) (.slice (.id ((AQ y []).length+100) 10) [QI r])=Is (y++[r]):=by
 rw[Mj (fun a=>U0 h a)];unfold Is;rw[I8 h,List.zipIdx_append,AH]
 congr 1
 ·refine Bf fun q hq=>?_;have hg:=Ij hq
  have:q.1≠r.path:=fun e=>h (by rw[←e];exact Av hg)
  show(Value.string q.1,AV.slice (.id (q.2+100) 10) (Gf y q.1))=(Value.string q.1,AV.slice (.id (q.2+100) 10) (Gf (y++[r]) q.1));rw[Ha,Ah (fun e=>this e.symm)]
 ·show [_]=[(Value.string r.path,AV.slice (.id (0+(AQ y []).length+100) 10) (Gf (y++[r]) r.path))];rw[Ha,Aw rfl,Yb h,Bi];rfl
theorem ce{p:ByteArray}{j:Nat}(h:(AQ y [])[j]?=some p):(Value.string p,AV.slice (.id (j+100) 10) (Gf y p))∈Is y∧∀b,(Value.string p,b)∈Is y→b=AV.slice (.id (j+100) 10) (Gf y p):=by
 refine⟨Ak.2 ⟨(p,j),Fv.2 h,rfl⟩,fun b hb=>?_⟩;obtain⟨q,h1,h2⟩:=Ak.1 hb;simp only[XB,FJ,Value.string.injEq]at h2;have hg:=Ij h1;rw[h2.1]at hg
 have:=I6 (EL y [] E7) hg h
 rw[←h2.2,h2.1,this]
theorem bm{p:ByteArray}{j:Nat}(h:(AQ y [])[j]?=some p):F0 y j=.tok 10 (Gf y p).length:=by
 unfold F0;rw[h]
theorem iQ(h:(AQ y [])[k]?=some r.path)(l:Nat):(bif Nat.beq (l+100) (k+100)then HO.tok 10 ((Gf y r.path).length+1)else F0 y l)=F0 (y++[r]) l:=by
 by_cases he:l=k
 ·subst he;rw[show Nat.beq (l+100) (l+100)=true from CW _];unfold F0;rw[I9 h,h];show HO.tok 10 _=HO.tok 10 (Gf (y++[r]) r.path).length;rw[Ha,Aw rfl,Ad];rfl
 ·rw[show Nat.beq (l+100) (k+100)=false by rw[AI];intro hc;have:=AL hc;omega];show F0 y l=_;unfold F0;rw[I9 h];cases hq:(AQ y [])[l]? with
  |none=>rfl
  |some q =>
   show HO.tok 10 (Gf y q).length=HO.tok 10 (Gf (y++[r]) q).length;rw[Ha,Ah];intro e;subst e;exact he (I6 (EL y [] E7) hq h)
theorem iP(h:r.path∉AQ y [])(l:Nat):(bif Nat.beq (l+100) ((AQ y []).length+100)then HO.tok 10 1 else F0 y l)=F0 (y++[r]) l:=by
 by_cases he:l=(AQ y []).length
 ·subst he;rw[show Nat.beq ((AQ y []).length+100) ((AQ y []).length+100)=true from CW _];unfold F0;rw[I8 h];simp only[A5 (Aj _),F7,A8];show HO.tok 10 1=HO.tok 10 (Gf (y++[r]) r.path).length;rw[Ha,Aw rfl,Yb h];rfl
 ·rw[show Nat.beq (l+100) ((AQ y []).length+100)=false by rw[AI];intro hc;have:=AL hc;omega];show F0 y l=_;unfold F0;rw[I8 h]
  by_cases hl:l<(AQ y []).length
  ·rw[AY hl,Ge hl];show HO.tok 10 (Gf y (AQ y [])[l]).length=HO.tok 10 (Gf (y++[r]) (AQ y [])[l]).length;rw[Ha,Ah];intro e;exact h (by rw[e];exact Ap hl)
  ·rw[A6 (by omega),A6 (by rw[Ad];simp;omega)]
end
theorem Ht(y:List Rl){h:Nat→HO}(hh:∀l,h (l+100)=F0 y l):QP h (Is y)=true:=by
 refine PP fun p hp=>?_;obtain⟨q,h1,rfl⟩:=Ak.1 hp;show Rn h (q.2+100)=true;unfold Rn;rw[hh,bm (Ij h1)]
theorem Gt{y:List Rl}(hy:y.length≤256){h h' : Nat→HO}(hh:∀l,h (l+100)=F0 y l)(j:Nat):IY y j=.free∨(h j=IY y j∧XN h' (IY y j)=true):=by
 by_cases hj:j<100
 ·exact .inl (jZ y hj)
 ·obtain⟨l,rfl⟩:∃l,j=l+100:=⟨j-100,by omega⟩
  right
  rw[EX y hy];refine⟨hh l,?_⟩;unfold F0;cases (AQ y [])[l]?<;>rfl
abbrev yR(x:List Rl):List Rl:=x.filter fun r=>!r.yanked
theorem ZA(x:List Rl)(p:ByteArray):Gf (yR x) p=(Cq x p).map AE:=by
 unfold Gf Cq;rw[List.filter_filter,BO]
 rfl
def mC(x:List Rl):List (Value×AV):=(AQ (yR x) []).map fun p=>(.string p,sl AE (Cq x p))
theorem gx{x:List Rl}{p:ByteArray}{a:AV}:(Value.string p,a)∈mC x↔p∈AQ (yR x) []∧a=sl AE (Cq x p):=by
 unfold mC;rw[Ak];constructor
 ·rintro⟨q,hq,e⟩
  injection e with e1 e2
  injection e1 with e1
  subst e1;exact⟨hq,e2.symm⟩
 ·rintro⟨h1,h2⟩
  exact⟨p,h1,by rw[h2]⟩
theorem UM{x:List Rl}{p:ByteArray}:Cq x p=[]↔p∉AQ (yR x) []:=by
 rw[Hc];unfold Cq;rw[Dq,Hf];constructor
 ·rintro h (h1 | ⟨r,h1,h2⟩)
  ·cases h1
  ·obtain⟨h3,h4⟩:=Bo.1 h1;exact h r h3 (by rw[Ax h2,h4];rfl)
 ·intro h r hr hc;rw[Ag,AA]at hc;exact h (.inr ⟨r,Bo.2 ⟨hr,hc.2⟩,hc.1⟩)
theorem rd(x:List Rl):∀(p:ByteArray) (a:AV),(Value.string p,a)∈mC x→a=sl AE (Cq x p):=fun _ _ h=>(gx.1 h).2
theorem re(x:List Rl):∀p:ByteArray,(∀a,(Value.string p,a)∉mC x)→Cq x p=[]:=fun _ h=>UM.2 fun hp=>h _ (gx.2 ⟨hp,rfl⟩)
theorem rf(x:List Rl):∀p:ByteArray,Cq x p=[]→∀a,(Value.string p,a)∉mC x:=fun _ h _ ha=>UM.1 h (gx.1 ha).1
abbrev plN:T2:=⟨[2],[],[],[(52,[12])],[],[12],[50],[(53,(16,3,90,6)),(54,(16,4,91,1)),(55,(16,7,93,10)),(56,(16,8,94,4))],[],[(850013,13),(800013,10016),(810013,20016),(900013,10000000000+92000000+90016)],[5,7,8,9,11,12,13]⟩
abbrev kC(x:List Rl)(p:ByteArray):Value×AV:=(.string p,sl AE (Cq x p))
abbrev kA(x:List Rl)(p:ByteArray):Value×AV:=(.string p,sl Ao (B8 x p))
theorem kG{x:List Rl}{l:List ByteArray}{kv:Value×AV}{NX : List (Value×AV)}(h:(l.map (kC x)).Perm (kv::NX)):∃t r,kv=kC x t∧NX=r.map (kC x)∧l.Perm (t::r):=by
 obtain⟨ps,h1,h2⟩:=Mn h l rfl;cases ps with
 |nil=>cases h2
 |cons t r =>
  rw[AN,Fr]at h2;exact⟨t,r,h2.1.symm,h2.2.symm,h1.symm⟩
abbrev srN(roots:List Rq)(C A:List (Value×AV)):List (Nat×HO) :=
 [(2000,.cells [sl AM roots,.cmap C3 C,.cmap C3 A,.slice (.id 2001 6) [],.slice (.id 2002 1) [],.mref 2003,vb false,.slice .none [],.slice .none [],.msl 2004 0]),(2001,.tok 6 0),(2002,.tok 1 0),(2003,.map DW []),(2004,.arr 1 [])]
theorem Wn{x:List Rl}{l:List ByteArray}{p:ByteArray}{a:AV}:(Value.string p,a)∈l.map (kA x)↔p∈l∧a=sl Ao (B8 x p):=by
 rw[Ak];constructor
 ·rintro⟨q,hq,e⟩
  injection e with e1 e2
  injection e1 with e1
  subst e1;exact⟨hq,e2.symm⟩
 ·rintro⟨h1,h2⟩
  exact⟨p,h1,by rw[h2]⟩
theorem ax(y:List Rl)(n:Nat):IY y (n+1000)=.free:=by
 unfold IY;rw[show Nat.blt (n+1000) 1000=false by rw[AI];intro hc;rw[Ck]at hc;omega,DH];rfl
theorem V3{h s:Nat→HO}(H:∀n,h (n+1000)=.free):∀j,1000≤j→j<2000→h j≠.free→s j≠.free:=fun j h1 _ hn=>by
 refine absurd (H (j-1000)) ?_;rw[show j-1000+1000=j by omega];exact hn
theorem jy{n k:Nat}(h:k<1000):Nat.beq (n+1000) k=false:=by
 rw[AI];intro hc;have:=AL hc;omega
theorem aa{y:List Rl}{n k:Nat}{o:HO}(h:k<1000):(bif Nat.beq (n+1000) k then o else IY y (n+1000))=.free:=by
 rw[jy h,ax];rfl
attribute [local irreducible] Ib
set_option maxRecDepth 30000 in
theorem wN(x:List Rl)(ifs:List (List AV))(roots:List Rq)(hx:∀r∈x,IR r)(h0:A4 x=0):Be Tryz.prog 96 [I2 x ifs,sl AM roots] (Ai [] Ab) fun r h'=>∃l:List ByteArray,l.Perm (AQ (yR x) [])∧r=.ref 2000 0∧h'=Ai (srN roots (mC x) (l.map (kA x))) Ab:=by
 have Zm:x.length≤256:=(PR h0).1;refine Co (MF plN) [(16,2000),(90,2001),(91,2002),(14,2003),(92,2004)] rfl CB hm rfl Tryz.func96 (by kernel_rfl) rfl (Nz rfl) (by kernel_rfl) rfl ?_;refine Xi 0 ?_;refine Xi 0 ?_;refine Xi 0 ?_;refine Xi {i:Nat // i≤x.length} (Xi (fun i=>⟨[(2,.ref 2 0),(5,.ref 16 0),(18,sl Al x),(19,vi (x.map Al).length),(20,vi i.1)],[(2,.ro (Ic x ifs)),(12,.mapU C3 (Is (yR (x.take i.1)))),(13,.map C3 []),(14,.map DW []),(16,.cells [sl AM roots,.mref 12,.mref 13,.v (.slice none 0 0),.v (.slice none 0 0),.mref 14,vb false,.v (.slice none 0 0),.v (.slice none 0 0),.v (.slice none 0 0)])],IY (yR (x.take i.1))⟩) (Xi (fun i=>x.length-i.1) (Yi (Xi ⟨0,AO _⟩ ?_) ?_)))
 ·refine⟨Z5,Z5,fun j=>.inl ?_,Ay (by kernel_rfl)⟩;show IY [] j=.free;unfold IY;cases (Nat.ble 100 j&&Nat.blt j 1000)<;>rfl
 intro⟨i,i1⟩;have i1:i≤x.length:=i1;have hq:∀k,(yR (x.take k)).length≤256:=fun k=>by
  have:=BD (fun r:Rl=>!r.yanked) (x.take k)
  rw[AJ]at this;show(List.filter _ _).length≤256;omega
 refine Xi 0 ?_;refine Yi ?_ ?_
 ·intro h;have h:(i:Int)<(x.map Al).length:=h;have h:i<x.length:=by simpa using h
  have hg:x[i]?=some x[i]:=Ge h;have Kv:x.take (i+1)=x.take i++[x[i]]:=by rw[Bu,hg];rfl
  refine Xi 0 ?_;refine Xi (Al x[i]) (Yi (Yi (Nn i) (by simp[hg])) (Yi rfl ?_));refine Yi (Nz rfl) (Yi (Nz rfl) ?_);refine Xi ⟨[(2,.ref 2 0),(5,.ref 16 0),(7,.ref 7 0),(18,sl Al x),(19,vi (x.map Al).length),(20,vi i)],[(2,.ro (Ic x ifs)),(7,.cells (Al x[i])),(12,.mapU C3 (Is (yR (x.take i)))),(13,.map C3 []),(14,.map DW []),(16,.cells [sl AM roots,.mref 12,.mref 13,.v (.slice none 0 0),.v (.slice none 0 0),.mref 14,vb false,.v (.slice none 0 0),.v (.slice none 0 0),.v (.slice none 0 0)])],IY (yR (x.take i))⟩ (Yi ?_ ?_)
  ·exact⟨Z6,⟨Zr,Zr,⟨rfl,Ht _ (EX _ (hq _))⟩,Zr,Zr,Zr,Tv⟩,Gt (hq _) (EX _ (hq _)),Ay (by kernel_rfl)⟩
  refine Xi 0 ?_;refine Yi (fun hy=>?_) (fun hy=>?_)
  ·have hy:x[i].yanked=true:=hy;have ey:yR (x.take (i+1))=yR (x.take i):=by
    unfold yR;rw[Kv,El,RM (by rw[hy];decide)];simp
   refine Xi ⟨[(2,.ref 2 0),(5,.ref 16 0),(18,sl Al x),(19,vi (x.map Al).length),(20,vi i)],[(2,.ro (Ic x ifs)),(12,.mapU C3 (Is (yR (x.take (i+1))))),(13,.map C3 []),(14,.map DW []),(16,.cells [sl AM roots,.mref 12,.mref 13,.v (.slice none 0 0),.v (.slice none 0 0),.mref 14,vb false,.v (.slice none 0 0),.v (.slice none 0 0),.v (.slice none 0 0)])],IY (yR (x.take (i+1)))⟩ (Yi ?_ ?_)
   ·rw[ey];exact⟨Z5,⟨Zr,⟨rfl,Ht _ (EX _ (hq _))⟩,Zr,Zr,Zr,Tv⟩,Gt (hq _) (EX _ (hq _)),Ay (by kernel_rfl)⟩
   refine Xi 0 ?_;refine Yi (Ii i (by omega)) ?_;refine Xi ⟨i+1,by omega⟩ ?_;exact⟨Dl x.length i (by omega),Z5,⟨Zr,⟨rfl,Ht _ (EX _ (hq _))⟩,Zr,Zr,Zr,Tv⟩,Gt (hq _) (EX _ (hq _)),Ay (by kernel_rfl)⟩
  have hy:x[i].yanked=false:=hy;refine Xi 0 ?_;refine Yi (Nz rfl) ?_;refine Xi .pure (Xi _ (Yi (r9 x[i].ver) ?_));refine Xi ⟨[(2,.ref 2 0),(5,.ref 16 0),(7,.ref 7 0),(8,vi (plc x[i].ver)),(18,sl Al x),(19,vi (x.map Al).length),(20,vi i)],[(2,.ro (Ic x ifs)),(7,.cells (Al x[i])),(12,.mapU C3 (Is (yR (x.take i)))),(13,.map C3 []),(14,.map DW []),(16,.cells [sl AM roots,.mref 12,.mref 13,.v (.slice none 0 0),.v (.slice none 0 0),.mref 14,vb false,.v (.slice none 0 0),.v (.slice none 0 0),.v (.slice none 0 0)])],IY (yR (x.take i))⟩ (Yi ?_ ?_)
  ·exact⟨Z7,⟨Zr,Zr,⟨rfl,Ht _ (EX _ (hq _))⟩,Zr,Zr,Zr,Tv⟩,Gt (hq _) (EX _ (hq _)),Ay (by kernel_rfl)⟩
  have ey:yR (x.take (i+1))=yR (x.take i)++[x[i]]:=by
   unfold yR;rw[Kv,El,RN (by rw[hy];decide)];rfl
  have hyl:(yR (x.take i)).length≤256:=by
   have:=BD (fun r:Rl=>!r.yanked) (x.take i)
   rw[AJ]at this;show(List.filter _ _).length≤256;omega
  have hP:∀l,IY (yR (x.take i)) (l+100)=F0 (yR (x.take i)) l:=EX _ (hq _);refine BU (Classical.em (x[i].path∈AQ (yR (x.take i)) [])) (fun hp=>?_) (fun hp=>?_)
  ·refine Dn (B9.1 hp) (fun k hk=>?_);have hu:=ce hk;have hl:(Gf (yR (x.take i)) x[i].path).length≤256:=by
    rw[Lm];exact AU (BD _ _) hyl
   have qA:k<256:=by
    have:=(At.1 hk).1
    have:=Hb (yR (x.take i)) []
    simp only[AC]at this;omega
   have hr:IY (yR (x.take i)) (k+100)=.tok 10 (Gf (yR (x.take i)) x[i].path).length:=by rw[hP,bm hk]
   refine Xi 0 ?_;refine Or.inl (Xi (.slice (.id (k+100) 10) (Gf (yR (x.take i)) x[i].path)) (Yi hu ?_));refine Yi (Nz rfl) ?_;refine QE (e:=162) (m:=9) (es2:=[QI x[i]]) rfl rfl rfl (fun _ h=>h) hr ⟨rfl,trivial⟩ (by show(_+1)*128≤_;omega) (by show _+1≤_;omega) ?_;refine Yi (IW ⟨A2 _,A2 _,A2 _,A2 _,A2 _,A2 _,A2 _,A2 _,A2 _,A2 _,A2 _,A2 _,A2 _,A2 _,A2 _,A2 _,D7 (show 49<10000000 by decide),D7 (by show _+100<10000000;omega),D7 (show 12<10000000 by decide),trivial⟩ (by kernel_rfl)) ?_;have e9:EO (Is (yR (x.take i))) (.string x[i].path) (.slice (.id (k+100) 10) (Gf (yR (x.take i)) x[i].path++[QI x[i]]))=Is (yR (x.take (i+1))):=by rw[ey];exact fA hk
   have hG:∀l,(bif Nat.beq (l+100) (k+100)then HO.tok 10 ((Gf (yR (x.take i)) x[i].path).length+1)else F0 (yR (x.take i)) l)=F0 (yR (x.take (i+1))) l:=by rw[ey];exact iQ hk
   refine Xi ⟨[(2,.ref 2 0),(5,.ref 16 0),(18,sl Al x),(19,vi (x.map Al).length),(20,vi i)],[(2,.ro (Ic x ifs)),(12,.mapU C3 (Is (yR (x.take (i+1))))),(13,.map C3 []),(14,.map DW []),(16,.cells [sl AM roots,.mref 12,.mref 13,.v (.slice none 0 0),.v (.slice none 0 0),.mref 14,vb false,.v (.slice none 0 0),.v (.slice none 0 0),.v (.slice none 0 0)])],IY (yR (x.take (i+1)))⟩ (Yi ?_ ?_)
   ·refine⟨Z5,⟨Zr,⟨Ac (HO.mapU C3) e9,Ht _ (EX _ (hq _))⟩,Zr,Zr,Zr,Tv⟩,Gt (hq _) (fun l=>?_),V3 (fun n=>?_)⟩
    ·show(bif Nat.beq (l+100) (k+100)then HO.tok 10 ((Gf (yR (x.take i)) x[i].path).length+1)else IY (yR (x.take i)) (l+100))=_;rw[hP];exact hG l
    ·exact aa (y:=yR (x.take i)) (show k+100<1000 by omega)
   refine Xi 0 ?_;refine Yi (Ii i (by omega)) ?_;refine Xi ⟨i+1,by omega⟩ ?_;exact⟨Dl x.length i (by omega),Z5,⟨Zr,⟨rfl,Ht _ (EX _ (hq _))⟩,Zr,Zr,Zr,Tv⟩,Gt (hq _) (EX _ (hq _)),Ay (by kernel_rfl)⟩
  ·have Lx:(AQ (yR (x.take i)) []).length≤256:=by
    have:=Hb (yR (x.take i)) []
    simp only[AC]at this;omega
   have hn:=U0 hp;have hr:IY (yR (x.take i)) ((AQ (yR (x.take i)) []).length+100)=.free:=by
    rw[hP];unfold F0;rw[A6 (Aj _)]
   refine Xi ((AQ (yR (x.take i)) []).length+100) ?_;refine Or.inr (Yi hn ?_);refine Yi (Nz rfl) ?_;refine QD (e:=162) (m:=9) (es2:=[QI x[i]]) rfl rfl rfl (fun _ h=>h) hr rfl ⟨rfl,trivial⟩ (by show 1*128≤_;omega) (by show 1≤_;omega) ?_;refine Yi (IW ⟨A2 _,A2 _,A2 _,A2 _,A2 _,A2 _,A2 _,A2 _,A2 _,A2 _,A2 _,A2 _,A2 _,A2 _,A2 _,A2 _,D7 (show 49<10000000 by decide),D7 (by show _+100<10000000;omega),D7 (show 12<10000000 by decide),trivial⟩ (by kernel_rfl)) ?_;have e9:EO (Is (yR (x.take i))) (.string x[i].path) (.slice (.id ((AQ (yR (x.take i)) []).length+100) 10) [QI x[i]])=Is (yR (x.take (i+1))):=by rw[ey];exact fy hp
   have hG:∀l,(bif Nat.beq (l+100) ((AQ (yR (x.take i)) []).length+100)then HO.tok 10 1 else F0 (yR (x.take i)) l)=F0 (yR (x.take (i+1))) l:=by rw[ey];exact iP hp
   refine Xi ⟨[(2,.ref 2 0),(5,.ref 16 0),(18,sl Al x),(19,vi (x.map Al).length),(20,vi i)],[(2,.ro (Ic x ifs)),(12,.mapU C3 (Is (yR (x.take (i+1))))),(13,.map C3 []),(14,.map DW []),(16,.cells [sl AM roots,.mref 12,.mref 13,.v (.slice none 0 0),.v (.slice none 0 0),.mref 14,vb false,.v (.slice none 0 0),.v (.slice none 0 0),.v (.slice none 0 0)])],IY (yR (x.take (i+1)))⟩ (Yi ?_ ?_)
   ·refine⟨Z5,⟨Zr,⟨Ac (HO.mapU C3) e9,Ht _ (EX _ (hq _))⟩,Zr,Zr,Zr,Tv⟩,Gt (hq _) (fun l=>?_),V3 (fun n=>?_)⟩
    ·show(bif Nat.beq (l+100) ((AQ (yR (x.take i)) []).length+100)then HO.tok 10 1 else IY (yR (x.take i)) (l+100))=_;rw[hP];exact hG l
    ·exact aa (y:=yR (x.take i)) (show(AQ (yR (x.take i)) []).length+100<1000 by omega)
   refine Xi 0 ?_;refine Yi (Ii i (by omega)) ?_;refine Xi ⟨i+1,by omega⟩ ?_;exact⟨Dl x.length i (by omega),Z5,⟨Zr,⟨rfl,Ht _ (EX _ (hq _))⟩,Zr,Zr,Zr,Tv⟩,Gt (hq _) (EX _ (hq _)),Ay (by kernel_rfl)⟩
 ·intro h;have h:¬(i:Int)<(x.map Al).length:=h;have h:¬i<x.length:=by simpa using h
  have et:x.take i=x:=AT (by omega);have eM:∀hh:Nat→HO,Rp hh (Is (yR (x.take i)))=(AQ (yR x) []).map (kC x):=fun hh=>by
   rw[et];unfold Rp Is;rw[BO];refine CC fun j=>?_;rw[AG,AG,List.getElem?_zipIdx];cases (AQ (yR x) [])[j]? with
   |none=>rfl
   |some q=>show some (Value.string q,AV.slice .none (Gf (yR x) q))=_;rw[ZA];rfl
  refine Xi ⟨[(2,.ref 2 0),(5,.ref 16 0)],[(2,.ro (Ic x ifs)),(12,.mapU C3 (Is (yR (x.take i)))),(13,.map C3 []),(14,.map DW []),(16,.cells [sl AM roots,.mref 12,.mref 13,.v (.slice none 0 0),.v (.slice none 0 0),.mref 14,vb false,.v (.slice none 0 0),.v (.slice none 0 0),.v (.slice none 0 0)])],IY (yR (x.take i))⟩ (Yi ?_ ?_)
  ·exact⟨Z2,⟨Zr,⟨rfl,Ht _ (EX _ (hq _))⟩,Zr,Zr,Zr,Tv⟩,Gt (hq _) (EX _ (hq _)),Ay (by kernel_rfl)⟩
  refine Xi 0 ?_;refine Xi {p:List ByteArray×List ByteArray×Option (Value×AV) // (p.1++p.2.1).Perm (AQ (yR x) [])} (Xi (fun p=>⟨[(2,.ref 2 0),(5,.ref 16 0),(56,.ref 56 0)],[(2,.ro (Ic x ifs)),(12,.rom C3 ((AQ (yR x) []).map (kC x))),(13,.map C3 (p.1.1.map (kA x))),(14,.map DW []),(16,.cells [sl AM roots,.mref 12,.mref 13,.slice (.id 90 6) [],.slice (.id 91 1) [],.mref 14,vb false,.slice (.id 93 10) [],.slice (.id 94 4) [],.v (.slice none 0 0)]),(56,.iter ((AQ (yR x) []).map (kC x)) (p.1.2.1.map (kC x)) p.1.2.2),(90,.tok 6 0),(91,.tok 1 0),(93,.tok 10 0),(94,.tok 4 0)],Ab⟩) (Xi (fun p=>p.1.2.1.length) (Yi (Xi ⟨([],AQ (yR x) [],none),.refl _⟩ ?_) ?_)))
  ·refine⟨Z3,⟨Zr,⟨Ac (HO.rom C3) (eM _),rfl⟩,Zr,Zr,Zr,⟨?_,rfl⟩,Zr,Zr,Zr,Zr,Tv⟩,Fh,V3 (fun n=>?_)⟩
   ·show HO.iter (Rp _ (Is (yR (x.take i)))) (Rp _ (Is (yR (x.take i)))) none=_;rw[eM]
   ·exact ax (yR (x.take i)) n
  intro⟨⟨done,rem,Fy⟩,r1⟩;have r1:(done++rem).Perm (AQ (yR x) []):=r1;refine Xi 0 ?_;refine Yi ?_ ?_
  ·intro hr;have hr:rem.map (kC x)=[]:=hr;have hr:rem=[]:=Dq.1 hr;subst hr;rw[B1]at r1;refine Xi ⟨[(5,.ref 16 0)],[(14,.map DW []),(16,.cells [sl AM roots,.cmap C3 (mC x),.cmap C3 (done.map (kA x)),.slice (.id 90 6) [],.slice (.id 91 1) [],.mref 14,vb false,.slice (.id 93 10) [],.slice (.id 94 4) [],.msl 92 0]),(90,.tok 6 0),(91,.tok 1 0),(92,.arr 1 []),(93,.tok 10 0),(94,.tok 4 0)],Ab⟩ (Yi ⟨Z1,Z7,Fh,Ay (by kernel_rfl)⟩ ?_)
   refine Xi 0 ?_;exact Xi _ (Yi (.refl _) (Xi done (Yi r1 (Yi rfl rfl))))
  ·intro kv NX hp;refine Dn (kG hp) (fun t hp=>Dn hp (fun r hp=>?_));have e1:=hp.1;have e2:=hp.2.1;subst e1;subst e2;have hp:=hp.2.2;refine Xi ⟨[(2,.ref 2 0),(5,.ref 16 0),(56,.ref 56 0)],[(2,.ro (Ic x ifs)),(12,.rom C3 ((AQ (yR x) []).map (kC x))),(13,.map C3 (done.map (kA x))),(14,.map DW []),(16,.cells [sl AM roots,.mref 12,.mref 13,.slice (.id 90 6) [],.slice (.id 91 1) [],.mref 14,vb false,.slice (.id 93 10) [],.slice (.id 94 4) [],.v (.slice none 0 0)]),(56,.iter ((AQ (yR x) []).map (kC x)) (r.map (kC x)) (some (kC x t))),(90,.tok 6 0),(91,.tok 1 0),(93,.tok 10 0),(94,.tok 4 0)],Ab⟩ (Yi ⟨Z3,Z10,Fh,Ay (by kernel_rfl)⟩ ?_)
   refine Xi 0 ?_;refine Xi ⟨[(2,.ref 2 0),(5,.ref 16 0),(10,vs t),(56,.ref 56 0)],[(2,.ro (Ic x ifs)),(12,.rom C3 ((AQ (yR x) []).map (kC x))),(13,.map C3 (done.map (kA x))),(14,.map DW []),(16,.cells [sl AM roots,.mref 12,.mref 13,.slice (.id 90 6) [],.slice (.id 91 1) [],.mref 14,vb false,.slice (.id 93 10) [],.slice (.id 94 4) [],.v (.slice none 0 0)]),(56,.iter ((AQ (yR x) []).map (kC x)) (r.map (kC x)) (some (kC x t))),(90,.tok 6 0),(91,.tok 1 0),(93,.tok 10 0),(94,.tok 4 0)],Ab⟩ (Yi ⟨Z4,Z10,Fh,Ay (by kernel_rfl)⟩ ?_)
   refine Xi 0 ?_;have Rk:(done++rem).Nodup:=r1.nodup_iff.2 (EL _ [] E7);have vl:t∉done:=fun hc=>(F6.1 Rk).2.2 t hc t (hp.mem_iff.2 (Aa ..)) rfl;have em:EO (done.map (kA x)) (.string t) (sl Ao (B8 x t))=(done++[t]).map (kA x):=by
    rw[Mj (fun a ha=>vl (Wn.1 ha).1),AH];rfl
   have T4:((done++[t])++r).Perm (AQ (yR x) []):=by
    rw[AP];exact(List.Perm.append_left _ hp.symm).trans r1
   refine Yi (Nz rfl) ?_;refine Xi _ (Yi (tL x ifs t (c84 x ifs hx)) ?_);refine Yi (by kernel_rfl) ?_;refine Xi ⟨(done++[t],r,some (kC x t)),T4⟩ ?_;exact⟨by show r.length<rem.length;rw[hp.length_eq,Au];omega,Z3,⟨Zr,Zr,⟨Ac (HO.map C3) em,rfl⟩,Zr,Zr,Zr,Zr,Zr,Zr,Zr,Tv⟩,Fh,Ay (by kernel_rfl)⟩
end Go.Eng
namespace Go.Eng
open Go.Proofs
theorem YN{x:List Rl}(h0:A4 x=0){p:ByteArray}(h:p∉AQ (yR x) []):B8 x p=[]:=by
 rw[bH h0]
 have:x.filter (ap p)=[]:=by
  rw[Hf];intro r hr hc;unfold ap at hc;rw[Ag,AA]at hc;exact h ((Hc _ _ _).2 (.inr ⟨r,Bo.2 ⟨hr,hc.2⟩,hc.1⟩))
 rw[this];rfl
theorem m5{x:List Rl}{roots:List Rq}(hx:∀r∈x,IR r)(hr:∀q∈roots,N6 q)(h0:A4 x=0)(h1:BS roots=0){l:List ByteArray}(hl:l.Perm (AQ (yR x) [])):ta x roots (mC x) (l.map (kA x)) where
 hx:=h0
 hr:=h1
 fx:=hx
 fr:=hr
 c1:=rd x
 c2:=re x
 c3:=rf x
 av p:=by
  by_cases hp:p∈l
  ·exact⟨sl Ao (B8 x p),fun a ha=>(Wn.1 ha).2,fun hn=>(hn _ (Wn.2 ⟨hp,rfl⟩)).elim,fun h=>pI p (B8 x p) (RZ x p)⟩
  ·refine⟨.v (.slice none 0 0),fun a ha=>(hp (Wn.1 ha).1).elim,fun _=>rfl,fun h=>?_⟩;have e:=YN h0 (fun hc=>hp (hl.mem_iff.2 hc));have hc:=pI p (B8 x p) (RZ x p);rw[e]at hc⊢;exact LR.args hc ⟨.refl _,.nil,trivial⟩
section
variable {x:List Rl}{roots:List Rq}{d:List (List Tm)}{i:Nf}
end
section
variable {s:List Sl}{q:Rq}{o:Option ByteArray}
end
section
variable {x:List Rl}{roots:List Rq}{s A:List Sl}{m:Nat}
end
section
variable {N:List Rq}{p:ByteArray}{pl:Int}{o:Rl}
end
abbrev ID(b:Bool):List AV:=[vb b]
section
variable {l:List Rl}{roots:List Rq}{Cl:List ByteArray}{B:List Bool}
variable {B0:List Bool}{i:Nat}{ch:Bool}
end
section
variable {x l:List Rl}{roots:List Rq}{s:List Sl}
end
end Go.Eng
