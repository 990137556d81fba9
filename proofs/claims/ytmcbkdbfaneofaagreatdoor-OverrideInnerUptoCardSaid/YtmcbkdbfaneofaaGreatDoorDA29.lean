/- Lemmas for the claims of this seat, without a condition: part 29 (S8d, S8e, S11, S12, S13, S14, S16, S18, R24, C74, R25, R26, R27, R28, R29, R30, R31). -/
import Derived.Test.YtmcbkdbfaneofaaGreatDoorDA28
import Derived.Test.YtmcbkdbfaneofaaGreatDoorDA25
set_option maxHeartbeats 8000000
namespace Go.Eng
open Go.Proofs
theorem ww(x:List Rl)(roots:List Rq)(C A:List (Value×AV))(n:Nat)(s:SS)(dec:List Cd)(st:List (List Sk))(p:ByteArray)(n0:Nd)(l:List Nd)(V:AV)(cs:List Cd)(R O:JT)(hL:sK x roots C A n dec p n0 l V cs)(hs:Jt x roots s)(Jc:st.length=dec.length)
  (QX:Be Tryz.prog 119 [.ref 1000 0] (Aj (IZ roots C A s dec st) Ab) fun r h'=>r=.tup [vs p,sl Ba (n0::l)]∧h'=Aj (IZ roots C A s dec st) Ab)
  (p7:cs=[]) (tL:∀a,(Value.string p,a)∉C) (hR:DX (Da x roots n) x p (n0::l) n0 dec st cs s [] []=R) (ZW:O=R) :
  Be Tryz.prog 97 [.ref 1000 0] (Aj (IZ roots C A s dec st) Ab) (Yo roots C A O):=by
 obtain⟨hx,hr,hdl,hcl,hcs,hnl,hnq,hnp,hex,hcx,hcq,hcp_,hcr,hcs_,hkey,hinf0,⟨pQ,pR,pS⟩,ih⟩:=hL;have hdl:dec.length≤256:=hdl;have hcl:cs.length≤256:=hcl;have Jc:st.length=dec.length:=Jc;have xf:∀(i:Nat) (h:i<cs.length),cs[i]∈Cp x p:=fun i h=>by rw[←hcs];exact Ao h
 have oE:∀(i:Nat) (h:i<cs.length),Cn (AK (dec++[cs[i]])):=fun i h=>by unfold Cn AK;rw[Lm,Ad];simp;omega
 clear hcs
 refine Cm (Mo ⟨[9],[(6,1),(7,3),(145,1)],[],[],[],[],[],[],[],[(300001,500091000),(300026,500091000),(300029,500091000)],[1,2,5,10,11,13,14,15,16,17,19,21,22,23,24,25,26,28,29,31,32,33,35]⟩) [(1000,1000),(1001,1001),(1002,1002),(1003,1003),(1004,1004),(500,2000)] rfl CL hm rfl Tryz.func97 (by kernel_rfl) rfl (Nz rfl) (by kernel_rfl) rfl ?_;refine Yi (show st.length=(st.map AS).length by simp) ?_;refine Xi ⟨[(0,.ref 1000 0)],[(500,.arr 1 (st.map AS)),(1000,.cells (srM roots C A s dec 500 st.length)),(1001,.tok 6 s.infs.length),(1002,.tok 1 s.drv.length),(1003,.map DS (DU 0 s.infs)),(1004,.dead)],Ab⟩ (Yi ⟨Z1,Z6,Fh,Ax (by kernel_rfl)⟩ ?_)
 refine Xi (.gen Yn 0) (Yi rfl (Be.imp QX ?_));intro v1 g1 q1;have gT:=q1.1;have gU:=q1.2;subst gT;subst gU;refine Xi ⟨[(0,.ref 1000 0),(4,vs p),(5,sl Ba (n0::l))],[(500,.arr 1 (st.map AS)),(1000,.cells (srM roots C A s dec 500 st.length)),(1001,.tok 6 s.infs.length),(1002,.tok 1 s.drv.length),(1003,.map DS (DU 0 s.infs)),(1004,.dead)],Ab⟩ (Yi ⟨Z3,Z6,Fh,Ax (by kernel_rfl)⟩ ?_)
 refine Yi (fun h2=>?_) (fun h2=>?_)
 ·have h2:(((n0::l).map Ba).length:Int)=(0:Int):=h2;exact absurd h2 (by simp;omega)
 have h2:¬((((n0::l).map Ba).length:Int)=(0:Int)):=h2;refine Xi ⟨[(0,.ref 1000 0),(4,vs p),(5,sl Ba (n0::l)),(6,.slice (.id 6 1) [])],[(6,.tok 1 0),(500,.arr 1 (st.map AS)),(1000,.cells (srM roots C A s dec 500 st.length)),(1001,.tok 6 s.infs.length),(1002,.tok 1 s.drv.length),(1003,.map DS (DU 0 s.infs)),(1004,.dead)],Ab⟩ (Yi ⟨Z4,Z7,Fh,Ax (by kernel_rfl)⟩ ?_)
 refine Yi (fun a ha=>?_) (fun QZ=>?_)
 ·exact absurd ha (tL a)
 refine Xi {q:Nat×SS×List Nat×List Sk // q.1≤cs.length∧DX (Da x roots n) x p (n0::l) n0 dec st (cs.drop q.1) q.2.1 q.2.2.1 q.2.2.2=R∧Jt x roots q.2.1∧(∀r∈q.2.2.1,r<q.2.1.drv.length)∧q.2.2.1.length≤q.1∧q.2.2.2.length≤q.1} (Xi (fun q=>⟨[(0,.ref 1000 0),(4,vs p),(5,sl Ba (n0::l)),(6,.slice (.id 6 1) (q.1.2.2.1.map BO)),(7,.slice (.id 7 3) (q.1.2.2.2.map BT)),(32,.v (.slice none 0 0)),(33,vi 0),(34,vi q.1.1)],[(6,.tok 1 q.1.2.2.1.length),(7,.tok 3 q.1.2.2.2.length),(500,.arr 1 (st.map AS)),(1000,.cells (srM roots C A q.1.2.1 dec 500 st.length)),(1001,.tok 6 q.1.2.1.infs.length),(1002,.tok 1 q.1.2.1.drv.length),(1003,.map DS (DU 0 q.1.2.1.infs)),(1004,.dead)],Ab⟩) (Xi (fun q=>cs.length-q.1.1) (Yi (Xi ⟨(0,s,[],[]),AM _,hR,hs,fun r h=>(by cases h),Ak _,Ak _⟩ ?_) ?_)))
 ·exact⟨Z8,Z8,Fh,Ax (by kernel_rfl)⟩
 intro⟨⟨i,S,rs,sk⟩,j1,j2,j3,j4,j5,j6⟩;have j1:i≤cs.length:=j1;have j2:DX (Da x roots n) x p (n0::l) n0 dec st (cs.drop i) S rs sk=R:=j2;have j3:Jt x roots S:=j3;have j4:∀r∈rs,r<S.drv.length:=j4;have j5:rs.length≤i:=j5;have j6:sk.length≤i:=j6;have hw:=j3.dl;have fj:∀t∈S.drv,dB t:=fun t ht=>by have q:=j3.der.few hx hr t ht;exact⟨E4 q,q.2⟩
 refine Yi (fun h3=>?_) (fun h3=>?_)
 ·have h3:(i:Int)<(0:Int):=h3;exact absurd h3 (by have q:=j1;rw[p7,AC]at q;omega)
 have h3:¬((i:Int)<(0:Int)):=h3;refine Xi (Ba n0) (Yi (Yi (show(0:Int)≤0 by decide) rfl) (Yi rfl ?_));refine Yi (Nz rfl) ?_;refine Xi (.gen Yn 0) (Yi rfl (Be.imp (yh x roots C A S dec st p n0 rs V hx hr j3 hinf0 j4 (by omega) (hnq n0 (Aa ..)) (hnp n0 (Aa ..)) pQ pR pS) ?_));intro v4 g4 q4;have vZ:=q4.1;have v8:=q4.2;subst vZ;subst v8;have hj:¬i<cs.length:=by rw[p7];simp
 have eR:R=⟨(DY x p n0 rs S).1,false,(DY x p n0 rs S).2,dec,st⟩:=by rw[←j2];exact dV hj
 exact Xi _ (Yi (.refl _) (Na (ZW.trans eR)))
theorem wy(roots:List Rq)(C A:List (Value×AV))(s:SS)(dec:List Cd)(st:List (List Sk))(p:ByteArray)(N:List Nd)(O:JT)(hN:N=[])
  (QX:Be Tryz.prog 119 [.ref 1000 0] (Aj (IZ roots C A s dec st) Ab) fun r h'=>r=.tup [vs p,sl Ba N]∧h'=Aj (IZ roots C A s dec st) Ab) (hO:O=⟨0,true,s,dec,st⟩) :
  Be Tryz.prog 97 [.ref 1000 0] (Aj (IZ roots C A s dec st) Ab) (Yo roots C A O):=by
 refine Cm (Mo ⟨[],[],[],[],[],[],[],[],[],[(300001,500091000)],[1,2,5,10,11,13,14,15,16,17,19,21,22,23,25,28,29,31,32,33,35]⟩) [(1000,1000),(1001,1001),(1002,1002),(1003,1003),(1004,1004),(500,2000)] rfl CL hm rfl Tryz.func97 (by kernel_rfl) rfl (Nz rfl) (by kernel_rfl) rfl ?_;refine Yi (show st.length=(st.map AS).length by simp) ?_;refine Xi ⟨[(0,.ref 1000 0)],[(500,.arr 1 (st.map AS)),(1000,.cells (srM roots C A s dec 500 st.length)),(1001,.tok 6 s.infs.length),(1002,.tok 1 s.drv.length),(1003,.map DS (DU 0 s.infs)),(1004,.dead)],Ab⟩ (Yi ⟨Z1,Z6,Fh,Ax (by kernel_rfl)⟩ ?_)
 refine Xi (.gen Yn 0) (Yi rfl (Be.imp QX ?_));intro v1 g1 q1;have gT:=q1.1;have gU:=q1.2;subst gT;subst gU;refine Xi ⟨[(0,.ref 1000 0),(4,vs p),(5,sl Ba N)],[(500,.arr 1 (st.map AS)),(1000,.cells (srM roots C A s dec 500 st.length)),(1001,.tok 6 s.infs.length),(1002,.tok 1 s.drv.length),(1003,.map DS (DU 0 s.infs)),(1004,.dead)],Ab⟩ (Yi ⟨Z3,Z6,Fh,Ax (by kernel_rfl)⟩ ?_)
 refine Yi (fun h2=>?_) (fun h2=>?_)
 ·have h2:((N.map Ba).length:Int)=(0:Int):=h2;exact Xi _ (Yi (.refl _) (Na (st:=st) hO))
 have h2:¬(((N.map Ba).length:Int)=(0:Int)):=h2;exact absurd (by rw[hN];rfl) h2
section
variable {x:List Rl}{roots:List Rq}{p:ByteArray}
theorem Ib:∀(l:List Nat) {k:Nat} {s:SS},s.infs.Nodup→(Ck p l k s).2.infs.Nodup
 | [],_,_,h=>h
 |r::l,k,s,h=>by
  unfold Ck;split
  ·exact h
  split
  ·exact Ib l h
  split
  ·exact Ib l h
  ·exact Ib l (HT h)
theorem KN{needs:List Nd}{n0:Nd}{dec:List Cd}{st:List (List Sk)}{rec:List Cd→SS→List (List Sk)→JT}(bQ:∀c s st,s.infs.Nodup→(rec (dec++[c]) s st).ss.infs.Nodup) :
  ∀(cs:List Cd) {s:SS} {rs:List Nat} {sk:List Sk},s.infs.Nodup→(DX rec x p needs n0 dec st cs s rs sk).ss.infs.Nodup
 | [],s,rs,sk,h=>Ib _ (HT (HT h))
 |c::cs,s,rs,sk,h=>by
  have me:∀(s' : SS) (k:Nat),s'.infs.Nodup→(JB rec x p needs n0 dec st c cs rs sk k s').ss.infs.Nodup:=fun s' k h'=>by
   unfold JB;split
   ·exact h'
   ·exact KN bQ cs h'
  rw[Gc];split
  ·exact h
  cases needs.find? fun n=>!has n.rq.set c.place with
  |some n=>exact KN bQ cs (HT h)
  |none =>
   dsimp only;cases Oc s.drv (AK (dec++[c]))with
   |some k=>exact me s k h
   |none =>
    dsimp only;cases D3 dec c with
    |some n=>exact me _ _ (HT h)
    |none =>
     dsimp only;have h2:=bQ c s (st++[sk]) h;split
     ·exact h2
     split
     ·exact h2
     ·exact me _ _ h2
theorem OZ:∀(n:Nat) {dec:List Cd} {s:SS} {st:List (List Sk)},s.infs.Nodup→(Da x roots n dec s st).ss.infs.Nodup
 |0,_,_,_,h=>h
 |n+1,dec,s,st,h=>by
  unfold Da;cases (GC roots dec).2 with
  |nil=>exact h
  |cons n0 l=>exact KN (fun c s st h=>OZ n h) _ h
structure sJ(x:List Rl)(roots:List Rq)(C A:List (Value×AV)):Prop where
 hx:A9 x=0
 hr:BS roots=0
 fx:∀r∈x,Ka r
 fr:∀q∈roots,NT q
 c1:∀(p:ByteArray) (a:AV),(Value.string p,a)∈C→a=sl AE (Cp x p)
 c2:∀p:ByteArray,(∀a,(Value.string p,a)∉C)→Cp x p=[]
 c3:∀p:ByteArray,Cp x p=[]→∀a,(Value.string p,a)∉C
 av:∀p:ByteArray,∃V,HV x A p V
theorem mO{dec:List Cd}(h:∀c∈dec,c.rel.reqs.length≤16):((dec.map fun c=>c.rel.reqs).flatten).length≤16*dec.length:=by
 induction dec with
 |nil=>simp
 |cons c dec ih =>
  rw[AP,Bz,Ad,At]
  have:=h c (Aa ..)
  have:=ih fun d hd=>h d (Af _ hd)
  omega
theorem nO{r:Rl}(h:RD r):0≤plc r.ver∧plc r.ver<1000000:=by rw[h.plc];exact Jl h.val
theorem cw(dec:List Cd):(GC roots dec).2.length≤(Ds roots dec).length:=by
 rw[Tc];cases Kz (HG roots dec) (AK dec)with
 |none=>simp
 |some q=>exact BE _ _
theorem yf{C A:List (Value×AV)}(hE:sJ x roots C A)(mQ:yn roots C A):∀(n:Nat) {dec:List Cd} {s:SS} {st:List (List Sk)},ED x dec→IG roots dec→Jt x roots s→s.full=false→Qx x dec<n→st.length=dec.length →
  Be Tryz.prog 97 [.ref 1000 0] (Aj (IZ roots C A s dec st) Ab) (Yo roots C A (Da x roots n dec s st))
 |0,_,_,_,_,_,_,_,h,_=>by omega
 |n+1,dec,s,st,hd,bR,hs,hf,hn,Jc=>by
  have hx:=hE.hx;have hr:=hE.hr;have lK:=PD hx;have hdl:=W0 hd;have ug:dec.length≤256:=by have:=lK.1;omega
  have Wx:∀c∈dec,c.rel.reqs.length≤16:=fun c hc=>lK.2 _ (hd.cand c hc).1;have QX:=mQ s dec st (by omega) fun c hc=>A5 (Wx c hc) (by decide);generalize hO:Da x roots (n+1) dec s st=O;obtain⟨N,hN⟩:∃N,N=(GC roots dec).2:=⟨_,rfl⟩;obtain⟨q,hq⟩:∃q,q=(GC roots dec).1:=⟨_,rfl⟩;rw[←hN,←hq]at QX;have yZ:N.length≤10000:=by
   have h1:=cw (roots:=roots) dec;have h2:(Ds roots dec).length=(HG roots dec).length:=by rw[←My,Lm]
   have h3:=mO Wx;have h4:=OU hr;rw[←hN]at h1;unfold HG at h2;rw[Ad]at h2;omega
  cases hNc:N with
  |nil =>
   rw[hNc]at hN QX;refine wy roots C A s dec st q [] O rfl QX ?_;rw[←hO];unfold Da;rw[←hN]
  |cons n0 l =>
   rw[hNc]at hN QX;have ll:=NH hN.symm;rw[←hq]at ll;have QY:∀nd∈n0::l,nd∈Ds roots dec:=fun nd h=>((ll.mem nd).1 h).1;have Gw:=(Cz hx).1;have few:∀{E:List Cd},ED x E→∀nd∈Ds roots E,Cn nd.rq.set∧BY (nd.place+1):=fun yS nd h=>by
    rcases L4 h with ⟨k,r,h1,rfl⟩ | ⟨c,hc,k,r,h1,rfl⟩
    ·exact⟨(hE.fr r (Av h1)).1,by unfold BY;show -9223372036854775808≤(0:Int)+1∧(0:Int)+1<9223372036854775808;decide⟩
    ·have h2:=yS.cand c hc;have h3:=nO (Gw _ h2.1);rw[←h2.2.2]at h3;exact⟨((hE.fx _ h2.1).2 r (Av h1)).1,by unfold BY;show _≤c.place+1∧c.place+1<_;omega⟩
   have lJ:∀c∈Cp x q,ED x (dec++[c])∧c.rel.path=q∧c.rel∈x:=fun c hc=>by
    obtain⟨c1,c2⟩:=JC hc;exact⟨hd.snoc c2 (by rw[c1];exact ll.undone),c1,c2.1⟩
   have Fb:∀(i:Nat) (h:i<(Cp x q).length),(Cp x q)[i]∈Cp x q:=fun i h=>Ao h;obtain⟨V,hV⟩:=hE.av q
   have hL:sK x roots C A n dec q n0 l V (Cp x q):={
    hx:=hx
    hr:=hr
    hdl:=ug
    hcl:=A5 (Uv x q) lK.1
    hcs:=rfl
    hnl:=by rw[hNc]at yZ;omega
    hnq:=fun nd h=>(few hd nd (QY nd h)).1
    hnp:=fun nd h=>(few hd nd (QY nd h)).2
    hex:=fun i h nd hm hh=>by
     obtain⟨a,b,_⟩:=lJ _ (Fb i h);exact⟨(OK hx hr a (NE (QY nd hm)) ⟨(Cp x q)[i],by simp,b.trans ((ll.mem nd).1 hm).2.symm,hh⟩).1,trivial⟩
    hcx:=fun i h nc hc=>by
     obtain⟨a,b,_⟩:=lJ _ (Fb i h);obtain⟨m1,m2⟩:=KR hc;exact⟨(OK hx hr a (Mz m1) m2).1,trivial⟩
    hcq:=fun i h nc hm=>(few (lJ _ (Fb i h)).1 nc (Mz hm)).1
    hcp_:=fun i h nc hm=>(few (lJ _ (Fb i h)).1 nc (Mz hm)).2
    hcr:=fun i h=>by have:=lK.2 _ (lJ _ (Fb i h)).2.2;omega
    hcs_:=fun i h r hm=>((hE.fx _ (lJ _ (Fb i h)).2.2).2 r hm).1
    hkey:=fun i h=>by
     have b:=(lJ _ (Fb i h)).2.1;unfold AK;rw[AH,AH];show _=_++[[vs (Cp x q)[i].rel.path,vi (Cp x q)[i].rel.ver.a,vi (Cp x q)[i].rel.ver.b,vi (Cp x q)[i].rel.ver.c]];rw[b]
    hinf0:=(Rk hx hr hd (QY n0 (Aa ..)) (.inl (by
     rw[((ll.mem n0).1 (Aa ..)).2];exact Hu (by rw[FP];exact ll.undone)))).inf
    hV:=hV
    ih:=fun c hc uB S D4 hl hS w8=>by
     obtain⟨a,b,c3⟩:=lJ c hc;obtain⟨k1,k2⟩:=OQ.1 uB;obtain⟨_,c2⟩:=JC hc;have lI:=bR.snoc ll b k1 k2;have lx:Qx x (dec++[c])<n:=by have:=Sp (dec:=dec) ⟨c2.1,c2.2.1⟩ (by rw[b];exact ll.undone);omega
     have h1:=yf hE mQ n a lI hS w8 lx (st:=D4) (by rw[hl];simp);have h2:=PV hx hr n a lI hS.der w8 lx (st:=D4);exact⟨h1,⟨h2.der,OZ n hS.nodup⟩,⟨h2.grow.len,fun e1 e2=>((h2.no e1).2.2 e2).1⟩,fun e1=>(h2.no e1).2.1⟩ }
   have hR:DX (Da x roots n) x q (n0::l) n0 dec st (Cp x q) s [] []=O:=by
    rw[←hO]
    conv=>rhs;unfold Da
    rw[←hN,hq]
   by_cases hm:∀a,(Value.string q,a)∉C
   ·exact ww x roots C A n s dec st q n0 l V (Cp x q) O O hL hs Jc QX (hE.c2 q hm) hm hR rfl
   ·exact wv x roots C A n s dec st q n0 l V (Cp x q) O O hL hs Jc QX (hE.c1 q) hm hR rfl
end
theorem wx{x:List Rl}{roots:List Rq}{C A:List (Value×AV)}(hE:sJ x roots C A)(n:Nat){dec:List Cd}{s:SS}{st:List (List Sk)}(h1:ED x dec)(h2:IG roots dec)(h3:Jt x roots s)(h4:s.full=false)(h5:Qx x dec<n)(h6:st.length=dec.length) :
  Be Tryz.prog 97 [.ref 1000 0] (Aj (IZ roots C A s dec st) Ab) (Yo roots C A (Da x roots n dec s st)) :=
 yf hE (fun s dec st a b=>s64 roots C A s dec st (A5 (OU hE.hr) (by decide)) a b) n h1 h2 h3 h4 h5 h6
def GI(x:List Rl)(roots:List Rq):Bool:=decide (A9 x=0)&&decide (BS roots=0)
theorem sD(x:List Rl)(ifs:List (List AV))(roots:List Rq)(hx:∀r∈x,Ka r)(hr:∀q∈roots,NT q):PC 95 [.agg (Ic x ifs),sl AN roots] (vb (GI x roots)):=by
 refine Ps ⟨[2],[],[],[],[],[],[],[],[],[],[]⟩ Tryz.func95 rfl (Nz rfl) ?_;refine Yi (Nz rfl) ?_;refine Xi .pure (Xi _ (Yi (pt YA x ifs hx) ?_));refine Yi (fun h1=>?_) (fun h1=>?_)
 ·have h1:((A9 x):Int)=(0:Int):=h1;refine Xi .pure (Xi _ (Yi (wK YA roots hr) ?_));refine Yi (fun h2=>?_) (fun h2=>?_)
  ·have h2:((BS roots):Int)=(0:Int):=h2;exact .of_eq (show vb true=vb (GI x roots) by unfold GI;rw[h1,h2];rfl)
  have h2:¬(((BS roots):Int)=(0:Int)):=h2;exact .of_eq (show vb false=vb (GI x roots) by unfold GI;rw[Ap h2,DH])
 have h1:¬(((A9 x):Int)=(0:Int)):=h1;exact .of_eq (show vb false=vb (GI x roots) by unfold GI;rw[Ap h1];rfl)
abbrev Qs(r:Rl):List AV:=AE ⟨plc r.ver,r⟩
abbrev Gj(y:List Rl)(p:ByteArray):List (List AV):=(y.filter fun r=>decide (r.path=p)).map Qs
abbrev Xl(y:List Rl)(q:ByteArray×Nat):Value×AV:=(.string q.1,.slice (.id (q.2+100) 10) (Gj y q.1))
abbrev Iq(y:List Rl):List (Value×AV):=(AQ y []).zipIdx.map (Xl y)
def F4(y:List Rl)(l:Nat):HO:=match(AQ y [])[l]? with
 |some q=>.tok 10 (Gj y q).length
 |none=>.free
def IV(y:List Rl)(j:Nat):HO:=bif Nat.ble 100 j&&Nat.blt j 1000 then F4 y (j-100)else .free
theorem EX(y:List Rl)(hy:y.length≤256)(l:Nat):IV y (l+100)=F4 y l:=by
 unfold IV;rw[show Nat.ble 100 (l+100)=true by rw[Db];omega,EB,Nat.add_sub_cancel]
 by_cases h:l+100<1000
 ·rw[show Nat.blt (l+100) 1000=true by rw[Cj];exact h];rfl
 ·rw[show Nat.blt (l+100) 1000=false by rw[AI];intro hc;rw[Cj]at hc;omega]
  have:=Hc y []
  rw[AC]at this;unfold F4;rw[A6 (by omega)];rfl
theorem jI(y:List Rl){j:Nat}(h:j<100):IV y j=.free:=by
 unfold IV;rw[show Nat.ble 100 j=false by rw[AI];intro hc;rw[Db]at hc;omega];rfl
theorem Hb(y:List Rl)(r:Rl)(q:ByteArray):Gj (y++[r]) q=if r.path=q then Gj y q++[Qs r]else Gj y q:=by
 unfold Gj;rw[Ej]
 by_cases h:r.path=q
 ·rw[Az h,RA (by simpa using h)];simp
 ·rw[Al h,Rz (by simpa using h)];simp
section
variable {y:List Rl}{r:Rl}{k:Nat}
open Classical in
theorem eT(h:(AQ y [])[k]?=some r.path):EP (Iq y) (.string r.path) (.slice (.id (k+100) 10) (Gj y r.path++[Qs r]))=Iq (y++[r]):=by
 have hd:=EM y [] E7;have hm:Xl y (r.path,k)∈Iq y:=Am.2 ⟨_,Fw.2 h,rfl⟩;rw[XQ (a':=.slice (.id (k+100) 10) (Gj y r.path)) hm];unfold Iq;rw[I5 h,BP];refine Bf fun q hq=>?_;have hg:=Ih hq;obtain⟨q,j⟩:=q;show(if Value.string q=Value.string r.path then _ else _)=Xl (y++[r]) (q,j);have hg:(AQ y [])[j]?=some q:=hg
 by_cases he:q=r.path
 ·subst he
  have:j=k:=I2 hd hg h
  subst this;rw[Az rfl];show _=(Value.string r.path,AV.slice (.id (j+100) 10) (Gj (y++[r]) r.path));rw[Hb,Az rfl]
 ·rw[Al (fun e=>he (by simpa using e))];show(Value.string q,AV.slice (.id (j+100) 10) (Gj y q))=(Value.string q,AV.slice (.id (j+100) 10) (Gj (y++[r]) q));rw[Hb,Al (fun e=>he e.symm)]
theorem XX(h:r.path∉AQ y []):Gj y r.path=[]:=by
 have:y.filter (fun s=>decide (s.path=r.path))=[]:=by
  rw[Hg];intro s hs he;exact h ((Hd y [] r.path).2 (.inr ⟨s,hs,BG he⟩))
 unfold Gj;rw[this];rfl
theorem UK(h:r.path∉AQ y [])(a:AV):(Value.string r.path,a)∉Iq y:=by
 intro hc;obtain⟨q,h1,h2⟩:=Am.1 hc;simp only[Xl,FK,Value.string.injEq]at h2;exact h (by rw[←h2.1];exact Av (Ih h1))
theorem eS(h:r.path∉AQ y []):EP (Iq y) (.string r.path) (.slice (.id ((AQ y []).length+100) 10) [Qs r])=Iq (y++[r]):=by
 rw[L3 (fun a=>UK h a)];unfold Iq;rw[I4 h,List.zipIdx_append,AH]
 congr 1
 ·refine Bf fun q hq=>?_;have hg:=Ih hq
  have:q.1≠r.path:=fun e=>h (by rw[←e];exact Av hg)
  show(Value.string q.1,AV.slice (.id (q.2+100) 10) (Gj y q.1))=(Value.string q.1,AV.slice (.id (q.2+100) 10) (Gj (y++[r]) q.1));rw[Hb,Al (fun e=>this e.symm)]
 ·show [_]=[(Value.string r.path,AV.slice (.id (0+(AQ y []).length+100) 10) (Gj (y++[r]) r.path))];rw[Hb,Az rfl,XX h,Bk];rfl
theorem bI{p:ByteArray}{j:Nat}(h:(AQ y [])[j]?=some p):(Value.string p,AV.slice (.id (j+100) 10) (Gj y p))∈Iq y∧∀b,(Value.string p,b)∈Iq y→b=AV.slice (.id (j+100) 10) (Gj y p):=by
 refine⟨Am.2 ⟨(p,j),Fw.2 h,rfl⟩,fun b hb=>?_⟩;obtain⟨q,h1,h2⟩:=Am.1 hb;simp only[Xl,FK,Value.string.injEq]at h2;have hg:=Ih h1;rw[h2.1]at hg
 have:=I2 (EM y [] E7) hg h
 rw[←h2.2,h2.1,this]
theorem aO{p:ByteArray}{j:Nat}(h:(AQ y [])[j]?=some p):F4 y j=.tok 10 (Gj y p).length:=by
 unfold F4;rw[h]
theorem iz(h:(AQ y [])[k]?=some r.path)(l:Nat):(bif Nat.beq (l+100) (k+100)then HO.tok 10 ((Gj y r.path).length+1)else F4 y l)=F4 (y++[r]) l:=by
 by_cases he:l=k
 ·subst he;rw[show Nat.beq (l+100) (l+100)=true from CV _];unfold F4;rw[I5 h,h];show HO.tok 10 _=HO.tok 10 (Gj (y++[r]) r.path).length;rw[Hb,Az rfl,Ad];rfl
 ·rw[show Nat.beq (l+100) (k+100)=false by rw[AI];intro hc;have:=AL hc;omega];show F4 y l=_;unfold F4;rw[I5 h];cases hq:(AQ y [])[l]? with
  |none=>rfl
  |some q =>
   show HO.tok 10 (Gj y q).length=HO.tok 10 (Gj (y++[r]) q).length;rw[Hb,Al];intro e;subst e;exact he (I2 (EM y [] E7) hq h)
theorem iy(h:r.path∉AQ y [])(l:Nat):(bif Nat.beq (l+100) ((AQ y []).length+100)then HO.tok 10 1 else F4 y l)=F4 (y++[r]) l:=by
 by_cases he:l=(AQ y []).length
 ·subst he;rw[show Nat.beq ((AQ y []).length+100) ((AQ y []).length+100)=true from CV _];unfold F4;rw[I4 h];simp only[A4 (Ak _),Ga,A8];show HO.tok 10 1=HO.tok 10 (Gj (y++[r]) r.path).length;rw[Hb,Az rfl,XX h];rfl
 ·rw[show Nat.beq (l+100) ((AQ y []).length+100)=false by rw[AI];intro hc;have:=AL hc;omega];show F4 y l=_;unfold F4;rw[I4 h]
  by_cases hl:l<(AQ y []).length
  ·rw[AY hl,Ge hl];show HO.tok 10 (Gj y (AQ y [])[l]).length=HO.tok 10 (Gj (y++[r]) (AQ y [])[l]).length;rw[Hb,Al];intro e;exact h (by rw[e];exact Ao hl)
  ·rw[A6 (by omega),A6 (by rw[Ad];simp;omega)]
end
theorem Ht(y:List Rl){h:Nat→HO}(hh:∀l,h (l+100)=F4 y l):QA h (Iq y)=true:=by
 refine Pz fun p hp=>?_;obtain⟨q,h1,rfl⟩:=Am.1 hp;show Ra h (q.2+100)=true;unfold Ra;rw[hh,aO (Ih h1)]
theorem Gv{y:List Rl}(hy:y.length≤256){h h' : Nat→HO}(hh:∀l,h (l+100)=F4 y l)(j:Nat):IV y j=.free∨(h j=IV y j∧Xw h' (IV y j)=true):=by
 by_cases hj:j<100
 ·exact .inl (jI y hj)
 ·obtain⟨l,rfl⟩:∃l,j=l+100:=⟨j-100,by omega⟩
  right
  rw[EX y hy];refine⟨hh l,?_⟩;unfold F4;cases (AQ y [])[l]?<;>rfl
abbrev yR(x:List Rl):List Rl:=x.filter fun r=>!r.yanked
theorem Zg(x:List Rl)(p:ByteArray):Gj (yR x) p=(Cp x p).map AE:=by
 unfold Gj Cp;rw[List.filter_filter,BP]
 rfl
def mC(x:List Rl):List (Value×AV):=(AQ (yR x) []).map fun p=>(.string p,sl AE (Cp x p))
theorem fW{x:List Rl}{p:ByteArray}{a:AV}:(Value.string p,a)∈mC x↔p∈AQ (yR x) []∧a=sl AE (Cp x p):=by
 unfold mC;rw[Am];constructor
 ·rintro⟨q,hq,e⟩
  injection e with e1 e2
  injection e1 with e1
  subst e1;exact⟨hq,e2.symm⟩
 ·rintro⟨h1,h2⟩
  exact⟨p,h1,by rw[h2]⟩
theorem Uw{x:List Rl}{p:ByteArray}:Cp x p=[]↔p∉AQ (yR x) []:=by
 rw[Hd];unfold Cp;rw[Dr,Hg];constructor
 ·rintro h (h1 | ⟨r,h1,h2⟩)
  ·cases h1
  ·obtain⟨h3,h4⟩:=Bx.1 h1;exact h r h3 (by rw[Aw h2,h4];rfl)
 ·intro h r hr hc;rw[Ag,AA]at hc;exact h (.inr ⟨r,Bx.2 ⟨hr,hc.2⟩,hc.1⟩)
theorem qN(x:List Rl):∀(p:ByteArray) (a:AV),(Value.string p,a)∈mC x→a=sl AE (Cp x p):=fun _ _ h=>(fW.1 h).2
theorem qO(x:List Rl):∀p:ByteArray,(∀a,(Value.string p,a)∉mC x)→Cp x p=[]:=fun _ h=>Uw.2 fun hp=>h _ (fW.2 ⟨hp,rfl⟩)
theorem qP(x:List Rl):∀p:ByteArray,Cp x p=[]→∀a,(Value.string p,a)∉mC x:=fun _ h _ ha=>Uw.1 h (fW.1 ha).1
abbrev plN:TM:=⟨[2],[],[],[(52,[12])],[],[12],[50],[(53,(16,3,90,6)),(54,(16,4,91,1)),(55,(16,7,93,10)),(56,(16,8,94,4))],[],[(850013,13),(800013,10016),(810013,20016),(900013,10000000000+92000000+90016)],[5,7,8,9,11,12,13]⟩
abbrev kC(x:List Rl)(p:ByteArray):Value×AV:=(.string p,sl AE (Cp x p))
abbrev kA(x:List Rl)(p:ByteArray):Value×AV:=(.string p,sl Aq (B8 x p))
theorem kj{x:List Rl}{l:List ByteArray}{kv:Value×AV}{NJ : List (Value×AV)}(h:(l.map (kC x)).Perm (kv::NJ)):∃t r,kv=kC x t∧NJ=r.map (kC x)∧l.Perm (t::r):=by
 obtain⟨ps,h1,h2⟩:=L7 h l rfl;cases ps with
 |nil=>cases h2
 |cons t r =>
  rw[AP,Fs]at h2;exact⟨t,r,h2.1.symm,h2.2.symm,h1.symm⟩
abbrev srN(roots:List Rq)(C A:List (Value×AV)):List (Nat×HO) :=
 [(2000,.cells [sl AN roots,.cmap C3 C,.cmap C3 A,.slice (.id 2001 6) [],.slice (.id 2002 1) [],.mref 2003,vb false,.slice .none [],.slice .none [],.msl 2004 0]),(2001,.tok 6 0),(2002,.tok 1 0),(2003,.map DS []),(2004,.arr 1 [])]
theorem V8{x:List Rl}{l:List ByteArray}{p:ByteArray}{a:AV}:(Value.string p,a)∈l.map (kA x)↔p∈l∧a=sl Aq (B8 x p):=by
 rw[Am];constructor
 ·rintro⟨q,hq,e⟩
  injection e with e1 e2
  injection e1 with e1
  subst e1;exact⟨hq,e2.symm⟩
 ·rintro⟨h1,h2⟩
  exact⟨p,h1,by rw[h2]⟩
theorem ZY(y:List Rl)(n:Nat):IV y (n+1000)=.free:=by
 unfold IV;rw[show Nat.blt (n+1000) 1000=false by rw[AI];intro hc;rw[Cj]at hc;omega,DH];rfl
theorem VP{h s:Nat→HO}(H:∀n,h (n+1000)=.free):∀j,1000≤j→j<2000→h j≠.free→s j≠.free:=fun j h1 _ hn=>by
 refine absurd (H (j-1000)) ?_;rw[show j-1000+1000=j by omega];exact hn
theorem jf{n k:Nat}(h:k<1000):Nat.beq (n+1000) k=false:=by
 rw[AI];intro hc;have:=AL hc;omega
theorem ZK{y:List Rl}{n k:Nat}{o:HO}(h:k<1000):(bif Nat.beq (n+1000) k then o else IV y (n+1000))=.free:=by
 rw[jf h,ZY];rfl
attribute [local irreducible] H9
set_option maxRecDepth 30000 in
theorem wu(x:List Rl)(ifs:List (List AV))(roots:List Rq)(hx:∀r∈x,Ka r)(h0:A9 x=0):Be Tryz.prog 96 [Rb x ifs,sl AN roots] (Aj [] Ab) fun r h'=>∃l:List ByteArray,l.Perm (AQ (yR x) [])∧r=.ref 2000 0∧h'=Aj (srN roots (mC x) (l.map (kA x))) Ab:=by
 have lK:x.length≤256:=(PD h0).1;refine Cm (Mo plN) [(16,2000),(90,2001),(91,2002),(14,2003),(92,2004)] rfl CL hm rfl Tryz.func96 (by kernel_rfl) rfl (Nz rfl) (by kernel_rfl) rfl ?_;refine Xi 0 ?_;refine Xi 0 ?_;refine Xi 0 ?_;refine Xi {i:Nat // i≤x.length} (Xi (fun i=>⟨[(2,.ref 2 0),(5,.ref 16 0),(18,sl Ah x),(19,vi (x.map Ah).length),(20,vi i.1)],[(2,.ro (Ic x ifs)),(12,.mapU C3 (Iq (yR (x.take i.1)))),(13,.map C3 []),(14,.map DS []),(16,.cells [sl AN roots,.mref 12,.mref 13,.v (.slice none 0 0),.v (.slice none 0 0),.mref 14,vb false,.v (.slice none 0 0),.v (.slice none 0 0),.v (.slice none 0 0)])],IV (yR (x.take i.1))⟩) (Xi (fun i=>x.length-i.1) (Yi (Xi ⟨0,AM _⟩ ?_) ?_)))
 ·refine⟨Z5,Z5,fun j=>.inl ?_,Ax (by kernel_rfl)⟩;show IV [] j=.free;unfold IV;cases (Nat.ble 100 j&&Nat.blt j 1000)<;>rfl
 intro⟨i,i1⟩;have i1:i≤x.length:=i1;have hq:∀k,(yR (x.take k)).length≤256:=fun k=>by
  have:=BE (fun r:Rl=>!r.yanked) (x.take k)
  rw[AJ]at this;show(List.filter _ _).length≤256;omega
 refine Xi 0 ?_;refine Yi ?_ ?_
 ·intro h;have h:(i:Int)<(x.map Ah).length:=h;have h:i<x.length:=by simpa using h
  have hg:x[i]?=some x[i]:=Ge h;have Kt:x.take (i+1)=x.take i++[x[i]]:=by rw[Bu,hg];rfl
  refine Xi 0 ?_;refine Xi (Ah x[i]) (Yi (Yi (Nn i) (by simp[hg])) (Yi rfl ?_));refine Yi (Nz rfl) (Yi (Nz rfl) ?_);refine Xi ⟨[(2,.ref 2 0),(5,.ref 16 0),(7,.ref 7 0),(18,sl Ah x),(19,vi (x.map Ah).length),(20,vi i)],[(2,.ro (Ic x ifs)),(7,.cells (Ah x[i])),(12,.mapU C3 (Iq (yR (x.take i)))),(13,.map C3 []),(14,.map DS []),(16,.cells [sl AN roots,.mref 12,.mref 13,.v (.slice none 0 0),.v (.slice none 0 0),.mref 14,vb false,.v (.slice none 0 0),.v (.slice none 0 0),.v (.slice none 0 0)])],IV (yR (x.take i))⟩ (Yi ?_ ?_)
  ·exact⟨Z6,⟨Zr,Zr,⟨rfl,Ht _ (EX _ (hq _))⟩,Zr,Zr,Zr,Tv⟩,Gv (hq _) (EX _ (hq _)),Ax (by kernel_rfl)⟩
  refine Xi 0 ?_;refine Yi (fun hy=>?_) (fun hy=>?_)
  ·have hy:x[i].yanked=true:=hy;have ey:yR (x.take (i+1))=yR (x.take i):=by
    unfold yR;rw[Kt,Ej,Rz (by rw[hy];decide)];simp
   refine Xi ⟨[(2,.ref 2 0),(5,.ref 16 0),(18,sl Ah x),(19,vi (x.map Ah).length),(20,vi i)],[(2,.ro (Ic x ifs)),(12,.mapU C3 (Iq (yR (x.take (i+1))))),(13,.map C3 []),(14,.map DS []),(16,.cells [sl AN roots,.mref 12,.mref 13,.v (.slice none 0 0),.v (.slice none 0 0),.mref 14,vb false,.v (.slice none 0 0),.v (.slice none 0 0),.v (.slice none 0 0)])],IV (yR (x.take (i+1)))⟩ (Yi ?_ ?_)
   ·rw[ey];exact⟨Z5,⟨Zr,⟨rfl,Ht _ (EX _ (hq _))⟩,Zr,Zr,Zr,Tv⟩,Gv (hq _) (EX _ (hq _)),Ax (by kernel_rfl)⟩
   refine Xi 0 ?_;refine Yi (Ii i (by omega)) ?_;refine Xi ⟨i+1,by omega⟩ ?_;exact⟨Dl x.length i (by omega),Z5,⟨Zr,⟨rfl,Ht _ (EX _ (hq _))⟩,Zr,Zr,Zr,Tv⟩,Gv (hq _) (EX _ (hq _)),Ax (by kernel_rfl)⟩
  have hy:x[i].yanked=false:=hy;refine Xi 0 ?_;refine Yi (Nz rfl) ?_;refine Xi .pure (Xi _ (Yi (rM x[i].ver) ?_));refine Xi ⟨[(2,.ref 2 0),(5,.ref 16 0),(7,.ref 7 0),(8,vi (plc x[i].ver)),(18,sl Ah x),(19,vi (x.map Ah).length),(20,vi i)],[(2,.ro (Ic x ifs)),(7,.cells (Ah x[i])),(12,.mapU C3 (Iq (yR (x.take i)))),(13,.map C3 []),(14,.map DS []),(16,.cells [sl AN roots,.mref 12,.mref 13,.v (.slice none 0 0),.v (.slice none 0 0),.mref 14,vb false,.v (.slice none 0 0),.v (.slice none 0 0),.v (.slice none 0 0)])],IV (yR (x.take i))⟩ (Yi ?_ ?_)
  ·exact⟨Z7,⟨Zr,Zr,⟨rfl,Ht _ (EX _ (hq _))⟩,Zr,Zr,Zr,Tv⟩,Gv (hq _) (EX _ (hq _)),Ax (by kernel_rfl)⟩
  have ey:yR (x.take (i+1))=yR (x.take i)++[x[i]]:=by
   unfold yR;rw[Kt,Ej,RA (by rw[hy];decide)];rfl
  have hyl:(yR (x.take i)).length≤256:=by
   have:=BE (fun r:Rl=>!r.yanked) (x.take i)
   rw[AJ]at this;show(List.filter _ _).length≤256;omega
  have hP:∀l,IV (yR (x.take i)) (l+100)=F4 (yR (x.take i)) l:=EX _ (hq _);refine BN (Classical.em (x[i].path∈AQ (yR (x.take i)) [])) (fun hp=>?_) (fun hp=>?_)
  ·refine Do (B9.1 hp) (fun k hk=>?_);have hu:=bI hk;have hl:(Gj (yR (x.take i)) x[i].path).length≤256:=by
    rw[Lm];exact A5 (BE _ _) hyl
   have qj:k<256:=by
    have:=(As.1 hk).1
    have:=Hc (yR (x.take i)) []
    simp only[AC]at this;omega
   have hr:IV (yR (x.take i)) (k+100)=.tok 10 (Gj (yR (x.take i)) x[i].path).length:=by rw[hP,aO hk]
   refine Xi 0 ?_;refine Or.inl (Xi (.slice (.id (k+100) 10) (Gj (yR (x.take i)) x[i].path)) (Yi hu ?_));refine Yi (Nz rfl) ?_;refine Qp (e:=162) (m:=9) (es2:=[Qs x[i]]) rfl rfl rfl (fun _ h=>h) hr ⟨rfl,trivial⟩ (by show(_+1)*128≤_;omega) (by show _+1≤_;omega) ?_;refine Yi (IT ⟨A1 _,A1 _,A1 _,A1 _,A1 _,A1 _,A1 _,A1 _,A1 _,A1 _,A1 _,A1 _,A1 _,A1 _,A1 _,A1 _,D2 (show 49<10000000 by decide),D2 (by show _+100<10000000;omega),D2 (show 12<10000000 by decide),trivial⟩ (by kernel_rfl)) ?_;have e9:EP (Iq (yR (x.take i))) (.string x[i].path) (.slice (.id (k+100) 10) (Gj (yR (x.take i)) x[i].path++[Qs x[i]]))=Iq (yR (x.take (i+1))):=by rw[ey];exact eT hk
   have hG:∀l,(bif Nat.beq (l+100) (k+100)then HO.tok 10 ((Gj (yR (x.take i)) x[i].path).length+1)else F4 (yR (x.take i)) l)=F4 (yR (x.take (i+1))) l:=by rw[ey];exact iz hk
   refine Xi ⟨[(2,.ref 2 0),(5,.ref 16 0),(18,sl Ah x),(19,vi (x.map Ah).length),(20,vi i)],[(2,.ro (Ic x ifs)),(12,.mapU C3 (Iq (yR (x.take (i+1))))),(13,.map C3 []),(14,.map DS []),(16,.cells [sl AN roots,.mref 12,.mref 13,.v (.slice none 0 0),.v (.slice none 0 0),.mref 14,vb false,.v (.slice none 0 0),.v (.slice none 0 0),.v (.slice none 0 0)])],IV (yR (x.take (i+1)))⟩ (Yi ?_ ?_)
   ·refine⟨Z5,⟨Zr,⟨Ac (HO.mapU C3) e9,Ht _ (EX _ (hq _))⟩,Zr,Zr,Zr,Tv⟩,Gv (hq _) (fun l=>?_),VP (fun n=>?_)⟩
    ·show(bif Nat.beq (l+100) (k+100)then HO.tok 10 ((Gj (yR (x.take i)) x[i].path).length+1)else IV (yR (x.take i)) (l+100))=_;rw[hP];exact hG l
    ·exact ZK (y:=yR (x.take i)) (show k+100<1000 by omega)
   refine Xi 0 ?_;refine Yi (Ii i (by omega)) ?_;refine Xi ⟨i+1,by omega⟩ ?_;exact⟨Dl x.length i (by omega),Z5,⟨Zr,⟨rfl,Ht _ (EX _ (hq _))⟩,Zr,Zr,Zr,Tv⟩,Gv (hq _) (EX _ (hq _)),Ax (by kernel_rfl)⟩
  ·have Ll:(AQ (yR (x.take i)) []).length≤256:=by
    have:=Hc (yR (x.take i)) []
    simp only[AC]at this;omega
   have hn:=UK hp;have hr:IV (yR (x.take i)) ((AQ (yR (x.take i)) []).length+100)=.free:=by
    rw[hP];unfold F4;rw[A6 (Ak _)]
   refine Xi ((AQ (yR (x.take i)) []).length+100) ?_;refine Or.inr (Yi hn ?_);refine Yi (Nz rfl) ?_;refine Qo (e:=162) (m:=9) (es2:=[Qs x[i]]) rfl rfl rfl (fun _ h=>h) hr rfl ⟨rfl,trivial⟩ (by show 1*128≤_;omega) (by show 1≤_;omega) ?_;refine Yi (IT ⟨A1 _,A1 _,A1 _,A1 _,A1 _,A1 _,A1 _,A1 _,A1 _,A1 _,A1 _,A1 _,A1 _,A1 _,A1 _,A1 _,D2 (show 49<10000000 by decide),D2 (by show _+100<10000000;omega),D2 (show 12<10000000 by decide),trivial⟩ (by kernel_rfl)) ?_;have e9:EP (Iq (yR (x.take i))) (.string x[i].path) (.slice (.id ((AQ (yR (x.take i)) []).length+100) 10) [Qs x[i]])=Iq (yR (x.take (i+1))):=by rw[ey];exact eS hp
   have hG:∀l,(bif Nat.beq (l+100) ((AQ (yR (x.take i)) []).length+100)then HO.tok 10 1 else F4 (yR (x.take i)) l)=F4 (yR (x.take (i+1))) l:=by rw[ey];exact iy hp
   refine Xi ⟨[(2,.ref 2 0),(5,.ref 16 0),(18,sl Ah x),(19,vi (x.map Ah).length),(20,vi i)],[(2,.ro (Ic x ifs)),(12,.mapU C3 (Iq (yR (x.take (i+1))))),(13,.map C3 []),(14,.map DS []),(16,.cells [sl AN roots,.mref 12,.mref 13,.v (.slice none 0 0),.v (.slice none 0 0),.mref 14,vb false,.v (.slice none 0 0),.v (.slice none 0 0),.v (.slice none 0 0)])],IV (yR (x.take (i+1)))⟩ (Yi ?_ ?_)
   ·refine⟨Z5,⟨Zr,⟨Ac (HO.mapU C3) e9,Ht _ (EX _ (hq _))⟩,Zr,Zr,Zr,Tv⟩,Gv (hq _) (fun l=>?_),VP (fun n=>?_)⟩
    ·show(bif Nat.beq (l+100) ((AQ (yR (x.take i)) []).length+100)then HO.tok 10 1 else IV (yR (x.take i)) (l+100))=_;rw[hP];exact hG l
    ·exact ZK (y:=yR (x.take i)) (show(AQ (yR (x.take i)) []).length+100<1000 by omega)
   refine Xi 0 ?_;refine Yi (Ii i (by omega)) ?_;refine Xi ⟨i+1,by omega⟩ ?_;exact⟨Dl x.length i (by omega),Z5,⟨Zr,⟨rfl,Ht _ (EX _ (hq _))⟩,Zr,Zr,Zr,Tv⟩,Gv (hq _) (EX _ (hq _)),Ax (by kernel_rfl)⟩
 ·intro h;have h:¬(i:Int)<(x.map Ah).length:=h;have h:¬i<x.length:=by simpa using h
  have et:x.take i=x:=AT (by omega);have eM:∀hh:Nat→HO,Rd hh (Iq (yR (x.take i)))=(AQ (yR x) []).map (kC x):=fun hh=>by
   rw[et];unfold Rd Iq;rw[BP];refine CC fun j=>?_;rw[AG,AG,List.getElem?_zipIdx];cases (AQ (yR x) [])[j]? with
   |none=>rfl
   |some q=>show some (Value.string q,AV.slice .none (Gj (yR x) q))=_;rw[Zg];rfl
  refine Xi ⟨[(2,.ref 2 0),(5,.ref 16 0)],[(2,.ro (Ic x ifs)),(12,.mapU C3 (Iq (yR (x.take i)))),(13,.map C3 []),(14,.map DS []),(16,.cells [sl AN roots,.mref 12,.mref 13,.v (.slice none 0 0),.v (.slice none 0 0),.mref 14,vb false,.v (.slice none 0 0),.v (.slice none 0 0),.v (.slice none 0 0)])],IV (yR (x.take i))⟩ (Yi ?_ ?_)
  ·exact⟨Z2,⟨Zr,⟨rfl,Ht _ (EX _ (hq _))⟩,Zr,Zr,Zr,Tv⟩,Gv (hq _) (EX _ (hq _)),Ax (by kernel_rfl)⟩
  refine Xi 0 ?_;refine Xi {p:List ByteArray×List ByteArray×Option (Value×AV) // (p.1++p.2.1).Perm (AQ (yR x) [])} (Xi (fun p=>⟨[(2,.ref 2 0),(5,.ref 16 0),(56,.ref 56 0)],[(2,.ro (Ic x ifs)),(12,.rom C3 ((AQ (yR x) []).map (kC x))),(13,.map C3 (p.1.1.map (kA x))),(14,.map DS []),(16,.cells [sl AN roots,.mref 12,.mref 13,.slice (.id 90 6) [],.slice (.id 91 1) [],.mref 14,vb false,.slice (.id 93 10) [],.slice (.id 94 4) [],.v (.slice none 0 0)]),(56,.iter ((AQ (yR x) []).map (kC x)) (p.1.2.1.map (kC x)) p.1.2.2),(90,.tok 6 0),(91,.tok 1 0),(93,.tok 10 0),(94,.tok 4 0)],Ab⟩) (Xi (fun p=>p.1.2.1.length) (Yi (Xi ⟨([],AQ (yR x) [],none),.refl _⟩ ?_) ?_)))
  ·refine⟨Z3,⟨Zr,⟨Ac (HO.rom C3) (eM _),rfl⟩,Zr,Zr,Zr,⟨?_,rfl⟩,Zr,Zr,Zr,Zr,Tv⟩,Fh,VP (fun n=>?_)⟩
   ·show HO.iter (Rd _ (Iq (yR (x.take i)))) (Rd _ (Iq (yR (x.take i)))) none=_;rw[eM]
   ·exact ZY (yR (x.take i)) n
  intro⟨⟨done,rem,Fz⟩,r1⟩;have r1:(done++rem).Perm (AQ (yR x) []):=r1;refine Xi 0 ?_;refine Yi ?_ ?_
  ·intro hr;have hr:rem.map (kC x)=[]:=hr;have hr:rem=[]:=Dr.1 hr;subst hr;rw[B3]at r1;refine Xi ⟨[(5,.ref 16 0)],[(14,.map DS []),(16,.cells [sl AN roots,.cmap C3 (mC x),.cmap C3 (done.map (kA x)),.slice (.id 90 6) [],.slice (.id 91 1) [],.mref 14,vb false,.slice (.id 93 10) [],.slice (.id 94 4) [],.msl 92 0]),(90,.tok 6 0),(91,.tok 1 0),(92,.arr 1 []),(93,.tok 10 0),(94,.tok 4 0)],Ab⟩ (Yi ⟨Z1,Z7,Fh,Ax (by kernel_rfl)⟩ ?_)
   refine Xi 0 ?_;exact Xi _ (Yi (.refl _) (Xi done (Yi r1 (Yi rfl rfl))))
  ·intro kv NJ hp;refine Do (kj hp) (fun t hp=>Do hp (fun r hp=>?_));have e1:=hp.1;have e2:=hp.2.1;subst e1;subst e2;have hp:=hp.2.2;refine Xi ⟨[(2,.ref 2 0),(5,.ref 16 0),(56,.ref 56 0)],[(2,.ro (Ic x ifs)),(12,.rom C3 ((AQ (yR x) []).map (kC x))),(13,.map C3 (done.map (kA x))),(14,.map DS []),(16,.cells [sl AN roots,.mref 12,.mref 13,.slice (.id 90 6) [],.slice (.id 91 1) [],.mref 14,vb false,.slice (.id 93 10) [],.slice (.id 94 4) [],.v (.slice none 0 0)]),(56,.iter ((AQ (yR x) []).map (kC x)) (r.map (kC x)) (some (kC x t))),(90,.tok 6 0),(91,.tok 1 0),(93,.tok 10 0),(94,.tok 4 0)],Ab⟩ (Yi ⟨Z3,Z10,Fh,Ax (by kernel_rfl)⟩ ?_)
   refine Xi 0 ?_;refine Xi ⟨[(2,.ref 2 0),(5,.ref 16 0),(10,vs t),(56,.ref 56 0)],[(2,.ro (Ic x ifs)),(12,.rom C3 ((AQ (yR x) []).map (kC x))),(13,.map C3 (done.map (kA x))),(14,.map DS []),(16,.cells [sl AN roots,.mref 12,.mref 13,.slice (.id 90 6) [],.slice (.id 91 1) [],.mref 14,vb false,.slice (.id 93 10) [],.slice (.id 94 4) [],.v (.slice none 0 0)]),(56,.iter ((AQ (yR x) []).map (kC x)) (r.map (kC x)) (some (kC x t))),(90,.tok 6 0),(91,.tok 1 0),(93,.tok 10 0),(94,.tok 4 0)],Ab⟩ (Yi ⟨Z4,Z10,Fh,Ax (by kernel_rfl)⟩ ?_)
   refine Xi 0 ?_;have QY:(done++rem).Nodup:=r1.nodup_iff.2 (EM _ [] E7);have uP:t∉done:=fun hc=>(F9.1 QY).2.2 t hc t (hp.mem_iff.2 (Aa ..)) rfl;have em:EP (done.map (kA x)) (.string t) (sl Aq (B8 x t))=(done++[t]).map (kA x):=by
    rw[L3 (fun a ha=>uP (V8.1 ha).1),AH];rfl
   have TO:((done++[t])++r).Perm (AQ (yR x) []):=by
    rw[AO];exact(List.Perm.append_left _ hp.symm).trans r1
   refine Yi (Nz rfl) ?_;refine Xi _ (Yi (th x ifs t (c84 x ifs hx)) ?_);refine Yi (by kernel_rfl) ?_;refine Xi ⟨(done++[t],r,some (kC x t)),TO⟩ ?_;exact⟨by show r.length<rem.length;rw[hp.length_eq,At];omega,Z3,⟨Zr,Zr,⟨Ac (HO.map C3) em,rfl⟩,Zr,Zr,Zr,Zr,Zr,Zr,Zr,Tv⟩,Fh,Ax (by kernel_rfl)⟩
end Go.Eng
namespace Go.Eng
open Go.Proofs
theorem Yw{x:List Rl}(h0:A9 x=0){p:ByteArray}(h:p∉AQ (yR x) []):B8 x p=[]:=by
 rw[bj h0]
 have:x.filter (ZT p)=[]:=by
  rw[Hg];intro r hr hc;unfold ZT at hc;rw[Ag,AA]at hc;exact h ((Hd _ _ _).2 (.inr ⟨r,Bx.2 ⟨hr,hc.2⟩,hc.1⟩))
 rw[this];rfl
theorem mL{x:List Rl}{roots:List Rq}(hx:∀r∈x,Ka r)(hr:∀q∈roots,NT q)(h0:A9 x=0)(h1:BS roots=0){l:List ByteArray}(hl:l.Perm (AQ (yR x) [])):sJ x roots (mC x) (l.map (kA x)) where
 hx:=h0
 hr:=h1
 fx:=hx
 fr:=hr
 c1:=qN x
 c2:=qO x
 c3:=qP x
 av p:=by
  by_cases hp:p∈l
  ·exact⟨sl Aq (B8 x p),fun a ha=>(V8.1 ha).2,fun hn=>(hn _ (V8.2 ⟨hp,rfl⟩)).elim,fun h=>pk p (B8 x p) (RJ x p)⟩
  ·refine⟨.v (.slice none 0 0),fun a ha=>(hp (V8.1 ha).1).elim,fun _=>rfl,fun h=>?_⟩;have e:=Yw h0 (fun hc=>hp (hl.mem_iff.2 hc));have hc:=pk p (B8 x p) (RJ x p);rw[e]at hc⊢;exact LD.args hc ⟨.refl _,.nil,trivial⟩
section
variable {x:List Rl}{roots:List Rq}{d:List (List Tm)}{i:Nf}
end
section
variable {s:List Sl}{q:Rq}{o:Option ByteArray}
end
section
variable {x:List Rl}{roots:List Rq}{s A:List Sl}{m:Nat}
end
section
variable {N:List Rq}{p:ByteArray}{pl:Int}{o:Rl}
end
abbrev IA(b:Bool):List AV:=[vb b]
section
variable {l:List Rl}{roots:List Rq}{Cl:List ByteArray}{B:List Bool}
variable {B0:List Bool}{i:Nat}{ch:Bool}
end
section
variable {x l:List Rl}{roots:List Rq}{s:List Sl}
end
end Go.Eng
