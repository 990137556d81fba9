/- Lemmas for the claims of this seat, without a condition: part 27 (S8d, S8e, S11, S12, S13, S14, S16, R1, R2, R3, R4, R5, C60, C61, C62, C63, C64, R6, R7, R8, R9, R10, R11, R12, R13, R14, R15, R16, R17, R18, R19, S18, R20, R21, R22, R23, R24, C74, R25, R26, R27, R28, R29, R30, R31). -/
import Derived.Test.YtkmnnpmneamgoaaGreatDoorA26
import Derived.Test.YtkmnnpmneamgoaaGreatDoorA04
namespace Go.Eng
open Go.Proofs
set_option maxHeartbeats 8000000 in
theorem wO(x:List Rl)(roots:List Rq)(C A:List (Value×AV))(n:Nat)(s:SS)(dec:List Cd)(st:List (List Sk))(p:ByteArray)(n0:Nd)(l:List Nd)(V:AV)(cs:List Cd)(R O:Ju)(hL:sA x roots C A n dec p n0 l V cs)(hs:Jv x roots s)(FK:st.length=dec.length)
  (Iy:Bn Tryz.prog 64 [.ref 1000 0] (Ad (HL roots C A s dec st) Aa) fun r h'=>r=.tup [vs p,sl AQ (n0::l)]∧h'=Ad (HL roots C A s dec st) Aa)
  (bL:cs=[]) (mP:∀a,(Value.string p,a)∉C) (hR:DB (CH x roots n) x p (n0::l) n0 dec st cs s [] []=R) (ZR:O=R) :
  Bn Tryz.prog 45 [.ref 1000 0] (Ad (HL roots C A s dec st) Aa) (Yf roots C A O):=by
 obtain⟨hx,hr,hdl,hcl,hcs,hnl,hnq,hnp,hex,hcx,hcq,hcp_,hcr,hcs_,hkey,hinf0,⟨pT,pU,pV⟩,ih⟩:=hL;have hdl:dec.length≤256:=hdl;have hcl:cs.length≤256:=hcl;have FK:st.length=dec.length:=FK;have xC:∀(i:Nat) (h:i<cs.length),cs[i]∈Bm x p:=fun i h=>by rw[←hcs];exact AC h
 have dy:∀(i:Nat) (h:i<cs.length),Cv (Ax (dec++[cs[i]])):=fun i h=>by unfold Cv Ax;rw[Lm,Ac];simp;omega
 clear hcs
 refine BD (Iv ⟨[9],[(6,1),(7,3),(145,1)],[],[],[],[],[],[],[],[(300001,500091000),(300026,500091000),(300029,500091000)],[1,2,5,10,11,13,14,15,16,17,19,21,22,23,24,25,26,28,29,31,32,33,35]⟩) [(1000,1000),(1001,1001),(1002,1002),(1003,1003),(1004,1004),(500,2000)] rfl BS hm rfl Tryz.func45 (by kernel_rfl) rfl (Nz rfl) (by kernel_rfl) rfl ?_;refine Yi (show st.length=(st.map AP).length by simp) ?_;refine Xi ⟨[(0,.ref 1000 0)],[(500,.arr 1 (st.map AP)),(1000,.cells (srM roots C A s dec 500 st.length)),(1001,.tok 6 s.infs.length),(1002,.tok 1 s.drv.length),(1003,.map Dj (DT 0 s.infs)),(1004,.dead)],Aa⟩ (Yi ⟨Z1,Z6,Fh,Aj (by kernel_rfl)⟩ ?_)
 refine Xi (.gen Ye 0) (Yi rfl (Bn.imp Iy ?_));intro v1 g1 q1;have Zj:=q1.1;have Zk:=q1.2;subst Zj;subst Zk;refine Xi ⟨[(0,.ref 1000 0),(4,vs p),(5,sl AQ (n0::l))],[(500,.arr 1 (st.map AP)),(1000,.cells (srM roots C A s dec 500 st.length)),(1001,.tok 6 s.infs.length),(1002,.tok 1 s.drv.length),(1003,.map Dj (DT 0 s.infs)),(1004,.dead)],Aa⟩ (Yi ⟨Z3,Z6,Fh,Aj (by kernel_rfl)⟩ ?_)
 refine Yi (fun h2=>?_) (fun h2=>?_)
 ·have h2:(((n0::l).map AQ).length:Int)=(0:Int):=h2;exact absurd h2 (by simp;omega)
 have h2:¬((((n0::l).map AQ).length:Int)=(0:Int)):=h2;refine Xi ⟨[(0,.ref 1000 0),(4,vs p),(5,sl AQ (n0::l)),(6,.slice (.id 6 1) [])],[(6,.tok 1 0),(500,.arr 1 (st.map AP)),(1000,.cells (srM roots C A s dec 500 st.length)),(1001,.tok 6 s.infs.length),(1002,.tok 1 s.drv.length),(1003,.map Dj (DT 0 s.infs)),(1004,.dead)],Aa⟩ (Yi ⟨Z4,Z7,Fh,Aj (by kernel_rfl)⟩ ?_)
 refine Yi (fun a ha=>?_) (fun Nw=>?_)
 ·exact absurd ha (mP a)
 refine Xi {q:Nat×SS×List Nat×List Sk // q.1≤cs.length∧DB (CH x roots n) x p (n0::l) n0 dec st (cs.drop q.1) q.2.1 q.2.2.1 q.2.2.2=R∧Jv x roots q.2.1∧(∀r∈q.2.2.1,r<q.2.1.drv.length)∧q.2.2.1.length≤q.1∧q.2.2.2.length≤q.1} (Xi (fun q=>⟨[(0,.ref 1000 0),(4,vs p),(5,sl AQ (n0::l)),(6,.slice (.id 6 1) (q.1.2.2.1.map Bz)),(7,.slice (.id 7 3) (q.1.2.2.2.map Bw)),(32,.v (.slice none 0 0)),(33,vi 0),(34,vi q.1.1)],[(6,.tok 1 q.1.2.2.1.length),(7,.tok 3 q.1.2.2.2.length),(500,.arr 1 (st.map AP)),(1000,.cells (srM roots C A q.1.2.1 dec 500 st.length)),(1001,.tok 6 q.1.2.1.infs.length),(1002,.tok 1 q.1.2.1.drv.length),(1003,.map Dj (DT 0 q.1.2.1.infs)),(1004,.dead)],Aa⟩) (Xi (fun q=>cs.length-q.1.1) (Yi (Xi ⟨(0,s,[],[]),AS _,hR,hs,fun r h=>(by cases h),Ak _,Ak _⟩ ?_) ?_)))
 ·exact⟨Z8,Z8,Fh,Aj (by kernel_rfl)⟩
 intro⟨⟨i,S,rs,sk⟩,j1,j2,j3,j4,j5,j6⟩;have j1:i≤cs.length:=j1;have j2:DB (CH x roots n) x p (n0::l) n0 dec st (cs.drop i) S rs sk=R:=j2;have j3:Jv x roots S:=j3;have j4:∀r∈rs,r<S.drv.length:=j4;have j5:rs.length≤i:=j5;have j6:sk.length≤i:=j6;have hw:=j3.dl;have fw:∀t∈S.drv,dD t:=fun t ht=>by have q:=j3.der.few hx hr t ht;exact⟨Fa q,q.2⟩
 refine Yi (fun h3=>?_) (fun h3=>?_)
 ·have h3:(i:Int)<(0:Int):=h3;exact absurd h3 (by have q:=j1;rw[bL,Ar]at q;omega)
 have h3:¬((i:Int)<(0:Int)):=h3;refine Xi (AQ n0) (Yi (Yi (show(0:Int)≤0 by decide) rfl) (Yi rfl ?_));refine Yi (Nz rfl) ?_;refine Xi (.gen Ye 0) (Yi rfl (Bn.imp (yy x roots C A S dec st p n0 rs V hx hr j3 hinf0 j4 (by omega) (hnq n0 (Ab ..)) (hnp n0 (Ab ..)) pT pU pV) ?_));intro v4 g4 q4;have rk:=q4.1;have rl:=q4.2;subst rk;subst rl;have hj:¬i<cs.length:=by rw[bL];simp
 have eR:R=⟨(DD x p n0 rs S).1,false,(DD x p n0 rs S).2,dec,st⟩:=by rw[←j2];exact dZ hj
 exact Xi _ (Yi (.refl _) (Nj (ZR.trans eR)))
set_option maxHeartbeats 4000000 in
theorem wQ(roots:List Rq)(C A:List (Value×AV))(s:SS)(dec:List Cd)(st:List (List Sk))(p:ByteArray)(N:List Nd)(O:Ju)(hN:N=[])
  (Iy:Bn Tryz.prog 64 [.ref 1000 0] (Ad (HL roots C A s dec st) Aa) fun r h'=>r=.tup [vs p,sl AQ N]∧h'=Ad (HL roots C A s dec st) Aa) (hO:O=⟨0,true,s,dec,st⟩) :
  Bn Tryz.prog 45 [.ref 1000 0] (Ad (HL roots C A s dec st) Aa) (Yf roots C A O):=by
 refine BD (Iv ⟨[],[],[],[],[],[],[],[],[],[(300001,500091000)],[1,2,5,10,11,13,14,15,16,17,19,21,22,23,25,28,29,31,32,33,35]⟩) [(1000,1000),(1001,1001),(1002,1002),(1003,1003),(1004,1004),(500,2000)] rfl BS hm rfl Tryz.func45 (by kernel_rfl) rfl (Nz rfl) (by kernel_rfl) rfl ?_;refine Yi (show st.length=(st.map AP).length by simp) ?_;refine Xi ⟨[(0,.ref 1000 0)],[(500,.arr 1 (st.map AP)),(1000,.cells (srM roots C A s dec 500 st.length)),(1001,.tok 6 s.infs.length),(1002,.tok 1 s.drv.length),(1003,.map Dj (DT 0 s.infs)),(1004,.dead)],Aa⟩ (Yi ⟨Z1,Z6,Fh,Aj (by kernel_rfl)⟩ ?_)
 refine Xi (.gen Ye 0) (Yi rfl (Bn.imp Iy ?_));intro v1 g1 q1;have Zj:=q1.1;have Zk:=q1.2;subst Zj;subst Zk;refine Xi ⟨[(0,.ref 1000 0),(4,vs p),(5,sl AQ N)],[(500,.arr 1 (st.map AP)),(1000,.cells (srM roots C A s dec 500 st.length)),(1001,.tok 6 s.infs.length),(1002,.tok 1 s.drv.length),(1003,.map Dj (DT 0 s.infs)),(1004,.dead)],Aa⟩ (Yi ⟨Z3,Z6,Fh,Aj (by kernel_rfl)⟩ ?_)
 refine Yi (fun h2=>?_) (fun h2=>?_)
 ·have h2:((N.map AQ).length:Int)=(0:Int):=h2;exact Xi _ (Yi (.refl _) (Nj (st:=st) hO))
 have h2:¬(((N.map AQ).length:Int)=(0:Int)):=h2;exact absurd (by rw[hN];rfl) h2
end Go.Eng

namespace Go.Eng
open Go.Proofs
section
variable {x:List Rl}{roots:List Rq}{p:ByteArray}
theorem H4:∀(l:List Nat) {k:Nat} {s:SS},s.infs.Nodup→(B7 p l k s).2.infs.Nodup
 | [],_,_,h=>h
 |r::l,k,s,h=>by
  unfold B7;split
  ·exact h
  split
  ·exact H4 l h
  split
  ·exact H4 l h
  ·exact H4 l (HQ h)
theorem KR{needs:List Nd}{n0:Nd}{dec:List Cd}{st:List (List Sk)}{rec:List Cd→SS→List (List Sk)→Ju}(Pt:∀c s st,s.infs.Nodup→(rec (dec++[c]) s st).ss.infs.Nodup) :
  ∀(cs:List Cd) {s:SS} {rs:List Nat} {sk:List Sk},s.infs.Nodup→(DB rec x p needs n0 dec st cs s rs sk).ss.infs.Nodup
 | [],s,rs,sk,h=>H4 _ (HQ (HQ h))
 |c::cs,s,rs,sk,h=>by
  have dJ:∀(s' : SS) (k:Nat),s'.infs.Nodup→(Ib rec x p needs n0 dec st c cs rs sk k s').ss.infs.Nodup:=fun s' k h'=>by
   unfold Ib;split
   ·exact h'
   ·exact KR Pt cs h'
  rw[FQ];split
  ·exact h
  cases needs.find? fun n=>!has n.rq.set c.place with
  |some n=>exact KR Pt cs (HQ h)
  |none =>
   dsimp only;cases Nr s.drv (Ax (dec++[c]))with
   |some k=>exact dJ s k h
   |none =>
    dsimp only;cases Dw dec c with
    |some n=>exact dJ _ _ (HQ h)
    |none =>
     dsimp only;have h2:=Pt c s (st++[sk]) h;split
     ·exact h2
     split
     ·exact h2
     ·exact dJ _ _ h2
theorem OW:∀(n:Nat) {dec:List Cd} {s:SS} {st:List (List Sk)},s.infs.Nodup→(CH x roots n dec s st).ss.infs.Nodup
 |0,_,_,_,h=>h
 |n+1,dec,s,st,h=>by
  unfold CH;cases (Dz roots dec).2 with
  |nil=>exact h
  |cons n0 l=>exact KR (fun c s st h=>OW n h) _ h
structure oT(x:List Rl)(roots:List Rq)(C A:List (Value×AV)):Prop where
 hx:A6 x=0
 hr:BE roots=0
 fx:∀r∈x,Io r
 fr:∀q∈roots,Js q
 c1:∀(p:ByteArray) (a:AV),(Value.string p,a)∈C→a=sl Au (Bm x p)
 c2:∀p:ByteArray,(∀a,(Value.string p,a)∉C)→Bm x p=[]
 c3:∀p:ByteArray,Bm x p=[]→∀a,(Value.string p,a)∉C
 av:∀p:ByteArray,∃V,HV x A p V
theorem eJ{dec:List Cd}(h:∀c∈dec,c.rel.reqs.length≤16):((dec.map fun c=>c.rel.reqs).flatten).length≤16*dec.length:=by
 induction dec with
 |nil=>simp
 |cons c dec ih =>
  rw[AM,BL,Ac,Al]
  have:=h c (Ab ..)
  have:=ih fun d hd=>h d (Ag _ hd)
  omega
theorem nM{r:Rl}(h:RI r):0≤plc r.ver∧plc r.ver<1000000:=by rw[h.plc];exact Jl h.val
theorem UV(dec:List Cd):(Dz roots dec).2.length≤(Db roots dec).length:=by
 rw[SY];cases Gt (FD roots dec) (Ax dec)with
 |none=>simp
 |some q=>exact By _ _
theorem yt{C A:List (Value×AV)}(hE:oT x roots C A)(mO:yE roots C A):∀(n:Nat) {dec:List Cd} {s:SS} {st:List (List Sk)},DX x dec→IG roots dec→Jv x roots s→s.full=false→FB x dec<n→st.length=dec.length →
  Bn Tryz.prog 45 [.ref 1000 0] (Ad (HL roots C A s dec st) Aa) (Yf roots C A (CH x roots n dec s st))
 |0,_,_,_,_,_,_,_,h,_=>by omega
 |n+1,dec,s,st,hd,bR,hs,hf,hn,FK=>by
  have hx:=hE.hx;have hr:=hE.hr;have ZX:=Iz hx;have hdl:=LQ hd;have ft:dec.length≤256:=by have:=ZX.1;omega
  have hrl:∀c∈dec,c.rel.reqs.length≤16:=fun c hc=>ZX.2 _ (hd.cand c hc).1;have Iy:=mO s dec st (by omega) fun c hc=>Bh (hrl c hc) (by decide);generalize hO:CH x roots (n+1) dec s st=O;obtain⟨N,hN⟩:∃N,N=(Dz roots dec).2:=⟨_,rfl⟩;obtain⟨q,hq⟩:∃q,q=(Dz roots dec).1:=⟨_,rfl⟩;rw[←hN,←hq]at Iy;have t8:N.length≤10000:=by
   have h1:=UV (roots:=roots) dec;have h2:(Db roots dec).length=(FD roots dec).length:=by rw[←KC,Lm]
   have h3:=eJ hrl;have h4:=Jm hr;rw[←hN]at h1;unfold FD at h2;rw[Ac]at h2;omega
  cases hNc:N with
  |nil =>
   rw[hNc]at hN Iy;refine wQ roots C A s dec st q [] O rfl Iy ?_;rw[←hO];unfold CH;rw[←hN]
  |cons n0 l =>
   rw[hNc]at hN Iy;have hNx:=HY hN.symm;rw[←hq]at hNx;have Pq:∀nd∈n0::l,nd∈Db roots dec:=fun nd h=>((hNx.mem nd).1 h).1;have F3:=(Cj hx).1;have few:∀{E:List Cd},DX x E→∀nd∈Db roots E,Cv nd.rq.set∧BQ (nd.place+1):=fun zq nd h=>by
    rcases KB h with ⟨k,r,h1,rfl⟩ | ⟨c,hc,k,r,h1,rfl⟩
    ·exact⟨(hE.fr r (Av h1)).1,by unfold BQ;show -9223372036854775808≤(0:Int)+1∧(0:Int)+1<9223372036854775808;decide⟩
    ·have h2:=zq.cand c hc;have h3:=nM (F3 _ h2.1);rw[←h2.2.2]at h3;exact⟨((hE.fx _ h2.1).2 r (Av h1)).1,by unfold BQ;show _≤c.place+1∧c.place+1<_;omega⟩
   have bS:∀c∈Bm x q,DX x (dec++[c])∧c.rel.path=q∧c.rel∈x:=fun c hc=>by
    obtain⟨c1,c2⟩:=Gd hc;exact⟨hd.snoc c2 (by rw[c1];exact hNx.undone),c1,c2.1⟩
   have EB:∀(i:Nat) (h:i<(Bm x q).length),(Bm x q)[i]∈Bm x q:=fun i h=>AC h;obtain⟨V,hV⟩:=hE.av q
   have hL:sA x roots C A n dec q n0 l V (Bm x q):={
    hx:=hx
    hr:=hr
    hdl:=ft
    hcl:=Bh (Pe x q) ZX.1
    hcs:=rfl
    hnl:=by rw[hNc]at t8;omega
    hnq:=fun nd h=>(few hd nd (Pq nd h)).1
    hnp:=fun nd h=>(few hd nd (Pq nd h)).2
    hex:=fun i h nd hm hh=>by
     obtain⟨a,b,_⟩:=bS _ (EB i h);exact⟨(OH hx hr a (NF (Pq nd hm)) ⟨(Bm x q)[i],by simp,b.trans ((hNx.mem nd).1 hm).2.symm,hh⟩).1,trivial⟩
    hcx:=fun i h nc hc=>by
     obtain⟨a,b,_⟩:=bS _ (EB i h);obtain⟨m1,m2⟩:=KW hc;exact⟨(OH hx hr a (MA m1) m2).1,trivial⟩
    hcq:=fun i h nc hm=>(few (bS _ (EB i h)).1 nc (MA hm)).1
    hcp_:=fun i h nc hm=>(few (bS _ (EB i h)).1 nc (MA hm)).2
    hcr:=fun i h=>by have:=ZX.2 _ (bS _ (EB i h)).2.2;omega
    hcs_:=fun i h r hm=>((hE.fx _ (bS _ (EB i h)).2.2).2 r hm).1
    hkey:=fun i h=>by
     have b:=(bS _ (EB i h)).2.1;unfold Ax;rw[AB,AB];show _=_++[[vs (Bm x q)[i].rel.path,vi (Bm x q)[i].rel.ver.a,vi (Bm x q)[i].rel.ver.b,vi (Bm x q)[i].rel.ver.c]];rw[b]
    hinf0:=(Rh hx hr hd (Pq n0 (Ab ..)) (.inl (by
     rw[((hNx.mem n0).1 (Ab ..)).2];exact Ht (by rw[FY];exact hNx.undone)))).inf
    hV:=hV
    ih:=fun c hc u6 S Fo hl hS xr=>by
     obtain⟨a,b,c3⟩:=bS c hc;obtain⟨k1,k2⟩:=JR.1 u6;obtain⟨_,c2⟩:=Gd hc;have lH:=bR.snoc hNx b k1 k2;have iR:FB x (dec++[c])<n:=by have:=Nu (dec:=dec) ⟨c2.1,c2.2.1⟩ (by rw[b];exact hNx.undone);omega
     have h1:=yt hE mO n a lH hS xr iR (st:=Fo) (by rw[hl];simp);have h2:=PQ hx hr n a lH hS.der xr iR (st:=Fo);exact⟨h1,⟨h2.der,OW n hS.nodup⟩,⟨h2.grow.len,fun e1 e2=>((h2.no e1).2.2 e2).1⟩,fun e1=>(h2.no e1).2.1⟩ }
   have hR:DB (CH x roots n) x q (n0::l) n0 dec st (Bm x q) s [] []=O:=by
    rw[←hO]
    conv=>rhs;unfold CH
    rw[←hN,hq]
   by_cases hm:∀a,(Value.string q,a)∉C
   ·exact wO x roots C A n s dec st q n0 l V (Bm x q) O O hL hs FK Iy (hE.c2 q hm) hm hR rfl
   ·exact wN x roots C A n s dec st q n0 l V (Bm x q) O O hL hs FK Iy (hE.c1 q) hm hR rfl
end
end Go.Eng

namespace Go.Eng
open Go.Proofs
theorem wP{x:List Rl}{roots:List Rq}{C A:List (Value×AV)}(hE:oT x roots C A)(n:Nat){dec:List Cd}{s:SS}{st:List (List Sk)}(h1:DX x dec)(h2:IG roots dec)(h3:Jv x roots s)(h4:s.full=false)(h5:FB x dec<n)(h6:st.length=dec.length) :
  Bn Tryz.prog 45 [.ref 1000 0] (Ad (HL roots C A s dec st) Aa) (Yf roots C A (CH x roots n dec s st)) :=
 yt hE (fun s dec st a b=>yw roots C A s dec st (Bh (Jm hE.hr) (by decide)) a b) n h1 h2 h3 h4 h5 h6
end Go.Eng

namespace Go.Eng
open Go.Proofs
def CR(x:List Rl)(roots:List Rq):Bool:=decide (A6 x=0)&&decide (BE roots=0)
theorem oP(x:List Rl)(ifs:List (List AV))(roots:List Rq)(hx:∀r∈x,Io r)(hr:∀q∈roots,Js q):PC 28 [.agg (Ic x ifs),sl Ah roots] (vb (CR x roots)):=by
 refine Ps ⟨[2],[],[],[],[],[],[],[],[],[],[]⟩ Tryz.func28 rfl (Nz rfl) ?_;refine Yi (Nz rfl) ?_;refine Xi .pure (Xi _ (Yi (rT bj x ifs hx) ?_));refine Yi (fun h1=>?_) (fun h1=>?_)
 ·have h1:((A6 x):Int)=(0:Int):=h1;refine Xi .pure (Xi _ (Yi (tG bj roots hr) ?_));refine Yi (fun h2=>?_) (fun h2=>?_)
  ·have h2:((BE roots):Int)=(0:Int):=h2;exact .of_eq (show vb true=vb (CR x roots) by unfold CR;rw[h1,h2];rfl)
  have h2:¬(((BE roots):Int)=(0:Int)):=h2;exact .of_eq (show vb false=vb (CR x roots) by unfold CR;rw[AD h2,DN])
 have h1:¬(((A6 x):Int)=(0:Int)):=h1;exact .of_eq (show vb false=vb (CR x roots) by unfold CR;rw[AD h1];rfl)
end Go.Eng

namespace Go.Eng
open Go.Proofs
abbrev Qm(r:Rl):List AV:=Au ⟨plc r.ver,r⟩
abbrev Gu(y:List Rl)(p:ByteArray):List (List AV):=(y.filter fun r=>decide (r.path=p)).map Qm
abbrev W5(y:List Rl)(q:ByteArray×Nat):Value×AV:=(.string q.1,.slice (.id (q.2+100) 10) (Gu y q.1))
abbrev Ij(y:List Rl):List (Value×AV):=(AO y []).zipIdx.map (W5 y)
def Gf(y:List Rl)(l:Nat):HO:=match(AO y [])[l]? with
 |some q=>.tok 10 (Gu y q).length
 |none=>.free
def IV(y:List Rl)(j:Nat):HO:=bif Nat.ble 100 j&&Nat.blt j 1000 then Gf y (j-100)else .free
theorem EY(y:List Rl)(hy:y.length≤256)(l:Nat):IV y (l+100)=Gf y l:=by
 unfold IV;rw[show Nat.ble 100 (l+100)=true by rw[C3];omega,Ev,Nat.add_sub_cancel]
 by_cases h:l+100<1000
 ·rw[show Nat.blt (l+100) 1000=true by rw[Cg];exact h];rfl
 ·rw[show Nat.blt (l+100) 1000=false by rw[AL];intro hc;rw[Cg]at hc;omega]
  have:=Hb y []
  rw[Ar]at this;unfold Gf;rw[AZ (by omega)];rfl
theorem jJ(y:List Rl){j:Nat}(h:j<100):IV y j=.free:=by
 unfold IV;rw[show Nat.ble 100 j=false by rw[AL];intro hc;rw[C3]at hc;omega];rfl
theorem Ha(y:List Rl)(r:Rl)(q:ByteArray):Gu (y++[r]) q=if r.path=q then Gu y q++[Qm r]else Gu y q:=by
 unfold Gu;rw[EZ]
 by_cases h:r.path=q
 ·rw[Aw h,RF (by simpa using h)];simp
 ·rw[Am h,RE (by simpa using h)];simp
section
variable {y:List Rl}{r:Rl}{k:Nat}
open Classical in
theorem fc(h:(AO y [])[k]?=some r.path):E1 (Ij y) (.string r.path) (.slice (.id (k+100) 10) (Gu y r.path++[Qm r]))=Ij (y++[r]):=by
 have hd:=EK y [] Fd;have hm:W5 y (r.path,k)∈Ij y:=Ao.2 ⟨_,FH.2 h,rfl⟩;rw[XI (a':=.slice (.id (k+100) 10) (Gu y r.path)) hm];unfold Ij;rw[I6 h,BW];refine Be fun q hq=>?_;have hg:=H7 hq;obtain⟨q,j⟩:=q;show(if Value.string q=Value.string r.path then _ else _)=W5 (y++[r]) (q,j);have hg:(AO y [])[j]?=some q:=hg
 by_cases he:q=r.path
 ·subst he
  have:j=k:=I3 hd hg h
  subst this;rw[Aw rfl];show _=(Value.string r.path,AV.slice (.id (j+100) 10) (Gu (y++[r]) r.path));rw[Ha,Aw rfl]
 ·rw[Am (fun e=>he (by simpa using e))];show(Value.string q,AV.slice (.id (j+100) 10) (Gu y q))=(Value.string q,AV.slice (.id (j+100) 10) (Gu (y++[r]) q));rw[Ha,Am (fun e=>he e.symm)]
theorem XR(h:r.path∉AO y []):Gu y r.path=[]:=by
 have:y.filter (fun s=>decide (s.path=r.path))=[]:=by
  rw[Hf];intro s hs he;exact h ((Hc y [] r.path).2 (.inr ⟨s,hs,CB he⟩))
 unfold Gu;rw[this];rfl
theorem UG(h:r.path∉AO y [])(a:AV):(Value.string r.path,a)∉Ij y:=by
 intro hc;obtain⟨q,h1,h2⟩:=Ao.1 hc;simp only[W5,FP,Value.string.injEq]at h2;exact h (by rw[←h2.1];exact Av (H7 h1))
theorem fb(h:r.path∉AO y []):E1 (Ij y) (.string r.path) (.slice (.id ((AO y []).length+100) 10) [Qm r])=Ij (y++[r]):=by
 rw[Md (fun a=>UG h a)];unfold Ij;rw[I5 h,List.zipIdx_append,AB]
 congr 1
 ·refine Be fun q hq=>?_;have hg:=H7 hq
  have:q.1≠r.path:=fun e=>h (by rw[←e];exact Av hg)
  show(Value.string q.1,AV.slice (.id (q.2+100) 10) (Gu y q.1))=(Value.string q.1,AV.slice (.id (q.2+100) 10) (Gu (y++[r]) q.1));rw[Ha,Am (fun e=>this e.symm)]
 ·show [_]=[(Value.string r.path,AV.slice (.id (0+(AO y []).length+100) 10) (Gu (y++[r]) r.path))];rw[Ha,Aw rfl,XR h,Bd];rfl
theorem bG{p:ByteArray}{j:Nat}(h:(AO y [])[j]?=some p):(Value.string p,AV.slice (.id (j+100) 10) (Gu y p))∈Ij y∧∀b,(Value.string p,b)∈Ij y→b=AV.slice (.id (j+100) 10) (Gu y p):=by
 refine⟨Ao.2 ⟨(p,j),FH.2 h,rfl⟩,fun b hb=>?_⟩;obtain⟨q,h1,h2⟩:=Ao.1 hb;simp only[W5,FP,Value.string.injEq]at h2;have hg:=H7 h1;rw[h2.1]at hg
 have:=I3 (EK y [] Fd) hg h
 rw[←h2.2,h2.1,this]
theorem aG{p:ByteArray}{j:Nat}(h:(AO y [])[j]?=some p):Gf y j=.tok 10 (Gu y p).length:=by
 unfold Gf;rw[h]
theorem iE(h:(AO y [])[k]?=some r.path)(l:Nat):(bif Nat.beq (l+100) (k+100)then HO.tok 10 ((Gu y r.path).length+1)else Gf y l)=Gf (y++[r]) l:=by
 by_cases he:l=k
 ·subst he;rw[show Nat.beq (l+100) (l+100)=true from CU _];unfold Gf;rw[I6 h,h];show HO.tok 10 _=HO.tok 10 (Gu (y++[r]) r.path).length;rw[Ha,Aw rfl,Ac];rfl
 ·rw[show Nat.beq (l+100) (k+100)=false by rw[AL];intro hc;have:=AR hc;omega];show Gf y l=_;unfold Gf;rw[I6 h];cases hq:(AO y [])[l]? with
  |none=>rfl
  |some q =>
   show HO.tok 10 (Gu y q).length=HO.tok 10 (Gu (y++[r]) q).length;rw[Ha,Am];intro e;subst e;exact he (I3 (EK y [] Fd) hq h)
theorem iD(h:r.path∉AO y [])(l:Nat):(bif Nat.beq (l+100) ((AO y []).length+100)then HO.tok 10 1 else Gf y l)=Gf (y++[r]) l:=by
 by_cases he:l=(AO y []).length
 ·subst he;rw[show Nat.beq ((AO y []).length+100) ((AO y []).length+100)=true from CU _];unfold Gf;rw[I5 h];simp only[A3 (Ak _),Is,Bi];show HO.tok 10 1=HO.tok 10 (Gu (y++[r]) r.path).length;rw[Ha,Aw rfl,XR h];rfl
 ·rw[show Nat.beq (l+100) ((AO y []).length+100)=false by rw[AL];intro hc;have:=AR hc;omega];show Gf y l=_;unfold Gf;rw[I5 h]
  by_cases hl:l<(AO y []).length
  ·rw[AX hl,Ge hl];show HO.tok 10 (Gu y (AO y [])[l]).length=HO.tok 10 (Gu (y++[r]) (AO y [])[l]).length;rw[Ha,Am];intro e;exact h (by rw[e];exact AC hl)
  ·rw[AZ (by omega),AZ (by rw[Ac];simp;omega)]
end
theorem Hs(y:List Rl){h:Nat→HO}(hh:∀l,h (l+100)=Gf y l):Qu h (Ij y)=true:=by
 refine Pu fun p hp=>?_;obtain⟨q,h1,rfl⟩:=Ao.1 hp;show QW h (q.2+100)=true;unfold QW;rw[hh,aG (H7 h1)]
theorem GD{y:List Rl}(hy:y.length≤256){h h' : Nat→HO}(hh:∀l,h (l+100)=Gf y l)(j:Nat):IV y j=.free∨(h j=IV y j∧Xp h' (IV y j)=true):=by
 by_cases hj:j<100
 ·exact .inl (jJ y hj)
 ·obtain⟨l,rfl⟩:∃l,j=l+100:=⟨j-100,by omega⟩
  right
  rw[EY y hy];refine⟨hh l,?_⟩;unfold Gf;cases (AO y [])[l]?<;>rfl
end Go.Eng

namespace Go.Eng
open Go.Proofs
abbrev yR(x:List Rl):List Rl:=x.filter fun r=>!r.yanked
theorem Y9(x:List Rl)(p:ByteArray):Gu (yR x) p=(Bm x p).map Au:=by
 unfold Gu Bm;rw[List.filter_filter,BW]
 rfl
def mC(x:List Rl):List (Value×AV):=(AO (yR x) []).map fun p=>(.string p,sl Au (Bm x p))
theorem gi{x:List Rl}{p:ByteArray}{a:AV}:(Value.string p,a)∈mC x↔p∈AO (yR x) []∧a=sl Au (Bm x p):=by
 unfold mC;rw[Ao];constructor
 ·rintro⟨q,hq,e⟩
  injection e with e1 e2
  injection e1 with e1
  subst e1;exact⟨hq,e2.symm⟩
 ·rintro⟨h1,h2⟩
  exact⟨p,h1,by rw[h2]⟩
theorem Ut{x:List Rl}{p:ByteArray}:Bm x p=[]↔p∉AO (yR x) []:=by
 rw[Hc];unfold Bm;rw[EE,Hf];constructor
 ·rintro h (h1 | ⟨r,h1,h2⟩)
  ·cases h1
  ·obtain⟨h3,h4⟩:=BA.1 h1;exact h r h3 (by rw[AE h2,h4];rfl)
 ·intro h r hr hc;rw[Af,Az]at hc;exact h (.inr ⟨r,BA.2 ⟨hr,hc.2⟩,hc.1⟩)
theorem qZ(x:List Rl):∀(p:ByteArray) (a:AV),(Value.string p,a)∈mC x→a=sl Au (Bm x p):=fun _ _ h=>(gi.1 h).2
theorem ra(x:List Rl):∀p:ByteArray,(∀a,(Value.string p,a)∉mC x)→Bm x p=[]:=fun _ h=>Ut.2 fun hp=>h _ (gi.2 ⟨hp,rfl⟩)
theorem rb(x:List Rl):∀p:ByteArray,Bm x p=[]→∀a,(Value.string p,a)∉mC x:=fun _ h _ ha=>Ut.1 h (gi.1 ha).1
end Go.Eng

namespace Go.Eng
open Go.Proofs
abbrev plN:O3:=⟨[2],[],[],[(52,[12])],[],[12],[50],[(53,(16,3,90,6)),(54,(16,4,91,1)),(55,(16,7,93,10)),(56,(16,8,94,4))],[],[(850013,13),(800013,10016),(810013,20016),(900013,10000000000+92000000+90016)],[5,7,8,9,11,12,13]⟩
abbrev kC(x:List Rl)(p:ByteArray):Value×AV:=(.string p,sl Au (Bm x p))
abbrev kA(x:List Rl)(p:ByteArray):Value×AV:=(.string p,sl Ap (BM x p))
theorem ks{x:List Rl}{l:List ByteArray}{kv:Value×AV}{NM : List (Value×AV)}(h:(l.map (kC x)).Perm (kv::NM)):∃t r,kv=kC x t∧NM=r.map (kC x)∧l.Perm (t::r):=by
 obtain⟨ps,h1,h2⟩:=Mg h l rfl;cases ps with
 |nil=>cases h2
 |cons t r =>
  rw[AM,FF]at h2;exact⟨t,r,h2.1.symm,h2.2.symm,h1.symm⟩
abbrev srN(roots:List Rq)(C A:List (Value×AV)):List (Nat×HO) :=
 [(2000,.cells [sl Ah roots,.cmap Dv C,.cmap Dv A,.slice (.id 2001 6) [],.slice (.id 2002 1) [],.mref 2003,vb false,.slice .none [],.slice .none [],.msl 2004 0]),(2001,.tok 6 0),(2002,.tok 1 0),(2003,.map Dj []),(2004,.arr 1 [])]
theorem V0{x:List Rl}{l:List ByteArray}{p:ByteArray}{a:AV}:(Value.string p,a)∈l.map (kA x)↔p∈l∧a=sl Ap (BM x p):=by
 rw[Ao];constructor
 ·rintro⟨q,hq,e⟩
  injection e with e1 e2
  injection e1 with e1
  subst e1;exact⟨hq,e2.symm⟩
 ·rintro⟨h1,h2⟩
  exact⟨p,h1,by rw[h2]⟩

theorem ZT(y:List Rl)(n:Nat):IV y (n+1000)=.free:=by
 unfold IV;rw[show Nat.blt (n+1000) 1000=false by rw[AL];intro hc;rw[Cg]at hc;omega,DN];rfl
theorem VE{h s:Nat→HO}(H:∀n,h (n+1000)=.free):∀j,1000≤j→j<2000→h j≠.free→s j≠.free:=fun j h1 _ hn=>by
 refine absurd (H (j-1000)) ?_;rw[show j-1000+1000=j by omega];exact hn
theorem jk{n k:Nat}(h:k<1000):Nat.beq (n+1000) k=false:=by
 rw[AL];intro hc;have:=AR hc;omega
theorem ZF{y:List Rl}{n k:Nat}{o:HO}(h:k<1000):(bif Nat.beq (n+1000) k then o else IV y (n+1000))=.free:=by
 rw[jk h,ZT];rfl
attribute [local irreducible] H2
set_option maxRecDepth 30000 in
set_option maxHeartbeats 4000000 in
theorem su(x:List Rl)(ifs:List (List AV))(roots:List Rq)(hx:∀r∈x,Io r)(h0:A6 x=0):Bn Tryz.prog 29 [MQ x ifs,sl Ah roots] (Ad [] Aa) fun r h'=>∃l:List ByteArray,l.Perm (AO (yR x) [])∧r=.ref 2000 0∧h'=Ad (srN roots (mC x) (l.map (kA x))) Aa:=by
 have ZX:x.length≤256:=(Iz h0).1;refine BD (Iv plN) [(16,2000),(90,2001),(91,2002),(14,2003),(92,2004)] rfl BS hm rfl Tryz.func29 (by kernel_rfl) rfl (Nz rfl) (by kernel_rfl) rfl ?_;refine Xi 0 ?_;refine Xi 0 ?_;refine Xi 0 ?_;refine Xi {i:Nat // i≤x.length} (Xi (fun i=>⟨[(2,.ref 2 0),(5,.ref 16 0),(18,sl A5 x),(19,vi (x.map A5).length),(20,vi i.1)],[(2,.ro (Ic x ifs)),(12,.mapU Dv (Ij (yR (x.take i.1)))),(13,.map Dv []),(14,.map Dj []),(16,.cells [sl Ah roots,.mref 12,.mref 13,.v (.slice none 0 0),.v (.slice none 0 0),.mref 14,vb false,.v (.slice none 0 0),.v (.slice none 0 0),.v (.slice none 0 0)])],IV (yR (x.take i.1))⟩) (Xi (fun i=>x.length-i.1) (Yi (Xi ⟨0,AS _⟩ ?_) ?_)))
 ·refine⟨Z5,Z5,fun j=>.inl ?_,Aj (by kernel_rfl)⟩;show IV [] j=.free;unfold IV;cases (Nat.ble 100 j&&Nat.blt j 1000)<;>rfl
 intro⟨i,i1⟩;have i1:i≤x.length:=i1;have hq:∀k,(yR (x.take k)).length≤256:=fun k=>by
  have:=By (fun r:Rl=>!r.yanked) (x.take k)
  rw[AN]at this;show(List.filter _ _).length≤256;omega
 refine Xi 0 ?_;refine Yi ?_ ?_
 ·intro h;have h:(i:Int)<(x.map A5).length:=h;have h:i<x.length:=by simpa using h
  have hg:x[i]?=some x[i]:=Ge h;have Kv:x.take (i+1)=x.take i++[x[i]]:=by rw[Bk,hg];rfl
  refine Xi 0 ?_;refine Xi (A5 x[i]) (Yi (Yi (Nn i) (by simp[hg])) (Yi rfl ?_));refine Yi (Nz rfl) (Yi (Nz rfl) ?_);refine Xi ⟨[(2,.ref 2 0),(5,.ref 16 0),(7,.ref 7 0),(18,sl A5 x),(19,vi (x.map A5).length),(20,vi i)],[(2,.ro (Ic x ifs)),(7,.cells (A5 x[i])),(12,.mapU Dv (Ij (yR (x.take i)))),(13,.map Dv []),(14,.map Dj []),(16,.cells [sl Ah roots,.mref 12,.mref 13,.v (.slice none 0 0),.v (.slice none 0 0),.mref 14,vb false,.v (.slice none 0 0),.v (.slice none 0 0),.v (.slice none 0 0)])],IV (yR (x.take i))⟩ (Yi ?_ ?_)
  ·exact⟨Z6,⟨Zr,Zr,⟨rfl,Hs _ (EY _ (hq _))⟩,Zr,Zr,Zr,Tv⟩,GD (hq _) (EY _ (hq _)),Aj (by kernel_rfl)⟩
  refine Xi 0 ?_;refine Yi (fun hy=>?_) (fun hy=>?_)
  ·have hy:x[i].yanked=true:=hy;have ey:yR (x.take (i+1))=yR (x.take i):=by
    unfold yR;rw[Kv,EZ,RE (by rw[hy];decide)];simp
   refine Xi ⟨[(2,.ref 2 0),(5,.ref 16 0),(18,sl A5 x),(19,vi (x.map A5).length),(20,vi i)],[(2,.ro (Ic x ifs)),(12,.mapU Dv (Ij (yR (x.take (i+1))))),(13,.map Dv []),(14,.map Dj []),(16,.cells [sl Ah roots,.mref 12,.mref 13,.v (.slice none 0 0),.v (.slice none 0 0),.mref 14,vb false,.v (.slice none 0 0),.v (.slice none 0 0),.v (.slice none 0 0)])],IV (yR (x.take (i+1)))⟩ (Yi ?_ ?_)
   ·rw[ey];exact⟨Z5,⟨Zr,⟨rfl,Hs _ (EY _ (hq _))⟩,Zr,Zr,Zr,Tv⟩,GD (hq _) (EY _ (hq _)),Aj (by kernel_rfl)⟩
   refine Xi 0 ?_;refine Yi (Ii i (by omega)) ?_;refine Xi ⟨i+1,by omega⟩ ?_;exact⟨Dl x.length i (by omega),Z5,⟨Zr,⟨rfl,Hs _ (EY _ (hq _))⟩,Zr,Zr,Zr,Tv⟩,GD (hq _) (EY _ (hq _)),Aj (by kernel_rfl)⟩
  have hy:x[i].yanked=false:=hy;refine Xi 0 ?_;refine Yi (Nz rfl) ?_;refine Xi .pure (Xi _ (Yi (pz x[i].ver) ?_));refine Xi ⟨[(2,.ref 2 0),(5,.ref 16 0),(7,.ref 7 0),(8,vi (plc x[i].ver)),(18,sl A5 x),(19,vi (x.map A5).length),(20,vi i)],[(2,.ro (Ic x ifs)),(7,.cells (A5 x[i])),(12,.mapU Dv (Ij (yR (x.take i)))),(13,.map Dv []),(14,.map Dj []),(16,.cells [sl Ah roots,.mref 12,.mref 13,.v (.slice none 0 0),.v (.slice none 0 0),.mref 14,vb false,.v (.slice none 0 0),.v (.slice none 0 0),.v (.slice none 0 0)])],IV (yR (x.take i))⟩ (Yi ?_ ?_)
  ·exact⟨Z7,⟨Zr,Zr,⟨rfl,Hs _ (EY _ (hq _))⟩,Zr,Zr,Zr,Tv⟩,GD (hq _) (EY _ (hq _)),Aj (by kernel_rfl)⟩
  have ey:yR (x.take (i+1))=yR (x.take i)++[x[i]]:=by
   unfold yR;rw[Kv,EZ,RF (by rw[hy];decide)];rfl
  have hyl:(yR (x.take i)).length≤256:=by
   have:=By (fun r:Rl=>!r.yanked) (x.take i)
   rw[AN]at this;show(List.filter _ _).length≤256;omega
  have hP:∀l,IV (yR (x.take i)) (l+100)=Gf (yR (x.take i)) l:=EY _ (hq _);refine Cy (Classical.em (x[i].path∈AO (yR (x.take i)) [])) (fun hp=>?_) (fun hp=>?_)
  ·refine BC (Cb.1 hp) (fun k hk=>?_);have hu:=bG hk;have hl:(Gu (yR (x.take i)) x[i].path).length≤256:=by
    rw[Lm];exact Bh (By _ _) hyl
   have qs:k<256:=by
    have:=(At.1 hk).1
    have:=Hb (yR (x.take i)) []
    simp only[Ar]at this;omega
   have hr:IV (yR (x.take i)) (k+100)=.tok 10 (Gu (yR (x.take i)) x[i].path).length:=by rw[hP,aG hk]
   refine Xi 0 ?_;refine Or.inl (Xi (.slice (.id (k+100) 10) (Gu (yR (x.take i)) x[i].path)) (Yi hu ?_));refine Yi (Nz rfl) ?_;refine Qj (e:=115) (m:=9) (es2:=[Qm x[i]]) rfl rfl rfl (fun _ h=>h) hr ⟨rfl,trivial⟩ (by show(_+1)*128≤_;omega) (by show _+1≤_;omega) ?_;refine Yi (IR ⟨AY _,AY _,AY _,AY _,AY _,AY _,AY _,AY _,AY _,AY _,AY _,AY _,AY _,AY _,AY _,AY _,D3 (show 49<10000000 by decide),D3 (by show _+100<10000000;omega),D3 (show 12<10000000 by decide),trivial⟩ (by kernel_rfl)) ?_;have e9:E1 (Ij (yR (x.take i))) (.string x[i].path) (.slice (.id (k+100) 10) (Gu (yR (x.take i)) x[i].path++[Qm x[i]]))=Ij (yR (x.take (i+1))):=by rw[ey];exact fc hk
   have hG:∀l,(bif Nat.beq (l+100) (k+100)then HO.tok 10 ((Gu (yR (x.take i)) x[i].path).length+1)else Gf (yR (x.take i)) l)=Gf (yR (x.take (i+1))) l:=by rw[ey];exact iE hk
   refine Xi ⟨[(2,.ref 2 0),(5,.ref 16 0),(18,sl A5 x),(19,vi (x.map A5).length),(20,vi i)],[(2,.ro (Ic x ifs)),(12,.mapU Dv (Ij (yR (x.take (i+1))))),(13,.map Dv []),(14,.map Dj []),(16,.cells [sl Ah roots,.mref 12,.mref 13,.v (.slice none 0 0),.v (.slice none 0 0),.mref 14,vb false,.v (.slice none 0 0),.v (.slice none 0 0),.v (.slice none 0 0)])],IV (yR (x.take (i+1)))⟩ (Yi ?_ ?_)
   ·refine⟨Z5,⟨Zr,⟨Ae (HO.mapU Dv) e9,Hs _ (EY _ (hq _))⟩,Zr,Zr,Zr,Tv⟩,GD (hq _) (fun l=>?_),VE (fun n=>?_)⟩
    ·show(bif Nat.beq (l+100) (k+100)then HO.tok 10 ((Gu (yR (x.take i)) x[i].path).length+1)else IV (yR (x.take i)) (l+100))=_;rw[hP];exact hG l
    ·exact ZF (y:=yR (x.take i)) (show k+100<1000 by omega)
   refine Xi 0 ?_;refine Yi (Ii i (by omega)) ?_;refine Xi ⟨i+1,by omega⟩ ?_;exact⟨Dl x.length i (by omega),Z5,⟨Zr,⟨rfl,Hs _ (EY _ (hq _))⟩,Zr,Zr,Zr,Tv⟩,GD (hq _) (EY _ (hq _)),Aj (by kernel_rfl)⟩
  ·have SD:(AO (yR (x.take i)) []).length≤256:=by
    have:=Hb (yR (x.take i)) []
    simp only[Ar]at this;omega
   have hn:=UG hp;have hr:IV (yR (x.take i)) ((AO (yR (x.take i)) []).length+100)=.free:=by
    rw[hP];unfold Gf;rw[AZ (Ak _)]
   refine Xi ((AO (yR (x.take i)) []).length+100) ?_;refine Or.inr (Yi hn ?_);refine Yi (Nz rfl) ?_;refine Qi (e:=115) (m:=9) (es2:=[Qm x[i]]) rfl rfl rfl (fun _ h=>h) hr rfl ⟨rfl,trivial⟩ (by show 1*128≤_;omega) (by show 1≤_;omega) ?_;refine Yi (IR ⟨AY _,AY _,AY _,AY _,AY _,AY _,AY _,AY _,AY _,AY _,AY _,AY _,AY _,AY _,AY _,AY _,D3 (show 49<10000000 by decide),D3 (by show _+100<10000000;omega),D3 (show 12<10000000 by decide),trivial⟩ (by kernel_rfl)) ?_;have e9:E1 (Ij (yR (x.take i))) (.string x[i].path) (.slice (.id ((AO (yR (x.take i)) []).length+100) 10) [Qm x[i]])=Ij (yR (x.take (i+1))):=by rw[ey];exact fb hp
   have hG:∀l,(bif Nat.beq (l+100) ((AO (yR (x.take i)) []).length+100)then HO.tok 10 1 else Gf (yR (x.take i)) l)=Gf (yR (x.take (i+1))) l:=by rw[ey];exact iD hp
   refine Xi ⟨[(2,.ref 2 0),(5,.ref 16 0),(18,sl A5 x),(19,vi (x.map A5).length),(20,vi i)],[(2,.ro (Ic x ifs)),(12,.mapU Dv (Ij (yR (x.take (i+1))))),(13,.map Dv []),(14,.map Dj []),(16,.cells [sl Ah roots,.mref 12,.mref 13,.v (.slice none 0 0),.v (.slice none 0 0),.mref 14,vb false,.v (.slice none 0 0),.v (.slice none 0 0),.v (.slice none 0 0)])],IV (yR (x.take (i+1)))⟩ (Yi ?_ ?_)
   ·refine⟨Z5,⟨Zr,⟨Ae (HO.mapU Dv) e9,Hs _ (EY _ (hq _))⟩,Zr,Zr,Zr,Tv⟩,GD (hq _) (fun l=>?_),VE (fun n=>?_)⟩
    ·show(bif Nat.beq (l+100) ((AO (yR (x.take i)) []).length+100)then HO.tok 10 1 else IV (yR (x.take i)) (l+100))=_;rw[hP];exact hG l
    ·exact ZF (y:=yR (x.take i)) (show(AO (yR (x.take i)) []).length+100<1000 by omega)
   refine Xi 0 ?_;refine Yi (Ii i (by omega)) ?_;refine Xi ⟨i+1,by omega⟩ ?_;exact⟨Dl x.length i (by omega),Z5,⟨Zr,⟨rfl,Hs _ (EY _ (hq _))⟩,Zr,Zr,Zr,Tv⟩,GD (hq _) (EY _ (hq _)),Aj (by kernel_rfl)⟩
 ·intro h;have h:¬(i:Int)<(x.map A5).length:=h;have h:¬i<x.length:=by simpa using h
  have et:x.take i=x:=AI (by omega);have eM:∀hh:Nat→HO,Ra hh (Ij (yR (x.take i)))=(AO (yR x) []).map (kC x):=fun hh=>by
   rw[et];unfold Ra Ij;rw[BW];refine Dc fun j=>?_;rw[AH,AH,List.getElem?_zipIdx];cases (AO (yR x) [])[j]? with
   |none=>rfl
   |some q=>show some (Value.string q,AV.slice .none (Gu (yR x) q))=_;rw[Y9];rfl
  refine Xi ⟨[(2,.ref 2 0),(5,.ref 16 0)],[(2,.ro (Ic x ifs)),(12,.mapU Dv (Ij (yR (x.take i)))),(13,.map Dv []),(14,.map Dj []),(16,.cells [sl Ah roots,.mref 12,.mref 13,.v (.slice none 0 0),.v (.slice none 0 0),.mref 14,vb false,.v (.slice none 0 0),.v (.slice none 0 0),.v (.slice none 0 0)])],IV (yR (x.take i))⟩ (Yi ?_ ?_)
  ·exact⟨Z2,⟨Zr,⟨rfl,Hs _ (EY _ (hq _))⟩,Zr,Zr,Zr,Tv⟩,GD (hq _) (EY _ (hq _)),Aj (by kernel_rfl)⟩
  refine Xi 0 ?_;refine Xi {p:List ByteArray×List ByteArray×Option (Value×AV) // (p.1++p.2.1).Perm (AO (yR x) [])} (Xi (fun p=>⟨[(2,.ref 2 0),(5,.ref 16 0),(56,.ref 56 0)],[(2,.ro (Ic x ifs)),(12,.rom Dv ((AO (yR x) []).map (kC x))),(13,.map Dv (p.1.1.map (kA x))),(14,.map Dj []),(16,.cells [sl Ah roots,.mref 12,.mref 13,.slice (.id 90 6) [],.slice (.id 91 1) [],.mref 14,vb false,.slice (.id 93 10) [],.slice (.id 94 4) [],.v (.slice none 0 0)]),(56,.iter ((AO (yR x) []).map (kC x)) (p.1.2.1.map (kC x)) p.1.2.2),(90,.tok 6 0),(91,.tok 1 0),(93,.tok 10 0),(94,.tok 4 0)],Aa⟩) (Xi (fun p=>p.1.2.1.length) (Yi (Xi ⟨([],AO (yR x) [],none),.refl _⟩ ?_) ?_)))
  ·refine⟨Z3,⟨Zr,⟨Ae (HO.rom Dv) (eM _),rfl⟩,Zr,Zr,Zr,⟨?_,rfl⟩,Zr,Zr,Zr,Zr,Tv⟩,Fh,VE (fun n=>?_)⟩
   ·show HO.iter (Ra _ (Ij (yR (x.take i)))) (Ra _ (Ij (yR (x.take i)))) none=_;rw[eM]
   ·exact ZT (yR (x.take i)) n
  intro⟨⟨done,rem,F2⟩,r1⟩;have r1:(done++rem).Perm (AO (yR x) []):=r1;refine Xi 0 ?_;refine Yi ?_ ?_
  ·intro hr;have hr:rem.map (kC x)=[]:=hr;have hr:rem=[]:=EE.1 hr;subst hr;rw[CP]at r1;refine Xi ⟨[(5,.ref 16 0)],[(14,.map Dj []),(16,.cells [sl Ah roots,.cmap Dv (mC x),.cmap Dv (done.map (kA x)),.slice (.id 90 6) [],.slice (.id 91 1) [],.mref 14,vb false,.slice (.id 93 10) [],.slice (.id 94 4) [],.msl 92 0]),(90,.tok 6 0),(91,.tok 1 0),(92,.arr 1 []),(93,.tok 10 0),(94,.tok 4 0)],Aa⟩ (Yi ⟨Z1,Z7,Fh,Aj (by kernel_rfl)⟩ ?_)
   refine Xi 0 ?_;exact Xi _ (Yi (.refl _) (Xi done (Yi r1 (Yi rfl rfl))))
  ·intro kv NM hp;refine BC (ks hp) (fun t hp=>BC hp (fun r hp=>?_));have e1:=hp.1;have e2:=hp.2.1;subst e1;subst e2;have hp:=hp.2.2;refine Xi ⟨[(2,.ref 2 0),(5,.ref 16 0),(56,.ref 56 0)],[(2,.ro (Ic x ifs)),(12,.rom Dv ((AO (yR x) []).map (kC x))),(13,.map Dv (done.map (kA x))),(14,.map Dj []),(16,.cells [sl Ah roots,.mref 12,.mref 13,.slice (.id 90 6) [],.slice (.id 91 1) [],.mref 14,vb false,.slice (.id 93 10) [],.slice (.id 94 4) [],.v (.slice none 0 0)]),(56,.iter ((AO (yR x) []).map (kC x)) (r.map (kC x)) (some (kC x t))),(90,.tok 6 0),(91,.tok 1 0),(93,.tok 10 0),(94,.tok 4 0)],Aa⟩ (Yi ⟨Z3,Z10,Fh,Aj (by kernel_rfl)⟩ ?_)
   refine Xi 0 ?_;refine Xi ⟨[(2,.ref 2 0),(5,.ref 16 0),(10,vs t),(56,.ref 56 0)],[(2,.ro (Ic x ifs)),(12,.rom Dv ((AO (yR x) []).map (kC x))),(13,.map Dv (done.map (kA x))),(14,.map Dj []),(16,.cells [sl Ah roots,.mref 12,.mref 13,.slice (.id 90 6) [],.slice (.id 91 1) [],.mref 14,vb false,.slice (.id 93 10) [],.slice (.id 94 4) [],.v (.slice none 0 0)]),(56,.iter ((AO (yR x) []).map (kC x)) (r.map (kC x)) (some (kC x t))),(90,.tok 6 0),(91,.tok 1 0),(93,.tok 10 0),(94,.tok 4 0)],Aa⟩ (Yi ⟨Z4,Z10,Fh,Aj (by kernel_rfl)⟩ ?_)
   refine Xi 0 ?_;have Pq:(done++rem).Nodup:=r1.nodup_iff.2 (EK _ [] Fd);have htn:t∉done:=fun hc=>(Fz.1 Pq).2.2 t hc t (hp.mem_iff.2 (Ab ..)) rfl;have em:E1 (done.map (kA x)) (.string t) (sl Ap (BM x t))=(done++[t]).map (kA x):=by
    rw[Md (fun a ha=>htn (V0.1 ha).1),AB];rfl
   have TK:((done++[t])++r).Perm (AO (yR x) []):=by
    rw[BU];exact(List.Perm.append_left _ hp.symm).trans r1
   refine Yi (Nz rfl) ?_;refine Xi _ (Yi (po x ifs t (c84 x ifs hx)) ?_);refine Yi (by kernel_rfl) ?_;refine Xi ⟨(done++[t],r,some (kC x t)),TK⟩ ?_;exact⟨by show r.length<rem.length;rw[hp.length_eq,Al];omega,Z3,⟨Zr,Zr,⟨Ae (HO.map Dv) em,rfl⟩,Zr,Zr,Zr,Zr,Zr,Zr,Zr,Tv⟩,Fh,Aj (by kernel_rfl)⟩
end Go.Eng

namespace Go.Eng
open Go.Proofs
end Go.Eng

namespace Go.Eng
open Go.Proofs
end Go.Eng

namespace Go.Eng
open Go.Proofs
end Go.Eng

namespace Go.Eng
open Go.Proofs
end Go.Eng

namespace Go.Eng
open Go.Proofs
end Go.Eng

namespace Go.Eng
open Go.Proofs
end Go.Eng

namespace Go.Eng
open Go.Proofs
end Go.Eng

namespace Go.Eng
open Go.Proofs
end Go.Eng

namespace Go.Eng
open Go.Proofs
end Go.Eng

namespace Go.Eng
open Go.Proofs
end Go.Eng

namespace Go.Eng
open Go.Proofs
end Go.Eng

namespace Go.Eng
open Go.Proofs
theorem ir(s:Bj):∀cs∈s.map Ap,cs.length=2:=fun cs h=>by
 obtain⟨x,_,rfl⟩:=Ao.1 h;rfl
theorem Uk{n:Nat}:∀{l:List (List AV)},(∀c∈l,c.length=n)→BY n l
 | [],_=>trivial
 |c::_,h=>⟨h c (Ab ..),Uk fun d hd=>h d (Ag _ hd)⟩
abbrev X3(s:Bj)(k:Nat):List (List AV):=((s.map Ap).take (((s.map Ap).length:Nat):Int).toNat).drop ((k:Nat):Int).toNat
theorem ib(s:Bj)(k:Nat):X3 s k=(s.drop k).map Ap:=by
 unfold X3;rw[BT,BT,AI (Ak _),List.map_drop]
abbrev W9(s:Bj)(k:Nat):List (List AV):=((s.map Ap).take ((k:Nat):Int).toNat).drop ((0:Int)).toNat
theorem fu(s:Bj)(k:Nat):W9 s k=(s.take k).map Ap:=by
 unfold W9;rw[BT,show(0:Int).toNat=0 from rfl,NY,List.map_take]
theorem lj(s:Bj)(x:Int×Int)(k:Nat)(hk:k≤s.length)(h:s.length≤1073741824):BY 2 ([Ap x]++X3 s k)∧(W9 s k).length=((k:Nat):Int).toNat-((0:Int)).toNat∧((W9 s k).length+([Ap x]++X3 s k).length)*16≤140737488355328∧(W9 s k).length+([Ap x]++X3 s k).length≤9223372036854775807:=by
 rw[ib,fu];refine⟨⟨rfl,Uk (ir _)⟩,?_,?_,?_⟩
 ·rw[Lm,AN,BT];show min k s.length=k-0;omega
 ·rw[Ac,Lm,Lm,AN,Da,As];omega
 ·rw[Ac,Lm,Lm,AN,Da,As];omega
end Go.Eng

namespace Go.Eng
open Go.Proofs
end Go.Eng

namespace Go.Eng
open Go.Proofs
end Go.Eng

namespace Go.Eng
open Go.Proofs
end Go.Eng

namespace Go.Eng
open Go.Proofs
end Go.Eng

namespace Go.Eng
open Go.Proofs
end Go.Eng

namespace Go.Eng
open Go.Proofs
end Go.Eng

namespace Go.Eng
open Go.Proofs
end Go.Eng

namespace Go.Eng
open Go.Proofs
end Go.Eng

namespace Go.Eng
open Go.Proofs
end Go.Eng

namespace Go.Eng
open Go.Proofs
end Go.Eng

namespace Go.Eng
open Go.Proofs
end Go.Eng

namespace Go.Eng
open Go.Proofs
def ZP(p:ByteArray)(r:Rl):Bool:=decide (r.path=p)&&!r.yanked
def rN(r:Rl):Int×Int:=(plc r.ver,plc r.ver+1)
theorem be{x:List Rl}{p:ByteArray}(h:A6 x=0):BM x p=canon ((x.filter (ZP p)).map rN):=by
 unfold BM J6;rw[Am (not_not_intro h),List.filter_filter]
 congr 3
 funext r
 unfold ZP;rw[Bool.and_comm]
end Go.Eng

namespace Go.Eng
open Go.Proofs
theorem Yq{x:List Rl}(h0:A6 x=0){p:ByteArray}(h:p∉AO (yR x) []):BM x p=[]:=by
 rw[be h0]
 have:x.filter (ZP p)=[]:=by
  rw[Hf];intro r hr hc;unfold ZP at hc;rw[Af,Az]at hc;exact h ((Hc _ _ _).2 (.inr ⟨r,BA.2 ⟨hr,hc.2⟩,hc.1⟩))
 rw[this];rfl
theorem eF{x:List Rl}{roots:List Rq}(hx:∀r∈x,Io r)(hr:∀q∈roots,Js q)(h0:A6 x=0)(h1:BE roots=0){l:List ByteArray}(hl:l.Perm (AO (yR x) [])):oT x roots (mC x) (l.map (kA x)) where
 hx:=h0
 hr:=h1
 fx:=hx
 fr:=hr
 c1:=qZ x
 c2:=ra x
 c3:=rb x
 av p:=by
  by_cases hp:p∈l
  ·exact⟨sl Ap (BM x p),fun a ha=>(V0.1 ha).2,fun hn=>(hn _ (V0.2 ⟨hp,rfl⟩)).elim,fun h=>mw p (BM x p) (Nm x p)⟩
  ·refine⟨.v (.slice none 0 0),fun a ha=>(hp (V0.1 ha).1).elim,fun _=>rfl,fun h=>?_⟩;have e:=Yq h0 (fun hc=>hp (hl.mem_iff.2 hc));have hc:=mw p (BM x p) (Nm x p);rw[e]at hc⊢;exact Ln.args hc ⟨.refl _,.nil,trivial⟩
end Go.Eng

namespace Go.Eng
open Go.Proofs
end Go.Eng

namespace Go.Eng
open Go.Proofs
end Go.Eng

namespace Go.Eng
open Go.Proofs

end Go.Eng

namespace Go.Eng
open Go.Proofs
end Go.Eng

namespace Go.Eng
open Go.Proofs
section
variable {x:List Rl}{roots:List Rq}{d:List (List Tm)}{i:Nf}
end
end Go.Eng

namespace Go.Eng
open Go.Proofs
end Go.Eng

namespace Go.Eng
open Go.Proofs
end Go.Eng

namespace Go.Eng
open Go.Proofs
section
variable {s:List Sl}{q:Rq}{o:Option ByteArray}
end
end Go.Eng

namespace Go.Eng
open Go.Proofs
section
variable {x:List Rl}{roots:List Rq}{s A:List Sl}{m:Nat}
end
end Go.Eng

namespace Go.Eng
open Go.Proofs
section
variable {N:List Rq}{p:ByteArray}{pl:Int}{o:Rl}
end
end Go.Eng

namespace Go.Eng
open Go.Proofs
abbrev Iw(b:Bool):List AV:=[vb b]
section
variable {l:List Rl}{roots:List Rq}{Cl:List ByteArray}{B:List Bool}
variable {B0:List Bool}{i:Nat}{ch:Bool}
end
end Go.Eng

namespace Go.Eng
open Go.Proofs
end Go.Eng

namespace Go.Eng
open Go.Proofs
section
variable {x l:List Rl}{roots:List Rq}{s:List Sl}
end
end Go.Eng
