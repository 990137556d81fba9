/- Lemmas for the claims of this seat, without a condition: part 25 (S8d, S8e, S11, S12, S13, S14, S16, R1, R2). -/
import Derived.Test.YtkmnnpmneamgoaaGreatDoorA24
import Derived.Test.YtkmnnpmneamgoaaGreatDoorA04
namespace Go.Eng
open Go.Proofs
set_option maxHeartbeats 8000000 in
theorem yg(x:List Rl)(roots:List Rq)(C A:List (Value×AV))(n:Nat)(s:SS)(dec:List Cd)(st:List (List Sk))(p:ByteArray)(n0:Nd)(l:List Nd)(V:AV)(cs:List Cd)(R O:J7)(hL:tV x roots C A n dec p n0 l V cs)(hs:JI x roots s)(Gy:st.length=dec.length)
  (IG:Bo Tryz.prog 64 [.ref 1000 0] (Af (HX roots C A s dec st) Aa) fun r h'=>r=.tup [vs p,sl AT (n0::l)]∧h'=Af (HX roots C A s dec st) Aa)
  (cj:cs=[]) (nE:∀a,(Value.string p,a)∉C) (hR:D1 (Dk x roots n) x p (n0::l) n0 dec st cs s [] []=R) (aI:O=R) :
  Bo Tryz.prog 45 [.ref 1000 0] (Af (HX roots C A s dec st) Aa) (YL roots C A O):=by
 obtain⟨hx,hr,hdl,hcl,hcs,hnl,hnq,hnp,hex,hcx,hcq,hcp_,hcr,hcs_,hkey,hinf0,⟨qM,qN,qO⟩,ih⟩:=hL;have hdl:dec.length≤256:=hdl;have hcl:cs.length≤256:=hcl;have Gy:st.length=dec.length:=Gy;have Xx:∀(i:Nat) (h:i<cs.length),cs[i]∈BH x p:=fun i h=>by rw[←hcs];exact Aj h
 have mj:∀(i:Nat) (h:i<cs.length),CK (Am (dec++[cs[i]])):=fun i h=>by unfold CK Am;rw[Lm,Ad];simp;omega
 clear hcs
 refine CF (MG ⟨[9],[(6,1),(7,3),(145,1)],[],[],[],[],[],[],[],[(300001,500091000),(300026,500091000),(300029,500091000)],[1,2,5,10,11,13,14,15,16,17,19,21,22,23,24,25,26,28,29,31,32,33,35]⟩) [(1000,1000),(1001,1001),(1002,1002),(1003,1003),(1004,1004),(500,2000)] rfl CG hm rfl Tryz.func45 (by kernel_rfl) rfl (Nz rfl) (by kernel_rfl) rfl ?_;refine Yi (show st.length=(st.map AS).length by simp) ?_;refine Xi ⟨[(0,.ref 1000 0)],[(500,.arr 1 (st.map AS)),(1000,.cells (srM roots C A s dec 500 st.length)),(1001,.tok 6 s.infs.length),(1002,.tok 1 s.drv.length),(1003,.map Dw (DX 0 s.infs)),(1004,.dead)],Aa⟩ (Yi ⟨Z1,Z6,Fh,As (by kernel_rfl)⟩ ?_)
 refine Xi (.gen YK 0) (Yi rfl (Bo.imp IG ?_));intro v1 g1 q1;have ZT:=q1.1;have ZU:=q1.2;subst ZT;subst ZU;refine Xi ⟨[(0,.ref 1000 0),(4,vs p),(5,sl AT (n0::l))],[(500,.arr 1 (st.map AS)),(1000,.cells (srM roots C A s dec 500 st.length)),(1001,.tok 6 s.infs.length),(1002,.tok 1 s.drv.length),(1003,.map Dw (DX 0 s.infs)),(1004,.dead)],Aa⟩ (Yi ⟨Z3,Z6,Fh,As (by kernel_rfl)⟩ ?_)
 refine Yi (fun h2=>?_) (fun h2=>?_)
 ·have h2:(((n0::l).map AT).length:Int)=(0:Int):=h2;exact absurd h2 (by simp;omega)
 have h2:¬((((n0::l).map AT).length:Int)=(0:Int)):=h2;refine Xi ⟨[(0,.ref 1000 0),(4,vs p),(5,sl AT (n0::l)),(6,.slice (.id 6 1) [])],[(6,.tok 1 0),(500,.arr 1 (st.map AS)),(1000,.cells (srM roots C A s dec 500 st.length)),(1001,.tok 6 s.infs.length),(1002,.tok 1 s.drv.length),(1003,.map Dw (DX 0 s.infs)),(1004,.dead)],Aa⟩ (Yi ⟨Z4,Z7,Fh,As (by kernel_rfl)⟩ ?_)
 refine Yi (fun a ha=>?_) (fun NK=>?_)
 ·exact absurd ha (nE a)
 refine Xi {q:Nat×SS×List Nat×List Sk // q.1≤cs.length∧D1 (Dk x roots n) x p (n0::l) n0 dec st (cs.drop q.1) q.2.1 q.2.2.1 q.2.2.2=R∧JI x roots q.2.1∧(∀r∈q.2.2.1,r<q.2.1.drv.length)∧q.2.2.1.length≤q.1∧q.2.2.2.length≤q.1} (Xi (fun q=>⟨[(0,.ref 1000 0),(4,vs p),(5,sl AT (n0::l)),(6,.slice (.id 6 1) (q.1.2.2.1.map BF)),(7,.slice (.id 7 3) (q.1.2.2.2.map BD)),(32,.v (.slice none 0 0)),(33,vi 0),(34,vi q.1.1)],[(6,.tok 1 q.1.2.2.1.length),(7,.tok 3 q.1.2.2.2.length),(500,.arr 1 (st.map AS)),(1000,.cells (srM roots C A q.1.2.1 dec 500 st.length)),(1001,.tok 6 q.1.2.1.infs.length),(1002,.tok 1 q.1.2.1.drv.length),(1003,.map Dw (DX 0 q.1.2.1.infs)),(1004,.dead)],Aa⟩) (Xi (fun q=>cs.length-q.1.1) (Yi (Xi ⟨(0,s,[],[]),AL _,hR,hs,fun r h=>(by cases h),Ao _,Ao _⟩ ?_) ?_)))
 ·exact⟨Z8,Z8,Fh,As (by kernel_rfl)⟩
 intro⟨⟨i,S,rs,sk⟩,j1,j2,j3,j4,j5,j6⟩;have j1:i≤cs.length:=j1;have j2:D1 (Dk x roots n) x p (n0::l) n0 dec st (cs.drop i) S rs sk=R:=j2;have j3:JI x roots S:=j3;have j4:∀r∈rs,r<S.drv.length:=j4;have j5:rs.length≤i:=j5;have j6:sk.length≤i:=j6;have hw:=j3.dl;have gq:∀t∈S.drv,ee t:=fun t ht=>by have q:=j3.der.few hx hr t ht;exact⟨Fk q,q.2⟩
 refine Yi (fun h3=>?_) (fun h3=>?_)
 ·have h3:(i:Int)<(0:Int):=h3;exact absurd h3 (by have q:=j1;rw[cj,Al]at q;omega)
 have h3:¬((i:Int)<(0:Int)):=h3;refine Xi (AT n0) (Yi (Yi (show(0:Int)≤0 by decide) rfl) (Yi rfl ?_));refine Yi (Nz rfl) ?_;refine Xi (.gen YK 0) (Yi rfl (Bo.imp (zU x roots C A S dec st p n0 rs V hx hr j3 hinf0 j4 (by omega) (hnq n0 (Ab ..)) (hnp n0 (Ab ..)) qM qN qO) ?_));intro v4 g4 q4;have sw:=q4.1;have sx:=q4.2;subst sw;subst sx;have hj:¬i<cs.length:=by rw[cj];simp
 have eR:R=⟨(D3 x p n0 rs S).1,false,(D3 x p n0 rs S).2,dec,st⟩:=by rw[←j2];exact fc hj
 exact Xi _ (Yi (.refl _) (Nw (aI.trans eR)))
set_option maxHeartbeats 4000000 in
theorem yi(roots:List Rq)(C A:List (Value×AV))(s:SS)(dec:List Cd)(st:List (List Sk))(p:ByteArray)(N:List Nd)(O:J7)(hN:N=[])
  (IG:Bo Tryz.prog 64 [.ref 1000 0] (Af (HX roots C A s dec st) Aa) fun r h'=>r=.tup [vs p,sl AT N]∧h'=Af (HX roots C A s dec st) Aa) (hO:O=⟨0,true,s,dec,st⟩) :
  Bo Tryz.prog 45 [.ref 1000 0] (Af (HX roots C A s dec st) Aa) (YL roots C A O):=by
 refine CF (MG ⟨[],[],[],[],[],[],[],[],[],[(300001,500091000)],[1,2,5,10,11,13,14,15,16,17,19,21,22,23,25,28,29,31,32,33,35]⟩) [(1000,1000),(1001,1001),(1002,1002),(1003,1003),(1004,1004),(500,2000)] rfl CG hm rfl Tryz.func45 (by kernel_rfl) rfl (Nz rfl) (by kernel_rfl) rfl ?_;refine Yi (show st.length=(st.map AS).length by simp) ?_;refine Xi ⟨[(0,.ref 1000 0)],[(500,.arr 1 (st.map AS)),(1000,.cells (srM roots C A s dec 500 st.length)),(1001,.tok 6 s.infs.length),(1002,.tok 1 s.drv.length),(1003,.map Dw (DX 0 s.infs)),(1004,.dead)],Aa⟩ (Yi ⟨Z1,Z6,Fh,As (by kernel_rfl)⟩ ?_)
 refine Xi (.gen YK 0) (Yi rfl (Bo.imp IG ?_));intro v1 g1 q1;have ZT:=q1.1;have ZU:=q1.2;subst ZT;subst ZU;refine Xi ⟨[(0,.ref 1000 0),(4,vs p),(5,sl AT N)],[(500,.arr 1 (st.map AS)),(1000,.cells (srM roots C A s dec 500 st.length)),(1001,.tok 6 s.infs.length),(1002,.tok 1 s.drv.length),(1003,.map Dw (DX 0 s.infs)),(1004,.dead)],Aa⟩ (Yi ⟨Z3,Z6,Fh,As (by kernel_rfl)⟩ ?_)
 refine Yi (fun h2=>?_) (fun h2=>?_)
 ·have h2:((N.map AT).length:Int)=(0:Int):=h2;exact Xi _ (Yi (.refl _) (Nw (st:=st) hO))
 have h2:¬(((N.map AT).length:Int)=(0:Int)):=h2;exact absurd (by rw[hN];rfl) h2
end Go.Eng

namespace Go.Eng
open Go.Proofs
section
variable {x:List Rl}{roots:List Rq}{p:ByteArray}
theorem Ig:∀(l:List Nat) {k:Nat} {s:SS},s.infs.Nodup→(Cp p l k s).2.infs.Nodup
 | [],_,_,h=>h
 |r::l,k,s,h=>by
  unfold Cp;split
  ·exact h
  split
  ·exact Ig l h
  split
  ·exact Ig l h
  ·exact Ig l (H5 h)
theorem K6{needs:List Nd}{n0:Nd}{dec:List Cd}{st:List (List Sk)}{rec:List Cd→SS→List (List Sk)→J7}(Um:∀c s st,s.infs.Nodup→(rec (dec++[c]) s st).ss.infs.Nodup) :
  ∀(cs:List Cd) {s:SS} {rs:List Nat} {sk:List Sk},s.infs.Nodup→(D1 rec x p needs n0 dec st cs s rs sk).ss.infs.Nodup
 | [],s,rs,sk,h=>Ig _ (H5 (H5 h))
 |c::cs,s,rs,sk,h=>by
  have mQ:∀(s' : SS) (k:Nat),s'.infs.Nodup→(JN rec x p needs n0 dec st c cs rs sk k s').ss.infs.Nodup:=fun s' k h'=>by
   unfold JN;split
   ·exact h'
   ·exact K6 Um cs h'
  rw[Gv];split
  ·exact h
  cases needs.find? fun n=>!has n.rq.set c.place with
  |some n=>exact K6 Um cs (H5 h)
  |none =>
   dsimp only;cases Ox s.drv (Am (dec++[c]))with
   |some k=>exact mQ s k h
   |none =>
    dsimp only;cases Co dec c with
    |some n=>exact mQ _ _ (H5 h)
    |none =>
     dsimp only;have h2:=Um c s (st++[sk]) h;split
     ·exact h2
     split
     ·exact h2
     ·exact mQ _ _ h2
theorem Pd:∀(n:Nat) {dec:List Cd} {s:SS} {st:List (List Sk)},s.infs.Nodup→(Dk x roots n dec s st).ss.infs.Nodup
 |0,_,_,_,h=>h
 |n+1,dec,s,st,h=>by
  unfold Dk;cases (EO roots dec).2 with
  |nil=>exact h
  |cons n0 l=>exact K6 (fun c s st h=>Pd n h) _ h
structure pT(x:List Rl)(roots:List Rq)(C A:List (Value×AV)):Prop where
 hx:A7 x=0
 hr:Bm roots=0
 fx:∀r∈x,Gf r
 fr:∀q∈roots,H4 q
 c1:∀(p:ByteArray) (a:AV),(Value.string p,a)∈C→a=sl Ax (BH x p)
 c2:∀p:ByteArray,(∀a,(Value.string p,a)∉C)→BH x p=[]
 c3:∀p:ByteArray,BH x p=[]→∀a,(Value.string p,a)∉C
 av:∀p:ByteArray,∃V,HV x A p V
theorem fG{dec:List Cd}(h:∀c∈dec,c.rel.reqs.length≤16):((dec.map fun c=>c.rel.reqs).flatten).length≤16*dec.length:=by
 induction dec with
 |nil=>simp
 |cons c dec ih =>
  rw[AN,Bq,Ad,Ak]
  have:=h c (Ab ..)
  have:=ih fun d hd=>h d (Ai _ hd)
  omega
theorem oL{r:Rl}(h:RV r):0≤plc r.ver∧plc r.ver<1000000:=by rw[h.plc];exact JA h.val
theorem Vg(dec:List Cd):(EO roots dec).2.length≤(Dp roots dec).length:=by
 rw[Tu];cases HJ (DD roots dec) (Am dec)with
 |none=>simp
 |some q=>exact By _ _
theorem zN{C A:List (Value×AV)}(hE:pT x roots C A)(nD:z6 roots C A):∀(n:Nat) {dec:List Cd} {s:SS} {st:List (List Sk)},DY x dec→IN roots dec→JI x roots s→s.full=false→KE x dec<n→st.length=dec.length →
  Bo Tryz.prog 45 [.ref 1000 0] (Af (HX roots C A s dec st) Aa) (YL roots C A (Dk x roots n dec s st))
 |0,_,_,_,_,_,_,_,h,_=>by omega
 |n+1,dec,s,st,hd,cr,hs,hf,hn,Gy=>by
  have hx:=hE.hx;have hr:=hE.hr;have QO:=Kd hx;have hdl:=L7 hd;have gn:dec.length≤256:=by have:=QO.1;omega
  have hrl:∀c∈dec,c.rel.reqs.length≤16:=fun c hc=>QO.2 _ (hd.cand c hc).1;have IG:=nD s dec st (by omega) fun c hc=>Bu (hrl c hc) (by decide);generalize hO:Dk x roots (n+1) dec s st=O;obtain⟨N,hN⟩:∃N,N=(EO roots dec).2:=⟨_,rfl⟩;obtain⟨q,hq⟩:∃q,q=(EO roots dec).1:=⟨_,rfl⟩;rw[←hN,←hq]at IG;have nH:N.length≤10000:=by
   have h1:=Vg (roots:=roots) dec;have h2:(Dp roots dec).length=(DD roots dec).length:=by rw[←Jf,Lm]
   have h3:=fG hrl;have h4:=JB hr;rw[←hN]at h1;unfold DD at h2;rw[Ad]at h2;omega
  cases hNc:N with
  |nil =>
   rw[hNc]at hN IG;refine yi roots C A s dec st q [] O rfl IG ?_;rw[←hO];unfold Dk;rw[←hN]
  |cons n0 l =>
   rw[hNc]at hN IG;have hNx:=Jy hN.symm;rw[←hq]at hNx;have MJ:∀nd∈n0::l,nd∈Dp roots dec:=fun nd h=>((hNx.mem nd).1 h).1;have FO:=(CN hx).1;have few:∀{E:List Cd},DY x E→∀nd∈Dp roots E,CK nd.rq.set∧Bf (nd.place+1):=fun hE' nd h=>by
    rcases KL h with ⟨k,r,h1,rfl⟩ | ⟨c,hc,k,r,h1,rfl⟩
    ·exact⟨(hE.fr r (Ay h1)).1,by unfold Bf;show -9223372036854775808≤(0:Int)+1∧(0:Int)+1<9223372036854775808;decide⟩
    ·have h2:=hE'.cand c hc;have h3:=oL (FO _ h2.1);rw[←h2.2.2]at h3;exact⟨((hE.fx _ h2.1).2 r (Ay h1)).1,by unfold Bf;show _≤c.place+1∧c.place+1<_;omega⟩
   have ct:∀c∈BH x q,DY x (dec++[c])∧c.rel.path=q∧c.rel∈x:=fun c hc=>by
    obtain⟨c1,c2⟩:=Hw hc;exact⟨hd.snoc c2 (by rw[c1];exact hNx.undone),c1,c2.1⟩
   have EN:∀(i:Nat) (h:i<(BH x q).length),(BH x q)[i]∈BH x q:=fun i h=>Aj h;obtain⟨V,hV⟩:=hE.av q
   have hL:tV x roots C A n dec q n0 l V (BH x q):={
    hx:=hx
    hr:=hr
    hdl:=gn
    hcl:=Bu (Px x q) QO.1
    hcs:=rfl
    hnl:=by rw[hNc]at nH;omega
    hnq:=fun nd h=>(few hd nd (MJ nd h)).1
    hnp:=fun nd h=>(few hd nd (MJ nd h)).2
    hex:=fun i h nd hm hh=>by
     obtain⟨a,b,_⟩:=ct _ (EN i h);exact⟨(OY hx hr a (NT (MJ nd hm)) ⟨(BH x q)[i],by simp,b.trans ((hNx.mem nd).1 hm).2.symm,hh⟩).1,trivial⟩
    hcx:=fun i h nc hc=>by
     obtain⟨a,b,_⟩:=ct _ (EN i h);obtain⟨m1,m2⟩:=K9 hc;exact⟨(OY hx hr a (MR m1) m2).1,trivial⟩
    hcq:=fun i h nc hm=>(few (ct _ (EN i h)).1 nc (MR hm)).1
    hcp_:=fun i h nc hm=>(few (ct _ (EN i h)).1 nc (MR hm)).2
    hcr:=fun i h=>by have:=QO.2 _ (ct _ (EN i h)).2.2;omega
    hcs_:=fun i h r hm=>((hE.fx _ (ct _ (EN i h)).2.2).2 r hm).1
    hkey:=fun i h=>by
     have b:=(ct _ (EN i h)).2.1;unfold Am;rw[AA,AA];show _=_++[[vs (BH x q)[i].rel.path,vi (BH x q)[i].rel.ver.a,vi (BH x q)[i].rel.ver.b,vi (BH x q)[i].rel.ver.c]];rw[b]
    hinf0:=(RA hx hr hd (MJ n0 (Ab ..)) (.inl (by
     rw[((hNx.mem n0).1 (Ab ..)).2];exact HC (by rw[F1];exact hNx.undone)))).inf
    hV:=hV
    ih:=fun c hc wI S Fv hl hS yS=>by
     obtain⟨a,b,c3⟩:=ct c hc;obtain⟨k1,k2⟩:=GL.1 wI;obtain⟨_,c2⟩:=Hw hc;have mu:=cr.snoc hNx b k1 k2;have jz:KE x (dec++[c])<n:=by have:=Lg (dec:=dec) ⟨c2.1,c2.2.1⟩ (by rw[b];exact hNx.undone);omega
     have h1:=zN hE nD n a mu hS yS jz (st:=Fv) (by rw[hl];simp);have h2:=Qk hx hr n a mu hS.der yS jz (st:=Fv);exact⟨h1,⟨h2.der,Pd n hS.nodup⟩,⟨h2.grow.len,fun e1 e2=>((h2.no e1).2.2 e2).1⟩,fun e1=>(h2.no e1).2.1⟩ }
   have hR:D1 (Dk x roots n) x q (n0::l) n0 dec st (BH x q) s [] []=O:=by
    rw[←hO]
    conv=>rhs;unfold Dk
    rw[←hN,hq]
   by_cases hm:∀a,(Value.string q,a)∉C
   ·exact yg x roots C A n s dec st q n0 l V (BH x q) O O hL hs Gy IG (hE.c2 q hm) hm hR rfl
   ·exact yf x roots C A n s dec st q n0 l V (BH x q) O O hL hs Gy IG (hE.c1 q) hm hR rfl
end
end Go.Eng

namespace Go.Eng
open Go.Proofs
theorem yh{x:List Rl}{roots:List Rq}{C A:List (Value×AV)}(hE:pT x roots C A)(n:Nat){dec:List Cd}{s:SS}{st:List (List Sk)}(h1:DY x dec)(h2:IN roots dec)(h3:JI x roots s)(h4:s.full=false)(h5:KE x dec<n)(h6:st.length=dec.length) :
  Bo Tryz.prog 45 [.ref 1000 0] (Af (HX roots C A s dec st) Aa) (YL roots C A (Dk x roots n dec s st)) :=
 zN hE (fun s dec st a b=>zQ roots C A s dec st (Bu (JB hE.hr) (by decide)) a b) n h1 h2 h3 h4 h5 h6
end Go.Eng

namespace Go.Eng
open Go.Proofs
def CI(x:List Rl)(roots:List Rq):Bool:=decide (A7 x=0)&&decide (Bm roots=0)
theorem pQ(x:List Rl)(ifs:List (List AV))(roots:List Rq)(hx:∀r∈x,Gf r)(hr:∀q∈roots,H4 q):PC 28 [.agg (Ic x ifs),sl Ap roots] (vb (CI x roots)):=by
 refine Ps ⟨[2],[],[],[],[],[],[],[],[],[],[]⟩ Tryz.func28 rfl (Nz rfl) ?_;refine Yi (Nz rfl) ?_;refine Xi .pure (Xi _ (Yi (vh jY x ifs hx) ?_));refine Yi (fun h1=>?_) (fun h1=>?_)
 ·have h1:((A7 x):Int)=(0:Int):=h1;refine Xi .pure (Xi _ (Yi (yA jY roots hr) ?_));refine Yi (fun h2=>?_) (fun h2=>?_)
  ·have h2:((Bm roots):Int)=(0:Int):=h2;exact .of_eq (show vb true=vb (CI x roots) by unfold CI;rw[h1,h2];rfl)
  have h2:¬(((Bm roots):Int)=(0:Int)):=h2;exact .of_eq (show vb false=vb (CI x roots) by unfold CI;rw[At h2,Ct])
 have h1:¬(((A7 x):Int)=(0:Int)):=h1;exact .of_eq (show vb false=vb (CI x roots) by unfold CI;rw[At h1];rfl)
end Go.Eng

namespace Go.Eng
open Go.Proofs
abbrev QG(r:Rl):List AV:=Ax ⟨plc r.ver,r⟩
abbrev Gz(y:List Rl)(p:ByteArray):List (List AV):=(y.filter fun r=>decide (r.path=p)).map QG
abbrev Xs(y:List Rl)(q:ByteArray×Nat):Value×AV:=(.string q.1,.slice (.id (q.2+100) 10) (Gz y q.1))
abbrev It(y:List Rl):List (Value×AV):=(AP y []).zipIdx.map (Xs y)
def Gl(y:List Rl)(l:Nat):HO:=match(AP y [])[l]? with
 |some q=>.tok 10 (Gz y q).length
 |none=>.free
def I3(y:List Rl)(j:Nat):HO:=bif Nat.ble 100 j&&Nat.blt j 1000 then Gl y (j-100)else .free
theorem E7(y:List Rl)(hy:y.length≤256)(l:Nat):I3 y (l+100)=Gl y l:=by
 unfold I3;rw[show Nat.ble 100 (l+100)=true by rw[Dn];omega,Ef,Nat.add_sub_cancel]
 by_cases h:l+100<1000
 ·rw[show Nat.blt (l+100) 1000=true by rw[Ck];exact h];rfl
 ·rw[show Nat.blt (l+100) 1000=false by rw[AH];intro hc;rw[Ck]at hc;omega]
  have:=Hj y []
  rw[Al]at this;unfold Gl;rw[A4 (by omega)];rfl
theorem kw(y:List Rl){j:Nat}(h:j<100):I3 y j=.free:=by
 unfold I3;rw[show Nat.ble 100 j=false by rw[AH];intro hc;rw[Dn]at hc;omega];rfl
theorem Hi(y:List Rl)(r:Rl)(q:ByteArray):Gz (y++[r]) q=if r.path=q then Gz y q++[QG r]else Gz y q:=by
 unfold Gz;rw[E8]
 by_cases h:r.path=q
 ·rw[AB h,JL (by simpa using h)];simp
 ·rw[Ar h,JK (by simpa using h)];simp
section
variable {y:List Rl}{r:Rl}{k:Nat}
open Classical in
theorem fT(h:(AP y [])[k]?=some r.path):Fa (It y) (.string r.path) (.slice (.id (k+100) 10) (Gz y r.path++[QG r]))=It (y++[r]):=by
 have hd:=EW y [] Fo;have hm:Xs y (r.path,k)∈It y:=Aq.2 ⟨_,FI.2 h,rfl⟩;rw[Ya (a':=.slice (.id (k+100) 10) (Gz y r.path)) hm];unfold It;rw[Jj h,BX];refine Ba fun q hq=>?_;have hg:=Ik hq;obtain⟨q,j⟩:=q;show(if Value.string q=Value.string r.path then _ else _)=Xs (y++[r]) (q,j);have hg:(AP y [])[j]?=some q:=hg
 by_cases he:q=r.path
 ·subst he
  have:j=k:=Jg hd hg h
  subst this;rw[AB rfl];show _=(Value.string r.path,AV.slice (.id (j+100) 10) (Gz (y++[r]) r.path));rw[Hi,AB rfl]
 ·rw[Ar (fun e=>he (by simpa using e))];show(Value.string q,AV.slice (.id (j+100) 10) (Gz y q))=(Value.string q,AV.slice (.id (j+100) 10) (Gz (y++[r]) q));rw[Hi,Ar (fun e=>he e.symm)]
theorem Yj(h:r.path∉AP y []):Gz y r.path=[]:=by
 have:y.filter (fun s=>decide (s.path=r.path))=[]:=by
  rw[Hp];intro s hs he;exact h ((Hk y [] r.path).2 (.inr ⟨s,hs,Cm he⟩))
 unfold Gz;rw[this];rfl
theorem UX(h:r.path∉AP y [])(a:AV):(Value.string r.path,a)∉It y:=by
 intro hc;obtain⟨q,h1,h2⟩:=Aq.1 hc;simp only[Xs,FV,Value.string.injEq]at h2;exact h (by rw[←h2.1];exact Ay (Ik h1))
theorem fS(h:r.path∉AP y []):Fa (It y) (.string r.path) (.slice (.id ((AP y []).length+100) 10) [QG r])=It (y++[r]):=by
 rw[Mp (fun a=>UX h a)];unfold It;rw[Ji h,List.zipIdx_append,AA]
 congr 1
 ·refine Ba fun q hq=>?_;have hg:=Ik hq
  have:q.1≠r.path:=fun e=>h (by rw[←e];exact Ay hg)
  show(Value.string q.1,AV.slice (.id (q.2+100) 10) (Gz y q.1))=(Value.string q.1,AV.slice (.id (q.2+100) 10) (Gz (y++[r]) q.1));rw[Hi,Ar (fun e=>this e.symm)]
 ·show [_]=[(Value.string r.path,AV.slice (.id (0+(AP y []).length+100) 10) (Gz (y++[r]) r.path))];rw[Hi,AB rfl,Yj h,Bc];rfl
theorem ce{p:ByteArray}{j:Nat}(h:(AP y [])[j]?=some p):(Value.string p,AV.slice (.id (j+100) 10) (Gz y p))∈It y∧∀b,(Value.string p,b)∈It y→b=AV.slice (.id (j+100) 10) (Gz y p):=by
 refine⟨Aq.2 ⟨(p,j),FI.2 h,rfl⟩,fun b hb=>?_⟩;obtain⟨q,h1,h2⟩:=Aq.1 hb;simp only[Xs,FV,Value.string.injEq]at h2;have hg:=Ik h1;rw[h2.1]at hg
 have:=Jg (EW y [] Fo) hg h
 rw[←h2.2,h2.1,this]
theorem bp{p:ByteArray}{j:Nat}(h:(AP y [])[j]?=some p):Gl y j=.tok 10 (Gz y p).length:=by
 unfold Gl;rw[h]
theorem jo(h:(AP y [])[k]?=some r.path)(l:Nat):(bif Nat.beq (l+100) (k+100)then HO.tok 10 ((Gz y r.path).length+1)else Gl y l)=Gl (y++[r]) l:=by
 by_cases he:l=k
 ·subst he;rw[show Nat.beq (l+100) (l+100)=true from Dc _];unfold Gl;rw[Jj h,h];show HO.tok 10 _=HO.tok 10 (Gz (y++[r]) r.path).length;rw[Hi,AB rfl,Ad];rfl
 ·rw[show Nat.beq (l+100) (k+100)=false by rw[AH];intro hc;have:=AU hc;omega];show Gl y l=_;unfold Gl;rw[Jj h];cases hq:(AP y [])[l]? with
  |none=>rfl
  |some q =>
   show HO.tok 10 (Gz y q).length=HO.tok 10 (Gz (y++[r]) q).length;rw[Hi,Ar];intro e;subst e;exact he (Jg (EW y [] Fo) hq h)
theorem jn(h:r.path∉AP y [])(l:Nat):(bif Nat.beq (l+100) ((AP y []).length+100)then HO.tok 10 1 else Gl y l)=Gl (y++[r]) l:=by
 by_cases he:l=(AP y []).length
 ·subst he;rw[show Nat.beq ((AP y []).length+100) ((AP y []).length+100)=true from Dc _];unfold Gl;rw[Ji h];simp only[AR (Ao _),Ff,Bj];show HO.tok 10 1=HO.tok 10 (Gz (y++[r]) r.path).length;rw[Hi,AB rfl,Yj h];rfl
 ·rw[show Nat.beq (l+100) ((AP y []).length+100)=false by rw[AH];intro hc;have:=AU hc;omega];show Gl y l=_;unfold Gl;rw[Ji h]
  by_cases hl:l<(AP y []).length
  ·rw[AZ hl,Ge hl];show HO.tok 10 (Gz y (AP y [])[l]).length=HO.tok 10 (Gz (y++[r]) (AP y [])[l]).length;rw[Hi,Ar];intro e;exact h (by rw[e];exact Aj hl)
  ·rw[A4 (by omega),A4 (by rw[Ad];simp;omega)]
end
theorem HB(y:List Rl){h:Nat→HO}(hh:∀l,h (l+100)=Gl y l):QP h (It y)=true:=by
 refine PM fun p hp=>?_;obtain⟨q,h1,rfl⟩:=Aq.1 hp;show Rn h (q.2+100)=true;unfold Rn;rw[hh,bp (Ik h1)]
theorem GK{y:List Rl}(hy:y.length≤256){h h' : Nat→HO}(hh:∀l,h (l+100)=Gl y l)(j:Nat):I3 y j=.free∨(h j=I3 y j∧XO h' (I3 y j)=true):=by
 by_cases hj:j<100
 ·exact .inl (kw y hj)
 ·obtain⟨l,rfl⟩:∃l,j=l+100:=⟨j-100,by omega⟩
  right
  rw[E7 y hy];refine⟨hh l,?_⟩;unfold Gl;cases (AP y [])[l]?<;>rfl
end Go.Eng

namespace Go.Eng
open Go.Proofs
abbrev yR(x:List Rl):List Rl:=x.filter fun r=>!r.yanked
theorem ZI(x:List Rl)(p:ByteArray):Gz (yR x) p=(BH x p).map Ax:=by
 unfold Gz BH;rw[List.filter_filter,BX]
 rfl
def mC(x:List Rl):List (Value×AV):=(AP (yR x) []).map fun p=>(.string p,sl Ax (BH x p))
theorem gY{x:List Rl}{p:ByteArray}{a:AV}:(Value.string p,a)∈mC x↔p∈AP (yR x) []∧a=sl Ax (BH x p):=by
 unfold mC;rw[Aq];constructor
 ·rintro⟨q,hq,e⟩
  injection e with e1 e2
  injection e1 with e1
  subst e1;exact⟨hq,e2.symm⟩
 ·rintro⟨h1,h2⟩
  exact⟨p,h1,by rw[h2]⟩
theorem UM{x:List Rl}{p:ByteArray}:BH x p=[]↔p∉AP (yR x) []:=by
 rw[Hk];unfold BH;rw[EQ,Hp];constructor
 ·rintro h (h1 | ⟨r,h1,h2⟩)
  ·cases h1
  ·obtain⟨h3,h4⟩:=BL.1 h1;exact h r h3 (by rw[Av h2,h4];rfl)
 ·intro h r hr hc;rw[Ag,AE]at hc;exact h (.inr ⟨r,BL.2 ⟨hr,hc.2⟩,hc.1⟩)
theorem sc(x:List Rl):∀(p:ByteArray) (a:AV),(Value.string p,a)∈mC x→a=sl Ax (BH x p):=fun _ _ h=>(gY.1 h).2
theorem sd(x:List Rl):∀p:ByteArray,(∀a,(Value.string p,a)∉mC x)→BH x p=[]:=fun _ h=>UM.2 fun hp=>h _ (gY.2 ⟨hp,rfl⟩)
theorem se(x:List Rl):∀p:ByteArray,BH x p=[]→∀a,(Value.string p,a)∉mC x:=fun _ h _ ha=>UM.1 h (gY.1 ha).1
end Go.Eng

namespace Go.Eng
open Go.Proofs
abbrev plN:QA:=⟨[2],[],[],[(52,[12])],[],[12],[50],[(53,(16,3,90,6)),(54,(16,4,91,1)),(55,(16,7,93,10)),(56,(16,8,94,4))],[],[(850013,13),(800013,10016),(810013,20016),(900013,10000000000+92000000+90016)],[5,7,8,9,11,12,13]⟩
abbrev kC(x:List Rl)(p:ByteArray):Value×AV:=(.string p,sl Ax (BH x p))
abbrev kA(x:List Rl)(p:ByteArray):Value×AV:=(.string p,sl Ae (Ce x p))
theorem li{x:List Rl}{l:List ByteArray}{kv:Value×AV}{NY : List (Value×AV)}(h:(l.map (kC x)).Perm (kv::NY)):∃t r,kv=kC x t∧NY=r.map (kC x)∧l.Perm (t::r):=by
 obtain⟨ps,h1,h2⟩:=Mr h l rfl;cases ps with
 |nil=>cases h2
 |cons t r =>
  rw[AN,FF]at h2;exact⟨t,r,h2.1.symm,h2.2.symm,h1.symm⟩
abbrev srN(roots:List Rq)(C A:List (Value×AV)):List (Nat×HO) :=
 [(2000,.cells [sl Ap roots,.cmap DI C,.cmap DI A,.slice (.id 2001 6) [],.slice (.id 2002 1) [],.mref 2003,vb false,.slice .none [],.slice .none [],.msl 2004 0]),(2001,.tok 6 0),(2002,.tok 1 0),(2003,.map Dw []),(2004,.arr 1 [])]
theorem Wq{x:List Rl}{l:List ByteArray}{p:ByteArray}{a:AV}:(Value.string p,a)∈l.map (kA x)↔p∈l∧a=sl Ae (Ce x p):=by
 rw[Aq];constructor
 ·rintro⟨q,hq,e⟩
  injection e with e1 e2
  injection e1 with e1
  subst e1;exact⟨hq,e2.symm⟩
 ·rintro⟨h1,h2⟩
  exact⟨p,h1,by rw[h2]⟩

theorem aK(y:List Rl)(n:Nat):I3 y (n+1000)=.free:=by
 unfold I3;rw[show Nat.blt (n+1000) 1000=false by rw[AH];intro hc;rw[Ck]at hc;omega,Ct];rfl
theorem V4{h s:Nat→HO}(H:∀n,h (n+1000)=.free):∀j,1000≤j→j<2000→h j≠.free→s j≠.free:=fun j h1 _ hn=>by
 refine absurd (H (j-1000)) ?_;rw[show j-1000+1000=j by omega];exact hn
theorem jT{n k:Nat}(h:k<1000):Nat.beq (n+1000) k=false:=by
 rw[AH];intro hc;have:=AU hc;omega
theorem au{y:List Rl}{n k:Nat}{o:HO}(h:k<1000):(bif Nat.beq (n+1000) k then o else I3 y (n+1000))=.free:=by
 rw[jT h,aK];rfl
attribute [local irreducible] If
set_option maxRecDepth 30000 in
set_option maxHeartbeats 4000000 in
theorem tN(x:List Rl)(ifs:List (List AV))(roots:List Rq)(hx:∀r∈x,Gf r)(h0:A7 x=0):Bo Tryz.prog 29 [Mm x ifs,sl Ap roots] (Af [] Aa) fun r h'=>∃l:List ByteArray,l.Perm (AP (yR x) [])∧r=.ref 2000 0∧h'=Af (srN roots (mC x) (l.map (kA x))) Aa:=by
 have QO:x.length≤256:=(Kd h0).1;refine CF (MG plN) [(16,2000),(90,2001),(91,2002),(14,2003),(92,2004)] rfl CG hm rfl Tryz.func29 (by kernel_rfl) rfl (Nz rfl) (by kernel_rfl) rfl ?_;refine Xi 0 ?_;refine Xi 0 ?_;refine Xi 0 ?_;refine Xi {i:Nat // i≤x.length} (Xi (fun i=>⟨[(2,.ref 2 0),(5,.ref 16 0),(18,sl AY x),(19,vi (x.map AY).length),(20,vi i.1)],[(2,.ro (Ic x ifs)),(12,.mapU DI (It (yR (x.take i.1)))),(13,.map DI []),(14,.map Dw []),(16,.cells [sl Ap roots,.mref 12,.mref 13,.v (.slice none 0 0),.v (.slice none 0 0),.mref 14,vb false,.v (.slice none 0 0),.v (.slice none 0 0),.v (.slice none 0 0)])],I3 (yR (x.take i.1))⟩) (Xi (fun i=>x.length-i.1) (Yi (Xi ⟨0,AL _⟩ ?_) ?_)))
 ·refine⟨Z5,Z5,fun j=>.inl ?_,As (by kernel_rfl)⟩;show I3 [] j=.free;unfold I3;cases (Nat.ble 100 j&&Nat.blt j 1000)<;>rfl
 intro⟨i,i1⟩;have i1:i≤x.length:=i1;have hq:∀k,(yR (x.take k)).length≤256:=fun k=>by
  have:=By (fun r:Rl=>!r.yanked) (x.take k)
  rw[AK]at this;show(List.filter _ _).length≤256;omega
 refine Xi 0 ?_;refine Yi ?_ ?_
 ·intro h;have h:(i:Int)<(x.map AY).length:=h;have h:i<x.length:=by simpa using h
  have hg:x[i]?=some x[i]:=Ge h;have KG:x.take (i+1)=x.take i++[x[i]]:=by rw[Bb,hg];rfl
  refine Xi 0 ?_;refine Xi (AY x[i]) (Yi (Yi (Nn i) (by simp[hg])) (Yi rfl ?_));refine Yi (Nz rfl) (Yi (Nz rfl) ?_);refine Xi ⟨[(2,.ref 2 0),(5,.ref 16 0),(7,.ref 7 0),(18,sl AY x),(19,vi (x.map AY).length),(20,vi i)],[(2,.ro (Ic x ifs)),(7,.cells (AY x[i])),(12,.mapU DI (It (yR (x.take i)))),(13,.map DI []),(14,.map Dw []),(16,.cells [sl Ap roots,.mref 12,.mref 13,.v (.slice none 0 0),.v (.slice none 0 0),.mref 14,vb false,.v (.slice none 0 0),.v (.slice none 0 0),.v (.slice none 0 0)])],I3 (yR (x.take i))⟩ (Yi ?_ ?_)
  ·exact⟨Z6,⟨Zr,Zr,⟨rfl,HB _ (E7 _ (hq _))⟩,Zr,Zr,Zr,Tv⟩,GK (hq _) (E7 _ (hq _)),As (by kernel_rfl)⟩
  refine Xi 0 ?_;refine Yi (fun hy=>?_) (fun hy=>?_)
  ·have hy:x[i].yanked=true:=hy;have ey:yR (x.take (i+1))=yR (x.take i):=by
    unfold yR;rw[KG,E8,JK (by rw[hy];decide)];simp
   refine Xi ⟨[(2,.ref 2 0),(5,.ref 16 0),(18,sl AY x),(19,vi (x.map AY).length),(20,vi i)],[(2,.ro (Ic x ifs)),(12,.mapU DI (It (yR (x.take (i+1))))),(13,.map DI []),(14,.map Dw []),(16,.cells [sl Ap roots,.mref 12,.mref 13,.v (.slice none 0 0),.v (.slice none 0 0),.mref 14,vb false,.v (.slice none 0 0),.v (.slice none 0 0),.v (.slice none 0 0)])],I3 (yR (x.take (i+1)))⟩ (Yi ?_ ?_)
   ·rw[ey];exact⟨Z5,⟨Zr,⟨rfl,HB _ (E7 _ (hq _))⟩,Zr,Zr,Zr,Tv⟩,GK (hq _) (E7 _ (hq _)),As (by kernel_rfl)⟩
   refine Xi 0 ?_;refine Yi (Ii i (by omega)) ?_;refine Xi ⟨i+1,by omega⟩ ?_;exact⟨Dl x.length i (by omega),Z5,⟨Zr,⟨rfl,HB _ (E7 _ (hq _))⟩,Zr,Zr,Zr,Tv⟩,GK (hq _) (E7 _ (hq _)),As (by kernel_rfl)⟩
  have hy:x[i].yanked=false:=hy;refine Xi 0 ?_;refine Yi (Nz rfl) ?_;refine Xi .pure (Xi _ (Yi (vg x[i].ver) ?_));refine Xi ⟨[(2,.ref 2 0),(5,.ref 16 0),(7,.ref 7 0),(8,vi (plc x[i].ver)),(18,sl AY x),(19,vi (x.map AY).length),(20,vi i)],[(2,.ro (Ic x ifs)),(7,.cells (AY x[i])),(12,.mapU DI (It (yR (x.take i)))),(13,.map DI []),(14,.map Dw []),(16,.cells [sl Ap roots,.mref 12,.mref 13,.v (.slice none 0 0),.v (.slice none 0 0),.mref 14,vb false,.v (.slice none 0 0),.v (.slice none 0 0),.v (.slice none 0 0)])],I3 (yR (x.take i))⟩ (Yi ?_ ?_)
  ·exact⟨Z7,⟨Zr,Zr,⟨rfl,HB _ (E7 _ (hq _))⟩,Zr,Zr,Zr,Tv⟩,GK (hq _) (E7 _ (hq _)),As (by kernel_rfl)⟩
  have ey:yR (x.take (i+1))=yR (x.take i)++[x[i]]:=by
   unfold yR;rw[KG,E8,JL (by rw[hy];decide)];rfl
  have hyl:(yR (x.take i)).length≤256:=by
   have:=By (fun r:Rl=>!r.yanked) (x.take i)
   rw[AK]at this;show(List.filter _ _).length≤256;omega
  have hP:∀l,I3 (yR (x.take i)) (l+100)=Gl (yR (x.take i)) l:=E7 _ (hq _);refine BG (Classical.em (x[i].path∈AP (yR (x.take i)) [])) (fun hp=>?_) (fun hp=>?_)
  ·refine A8 (Cg.1 hp) (fun k hk=>?_);have hu:=ce hk;have hl:(Gz (yR (x.take i)) x[i].path).length≤256:=by
    rw[Lm];exact Bu (By _ _) hyl
   have rz:k<256:=by
    have:=(Aw.1 hk).1
    have:=Hj (yR (x.take i)) []
    simp only[Al]at this;omega
   have hr:I3 (yR (x.take i)) (k+100)=.tok 10 (Gz (yR (x.take i)) x[i].path).length:=by rw[hP,bp hk]
   refine Xi 0 ?_;refine Or.inl (Xi (.slice (.id (k+100) 10) (Gz (yR (x.take i)) x[i].path)) (Yi hu ?_));refine Yi (Nz rfl) ?_;refine QD (e:=115) (m:=9) (es2:=[QG x[i]]) rfl rfl rfl (fun _ h=>h) hr ⟨rfl,trivial⟩ (by show(_+1)*128≤_;omega) (by show _+1≤_;omega) ?_;refine Yi (IZ ⟨A2 _,A2 _,A2 _,A2 _,A2 _,A2 _,A2 _,A2 _,A2 _,A2 _,A2 _,A2 _,A2 _,A2 _,A2 _,A2 _,Eb (show 49<10000000 by decide),Eb (by show _+100<10000000;omega),Eb (show 12<10000000 by decide),trivial⟩ (by kernel_rfl)) ?_;have e9:Fa (It (yR (x.take i))) (.string x[i].path) (.slice (.id (k+100) 10) (Gz (yR (x.take i)) x[i].path++[QG x[i]]))=It (yR (x.take (i+1))):=by rw[ey];exact fT hk
   have hG:∀l,(bif Nat.beq (l+100) (k+100)then HO.tok 10 ((Gz (yR (x.take i)) x[i].path).length+1)else Gl (yR (x.take i)) l)=Gl (yR (x.take (i+1))) l:=by rw[ey];exact jo hk
   refine Xi ⟨[(2,.ref 2 0),(5,.ref 16 0),(18,sl AY x),(19,vi (x.map AY).length),(20,vi i)],[(2,.ro (Ic x ifs)),(12,.mapU DI (It (yR (x.take (i+1))))),(13,.map DI []),(14,.map Dw []),(16,.cells [sl Ap roots,.mref 12,.mref 13,.v (.slice none 0 0),.v (.slice none 0 0),.mref 14,vb false,.v (.slice none 0 0),.v (.slice none 0 0),.v (.slice none 0 0)])],I3 (yR (x.take (i+1)))⟩ (Yi ?_ ?_)
   ·refine⟨Z5,⟨Zr,⟨Ac (HO.mapU DI) e9,HB _ (E7 _ (hq _))⟩,Zr,Zr,Zr,Tv⟩,GK (hq _) (fun l=>?_),V4 (fun n=>?_)⟩
    ·show(bif Nat.beq (l+100) (k+100)then HO.tok 10 ((Gz (yR (x.take i)) x[i].path).length+1)else I3 (yR (x.take i)) (l+100))=_;rw[hP];exact hG l
    ·exact au (y:=yR (x.take i)) (show k+100<1000 by omega)
   refine Xi 0 ?_;refine Yi (Ii i (by omega)) ?_;refine Xi ⟨i+1,by omega⟩ ?_;exact⟨Dl x.length i (by omega),Z5,⟨Zr,⟨rfl,HB _ (E7 _ (hq _))⟩,Zr,Zr,Zr,Tv⟩,GK (hq _) (E7 _ (hq _)),As (by kernel_rfl)⟩
  ·have ST:(AP (yR (x.take i)) []).length≤256:=by
    have:=Hj (yR (x.take i)) []
    simp only[Al]at this;omega
   have hn:=UX hp;have hr:I3 (yR (x.take i)) ((AP (yR (x.take i)) []).length+100)=.free:=by
    rw[hP];unfold Gl;rw[A4 (Ao _)]
   refine Xi ((AP (yR (x.take i)) []).length+100) ?_;refine Or.inr (Yi hn ?_);refine Yi (Nz rfl) ?_;refine QC (e:=115) (m:=9) (es2:=[QG x[i]]) rfl rfl rfl (fun _ h=>h) hr rfl ⟨rfl,trivial⟩ (by show 1*128≤_;omega) (by show 1≤_;omega) ?_;refine Yi (IZ ⟨A2 _,A2 _,A2 _,A2 _,A2 _,A2 _,A2 _,A2 _,A2 _,A2 _,A2 _,A2 _,A2 _,A2 _,A2 _,A2 _,Eb (show 49<10000000 by decide),Eb (by show _+100<10000000;omega),Eb (show 12<10000000 by decide),trivial⟩ (by kernel_rfl)) ?_;have e9:Fa (It (yR (x.take i))) (.string x[i].path) (.slice (.id ((AP (yR (x.take i)) []).length+100) 10) [QG x[i]])=It (yR (x.take (i+1))):=by rw[ey];exact fS hp
   have hG:∀l,(bif Nat.beq (l+100) ((AP (yR (x.take i)) []).length+100)then HO.tok 10 1 else Gl (yR (x.take i)) l)=Gl (yR (x.take (i+1))) l:=by rw[ey];exact jn hp
   refine Xi ⟨[(2,.ref 2 0),(5,.ref 16 0),(18,sl AY x),(19,vi (x.map AY).length),(20,vi i)],[(2,.ro (Ic x ifs)),(12,.mapU DI (It (yR (x.take (i+1))))),(13,.map DI []),(14,.map Dw []),(16,.cells [sl Ap roots,.mref 12,.mref 13,.v (.slice none 0 0),.v (.slice none 0 0),.mref 14,vb false,.v (.slice none 0 0),.v (.slice none 0 0),.v (.slice none 0 0)])],I3 (yR (x.take (i+1)))⟩ (Yi ?_ ?_)
   ·refine⟨Z5,⟨Zr,⟨Ac (HO.mapU DI) e9,HB _ (E7 _ (hq _))⟩,Zr,Zr,Zr,Tv⟩,GK (hq _) (fun l=>?_),V4 (fun n=>?_)⟩
    ·show(bif Nat.beq (l+100) ((AP (yR (x.take i)) []).length+100)then HO.tok 10 1 else I3 (yR (x.take i)) (l+100))=_;rw[hP];exact hG l
    ·exact au (y:=yR (x.take i)) (show(AP (yR (x.take i)) []).length+100<1000 by omega)
   refine Xi 0 ?_;refine Yi (Ii i (by omega)) ?_;refine Xi ⟨i+1,by omega⟩ ?_;exact⟨Dl x.length i (by omega),Z5,⟨Zr,⟨rfl,HB _ (E7 _ (hq _))⟩,Zr,Zr,Zr,Tv⟩,GK (hq _) (E7 _ (hq _)),As (by kernel_rfl)⟩
 ·intro h;have h:¬(i:Int)<(x.map AY).length:=h;have h:¬i<x.length:=by simpa using h
  have et:x.take i=x:=Az (by omega);have eM:∀hh:Nat→HO,Rs hh (It (yR (x.take i)))=(AP (yR x) []).map (kC x):=fun hh=>by
   rw[et];unfold Rs It;rw[BX];refine Dq fun j=>?_;rw[AI,AI,List.getElem?_zipIdx];cases (AP (yR x) [])[j]? with
   |none=>rfl
   |some q=>show some (Value.string q,AV.slice .none (Gz (yR x) q))=_;rw[ZI];rfl
  refine Xi ⟨[(2,.ref 2 0),(5,.ref 16 0)],[(2,.ro (Ic x ifs)),(12,.mapU DI (It (yR (x.take i)))),(13,.map DI []),(14,.map Dw []),(16,.cells [sl Ap roots,.mref 12,.mref 13,.v (.slice none 0 0),.v (.slice none 0 0),.mref 14,vb false,.v (.slice none 0 0),.v (.slice none 0 0),.v (.slice none 0 0)])],I3 (yR (x.take i))⟩ (Yi ?_ ?_)
  ·exact⟨Z2,⟨Zr,⟨rfl,HB _ (E7 _ (hq _))⟩,Zr,Zr,Zr,Tv⟩,GK (hq _) (E7 _ (hq _)),As (by kernel_rfl)⟩
  refine Xi 0 ?_;refine Xi {p:List ByteArray×List ByteArray×Option (Value×AV) // (p.1++p.2.1).Perm (AP (yR x) [])} (Xi (fun p=>⟨[(2,.ref 2 0),(5,.ref 16 0),(56,.ref 56 0)],[(2,.ro (Ic x ifs)),(12,.rom DI ((AP (yR x) []).map (kC x))),(13,.map DI (p.1.1.map (kA x))),(14,.map Dw []),(16,.cells [sl Ap roots,.mref 12,.mref 13,.slice (.id 90 6) [],.slice (.id 91 1) [],.mref 14,vb false,.slice (.id 93 10) [],.slice (.id 94 4) [],.v (.slice none 0 0)]),(56,.iter ((AP (yR x) []).map (kC x)) (p.1.2.1.map (kC x)) p.1.2.2),(90,.tok 6 0),(91,.tok 1 0),(93,.tok 10 0),(94,.tok 4 0)],Aa⟩) (Xi (fun p=>p.1.2.1.length) (Yi (Xi ⟨([],AP (yR x) [],none),.refl _⟩ ?_) ?_)))
  ·refine⟨Z3,⟨Zr,⟨Ac (HO.rom DI) (eM _),rfl⟩,Zr,Zr,Zr,⟨?_,rfl⟩,Zr,Zr,Zr,Zr,Tv⟩,Fh,V4 (fun n=>?_)⟩
   ·show HO.iter (Rs _ (It (yR (x.take i)))) (Rs _ (It (yR (x.take i)))) none=_;rw[eM]
   ·exact aK (yR (x.take i)) n
  intro⟨⟨done,rem,F6⟩,r1⟩;have r1:(done++rem).Perm (AP (yR x) []):=r1;refine Xi 0 ?_;refine Yi ?_ ?_
  ·intro hr;have hr:rem.map (kC x)=[]:=hr;have hr:rem=[]:=EQ.1 hr;subst hr;rw[CY]at r1;refine Xi ⟨[(5,.ref 16 0)],[(14,.map Dw []),(16,.cells [sl Ap roots,.cmap DI (mC x),.cmap DI (done.map (kA x)),.slice (.id 90 6) [],.slice (.id 91 1) [],.mref 14,vb false,.slice (.id 93 10) [],.slice (.id 94 4) [],.msl 92 0]),(90,.tok 6 0),(91,.tok 1 0),(92,.arr 1 []),(93,.tok 10 0),(94,.tok 4 0)],Aa⟩ (Yi ⟨Z1,Z7,Fh,As (by kernel_rfl)⟩ ?_)
   refine Xi 0 ?_;exact Xi _ (Yi (.refl _) (Xi done (Yi r1 (Yi rfl rfl))))
  ·intro kv NY hp;refine A8 (li hp) (fun t hp=>A8 hp (fun r hp=>?_));have e1:=hp.1;have e2:=hp.2.1;subst e1;subst e2;have hp:=hp.2.2;refine Xi ⟨[(2,.ref 2 0),(5,.ref 16 0),(56,.ref 56 0)],[(2,.ro (Ic x ifs)),(12,.rom DI ((AP (yR x) []).map (kC x))),(13,.map DI (done.map (kA x))),(14,.map Dw []),(16,.cells [sl Ap roots,.mref 12,.mref 13,.slice (.id 90 6) [],.slice (.id 91 1) [],.mref 14,vb false,.slice (.id 93 10) [],.slice (.id 94 4) [],.v (.slice none 0 0)]),(56,.iter ((AP (yR x) []).map (kC x)) (r.map (kC x)) (some (kC x t))),(90,.tok 6 0),(91,.tok 1 0),(93,.tok 10 0),(94,.tok 4 0)],Aa⟩ (Yi ⟨Z3,Z10,Fh,As (by kernel_rfl)⟩ ?_)
   refine Xi 0 ?_;refine Xi ⟨[(2,.ref 2 0),(5,.ref 16 0),(10,vs t),(56,.ref 56 0)],[(2,.ro (Ic x ifs)),(12,.rom DI ((AP (yR x) []).map (kC x))),(13,.map DI (done.map (kA x))),(14,.map Dw []),(16,.cells [sl Ap roots,.mref 12,.mref 13,.slice (.id 90 6) [],.slice (.id 91 1) [],.mref 14,vb false,.slice (.id 93 10) [],.slice (.id 94 4) [],.v (.slice none 0 0)]),(56,.iter ((AP (yR x) []).map (kC x)) (r.map (kC x)) (some (kC x t))),(90,.tok 6 0),(91,.tok 1 0),(93,.tok 10 0),(94,.tok 4 0)],Aa⟩ (Yi ⟨Z4,Z10,Fh,As (by kernel_rfl)⟩ ?_)
   refine Xi 0 ?_;have MJ:(done++rem).Nodup:=r1.nodup_iff.2 (EW _ [] Fo);have htn:t∉done:=fun hc=>(Gt.1 MJ).2.2 t hc t (hp.mem_iff.2 (Ab ..)) rfl;have em:Fa (done.map (kA x)) (.string t) (sl Ae (Ce x t))=(done++[t]).map (kA x):=by
    rw[Mp (fun a ha=>htn (Wq.1 ha).1),AA];rfl
   have T3:((done++[t])++r).Perm (AP (yR x) []):=by
    rw[BU];exact(List.Perm.append_left _ hp.symm).trans r1
   refine Yi (Nz rfl) ?_;refine Xi _ (Yi (uF x ifs t (c84 x ifs hx)) ?_);refine Yi (by kernel_rfl) ?_;refine Xi ⟨(done++[t],r,some (kC x t)),T3⟩ ?_;exact⟨by show r.length<rem.length;rw[hp.length_eq,Ak];omega,Z3,⟨Zr,Zr,⟨Ac (HO.map DI) em,rfl⟩,Zr,Zr,Zr,Zr,Zr,Zr,Zr,Tv⟩,Fh,As (by kernel_rfl)⟩
end Go.Eng

namespace Go.Eng
open Go.Proofs
theorem nq(c:UInt8):PC 274 [vc c] (vb (ED c)):=by
 refine Ps EI Tryz.func274 rfl (Nz rfl) ?_;have e1:decide ((97:UInt8)≤c)=decide ((97:Int)≤(c.toNat:Int)):=VB c 97 (by decide);have e2:decide (c≤(122:UInt8))=decide ((c.toNat:Int)≤(122:Int)):=VA c 122 (by decide);have es:ED c=(decide ((97:Int)≤(c.toNat:Int))&&decide ((c.toNat:Int)≤(122:Int))):=by unfold ED;rw[e1,e2]
 refine Yi ?_ ?_
 ·intro h;have h:(97:Int)≤(c.toNat:Int):=h;refine Yi ?_ ?_
  ·intro h2;have h2:(c.toNat:Int)≤122:=h2;exact .of_eq (Ac vb (show true=ED c by rw[es,Av h,Av h2];rfl))
  ·intro h2;have h2:¬(c.toNat:Int)≤122:=h2;exact .of_eq (Ac vb (show false=ED c by rw[es,At h2,Ct]))
 ·intro h;have h:¬(97:Int)≤(c.toNat:Int):=h;exact .of_eq (Ac vb (show false=ED c by rw[es,At h];rfl))
theorem j7(c:UInt8):PC 275 [vc c] (vb (CC c)):=by
 refine Ps EI Tryz.func275 rfl (Nz rfl) ?_;have e1:decide ((48:UInt8)≤c)=decide ((48:Int)≤(c.toNat:Int)):=VB c 48 (by decide);have e2:decide (c≤(57:UInt8))=decide ((c.toNat:Int)≤(57:Int)):=VA c 57 (by decide);have es:CC c=(decide ((48:Int)≤(c.toNat:Int))&&decide ((c.toNat:Int)≤(57:Int))):=by unfold CC;rw[e1,e2]
 refine Yi ?_ ?_
 ·intro h;have h:(48:Int)≤(c.toNat:Int):=h;refine Yi ?_ ?_
  ·intro h2;have h2:(c.toNat:Int)≤57:=h2;exact .of_eq (Ac vb (show true=CC c by rw[es,Av h,Av h2];rfl))
  ·intro h2;have h2:¬(c.toNat:Int)≤57:=h2;exact .of_eq (Ac vb (show false=CC c by rw[es,At h2,Ct]))
 ·intro h;have h:¬(48:Int)≤(c.toNat:Int):=h;exact .of_eq (Ac vb (show false=CC c by rw[es,At h];rfl))
theorem ve(c:UInt8):PC 324 [vc c] (vb (L1 c)):=by
 refine Ps EI Tryz.func324 rfl (Nz rfl) ?_;have e1:decide ((65:UInt8)≤c)=decide ((65:Int)≤(c.toNat:Int)):=VB c 65 (by decide);have e2:decide (c≤(90:UInt8))=decide ((c.toNat:Int)≤(90:Int)):=VA c 90 (by decide);have es:L1 c=(decide ((65:Int)≤(c.toNat:Int))&&decide ((c.toNat:Int)≤(90:Int))):=by unfold L1;rw[e1,e2]
 refine Yi ?_ ?_
 ·intro h;have h:(65:Int)≤(c.toNat:Int):=h;refine Yi ?_ ?_
  ·intro h2;have h2:(c.toNat:Int)≤90:=h2;exact .of_eq (Ac vb (show true=L1 c by rw[es,Av h,Av h2];rfl))
  ·intro h2;have h2:¬(c.toNat:Int)≤90:=h2;exact .of_eq (Ac vb (show false=L1 c by rw[es,At h2,Ct]))
 ·intro h;have h:¬(65:Int)≤(c.toNat:Int):=h;exact .of_eq (Ac vb (show false=L1 c by rw[es,At h];rfl))
theorem vd(c:UInt8):PC 314 [vc c] (vb (FS c)):=by
 have h1:=nq c;have h2:=ve c;have h3:=j7 c;have ew:FS c=(ED c||L1 c||CC c||decide (c=95)):=rfl;rcases Bt (ED c)with e | e
 ·rw[e]at h1;refine Ps EI Tryz.func314 rfl (Nz rfl) ?_;refine Xi .pure (Xi _ (Yi (h1) ?_));exact .of_eq (Ac vb (show true=FS c by rw[ew,e];rfl))
 rw[e]at h1;rcases Bt (L1 c)with e2 | e2
 ·rw[e2]at h2;refine Ps EI Tryz.func314 rfl (Nz rfl) ?_;refine Xi .pure (Xi _ (Yi (h1) ?_));refine Xi .pure (Xi _ (Yi (h2) ?_));exact .of_eq (Ac vb (show true=FS c by rw[ew,e,e2];rfl))
 rw[e2]at h2;rcases Bt (CC c)with e3 | e3
 ·rw[e3]at h3;refine Ps EI Tryz.func314 rfl (Nz rfl) ?_;refine Xi .pure (Xi _ (Yi (h1) ?_));refine Xi .pure (Xi _ (Yi (h2) ?_));refine Xi .pure (Xi _ (Yi (h3) ?_));exact .of_eq (Ac vb (show true=FS c by rw[ew,e,e2,e3];rfl))
 rw[e3]at h3;refine Ps EI Tryz.func314 rfl (Nz rfl) ?_;refine Xi .pure (Xi _ (Yi (h1) ?_));refine Xi .pure (Xi _ (Yi (h2) ?_));refine Xi .pure (Xi _ (Yi (h3) ?_));have eb:decide (c=95)=decide ((c.toNat:Int)=95):=by
  rw[B2,AE,AE];constructor
  ·intro h;subst h;rfl
  ·intro h;exact Gr.1 (by show c.toNat=95;omega)
 refine Yi ?_ ?_
 ·intro h;have h:(c.toNat:Int)=95:=h;exact .of_eq (Ac vb (show true=FS c by rw[ew,e,e2,e3,eb,Av h];rfl))
 ·intro h;have h:¬(c.toNat:Int)=95:=h;exact .of_eq (Ac vb (show false=FS c by rw[ew,e,e2,e3,eb,At h];rfl))
theorem u6(s:ByteArray)(hs:s.data.toList.length<4611686018427387904):PC 294 [vs s] (vb (s.data.toList.all FS)):=by
 have Ed:s.size=s.data.toList.length:=by simp
 refine Ps EI Tryz.func294 rfl (Nz rfl) ?_;refine Xi {i:Nat // i≤s.data.toList.length∧∀j (hj:j<s.data.toList.length),j<i→FS s.data.toList[j]=true} (Xi (fun i=>⟨[(0,vs s),(3,vi i.1)],[],Aa⟩) (Xi (fun i=>s.data.toList.length-i.1) (Yi (Xi ⟨0,AL _,fun j _ h=>by omega⟩ ?_) ?_)))
 ·exact⟨Z2,Tv,Fh,Tv⟩
 intro⟨i,h1,h2⟩;refine Yi ?_ ?_
 ·intro h;have h:(i:Int)<(s.size:Nat):=h;have h:i<s.data.toList.length:=by omega
  refine Xi s.data.toList[i] (Yi ⟨by show(0:Int)≤i;omega,by show s.data[((i:Nat):Int).toNat]?=_;rw[A6];exact MC s i h⟩ ?_);have hc:=vd s.data.toList[i];refine BG (Bt (FS s.data.toList[i])) (fun e=>?_) (fun e=>?_)
  ·rw[e]at hc;refine Xi .pure (Xi _ (Yi (hc) ?_));refine Yi (Ii i (by omega)) ?_;refine Xi ⟨i+1,by omega,fun j hj IA=>?_⟩ ?_
   ·rcases BV j i with z | z
    ·exact h2 j hj z
    ·have:j=i:=by omega
     subst this;exact e
   ·exact⟨Dl s.data.toList.length i (by omega),Z2,Tv,Fh,Tv⟩
  ·rw[e]at hc;refine Xi .pure (Xi _ (Yi (hc) ?_));have er:s.data.toList.all FS=false:=by
    rw[AH];intro ha
    have:=AX.1 ha _ (Aj h)
    rw[e]at this;cases this
   exact .of_eq (Ac vb er.symm)
 ·intro h;have h:¬(i:Int)<(s.size:Nat):=h;have er:s.data.toList.all FS=true:=AX.2 fun c hc=>by
   obtain⟨j,hj,rfl⟩:=BY hc;exact h2 j hj (by omega)
  exact .of_eq (Ac vb er.symm)
end Go.Eng

namespace Go.Eng
open Go.Proofs
abbrev tG:List ByteArray:=ox.map bs
theorem u9:PC 296 [] (sl PF tG):=by
 refine Ps EI Tryz.func296 rfl (Nz rfl) ?_;exact .refl _
theorem u7(l:List ByteArray)(s:ByteArray)(hl:CK l):PC 295 [sl PF l,vs s] (vb (l.any fun q=>decide (q=s))):=by
 unfold CK at hl;refine Ps EI Tryz.func295 rfl (Nz rfl) ?_;refine Xi {i:Nat // i≤l.length∧∀j (hj:j<l.length),j<i→l[j]≠s} (Xi (fun i=>⟨[(0,sl PF l),(1,vs s),(5,vi i.1)],[],Aa⟩) (Xi (fun i=>l.length-i.1) (Yi (Xi ⟨0,AL _,fun j _ h=>by omega⟩ ?_) ?_)))
 ·exact⟨Z3,Tv,Fh,Tv⟩
 intro⟨i,h1,h2⟩;refine Yi ?_ ?_
 ·intro h;have h:(i:Int)<(l.map PF).length:=h;have h:i<l.length:=by simpa using h
  have hg:l[i]?=some l[i]:=Ge h;refine Xi (PF l[i]) (Yi (Yi (Nn i) (by simp[hg])) (Yi rfl ?_));refine Yi ?_ ?_
  ·intro he;have he:l[i]=s:=he;exact .of_eq (Ac vb (show true=_ from(A3.2 ⟨l[i],Aj h,by simpa using he⟩).symm))
  ·intro he;have he:¬l[i]=s:=he;refine Yi (Ii i (by omega)) ?_;refine Xi ⟨i+1,by omega,fun j hj IA=>?_⟩ ?_
   ·rcases BV j i with z | z
    ·exact h2 j hj z
    ·have:j=i:=by omega
     subst this;exact he
   ·exact⟨Dl l.length i (by omega),Z3,Tv,Fh,Tv⟩
 ·intro h;have h:¬(i:Int)<(l.map PF).length:=h;have h:¬i<l.length:=by simpa using h
  have er:(l.any fun q=>decide (q=s))=false:=by
   rw[CL];intro q hq;obtain⟨j,hj,rfl⟩:=BY hq;simpa using h2 j hj (by omega)
  exact .of_eq (Ac vb er.symm)
theorem qf{w:List UInt8}{s:ByteArray}:bs w=s↔w=s.data.toList:=by
 constructor
 ·intro h;rw[←h];rfl
 ·intro h;rw[h];rfl
theorem oz(s:ByteArray):(tG.any fun q=>decide (q=s))=ox.any (fun w=>decide (w=s.data.toList)):=by
 unfold tG;rw[List.any_map]
 congr 1
 funext w
 simp only[Function.comp];rw[IE];exact qf
theorem uX(s:ByteArray)(hs:s.data.toList.length<4611686018427387904):PC 276 [vs s] (vb (Gk s.data.toList)):=by
 have Ed:s.size=s.data.toList.length:=by simp
 obtain⟨N,hN⟩:∃N,N=Gk s.data.toList:=⟨_,rfl⟩;rw[←hN];unfold Gk at hN;have ko:=u6 s hs;have fX:=u7 tG s (by decide);rw[oz]at fX;refine Ps EI Tryz.func276 rfl (Nz rfl) ?_;refine Yi (fun h=>?_) (fun h=>?_)
 rotate_left
 ·have h:¬(1:Int)≤(s.size:Nat):=h;have e:s.data.toList=[]:=AJ (by omega);exact .of_eq (Ac vb (show false=N by rw[hN,e];rfl))
 have h:(1:Int)≤(s.size:Nat):=h;have he:s.data.toList.isEmpty=false:=by
  cases e:s.data.toList with
  |nil=>rw[e,Al]at Ed;omega
  |cons _ _=>rfl
 refine Yi (fun h2=>?_) (fun h2=>?_)
 rotate_left
 ·have h2:¬((s.size:Nat):Int)≤32:=h2;exact .of_eq (Ac vb (show false=N by rw[hN,he,At (by omega)];rfl))
 have h2:((s.size:Nat):Int)≤32:=h2;refine A8 (show ∃c l,s.data.toList=c::l by cases e:s.data.toList with | nil=>rw[e]at he;cases he | cons c l=>exact⟨c,l,rfl⟩) (fun c hc=>?_);refine A8 hc (fun l hc=>?_);refine Xi c (Yi ⟨by decide,by show s.data[(0:Int).toNat]?=_;rw[←AO,hc];rfl⟩ ?_);have kn:=nq c;have hN:N=(ED c&&s.data.toList.all FS&&!Us s.data.toList):=by
  rw[hN,he,Av (by omega),hc];rfl
 refine BG (Bt (ED c)).symm (fun e=>?_) (fun e=>?_)
 ·rw[e]at kn;refine Xi .pure (Xi _ (Yi (kn) ?_));exact .of_eq (Ac vb (show false=N by rw[hN,e];rfl))
 rw[e]at kn;refine Xi .pure (Xi _ (Yi (kn) ?_));refine BG (Bt (s.data.toList.all FS)).symm (fun e2=>?_) (fun e2=>?_)
 ·rw[e2]at ko;refine Xi .pure (Xi _ (Yi (ko) ?_));exact .of_eq (Ac vb (show false=N by rw[hN,e,e2];rfl))
 rw[e2]at ko;refine Xi .pure (Xi _ (Yi (ko) ?_));refine Xi .pure (Xi _ (Yi (u9) ?_));rw[Zu e2]at hN;refine BG (Bt (ox.any (fun w=>decide (w=s.data.toList)))) (fun e3=>?_) (fun e3=>?_)
 ·rw[e3]at fX;refine Xi .pure (Xi _ (Yi (fX) ?_));exact .of_eq (Ac vb (show false=N by rw[hN,e,e2,e3];rfl))
 ·rw[e3]at fX;refine Xi .pure (Xi _ (Yi (fX) ?_));exact .of_eq (Ac vb (show true=N by rw[hN,e,e2,e3];rfl))
end Go.Eng
