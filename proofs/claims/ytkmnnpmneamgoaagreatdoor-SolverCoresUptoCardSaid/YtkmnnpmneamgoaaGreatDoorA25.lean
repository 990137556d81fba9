/- Lemmas for the claims of this seat, without a condition: part 25 (S8d, S8e, S11, S12, S13, S14, S16, R1, R2). -/
import Derived.Test.YtkmnnpmneamgoaaGreatDoorA24
import Derived.Test.YtkmnnpmneamgoaaGreatDoorA04
namespace Go.Eng
open Go.Proofs
set_option maxHeartbeats 8000000 in
theorem yS(x:List Rl)(roots:List Rq)(C A:List (Value×AV))(n:Nat)(s:SS)(dec:List Cd)(st:List (List Sk))(p:ByteArray)(n0:Nd)(l:List Nd)(V:AV)(cs:List Cd)(R O:JS)(hL:uA x roots C A n dec p n0 l V cs)(hs:JT x roots s)(GD:st.length=dec.length)
  (IS:Bo Tryz.prog 64 [.ref 1000 0] (Ag (H7 roots C A s dec st) Aa) fun r h'=>r=.tup [vs p,sl AT (n0::l)]∧h'=Ag (H7 roots C A s dec st) Aa)
  (cS:cs=[]) (ox:∀a,(Value.string p,a)∉C) (hR:DN (C3 x roots n) x p (n0::l) n0 dec st cs s [] []=R) (bm:O=R) :
  Bo Tryz.prog 45 [.ref 1000 0] (Ag (H7 roots C A s dec st) Aa) (Y9 roots C A O):=by
 obtain⟨hx,hr,hdl,hcl,hcs,hnl,hnq,hnp,hex,hcx,hcq,hcp_,hcr,hcs_,hkey,hinf0,⟨rv,rx,ry⟩,ih⟩:=hL;have hdl:dec.length≤256:=hdl;have hcl:cs.length≤256:=hcl;have GD:st.length=dec.length:=GD;have XV:∀(i:Nat) (h:i<cs.length),cs[i]∈Br x p:=fun i h=>by rw[←hcs];exact Am h
 have m0:∀(i:Nat) (h:i<cs.length),CL (Ap (dec++[cs[i]])):=fun i h=>by unfold CL Ap;rw[Lm,Ad];simp;omega
 clear hcs
 refine CH (MN ⟨[9],[(6,1),(7,3),(145,1)],[],[],[],[],[],[],[],[(300001,500091000),(300026,500091000),(300029,500091000)],[1,2,5,10,11,13,14,15,16,17,19,21,22,23,24,25,26,28,29,31,32,33,35]⟩) [(1000,1000),(1001,1001),(1002,1002),(1003,1003),(1004,1004),(500,2000)] rfl CI hm rfl Tryz.func45 (by kernel_rfl) rfl (Nz rfl) (by kernel_rfl) rfl ?_;refine Yi (show st.length=(st.map AS).length by simp) ?_;refine Xi ⟨[(0,.ref 1000 0)],[(500,.arr 1 (st.map AS)),(1000,.cells (srM roots C A s dec 500 st.length)),(1001,.tok 6 s.infs.length),(1002,.tok 1 s.drv.length),(1003,.map DA (D5 0 s.infs)),(1004,.dead)],Aa⟩ (Yi ⟨Z1,Z6,Fh,At (by kernel_rfl)⟩ ?_)
 refine Xi (.gen Y8 0) (Yi rfl (Bo.imp IS ?_));intro v1 g1 q1;have ay:=q1.1;have az:=q1.2;subst ay;subst az;refine Xi ⟨[(0,.ref 1000 0),(4,vs p),(5,sl AT (n0::l))],[(500,.arr 1 (st.map AS)),(1000,.cells (srM roots C A s dec 500 st.length)),(1001,.tok 6 s.infs.length),(1002,.tok 1 s.drv.length),(1003,.map DA (D5 0 s.infs)),(1004,.dead)],Aa⟩ (Yi ⟨Z3,Z6,Fh,At (by kernel_rfl)⟩ ?_)
 refine Yi (fun h2=>?_) (fun h2=>?_)
 ·have h2:(((n0::l).map AT).length:Int)=(0:Int):=h2;exact absurd h2 (by simp;omega)
 have h2:¬((((n0::l).map AT).length:Int)=(0:Int)):=h2;refine Xi ⟨[(0,.ref 1000 0),(4,vs p),(5,sl AT (n0::l)),(6,.slice (.id 6 1) [])],[(6,.tok 1 0),(500,.arr 1 (st.map AS)),(1000,.cells (srM roots C A s dec 500 st.length)),(1001,.tok 6 s.infs.length),(1002,.tok 1 s.drv.length),(1003,.map DA (D5 0 s.infs)),(1004,.dead)],Aa⟩ (Yi ⟨Z4,Z7,Fh,At (by kernel_rfl)⟩ ?_)
 refine Yi (fun a ha=>?_) (fun LN=>?_)
 ·exact absurd ha (ox a)
 refine Xi {q:Nat×SS×List Nat×List Sk // q.1≤cs.length∧DN (C3 x roots n) x p (n0::l) n0 dec st (cs.drop q.1) q.2.1 q.2.2.1 q.2.2.2=R∧JT x roots q.2.1∧(∀r∈q.2.2.1,r<q.2.1.drv.length)∧q.2.2.1.length≤q.1∧q.2.2.2.length≤q.1} (Xi (fun q=>⟨[(0,.ref 1000 0),(4,vs p),(5,sl AT (n0::l)),(6,.slice (.id 6 1) (q.1.2.2.1.map BG)),(7,.slice (.id 7 3) (q.1.2.2.2.map BE)),(32,.v (.slice none 0 0)),(33,vi 0),(34,vi q.1.1)],[(6,.tok 1 q.1.2.2.1.length),(7,.tok 3 q.1.2.2.2.length),(500,.arr 1 (st.map AS)),(1000,.cells (srM roots C A q.1.2.1 dec 500 st.length)),(1001,.tok 6 q.1.2.1.infs.length),(1002,.tok 1 q.1.2.1.drv.length),(1003,.map DA (D5 0 q.1.2.1.infs)),(1004,.dead)],Aa⟩) (Xi (fun q=>cs.length-q.1.1) (Yi (Xi ⟨(0,s,[],[]),AL _,hR,hs,fun r h=>(by cases h),Ao _,Ao _⟩ ?_) ?_)))
 ·exact⟨Z8,Z8,Fh,At (by kernel_rfl)⟩
 intro⟨⟨i,S,rs,sk⟩,j1,j2,j3,j4,j5,j6⟩;have j1:i≤cs.length:=j1;have j2:DN (C3 x roots n) x p (n0::l) n0 dec st (cs.drop i) S rs sk=R:=j2;have j3:JT x roots S:=j3;have j4:∀r∈rs,r<S.drv.length:=j4;have j5:rs.length≤i:=j5;have j6:sk.length≤i:=j6;have hw:=j3.dl;have gO:∀t∈S.drv,ff t:=fun t ht=>by have q:=j3.der.few hx hr t ht;exact⟨Fq q,q.2⟩
 refine Yi (fun h3=>?_) (fun h3=>?_)
 ·have h3:(i:Int)<(0:Int):=h3;exact absurd h3 (by have q:=j1;rw[cS,Ah]at q;omega)
 have h3:¬((i:Int)<(0:Int)):=h3;refine Xi (AT n0) (Yi (Yi (show(0:Int)≤0 by decide) rfl) (Yi rfl ?_));refine Yi (Nz rfl) ?_;refine Xi (.gen Y8 0) (Yi rfl (Bo.imp (s91 x roots C A S dec st p n0 rs V hx hr j3 hinf0 j4 (by omega) (hnq n0 (Ab ..)) (hnp n0 (Ab ..)) rv rx ry) ?_));intro v4 g4 q4;have ta:=q4.1;have tb:=q4.2;subst ta;subst tb;have hj:¬i<cs.length:=by rw[cS];simp
 have eR:R=⟨(DP x p n0 rs S).1,false,(DP x p n0 rs S).2,dec,st⟩:=by rw[←j2];exact fK hj
 exact Xi _ (Yi (.refl _) (NJ (bm.trans eR)))
set_option maxHeartbeats 4000000 in
theorem yU(roots:List Rq)(C A:List (Value×AV))(s:SS)(dec:List Cd)(st:List (List Sk))(p:ByteArray)(N:List Nd)(O:JS)(hN:N=[])
  (IS:Bo Tryz.prog 64 [.ref 1000 0] (Ag (H7 roots C A s dec st) Aa) fun r h'=>r=.tup [vs p,sl AT N]∧h'=Ag (H7 roots C A s dec st) Aa) (hO:O=⟨0,true,s,dec,st⟩) :
  Bo Tryz.prog 45 [.ref 1000 0] (Ag (H7 roots C A s dec st) Aa) (Y9 roots C A O):=by
 refine CH (MN ⟨[],[],[],[],[],[],[],[],[],[(300001,500091000)],[1,2,5,10,11,13,14,15,16,17,19,21,22,23,25,28,29,31,32,33,35]⟩) [(1000,1000),(1001,1001),(1002,1002),(1003,1003),(1004,1004),(500,2000)] rfl CI hm rfl Tryz.func45 (by kernel_rfl) rfl (Nz rfl) (by kernel_rfl) rfl ?_;refine Yi (show st.length=(st.map AS).length by simp) ?_;refine Xi ⟨[(0,.ref 1000 0)],[(500,.arr 1 (st.map AS)),(1000,.cells (srM roots C A s dec 500 st.length)),(1001,.tok 6 s.infs.length),(1002,.tok 1 s.drv.length),(1003,.map DA (D5 0 s.infs)),(1004,.dead)],Aa⟩ (Yi ⟨Z1,Z6,Fh,At (by kernel_rfl)⟩ ?_)
 refine Xi (.gen Y8 0) (Yi rfl (Bo.imp IS ?_));intro v1 g1 q1;have ay:=q1.1;have az:=q1.2;subst ay;subst az;refine Xi ⟨[(0,.ref 1000 0),(4,vs p),(5,sl AT N)],[(500,.arr 1 (st.map AS)),(1000,.cells (srM roots C A s dec 500 st.length)),(1001,.tok 6 s.infs.length),(1002,.tok 1 s.drv.length),(1003,.map DA (D5 0 s.infs)),(1004,.dead)],Aa⟩ (Yi ⟨Z3,Z6,Fh,At (by kernel_rfl)⟩ ?_)
 refine Yi (fun h2=>?_) (fun h2=>?_)
 ·have h2:((N.map AT).length:Int)=(0:Int):=h2;exact Xi _ (Yi (.refl _) (NJ (st:=st) hO))
 have h2:¬(((N.map AT).length:Int)=(0:Int)):=h2;exact absurd (by rw[hN];rfl) h2
end Go.Eng

namespace Go.Eng
open Go.Proofs
section
variable {x:List Rl}{roots:List Rq}{p:ByteArray}
theorem Ip:∀(l:List Nat) {k:Nat} {s:SS},s.infs.Nodup→(Ci p l k s).2.infs.Nodup
 | [],_,_,h=>h
 |r::l,k,s,h=>by
  unfold Ci;split
  ·exact h
  split
  ·exact Ip l h
  split
  ·exact Ip l h
  ·exact Ip l (Ie h)
theorem Lb{needs:List Nd}{n0:Nd}{dec:List Cd}{st:List (List Sk)}{rec:List Cd→SS→List (List Sk)→JS}(WD:∀c s st,s.infs.Nodup→(rec (dec++[c]) s st).ss.infs.Nodup) :
  ∀(cs:List Cd) {s:SS} {rs:List Nat} {sk:List Sk},s.infs.Nodup→(DN rec x p needs n0 dec st cs s rs sk).ss.infs.Nodup
 | [],s,rs,sk,h=>Ip _ (Ie (Ie h))
 |c::cs,s,rs,sk,h=>by
  have fm:∀(s' : SS) (k:Nat),s'.infs.Nodup→(Ix rec x p needs n0 dec st c cs rs sk k s').ss.infs.Nodup:=fun s' k h'=>by
   unfold Ix;split
   ·exact h'
   ·exact Lb WD cs h'
  rw[F0];split
  ·exact h
  cases needs.find? fun n=>!has n.rq.set c.place with
  |some n=>exact Lb WD cs (Ie h)
  |none =>
   dsimp only;cases NR s.drv (Ap (dec++[c]))with
   |some k=>exact fm s k h
   |none =>
    dsimp only;cases Co dec c with
    |some n=>exact fm _ _ (Ie h)
    |none =>
     dsimp only;have h2:=WD c s (st++[sk]) h;split
     ·exact h2
     split
     ·exact h2
     ·exact fm _ _ h2
theorem Po:∀(n:Nat) {dec:List Cd} {s:SS} {st:List (List Sk)},s.infs.Nodup→(C3 x roots n dec s st).ss.infs.Nodup
 |0,_,_,_,h=>h
 |n+1,dec,s,st,h=>by
  unfold C3;cases (DR roots dec).2 with
  |nil=>exact h
  |cons n0 l=>exact Lb (fun c s st h=>Po n h) _ h
structure qw(x:List Rl)(roots:List Rq)(C A:List (Value×AV)):Prop where
 hx:Ba x=0
 hr:Bn roots=0
 fx:∀r∈x,Gj r
 fr:∀q∈roots,H4 q
 c1:∀(p:ByteArray) (a:AV),(Value.string p,a)∈C→a=sl Ay (Br x p)
 c2:∀p:ByteArray,(∀a,(Value.string p,a)∉C)→Br x p=[]
 c3:∀p:ByteArray,Br x p=[]→∀a,(Value.string p,a)∉C
 av:∀p:ByteArray,∃V,HV x A p V
theorem gb{dec:List Cd}(h:∀c∈dec,c.rel.reqs.length≤16):((dec.map fun c=>c.rel.reqs).flatten).length≤16*dec.length:=by
 induction dec with
 |nil=>simp
 |cons c dec ih =>
  rw[AN,Bu,Ad,Aj]
  have:=h c (Ab ..)
  have:=ih fun d hd=>h d (Ai _ hd)
  omega
theorem pv{r:Rl}(h:So r):0≤plc r.ver∧plc r.ver<1000000:=by rw[h.plc];exact JH h.val
theorem Vy(dec:List Cd):(DR roots dec).2.length≤(Dq roots dec).length:=by
 rw[TO];cases HT (DH roots dec) (Ap dec)with
 |none=>simp
 |some q=>exact Bp _ _
theorem s45{C A:List (Value×AV)}(hE:qw x roots C A)(ov:H64 roots C A):∀(n:Nat) {dec:List Cd} {s:SS} {st:List (List Sk)},D6 x dec→IZ roots dec→JT x roots s→s.full=false→E9 x dec<n→st.length=dec.length →
  Bo Tryz.prog 45 [.ref 1000 0] (Ag (H7 roots C A s dec st) Aa) (Y9 roots C A (C3 x roots n dec s st))
 |0,_,_,_,_,_,_,_,h,_=>by omega
 |n+1,dec,s,st,hd,cY,hs,hf,hn,GD=>by
  have hx:=hE.hx;have hr:=hE.hr;have NY:=Ls hx;have hdl:=OG hd;have gN:dec.length≤256:=by have:=NY.1;omega
  have hrl:∀c∈dec,c.rel.reqs.length≤16:=fun c hc=>NY.2 _ (hd.cand c hc).1;have IS:=ov s dec st (by omega) fun c hc=>Bw (hrl c hc) (by decide);generalize hO:C3 x roots (n+1) dec s st=O;obtain⟨N,hN⟩:∃N,N=(DR roots dec).2:=⟨_,rfl⟩;obtain⟨q,hq⟩:∃q,q=(DR roots dec).1:=⟨_,rfl⟩;rw[←hN,←hq]at IS;have oA:N.length≤10000:=by
   have h1:=Vy (roots:=roots) dec;have h2:(Dq roots dec).length=(DH roots dec).length:=by rw[←Jm,Lm]
   have h3:=gb hrl;have h4:=JJ hr;rw[←hN]at h1;unfold DH at h2;rw[Ad]at h2;omega
  cases hNc:N with
  |nil =>
   rw[hNc]at hN IS;refine yU roots C A s dec st q [] O rfl IS ?_;rw[←hO];unfold C3;rw[←hN]
  |cons n0 l =>
   rw[hNc]at hN IS;have hNx:=Im hN.symm;rw[←hq]at hNx;have MP:∀nd∈n0::l,nd∈Dq roots dec:=fun nd h=>((hNx.mem nd).1 h).1;have FV:=(CQ hx).1;have few:∀{E:List Cd},D6 x E→∀nd∈Dq roots E,CL nd.rq.set∧A9 (nd.place+1):=fun hE' nd h=>by
    rcases KR h with ⟨k,r,h1,rfl⟩ | ⟨c,hc,k,r,h1,rfl⟩
    ·exact⟨(hE.fr r (AA h1)).1,by unfold A9;show -9223372036854775808≤(0:Int)+1∧(0:Int)+1<9223372036854775808;decide⟩
    ·have h2:=hE'.cand c hc;have h3:=pv (FV _ h2.1);rw[←h2.2.2]at h3;exact⟨((hE.fx _ h2.1).2 r (AA h1)).1,by unfold A9;show _≤c.place+1∧c.place+1<_;omega⟩
   have cZ:∀c∈Br x q,D6 x (dec++[c])∧c.rel.path=q∧c.rel∈x:=fun c hc=>by
    obtain⟨c1,c2⟩:=Hb hc;exact⟨hd.snoc c2 (by rw[c1];exact hNx.undone),c1,c2.1⟩
   have EU:∀(i:Nat) (h:i<(Br x q).length),(Br x q)[i]∈Br x q:=fun i h=>Am h;obtain⟨V,hV⟩:=hE.av q
   have hL:uA x roots C A n dec q n0 l V (Br x q):={
    hx:=hx
    hr:=hr
    hdl:=gN
    hcl:=Bw (PI x q) NY.1
    hcs:=rfl
    hnl:=by rw[hNc]at oA;omega
    hnq:=fun nd h=>(few hd nd (MP nd h)).1
    hnp:=fun nd h=>(few hd nd (MP nd h)).2
    hex:=fun i h nd hm hh=>by
     obtain⟨a,b,_⟩:=cZ _ (EU i h);exact⟨(O9 hx hr a (N5 (MP nd hm)) ⟨(Br x q)[i],by simp,b.trans ((hNx.mem nd).1 hm).2.symm,hh⟩).1,trivial⟩
    hcx:=fun i h nc hc=>by
     obtain⟨a,b,_⟩:=cZ _ (EU i h);obtain⟨m1,m2⟩:=Lg hc;exact⟨(O9 hx hr a (MZ m1) m2).1,trivial⟩
    hcq:=fun i h nc hm=>(few (cZ _ (EU i h)).1 nc (MZ hm)).1
    hcp_:=fun i h nc hm=>(few (cZ _ (EU i h)).1 nc (MZ hm)).2
    hcr:=fun i h=>by have:=NY.2 _ (cZ _ (EU i h)).2.2;omega
    hcs_:=fun i h r hm=>((hE.fx _ (cZ _ (EU i h)).2.2).2 r hm).1
    hkey:=fun i h=>by
     have b:=(cZ _ (EU i h)).2.1;unfold Ap;rw[Az,Az];show _=_++[[vs (Br x q)[i].rel.path,vi (Br x q)[i].rel.ver.a,vi (Br x q)[i].rel.ver.b,vi (Br x q)[i].rel.ver.c]];rw[b]
    hinf0:=(RS hx hr hd (MP n0 (Ab ..)) (.inl (by
     rw[((hNx.mem n0).1 (Ab ..)).2];exact HI (by rw[F5];exact hNx.undone)))).inf
    hV:=hV
    ih:=fun c hc xl S FB hl hS zz=>by
     obtain⟨a,b,c3⟩:=cZ c hc;obtain⟨k1,k2⟩:=GO.1 xl;obtain⟨_,c2⟩:=Hb hc;have ne:=cY.snoc hNx b k1 k2;have jV:E9 x (dec++[c])<n:=by have:=Ll (dec:=dec) ⟨c2.1,c2.2.1⟩ (by rw[b];exact hNx.undone);omega
     have h1:=s45 hE ov n a ne hS zz jV (st:=FB) (by rw[hl];simp);have h2:=Qy hx hr n a ne hS.der zz jV (st:=FB);exact⟨h1,⟨h2.der,Po n hS.nodup⟩,⟨h2.grow.len,fun e1 e2=>((h2.no e1).2.2 e2).1⟩,fun e1=>(h2.no e1).2.1⟩ }
   have hR:DN (C3 x roots n) x q (n0::l) n0 dec st (Br x q) s [] []=O:=by
    rw[←hO]
    conv=>rhs;unfold C3
    rw[←hN,hq]
   by_cases hm:∀a,(Value.string q,a)∉C
   ·exact yS x roots C A n s dec st q n0 l V (Br x q) O O hL hs GD IS (hE.c2 q hm) hm hR rfl
   ·exact yQ x roots C A n s dec st q n0 l V (Br x q) O O hL hs GD IS (hE.c1 q) hm hR rfl
end
end Go.Eng

namespace Go.Eng
open Go.Proofs
theorem yT{x:List Rl}{roots:List Rq}{C A:List (Value×AV)}(hE:qw x roots C A)(n:Nat){dec:List Cd}{s:SS}{st:List (List Sk)}(h1:D6 x dec)(h2:IZ roots dec)(h3:JT x roots s)(h4:s.full=false)(h5:E9 x dec<n)(h6:st.length=dec.length) :
  Bo Tryz.prog 45 [.ref 1000 0] (Ag (H7 roots C A s dec st) Aa) (Y9 roots C A (C3 x roots n dec s st)) :=
 s45 hE (fun s dec st a b=>s64 roots C A s dec st (Bw (JJ hE.hr) (by decide)) a b) n h1 h2 h3 h4 h5 h6
end Go.Eng

namespace Go.Eng
open Go.Proofs
def Dc(x:List Rl)(roots:List Rq):Bool:=decide (Ba x=0)&&decide (Bn roots=0)
theorem tE(x:List Rl)(ifs:List (List AV))(roots:List Rq)(hx:∀r∈x,Gj r)(hr:∀q∈roots,H4 q):PC 28 [.agg (Ic x ifs),sl Al roots] (vb (Dc x roots)):=by
 refine Ps ⟨[2],[],[],[],[],[],[],[],[],[],[]⟩ Tryz.func28 rfl (Nz rfl) ?_;refine Yi (Nz rfl) ?_;refine Xi .pure (Xi _ (Yi (vX kw x ifs hx) ?_));refine Yi (fun h1=>?_) (fun h1=>?_)
 ·have h1:((Ba x):Int)=(0:Int):=h1;refine Xi .pure (Xi _ (Yi (zf kw roots hr) ?_));refine Yi (fun h2=>?_) (fun h2=>?_)
  ·have h2:((Bn roots):Int)=(0:Int):=h2;exact .of_eq (show vb true=vb (Dc x roots) by unfold Dc;rw[h1,h2];rfl)
  have h2:¬(((Bn roots):Int)=(0:Int)):=h2;exact .of_eq (show vb false=vb (Dc x roots) by unfold Dc;rw[Au h2,Ct])
 have h1:¬(((Ba x):Int)=(0:Int)):=h1;exact .of_eq (show vb false=vb (Dc x roots) by unfold Dc;rw[Au h1];rfl)
end Go.Eng

namespace Go.Eng
open Go.Proofs
abbrev QT(r:Rl):List AV:=Ay ⟨plc r.ver,r⟩
abbrev GE(y:List Rl)(p:ByteArray):List (List AV):=(y.filter fun r=>decide (r.path=p)).map QT
abbrev XQ(y:List Rl)(q:ByteArray×Nat):Value×AV:=(.string q.1,.slice (.id (q.2+100) 10) (GE y q.1))
abbrev ID(y:List Rl):List (Value×AV):=(AP y []).zipIdx.map (XQ y)
def Gq(y:List Rl)(l:Nat):HO:=match(AP y [])[l]? with
 |some q=>.tok 10 (GE y q).length
 |none=>.free
def Je(y:List Rl)(j:Nat):HO:=bif Nat.ble 100 j&&Nat.blt j 1000 then Gq y (j-100)else .free
theorem Fe(y:List Rl)(hy:y.length≤256)(l:Nat):Je y (l+100)=Gq y l:=by
 unfold Je;rw[show Nat.ble 100 (l+100)=true by rw[Dn];omega,El,Nat.add_sub_cancel]
 by_cases h:l+100<1000
 ·rw[show Nat.blt (l+100) 1000=true by rw[Cp];exact h];rfl
 ·rw[show Nat.blt (l+100) 1000=false by rw[AI];intro hc;rw[Cp]at hc;omega]
  have:=Hr y []
  rw[Ah]at this;unfold Gq;rw[A6 (by omega)];rfl
theorem lc(y:List Rl){j:Nat}(h:j<100):Je y j=.free:=by
 unfold Je;rw[show Nat.ble 100 j=false by rw[AI];intro hc;rw[Dn]at hc;omega];rfl
theorem Hq(y:List Rl)(r:Rl)(q:ByteArray):GE (y++[r]) q=if r.path=q then GE y q++[QT r]else GE y q:=by
 unfold GE;rw[D0]
 by_cases h:r.path=q
 ·rw[Ax h,JV (by simpa using h)];simp
 ·rw[Aq h,G0 (by simpa using h)];simp
section
variable {y:List Rl}{r:Rl}{k:Nat}
open Classical in
theorem gu(h:(AP y [])[k]?=some r.path):Fg (ID y) (.string r.path) (.slice (.id (k+100) 10) (GE y r.path++[QT r]))=ID (y++[r]):=by
 have hd:=E2 y [] Ft;have hm:XQ y (r.path,k)∈ID y:=Ar.2 ⟨_,FO.2 h,rfl⟩;rw[Yz (a':=.slice (.id (k+100) 10) (GE y r.path)) hm];unfold ID;rw[Jq h,BY];refine A8 fun q hq=>?_;have hg:=Is hq;obtain⟨q,j⟩:=q;show(if Value.string q=Value.string r.path then _ else _)=XQ (y++[r]) (q,j);have hg:(AP y [])[j]?=some q:=hg
 by_cases he:q=r.path
 ·subst he
  have:j=k:=Jn hd hg h
  subst this;rw[Ax rfl];show _=(Value.string r.path,AV.slice (.id (j+100) 10) (GE (y++[r]) r.path));rw[Hq,Ax rfl]
 ·rw[Aq (fun e=>he (by simpa using e))];show(Value.string q,AV.slice (.id (j+100) 10) (GE y q))=(Value.string q,AV.slice (.id (j+100) 10) (GE (y++[r]) q));rw[Hq,Aq (fun e=>he e.symm)]
theorem YH(h:r.path∉AP y []):GE y r.path=[]:=by
 have:y.filter (fun s=>decide (s.path=r.path))=[]:=by
  rw[Hw];intro s hs he;exact h ((Hs y [] r.path).2 (.inr ⟨s,hs,Cq he⟩))
 unfold GE;rw[this];rfl
theorem Vg(h:r.path∉AP y [])(a:AV):(Value.string r.path,a)∉ID y:=by
 intro hc;obtain⟨q,h1,h2⟩:=Ar.1 hc;simp only[XQ,FZ,Value.string.injEq]at h2;exact h (by rw[←h2.1];exact AA (Is h1))
theorem gt(h:r.path∉AP y []):Fg (ID y) (.string r.path) (.slice (.id ((AP y []).length+100) 10) [QT r])=ID (y++[r]):=by
 rw[Mx (fun a=>Vg h a)];unfold ID;rw[Jp h,List.zipIdx_append,Az]
 congr 1
 ·refine A8 fun q hq=>?_;have hg:=Is hq
  have:q.1≠r.path:=fun e=>h (by rw[←e];exact AA hg)
  show(Value.string q.1,AV.slice (.id (q.2+100) 10) (GE y q.1))=(Value.string q.1,AV.slice (.id (q.2+100) 10) (GE (y++[r]) q.1));rw[Hq,Aq (fun e=>this e.symm)]
 ·show [_]=[(Value.string r.path,AV.slice (.id (0+(AP y []).length+100) 10) (GE (y++[r]) r.path))];rw[Hq,Ax rfl,YH h,Be];rfl
theorem cO{p:ByteArray}{j:Nat}(h:(AP y [])[j]?=some p):(Value.string p,AV.slice (.id (j+100) 10) (GE y p))∈ID y∧∀b,(Value.string p,b)∈ID y→b=AV.slice (.id (j+100) 10) (GE y p):=by
 refine⟨Ar.2 ⟨(p,j),FO.2 h,rfl⟩,fun b hb=>?_⟩;obtain⟨q,h1,h2⟩:=Ar.1 hb;simp only[XQ,FZ,Value.string.injEq]at h2;have hg:=Is h1;rw[h2.1]at hg
 have:=Jn (E2 y [] Ft) hg h
 rw[←h2.2,h2.1,this]
theorem bR{p:ByteArray}{j:Nat}(h:(AP y [])[j]?=some p):Gq y j=.tok 10 (GE y p).length:=by
 unfold Gq;rw[h]
theorem jJ(h:(AP y [])[k]?=some r.path)(l:Nat):(bif Nat.beq (l+100) (k+100)then HO.tok 10 ((GE y r.path).length+1)else Gq y l)=Gq (y++[r]) l:=by
 by_cases he:l=k
 ·subst he;rw[show Nat.beq (l+100) (l+100)=true from Ds _];unfold Gq;rw[Jq h,h];show HO.tok 10 _=HO.tok 10 (GE (y++[r]) r.path).length;rw[Hq,Ax rfl,Ad];rfl
 ·rw[show Nat.beq (l+100) (k+100)=false by rw[AI];intro hc;have:=AU hc;omega];show Gq y l=_;unfold Gq;rw[Jq h];cases hq:(AP y [])[l]? with
  |none=>rfl
  |some q =>
   show HO.tok 10 (GE y q).length=HO.tok 10 (GE (y++[r]) q).length;rw[Hq,Aq];intro e;subst e;exact he (Jn (E2 y [] Ft) hq h)
theorem jI(h:r.path∉AP y [])(l:Nat):(bif Nat.beq (l+100) ((AP y []).length+100)then HO.tok 10 1 else Gq y l)=Gq (y++[r]) l:=by
 by_cases he:l=(AP y []).length
 ·subst he;rw[show Nat.beq ((AP y []).length+100) ((AP y []).length+100)=true from Ds _];unfold Gq;rw[Jp h];simp only[AR (Ao _),Fk,Bk];show HO.tok 10 1=HO.tok 10 (GE (y++[r]) r.path).length;rw[Hq,Ax rfl,YH h];rfl
 ·rw[show Nat.beq (l+100) ((AP y []).length+100)=false by rw[AI];intro hc;have:=AU hc;omega];show Gq y l=_;unfold Gq;rw[Jp h]
  by_cases hl:l<(AP y []).length
  ·rw[A2 hl,Ge hl];show HO.tok 10 (GE y (AP y [])[l]).length=HO.tok 10 (GE (y++[r]) (AP y [])[l]).length;rw[Hq,Aq];intro e;exact h (by rw[e];exact Am hl)
  ·rw[A6 (by omega),A6 (by rw[Ad];simp;omega)]
end
theorem HH(y:List Rl){h:Nat→HO}(hh:∀l,h (l+100)=Gq y l):Ra h (ID y)=true:=by
 refine PY fun p hp=>?_;obtain⟨q,h1,rfl⟩:=Ar.1 hp;show RC h (q.2+100)=true;unfold RC;rw[hh,bR (Is h1)]
theorem GN{y:List Rl}(hy:y.length≤256){h h' : Nat→HO}(hh:∀l,h (l+100)=Gq y l)(j:Nat):Je y j=.free∨(h j=Je y j∧Yc h' (Je y j)=true):=by
 by_cases hj:j<100
 ·exact .inl (lc y hj)
 ·obtain⟨l,rfl⟩:∃l,j=l+100:=⟨j-100,by omega⟩
  right
  rw[Fe y hy];refine⟨hh l,?_⟩;unfold Gq;cases (AP y [])[l]?<;>rfl
end Go.Eng

namespace Go.Eng
open Go.Proofs
abbrev yR(x:List Rl):List Rl:=x.filter fun r=>!r.yanked
theorem ai(x:List Rl)(p:ByteArray):GE (yR x) p=(Br x p).map Ay:=by
 unfold GE Br;rw[List.filter_filter,BY]
 rfl
def mC(x:List Rl):List (Value×AV):=(AP (yR x) []).map fun p=>(.string p,sl Ay (Br x p))
theorem iz{x:List Rl}{p:ByteArray}{a:AV}:(Value.string p,a)∈mC x↔p∈AP (yR x) []∧a=sl Ay (Br x p):=by
 unfold mC;rw[Ar];constructor
 ·rintro⟨q,hq,e⟩
  injection e with e1 e2
  injection e1 with e1
  subst e1;exact⟨hq,e2.symm⟩
 ·rintro⟨h1,h2⟩
  exact⟨p,h1,by rw[h2]⟩
theorem U5{x:List Rl}{p:ByteArray}:Br x p=[]↔p∉AP (yR x) []:=by
 rw[Hs];unfold Br;rw[EW,Hw];constructor
 ·rintro h (h1 | ⟨r,h1,h2⟩)
  ·cases h1
  ·obtain⟨h3,h4⟩:=BM.1 h1;exact h r h3 (by rw[Av h2,h4];rfl)
 ·intro h r hr hc;rw[Af,AD]at hc;exact h (.inr ⟨r,BM.2 ⟨hr,hc.2⟩,hc.1⟩)
theorem sP(x:List Rl):∀(p:ByteArray) (a:AV),(Value.string p,a)∈mC x→a=sl Ay (Br x p):=fun _ _ h=>(iz.1 h).2
theorem sQ(x:List Rl):∀p:ByteArray,(∀a,(Value.string p,a)∉mC x)→Br x p=[]:=fun _ h=>U5.2 fun hp=>h _ (iz.2 ⟨hp,rfl⟩)
theorem sR(x:List Rl):∀p:ByteArray,Br x p=[]→∀a,(Value.string p,a)∉mC x:=fun _ h _ ha=>U5.1 h (iz.1 ha).1
end Go.Eng

namespace Go.Eng
open Go.Proofs
abbrev plN:QO:=⟨[2],[],[],[(52,[12])],[],[12],[50],[(53,(16,3,90,6)),(54,(16,4,91,1)),(55,(16,7,93,10)),(56,(16,8,94,4))],[],[(850013,13),(800013,10016),(810013,20016),(900013,10000000000+92000000+90016)],[5,7,8,9,11,12,13]⟩
abbrev kC(x:List Rl)(p:ByteArray):Value×AV:=(.string p,sl Ay (Br x p))
abbrev kA(x:List Rl)(p:ByteArray):Value×AV:=(.string p,sl Ae (Cf x p))
theorem lS{x:List Rl}{l:List ByteArray}{kv:Value×AV}{Oa : List (Value×AV)}(h:(l.map (kC x)).Perm (kv::Oa)):∃t r,kv=kC x t∧Oa=r.map (kC x)∧l.Perm (t::r):=by
 obtain⟨ps,h1,h2⟩:=Mz h l rfl;cases ps with
 |nil=>cases h2
 |cons t r =>
  rw[AN,FL]at h2;exact⟨t,r,h2.1.symm,h2.2.symm,h1.symm⟩
abbrev srN(roots:List Rq)(C A:List (Value×AV)):List (Nat×HO) :=
 [(2000,.cells [sl Al roots,.cmap DQ C,.cmap DQ A,.slice (.id 2001 6) [],.slice (.id 2002 1) [],.mref 2003,vb false,.slice .none [],.slice .none [],.msl 2004 0]),(2001,.tok 6 0),(2002,.tok 1 0),(2003,.map DA []),(2004,.arr 1 [])]
theorem WJ{x:List Rl}{l:List ByteArray}{p:ByteArray}{a:AV}:(Value.string p,a)∈l.map (kA x)↔p∈l∧a=sl Ae (Cf x p):=by
 rw[Ar];constructor
 ·rintro⟨q,hq,e⟩
  injection e with e1 e2
  injection e1 with e1
  subst e1;exact⟨hq,e2.symm⟩
 ·rintro⟨h1,h2⟩
  exact⟨p,h1,by rw[h2]⟩

theorem bo(y:List Rl)(n:Nat):Je y (n+1000)=.free:=by
 unfold Je;rw[show Nat.blt (n+1000) 1000=false by rw[AI];intro hc;rw[Cp]at hc;omega,Ct];rfl
theorem Wo{h s:Nat→HO}(H:∀n,h (n+1000)=.free):∀j,1000≤j→j<2000→h j≠.free→s j≠.free:=fun j h1 _ hn=>by
 refine absurd (H (j-1000)) ?_;rw[show j-1000+1000=j by omega];exact hn
theorem kp{n k:Nat}(h:k<1000):Nat.beq (n+1000) k=false:=by
 rw[AI];intro hc;have:=AU hc;omega
theorem aT{y:List Rl}{n k:Nat}{o:HO}(h:k<1000):(bif Nat.beq (n+1000) k then o else Je y (n+1000))=.free:=by
 rw[kp h,bo];rfl
attribute [local irreducible] Io
set_option maxRecDepth 30000 in
set_option maxHeartbeats 4000000 in
theorem uu(x:List Rl)(ifs:List (List AV))(roots:List Rq)(hx:∀r∈x,Gj r)(h0:Ba x=0):Bo Tryz.prog 29 [L6 x ifs,sl Al roots] (Ag [] Aa) fun r h'=>∃l:List ByteArray,l.Perm (AP (yR x) [])∧r=.ref 2000 0∧h'=Ag (srN roots (mC x) (l.map (kA x))) Aa:=by
 have NY:x.length≤256:=(Ls h0).1;refine CH (MN plN) [(16,2000),(90,2001),(91,2002),(14,2003),(92,2004)] rfl CI hm rfl Tryz.func29 (by kernel_rfl) rfl (Nz rfl) (by kernel_rfl) rfl ?_;refine Xi 0 ?_;refine Xi 0 ?_;refine Xi 0 ?_;refine Xi {i:Nat // i≤x.length} (Xi (fun i=>⟨[(2,.ref 2 0),(5,.ref 16 0),(18,sl AY x),(19,vi (x.map AY).length),(20,vi i.1)],[(2,.ro (Ic x ifs)),(12,.mapU DQ (ID (yR (x.take i.1)))),(13,.map DQ []),(14,.map DA []),(16,.cells [sl Al roots,.mref 12,.mref 13,.v (.slice none 0 0),.v (.slice none 0 0),.mref 14,vb false,.v (.slice none 0 0),.v (.slice none 0 0),.v (.slice none 0 0)])],Je (yR (x.take i.1))⟩) (Xi (fun i=>x.length-i.1) (Yi (Xi ⟨0,AL _⟩ ?_) ?_)))
 ·refine⟨Z5,Z5,fun j=>.inl ?_,At (by kernel_rfl)⟩;show Je [] j=.free;unfold Je;cases (Nat.ble 100 j&&Nat.blt j 1000)<;>rfl
 intro⟨i,i1⟩;have i1:i≤x.length:=i1;have hq:∀k,(yR (x.take k)).length≤256:=fun k=>by
  have:=Bp (fun r:Rl=>!r.yanked) (x.take k)
  rw[AG]at this;show(List.filter _ _).length≤256;omega
 refine Xi 0 ?_;refine Yi ?_ ?_
 ·intro h;have h:(i:Int)<(x.map AY).length:=h;have h:i<x.length:=by simpa using h
  have hg:x[i]?=some x[i]:=Ge h;have KM:x.take (i+1)=x.take i++[x[i]]:=by rw[Bd,hg];rfl
  refine Xi 0 ?_;refine Xi (AY x[i]) (Yi (Yi (Nn i) (by simp[hg])) (Yi rfl ?_));refine Yi (Nz rfl) (Yi (Nz rfl) ?_);refine Xi ⟨[(2,.ref 2 0),(5,.ref 16 0),(7,.ref 7 0),(18,sl AY x),(19,vi (x.map AY).length),(20,vi i)],[(2,.ro (Ic x ifs)),(7,.cells (AY x[i])),(12,.mapU DQ (ID (yR (x.take i)))),(13,.map DQ []),(14,.map DA []),(16,.cells [sl Al roots,.mref 12,.mref 13,.v (.slice none 0 0),.v (.slice none 0 0),.mref 14,vb false,.v (.slice none 0 0),.v (.slice none 0 0),.v (.slice none 0 0)])],Je (yR (x.take i))⟩ (Yi ?_ ?_)
  ·exact⟨Z6,⟨Zr,Zr,⟨rfl,HH _ (Fe _ (hq _))⟩,Zr,Zr,Zr,Tv⟩,GN (hq _) (Fe _ (hq _)),At (by kernel_rfl)⟩
  refine Xi 0 ?_;refine Yi (fun hy=>?_) (fun hy=>?_)
  ·have hy:x[i].yanked=true:=hy;have ey:yR (x.take (i+1))=yR (x.take i):=by
    unfold yR;rw[KM,D0,G0 (by rw[hy];decide)];simp
   refine Xi ⟨[(2,.ref 2 0),(5,.ref 16 0),(18,sl AY x),(19,vi (x.map AY).length),(20,vi i)],[(2,.ro (Ic x ifs)),(12,.mapU DQ (ID (yR (x.take (i+1))))),(13,.map DQ []),(14,.map DA []),(16,.cells [sl Al roots,.mref 12,.mref 13,.v (.slice none 0 0),.v (.slice none 0 0),.mref 14,vb false,.v (.slice none 0 0),.v (.slice none 0 0),.v (.slice none 0 0)])],Je (yR (x.take (i+1)))⟩ (Yi ?_ ?_)
   ·rw[ey];exact⟨Z5,⟨Zr,⟨rfl,HH _ (Fe _ (hq _))⟩,Zr,Zr,Zr,Tv⟩,GN (hq _) (Fe _ (hq _)),At (by kernel_rfl)⟩
   refine Xi 0 ?_;refine Yi (Ii i (by omega)) ?_;refine Xi ⟨i+1,by omega⟩ ?_;exact⟨Dl x.length i (by omega),Z5,⟨Zr,⟨rfl,HH _ (Fe _ (hq _))⟩,Zr,Zr,Zr,Tv⟩,GN (hq _) (Fe _ (hq _)),At (by kernel_rfl)⟩
  have hy:x[i].yanked=false:=hy;refine Xi 0 ?_;refine Yi (Nz rfl) ?_;refine Xi .pure (Xi _ (Yi (vW x[i].ver) ?_));refine Xi ⟨[(2,.ref 2 0),(5,.ref 16 0),(7,.ref 7 0),(8,vi (plc x[i].ver)),(18,sl AY x),(19,vi (x.map AY).length),(20,vi i)],[(2,.ro (Ic x ifs)),(7,.cells (AY x[i])),(12,.mapU DQ (ID (yR (x.take i)))),(13,.map DQ []),(14,.map DA []),(16,.cells [sl Al roots,.mref 12,.mref 13,.v (.slice none 0 0),.v (.slice none 0 0),.mref 14,vb false,.v (.slice none 0 0),.v (.slice none 0 0),.v (.slice none 0 0)])],Je (yR (x.take i))⟩ (Yi ?_ ?_)
  ·exact⟨Z7,⟨Zr,Zr,⟨rfl,HH _ (Fe _ (hq _))⟩,Zr,Zr,Zr,Tv⟩,GN (hq _) (Fe _ (hq _)),At (by kernel_rfl)⟩
  have ey:yR (x.take (i+1))=yR (x.take i)++[x[i]]:=by
   unfold yR;rw[KM,D0,JV (by rw[hy];decide)];rfl
  have hyl:(yR (x.take i)).length≤256:=by
   have:=Bp (fun r:Rl=>!r.yanked) (x.take i)
   rw[AG]at this;show(List.filter _ _).length≤256;omega
  have hP:∀l,Je (yR (x.take i)) (l+100)=Gq (yR (x.take i)) l:=Fe _ (hq _);refine BO (Classical.em (x[i].path∈AP (yR (x.take i)) [])) (fun hp=>?_) (fun hp=>?_)
  ·refine Bb (Cj.1 hp) (fun k hk=>?_);have hu:=cO hk;have hl:(GE (yR (x.take i)) x[i].path).length≤256:=by
    rw[Lm];exact Bw (Bp _ _) hyl
   have r9:k<256:=by
    have:=(Aw.1 hk).1
    have:=Hr (yR (x.take i)) []
    simp only[Ah]at this;omega
   have hr:Je (yR (x.take i)) (k+100)=.tok 10 (GE (yR (x.take i)) x[i].path).length:=by rw[hP,bR hk]
   refine Xi 0 ?_;refine Or.inl (Xi (.slice (.id (k+100) 10) (GE (yR (x.take i)) x[i].path)) (Yi hu ?_));refine Yi (Nz rfl) ?_;refine QR (e:=115) (m:=9) (es2:=[QT x[i]]) rfl rfl rfl (fun _ h=>h) hr ⟨rfl,trivial⟩ (by show(_+1)*128≤_;omega) (by show _+1≤_;omega) ?_;refine Yi (Jb ⟨A3 _,A3 _,A3 _,A3 _,A3 _,A3 _,A3 _,A3 _,A3 _,A3 _,A3 _,A3 _,A3 _,A3 _,A3 _,A3 _,Ei (show 49<10000000 by decide),Ei (by show _+100<10000000;omega),Ei (show 12<10000000 by decide),trivial⟩ (by kernel_rfl)) ?_;have e9:Fg (ID (yR (x.take i))) (.string x[i].path) (.slice (.id (k+100) 10) (GE (yR (x.take i)) x[i].path++[QT x[i]]))=ID (yR (x.take (i+1))):=by rw[ey];exact gu hk
   have hG:∀l,(bif Nat.beq (l+100) (k+100)then HO.tok 10 ((GE (yR (x.take i)) x[i].path).length+1)else Gq (yR (x.take i)) l)=Gq (yR (x.take (i+1))) l:=by rw[ey];exact jJ hk
   refine Xi ⟨[(2,.ref 2 0),(5,.ref 16 0),(18,sl AY x),(19,vi (x.map AY).length),(20,vi i)],[(2,.ro (Ic x ifs)),(12,.mapU DQ (ID (yR (x.take (i+1))))),(13,.map DQ []),(14,.map DA []),(16,.cells [sl Al roots,.mref 12,.mref 13,.v (.slice none 0 0),.v (.slice none 0 0),.mref 14,vb false,.v (.slice none 0 0),.v (.slice none 0 0),.v (.slice none 0 0)])],Je (yR (x.take (i+1)))⟩ (Yi ?_ ?_)
   ·refine⟨Z5,⟨Zr,⟨Ac (HO.mapU DQ) e9,HH _ (Fe _ (hq _))⟩,Zr,Zr,Zr,Tv⟩,GN (hq _) (fun l=>?_),Wo (fun n=>?_)⟩
    ·show(bif Nat.beq (l+100) (k+100)then HO.tok 10 ((GE (yR (x.take i)) x[i].path).length+1)else Je (yR (x.take i)) (l+100))=_;rw[hP];exact hG l
    ·exact aT (y:=yR (x.take i)) (show k+100<1000 by omega)
   refine Xi 0 ?_;refine Yi (Ii i (by omega)) ?_;refine Xi ⟨i+1,by omega⟩ ?_;exact⟨Dl x.length i (by omega),Z5,⟨Zr,⟨rfl,HH _ (Fe _ (hq _))⟩,Zr,Zr,Zr,Tv⟩,GN (hq _) (Fe _ (hq _)),At (by kernel_rfl)⟩
  ·have Tl:(AP (yR (x.take i)) []).length≤256:=by
    have:=Hr (yR (x.take i)) []
    simp only[Ah]at this;omega
   have hn:=Vg hp;have hr:Je (yR (x.take i)) ((AP (yR (x.take i)) []).length+100)=.free:=by
    rw[hP];unfold Gq;rw[A6 (Ao _)]
   refine Xi ((AP (yR (x.take i)) []).length+100) ?_;refine Or.inr (Yi hn ?_);refine Yi (Nz rfl) ?_;refine QQ (e:=115) (m:=9) (es2:=[QT x[i]]) rfl rfl rfl (fun _ h=>h) hr rfl ⟨rfl,trivial⟩ (by show 1*128≤_;omega) (by show 1≤_;omega) ?_;refine Yi (Jb ⟨A3 _,A3 _,A3 _,A3 _,A3 _,A3 _,A3 _,A3 _,A3 _,A3 _,A3 _,A3 _,A3 _,A3 _,A3 _,A3 _,Ei (show 49<10000000 by decide),Ei (by show _+100<10000000;omega),Ei (show 12<10000000 by decide),trivial⟩ (by kernel_rfl)) ?_;have e9:Fg (ID (yR (x.take i))) (.string x[i].path) (.slice (.id ((AP (yR (x.take i)) []).length+100) 10) [QT x[i]])=ID (yR (x.take (i+1))):=by rw[ey];exact gt hp
   have hG:∀l,(bif Nat.beq (l+100) ((AP (yR (x.take i)) []).length+100)then HO.tok 10 1 else Gq (yR (x.take i)) l)=Gq (yR (x.take (i+1))) l:=by rw[ey];exact jI hp
   refine Xi ⟨[(2,.ref 2 0),(5,.ref 16 0),(18,sl AY x),(19,vi (x.map AY).length),(20,vi i)],[(2,.ro (Ic x ifs)),(12,.mapU DQ (ID (yR (x.take (i+1))))),(13,.map DQ []),(14,.map DA []),(16,.cells [sl Al roots,.mref 12,.mref 13,.v (.slice none 0 0),.v (.slice none 0 0),.mref 14,vb false,.v (.slice none 0 0),.v (.slice none 0 0),.v (.slice none 0 0)])],Je (yR (x.take (i+1)))⟩ (Yi ?_ ?_)
   ·refine⟨Z5,⟨Zr,⟨Ac (HO.mapU DQ) e9,HH _ (Fe _ (hq _))⟩,Zr,Zr,Zr,Tv⟩,GN (hq _) (fun l=>?_),Wo (fun n=>?_)⟩
    ·show(bif Nat.beq (l+100) ((AP (yR (x.take i)) []).length+100)then HO.tok 10 1 else Je (yR (x.take i)) (l+100))=_;rw[hP];exact hG l
    ·exact aT (y:=yR (x.take i)) (show(AP (yR (x.take i)) []).length+100<1000 by omega)
   refine Xi 0 ?_;refine Yi (Ii i (by omega)) ?_;refine Xi ⟨i+1,by omega⟩ ?_;exact⟨Dl x.length i (by omega),Z5,⟨Zr,⟨rfl,HH _ (Fe _ (hq _))⟩,Zr,Zr,Zr,Tv⟩,GN (hq _) (Fe _ (hq _)),At (by kernel_rfl)⟩
 ·intro h;have h:¬(i:Int)<(x.map AY).length:=h;have h:¬i<x.length:=by simpa using h
  have et:x.take i=x:=AC (by omega);have eM:∀hh:Nat→HO,RH hh (ID (yR (x.take i)))=(AP (yR x) []).map (kC x):=fun hh=>by
   rw[et];unfold RH ID;rw[BY];refine Dr fun j=>?_;rw[AJ,AJ,List.getElem?_zipIdx];cases (AP (yR x) [])[j]? with
   |none=>rfl
   |some q=>show some (Value.string q,AV.slice .none (GE (yR x) q))=_;rw[ai];rfl
  refine Xi ⟨[(2,.ref 2 0),(5,.ref 16 0)],[(2,.ro (Ic x ifs)),(12,.mapU DQ (ID (yR (x.take i)))),(13,.map DQ []),(14,.map DA []),(16,.cells [sl Al roots,.mref 12,.mref 13,.v (.slice none 0 0),.v (.slice none 0 0),.mref 14,vb false,.v (.slice none 0 0),.v (.slice none 0 0),.v (.slice none 0 0)])],Je (yR (x.take i))⟩ (Yi ?_ ?_)
  ·exact⟨Z2,⟨Zr,⟨rfl,HH _ (Fe _ (hq _))⟩,Zr,Zr,Zr,Tv⟩,GN (hq _) (Fe _ (hq _)),At (by kernel_rfl)⟩
  refine Xi 0 ?_;refine Xi {p:List ByteArray×List ByteArray×Option (Value×AV) // (p.1++p.2.1).Perm (AP (yR x) [])} (Xi (fun p=>⟨[(2,.ref 2 0),(5,.ref 16 0),(56,.ref 56 0)],[(2,.ro (Ic x ifs)),(12,.rom DQ ((AP (yR x) []).map (kC x))),(13,.map DQ (p.1.1.map (kA x))),(14,.map DA []),(16,.cells [sl Al roots,.mref 12,.mref 13,.slice (.id 90 6) [],.slice (.id 91 1) [],.mref 14,vb false,.slice (.id 93 10) [],.slice (.id 94 4) [],.v (.slice none 0 0)]),(56,.iter ((AP (yR x) []).map (kC x)) (p.1.2.1.map (kC x)) p.1.2.2),(90,.tok 6 0),(91,.tok 1 0),(93,.tok 10 0),(94,.tok 4 0)],Aa⟩) (Xi (fun p=>p.1.2.1.length) (Yi (Xi ⟨([],AP (yR x) [],none),.refl _⟩ ?_) ?_)))
  ·refine⟨Z3,⟨Zr,⟨Ac (HO.rom DQ) (eM _),rfl⟩,Zr,Zr,Zr,⟨?_,rfl⟩,Zr,Zr,Zr,Zr,Tv⟩,Fh,Wo (fun n=>?_)⟩
   ·show HO.iter (RH _ (ID (yR (x.take i)))) (RH _ (ID (yR (x.take i)))) none=_;rw[eM]
   ·exact bo (yR (x.take i)) n
  intro⟨⟨done,rem,F9⟩,r1⟩;have r1:(done++rem).Perm (AP (yR x) []):=r1;refine Xi 0 ?_;refine Yi ?_ ?_
  ·intro hr;have hr:rem.map (kC x)=[]:=hr;have hr:rem=[]:=EW.1 hr;subst hr;rw[CV]at r1;refine Xi ⟨[(5,.ref 16 0)],[(14,.map DA []),(16,.cells [sl Al roots,.cmap DQ (mC x),.cmap DQ (done.map (kA x)),.slice (.id 90 6) [],.slice (.id 91 1) [],.mref 14,vb false,.slice (.id 93 10) [],.slice (.id 94 4) [],.msl 92 0]),(90,.tok 6 0),(91,.tok 1 0),(92,.arr 1 []),(93,.tok 10 0),(94,.tok 4 0)],Aa⟩ (Yi ⟨Z1,Z7,Fh,At (by kernel_rfl)⟩ ?_)
   refine Xi 0 ?_;exact Xi _ (Yi (.refl _) (Xi done (Yi r1 (Yi rfl rfl))))
  ·intro kv Oa hp;refine Bb (lS hp) (fun t hp=>Bb hp (fun r hp=>?_));have e1:=hp.1;have e2:=hp.2.1;subst e1;subst e2;have hp:=hp.2.2;refine Xi ⟨[(2,.ref 2 0),(5,.ref 16 0),(56,.ref 56 0)],[(2,.ro (Ic x ifs)),(12,.rom DQ ((AP (yR x) []).map (kC x))),(13,.map DQ (done.map (kA x))),(14,.map DA []),(16,.cells [sl Al roots,.mref 12,.mref 13,.slice (.id 90 6) [],.slice (.id 91 1) [],.mref 14,vb false,.slice (.id 93 10) [],.slice (.id 94 4) [],.v (.slice none 0 0)]),(56,.iter ((AP (yR x) []).map (kC x)) (r.map (kC x)) (some (kC x t))),(90,.tok 6 0),(91,.tok 1 0),(93,.tok 10 0),(94,.tok 4 0)],Aa⟩ (Yi ⟨Z3,Z10,Fh,At (by kernel_rfl)⟩ ?_)
   refine Xi 0 ?_;refine Xi ⟨[(2,.ref 2 0),(5,.ref 16 0),(10,vs t),(56,.ref 56 0)],[(2,.ro (Ic x ifs)),(12,.rom DQ ((AP (yR x) []).map (kC x))),(13,.map DQ (done.map (kA x))),(14,.map DA []),(16,.cells [sl Al roots,.mref 12,.mref 13,.slice (.id 90 6) [],.slice (.id 91 1) [],.mref 14,vb false,.slice (.id 93 10) [],.slice (.id 94 4) [],.v (.slice none 0 0)]),(56,.iter ((AP (yR x) []).map (kC x)) (r.map (kC x)) (some (kC x t))),(90,.tok 6 0),(91,.tok 1 0),(93,.tok 10 0),(94,.tok 4 0)],Aa⟩ (Yi ⟨Z4,Z10,Fh,At (by kernel_rfl)⟩ ?_)
   refine Xi 0 ?_;have MP:(done++rem).Nodup:=r1.nodup_iff.2 (E2 _ [] Ft);have htn:t∉done:=fun hc=>(Gz.1 MP).2.2 t hc t (hp.mem_iff.2 (Ab ..)) rfl;have em:Fg (done.map (kA x)) (.string t) (sl Ae (Cf x t))=(done++[t]).map (kA x):=by
    rw[Mx (fun a ha=>htn (WJ.1 ha).1),Az];rfl
   have Uj:((done++[t])++r).Perm (AP (yR x) []):=by
    rw[BH];exact(List.Perm.append_left _ hp.symm).trans r1
   refine Yi (Nz rfl) ?_;refine Xi _ (Yi (vr x ifs t (c84 x ifs hx)) ?_);refine Yi (by kernel_rfl) ?_;refine Xi ⟨(done++[t],r,some (kC x t)),Uj⟩ ?_;exact⟨by show r.length<rem.length;rw[hp.length_eq,Aj];omega,Z3,⟨Zr,Zr,⟨Ac (HO.map DQ) em,rfl⟩,Zr,Zr,Zr,Zr,Zr,Zr,Zr,Tv⟩,Fh,At (by kernel_rfl)⟩
end Go.Eng

namespace Go.Eng
open Go.Proofs
theorem oa(c:UInt8):PC 274 [vc c] (vb (EJ c)):=by
 refine Ps EP Tryz.func274 rfl (Nz rfl) ?_;have e1:decide ((97:UInt8)≤c)=decide ((97:Int)≤(c.toNat:Int)):=VW c 97 (by decide);have e2:decide (c≤(122:UInt8))=decide ((c.toNat:Int)≤(122:Int)):=VV c 122 (by decide);have es:EJ c=(decide ((97:Int)≤(c.toNat:Int))&&decide ((c.toNat:Int)≤(122:Int))):=by unfold EJ;rw[e1,e2]
 refine Yi ?_ ?_
 ·intro h;have h:(97:Int)≤(c.toNat:Int):=h;refine Yi ?_ ?_
  ·intro h2;have h2:(c.toNat:Int)≤122:=h2;exact .of_eq (Ac vb (show true=EJ c by rw[es,Av h,Av h2];rfl))
  ·intro h2;have h2:¬(c.toNat:Int)≤122:=h2;exact .of_eq (Ac vb (show false=EJ c by rw[es,Au h2,Ct]))
 ·intro h;have h:¬(97:Int)≤(c.toNat:Int):=h;exact .of_eq (Ac vb (show false=EJ c by rw[es,Au h];rfl))
theorem kz(c:UInt8):PC 275 [vc c] (vb (CE c)):=by
 refine Ps EP Tryz.func275 rfl (Nz rfl) ?_;have e1:decide ((48:UInt8)≤c)=decide ((48:Int)≤(c.toNat:Int)):=VW c 48 (by decide);have e2:decide (c≤(57:UInt8))=decide ((c.toNat:Int)≤(57:Int)):=VV c 57 (by decide);have es:CE c=(decide ((48:Int)≤(c.toNat:Int))&&decide ((c.toNat:Int)≤(57:Int))):=by unfold CE;rw[e1,e2]
 refine Yi ?_ ?_
 ·intro h;have h:(48:Int)≤(c.toNat:Int):=h;refine Yi ?_ ?_
  ·intro h2;have h2:(c.toNat:Int)≤57:=h2;exact .of_eq (Ac vb (show true=CE c by rw[es,Av h,Av h2];rfl))
  ·intro h2;have h2:¬(c.toNat:Int)≤57:=h2;exact .of_eq (Ac vb (show false=CE c by rw[es,Au h2,Ct]))
 ·intro h;have h:¬(48:Int)≤(c.toNat:Int):=h;exact .of_eq (Ac vb (show false=CE c by rw[es,Au h];rfl))
theorem vU(c:UInt8):PC 324 [vc c] (vb (Mb c)):=by
 refine Ps EP Tryz.func324 rfl (Nz rfl) ?_;have e1:decide ((65:UInt8)≤c)=decide ((65:Int)≤(c.toNat:Int)):=VW c 65 (by decide);have e2:decide (c≤(90:UInt8))=decide ((c.toNat:Int)≤(90:Int)):=VV c 90 (by decide);have es:Mb c=(decide ((65:Int)≤(c.toNat:Int))&&decide ((c.toNat:Int)≤(90:Int))):=by unfold Mb;rw[e1,e2]
 refine Yi ?_ ?_
 ·intro h;have h:(65:Int)≤(c.toNat:Int):=h;refine Yi ?_ ?_
  ·intro h2;have h2:(c.toNat:Int)≤90:=h2;exact .of_eq (Ac vb (show true=Mb c by rw[es,Av h,Av h2];rfl))
  ·intro h2;have h2:¬(c.toNat:Int)≤90:=h2;exact .of_eq (Ac vb (show false=Mb c by rw[es,Au h2,Ct]))
 ·intro h;have h:¬(65:Int)≤(c.toNat:Int):=h;exact .of_eq (Ac vb (show false=Mb c by rw[es,Au h];rfl))
theorem vT(c:UInt8):PC 314 [vc c] (vb (FY c)):=by
 have h1:=oa c;have h2:=vU c;have h3:=kz c;have ew:FY c=(EJ c||Mb c||CE c||decide (c=95)):=rfl;rcases Bt (EJ c)with e | e
 ·rw[e]at h1;refine Ps EP Tryz.func314 rfl (Nz rfl) ?_;refine Xi .pure (Xi _ (Yi (h1) ?_));exact .of_eq (Ac vb (show true=FY c by rw[ew,e];rfl))
 rw[e]at h1;rcases Bt (Mb c)with e2 | e2
 ·rw[e2]at h2;refine Ps EP Tryz.func314 rfl (Nz rfl) ?_;refine Xi .pure (Xi _ (Yi (h1) ?_));refine Xi .pure (Xi _ (Yi (h2) ?_));exact .of_eq (Ac vb (show true=FY c by rw[ew,e,e2];rfl))
 rw[e2]at h2;rcases Bt (CE c)with e3 | e3
 ·rw[e3]at h3;refine Ps EP Tryz.func314 rfl (Nz rfl) ?_;refine Xi .pure (Xi _ (Yi (h1) ?_));refine Xi .pure (Xi _ (Yi (h2) ?_));refine Xi .pure (Xi _ (Yi (h3) ?_));exact .of_eq (Ac vb (show true=FY c by rw[ew,e,e2,e3];rfl))
 rw[e3]at h3;refine Ps EP Tryz.func314 rfl (Nz rfl) ?_;refine Xi .pure (Xi _ (Yi (h1) ?_));refine Xi .pure (Xi _ (Yi (h2) ?_));refine Xi .pure (Xi _ (Yi (h3) ?_));have eb:decide (c=95)=decide ((c.toNat:Int)=95):=by
  rw[B3,AD,AD];constructor
  ·intro h;subst h;rfl
  ·intro h;exact Gw.1 (by show c.toNat=95;omega)
 refine Yi ?_ ?_
 ·intro h;have h:(c.toNat:Int)=95:=h;exact .of_eq (Ac vb (show true=FY c by rw[ew,e,e2,e3,eb,Av h];rfl))
 ·intro h;have h:¬(c.toNat:Int)=95:=h;exact .of_eq (Ac vb (show false=FY c by rw[ew,e,e2,e3,eb,Au h];rfl))
theorem vQ(s:ByteArray)(hs:s.data.toList.length<4611686018427387904):PC 294 [vs s] (vb (s.data.toList.all FY)):=by
 have En:s.size=s.data.toList.length:=by simp
 refine Ps EP Tryz.func294 rfl (Nz rfl) ?_;refine Xi {i:Nat // i≤s.data.toList.length∧∀j (hj:j<s.data.toList.length),j<i→FY s.data.toList[j]=true} (Xi (fun i=>⟨[(0,vs s),(3,vi i.1)],[],Aa⟩) (Xi (fun i=>s.data.toList.length-i.1) (Yi (Xi ⟨0,AL _,fun j _ h=>by omega⟩ ?_) ?_)))
 ·exact⟨Z2,Tv,Fh,Tv⟩
 intro⟨i,h1,h2⟩;refine Yi ?_ ?_
 ·intro h;have h:(i:Int)<(s.size:Nat):=h;have h:i<s.data.toList.length:=by omega
  refine Xi s.data.toList[i] (Yi ⟨by show(0:Int)≤i;omega,by show s.data[((i:Nat):Int).toNat]?=_;rw[AX];exact MJ s i h⟩ ?_);have hc:=vT s.data.toList[i];refine BO (Bt (FY s.data.toList[i])) (fun e=>?_) (fun e=>?_)
  ·rw[e]at hc;refine Xi .pure (Xi _ (Yi (hc) ?_));refine Yi (Ii i (by omega)) ?_;refine Xi ⟨i+1,by omega,fun j hj IL=>?_⟩ ?_
   ·rcases BZ j i with z | z
    ·exact h2 j hj z
    ·have:j=i:=by omega
     subst this;exact e
   ·exact⟨Dl s.data.toList.length i (by omega),Z2,Tv,Fh,Tv⟩
  ·rw[e]at hc;refine Xi .pure (Xi _ (Yi (hc) ?_));have er:s.data.toList.all FY=false:=by
    rw[AI];intro ha
    have:=AW.1 ha _ (Am h)
    rw[e]at this;cases this
   exact .of_eq (Ac vb er.symm)
 ·intro h;have h:¬(i:Int)<(s.size:Nat):=h;have er:s.data.toList.all FY=true:=AW.2 fun c hc=>by
   obtain⟨j,hj,rfl⟩:=B1 hc;exact h2 j hj (by omega)
  exact .of_eq (Ac vb er.symm)
end Go.Eng

namespace Go.Eng
open Go.Proofs
abbrev um:List ByteArray:=pf.map bs
theorem vS:PC 296 [] (sl PP um):=by
 refine Ps EP Tryz.func296 rfl (Nz rfl) ?_;exact .refl _
theorem vR(l:List ByteArray)(s:ByteArray)(hl:CL l):PC 295 [sl PP l,vs s] (vb (l.any fun q=>decide (q=s))):=by
 unfold CL at hl;refine Ps EP Tryz.func295 rfl (Nz rfl) ?_;refine Xi {i:Nat // i≤l.length∧∀j (hj:j<l.length),j<i→l[j]≠s} (Xi (fun i=>⟨[(0,sl PP l),(1,vs s),(5,vi i.1)],[],Aa⟩) (Xi (fun i=>l.length-i.1) (Yi (Xi ⟨0,AL _,fun j _ h=>by omega⟩ ?_) ?_)))
 ·exact⟨Z3,Tv,Fh,Tv⟩
 intro⟨i,h1,h2⟩;refine Yi ?_ ?_
 ·intro h;have h:(i:Int)<(l.map PP).length:=h;have h:i<l.length:=by simpa using h
  have hg:l[i]?=some l[i]:=Ge h;refine Xi (PP l[i]) (Yi (Yi (Nn i) (by simp[hg])) (Yi rfl ?_));refine Yi ?_ ?_
  ·intro he;have he:l[i]=s:=he;exact .of_eq (Ac vb (show true=_ from(A5.2 ⟨l[i],Am h,by simpa using he⟩).symm))
  ·intro he;have he:¬l[i]=s:=he;refine Yi (Ii i (by omega)) ?_;refine Xi ⟨i+1,by omega,fun j hj IL=>?_⟩ ?_
   ·rcases BZ j i with z | z
    ·exact h2 j hj z
    ·have:j=i:=by omega
     subst this;exact he
   ·exact⟨Dl l.length i (by omega),Z3,Tv,Fh,Tv⟩
 ·intro h;have h:¬(i:Int)<(l.map PP).length:=h;have h:¬i<l.length:=by simpa using h
  have er:(l.any fun q=>decide (q=s))=false:=by
   rw[CM];intro q hq;obtain⟨j,hj,rfl⟩:=B1 hq;simpa using h2 j hj (by omega)
  exact .of_eq (Ac vb er.symm)
theorem qM{w:List UInt8}{s:ByteArray}:bs w=s↔w=s.data.toList:=by
 constructor
 ·intro h;rw[←h];rfl
 ·intro h;rw[h];rfl
theorem ph(s:ByteArray):(um.any fun q=>decide (q=s))=pf.any (fun w=>decide (w=s.data.toList)):=by
 unfold um;rw[List.any_map]
 congr 1
 funext w
 simp only[Function.comp];rw[IQ];exact qM
theorem vM(s:ByteArray)(hs:s.data.toList.length<4611686018427387904):PC 276 [vs s] (vb (Gp s.data.toList)):=by
 have En:s.size=s.data.toList.length:=by simp
 obtain⟨N,hN⟩:∃N,N=Gp s.data.toList:=⟨_,rfl⟩;rw[←hN];unfold Gp at hN;have kV:=vQ s hs;have gy:=vR um s (by decide);rw[ph]at gy;refine Ps EP Tryz.func276 rfl (Nz rfl) ?_;refine Yi (fun h=>?_) (fun h=>?_)
 rotate_left
 ·have h:¬(1:Int)≤(s.size:Nat):=h;have e:s.data.toList=[]:=AK (by omega);exact .of_eq (Ac vb (show false=N by rw[hN,e];rfl))
 have h:(1:Int)≤(s.size:Nat):=h;have he:s.data.toList.isEmpty=false:=by
  cases e:s.data.toList with
  |nil=>rw[e,Ah]at En;omega
  |cons _ _=>rfl
 refine Yi (fun h2=>?_) (fun h2=>?_)
 rotate_left
 ·have h2:¬((s.size:Nat):Int)≤32:=h2;exact .of_eq (Ac vb (show false=N by rw[hN,he,Au (by omega)];rfl))
 have h2:((s.size:Nat):Int)≤32:=h2;refine Bb (show ∃c l,s.data.toList=c::l by cases e:s.data.toList with | nil=>rw[e]at he;cases he | cons c l=>exact⟨c,l,rfl⟩) (fun c hc=>?_);refine Bb hc (fun l hc=>?_);refine Xi c (Yi ⟨by decide,by show s.data[(0:Int).toNat]?=_;rw[←AO,hc];rfl⟩ ?_);have kU:=oa c;have hN:N=(EJ c&&s.data.toList.all FY&&!UK s.data.toList):=by
  rw[hN,he,Av (by omega),hc];rfl
 refine BO (Bt (EJ c)).symm (fun e=>?_) (fun e=>?_)
 ·rw[e]at kU;refine Xi .pure (Xi _ (Yi (kU) ?_));exact .of_eq (Ac vb (show false=N by rw[hN,e];rfl))
 rw[e]at kU;refine Xi .pure (Xi _ (Yi (kU) ?_));refine BO (Bt (s.data.toList.all FY)).symm (fun e2=>?_) (fun e2=>?_)
 ·rw[e2]at kV;refine Xi .pure (Xi _ (Yi (kV) ?_));exact .of_eq (Ac vb (show false=N by rw[hN,e,e2];rfl))
 rw[e2]at kV;refine Xi .pure (Xi _ (Yi (kV) ?_));refine Xi .pure (Xi _ (Yi (vS) ?_));rw[ZU e2]at hN;refine BO (Bt (pf.any (fun w=>decide (w=s.data.toList)))) (fun e3=>?_) (fun e3=>?_)
 ·rw[e3]at gy;refine Xi .pure (Xi _ (Yi (gy) ?_));exact .of_eq (Ac vb (show false=N by rw[hN,e,e2,e3];rfl))
 ·rw[e3]at gy;refine Xi .pure (Xi _ (Yi (gy) ?_));exact .of_eq (Ac vb (show true=N by rw[hN,e,e2,e3];rfl))
end Go.Eng
