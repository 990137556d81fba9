/- Lemmas for the claims of this seat, without a condition: part 32 (S8d, S8e, S11, S12, S13, S14, S16, S18, R24, C74, R25, R26, R27, R28, R29, R30, R31). -/
import Derived.Test.YtmcbkdbfaneofaaGreatDoorBA31
set_option maxHeartbeats 8000000
namespace Go.Eng
open Go.Proofs
theorem yM(x:List Rl)(roots:List Rq)(C A:List (Value×AV))(n:Nat)(s:SS)(dec:List Cd)(st:List (List Sk))(p:ByteArray)(n0:Nd)(l:List Nd)(V:AV)(cs:List Cd)(R O:Km)(hL:uQ x roots C A n dec p n0 l V cs)(hs:JY x roots s)(JH:st.length=dec.length)
  (Sa:Bj Tryz.prog 119 [.ref 1000 0] (Ap (Jq roots C A s dec st) Ab) fun r h'=>r=.tup [vs p,sl Bf (n0::l)]∧h'=Ap (Jq roots C A s dec st) Ab)
  (rY:cs=[]) (wk:∀a,(Value.string p,a)∉C) (hR:Ec (Do x roots n) x p (n0::l) n0 dec st cs s [] []=R) (bm:O=R) :
  Bj Tryz.prog 97 [.ref 1000 0] (Ap (Jq roots C A s dec st) Ab) (Zi roots C A O):=by
 obtain⟨hx,hr,hdl,hcl,hcs,hnl,hnq,hnp,hex,hcx,hcq,hcp_,hcr,hcs_,hkey,hinf0,⟨rL,rM,rN⟩,ih⟩:=hL;have hdl:dec.length≤256:=hdl;have hcl:cs.length≤256:=hcl;have JH:st.length=dec.length:=JH;have rW:∀(i:Nat) (h:i<cs.length),cs[i]∈Cw x p:=fun i h=>by rw[←hcs];exact Ak h
 have qr:∀(i:Nat) (h:i<cs.length),Ci (AO (dec++[cs[i]])):=fun i h=>by unfold Ci AO;rw[Lm,Ad];simp;omega
 clear hcs
 refine Cq (M4 ⟨[9],[(6,1),(7,3),(145,1)],[],[],[],[],[],[],[],[(300001,500091000),(300026,500091000),(300029,500091000)],[1,2,5,10,11,13,14,15,16,17,19,21,22,23,24,25,26,28,29,31,32,33,35]⟩) [(1000,1000),(1001,1001),(1002,1002),(1003,1003),(1004,1004),(500,2000)] rfl CX hm rfl Tryz.func97 (by kernel_rfl) rfl (Nz rfl) (by kernel_rfl) rfl ?_;refine Yi (show st.length=(st.map AX).length by simp) ?_;refine Xi ⟨[(0,.ref 1000 0)],[(500,.arr 1 (st.map AX)),(1000,.cells (srM roots C A s dec 500 st.length)),(1001,.tok 6 s.infs.length),(1002,.tok 1 s.drv.length),(1003,.map D4 (D6 0 s.infs)),(1004,.dead)],Ab⟩ (Yi ⟨Z1,Z6,Fh,Az (by kernel_rfl)⟩ ?_)
 refine Xi (.gen Zh 0) (Yi rfl (Bj.imp Sa ?_));intro v1 g1 q1;have jA:=q1.1;have jB:=q1.2;subst jA;subst jB;refine Xi ⟨[(0,.ref 1000 0),(4,vs p),(5,sl Bf (n0::l))],[(500,.arr 1 (st.map AX)),(1000,.cells (srM roots C A s dec 500 st.length)),(1001,.tok 6 s.infs.length),(1002,.tok 1 s.drv.length),(1003,.map D4 (D6 0 s.infs)),(1004,.dead)],Ab⟩ (Yi ⟨Z3,Z6,Fh,Az (by kernel_rfl)⟩ ?_)
 refine Yi (fun h2=>?_) (fun h2=>?_)
 ·have h2:(((n0::l).map Bf).length:Int)=(0:Int):=h2;exact absurd h2 (by simp;omega)
 have h2:¬((((n0::l).map Bf).length:Int)=(0:Int)):=h2;refine Xi ⟨[(0,.ref 1000 0),(4,vs p),(5,sl Bf (n0::l)),(6,.slice (.id 6 1) [])],[(6,.tok 1 0),(500,.arr 1 (st.map AX)),(1000,.cells (srM roots C A s dec 500 st.length)),(1001,.tok 6 s.infs.length),(1002,.tok 1 s.drv.length),(1003,.map D4 (D6 0 s.infs)),(1004,.dead)],Ab⟩ (Yi ⟨Z4,Z7,Fh,Az (by kernel_rfl)⟩ ?_)
 refine Yi (fun a ha=>?_) (fun Od=>?_)
 ·exact absurd ha (wk a)
 refine Xi {q:Nat×SS×List Nat×List Sk // q.1≤cs.length∧Ec (Do x roots n) x p (n0::l) n0 dec st (cs.drop q.1) q.2.1 q.2.2.1 q.2.2.2=R∧JY x roots q.2.1∧(∀r∈q.2.2.1,r<q.2.1.drv.length)∧q.2.2.1.length≤q.1∧q.2.2.2.length≤q.1} (Xi (fun q=>⟨[(0,.ref 1000 0),(4,vs p),(5,sl Bf (n0::l)),(6,.slice (.id 6 1) (q.1.2.2.1.map BT)),(7,.slice (.id 7 3) (q.1.2.2.2.map B2)),(32,.v (.slice none 0 0)),(33,vi 0),(34,vi q.1.1)],[(6,.tok 1 q.1.2.2.1.length),(7,.tok 3 q.1.2.2.2.length),(500,.arr 1 (st.map AX)),(1000,.cells (srM roots C A q.1.2.1 dec 500 st.length)),(1001,.tok 6 q.1.2.1.infs.length),(1002,.tok 1 q.1.2.1.drv.length),(1003,.map D4 (D6 0 q.1.2.1.infs)),(1004,.dead)],Ab⟩) (Xi (fun q=>cs.length-q.1.1) (Yi (Xi ⟨(0,s,[],[]),AF _,hR,hs,fun r h=>(by cases h),Am _,Am _⟩ ?_) ?_)))
 ·exact⟨Z8,Z8,Fh,Az (by kernel_rfl)⟩
 intro⟨⟨i,S,rs,sk⟩,j1,j2,j3,j4,j5,j6⟩;have j1:i≤cs.length:=j1;have j2:Ec (Do x roots n) x p (n0::l) n0 dec st (cs.drop i) S rs sk=R:=j2;have j3:JY x roots S:=j3;have j4:∀r∈rs,r<S.drv.length:=j4;have j5:rs.length≤i:=j5;have j6:sk.length≤i:=j6;have hw:=j3.dl;have gQ:∀t∈S.drv,fw t:=fun t ht=>by have q:=j3.der.few hx hr t ht;exact⟨Fp q,q.2⟩
 refine Yi (fun h3=>?_) (fun h3=>?_)
 ·have h3:(i:Int)<(0:Int):=h3;exact absurd h3 (by have q:=j1;rw[rY,AE]at q;omega)
 have h3:¬((i:Int)<(0:Int)):=h3;refine Xi (Bf n0) (Yi (Yi (show(0:Int)≤0 by decide) rfl) (Yi rfl ?_));refine Yi (Nz rfl) ?_;refine Xi (.gen Zh 0) (Yi rfl (Bj.imp (s91 x roots C A S dec st p n0 rs V hx hr j3 hinf0 j4 (by omega) (hnq n0 (Ac ..)) (hnp n0 (Ac ..)) rL rM rN) ?_));intro v4 g4 q4;have yt:=q4.1;have yu:=q4.2;subst yt;subst yu;have hj:¬i<cs.length:=by rw[rY];simp
 have eR:R=⟨(Ee x p n0 rs S).1,false,(Ee x p n0 rs S).2,dec,st⟩:=by rw[←j2];exact fQ hj
 exact Xi _ (Yi (.refl _) (NZ (bm.trans eR)))
theorem yO(roots:List Rq)(C A:List (Value×AV))(s:SS)(dec:List Cd)(st:List (List Sk))(p:ByteArray)(N:List Nd)(O:Km)(hN:N=[])
  (Sa:Bj Tryz.prog 119 [.ref 1000 0] (Ap (Jq roots C A s dec st) Ab) fun r h'=>r=.tup [vs p,sl Bf N]∧h'=Ap (Jq roots C A s dec st) Ab) (hO:O=⟨0,true,s,dec,st⟩) :
  Bj Tryz.prog 97 [.ref 1000 0] (Ap (Jq roots C A s dec st) Ab) (Zi roots C A O):=by
 refine Cq (M4 ⟨[],[],[],[],[],[],[],[],[],[(300001,500091000)],[1,2,5,10,11,13,14,15,16,17,19,21,22,23,25,28,29,31,32,33,35]⟩) [(1000,1000),(1001,1001),(1002,1002),(1003,1003),(1004,1004),(500,2000)] rfl CX hm rfl Tryz.func97 (by kernel_rfl) rfl (Nz rfl) (by kernel_rfl) rfl ?_;refine Yi (show st.length=(st.map AX).length by simp) ?_;refine Xi ⟨[(0,.ref 1000 0)],[(500,.arr 1 (st.map AX)),(1000,.cells (srM roots C A s dec 500 st.length)),(1001,.tok 6 s.infs.length),(1002,.tok 1 s.drv.length),(1003,.map D4 (D6 0 s.infs)),(1004,.dead)],Ab⟩ (Yi ⟨Z1,Z6,Fh,Az (by kernel_rfl)⟩ ?_)
 refine Xi (.gen Zh 0) (Yi rfl (Bj.imp Sa ?_));intro v1 g1 q1;have jA:=q1.1;have jB:=q1.2;subst jA;subst jB;refine Xi ⟨[(0,.ref 1000 0),(4,vs p),(5,sl Bf N)],[(500,.arr 1 (st.map AX)),(1000,.cells (srM roots C A s dec 500 st.length)),(1001,.tok 6 s.infs.length),(1002,.tok 1 s.drv.length),(1003,.map D4 (D6 0 s.infs)),(1004,.dead)],Ab⟩ (Yi ⟨Z3,Z6,Fh,Az (by kernel_rfl)⟩ ?_)
 refine Yi (fun h2=>?_) (fun h2=>?_)
 ·have h2:((N.map Bf).length:Int)=(0:Int):=h2;exact Xi _ (Yi (.refl _) (NZ (st:=st) hO))
 have h2:¬(((N.map Bf).length:Int)=(0:Int)):=h2;exact absurd (by rw[hN];rfl) h2
section
variable {x:List Rl}{roots:List Rq}{p:ByteArray}
theorem IH:∀(l:List Nat) {k:Nat} {s:SS},s.infs.Nodup→(Cp p l k s).2.infs.Nodup
 | [],_,_,h=>h
 |r::l,k,s,h=>by
  unfold Cp;split
  ·exact h
  split
  ·exact IH l h
  split
  ·exact IH l h
  ·exact IH l (Ir h)
theorem Li{needs:List Nd}{n0:Nd}{dec:List Cd}{st:List (List Sk)}{rec:List Cd→SS→List (List Sk)→Km}(db:∀c s st,s.infs.Nodup→(rec (dec++[c]) s st).ss.infs.Nodup) :
  ∀(cs:List Cd) {s:SS} {rs:List Nat} {sk:List Sk},s.infs.Nodup→(Ec rec x p needs n0 dec st cs s rs sk).ss.infs.Nodup
 | [],s,rs,sk,h=>IH _ (Ir (Ir h))
 |c::cs,s,rs,sk,h=>by
  have nQ:∀(s' : SS) (k:Nat),s'.infs.Nodup→(J5 rec x p needs n0 dec st c cs rs sk k s').ss.infs.Nodup:=fun s' k h'=>by
   unfold J5;split
   ·exact h'
   ·exact Li db cs h'
  rw[GB];split
  ·exact h
  cases needs.find? fun n=>!has n.rq.set c.place with
  |some n=>exact Li db cs (Ir h)
  |none =>
   dsimp only;cases Pc s.drv (AO (dec++[c]))with
   |some k=>exact nQ s k h
   |none =>
    dsimp only;cases Ej dec c with
    |some n=>exact nQ _ _ (Ir h)
    |none =>
     dsimp only;have h2:=db c s (st++[sk]) h;split
     ·exact h2
     split
     ·exact h2
     ·exact nQ _ _ h2
theorem PT:∀(n:Nat) {dec:List Cd} {s:SS} {st:List (List Sk)},s.infs.Nodup→(Do x roots n dec s st).ss.infs.Nodup
 |0,_,_,_,h=>h
 |n+1,dec,s,st,h=>by
  unfold Do;cases (GW roots dec).2 with
  |nil=>exact h
  |cons n0 l=>exact Li (fun c s st h=>PT n h) _ h
structure uP(x:List Rl)(roots:List Rq)(C A:List (Value×AV)):Prop where
 hx:A6 x=0
 hr:Bx roots=0
 fx:∀r∈x,Jg r
 fr:∀q∈roots,N0 q
 c1:∀(p:ByteArray) (a:AV),(Value.string p,a)∈C→a=sl AI (Cw x p)
 c2:∀p:ByteArray,(∀a,(Value.string p,a)∉C)→Cw x p=[]
 c3:∀p:ByteArray,Cw x p=[]→∀a,(Value.string p,a)∉C
 av:∀p:ByteArray,∃V,HV x A p V
theorem oL{dec:List Cd}(h:∀c∈dec,c.rel.reqs.length≤16):((dec.map fun c=>c.rel.reqs).flatten).length≤16*dec.length:=by
 induction dec with
 |nil=>simp
 |cons c dec ih =>
  rw[AQ,BI,Ad,Av]
  have:=h c (Ac ..)
  have:=ih fun d hd=>h d (Ah _ hd)
  omega
theorem pN{r:Rl}(h:SM r):0≤plc r.ver∧plc r.ver<1000000:=by rw[h.plc];exact JR h.val
theorem dF(dec:List Cd):(GW roots dec).2.length≤(DE roots dec).length:=by
 rw[T8];cases K2 (H8 roots dec) (AO dec)with
 |none=>simp
 |some q=>exact BE _ _
theorem s45{C A:List (Value×AV)}(hE:uP x roots C A)(oP:H64 roots C A):∀(n:Nat) {dec:List Cd} {s:SS} {st:List (List Sk)},ER x dec→I9 roots dec→JY x roots s→s.full=false→Rz x dec<n→st.length=dec.length →
  Bj Tryz.prog 97 [.ref 1000 0] (Ap (Jq roots C A s dec st) Ab) (Zi roots C A (Do x roots n dec s st))
 |0,_,_,_,_,_,_,_,h,_=>by omega
 |n+1,dec,s,st,hd,de,hs,hf,hn,JH=>by
  have hx:=hE.hx;have hr:=hE.hr;have il:=QB hx;have hdl:=XP hd;have wM:dec.length≤256:=by have:=il.1;omega
  have WU:∀c∈dec,c.rel.reqs.length≤16:=fun c hc=>il.2 _ (hd.cand c hc).1;have Sa:=oP s dec st (by omega) fun c hc=>AT (WU c hc) (by decide);generalize hO:Do x roots (n+1) dec s st=O;obtain⟨N,hN⟩:∃N,N=(GW roots dec).2:=⟨_,rfl⟩;obtain⟨q,hq⟩:∃q,q=(GW roots dec).1:=⟨_,rfl⟩;rw[←hN,←hq]at Sa;have hNl:N.length≤10000:=by
   have h1:=dF (roots:=roots) dec;have h2:(DE roots dec).length=(H8 roots dec).length:=by rw[←Ni,Lm]
   have h3:=oL WU;have h4:=PO hr;rw[←hN]at h1;unfold H8 at h2;rw[Ad]at h2;omega
  cases hNc:N with
  |nil =>
   rw[hNc]at hN Sa;refine yO roots C A s dec st q [] O rfl Sa ?_;rw[←hO];unfold Do;rw[←hN]
  |cons n0 l =>
   rw[hNc]at hN Sa;have mZ:=Ow hN.symm;rw[←hq]at mZ;have Sb:∀nd∈n0::l,nd∈DE roots dec:=fun nd h=>((mZ.mem nd).1 h).1;have GR:=(CO hx).1;have few:∀{E:List Cd},ER x E→∀nd∈DE roots E,Ci nd.rq.set∧Bs (nd.place+1):=fun hE' nd h=>by
    rcases MI h with ⟨k,r,h1,rfl⟩ | ⟨c,hc,k,r,h1,rfl⟩
    ·exact⟨(hE.fr r (Ax h1)).1,by unfold Bs;show -9223372036854775808≤(0:Int)+1∧(0:Int)+1<9223372036854775808;decide⟩
    ·have h2:=hE'.cand c hc;have h3:=pN (GR _ h2.1);rw[←h2.2.2]at h3;exact⟨((hE.fx _ h2.1).2 r (Ax h1)).1,by unfold Bs;show _≤c.place+1∧c.place+1<_;omega⟩
   have nt:∀c∈Cw x q,ER x (dec++[c])∧c.rel.path=q∧c.rel∈x:=fun c hc=>by
    obtain⟨c1,c2⟩:=J6 hc;exact⟨hd.snoc c2 (by rw[c1];exact mZ.undone),c1,c2.1⟩
   have Fw:∀(i:Nat) (h:i<(Cw x q).length),(Cw x q)[i]∈Cw x q:=fun i h=>Ak h;obtain⟨V,hV⟩:=hE.av q
   have hL:uQ x roots C A n dec q n0 l V (Cw x q):={
    hx:=hx
    hr:=hr
    hdl:=wM
    hcl:=AT (Vk x q) il.1
    hcs:=rfl
    hnl:=by rw[hNc]at hNl;omega
    hnq:=fun nd h=>(few hd nd (Sb nd h)).1
    hnp:=fun nd h=>(few hd nd (Sb nd h)).2
    hex:=fun i h nd hm hh=>by
     obtain⟨a,b,_⟩:=nt _ (Fw i h);exact⟨(PE hx hr a (Ot (Sb nd hm)) ⟨(Cw x q)[i],by simp,b.trans ((mZ.mem nd).1 hm).2.symm,hh⟩).1,trivial⟩
    hcx:=fun i h nc hc=>by
     obtain⟨a,b,_⟩:=nt _ (Fw i h);obtain⟨m1,m2⟩:=Ln hc;exact⟨(PE hx hr a (Nj m1) m2).1,trivial⟩
    hcq:=fun i h nc hm=>(few (nt _ (Fw i h)).1 nc (Nj hm)).1
    hcp_:=fun i h nc hm=>(few (nt _ (Fw i h)).1 nc (Nj hm)).2
    hcr:=fun i h=>by have:=il.2 _ (nt _ (Fw i h)).2.2;omega
    hcs_:=fun i h r hm=>((hE.fx _ (nt _ (Fw i h)).2.2).2 r hm).1
    hkey:=fun i h=>by
     have b:=(nt _ (Fw i h)).2.1;unfold AO;rw[AG,AG];show _=_++[[vs (Cw x q)[i].rel.path,vi (Cw x q)[i].rel.ver.a,vi (Cw x q)[i].rel.ver.b,vi (Cw x q)[i].rel.ver.c]];rw[b]
    hinf0:=(Sq hx hr hd (Sb n0 (Ac ..)) (.inl (by
     rw[((mZ.mem n0).1 (Ac ..)).2];exact HU (by rw[F9];exact mZ.undone)))).inf
    hV:=hV
    ih:=fun c hc xc S Ek hl hS zr=>by
     obtain⟨a,b,c3⟩:=nt c hc;obtain⟨k1,k2⟩:=PK.1 xc;obtain⟨_,c2⟩:=J6 hc;have ns:=de.snoc mZ b k1 k2;have na:Rz x (dec++[c])<n:=by have:=Tx (dec:=dec) ⟨c2.1,c2.2.1⟩ (by rw[b];exact mZ.undone);omega
     have h1:=s45 hE oP n a ns hS zr na (st:=Ek) (by rw[hl];simp);have h2:=QX hx hr n a ns hS.der zr na (st:=Ek);exact⟨h1,⟨h2.der,PT n hS.nodup⟩,⟨h2.grow.len,fun e1 e2=>((h2.no e1).2.2 e2).1⟩,fun e1=>(h2.no e1).2.1⟩ }
   have hR:Ec (Do x roots n) x q (n0::l) n0 dec st (Cw x q) s [] []=O:=by
    rw[←hO]
    conv=>rhs;unfold Do
    rw[←hN,hq]
   by_cases hm:∀a,(Value.string q,a)∉C
   ·exact yM x roots C A n s dec st q n0 l V (Cw x q) O O hL hs JH Sa (hE.c2 q hm) hm hR rfl
   ·exact yL x roots C A n s dec st q n0 l V (Cw x q) O O hL hs JH Sa (hE.c1 q) hm hR rfl
end
theorem yN{x:List Rl}{roots:List Rq}{C A:List (Value×AV)}(hE:uP x roots C A)(n:Nat){dec:List Cd}{s:SS}{st:List (List Sk)}(h1:ER x dec)(h2:I9 roots dec)(h3:JY x roots s)(h4:s.full=false)(h5:Rz x dec<n)(h6:st.length=dec.length) :
  Bj Tryz.prog 97 [.ref 1000 0] (Ap (Jq roots C A s dec st) Ab) (Zi roots C A (Do x roots n dec s st)) :=
 s45 hE (fun s dec st a b=>s64 roots C A s dec st (AT (PO hE.hr) (by decide)) a b) n h1 h2 h3 h4 h5 h6
def G1(x:List Rl)(roots:List Rq):Bool:=decide (A6 x=0)&&decide (Bx roots=0)
theorem uJ(x:List Rl)(ifs:List (List AV))(roots:List Rq)(hx:∀r∈x,Jg r)(hr:∀q∈roots,N0 q):PC 95 [.agg (Ic x ifs),sl AM roots] (vb (G1 x roots)):=by
 refine Ps ⟨[2],[],[],[],[],[],[],[],[],[],[]⟩ Tryz.func95 rfl (Nz rfl) ?_;refine Yi (Nz rfl) ?_;refine Xi .pure (Xi _ (Yi (rm Zw x ifs hx) ?_));refine Yi (fun h1=>?_) (fun h1=>?_)
 ·have h1:((A6 x):Int)=(0:Int):=h1;refine Xi .pure (Xi _ (Yi (y6 Zw roots hr) ?_));refine Yi (fun h2=>?_) (fun h2=>?_)
  ·have h2:((Bx roots):Int)=(0:Int):=h2;exact .of_eq (show vb true=vb (G1 x roots) by unfold G1;rw[h1,h2];rfl)
  have h2:¬(((Bx roots):Int)=(0:Int)):=h2;exact .of_eq (show vb false=vb (G1 x roots) by unfold G1;rw[Aj h2,Cz])
 have h1:¬(((A6 x):Int)=(0:Int)):=h1;exact .of_eq (show vb false=vb (G1 x roots) by unfold G1;rw[Aj h1];rfl)
abbrev Rv(r:Rl):List AV:=AI ⟨plc r.ver,r⟩
abbrev GI(y:List Rl)(p:ByteArray):List (List AV):=(y.filter fun r=>decide (r.path=p)).map Rv
abbrev X8(y:List Rl)(q:ByteArray×Nat):Value×AV:=(.string q.1,.slice (.id (q.2+100) 10) (GI y q.1))
abbrev IU(y:List Rl):List (Value×AV):=(AU y []).zipIdx.map (X8 y)
def Gs(y:List Rl)(l:Nat):HO:=match(AU y [])[l]? with
 |some q=>.tok 10 (GI y q).length
 |none=>.free
def Jn(y:List Rl)(j:Nat):HO:=bif Nat.ble 100 j&&Nat.blt j 1000 then Gs y (j-100)else .free
theorem Ff(y:List Rl)(hy:y.length≤256)(l:Nat):Jn y (l+100)=Gs y l:=by
 unfold Jn;rw[show Nat.ble 100 (l+100)=true by rw[Dp];omega,EP,Nat.add_sub_cancel]
 by_cases h:l+100<1000
 ·rw[show Nat.blt (l+100) 1000=true by rw[Co];exact h];rfl
 ·rw[show Nat.blt (l+100) 1000=false by rw[AD];intro hc;rw[Co]at hc;omega]
  have:=HA y []
  rw[AE]at this;unfold Gs;rw[A7 (by omega)];rfl
theorem lw(y:List Rl){j:Nat}(h:j<100):Jn y j=.free:=by
 unfold Jn;rw[show Nat.ble 100 j=false by rw[AD];intro hc;rw[Dp]at hc;omega];rfl
theorem Hz(y:List Rl)(r:Rl)(q:ByteArray):GI (y++[r]) q=if r.path=q then GI y q++[Rv r]else GI y q:=by
 unfold GI;rw[DA]
 by_cases h:r.path=q
 ·rw[Au h,SI (by simpa using h)];simp
 ·rw[Al h,SH (by simpa using h)];simp
section
variable {y:List Rl}{r:Rl}{k:Nat}
open Classical in
theorem gE(h:(AU y [])[k]?=some r.path):E6 (IU y) (.string r.path) (.slice (.id (k+100) 10) (GI y r.path++[Rv r]))=IU (y++[r]):=by
 have hd:=E3 y [] Fs;have hm:X8 y (r.path,k)∈IU y:=Ao.2 ⟨_,FM.2 h,rfl⟩;rw[YI (a':=.slice (.id (k+100) 10) (GI y r.path)) hm];unfold IU;rw[Jx h,BU];refine Bk fun q hq=>?_;have hg:=IK hq;obtain⟨q,j⟩:=q;show(if Value.string q=Value.string r.path then _ else _)=X8 (y++[r]) (q,j);have hg:(AU y [])[j]?=some q:=hg
 by_cases he:q=r.path
 ·subst he
  have:j=k:=Ju hd hg h
  subst this;rw[Au rfl];show _=(Value.string r.path,AV.slice (.id (j+100) 10) (GI (y++[r]) r.path));rw[Hz,Au rfl]
 ·rw[Al (fun e=>he (by simpa using e))];show(Value.string q,AV.slice (.id (j+100) 10) (GI y q))=(Value.string q,AV.slice (.id (j+100) 10) (GI (y++[r]) q));rw[Hz,Al (fun e=>he e.symm)]
theorem YP(h:r.path∉AU y []):GI y r.path=[]:=by
 have:y.filter (fun s=>decide (s.path=r.path))=[]:=by
  rw[HE];intro s hs he;exact h ((HB y [] r.path).2 (.inr ⟨s,hs,BC he⟩))
 unfold GI;rw[this];rfl
theorem Vy(h:r.path∉AU y [])(a:AV):(Value.string r.path,a)∉IU y:=by
 intro hc;obtain⟨q,h1,h2⟩:=Ao.1 hc;simp only[X8,F4,Value.string.injEq]at h2;exact h (by rw[←h2.1];exact Ax (IK h1))
theorem gD(h:r.path∉AU y []):E6 (IU y) (.string r.path) (.slice (.id ((AU y []).length+100) 10) [Rv r])=IU (y++[r]):=by
 rw[MH (fun a=>Vy h a)];unfold IU;rw[Jw h,List.zipIdx_append,AG]
 congr 1
 ·refine Bk fun q hq=>?_;have hg:=IK hq
  have:q.1≠r.path:=fun e=>h (by rw[←e];exact Ax hg)
  show(Value.string q.1,AV.slice (.id (q.2+100) 10) (GI y q.1))=(Value.string q.1,AV.slice (.id (q.2+100) 10) (GI (y++[r]) q.1));rw[Hz,Al (fun e=>this e.symm)]
 ·show [_]=[(Value.string r.path,AV.slice (.id (0+(AU y []).length+100) 10) (GI (y++[r]) r.path))];rw[Hz,Au rfl,YP h,Bo];rfl
theorem cW{p:ByteArray}{j:Nat}(h:(AU y [])[j]?=some p):(Value.string p,AV.slice (.id (j+100) 10) (GI y p))∈IU y∧∀b,(Value.string p,b)∈IU y→b=AV.slice (.id (j+100) 10) (GI y p):=by
 refine⟨Ao.2 ⟨(p,j),FM.2 h,rfl⟩,fun b hb=>?_⟩;obtain⟨q,h1,h2⟩:=Ao.1 hb;simp only[X8,F4,Value.string.injEq]at h2;have hg:=IK h1;rw[h2.1]at hg
 have:=Ju (E3 y [] Fs) hg h
 rw[←h2.2,h2.1,this]
theorem ca{p:ByteArray}{j:Nat}(h:(AU y [])[j]?=some p):Gs y j=.tok 10 (GI y p).length:=by
 unfold Gs;rw[h]
theorem jZ(h:(AU y [])[k]?=some r.path)(l:Nat):(bif Nat.beq (l+100) (k+100)then HO.tok 10 ((GI y r.path).length+1)else Gs y l)=Gs (y++[r]) l:=by
 by_cases he:l=k
 ·subst he;rw[show Nat.beq (l+100) (l+100)=true from Dg _];unfold Gs;rw[Jx h,h];show HO.tok 10 _=HO.tok 10 (GI (y++[r]) r.path).length;rw[Hz,Au rfl,Ad];rfl
 ·rw[show Nat.beq (l+100) (k+100)=false by rw[AD];intro hc;have:=AP hc;omega];show Gs y l=_;unfold Gs;rw[Jx h];cases hq:(AU y [])[l]? with
  |none=>rfl
  |some q =>
   show HO.tok 10 (GI y q).length=HO.tok 10 (GI (y++[r]) q).length;rw[Hz,Al];intro e;subst e;exact he (Ju (E3 y [] Fs) hq h)
theorem jY(h:r.path∉AU y [])(l:Nat):(bif Nat.beq (l+100) ((AU y []).length+100)then HO.tok 10 1 else Gs y l)=Gs (y++[r]) l:=by
 by_cases he:l=(AU y []).length
 ·subst he;rw[show Nat.beq ((AU y []).length+100) ((AU y []).length+100)=true from Dg _];unfold Gs;rw[Jw h];simp only[A1 (Am _),ET,Bb];show HO.tok 10 1=HO.tok 10 (GI (y++[r]) r.path).length;rw[Hz,Au rfl,YP h];rfl
 ·rw[show Nat.beq (l+100) ((AU y []).length+100)=false by rw[AD];intro hc;have:=AP hc;omega];show Gs y l=_;unfold Gs;rw[Jw h]
  by_cases hl:l<(AU y []).length
  ·rw[A3 hl,Ge hl];show HO.tok 10 (GI y (AU y [])[l]).length=HO.tok 10 (GI (y++[r]) (AU y [])[l]).length;rw[Hz,Al];intro e;exact h (by rw[e];exact Ak hl)
  ·rw[A7 (by omega),A7 (by rw[Ad];simp;omega)]
end
theorem HT(y:List Rl){h:Nat→HO}(hh:∀l,h (l+100)=Gs y l):RD h (IU y)=true:=by
 refine Qz fun p hp=>?_;obtain⟨q,h1,rfl⟩:=Ao.1 hp;show Sd h (q.2+100)=true;unfold Sd;rw[hh,ca (IK h1)]
theorem GQ{y:List Rl}(hy:y.length≤256){h h' : Nat→HO}(hh:∀l,h (l+100)=Gs y l)(j:Nat):Jn y j=.free∨(h j=Jn y j∧Yo h' (Jn y j)=true):=by
 by_cases hj:j<100
 ·exact .inl (lw y hj)
 ·obtain⟨l,rfl⟩:∃l,j=l+100:=⟨j-100,by omega⟩
  right
  rw[Ff y hy];refine⟨hh l,?_⟩;unfold Gs;cases (AU y [])[l]?<;>rfl
abbrev yR(x:List Rl):List Rl:=x.filter fun r=>!r.yanked
theorem ar(x:List Rl)(p:ByteArray):GI (yR x) p=(Cw x p).map AI:=by
 unfold GI Cw;rw[List.filter_filter,BU]
 rfl
def mC(x:List Rl):List (Value×AV):=(AU (yR x) []).map fun p=>(.string p,sl AI (Cw x p))
theorem iG{x:List Rl}{p:ByteArray}{a:AV}:(Value.string p,a)∈mC x↔p∈AU (yR x) []∧a=sl AI (Cw x p):=by
 unfold mC;rw[Ao];constructor
 ·rintro⟨q,hq,e⟩
  injection e with e1 e2
  injection e1 with e1
  subst e1;exact⟨hq,e2.symm⟩
 ·rintro⟨h1,h2⟩
  exact⟨p,h1,by rw[h2]⟩
theorem Vl{x:List Rl}{p:ByteArray}:Cw x p=[]↔p∉AU (yR x) []:=by
 rw[HB];unfold Cw;rw[DD,HE];constructor
 ·rintro h (h1 | ⟨r,h1,h2⟩)
  ·cases h1
  ·obtain⟨h3,h4⟩:=Bu.1 h1;exact h r h3 (by rw[At h2,h4];rfl)
 ·intro h r hr hc;rw[Ai,Ay]at hc;exact h (.inr ⟨r,Bu.2 ⟨hr,hc.2⟩,hc.1⟩)
theorem sT(x:List Rl):∀(p:ByteArray) (a:AV),(Value.string p,a)∈mC x→a=sl AI (Cw x p):=fun _ _ h=>(iG.1 h).2
theorem sU(x:List Rl):∀p:ByteArray,(∀a,(Value.string p,a)∉mC x)→Cw x p=[]:=fun _ h=>Vl.2 fun hp=>h _ (iG.2 ⟨hp,rfl⟩)
theorem sV(x:List Rl):∀p:ByteArray,Cw x p=[]→∀a,(Value.string p,a)∉mC x:=fun _ h _ ha=>Vl.1 h (iG.1 ha).1
abbrev plN:Si:=⟨[2],[],[],[(52,[12])],[],[12],[50],[(53,(16,3,90,6)),(54,(16,4,91,1)),(55,(16,7,93,10)),(56,(16,8,94,4))],[],[(850013,13),(800013,10016),(810013,20016),(900013,10000000000+92000000+90016)],[5,7,8,9,11,12,13]⟩
abbrev kC(x:List Rl)(p:ByteArray):Value×AV:=(.string p,sl AI (Cw x p))
abbrev kA(x:List Rl)(p:ByteArray):Value×AV:=(.string p,sl Af (Cg x p))
theorem l5{x:List Rl}{l:List ByteArray}{kv:Value×AV}{Oy : List (Value×AV)}(h:(l.map (kC x)).Perm (kv::Oy)):∃t r,kv=kC x t∧Oy=r.map (kC x)∧l.Perm (t::r):=by
 obtain⟨ps,h1,h2⟩:=ML h l rfl;cases ps with
 |nil=>cases h2
 |cons t r =>
  rw[AQ,FJ]at h2;exact⟨t,r,h2.1.symm,h2.2.symm,h1.symm⟩
abbrev srN(roots:List Rq)(C A:List (Value×AV)):List (Nat×HO) :=
 [(2000,.cells [sl AM roots,.cmap Dn C,.cmap Dn A,.slice (.id 2001 6) [],.slice (.id 2002 1) [],.mref 2003,vb false,.slice .none [],.slice .none [],.msl 2004 0]),(2001,.tok 6 0),(2002,.tok 1 0),(2003,.map D4 []),(2004,.arr 1 [])]
theorem WZ{x:List Rl}{l:List ByteArray}{p:ByteArray}{a:AV}:(Value.string p,a)∈l.map (kA x)↔p∈l∧a=sl Af (Cg x p):=by
 rw[Ao];constructor
 ·rintro⟨q,hq,e⟩
  injection e with e1 e2
  injection e1 with e1
  subst e1;exact⟨hq,e2.symm⟩
 ·rintro⟨h1,h2⟩
  exact⟨p,h1,by rw[h2]⟩
theorem bo(y:List Rl)(n:Nat):Jn y (n+1000)=.free:=by
 unfold Jn;rw[show Nat.blt (n+1000) 1000=false by rw[AD];intro hc;rw[Co]at hc;omega,Cz];rfl
theorem WE{h s:Nat→HO}(H:∀n,h (n+1000)=.free):∀j,1000≤j→j<2000→h j≠.free→s j≠.free:=fun j h1 _ hn=>by
 refine absurd (H (j-1000)) ?_;rw[show j-1000+1000=j by omega];exact hn
theorem kK{n k:Nat}(h:k<1000):Nat.beq (n+1000) k=false:=by
 rw[AD];intro hc;have:=AP hc;omega
theorem aT{y:List Rl}{n k:Nat}{o:HO}(h:k<1000):(bif Nat.beq (n+1000) k then o else Jn y (n+1000))=.free:=by
 rw[kK h,bo];rfl
attribute [local irreducible] IF
set_option maxRecDepth 30000 in
theorem yK(x:List Rl)(ifs:List (List AV))(roots:List Rq)(hx:∀r∈x,Jg r)(h0:A6 x=0):Bj Tryz.prog 96 [M8 x ifs,sl AM roots] (Ap [] Ab) fun r h'=>∃l:List ByteArray,l.Perm (AU (yR x) [])∧r=.ref 2000 0∧h'=Ap (srN roots (mC x) (l.map (kA x))) Ab:=by
 have il:x.length≤256:=(QB h0).1;refine Cq (M4 plN) [(16,2000),(90,2001),(91,2002),(14,2003),(92,2004)] rfl CX hm rfl Tryz.func96 (by kernel_rfl) rfl (Nz rfl) (by kernel_rfl) rfl ?_;refine Xi 0 ?_;refine Xi 0 ?_;refine Xi 0 ?_;refine Xi {i:Nat // i≤x.length} (Xi (fun i=>⟨[(2,.ref 2 0),(5,.ref 16 0),(18,sl Ag x),(19,vi (x.map Ag).length),(20,vi i.1)],[(2,.ro (Ic x ifs)),(12,.mapU Dn (IU (yR (x.take i.1)))),(13,.map Dn []),(14,.map D4 []),(16,.cells [sl AM roots,.mref 12,.mref 13,.v (.slice none 0 0),.v (.slice none 0 0),.mref 14,vb false,.v (.slice none 0 0),.v (.slice none 0 0),.v (.slice none 0 0)])],Jn (yR (x.take i.1))⟩) (Xi (fun i=>x.length-i.1) (Yi (Xi ⟨0,AF _⟩ ?_) ?_)))
 ·refine⟨Z5,Z5,fun j=>.inl ?_,Az (by kernel_rfl)⟩;show Jn [] j=.free;unfold Jn;cases (Nat.ble 100 j&&Nat.blt j 1000)<;>rfl
 intro⟨i,i1⟩;have i1:i≤x.length:=i1;have hq:∀k,(yR (x.take k)).length≤256:=fun k=>by
  have:=BE (fun r:Rl=>!r.yanked) (x.take k)
  rw[AH]at this;show(List.filter _ _).length≤256;omega
 refine Xi 0 ?_;refine Yi ?_ ?_
 ·intro h;have h:(i:Int)<(x.map Ag).length:=h;have h:i<x.length:=by simpa using h
  have hg:x[i]?=some x[i]:=Ge h;have KU:x.take (i+1)=x.take i++[x[i]]:=by rw[BA,hg];rfl
  refine Xi 0 ?_;refine Xi (Ag x[i]) (Yi (Yi (Nn i) (by simp[hg])) (Yi rfl ?_));refine Yi (Nz rfl) (Yi (Nz rfl) ?_);refine Xi ⟨[(2,.ref 2 0),(5,.ref 16 0),(7,.ref 7 0),(18,sl Ag x),(19,vi (x.map Ag).length),(20,vi i)],[(2,.ro (Ic x ifs)),(7,.cells (Ag x[i])),(12,.mapU Dn (IU (yR (x.take i)))),(13,.map Dn []),(14,.map D4 []),(16,.cells [sl AM roots,.mref 12,.mref 13,.v (.slice none 0 0),.v (.slice none 0 0),.mref 14,vb false,.v (.slice none 0 0),.v (.slice none 0 0),.v (.slice none 0 0)])],Jn (yR (x.take i))⟩ (Yi ?_ ?_)
  ·exact⟨Z6,⟨Zr,Zr,⟨rfl,HT _ (Ff _ (hq _))⟩,Zr,Zr,Zr,Tv⟩,GQ (hq _) (Ff _ (hq _)),Az (by kernel_rfl)⟩
  refine Xi 0 ?_;refine Yi (fun hy=>?_) (fun hy=>?_)
  ·have hy:x[i].yanked=true:=hy;have ey:yR (x.take (i+1))=yR (x.take i):=by
    unfold yR;rw[KU,DA,SH (by rw[hy];decide)];simp
   refine Xi ⟨[(2,.ref 2 0),(5,.ref 16 0),(18,sl Ag x),(19,vi (x.map Ag).length),(20,vi i)],[(2,.ro (Ic x ifs)),(12,.mapU Dn (IU (yR (x.take (i+1))))),(13,.map Dn []),(14,.map D4 []),(16,.cells [sl AM roots,.mref 12,.mref 13,.v (.slice none 0 0),.v (.slice none 0 0),.mref 14,vb false,.v (.slice none 0 0),.v (.slice none 0 0),.v (.slice none 0 0)])],Jn (yR (x.take (i+1)))⟩ (Yi ?_ ?_)
   ·rw[ey];exact⟨Z5,⟨Zr,⟨rfl,HT _ (Ff _ (hq _))⟩,Zr,Zr,Zr,Tv⟩,GQ (hq _) (Ff _ (hq _)),Az (by kernel_rfl)⟩
   refine Xi 0 ?_;refine Yi (Ii i (by omega)) ?_;refine Xi ⟨i+1,by omega⟩ ?_;exact⟨Dl x.length i (by omega),Z5,⟨Zr,⟨rfl,HT _ (Ff _ (hq _))⟩,Zr,Zr,Zr,Tv⟩,GQ (hq _) (Ff _ (hq _)),Az (by kernel_rfl)⟩
  have hy:x[i].yanked=false:=hy;refine Xi 0 ?_;refine Yi (Nz rfl) ?_;refine Xi .pure (Xi _ (Yi (tX x[i].ver) ?_));refine Xi ⟨[(2,.ref 2 0),(5,.ref 16 0),(7,.ref 7 0),(8,vi (plc x[i].ver)),(18,sl Ag x),(19,vi (x.map Ag).length),(20,vi i)],[(2,.ro (Ic x ifs)),(7,.cells (Ag x[i])),(12,.mapU Dn (IU (yR (x.take i)))),(13,.map Dn []),(14,.map D4 []),(16,.cells [sl AM roots,.mref 12,.mref 13,.v (.slice none 0 0),.v (.slice none 0 0),.mref 14,vb false,.v (.slice none 0 0),.v (.slice none 0 0),.v (.slice none 0 0)])],Jn (yR (x.take i))⟩ (Yi ?_ ?_)
  ·exact⟨Z7,⟨Zr,Zr,⟨rfl,HT _ (Ff _ (hq _))⟩,Zr,Zr,Zr,Tv⟩,GQ (hq _) (Ff _ (hq _)),Az (by kernel_rfl)⟩
  have ey:yR (x.take (i+1))=yR (x.take i)++[x[i]]:=by
   unfold yR;rw[KU,DA,SI (by rw[hy];decide)];rfl
  have hyl:(yR (x.take i)).length≤256:=by
   have:=BE (fun r:Rl=>!r.yanked) (x.take i)
   rw[AH]at this;show(List.filter _ _).length≤256;omega
  have hP:∀l,Jn (yR (x.take i)) (l+100)=Gs (yR (x.take i)) l:=Ff _ (hq _);refine Bp (Classical.em (x[i].path∈AU (yR (x.take i)) [])) (fun hp=>?_) (fun hp=>?_)
  ·refine BM (Ch.1 hp) (fun k hk=>?_);have hu:=cW hk;have hl:(GI (yR (x.take i)) x[i].path).length≤256:=by
    rw[Lm];exact AT (BE _ _) hyl
   have se:k<256:=by
    have:=(Aw.1 hk).1
    have:=HA (yR (x.take i)) []
    simp only[AE]at this;omega
   have hr:Jn (yR (x.take i)) (k+100)=.tok 10 (GI (yR (x.take i)) x[i].path).length:=by rw[hP,ca hk]
   refine Xi 0 ?_;refine Or.inl (Xi (.slice (.id (k+100) 10) (GI (yR (x.take i)) x[i].path)) (Yi hu ?_));refine Yi (Nz rfl) ?_;refine Rr (e:=162) (m:=9) (es2:=[Rv x[i]]) rfl rfl rfl (fun _ h=>h) hr ⟨rfl,trivial⟩ (by show(_+1)*128≤_;omega) (by show _+1≤_;omega) ?_;refine Yi (Jl ⟨A5 _,A5 _,A5 _,A5 _,A5 _,A5 _,A5 _,A5 _,A5 _,A5 _,A5 _,A5 _,A5 _,A5 _,A5 _,A5 _,Ei (show 49<10000000 by decide),Ei (by show _+100<10000000;omega),Ei (show 12<10000000 by decide),trivial⟩ (by kernel_rfl)) ?_;have e9:E6 (IU (yR (x.take i))) (.string x[i].path) (.slice (.id (k+100) 10) (GI (yR (x.take i)) x[i].path++[Rv x[i]]))=IU (yR (x.take (i+1))):=by rw[ey];exact gE hk
   have hG:∀l,(bif Nat.beq (l+100) (k+100)then HO.tok 10 ((GI (yR (x.take i)) x[i].path).length+1)else Gs (yR (x.take i)) l)=Gs (yR (x.take (i+1))) l:=by rw[ey];exact jZ hk
   refine Xi ⟨[(2,.ref 2 0),(5,.ref 16 0),(18,sl Ag x),(19,vi (x.map Ag).length),(20,vi i)],[(2,.ro (Ic x ifs)),(12,.mapU Dn (IU (yR (x.take (i+1))))),(13,.map Dn []),(14,.map D4 []),(16,.cells [sl AM roots,.mref 12,.mref 13,.v (.slice none 0 0),.v (.slice none 0 0),.mref 14,vb false,.v (.slice none 0 0),.v (.slice none 0 0),.v (.slice none 0 0)])],Jn (yR (x.take (i+1)))⟩ (Yi ?_ ?_)
   ·refine⟨Z5,⟨Zr,⟨Aa (HO.mapU Dn) e9,HT _ (Ff _ (hq _))⟩,Zr,Zr,Zr,Tv⟩,GQ (hq _) (fun l=>?_),WE (fun n=>?_)⟩
    ·show(bif Nat.beq (l+100) (k+100)then HO.tok 10 ((GI (yR (x.take i)) x[i].path).length+1)else Jn (yR (x.take i)) (l+100))=_;rw[hP];exact hG l
    ·exact aT (y:=yR (x.take i)) (show k+100<1000 by omega)
   refine Xi 0 ?_;refine Yi (Ii i (by omega)) ?_;refine Xi ⟨i+1,by omega⟩ ?_;exact⟨Dl x.length i (by omega),Z5,⟨Zr,⟨rfl,HT _ (Ff _ (hq _))⟩,Zr,Zr,Zr,Tv⟩,GQ (hq _) (Ff _ (hq _)),Az (by kernel_rfl)⟩
  ·have LU:(AU (yR (x.take i)) []).length≤256:=by
    have:=HA (yR (x.take i)) []
    simp only[AE]at this;omega
   have hn:=Vy hp;have hr:Jn (yR (x.take i)) ((AU (yR (x.take i)) []).length+100)=.free:=by
    rw[hP];unfold Gs;rw[A7 (Am _)]
   refine Xi ((AU (yR (x.take i)) []).length+100) ?_;refine Or.inr (Yi hn ?_);refine Yi (Nz rfl) ?_;refine Rp (e:=162) (m:=9) (es2:=[Rv x[i]]) rfl rfl rfl (fun _ h=>h) hr rfl ⟨rfl,trivial⟩ (by show 1*128≤_;omega) (by show 1≤_;omega) ?_;refine Yi (Jl ⟨A5 _,A5 _,A5 _,A5 _,A5 _,A5 _,A5 _,A5 _,A5 _,A5 _,A5 _,A5 _,A5 _,A5 _,A5 _,A5 _,Ei (show 49<10000000 by decide),Ei (by show _+100<10000000;omega),Ei (show 12<10000000 by decide),trivial⟩ (by kernel_rfl)) ?_;have e9:E6 (IU (yR (x.take i))) (.string x[i].path) (.slice (.id ((AU (yR (x.take i)) []).length+100) 10) [Rv x[i]])=IU (yR (x.take (i+1))):=by rw[ey];exact gD hp
   have hG:∀l,(bif Nat.beq (l+100) ((AU (yR (x.take i)) []).length+100)then HO.tok 10 1 else Gs (yR (x.take i)) l)=Gs (yR (x.take (i+1))) l:=by rw[ey];exact jY hp
   refine Xi ⟨[(2,.ref 2 0),(5,.ref 16 0),(18,sl Ag x),(19,vi (x.map Ag).length),(20,vi i)],[(2,.ro (Ic x ifs)),(12,.mapU Dn (IU (yR (x.take (i+1))))),(13,.map Dn []),(14,.map D4 []),(16,.cells [sl AM roots,.mref 12,.mref 13,.v (.slice none 0 0),.v (.slice none 0 0),.mref 14,vb false,.v (.slice none 0 0),.v (.slice none 0 0),.v (.slice none 0 0)])],Jn (yR (x.take (i+1)))⟩ (Yi ?_ ?_)
   ·refine⟨Z5,⟨Zr,⟨Aa (HO.mapU Dn) e9,HT _ (Ff _ (hq _))⟩,Zr,Zr,Zr,Tv⟩,GQ (hq _) (fun l=>?_),WE (fun n=>?_)⟩
    ·show(bif Nat.beq (l+100) ((AU (yR (x.take i)) []).length+100)then HO.tok 10 1 else Jn (yR (x.take i)) (l+100))=_;rw[hP];exact hG l
    ·exact aT (y:=yR (x.take i)) (show(AU (yR (x.take i)) []).length+100<1000 by omega)
   refine Xi 0 ?_;refine Yi (Ii i (by omega)) ?_;refine Xi ⟨i+1,by omega⟩ ?_;exact⟨Dl x.length i (by omega),Z5,⟨Zr,⟨rfl,HT _ (Ff _ (hq _))⟩,Zr,Zr,Zr,Tv⟩,GQ (hq _) (Ff _ (hq _)),Az (by kernel_rfl)⟩
 ·intro h;have h:¬(i:Int)<(x.map Ag).length:=h;have h:¬i<x.length:=by simpa using h
  have et:x.take i=x:=AL (by omega);have eM:∀hh:Nat→HO,Sf hh (IU (yR (x.take i)))=(AU (yR x) []).map (kC x):=fun hh=>by
   rw[et];unfold Sf IU;rw[BU];refine CN fun j=>?_;rw[AJ,AJ,List.getElem?_zipIdx];cases (AU (yR x) [])[j]? with
   |none=>rfl
   |some q=>show some (Value.string q,AV.slice .none (GI (yR x) q))=_;rw[ar];rfl
  refine Xi ⟨[(2,.ref 2 0),(5,.ref 16 0)],[(2,.ro (Ic x ifs)),(12,.mapU Dn (IU (yR (x.take i)))),(13,.map Dn []),(14,.map D4 []),(16,.cells [sl AM roots,.mref 12,.mref 13,.v (.slice none 0 0),.v (.slice none 0 0),.mref 14,vb false,.v (.slice none 0 0),.v (.slice none 0 0),.v (.slice none 0 0)])],Jn (yR (x.take i))⟩ (Yi ?_ ?_)
  ·exact⟨Z2,⟨Zr,⟨rfl,HT _ (Ff _ (hq _))⟩,Zr,Zr,Zr,Tv⟩,GQ (hq _) (Ff _ (hq _)),Az (by kernel_rfl)⟩
  refine Xi 0 ?_;refine Xi {p:List ByteArray×List ByteArray×Option (Value×AV) // (p.1++p.2.1).Perm (AU (yR x) [])} (Xi (fun p=>⟨[(2,.ref 2 0),(5,.ref 16 0),(56,.ref 56 0)],[(2,.ro (Ic x ifs)),(12,.rom Dn ((AU (yR x) []).map (kC x))),(13,.map Dn (p.1.1.map (kA x))),(14,.map D4 []),(16,.cells [sl AM roots,.mref 12,.mref 13,.slice (.id 90 6) [],.slice (.id 91 1) [],.mref 14,vb false,.slice (.id 93 10) [],.slice (.id 94 4) [],.v (.slice none 0 0)]),(56,.iter ((AU (yR x) []).map (kC x)) (p.1.2.1.map (kC x)) p.1.2.2),(90,.tok 6 0),(91,.tok 1 0),(93,.tok 10 0),(94,.tok 4 0)],Ab⟩) (Xi (fun p=>p.1.2.1.length) (Yi (Xi ⟨([],AU (yR x) [],none),.refl _⟩ ?_) ?_)))
  ·refine⟨Z3,⟨Zr,⟨Aa (HO.rom Dn) (eM _),rfl⟩,Zr,Zr,Zr,⟨?_,rfl⟩,Zr,Zr,Zr,Zr,Tv⟩,Fh,WE (fun n=>?_)⟩
   ·show HO.iter (Sf _ (IU (yR (x.take i)))) (Sf _ (IU (yR (x.take i)))) none=_;rw[eM]
   ·exact bo (yR (x.take i)) n
  intro⟨⟨done,rem,FP⟩,r1⟩;have r1:(done++rem).Perm (AU (yR x) []):=r1;refine Xi 0 ?_;refine Yi ?_ ?_
  ·intro hr;have hr:rem.map (kC x)=[]:=hr;have hr:rem=[]:=DD.1 hr;subst hr;rw[BS]at r1;refine Xi ⟨[(5,.ref 16 0)],[(14,.map D4 []),(16,.cells [sl AM roots,.cmap Dn (mC x),.cmap Dn (done.map (kA x)),.slice (.id 90 6) [],.slice (.id 91 1) [],.mref 14,vb false,.slice (.id 93 10) [],.slice (.id 94 4) [],.msl 92 0]),(90,.tok 6 0),(91,.tok 1 0),(92,.arr 1 []),(93,.tok 10 0),(94,.tok 4 0)],Ab⟩ (Yi ⟨Z1,Z7,Fh,Az (by kernel_rfl)⟩ ?_)
   refine Xi 0 ?_;exact Xi _ (Yi (.refl _) (Xi done (Yi r1 (Yi rfl rfl))))
  ·intro kv Oy hp;refine BM (l5 hp) (fun t hp=>BM hp (fun r hp=>?_));have e1:=hp.1;have e2:=hp.2.1;subst e1;subst e2;have hp:=hp.2.2;refine Xi ⟨[(2,.ref 2 0),(5,.ref 16 0),(56,.ref 56 0)],[(2,.ro (Ic x ifs)),(12,.rom Dn ((AU (yR x) []).map (kC x))),(13,.map Dn (done.map (kA x))),(14,.map D4 []),(16,.cells [sl AM roots,.mref 12,.mref 13,.slice (.id 90 6) [],.slice (.id 91 1) [],.mref 14,vb false,.slice (.id 93 10) [],.slice (.id 94 4) [],.v (.slice none 0 0)]),(56,.iter ((AU (yR x) []).map (kC x)) (r.map (kC x)) (some (kC x t))),(90,.tok 6 0),(91,.tok 1 0),(93,.tok 10 0),(94,.tok 4 0)],Ab⟩ (Yi ⟨Z3,Z10,Fh,Az (by kernel_rfl)⟩ ?_)
   refine Xi 0 ?_;refine Xi ⟨[(2,.ref 2 0),(5,.ref 16 0),(10,vs t),(56,.ref 56 0)],[(2,.ro (Ic x ifs)),(12,.rom Dn ((AU (yR x) []).map (kC x))),(13,.map Dn (done.map (kA x))),(14,.map D4 []),(16,.cells [sl AM roots,.mref 12,.mref 13,.slice (.id 90 6) [],.slice (.id 91 1) [],.mref 14,vb false,.slice (.id 93 10) [],.slice (.id 94 4) [],.v (.slice none 0 0)]),(56,.iter ((AU (yR x) []).map (kC x)) (r.map (kC x)) (some (kC x t))),(90,.tok 6 0),(91,.tok 1 0),(93,.tok 10 0),(94,.tok 4 0)],Ab⟩ (Yi ⟨Z4,Z10,Fh,Az (by kernel_rfl)⟩ ?_)
   refine Xi 0 ?_;have Sb:(done++rem).Nodup:=r1.nodup_iff.2 (E3 _ [] Fs);have xp:t∉done:=fun hc=>(Gy.1 Sb).2.2 t hc t (hp.mem_iff.2 (Ac ..)) rfl;have em:E6 (done.map (kA x)) (.string t) (sl Af (Cg x t))=(done++[t]).map (kA x):=by
    rw[MH (fun a ha=>xp (WZ.1 ha).1),AG];rfl
   have UE:((done++[t])++r).Perm (AU (yR x) []):=by
    rw[AN];exact(List.Perm.append_left _ hp.symm).trans r1
   refine Yi (Nz rfl) ?_;refine Xi _ (Yi (vC x ifs t (c84 x ifs hx)) ?_);refine Yi (by kernel_rfl) ?_;refine Xi ⟨(done++[t],r,some (kC x t)),UE⟩ ?_;exact⟨by show r.length<rem.length;rw[hp.length_eq,Av];omega,Z3,⟨Zr,Zr,⟨Aa (HO.map Dn) em,rfl⟩,Zr,Zr,Zr,Zr,Zr,Zr,Zr,Tv⟩,Fh,Az (by kernel_rfl)⟩
end Go.Eng
namespace Go.Eng
open Go.Proofs
theorem Zs{x:List Rl}(h0:A6 x=0){p:ByteArray}(h:p∉AU (yR x) []):Cg x p=[]:=by
 rw[cz h0]
 have:x.filter (bh p)=[]:=by
  rw[HE];intro r hr hc;unfold bh at hc;rw[Ai,Ay]at hc;exact h ((HB _ _ _).2 (.inr ⟨r,Bu.2 ⟨hr,hc.2⟩,hc.1⟩))
 rw[this];rfl
theorem oH{x:List Rl}{roots:List Rq}(hx:∀r∈x,Jg r)(hr:∀q∈roots,N0 q)(h0:A6 x=0)(h1:Bx roots=0){l:List ByteArray}(hl:l.Perm (AU (yR x) [])):uP x roots (mC x) (l.map (kA x)) where
 hx:=h0
 hr:=h1
 fx:=hx
 fr:=hr
 c1:=sT x
 c2:=sU x
 c3:=sV x
 av p:=by
  by_cases hp:p∈l
  ·exact⟨sl Af (Cg x p),fun a ha=>(WZ.1 ha).2,fun hn=>(hn _ (WZ.2 ⟨hp,rfl⟩)).elim,fun h=>re p (Cg x p) (SU x p)⟩
  ·refine⟨.v (.slice none 0 0),fun a ha=>(hp (WZ.1 ha).1).elim,fun _=>rfl,fun h=>?_⟩;have e:=Zs h0 (fun hc=>hp (hl.mem_iff.2 hc));have hc:=re p (Cg x p) (SU x p);rw[e]at hc⊢;exact Md.args hc ⟨.refl _,.nil,trivial⟩
section
variable {x:List Rl}{roots:List Rq}{d:List (List Tm)}{i:Nf}
end
section
variable {s:List Sl}{q:Rq}{o:Option ByteArray}
end
section
variable {x:List Rl}{roots:List Rq}{s A:List Sl}{m:Nat}
end
section
variable {N:List Rq}{p:ByteArray}{pl:Int}{o:Rl}
end
abbrev I3(b:Bool):List AV:=[vb b]
section
variable {l:List Rl}{roots:List Rq}{Cl:List ByteArray}{B:List Bool}
variable {B0:List Bool}{i:Nat}{ch:Bool}
end
section
variable {x l:List Rl}{roots:List Rq}{s:List Sl}
end
end Go.Eng
