/- Lemmas for the claims of this seat, without a condition: part 26 (S8d, S8e, S11, S12, S13, S14, S16, S18, R24, C74, R25, R26, R27, R28, R29, R30, R31). -/
import Derived.Test.YtddfphmpfnmknaaGreatDoorA25
set_option maxHeartbeats 8000000
namespace Go.Eng
open Go.Proofs
theorem v8(x:List Rl)(roots:List Rq)(C A:List (Value×AV))(n:Nat)(s:SS)(dec:List Cd)(st:List (List Sk))(p:ByteArray)(n0:Nd)(l:List Nd)(V:AV)(cs:List Cd)(R O:JN)(hL:sd x roots C A n dec p n0 l V cs)(hs:Jq x roots s)(Ja:st.length=dec.length)
  (QF:A3 Tryz.prog 87 [.ref 1000 0] (Aj (IV roots C A s dec st) Aa) fun r h'=>r=.tup [vs p,sl A6 (n0::l)]∧h'=Aj (IV roots C A s dec st) Aa)
  (pG:cs=[]) (tt:∀a,(Value.string p,a)∉C) (hR:DX (CP x roots n) x p (n0::l) n0 dec st cs s [] []=R) (Zo:O=R) :
  A3 Tryz.prog 65 [.ref 1000 0] (Aj (IV roots C A s dec st) Aa) (X1 roots C A O):=by
 obtain⟨hx,hr,hdl,hcl,hcs,hnl,hnq,hnp,hex,hcx,hcq,hcp_,hcr,hcs_,hkey,hinf0,⟨pt,pv,px⟩,ih⟩:=hL;have hdl:dec.length≤256:=hdl;have hcl:cs.length≤256:=hcl;have Ja:st.length=dec.length:=Ja;have wW:∀(i:Nat) (h:i<cs.length),cs[i]∈Cc x p:=fun i h=>by rw[←hcs];exact Ax h
 have n9:∀(i:Nat) (h:i<cs.length),CJ (AJ (dec++[cs[i]])):=fun i h=>by unfold CJ AJ;rw[Lm,Ad];simp;omega
 clear hcs
 refine BV (Ll ⟨[9],[(6,1),(7,3),(145,1)],[],[],[],[],[],[],[],[(300001,500091000),(300026,500091000),(300029,500091000)],[1,2,5,10,11,13,14,15,16,17,19,21,22,23,24,25,26,28,29,31,32,33,35]⟩) [(1000,1000),(1001,1001),(1002,1002),(1003,1003),(1004,1004),(500,2000)] rfl Cn hm rfl Tryz.func65 (by kernel_rfl) rfl (Nz rfl) (by kernel_rfl) rfl ?_;refine Yi (show st.length=(st.map AQ).length by simp) ?_;refine Xi ⟨[(0,.ref 1000 0)],[(500,.arr 1 (st.map AQ)),(1000,.cells (srM roots C A s dec 500 st.length)),(1001,.tok 6 s.infs.length),(1002,.tok 1 s.drv.length),(1003,.map DQ (DT 0 s.infs)),(1004,.dead)],Aa⟩ (Yi ⟨Z1,Z6,Fh,Aw (by kernel_rfl)⟩ ?_)
 refine Xi (.gen X0 0) (Yi rfl (A3.imp QF ?_));intro v1 g1 q1;have jX:=q1.1;have jY:=q1.2;subst jX;subst jY;refine Xi ⟨[(0,.ref 1000 0),(4,vs p),(5,sl A6 (n0::l))],[(500,.arr 1 (st.map AQ)),(1000,.cells (srM roots C A s dec 500 st.length)),(1001,.tok 6 s.infs.length),(1002,.tok 1 s.drv.length),(1003,.map DQ (DT 0 s.infs)),(1004,.dead)],Aa⟩ (Yi ⟨Z3,Z6,Fh,Aw (by kernel_rfl)⟩ ?_)
 refine Yi (fun h2=>?_) (fun h2=>?_)
 ·have h2:(((n0::l).map A6).length:Int)=(0:Int):=h2;exact absurd h2 (by simp;omega)
 have h2:¬((((n0::l).map A6).length:Int)=(0:Int)):=h2;refine Xi ⟨[(0,.ref 1000 0),(4,vs p),(5,sl A6 (n0::l)),(6,.slice (.id 6 1) [])],[(6,.tok 1 0),(500,.arr 1 (st.map AQ)),(1000,.cells (srM roots C A s dec 500 st.length)),(1001,.tok 6 s.infs.length),(1002,.tok 1 s.drv.length),(1003,.map DQ (DT 0 s.infs)),(1004,.dead)],Aa⟩ (Yi ⟨Z4,Z7,Fh,Aw (by kernel_rfl)⟩ ?_)
 refine Yi (fun a ha=>?_) (fun QI=>?_)
 ·exact absurd ha (tt a)
 refine Xi {q:Nat×SS×List Nat×List Sk // q.1≤cs.length∧DX (CP x roots n) x p (n0::l) n0 dec st (cs.drop q.1) q.2.1 q.2.2.1 q.2.2.2=R∧Jq x roots q.2.1∧(∀r∈q.2.2.1,r<q.2.1.drv.length)∧q.2.2.1.length≤q.1∧q.2.2.2.length≤q.1} (Xi (fun q=>⟨[(0,.ref 1000 0),(4,vs p),(5,sl A6 (n0::l)),(6,.slice (.id 6 1) (q.1.2.2.1.map BI)),(7,.slice (.id 7 3) (q.1.2.2.2.map BM)),(32,.v (.slice none 0 0)),(33,vi 0),(34,vi q.1.1)],[(6,.tok 1 q.1.2.2.1.length),(7,.tok 3 q.1.2.2.2.length),(500,.arr 1 (st.map AQ)),(1000,.cells (srM roots C A q.1.2.1 dec 500 st.length)),(1001,.tok 6 q.1.2.1.infs.length),(1002,.tok 1 q.1.2.1.drv.length),(1003,.map DQ (DT 0 q.1.2.1.infs)),(1004,.dead)],Aa⟩) (Xi (fun q=>cs.length-q.1.1) (Yi (Xi ⟨(0,s,[],[]),AL _,hR,hs,fun r h=>(by cases h),Al _,Al _⟩ ?_) ?_)))
 ·exact⟨Z8,Z8,Fh,Aw (by kernel_rfl)⟩
 intro⟨⟨i,S,rs,sk⟩,j1,j2,j3,j4,j5,j6⟩;have j1:i≤cs.length:=j1;have j2:DX (CP x roots n) x p (n0::l) n0 dec st (cs.drop i) S rs sk=R:=j2;have j3:Jq x roots S:=j3;have j4:∀r∈rs,r<S.drv.length:=j4;have j5:rs.length≤i:=j5;have j6:sk.length≤i:=j6;have hw:=j3.dl;have eB:∀t∈S.drv,c9 t:=fun t ht=>by have q:=j3.der.few hx hr t ht;exact⟨EY q,q.2⟩
 refine Yi (fun h3=>?_) (fun h3=>?_)
 ·have h3:(i:Int)<(0:Int):=h3;exact absurd h3 (by have q:=j1;rw[pG,AG]at q;omega)
 have h3:¬((i:Int)<(0:Int)):=h3;refine Xi (A6 n0) (Yi (Yi (show(0:Int)≤0 by decide) rfl) (Yi rfl ?_));refine Yi (Nz rfl) ?_;refine Xi (.gen X0 0) (Yi rfl (A3.imp (xS x roots C A S dec st p n0 rs V hx hr j3 hinf0 j4 (by omega) (hnq n0 (Ab ..)) (hnp n0 (Ab ..)) pt pv px) ?_));intro v4 g4 q4;have vH:=q4.1;have vI:=q4.2;subst vH;subst vI;have hj:¬i<cs.length:=by rw[pG];simp
 have eR:R=⟨(DZ x p n0 rs S).1,false,(DZ x p n0 rs S).2,dec,st⟩:=by rw[←j2];exact dx hj
 exact Xi _ (Yi (.refl _) (M2 (Zo.trans eR)))
theorem wb(roots:List Rq)(C A:List (Value×AV))(s:SS)(dec:List Cd)(st:List (List Sk))(p:ByteArray)(N:List Nd)(O:JN)(hN:N=[])
  (QF:A3 Tryz.prog 87 [.ref 1000 0] (Aj (IV roots C A s dec st) Aa) fun r h'=>r=.tup [vs p,sl A6 N]∧h'=Aj (IV roots C A s dec st) Aa) (hO:O=⟨0,true,s,dec,st⟩) :
  A3 Tryz.prog 65 [.ref 1000 0] (Aj (IV roots C A s dec st) Aa) (X1 roots C A O):=by
 refine BV (Ll ⟨[],[],[],[],[],[],[],[],[],[(300001,500091000)],[1,2,5,10,11,13,14,15,16,17,19,21,22,23,25,28,29,31,32,33,35]⟩) [(1000,1000),(1001,1001),(1002,1002),(1003,1003),(1004,1004),(500,2000)] rfl Cn hm rfl Tryz.func65 (by kernel_rfl) rfl (Nz rfl) (by kernel_rfl) rfl ?_;refine Yi (show st.length=(st.map AQ).length by simp) ?_;refine Xi ⟨[(0,.ref 1000 0)],[(500,.arr 1 (st.map AQ)),(1000,.cells (srM roots C A s dec 500 st.length)),(1001,.tok 6 s.infs.length),(1002,.tok 1 s.drv.length),(1003,.map DQ (DT 0 s.infs)),(1004,.dead)],Aa⟩ (Yi ⟨Z1,Z6,Fh,Aw (by kernel_rfl)⟩ ?_)
 refine Xi (.gen X0 0) (Yi rfl (A3.imp QF ?_));intro v1 g1 q1;have jX:=q1.1;have jY:=q1.2;subst jX;subst jY;refine Xi ⟨[(0,.ref 1000 0),(4,vs p),(5,sl A6 N)],[(500,.arr 1 (st.map AQ)),(1000,.cells (srM roots C A s dec 500 st.length)),(1001,.tok 6 s.infs.length),(1002,.tok 1 s.drv.length),(1003,.map DQ (DT 0 s.infs)),(1004,.dead)],Aa⟩ (Yi ⟨Z3,Z6,Fh,Aw (by kernel_rfl)⟩ ?_)
 refine Yi (fun h2=>?_) (fun h2=>?_)
 ·have h2:((N.map A6).length:Int)=(0:Int):=h2;exact Xi _ (Yi (.refl _) (M2 (st:=st) hO))
 have h2:¬(((N.map A6).length:Int)=(0:Int)):=h2;exact absurd (by rw[hN];rfl) h2
section
variable {x:List Rl}{roots:List Rq}{p:ByteArray}
theorem H7:∀(l:List Nat) {k:Nat} {s:SS},s.infs.Nodup→(B8 p l k s).2.infs.Nodup
 | [],_,_,h=>h
 |r::l,k,s,h=>by
  unfold B8;split
  ·exact h
  split
  ·exact H7 l h
  split
  ·exact H7 l h
  ·exact H7 l (HP h)
theorem KH{needs:List Nd}{n0:Nd}{dec:List Cd}{st:List (List Sk)}{rec:List Cd→SS→List (List Sk)→JN}(bj:∀c s st,s.infs.Nodup→(rec (dec++[c]) s st).ss.infs.Nodup) :
  ∀(cs:List Cd) {s:SS} {rs:List Nat} {sk:List Sk},s.infs.Nodup→(DX rec x p needs n0 dec st cs s rs sk).ss.infs.Nodup
 | [],s,rs,sk,h=>H7 _ (HP (HP h))
 |c::cs,s,rs,sk,h=>by
  have lC:∀(s' : SS) (k:Nat),s'.infs.Nodup→(Ju rec x p needs n0 dec st c cs rs sk k s').ss.infs.Nodup:=fun s' k h'=>by
   unfold Ju;split
   ·exact h'
   ·exact KH bj cs h'
  rw[F7];split
  ·exact h
  cases needs.find? fun n=>!has n.rq.set c.place with
  |some n=>exact KH bj cs (HP h)
  |none =>
   dsimp only;cases N1 s.drv (AJ (dec++[c]))with
   |some k=>exact lC s k h
   |none =>
    dsimp only;cases D4 dec c with
    |some n=>exact lC _ _ (HP h)
    |none =>
     dsimp only;have h2:=bj c s (st++[sk]) h;split
     ·exact h2
     split
     ·exact h2
     ·exact lC _ _ h2
theorem OM:∀(n:Nat) {dec:List Cd} {s:SS} {st:List (List Sk)},s.infs.Nodup→(CP x roots n dec s st).ss.infs.Nodup
 |0,_,_,_,h=>h
 |n+1,dec,s,st,h=>by
  unfold CP;cases (Gs roots dec).2 with
  |nil=>exact h
  |cons n0 l=>exact KH (fun c s st h=>OM n h) _ h
structure sc(x:List Rl)(roots:List Rq)(C A:List (Value×AV)):Prop where
 hx:AU x=0
 hr:BL roots=0
 fx:∀r∈x,JL r
 fr:∀q∈roots,NJ q
 c1:∀(p:ByteArray) (a:AV),(Value.string p,a)∈C→a=sl AB (Cc x p)
 c2:∀p:ByteArray,(∀a,(Value.string p,a)∉C)→Cc x p=[]
 c3:∀p:ByteArray,Cc x p=[]→∀a,(Value.string p,a)∉C
 av:∀p:ByteArray,∃V,HV x A p V
theorem mf{dec:List Cd}(h:∀c∈dec,c.rel.reqs.length≤16):((dec.map fun c=>c.rel.reqs).flatten).length≤16*dec.length:=by
 induction dec with
 |nil=>simp
 |cons c dec ih =>
  rw[AK,Bv,Ad,Ay]
  have:=h c (Ab ..)
  have:=ih fun d hd=>h d (Ah _ hd)
  omega
theorem nh{r:Rl}(h:Rp r):0≤plc r.ver∧plc r.ver<1000000:=by rw[h.plc];exact Jh h.val
theorem bK(dec:List Cd):(Gs roots dec).2.length≤(Dj roots dec).length:=by
 rw[SK];cases Kr (HA roots dec) (AJ dec)with
 |none=>simp
 |some q=>exact BA _ _
theorem xQ{C A:List (Value×AV)}(hE:sc x roots C A)(mi:xX roots C A):∀(n:Nat) {dec:List Cd} {s:SS} {st:List (List Sk)},Ey x dec→IC roots dec→Jq x roots s→s.full=false→Qd x dec<n→st.length=dec.length →
  A3 Tryz.prog 65 [.ref 1000 0] (Aj (IV roots C A s dec st) Aa) (X1 roots C A (CP x roots n dec s st))
 |0,_,_,_,_,_,_,_,h,_=>by omega
 |n+1,dec,s,st,hd,bl,hs,hf,hn,Ja=>by
  have hx:=hE.hx;have hr:=hE.hr;have kV:=Nm hx;have hdl:=WD hd;have tY:dec.length≤256:=by have:=kV.1;omega
  have Wf:∀c∈dec,c.rel.reqs.length≤16:=fun c hc=>kV.2 _ (hd.cand c hc).1;have QF:=mi s dec st (by omega) fun c hc=>Br (Wf c hc) (by decide);generalize hO:CP x roots (n+1) dec s st=O;obtain⟨N,hN⟩:∃N,N=(Gs roots dec).2:=⟨_,rfl⟩;obtain⟨q,hq⟩:∃q,q=(Gs roots dec).1:=⟨_,rfl⟩;rw[←hN,←hq]at QF;have yF:N.length≤10000:=by
   have h1:=bK (roots:=roots) dec;have h2:(Dj roots dec).length=(HA roots dec).length:=by rw[←Ms,Lm]
   have h3:=mf Wf;have h4:=OG hr;rw[←hN]at h1;unfold HA at h2;rw[Ad]at h2;omega
  cases hNc:N with
  |nil =>
   rw[hNc]at hN QF;refine wb roots C A s dec st q [] O rfl QF ?_;rw[←hO];unfold CP;rw[←hN]
  |cons n0 l =>
   rw[hNc]at hN QF;have kB:=Nw hN.symm;rw[←hq]at kB;have QH:∀nd∈n0::l,nd∈Dj roots dec:=fun nd h=>((kB.mem nd).1 h).1;have Gl:=(Co hx).1;have few:∀{E:List Cd},Ey x E→∀nd∈Dj roots E,CJ nd.rq.set∧BK (nd.place+1):=fun yy nd h=>by
    rcases LW h with ⟨k,r,h1,rfl⟩ | ⟨c,hc,k,r,h1,rfl⟩
    ·exact⟨(hE.fr r (Ar h1)).1,by unfold BK;show -9223372036854775808≤(0:Int)+1∧(0:Int)+1<9223372036854775808;decide⟩
    ·have h2:=yy.cand c hc;have h3:=nh (Gl _ h2.1);rw[←h2.2.2]at h3;exact⟨((hE.fx _ h2.1).2 r (Ar h1)).1,by unfold BK;show _≤c.place+1∧c.place+1<_;omega⟩
   have kU:∀c∈Cc x q,Ey x (dec++[c])∧c.rel.path=q∧c.rel∈x:=fun c hc=>by
    obtain⟨c1,c2⟩:=Jv hc;exact⟨hd.snoc c2 (by rw[c1];exact kB.undone),c1,c2.1⟩
   have E6:∀(i:Nat) (h:i<(Cc x q).length),(Cc x q)[i]∈Cc x q:=fun i h=>Ax h;obtain⟨V,hV⟩:=hE.av q
   have hL:sd x roots C A n dec q n0 l V (Cc x q):={
    hx:=hx
    hr:=hr
    hdl:=tY
    hcl:=Br (Ud x q) kV.1
    hcs:=rfl
    hnl:=by rw[hNc]at yF;omega
    hnq:=fun nd h=>(few hd nd (QH nd h)).1
    hnp:=fun nd h=>(few hd nd (QH nd h)).2
    hex:=fun i h nd hm hh=>by
     obtain⟨a,b,_⟩:=kU _ (E6 i h);exact⟨(Ou hx hr a (Nt (QH nd hm)) ⟨(Cc x q)[i],by simp,b.trans ((kB.mem nd).1 hm).2.symm,hh⟩).1,trivial⟩
    hcx:=fun i h nc hc=>by
     obtain⟨a,b,_⟩:=kU _ (E6 i h);obtain⟨m1,m2⟩:=KM hc;exact⟨(Ou hx hr a (Mt m1) m2).1,trivial⟩
    hcq:=fun i h nc hm=>(few (kU _ (E6 i h)).1 nc (Mt hm)).1
    hcp_:=fun i h nc hm=>(few (kU _ (E6 i h)).1 nc (Mt hm)).2
    hcr:=fun i h=>by have:=kV.2 _ (kU _ (E6 i h)).2.2;omega
    hcs_:=fun i h r hm=>((hE.fx _ (kU _ (E6 i h)).2.2).2 r hm).1
    hkey:=fun i h=>by
     have b:=(kU _ (E6 i h)).2.1;unfold AJ;rw[Az,Az];show _=_++[[vs (Cc x q)[i].rel.path,vi (Cc x q)[i].rel.ver.a,vi (Cc x q)[i].rel.ver.b,vi (Cc x q)[i].rel.ver.c]];rw[b]
    hinf0:=(QV hx hr hd (QH n0 (Ab ..)) (.inl (by
     rw[((kB.mem n0).1 (Ab ..)).2];exact Ho (by rw[FJ];exact kB.undone)))).inf
    hV:=hV
    ih:=fun c hc ut S D5 hl hS wP=>by
     obtain⟨a,b,c3⟩:=kU c hc;obtain⟨k1,k2⟩:=OA.1 ut;obtain⟨_,c2⟩:=Jv hc;have kT:=bl.snoc kB b k1 k2;have cS:Qd x (dec++[c])<n:=by have:=RY (dec:=dec) ⟨c2.1,c2.2.1⟩ (by rw[b];exact kB.undone);omega
     have h1:=xQ hE mi n a kT hS wP cS (st:=D5) (by rw[hl];simp);have h2:=PD hx hr n a kT hS.der wP cS (st:=D5);exact⟨h1,⟨h2.der,OM n hS.nodup⟩,⟨h2.grow.len,fun e1 e2=>((h2.no e1).2.2 e2).1⟩,fun e1=>(h2.no e1).2.1⟩ }
   have hR:DX (CP x roots n) x q (n0::l) n0 dec st (Cc x q) s [] []=O:=by
    rw[←hO]
    conv=>rhs;unfold CP
    rw[←hN,hq]
   by_cases hm:∀a,(Value.string q,a)∉C
   ·exact v8 x roots C A n s dec st q n0 l V (Cc x q) O O hL hs Ja QF (hE.c2 q hm) hm hR rfl
   ·exact vZ x roots C A n s dec st q n0 l V (Cc x q) O O hL hs Ja QF (hE.c1 q) hm hR rfl
end
theorem wa{x:List Rl}{roots:List Rq}{C A:List (Value×AV)}(hE:sc x roots C A)(n:Nat){dec:List Cd}{s:SS}{st:List (List Sk)}(h1:Ey x dec)(h2:IC roots dec)(h3:Jq x roots s)(h4:s.full=false)(h5:Qd x dec<n)(h6:st.length=dec.length) :
  A3 Tryz.prog 65 [.ref 1000 0] (Aj (IV roots C A s dec st) Aa) (X1 roots C A (CP x roots n dec s st)) :=
 xQ hE (fun s dec st a b=>z6 roots C A s dec st (Br (OG hE.hr) (by decide)) a b) n h1 h2 h3 h4 h5 h6
def Gy(x:List Rl)(roots:List Rq):Bool:=decide (AU x=0)&&decide (BL roots=0)
theorem r5(x:List Rl)(ifs:List (List AV))(roots:List Rq)(hx:∀r∈x,JL r)(hr:∀q∈roots,NJ q):PC 63 [.agg (Ic x ifs),sl AI roots] (vb (Gy x roots)):=by
 refine Ps ⟨[2],[],[],[],[],[],[],[],[],[],[]⟩ Tryz.func63 rfl (Nz rfl) ?_;refine Yi (Nz rfl) ?_;refine Xi .pure (Xi _ (Yi (ku Vi x ifs hx) ?_));refine Yi (fun h1=>?_) (fun h1=>?_)
 ·have h1:((AU x):Int)=(0:Int):=h1;refine Xi .pure (Xi _ (Yi (wy Vi roots hr) ?_));refine Yi (fun h2=>?_) (fun h2=>?_)
  ·have h2:((BL roots):Int)=(0:Int):=h2;exact .of_eq (show vb true=vb (Gy x roots) by unfold Gy;rw[h1,h2];rfl)
  have h2:¬(((BL roots):Int)=(0:Int)):=h2;exact .of_eq (show vb false=vb (Gy x roots) by unfold Gy;rw[At h2,D6])
 have h1:¬(((AU x):Int)=(0:Int)):=h1;exact .of_eq (show vb false=vb (Gy x roots) by unfold Gy;rw[At h1];rfl)
abbrev PZ(r:Rl):List AV:=AB ⟨plc r.ver,r⟩
abbrev Gb(y:List Rl)(p:ByteArray):List (List AV):=(y.filter fun r=>decide (r.path=p)).map PZ
abbrev WX(y:List Rl)(q:ByteArray×Nat):Value×AV:=(.string q.1,.slice (.id (q.2+100) 10) (Gb y q.1))
abbrev Im(y:List Rl):List (Value×AV):=(AO y []).zipIdx.map (WX y)
def FZ(y:List Rl)(l:Nat):HO:=match(AO y [])[l]? with
 |some q=>.tok 10 (Gb y q).length
 |none=>.free
def IS(y:List Rl)(j:Nat):HO:=bif Nat.ble 100 j&&Nat.blt j 1000 then FZ y (j-100)else .free
theorem ES(y:List Rl)(hy:y.length≤256)(l:Nat):IS y (l+100)=FZ y l:=by
 unfold IS;rw[show Nat.ble 100 (l+100)=true by rw[CR];omega,Ev,Nat.add_sub_cancel]
 by_cases h:l+100<1000
 ·rw[show Nat.blt (l+100) 1000=true by rw[B7];exact h];rfl
 ·rw[show Nat.blt (l+100) 1000=false by rw[AM];intro hc;rw[B7]at hc;omega]
  have:=G3 y []
  rw[AG]at this;unfold FZ;rw[A2 (by omega)];rfl
theorem jf(y:List Rl){j:Nat}(h:j<100):IS y j=.free:=by
 unfold IS;rw[show Nat.ble 100 j=false by rw[AM];intro hc;rw[CR]at hc;omega];rfl
theorem G2(y:List Rl)(r:Rl)(q:ByteArray):Gb (y++[r]) q=if r.path=q then Gb y q++[PZ r]else Gb y q:=by
 unfold Gb;rw[De]
 by_cases h:r.path=q
 ·rw[Aq h,Rk (by simpa using h)];simp
 ·rw[Ai h,Rj (by simpa using h)];simp
section
variable {y:List Rl}{r:Rl}{k:Nat}
open Classical in
theorem dZ(h:(AO y [])[k]?=some r.path):EL (Im y) (.string r.path) (.slice (.id (k+100) 10) (Gb y r.path++[PZ r]))=Im (y++[r]):=by
 have hd:=EH y [] E2;have hm:WX y (r.path,k)∈Im y:=Ak.2 ⟨_,Fo.2 h,rfl⟩;rw[Xq (a':=.slice (.id (k+100) 10) (Gb y r.path)) hm];unfold Im;rw[I1 h,BG];refine A8 fun q hq=>?_;have hg:=Ia hq;obtain⟨q,j⟩:=q;show(if Value.string q=Value.string r.path then _ else _)=WX (y++[r]) (q,j);have hg:(AO y [])[j]?=some q:=hg
 by_cases he:q=r.path
 ·subst he
  have:j=k:=IY hd hg h
  subst this;rw[Aq rfl];show _=(Value.string r.path,AV.slice (.id (j+100) 10) (Gb (y++[r]) r.path));rw[G2,Aq rfl]
 ·rw[Ai (fun e=>he (by simpa using e))];show(Value.string q,AV.slice (.id (j+100) 10) (Gb y q))=(Value.string q,AV.slice (.id (j+100) 10) (Gb (y++[r]) q));rw[G2,Ai (fun e=>he e.symm)]
theorem Xx(h:r.path∉AO y []):Gb y r.path=[]:=by
 have:y.filter (fun s=>decide (s.path=r.path))=[]:=by
  rw[G6];intro s hs he;exact h ((G4 y [] r.path).2 (.inr ⟨s,hs,Ba he⟩))
 unfold Gb;rw[this];rfl
theorem Uq(h:r.path∉AO y [])(a:AV):(Value.string r.path,a)∉Im y:=by
 intro hc;obtain⟨q,h1,h2⟩:=Ak.1 hc;simp only[WX,FE,Value.string.injEq]at h2;exact h (by rw[←h2.1];exact Ar (Ia h1))
theorem dY(h:r.path∉AO y []):EL (Im y) (.string r.path) (.slice (.id ((AO y []).length+100) 10) [PZ r])=Im (y++[r]):=by
 rw[LV (fun a=>Uq h a)];unfold Im;rw[I0 h,List.zipIdx_append,Az]
 congr 1
 ·refine A8 fun q hq=>?_;have hg:=Ia hq
  have:q.1≠r.path:=fun e=>h (by rw[←e];exact Ar hg)
  show(Value.string q.1,AV.slice (.id (q.2+100) 10) (Gb y q.1))=(Value.string q.1,AV.slice (.id (q.2+100) 10) (Gb (y++[r]) q.1));rw[G2,Ai (fun e=>this e.symm)]
 ·show [_]=[(Value.string r.path,AV.slice (.id (0+(AO y []).length+100) 10) (Gb (y++[r]) r.path))];rw[G2,Aq rfl,Xx h,Be];rfl
theorem aX{p:ByteArray}{j:Nat}(h:(AO y [])[j]?=some p):(Value.string p,AV.slice (.id (j+100) 10) (Gb y p))∈Im y∧∀b,(Value.string p,b)∈Im y→b=AV.slice (.id (j+100) 10) (Gb y p):=by
 refine⟨Ak.2 ⟨(p,j),Fo.2 h,rfl⟩,fun b hb=>?_⟩;obtain⟨q,h1,h2⟩:=Ak.1 hb;simp only[WX,FE,Value.string.injEq]at h2;have hg:=Ia h1;rw[h2.1]at hg
 have:=IY (EH y [] E2) hg h
 rw[←h2.2,h2.1,this]
theorem aa{p:ByteArray}{j:Nat}(h:(AO y [])[j]?=some p):FZ y j=.tok 10 (Gb y p).length:=by
 unfold FZ;rw[h]
theorem gQ(h:(AO y [])[k]?=some r.path)(l:Nat):(bif Nat.beq (l+100) (k+100)then HO.tok 10 ((Gb y r.path).length+1)else FZ y l)=FZ (y++[r]) l:=by
 by_cases he:l=k
 ·subst he;rw[show Nat.beq (l+100) (l+100)=true from CK _];unfold FZ;rw[I1 h,h];show HO.tok 10 _=HO.tok 10 (Gb (y++[r]) r.path).length;rw[G2,Aq rfl,Ad];rfl
 ·rw[show Nat.beq (l+100) (k+100)=false by rw[AM];intro hc;have:=AH hc;omega];show FZ y l=_;unfold FZ;rw[I1 h];cases hq:(AO y [])[l]? with
  |none=>rfl
  |some q =>
   show HO.tok 10 (Gb y q).length=HO.tok 10 (Gb (y++[r]) q).length;rw[G2,Ai];intro e;subst e;exact he (IY (EH y [] E2) hq h)
theorem gP(h:r.path∉AO y [])(l:Nat):(bif Nat.beq (l+100) ((AO y []).length+100)then HO.tok 10 1 else FZ y l)=FZ (y++[r]) l:=by
 by_cases he:l=(AO y []).length
 ·subst he;rw[show Nat.beq ((AO y []).length+100) ((AO y []).length+100)=true from CK _];unfold FZ;rw[I0 h];simp only[AZ (Al _),F5,A4];show HO.tok 10 1=HO.tok 10 (Gb (y++[r]) r.path).length;rw[G2,Aq rfl,Xx h];rfl
 ·rw[show Nat.beq (l+100) ((AO y []).length+100)=false by rw[AM];intro hc;have:=AH hc;omega];show FZ y l=_;unfold FZ;rw[I0 h]
  by_cases hl:l<(AO y []).length
  ·rw[AX hl,Ge hl];show HO.tok 10 (Gb y (AO y [])[l]).length=HO.tok 10 (Gb (y++[r]) (AO y [])[l]).length;rw[G2,Ai];intro e;exact h (by rw[e];exact Ax hl)
  ·rw[A2 (by omega),A2 (by rw[Ad];simp;omega)]
end
theorem Hm(y:List Rl){h:Nat→HO}(hh:∀l,h (l+100)=FZ y l):Qg h (Im y)=true:=by
 refine Pi fun p hp=>?_;obtain⟨q,h1,rfl⟩:=Ak.1 hp;show QK h (q.2+100)=true;unfold QK;rw[hh,aa (Ia h1)]
theorem Gk{y:List Rl}(hy:y.length≤256){h h' : Nat→HO}(hh:∀l,h (l+100)=FZ y l)(j:Nat):IS y j=.free∨(h j=IS y j∧W8 h' (IS y j)=true):=by
 by_cases hj:j<100
 ·exact .inl (jf y hj)
 ·obtain⟨l,rfl⟩:∃l,j=l+100:=⟨j-100,by omega⟩
  right
  rw[ES y hy];refine⟨hh l,?_⟩;unfold FZ;cases (AO y [])[l]?<;>rfl
abbrev yR(x:List Rl):List Rl:=x.filter fun r=>!r.yanked
theorem YM(x:List Rl)(p:ByteArray):Gb (yR x) p=(Cc x p).map AB:=by
 unfold Gb Cc;rw[List.filter_filter,BG]
 rfl
def mC(x:List Rl):List (Value×AV):=(AO (yR x) []).map fun p=>(.string p,sl AB (Cc x p))
theorem fA{x:List Rl}{p:ByteArray}{a:AV}:(Value.string p,a)∈mC x↔p∈AO (yR x) []∧a=sl AB (Cc x p):=by
 unfold mC;rw[Ak];constructor
 ·rintro⟨q,hq,e⟩
  injection e with e1 e2
  injection e1 with e1
  subst e1;exact⟨hq,e2.symm⟩
 ·rintro⟨h1,h2⟩
  exact⟨p,h1,by rw[h2]⟩
theorem Ue{x:List Rl}{p:ByteArray}:Cc x p=[]↔p∉AO (yR x) []:=by
 rw[G4];unfold Cc;rw[D0,G6];constructor
 ·rintro h (h1 | ⟨r,h1,h2⟩)
  ·cases h1
  ·obtain⟨h3,h4⟩:=BH.1 h1;exact h r h3 (by rw[AA h2,h4];rfl)
 ·intro h r hr hc;rw[Ae,Au]at hc;exact h (.inr ⟨r,BH.2 ⟨hr,hc.2⟩,hc.1⟩)
theorem qr(x:List Rl):∀(p:ByteArray) (a:AV),(Value.string p,a)∈mC x→a=sl AB (Cc x p):=fun _ _ h=>(fA.1 h).2
theorem qt(x:List Rl):∀p:ByteArray,(∀a,(Value.string p,a)∉mC x)→Cc x p=[]:=fun _ h=>Ue.2 fun hp=>h _ (fA.2 ⟨hp,rfl⟩)
theorem qu(x:List Rl):∀p:ByteArray,Cc x p=[]→∀a,(Value.string p,a)∉mC x:=fun _ h _ ha=>Ue.1 h (fA.1 ha).1
abbrev zQ:Ro:=⟨[2],[],[],[(52,[12])],[],[12],[50],[(53,(16,3,90,6)),(54,(16,4,91,1)),(55,(16,7,93,10)),(56,(16,8,94,4))],[],[(850013,13),(800013,10016),(810013,20016),(900013,10000000000+92000000+90016)],[5,7,8,9,11,12,13]⟩
abbrev kC(x:List Rl)(p:ByteArray):Value×AV:=(.string p,sl AB (Cc x p))
abbrev kA(x:List Rl)(p:ByteArray):Value×AV:=(.string p,sl Ao (BZ x p))
theorem jE{x:List Rl}{l:List ByteArray}{kv:Value×AV}{Ny : List (Value×AV)}(h:(l.map (kC x)).Perm (kv::Ny)):∃t r,kv=kC x t∧Ny=r.map (kC x)∧l.Perm (t::r):=by
 obtain⟨ps,h1,h2⟩:=LZ h l rfl;cases ps with
 |nil=>cases h2
 |cons t r =>
  rw[AK,Fm]at h2;exact⟨t,r,h2.1.symm,h2.2.symm,h1.symm⟩
abbrev srN(roots:List Rq)(C A:List (Value×AV)):List (Nat×HO) :=
 [(2000,.cells [sl AI roots,.cmap CM C,.cmap CM A,.slice (.id 2001 6) [],.slice (.id 2002 1) [],.mref 2003,vb false,.slice .none [],.slice .none [],.msl 2004 0]),(2001,.tok 6 0),(2002,.tok 1 0),(2003,.map DQ []),(2004,.arr 1 [])]
theorem VJ{x:List Rl}{l:List ByteArray}{p:ByteArray}{a:AV}:(Value.string p,a)∈l.map (kA x)↔p∈l∧a=sl Ao (BZ x p):=by
 rw[Ak];constructor
 ·rintro⟨q,hq,e⟩
  injection e with e1 e2
  injection e1 with e1
  subst e1;exact⟨hq,e2.symm⟩
 ·rintro⟨h1,h2⟩
  exact⟨p,h1,by rw[h2]⟩
theorem Zq(y:List Rl)(n:Nat):IS y (n+1000)=.free:=by
 unfold IS;rw[show Nat.blt (n+1000) 1000=false by rw[AM];intro hc;rw[B7]at hc;omega,D6];rfl
theorem Vr{h s:Nat→HO}(H:∀n,h (n+1000)=.free):∀j,1000≤j→j<2000→h j≠.free→s j≠.free:=fun j h1 _ hn=>by
 refine absurd (H (j-1000)) ?_;rw[show j-1000+1000=j by omega];exact hn
theorem iG{n k:Nat}(h:k<1000):Nat.beq (n+1000) k=false:=by
 rw[AM];intro hc;have:=AH hc;omega
theorem Zd{y:List Rl}{n k:Nat}{o:HO}(h:k<1000):(bif Nat.beq (n+1000) k then o else IS y (n+1000))=.free:=by
 rw[iG h,Zq];rfl
attribute [local irreducible] H5
set_option maxRecDepth 30000 in
theorem vY(x:List Rl)(ifs:List (List AV))(roots:List Rq)(hx:∀r∈x,JL r)(h0:AU x=0):A3 Tryz.prog 64 [GP x ifs,sl AI roots] (Aj [] Aa) fun r h'=>∃l:List ByteArray,l.Perm (AO (yR x) [])∧r=.ref 2000 0∧h'=Aj (srN roots (mC x) (l.map (kA x))) Aa:=by
 have kV:x.length≤256:=(Nm h0).1;refine BV (Ll zQ) [(16,2000),(90,2001),(91,2002),(14,2003),(92,2004)] rfl Cn hm rfl Tryz.func64 (by kernel_rfl) rfl (Nz rfl) (by kernel_rfl) rfl ?_;refine Xi 0 ?_;refine Xi 0 ?_;refine Xi 0 ?_;refine Xi {i:Nat // i≤x.length} (Xi (fun i=>⟨[(2,.ref 2 0),(5,.ref 16 0),(18,sl Ag x),(19,vi (x.map Ag).length),(20,vi i.1)],[(2,.ro (Ic x ifs)),(12,.mapU CM (Im (yR (x.take i.1)))),(13,.map CM []),(14,.map DQ []),(16,.cells [sl AI roots,.mref 12,.mref 13,.v (.slice none 0 0),.v (.slice none 0 0),.mref 14,vb false,.v (.slice none 0 0),.v (.slice none 0 0),.v (.slice none 0 0)])],IS (yR (x.take i.1))⟩) (Xi (fun i=>x.length-i.1) (Yi (Xi ⟨0,AL _⟩ ?_) ?_)))
 ·refine⟨Z5,Z5,fun j=>.inl ?_,Aw (by kernel_rfl)⟩;show IS [] j=.free;unfold IS;cases (Nat.ble 100 j&&Nat.blt j 1000)<;>rfl
 intro⟨i,i1⟩;have i1:i≤x.length:=i1;have hq:∀k,(yR (x.take k)).length≤256:=fun k=>by
  have:=BA (fun r:Rl=>!r.yanked) (x.take k)
  rw[AE]at this;show(List.filter _ _).length≤256;omega
 refine Xi 0 ?_;refine Yi ?_ ?_
 ·intro h;have h:(i:Int)<(x.map Ag).length:=h;have h:i<x.length:=by simpa using h
  have hg:x[i]?=some x[i]:=Ge h;have Km:x.take (i+1)=x.take i++[x[i]]:=by rw[Bi,hg];rfl
  refine Xi 0 ?_;refine Xi (Ag x[i]) (Yi (Yi (Nn i) (by simp[hg])) (Yi rfl ?_));refine Yi (Nz rfl) (Yi (Nz rfl) ?_);refine Xi ⟨[(2,.ref 2 0),(5,.ref 16 0),(7,.ref 7 0),(18,sl Ag x),(19,vi (x.map Ag).length),(20,vi i)],[(2,.ro (Ic x ifs)),(7,.cells (Ag x[i])),(12,.mapU CM (Im (yR (x.take i)))),(13,.map CM []),(14,.map DQ []),(16,.cells [sl AI roots,.mref 12,.mref 13,.v (.slice none 0 0),.v (.slice none 0 0),.mref 14,vb false,.v (.slice none 0 0),.v (.slice none 0 0),.v (.slice none 0 0)])],IS (yR (x.take i))⟩ (Yi ?_ ?_)
  ·exact⟨Z6,⟨Zr,Zr,⟨rfl,Hm _ (ES _ (hq _))⟩,Zr,Zr,Zr,Tv⟩,Gk (hq _) (ES _ (hq _)),Aw (by kernel_rfl)⟩
  refine Xi 0 ?_;refine Yi (fun hy=>?_) (fun hy=>?_)
  ·have hy:x[i].yanked=true:=hy;have ey:yR (x.take (i+1))=yR (x.take i):=by
    unfold yR;rw[Km,De,Rj (by rw[hy];decide)];simp
   refine Xi ⟨[(2,.ref 2 0),(5,.ref 16 0),(18,sl Ag x),(19,vi (x.map Ag).length),(20,vi i)],[(2,.ro (Ic x ifs)),(12,.mapU CM (Im (yR (x.take (i+1))))),(13,.map CM []),(14,.map DQ []),(16,.cells [sl AI roots,.mref 12,.mref 13,.v (.slice none 0 0),.v (.slice none 0 0),.mref 14,vb false,.v (.slice none 0 0),.v (.slice none 0 0),.v (.slice none 0 0)])],IS (yR (x.take (i+1)))⟩ (Yi ?_ ?_)
   ·rw[ey];exact⟨Z5,⟨Zr,⟨rfl,Hm _ (ES _ (hq _))⟩,Zr,Zr,Zr,Tv⟩,Gk (hq _) (ES _ (hq _)),Aw (by kernel_rfl)⟩
   refine Xi 0 ?_;refine Yi (Ii i (by omega)) ?_;refine Xi ⟨i+1,by omega⟩ ?_;exact⟨Dl x.length i (by omega),Z5,⟨Zr,⟨rfl,Hm _ (ES _ (hq _))⟩,Zr,Zr,Zr,Tv⟩,Gk (hq _) (ES _ (hq _)),Aw (by kernel_rfl)⟩
  have hy:x[i].yanked=false:=hy;refine Xi 0 ?_;refine Yi (Nz rfl) ?_;refine Xi .pure (Xi _ (Yi (oV x[i].ver) ?_));refine Xi ⟨[(2,.ref 2 0),(5,.ref 16 0),(7,.ref 7 0),(8,vi (plc x[i].ver)),(18,sl Ag x),(19,vi (x.map Ag).length),(20,vi i)],[(2,.ro (Ic x ifs)),(7,.cells (Ag x[i])),(12,.mapU CM (Im (yR (x.take i)))),(13,.map CM []),(14,.map DQ []),(16,.cells [sl AI roots,.mref 12,.mref 13,.v (.slice none 0 0),.v (.slice none 0 0),.mref 14,vb false,.v (.slice none 0 0),.v (.slice none 0 0),.v (.slice none 0 0)])],IS (yR (x.take i))⟩ (Yi ?_ ?_)
  ·exact⟨Z7,⟨Zr,Zr,⟨rfl,Hm _ (ES _ (hq _))⟩,Zr,Zr,Zr,Tv⟩,Gk (hq _) (ES _ (hq _)),Aw (by kernel_rfl)⟩
  have ey:yR (x.take (i+1))=yR (x.take i)++[x[i]]:=by
   unfold yR;rw[Km,De,Rk (by rw[hy];decide)];rfl
  have zF:(yR (x.take i)).length≤256:=by
   have:=BA (fun r:Rl=>!r.yanked) (x.take i)
   rw[AE]at this;show(List.filter _ _).length≤256;omega
  have hP:∀l,IS (yR (x.take i)) (l+100)=FZ (yR (x.take i)) l:=ES _ (hq _);refine CQ (Classical.em (x[i].path∈AO (yR (x.take i)) [])) (fun hp=>?_) (fun hp=>?_)
  ·refine CC (B1.1 hp) (fun k hk=>?_);have hu:=aX hk;have hl:(Gb (yR (x.take i)) x[i].path).length≤256:=by
    rw[Lm];exact Br (BA _ _) zF
   have pR:k<256:=by
    have:=(Ap.1 hk).1
    have:=G3 (yR (x.take i)) []
    simp only[AG]at this;omega
   have hr:IS (yR (x.take i)) (k+100)=.tok 10 (Gb (yR (x.take i)) x[i].path).length:=by rw[hP,aa hk]
   refine Xi 0 ?_;refine Or.inl (Xi (.slice (.id (k+100) 10) (Gb (yR (x.take i)) x[i].path)) (Yi hu ?_));refine Yi (Nz rfl) ?_;refine PV (e:=150) (m:=9) (es2:=[PZ x[i]]) rfl rfl rfl (fun _ h=>h) hr ⟨rfl,trivial⟩ (by show(_+1)*128≤_;omega) (by show _+1≤_;omega) ?_;refine Yi (IQ ⟨A0 _,A0 _,A0 _,A0 _,A0 _,A0 _,A0 _,A0 _,A0 _,A0 _,A0 _,A0 _,A0 _,A0 _,A0 _,A0 _,D2 (show 49<10000000 by decide),D2 (by show _+100<10000000;omega),D2 (show 12<10000000 by decide),trivial⟩ (by kernel_rfl)) ?_;have e9:EL (Im (yR (x.take i))) (.string x[i].path) (.slice (.id (k+100) 10) (Gb (yR (x.take i)) x[i].path++[PZ x[i]]))=Im (yR (x.take (i+1))):=by rw[ey];exact dZ hk
   have hG:∀l,(bif Nat.beq (l+100) (k+100)then HO.tok 10 ((Gb (yR (x.take i)) x[i].path).length+1)else FZ (yR (x.take i)) l)=FZ (yR (x.take (i+1))) l:=by rw[ey];exact gQ hk
   refine Xi ⟨[(2,.ref 2 0),(5,.ref 16 0),(18,sl Ag x),(19,vi (x.map Ag).length),(20,vi i)],[(2,.ro (Ic x ifs)),(12,.mapU CM (Im (yR (x.take (i+1))))),(13,.map CM []),(14,.map DQ []),(16,.cells [sl AI roots,.mref 12,.mref 13,.v (.slice none 0 0),.v (.slice none 0 0),.mref 14,vb false,.v (.slice none 0 0),.v (.slice none 0 0),.v (.slice none 0 0)])],IS (yR (x.take (i+1)))⟩ (Yi ?_ ?_)
   ·refine⟨Z5,⟨Zr,⟨Ac (HO.mapU CM) e9,Hm _ (ES _ (hq _))⟩,Zr,Zr,Zr,Tv⟩,Gk (hq _) (fun l=>?_),Vr (fun n=>?_)⟩
    ·show(bif Nat.beq (l+100) (k+100)then HO.tok 10 ((Gb (yR (x.take i)) x[i].path).length+1)else IS (yR (x.take i)) (l+100))=_;rw[hP];exact hG l
    ·exact Zd (y:=yR (x.take i)) (show k+100<1000 by omega)
   refine Xi 0 ?_;refine Yi (Ii i (by omega)) ?_;refine Xi ⟨i+1,by omega⟩ ?_;exact⟨Dl x.length i (by omega),Z5,⟨Zr,⟨rfl,Hm _ (ES _ (hq _))⟩,Zr,Zr,Zr,Tv⟩,Gk (hq _) (ES _ (hq _)),Aw (by kernel_rfl)⟩
  ·have Lb:(AO (yR (x.take i)) []).length≤256:=by
    have:=G3 (yR (x.take i)) []
    simp only[AG]at this;omega
   have hn:=Uq hp;have hr:IS (yR (x.take i)) ((AO (yR (x.take i)) []).length+100)=.free:=by
    rw[hP];unfold FZ;rw[A2 (Al _)]
   refine Xi ((AO (yR (x.take i)) []).length+100) ?_;refine Or.inr (Yi hn ?_);refine Yi (Nz rfl) ?_;refine PU (e:=150) (m:=9) (es2:=[PZ x[i]]) rfl rfl rfl (fun _ h=>h) hr rfl ⟨rfl,trivial⟩ (by show 1*128≤_;omega) (by show 1≤_;omega) ?_;refine Yi (IQ ⟨A0 _,A0 _,A0 _,A0 _,A0 _,A0 _,A0 _,A0 _,A0 _,A0 _,A0 _,A0 _,A0 _,A0 _,A0 _,A0 _,D2 (show 49<10000000 by decide),D2 (by show _+100<10000000;omega),D2 (show 12<10000000 by decide),trivial⟩ (by kernel_rfl)) ?_;have e9:EL (Im (yR (x.take i))) (.string x[i].path) (.slice (.id ((AO (yR (x.take i)) []).length+100) 10) [PZ x[i]])=Im (yR (x.take (i+1))):=by rw[ey];exact dY hp
   have hG:∀l,(bif Nat.beq (l+100) ((AO (yR (x.take i)) []).length+100)then HO.tok 10 1 else FZ (yR (x.take i)) l)=FZ (yR (x.take (i+1))) l:=by rw[ey];exact gP hp
   refine Xi ⟨[(2,.ref 2 0),(5,.ref 16 0),(18,sl Ag x),(19,vi (x.map Ag).length),(20,vi i)],[(2,.ro (Ic x ifs)),(12,.mapU CM (Im (yR (x.take (i+1))))),(13,.map CM []),(14,.map DQ []),(16,.cells [sl AI roots,.mref 12,.mref 13,.v (.slice none 0 0),.v (.slice none 0 0),.mref 14,vb false,.v (.slice none 0 0),.v (.slice none 0 0),.v (.slice none 0 0)])],IS (yR (x.take (i+1)))⟩ (Yi ?_ ?_)
   ·refine⟨Z5,⟨Zr,⟨Ac (HO.mapU CM) e9,Hm _ (ES _ (hq _))⟩,Zr,Zr,Zr,Tv⟩,Gk (hq _) (fun l=>?_),Vr (fun n=>?_)⟩
    ·show(bif Nat.beq (l+100) ((AO (yR (x.take i)) []).length+100)then HO.tok 10 1 else IS (yR (x.take i)) (l+100))=_;rw[hP];exact hG l
    ·exact Zd (y:=yR (x.take i)) (show(AO (yR (x.take i)) []).length+100<1000 by omega)
   refine Xi 0 ?_;refine Yi (Ii i (by omega)) ?_;refine Xi ⟨i+1,by omega⟩ ?_;exact⟨Dl x.length i (by omega),Z5,⟨Zr,⟨rfl,Hm _ (ES _ (hq _))⟩,Zr,Zr,Zr,Tv⟩,Gk (hq _) (ES _ (hq _)),Aw (by kernel_rfl)⟩
 ·intro h;have h:¬(i:Int)<(x.map Ag).length:=h;have h:¬i<x.length:=by simpa using h
  have et:x.take i=x:=AD (by omega);have eM:∀hh:Nat→HO,QM hh (Im (yR (x.take i)))=(AO (yR x) []).map (kC x):=fun hh=>by
   rw[et];unfold QM Im;rw[BG];refine CU fun j=>?_;rw[AF,AF,List.getElem?_zipIdx];cases (AO (yR x) [])[j]? with
   |none=>rfl
   |some q=>show some (Value.string q,AV.slice .none (Gb (yR x) q))=_;rw[YM];rfl
  refine Xi ⟨[(2,.ref 2 0),(5,.ref 16 0)],[(2,.ro (Ic x ifs)),(12,.mapU CM (Im (yR (x.take i)))),(13,.map CM []),(14,.map DQ []),(16,.cells [sl AI roots,.mref 12,.mref 13,.v (.slice none 0 0),.v (.slice none 0 0),.mref 14,vb false,.v (.slice none 0 0),.v (.slice none 0 0),.v (.slice none 0 0)])],IS (yR (x.take i))⟩ (Yi ?_ ?_)
  ·exact⟨Z2,⟨Zr,⟨rfl,Hm _ (ES _ (hq _))⟩,Zr,Zr,Zr,Tv⟩,Gk (hq _) (ES _ (hq _)),Aw (by kernel_rfl)⟩
  refine Xi 0 ?_;refine Xi {p:List ByteArray×List ByteArray×Option (Value×AV) // (p.1++p.2.1).Perm (AO (yR x) [])} (Xi (fun p=>⟨[(2,.ref 2 0),(5,.ref 16 0),(56,.ref 56 0)],[(2,.ro (Ic x ifs)),(12,.rom CM ((AO (yR x) []).map (kC x))),(13,.map CM (p.1.1.map (kA x))),(14,.map DQ []),(16,.cells [sl AI roots,.mref 12,.mref 13,.slice (.id 90 6) [],.slice (.id 91 1) [],.mref 14,vb false,.slice (.id 93 10) [],.slice (.id 94 4) [],.v (.slice none 0 0)]),(56,.iter ((AO (yR x) []).map (kC x)) (p.1.2.1.map (kC x)) p.1.2.2),(90,.tok 6 0),(91,.tok 1 0),(93,.tok 10 0),(94,.tok 4 0)],Aa⟩) (Xi (fun p=>p.1.2.1.length) (Yi (Xi ⟨([],AO (yR x) [],none),.refl _⟩ ?_) ?_)))
  ·refine⟨Z3,⟨Zr,⟨Ac (HO.rom CM) (eM _),rfl⟩,Zr,Zr,Zr,⟨?_,rfl⟩,Zr,Zr,Zr,Zr,Tv⟩,Fh,Vr (fun n=>?_)⟩
   ·show HO.iter (QM _ (Im (yR (x.take i)))) (QM _ (Im (yR (x.take i)))) none=_;rw[eM]
   ·exact Zq (yR (x.take i)) n
  intro⟨⟨done,rem,Fs⟩,r1⟩;have r1:(done++rem).Perm (AO (yR x) []):=r1;refine Xi 0 ?_;refine Yi ?_ ?_
  ·intro hr;have hr:rem.map (kC x)=[]:=hr;have hr:rem=[]:=D0.1 hr;subst hr;rw[BT]at r1;refine Xi ⟨[(5,.ref 16 0)],[(14,.map DQ []),(16,.cells [sl AI roots,.cmap CM (mC x),.cmap CM (done.map (kA x)),.slice (.id 90 6) [],.slice (.id 91 1) [],.mref 14,vb false,.slice (.id 93 10) [],.slice (.id 94 4) [],.msl 92 0]),(90,.tok 6 0),(91,.tok 1 0),(92,.arr 1 []),(93,.tok 10 0),(94,.tok 4 0)],Aa⟩ (Yi ⟨Z1,Z7,Fh,Aw (by kernel_rfl)⟩ ?_)
   refine Xi 0 ?_;exact Xi _ (Yi (.refl _) (Xi done (Yi r1 (Yi rfl rfl))))
  ·intro kv Ny hp;refine CC (jE hp) (fun t hp=>CC hp (fun r hp=>?_));have e1:=hp.1;have e2:=hp.2.1;subst e1;subst e2;have hp:=hp.2.2;refine Xi ⟨[(2,.ref 2 0),(5,.ref 16 0),(56,.ref 56 0)],[(2,.ro (Ic x ifs)),(12,.rom CM ((AO (yR x) []).map (kC x))),(13,.map CM (done.map (kA x))),(14,.map DQ []),(16,.cells [sl AI roots,.mref 12,.mref 13,.slice (.id 90 6) [],.slice (.id 91 1) [],.mref 14,vb false,.slice (.id 93 10) [],.slice (.id 94 4) [],.v (.slice none 0 0)]),(56,.iter ((AO (yR x) []).map (kC x)) (r.map (kC x)) (some (kC x t))),(90,.tok 6 0),(91,.tok 1 0),(93,.tok 10 0),(94,.tok 4 0)],Aa⟩ (Yi ⟨Z3,Z10,Fh,Aw (by kernel_rfl)⟩ ?_)
   refine Xi 0 ?_;refine Xi ⟨[(2,.ref 2 0),(5,.ref 16 0),(10,vs t),(56,.ref 56 0)],[(2,.ro (Ic x ifs)),(12,.rom CM ((AO (yR x) []).map (kC x))),(13,.map CM (done.map (kA x))),(14,.map DQ []),(16,.cells [sl AI roots,.mref 12,.mref 13,.slice (.id 90 6) [],.slice (.id 91 1) [],.mref 14,vb false,.slice (.id 93 10) [],.slice (.id 94 4) [],.v (.slice none 0 0)]),(56,.iter ((AO (yR x) []).map (kC x)) (r.map (kC x)) (some (kC x t))),(90,.tok 6 0),(91,.tok 1 0),(93,.tok 10 0),(94,.tok 4 0)],Aa⟩ (Yi ⟨Z4,Z10,Fh,Aw (by kernel_rfl)⟩ ?_)
   refine Xi 0 ?_;have QH:(done++rem).Nodup:=r1.nodup_iff.2 (EH _ [] E2);have uG:t∉done:=fun hc=>(F4.1 QH).2.2 t hc t (hp.mem_iff.2 (Ab ..)) rfl;have em:EL (done.map (kA x)) (.string t) (sl Ao (BZ x t))=(done++[t]).map (kA x):=by
    rw[LV (fun a ha=>uG (VJ.1 ha).1),Az];rfl
   have Tu:((done++[t])++r).Perm (AO (yR x) []):=by
    rw[BF];exact(List.Perm.append_left _ hp.symm).trans r1
   refine Yi (Nz rfl) ?_;refine Xi _ (Yi (sR x ifs t (c84 x ifs hx)) ?_);refine Yi (by kernel_rfl) ?_;refine Xi ⟨(done++[t],r,some (kC x t)),Tu⟩ ?_;exact⟨by show r.length<rem.length;rw[hp.length_eq,Ay];omega,Z3,⟨Zr,Zr,⟨Ac (HO.map CM) em,rfl⟩,Zr,Zr,Zr,Zr,Zr,Zr,Zr,Tv⟩,Fh,Aw (by kernel_rfl)⟩
end Go.Eng
namespace Go.Eng
open Go.Proofs
theorem X9{x:List Rl}(h0:AU x=0){p:ByteArray}(h:p∉AO (yR x) []):BZ x p=[]:=by
 rw[az h0]
 have:x.filter (Zm p)=[]:=by
  rw[G6];intro r hr hc;unfold Zm at hc;rw[Ae,Au]at hc;exact h ((G4 _ _ _).2 (.inr ⟨r,BH.2 ⟨hr,hc.2⟩,hc.1⟩))
 rw[this];rfl
theorem md{x:List Rl}{roots:List Rq}(hx:∀r∈x,JL r)(hr:∀q∈roots,NJ q)(h0:AU x=0)(h1:BL roots=0){l:List ByteArray}(hl:l.Perm (AO (yR x) [])):sc x roots (mC x) (l.map (kA x)) where
 hx:=h0
 hr:=h1
 fx:=hx
 fr:=hr
 c1:=qr x
 c2:=qt x
 c3:=qu x
 av p:=by
  by_cases hp:p∈l
  ·exact⟨sl Ao (BZ x p),fun a ha=>(VJ.1 ha).2,fun hn=>(hn _ (VJ.2 ⟨hp,rfl⟩)).elim,fun h=>oO p (BZ x p) (Rw x p)⟩
  ·refine⟨.v (.slice none 0 0),fun a ha=>(hp (VJ.1 ha).1).elim,fun _=>rfl,fun h=>?_⟩;have e:=X9 h0 (fun hc=>hp (hl.mem_iff.2 hc));have hc:=oO p (BZ x p) (Rw x p);rw[e]at hc⊢;exact I2.args hc ⟨.refl _,.nil,trivial⟩
section
variable {x:List Rl}{roots:List Rq}{d:List (List Tm)}{i:Nf}
end
section
variable {s:List Sl}{q:Rq}{o:Option ByteArray}
end
section
variable {x:List Rl}{roots:List Rq}{s A:List Sl}{m:Nat}
end
section
variable {N:List Rq}{p:ByteArray}{pl:Int}{o:Rl}
end
abbrev Ix(b:Bool):List AV:=[vb b]
section
variable {l:List Rl}{roots:List Rq}{Cl:List ByteArray}{B:List Bool}
variable {B0:List Bool}{i:Nat}{ch:Bool}
end
section
variable {x l:List Rl}{roots:List Rq}{s:List Sl}
end
end Go.Eng
