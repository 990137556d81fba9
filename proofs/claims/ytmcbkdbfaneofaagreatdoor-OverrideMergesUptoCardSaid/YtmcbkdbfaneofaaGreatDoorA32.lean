/- Lemmas for the claims of this seat, without a condition: part 32 (S8d, S8e, S11, S12, S13, S14, S16, S18, R24, C74, R25, R26, R27, R28, R29, R30, R31). -/
import Derived.Test.YtmcbkdbfaneofaaGreatDoorA31
set_option maxHeartbeats 8000000
namespace Go.Eng
open Go.Proofs
theorem yQ(x:List Rl)(roots:List Rq)(C A:List (Value×AV))(n:Nat)(s:SS)(dec:List Cd)(st:List (List Sk))(p:ByteArray)(n0:Nd)(l:List Nd)(V:AV)(cs:List Cd)(R O:Ks)(hL:uZ x roots C A n dec p n0 l V cs)(hs:J6 x roots s)(JM:st.length=dec.length)
  (Sa:Bm Tryz.prog 119 [.ref 1000 0] (Aq (Js roots C A s dec st) Aa) fun r h'=>r=.tup [vs p,sl Bf (n0::l)]∧h'=Aq (Js roots C A s dec st) Aa)
  (r7:cs=[]) (wy:∀a,(Value.string p,a)∉C) (hR:Eb (Dn x roots n) x p (n0::l) n0 dec st cs s [] []=R) (bu:O=R) :
  Bm Tryz.prog 97 [.ref 1000 0] (Aq (Js roots C A s dec st) Aa) (Zu roots C A O):=by
 obtain⟨hx,hr,hdl,hcl,hcs,hnl,hnq,hnp,hex,hcx,hcq,hcp_,hcr,hcs_,hkey,hinf0,⟨rQ,rR,rS⟩,ih⟩:=hL;have hdl:dec.length≤256:=hdl;have hcl:cs.length≤256:=hcl;have JM:st.length=dec.length:=JM;have r5:∀(i:Nat) (h:i<cs.length),cs[i]∈Cw x p:=fun i h=>by rw[←hcs];exact Ak h
 have qw:∀(i:Nat) (h:i<cs.length),Co (AO (dec++[cs[i]])):=fun i h=>by unfold Co AO;rw[Lm,Ad];simp;omega
 clear hcs
 refine Ct (MZ ⟨[9],[(6,1),(7,3),(145,1)],[],[],[],[],[],[],[],[(300001,500091000),(300026,500091000),(300029,500091000)],[1,2,5,10,11,13,14,15,16,17,19,21,22,23,24,25,26,28,29,31,32,33,35]⟩) [(1000,1000),(1001,1001),(1002,1002),(1003,1003),(1004,1004),(500,2000)] rfl CY hm rfl Tryz.func97 (by kernel_rfl) rfl (Nz rfl) (by kernel_rfl) rfl ?_;refine Yi (show st.length=(st.map AX).length by simp) ?_;refine Xi ⟨[(0,.ref 1000 0)],[(500,.arr 1 (st.map AX)),(1000,.cells (srM roots C A s dec 500 st.length)),(1001,.tok 6 s.infs.length),(1002,.tok 1 s.drv.length),(1003,.map D3 (D5 0 s.infs)),(1004,.dead)],Aa⟩ (Yi ⟨Z1,Z6,Fh,AD (by kernel_rfl)⟩ ?_)
 refine Xi (.gen Zt 0) (Yi rfl (Bm.imp Sa ?_));intro v1 g1 q1;have jD:=q1.1;have jE:=q1.2;subst jD;subst jE;refine Xi ⟨[(0,.ref 1000 0),(4,vs p),(5,sl Bf (n0::l))],[(500,.arr 1 (st.map AX)),(1000,.cells (srM roots C A s dec 500 st.length)),(1001,.tok 6 s.infs.length),(1002,.tok 1 s.drv.length),(1003,.map D3 (D5 0 s.infs)),(1004,.dead)],Aa⟩ (Yi ⟨Z3,Z6,Fh,AD (by kernel_rfl)⟩ ?_)
 refine Yi (fun h2=>?_) (fun h2=>?_)
 ·have h2:(((n0::l).map Bf).length:Int)=(0:Int):=h2;exact absurd h2 (by simp;omega)
 have h2:¬((((n0::l).map Bf).length:Int)=(0:Int)):=h2;refine Xi ⟨[(0,.ref 1000 0),(4,vs p),(5,sl Bf (n0::l)),(6,.slice (.id 6 1) [])],[(6,.tok 1 0),(500,.arr 1 (st.map AX)),(1000,.cells (srM roots C A s dec 500 st.length)),(1001,.tok 6 s.infs.length),(1002,.tok 1 s.drv.length),(1003,.map D3 (D5 0 s.infs)),(1004,.dead)],Aa⟩ (Yi ⟨Z4,Z7,Fh,AD (by kernel_rfl)⟩ ?_)
 refine Yi (fun a ha=>?_) (fun Sc=>?_)
 ·exact absurd ha (wy a)
 refine Xi {q:Nat×SS×List Nat×List Sk // q.1≤cs.length∧Eb (Dn x roots n) x p (n0::l) n0 dec st (cs.drop q.1) q.2.1 q.2.2.1 q.2.2.2=R∧J6 x roots q.2.1∧(∀r∈q.2.2.1,r<q.2.1.drv.length)∧q.2.2.1.length≤q.1∧q.2.2.2.length≤q.1} (Xi (fun q=>⟨[(0,.ref 1000 0),(4,vs p),(5,sl Bf (n0::l)),(6,.slice (.id 6 1) (q.1.2.2.1.map BV)),(7,.slice (.id 7 3) (q.1.2.2.2.map B3)),(32,.v (.slice none 0 0)),(33,vi 0),(34,vi q.1.1)],[(6,.tok 1 q.1.2.2.1.length),(7,.tok 3 q.1.2.2.2.length),(500,.arr 1 (st.map AX)),(1000,.cells (srM roots C A q.1.2.1 dec 500 st.length)),(1001,.tok 6 q.1.2.1.infs.length),(1002,.tok 1 q.1.2.1.drv.length),(1003,.map D3 (D5 0 q.1.2.1.infs)),(1004,.dead)],Aa⟩) (Xi (fun q=>cs.length-q.1.1) (Yi (Xi ⟨(0,s,[],[]),AG _,hR,hs,fun r h=>(by cases h),Al _,Al _⟩ ?_) ?_)))
 ·exact⟨Z8,Z8,Fh,AD (by kernel_rfl)⟩
 intro⟨⟨i,S,rs,sk⟩,j1,j2,j3,j4,j5,j6⟩;have j1:i≤cs.length:=j1;have j2:Eb (Dn x roots n) x p (n0::l) n0 dec st (cs.drop i) S rs sk=R:=j2;have j3:J6 x roots S:=j3;have j4:∀r∈rs,r<S.drv.length:=j4;have j5:rs.length≤i:=j5;have j6:sk.length≤i:=j6;have hw:=j3.dl;have hJ:∀t∈S.drv,fI t:=fun t ht=>by have q:=j3.der.few hx hr t ht;exact⟨Fr q,q.2⟩
 refine Yi (fun h3=>?_) (fun h3=>?_)
 ·have h3:(i:Int)<(0:Int):=h3;exact absurd h3 (by have q:=j1;rw[r7,Ay]at q;omega)
 have h3:¬((i:Int)<(0:Int)):=h3;refine Xi (Bf n0) (Yi (Yi (show(0:Int)≤0 by decide) rfl) (Yi rfl ?_));refine Yi (Nz rfl) ?_;refine Xi (.gen Zt 0) (Yi rfl (Bm.imp (s91 x roots C A S dec st p n0 rs V hx hr j3 hinf0 j4 (by omega) (hnq n0 (Ac ..)) (hnp n0 (Ac ..)) rQ rR rS) ?_));intro v4 g4 q4;have yx:=q4.1;have yy:=q4.2;subst yx;subst yy;have hj:¬i<cs.length:=by rw[r7];simp
 have eR:R=⟨(Ed x p n0 rs S).1,false,(Ed x p n0 rs S).2,dec,st⟩:=by rw[←j2];exact ge hj
 exact Xi _ (Yi (.refl _) (NT (bu.trans eR)))
theorem yT(roots:List Rq)(C A:List (Value×AV))(s:SS)(dec:List Cd)(st:List (List Sk))(p:ByteArray)(N:List Nd)(O:Ks)(hN:N=[])
  (Sa:Bm Tryz.prog 119 [.ref 1000 0] (Aq (Js roots C A s dec st) Aa) fun r h'=>r=.tup [vs p,sl Bf N]∧h'=Aq (Js roots C A s dec st) Aa) (hO:O=⟨0,true,s,dec,st⟩) :
  Bm Tryz.prog 97 [.ref 1000 0] (Aq (Js roots C A s dec st) Aa) (Zu roots C A O):=by
 refine Ct (MZ ⟨[],[],[],[],[],[],[],[],[],[(300001,500091000)],[1,2,5,10,11,13,14,15,16,17,19,21,22,23,25,28,29,31,32,33,35]⟩) [(1000,1000),(1001,1001),(1002,1002),(1003,1003),(1004,1004),(500,2000)] rfl CY hm rfl Tryz.func97 (by kernel_rfl) rfl (Nz rfl) (by kernel_rfl) rfl ?_;refine Yi (show st.length=(st.map AX).length by simp) ?_;refine Xi ⟨[(0,.ref 1000 0)],[(500,.arr 1 (st.map AX)),(1000,.cells (srM roots C A s dec 500 st.length)),(1001,.tok 6 s.infs.length),(1002,.tok 1 s.drv.length),(1003,.map D3 (D5 0 s.infs)),(1004,.dead)],Aa⟩ (Yi ⟨Z1,Z6,Fh,AD (by kernel_rfl)⟩ ?_)
 refine Xi (.gen Zt 0) (Yi rfl (Bm.imp Sa ?_));intro v1 g1 q1;have jD:=q1.1;have jE:=q1.2;subst jD;subst jE;refine Xi ⟨[(0,.ref 1000 0),(4,vs p),(5,sl Bf N)],[(500,.arr 1 (st.map AX)),(1000,.cells (srM roots C A s dec 500 st.length)),(1001,.tok 6 s.infs.length),(1002,.tok 1 s.drv.length),(1003,.map D3 (D5 0 s.infs)),(1004,.dead)],Aa⟩ (Yi ⟨Z3,Z6,Fh,AD (by kernel_rfl)⟩ ?_)
 refine Yi (fun h2=>?_) (fun h2=>?_)
 ·have h2:((N.map Bf).length:Int)=(0:Int):=h2;exact Xi _ (Yi (.refl _) (NT (st:=st) hO))
 have h2:¬(((N.map Bf).length:Int)=(0:Int)):=h2;exact absurd (by rw[hN];rfl) h2
section
variable {x:List Rl}{roots:List Rq}{p:ByteArray}
theorem IH:∀(l:List Nat) {k:Nat} {s:SS},s.infs.Nodup→(Cs p l k s).2.infs.Nodup
 | [],_,_,h=>h
 |r::l,k,s,h=>by
  unfold Cs;split
  ·exact h
  split
  ·exact IH l h
  split
  ·exact IH l h
  ·exact IH l (Is h)
theorem Ln{needs:List Nd}{n0:Nd}{dec:List Cd}{st:List (List Sk)}{rec:List Cd→SS→List (List Sk)→Ks}(dn:∀c s st,s.infs.Nodup→(rec (dec++[c]) s st).ss.infs.Nodup) :
  ∀(cs:List Cd) {s:SS} {rs:List Nat} {sk:List Sk},s.infs.Nodup→(Eb rec x p needs n0 dec st cs s rs sk).ss.infs.Nodup
 | [],s,rs,sk,h=>IH _ (Is (Is h))
 |c::cs,s,rs,sk,h=>by
  have nX:∀(s' : SS) (k:Nat),s'.infs.Nodup→(Ka rec x p needs n0 dec st c cs rs sk k s').ss.infs.Nodup:=fun s' k h'=>by
   unfold Ka;split
   ·exact h'
   ·exact Ln dn cs h'
  rw[GE];split
  ·exact h
  cases needs.find? fun n=>!has n.rq.set c.place with
  |some n=>exact Ln dn cs (Is h)
  |none =>
   dsimp only;cases OZ s.drv (AO (dec++[c]))with
   |some k=>exact nX s k h
   |none =>
    dsimp only;cases Ei dec c with
    |some n=>exact nX _ _ (Is h)
    |none =>
     dsimp only;have h2:=dn c s (st++[sk]) h;split
     ·exact h2
     split
     ·exact h2
     ·exact nX _ _ h2
theorem PR:∀(n:Nat) {dec:List Cd} {s:SS} {st:List (List Sk)},s.infs.Nodup→(Dn x roots n dec s st).ss.infs.Nodup
 |0,_,_,_,h=>h
 |n+1,dec,s,st,h=>by
  unfold Dn;cases (G1 roots dec).2 with
  |nil=>exact h
  |cons n0 l=>exact Ln (fun c s st h=>PR n h) _ h
structure uY(x:List Rl)(roots:List Rq)(C A:List (Value×AV)):Prop where
 hx:A9 x=0
 hr:By roots=0
 fx:∀r∈x,J4 r
 fr:∀q∈roots,NU q
 c1:∀(p:ByteArray) (a:AV),(Value.string p,a)∈C→a=sl AI (Cw x p)
 c2:∀p:ByteArray,(∀a,(Value.string p,a)∉C)→Cw x p=[]
 c3:∀p:ByteArray,Cw x p=[]→∀a,(Value.string p,a)∉C
 av:∀p:ByteArray,∃V,HV x A p V
theorem oR{dec:List Cd}(h:∀c∈dec,c.rel.reqs.length≤16):((dec.map fun c=>c.rel.reqs).flatten).length≤16*dec.length:=by
 induction dec with
 |nil=>simp
 |cons c dec ih =>
  rw[AS,BJ,Ad,Au]
  have:=h c (Ac ..)
  have:=ih fun d hd=>h d (Af _ hd)
  omega
theorem pR{r:Rl}(h:SN r):0≤plc r.ver∧plc r.ver<1000000:=by rw[h.plc];exact JU h.val
theorem dO(dec:List Cd):(G1 roots dec).2.length≤(DD roots dec).length:=by
 rw[Ua];cases K4 (Ie roots dec) (AO dec)with
 |none=>simp
 |some q=>exact BB _ _
theorem s45{C A:List (Value×AV)}(hE:uY x roots C A)(oV:H64 roots C A):∀(n:Nat) {dec:List Cd} {s:SS} {st:List (List Sk)},ER x dec→Ja roots dec→J6 x roots s→s.full=false→Ry x dec<n→st.length=dec.length →
  Bm Tryz.prog 97 [.ref 1000 0] (Aq (Js roots C A s dec st) Aa) (Zu roots C A (Dn x roots n dec s st))
 |0,_,_,_,_,_,_,_,h,_=>by omega
 |n+1,dec,s,st,hd,dp,hs,hf,hn,JM=>by
  have hx:=hE.hx;have hr:=hE.hr;have nB:=Qy hx;have hdl:=XU hd;have wV:dec.length≤256:=by have:=nB.1;omega
  have W4:∀c∈dec,c.rel.reqs.length≤16:=fun c hc=>nB.2 _ (hd.cand c hc).1;have Sa:=oV s dec st (by omega) fun c hc=>A3 (W4 c hc) (by decide);generalize hO:Dn x roots (n+1) dec s st=O;obtain⟨N,hN⟩:∃N,N=(G1 roots dec).2:=⟨_,rfl⟩;obtain⟨q,hq⟩:∃q,q=(G1 roots dec).1:=⟨_,rfl⟩;rw[←hN,←hq]at Sa;have hNl:N.length≤10000:=by
   have h1:=dO (roots:=roots) dec;have h2:(DD roots dec).length=(Ie roots dec).length:=by rw[←M9,Lm]
   have h3:=oR W4;have h4:=PM hr;rw[←hN]at h1;unfold Ie at h2;rw[Ad]at h2;omega
  cases hNc:N with
  |nil =>
   rw[hNc]at hN Sa;refine yT roots C A s dec st q [] O rfl Sa ?_;rw[←hO];unfold Dn;rw[←hN]
  |cons n0 l =>
   rw[hNc]at hN Sa;have m8:=Oo hN.symm;rw[←hq]at m8;have Sb:∀nd∈n0::l,nd∈DD roots dec:=fun nd h=>((m8.mem nd).1 h).1;have GW:=(Dc hx).1;have few:∀{E:List Cd},ER x E→∀nd∈DD roots E,Co nd.rq.set∧Bu (nd.place+1):=fun hE' nd h=>by
    rcases MF h with ⟨k,r,h1,rfl⟩ | ⟨c,hc,k,r,h1,rfl⟩
    ·exact⟨(hE.fr r (AA h1)).1,by unfold Bu;show -9223372036854775808≤(0:Int)+1∧(0:Int)+1<9223372036854775808;decide⟩
    ·have h2:=hE'.cand c hc;have h3:=pR (GW _ h2.1);rw[←h2.2.2]at h3;exact⟨((hE.fx _ h2.1).2 r (AA h1)).1,by unfold Bu;show _≤c.place+1∧c.place+1<_;omega⟩
   have ny:∀c∈Cw x q,ER x (dec++[c])∧c.rel.path=q∧c.rel∈x:=fun c hc=>by
    obtain⟨c1,c2⟩:=Kb hc;exact⟨hd.snoc c2 (by rw[c1];exact m8.undone),c1,c2.1⟩
   have Fy:∀(i:Nat) (h:i<(Cw x q).length),(Cw x q)[i]∈Cw x q:=fun i h=>Ak h;obtain⟨V,hV⟩:=hE.av q
   have hL:uZ x roots C A n dec q n0 l V (Cw x q):={
    hx:=hx
    hr:=hr
    hdl:=wV
    hcl:=A3 (Vo x q) nB.1
    hcs:=rfl
    hnl:=by rw[hNc]at hNl;omega
    hnq:=fun nd h=>(few hd nd (Sb nd h)).1
    hnp:=fun nd h=>(few hd nd (Sb nd h)).2
    hex:=fun i h nd hm hh=>by
     obtain⟨a,b,_⟩:=ny _ (Fy i h);exact⟨(PB hx hr a (Ol (Sb nd hm)) ⟨(Cw x q)[i],by simp,b.trans ((m8.mem nd).1 hm).2.symm,hh⟩).1,trivial⟩
    hcx:=fun i h nc hc=>by
     obtain⟨a,b,_⟩:=ny _ (Fy i h);obtain⟨m1,m2⟩:=Lr hc;exact⟨(PB hx hr a (Na m1) m2).1,trivial⟩
    hcq:=fun i h nc hm=>(few (ny _ (Fy i h)).1 nc (Na hm)).1
    hcp_:=fun i h nc hm=>(few (ny _ (Fy i h)).1 nc (Na hm)).2
    hcr:=fun i h=>by have:=nB.2 _ (ny _ (Fy i h)).2.2;omega
    hcs_:=fun i h r hm=>((hE.fx _ (ny _ (Fy i h)).2.2).2 r hm).1
    hkey:=fun i h=>by
     have b:=(ny _ (Fy i h)).2.1;unfold AO;rw[AH,AH];show _=_++[[vs (Cw x q)[i].rel.path,vi (Cw x q)[i].rel.ver.a,vi (Cw x q)[i].rel.ver.b,vi (Cw x q)[i].rel.ver.c]];rw[b]
    hinf0:=(Sr hx hr hd (Sb n0 (Ac ..)) (.inl (by
     rw[((m8.mem n0).1 (Ac ..)).2];exact HZ (by rw[Gf];exact m8.undone)))).inf
    hV:=hV
    ih:=fun c hc xk S Ej hl hS zv=>by
     obtain⟨a,b,c3⟩:=ny c hc;obtain⟨k1,k2⟩:=PI.1 xk;obtain⟨_,c2⟩:=Kb hc;have nw:=dp.snoc m8 b k1 k2;have nl:Ry x (dec++[c])<n:=by have:=Tz (dec:=dec) ⟨c2.1,c2.2.1⟩ (by rw[b];exact m8.undone);omega
     have h1:=s45 hE oV n a nw hS zv nl (st:=Ej) (by rw[hl];simp);have h2:=QX hx hr n a nw hS.der zv nl (st:=Ej);exact⟨h1,⟨h2.der,PR n hS.nodup⟩,⟨h2.grow.len,fun e1 e2=>((h2.no e1).2.2 e2).1⟩,fun e1=>(h2.no e1).2.1⟩ }
   have hR:Eb (Dn x roots n) x q (n0::l) n0 dec st (Cw x q) s [] []=O:=by
    rw[←hO]
    conv=>rhs;unfold Dn
    rw[←hN,hq]
   by_cases hm:∀a,(Value.string q,a)∉C
   ·exact yQ x roots C A n s dec st q n0 l V (Cw x q) O O hL hs JM Sa (hE.c2 q hm) hm hR rfl
   ·exact yP x roots C A n s dec st q n0 l V (Cw x q) O O hL hs JM Sa (hE.c1 q) hm hR rfl
end
theorem yS{x:List Rl}{roots:List Rq}{C A:List (Value×AV)}(hE:uY x roots C A)(n:Nat){dec:List Cd}{s:SS}{st:List (List Sk)}(h1:ER x dec)(h2:Ja roots dec)(h3:J6 x roots s)(h4:s.full=false)(h5:Ry x dec<n)(h6:st.length=dec.length) :
  Bm Tryz.prog 97 [.ref 1000 0] (Aq (Js roots C A s dec st) Aa) (Zu roots C A (Dn x roots n dec s st)) :=
 s45 hE (fun s dec st a b=>s64 roots C A s dec st (A3 (PM hE.hr) (by decide)) a b) n h1 h2 h3 h4 h5 h6
def G6(x:List Rl)(roots:List Rq):Bool:=decide (A9 x=0)&&decide (By roots=0)
theorem uS(x:List Rl)(ifs:List (List AV))(roots:List Rq)(hx:∀r∈x,J4 r)(hr:∀q∈roots,NU q):PC 95 [.agg (Ic x ifs),sl AN roots] (vb (G6 x roots)):=by
 refine Ps ⟨[2],[],[],[],[],[],[],[],[],[],[]⟩ Tryz.func95 rfl (Nz rfl) ?_;refine Yi (Nz rfl) ?_;refine Xi .pure (Xi _ (Yi (ru ZG x ifs hx) ?_));refine Yi (fun h1=>?_) (fun h1=>?_)
 ·have h1:((A9 x):Int)=(0:Int):=h1;refine Xi .pure (Xi _ (Yi (za ZG roots hr) ?_));refine Yi (fun h2=>?_) (fun h2=>?_)
  ·have h2:((By roots):Int)=(0:Int):=h2;exact .of_eq (show vb true=vb (G6 x roots) by unfold G6;rw[h1,h2];rfl)
  have h2:¬(((By roots):Int)=(0:Int)):=h2;exact .of_eq (show vb false=vb (G6 x roots) by unfold G6;rw[Aj h2,Cz])
 have h1:¬(((A9 x):Int)=(0:Int)):=h1;exact .of_eq (show vb false=vb (G6 x roots) by unfold G6;rw[Aj h1];rfl)
abbrev Ru(r:Rl):List AV:=AI ⟨plc r.ver,r⟩
abbrev GN(y:List Rl)(p:ByteArray):List (List AV):=(y.filter fun r=>decide (r.path=p)).map Ru
abbrev Yd(y:List Rl)(q:ByteArray×Nat):Value×AV:=(.string q.1,.slice (.id (q.2+100) 10) (GN y q.1))
abbrev IU(y:List Rl):List (Value×AV):=(AT y []).zipIdx.map (Yd y)
def Gy(y:List Rl)(l:Nat):HO:=match(AT y [])[l]? with
 |some q=>.tok 10 (GN y q).length
 |none=>.free
def Jn(y:List Rl)(j:Nat):HO:=bif Nat.ble 100 j&&Nat.blt j 1000 then Gy y (j-100)else .free
theorem Fg(y:List Rl)(hy:y.length≤256)(l:Nat):Jn y (l+100)=Gy y l:=by
 unfold Jn;rw[show Nat.ble 100 (l+100)=true by rw[Do];omega,EP,Nat.add_sub_cancel]
 by_cases h:l+100<1000
 ·rw[show Nat.blt (l+100) 1000=true by rw[Cr];exact h];rfl
 ·rw[show Nat.blt (l+100) 1000=false by rw[AF];intro hc;rw[Cr]at hc;omega]
  have:=HE y []
  rw[Ay]at this;unfold Gy;rw[A8 (by omega)];rfl
theorem lw(y:List Rl){j:Nat}(h:j<100):Jn y j=.free:=by
 unfold Jn;rw[show Nat.ble 100 j=false by rw[AF];intro hc;rw[Do]at hc;omega];rfl
theorem HD(y:List Rl)(r:Rl)(q:ByteArray):GN (y++[r]) q=if r.path=q then GN y q++[Ru r]else GN y q:=by
 unfold GN;rw[DZ]
 by_cases h:r.path=q
 ·rw[Ax h,SK (by simpa using h)];simp
 ·rw[Ao h,SJ (by simpa using h)];simp
section
variable {y:List Rl}{r:Rl}{k:Nat}
open Classical in
theorem gO(h:(AT y [])[k]?=some r.path):E7 (IU y) (.string r.path) (.slice (.id (k+100) 10) (GN y r.path++[Ru r]))=IU (y++[r]):=by
 have hd:=E4 y [] Fu;have hm:Yd y (r.path,k)∈IU y:=Ar.2 ⟨_,FR.2 h,rfl⟩;rw[YU (a':=.slice (.id (k+100) 10) (GN y r.path)) hm];unfold IU;rw[JC h,BW];refine Bn fun q hq=>?_;have hg:=IK hq;obtain⟨q,j⟩:=q;show(if Value.string q=Value.string r.path then _ else _)=Yd (y++[r]) (q,j);have hg:(AT y [])[j]?=some q:=hg
 by_cases he:q=r.path
 ·subst he
  have:j=k:=Jz hd hg h
  subst this;rw[Ax rfl];show _=(Value.string r.path,AV.slice (.id (j+100) 10) (GN (y++[r]) r.path));rw[HD,Ax rfl]
 ·rw[Ao (fun e=>he (by simpa using e))];show(Value.string q,AV.slice (.id (j+100) 10) (GN y q))=(Value.string q,AV.slice (.id (j+100) 10) (GN (y++[r]) q));rw[HD,Ao (fun e=>he e.symm)]
theorem Y1(h:r.path∉AT y []):GN y r.path=[]:=by
 have:y.filter (fun s=>decide (s.path=r.path))=[]:=by
  rw[HI];intro s hs he;exact h ((HF y [] r.path).2 (.inr ⟨s,hs,BD he⟩))
 unfold GN;rw[this];rfl
theorem VC(h:r.path∉AT y [])(a:AV):(Value.string r.path,a)∉IU y:=by
 intro hc;obtain⟨q,h1,h2⟩:=Ar.1 hc;simp only[Yd,F9,Value.string.injEq]at h2;exact h (by rw[←h2.1];exact AA (IK h1))
theorem gN(h:r.path∉AT y []):E7 (IU y) (.string r.path) (.slice (.id ((AT y []).length+100) 10) [Ru r])=IU (y++[r]):=by
 rw[ME (fun a=>VC h a)];unfold IU;rw[JB h,List.zipIdx_append,AH]
 congr 1
 ·refine Bn fun q hq=>?_;have hg:=IK hq
  have:q.1≠r.path:=fun e=>h (by rw[←e];exact AA hg)
  show(Value.string q.1,AV.slice (.id (q.2+100) 10) (GN y q.1))=(Value.string q.1,AV.slice (.id (q.2+100) 10) (GN (y++[r]) q.1));rw[HD,Ao (fun e=>this e.symm)]
 ·show [_]=[(Value.string r.path,AV.slice (.id (0+(AT y []).length+100) 10) (GN (y++[r]) r.path))];rw[HD,Ax rfl,Y1 h,Bk];rfl
theorem de{p:ByteArray}{j:Nat}(h:(AT y [])[j]?=some p):(Value.string p,AV.slice (.id (j+100) 10) (GN y p))∈IU y∧∀b,(Value.string p,b)∈IU y→b=AV.slice (.id (j+100) 10) (GN y p):=by
 refine⟨Ar.2 ⟨(p,j),FR.2 h,rfl⟩,fun b hb=>?_⟩;obtain⟨q,h1,h2⟩:=Ar.1 hb;simp only[Yd,F9,Value.string.injEq]at h2;have hg:=IK h1;rw[h2.1]at hg
 have:=Jz (E4 y [] Fu) hg h
 rw[←h2.2,h2.1,this]
theorem cp{p:ByteArray}{j:Nat}(h:(AT y [])[j]?=some p):Gy y j=.tok 10 (GN y p).length:=by
 unfold Gy;rw[h]
theorem j9(h:(AT y [])[k]?=some r.path)(l:Nat):(bif Nat.beq (l+100) (k+100)then HO.tok 10 ((GN y r.path).length+1)else Gy y l)=Gy (y++[r]) l:=by
 by_cases he:l=k
 ·subst he;rw[show Nat.beq (l+100) (l+100)=true from Dg _];unfold Gy;rw[JC h,h];show HO.tok 10 _=HO.tok 10 (GN (y++[r]) r.path).length;rw[HD,Ax rfl,Ad];rfl
 ·rw[show Nat.beq (l+100) (k+100)=false by rw[AF];intro hc;have:=AP hc;omega];show Gy y l=_;unfold Gy;rw[JC h];cases hq:(AT y [])[l]? with
  |none=>rfl
  |some q =>
   show HO.tok 10 (GN y q).length=HO.tok 10 (GN (y++[r]) q).length;rw[HD,Ao];intro e;subst e;exact he (Jz (E4 y [] Fu) hq h)
theorem j8(h:r.path∉AT y [])(l:Nat):(bif Nat.beq (l+100) ((AT y []).length+100)then HO.tok 10 1 else Gy y l)=Gy (y++[r]) l:=by
 by_cases he:l=(AT y []).length
 ·subst he;rw[show Nat.beq ((AT y []).length+100) ((AT y []).length+100)=true from Dg _];unfold Gy;rw[JB h];simp only[A1 (Al _),EW,Bd];show HO.tok 10 1=HO.tok 10 (GN (y++[r]) r.path).length;rw[HD,Ax rfl,Y1 h];rfl
 ·rw[show Nat.beq (l+100) ((AT y []).length+100)=false by rw[AF];intro hc;have:=AP hc;omega];show Gy y l=_;unfold Gy;rw[JB h]
  by_cases hl:l<(AT y []).length
  ·rw[A4 hl,Ge hl];show HO.tok 10 (GN y (AT y [])[l]).length=HO.tok 10 (GN (y++[r]) (AT y [])[l]).length;rw[HD,Ao];intro e;exact h (by rw[e];exact Ak hl)
  ·rw[A8 (by omega),A8 (by rw[Ad];simp;omega)]
end
theorem HY(y:List Rl){h:Nat→HO}(hh:∀l,h (l+100)=Gy y l):RC h (IU y)=true:=by
 refine Qw fun p hp=>?_;obtain⟨q,h1,rfl⟩:=Ar.1 hp;show Se h (q.2+100)=true;unfold Se;rw[hh,cp (IK h1)]
theorem GV{y:List Rl}(hy:y.length≤256){h h' : Nat→HO}(hh:∀l,h (l+100)=Gy y l)(j:Nat):Jn y j=.free∨(h j=Jn y j∧Yt h' (Jn y j)=true):=by
 by_cases hj:j<100
 ·exact .inl (lw y hj)
 ·obtain⟨l,rfl⟩:∃l,j=l+100:=⟨j-100,by omega⟩
  right
  rw[Fg y hy];refine⟨hh l,?_⟩;unfold Gy;cases (AT y [])[l]?<;>rfl
abbrev yR(x:List Rl):List Rl:=x.filter fun r=>!r.yanked
theorem aA(x:List Rl)(p:ByteArray):GN (yR x) p=(Cw x p).map AI:=by
 unfold GN Cw;rw[List.filter_filter,BW]
 rfl
def mC(x:List Rl):List (Value×AV):=(AT (yR x) []).map fun p=>(.string p,sl AI (Cw x p))
theorem iO{x:List Rl}{p:ByteArray}{a:AV}:(Value.string p,a)∈mC x↔p∈AT (yR x) []∧a=sl AI (Cw x p):=by
 unfold mC;rw[Ar];constructor
 ·rintro⟨q,hq,e⟩
  injection e with e1 e2
  injection e1 with e1
  subst e1;exact⟨hq,e2.symm⟩
 ·rintro⟨h1,h2⟩
  exact⟨p,h1,by rw[h2]⟩
theorem Vp{x:List Rl}{p:ByteArray}:Cw x p=[]↔p∉AT (yR x) []:=by
 rw[HF];unfold Cw;rw[DC,HI];constructor
 ·rintro h (h1 | ⟨r,h1,h2⟩)
  ·cases h1
  ·obtain⟨h3,h4⟩:=Bo.1 h1;exact h r h3 (by rw[At h2,h4];rfl)
 ·intro h r hr hc;rw[Ah,AB]at hc;exact h (.inr ⟨r,Bo.2 ⟨hr,hc.2⟩,hc.1⟩)
theorem s5(x:List Rl):∀(p:ByteArray) (a:AV),(Value.string p,a)∈mC x→a=sl AI (Cw x p):=fun _ _ h=>(iO.1 h).2
theorem s7(x:List Rl):∀p:ByteArray,(∀a,(Value.string p,a)∉mC x)→Cw x p=[]:=fun _ h=>Vp.2 fun hp=>h _ (iO.2 ⟨hp,rfl⟩)
theorem s8(x:List Rl):∀p:ByteArray,Cw x p=[]→∀a,(Value.string p,a)∉mC x:=fun _ h _ ha=>Vp.1 h (iO.1 ha).1
abbrev plN:Sj:=⟨[2],[],[],[(52,[12])],[],[12],[50],[(53,(16,3,90,6)),(54,(16,4,91,1)),(55,(16,7,93,10)),(56,(16,8,94,4))],[],[(850013,13),(800013,10016),(810013,20016),(900013,10000000000+92000000+90016)],[5,7,8,9,11,12,13]⟩
abbrev kC(x:List Rl)(p:ByteArray):Value×AV:=(.string p,sl AI (Cw x p))
abbrev kA(x:List Rl)(p:ByteArray):Value×AV:=(.string p,sl Ag (Ci x p))
theorem l6{x:List Rl}{l:List ByteArray}{kv:Value×AV}{Ou : List (Value×AV)}(h:(l.map (kC x)).Perm (kv::Ou)):∃t r,kv=kC x t∧Ou=r.map (kC x)∧l.Perm (t::r):=by
 obtain⟨ps,h1,h2⟩:=MI h l rfl;cases ps with
 |nil=>cases h2
 |cons t r =>
  rw[AS,FN]at h2;exact⟨t,r,h2.1.symm,h2.2.symm,h1.symm⟩
abbrev srN(roots:List Rq)(C A:List (Value×AV)):List (Nat×HO) :=
 [(2000,.cells [sl AN roots,.cmap Dm C,.cmap Dm A,.slice (.id 2001 6) [],.slice (.id 2002 1) [],.mref 2003,vb false,.slice .none [],.slice .none [],.msl 2004 0]),(2001,.tok 6 0),(2002,.tok 1 0),(2003,.map D3 []),(2004,.arr 1 [])]
theorem W8{x:List Rl}{l:List ByteArray}{p:ByteArray}{a:AV}:(Value.string p,a)∈l.map (kA x)↔p∈l∧a=sl Ag (Ci x p):=by
 rw[Ar];constructor
 ·rintro⟨q,hq,e⟩
  injection e with e1 e2
  injection e1 with e1
  subst e1;exact⟨hq,e2.symm⟩
 ·rintro⟨h1,h2⟩
  exact⟨p,h1,by rw[h2]⟩
theorem bw(y:List Rl)(n:Nat):Jn y (n+1000)=.free:=by
 unfold Jn;rw[show Nat.blt (n+1000) 1000=false by rw[AF];intro hc;rw[Cr]at hc;omega,Cz];rfl
theorem WM{h s:Nat→HO}(H:∀n,h (n+1000)=.free):∀j,1000≤j→j<2000→h j≠.free→s j≠.free:=fun j h1 _ hn=>by
 refine absurd (H (j-1000)) ?_;rw[show j-1000+1000=j by omega];exact hn
theorem kJ{n k:Nat}(h:k<1000):Nat.beq (n+1000) k=false:=by
 rw[AF];intro hc;have:=AP hc;omega
theorem aZ{y:List Rl}{n k:Nat}{o:HO}(h:k<1000):(bif Nat.beq (n+1000) k then o else Jn y (n+1000))=.free:=by
 rw[kJ h,bw];rfl
attribute [local irreducible] IG
set_option maxRecDepth 30000 in
theorem yO(x:List Rl)(ifs:List (List AV))(roots:List Rq)(hx:∀r∈x,J4 r)(h0:A9 x=0):Bm Tryz.prog 96 [RF x ifs,sl AN roots] (Aq [] Aa) fun r h'=>∃l:List ByteArray,l.Perm (AT (yR x) [])∧r=.ref 2000 0∧h'=Aq (srN roots (mC x) (l.map (kA x))) Aa:=by
 have nB:x.length≤256:=(Qy h0).1;refine Ct (MZ plN) [(16,2000),(90,2001),(91,2002),(14,2003),(92,2004)] rfl CY hm rfl Tryz.func96 (by kernel_rfl) rfl (Nz rfl) (by kernel_rfl) rfl ?_;refine Xi 0 ?_;refine Xi 0 ?_;refine Xi 0 ?_;refine Xi {i:Nat // i≤x.length} (Xi (fun i=>⟨[(2,.ref 2 0),(5,.ref 16 0),(18,sl Ai x),(19,vi (x.map Ai).length),(20,vi i.1)],[(2,.ro (Ic x ifs)),(12,.mapU Dm (IU (yR (x.take i.1)))),(13,.map Dm []),(14,.map D3 []),(16,.cells [sl AN roots,.mref 12,.mref 13,.v (.slice none 0 0),.v (.slice none 0 0),.mref 14,vb false,.v (.slice none 0 0),.v (.slice none 0 0),.v (.slice none 0 0)])],Jn (yR (x.take i.1))⟩) (Xi (fun i=>x.length-i.1) (Yi (Xi ⟨0,AG _⟩ ?_) ?_)))
 ·refine⟨Z5,Z5,fun j=>.inl ?_,AD (by kernel_rfl)⟩;show Jn [] j=.free;unfold Jn;cases (Nat.ble 100 j&&Nat.blt j 1000)<;>rfl
 intro⟨i,i1⟩;have i1:i≤x.length:=i1;have hq:∀k,(yR (x.take k)).length≤256:=fun k=>by
  have:=BB (fun r:Rl=>!r.yanked) (x.take k)
  rw[AC]at this;show(List.filter _ _).length≤256;omega
 refine Xi 0 ?_;refine Yi ?_ ?_
 ·intro h;have h:(i:Int)<(x.map Ai).length:=h;have h:i<x.length:=by simpa using h
  have hg:x[i]?=some x[i]:=Ge h;have KW:x.take (i+1)=x.take i++[x[i]]:=by rw[BC,hg];rfl
  refine Xi 0 ?_;refine Xi (Ai x[i]) (Yi (Yi (Nn i) (by simp[hg])) (Yi rfl ?_));refine Yi (Nz rfl) (Yi (Nz rfl) ?_);refine Xi ⟨[(2,.ref 2 0),(5,.ref 16 0),(7,.ref 7 0),(18,sl Ai x),(19,vi (x.map Ai).length),(20,vi i)],[(2,.ro (Ic x ifs)),(7,.cells (Ai x[i])),(12,.mapU Dm (IU (yR (x.take i)))),(13,.map Dm []),(14,.map D3 []),(16,.cells [sl AN roots,.mref 12,.mref 13,.v (.slice none 0 0),.v (.slice none 0 0),.mref 14,vb false,.v (.slice none 0 0),.v (.slice none 0 0),.v (.slice none 0 0)])],Jn (yR (x.take i))⟩ (Yi ?_ ?_)
  ·exact⟨Z6,⟨Zr,Zr,⟨rfl,HY _ (Fg _ (hq _))⟩,Zr,Zr,Zr,Tv⟩,GV (hq _) (Fg _ (hq _)),AD (by kernel_rfl)⟩
  refine Xi 0 ?_;refine Yi (fun hy=>?_) (fun hy=>?_)
  ·have hy:x[i].yanked=true:=hy;have ey:yR (x.take (i+1))=yR (x.take i):=by
    unfold yR;rw[KW,DZ,SJ (by rw[hy];decide)];simp
   refine Xi ⟨[(2,.ref 2 0),(5,.ref 16 0),(18,sl Ai x),(19,vi (x.map Ai).length),(20,vi i)],[(2,.ro (Ic x ifs)),(12,.mapU Dm (IU (yR (x.take (i+1))))),(13,.map Dm []),(14,.map D3 []),(16,.cells [sl AN roots,.mref 12,.mref 13,.v (.slice none 0 0),.v (.slice none 0 0),.mref 14,vb false,.v (.slice none 0 0),.v (.slice none 0 0),.v (.slice none 0 0)])],Jn (yR (x.take (i+1)))⟩ (Yi ?_ ?_)
   ·rw[ey];exact⟨Z5,⟨Zr,⟨rfl,HY _ (Fg _ (hq _))⟩,Zr,Zr,Zr,Tv⟩,GV (hq _) (Fg _ (hq _)),AD (by kernel_rfl)⟩
   refine Xi 0 ?_;refine Yi (Ii i (by omega)) ?_;refine Xi ⟨i+1,by omega⟩ ?_;exact⟨Dl x.length i (by omega),Z5,⟨Zr,⟨rfl,HY _ (Fg _ (hq _))⟩,Zr,Zr,Zr,Tv⟩,GV (hq _) (Fg _ (hq _)),AD (by kernel_rfl)⟩
  have hy:x[i].yanked=false:=hy;refine Xi 0 ?_;refine Yi (Nz rfl) ?_;refine Xi .pure (Xi _ (Yi (t8 x[i].ver) ?_));refine Xi ⟨[(2,.ref 2 0),(5,.ref 16 0),(7,.ref 7 0),(8,vi (plc x[i].ver)),(18,sl Ai x),(19,vi (x.map Ai).length),(20,vi i)],[(2,.ro (Ic x ifs)),(7,.cells (Ai x[i])),(12,.mapU Dm (IU (yR (x.take i)))),(13,.map Dm []),(14,.map D3 []),(16,.cells [sl AN roots,.mref 12,.mref 13,.v (.slice none 0 0),.v (.slice none 0 0),.mref 14,vb false,.v (.slice none 0 0),.v (.slice none 0 0),.v (.slice none 0 0)])],Jn (yR (x.take i))⟩ (Yi ?_ ?_)
  ·exact⟨Z7,⟨Zr,Zr,⟨rfl,HY _ (Fg _ (hq _))⟩,Zr,Zr,Zr,Tv⟩,GV (hq _) (Fg _ (hq _)),AD (by kernel_rfl)⟩
  have ey:yR (x.take (i+1))=yR (x.take i)++[x[i]]:=by
   unfold yR;rw[KW,DZ,SK (by rw[hy];decide)];rfl
  have hyl:(yR (x.take i)).length≤256:=by
   have:=BB (fun r:Rl=>!r.yanked) (x.take i)
   rw[AC]at this;show(List.filter _ _).length≤256;omega
  have hP:∀l,Jn (yR (x.take i)) (l+100)=Gy (yR (x.take i)) l:=Fg _ (hq _);refine Bq (Classical.em (x[i].path∈AT (yR (x.take i)) [])) (fun hp=>?_) (fun hp=>?_)
  ·refine BN (Ck.1 hp) (fun k hk=>?_);have hu:=de hk;have hl:(GN (yR (x.take i)) x[i].path).length≤256:=by
    rw[Lm];exact A3 (BB _ _) hyl
   have so:k<256:=by
    have:=(Aw.1 hk).1
    have:=HE (yR (x.take i)) []
    simp only[Ay]at this;omega
   have hr:Jn (yR (x.take i)) (k+100)=.tok 10 (GN (yR (x.take i)) x[i].path).length:=by rw[hP,cp hk]
   refine Xi 0 ?_;refine Or.inl (Xi (.slice (.id (k+100) 10) (GN (yR (x.take i)) x[i].path)) (Yi hu ?_));refine Yi (Nz rfl) ?_;refine Rr (e:=162) (m:=9) (es2:=[Ru x[i]]) rfl rfl rfl (fun _ h=>h) hr ⟨rfl,trivial⟩ (by show(_+1)*128≤_;omega) (by show _+1≤_;omega) ?_;refine Yi (Jl ⟨A5 _,A5 _,A5 _,A5 _,A5 _,A5 _,A5 _,A5 _,A5 _,A5 _,A5 _,A5 _,A5 _,A5 _,A5 _,A5 _,Eh (show 49<10000000 by decide),Eh (by show _+100<10000000;omega),Eh (show 12<10000000 by decide),trivial⟩ (by kernel_rfl)) ?_;have e9:E7 (IU (yR (x.take i))) (.string x[i].path) (.slice (.id (k+100) 10) (GN (yR (x.take i)) x[i].path++[Ru x[i]]))=IU (yR (x.take (i+1))):=by rw[ey];exact gO hk
   have hG:∀l,(bif Nat.beq (l+100) (k+100)then HO.tok 10 ((GN (yR (x.take i)) x[i].path).length+1)else Gy (yR (x.take i)) l)=Gy (yR (x.take (i+1))) l:=by rw[ey];exact j9 hk
   refine Xi ⟨[(2,.ref 2 0),(5,.ref 16 0),(18,sl Ai x),(19,vi (x.map Ai).length),(20,vi i)],[(2,.ro (Ic x ifs)),(12,.mapU Dm (IU (yR (x.take (i+1))))),(13,.map Dm []),(14,.map D3 []),(16,.cells [sl AN roots,.mref 12,.mref 13,.v (.slice none 0 0),.v (.slice none 0 0),.mref 14,vb false,.v (.slice none 0 0),.v (.slice none 0 0),.v (.slice none 0 0)])],Jn (yR (x.take (i+1)))⟩ (Yi ?_ ?_)
   ·refine⟨Z5,⟨Zr,⟨Ab (HO.mapU Dm) e9,HY _ (Fg _ (hq _))⟩,Zr,Zr,Zr,Tv⟩,GV (hq _) (fun l=>?_),WM (fun n=>?_)⟩
    ·show(bif Nat.beq (l+100) (k+100)then HO.tok 10 ((GN (yR (x.take i)) x[i].path).length+1)else Jn (yR (x.take i)) (l+100))=_;rw[hP];exact hG l
    ·exact aZ (y:=yR (x.take i)) (show k+100<1000 by omega)
   refine Xi 0 ?_;refine Yi (Ii i (by omega)) ?_;refine Xi ⟨i+1,by omega⟩ ?_;exact⟨Dl x.length i (by omega),Z5,⟨Zr,⟨rfl,HY _ (Fg _ (hq _))⟩,Zr,Zr,Zr,Tv⟩,GV (hq _) (Fg _ (hq _)),AD (by kernel_rfl)⟩
  ·have LT:(AT (yR (x.take i)) []).length≤256:=by
    have:=HE (yR (x.take i)) []
    simp only[Ay]at this;omega
   have hn:=VC hp;have hr:Jn (yR (x.take i)) ((AT (yR (x.take i)) []).length+100)=.free:=by
    rw[hP];unfold Gy;rw[A8 (Al _)]
   refine Xi ((AT (yR (x.take i)) []).length+100) ?_;refine Or.inr (Yi hn ?_);refine Yi (Nz rfl) ?_;refine Rp (e:=162) (m:=9) (es2:=[Ru x[i]]) rfl rfl rfl (fun _ h=>h) hr rfl ⟨rfl,trivial⟩ (by show 1*128≤_;omega) (by show 1≤_;omega) ?_;refine Yi (Jl ⟨A5 _,A5 _,A5 _,A5 _,A5 _,A5 _,A5 _,A5 _,A5 _,A5 _,A5 _,A5 _,A5 _,A5 _,A5 _,A5 _,Eh (show 49<10000000 by decide),Eh (by show _+100<10000000;omega),Eh (show 12<10000000 by decide),trivial⟩ (by kernel_rfl)) ?_;have e9:E7 (IU (yR (x.take i))) (.string x[i].path) (.slice (.id ((AT (yR (x.take i)) []).length+100) 10) [Ru x[i]])=IU (yR (x.take (i+1))):=by rw[ey];exact gN hp
   have hG:∀l,(bif Nat.beq (l+100) ((AT (yR (x.take i)) []).length+100)then HO.tok 10 1 else Gy (yR (x.take i)) l)=Gy (yR (x.take (i+1))) l:=by rw[ey];exact j8 hp
   refine Xi ⟨[(2,.ref 2 0),(5,.ref 16 0),(18,sl Ai x),(19,vi (x.map Ai).length),(20,vi i)],[(2,.ro (Ic x ifs)),(12,.mapU Dm (IU (yR (x.take (i+1))))),(13,.map Dm []),(14,.map D3 []),(16,.cells [sl AN roots,.mref 12,.mref 13,.v (.slice none 0 0),.v (.slice none 0 0),.mref 14,vb false,.v (.slice none 0 0),.v (.slice none 0 0),.v (.slice none 0 0)])],Jn (yR (x.take (i+1)))⟩ (Yi ?_ ?_)
   ·refine⟨Z5,⟨Zr,⟨Ab (HO.mapU Dm) e9,HY _ (Fg _ (hq _))⟩,Zr,Zr,Zr,Tv⟩,GV (hq _) (fun l=>?_),WM (fun n=>?_)⟩
    ·show(bif Nat.beq (l+100) ((AT (yR (x.take i)) []).length+100)then HO.tok 10 1 else Jn (yR (x.take i)) (l+100))=_;rw[hP];exact hG l
    ·exact aZ (y:=yR (x.take i)) (show(AT (yR (x.take i)) []).length+100<1000 by omega)
   refine Xi 0 ?_;refine Yi (Ii i (by omega)) ?_;refine Xi ⟨i+1,by omega⟩ ?_;exact⟨Dl x.length i (by omega),Z5,⟨Zr,⟨rfl,HY _ (Fg _ (hq _))⟩,Zr,Zr,Zr,Tv⟩,GV (hq _) (Fg _ (hq _)),AD (by kernel_rfl)⟩
 ·intro h;have h:¬(i:Int)<(x.map Ai).length:=h;have h:¬i<x.length:=by simpa using h
  have et:x.take i=x:=AJ (by omega);have eM:∀hh:Nat→HO,Sg hh (IU (yR (x.take i)))=(AT (yR x) []).map (kC x):=fun hh=>by
   rw[et];unfold Sg IU;rw[BW];refine CM fun j=>?_;rw[AK,AK,List.getElem?_zipIdx];cases (AT (yR x) [])[j]? with
   |none=>rfl
   |some q=>show some (Value.string q,AV.slice .none (GN (yR x) q))=_;rw[aA];rfl
  refine Xi ⟨[(2,.ref 2 0),(5,.ref 16 0)],[(2,.ro (Ic x ifs)),(12,.mapU Dm (IU (yR (x.take i)))),(13,.map Dm []),(14,.map D3 []),(16,.cells [sl AN roots,.mref 12,.mref 13,.v (.slice none 0 0),.v (.slice none 0 0),.mref 14,vb false,.v (.slice none 0 0),.v (.slice none 0 0),.v (.slice none 0 0)])],Jn (yR (x.take i))⟩ (Yi ?_ ?_)
  ·exact⟨Z2,⟨Zr,⟨rfl,HY _ (Fg _ (hq _))⟩,Zr,Zr,Zr,Tv⟩,GV (hq _) (Fg _ (hq _)),AD (by kernel_rfl)⟩
  refine Xi 0 ?_;refine Xi {p:List ByteArray×List ByteArray×Option (Value×AV) // (p.1++p.2.1).Perm (AT (yR x) [])} (Xi (fun p=>⟨[(2,.ref 2 0),(5,.ref 16 0),(56,.ref 56 0)],[(2,.ro (Ic x ifs)),(12,.rom Dm ((AT (yR x) []).map (kC x))),(13,.map Dm (p.1.1.map (kA x))),(14,.map D3 []),(16,.cells [sl AN roots,.mref 12,.mref 13,.slice (.id 90 6) [],.slice (.id 91 1) [],.mref 14,vb false,.slice (.id 93 10) [],.slice (.id 94 4) [],.v (.slice none 0 0)]),(56,.iter ((AT (yR x) []).map (kC x)) (p.1.2.1.map (kC x)) p.1.2.2),(90,.tok 6 0),(91,.tok 1 0),(93,.tok 10 0),(94,.tok 4 0)],Aa⟩) (Xi (fun p=>p.1.2.1.length) (Yi (Xi ⟨([],AT (yR x) [],none),.refl _⟩ ?_) ?_)))
  ·refine⟨Z3,⟨Zr,⟨Ab (HO.rom Dm) (eM _),rfl⟩,Zr,Zr,Zr,⟨?_,rfl⟩,Zr,Zr,Zr,Zr,Tv⟩,Fh,WM (fun n=>?_)⟩
   ·show HO.iter (Sg _ (IU (yR (x.take i)))) (Sg _ (IU (yR (x.take i)))) none=_;rw[eM]
   ·exact bw (yR (x.take i)) n
  intro⟨⟨done,rem,FV⟩,r1⟩;have r1:(done++rem).Perm (AT (yR x) []):=r1;refine Xi 0 ?_;refine Yi ?_ ?_
  ·intro hr;have hr:rem.map (kC x)=[]:=hr;have hr:rem=[]:=DC.1 hr;subst hr;rw[BE]at r1;refine Xi ⟨[(5,.ref 16 0)],[(14,.map D3 []),(16,.cells [sl AN roots,.cmap Dm (mC x),.cmap Dm (done.map (kA x)),.slice (.id 90 6) [],.slice (.id 91 1) [],.mref 14,vb false,.slice (.id 93 10) [],.slice (.id 94 4) [],.msl 92 0]),(90,.tok 6 0),(91,.tok 1 0),(92,.arr 1 []),(93,.tok 10 0),(94,.tok 4 0)],Aa⟩ (Yi ⟨Z1,Z7,Fh,AD (by kernel_rfl)⟩ ?_)
   refine Xi 0 ?_;exact Xi _ (Yi (.refl _) (Xi done (Yi r1 (Yi rfl rfl))))
  ·intro kv Ou hp;refine BN (l6 hp) (fun t hp=>BN hp (fun r hp=>?_));have e1:=hp.1;have e2:=hp.2.1;subst e1;subst e2;have hp:=hp.2.2;refine Xi ⟨[(2,.ref 2 0),(5,.ref 16 0),(56,.ref 56 0)],[(2,.ro (Ic x ifs)),(12,.rom Dm ((AT (yR x) []).map (kC x))),(13,.map Dm (done.map (kA x))),(14,.map D3 []),(16,.cells [sl AN roots,.mref 12,.mref 13,.slice (.id 90 6) [],.slice (.id 91 1) [],.mref 14,vb false,.slice (.id 93 10) [],.slice (.id 94 4) [],.v (.slice none 0 0)]),(56,.iter ((AT (yR x) []).map (kC x)) (r.map (kC x)) (some (kC x t))),(90,.tok 6 0),(91,.tok 1 0),(93,.tok 10 0),(94,.tok 4 0)],Aa⟩ (Yi ⟨Z3,Z10,Fh,AD (by kernel_rfl)⟩ ?_)
   refine Xi 0 ?_;refine Xi ⟨[(2,.ref 2 0),(5,.ref 16 0),(10,vs t),(56,.ref 56 0)],[(2,.ro (Ic x ifs)),(12,.rom Dm ((AT (yR x) []).map (kC x))),(13,.map Dm (done.map (kA x))),(14,.map D3 []),(16,.cells [sl AN roots,.mref 12,.mref 13,.slice (.id 90 6) [],.slice (.id 91 1) [],.mref 14,vb false,.slice (.id 93 10) [],.slice (.id 94 4) [],.v (.slice none 0 0)]),(56,.iter ((AT (yR x) []).map (kC x)) (r.map (kC x)) (some (kC x t))),(90,.tok 6 0),(91,.tok 1 0),(93,.tok 10 0),(94,.tok 4 0)],Aa⟩ (Yi ⟨Z4,Z10,Fh,AD (by kernel_rfl)⟩ ?_)
   refine Xi 0 ?_;have Sb:(done++rem).Nodup:=r1.nodup_iff.2 (E4 _ [] Fu);have xw:t∉done:=fun hc=>(ET.1 Sb).2.2 t hc t (hp.mem_iff.2 (Ac ..)) rfl;have em:E7 (done.map (kA x)) (.string t) (sl Ag (Ci x t))=(done++[t]).map (kA x):=by
    rw[ME (fun a ha=>xw (W8.1 ha).1),AH];rfl
   have UJ:((done++[t])++r).Perm (AT (yR x) []):=by
    rw[AM];exact(List.Perm.append_left _ hp.symm).trans r1
   refine Yi (Nz rfl) ?_;refine Xi _ (Yi (vL x ifs t (c84 x ifs hx)) ?_);refine Yi (by kernel_rfl) ?_;refine Xi ⟨(done++[t],r,some (kC x t)),UJ⟩ ?_;exact⟨by show r.length<rem.length;rw[hp.length_eq,Au];omega,Z3,⟨Zr,Zr,⟨Ab (HO.map Dm) em,rfl⟩,Zr,Zr,Zr,Zr,Zr,Zr,Zr,Tv⟩,Fh,AD (by kernel_rfl)⟩
end Go.Eng
namespace Go.Eng
open Go.Proofs
theorem ZC{x:List Rl}(h0:A9 x=0){p:ByteArray}(h:p∉AT (yR x) []):Ci x p=[]:=by
 rw[cI h0]
 have:x.filter (bq p)=[]:=by
  rw[HI];intro r hr hc;unfold bq at hc;rw[Ah,AB]at hc;exact h ((HF _ _ _).2 (.inr ⟨r,Bo.2 ⟨hr,hc.2⟩,hc.1⟩))
 rw[this];rfl
theorem oO{x:List Rl}{roots:List Rq}(hx:∀r∈x,J4 r)(hr:∀q∈roots,NU q)(h0:A9 x=0)(h1:By roots=0){l:List ByteArray}(hl:l.Perm (AT (yR x) [])):uY x roots (mC x) (l.map (kA x)) where
 hx:=h0
 hr:=h1
 fx:=hx
 fr:=hr
 c1:=s5 x
 c2:=s7 x
 c3:=s8 x
 av p:=by
  by_cases hp:p∈l
  ·exact⟨sl Ag (Ci x p),fun a ha=>(W8.1 ha).2,fun hn=>(hn _ (W8.2 ⟨hp,rfl⟩)).elim,fun h=>rj p (Ci x p) (SV x p)⟩
  ·refine⟨.v (.slice none 0 0),fun a ha=>(hp (W8.1 ha).1).elim,fun _=>rfl,fun h=>?_⟩;have e:=ZC h0 (fun hc=>hp (hl.mem_iff.2 hc));have hc:=rj p (Ci x p) (SV x p);rw[e]at hc⊢;exact Ma.args hc ⟨.refl _,.nil,trivial⟩
section
variable {x:List Rl}{roots:List Rq}{d:List (List Tm)}{i:Nf}
end
section
variable {s:List Sl}{q:Rq}{o:Option ByteArray}
end
section
variable {x:List Rl}{roots:List Rq}{s A:List Sl}{m:Nat}
end
section
variable {N:List Rq}{p:ByteArray}{pl:Int}{o:Rl}
end
abbrev I4(b:Bool):List AV:=[vb b]
section
variable {l:List Rl}{roots:List Rq}{Cl:List ByteArray}{B:List Bool}
variable {B0:List Bool}{i:Nat}{ch:Bool}
end
section
variable {x l:List Rl}{roots:List Rq}{s:List Sl}
end
end Go.Eng
