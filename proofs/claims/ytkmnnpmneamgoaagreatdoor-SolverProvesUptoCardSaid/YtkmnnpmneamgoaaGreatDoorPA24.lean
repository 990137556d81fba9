/- Lemmas 24. -/
import Derived.Test.YtkmnnpmneamgoaaGreatDoorPA23
set_option maxHeartbeats 8000000
namespace Go.Eng
open Go.Proofs
variable {l:List ByteArray}{h:Nat->HO}{a:AV}(x:List Rl)(roots:List Rq)(C:List (Value×AV))(y:List Rl)(A:List (Value×AV))(ifs:List (List AV))(n j:Nat)(s:SS)(dec:List Cd)(st:List (List Sk))(p:ByteArray)
theorem AdM(n0:Nd)(l:List Nd)(V:AV)(cs:List Cd)(R O:Ku)(hL:zS x roots C A n dec p n0 l V cs)(hs:K6 x roots s)(_:st.length=dec.length)(IR:A6 Tryz.prog 64 [.ref 1000 0] (Af (Ie roots C A s dec st) Ae) fun r h'=>r=.tup [vs p,sl AU (n0::l)]/\h'=Af (Ie roots C A s dec st) Ae)(pM:cs=[])(tf:∀a,(Value.string p,a)∉C)(hR:DR (Cz x roots n) x p (n0::l) n0 dec st cs s [] []=R)(dH:O=R) :
  A6 Tryz.prog 45 [.ref 1000 0] (Af (Ie roots C A s dec st) Ae) (aM roots C A O):=by
 obtain⟨hx,hr,hdl,hcl,hcs,hnl,hnq,hnp,hex,hcx,hcq,hcp_,hcr,hcs_,hkey,hinf0,⟨w8,w9,xa⟩,ih⟩:=hL;have rG:∀(i:Nat) (h:i<cs.length),cs[i]∈Be x p:=fun i h=>by simp_all
 have lD:∀(i:Nat) (h:i<cs.length),BL (Au (dec++[cs[i]])):=fun i h=>by grind
 clear hcs
 refine Bi (IB ⟨[9],[(6,1),(7,3),(145,1)],[],[],[],[],[],[],[],[(300001,500091000),(300026,500091000),(300029,500091000)],[1,2,5,10,11,13,14,15,16,17,19,21,22,23,24,25,26,28,29,31,32,33,35]⟩) [(1000,1000),(1001,1001),(1002,1002),(1003,1003),(1004,1004),(500,2000)] rfl Bz hm rfl Tryz.func45 aa3 rfl (Nz rfl) aa3 rfl (Yi (show st.length=(st.map A5).length by simp) (cU [(0,.ref 1000 0)] [(500,.arr 1 (st.map A5)),(1000,.cells (srM roots C A s dec 500 st.length)),(1001,.tok 6 s.infs.length),(1002,.tok 1 s.drv.length),(1003,.map Eh (FP 0 s.infs)),(1004,.dead)] Z1 Z6 (Xi (.gen aK 0) (Yi rfl (A6.imp IR ?_)))));intro v1 g1 q1;have cG:=q1.1;have cH:=q1.2;subst cG;subst cH;refine cU [(0,.ref 1000 0),(4,vs p),(5,sl AU (n0::l))] [(500,.arr 1 (st.map A5)),(1000,.cells (srM roots C A s dec 500 st.length)),(1001,.tok 6 s.infs.length),(1002,.tok 1 s.drv.length),(1003,.map Eh (FP 0 s.infs)),(1004,.dead)] Z3 Z6 (Yi (fun h2=>?_) (fun h2=>?_))
 .exact absurd h2 (by grind)
 refine cU [(0,.ref 1000 0),(4,vs p),(5,sl AU (n0::l)),(6,.slice (.id 6 1) [])] [(6,.tok 1 0),(500,.arr 1 (st.map A5)),(1000,.cells (srM roots C A s dec 500 st.length)),(1001,.tok 6 s.infs.length),(1002,.tok 1 s.drv.length),(1003,.map Eh (FP 0 s.infs)),(1004,.dead)] Z4 Z7 (Yi (fun a ha=>?_) (fun Me=>?_))
 .exact absurd ha (tf a)
 refine Xi {q:Nat×SS×List Nat×List Sk // q.1<=cs.length/\DR (Cz x roots n) x p (n0::l) n0 dec st (cs.drop q.1) q.2.1 q.2.2.1 q.2.2.2=R/\K6 x roots q.2.1/\(∀r∈q.2.2.1,r<q.2.1.drv.length)/\q.2.2.1.length<=q.1/\q.2.2.2.length<=q.1} (Xi (fun q=>⟨[(0,.ref 1000 0),(4,vs p),(5,sl AU (n0::l)),(6,.slice (.id 6 1) (q.1.2.2.1.map Cs)),(7,.slice (.id 7 3) (q.1.2.2.2.map AN)),(32,nzA),(33,vi 0),(34,vi q.1.1)],[(6,.tok 1 q.1.2.2.1.length),(7,.tok 3 q.1.2.2.2.length),(500,.arr 1 (st.map A5)),(1000,.cells (srM roots C A q.1.2.1 dec 500 st.length)),(1001,.tok 6 q.1.2.1.infs.length),(1002,.tok 1 q.1.2.1.drv.length),(1003,.map Eh (FP 0 q.1.2.1.infs)),(1004,.dead)],Ae⟩) (Xi (fun q=>cs.length-q.1.1) (Yi (Xi ⟨(0,s,[],[]),Ap _,hR,hs,fun r h=>(by cases h),Ao _,Ao _⟩ ?_) ?_)))
 .exact⟨Z8,Z8,Fh,Bg aa3⟩
 intro⟨⟨i,S,rs,sk⟩,j1,j2,j3,j4,j5,j6⟩;have j5:rs.length<=i:=j5;have hw:=j3.dl;have vl:∀t∈S.drv,PT t:=fun t ht=>by have q:=j3.der.few hx hr t ht;grind
 refine Yi (fun h3=>?_) (fun h3=>?_)
 .have h3:(i:Int)<(0:Int):=h3;exact absurd h3 aa0
 have h3:¬((i:Int)<(0:Int)):=h3;refine Xi (AU n0) (Yi (Yi (show(0:Int)<=0 by decide) rfl) (Yi rfl (yN (Xi (.gen aK 0) (Yi rfl (A6.imp (s91 x roots C A S dec st p n0 rs V hx hr j3 hinf0 j4 aa0 (hnq n0 (Ah ..)) (hnp n0 (Ah ..)) w8 w9 xa) ?_))))));intro v4 g4 q4;have yA:=q4.1;have yB:=q4.2;subst yA;subst yB;have hj:¬i<cs.length:=by simp_all
 have eR:R=⟨(Dx x p n0 rs S).1,false,(Dx x p n0 rs S).2,dec,st⟩:=by rw[<-j2];exact j9 hj
 exact Xi _ (Yi (.refl _) (NT (dH.trans eR)))
theorem AdO(N:List Nd)(O:Ku)(hN:N=[])(IR:A6 Tryz.prog 64 [.ref 1000 0] (Af (Ie roots C A s dec st) Ae) fun r h'=>r=.tup [vs p,sl AU N]/\h'=Af (Ie roots C A s dec st) Ae)(hO:O=⟨0,true,s,dec,st⟩) :
  A6 Tryz.prog 45 [.ref 1000 0] (Af (Ie roots C A s dec st) Ae) (aM roots C A O):=by
 refine Bi (IB ⟨[],[],[],[],[],[],[],[],[],[(300001,500091000)],[1,2,5,10,11,13,14,15,16,17,19,21,22,23,25,28,29,31,32,33,35]⟩) [(1000,1000),(1001,1001),(1002,1002),(1003,1003),(1004,1004),(500,2000)] rfl Bz hm rfl Tryz.func45 aa3 rfl (Nz rfl) aa3 rfl (Yi (show st.length=(st.map A5).length by simp) (cU [(0,.ref 1000 0)] [(500,.arr 1 (st.map A5)),(1000,.cells (srM roots C A s dec 500 st.length)),(1001,.tok 6 s.infs.length),(1002,.tok 1 s.drv.length),(1003,.map Eh (FP 0 s.infs)),(1004,.dead)] Z1 Z6 (Xi (.gen aK 0) (Yi rfl (A6.imp IR ?_)))));intro v1 g1 q1;have cG:=q1.1;have cH:=q1.2;subst cG;subst cH;refine cU [(0,.ref 1000 0),(4,vs p),(5,sl AU N)] [(500,.arr 1 (st.map A5)),(1000,.cells (srM roots C A s dec 500 st.length)),(1001,.tok 6 s.infs.length),(1002,.tok 1 s.drv.length),(1003,.map Eh (FP 0 s.infs)),(1004,.dead)] Z3 Z6 (Yi (fun h2=>?_) (fun h2=>?_))
 .exact Xi _ (Yi (.refl _) (NT (st:=st) hO))
 exact absurd (by simp_all) h2
section
variable {x:List Rl}{roots:List Rq}{p:ByteArray}
theorem It:∀(l:List Nat) {k:Nat} {s:SS},s.infs.Nodup->(B4 p l k s).2.infs.Nodup
 | [],_,_,h=>h
 |r::l,k,s,h=>by
  unfold B4;split
  .exact h
  split
  .exact It l h
  split
  .exact It l h
  .exact It l (Ig h)
theorem K8{needs:List Nd}{n0:Nd}{dec:List Cd}{st:List (List Sk)}{rec:List Cd->SS->List (List Sk)->Ku}(Vi:∀c s st,s.infs.Nodup->(rec (dec++[c]) s st).ss.infs.Nodup) :
  ∀(cs:List Cd) {s:SS} {rs:List Nat} {sk:List Sk},s.infs.Nodup->(DR rec x p needs n0 dec st cs s rs sk).ss.infs.Nodup
 | [],s,rs,sk,h=>It _ (Ig (Ig h))
 |c::cs,s,rs,sk,h=>by
  have zd:∀(s' : SS) (k:Nat),s'.infs.Nodup->(Ix rec x p needs n0 dec st c cs rs sk k s').ss.infs.Nodup:=fun s' k h'=>by
   unfold Ix;split
   .exact h'
   .exact K8 Vi cs h'
  rw[FW];split
  .exact h
  cases needs.find? fun n=>!has n.rq.set c.place with
  |some n=>exact K8 Vi cs (Ig h)
  |none=>
   dsimp only;cases N2 s.drv (Au (dec++[c]))with
   |some k=>simp_all
   |none=>
    dsimp only;cases Dq dec c with
    |some n=>exact zd _ _ (Ig h)
    |none=>
     grind
theorem PL:∀(n:Nat) {dec:List Cd} {s:SS} {st:List (List Sk)},s.infs.Nodup->(Cz x roots n dec s st).ss.infs.Nodup
 |0,_,_,_,h=>h
 |n+1,dec,s,st,h=>by
  unfold Cz;cases (D5 roots dec).2 with
  |nil=>exact h
  |cons n0 l=>exact K8 (fun c s st h=>PL n h) _ h
structure sa(x:List Rl)(roots:List Rq)(C A:List (Value×AV)):Prop where
 hx:Av x=0
 hr:AL roots=0
 fx:∀r∈x,E4 r
 fr:∀q∈roots,HP q
 c1:∀(p:ByteArray) (a:AV),(Value.string p,a)∈C->a=sl At (Be x p)
 c2:∀p:ByteArray,(∀a,(Value.string p,a)∉C)->Be x p=[]
 c3:∀p:ByteArray,Be x p=[]->∀a,(Value.string p,a)∉C
 av:∀p:ByteArray,∃V,HV x A p V
theorem kD{dec:List Cd}(h:∀c∈dec,c.rel.reqs.length<=16):((dec.map fun c=>c.rel.reqs).flatten).length<=16*dec.length:=by
 induction dec<;>grind
theorem ur{r:Rl}(h:JP r):0<=plc r.ver/\plc r.ver<1000000:=by rw[h.plc];exact JC h.val
theorem Wj(dec:List Cd):(D5 roots dec).2.length<=(CY roots dec).length:=by
 grind [Ud]
theorem s45{C A:List (Value×AV)}(hE:sa x roots C A)(te:H64 roots C A):∀(n:Nat) {dec:List Cd} {s:SS} {st:List (List Sk)},Dp x dec->IW roots dec->K6 x roots s->s.full=false->FK x dec<n->st.length=dec.length ->
  A6 Tryz.prog 45 [.ref 1000 0] (Af (Ie roots C A s dec st) Ae) (aM roots C A (Cz x roots n dec s st))
 |0,_,_,_,_,_,_,_,h,_=>by omega
 |n+1,dec,s,st,hd,gM,hs,hf,hn,Gw=>by
  have hx:=hE.hx;have hr:=hE.hr;have Kl:=Fb hx;have hdl:=OZ hd;have ly:dec.length<=256:=by omega
  have Jh:∀c∈dec,c.rel.reqs.length<=16:=fun c hc=>Kl.2 _ (hd.cand c hc).1;have IR:=te s dec st aa0 fun c hc=>Bl (Jh c hc) aa2;generalize hO:Cz x roots (n+1) dec s st=O;obtain⟨N,hN⟩:∃N,N=(D5 roots dec).2:=⟨_,rfl⟩;obtain⟨q,hq⟩:∃q,q=(D5 roots dec).1:=⟨_,rfl⟩;rw[<-hN,<-hq]at IR;have ve:N.length<=10000:=by
   grind [Wj,Im,Lm,kD,JD]
  cases hNc:N with
  |nil=>
   rw[hNc]at hN IR;refine AdO roots C A s dec st q [] O rfl IR ?_
   grind [Cz]
  |cons n0 l=>
   rw[hNc]at hN IR;have nX:=JA hN.symm;rw[<-hq]at nX;have Sh:∀nd∈n0::l,nd∈CY roots dec:=fun nd h=>((nX.mem nd).1 h).1;have Gv:=(BC hx).1;have few:∀{E:List Cd},Dp x E->∀nd∈CY roots E,BL nd.rq.set/\As (nd.place+1):=fun hE' nd h=>by
    rcases KP h with ⟨k,r,h1,rfl⟩ | ⟨c,hc,k,r,h1,rfl⟩
    .grind [As,sa.fr]
    .have h2:=hE'.cand c hc;have h3:=ur (Gv _ h2.1)
     grind [As,sa.fx]
   have lN:∀c∈Be x q,Dp x (dec++[c])/\c.rel.path=q/\c.rel∈x:=fun c hc=>by
    grind [GB,Dp.snoc,X8.undone]
   have Fu:∀(i:Nat) (h:i<(Be x q).length),(Be x q)[i]∈Be x q:=fun i h=>Ak h;obtain⟨V,hV⟩:=hE.av q
   have hL:zS x roots C A n dec q n0 l V (Be x q):={
    hx:=hx
    hr:=hr
    hdl:=ly
    hcl:=Bl (Qb x q) Kl.1
    hcs:=rfl
    hnl:=by grind
    hnq:=fun nd h=>(few hd nd (Sh nd h)).1
    hnp:=fun nd h=>(few hd nd (Sh nd h)).2
    hex:=fun i h nd hm hh=>by
     obtain⟨a,b,_⟩:=lN _ (Fu i h);exact⟨(Pr hx hr a (Ou (Sh nd hm)) ⟨(Be x q)[i],by simp,b.trans ((nX.mem nd).1 hm).2.symm,hh⟩).1,trivial⟩
    hcx:=fun i h nc hc=>by
     obtain⟨a,b,_⟩:=lN _ (Fu i h);obtain⟨m1,m2⟩:=Lb hc;exact⟨(Pr hx hr a (Ng m1) m2).1,trivial⟩
    hcq:=fun i h nc hm=>(few (lN _ (Fu i h)).1 nc (Ng hm)).1
    hcp_:=fun i h nc hm=>(few (lN _ (Fu i h)).1 nc (Ng hm)).2
    hcr:=fun i h=>by grind
    hcs_:=fun i h r hm=>((hE.fx _ (lN _ (Fu i h)).2.2).2 r hm).1
    hkey:=fun i h=>by
     simp_all
    hinf0:=(Si hx hr hd (Sh n0 (Ah ..)) (.inl (by
     rw[((nX.mem n0).1 (Ah ..)).2]
     grind [HZ,GQ,X8.undone]))).inf
    hV:=hV
    ih:=fun c hc Acq S EA hl hS hSf=>by
     obtain⟨a,b,c3⟩:=lN c hc;obtain⟨k1,k2⟩:=Kc.1 Acq;obtain⟨_,c2⟩:=GB hc;have rU:=gM.snoc nX b k1 k2;have pR:FK x (dec++[c])<n:=by have:=N6 (dec:=dec) ⟨c2.1,c2.2.1⟩ (by grind [X8.undone]);omega
     have h1:=s45 hE te n a rU hS hSf pR (st:=EA) (by simp_all);have h2:=QR hx hr n a rU hS.der hSf pR (st:=EA);exact⟨h1,⟨h2.der,PL n hS.nodup⟩,⟨h2.grow.len,fun e1 e2=>((h2.no e1).2.2 e2).1⟩,fun e1=>(h2.no e1).2.1⟩ }
   have hR:DR (Cz x roots n) x q (n0::l) n0 dec st (Be x q) s [] []=O:=by
    grind [Cz]
   by_cases hm:∀a,(Value.string q,a)∉C
   .exact AdM x roots C A n s dec st q n0 l V (Be x q) O O hL hs Gw IR (hE.c2 q hm) hm hR rfl
   .exact AdL x roots C A n s dec st q n0 l V (Be x q) O O hL hs Gw IR (hE.c1 q) hm hR rfl
end
theorem AdN{x:List Rl}{roots:List Rq}{C A:List (Value×AV)}(hE:sa x roots C A)(n:Nat){dec:List Cd}{s:SS}{st:List (List Sk)}(h1:Dp x dec)(h2:IW roots dec)(h3:K6 x roots s)(h4:s.full=false)(h5:FK x dec<n)(h6:st.length=dec.length) :
  A6 Tryz.prog 45 [.ref 1000 0] (Af (Ie roots C A s dec st) Ae) (aM roots C A (Cz x roots n dec s st)):=
 s45 hE (fun s dec st a b=>s64 roots C A s dec st (Bl (JD hE.hr) aa2) a b) n h1 h2 h3 h4 h5 h6
def DY:Bool:=decide (Av x=0)&&decide (AL roots=0)
theorem vF(roots:List Rq)(hx:∀r∈x,E4 r)(hr:∀q∈roots,HP q):PC 28 [.agg (Ic x ifs),sl Ac roots] (vb (DY x roots)):=by
 refine Ps (pC [2] []) Tryz.func28 rfl (Nz rfl) (yN (Xi .pure (Xi _ (Yi (zh fS x ifs hx) (Yi (fun h1=>?_) (fun h1=>?_))))))
 .refine Xi .pure (Xi _ (Yi (c65 fS roots hr) (Yi (fun h2=>?_) (fun h2=>?_))))
  .exact .of_eq (show vb true=vb (DY x roots) by grind [DY])
  exact .of_eq (show vb false=vb (DY x roots) by grind [DY])
 exact .of_eq (show vb false=vb (DY x roots) by grind [DY])
abbrev Tf(r:Rl):List AV:=At ⟨plc r.ver,r⟩
abbrev Ma:List (List AV):=(y.filter fun r=>decide (r.path=p)).map Tf
abbrev rz(q:ByteArray×Nat):Value×AV:=(.string q.1,.slice (.id (q.2+100) 10) (Ma y q.1))
abbrev IQ:List (Value×AV):=(AK y []).zipIdx.map (rz y)
def HE(l:Nat):HO:=match(AK y [])[l]? with
 |some q=>.tok 10 (Ma y q).length
 |none=>.free
def Jc:HO:=bif Nat.ble 100 j&&Nat.blt j 1000 then HE y (j-100)else .free
theorem Fi(hy:y.length<=256)(l:Nat):Jc y (l+100)=HE y l:=by
 grind [Jc,Nat.ble_eq,Nat.blt_eq,HA,HE]
theorem pE{j:Nat}(h:j<100):Jc y j=.free:=by
 grind [Jc,Nat.ble_eq]
section
variable {y:List Rl}{r:Rl}{k:Nat}
open Classical in
theorem kQ(h:(AK y [])[k]?=some r.path):Fm (IQ y) (.string r.path) (.slice (.id (k+100) 10) (Ma y r.path++[Tf r]))=IQ (y++[r]):=by
 have hd:=E3 y [] Kt;have hm:rz y (r.path,k)∈IQ y:=Ar.2 ⟨_,HR.2 h,rfl⟩;rw[ZJ (a':=.slice (.id (k+100) 10) (Ma y r.path)) hm];unfold IQ;rw[Nm h,B2];refine Cg fun q hq=>?_
 grind [Jj]
theorem ZT(h:r.path∉AK y []):Ma y r.path=[]:=by
 grind [List.filter_eq_nil_iff,HB]
theorem gy(h:r.path∉AK y [])(a:AV):(Value.string r.path,a)∉IQ y:=by
 grind
theorem kO(h:r.path∉AK y []):Fm (IQ y) (.string r.path) (.slice (.id ((AK y []).length+100) 10) [Tf r])=IQ (y++[r]):=by
 grind [IH,Nl,List.map_congr_left,ZT]
theorem gz{p:ByteArray}{j:Nat}(h:(AK y [])[j]?=some p):(Value.string p,AV.slice (.id (j+100) 10) (Ma y p))∈IQ y/\∀b,(Value.string p,b)∈IQ y->b=AV.slice (.id (j+100) 10) (Ma y p):=by
 refine⟨Ar.2 ⟨(p,j),HR.2 h,rfl⟩,fun b hb=>?_⟩
 grind [Jj,E3]
theorem eZ{p:ByteArray}{j:Nat}(h:(AK y [])[j]?=some p):HE y j=.tok 10 (Ma y p).length:=by
 grind [HE]
theorem nO(h:(AK y [])[k]?=some r.path)(l:Nat):(bif Nat.beq (l+100) (k+100)then HO.tok 10 ((Ma y r.path).length+1)else HE y l)=HE (y++[r]) l:=by
 grind [Nat.beq_refl,HE,Nm,Nat.eq_of_beq_eq_true,Jj,E3]
theorem nN(h:r.path∉AK y [])(l:Nat):(bif Nat.beq (l+100) ((AK y []).length+100)then HO.tok 10 1 else HE y l)=HE (y++[r]) l:=by
 grind [Nat.beq_refl,HE,Nl,ZT,Nat.eq_of_beq_eq_true]
end
theorem HY(hh:∀l,h (l+100)=HE y l):Rx h (IQ y)=true:=by
 refine Qq fun p hp=>?_;obtain⟨q,h1,rfl⟩:=Ar.1 hp;show RW h (q.2+100)=true
 grind [RW,eZ]
theorem G2{y:List Rl}(hy:y.length<=256){h':Nat->HO}(hh:∀l,h (l+100)=HE y l)(j:Nat):Jc y j=.free\/(h j=Jc y j/\Zf h' (Jc y j)=true):=by
 by_cases hj:j<100
 .grind [pE]
 .obtain⟨l,rfl⟩:∃l,j=l+100:=⟨j-100,by omega⟩
  right
  rw[Fi y hy];refine⟨hh l,?_⟩;unfold HE;cases (AK y [])[l]?<;>rfl
abbrev yR:List Rl:=x.filter fun r=>!r.yanked
theorem cq:Ma (yR x) p=(Be x p).map At:=by
 unfold Ma Be;simp_all
def mC:List (Value×AV):=(AK (yR x) []).map fun p=>(.string p,sl At (Be x p))
theorem md{x:List Rl}{p:ByteArray}:(Value.string p,a)∈mC x↔p∈AK (yR x) []/\a=sl At (Be x p):=by
 grind [mC]
theorem VL{x:List Rl}{p:ByteArray}:Be x p=[]↔p∉AK (yR x) []:=by
 grind [HB,Be,List.map_eq_nil_iff,List.filter_eq_nil_iff]
theorem yj:∀(p:ByteArray) (a:AV),(Value.string p,a)∈mC x->a=sl At (Be x p):=fun _ _ h=>(md.1 h).2
theorem yk:∀p:ByteArray,(∀a,(Value.string p,a)∉mC x)->Be x p=[]:=fun _ h=>VL.2 fun hp=>h _ (md.2 ⟨hp,rfl⟩)
theorem ym:∀p:ByteArray,Be x p=[]->∀a,(Value.string p,a)∉mC x:=fun _ h _ ha=>VL.1 h (md.1 ha).1
abbrev plN:Md:=⟨[2],[],[],[(52,[12])],[],[12],[50],[(53,(16,3,90,6)),(54,(16,4,91,1)),(55,(16,7,93,10)),(56,(16,8,94,4))],[],[(850013,13),(800013,10016),(810013,20016),(900013,10000000000+92000000+90016)],[5,7,8,9,11,12,13]⟩
abbrev kC:Value×AV:=(.string p,sl At (Be x p))
abbrev kA:Value×AV:=(.string p,sl Ab (A4 x p))
theorem qq{x:List Rl}{kv:Value×AV}{PG : List (Value×AV)}(h:(l.map (kC x)).Perm (kv::PG)):∃t r,kv=kC x t/\PG=r.map (kC x)/\l.Perm (t::r):=by
 obtain⟨ps,h1,h2⟩:=MM h l rfl;cases ps<;>grind [List.Perm.symm]
abbrev srN:List (Nat×HO):=
 [(2000,.cells [sl Ac roots,.cmap Cv C,.cmap Cv A,.slice (.id 2001 6) [],.slice (.id 2002 1) [],.mref 2003,vb false,.slice .none [],.slice .none [],.msl 2004 0]),(2001,.tok 6 0),(2002,.tok 1 0),(2003,.map Eh []),(2004,.arr 1 [])]
theorem bY{x:List Rl}{p:ByteArray}:(Value.string p,a)∈l.map (kA x)↔p∈l/\a=sl Ab (A4 x p):=by
 grind
theorem dJ:Jc y (n+1000)=.free:=by
 grind [Jc,Nat.blt_eq]
theorem Xj{s:Nat->HO}(H:∀n,h (n+1000)=.free):∀j,1000<=j->j<2000->h j≠.free->s j≠.free:=fun j h1 _ hn=>by
 refine absurd (H (j-1000)) ?_;simp_all
theorem oE{n k:Nat}(h:k<1000):Nat.beq (n+1000) k=false:=by
 grind [Nat.eq_of_beq_eq_true]
theorem di{y:List Rl}{n k:Nat}{o:HO}(h:k<1000):(bif Nat.beq (n+1000) k then o else Jc y (n+1000))=.free:=by
 grind [oE,dJ]
attribute [local irreducible] Iq
set_option maxRecDepth 30000 in
theorem zO(roots:List Rq)(hx:∀r∈x,E4 r)(h0:Av x=0):A6 Tryz.prog 29 [Il x ifs,sl Ac roots] (Af [] Ae) fun r h'=>∃l:List ByteArray,l.Perm (AK (yR x) [])/\r=.ref 2000 0/\h'=Af (srN roots (mC x) (l.map (kA x))) Ae:=by
 have Kl:x.length<=256:=(Fb h0).1;refine Bi (IB plN) [(16,2000),(90,2001),(91,2002),(14,2003),(92,2004)] rfl Bz hm rfl Tryz.func29 aa3 rfl (Nz rfl) aa3 rfl (Xi 0 (Xi 0 (Xi 0 (Xi {i:Nat // i<=x.length} (Xi (fun i=>⟨[(2,.ref 2 0),(5,.ref 16 0),(18,sl Am x),(19,vi (x.map Am).length),(20,vi i.1)],[(2,.ro (Ic x ifs)),(12,.mapU Cv (IQ (yR (x.take i.1)))),(13,.map Cv []),(14,.map Eh []),(16,.cells [sl Ac roots,.mref 12,.mref 13,nzA,nzA,.mref 14,vb false,nzA,nzA,nzA])],Jc (yR (x.take i.1))⟩) (Xi (fun i=>x.length-i.1) (Yi (Xi ⟨0,Ap _⟩ ?_) ?_)))))))
 .refine⟨Z5,Z5,fun j=>.inl ?_,Bg aa3⟩;show Jc [] j=.free;unfold Jc;cases (Nat.ble 100 j&&Nat.blt j 1000)<;>rfl
 intro⟨i,i1⟩;have hq:∀k,(yR (x.take k)).length<=256:=fun k=>by
  grind
 refine Xi 0 (Yi ?_ ?_)
 .intro h;have h:i<x.length:=by simp_all
  have hg:x[i]?=some x[i]:=Ge h;have Pi:x.take (i+1)=x.take i++[x[i]]:=by simp_all
  refine Xi 0 (Xi (Am x[i]) (Yi (Yi aa0 (by simp_all)) (Yi rfl ?_)));refine Yi (Nz rfl) (yN (Xi ⟨[(2,.ref 2 0),(5,.ref 16 0),(7,.ref 7 0),(18,sl Am x),(19,vi (x.map Am).length),(20,vi i)],[(2,.ro (Ic x ifs)),(7,.cells (Am x[i])),(12,.mapU Cv (IQ (yR (x.take i)))),(13,.map Cv []),(14,.map Eh []),(16,.cells [sl Ac roots,.mref 12,.mref 13,nzA,nzA,.mref 14,vb false,nzA,nzA,nzA])],Jc (yR (x.take i))⟩ (Yi ?_ ?_)))
  .exact⟨Z6,⟨Zr,Zr,⟨rfl,HY _ (Fi _ (hq _))⟩,Zr,Zr,Zr,Tv⟩,G2 (hq _) (Fi _ (hq _)),Bg aa3⟩
  refine Xi 0 (Yi (fun hy=>?_) (fun hy=>?_))
  .have ey:yR (x.take (i+1))=yR (x.take i):=by
    grind
   refine Xi ⟨[(2,.ref 2 0),(5,.ref 16 0),(18,sl Am x),(19,vi (x.map Am).length),(20,vi i)],[(2,.ro (Ic x ifs)),(12,.mapU Cv (IQ (yR (x.take (i+1))))),(13,.map Cv []),(14,.map Eh []),(16,.cells [sl Ac roots,.mref 12,.mref 13,nzA,nzA,.mref 14,vb false,nzA,nzA,nzA])],Jc (yR (x.take (i+1)))⟩ (Yi ?_ ?_)
   .rw[ey];exact⟨Z5,⟨Zr,⟨rfl,HY _ (Fi _ (hq _))⟩,Zr,Zr,Zr,Tv⟩,G2 (hq _) (Fi _ (hq _)),Bg aa3⟩
   refine Xi 0 (Yi (Ii i aa0) (Xi ⟨i+1,by omega⟩ ?_));exact⟨by grind,Z5,⟨Zr,⟨rfl,HY _ (Fi _ (hq _))⟩,Zr,Zr,Zr,Tv⟩,G2 (hq _) (Fi _ (hq _)),Bg aa3⟩
  refine Xi 0 (yN (Xi .pure (Xi _ (Yi (uU x[i].ver) (Xi ⟨[(2,.ref 2 0),(5,.ref 16 0),(7,.ref 7 0),(8,vi (plc x[i].ver)),(18,sl Am x),(19,vi (x.map Am).length),(20,vi i)],[(2,.ro (Ic x ifs)),(7,.cells (Am x[i])),(12,.mapU Cv (IQ (yR (x.take i)))),(13,.map Cv []),(14,.map Eh []),(16,.cells [sl Ac roots,.mref 12,.mref 13,nzA,nzA,.mref 14,vb false,nzA,nzA,nzA])],Jc (yR (x.take i))⟩ (Yi ?_ ?_))))))
  .exact⟨Z7,⟨Zr,Zr,⟨rfl,HY _ (Fi _ (hq _))⟩,Zr,Zr,Zr,Tv⟩,G2 (hq _) (Fi _ (hq _)),Bg aa3⟩
  have ey:yR (x.take (i+1))=yR (x.take i)++[x[i]]:=by
   grind
  have hyl:(yR (x.take i)).length<=256:=by
   simp_all
  have hP:∀l,Jc (yR (x.take i)) (l+100)=HE (yR (x.take i)) l:=Fi _ (hq _);refine AA (Classical.em (x[i].path∈AK (yR (x.take i)) [])) (fun hp=>?_) (fun hp=>?_)
  .refine Al (Eg.1 hp) (fun k hk=>?_);have hu:=gz hk;have hl:(Ma (yR (x.take i)) x[i].path).length<=256:=by
    grind
   have xK:k<256:=by
    have:=(Bb.1 hk).1
    have:=HA (yR (x.take i)) []
    grind
   have hr:Jc (yR (x.take i)) (k+100)=.tok 10 (Ma (yR (x.take i)) x[i].path).length:=by rw[hP,eZ hk]
   refine Xi 0 ?_;refine Or.inl (Xi (.slice (.id (k+100) 10) (Ma (yR (x.take i)) x[i].path)) (Yi hu ?_));refine yN (Ri (e:=115) (m:=9) (es2:=[Tf x[i]]) rfl rfl rfl (fun _ h=>h) hr ⟨rfl,trivial⟩ (by show(_+1)*128<=_;omega) (by grind) (Yi (I8 ⟨AJ _,AJ _,AJ _,AJ _,AJ _,AJ _,AJ _,AJ _,AJ _,AJ _,AJ _,AJ _,AJ _,AJ _,AJ _,AJ _,Ee (show 49<10000000 by decide),Ee aa0,Ee (show 12<10000000 by decide),trivial⟩ aa3) ?_));have e9:Fm (IQ (yR (x.take i))) (.string x[i].path) (.slice (.id (k+100) 10) (Ma (yR (x.take i)) x[i].path++[Tf x[i]]))=IQ (yR (x.take (i+1))):=by rw[ey];exact kQ hk
   have hG:∀l,(bif Nat.beq (l+100) (k+100)then HO.tok 10 ((Ma (yR (x.take i)) x[i].path).length+1)else HE (yR (x.take i)) l)=HE (yR (x.take (i+1))) l:=by rw[ey];exact nO hk
   refine Xi ⟨[(2,.ref 2 0),(5,.ref 16 0),(18,sl Am x),(19,vi (x.map Am).length),(20,vi i)],[(2,.ro (Ic x ifs)),(12,.mapU Cv (IQ (yR (x.take (i+1))))),(13,.map Cv []),(14,.map Eh []),(16,.cells [sl Ac roots,.mref 12,.mref 13,nzA,nzA,.mref 14,vb false,nzA,nzA,nzA])],Jc (yR (x.take (i+1)))⟩ (Yi ?_ ?_)
   .refine⟨Z5,⟨Zr,⟨Aa (HO.mapU Cv) e9,HY _ (Fi _ (hq _))⟩,Zr,Zr,Zr,Tv⟩,G2 (hq _) (fun l=>?_),Xj (fun n=>?_)⟩
    .show(bif Nat.beq (l+100) (k+100)then HO.tok 10 ((Ma (yR (x.take i)) x[i].path).length+1)else Jc (yR (x.take i)) (l+100))=_;simp_all
    .exact di (y:=yR (x.take i)) (show k+100<1000 by omega)
   refine Xi 0 (Yi (Ii i aa0) (Xi ⟨i+1,by omega⟩ ?_));exact⟨by grind,Z5,⟨Zr,⟨rfl,HY _ (Fi _ (hq _))⟩,Zr,Zr,Zr,Tv⟩,G2 (hq _) (Fi _ (hq _)),Bg aa3⟩
  .have Ph:(AK (yR (x.take i)) []).length<=256:=by
    have:=HA (yR (x.take i)) []
    grind
   have hn:=gy hp;have hr:Jc (yR (x.take i)) ((AK (yR (x.take i)) []).length+100)=.free:=by
    rw[hP];unfold HE;simp_all
   refine Xi ((AK (yR (x.take i)) []).length+100) ?_;refine Or.inr (Yi hn ?_);refine yN (Rh (e:=115) (m:=9) (es2:=[Tf x[i]]) rfl rfl rfl (fun _ h=>h) hr rfl ⟨rfl,trivial⟩ (by show 1*128<=_;omega) (by simp_all) ?_);refine Yi (I8 ⟨AJ _,AJ _,AJ _,AJ _,AJ _,AJ _,AJ _,AJ _,AJ _,AJ _,AJ _,AJ _,AJ _,AJ _,AJ _,AJ _,Ee (show 49<10000000 by decide),Ee (by show _+100<10000000;omega),Ee (show 12<10000000 by decide),trivial⟩ aa3) ?_;have e9:Fm (IQ (yR (x.take i))) (.string x[i].path) (.slice (.id ((AK (yR (x.take i)) []).length+100) 10) [Tf x[i]])=IQ (yR (x.take (i+1))):=by rw[ey];exact kO hp
   have hG:∀l,(bif Nat.beq (l+100) ((AK (yR (x.take i)) []).length+100)then HO.tok 10 1 else HE (yR (x.take i)) l)=HE (yR (x.take (i+1))) l:=by rw[ey];exact nN hp
   refine Xi ⟨[(2,.ref 2 0),(5,.ref 16 0),(18,sl Am x),(19,vi (x.map Am).length),(20,vi i)],[(2,.ro (Ic x ifs)),(12,.mapU Cv (IQ (yR (x.take (i+1))))),(13,.map Cv []),(14,.map Eh []),(16,.cells [sl Ac roots,.mref 12,.mref 13,nzA,nzA,.mref 14,vb false,nzA,nzA,nzA])],Jc (yR (x.take (i+1)))⟩ (Yi ?_ ?_)
   .refine⟨Z5,⟨Zr,⟨Aa (HO.mapU Cv) e9,HY _ (Fi _ (hq _))⟩,Zr,Zr,Zr,Tv⟩,G2 (hq _) (fun l=>?_),Xj (fun n=>?_)⟩
    .show(bif Nat.beq (l+100) ((AK (yR (x.take i)) []).length+100)then HO.tok 10 1 else Jc (yR (x.take i)) (l+100))=_;simp_all
    .exact di (y:=yR (x.take i)) (show(AK (yR (x.take i)) []).length+100<1000 by omega)
   refine Xi 0 (Yi (Ii i aa0) (Xi ⟨i+1,by omega⟩ ?_));exact⟨by grind,Z5,⟨Zr,⟨rfl,HY _ (Fi _ (hq _))⟩,Zr,Zr,Zr,Tv⟩,G2 (hq _) (Fi _ (hq _)),Bg aa3⟩
 .intro h;have h:¬i<x.length:=by simp_all
  have et:x.take i=x:=Bd aa0;have eM:∀hh:Nat->HO,Sb hh (IQ (yR (x.take i)))=(AK (yR x) []).map (kC x):=fun hh=>by
   rw[et];unfold Sb IQ;rw[B2];refine CR fun j=>?_;rw[BA,BA,List.getElem?_zipIdx];cases (AK (yR x) [])[j]? with
   |none=>rfl
   |some q=>show some (Value.string q,AV.slice .none (Ma (yR x) q))=_;rw[cq];rfl
  refine Xi ⟨[(2,.ref 2 0),(5,.ref 16 0)],[(2,.ro (Ic x ifs)),(12,.mapU Cv (IQ (yR (x.take i)))),(13,.map Cv []),(14,.map Eh []),(16,.cells [sl Ac roots,.mref 12,.mref 13,nzA,nzA,.mref 14,vb false,nzA,nzA,nzA])],Jc (yR (x.take i))⟩ (Yi ?_ ?_)
  .exact⟨Z2,⟨Zr,⟨rfl,HY _ (Fi _ (hq _))⟩,Zr,Zr,Zr,Tv⟩,G2 (hq _) (Fi _ (hq _)),Bg aa3⟩
  refine Xi 0 (Xi {p:List ByteArray×List ByteArray×Option (Value×AV) // (p.1++p.2.1).Perm (AK (yR x) [])} (Xi (fun p=>⟨[(2,.ref 2 0),(5,.ref 16 0),(56,.ref 56 0)],[(2,.ro (Ic x ifs)),(12,.rom Cv ((AK (yR x) []).map (kC x))),(13,.map Cv (p.1.1.map (kA x))),(14,.map Eh []),(16,.cells [sl Ac roots,.mref 12,.mref 13,.slice (.id 90 6) [],.slice (.id 91 1) [],.mref 14,vb false,.slice (.id 93 10) [],.slice (.id 94 4) [],nzA]),(56,.iter ((AK (yR x) []).map (kC x)) (p.1.2.1.map (kC x)) p.1.2.2),(90,.tok 6 0),(91,.tok 1 0),(93,.tok 10 0),(94,.tok 4 0)],Ae⟩) (Xi (fun p=>p.1.2.1.length) (Yi (Xi ⟨([],AK (yR x) [],none),.refl _⟩ ?_) ?_))))
  .refine⟨Z3,⟨Zr,⟨Aa (HO.rom Cv) (eM _),rfl⟩,Zr,Zr,Zr,⟨?_,rfl⟩,Zr,Zr,Zr,Zr,Tv⟩,Fh,Xj (fun n=>?_)⟩
   .show HO.iter (Sb _ (IQ (yR (x.take i)))) (Sb _ (IQ (yR (x.take i)))) none=_;rw[eM]
   .exact dJ (yR (x.take i)) n
  intro⟨⟨done,rem,Ej⟩,r1⟩;refine Xi 0 (Yi ?_ ?_)
  .intro hr;have hr:rem=[]:=FQ.1 hr;subst hr;rw[DV]at r1;refine cU [(5,.ref 16 0)] [(14,.map Eh []),(16,.cells [sl Ac roots,.cmap Cv (mC x),.cmap Cv (done.map (kA x)),.slice (.id 90 6) [],.slice (.id 91 1) [],.mref 14,vb false,.slice (.id 93 10) [],.slice (.id 94 4) [],.msl 92 0]),(90,.tok 6 0),(91,.tok 1 0),(92,.arr 1 []),(93,.tok 10 0),(94,.tok 4 0)] Z1 Z7 (Xi 0 ?_);exact Xi _ (Yi (.refl _) (Xi done (Yi r1 (Yi rfl rfl))))
  .intro kv PG hp;refine Al (qq hp) (fun t hp=>Al hp (fun r hp=>?_));have e1:=hp.1;have e2:=hp.2.1;subst e1;subst e2;have hp:=hp.2.2;refine cU [(2,.ref 2 0),(5,.ref 16 0),(56,.ref 56 0)] [(2,.ro (Ic x ifs)),(12,.rom Cv ((AK (yR x) []).map (kC x))),(13,.map Cv (done.map (kA x))),(14,.map Eh []),(16,.cells [sl Ac roots,.mref 12,.mref 13,.slice (.id 90 6) [],.slice (.id 91 1) [],.mref 14,vb false,.slice (.id 93 10) [],.slice (.id 94 4) [],nzA]),(56,.iter ((AK (yR x) []).map (kC x)) (r.map (kC x)) (some (kC x t))),(90,.tok 6 0),(91,.tok 1 0),(93,.tok 10 0),(94,.tok 4 0)] Z3 Z10 (Xi 0 (cU [(2,.ref 2 0),(5,.ref 16 0),(10,vs t),(56,.ref 56 0)] [(2,.ro (Ic x ifs)),(12,.rom Cv ((AK (yR x) []).map (kC x))),(13,.map Cv (done.map (kA x))),(14,.map Eh []),(16,.cells [sl Ac roots,.mref 12,.mref 13,.slice (.id 90 6) [],.slice (.id 91 1) [],.mref 14,vb false,.slice (.id 93 10) [],.slice (.id 94 4) [],nzA]),(56,.iter ((AK (yR x) []).map (kC x)) (r.map (kC x)) (some (kC x t))),(90,.tok 6 0),(91,.tok 1 0),(93,.tok 10 0),(94,.tok 4 0)] Z4 Z10 (Xi 0 ?_)));have Sh:(done++rem).Nodup:=r1.nodup_iff.2 (E3 _ [] Kt);have htn:t∉done:=fun hc=>(List.nodup_append.1 Sh).2.2 t hc t (hp.mem_iff.2 (Ah ..)) rfl;have em:Fm (done.map (kA x)) (.string t) (sl Ab (A4 x t))=(done++[t]).map (kA x):=by
    grind [IH]
   have dS:((done++[t])++r).Perm (AK (yR x) []):=by
    grind [List.Perm.append_left,List.Perm.trans,List.Perm.symm]
   refine yN (Xi _ (Yi (wo x ifs t (c84 x ifs hx)) (Yi aa3 (Xi ⟨(done++[t],r,some (kC x t)),dS⟩ ?_))));exact⟨by show r.length<rem.length;rw[hp.length_eq,BF];omega,Z3,⟨Zr,Zr,⟨Aa (HO.map Cv) em,rfl⟩,Zr,Zr,Zr,Zr,Zr,Zr,Zr,Tv⟩,Fh,Bg aa3⟩
end Go.Eng
namespace Go.Eng
open Go.Proofs
variable (c:UInt8)(s:ByteArray)
theorem sR:PC 274 [vc c] (vb (Ez c)):=by
 refine Ps De Tryz.func274 rfl (Nz rfl) ?_;have e1:decide ((97:UInt8)<=c)=decide ((97:Int)<=(c.toNat:Int)):=WF c 97 aa2;have e2:decide (c<=(122:UInt8))=decide ((c.toNat:Int)<=(122:Int)):=WE c 122 aa2;have es:Ez c=(decide ((97:Int)<=(c.toNat:Int))&&decide ((c.toNat:Int)<=(122:Int))):=by grind [Ez]
 refine Yi ?_ ?_
 .intro h;refine Yi ?_ ?_
  .intro h2;exact .of_eq (Aa vb (show true=Ez c by simp_all))
  .intro h2;exact .of_eq (Aa vb (show false=Ez c by simp_all))
 .intro h;exact .of_eq (Aa vb (show false=Ez c by simp_all))
theorem oM:PC 275 [vc c] (vb (Co c)):=by
 refine Ps De Tryz.func275 rfl (Nz rfl) ?_;have e1:decide ((48:UInt8)<=c)=decide ((48:Int)<=(c.toNat:Int)):=WF c 48 aa2;have e2:decide (c<=(57:UInt8))=decide ((c.toNat:Int)<=(57:Int)):=WE c 57 aa2;have es:Co c=(decide ((48:Int)<=(c.toNat:Int))&&decide ((c.toNat:Int)<=(57:Int))):=by grind [Co]
 refine Yi ?_ ?_
 .intro h;refine Yi ?_ ?_
  .intro h2;exact .of_eq (Aa vb (show true=Co c by simp_all))
  .intro h2;exact .of_eq (Aa vb (show false=Co c by simp_all))
 .intro h;exact .of_eq (Aa vb (show false=Co c by simp_all))
theorem Ab0:PC 324 [vc c] (vb (Ml c)):=by
 refine Ps De Tryz.func324 rfl (Nz rfl) ?_;have e1:decide ((65:UInt8)<=c)=decide ((65:Int)<=(c.toNat:Int)):=WF c 65 aa2;have e2:decide (c<=(90:UInt8))=decide ((c.toNat:Int)<=(90:Int)):=WE c 90 aa2;have es:Ml c=(decide ((65:Int)<=(c.toNat:Int))&&decide ((c.toNat:Int)<=(90:Int))):=by grind [Ml]
 refine Yi ?_ ?_
 .intro h;refine Yi ?_ ?_
  .intro h2;exact .of_eq (Aa vb (show true=Ml c by simp_all))
  .intro h2;exact .of_eq (Aa vb (show false=Ml c by simp_all))
 .intro h;exact .of_eq (Aa vb (show false=Ml c by simp_all))
theorem AaZ:PC 314 [vc c] (vb (FU c)):=by
 have h1:=sR c;have h2:=Ab0 c;have h3:=oM c;have ew:FU c=(Ez c||Ml c||Co c||decide (c=95)):=rfl;rcases Bt (Ez c)with e | e
 .rw[e]at h1;refine Ps De Tryz.func314 rfl (Nz rfl) (Xi .pure (Xi _ (Yi (h1) ?_)));exact .of_eq (Aa vb (show true=FU c by simp_all))
 rw[e]at h1;rcases Bt (Ml c)with e2 | e2
 .rw[e2]at h2;refine Ps De Tryz.func314 rfl (Nz rfl) (Xi .pure (Xi _ (Yi (h1) (Xi .pure (Xi _ (Yi (h2) ?_))))));exact .of_eq (Aa vb (show true=FU c by simp_all))
 rw[e2]at h2;rcases Bt (Co c)with e3 | e3
 .rw[e3]at h3;refine Ps De Tryz.func314 rfl (Nz rfl) (Xi .pure (Xi _ (Yi (h1) (Xi .pure (Xi _ (Yi (h2) (Xi .pure (Xi _ (Yi (h3) ?_)))))))));exact .of_eq (Aa vb (show true=FU c by simp_all))
 rw[e3]at h3;refine Ps De Tryz.func314 rfl (Nz rfl) (Xi .pure (Xi _ (Yi (h1) (Xi .pure (Xi _ (Yi (h2) (Xi .pure (Xi _ (Yi (h3) ?_)))))))));have eb:decide (c=95)=decide ((c.toNat:Int)=95):=by
  rw[Dh,A8,A8];constructor
  .simp_all
  .intro h;exact HS.1 (by grind)
 refine Yi ?_ ?_
 .intro h;exact .of_eq (Aa vb (show true=FU c by simp_all))
 .intro h;exact .of_eq (Aa vb (show false=FU c by simp_all))
theorem AaW(hs:s.data.toList.length<4611686018427387904):PC 294 [vs s] (vb (s.data.toList.all FU)):=by
 have FG:s.size=s.data.toList.length:=by simp
 refine Ps De Tryz.func294 rfl (Nz rfl) (Xi {i:Nat // i<=s.data.toList.length/\∀j (hj:j<s.data.toList.length),j<i->FU s.data.toList[j]=true} (Xi (fun i=>⟨[(0,vs s),(3,vi i.1)],[],Ae⟩) (Xi (fun i=>s.data.toList.length-i.1) (Yi (Xi ⟨0,Ap _,fun j _ h=>by omega⟩ ?_) ?_))))
 .exact⟨Z2,Tv,Fh,Tv⟩
 intro⟨i,h1,h2⟩;refine Yi ?_ ?_
 .intro h;have h:(i:Int)<(s.size:Nat):=h;have h:i<s.data.toList.length:=by omega
  refine Xi s.data.toList[i] (Yi ⟨by omega,by grind⟩ ?_);have hc:=AaZ s.data.toList[i];refine AA (Bt (FU s.data.toList[i])) (fun e=>?_) (fun e=>?_)
  .rw[e]at hc;refine Xi .pure (Xi _ (Yi (hc) (Yi (by grind [As]) (Xi ⟨i+1,by omega,fun j hj Hg=>?_⟩ ?_))))
   .grind
   .exact⟨by grind,Z2,Tv,Fh,Tv⟩
  .rw[e]at hc;refine Xi .pure (Xi _ (Yi (hc) ?_));have er:s.data.toList.all FU=false:=by
    grind
   exact .of_eq (Aa vb er.symm)
 .intro h;have h:¬(i:Int)<(s.size:Nat):=h;have er:s.data.toList.all FU=true:=BO.2 fun c hc=>by
   grind [List.getElem_of_mem]
  exact .of_eq (Aa vb er.symm)
abbrev kwB:List ByteArray:=ud.map bs
theorem AaY:PC 296 [] (sl Xe kwB):=by
 refine Ps De Tryz.func296 rfl (Nz rfl) ?_;exact .refl _
theorem AaX(l:List ByteArray)(s:ByteArray)(hl:BL l):PC 295 [sl Xe l,vs s] (vb (l.any fun q=>decide (q=s))):=by
 unfold BL at hl;refine Ps De Tryz.func295 rfl (Nz rfl) (Xi {i:Nat // i<=l.length/\∀j (hj:j<l.length),j<i->l[j]≠s} (Xi (fun i=>⟨[(0,sl Xe l),(1,vs s),(5,vi i.1)],[],Ae⟩) (Xi (fun i=>l.length-i.1) (Yi (Xi ⟨0,Ap _,fun j _ h=>by omega⟩ ?_) ?_))))
 .exact⟨Z3,Tv,Fh,Tv⟩
 intro⟨i,h1,h2⟩;refine Yi ?_ ?_
 .intro h;have h:i<l.length:=by simp_all
  have hg:l[i]?=some l[i]:=Ge h;refine Xi (Xe l[i]) (Yi (Yi aa0 (by simp_all)) (Yi rfl ?_));refine Yi ?_ ?_
  .intro he;exact .of_eq (Aa vb (show true=_ from(Bu.2 ⟨l[i],Ak h,by simp_all⟩).symm))
  .intro he;refine Yi (by grind [As]) (Xi ⟨i+1,by omega,fun j hj Hg=>?_⟩ ?_)
   .grind
   .exact⟨by grind,Z3,Tv,Fh,Tv⟩
 .intro h;have h:¬i<l.length:=by simp_all
  have er:(l.any fun q=>decide (q=s))=false:=by
   grind [List.getElem_of_mem]
  exact .of_eq (Aa vb er.symm)
theorem vU{w:List UInt8}{s:ByteArray}:bs w=s↔w=s.data.toList:=by
 constructor
 .intro h;rw[<-h];rfl
 .intro h;rw[h];rfl
theorem uf:(kwB.any fun q=>decide (q=s))=ud.any (fun w=>decide (w=s.data.toList)):=by
 grind [vU]
theorem AaS(hs:s.data.toList.length<4611686018427387904):PC 276 [vs s] (vb (GE s.data.toList)):=by
 have FG:s.size=s.data.toList.length:=by simp
 obtain⟨N,hN⟩:∃N,N=GE s.data.toList:=⟨_,rfl⟩;rw[<-hN];unfold GE at hN;have py:=AaW s hs;have kV:=AaX kwB s aa2;rw[uf]at kV;refine Ps De Tryz.func276 rfl (Nz rfl) (Yi (fun h=>?_) (fun h=>?_))
 rotate_left
 .have e:s.data.toList=[]:=Aw aa0;exact .of_eq (Aa vb (show false=N by simp_all))
 have he:s.data.toList.isEmpty=false:=by
  grind
 refine Yi (fun h2=>?_) (fun h2=>?_)
 rotate_left
 .exact .of_eq (Aa vb (show false=N by grind))
 refine Al (show ∃c l,s.data.toList=c::l by cases e:s.data.toList with | nil=>simp_all | cons c l=>simp_all) (fun c hc=>?_);refine Al hc (fun l hc=>?_);refine Xi c (Yi ⟨by decide,by show s.data[(0:Int).toNat]?=_;rw[<-CB,hc];rfl⟩ ?_);have px:=sR c;have hN:N=(Ez c&&s.data.toList.all FU&&!Vm s.data.toList):=by
  grind
 refine AA (Bt (Ez c)).symm (fun e=>?_) (fun e=>?_)
 .rw[e]at px;refine Xi .pure (Xi _ (Yi (px) ?_));exact .of_eq (Aa vb (show false=N by simp_all))
 rw[e]at px;refine Xi .pure (Xi _ (Yi (px) (AA (Bt (s.data.toList.all FU)).symm (fun e2=>?_) (fun e2=>?_))))
 .rw[e2]at py;refine Xi .pure (Xi _ (Yi (py) ?_));exact .of_eq (Aa vb (show false=N by grind))
 rw[e2]at py;refine Xi .pure (Xi _ (Yi (py) (Xi .pure (Xi _ (Yi (AaY) ?_)))));rw[bZ e2]at hN;refine AA (Bt (ud.any (fun w=>decide (w=s.data.toList)))) (fun e3=>?_) (fun e3=>?_)
 .rw[e3]at kV;refine Xi .pure (Xi _ (Yi (kV) ?_));exact .of_eq (Aa vb (show false=N by grind))
 .rw[e3]at kV;refine Xi .pure (Xi _ (Yi (kV) ?_));exact .of_eq (Aa vb (show true=N by grind))
theorem ny{s:ByteArray}:HD s.data.toList=(s.data.toList.all UJ&&GE s.data.toList):=by
 grind [HD]
theorem AaL(hs:s.data.toList.length<4611686018427387904):PC 259 [vs s] (vb (HD s.data.toList)):=by
 have FG:s.size=s.data.toList.length:=by simp
 have Abi:=AaS s hs;rw[ny];refine Ps De Tryz.func259 rfl (Nz rfl) (Xi {i:Nat // i<=s.data.toList.length/\∀j (hj:j<s.data.toList.length),j<i->UJ s.data.toList[j]=true} (Xi (fun i=>⟨[(0,vs s),(3,vi i.1)],[],Ae⟩) (Xi (fun i=>s.data.toList.length-i.1) (Yi (Xi ⟨0,Ap _,fun j _ h=>by omega⟩ ?_) ?_))))
 .exact⟨Z2,Tv,Fh,Tv⟩
 intro⟨i,h1,h2⟩;refine Yi ?_ ?_
 .intro h;have h:(i:Int)<(s.size:Nat):=h;have h:i<s.data.toList.length:=by omega
  have Oa:(0:Int)<=i/\s.data[((i:Nat):Int).toNat]?=some s.data.toList[i]:=⟨by omega,by grind⟩;have nx:UJ s.data.toList[i]=true->∀j (hj:j<s.data.toList.length),j<i+1->UJ s.data.toList[j]=true:=fun e j hj Hg=>by
   grind
  refine Xi s.data.toList[i] (Yi Oa ?_);have h3:=sR s.data.toList[i];have h4:=oM s.data.toList[i];refine AA (Bt (Ez s.data.toList[i])) (fun e=>?_) (fun e=>?_)
  .rw[e]at h3;refine Xi .pure (Xi _ (Yi (h3) (Yi (by grind [As]) (Xi ⟨i+1,by omega,nx (by grind)⟩ ?_))));exact⟨by grind,Z2,Tv,Fh,Tv⟩
  rw[e]at h3;refine Xi .pure (Xi _ (Yi (h3) (Xi s.data.toList[i] (Yi Oa (AA (Bt (Co s.data.toList[i])) (fun e2=>?_) (fun e2=>?_))))))
  .rw[e2]at h4;refine Xi .pure (Xi _ (Yi (h4) (Yi (by grind [As]) (Xi ⟨i+1,by omega,nx (by grind)⟩ ?_))));exact⟨by grind,Z2,Tv,Fh,Tv⟩
  rw[e2]at h4;refine Xi .pure (Xi _ (Yi (h4) ?_));have er:s.data.toList.all UJ=false:=by
   grind
  exact .of_eq (Aa vb (by grind))
 .intro h;have h:¬(i:Int)<(s.size:Nat):=h;have er:s.data.toList.all UJ=true:=BO.2 fun c hc=>by
   grind [List.getElem_of_mem]
  refine Xi .pure (Xi _ (Yi (Abi) ?_));exact .of_eq (Aa vb (by grind))
abbrev Vu:Option Int->AV
 |some n=>vi n
 |none=>vi (-1)
theorem AaM(hs:s.data.toList.length<4611686018427387904):PC 260 [vs s] (Vu (Gz s.data.toList)):=by
 have FG:s.size=s.data.toList.length:=by simp
 refine Ps (Dw [3]) Tryz.func260 rfl (Nz rfl) (Yi (fun h=>?_) (fun h=>?_))
 .exact .of_eq (Aa Vu (show(none:Option Int)=Gz s.data.toList by
   cases hs:s.data.toList with
   |nil=>rfl
   |cons c r=>
    cases r<;>grind [Gz]))
 refine Al (show ∃c r,s.data.toList=c::r by
  cases e:s.data.toList<;>simp_all) (fun c hc=>?_)
 refine Al hc (fun r jA=>?_);have Jh:s.size=r.length+1:=by simp_all
 have hv0:Gz s.data.toList=if c=118 then(if(r.isEmpty||decide (3<r.length)||(decide (1<r.length)&&decide (r.headD 0=48))||!r.all Co)=true then none else some (DX r))else none:=by rw[jA];rfl
 refine Yi (fun h2=>?_) (fun h2=>?_)
 .exact .of_eq (Aa Vu (show(none:Option Int)=Gz s.data.toList by grind))
 refine Xi c (Yi ⟨by decide,by show s.data[(0:Int).toNat]?=_;rw[<-CB,jA];rfl⟩ ?_);refine Yi (fun h3=>?_) (fun h3=>?_)
 .have h3:¬c=118:=fun e=>h3 (by simp_all);exact .of_eq (Aa Vu (show(none:Option Int)=Gz s.data.toList by simp_all))
 have h3:c=118:=HS.1 (by grind);have hr:s.data.toList=118::r:=by simp_all
 have hv:Gz s.data.toList=if(r.isEmpty||decide (3<r.length)||(decide (1<r.length)&&decide (r.headD 0=48))||!r.all Co)=true then none else some (DX r):=by simp_all
 have CD:0<r.length:=by omega
 have pO:r.isEmpty=false:=by
  grind
 have xM:r.length<=3:=by omega
 have d3:decide (3<r.length)=false:=AP aa0;have z0:DX (r.take 0)=0:=rfl;have hh:=Ob r CD;refine Xi r[0] (Yi ⟨by decide,by show s.data[(1:Int).toNat]?=_;rw[<-CB,jA];simp_all⟩ ?_);refine Yi (fun h4=>?_) (fun h4=>?_)
 .have h4:r[0]=48:=HS.1 (by grind);refine Yi (fun h5=>?_) (fun h5=>?_)
  .exact .of_eq (Aa Vu (show(none:Option Int)=Gz s.data.toList by grind))
  have eo:(decide (1<r.length)&&decide (r.headD 0=48))=false:=by grind
  refine cU [(0,vs s)] [] Z1 Tv (Xi {i:Nat // i<=r.length/\(∀j (hj:j<r.length),j<i->Co r[j]=true)/\0<=DX (r.take i)/\(i=0->DX (r.take i)<=0)/\(i<=1->DX (r.take i)<=9)/\(i<=2->DX (r.take i)<=99)/\DX (r.take i)<=999} (Xi (fun i=>⟨[(0,vs s),(3,vi (DX (r.take i.1))),(4,vi (1+(i.1:Int)))],[],Ae⟩) (Xi (fun i=>r.length-i.1) (Yi (Xi ⟨0,Ap _,fun j _ h=>by omega,by omega,fun _=>by omega,fun _=>by omega,fun _=>by omega,by omega⟩ ?_) ?_))))
  .exact⟨Z3,Tv,Fh,Tv⟩
  intro⟨i,i1,i0,i2,i3,i4,i5,i6⟩;refine Yi ?_ ?_
  .intro h;have h:1+(i:Int)<(s.size:Nat):=h;have h:i<r.length:=by omega
   have Oa:(0:Int)<=1+(i:Int)/\s.data[(1+(i:Int)).toNat]?=some r[i]:=⟨by omega,by rw[show(1+(i:Int)).toNat=i+1 by omega,<-CB,hr,SC];simp_all⟩;refine Xi r[i] (Yi Oa ?_);have hc:=oM r[i];refine AA (Bt (Co r[i])).symm (fun e=>?_) (fun e=>?_)
   .rw[e]at hc;refine Xi .pure (Xi _ (Yi (hc) ?_));have GI:r.all Co=false:=by
     grind
    exact .of_eq (Aa Vu (show(none:Option Int)=Gz s.data.toList by simp_all))
   rw[e]at hc;refine Xi .pure (Xi _ (Yi (hc) ?_));have rH:=Jf e;have jz:=KT r i h;have oe:IntKind.u8.wrap ((r[i].toNat:Int)-48)=(r[i].toNat:Int)-48:=Sz aa0 aa0;refine Yi (by show As (10*DX (r.take i));unfold As;omega) (Xi r[i] (Yi Oa (Yi (by show As (IntKind.u8.wrap ((r[i].toNat:Int)-48));rw[oe];unfold As;omega) ?_)));refine Yi (by show As (10*DX (r.take i)+IntKind.u8.wrap ((r[i].toNat:Int)-48));rw[oe];unfold As;omega) ?_;refine Yi (by show As (1+(i:Int)+1);unfold As;omega) ?_;have e5:vi (10*DX (r.take i)+IntKind.u8.wrap ((r[i].toNat:Int)-48))=vi (DX (r.take (i+1))):=by simp_all
   have e6:vi (1+(i:Int)+1)=vi (1+((i+1:Nat):Int)):=Aa vi aa0;refine Xi ⟨i+1,by omega,fun j hj Hg=>?_,by omega,fun _=>by omega,fun _=>by omega,fun _=>by omega,by omega⟩ ?_
   .grind
   .exact⟨Dl r.length i aa0,⟨Zr,⟨e5,rfl⟩,⟨e6,rfl⟩,Tv⟩,Tv,Fh,Tv⟩
  .intro h;have h:¬1+(i:Int)<(s.size:Nat):=h;have e3:r.all Co=true:=BO.2 fun c hc=>by
    grind [List.getElem_of_mem]
   have e6:vi (DX (r.take i))=Vu (Gz s.data.toList):=by grind
   exact .of_eq e6
 have eo:(decide (1<r.length)&&decide (r.headD 0=48))=false:=by rw[hh,AP (show ¬r[0]=48 from fun e=>h4 (by simp_all)),Bool.and_false]
 refine cU [(0,vs s)] [] Z1 Tv (Xi {i:Nat // i<=r.length/\(∀j (hj:j<r.length),j<i->Co r[j]=true)/\0<=DX (r.take i)/\(i=0->DX (r.take i)<=0)/\(i<=1->DX (r.take i)<=9)/\(i<=2->DX (r.take i)<=99)/\DX (r.take i)<=999} (Xi (fun i=>⟨[(0,vs s),(3,vi (DX (r.take i.1))),(4,vi (1+(i.1:Int)))],[],Ae⟩) (Xi (fun i=>r.length-i.1) (Yi (Xi ⟨0,Ap _,fun j _ h=>by omega,by omega,fun _=>by omega,fun _=>by omega,fun _=>by omega,by omega⟩ ?_) ?_))))
 .exact⟨Z3,Tv,Fh,Tv⟩
 intro⟨i,i1,i0,i2,i3,i4,i5,i6⟩;refine Yi ?_ ?_
 .intro h;have h:1+(i:Int)<(s.size:Nat):=h;have h:i<r.length:=by omega
  have Oa:(0:Int)<=1+(i:Int)/\s.data[(1+(i:Int)).toNat]?=some r[i]:=⟨by omega,by rw[show(1+(i:Int)).toNat=i+1 by omega,<-CB,hr,SC];simp_all⟩;refine Xi r[i] (Yi Oa ?_);have hc:=oM r[i];refine AA (Bt (Co r[i])).symm (fun e=>?_) (fun e=>?_)
  .rw[e]at hc;refine Xi .pure (Xi _ (Yi (hc) ?_));have GI:r.all Co=false:=by
    grind
   exact .of_eq (Aa Vu (show(none:Option Int)=Gz s.data.toList by simp_all))
  rw[e]at hc;refine Xi .pure (Xi _ (Yi (hc) ?_));have rH:=Jf e;have jz:=KT r i h;have oe:IntKind.u8.wrap ((r[i].toNat:Int)-48)=(r[i].toNat:Int)-48:=Sz aa0 aa0;refine Yi (by grind [As]) (Xi r[i] (Yi Oa (Yi (by grind [As]) (Yi (by show As (10*DX (r.take i)+IntKind.u8.wrap ((r[i].toNat:Int)-48));rw[oe];unfold As;omega) ?_))));refine Yi (by grind [As]) ?_;have e5:vi (10*DX (r.take i)+IntKind.u8.wrap ((r[i].toNat:Int)-48))=vi (DX (r.take (i+1))):=by simp_all
  have e6:vi (1+(i:Int)+1)=vi (1+((i+1:Nat):Int)):=Aa vi aa0;refine Xi ⟨i+1,by omega,fun j hj Hg=>?_,by omega,fun _=>by omega,fun _=>by omega,fun _=>by omega,by omega⟩ ?_
  .grind
  .exact⟨Dl r.length i aa0,⟨Zr,⟨e5,rfl⟩,⟨e6,rfl⟩,Tv⟩,Tv,Fh,Tv⟩
 .intro h;have h:¬1+(i:Int)<(s.size:Nat):=h;have e3:r.all Co=true:=BO.2 fun c hc=>by
   grind [List.getElem_of_mem]
  have e6:vi (DX (r.take i))=Vu (Gz s.data.toList):=by grind
  exact .of_eq e6
abbrev aF(l:List UInt8):List ByteArray:=(CA 47 l).map bs
def Wq:List (List UInt8)->UInt8->List (List UInt8)
 | [],_=>[]
 | [x],b=>[x++[b]]
 |x::l,b=>x::Wq l b
theorem K3(s:List UInt8):CA c s≠[]:=by
 cases s<;>grind [CA]
theorem UU(c:UInt8):∀s:List UInt8,CA c (s++[c])=CA c s++[[]]
 | []=>by simp[CA]
 |b::r=>by
  rw[F2,CA,UU c r,CA]
  by_cases e:b=c
  all_goals grind [K3]
theorem Uv(x:List UInt8){l:List (List UInt8)}(b:UInt8)(h:l≠[]):Wq (x::l) b=x::Wq l b:=by
 cases l with
 |nil=>simp_all
 |cons y l=>rfl
theorem RM(c b:UInt8)(hb:b≠c):∀s:List UInt8,CA c (s++[b])=Wq (CA c s) b
 | []=>by grind [CA,Wq]
 |a::r=>by
  rw[F2,CA,RM c b hb r,CA]
  by_cases e:a=c
  .grind [Uv,K3]
  .rw[AI e,AI e];cases h:CA c r with
   |nil=>grind [K3]
   |cons x l=>
    cases l with
    |nil=>rfl
    |cons y l=>rfl
theorem Wr(b:UInt8):∀(l:List (List UInt8)) (x:List UInt8),l[l.length-1]?=some x->l.set (l.length-1) (x++[b])=Wq l b
 | [],_,h=>by cases h
 | [y],x,h=>by
  have h:some y=some x:=h;rw[EY h];rfl
 |y::z::l,x,h=>by
  have h:(z::l)[(z::l).length-1]?=some x:=h;rw[Uv y b (List.cons_ne_nil _ _),<-Wr b (z::l) x h];rfl
theorem UT(s:List UInt8):(CA c s).length<=s.length+1:=by
 induction s<;>grind [CA]
abbrev yv:Md:=⟨[],[],[(5,1)],[],[],[],[],[],[],[(36,3)],[4]⟩
theorem mN{l:List UInt8}{c:UInt8}(hc:c≠47){x:ByteArray}(h:(aF l)[(aF l).length-1]?=some x):(aF l).set ((aF l).length-1) (x++bs [c])=aF (l++[c]):=by
 have h2:=h;rw[BA,Lm]at h;obtain⟨y,hy,e⟩:=B3.1 h;subst e;show _=(CA 47 (l++[c])).map bs;rw[RM 47 c hc l,<-Wr c (CA 47 l) y hy,U6,Lm]
 congr 1
theorem AaK(hs:F1 s):PC 258 [vs s] (sl GR (aF s.data.toList)):=by
 unfold F1 at hs;have FG:s.size=s.data.toList.length:=by simp
 refine Ps yv Tryz.func258 rfl (Nz rfl) (Xi {p:Nat×List ByteArray // p.1<=s.data.toList.length/\p.2=aF (s.data.toList.take p.1)} (Xi (fun p=>⟨[(0,vs s),(3,.msl 5 p.1.2.length),(4,vi p.1.1)],[(5,.arr 1 (p.1.2.map GR))],Ae⟩) (Xi (fun p=>s.data.toList.length-p.1.1) (Yi (Xi ⟨(0,[bs []]),Ap _,rfl⟩ ?_) ?_))))
 .exact⟨Z3,Z1,Fh,Tv⟩
 intro⟨⟨i,A⟩,h1,hA⟩;have hA:A=aF (s.data.toList.take i):=hA;have oa:A.length<=i+1:=by
  grind [UT]
 have oc:0<A.length:=by
  grind [K3]
 refine Yi (fun h=>?_) (fun h=>?_)
 .have h:(i:Int)<(s.size:Nat):=h;have h:i<s.data.toList.length:=by omega
  have Oa:(0:Int)<=i/\s.data[((i:Nat):Int).toNat]?=some s.data.toList[i]:=⟨by omega,by grind⟩;have tV:s.data.toList.take (i+1)=s.data.toList.take i++[s.data.toList[i]]:=by grind [List.take_add_one]
  refine Xi s.data.toList[i] (Yi Oa (Yi (fun h2=>?_) (fun h2=>?_)))
  .have h2:s.data.toList[i]=47:=HS.1 (by grind);have CO:A7 1 [[vs (bs [])]]/\(A.map GR).length=A.length/\((A.map GR).length+[[vs (bs [])]].length)*16<=140737488355328/\(A.map GR).length+[[vs (bs [])]].length<=9223372036854775807:=
    ⟨⟨rfl,trivial⟩,by grind,by grind,by grind⟩
   refine Yi CO (Xi ⟨[(0,vs s),(3,.msl 5 (A++[bs []]).length),(4,vi i)],[(5,.arr 1 ((A++[bs []]).map GR))],Ae⟩ (Yi ?_ ?_))
   .have e1:AV.msl 5 ((A.map GR).length+[[vs (bs [])]].length)=.msl 5 (A++[bs []]).length:=by simp
    have e2:HO.arr 1 (A.map GR++[[vs (bs [])]])=.arr 1 ((A++[bs []]).map GR):=by grind
    exact⟨⟨Zr,⟨e1,rfl⟩,Zr,Tv⟩,⟨⟨e2,rfl⟩,Tv⟩,Fh,Tv⟩
   refine Yi (by grind [As]) ?_;have eA:A++[bs []]=aF (s.data.toList.take (i+1)):=by
    rw[hA,tV,h2];show _=(CA 47 _).map bs;rw[UU,BD];rfl
   refine Xi ⟨(i+1,A++[bs []]),by omega,eA⟩ ?_;exact⟨by grind,Z3,Z1,Fh,Tv⟩
  have h2:¬(s.data.toList[i].toNat:Int)=47:=h2;have h2:s.data.toList[i]≠47:=fun e=>h2 (by rw[e];rfl);have tx:As ((A.length:Int)-1):=by grind [As]
  have E1:A.length-1<A.length:=by omega
  have hn:((A.length:Int)-1).toNat=A.length-1:=by omega
  have hg:A[A.length-1]?=some A[A.length-1]:=Ge E1;have tv:F1 A[A.length-1]:=by
   have pW:∀x∈A,x∈aF (s.data.toList.take i):=fun x hx=>hA▸hx;obtain⟨y,hy,e⟩:=Ar.1 (pW _ (Ak E1));have h5:=LI 47 _ y hy;rw[Cy]at h5;unfold F1;rw[<-e,show(bs y).size=y.length from rfl];omega
  have gP:((A[A.length-1].size+(⟨[s.data.toList[i]].toArray⟩:ByteArray).size:Nat):Int)<=9223372036854775807:=by
   unfold F1 at tv
   have:(⟨[s.data.toList[i]].toArray⟩:ByteArray).size=1:=rfl
   omega
  refine Yi tx (Yi tx (Yi (show(0:Int)<=(A.length:Int)-1/\(A.length:Int)-1<(A.length:Int) by omega) (Yi (by grind) ?_)));have vo:(A.map GR)[((A.length:Int)-1).toNat]?=some (GR A[A.length-1]):=by rw[hn];grind
  refine Xi (GR A[A.length-1]) (Yi vo (Xi s.data.toList[i] (Yi Oa (Xi [s.data.toList[i]] (Yi rfl (Yi gP (Yi (show(0:Int)<=(A.length:Int)-1/\(A.length:Int)-1<(A.length:Int) by omega) (Yi (by grind) (Xi (GR A[A.length-1]) (Yi vo (yN (Yi aa3 (Al (show ∃B,B=A.set (A.length-1) (A[A.length-1]++bs [s.data.toList[i]])from⟨_,rfl⟩) (fun B hB=>?_))))))))))))));have wY:B.length=A.length:=by rw[hB,Vw]
  have e2:HO.arr 1 ((A.map GR).set ((A.length:Int)-1).toNat [vs (A[A.length-1]++⟨[s.data.toList[i]].toArray⟩)])=.arr 1 (B.map GR):=by rw[hn,hB,U6];rfl
  refine cU [(0,vs s),(3,.msl 5 B.length),(4,vi i)] [(5,.arr 1 (B.map GR))] ⟨Zr,⟨Aa (AV.msl 5) wY.symm,rfl⟩,Zr,Tv⟩ ⟨⟨e2,rfl⟩,Tv⟩ (Yi (Ii i aa0) ?_);have eB:B=aF (s.data.toList.take (i+1)):=by
   rw[tV,hB];subst hA;exact mN h2 hg
  refine Xi ⟨(i+1,B),by omega,eB⟩ ?_;exact⟨by grind,Z3,Z1,Fh,Tv⟩
 .have h:¬(i:Int)<(s.size:Nat):=h;refine Yi (by grind) ?_;exact .of_eq (Aa (sl GR) (show A=aF s.data.toList by grind))
end Go.Eng
