/- Lemmas 23. -/
import Derived.Test.YteaiieomnhbmgaaGreatDoorBA22
set_option maxHeartbeats 8000000
namespace Go.Eng
open Go.Proofs Go.Proofs.Tryz
variable {l:List CS}{h:Nat->HO}{a:AV}(x:List Rl)(roots:List Rq)(C:List (Value×AV))(y:List Rl)(A:List (Value×AV))(ifs:C0)(n j:Nat)(s:SS)(dec:List Cd)(st:List (List Sk))(p:CS)
theorem AgR(n0:Nd)(l:List Nd)(V:AV)(cs:List Cd)(R O:KY)(hL:Lvl x roots C A n dec p n0 l V cs)(hs:Lt x roots s)(_:st.length=dec.length)(SK:AP Tryz.prog 186 [.ref 1000 0] (Ai (Jv roots C A s dec st) Ac) fun r h'=>r=.tup [vs p,sl Bj (n0::l)]/\h'=Ai (Jv roots C A s dec st) Ac)(AjR:cs=[])(hC2:∀a,(Value.string p,a)∉C)(hR:DS (CL x roots n) x p (n0::l) n0 dec st cs s [] []=R)(gw:O=R) :
  AP Tryz.prog 137 [.ref 1000 0] (Ai (Jv roots C A s dec st) Ac) (cX roots C A O):=by
 obtain⟨hx,hr,hdl,hcl,hcs,hnl,hnq,hnp,hex,hcx,hcq,hcp_,hcr,hcs_,hkey,hinf0,⟨hV1,hV2,hV3⟩,ih⟩:=hL;have aM:∀(i:Nat) (h:i<cs.length),cs[i]∈Bx x p:=fun i h=>by simp_all
 have yT:∀(i:Nat) (h:i<cs.length),BJ (Aw (dec++[cs[i]])):=fun i h=>by grind
 clear hcs
 refine BO (LB ⟨[9],[(6,1),(7,3),(145,1)],[],[],[],[],[],[],[],[(300001,500091000),(300026,500091000),(300029,500091000)],[1,2,5,10,11,13,14,15,16,17,19,21,22,23,24,25,26,28,29,31,32,33,35]⟩) [(1000,1000),(1001,1001),(1002,1002),(1003,1003),(1004,1004),(500,2000)] rfl Ck hm rfl func137 Wk rfl (Nz rfl) Wk rfl (Yi (show st.length=(st.map Bc).length by simp) (cU [(0,.ref 1000 0)] [(500,.arr 1 (st.map Bc)),(1000,.cells (srM roots C A s dec 500 st.length)),(1001,.tok 6 s.infs.length),(1002,.tok 1 s.drv.length),(1003,.map Fw (Fy 0 s.infs)),(1004,.dead)] Z1 Z6 (Xi (.gen cV 0) (Yi rfl (AP.imp SK ?_)))));intro v1 g1 q1;have te:=q1.1;have tf:=q1.2;subst te;subst tf;refine cU [(0,.ref 1000 0),(4,vs p),(5,sl Bj (n0::l))] [(500,.arr 1 (st.map Bc)),(1000,.cells (srM roots C A s dec 500 st.length)),(1001,.tok 6 s.infs.length),(1002,.tok 1 s.drv.length),(1003,.map Fw (Fy 0 s.infs)),(1004,.dead)] Z3 Z6 (Yi (fun h2=>?_) (fun h2=>?_))
 .exact absurd h2 (by grind)
 refine cU [(0,.ref 1000 0),(4,vs p),(5,sl Bj (n0::l)),(6,.slice (.id 6 1) [])] [(6,.tok 1 0),(500,.arr 1 (st.map Bc)),(1000,.cells (srM roots C A s dec 500 st.length)),(1001,.tok 6 s.infs.length),(1002,.tok 1 s.drv.length),(1003,.map Fw (Fy 0 s.infs)),(1004,.dead)] Z4 Z7 (Yi (fun a ha=>?_) (fun OX=>?_))
 .exact absurd ha (hC2 a)
 refine Xi {q:Nat×SS×List Nat×List Sk // q.1<=cs.length/\DS (CL x roots n) x p (n0::l) n0 dec st (cs.drop q.1) q.2.1 q.2.2.1 q.2.2.2=R/\Lt x roots q.2.1/\(∀r∈q.2.2.1,r<q.2.1.drv.length)/\q.2.2.1.length<=q.1/\q.2.2.2.length<=q.1} (Xi (fun q=>⟨[(0,.ref 1000 0),(4,vs p),(5,sl Bj (n0::l)),(6,.slice (.id 6 1) (q.1.2.2.1.map CG)),(7,.slice (.id 7 3) (q.1.2.2.2.map Cj)),(32,BE),(33,vi 0),(34,vi q.1.1)],[(6,.tok 1 q.1.2.2.1.length),(7,.tok 3 q.1.2.2.2.length),(500,.arr 1 (st.map Bc)),(1000,.cells (srM roots C A q.1.2.1 dec 500 st.length)),(1001,.tok 6 q.1.2.1.infs.length),(1002,.tok 1 q.1.2.1.drv.length),(1003,.map Fw (Fy 0 q.1.2.1.infs)),(1004,.dead)],Ac⟩) (Xi (fun q=>cs.length-q.1.1) (Yi (Xi ⟨(0,s,[],[]),Al _,hR,hs,fun r h=>(by cases h),Ap _,Ap _⟩ ?_) ?_)))
 .exact⟨Z8,Z8,Fh,A4 Wk⟩
 intro⟨⟨i,S,rs,sk⟩,j1,j2,j3,j4,j5,j6⟩;have j5:rs.length<=i:=j5;have hw:=j3.dl;have YM:∀t∈S.drv,lG t:=fun t ht=>by have q:=j3.der.few hx hr t ht;grind
 refine Yi (fun h3=>?_) (fun h3=>?_)
 .have h3:(i:Int)<(0:Int):=h3;exact absurd h3 ch
 have h3:¬((i:Int)<(0:Int)):=h3;refine Xi (Bj n0) (Yi (Yi (show(0:Int)<=0 by decide) rfl) (Yi rfl (yN (Xi (.gen cV 0) (Yi rfl (AP.imp (s91 x roots C A S dec st p n0 rs V hx hr j3 hinf0 j4 ch (hnq n0 (Af ..)) (hnp n0 (Af ..)) hV1 hV2 hV3) ?_))))));intro v4 g4 q4;have q4a:=q4.1;have q4b:=q4.2;subst q4a;subst q4b;have hj:¬i<cs.length:=by simp_all
 have eR:R=⟨(DG x p n0 rs S).1,false,(DG x p n0 rs S).2,dec,st⟩:=by rw[<-j2];exact ml hj
 exact C2 (.refl _) (Oa (gw.trans eR))
theorem AgT(N:List Nd)(O:KY)(hN:N=[])(SK:AP Tryz.prog 186 [.ref 1000 0] (Ai (Jv roots C A s dec st) Ac) fun r h'=>r=.tup [vs p,sl Bj N]/\h'=Ai (Jv roots C A s dec st) Ac)(hO:O=⟨0,true,s,dec,st⟩) :
  AP Tryz.prog 137 [.ref 1000 0] (Ai (Jv roots C A s dec st) Ac) (cX roots C A O):=by
 refine BO (LB ⟨[],[],[],[],[],[],[],[],[],[(300001,500091000)],[1,2,5,10,11,13,14,15,16,17,19,21,22,23,25,28,29,31,32,33,35]⟩) [(1000,1000),(1001,1001),(1002,1002),(1003,1003),(1004,1004),(500,2000)] rfl Ck hm rfl func137 Wk rfl (Nz rfl) Wk rfl (Yi (show st.length=(st.map Bc).length by simp) (cU [(0,.ref 1000 0)] [(500,.arr 1 (st.map Bc)),(1000,.cells (srM roots C A s dec 500 st.length)),(1001,.tok 6 s.infs.length),(1002,.tok 1 s.drv.length),(1003,.map Fw (Fy 0 s.infs)),(1004,.dead)] Z1 Z6 (Xi (.gen cV 0) (Yi rfl (AP.imp SK ?_)))));intro v1 g1 q1;have te:=q1.1;have tf:=q1.2;subst te;subst tf;refine cU [(0,.ref 1000 0),(4,vs p),(5,sl Bj N)] [(500,.arr 1 (st.map Bc)),(1000,.cells (srM roots C A s dec 500 st.length)),(1001,.tok 6 s.infs.length),(1002,.tok 1 s.drv.length),(1003,.map Fw (Fy 0 s.infs)),(1004,.dead)] Z3 Z6 (Yi (fun h2=>?_) (fun h2=>?_))
 .exact C2 (.refl _) (Oa (st:=st) hO)
 exact absurd (by simp_all) h2
section
variable {x:List Rl}{roots:List Rq}{p:CS}
theorem Iz:∀(l:List Nat) {k:Nat} {s:SS},s.infs.Nodup->(B9 p l k s).2.infs.Nodup
 | [],_,_,h=>h
 |r::l,k,s,h=>by
  unfold B9;split
  .exact h
  split
  .exact Iz l h
  split
  .exact Iz l h
  .exact Iz l (Im h)
theorem Lw{needs:List Nd}{n0:Nd}{dec:List Cd}{st:List (List Sk)}{rec:List Cd->SS->List (List Sk)->KY}(aU:∀c s st,s.infs.Nodup->(rec (dec++[c]) s st).ss.infs.Nodup) :
  ∀(cs:List Cd) {s:SS} {rs:List Nat} {sk:List Sk},s.infs.Nodup->(DS rec x p needs n0 dec st cs s rs sk).ss.infs.Nodup
 | [],s,rs,sk,h=>Iz _ (Im (Im h))
 |c::cs,s,rs,sk,h=>by
  have yD:∀(s' : SS) (k:Nat),s'.infs.Nodup->(IH rec x p needs n0 dec st c cs rs sk k s').ss.infs.Nodup:=fun s' k h'=>by
   unfold IH;split
   .exact h'
   .exact Lw aU cs h'
  rw[FM];split
  .exact h
  cases needs.find? fun n=>!has n.rq.set c.place with
  |some n=>exact Lw aU cs (Im h)
  |none=>
   dsimp only;cases Oi s.drv (Aw (dec++[c]))with
   |some k=>simp_all
   |none=>
    dsimp only;cases CY dec c with
    |some n=>exact yD _ _ (Im h)
    |none=>
     grind
theorem Qm:∀(n:Nat) {dec:List Cd} {s:SS} {st:List (List Sk)},s.infs.Nodup->(CL x roots n dec s st).ss.infs.Nodup
 |0,_,_,_,h=>h
 |n+1,dec,s,st,h=>by
  unfold CL;cases (D4 roots dec).2 with
  |nil=>exact h
  |cons n0 l=>exact Lw (fun c s st h=>Qm n h) _ h
structure zd(x:List Rl)(roots:List Rq)(C A:List (Value×AV)):Prop where
 hx:AC x=0
 hr:AR roots=0
 fx:∀r∈x,CT r
 fr:∀q∈roots,FA q
 c1:∀(p:CS) (a:AV),(Value.string p,a)∈C->a=sl AJ (Bx x p)
 c2:∀p:CS,(∀a,(Value.string p,a)∉C)->Bx x p=[]
 c3:∀p:CS,Bx x p=[]->∀a,(Value.string p,a)∉C
 av:∀p:CS,∃V,HV x A p V
theorem wu{dec:List Cd}(h:∀c∈dec,c.rel.reqs.length<=16):((dec.map fun c=>c.rel.reqs).flatten).length<=16*dec.length:=by
 induction dec<;>grind
theorem xA{r:Rl}(h:KH r):0<=plc r.ver/\plc r.ver<1000000:=by rw[h.plc];exact JZ h.val
theorem kj(dec:List Cd):(D4 roots dec).2.length<=(Dw roots dec).length:=by
 grind [U3]
theorem s45{C A:List (Value×AV)}(hE:zd x roots C A)(wB:H64 roots C A):∀(n:Nat) {dec:List Cd} {s:SS} {st:List (List Sk)},De x dec->Ih roots dec->Lt x roots s->s.full=false->Ff x dec<n->st.length=dec.length ->
  AP Tryz.prog 137 [.ref 1000 0] (Ai (Jv roots C A s dec st) Ac) (cX roots C A (CL x roots n dec s st))
 |0,_,_,_,_,_,_,_,h,_=>by omega
 |n+1,dec,s,st,hd,jP,hs,hf,hn,KR=>by
  have hx:=hE.hx;have hr:=hE.hr;have Wc:=JS hx;have hdl:=T3 hd;have Af6:dec.length<=256:=by omega
  have hrl:∀c∈dec,c.rel.reqs.length<=16:=fun c hc=>Wc.2 _ (hd.cand c hc).1;have SK:=wB s dec st ch fun c hc=>AH (hrl c hc) Cl;generalize hO:CL x roots (n+1) dec s st=O;obtain⟨N,hN⟩:∃N,N=(D4 roots dec).2:=⟨_,rfl⟩;obtain⟨q,hq⟩:∃q,q=(D4 roots dec).1:=⟨_,rfl⟩;rw[<-hN,<-hq]at SK;have hNl:N.length<=10000:=by
   grind [kj,Lg,Lm,wu,M8]
  cases hNc:N with
  |nil=>
   rw[hNc]at hN SK;refine AgT roots C A s dec st q [] O rfl SK ?_
   grind [CL]
  |cons n0 l=>
   rw[hNc]at hN SK;have hNx:=JW hN.symm;rw[<-hq]at hNx;have VR:∀nd∈n0::l,nd∈Dw roots dec:=fun nd h=>((hNx.mem nd).1 h).1;have GG:=(B3 hx).1;have few:∀{E:List Cd},De x E->∀nd∈Dw roots E,BJ nd.rq.set/\Av (nd.place+1):=fun hE' nd h=>by
    rcases MX h with ⟨k,r,h1,rfl⟩ | ⟨c,hc,k,r,h1,rfl⟩
    .grind [Av,zd.fr]
    .have h2:=hE'.cand c hc;have h3:=xA (GG _ h2.1)
     grind [Av,zd.fx]
   have yX:∀c∈Bx x q,De x (dec++[c])/\c.rel.path=q/\c.rel∈x:=fun c hc=>by
    grind [Iy,De.snoc,X3.undone]
   have FQ:∀(i:Nat) (h:i<(Bx x q).length),(Bx x q)[i]∈Bx x q:=fun i h=>Ae h;obtain⟨V,hV⟩:=hE.av q
   have hL:Lvl x roots C A n dec q n0 l V (Bx x q):={
    hx:=hx
    hr:=hr
    hdl:=Af6
    hcl:=AH (WL x q) Wc.1
    hcs:=rfl
    hnl:=by grind
    hnq:=fun nd h=>(few hd nd (VR nd h)).1
    hnp:=fun nd h=>(few hd nd (VR nd h)).2
    hex:=fun i h nd hm hh=>by
     obtain⟨a,b,_⟩:=yX _ (FQ i h);exact⟨(PV hx hr a (OF (VR nd hm)) ⟨(Bx x q)[i],by simp,b.trans ((hNx.mem nd).1 hm).2.symm,hh⟩).1,trivial⟩
    hcx:=fun i h nc hc=>by
     obtain⟨a,b,_⟩:=yX _ (FQ i h);obtain⟨m1,m2⟩:=Ly hc;exact⟨(PV hx hr a (Nw m1) m2).1,trivial⟩
    hcq:=fun i h nc hm=>(few (yX _ (FQ i h)).1 nc (Nw hm)).1
    hcp_:=fun i h nc hm=>(few (yX _ (FQ i h)).1 nc (Nw hm)).2
    hcr:=fun i h=>by grind
    hcs_:=fun i h r hm=>((hE.fx _ (yX _ (FQ i h)).2.2).2 r hm).1
    hkey:=fun i h=>by
     simp_all
    hinf0:=(Td hx hr hd (VR n0 (Af ..)) (.inl (by
     rw[((hNx.mem n0).1 (Af ..)).2]
     grind [HT,Gr,X3.undone]))).inf
    hV:=hV
    ih:=fun c hc Afr S EC hl hS hSf=>by
     obtain⟨a,b,c3⟩:=yX c hc;obtain⟨k1,k2⟩:=IC.1 Afr;obtain⟨_,c2⟩:=Iy hc;have uT:=jP.snoc hNx b k1 k2;have qC:Ff x (dec++[c])<n:=by have:=Oo (dec:=dec) ⟨c2.1,c2.2.1⟩ (by grind [X3.undone]);omega
     have h1:=s45 hE wB n a uT hS hSf qC (st:=EC) (by simp_all);have h2:=Rx hx hr n a uT hS.der hSf qC (st:=EC);exact⟨h1,⟨h2.der,Qm n hS.nodup⟩,⟨h2.grow.len,fun e1 e2=>((h2.no e1).2.2 e2).1⟩,fun e1=>(h2.no e1).2.1⟩ }
   have hR:DS (CL x roots n) x q (n0::l) n0 dec st (Bx x q) s [] []=O:=by
    grind [CL]
   by_cases hm:∀a,(Value.string q,a)∉C
   .exact AgR x roots C A n s dec st q n0 l V (Bx x q) O O hL hs KR SK (hE.c2 q hm) hm hR rfl
   .exact AgQ x roots C A n s dec st q n0 l V (Bx x q) O O hL hs KR SK (hE.c1 q) hm hR rfl
end
theorem AgS{x:List Rl}{roots:List Rq}{C A:List (Value×AV)}(hE:zd x roots C A)(n:Nat){dec:List Cd}{s:SS}{st:List (List Sk)}(h1:De x dec)(h2:Ih roots dec)(h3:Lt x roots s)(h4:s.full=false)(h5:Ff x dec<n)(h6:st.length=dec.length) :
  AP Tryz.prog 137 [.ref 1000 0] (Ai (Jv roots C A s dec st) Ac) (cX roots C A (CL x roots n dec s st)):=
 s45 hE (fun s dec st a b=>s64 roots C A s dec st (AH (M8 hE.hr) Cl) a b) n h1 h2 h3 h4 h5 h6
def Cp:Bool:=decide (AC x=0)&&decide (AR roots=0)
theorem s28(roots:List Rq)(hx:∀r∈x,CT r)(hr:∀q∈roots,FA q):PC 135 [.agg (Ic x ifs),sl As roots] (vb (Cp x roots)):=by
 refine Ps (pC [2] []) func135 rfl (Nz rfl) (yN (C1 (C2 (yG VY x ifs hx) (Yi (fun h1=>?_) (fun h1=>?_)))))
 .refine C1 (C2 (c65 VY roots hr) (Yi (fun h2=>?_) (fun h2=>?_)))
  .exact .of_eq (show vb true=vb (Cp x roots) by grind [Cp])
  exact .of_eq (show vb false=vb (Cp x roots) by grind [Cp])
 exact .of_eq (show vb false=vb (Cp x roots) by grind [Cp])
abbrev T7(r:Rl):List AV:=AJ ⟨plc r.ver,r⟩
abbrev Mo:C0:=(y.filter fun r=>decide (r.path=p)).map T7
abbrev uB(q:CS×Nat):Value×AV:=(.string q.1,.slice (.id (q.2+100) 10) (Mo y q.1))
abbrev IZ:List (Value×AV):=(AS y []).zipIdx.map (uB y)
def Hz(l:Nat):HO:=match(AS y [])[l]? with
 |some q=>.tok 10 (Mo y q).length
 |none=>.free
def Jq:HO:=bif Nat.ble 100 j&&Nat.blt j 1000 then Hz y (j-100)else .free
theorem E8(hy:y.length<=256)(l:Nat):Jq y (l+100)=Hz y l:=by
 grind [Jq,Nat.ble_eq,Nat.blt_eq,Hw,Hz]
theorem rR{j:Nat}(h:j<100):Jq y j=.free:=by
 grind [Jq,Nat.ble_eq]
section
variable {y:List Rl}{r:Rl}{k:Nat}
open Classical in
theorem na(h:(AS y [])[k]?=some r.path):EM (IZ y) (.string r.path) (.slice (.id (k+100) 10) (Mo y r.path++[T7 r]))=IZ (y++[r]):=by
 have hd:=E1 y [] O0;have hm:uB y (r.path,k)∈IZ y:=Ax.2 ⟨_,HH.2 h,rfl⟩;rw[bD (a':=.slice (.id (k+100) 10) (Mo y r.path)) hm];unfold IZ;rw[NE h,Br];refine BZ fun q hq=>?_
 grind [JA]
theorem bN(h:r.path∉AS y []):Mo y r.path=[]:=by
 grind [List.filter_eq_nil_iff,Gz]
theorem jF(h:r.path∉AS y [])(a:AV):(Value.string r.path,a)∉IZ y:=by
 grind
theorem m8(h:r.path∉AS y []):EM (IZ y) (.string r.path) (.slice (.id ((AS y []).length+100) 10) [T7 r])=IZ (y++[r]):=by
 grind [MW,ND,List.map_congr_left,bN]
theorem jG{p:CS}{j:Nat}(h:(AS y [])[j]?=some p):(Value.string p,AV.slice (.id (j+100) 10) (Mo y p))∈IZ y/\∀b,(Value.string p,b)∈IZ y->b=AV.slice (.id (j+100) 10) (Mo y p):=by
 refine⟨Ax.2 ⟨(p,j),HH.2 h,rfl⟩,fun b hb=>?_⟩
 grind [JA,E1]
theorem iA{p:CS}{j:Nat}(h:(AS y [])[j]?=some p):Hz y j=.tok 10 (Mo y p).length:=by
 grind [Hz]
theorem pZ(h:(AS y [])[k]?=some r.path)(l:Nat):(bif Nat.beq (l+100) (k+100)then HO.tok 10 ((Mo y r.path).length+1)else Hz y l)=Hz (y++[r]) l:=by
 grind [Nat.beq_refl,Hz,NE,Nat.eq_of_beq_eq_true,JA,E1]
theorem pY(h:r.path∉AS y [])(l:Nat):(bif Nat.beq (l+100) ((AS y []).length+100)then HO.tok 10 1 else Hz y l)=Hz (y++[r]) l:=by
 grind [Nat.beq_refl,Hz,ND,bN,Nat.eq_of_beq_eq_true]
end
theorem HR(hh:∀l,h (l+100)=Hz y l):Sd h (IZ y)=true:=by
 refine QT fun p hp=>?_;obtain⟨q,h1,rfl⟩:=Ax.1 hp;show SN h (q.2+100)=true
 grind [SN,iA]
theorem GM{y:List Rl}(hy:y.length<=256){h':Nat->HO}(hh:∀l,h (l+100)=Hz y l)(j:Nat):Jq y j=.free\/(h j=Jq y j/\SO h' (Jq y j)=true):=by
 by_cases hj:j<100
 .grind [rR]
 .obtain⟨l,rfl⟩:∃l,j=l+100:=⟨j-100,by omega⟩
  right
  rw[E8 y hy];refine⟨hh l,?_⟩;unfold Hz;cases (AS y [])[l]?<;>rfl
abbrev yR:List Rl:=x.filter fun r=>!r.yanked
theorem eK:Mo (yR x) p=(Bx x p).map AJ:=by
 unfold Mo Bx;simp_all
def mC:List (Value×AV):=(AS (yR x) []).map fun p=>(.string p,sl AJ (Bx x p))
theorem om{x:List Rl}{p:CS}:(Value.string p,a)∈mC x↔p∈AS (yR x) []/\a=sl AJ (Bx x p):=by
 grind [mC]
theorem WM{x:List Rl}{p:CS}:Bx x p=[]↔p∉AS (yR x) []:=by
 grind [Gz,Bx,List.map_eq_nil_iff,List.filter_eq_nil_iff]
theorem AaX:∀(p:CS) (a:AV),(Value.string p,a)∈mC x->a=sl AJ (Bx x p):=fun _ _ h=>(om.1 h).2
theorem AaY:∀p:CS,(∀a,(Value.string p,a)∉mC x)->Bx x p=[]:=fun _ h=>WM.2 fun hp=>h _ (om.2 ⟨hp,rfl⟩)
theorem AaZ:∀p:CS,Bx x p=[]->∀a,(Value.string p,a)∉mC x:=fun _ h _ ha=>WM.1 h (om.1 ha).1
abbrev plN:Qz:=⟨[2],[],[],[(52,[12])],[],[12],[50],[(53,(16,3,90,6)),(54,(16,4,91,1)),(55,(16,7,93,10)),(56,(16,8,94,4))],[],[(850013,13),(800013,10016),(810013,20016),(900013,10000000000+92000000+90016)],[5,7,8,9,11,12,13]⟩
abbrev kC:Value×AV:=(.string p,sl AJ (Bx x p))
abbrev kA:Value×AV:=(.string p,sl Ag (B6 x p))
theorem sM{x:List Rl}{kv:Value×AV}{Mq : List (Value×AV)}(h:(l.map (kC x)).Perm (kv::Mq)):∃t r,kv=kC x t/\Mq=r.map (kC x)/\l.Perm (t::r):=by
 obtain⟨ps,h1,h2⟩:=KC h l rfl;cases ps<;>grind [List.Perm.symm]
abbrev srN:List (Nat×HO):=
 [(2000,.cells [sl As roots,.cmap B4 C,.cmap B4 A,.slice (.id 2001 6) [],.slice (.id 2002 1) [],.mref 2003,vb false,.slice .none [],.slice .none [],.msl 2004 0]),(2001,.tok 6 0),(2002,.tok 1 0),(2003,.map Fw []),(2004,.arr 1 [])]
theorem dW{x:List Rl}{p:CS}:(Value.string p,a)∈l.map (kA x)↔p∈l/\a=sl Ag (B6 x p):=by
 grind
theorem gy:Jq y (n+1000)=.free:=by
 grind [Jq,Nat.blt_eq]
theorem Yz{s:Nat->HO}(H:∀n,h (n+1000)=.free):∀j,1000<=j->j<2000->h j≠.free->s j≠.free:=fun j h1 _ hn=>by
 refine absurd (H (j-1000)) ?_;simp_all
theorem re{n k:Nat}(h:k<1000):Nat.beq (n+1000) k=false:=by
 grind [Nat.eq_of_beq_eq_true]
theorem fT{y:List Rl}{n k:Nat}{o:HO}(h:k<1000):(bif Nat.beq (n+1000) k then o else Jq y (n+1000))=.free:=by
 grind [re,gy]
attribute [local irreducible] Ix
set_option maxRecDepth 30000 in
theorem s29(roots:List Rq)(hx:∀r∈x,CT r)(h0:AC x=0):AP Tryz.prog 136 [Fr x ifs,sl As roots] (Ai [] Ac) fun r h'=>∃l:List CS,l.Perm (AS (yR x) [])/\r=.ref 2000 0/\h'=Ai (srN roots (mC x) (l.map (kA x))) Ac:=by
 have Wc:x.length<=256:=(JS h0).1;refine BO (LB plN) [(16,2000),(90,2001),(91,2002),(14,2003),(92,2004)] rfl Ck hm rfl func136 Wk rfl (Nz rfl) Wk rfl (Xi 0 (Xi 0 (Xi 0 (Xi {i:Nat // i<=x.length} (Xi (fun i=>⟨[(2,.ref 2 0),(5,.ref 16 0),(18,sl Ah x),(19,vi (x.map Ah).length),(20,vi i.1)],[(2,.ro (Ic x ifs)),(12,.mapU B4 (IZ (yR (x.take i.1)))),(13,.map B4 []),(14,.map Fw []),(16,.cells [sl As roots,.mref 12,.mref 13,BE,BE,.mref 14,vb false,BE,BE,BE])],Jq (yR (x.take i.1))⟩) (Xi (fun i=>x.length-i.1) (Yi (Xi ⟨0,Al _⟩ ?_) ?_)))))))
 .refine⟨Z5,Z5,fun j=>.inl ?_,A4 Wk⟩;show Jq [] j=.free;unfold Jq;cases (Nat.ble 100 j&&Nat.blt j 1000)<;>rfl
 intro⟨i,i1⟩;have hq:∀k,(yR (x.take k)).length<=256:=fun k=>by
  grind
 refine Xi 0 (Yi ?_ ?_)
 .intro h;have h:i<x.length:=by simp_all
  have hg:x[i]?=some x[i]:=Ge h;have PM:x.take (i+1)=x.take i++[x[i]]:=by simp_all
  refine Xi 0 (Xi (Ah x[i]) (Yi (Yi ch (by simp_all)) (Yi rfl ?_)));refine Yi (Nz rfl) (yN (Xi ⟨[(2,.ref 2 0),(5,.ref 16 0),(7,.ref 7 0),(18,sl Ah x),(19,vi (x.map Ah).length),(20,vi i)],[(2,.ro (Ic x ifs)),(7,.cells (Ah x[i])),(12,.mapU B4 (IZ (yR (x.take i)))),(13,.map B4 []),(14,.map Fw []),(16,.cells [sl As roots,.mref 12,.mref 13,BE,BE,.mref 14,vb false,BE,BE,BE])],Jq (yR (x.take i))⟩ (Yi ?_ ?_)))
  .exact⟨Z6,⟨Zr,Zr,⟨rfl,HR _ (E8 _ (hq _))⟩,Zr,Zr,Zr,Tv⟩,GM (hq _) (E8 _ (hq _)),A4 Wk⟩
  refine Xi 0 (Yi (fun hy=>?_) (fun hy=>?_))
  .have ey:yR (x.take (i+1))=yR (x.take i):=by
    grind
   refine Xi ⟨[(2,.ref 2 0),(5,.ref 16 0),(18,sl Ah x),(19,vi (x.map Ah).length),(20,vi i)],[(2,.ro (Ic x ifs)),(12,.mapU B4 (IZ (yR (x.take (i+1))))),(13,.map B4 []),(14,.map Fw []),(16,.cells [sl As roots,.mref 12,.mref 13,BE,BE,.mref 14,vb false,BE,BE,BE])],Jq (yR (x.take (i+1)))⟩ (Yi ?_ ?_)
   .rw[ey];exact⟨Z5,⟨Zr,⟨rfl,HR _ (E8 _ (hq _))⟩,Zr,Zr,Zr,Tv⟩,GM (hq _) (E8 _ (hq _)),A4 Wk⟩
   refine Xi 0 (Yi (Ii i ch) (Xi ⟨i+1,by omega⟩ ?_));exact⟨by grind,Z5,⟨Zr,⟨rfl,HR _ (E8 _ (hq _))⟩,Zr,Zr,Zr,Tv⟩,GM (hq _) (E8 _ (hq _)),A4 Wk⟩
  refine Xi 0 (yN (C1 (C2 (yF x[i].ver) (Xi ⟨[(2,.ref 2 0),(5,.ref 16 0),(7,.ref 7 0),(8,vi (plc x[i].ver)),(18,sl Ah x),(19,vi (x.map Ah).length),(20,vi i)],[(2,.ro (Ic x ifs)),(7,.cells (Ah x[i])),(12,.mapU B4 (IZ (yR (x.take i)))),(13,.map B4 []),(14,.map Fw []),(16,.cells [sl As roots,.mref 12,.mref 13,BE,BE,.mref 14,vb false,BE,BE,BE])],Jq (yR (x.take i))⟩ (Yi ?_ ?_)))))
  .exact⟨Z7,⟨Zr,Zr,⟨rfl,HR _ (E8 _ (hq _))⟩,Zr,Zr,Zr,Tv⟩,GM (hq _) (E8 _ (hq _)),A4 Wk⟩
  have ey:yR (x.take (i+1))=yR (x.take i)++[x[i]]:=by
   grind
  have hyl:(yR (x.take i)).length<=256:=by
   simp_all
  have hP:∀l,Jq (yR (x.take i)) (l+100)=Hz (yR (x.take i)) l:=E8 _ (hq _);refine AN (Classical.em (x[i].path∈AS (yR (x.take i)) [])) (fun hp=>?_) (fun hp=>?_)
  .refine AX (Ee.1 hp) (fun k hk=>?_);have hu:=jG hk;have hl:(Mo (yR (x.take i)) x[i].path).length<=256:=by
    grind
   have Aar:k<256:=by
    have:=(Bf.1 hk).1
    have:=Hw (yR (x.take i)) []
    grind
   have hr:Jq (yR (x.take i)) (k+100)=.tok 10 (Mo (yR (x.take i)) x[i].path).length:=by rw[hP,iA hk]
   refine Xi 0 ?_;refine Or.inl (Xi (.slice (.id (k+100) 10) (Mo (yR (x.take i)) x[i].path)) (Yi hu ?_));refine yN (RR (e:=266) (m:=9) (es2:=[T7 x[i]]) rfl rfl rfl (fun _ h=>h) hr ⟨rfl,trivial⟩ (by show(_+1)*128<=_;omega) (by grind) (Yi (Jn ⟨AQ _,AQ _,AQ _,AQ _,AQ _,AQ _,AQ _,AQ _,AQ _,AQ _,AQ _,AQ _,AQ _,AQ _,AQ _,AQ _,Eb (show 49<10000000 by decide),Eb ch,Eb (show 12<10000000 by decide),trivial⟩ Wk) ?_));have e9:EM (IZ (yR (x.take i))) (.string x[i].path) (.slice (.id (k+100) 10) (Mo (yR (x.take i)) x[i].path++[T7 x[i]]))=IZ (yR (x.take (i+1))):=by rw[ey];exact na hk
   have hG:∀l,(bif Nat.beq (l+100) (k+100)then HO.tok 10 ((Mo (yR (x.take i)) x[i].path).length+1)else Hz (yR (x.take i)) l)=Hz (yR (x.take (i+1))) l:=by rw[ey];exact pZ hk
   refine Xi ⟨[(2,.ref 2 0),(5,.ref 16 0),(18,sl Ah x),(19,vi (x.map Ah).length),(20,vi i)],[(2,.ro (Ic x ifs)),(12,.mapU B4 (IZ (yR (x.take (i+1))))),(13,.map B4 []),(14,.map Fw []),(16,.cells [sl As roots,.mref 12,.mref 13,BE,BE,.mref 14,vb false,BE,BE,BE])],Jq (yR (x.take (i+1)))⟩ (Yi ?_ ?_)
   .refine⟨Z5,⟨Zr,⟨Aa (HO.mapU B4) e9,HR _ (E8 _ (hq _))⟩,Zr,Zr,Zr,Tv⟩,GM (hq _) (fun l=>?_),Yz (fun n=>?_)⟩
    .show(bif Nat.beq (l+100) (k+100)then HO.tok 10 ((Mo (yR (x.take i)) x[i].path).length+1)else Jq (yR (x.take i)) (l+100))=_;simp_all
    .exact fT (y:=yR (x.take i)) (show k+100<1000 by omega)
   refine Xi 0 (Yi (Ii i ch) (Xi ⟨i+1,by omega⟩ ?_));exact⟨by grind,Z5,⟨Zr,⟨rfl,HR _ (E8 _ (hq _))⟩,Zr,Zr,Zr,Tv⟩,GM (hq _) (E8 _ (hq _)),A4 Wk⟩
  .have PL:(AS (yR (x.take i)) []).length<=256:=by
    have:=Hw (yR (x.take i)) []
    grind
   have hn:=jF hp;have hr:Jq (yR (x.take i)) ((AS (yR (x.take i)) []).length+100)=.free:=by
    rw[hP];unfold Hz;simp_all
   refine Xi ((AS (yR (x.take i)) []).length+100) ?_;refine Or.inr (Yi hn ?_);refine yN (RQ (e:=266) (m:=9) (es2:=[T7 x[i]]) rfl rfl rfl (fun _ h=>h) hr rfl ⟨rfl,trivial⟩ (by show 1*128<=_;omega) (by simp_all) ?_);refine Yi (Jn ⟨AQ _,AQ _,AQ _,AQ _,AQ _,AQ _,AQ _,AQ _,AQ _,AQ _,AQ _,AQ _,AQ _,AQ _,AQ _,AQ _,Eb (show 49<10000000 by decide),Eb (by show _+100<10000000;omega),Eb (show 12<10000000 by decide),trivial⟩ Wk) ?_;have e9:EM (IZ (yR (x.take i))) (.string x[i].path) (.slice (.id ((AS (yR (x.take i)) []).length+100) 10) [T7 x[i]])=IZ (yR (x.take (i+1))):=by rw[ey];exact m8 hp
   have hG:∀l,(bif Nat.beq (l+100) ((AS (yR (x.take i)) []).length+100)then HO.tok 10 1 else Hz (yR (x.take i)) l)=Hz (yR (x.take (i+1))) l:=by rw[ey];exact pY hp
   refine Xi ⟨[(2,.ref 2 0),(5,.ref 16 0),(18,sl Ah x),(19,vi (x.map Ah).length),(20,vi i)],[(2,.ro (Ic x ifs)),(12,.mapU B4 (IZ (yR (x.take (i+1))))),(13,.map B4 []),(14,.map Fw []),(16,.cells [sl As roots,.mref 12,.mref 13,BE,BE,.mref 14,vb false,BE,BE,BE])],Jq (yR (x.take (i+1)))⟩ (Yi ?_ ?_)
   .refine⟨Z5,⟨Zr,⟨Aa (HO.mapU B4) e9,HR _ (E8 _ (hq _))⟩,Zr,Zr,Zr,Tv⟩,GM (hq _) (fun l=>?_),Yz (fun n=>?_)⟩
    .show(bif Nat.beq (l+100) ((AS (yR (x.take i)) []).length+100)then HO.tok 10 1 else Jq (yR (x.take i)) (l+100))=_;simp_all
    .exact fT (y:=yR (x.take i)) (show(AS (yR (x.take i)) []).length+100<1000 by omega)
   refine Xi 0 (Yi (Ii i ch) (Xi ⟨i+1,by omega⟩ ?_));exact⟨by grind,Z5,⟨Zr,⟨rfl,HR _ (E8 _ (hq _))⟩,Zr,Zr,Zr,Tv⟩,GM (hq _) (E8 _ (hq _)),A4 Wk⟩
 .intro h;have h:¬i<x.length:=by simp_all
  have et:x.take i=x:=Au ch;have eM:∀hh:Nat->HO,SW hh (IZ (yR (x.take i)))=(AS (yR x) []).map (kC x):=fun hh=>by
   rw[et];unfold SW IZ;rw[Br];refine Da fun j=>?_;rw[BH,BH,List.getElem?_zipIdx];cases (AS (yR x) [])[j]? with
   |none=>rfl
   |some q=>show some (Value.string q,AV.slice .none (Mo (yR x) q))=_;rw[eK];rfl
  refine Xi ⟨[(2,.ref 2 0),(5,.ref 16 0)],[(2,.ro (Ic x ifs)),(12,.mapU B4 (IZ (yR (x.take i)))),(13,.map B4 []),(14,.map Fw []),(16,.cells [sl As roots,.mref 12,.mref 13,BE,BE,.mref 14,vb false,BE,BE,BE])],Jq (yR (x.take i))⟩ (Yi ?_ ?_)
  .exact⟨Z2,⟨Zr,⟨rfl,HR _ (E8 _ (hq _))⟩,Zr,Zr,Zr,Tv⟩,GM (hq _) (E8 _ (hq _)),A4 Wk⟩
  refine Xi 0 (Xi {p:List CS×List CS×Option (Value×AV) // (p.1++p.2.1).Perm (AS (yR x) [])} (Xi (fun p=>⟨[(2,.ref 2 0),(5,.ref 16 0),(56,.ref 56 0)],[(2,.ro (Ic x ifs)),(12,.rom B4 ((AS (yR x) []).map (kC x))),(13,.map B4 (p.1.1.map (kA x))),(14,.map Fw []),(16,.cells [sl As roots,.mref 12,.mref 13,.slice (.id 90 6) [],.slice (.id 91 1) [],.mref 14,vb false,.slice (.id 93 10) [],.slice (.id 94 4) [],BE]),(56,.iter ((AS (yR x) []).map (kC x)) (p.1.2.1.map (kC x)) p.1.2.2),(90,.tok 6 0),(91,.tok 1 0),(93,.tok 10 0),(94,.tok 4 0)],Ac⟩) (Xi (fun p=>p.1.2.1.length) (Yi (Xi ⟨([],AS (yR x) [],none),.refl _⟩ ?_) ?_))))
  .refine⟨Z3,⟨Zr,⟨Aa (HO.rom B4) (eM _),rfl⟩,Zr,Zr,Zr,⟨?_,rfl⟩,Zr,Zr,Zr,Zr,Tv⟩,Fh,Yz (fun n=>?_)⟩
   .show HO.iter (SW _ (IZ (yR (x.take i)))) (SW _ (IZ (yR (x.take i)))) none=_;rw[eM]
   .exact gy (yR (x.take i)) n
  intro⟨⟨done,rem,Ei⟩,r1⟩;refine Xi 0 (Yi ?_ ?_)
  .intro hr;have hr:rem=[]:=D6.1 hr;subst hr;rw[BG]at r1;refine cU [(5,.ref 16 0)] [(14,.map Fw []),(16,.cells [sl As roots,.cmap B4 (mC x),.cmap B4 (done.map (kA x)),.slice (.id 90 6) [],.slice (.id 91 1) [],.mref 14,vb false,.slice (.id 93 10) [],.slice (.id 94 4) [],.msl 92 0]),(90,.tok 6 0),(91,.tok 1 0),(92,.arr 1 []),(93,.tok 10 0),(94,.tok 4 0)] Z1 Z7 (Xi 0 ?_);exact C2 (.refl _) (Xi done (Yi r1 (Yi rfl rfl)))
  .intro kv Mq hp;refine AX (sM hp) (fun t hp=>AX hp (fun r hp=>?_));have e1:=hp.1;have e2:=hp.2.1;subst e1;subst e2;have hp:=hp.2.2;refine cU [(2,.ref 2 0),(5,.ref 16 0),(56,.ref 56 0)] [(2,.ro (Ic x ifs)),(12,.rom B4 ((AS (yR x) []).map (kC x))),(13,.map B4 (done.map (kA x))),(14,.map Fw []),(16,.cells [sl As roots,.mref 12,.mref 13,.slice (.id 90 6) [],.slice (.id 91 1) [],.mref 14,vb false,.slice (.id 93 10) [],.slice (.id 94 4) [],BE]),(56,.iter ((AS (yR x) []).map (kC x)) (r.map (kC x)) (some (kC x t))),(90,.tok 6 0),(91,.tok 1 0),(93,.tok 10 0),(94,.tok 4 0)] Z3 Z10 (Xi 0 (cU [(2,.ref 2 0),(5,.ref 16 0),(10,vs t),(56,.ref 56 0)] [(2,.ro (Ic x ifs)),(12,.rom B4 ((AS (yR x) []).map (kC x))),(13,.map B4 (done.map (kA x))),(14,.map Fw []),(16,.cells [sl As roots,.mref 12,.mref 13,.slice (.id 90 6) [],.slice (.id 91 1) [],.mref 14,vb false,.slice (.id 93 10) [],.slice (.id 94 4) [],BE]),(56,.iter ((AS (yR x) []).map (kC x)) (r.map (kC x)) (some (kC x t))),(90,.tok 6 0),(91,.tok 1 0),(93,.tok 10 0),(94,.tok 4 0)] Z4 Z10 (Xi 0 ?_)));have VR:(done++rem).Nodup:=r1.nodup_iff.2 (E1 _ [] O0);have htn:t∉done:=fun hc=>(List.nodup_append.1 VR).2.2 t hc t (hp.mem_iff.2 (Af ..)) rfl;have em:EM (done.map (kA x)) (.string t) (sl Ag (B6 x t))=(done++[t]).map (kA x):=by
    grind [MW]
   have ZD:((done++[t])++r).Perm (AS (yR x) []):=by
    grind [List.Perm.append_left,List.Perm.trans,List.Perm.symm]
   refine yN (C2 (AdQ x ifs t (c84 x ifs hx)) (Yi Wk (Xi ⟨(done++[t],r,some (kC x t)),ZD⟩ ?_)));exact⟨by show r.length<rem.length;rw[hp.length_eq,AA];omega,Z3,⟨Zr,Zr,⟨Aa (HO.map B4) em,rfl⟩,Zr,Zr,Zr,Zr,Zr,Zr,Zr,Tv⟩,Fh,A4 Wk⟩
end Go.Eng
namespace Go.Eng
open Go.Proofs Go.Proofs.Tryz
variable {α:Type}{f:α->Bool}{v:Ver}(x:List Rl)(ifs:C0)(N roots:List Rq)(l:List Sl)(y:Sl)(s:List Sl)(p:CS)(pl:Int)
theorem dh{x:List Rl}(h0:AC x=0){p:CS}(h:p∉AS (yR x) []):B6 x p=[]:=by
 rw[jb h0]
 have:x.filter (gq p)=[]:=by
  grind [List.filter_eq_nil_iff,gq,Gz]
 rw[this];rfl
theorem wt{x:List Rl}{roots:List Rq}(hx:∀r∈x,CT r)(hr:∀q∈roots,FA q)(h0:AC x=0)(h1:AR roots=0){l:List CS}(hl:l.Perm (AS (yR x) [])):zd x roots (mC x) (l.map (kA x)) where
 hx:=h0
 hr:=h1
 fx:=hx
 fr:=hr
 c1:=AaX x
 c2:=AaY x
 c3:=AaZ x
 av p:=by
  by_cases hp:p∈l
  .exact⟨sl Ag (B6 x p),fun a ha=>(dW.1 ha).2,fun hn=>(hn _ (dW.2 ⟨hp,rfl⟩)).elim,fun h=>zB p (B6 x p) (TJ x p)⟩
  .refine⟨BE,fun a ha=>(hp (dW.1 ha).1).elim,fun _=>rfl,fun h=>?_⟩;have e:=dh h0 (fun hc=>hp (hl.mem_iff.2 hc));have hc:=zB p (B6 x p) (TJ x p);rw[e]at hc⊢;exact IG.args hc ⟨.refl _,.nil,trivial⟩
theorem Yh{cx:Cx}{c:Code}{Q:Ex->St->Prop}{s s' : LS}(h:s=s')(hk:QD cx c Q s'.st):QD cx c Q s.st:=by simp_all
theorem gm{x:List Rl}{p:CS}(h:AC x=0):BQ x ⟨p,v⟩=x.find? fun r=>decide (EL r=⟨p,v⟩):=Az (not_not_intro h)
theorem PQ{r:Rl}{p:CS}:EL r=⟨p,v⟩↔r.path=p/\r.ver.a=v.a/\r.ver.b=v.b/\r.ver.c=v.c:=by
 unfold EL;constructor
 .simp_all
 .rintro⟨rfl,h1,h2,h3⟩
  cases hr:r.ver<;>simp_all
def It:List Rq:=match BQ x y with | some r=>r.reqs | none=>[]
def EA:List Rq:=roots++(l.map (It x)).flatten
theorem eD:EA x roots []=roots:=by grind [EA]
theorem eh:EA x roots (l++[y])=EA x roots l++It x y:=by grind [EA]
theorem So{i:Nat}(h:i<l.length):EA x roots (l.take (i+1))=EA x roots (l.take i)++It x l[i]:=by
 grind [List.take_add_one,eh]
theorem Vm{x:List Rl}:(It x y).length<=16:=by
 unfold It;split
 .rename_i r hr;exact(JS (Iq hr).1).2 r (Iq hr).2.1
 .simp
theorem OE:∀l:List Sl,(EA x roots l).length<=roots.length+16*l.length:=fun l=>by
 unfold EA;rw[Ak]
 have:∀l:List Sl,((l.map (It x)).flatten).length<=16*l.length:=fun l=>by
  induction l<;>grind [Vm]
 simp_all
theorem eu{x:List Rl}{roots:List Rq}(hx:∀r∈x,CT r)(hr:∀q∈roots,BJ q.set)(l:List Sl):∀q∈EA x roots l,BJ q.set:=fun q hq=>by
 unfold EA at hq;rcases Bh.1 hq with hq | hq
 .simp_all
 .obtain⟨m,hm,hqm⟩:=FP.1 hq;obtain⟨y,_,rfl⟩:=Ax.1 hm;unfold It at hqm;split at hqm
  .rename_i r r9;exact((hx r (Iq r9).2.1).2 q hqm).1
  simp_all
theorem c83(v:Ver)(hx:∀r∈x,CT r)(Wc:BJ x):PC 163 [.agg (Ic x ifs),vs p,.agg (CC v)] (N5 (BQ x ⟨p,v⟩)):=by
 refine Ps C3 func163 rfl (Nz rfl) (yN (C1 (C2 (yH x ifs hx) (Yi (fun h1=>?_) (fun h1=>?_)))))
 .refine yN (yN ?_);exact .of_eq (show AV.tup [.agg qP,vb false]=N5 (BQ x ⟨p,v⟩) by grind [BQ])
 have h1:(AC x:Int)=(0:Int):=Aq h1;refine Xi {i:Nat // i<=x.length/\∀j (h:j<x.length),j<i->decide (EL x[j]=⟨p,v⟩)=false} (Xi (fun q=>⟨[(1,vs p),(3,.ref 3 0),(5,.ref 5 0),(6,.ref 6 0),(8,vi q.1)],[(3,.cells (Ic x ifs)),(5,.cells (CC v)),(6,.cells [vs ⟨#[]⟩,vi 0,vi 0,vi 0,BE,vs ⟨#[]⟩,vs ⟨#[]⟩,vs ⟨#[]⟩,vb false])],Ac⟩) (Xi (fun q=>x.length-q.1) (Yi (Xi ⟨0,Al _,fun j _ h=>by omega⟩ ?_) ?_)))
 .exact⟨Z5,Z3,Fh,Tv⟩
 intro⟨i,i1,i2⟩;refine Yi (fun h3=>?_) (fun h3=>?_)
 .have h3:(i:Int)<((x.map Ah).length:Int):=h3;have n3:=DK h3;refine Xi (Ah x[i]) (Yi (FJ n3) (Yi rfl (Yi (fun h4=>?_) (fun h4=>?_))))
  .refine Xi (Ah x[i]) (Yi (FJ n3) (Yi rfl (yN (yN (Yi (fun h5=>?_) (fun h5=>?_))))))
   .refine Yi Wk (Xi (Ah x[i]) (Yi (FJ n3) (Yi rfl (yN (yN (yN ?_))))));exact .of_eq (show AV.tup [.agg (Ah x[i]),vb true]=N5 (BQ x ⟨p,v⟩) by rw[gm h1,aD n3 i2 (At (PQ.2 ⟨h4,h5.1,h5.2.1,h5.2.2.1⟩))])
   refine Yi Wk (Yi (by grind [Av]) (Xi ⟨i+1,by omega,fun j hj FI=>(B2 j i).elim (i2 j hj) (fun z=>by have e:j=i:=ch;subst e;exact Aj (fun h=>h5 ⟨(PQ.1 h).2.1,(PQ.1 h).2.2.1,(PQ.1 h).2.2.2,trivial⟩))⟩ ?_));exact⟨Dl x.length i ch,Z5,Z3,Fh,Tv⟩
  refine Yi Wk (Yi (by grind [Av]) (Xi ⟨i+1,by omega,fun j hj FI=>(B2 j i).elim (i2 j hj) (fun z=>by grind [PQ])⟩ ?_));exact⟨Dl x.length i ch,Z5,Z3,Fh,Tv⟩
 have h3:¬((i:Int)<((x.map Ah).length:Int)):=h3;have n3:=B5 h3;refine yN (yN ?_);exact .of_eq (show AV.tup [.agg qP,vb false]=N5 (BQ x ⟨p,v⟩) by grind [gm,jz])
theorem zy(hx:∀r∈x,CT r)(Wc:BJ x)(hrl:roots.length<=1000000)(hs:s.length<=1000000):PC 336 [.agg (Ic x ifs),sl As roots,sl Ab s] (sl As (EA x roots s)):=by
 have zI:∀(p:CS) (v:Ver),PC 163 [Fr x ifs,vs p,.agg (CC v)] (N5 (BQ x ⟨p,v⟩)):=fun p v=>c83 x ifs p v hx Wc;refine Ps C3 func336 rfl (Nz rfl) ?_;have b1:Bi 2 (roots.map As)/\([]:C0).length=0/\(([]:C0).length+(roots.map As).length)*40<=140737488355328/\([]:C0).length+(roots.map As).length<=9223372036854775807:=⟨(CJ (enc:=As) (n:=2) (fun _=>rfl) roots),(by simp_all),(by grind),(by grind)⟩;refine Yi b1 (Xi {q:Nat×List Rq // q.1<=s.length/\q.2=EA x roots (s.take q.1)} (Xi (fun q=>⟨[(2,sl Ab s),(3,.ref 3 0),(7,.slice (.id 11 2) (q.1.2.map As)),(8,vi q.1.1)],[(3,.cells (Ic x ifs)),(11,.tok 2 q.1.2.length)],Ac⟩) (Xi (fun q=>s.length-q.1.1) (Yi (Xi ⟨(0,roots),Al _,(eD x roots).symm⟩ ?_) ?_))))
 .exact⟨⟨Zr,Zr,⟨(show AV.slice (.id 11 2) ([]++roots.map As)=.slice (.id 11 2) (roots.map As) by simp_all),rfl⟩,Zr,Tv⟩,⟨Zr,⟨(show HO.tok 2 (([]:C0).length+(roots.map As).length)=.tok 2 roots.length by simp_all),rfl⟩,Tv⟩,Fh,Tv⟩
 intro⟨⟨i,A⟩,i1,i2⟩;have i2:A=EA x roots (s.take i):=i2;have hA:A.length<=roots.length+16*i:=by
  grind [OE]
 refine Yi (fun h2=>?_) (fun h2=>?_)
 .have h2:(i:Int)<((s.map Ab).length:Int):=h2;have n2:=DK h2;refine yN (Xi (Ab s[i]) (Yi (FJ n2) (Yi rfl (Xi (Ab s[i]) (Yi (FJ n2) (Yi rfl (yN (AN (Xy (BQ x ⟨s[i].path,s[i].ver⟩)) (fun h3=>?_) (fun h3=>?_)))))))))
  .refine AX h3 (fun r h3=>?_);have uE:=zI s[i].path s[i].ver;rw[h3]at uE;have sb:=Vm (x:=x) s[i];rw[show It x s[i]=r.reqs by grind [It,BQ]]at sb;refine C2 uE (yN (Yi Wk ?_));have b4:Bi 2 (r.reqs.map As)/\(A.map As).length=A.length/\((A.map As).length+(r.reqs.map As).length)*40<=140737488355328/\(A.map As).length+(r.reqs.map As).length<=9223372036854775807:=⟨(CJ (enc:=As) (n:=2) (fun _=>rfl) r.reqs),(by simp_all),(by grind),(by grind)⟩;refine Yi b4 (Yi (by grind [Av]) (Xi ⟨(i+1,A++r.reqs),by omega,by show A++r.reqs=EA x roots (s.take (i+1));grind [So,It,BQ]⟩ ?_));exact⟨by grind,⟨Zr,Zr,⟨(show AV.slice (.id 11 2) (A.map As++r.reqs.map As)=.slice (.id 11 2) ((A++r.reqs).map As) by simp),rfl⟩,Zr,Tv⟩,⟨Zr,⟨(show HO.tok 2 ((A.map As).length+(r.reqs.map As:C0).length)=.tok 2 (A++r.reqs).length by simp),rfl⟩,Tv⟩,Fh,Tv⟩
  have uE:=zI s[i].path s[i].ver;rw[h3]at uE;refine C2 uE (yN (Yi Wk ?_));have b6:Bi 2 []/\(A.map As).length=A.length/\((A.map As).length+([]:C0).length)*40<=140737488355328/\(A.map As).length+([]:C0).length<=9223372036854775807:=⟨trivial,(by simp_all),(by grind),(by grind)⟩;refine Yi b6 (Yi (by grind [Av]) (Xi ⟨(i+1,A++([]:List Rq)),by omega,by show A++([]:List Rq)=EA x roots (s.take (i+1));rw[So x roots s n2,<-i2,show It x s[i]=([]:List Rq) by grind [It,BQ]]⟩ ?_));exact⟨by grind,⟨Zr,Zr,⟨(show AV.slice (.id 11 2) (A.map As++[])=.slice (.id 11 2) ((A++([]:List Rq)).map As) by simp),rfl⟩,Zr,Tv⟩,⟨Zr,⟨(show HO.tok 2 ((A.map As).length+([]:C0).length)=.tok 2 (A++([]:List Rq)).length by simp),rfl⟩,Tv⟩,Fh,Tv⟩
 have h2:¬((i:Int)<((s.map Ab).length:Int)):=h2;have n2:=B5 h2;exact .of_eq (Aa (sl As) (show A=EA x roots s by grind))
theorem Ur:CF s p=(Bg s p).isSome:=by grind [CF,Bg]
section
variable {s:List Sl}{q:Rq}{o:Option CS}
theorem bI(h:(Bg s q.path).isSome=true):H1 s o q=o:=by unfold H1;grind [Ur]
theorem oG(h:(Bg s q.path).isSome=false)(ho:o.isSome=false):H1 s o q=some q.path:=by
 unfold H1;grind [Ur]
theorem kk(h:(Bg s q.path).isSome=false)(ho:o.isSome=true)(hb:Dz q.path (o.getD mt)=true):H1 s o q=some q.path:=by
 unfold H1;grind [Ur]
theorem kl(_:(Bg s q.path).isSome=false)(ho:o.isSome=true)(hb:Dz q.path (o.getD mt)=false):H1 s o q=o:=by
 unfold H1;grind
end
abbrev U5:AV:=.tup [vs ((Ik N s).getD mt),vb (Ik N s).isSome]
theorem c81(hx:∀r∈x,CT r)(Wc:BJ x)(hrl:roots.length<=1000000)(hs:s.length<=1000000):PC 294 [.agg (Ic x ifs),sl As roots,sl Ab s] (U5 (EA x roots s) s):=by
 obtain⟨N,hN⟩:∃N,N=EA x roots s:=⟨_,rfl⟩;have ng:=zy x ifs roots s hx Wc hrl hs;have hNl:=OE x roots s;rw[<-hN]at ng hNl⊢;have hsf:BJ s:=by omega
 refine Ps C3 func294 rfl (Nz rfl) (yN (C1 (C2 ng (Xi {q:Nat×Option CS // q.1<=N.length/\q.2=CZ s (N.take q.1) none} (Xi (fun q=>⟨[(2,sl Ab s),(8,sl As N),(9,vs (q.1.2.getD mt)),(10,vb q.1.2.isSome),(11,vi q.1.1)],[],Ac⟩) (Xi (fun q=>N.length-q.1.1) (Yi (Xi ⟨(0,none),Al _,rfl⟩ ?_) ?_)))))))
 .exact⟨Z5,Tv,Fh,Tv⟩
 intro⟨⟨i,o⟩,i1,i2⟩;refine AN (Bt o.isSome) (fun h1=>?_) (fun h1=>?_)
 .refine Yh (Aa (fun bb=>(⟨[(2,sl Ab s),(8,sl As N),(9,vs (o.getD mt)),(10,vb bb),(11,vi i)],[],Ac⟩:LS)) h1) (Yi (fun h2=>?_) (fun h2=>?_))
  .have n2:=DK h2;refine Xi (As N[i]) (Yi (FJ n2) (Yi rfl (AN (Bt (Bg s N[i].path).isSome) (fun h3=>?_) (fun h3=>?_))))
   .have hc4:=(show PC 337 [sl Ab s,vs N[i].path] (.tup [.agg (Ab ((Bg s N[i].path).getD xQ)),vb (Bg s N[i].path).isSome])from c82 s N[i].path hsf);rw[show(Bg s N[i].path).isSome=true from h3]at hc4;refine C1 (C2 hc4 (yN (Yi (by grind [Av]) (Xi ⟨(i+1,o),by omega,by grind [IS,bI]⟩ ?_))));exact⟨by grind,⟨Zr,Zr,Zr,⟨(show vb true=vb o.isSome by rw[h1]),rfl⟩,Zr,Tv⟩,Tv,Fh,Tv⟩
   have hc6:=(show PC 337 [sl Ab s,vs N[i].path] (.tup [.agg (Ab ((Bg s N[i].path).getD xQ)),vb (Bg s N[i].path).isSome])from c82 s N[i].path hsf);rw[show(Bg s N[i].path).isSome=false from h3]at hc6;refine C1 (C2 hc6 (yN (Xi (As N[i]) (Yi (FJ n2) (Yi rfl (Yi (fun h7=>?_) (fun h7=>?_)))))))
   .have h7:Dz N[i].path (o.getD mt)=true:=(Ec _ _).trans h7;refine Xi (As N[i]) (Yi (FJ n2) (Yi rfl (Yi (by grind [Av]) (Xi ⟨(i+1,(some N[i].path)),by omega,by grind [IS,kk]⟩ ?_))));exact⟨by grind,Z5,Tv,Fh,Tv⟩
   have h7:Dz N[i].path (o.getD mt)=false:=(Ec _ _).trans (Bb.2 h7);refine Yi (by grind [Av]) (Xi ⟨(i+1,o),by omega,by grind [IS,kl]⟩ ?_);exact⟨by grind,⟨Zr,Zr,Zr,⟨(show vb true=vb o.isSome by rw[h1]),rfl⟩,Zr,Tv⟩,Tv,Fh,Tv⟩
  have n2:=B5 h2;exact .of_eq (show AV.tup [vs (o.getD mt),vb true]=U5 N s by grind [Ik])
 refine Yh (Aa (fun bb=>(⟨[(2,sl Ab s),(8,sl As N),(9,vs (o.getD mt)),(10,vb bb),(11,vi i)],[],Ac⟩:LS)) h1) (Yi (fun FH=>?_) (fun FH=>?_))
 .have n11:=DK FH;refine Xi (As N[i]) (Yi (FJ n11) (Yi rfl (AN (Bt (Bg s N[i].path).isSome) (fun WX=>?_) (fun WX=>?_))))
  .have Aab:=(show PC 337 [sl Ab s,vs N[i].path] (.tup [.agg (Ab ((Bg s N[i].path).getD xQ)),vb (Bg s N[i].path).isSome])from c82 s N[i].path hsf);rw[show(Bg s N[i].path).isSome=true from WX]at Aab;refine C1 (C2 Aab (yN (Yi (by grind [Av]) (Xi ⟨(i+1,o),by omega,by grind [IS,bI]⟩ ?_))));exact⟨by grind,⟨Zr,Zr,Zr,⟨(show vb false=vb o.isSome by rw[h1]),rfl⟩,Zr,Tv⟩,Tv,Fh,Tv⟩
  have Aac:=(show PC 337 [sl Ab s,vs N[i].path] (.tup [.agg (Ab ((Bg s N[i].path).getD xQ)),vb (Bg s N[i].path).isSome])from c82 s N[i].path hsf);rw[show(Bg s N[i].path).isSome=false from WX]at Aac;refine C1 (C2 Aac (yN (Xi (As N[i]) (Yi (FJ n11) (Yi rfl (Yi (by grind [Av]) (Xi ⟨(i+1,(some N[i].path)),by omega,by grind [IS,oG]⟩ ?_)))))));exact⟨by grind,Z5,Tv,Fh,Tv⟩
 have n11:=B5 FH;exact .of_eq (show AV.tup [vs (o.getD mt),vb false]=U5 N s by grind [Ik])
def MJ:Bool:=N.any fun q=>decide (q.path=p)&&!has q.set pl
theorem lP{l:List α}(h:∀j (hj:j<l.length),f l[j]=false):l.any f=false:=by
 grind [List.getElem_of_mem]
theorem qX{l:List α}{j:Nat}(hj:j<l.length)(h:f l[j]=true):l.any f=true:=BC.2 ⟨_,Ae hj,h⟩
theorem zz(hx:∀r∈x,CT r)(Wc:BJ x)(sb:∀q∈roots,BJ q.set)(hrl:roots.length<=1000000)(hs:s.length<=1000000):PC 296 [.agg (Ic x ifs),sl As roots,sl Ab s,vs p,vi pl] (vb (MJ (EA x roots s) p pl)):=by
 obtain⟨N,hN⟩:∃N,N=EA x roots s:=⟨_,rfl⟩;have ng:=zy x ifs roots s hx Wc hrl hs;have hNl:=OE x roots s;have hNf:=eu hx sb s;rw[<-hN]at ng hNl hNf⊢;refine Ps C3 func296 rfl (Nz rfl) (yN (C1 (C2 ng (Xi {i:Nat // i<=N.length/\∀j (h:j<N.length),j<i->(decide (N[j].path=p)&&!has N[j].set pl)=false} (Xi (fun q=>⟨[(3,vs p),(4,vi pl),(11,sl As N),(12,vi q.1)],[],Ac⟩) (Xi (fun q=>N.length-q.1) (Yi (Xi ⟨0,Al _,fun j _ h=>by omega⟩ ?_) ?_)))))))
 .exact⟨Z4,Tv,Fh,Tv⟩
 intro⟨i,i1,i2⟩;refine Yi (fun h1=>?_) (fun h1=>?_)
 .have h1:(i:Int)<((N.map As).length:Int):=h1;have n1:=DK h1;refine Xi (As N[i]) (Yi (FJ n1) (Yi rfl (Yi (fun h2=>?_) (fun h2=>?_))))
  .refine Xi (As N[i]) (Yi (FJ n1) (Yi rfl (AN (Bt (has N[i].set pl)) (fun h3=>?_) (fun h3=>?_))))
   .refine C1 (C2 (cb h3 (VX N[i].set pl (hNf _ (Ae n1)))) (Yi (by grind [Av]) (Xi ⟨i+1,by omega,fun j hj FI=>(B2 j i).elim (i2 j hj) (fun z=>by grind)⟩ ?_)));exact⟨by grind,Z4,Tv,Fh,Tv⟩
   refine C1 (C2 (cb h3 (VX N[i].set pl (hNf _ (Ae n1)))) ?_);exact .of_eq (Aa vb (show true=MJ N p pl from Eq.symm (show N.any (fun q=>decide (q.path=p)&&!has q.set pl)=true from qX n1 (by simp_all))))
  refine Yi (by grind [Av]) (Xi ⟨i+1,by omega,fun j hj FI=>(B2 j i).elim (i2 j hj) (fun z=>by grind)⟩ ?_);exact⟨by grind,Z4,Tv,Fh,Tv⟩
 have h1:¬((i:Int)<((N.map As).length:Int)):=h1;have n1:=B5 h1;exact .of_eq (Aa vb (show false=MJ N p pl from(lP fun j hj=>i2 j hj ch).symm))
abbrev Jo(b:Bool):List AV:=[vb b]
end Go.Eng
