/- Lemmas 25. -/
import Derived.Test.YtkjhcikodmiceaaGreatDoorUA24
set_option maxHeartbeats 4000000
namespace Go.Eng
open Go.Proofs
variable {k:Nat}{p:ByteArray}{Y:Gh->World->Prop}{j:Nat}{P:Program}{o sz:Nat}{i:Nf}(l:List Nd)(roots:List Rq)(C A:List (Value×AV))(s:SS)(dec:List Cd)(st:List (List Sk))(m:Nat)(n:Nd)
theorem ND{x:List Rl}{roots:List Rq}{l0:List Nf}:∀{l:List Nf} {d d' : List (List Tm)},(∀i∈l,i∈l0)->(∀t∈d,Qh (Ha x roots l0) t)->BA x roots l d=some d'->∀t∈d',Qh (Ha x roots l0) t
 | [],d,d',_,hd,h=>by cases h;exact hd
 |i::l,d,d',hl,hd,h=>by
  unfold BA at h;cases hi:Bo x roots d i with
  |none=>simp_all
  |some t=>
   rw[hi]at h;refine ND (fun j hj=>hl j (Af _ hj)) (fun u hu=>?_) h
   grind [OS,List.mem_cons_self]
section
variable {x:List Rl}{roots:List Rq}{s:SS}
theorem D4.few(hx:AC x=0)(hr:A8 roots=0)(h:D4 x roots s):∀t∈s.drv,bt t:=fun t ht=>
 (ND (l0:=s.infs) (fun _ h=>h) (fun _ h=>by cases h) h.der t ht).fewI (M6 hx hr h.len)
theorem Hk{l:List Tm}(h:s.infs.Nodup):(Dw s i l).2.infs.Nodup:=by
 cases hk:KK i 0 s.infs with
 |some k=>rw[Wd hk];exact h
 |none=>
  grind [TK,Wb,Pe]
theorem JP.add(h:JP x roots s){l:List Tm}(hi:Bo x roots s.drv i=some l):JP x roots (Dw s i l).2/\(Dw s i l).1<(Dw s i l).2.drv.length/\s.drv.length<=(Dw s i l).2.drv.length:=
 ⟨⟨(Jo h.der hi).1,Hk h.nodup⟩,(Jo h.der hi).2.1,(Jp s i l).len⟩
theorem JP.dl(h:JP x roots s):s.infs.length<=65536/\s.drv.length=s.infs.length/\s.drv.length<=65536:=by
 have h1:=h.der.dlen;have h2:=h.der.len;omega
theorem ia(hx:AC x=0)(p:ByteArray):∀d,Bo x roots d ⟨2,p,0,0,0,0⟩=some (EK p (Br x p)):=fun d=>by
 obtain⟨u,u0,u1,hu⟩:=bm hx p;have hV:Fx []:=fun _ h=>by cases h
 have ou:Tb [] p (Lu [] p (ZJ u)):=.ver hV (Et ⟨u0,u1⟩);have h1:AN [(⟨p,false,Eh (Br x p)⟩:Tm)] (Lu [] p (ZJ u))=true:=by
  grind [Bf,Cu,A4,Et,GG,Ft,Qs]
 have h2:AN [(⟨p,false,Eh (Br x p)⟩:Tm)] []=false:=rfl;have DT:EK p (Br x p)≠[]:=by
  have c1:=Cy (l:=[(⟨p,false,Eh (Br x p)⟩:Tm)]) ou.val;have c2:=Cy (l:=[(⟨p,false,Eh (Br x p)⟩:Tm)]) hV;rw[h1]at c1;rw[h2]at c2;unfold EK Pb;cases hc:Ck [(⟨p,false,Eh (Br x p)⟩:Tm)]with
  |none=>grind
  |some c=>
   rw[hc]at c2;intro e;have e:c=[]:=e;rw[e]at c2;cases c2
 grind [Bo,QG]
theorem Eu(h:k<s.drv.length):s.drv[k]?=some (DF s k):=by
 simp_all
theorem Sd{L:List Nat}(hj:j<L.length)(h:s.full=true\/CY (DF s k) p=false):BL p (L.drop j) k s=(k,s):=by
 grind [List.drop_eq_getElem_cons,BL]
theorem Za{L:List Nat}(hj:j<L.length)(h1:¬(s.full=true\/CY (DF s k) p=false))(h:L[j]=k):BL p (L.drop j) k s=BL p (L.drop (j+1)) k s:=by
 grind [List.drop_eq_getElem_cons,BL]
theorem cP{L:List Nat}(hj:j<L.length)(h1:¬(s.full=true\/CY (DF s k) p=false))(h2:¬L[j]=k)(h:(AX (DF s k) (DF s L[j]) p).2≠0):BL p (L.drop j) k s=BL p (L.drop (j+1)) k s:=by
 grind [List.drop_eq_getElem_cons,BL]
theorem cO{L:List Nat}(hj:j<L.length)(h1:¬(s.full=true\/CY (DF s k) p=false))(h2:¬L[j]=k)(h:(AX (DF s k) (DF s L[j]) p).2=0) :
  BL p (L.drop j) k s=BL p (L.drop (j+1)) (Dw s ⟨3,p,0,0,(k:Nat),(L[j]:Nat)⟩ (AX (DF s k) (DF s L[j]) p).1).1 (Dw s ⟨3,p,0,0,(k:Nat),(L[j]:Nat)⟩ (AX (DF s k) (DF s L[j]) p).1).2:=by
 grind [List.drop_eq_getElem_cons,BL]
end
theorem Fs{t:List Tm}(h:bt t):Cr t:=by omega
theorem s91(x:List Rl)(roots:List Rq)(C A:List (Value×AV))(s:SS)(dec:List Cd)(st:List (List Sk))(p:ByteArray)(n:Nd)(rs:List Nat)(V:AV)(hx:AC x=0)(hr:A8 roots=0)(hs:JP x roots s)(WY:∀d,Bo x roots d (NZ n)=some (Ho n))(rT:∀r∈rs,r<s.drv.length)(hrl:rs.length<=1073741823)(hnq:Cr n.rq.set)(hnp:AQ (n.place+1))
  (q8:∀a,(Value.string p,a)∈A->a=V) (q9:(∀a,(Value.string p,a)∉A)->V=nzA) (ra:∀h,PC 229 [vs p,str h V] (sl Am (EK p (Br x p)))):AW Tryz.prog 156 [.ref 1000 0,vs p,.agg (A9 n),sl B3 rs] (Ae (Ik roots C A s dec st) Ab) fun r h'=>ng roots C A dec st (CR x p n rs s) r h':=by
 have hw:=hs.dl;obtain⟨ub,kN,ct⟩:=hs.add (WY s.drv)
 change JP x roots (Bk s n).2 at ub
 change (Bk s n).1<(Bk s n).2.drv.length at kN
 change s.drv.length<=(Bk s n).2.drv.length at ct
 have RR:=ub.dl;obtain⟨pU,Vn,ot⟩:=ub.add (ia hx p (Bk s n).2.drv)
 change JP x roots (DL x p (Bk s n).2).2 at pU
 change (DL x p (Bk s n).2).1<(DL x p (Bk s n).2).2.drv.length at Vn
 change (Bk s n).2.drv.length<=(DL x p (Bk s n).2).2.drv.length at ot
 obtain⟨L,hL⟩:∃L,L=(DL x p (Bk s n).2).1::rs:=⟨_,rfl⟩;have hLr:∀r∈L,r<(DL x p (Bk s n).2).2.drv.length:=fun r W4=>by
  grind
 have y9:L.length=rs.length+1:=by simp_all
 have kN:(Bk s n).1<(DL x p (Bk s n).2).2.drv.length:=by omega
 refine A7 (H5 (pC [6] [3,7,8,10])) [(1000,1000),(1001,1001),(1002,1002),(1003,1003),(1004,1004)] rfl Bu hm rfl Tryz.func156 aa0 rfl (Nz rfl) aa0 rfl (yN (Xi (.gen Ya 0) (Yi rfl (AW.imp (yB roots C A s dec st n hw.1 hw.2.1 hs.nodup hnq hnp) ?_))));intro v1 g1 q1;have lK:=q1.1;have lL:=q1.2;subst lK;subst lL;refine NR V nzA q8 q9 (fun h=>h) (Xi .pure (Xi _ (Yi (ra _) (Xi (.gen Ya 0) (Yi rfl (AW.imp (lR roots C A (Bk s n).2 dec st ⟨2,p,0,0,0,0⟩ (EK p (Br x p)) RR.1 RR.2.1 ub.nodup) ?_))))));intro v2 g2 q2;have xU:=q2.1;have xV:=q2.2;subst xU;subst xV;refine cU [(0,.ref 1000 0),(1,vs p),(3,sl B3 rs),(9,vi (((Bk s n).1:Nat):Int)),(10,vi (((DL x p (Bk s n).2).1:Nat):Int))] [(1000,.cells [sl Ac roots,.cmap BS C,.cmap BS A,.slice (.id 1001 6) ((DL x p (Bk s n).2).2.infs.map AG),.slice (.id 1002 1) ((DL x p (Bk s n).2).2.drv.map Ap),.mref 1003,vb (DL x p (Bk s n).2).2.full,sl Ax dec,sl Ah (At dec),.msl 1004 st.length]),(1001,.tok 6 (DL x p (Bk s n).2).2.infs.length),(1002,.tok 1 (DL x p (Bk s n).2).2.drv.length),(1003,.map EX (E0 0 (DL x p (Bk s n).2).2.infs)),(1004,.arr 1 (st.map AU))] Z5 Z5 ?_
 have b3:BJ 1 (rs.map B3)/\([[vi (((DL x p (Bk s n).2).1:Nat):Int)]]:List (List AV)).length=1/\(([[vi (((DL x p (Bk s n).2).1:Nat):Int)]]:List (List AV)).length+(rs.map B3).length)*8<=140737488355328/\([[vi (((DL x p (Bk s n).2).1:Nat):Int)]]:List (List AV)).length+(rs.map B3).length<=9223372036854775807:=⟨(Df (enc:=B3) (n:=1) (fun _=>rfl) rs),(by simp_all),(by grind),(by grind)⟩;refine Yi b3 (Xi {q:Nat×Nat×SS // q.1<=L.length/\BL p (L.drop q.1) q.2.1 q.2.2=BL p L (Bk s n).1 (DL x p (Bk s n).2).2/\JP x roots q.2.2/\q.2.1<q.2.2.drv.length/\∀r∈L,r<q.2.2.drv.length} (Xi (fun q=>⟨[(0,.ref 1000 0),(1,vs p),(9,vi q.1.2.1),(33,.slice (.id 31 1) (L.map B3)),(34,vi (L.map B3).length),(35,vi q.1.1)],[(31,.tok 1 (L.map B3).length),(1000,.cells (srM roots C A q.1.2.2 dec 1004 st.length)),(1001,.tok 6 q.1.2.2.infs.length),(1002,.tok 1 q.1.2.2.drv.length),(1003,.map EX (E0 0 q.1.2.2.infs)),(1004,.arr 1 (st.map AU))],Ab⟩) (Xi (fun q=>L.length-q.1.1) (Yi (Xi ⟨(0,(Bk s n).1,(DL x p (Bk s n).2).2),Ar _,by simp_all,pU,kN,hLr⟩ ?_) ?_))))
 .exact⟨⟨Zr,Zr,Zr,⟨(show AV.slice (.id 31 1) ([[vi (((DL x p (Bk s n).2).1:Nat):Int)]]++rs.map B3)=.slice (.id 31 1) (L.map B3) by simp_all),rfl⟩,⟨(show vi (([[vi (((DL x p (Bk s n).2).1:Nat):Int)]]++rs.map B3:List (List AV)).length:Int)=vi ((L.map B3).length:Int) by simp_all),rfl⟩,Zr,Tv⟩,⟨⟨(show HO.tok 1 (([[vi (((DL x p (Bk s n).2).1:Nat):Int)]]:List (List AV)).length+(rs.map B3).length)=.tok 1 (L.map B3).length by grind),rfl⟩,Zr,Zr,Zr,Zr,Zr,Tv⟩,Fh,Be aa0⟩
 intro⟨⟨j,k,S⟩,j1,j2,j3,j4,j5⟩;have hw3:=j3.dl;have tO:=j3.der.few hx hr;have gk:S.drv[k]?=some (DF S k):=Eu j4;refine Yi (fun h4=>?_) (fun h4=>?_)
 .have h4:(j:Int)<((L.map B3).length:Int):=h4;have n4:=Jb h4;refine Xi (B3 L[j]) (Yi (N0 n4) (Yi rfl (Yi (fun h5=>?_) (fun h5=>?_))))
  .refine cU [(9,vi k)] [(1000,.cells (srM roots C A S dec 1004 st.length)),(1001,.tok 6 S.infs.length),(1002,.tok 1 S.drv.length),(1003,.map EX (E0 0 S.infs)),(1004,.arr 1 (st.map AU))] Z1 Z5 ?_
   have eR:BL p L (Bk s n).1 (DL x p (Bk s n).2).2=(k,S):=by grind [Sd]
   have eL:CR x p n rs s=(k,S):=by grind [CR]
   exact Xi _ (Yi (.refl _) (Yi (show vi (k:Int)=vi (((CR x p n rs s).1:Nat):Int) by rw[eL]) (show Ae (Ik roots C A S dec st) Ab=Ae (Ik roots C A (CR x p n rs s).2 dec st) Ab by rw[eL])))
  refine Xi (Ap (DF S k)) (Yi (Yi (Nn k) (EE gk)) (Yi rfl (Bs (Bt (CY (DF S k) p)) (fun h7=>?_) (fun h7=>?_))))
  .refine Xi .pure (Xi _ (Yi (cb h7 (jy (DF S k) p (Fs (tO _ (Aq (Eu j4)))))) (cU [(0,.ref 1000 0),(1,vs p),(9,vi k),(12,vi (L[j]:Nat)),(33,.slice (.id 31 1) (L.map B3)),(34,vi (L.map B3).length),(35,vi j)] [(31,.tok 1 (L.map B3).length),(1000,.cells (srM roots C A S dec 1004 st.length)),(1001,.tok 6 S.infs.length),(1002,.tok 1 S.drv.length),(1003,.map EX (E0 0 S.infs)),(1004,.arr 1 (st.map AU))] Z7 Z6 (Yi (fun h8=>?_) (fun h8=>?_)))))
   .refine Yi (by grind [AQ]) (Xi ⟨(j+1,k,S),ER n4,by grind [Za],j3,j4,j5⟩ ?_);exact⟨Dl L.length j ch,Z6,Z6,Fh,Be aa0⟩
   refine Xi (Ap (DF S k)) (Yi (Yi (Nn k) (EE gk)) (Yi rfl (Xi (Ap (DF S L[j])) (Yi (Yi (show(0:Int)<=(L[j]:Nat) by omega) (EE (Eu (j5 _ (Ao n4))))) (Yi rfl ?_)))));have fk:=tO _ (Aq (Eu j4));have fr:=tO _ (Aq (Eu (j5 _ (Ao n4))));refine Xi _ (Yi (qv (DF S k) (DF S L[j]) p fk.1 fr.1 fk.2 fr.2) (Yi aa0 (cU [(0,.ref 1000 0),(1,vs p),(9,vi k),(12,vi (L[j]:Nat)),(13,sl Am (AX (DF S k) (DF S L[j]) p).1),(14,vi (AX (DF S k) (DF S L[j]) p).2),(33,.slice (.id 31 1) (L.map B3)),(34,vi (L.map B3).length),(35,vi j)] [(31,.tok 1 (L.map B3).length),(1000,.cells (srM roots C A S dec 1004 st.length)),(1001,.tok 6 S.infs.length),(1002,.tok 1 S.drv.length),(1003,.map EX (E0 0 S.infs)),(1004,.arr 1 (st.map AU))] Z9 Z6 (Yi (fun NT=>?_) (fun NT=>?_)))))
   .refine Yi (by grind [AQ]) (Xi ⟨(j+1,k,S),ER n4,by rw[<-(cP (s:=S) (p:=p) (L:=L) (j:=j) (k:=k) n4 (by grind) ch NT)];exact j2,j3,j4,j5⟩ ?_);exact⟨Dl L.length j ch,Z6,Z6,Fh,Be aa0⟩
   have NT:((AX (DF S k) (DF S L[j]) p).2:Int)=(0:Int):=AP NT;refine Xi (.gen Ya 0) (Yi rfl (AW.imp (lR roots C A S dec st ⟨3,p,0,0,(k:Nat),(L[j]:Nat)⟩ (AX (DF S k) (DF S L[j]) p).1 hw3.1 hw3.2.1 j3.nodup) ?_));intro v12 g12 Oi;have pg:=Oi.1;have ph:=Oi.2;subst pg;subst ph;refine Yi (by grind [AQ]) ?_;obtain⟨a1,a2,a3⟩:=j3.add (Uf (x:=x) (roots:=roots) (p:=p) j4 (j5 _ (Ao n4)) NT);refine Xi ⟨(j+1,(Dw S ⟨3,p,0,0,(k:Nat),(L[j]:Nat)⟩ (AX (DF S k) (DF S L[j]) p).1).1,(Dw S ⟨3,p,0,0,(k:Nat),(L[j]:Nat)⟩ (AX (DF S k) (DF S L[j]) p).1).2),ER n4,by rw[<-(cO (s:=S) (p:=p) (L:=L) (j:=j) (k:=k) n4 (by grind) ch NT)];exact j2,a1,a2,fun r hr=>AR (j5 r hr) a3⟩ ?_;exact⟨Dl L.length j ch,Z6,Z6,Fh,Be aa0⟩
  refine Xi .pure (Xi _ (Yi (cb h7 (jy (DF S k) p (Fs (tO _ (Aq (Eu j4)))))) (cU [(9,vi k)] [(1000,.cells (srM roots C A S dec 1004 st.length)),(1001,.tok 6 S.infs.length),(1002,.tok 1 S.drv.length),(1003,.map EX (E0 0 S.infs)),(1004,.arr 1 (st.map AU))] Z1 Z5 ?_)))
  have eR:BL p L (Bk s n).1 (DL x p (Bk s n).2).2=(k,S):=by grind [Sd]
  have eL:CR x p n rs s=(k,S):=by grind [CR]
  exact Xi _ (Yi (.refl _) (Yi (show vi (k:Int)=vi (((CR x p n rs s).1:Nat):Int) by rw[eL]) (show Ae (Ik roots C A S dec st) Ab=Ae (Ik roots C A (CR x p n rs s).2 dec st) Ab by rw[eL])))
 have n4:=FS h4;have hj:¬j<L.length:=by omega
 have eR:BL p L (Bk s n).1 (DL x p (Bk s n).2).2=(k,S):=by rw[<-j2,Ji ch];rfl
 have eL:CR x p n rs s=(k,S):=by grind [CR]
 exact Xi _ (Yi (.refl _) (Yi (show vi (k:Int)=vi (((CR x p n rs s).1:Nat):Int) by rw[eL]) (show Ae (Ik roots C A S dec st) Ab=Ae (Ik roots C A (CR x p n rs s).2 dec st) Ab by rw[eL])))
abbrev Yb:Ia:=[(1000,1000),(1001,1001),(1002,1002),(1003,1003),(500,1004)]
abbrev uv:List (Nat×HO):=
 [(1000,.cells (srM roots C A s dec 2000 st.length)),(1001,.tok 6 s.infs.length),(1002,.tok 1 s.drv.length),(1003,.map EX (E0 0 s.infs)),(1004,.dead),(2000,.arr 1 (st.map AU))]
abbrev Yd(o:Jm)(r:AV)(h' : Nat->HO):Prop:=r=.tup [vi (o.res:Nat),vb o.found]/\h'=Ae (uv roots C A o.ss o.dec o.stack) Ab
def H64:Prop:=∀(s:SS) (dec:List Cd) (st:List (List Sk)),dec.length<=1000->(∀c∈dec,c.rel.reqs.length<=1073741824) ->
 AW Tryz.prog 148 [.ref 1000 0] (Ae (Ik roots C A s dec st) Ab) fun r h'=>r=.tup [vs (Ea roots dec).1,sl A9 (Ea roots dec).2]/\h'=Ae (Ik roots C A s dec st) Ab
theorem MC{roots:List Rq}{C A:List (Value×AV)}{o:Jm}{b:Bool}{s:SS}{dec:List Cd}{st:List (List Sk)}(e:o=⟨k,b,s,dec,st⟩) :
  AV.tup [vi (k:Nat),vb b]=.tup [vi (o.res:Nat),vb o.found]/\Ae (uv roots C A s dec st) Ab=Ae (uv roots C A o.ss o.dec o.stack) Ab:=by simp_all
abbrev X9:Ia:=[(1000,1000),(1001,1001),(1002,1002),(1003,1003),(1004,1004),(1005,1005),(1006,1006),(1007,1007),(1008,1008),(1009,1009)]
def GV:ByteArray×List Nd:=((CI roots dec).take m).foldl (DK dec) (mt,[])
theorem ie{roots:List Rq}{dec:List Cd}{m:Nat}{n:Nd}(h:(CI roots dec)[m]?=some n):GV roots dec (m+1)=DK dec (GV roots dec m) n:=by
 grind [GV,List.take_add_one]
theorem lx{roots:List Rq}{dec:List Cd}{m:Nat}(h:(CI roots dec).length<=m):GV roots dec m=Ea roots dec:=by
 grind [GV,Ea,List.take_of_length_le]
def E5(j:Nat):Nat:=roots.length+((dec.take j).map fun c=>c.rel.reqs.length).sum
theorem SD(c:Cd):(Pi c).length=c.rel.reqs.length:=Lr _ _ _
theorem di:E5 roots dec 0=roots.length:=by grind [E5]
theorem dh{roots:List Rq}{dec:List Cd}(h:j<dec.length):E5 roots dec (j+1)=E5 roots dec j+dec[j].rel.reqs.length:=by
 grind [E5,List.take_succ_eq_append_getElem]
theorem XE:E5 roots dec dec.length=(CI roots dec).length:=by
 grind [E5,CI,XP,Lr,List.map_congr_left,SD]
theorem cZ{roots:List Rq}{dec:List Cd}{i:Nat}(h:i<roots.length):(CI roots dec)[i]?=some ⟨roots[i],mt,0,(i:Nat)⟩:=by
 grind [CI,XP,List.getElem?_append_left,Od]
theorem WJ{α:Type}:∀{l:List (List α)} {j k:Nat} (hj:j<l.length),k<l[j].length->l.flatten[((l.take j).map List.length).sum+k]?=l[j][k]?
 |y::l,0,k,_,hk=>by
  grind
 |y::l,j+1,k,hj,hk=>by
  rw[BW,List.take_succ_cons,Bb,List.sum_cons,Bp ch]
  have:=WJ (l:=l) (j:=j) (k:=k) (by grind) hk
  grind
theorem gX{roots:List Rq}{dec:List Cd}(hj:j<dec.length)(hk:k<dec[j].rel.reqs.length):(CI roots dec)[E5 roots dec j+k]?=some ⟨dec[j].rel.reqs[k],dec[j].rel.path,dec[j].place,(k:Nat)⟩:=by
 unfold CI XP E5;rw[Bp (by grind [Lr]),Lr];have h:=WJ (l:=dec.map Pi) (j:=j) (k:=k) (by simp_all) (by grind [SD]);rw[<-List.map_take,Bx,show(List.length ∘ Pi)=fun c=>c.rel.reqs.length from funext SD]at h
 grind [Pi,Od]
abbrev jw:List (Nat×HO):=
  [(1000,.cells (yD roots C A s dec st.length)),(1001,.tok 6 s.infs.length),(1002,.tok 1 s.drv.length),(1003,.map EX (E0 0 s.infs)),(1004,.arr 1 (st.map AU)),
   (1005,.cells [.ref 1000 0]),(1006,.cells [vs (GV roots dec m).1]),(1007,.cells [.slice (.ver 1008 5 m) ((GV roots dec m).2.map A9)]),(1008,.var 5 m ((GV roots dec m).2.map A9).length),(1009,.cells [.ref 1000 0])]
noncomputable abbrev cxn(pl:MF)(l:Nat)(Y:Gh->World->Prop):Cx:=⟨Tryz.prog,jz,pl,true,0,fun l' σ' g w=>l'=l->σ'=X9->Y g w⟩
theorem H1.pre{Y':Gh->World->Prop}{l:Nat}{args:List AV}{h0:Nat->HO}{Q:AV->(Nat->HO)->Prop}(h:H1 P Y l args h0 Q)(hp:∀g w,Y' g w->Y g w):H1 P Y' l args h0 Q:=
 fun g w vals q1 q2 q3 q4=>h g w vals q1 q2 q3 (hp g w q4)
theorem yq:AW Tryz.prog 222 [.ref 1000 0] (Ae (Ik roots C A s dec st) Ab) fun r h'=>r=.clo 289 [.ref 2000 0]/\h'=Ae (Ik roots C A s dec st++[(2000,.cells [.ref 1000 0])]) Ab:=by
 refine A7 (H5 D0) [(1000,1000),(1001,1001),(1002,1002),(1003,1003),(1004,1004),(1,2000)] rfl Bu hm rfl Tryz.func222 aa0 rfl (Nz rfl) aa0 rfl ?_;exact Xi _ (Yi (.refl _) Zr)
theorem yr(l:Nat)(roots:List Rq)(C A:List (Value×AV))(s:SS)(dec:List Cd)(st:List (List Sk))(hr:roots.length<=1073741824)(hd:dec.length<=1073741824)(pM:∀c∈dec,c.rel.reqs.length<=1073741824)(hy:∀m n,(CI roots dec)[m]?=some n->H1 Tryz.prog Y l [.agg (A9 n)] (Ae (jw roots C A s dec st m) Ab) fun r h'=>r=vb true/\h'=Ae (jw roots C A s dec st (m+1)) Ab) :
  V4 Tryz.prog Y X9 289 [.v (.func (.yield l) #[] #[]),.ref 1005 0] (Ae (jw roots C A s dec st 0) Ab) fun _ h'=>h'=Ae (jw roots C A s dec st (CI roots dec).length) Ab:=by
 refine gE (l:=l) (cxn D0 l Y) X9 rfl Bu hm rfl Tryz.func289 aa0 rfl (Nz rfl) aa0 rfl rfl (Xi {i:Nat // i<=roots.length} (Xi (fun q=>⟨[(0,.v (.func (.yield l) #[] #[])),(1,.ref 1005 0),(12,sl Ac roots),(13,vi (roots.map Ac).length),(14,vi q.1)],[(1000,.cells (srM roots C A s dec 1004 st.length)),(1001,.tok 6 s.infs.length),(1002,.tok 1 s.drv.length),(1003,.map EX (E0 0 s.infs)),(1004,.arr 1 (st.map AU)),(1005,.cells [.ref 1000 0]),(1006,.cells [vs (GV roots dec q.1).1]),(1007,.cells [.slice (.ver 1008 5 q.1) ((GV roots dec q.1).2.map A9)]),(1008,.var 5 q.1 ((GV roots dec q.1).2.map A9).length),(1009,.cells [.ref 1000 0])],Ab⟩) (Xi (fun q=>roots.length-q.1) (Yi (Xi ⟨0,Ar _⟩ ?_) ?_))))
 .exact⟨Z5,Z10,Fh,Be aa0⟩
 intro⟨i,i1⟩;refine Yi (fun h1=>?_) (fun h1=>?_)
 .have h1:(i:Int)<((roots.map Ac).length:Int):=h1;have n1:=Jb h1;refine Xi (Ac roots[i]) (Yi (N0 n1) (Yi rfl (yN (yN (yN (Xi (.gen X9 0) (Yi rfl (H1.imp (H1.pre (hy i ⟨roots[i],mt,0,(i:Nat)⟩ (cZ n1)) (fun g w q=>q rfl rfl)) ?_))))))));intro v2 g2 q2;have xU:=q2.1;have xV:=q2.2;subst xU;subst xV;refine Yi (by grind [AQ]) (Xi ⟨i+1,by omega⟩ ?_);exact⟨by grind,Z5,Z10,Fh,Be aa0⟩
 have h1:¬((i:Int)<((roots.map Ac).length:Int)):=h1;have n1:=FS h1;have hE:i=E5 roots dec 0:=by grind [di]
 refine Xi {j:Nat // j<=dec.length} (Xi (fun q=>⟨[(0,.v (.func (.yield l) #[] #[])),(29,sl Ax dec),(30,vi (dec.map Ax).length),(31,vi q.1)],[(1000,.cells (srM roots C A s dec 1004 st.length)),(1001,.tok 6 s.infs.length),(1002,.tok 1 s.drv.length),(1003,.map EX (E0 0 s.infs)),(1004,.arr 1 (st.map AU)),(1005,.cells [.ref 1000 0]),(1006,.cells [vs (GV roots dec (E5 roots dec q.1)).1]),(1007,.cells [.slice (.ver 1008 5 (E5 roots dec q.1)) ((GV roots dec (E5 roots dec q.1)).2.map A9)]),(1008,.var 5 (E5 roots dec q.1) ((GV roots dec (E5 roots dec q.1)).2.map A9).length),(1009,.cells [.ref 1000 0])],Ab⟩) (Xi (fun q=>dec.length-q.1) (Yi (Xi ⟨0,Ar _⟩ ?_) ?_)))
 .exact⟨Z4,⟨Zr,Zr,Zr,Zr,Zr,Zr,⟨(show .cells [vs (GV roots dec i).1]=(.cells [vs (GV roots dec (E5 roots dec 0)).1]:HO) by rw[hE]),rfl⟩,⟨(show .cells [.slice (.ver 1008 5 i) ((GV roots dec i).2.map A9)]=(.cells [.slice (.ver 1008 5 (E5 roots dec 0)) ((GV roots dec (E5 roots dec 0)).2.map A9)]:HO) by rw[hE]),rfl⟩,⟨(show .var 5 i ((GV roots dec i).2.map A9).length=(.var 5 (E5 roots dec 0) ((GV roots dec (E5 roots dec 0)).2.map A9).length:HO) by rw[hE]),rfl⟩,Zr,Tv⟩,Fh,Be aa0⟩
 intro⟨j,j1⟩;refine Yi (fun h4=>?_) (fun h4=>?_)
 .have h4:(j:Int)<((dec.map Ax).length:Int):=h4;have n4:=Jb h4;have wv:=pM dec[j] (Ao n4);refine Xi (Ax dec[j]) (Yi (N0 n4) (Yi rfl (yN (yN (Xi {k:Nat // k<=dec[j].rel.reqs.length} (Xi (fun q=>⟨[(0,.v (.func (.yield l) #[] #[])),(6,.ref 6 0),(29,sl Ax dec),(30,vi (dec.map Ax).length),(31,vi j),(37,sl Ac dec[j].rel.reqs),(38,vi (dec[j].rel.reqs.map Ac).length),(39,vi q.1)],[(6,.cells (Ax dec[j])),(1000,.cells (srM roots C A s dec 1004 st.length)),(1001,.tok 6 s.infs.length),(1002,.tok 1 s.drv.length),(1003,.map EX (E0 0 s.infs)),(1004,.arr 1 (st.map AU)),(1005,.cells [.ref 1000 0]),(1006,.cells [vs (GV roots dec (E5 roots dec j+q.1)).1]),(1007,.cells [.slice (.ver 1008 5 (E5 roots dec j+q.1)) ((GV roots dec (E5 roots dec j+q.1)).2.map A9)]),(1008,.var 5 (E5 roots dec j+q.1) ((GV roots dec (E5 roots dec j+q.1)).2.map A9).length),(1009,.cells [.ref 1000 0])],Ab⟩) (Xi (fun q=>dec[j].rel.reqs.length-q.1) (Yi (Xi ⟨0,Ar _⟩ ?_) ?_))))))))
  .exact⟨Z8,Z11,Fh,Be aa0⟩
  intro⟨k,k1⟩;have k1:k<=dec[j].rel.reqs.length:=k1;refine Yi (fun h5=>?_) (fun h5=>?_)
  .have h5:(k:Int)<((dec[j].rel.reqs.map Ac).length:Int):=h5;have n5:=Jb h5;refine Xi (Ac dec[j].rel.reqs[k]) (Yi (N0 n5) (Yi rfl (yN (yN (yN (Xi (.gen X9 0) (Yi rfl (H1.imp (H1.pre (hy (E5 roots dec j+k) ⟨dec[j].rel.reqs[k],dec[j].rel.path,dec[j].place,(k:Nat)⟩ (gX n4 n5)) (fun g w q=>q rfl rfl)) ?_))))))));intro v6 g6 q6;have yc:=q6.1;have yd:=q6.2;subst yc;subst yd;refine Yi (by grind [AQ]) (Xi ⟨k+1,by omega⟩ ?_);exact⟨by grind,Z8,Z11,Fh,Be aa0⟩
  have h5:¬((k:Int)<((dec[j].rel.reqs.map Ac).length:Int)):=h5;have n5:=FS h5;refine Yi (by grind [AQ]) ?_;have hE:E5 roots dec j+k=E5 roots dec (j+1):=by grind [dh]
  refine Xi ⟨j+1,by omega⟩ ?_;exact⟨by grind,Z4,⟨Zr,Zr,Zr,Zr,Zr,Zr,⟨(show .cells [vs (GV roots dec (E5 roots dec j+k)).1]=(.cells [vs (GV roots dec (E5 roots dec (j+1))).1]:HO) by rw[hE]),rfl⟩,⟨(show .cells [.slice (.ver 1008 5 (E5 roots dec j+k)) ((GV roots dec (E5 roots dec j+k)).2.map A9)]=(.cells [.slice (.ver 1008 5 (E5 roots dec (j+1))) ((GV roots dec (E5 roots dec (j+1))).2.map A9)]:HO) by rw[hE]),rfl⟩,⟨(show .var 5 (E5 roots dec j+k) ((GV roots dec (E5 roots dec j+k)).2.map A9).length=(.var 5 (E5 roots dec (j+1)) ((GV roots dec (E5 roots dec (j+1))).2.map A9).length:HO) by rw[hE]),rfl⟩,Zr,Tv⟩,Fh,Be aa0⟩
 have h4:¬((j:Int)<((dec.map Ax).length:Int)):=h4;have n4:=FS h4;exact Aa (fun m=>Ae (jw roots C A s dec st m) Ab) (show E5 roots dec j=(CI roots dec).length by grind [XE])
theorem oY{h:Nat->HO}{r:Nat}{cs:List AV}{K:(Nat->HO)->Prop}(c1:h o=.cells cs)(c2:IC cs k=nzA)(c3:h r=.free)(hk:K (Az (Az h r (.var sz 0 0)) o (.cells (Eb cs k (.slice (.ver r sz 0) []))))):p7 h o k r sz K:=by
 grind [p7]
theorem pk{r0:Nat}{bS:Cx}{N:Nat}{fn:Func}{σ:Ia}{Q:AV->(Nat->HO)->Prop}{b rest:Code}{st:St}(cs:List AV)(c1:st.h o=.cells cs)(c2:IC cs k=nzA)(c3:st.h r0=.free)(σF σr:Ia)(H0 Hn:List (Nat×HO))(gf:Nat)(caps:List AV){mn s:Nat}{ps:Array Tmp}{Gf body:Code}(hb:b=.block mn (.rangeFunc (.tmp s) ps Gf body))(k1:(DM σF&&Du (Az (Az st.h r0 (.var sz 0 0)) o (.cells (Eb cs k (.slice (.ver r0 sz 0) [])))) 0 0&&Cv σF 0 0)=true)(k2:EW σF (Az (Az st.h r0 (.var sz 0 0)) o (.cells (Eb cs k (.slice (.ver r0 sz 0) []))))=Ae H0 Ab)(k3:(Gk σr&&HC σr H0)=true)(k4:HC σr Hn=true)(k5:ren (BY σF) (Az (Az st.h r0 (.var sz 0 0)) o (.cells (Eb cs k (.slice (.ver r0 sz 0) [])))) (st.t s)=.clo gf caps)(k6:∀(l D:Nat) (f' : FuncId) (tm:Array Value),tm.size=N->V4 P (fun g w=>w.heap[l]?=some (.loop (Hp f' tm ps Gf body D .ready))/\∀i,AT g w (Aw (Ae H0 Ab)) (ren (BY σF) (Az (Az st.h r0 (.var sz 0 0)) o (.cells (Eb cs k (.slice (.ver r0 sz 0) [])))) (st.t i)) (tm.getD i undef)) σr gf
   (.v (.func (.yield l) #[] #[])::caps) (Ae H0 Ab) fun _ h'=>h'=Ae Hn Ab)(k7:DS N rest=true)(k8:Qj bS rest (Wy bS fn.results.toList σr fun r h'=>Q (ren (BY σ) (Dx σF 0 0 (Az (Az st.h r0 (.var sz 0 0)) o (.cells (Eb cs k (.slice (.ver r0 sz 0) [])))) h') (ren (ED σF 0 0) h' r)) (EW σ (Dx σF 0 0 (Az (Az st.h r0 (.var sz 0 0)) o (.cells (Eb cs k (.slice (.ver r0 sz 0) [])))) h')))
   ⟨fun i=>ren (BY σF) (Az (Az st.h r0 (.var sz 0 0)) o (.cells (Eb cs k (.slice (.ver r0 sz 0) [])))) (st.t i),Ae Hn Ab⟩)(k9:Nu [] body=false:=by kernel_rfl):uy o k r0 sz bS P N fn σ Q b rest st:=
 oY c1 c2 c3 ⟨σF,σr,H0,Hn,mn,s,ps,Gf,body,gf,caps,hb,k1,k2,k3,k4,k5,k6,k7,k9,k8⟩
section
variable {roots:List Rq}{C A:List (Value×AV)}{s:SS}{dec:List Cd}{st:List (List Sk)}{n:Nd}
theorem Sq{m:Nat}{o:List Nd}(e:GV roots dec (m+1)=(p,o)){es:List (List AV)}(h1:es=o.map A9)(h2:k=es.length) :
  Ae [(1000,.cells (yD roots C A s dec st.length)),(1001,.tok 6 s.infs.length),(1002,.tok 1 s.drv.length),(1003,.map EX (E0 0 s.infs)),(1004,.arr 1 (st.map AU)),
   (1005,.cells [.ref 1000 0]),(1006,.cells [vs p]),(1007,.cells [.slice (.ver 1008 5 (m+1)) es]),(1008,.var 5 (m+1) k),(1009,.cells [.ref 1000 0])] Ab=Ae (jw roots C A s dec st (m+1)) Ab:=by
 grind
theorem ii{a:ByteArray×List Nd}(h:CO dec n.rq.path=true):DK dec a n=(a.1,a.2):=by grind [DK]
theorem lq{o:List Nd}(h:¬(0:Int)<((o.map A9).length:Int)):o=[]:=by
 simp_all
theorem ly{a:ByteArray×List Nd}(h:(0:Int)<((a.2.map A9).length:Int))(hb:EL a.1 n.rq.path=true):DK dec a n=(a.1,a.2):=by grind [DK]
theorem ij{a:ByteArray×List Nd}(hd:CO dec n.rq.path=false)(_:(0:Int)<((a.2.map A9).length:Int))(hb:EL a.1 n.rq.path=false)(hs:EL n.rq.path a.1=true):DK dec a n=(n.rq.path,[n]):=by
 grind [DK]
theorem ik{a:ByteArray×List Nd}(hd:CO dec n.rq.path=false)(hb:EL a.1 n.rq.path=false)(hs:EL n.rq.path a.1=false):DK dec a n=(n.rq.path,a.2++[n]):=by
 grind [DK]
theorem lA{a:ByteArray×List Nd}(hd:CO dec n.rq.path=false)(h:¬(0:Int)<((a.2.map A9).length:Int)):DK dec a n=(n.rq.path,a.2++[n]):=by
 grind [lq,DK]
theorem lz(a:ByteArray×List Nd)(n:Nd):(DK dec a n).2.length<=a.2.length+1:=by
 grind [DK]
theorem aL:∀(m:Nat),(GV roots dec m).2.length<=m
 |0=>Ai _
 |m+1=>by
  have ih:=aL m
  grind [GV,List.take_add_one,lz]
theorem XX:∀{l l' : List (Nat×HO)},l.map Prod.fst=l'.map Prod.fst->(∀p∈l',p.2≠.free)->∀i,Aw (Ae l Ab) i->Aw (Ae l' Ab) i
 | [],[],_,_,_,h=>h
 |(a,o)::l,(a',o')::l',e,h,i,hu=>by
  rw[Bb,Bb]at e
  injection e with e1 e2
  have e1:a=a':=e1;subst e1;unfold Aw at *
  by_cases q:i=a
  .grind [Ae,Nat.beq_refl,List.mem_cons_self]
  .simp only[Ae,CX q,F0]at hu⊢;exact XX e2 (fun p hp=>h p (Af _ hp)) i hu
theorem ig:∀i,Aw (Ae (jw roots C A s dec st 0) Ab) i->Aw (Ae (jw roots C A s dec st m) Ab) i:=XX rfl (by
 simp_all)
theorem bh:∀{l:List Cd},(∀c∈l,c.rel.reqs.length<=1073741824)->((l.map fun c=>c.rel.reqs.length)).sum<=l.length*1073741824
 | [],_=>by simp
 |c::l,h=>by
  have h1:=h c (Ad ..);have h2:=bh fun c hc=>h c (Af _ hc)
  grind
theorem c8(hr:roots.length<=1073741824)(hd:dec.length<=1000)(h:∀c∈dec,c.rel.reqs.length<=1073741824):(CI roots dec).length<=1074815565824:=by
 rw[<-XE]
 grind [E5,bh]
end
theorem Xo:l.map A9++[A9 n]=(l++[n]).map A9:=by simp_all
theorem N2:(l.map A9).length+([A9 n]:List (List AV)).length=(l.map A9++[A9 n]).length:=Au.symm
attribute [local irreducible] uy p7 GV CI DK
theorem s64(hr:roots.length<=1073741824)(hd:dec.length<=1000)(pM:∀c∈dec,c.rel.reqs.length<=1073741824) :
  AW Tryz.prog 148 [.ref 1000 0] (Ae (Ik roots C A s dec st) Ab) fun r h'=>r=.tup [vs (Ea roots dec).1,sl A9 (Ea roots dec).2]/\h'=Ae (Ik roots C A s dec st) Ab:=by
 refine bv 5 0 9 5 (H5 D0) (H5 D0) Ya rfl Bu rfl Bu hm rfl rfl Tryz.func148 aa0 rfl (Nz rfl) aa0 rfl 3 (yN (Xi (.gen Ya 1) (Yi rfl (AW.imp (yq roots C A s dec st) ?_))));intro v1 g1 q1;have lK:=q1.1;have lL:=q1.2;subst lK;subst lL;refine pk [nzA] aa0 aa0 aa0 [(1000,1000),(1001,1001),(1002,1002),(1003,1003),(1004,1004),(10800,1005),(4,1006),(5,1007),(9,1008),(1,1009)] X9 (jw roots C A s dec st 0) (jw roots C A s dec st (CI roots dec).length) 289 [.ref 1005 0] rfl aa0 aa0 aa0 aa0 aa0 (fun l9 D9 f9 tm9 uf=>yr l9 roots C A s dec st hr (AH hd Wk) pM fun m n hn=>dU (σ:=X9) 1007 0 1008 (H5 ⟨[],[(43,5)],[],[],[],[],[],[],[],[(500005,60001007)],[5]⟩) rfl Bu hm rfl rfl rfl uf aa0 aa0 aa0 (ig m) ?_) aa0 ?_
 .have zG:m<(CI roots dec).length:=(AZ.1 hn).1;have hol:=aL (roots:=roots) (dec:=dec) m;have hnl:=c8 hr hd pM;have hF:=ie hn;refine yN (Yi ⟨rfl,rfl⟩ (cU [(1,.ref 1009 0),(4,.ref 1006 0),(5,.ref 1007 0),(6,.ref 6 0)] [(6,.cells (A9 n)),(60,.tok 5 ((GV roots dec m).2.map A9).length),(1000,.cells (srM roots C A s dec 1004 st.length)),(1001,.tok 6 s.infs.length),(1002,.tok 1 s.drv.length),(1003,.map EX (E0 0 s.infs)),(1004,.arr 1 (st.map AU)),(1005,.cells [.ref 1000 0]),(1006,.cells [vs (GV roots dec m).1]),(1007,.cells [.slice (.id 60 5) ((GV roots dec m).2.map A9)]),(1008,.vox m),(1009,.cells [.ref 1000 0])] Z4 Z12 (Bs (Bt (CO dec n.rq.path)) (fun h2=>?_) (fun h2=>?_))))
  .have zj:=(sZ roots C A s dec st n.rq.path (AH hd Wk));rw[show(CO dec n.rq.path)=true from h2]at zj;refine Xi (.gen Ya 0) (Yi rfl (AW.imp zj ?_));intro v4 g4 q4;have ya:=q4.1;have yb:=q4.2;subst ya;subst yb;refine Yi ⟨rfl,rfl⟩ ?_
   -- [('(CO dec n.rq.path)=true',True)]
   exact⟨rfl,Sq (hF.trans (ii h2)) rfl rfl⟩
  have gj:=(sZ roots C A s dec st n.rq.path (AH hd Wk));rw[show(CO dec n.rq.path)=false from h2]at gj;refine Xi (.gen Ya 0) (Yi rfl (AW.imp gj ?_));intro v6 g6 q6;have yc:=q6.1;have yd:=q6.2;subst yc;subst yd;refine Yi (fun h7=>?_) (fun h7=>?_)
  .have n7:0<(GV roots dec m).2.length:=by simp_all
   refine Yi (fun h8=>?_) (fun h8=>?_)
   .have h8:EL (GV roots dec m).1 n.rq.path=true:=(Gg _ _).trans h8;refine Yi ⟨rfl,rfl⟩ ?_
    -- [('(CO dec n.rq.path)=true',False),('(0:Int)<(((GV roots dec m).2.map A9).length:Int)',True),('EL (GV roots dec m).1 n.rq.path=true',True)]
    exact⟨rfl,Sq (hF.trans (ly h7 h8)) rfl rfl⟩
   have h8:EL (GV roots dec m).1 n.rq.path=false:=(Gg _ _).trans (A0.2 h8);refine Yi (fun _=>?_) (fun hf=>absurd h7 hf);refine Yi (fun h9=>?_) (fun h9=>?_)
   .have h9:EL n.rq.path (GV roots dec m).1=true:=(Gg _ _).trans h9;refine yN (yN (yN ?_));have X1:BJ 5 [(A9 n)]/\([(A9 n)]:List (List AV)).length*72<=140737488355328/\([(A9 n)]:List (List AV)).length<=9223372036854775807:=⟨⟨rfl,trivial⟩,(by simp_all),(by simp_all)⟩;refine Yi X1 (yN (Yi ⟨rfl,rfl⟩ ?_))
    -- [('(CO dec n.rq.path)=true',False),('(0:Int)<(((GV roots dec m).2.map A9).length:Int)',True),('EL (GV roots dec m).1 n.rq.path=true',False),('EL n.rq.path (GV roots dec m).1=true',True)]
    exact⟨rfl,Sq (hF.trans (ij h2 h7 h8 h9)) rfl rfl⟩
   have h9:EL n.rq.path (GV roots dec m).1=false:=(Gg _ _).trans (A0.2 h9);refine yN (yN ?_);have nw:BJ 5 [(A9 n)]/\((GV roots dec m).2.map A9).length=((GV roots dec m).2.map A9).length/\(((GV roots dec m).2.map A9).length+([(A9 n)]:List (List AV)).length)*72<=140737488355328/\((GV roots dec m).2.map A9).length+([(A9 n)]:List (List AV)).length<=9223372036854775807:=⟨⟨rfl,trivial⟩,rfl,(by grind),(by grind)⟩;refine Yi nw (yN (Yi ⟨(N2 _ n).symm,rfl⟩ ?_))
   -- [('(CO dec n.rq.path)=true',False),('(0:Int)<(((GV roots dec m).2.map A9).length:Int)',True),('EL (GV roots dec m).1 n.rq.path=true',False),('EL n.rq.path (GV roots dec m).1=true',False)]
   exact⟨rfl,Sq (hF.trans (ik h2 h8 h9)) (Xo _ n) (N2 _ n)⟩
  have n7:¬0<(GV roots dec m).2.length:=by simp_all
  refine Yi (fun hf=>absurd hf h7) (fun _=>?_);refine yN (yN ?_);have tu:BJ 5 [(A9 n)]/\((GV roots dec m).2.map A9).length=((GV roots dec m).2.map A9).length/\(((GV roots dec m).2.map A9).length+([(A9 n)]:List (List AV)).length)*72<=140737488355328/\((GV roots dec m).2.map A9).length+([(A9 n)]:List (List AV)).length<=9223372036854775807:=⟨⟨rfl,trivial⟩,rfl,(by simp_all),(by simp_all)⟩;refine Yi tu (yN (Yi ⟨(N2 _ n).symm,rfl⟩ ?_))
  -- [('(CO dec n.rq.path)=true',False),('(0:Int)<(((GV roots dec m).2.map A9).length:Int)',False)]
  exact⟨rfl,Sq (hF.trans (lA h2 h7)) (Xo _ n) (N2 _ n)⟩
 refine Yi aa0 ?_;exact Xi _ (Yi (.refl _) ⟨show AV.tup [vs (GV roots dec (CI roots dec).length).1,sl A9 (GV roots dec (CI roots dec).length).2]=_ by grind [lx],rfl⟩)
end Go.Eng
namespace Go.Eng
open Go.Proofs
theorem cD{α:Type}(pr:α->Bool)(l:List α):(∃(k:Nat) (n:α),IJ pr l 0=(k:Nat)/\l[k]?=some n/\l.find? pr=some n)\/(IJ pr l 0=-1/\l.find? pr=none):=by
 have key:∀(l:List α) (b:Nat),(∃(k:Nat) (n:α),IJ pr l (b:Nat)=((b+k:Nat):Int)/\l[k]?=some n/\l.find? pr=some n)\/(IJ pr l (b:Nat)=-1/\l.find? pr=none):=by
  intro l
  induction l with
  |nil=>intro b;exact .inr Zr
  |cons y l ih=>
   intro b;cases h:pr y with
   |true=>exact .inl ⟨0,y,by unfold IJ;simp_all,rfl,by simp_all⟩
   |false=>
    have e:IJ pr (y::l) (b:Nat)=IJ pr l ((b+1:Nat):Int):=by
     conv=>lhs;unfold IJ
     simp_all
    have e2:(y::l).find? pr=l.find? pr:=by simp_all
    rcases ih (b+1)with ⟨k,n,h1,h2,h3⟩ | ⟨h1,h2⟩
    .exact .inl ⟨k+1,n,by omega,by simp_all,by simp_all⟩
    simp_all
 have:=key l 0
 simp_all
section
variable {rec:List Cd->SS->List (List Sk)->Jm}{x:List Rl}{p:ByteArray}{N:List Nd}{n0:Nd}{dec:List Cd}{st:List (List Sk)}{cs:List Cd}{i:Nat}{S:SS}{rs:List Nat}{sk:List Sk}
theorem fm(h:¬i<cs.length):Dg rec x p N n0 dec st (cs.drop i) S rs sk=⟨(CR x p n0 rs S).1,false,(CR x p n0 rs S).2,dec,st⟩:=by
 rw[Ji ch];rfl
theorem jV(h:i<cs.length)(hf:S.full=true):Dg rec x p N n0 dec st (cs.drop i) S rs sk=⟨0,false,S,dec,st⟩:=by
 grind [List.drop_eq_getElem_cons,E6]
theorem qG(h:i<cs.length)(hf:S.full=false){n:Nd}(hn:N.find? (fun n=>!has n.rq.set cs[i].place)=some n):Dg rec x p N n0 dec st (cs.drop i) S rs sk=Dg rec x p N n0 dec st (cs.drop (i+1)) (Bk S n).2 (rs++[(Bk S n).1]) sk:=by
 grind [List.drop_eq_getElem_cons,E6]
theorem U6(h:i<cs.length)(hf:S.full=false)(hn:N.find? (fun n=>!has n.rq.set cs[i].place)=none){k:Nat}(he:MM S.drv (At (dec++[cs[i]]))=some k):Dg rec x p N n0 dec st (cs.drop i) S rs sk=Hz rec x p N n0 dec st cs[i] (cs.drop (i+1)) rs sk k S:=by
 grind [List.drop_eq_getElem_cons,E6]
theorem Wn(h:i<cs.length)(hf:S.full=false)(hn:N.find? (fun n=>!has n.rq.set cs[i].place)=none)(he:MM S.drv (At (dec++[cs[i]]))=none){n:Nd}(hc:Dq dec cs[i]=some n) :
  Dg rec x p N n0 dec st (cs.drop i) S rs sk=Hz rec x p N n0 dec st cs[i] (cs.drop (i+1)) rs sk (Bk S n).1 (Bk S n).2:=by
 grind [List.drop_eq_getElem_cons,E6]
theorem U7(h:i<cs.length)(hf:S.full=false)(hn:N.find? (fun n=>!has n.rq.set cs[i].place)=none)(he:MM S.drv (At (dec++[cs[i]]))=none)(hc:Dq dec cs[i]=none){o:Jm}(ho:o=rec (dec++[cs[i]]) S (st++[sk])) :
  Dg rec x p N n0 dec st (cs.drop i) S rs sk=if o.found=true then⟨0,true,o.ss,o.dec,o.stack⟩else if o.ss.full=true then⟨0,false,o.ss,dec,st⟩else Hz rec x p N n0 dec st cs[i] (cs.drop (i+1)) rs sk o.res o.ss:=by
 grind [List.drop_eq_getElem_cons,E6]
theorem ZN{c:Cd}{l:List Cd}{k:Nat}(h:CY (DF S k) p=false):Hz rec x p N n0 dec st c l rs sk k S=⟨k,false,S,dec,st⟩:=by grind [Hz]
theorem UU{c:Cd}{l:List Cd}{k:Nat}(h:CY (DF S k) p=true):Hz rec x p N n0 dec st c l rs sk k S=Dg rec x p N n0 dec st l S (rs++[k]) (sk++[⟨p,c.place,(k:Nat)⟩]):=by grind [Hz]
end
theorem Wt{x:List Rl}{dec:List Cd}(h:CT x dec):dec.length<=x.length:=by
 have h1:=Cz (m:=x.map (·.path)) h.nodup fun p hp=>by
  grind [CT.cand]
 simp_all
theorem TW(x:List Rl)(p:ByteArray):(Bn x p).length<=x.length:=by
 grind [Bn]
end Go.Eng
