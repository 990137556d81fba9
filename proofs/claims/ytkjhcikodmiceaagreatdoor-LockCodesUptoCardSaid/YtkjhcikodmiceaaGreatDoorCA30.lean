/- Lemmas 30. -/
import Derived.Test.YtkjhcikodmiceaaGreatDoorCA29
import Derived.Test.YtkjhcikodmiceaaGreatDoorCA14
set_option maxHeartbeats 4000000
namespace Go.Eng
open Go.Proofs Go.Proofs.Tryz
abbrev At7:=List Cd
abbrev At8:=List Nd
abbrev At9:=List Rq
abbrev Au0:=List (List Sk)
abbrev Au1:=List (Value×AV)
variable {k:Nat}{p:CS}{Y:D->World->Prop}{j:Nat}{P:Program}{o sz:Nat}{i:Nf}(l:At8)(roots:At9)(C A:Au1)(s:SS)(dec:At7)(st:Au0)(m:Nat)(n:Nd)
theorem Qi{x:List F}{roots:At9}{l0:List Nf}:∀{l:List Nf} {d d' : List (List V)},(∀i∈l,i∈l0)->(∀t∈d,Ub (H8 x roots l0) t)->BJ x roots l d=some d'->∀t∈d',Ub (H8 x roots l0) t
 | [],d,d',_,hd,h=>by cases h;exact hd
 |i::l,d,d',hl,hd,h=>by
  unfold BJ at h;cases hi:Cc x roots d i with
  |none=>rw[hi]at h;cases h
  |some t=>
   rw[hi]at h;refine Qi (fun j hj=>hl j (Aj _ hj)) (fun u hu=>?_) h;rcases Bh.1 hu with hu | hu
   .exact hd u hu
   .rw[AA.1 hu];exact RY (hl i (Ad ..)) hd hi
section
variable {x:List F}{roots:At9}{s:SS}
theorem Ew.few(hx:AU x=0)(hr:Bb roots=0)(h:Ew x roots s):∀t∈s.drv,mB t:=fun t ht=>
 (Qi (l0:=s.infs) (fun _ h=>h) (fun _ h=>by cases h) h.der t ht).fewI (Pw hx hr h.len)
theorem Im{l:List V}(h:s.infs.Nodup):(DT s i l).2.infs.Nodup:=by
 cases hk:MG i 0 s.infs with
 |some k=>rw[cf hk];exact h
 |none=>
  by_cases hf:65536<=s.infs.length
  .rw[XQ hk hf];exact h
  .rw[cd hk hf];show(s.infs++[i]).Nodup;rw[List.nodup_append];refine⟨h,by simp,fun a ha b hb e=>?_⟩;rw[AA.1 hb]at e;exact Su hk (e▸ha)
theorem Lx.add(h:Lx x roots s){l:List V}(hi:Cc x roots s.drv i=some l):Lx x roots (DT s i l).2/\(DT s i l).1<(DT s i l).2.drv.length/\s.drv.length<=(DT s i l).2.drv.length:=
 ⟨⟨(KO h.der hi).1,Im h.nodup⟩,(KO h.der hi).2.1,(KP s i l).len⟩
theorem Lx.dl(h:Lx x roots s):s.infs.length<=65536/\s.drv.length=s.infs.length/\s.drv.length<=65536:=by
 have h1:=h.der.dlen;have h2:=h.der.len;exact⟨h2,h1,by omega⟩
theorem sK(hx:AU x=0)(p:CS):∀d,Cc x roots d ⟨2,p,0,0,0,0⟩=some (FK p (BA x p)):=fun d=>by
 obtain⟨u,u0,u1,hu⟩:=mi hx p;have hV:F6 []:=fun _ h=>by cases h
 have ou:Xb [] p (MF [] p (bV u)):=.ver hV (EU ⟨u0,u1⟩);have h1:A3 [(⟨p,false,EJ (BA x p)⟩:V)] (MF [] p (bV u))=true:=by
  rw[Bk];intro t ht;rw[AA.1 ht];show CP _ (Bw (MF [] p (bV u)) p)=true;rw[Iv rfl];show(Cf (bV u)&&has (EJ (BA x p)) (place (bV u)))=true;rw[EU ⟨u0,u1⟩,Hk,FZ,hu];unfold Uk;simp[u0];omega
 have h2:A3 [(⟨p,false,EJ (BA x p)⟩:V)] []=false:=rfl;have Ec:FK p (BA x p)≠[]:=by
  have c1:=CR (l:=[(⟨p,false,EJ (BA x p)⟩:V)]) ou.val;have c2:=CR (l:=[(⟨p,false,EJ (BA x p)⟩:V)]) hV;rw[h1]at c1;rw[h2]at c2;unfold FK So;cases hc:CK [(⟨p,false,EJ (BA x p)⟩:V)]with
  |none=>rw[hc]at c1;cases c1
  |some c=>
   rw[hc]at c2;intro e;have e:c=[]:=e;rw[e]at c2;cases c2
 unfold Cc;rw[AB (show ¬((2:Int)=0) by decide),AB (show ¬((2:Int)=1) by decide),AO rfl,AO ⟨rfl,rfl,rfl,rfl⟩];unfold ne0;rw[AB (by rw[GU];exact Ec)]
theorem EV(h:k<s.drv.length):s.drv[k]?=some (D2 s k):=by
 unfold D2;rw[List.getD_eq_getElem?_getD,Ge h];rfl
theorem V4{L:List Nat}(hj:j<L.length)(h:s.full=true\/Dq (D2 s k) p=false):BT p (L.drop j) k s=(k,s):=by
 rw[Bj hj];unfold BT;rw[AO h]
theorem iF{L:List Nat}(hj:j<L.length)(h1:¬(s.full=true\/Dq (D2 s k) p=false))(h:L[j]=k):BT p (L.drop j) k s=BT p (L.drop (j+1)) k s:=by
 rw[Bj hj]
 conv=>lhs;unfold BT
 rw[AB h1,AO h]
theorem n8{L:List Nat}(hj:j<L.length)(h1:¬(s.full=true\/Dq (D2 s k) p=false))(h2:¬L[j]=k)(h:(Bc (D2 s k) (D2 s L[j]) p).2≠0):BT p (L.drop j) k s=BT p (L.drop (j+1)) k s:=by
 rw[Bj hj]
 conv=>lhs;unfold BT
 rw[AB h1,AB h2,AO h]
theorem n6{L:List Nat}(hj:j<L.length)(h1:¬(s.full=true\/Dq (D2 s k) p=false))(h2:¬L[j]=k)(h:(Bc (D2 s k) (D2 s L[j]) p).2=0) :
  BT p (L.drop j) k s=BT p (L.drop (j+1)) (DT s ⟨3,p,0,0,(k:Nat),(L[j]:Nat)⟩ (Bc (D2 s k) (D2 s L[j]) p).1).1 (DT s ⟨3,p,0,0,(k:Nat),(L[j]:Nat)⟩ (Bc (D2 s k) (D2 s L[j]) p).1).2:=by
 rw[Bj hj]
 conv=>lhs;unfold BT
 rw[AB h1,AB h2,AB (fun h3=>h3 h)]
end
theorem E8{t:List V}(h:mB t):CC t:=by have:=h.1;unfold CC;omega
theorem s91(x:List F)(roots:At9)(C A:Au1)(s:SS)(dec:At7)(st:Au0)(p:CS)(n:Nd)(rs:List Nat)(V:AV)(hx:AU x=0)(hr:Bb roots=0)(hs:Lx x roots s)(dt:∀d,Cc x roots d (QD n)=some (It n))(hrs:∀r∈rs,r<s.drv.length)(hrl:rs.length<=1073741823)(hnq:CC n.rq.set)(hnp:As (n.place+1))
  (hV1:∀a,(Value.string p,a)∈A->a=V) (hV2:(∀a,(Value.string p,a)∉A)->V=nzA) (hV3:∀h,PC 229 [vs p,str h V] (sl E (FK p (BA x p)))):A1 prog 156 [.ref 1000 0,vs p,.agg (Br n),sl CM rs] (Ah (Jr roots C A s dec st) Ab) fun r h'=>Aan roots C A dec st (Dm x p n rs s) r h':=by
 have hw:=hs.dl;obtain⟨hs1,hk1,kG⟩:=hs.add (dt s.drv)
 change Lx x roots (Bx s n).2 at hs1
 change (Bx s n).1<(Bx s n).2.drv.length at hk1
 change s.drv.length<=(Bx s n).2.drv.length at kG
 have VP:=hs1.dl;obtain⟨hs2,QB,hg2⟩:=hs1.add (sK hx p (Bx s n).2.drv)
 change Lx x roots (En x p (Bx s n).2).2 at hs2
 change (En x p (Bx s n).2).1<(En x p (Bx s n).2).2.drv.length at QB
 change (Bx s n).2.drv.length<=(En x p (Bx s n).2).2.drv.length at hg2
 obtain⟨L,hL⟩:∃L,L=(En x p (Bx s n).2).1::rs:=⟨_,rfl⟩;have hLr:∀r∈L,r<(En x p (Bx s n).2).2.drv.length:=fun r ay=>by
  rw[hL]at ay;rcases AJ.1 ay with rfl | h
  .exact QB
  .have:=hrs r h;omega
 have hLl:L.length=rs.length+1:=by rw[hL];rfl
 have hk1:(Bx s n).1<(En x p (Bx s n).2).2.drv.length:=I
 refine Bv (Ky (pC [6] [3,7,8,10])) [(1000,1000),(1001,1001),(1002,1002),(1003,1003),(1004,1004)] rfl BO hm rfl func156 aa5 rfl C4 aa5 rfl (U (M (.gen gt 0) (J rfl (A1.imp (s88 roots C A s dec st n hw.1 hw.2.1 hs.nodup hnq hnp) ?_))));intro v1 g1 q1;have xY:=q1.1;have xZ:=q1.2;subst xY;subst xZ;refine Qu V nzA hV1 hV2 (fun h=>h) (C1 (H (hV3 _) (M (.gen gt 0) (J rfl (A1.imp (yi roots C A (Bx s n).2 dec st ⟨2,p,0,0,0,0⟩ (FK p (BA x p)) VP.1 VP.2.1 hs1.nodup) ?_)))));intro v2 g2 q2;have q2a:=q2.1;have q2b:=q2.2;subst q2a;subst q2b;refine cU [(0,.ref 1000 0),(1,vs p),(3,sl CM rs),(9,G (((Bx s n).1:Nat):Int)),(10,G (((En x p (Bx s n).2).1:Nat):Int))] [(1000,.cells [sl Ak roots,.cmap CU C,.cmap CU A,.slice (.id 1001 6) ((En x p (Bx s n).2).2.infs.map A8),.slice (.id 1002 1) ((En x p (Bx s n).2).2.drv.map BD),.mref 1003,Q (En x p (Bx s n).2).2.full,sl A2 dec,sl Ar (AM dec),.msl 1004 st.length]),(1001,.tok 6 (En x p (Bx s n).2).2.infs.length),(1002,.tok 1 (En x p (Bx s n).2).2.drv.length),(1003,.map Hb (GQ 0 (En x p (Bx s n).2).2.infs)),(1004,.arr 1 (st.map Bp))] Z5 Z5 ?_
 have b3:=bT (sz:=1) (k:=8) (n:=1) (l:=([[G (((En x p (Bx s n).2).1:Nat):Int)]]:C0)) (ys:=(rs.map CM)) (DK (enc:=CM) (n:=1) (fun _=>rfl) rs) (by first | (simp;done) | (rw[Lm];assumption)) (by simp only[Lm,AK,A4];omega)
 refine J b3 (M {q:Nat×Nat×SS // q.1<=L.length/\BT p (L.drop q.1) q.2.1 q.2.2=BT p L (Bx s n).1 (En x p (Bx s n).2).2/\Lx x roots q.2.2/\q.2.1<q.2.2.drv.length/\∀r∈L,r<q.2.2.drv.length} (M (fun q=>⟨[(0,.ref 1000 0),(1,vs p),(9,G q.1.2.1),(33,.slice (.id 31 1) (L.map CM)),(34,G (L.map CM).length),(35,G q.1.1)],[(31,.tok 1 (L.map CM).length),(1000,.cells (srM roots C A q.1.2.2 dec 1004 st.length)),(1001,.tok 6 q.1.2.2.infs.length),(1002,.tok 1 q.1.2.2.drv.length),(1003,.map Hb (GQ 0 q.1.2.2.infs)),(1004,.arr 1 (st.map Bp))],Ab⟩) (M (fun q=>L.length-q.1.1) (J (M ⟨(0,(Bx s n).1,(En x p (Bx s n).2).2),Ai _,by rw[List.drop_zero],hs2,hk1,hLr⟩ ?_) ?_))))
 .exact⟨⟨Z,Z,Z,⟨(show AV.slice (.id 31 1) ([[G (((En x p (Bx s n).2).1:Nat):Int)]]++rs.map CM)=.slice (.id 31 1) (L.map CM) by rw[hL];rfl),rfl⟩,⟨(show G (([[G (((En x p (Bx s n).2).1:Nat):Int)]]++rs.map CM:C0).length:Int)=G ((L.map CM).length:Int) by rw[hL];rfl),rfl⟩,Z,X⟩,⟨⟨(show HO.tok 1 (([[G (((En x p (Bx s n).2).1:Nat):Int)]]:C0).length+(rs.map CM).length)=.tok 1 (L.map CM).length by rw[hL];simp[Nat.add_comm]),rfl⟩,Z,Z,Z,Z,Z,X⟩,Fh,AX aa5⟩
 intro⟨⟨j,k,S⟩,j1,j2,j3,j4,j5⟩;have hw3:=j3.dl;have hfw:=j3.der.few hx hr;have gk:S.drv[k]?=some (D2 S k):=EV j4;refine J (fun h4=>?_) (fun h4=>?_)
 .have h4:(j:Int)<((L.map CM).length:Int):=h4;have n4:=Gj h4;refine M (CM L[j]) (J (IM n4) (J rfl (J (fun h5=>?_) (fun h5=>?_))))
  .refine cU [(9,G k)] [(1000,.cells (srM roots C A S dec 1004 st.length)),(1001,.tok 6 S.infs.length),(1002,.tok 1 S.drv.length),(1003,.map Hb (GQ 0 S.infs)),(1004,.arr 1 (st.map Bp))] Z1 Z5 ?_
   have eR:BT p L (Bx s n).1 (En x p (Bx s n).2).2=(k,S):=by rw[<-j2];exact V4 n4 (.inl h5)
   have eL:Dm x p n rs s=(k,S):=by unfold Dm;rw[<-hL];exact eR
   exact H (.refl _) (J (show G (k:Int)=G (((Dm x p n rs s).1:Nat):Int) by rw[eL]) (show Ah (Jr roots C A S dec st) Ab=Ah (Jr roots C A (Dm x p n rs s).2 dec st) Ab by rw[eL]))
  refine M (BD (D2 S k)) (J (J (Nn k) (FB gk)) (J rfl (Be (Bt (Dq (D2 S k) p)) (fun h7=>?_) (fun h7=>?_))))
  .refine C1 (H (cb h7 (vv (D2 S k) p (E8 (hfw _ (Ax (EV j4)))))) (cU [(0,.ref 1000 0),(1,vs p),(9,G k),(12,G (L[j]:Nat)),(33,.slice (.id 31 1) (L.map CM)),(34,G (L.map CM).length),(35,G j)] [(31,.tok 1 (L.map CM).length),(1000,.cells (srM roots C A S dec 1004 st.length)),(1001,.tok 6 S.infs.length),(1002,.tok 1 S.drv.length),(1003,.map Hb (GQ 0 S.infs)),(1004,.arr 1 (st.map Bp))] Z7 Z6 (J (fun h8=>?_) (fun h8=>?_))))
   .refine J (Ii j I) (M ⟨(j+1,k,S),Fq n4,by rw[<-(iF (s:=S) (p:=p) (L:=L) (j:=j) (k:=k) n4 (by rw[h5,h7];simp) (by have q:=h8;omega))];exact j2,j3,j4,j5⟩ ?_);exact⟨Dl L.length j I,Z6,Z6,Fh,AX aa5⟩
   refine M (BD (D2 S k)) (J (J (Nn k) (FB gk)) (J rfl (M (BD (D2 S L[j])) (J (J (show(0:Int)<=(L[j]:Nat) by omega) (FB (EV (j5 _ (Am n4))))) (J rfl ?_)))));have fk:=hfw _ (Ax (EV j4));have fr:=hfw _ (Ax (EV (j5 _ (Am n4))));refine H (Aeh (D2 S k) (D2 S L[j]) p fk.1 fr.1 fk.2 fr.2) (J aa5 (cU [(0,.ref 1000 0),(1,vs p),(9,G k),(12,G (L[j]:Nat)),(13,sl E (Bc (D2 S k) (D2 S L[j]) p).1),(14,G (Bc (D2 S k) (D2 S L[j]) p).2),(33,.slice (.id 31 1) (L.map CM)),(34,G (L.map CM).length),(35,G j)] [(31,.tok 1 (L.map CM).length),(1000,.cells (srM roots C A S dec 1004 st.length)),(1001,.tok 6 S.infs.length),(1002,.tok 1 S.drv.length),(1003,.map Hb (GQ 0 S.infs)),(1004,.arr 1 (st.map Bp))] Z9 Z6 (J (fun KH=>?_) (fun KH=>?_))))
   .refine J (Ii j I) (M ⟨(j+1,k,S),Fq n4,by rw[<-(n8 (s:=S) (p:=p) (L:=L) (j:=j) (k:=k) n4 (by rw[h5,h7];simp) (by have q:=h8;omega) KH)];exact j2,j3,j4,j5⟩ ?_);exact⟨Dl L.length j I,Z6,Z6,Fh,AX aa5⟩
   have KH:((Bc (D2 S k) (D2 S L[j]) p).2:Int)=(0:Int):=AH KH;refine M (.gen gt 0) (J rfl (A1.imp (yi roots C A S dec st ⟨3,p,0,0,(k:Nat),(L[j]:Nat)⟩ (Bc (D2 S k) (D2 S L[j]) p).1 hw3.1 hw3.2.1 j3.nodup) ?_));intro v12 g12 iZ;have Acn:=iZ.1;have Aco:=iZ.2;subst Acn;subst Aco;refine J (Ii j I) ?_;obtain⟨a1,a2,a3⟩:=j3.add (Yo (x:=x) (roots:=roots) (p:=p) j4 (j5 _ (Am n4)) KH);refine M ⟨(j+1,(DT S ⟨3,p,0,0,(k:Nat),(L[j]:Nat)⟩ (Bc (D2 S k) (D2 S L[j]) p).1).1,(DT S ⟨3,p,0,0,(k:Nat),(L[j]:Nat)⟩ (Bc (D2 S k) (D2 S L[j]) p).1).2),Fq n4,by rw[<-(n6 (s:=S) (p:=p) (L:=L) (j:=j) (k:=k) n4 (by rw[h5,h7];simp) (by have q:=h8;omega) KH)];exact j2,a1,a2,fun r hr=>AF (j5 r hr) a3⟩ ?_;exact⟨Dl L.length j I,Z6,Z6,Fh,AX aa5⟩
  refine C1 (H (cb h7 (vv (D2 S k) p (E8 (hfw _ (Ax (EV j4)))))) (cU [(9,G k)] [(1000,.cells (srM roots C A S dec 1004 st.length)),(1001,.tok 6 S.infs.length),(1002,.tok 1 S.drv.length),(1003,.map Hb (GQ 0 S.infs)),(1004,.arr 1 (st.map Bp))] Z1 Z5 ?_))
  have eR:BT p L (Bx s n).1 (En x p (Bx s n).2).2=(k,S):=by rw[<-j2];exact V4 n4 (.inr h7)
  have eL:Dm x p n rs s=(k,S):=by unfold Dm;rw[<-hL];exact eR
  exact H (.refl _) (J (show G (k:Int)=G (((Dm x p n rs s).1:Nat):Int) by rw[eL]) (show Ah (Jr roots C A S dec st) Ab=Ah (Jr roots C A (Dm x p n rs s).2 dec st) Ab by rw[eL]))
 have n4:=D6 h4;have hj:¬j<L.length:=by have q:=h4;rw[Lm]at q;omega
 have eR:BT p L (Bx s n).1 (En x p (Bx s n).2).2=(k,S):=by rw[<-j2,FE I];rfl
 have eL:Dm x p n rs s=(k,S):=by unfold Dm;rw[<-hL];exact eR
 exact H (.refl _) (J (show G (k:Int)=G (((Dm x p n rs s).1:Nat):Int) by rw[eL]) (show Ah (Jr roots C A S dec st) Ab=Ah (Jr roots C A (Dm x p n rs s).2 dec st) Ab by rw[eL]))
abbrev gu:I7:=[(1000,1000),(1001,1001),(1002,1002),(1003,1003),(500,1004)]
abbrev srE:List (Nat×HO):=
 [(1000,.cells (srM roots C A s dec 2000 st.length)),(1001,.tok 6 s.infs.length),(1002,.tok 1 s.drv.length),(1003,.map Hb (GQ 0 s.infs)),(1004,.dead),(2000,.arr 1 (st.map Bp))]
abbrev gx(o:JB)(r:AV)(h' : Nat->HO):Prop:=r=.tup [G (o.res:Nat),Q o.found]/\h'=Ah (srE roots C A o.ss o.dec o.stack) Ab
def H64:Prop:=∀(s:SS) (dec:At7) (st:Au0),dec.length<=1000->(∀c∈dec,c.rel.reqs.length<=2^30) ->
 A1 prog 148 [.ref 1000 0] (Ah (Jr roots C A s dec st) Ab) fun r h'=>r=.tup [vs (EA roots dec).1,sl Br (EA roots dec).2]/\h'=Ah (Jr roots C A s dec st) Ab
theorem OP{roots:At9}{C A:Au1}{o:JB}{b:Bool}{s:SS}{dec:At7}{st:Au0}(e:o=⟨k,b,s,dec,st⟩) :
  AV.tup [G (k:Nat),Q b]=.tup [G (o.res:Nat),Q o.found]/\Ah (srE roots C A s dec st) Ab=Ah (srE roots C A o.ss o.dec o.stack) Ab:=by rw[e];exact Z
abbrev gq:I7:=[(1000,1000),(1001,1001),(1002,1002),(1003,1003),(1004,1004),(1005,1005),(1006,1006),(1007,1007),(1008,1008),(1009,1009)]
def Ht:CS×At8:=((CZ roots dec).take m).foldl (D7 dec) (mt,[])
theorem eQ{roots:At9}{dec:At7}{m:Nat}{n:Nd}(h:(CZ roots dec)[m]?=some n):Ht roots dec (m+1)=D7 dec (Ht roots dec m) n:=by
 grind [Ht,List.take_add_one]
theorem xK{roots:At9}{dec:At7}{m:Nat}(h:(CZ roots dec).length<=m):Ht roots dec m=EA roots dec:=by
 grind [Ht,EA,List.take_of_length_le]
def FH(j:Nat):Nat:=roots.length+((dec.take j).map fun c=>c.rel.reqs.length).sum
theorem Wx(c:Cd):(Sz c).length=c.rel.reqs.length:=Nq _ _ _
theorem oE:FH roots dec 0=roots.length:=by grind [FH]
theorem oD{roots:At9}{dec:At7}(h:j<dec.length):FH roots dec (j+1)=FH roots dec j+dec[j].rel.reqs.length:=by
 grind [FH,List.take_succ_eq_append_getElem]
theorem eX:FH roots dec dec.length=(CZ roots dec).length:=by
 grind [FH,CZ,fC,Nq,List.map_congr_left,Wx]
theorem oq{roots:At9}{dec:At7}{i:Nat}(h:i<roots.length):(CZ roots dec)[i]?=some ⟨roots[i],mt,0,(i:Nat)⟩:=by
 grind [CZ,fC,List.getElem?_append_left,QP]
theorem M3{α:Type}:∀{l:List (List α)} {j k:Nat} (hj:j<l.length),k<l[j].length->l.flatten[((l.take j).map List.length).sum+k]?=l[j][k]?
 |y::l,0,k,_,hk=>by
  grind
 |y::l,j+1,k,hj,hk=>by
  rw[BQ,List.take_succ_cons,A7,List.sum_cons,Ba I]
  have:=M3 (l:=l) (j:=j) (k:=k) aa2 hk
  grind
theorem sA{roots:At9}{dec:At7}(hj:j<dec.length)(hk:k<dec[j].rel.reqs.length):(CZ roots dec)[FH roots dec j+k]?=some ⟨dec[j].rel.reqs[k],dec[j].rel.path,dec[j].place,(k:Nat)⟩:=by
 unfold CZ fC FH;rw[Ba (by grind [Nq]),Nq];have h:=M3 (l:=dec.map Sz) (j:=j) (k:=k) aa0 (by grind [Wx]);rw[<-List.map_take,Bo,show(List.length ∘ Sz)=fun c=>c.rel.reqs.length from funext Wx]at h
 grind [Sz,QP]
abbrev sU:List (Nat×HO):=
  [(1000,.cells (srC roots C A s dec st.length)),(1001,.tok 6 s.infs.length),(1002,.tok 1 s.drv.length),(1003,.map Hb (GQ 0 s.infs)),(1004,.arr 1 (st.map Bp)),
   (1005,.cells [.ref 1000 0]),(1006,.cells [vs (Ht roots dec m).1]),(1007,.cells [.slice (.ver 1008 5 m) ((Ht roots dec m).2.map Br)]),(1008,.var 5 m ((Ht roots dec m).2.map Br).length),(1009,.cells [.ref 1000 0])]
noncomputable abbrev cxn(pl:Of)(l:Nat)(Y:D->World->Prop):Cx:=⟨prog,yB,pl,true,0,fun l' σ' g w=>l'=l->σ'=gq->Y g w⟩
theorem I9.pre{Y':D->World->Prop}{l:Nat}{args:List AV}{h0:Nat->HO}{Q:AV->(Nat->HO)->Prop}(h:I9 P Y l args h0 Q)(hp:∀g w,Y' g w->Y g w):I9 P Y' l args h0 Q:=
 fun g w vals q1 q2 q3 q4=>h g w vals q1 q2 q3 (hp g w q4)
theorem AlF:A1 prog 222 [.ref 1000 0] (Ah (Jr roots C A s dec st) Ab) fun r h'=>r=.clo 289 [.ref 2000 0]/\h'=Ah (Jr roots C A s dec st++[(2000,.cells [.ref 1000 0])]) Ab:=by
 refine Bv (Ky CF) [(1000,1000),(1001,1001),(1002,1002),(1003,1003),(1004,1004),(1,2000)] rfl BO hm rfl func222 aa5 rfl C4 aa5 rfl ?_;exact H (.refl _) Z
theorem AlH(l:Nat)(roots:At9)(C A:Au1)(s:SS)(dec:At7)(st:Au0)(hr:roots.length<=2^30)(hd:dec.length<=2^30)(zB:∀c∈dec,c.rel.reqs.length<=2^30)(hy:∀m n,(CZ roots dec)[m]?=some n->I9 prog Y l [.agg (Br n)] (Ah (sU roots C A s dec st m) Ab) fun r h'=>r=Q true/\h'=Ah (sU roots C A s dec st (m+1)) Ab) :
  XK prog Y gq 289 [.v (.func (.yield l) #[] #[]),.ref 1005 0] (Ah (sU roots C A s dec st 0) Ab) fun _ h'=>h'=Ah (sU roots C A s dec st (CZ roots dec).length) Ab:=by
 refine rR (l:=l) (cxn CF l Y) gq rfl BO hm rfl func289 aa5 rfl C4 aa5 rfl rfl (M {i:Nat // i<=roots.length} (M (fun q=>⟨[(0,.v (.func (.yield l) #[] #[])),(1,.ref 1005 0),(12,sl Ak roots),(13,G (roots.map Ak).length),(14,G q.1)],[(1000,.cells (srM roots C A s dec 1004 st.length)),(1001,.tok 6 s.infs.length),(1002,.tok 1 s.drv.length),(1003,.map Hb (GQ 0 s.infs)),(1004,.arr 1 (st.map Bp)),(1005,.cells [.ref 1000 0]),(1006,.cells [vs (Ht roots dec q.1).1]),(1007,.cells [.slice (.ver 1008 5 q.1) ((Ht roots dec q.1).2.map Br)]),(1008,.var 5 q.1 ((Ht roots dec q.1).2.map Br).length),(1009,.cells [.ref 1000 0])],Ab⟩) (M (fun q=>roots.length-q.1) (J (M ⟨0,Ai _⟩ ?_) ?_))))
 .exact⟨Z5,Z10,Fh,AX aa5⟩
 intro⟨i,i1⟩;refine J (fun h1=>?_) (fun h1=>?_)
 .have h1:(i:Int)<((roots.map Ak).length:Int):=h1;have n1:=Gj h1;refine M (Ak roots[i]) (J (IM n1) (J rfl (U (U (U (M (.gen gq 0) (J rfl (I9.imp (I9.pre (hy i ⟨roots[i],mt,0,(i:Nat)⟩ (oq n1)) (fun g w q=>q rfl rfl)) ?_))))))));intro v2 g2 q2;have q2a:=q2.1;have q2b:=q2.2;subst q2a;subst q2b;refine J (by grind [As]) (M ⟨i+1,by omega⟩ ?_);exact⟨by grind,Z5,Z10,Fh,AX aa5⟩
 have n1:=D6 h1;have hE:i=FH roots dec 0:=by grind [oE]
 refine M {j:Nat // j<=dec.length} (M (fun q=>⟨[(0,.v (.func (.yield l) #[] #[])),(29,sl A2 dec),(30,G (dec.map A2).length),(31,G q.1)],[(1000,.cells (srM roots C A s dec 1004 st.length)),(1001,.tok 6 s.infs.length),(1002,.tok 1 s.drv.length),(1003,.map Hb (GQ 0 s.infs)),(1004,.arr 1 (st.map Bp)),(1005,.cells [.ref 1000 0]),(1006,.cells [vs (Ht roots dec (FH roots dec q.1)).1]),(1007,.cells [.slice (.ver 1008 5 (FH roots dec q.1)) ((Ht roots dec (FH roots dec q.1)).2.map Br)]),(1008,.var 5 (FH roots dec q.1) ((Ht roots dec (FH roots dec q.1)).2.map Br).length),(1009,.cells [.ref 1000 0])],Ab⟩) (M (fun q=>dec.length-q.1) (J (M ⟨0,Ai _⟩ ?_) ?_)))
 .exact⟨Z4,⟨Z,Z,Z,Z,Z,Z,⟨(show .cells [vs (Ht roots dec i).1]=(.cells [vs (Ht roots dec (FH roots dec 0)).1]:HO) by rw[hE]),rfl⟩,⟨(show .cells [.slice (.ver 1008 5 i) ((Ht roots dec i).2.map Br)]=(.cells [.slice (.ver 1008 5 (FH roots dec 0)) ((Ht roots dec (FH roots dec 0)).2.map Br)]:HO) by rw[hE]),rfl⟩,⟨(show .var 5 i ((Ht roots dec i).2.map Br).length=(.var 5 (FH roots dec 0) ((Ht roots dec (FH roots dec 0)).2.map Br).length:HO) by rw[hE]),rfl⟩,Z,X⟩,Fh,AX aa5⟩
 intro⟨j,j1⟩;refine J (fun h4=>?_) (fun h4=>?_)
 .have n4:j<dec.length:=Gj h4;have hdj:=zB dec[j] (Am n4);refine M (A2 dec[j]) (J (IM n4) (J rfl (U (U (M {k:Nat // k<=dec[j].rel.reqs.length} (M (fun q=>⟨[(0,.v (.func (.yield l) #[] #[])),(6,.ref 6 0),(29,sl A2 dec),(30,G (dec.map A2).length),(31,G j),(37,sl Ak dec[j].rel.reqs),(38,G (dec[j].rel.reqs.map Ak).length),(39,G q.1)],[(6,.cells (A2 dec[j])),(1000,.cells (srM roots C A s dec 1004 st.length)),(1001,.tok 6 s.infs.length),(1002,.tok 1 s.drv.length),(1003,.map Hb (GQ 0 s.infs)),(1004,.arr 1 (st.map Bp)),(1005,.cells [.ref 1000 0]),(1006,.cells [vs (Ht roots dec (FH roots dec j+q.1)).1]),(1007,.cells [.slice (.ver 1008 5 (FH roots dec j+q.1)) ((Ht roots dec (FH roots dec j+q.1)).2.map Br)]),(1008,.var 5 (FH roots dec j+q.1) ((Ht roots dec (FH roots dec j+q.1)).2.map Br).length),(1009,.cells [.ref 1000 0])],Ab⟩) (M (fun q=>dec[j].rel.reqs.length-q.1) (J (M ⟨0,Ai _⟩ ?_) ?_))))))))
  .exact⟨Z8,Z11,Fh,AX aa5⟩
  intro⟨k,k1⟩;have k1:k<=dec[j].rel.reqs.length:=k1;refine J (fun h5=>?_) (fun h5=>?_)
  .have n5:k<(dec[j].rel.reqs).length:=Gj h5;refine M (Ak dec[j].rel.reqs[k]) (J (IM n5) (J rfl (U (U (U (M (.gen gq 0) (J rfl (I9.imp (I9.pre (hy (FH roots dec j+k) ⟨dec[j].rel.reqs[k],dec[j].rel.path,dec[j].place,(k:Nat)⟩ (sA n4 n5)) (fun g w q=>q rfl rfl)) ?_))))))));intro v6 g6 q6;have q6a:=q6.1;have q6b:=q6.2;subst q6a;subst q6b;refine J (by grind [As]) (M ⟨k+1,by omega⟩ ?_);exact⟨by grind,Z8,Z11,Fh,AX aa5⟩
  have n5:¬k<(dec[j].rel.reqs).length:=D6 h5;refine J (by grind [As]) ?_;have hE:FH roots dec j+k=FH roots dec (j+1):=by grind [oD]
  refine M ⟨j+1,by omega⟩ ?_;exact⟨by grind,Z4,⟨Z,Z,Z,Z,Z,Z,⟨(show .cells [vs (Ht roots dec (FH roots dec j+k)).1]=(.cells [vs (Ht roots dec (FH roots dec (j+1))).1]:HO) by rw[hE]),rfl⟩,⟨(show .cells [.slice (.ver 1008 5 (FH roots dec j+k)) ((Ht roots dec (FH roots dec j+k)).2.map Br)]=(.cells [.slice (.ver 1008 5 (FH roots dec (j+1))) ((Ht roots dec (FH roots dec (j+1))).2.map Br)]:HO) by rw[hE]),rfl⟩,⟨(show .var 5 (FH roots dec j+k) ((Ht roots dec (FH roots dec j+k)).2.map Br).length=(.var 5 (FH roots dec (j+1)) ((Ht roots dec (FH roots dec (j+1))).2.map Br).length:HO) by rw[hE]),rfl⟩,Z,X⟩,Fh,AX aa5⟩
 have n4:¬j<dec.length:=D6 h4;exact Aa (fun m=>Ah (sU roots C A s dec st m) Ab) (show FH roots dec j=(CZ roots dec).length by grind [eX])
theorem Acb{h:Nat->HO}{r:Nat}{cs:List AV}{K:(Nat->HO)->Prop}(c1:h o=.cells cs)(c2:Jq cs k=nzA)(c3:h r=.free)(hk:K (AS (AS h r (.var sz 0 0)) o (.cells (Fs cs k (.slice (.ver r sz 0) []))))):niK h o k r sz K:=by
 unfold niK;rw[c1];show match Jq cs k with
  |.v (.slice none 0 0)=>match h r with
   |.free=>K (AS (AS h r (.var sz 0 0)) o (.cells (Fs cs k (.slice (.ver r sz 0) []))))
   |_=>False
  |_=>False
 rw[c2,c3];exact hk
abbrev qq21:=fun(cs:List AV) (k:Nat) (r0:Nat) (sz:Nat)=>((.cells (Fs cs k (.slice (.ver r0 sz 0) []))):HO)
theorem Acv{r0:Nat}{m7:Cx}{N:Nat}{fn:Func}{σ:I7}{Q:AV->(Nat->HO)->Prop}{b rest:Code}{st:St}(cs:List AV)(c1:st.h o=.cells cs)(c2:Jq cs k=nzA)(c3:st.h r0=.free)(σF σr:I7)(H0 Hn:List (Nat×HO))(gf:Nat)(caps:List AV){ve s:Nat}{ps:Array Tmp}{F7 body:Code}(hb:b=.block ve (.rangeFunc (.tmp s) ps F7 body))(k1:(Ea σF&&DO (AS (AS st.h r0 (.var sz 0 0)) o (qq21 cs k r0 sz)) 0 0&&CQ σF 0 0)=true)(k2:Fv σF (AS (AS st.h r0 (.var sz 0 0)) o (qq21 cs k r0 sz))=Ah H0 Ab)(k3:(GD σr&&HX σr H0)=true)(k4:HX σr Hn=true)(k5:ren (Ck σF) (AS (AS st.h r0 (.var sz 0 0)) o (qq21 cs k r0 sz)) (st.t s)=.clo gf caps)(k6:∀(l D:Nat) (f' : FuncId) (tm:Array Value),tm.size=N->XK P (fun g w=>w.heap[l]?=some (.loop (GC f' tm ps F7 body D .ready))/\∀i,O g w (L (Ah H0 Ab)) (ren (Ck σF) (AS (AS st.h r0 (.var sz 0 0)) o (qq21 cs k r0 sz)) (st.t i)) (tm.getD i undef)) σr gf
   (.v (.func (.yield l) #[] #[])::caps) (Ah H0 Ab) fun _ h'=>h'=Ah Hn Ab)(k7:D4 N rest=true)(k8:Tn m7 rest (cN m7 fn.results.toList σr fun r h'=>Q (ren (Ck σ) (DW σF 0 0 (AS (AS st.h r0 (.var sz 0 0)) o (qq21 cs k r0 sz)) h') (ren (E2 σF 0 0) h' r)) (Fv σ (DW σF 0 0 (AS (AS st.h r0 (.var sz 0 0)) o (qq21 cs k r0 sz)) h')))
   ⟨fun i=>ren (Ck σF) (AS (AS st.h r0 (.var sz 0 0)) o (qq21 cs k r0 sz)) (st.t i),Ah Hn Ab⟩)(k9:Oh [] body=false:=by kernel_rfl):RfV o k r0 sz m7 P N fn σ Q b rest st:=
 Acb c1 c2 c3 ⟨σF,σr,H0,Hn,ve,s,ps,F7,body,gf,caps,hb,k1,k2,k3,k4,k5,k6,k7,k9,k8⟩
section
variable {roots:At9}{C A:Au1}{s:SS}{dec:At7}{st:Au0}{n:Nd}
theorem Wh{m:Nat}{o:At8}(e:Ht roots dec (m+1)=(p,o)){es:C0}(h1:es=o.map Br)(h2:k=es.length) :
  Ah [(1000,.cells (srC roots C A s dec st.length)),(1001,.tok 6 s.infs.length),(1002,.tok 1 s.drv.length),(1003,.map Hb (GQ 0 s.infs)),(1004,.arr 1 (st.map Bp)),
   (1005,.cells [.ref 1000 0]),(1006,.cells [vs p]),(1007,.cells [.slice (.ver 1008 5 (m+1)) es]),(1008,.var 5 (m+1) k),(1009,.cells [.ref 1000 0])] Ab=Ah (sU roots C A s dec st (m+1)) Ab:=by
 subst h1;subst h2
 rw[show sU roots C A s dec st (m+1)=[(1000,.cells (srC roots C A s dec st.length)),(1001,.tok 6 s.infs.length),(1002,.tok 1 s.drv.length),(1003,.map Hb (GQ 0 s.infs)),(1004,.arr 1 (st.map Bp)),
   (1005,.cells [.ref 1000 0]),(1006,.cells [vs (Ht roots dec (m+1)).1]),(1007,.cells [.slice (.ver 1008 5 (m+1)) ((Ht roots dec (m+1)).2.map Br)]),(1008,.var 5 (m+1) ((Ht roots dec (m+1)).2.map Br).length),(1009,.cells [.ref 1000 0])]from rfl,e]
theorem sW{a:CS×At8}(h:Dg dec n.rq.path=true):D7 dec a n=(a.1,a.2):=by unfold D7;rw[AO (.inl h)]
theorem sx{o:At8}(h:(0:Int)<((o.map Br).length:Int)):o≠[]:=fun e=>by subst e;simp at h
theorem xE{o:At8}(h:¬(0:Int)<((o.map Br).length:Int)):o=[]:=by
 cases o with
 |nil=>rfl
 |cons y l=>exact absurd aa1 h
theorem xM{a:CS×At8}(h:(0:Int)<((a.2.map Br).length:Int))(hb:E3 a.1 n.rq.path=true):D7 dec a n=(a.1,a.2):=by unfold D7;rw[AO (.inr ⟨sx h,hb⟩)]
theorem sX{a:CS×At8}(hd:Dg dec n.rq.path=false)(h:(0:Int)<((a.2.map Br).length:Int))(hb:E3 a.1 n.rq.path=false)(hs:E3 n.rq.path a.1=true):D7 dec a n=(n.rq.path,[n]):=by
 unfold D7;rw[AB (by rw[hd,hb];simp),AO ⟨sx h,hs⟩]
theorem sY{a:CS×At8}(hd:Dg dec n.rq.path=false)(hb:E3 a.1 n.rq.path=false)(hs:E3 n.rq.path a.1=false):D7 dec a n=(n.rq.path,a.2++[n]):=by
 unfold D7;rw[AB (by rw[hd,hb];simp),AB (by rw[hs];simp)]
theorem xO{a:CS×At8}(hd:Dg dec n.rq.path=false)(h:¬(0:Int)<((a.2.map Br).length:Int)):D7 dec a n=(n.rq.path,a.2++[n]):=by
 have:=xE h
 unfold D7;rw[AB (by rw[hd,this];simp),AB (by rw[this];simp)]
theorem xN(a:CS×At8)(n:Nd):(D7 dec a n).2.length<=a.2.length+1:=by
 unfold D7;split
 .omega
 .split
  .simp
  .simp
theorem lu:∀(m:Nat),(Ht roots dec m).2.length<=m
 |0=>Af _
 |m+1=>by
  have ih:=lu m;cases h:(CZ roots dec)[m]? with
  |none=>
   have e:Ht roots dec (m+1)=Ht roots dec m:=by unfold Ht;rw[DV,h];simp
   rw[e];omega
  |some n=>rw[eQ h];exact Az (xN _ _) (Eg ih)
theorem fS:∀{l l' : List (Nat×HO)},l.map Prod.fst=l'.map Prod.fst->(∀p∈l',p.2≠.free)->∀i,L (Ah l Ab) i->L (Ah l' Ab) i
 | [],[],_,_,_,h=>h
 |(a,o)::l,(a',o')::l',e,h,i,hu=>by
  rw[A7,A7]at e
  injection e with e1 e2
  have e1:a=a':=e1;subst e1;unfold L at *
  by_cases q:i=a
  .subst q;simp only[Ah,Xl,cond_true];exact h _ (Ad ..)
  .simp only[Ah,Dw q,GG]at hu⊢;exact fS e2 (fun p hp=>h p (Aj _ hp)) i hu
theorem sV:∀i,L (Ah (sU roots C A s dec st 0) Ab) i->L (Ah (sU roots C A s dec st m) Ab) i:=fS rfl (by
 repeat (first | exact Co _ | refine Bi.2 ⟨by simp,?_⟩))
theorem mc:∀{l:At7},(∀c∈l,c.rel.reqs.length<=2^30)->((l.map fun c=>c.rel.reqs.length)).sum<=l.length*1073741824
 | [],_=>by simp
 |c::l,h=>by
  have h1:=h c (Ad ..);have h2:=mc fun c hc=>h c (Aj _ hc);rw[A7,List.sum_cons,AK];omega
theorem ot(hr:roots.length<=2^30)(hd:dec.length<=1000)(h:∀c∈dec,c.rel.reqs.length<=2^30):(CZ roots dec).length<=1074815565824:=by
 rw[<-eX];unfold FH;rw[IV]
 have:=mc h
 have:=A6 1073741824 hd
 omega
end
theorem dU:l.map Br++[Br n]=(l++[n]).map Br:=by rw[Au];rfl
theorem QF:(l.map Br).length+([Br n]:C0).length=(l.map Br++[Br n]).length:=Ac.symm
attribute [local irreducible] RfV niK Ht CZ D7
theorem s64(hr:roots.length<=2^30)(hd:dec.length<=1000)(zB:∀c∈dec,c.rel.reqs.length<=2^30) :
  A1 prog 148 [.ref 1000 0] (Ah (Jr roots C A s dec st) Ab) fun r h'=>r=.tup [vs (EA roots dec).1,sl Br (EA roots dec).2]/\h'=Ah (Jr roots C A s dec st) Ab:=by
 refine mF 5 0 9 5 (Ky CF) (Ky CF) gt rfl BO rfl BO hm rfl rfl func148 aa5 rfl C4 aa5 rfl 3 (U (M (.gen gt 1) (J rfl (A1.imp (AlF roots C A s dec st) ?_))));intro v1 g1 q1;have xY:=q1.1;have xZ:=q1.2;subst xY;subst xZ;refine Acv [nzA] aa5 aa5 aa5 [(1000,1000),(1001,1001),(1002,1002),(1003,1003),(1004,1004),(10800,1005),(4,1006),(5,1007),(9,1008),(1,1009)] gq (sU roots C A s dec st 0) (sU roots C A s dec st (CZ roots dec).length) 289 [.ref 1005 0] rfl aa5 aa5 aa5 aa5 aa5 (fun l9 D9 f9 tm9 htm=>AlH l9 roots C A s dec st hr (Az hd aa3) zB fun m n hn=>pI (σ:=gq) 1007 0 1008 (Ky ⟨[],[(43,5)],[],[],[],[],[],[],[],[(500005,60001007)],[5]⟩) rfl BO hm rfl rfl rfl htm aa5 aa5 aa5 (sV m) ?_) aa5 ?_
 .have hml:m<(CZ roots dec).length:=(AN.1 hn).1;have hol:=lu (roots:=roots) (dec:=dec) m;have hnl:=ot hr hd zB;have hF:=eQ hn;refine U (J ⟨rfl,rfl⟩ (cU [(1,.ref 1009 0),(4,.ref 1006 0),(5,.ref 1007 0),(6,.ref 6 0)] [(6,.cells (Br n)),(60,.tok 5 ((Ht roots dec m).2.map Br).length),(1000,.cells (srM roots C A s dec 1004 st.length)),(1001,.tok 6 s.infs.length),(1002,.tok 1 s.drv.length),(1003,.map Hb (GQ 0 s.infs)),(1004,.arr 1 (st.map Bp)),(1005,.cells [.ref 1000 0]),(1006,.cells [vs (Ht roots dec m).1]),(1007,.cells [.slice (.id 60 5) ((Ht roots dec m).2.map Br)]),(1008,.vox m),(1009,.cells [.ref 1000 0])] Z4 Z12 (Be (Bt (Dg dec n.rq.path)) (fun h2=>?_) (fun h2=>?_))))
  .have hc3:=(Agy roots C A s dec st n.rq.path (Az hd aa3));rw[show(Dg dec n.rq.path)=true from h2]at hc3;refine M (.gen gt 0) (J rfl (A1.imp hc3 ?_));intro v4 g4 q4;have q4a:=q4.1;have q4b:=q4.2;subst q4a;subst q4b;refine J ⟨rfl,rfl⟩ ?_
   -- [('(Dg dec n.rq.path)=true',True)]
   exact⟨rfl,Wh (hF.trans (sW h2)) rfl rfl⟩
  have ru:=(Agy roots C A s dec st n.rq.path (Az hd aa3));rw[show(Dg dec n.rq.path)=false from h2]at ru;refine M (.gen gt 0) (J rfl (A1.imp ru ?_));intro v6 g6 q6;have q6a:=q6.1;have q6b:=q6.2;subst q6a;subst q6b;refine J (fun h7=>?_) (fun h7=>?_)
  .have n7:0<(Ht roots dec m).2.length:=by have q:=h7;rw[Lm]at q;omega
   refine J (fun h8=>?_) (fun h8=>?_)
   .have h8:E3 (Ht roots dec m).1 n.rq.path=true:=(Fy _ _).trans h8;refine J ⟨rfl,rfl⟩ ?_
    -- [('(Dg dec n.rq.path)=true',False),('(0:Int)<(((Ht roots dec m).2.map Br).length:Int)',True),('E3 (Ht roots dec m).1 n.rq.path=true',True)]
    exact⟨rfl,Wh (hF.trans (xM h7 h8)) rfl rfl⟩
   have h8:E3 (Ht roots dec m).1 n.rq.path=false:=(Fy _ _).trans (Bg.2 h8);refine J (fun _=>?_) (fun hf=>absurd h7 hf);refine J (fun h9=>?_) (fun h9=>?_)
   .have h9:E3 n.rq.path (Ht roots dec m).1=true:=(Fy _ _).trans h9;refine U (U (U ?_));have pR:Cq 5 [(Br n)]/\([(Br n)]:C0).length*72<=2^47/\([(Br n)]:C0).length<=2^63-1:=⟨⟨rfl,trivial⟩,(by simp only[AK,A4];omega),(by simp only[AK,A4];omega)⟩;refine J pR (U (J ⟨rfl,rfl⟩ ?_))
    -- [('(Dg dec n.rq.path)=true',False),('(0:Int)<(((Ht roots dec m).2.map Br).length:Int)',True),('E3 (Ht roots dec m).1 n.rq.path=true',False),('E3 n.rq.path (Ht roots dec m).1=true',True)]
    exact⟨rfl,Wh (hF.trans (sX h2 h7 h8 h9)) rfl rfl⟩
   have h9:E3 n.rq.path (Ht roots dec m).1=false:=(Fy _ _).trans (Bg.2 h9);refine U (U ?_);have b11:=bT (sz:=5) (k:=72) (n:=((Ht roots dec m).2.map Br).length) (l:=((Ht roots dec m).2.map Br)) (ys:=[(Br n)]) ⟨rfl,trivial⟩ rfl (by simp only[Lm,AK,A4];omega);refine J b11 (U (J ⟨(QF _ n).symm,rfl⟩ ?_))
   -- [('(Dg dec n.rq.path)=true',False),('(0:Int)<(((Ht roots dec m).2.map Br).length:Int)',True),('E3 (Ht roots dec m).1 n.rq.path=true',False),('E3 n.rq.path (Ht roots dec m).1=true',False)]
   exact⟨rfl,Wh (hF.trans (sY h2 h8 h9)) (dU _ n) (QF _ n)⟩
  have n7:¬0<(Ht roots dec m).2.length:=by have q:=h7;rw[Lm]at q;omega
  refine J (fun hf=>absurd hf h7) (fun _=>?_);refine U (U ?_);have b12:=bT (sz:=5) (k:=72) (n:=((Ht roots dec m).2.map Br).length) (l:=((Ht roots dec m).2.map Br)) (ys:=[(Br n)]) ⟨rfl,trivial⟩ rfl (by simp only[Lm,AK,A4];omega);refine J b12 (U (J ⟨(QF _ n).symm,rfl⟩ ?_))
  -- [('(Dg dec n.rq.path)=true',False),('(0:Int)<(((Ht roots dec m).2.map Br).length:Int)',False)]
  exact⟨rfl,Wh (hF.trans (xO h2 h7)) (dU _ n) (QF _ n)⟩
 refine J aa5 ?_;exact H (.refl _) ⟨show AV.tup [vs (Ht roots dec (CZ roots dec).length).1,sl Br (Ht roots dec (CZ roots dec).length).2]=_ by rw[xK (Af _)],rfl⟩
end Go.Eng
namespace Go.Eng
open Go.Proofs
theorem nO{α:Type}(pr:α->Bool)(l:List α):(∃(k:Nat) (n:α),KI pr l 0=(k:Nat)/\l[k]?=some n/\l.find? pr=some n)\/(KI pr l 0=-1/\l.find? pr=none):=by
 have key:∀(l:List α) (b:Nat),(∃(k:Nat) (n:α),KI pr l (b:Nat)=((b+k:Nat):Int)/\l[k]?=some n/\l.find? pr=some n)\/(KI pr l (b:Nat)=-1/\l.find? pr=none):=by
  intro l
  induction l with
  |nil=>intro b;exact .inr Z
  |cons y l ih=>
   intro b;cases h:pr y with
   |true=>exact .inl ⟨0,y,by unfold KI;rw[AO h];rfl,rfl,by rw[Fu,h]⟩
   |false=>
    have e:KI pr (y::l) (b:Nat)=KI pr l ((b+1:Nat):Int):=by
     conv=>lhs;unfold KI
     rw[AB (by rw[h];decide)];rw[show((b+1:Nat):Int)=(b:Int)+1 by omega]
    have e2:(y::l).find? pr=l.find? pr:=by rw[Fu,h]
    rcases ih (b+1)with ⟨k,n,h1,h2,h3⟩ | ⟨h1,h2⟩
    .exact .inl ⟨k+1,n,by rw[e,h1];congr 1;omega,by simpa using h2,by rw[e2];exact h3⟩
    .exact .inr ⟨by rw[e];exact h1,by rw[e2];exact h2⟩
 have:=key l 0
 simpa using this
section
variable {rec:At7->SS->Au0->JB}{x:List F}{p:CS}{N:At8}{n0:Nd}{dec:At7}{st:Au0}{cs:At7}{i:Nat}{S:SS}{rs:List Nat}{sk:List Sk}
theorem qt(h:¬i<cs.length):Dx rec x p N n0 dec st (cs.drop i) S rs sk=⟨(Dm x p n0 rs S).1,false,(Dm x p n0 rs S).2,dec,st⟩:=by
 rw[FE I];rfl
theorem vY(h:i<cs.length)(hf:S.full=true):Dx rec x p N n0 dec st (cs.drop i) S rs sk=⟨0,false,S,dec,st⟩:=by
 rw[Bj h,FI,AO hf]
theorem Aeu(h:i<cs.length)(hf:S.full=false){n:Nd}(hn:N.find? (fun n=>!has n.rq.set cs[i].place)=some n):Dx rec x p N n0 dec st (cs.drop i) S rs sk=Dx rec x p N n0 dec st (cs.drop (i+1)) (Bx S n).2 (rs++[(Bx S n).1]) sk:=by
 rw[Bj h,FI,AB (by rw[hf];decide),hn]
theorem ZQ(h:i<cs.length)(hf:S.full=false)(hn:N.find? (fun n=>!has n.rq.set cs[i].place)=none){k:Nat}(he:OZ S.drv (AM (dec++[cs[i]]))=some k):Dx rec x p N n0 dec st (cs.drop i) S rs sk=IG rec x p N n0 dec st cs[i] (cs.drop (i+1)) rs sk k S:=by
 rw[Bj h,FI,AB (by rw[hf];decide),hn];dsimp only;rw[he]
theorem cu(h:i<cs.length)(hf:S.full=false)(hn:N.find? (fun n=>!has n.rq.set cs[i].place)=none)(he:OZ S.drv (AM (dec++[cs[i]]))=none){n:Nd}(hc:DM dec cs[i]=some n) :
  Dx rec x p N n0 dec st (cs.drop i) S rs sk=IG rec x p N n0 dec st cs[i] (cs.drop (i+1)) rs sk (Bx S n).1 (Bx S n).2:=by
 rw[Bj h,FI,AB (by rw[hf];decide),hn];dsimp only;rw[he];dsimp only;rw[hc]
theorem ZR(h:i<cs.length)(hf:S.full=false)(hn:N.find? (fun n=>!has n.rq.set cs[i].place)=none)(he:OZ S.drv (AM (dec++[cs[i]]))=none)(hc:DM dec cs[i]=none){o:JB}(ho:o=rec (dec++[cs[i]]) S (st++[sk])) :
  Dx rec x p N n0 dec st (cs.drop i) S rs sk=if o.found=true then⟨0,true,o.ss,o.dec,o.stack⟩else if o.ss.full=true then⟨0,false,o.ss,dec,st⟩else IG rec x p N n0 dec st cs[i] (cs.drop (i+1)) rs sk o.res o.ss:=by
 rw[ho,Bj h,FI,AB (by rw[hf];decide),hn];dsimp only;rw[he];dsimp only;rw[hc]
theorem jL{c:Cd}{l:At7}{k:Nat}(h:Dq (D2 S k) p=false):IG rec x p N n0 dec st c l rs sk k S=⟨k,false,S,dec,st⟩:=by unfold IG;rw[AO h]
theorem ZK{c:Cd}{l:At7}{k:Nat}(h:Dq (D2 S k) p=true):IG rec x p N n0 dec st c l rs sk k S=Dx rec x p N n0 dec st l S (rs++[k]) (sk++[⟨p,c.place,(k:Nat)⟩]):=by unfold IG;rw[AB (by rw[h];decide)]
end
theorem cH{x:List F}{dec:At7}(h:Dy x dec):dec.length<=x.length:=by
 have h1:=De (m:=x.map (·.path)) h.nodup fun p hp=>by
  obtain⟨c,hc,rfl⟩:=Ap.1 hp;exact Ap.2 ⟨c.rel,(h.cand c hc).1,rfl⟩
 rw[Lm,Lm]at h1;exact h1
theorem XZ(x:List F)(p:CS):(Bl x p).length<=x.length:=by
 unfold Bl;rw[Lm];exact CW _ _
end Go.Eng
