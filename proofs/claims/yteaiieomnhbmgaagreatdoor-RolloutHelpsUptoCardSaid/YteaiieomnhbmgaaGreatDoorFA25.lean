/- Lemmas 25. -/
import Derived.Test.YteaiieomnhbmgaaGreatDoorFA24
set_option maxHeartbeats 4000000
namespace Go.Eng
open Go.Proofs
variable {k:Nat}{p:ByteArray}{Y:Gh->World->Prop}{j:Nat}{P:Program}{o sz:Nat}{i:Nf}(l:List Nd)(roots:List Rq)(C A:List (Value×AV))(s:SS)(dec:List Cd)(st:List (List Sk))(m:Nat)(n:Nd)
theorem Qe{x:List Rl}{roots:List Rq}{l0:List Nf}:∀{l:List Nf} {d d' : List (List Tm)},(∀i∈l,i∈l0)->(∀t∈d,WY (LA x roots l0) t)->DA x roots l d=some d'->∀t∈d',WY (LA x roots l0) t
 | [],d,d',_,hd,h=>by cases h;exact hd
 |i::l,d,d',hl,hd,h=>by
  unfold DA at h;cases hi:Ei x roots d i with
  |none=>rw[hi]at h;cases h
  |some t=>
   rw[hi]at h;refine Qe (fun j hj=>hl j (Ah _ hj)) (fun u hu=>?_) h;rcases AN.1 hu with hu|hu
   .exact hd u hu
   .rw[Ar.1 hu];exact jO (hl i (Ab ..)) hd hi
section
variable {x:List Rl}{roots:List Rq}{s:SS}
theorem FO.few(hx:A0 x=0)(hr:BH roots=0)(h:FO x roots s):∀t∈s.drv,t6 t:=fun t ht=>
 (Qe (l0:=s.infs) (fun _ h=>h) (fun _ h=>by cases h) h.der t ht).fewI (fe hx hr h.len)
theorem I2{l:List Tm}(h:s.infs.Nodup):(Er s i l).2.infs.Nodup:=by
 cases hk:M8 i 0 s.infs with
 |some k=>rw[ao hk];exact h
 |none=>
  by_cases hf:65536<=s.infs.length
  .rw[Xf hk hf];exact h
  .rw[aj hk hf];show(s.infs++[i]).Nodup;rw[FQ];refine⟨h,by simp,fun a ha b hb e=>?_⟩;rw[Ar.1 hb]at e;exact RY hk (e▸ha)
theorem Mh.add(h:Mh x roots s){l:List Tm}(hi:Ei x roots s.drv i=some l):Mh x roots (Er s i l).2/\(Er s i l).1<(Er s i l).2.drv.length/\s.drv.length<=(Er s i l).2.drv.length:=
 ⟨⟨(LO h.der hi).1,I2 h.nodup⟩,(LO h.der hi).2.1,(LP s i l).len⟩
theorem Mh.dl(h:Mh x roots s):s.infs.length<=65536/\s.drv.length=s.infs.length/\s.drv.length<=65536:=by
 have h1:=h.der.dlen;have h2:=h.der.len;exact⟨h2,h1,by omega⟩
theorem nZ(hx:A0 x=0)(p:ByteArray):∀d,Ei x roots d ⟨2,p,0,0,0,0⟩=some (IP p (Co x p)):=fun d=>by
 obtain⟨u,u0,u1,hu⟩:=iB hx p;have hV:GH []:=fun _ h=>by cases h
 have ou:ae [] p (Lz [] p (Rm u)):=.ver hV (Fw ⟨u0,u1⟩);have h1:Bm [(⟨p,false,EX (Co x p)⟩:Tm)] (Lz [] p (Rm u))=true:=by
  rw[BP];intro t ht;rw[Ar.1 ht];show DG _ (B5 (Lz [] p (Rm u)) p)=true;rw[Je rfl];show(Ci (Rm u)&&has (EX (Co x p)) (place (Rm u)))=true;rw[Fw ⟨u0,u1⟩,H6,F8,hu];unfold M7;simp[u0,u1]
 have h2:Bm [(⟨p,false,EX (Co x p)⟩:Tm)] []=false:=rfl;have DJ:IP p (Co x p)≠[]:=by
  have c1:=Dv (l:=[(⟨p,false,EX (Co x p)⟩:Tm)]) ou.val;have c2:=Dv (l:=[(⟨p,false,EX (Co x p)⟩:Tm)]) hV;rw[h1]at c1;rw[h2]at c2;unfold IP RV;cases hc:Dg [(⟨p,false,EX (Co x p)⟩:Tm)]with
  |none=>rw[hc]at c1;cases c1
  |some c=>
   rw[hc]at c2;intro e;have e:c=[]:=e;rw[e]at c2;cases c2
 unfold Ei;rw[Aj (show ¬((2:Int)=0) by decide),Aj (show ¬((2:Int)=1) by decide),Ap rfl,Ap ⟨rfl,rfl,rfl,rfl⟩];unfold jX;rw[Aj (by rw[HD];exact DJ)]
theorem Ff(h:k<s.drv.length):s.drv[k]?=some (EC s k):=by
 unfold EC;rw[Cf,Ge h];rfl
theorem Vo{L:List Nat}(hj:j<L.length)(h:s.full=true\/Ee (EC s k) p=false):Cw p (L.drop j) k s=(k,s):=by
 rw[AI hj];unfold Cw;rw[Ap h]
theorem eF{L:List Nat}(hj:j<L.length)(h1:¬(s.full=true\/Ee (EC s k) p=false))(h:L[j]=k):Cw p (L.drop j) k s=Cw p (L.drop (j+1)) k s:=by
 rw[AI hj]
 conv=>lhs;unfold Cw
 rw[Aj h1,Ap h]
theorem jT{L:List Nat}(hj:j<L.length)(h1:¬(s.full=true\/Ee (EC s k) p=false))(h2:¬L[j]=k)(h:(B2 (EC s k) (EC s L[j]) p).2≠0):Cw p (L.drop j) k s=Cw p (L.drop (j+1)) k s:=by
 rw[AI hj]
 conv=>lhs;unfold Cw
 rw[Aj h1,Aj h2,Ap h]
theorem jS{L:List Nat}(hj:j<L.length)(h1:¬(s.full=true\/Ee (EC s k) p=false))(h2:¬L[j]=k)(h:(B2 (EC s k) (EC s L[j]) p).2=0) :
  Cw p (L.drop j) k s=Cw p (L.drop (j+1)) (Er s ⟨3,p,0,0,(k:Nat),(L[j]:Nat)⟩ (B2 (EC s k) (EC s L[j]) p).1).1 (Er s ⟨3,p,0,0,(k:Nat),(L[j]:Nat)⟩ (B2 (EC s k) (EC s L[j]) p).1).2:=by
 rw[AI hj]
 conv=>lhs;unfold Cw
 rw[Aj h1,Aj h2,Aj (fun h3=>h3 h)]
end
theorem FC{t:List Tm}(h:t6 t):B8 t:=by have:=h.1;unfold B8;omega
theorem s91(x:List Rl)(roots:List Rq)(C A:List (Value×AV))(s:SS)(dec:List Cd)(st:List (List Sk))(p:ByteArray)(n:Nd)(rs:List Nat)(V:AV)(hx:A0 x=0)(hr:BH roots=0)(hs:Mh x roots s)(vh:∀d,Ei x roots d (Om n)=some (II n))(xK:∀r∈rs,r<s.drv.length)(hrl:rs.length<=1073741823)(hnq:B8 n.rq.set)(hnp:Bc (n.place+1))
  (yM:∀a,(Value.string p,a)∈A->a=V) (yO:(∀a,(Value.string p,a)∉A)->V=nzA) (yP:∀h,PC 261 [vs p,str h V] (sl AO (IP p (Co x p)))):A9 Tryz.prog 194 [.ref 1000 0,vs p,.agg (BJ n),sl Dc rs] (As (Kh roots C A s dec st) Ag) fun r h'=>tY roots C A dec st (D7 x p n rs s) r h':=by
 have hw:=hs.dl;obtain⟨vD,zj,WJ⟩:=hs.add (vh s.drv)
 change Mh x roots (BS s n).2 at vD
 change (BS s n).1<(BS s n).2.drv.length at zj
 change s.drv.length<=(BS s n).2.drv.length at WJ
 have Me:=vD.dl;obtain⟨vE,I7,m5⟩:=vD.add (nZ hx p (BS s n).2.drv)
 change Mh x roots (Ev x p (BS s n).2).2 at vE
 change (Ev x p (BS s n).2).1<(Ev x p (BS s n).2).2.drv.length at I7
 change (BS s n).2.drv.length<=(Ev x p (BS s n).2).2.drv.length at m5
 obtain⟨L,hL⟩:∃L,L=(Ev x p (BS s n).2).1::rs:=⟨_,rfl⟩;have hLr:∀r∈L,r<(Ev x p (BS s n).2).2.drv.length:=fun r rc=>by
  rw[hL]at rc;rcases Ay.1 rc with rfl|h
  .exact I7
  .have:=xK r h;omega
 have hLl:L.length=rs.length+1:=by rw[hL];rfl
 have zj:(BS s n).1<(Ev x p (BS s n).2).2.drv.length:=by omega
 refine Cz (No (pC [6] [3,7,8,10])) [(1000,1000),(1001,1001),(1002,1002),(1003,1003),(1004,1004)] rfl C3 hm rfl Tryz.func194 Wk rfl (Nz rfl) Wk rfl (yN (Xi (.gen db 0) (Yi rfl (A9.imp (s88 roots C A s dec st n hw.1 hw.2.1 hs.nodup hnq hnp) ?_))));intro v1 g1 q1;have rZ:=q1.1;have r4:=q1.2;subst rZ;subst r4;refine Qy V nzA yM yO (fun h=>h) (Xi .pure (Xi _ (Yi (yP _) (Xi (.gen db 0) (Yi rfl (A9.imp (r9 roots C A (BS s n).2 dec st ⟨2,p,0,0,0,0⟩ (IP p (Co x p)) Me.1 Me.2.1 vD.nodup) ?_))))));intro v2 g2 q2;have q2a:=q2.1;have q2b:=q2.2;subst q2a;subst q2b;refine cU [(0,.ref 1000 0),(1,vs p),(3,sl Dc rs),(9,vi (((BS s n).1:Nat):Int)),(10,vi (((Ev x p (BS s n).2).1:Nat):Int))] [(1000,.cells [sl AW roots,.cmap Cu C,.cmap Cu A,.slice (.id 1001 6) ((Ev x p (BS s n).2).2.infs.map DB),.slice (.id 1002 1) ((Ev x p (BS s n).2).2.drv.map Dn),.mref 1003,vb (Ev x p (BS s n).2).2.full,sl AY dec,sl Aq (AS dec),.msl 1004 st.length]),(1001,.tok 6 (Ev x p (BS s n).2).2.infs.length),(1002,.tok 1 (Ev x p (BS s n).2).2.drv.length),(1003,.map FU (F0 0 (Ev x p (BS s n).2).2.infs)),(1004,.arr 1 (st.map Bp))] Z5 Z5 ?_
 have b3:Cr 1 (rs.map Dc)/\([[vi (((Ev x p (BS s n).2).1:Nat):Int)]]:List (List AV)).length=1/\(([[vi (((Ev x p (BS s n).2).1:Nat):Int)]]:List (List AV)).length+(rs.map Dc).length)*8<=140737488355328/\([[vi (((Ev x p (BS s n).2).1:Nat):Int)]]:List (List AV)).length+(rs.map Dc).length<=9223372036854775807:=⟨(D5 (enc:=Dc) (n:=1) (fun _=>rfl) rs),(by first|(simp;done)|(rw[Lm];assumption)),(by simp only[Lm,Al,Au];omega),(by simp only[Lm,Al,Au];omega)⟩
 refine Yi b3 (Xi {q:Nat×Nat×SS // q.1<=L.length/\Cw p (L.drop q.1) q.2.1 q.2.2=Cw p L (BS s n).1 (Ev x p (BS s n).2).2/\Mh x roots q.2.2/\q.2.1<q.2.2.drv.length/\∀r∈L,r<q.2.2.drv.length} (Xi (fun q=>⟨[(0,.ref 1000 0),(1,vs p),(9,vi q.1.2.1),(33,.slice (.id 31 1) (L.map Dc)),(34,vi (L.map Dc).length),(35,vi q.1.1)],[(31,.tok 1 (L.map Dc).length),(1000,.cells (srM roots C A q.1.2.2 dec 1004 st.length)),(1001,.tok 6 q.1.2.2.infs.length),(1002,.tok 1 q.1.2.2.drv.length),(1003,.map FU (F0 0 q.1.2.2.infs)),(1004,.arr 1 (st.map Bp))],Ag⟩) (Xi (fun q=>L.length-q.1.1) (Yi (Xi ⟨(0,(BS s n).1,(Ev x p (BS s n).2).2),AB _,by rw[List.drop_zero],vE,zj,hLr⟩ ?_) ?_))))
 .exact⟨⟨Zr,Zr,Zr,⟨(show AV.slice (.id 31 1) ([[vi (((Ev x p (BS s n).2).1:Nat):Int)]]++rs.map Dc)=.slice (.id 31 1) (L.map Dc) by rw[hL];rfl),rfl⟩,⟨(show vi (([[vi (((Ev x p (BS s n).2).1:Nat):Int)]]++rs.map Dc:List (List AV)).length:Int)=vi ((L.map Dc).length:Int) by rw[hL];rfl),rfl⟩,Zr,Tv⟩,⟨⟨(show HO.tok 1 (([[vi (((Ev x p (BS s n).2).1:Nat):Int)]]:List (List AV)).length+(rs.map Dc).length)=.tok 1 (L.map Dc).length by rw[hL];simp[Nat.add_comm]),rfl⟩,Zr,Zr,Zr,Zr,Zr,Tv⟩,Fh,BV Wk⟩
 intro⟨⟨j,k,S⟩,j1,j2,j3,j4,j5⟩;have hw3:=j3.dl;have hfw:=j3.der.few hx hr;have gk:S.drv[k]?=some (EC S k):=Ff j4;refine Yi (fun h4=>?_) (fun h4=>?_)
 .have h4:(j:Int)<((L.map Dc).length:Int):=h4;have n4:=FJ h4;refine Xi (Dc L[j]) (Yi (Lv n4) (Yi rfl (Yi (fun h5=>?_) (fun h5=>?_))))
  .refine cU [(9,vi k)] [(1000,.cells (srM roots C A S dec 1004 st.length)),(1001,.tok 6 S.infs.length),(1002,.tok 1 S.drv.length),(1003,.map FU (F0 0 S.infs)),(1004,.arr 1 (st.map Bp))] Z1 Z5 ?_
   have eR:Cw p L (BS s n).1 (Ev x p (BS s n).2).2=(k,S):=by rw[<-j2];exact Vo n4 (.inl h5)
   have eL:D7 x p n rs s=(k,S):=by unfold D7;rw[<-hL];exact eR
   exact Xi _ (Yi (.refl _) (Yi (show vi (k:Int)=vi (((D7 x p n rs s).1:Nat):Int) by rw[eL]) (show As (Kh roots C A S dec st) Ag=As (Kh roots C A (D7 x p n rs s).2 dec st) Ag by rw[eL])))
  refine Xi (Dn (EC S k)) (Yi (Yi (Nn k) (Ek gk)) (Yi rfl (BX (Bt (Ee (EC S k) p)) (fun h7=>?_) (fun h7=>?_))))
  .refine Xi .pure (Xi _ (Yi (cb h7 (qd (EC S k) p (FC (hfw _ (Az (Ff j4)))))) (cU [(0,.ref 1000 0),(1,vs p),(9,vi k),(12,vi (L[j]:Nat)),(33,.slice (.id 31 1) (L.map Dc)),(34,vi (L.map Dc).length),(35,vi j)] [(31,.tok 1 (L.map Dc).length),(1000,.cells (srM roots C A S dec 1004 st.length)),(1001,.tok 6 S.infs.length),(1002,.tok 1 S.drv.length),(1003,.map FU (F0 0 S.infs)),(1004,.arr 1 (st.map Bp))] Z7 Z6 (Yi (fun h8=>?_) (fun h8=>?_)))))
   .refine Yi (Ii j ch) (Xi ⟨(j+1,k,S),FR n4,by rw[<-(eF (s:=S) (p:=p) (L:=L) (j:=j) (k:=k) n4 (by rw[h5,h7];simp) (by have q:=h8;omega))];exact j2,j3,j4,j5⟩ ?_);exact⟨Dl L.length j ch,Z6,Z6,Fh,BV Wk⟩
   refine Xi (Dn (EC S k)) (Yi (Yi (Nn k) (Ek gk)) (Yi rfl (Xi (Dn (EC S L[j])) (Yi (Yi (show(0:Int)<=(L[j]:Nat) by omega) (Ek (Ff (j5 _ (Ao n4))))) (Yi rfl ?_)))));have fk:=hfw _ (Az (Ff j4));have fr:=hfw _ (Az (Ff (j5 _ (Ao n4))));refine Xi _ (Yi (Aco (EC S k) (EC S L[j]) p fk.1 fr.1 fk.2 fr.2) (Yi Wk (cU [(0,.ref 1000 0),(1,vs p),(9,vi k),(12,vi (L[j]:Nat)),(13,sl AO (B2 (EC S k) (EC S L[j]) p).1),(14,vi (B2 (EC S k) (EC S L[j]) p).2),(33,.slice (.id 31 1) (L.map Dc)),(34,vi (L.map Dc).length),(35,vi j)] [(31,.tok 1 (L.map Dc).length),(1000,.cells (srM roots C A S dec 1004 st.length)),(1001,.tok 6 S.infs.length),(1002,.tok 1 S.drv.length),(1003,.map FU (F0 0 S.infs)),(1004,.arr 1 (st.map Bp))] Z9 Z6 (Yi (fun UZ=>?_) (fun UZ=>?_)))))
   .refine Yi (Ii j ch) (Xi ⟨(j+1,k,S),FR n4,by rw[<-(jT (s:=S) (p:=p) (L:=L) (j:=j) (k:=k) n4 (by rw[h5,h7];simp) (by have q:=h8;omega) UZ)];exact j2,j3,j4,j5⟩ ?_);exact⟨Dl L.length j ch,Z6,Z6,Fh,BV Wk⟩
   have UZ:((B2 (EC S k) (EC S L[j]) p).2:Int)=(0:Int):=AH UZ;refine Xi (.gen db 0) (Yi rfl (A9.imp (r9 roots C A S dec st ⟨3,p,0,0,(k:Nat),(L[j]:Nat)⟩ (B2 (EC S k) (EC S L[j]) p).1 hw3.1 hw3.2.1 j3.nodup) ?_));intro v12 g12 rY;have wl:=rY.1;have wm:=rY.2;subst wl;subst wm;refine Yi (Ii j ch) ?_;obtain⟨a1,a2,a3⟩:=j3.add (XN (x:=x) (roots:=roots) (p:=p) j4 (j5 _ (Ao n4)) UZ);refine Xi ⟨(j+1,(Er S ⟨3,p,0,0,(k:Nat),(L[j]:Nat)⟩ (B2 (EC S k) (EC S L[j]) p).1).1,(Er S ⟨3,p,0,0,(k:Nat),(L[j]:Nat)⟩ (B2 (EC S k) (EC S L[j]) p).1).2),FR n4,by rw[<-(jS (s:=S) (p:=p) (L:=L) (j:=j) (k:=k) n4 (by rw[h5,h7];simp) (by have q:=h8;omega) UZ)];exact j2,a1,a2,fun r hr=>BC (j5 r hr) a3⟩ ?_;exact⟨Dl L.length j ch,Z6,Z6,Fh,BV Wk⟩
  refine Xi .pure (Xi _ (Yi (cb h7 (qd (EC S k) p (FC (hfw _ (Az (Ff j4)))))) (cU [(9,vi k)] [(1000,.cells (srM roots C A S dec 1004 st.length)),(1001,.tok 6 S.infs.length),(1002,.tok 1 S.drv.length),(1003,.map FU (F0 0 S.infs)),(1004,.arr 1 (st.map Bp))] Z1 Z5 ?_)))
  have eR:Cw p L (BS s n).1 (Ev x p (BS s n).2).2=(k,S):=by rw[<-j2];exact Vo n4 (.inr h7)
  have eL:D7 x p n rs s=(k,S):=by unfold D7;rw[<-hL];exact eR
  exact Xi _ (Yi (.refl _) (Yi (show vi (k:Int)=vi (((D7 x p n rs s).1:Nat):Int) by rw[eL]) (show As (Kh roots C A S dec st) Ag=As (Kh roots C A (D7 x p n rs s).2 dec st) Ag by rw[eL])))
 have n4:=DP h4;have hj:¬j<L.length:=by have q:=h4;rw[Lm]at q;omega
 have eR:Cw p L (BS s n).1 (Ev x p (BS s n).2).2=(k,S):=by rw[<-j2,CA ch];rfl
 have eL:D7 x p n rs s=(k,S):=by unfold D7;rw[<-hL];exact eR
 exact Xi _ (Yi (.refl _) (Yi (show vi (k:Int)=vi (((D7 x p n rs s).1:Nat):Int) by rw[eL]) (show As (Kh roots C A S dec st) Ag=As (Kh roots C A (D7 x p n rs s).2 dec st) Ag by rw[eL])))
abbrev de:J6:=[(1000,1000),(1001,1001),(1002,1002),(1003,1003),(500,1004)]
abbrev srE:List (Nat×HO):=
 [(1000,.cells (srM roots C A s dec 2000 st.length)),(1001,.tok 6 s.infs.length),(1002,.tok 1 s.drv.length),(1003,.map FU (F0 0 s.infs)),(1004,.dead),(2000,.arr 1 (st.map Bp))]
abbrev df(o:KW)(r:AV)(h' : Nat->HO):Prop:=r=.tup [vi (o.res:Nat),vb o.found]/\h'=As (srE roots C A o.ss o.dec o.stack) Ag
def H64:Prop:=∀(s:SS) (dec:List Cd) (st:List (List Sk)),dec.length<=1000->(∀c∈dec,c.rel.reqs.length<=1073741824) ->
 A9 Tryz.prog 186 [.ref 1000 0] (As (Kh roots C A s dec st) Ag) fun r h'=>r=.tup [vs (Fb roots dec).1,sl BJ (Fb roots dec).2]/\h'=As (Kh roots C A s dec st) Ag
theorem OR{roots:List Rq}{C A:List (Value×AV)}{o:KW}{b:Bool}{s:SS}{dec:List Cd}{st:List (List Sk)}(e:o=⟨k,b,s,dec,st⟩) :
  AV.tup [vi (k:Nat),vb b]=.tup [vi (o.res:Nat),vb o.found]/\As (srE roots C A s dec st) Ag=As (srE roots C A o.ss o.dec o.stack) Ag:=by rw[e];exact Zr
abbrev da:J6:=[(1000,1000),(1001,1001),(1002,1002),(1003,1003),(1004,1004),(1005,1005),(1006,1006),(1007,1007),(1008,1008),(1009,1009)]
def Hy:ByteArray×List Nd:=((DR roots dec).take m).foldl (EG dec) (mt,[])
theorem cc{roots:List Rq}{dec:List Cd}{m:Nat}{n:Nd}(h:(DR roots dec)[m]?=some n):Hy roots dec (m+1)=EG dec (Hy roots dec m) n:=by
 unfold Hy;rw[Bh,h,Et];rfl
theorem rL{roots:List Rq}{dec:List Cd}{m:Nat}(h:(DR roots dec).length<=m):Hy roots dec m=Fb roots dec:=by
 unfold Hy Fb;rw[Av h]
def Gi(j:Nat):Nat:=roots.length+((dec.take j).map fun c=>c.rel.reqs.length).sum
theorem VO(c:Cd):(Sb c).length=c.rel.reqs.length:=L4 _ _ _
theorem kh:Gi roots dec 0=roots.length:=by unfold Gi;simp
theorem kg{roots:List Rq}{dec:List Cd}(h:j<dec.length):Gi roots dec (j+1)=Gi roots dec j+dec[j].rel.reqs.length:=by
 unfold Gi;rw[BN h,At,List.sum_append];simp[Nat.add_assoc]
theorem ci:Gi roots dec dec.length=(DR roots dec).length:=by
 unfold Gi DR cD;rw[Ce,Ac,L4,List.length_flatten,Bq]
 congr 2
 exact Bg fun c _=>(VO c).symm
theorem jZ{roots:List Rq}{dec:List Cd}{i:Nat}(h:i<roots.length):(DR roots dec)[i]?=some ⟨roots[i],mt,0,(i:Nat)⟩:=by
 unfold DR cD;rw[AT (by rw[L4];exact h),QS,Ge h,Ix,Bb]
theorem aX{α:Type}:∀{l:List (List α)} {j k:Nat} (hj:j<l.length),k<l[j].length->l.flatten[((l.take j).map List.length).sum+k]?=l[j][k]?
 |y::l,0,k,_,hk=>by
  rw[BE,List.take_zero,E6,List.sum_nil,Bb,AT (show k<y.length from hk)];rfl
 |y::l,j+1,k,hj,hk=>by
  rw[BE,J5,AJ,List.sum_cons,A2 ch]
  have:=aX (l:=l) (j:=j) (k:=k) (by simpa using hj) hk
  rw[show y.length+((l.take j).map List.length).sum+k-y.length=((l.take j).map List.length).sum+k by omega,this]
  rfl
theorem nU{roots:List Rq}{dec:List Cd}(hj:j<dec.length)(hk:k<dec[j].rel.reqs.length):(DR roots dec)[Gi roots dec j+k]?=some ⟨dec[j].rel.reqs[k],dec[j].rel.path,dec[j].place,(k:Nat)⟩:=by
 unfold DR cD Gi;rw[A2 (by rw[L4];omega),L4];have h:=aX (l:=dec.map Sb) (j:=j) (k:=k) (by simpa using hj) (by rw[List.getElem_map,VO];exact hk);rw[<-Ts,Bq,show(List.length ∘ Sb)=fun c=>c.rel.reqs.length from funext VO]at h;rw[show roots.length+((dec.take j).map fun c=>c.rel.reqs.length).sum+k-roots.length=((dec.take j).map fun c=>c.rel.reqs.length).sum+k by omega,h,List.getElem_map];unfold Sb;rw[QS,Ge hk,Ix,Bb]
abbrev oh:List (Nat×HO):=
  [(1000,.cells (srC roots C A s dec st.length)),(1001,.tok 6 s.infs.length),(1002,.tok 1 s.drv.length),(1003,.map FU (F0 0 s.infs)),(1004,.arr 1 (st.map Bp)),
   (1005,.cells [.ref 1000 0]),(1006,.cells [vs (Hy roots dec m).1]),(1007,.cells [.slice (.ver 1008 5 m) ((Hy roots dec m).2.map BJ)]),(1008,.var 5 m ((Hy roots dec m).2.map BJ).length),(1009,.cells [.ref 1000 0])]
noncomputable abbrev cxn(pl:Tt)(l:Nat)(Y:Gh->World->Prop):Cx:=⟨Tryz.prog,sq,pl,true,0,fun l' σ' g w=>l'=l->σ'=da->Y g w⟩
theorem JU.pre{Y':Gh->World->Prop}{l:Nat}{args:List AV}{h0:Nat->HO}{Q:AV->(Nat->HO)->Prop}(h:JU P Y l args h0 Q)(hp:∀g w,Y' g w->Y g w):JU P Y' l args h0 Q:=
 fun g w vals q1 q2 q3 q4=>h g w vals q1 q2 q3 (hp g w q4)
theorem AeQ:A9 Tryz.prog 253 [.ref 1000 0] (As (Kh roots C A s dec st) Ag) fun r h'=>r=.clo 301 [.ref 2000 0]/\h'=As (Kh roots C A s dec st++[(2000,.cells [.ref 1000 0])]) Ag:=by
 refine Cz (No Ej) [(1000,1000),(1001,1001),(1002,1002),(1003,1003),(1004,1004),(1,2000)] rfl C3 hm rfl Tryz.func253 Wk rfl (Nz rfl) Wk rfl ?_;exact Xi _ (Yi (.refl _) Zr)
theorem AeR(l:Nat)(roots:List Rq)(C A:List (Value×AV))(s:SS)(dec:List Cd)(st:List (List Sk))(hr:roots.length<=1073741824)(hd:dec.length<=1073741824)(xD:∀c∈dec,c.rel.reqs.length<=1073741824)(hy:∀m n,(DR roots dec)[m]?=some n->JU Tryz.prog Y l [.agg (BJ n)] (As (oh roots C A s dec st m) Ag) fun r h'=>r=vb true/\h'=As (oh roots C A s dec st (m+1)) Ag) :
  ab Tryz.prog Y da 301 [.v (.func (.yield l) #[] #[]),.ref 1005 0] (As (oh roots C A s dec st 0) Ag) fun _ h'=>h'=As (oh roots C A s dec st (DR roots dec).length) Ag:=by
 refine nv (l:=l) (cxn Ej l Y) da rfl C3 hm rfl Tryz.func301 Wk rfl (Nz rfl) Wk rfl rfl (Xi {i:Nat // i<=roots.length} (Xi (fun q=>⟨[(0,.v (.func (.yield l) #[] #[])),(1,.ref 1005 0),(12,sl AW roots),(13,vi (roots.map AW).length),(14,vi q.1)],[(1000,.cells (srM roots C A s dec 1004 st.length)),(1001,.tok 6 s.infs.length),(1002,.tok 1 s.drv.length),(1003,.map FU (F0 0 s.infs)),(1004,.arr 1 (st.map Bp)),(1005,.cells [.ref 1000 0]),(1006,.cells [vs (Hy roots dec q.1).1]),(1007,.cells [.slice (.ver 1008 5 q.1) ((Hy roots dec q.1).2.map BJ)]),(1008,.var 5 q.1 ((Hy roots dec q.1).2.map BJ).length),(1009,.cells [.ref 1000 0])],Ag⟩) (Xi (fun q=>roots.length-q.1) (Yi (Xi ⟨0,AB _⟩ ?_) ?_))))
 .exact⟨Z5,Z10,Fh,BV Wk⟩
 intro⟨i,i1⟩;refine Yi (fun h1=>?_) (fun h1=>?_)
 .have h1:(i:Int)<((roots.map AW).length:Int):=h1;have n1:=FJ h1;refine Xi (AW roots[i]) (Yi (Lv n1) (Yi rfl (yN (yN (yN (Xi (.gen da 0) (Yi rfl (JU.imp (JU.pre (hy i ⟨roots[i],mt,0,(i:Nat)⟩ (jZ n1)) (fun g w q=>q rfl rfl)) ?_))))))));intro v2 g2 q2;have q2a:=q2.1;have q2b:=q2.2;subst q2a;subst q2b;refine Yi (Ii i ch) (Xi ⟨i+1,by omega⟩ ?_);exact⟨Dl roots.length i ch,Z5,Z10,Fh,BV Wk⟩
 have h1:¬((i:Int)<((roots.map AW).length:Int)):=h1;have n1:=DP h1;have hE:i=Gi roots dec 0:=by rw[kh];omega
 refine Xi {j:Nat // j<=dec.length} (Xi (fun q=>⟨[(0,.v (.func (.yield l) #[] #[])),(29,sl AY dec),(30,vi (dec.map AY).length),(31,vi q.1)],[(1000,.cells (srM roots C A s dec 1004 st.length)),(1001,.tok 6 s.infs.length),(1002,.tok 1 s.drv.length),(1003,.map FU (F0 0 s.infs)),(1004,.arr 1 (st.map Bp)),(1005,.cells [.ref 1000 0]),(1006,.cells [vs (Hy roots dec (Gi roots dec q.1)).1]),(1007,.cells [.slice (.ver 1008 5 (Gi roots dec q.1)) ((Hy roots dec (Gi roots dec q.1)).2.map BJ)]),(1008,.var 5 (Gi roots dec q.1) ((Hy roots dec (Gi roots dec q.1)).2.map BJ).length),(1009,.cells [.ref 1000 0])],Ag⟩) (Xi (fun q=>dec.length-q.1) (Yi (Xi ⟨0,AB _⟩ ?_) ?_)))
 .exact⟨Z4,⟨Zr,Zr,Zr,Zr,Zr,Zr,⟨(show .cells [vs (Hy roots dec i).1]=(.cells [vs (Hy roots dec (Gi roots dec 0)).1]:HO) by rw[hE]),rfl⟩,⟨(show .cells [.slice (.ver 1008 5 i) ((Hy roots dec i).2.map BJ)]=(.cells [.slice (.ver 1008 5 (Gi roots dec 0)) ((Hy roots dec (Gi roots dec 0)).2.map BJ)]:HO) by rw[hE]),rfl⟩,⟨(show .var 5 i ((Hy roots dec i).2.map BJ).length=(.var 5 (Gi roots dec 0) ((Hy roots dec (Gi roots dec 0)).2.map BJ).length:HO) by rw[hE]),rfl⟩,Zr,Tv⟩,Fh,BV Wk⟩
 intro⟨j,j1⟩;refine Yi (fun h4=>?_) (fun h4=>?_)
 .have h4:(j:Int)<((dec.map AY).length:Int):=h4;have n4:=FJ h4;have hdj:=xD dec[j] (Ao n4);refine Xi (AY dec[j]) (Yi (Lv n4) (Yi rfl (yN (yN (Xi {k:Nat // k<=dec[j].rel.reqs.length} (Xi (fun q=>⟨[(0,.v (.func (.yield l) #[] #[])),(6,.ref 6 0),(29,sl AY dec),(30,vi (dec.map AY).length),(31,vi j),(37,sl AW dec[j].rel.reqs),(38,vi (dec[j].rel.reqs.map AW).length),(39,vi q.1)],[(6,.cells (AY dec[j])),(1000,.cells (srM roots C A s dec 1004 st.length)),(1001,.tok 6 s.infs.length),(1002,.tok 1 s.drv.length),(1003,.map FU (F0 0 s.infs)),(1004,.arr 1 (st.map Bp)),(1005,.cells [.ref 1000 0]),(1006,.cells [vs (Hy roots dec (Gi roots dec j+q.1)).1]),(1007,.cells [.slice (.ver 1008 5 (Gi roots dec j+q.1)) ((Hy roots dec (Gi roots dec j+q.1)).2.map BJ)]),(1008,.var 5 (Gi roots dec j+q.1) ((Hy roots dec (Gi roots dec j+q.1)).2.map BJ).length),(1009,.cells [.ref 1000 0])],Ag⟩) (Xi (fun q=>dec[j].rel.reqs.length-q.1) (Yi (Xi ⟨0,AB _⟩ ?_) ?_))))))))
  .exact⟨Z8,Z11,Fh,BV Wk⟩
  intro⟨k,k1⟩;have k1:k<=dec[j].rel.reqs.length:=k1;refine Yi (fun h5=>?_) (fun h5=>?_)
  .have h5:(k:Int)<((dec[j].rel.reqs.map AW).length:Int):=h5;have n5:=FJ h5;refine Xi (AW dec[j].rel.reqs[k]) (Yi (Lv n5) (Yi rfl (yN (yN (yN (Xi (.gen da 0) (Yi rfl (JU.imp (JU.pre (hy (Gi roots dec j+k) ⟨dec[j].rel.reqs[k],dec[j].rel.path,dec[j].place,(k:Nat)⟩ (nU n4 n5)) (fun g w q=>q rfl rfl)) ?_))))))));intro v6 g6 q6;have q6a:=q6.1;have q6b:=q6.2;subst q6a;subst q6b;refine Yi (Ii k ch) (Xi ⟨k+1,by omega⟩ ?_);exact⟨by show dec[j].rel.reqs.length-(k+1)<dec[j].rel.reqs.length-k;omega,Z8,Z11,Fh,BV Wk⟩
  have h5:¬((k:Int)<((dec[j].rel.reqs.map AW).length:Int)):=h5;have n5:=DP h5;refine Yi (Ii j ch) ?_;have hE:Gi roots dec j+k=Gi roots dec (j+1):=by rw[kg n4];omega
  refine Xi ⟨j+1,by omega⟩ ?_;exact⟨Dl dec.length j ch,Z4,⟨Zr,Zr,Zr,Zr,Zr,Zr,⟨(show .cells [vs (Hy roots dec (Gi roots dec j+k)).1]=(.cells [vs (Hy roots dec (Gi roots dec (j+1))).1]:HO) by rw[hE]),rfl⟩,⟨(show .cells [.slice (.ver 1008 5 (Gi roots dec j+k)) ((Hy roots dec (Gi roots dec j+k)).2.map BJ)]=(.cells [.slice (.ver 1008 5 (Gi roots dec (j+1))) ((Hy roots dec (Gi roots dec (j+1))).2.map BJ)]:HO) by rw[hE]),rfl⟩,⟨(show .var 5 (Gi roots dec j+k) ((Hy roots dec (Gi roots dec j+k)).2.map BJ).length=(.var 5 (Gi roots dec (j+1)) ((Hy roots dec (Gi roots dec (j+1))).2.map BJ).length:HO) by rw[hE]),rfl⟩,Zr,Tv⟩,Fh,BV Wk⟩
 have h4:¬((j:Int)<((dec.map AY).length:Int)):=h4;have n4:=DP h4;exact Aa (fun m=>As (oh roots C A s dec st m) Ag) (show Gi roots dec j=(DR roots dec).length by rw[<-ci];congr 1;omega)
theorem vZ{h:Nat->HO}{r:Nat}{cs:List AV}{K:(Nat->HO)->Prop}(c1:h o=.cells cs)(c2:Kg cs k=nzA)(c3:h r=.free)(hk:K (A3 (A3 h r (.var sz 0 0)) o (.cells (EZ cs k (.slice (.ver r sz 0) []))))):xO h o k r sz K:=by
 unfold xO;rw[c1];show match Kg cs k with
  |.v (.slice none 0 0)=>match h r with
   |.free=>K (A3 (A3 h r (.var sz 0 0)) o (.cells (EZ cs k (.slice (.ver r sz 0) []))))
   |_=>False
  |_=>False
 rw[c2,c3];exact hk
theorem wu{r0:Nat}{jo:Cx}{N:Nat}{fn:Func}{σ:J6}{Q:AV->(Nat->HO)->Prop}{b rest:Code}{st:St}(cs:List AV)(c1:st.h o=.cells cs)(c2:Kg cs k=nzA)(c3:st.h r0=.free)(σF σr:J6)(H0 Hn:List (Nat×HO))(gf:Nat)(caps:List AV){sW s:Nat}{ps:Array Tmp}{Hl body:Code}(hb:b=.block sW (.rangeFunc (.tmp s) ps Hl body))(k1:(EK σF&&D0 (A3 (A3 st.h r0 (.var sz 0 0)) o (.cells (EZ cs k (.slice (.ver r0 sz 0) [])))) 0 0&&DK σF 0 0)=true)(k2:F1 σF (A3 (A3 st.h r0 (.var sz 0 0)) o (.cells (EZ cs k (.slice (.ver r0 sz 0) []))))=As H0 Ag)(k3:(Hv σr&&Jw σr H0)=true)(k4:Jw σr Hn=true)(k5:ren (CI σF) (A3 (A3 st.h r0 (.var sz 0 0)) o (.cells (EZ cs k (.slice (.ver r0 sz 0) [])))) (st.t s)=.clo gf caps)(k6:∀(l D:Nat) (f' : FuncId) (tm:Array Value),tm.size=N->ab P (fun g w=>w.heap[l]?=some (.loop (IZ f' tm ps Hl body D .ready))/\∀i,BU g w (AR (As H0 Ag)) (ren (CI σF) (A3 (A3 st.h r0 (.var sz 0 0)) o (.cells (EZ cs k (.slice (.ver r0 sz 0) [])))) (st.t i)) (tm.getD i undef)) σr gf
   (.v (.func (.yield l) #[] #[])::caps) (As H0 Ag) fun _ h'=>h'=As Hn Ag)(k7:ER N rest=true)(k8:Tw jo rest (aM jo fn.results.toList σr fun r h'=>Q (ren (CI σ) (Eu σF 0 0 (A3 (A3 st.h r0 (.var sz 0 0)) o (.cells (EZ cs k (.slice (.ver r0 sz 0) [])))) h') (ren (FA σF 0 0) h' r)) (F1 σ (Eu σF 0 0 (A3 (A3 st.h r0 (.var sz 0 0)) o (.cells (EZ cs k (.slice (.ver r0 sz 0) [])))) h')))
   ⟨fun i=>ren (CI σF) (A3 (A3 st.h r0 (.var sz 0 0)) o (.cells (EZ cs k (.slice (.ver r0 sz 0) [])))) (st.t i),As Hn Ag⟩)(k9:PV [] body=false:=by kernel_rfl):RfV o k r0 sz jo P N fn σ Q b rest st:=
 vZ c1 c2 c3 ⟨σF,σr,H0,Hn,sW,s,ps,Hl,body,gf,caps,hb,k1,k2,k3,k4,k5,k6,k7,k9,k8⟩
section
variable {roots:List Rq}{C A:List (Value×AV)}{s:SS}{dec:List Cd}{st:List (List Sk)}{n:Nd}
theorem VE{m:Nat}{o:List Nd}(e:Hy roots dec (m+1)=(p,o)){es:List (List AV)}(h1:es=o.map BJ)(h2:k=es.length) :
  As [(1000,.cells (srC roots C A s dec st.length)),(1001,.tok 6 s.infs.length),(1002,.tok 1 s.drv.length),(1003,.map FU (F0 0 s.infs)),(1004,.arr 1 (st.map Bp)),
   (1005,.cells [.ref 1000 0]),(1006,.cells [vs p]),(1007,.cells [.slice (.ver 1008 5 (m+1)) es]),(1008,.var 5 (m+1) k),(1009,.cells [.ref 1000 0])] Ag=As (oh roots C A s dec st (m+1)) Ag:=by
 subst h1;subst h2
 rw[show oh roots C A s dec st (m+1)=[(1000,.cells (srC roots C A s dec st.length)),(1001,.tok 6 s.infs.length),(1002,.tok 1 s.drv.length),(1003,.map FU (F0 0 s.infs)),(1004,.arr 1 (st.map Bp)),
   (1005,.cells [.ref 1000 0]),(1006,.cells [vs (Hy roots dec (m+1)).1]),(1007,.cells [.slice (.ver 1008 5 (m+1)) ((Hy roots dec (m+1)).2.map BJ)]),(1008,.var 5 (m+1) ((Hy roots dec (m+1)).2.map BJ).length),(1009,.cells [.ref 1000 0])]from rfl,e]
theorem om{a:ByteArray×List Nd}(h:Dt dec n.rq.path=true):EG dec a n=(a.1,a.2):=by unfold EG;rw[Ap (.inl h)]
theorem nT{o:List Nd}(h:(0:Int)<((o.map BJ).length:Int)):o≠[]:=fun e=>by subst e;simp at h
theorem rH{o:List Nd}(h:¬(0:Int)<((o.map BJ).length:Int)):o=[]:=by
 cases o with
 |nil=>rfl
 |cons y l=>exact absurd B0 h
theorem rM{a:ByteArray×List Nd}(h:(0:Int)<((a.2.map BJ).length:Int))(hb:Ed a.1 n.rq.path=true):EG dec a n=(a.1,a.2):=by unfold EG;rw[Ap (.inr ⟨nT h,hb⟩)]
theorem oo{a:ByteArray×List Nd}(hd:Dt dec n.rq.path=false)(h:(0:Int)<((a.2.map BJ).length:Int))(hb:Ed a.1 n.rq.path=false)(hs:Ed n.rq.path a.1=true):EG dec a n=(n.rq.path,[n]):=by
 unfold EG;rw[Aj (by rw[hd,hb];simp),Ap ⟨nT h,hs⟩]
theorem oq{a:ByteArray×List Nd}(hd:Dt dec n.rq.path=false)(hb:Ed a.1 n.rq.path=false)(hs:Ed n.rq.path a.1=false):EG dec a n=(n.rq.path,a.2++[n]):=by
 unfold EG;rw[Aj (by rw[hd,hb];simp),Aj (by rw[hs];simp)]
theorem rO{a:ByteArray×List Nd}(hd:Dt dec n.rq.path=false)(h:¬(0:Int)<((a.2.map BJ).length:Int)):EG dec a n=(n.rq.path,a.2++[n]):=by
 have:=rH h
 unfold EG;rw[Aj (by rw[hd,this];simp),Aj (by rw[this];simp)]
theorem rN(a:ByteArray×List Nd)(n:Nd):(EG dec a n).2.length<=a.2.length+1:=by
 unfold EG;split
 .omega
 .split
  .simp
  .simp
theorem gW:∀(m:Nat),(Hy roots dec m).2.length<=m
 |0=>Am _
 |m+1=>by
  have ih:=gW m;cases h:(DR roots dec)[m]? with
  |none=>
   have e:Hy roots dec (m+1)=Hy roots dec m:=by unfold Hy;rw[Bh,h];simp
   rw[e];omega
  |some n=>rw[cc h];exact AK (rN _ _) (EQ ih)
theorem cR:∀{l l' : List (Nat×HO)},l.map Prod.fst=l'.map Prod.fst->(∀p∈l',p.2≠.free)->∀i,AR (As l Ag) i->AR (As l' Ag) i
 | [],[],_,_,_,h=>h
 |(a,o)::l,(a',o')::l',e,h,i,hu=>by
  rw[AJ,AJ]at e
  injection e with e1 e2
  have e1:a=a':=e1;subst e1;unfold AR at *
  by_cases q:i=a
  .subst q;simp only[As,Ds,La];exact h _ (Ab ..)
  .simp only[As,Dd q,Es]at hu⊢;exact cR e2 (fun p hp=>h p (Ah _ hp)) i hu
theorem ol:∀i,AR (As (oh roots C A s dec st 0) Ag) i->AR (As (oh roots C A s dec st m) Ag) i:=cR rfl (by
 repeat (first|exact Cn _|refine Bj.2 ⟨by simp,?_⟩))
theorem iv:∀{l:List Cd},(∀c∈l,c.rel.reqs.length<=1073741824)->((l.map fun c=>c.rel.reqs.length)).sum<=l.length*1073741824
 | [],_=>by simp
 |c::l,h=>by
  have h1:=h c (Ab ..);have h2:=iv fun c hc=>h c (Ah _ hc);rw[AJ,List.sum_cons,Al];omega
theorem j7(hr:roots.length<=1073741824)(hd:dec.length<=1000)(h:∀c∈dec,c.rel.reqs.length<=1073741824):(DR roots dec).length<=1074815565824:=by
 rw[<-ci];unfold Gi;rw[Ce]
 have:=iv h
 have:=Bf 1073741824 hd
 omega
end
theorem bN:l.map BJ++[BJ n]=(l++[n]).map BJ:=by rw[At];rfl
theorem QH:(l.map BJ).length+([BJ n]:List (List AV)).length=(l.map BJ++[BJ n]).length:=Ac.symm
attribute [local irreducible] RfV xO Hy DR EG
theorem s64(hr:roots.length<=1073741824)(hd:dec.length<=1000)(xD:∀c∈dec,c.rel.reqs.length<=1073741824) :
  A9 Tryz.prog 186 [.ref 1000 0] (As (Kh roots C A s dec st) Ag) fun r h'=>r=.tup [vs (Fb roots dec).1,sl BJ (Fb roots dec).2]/\h'=As (Kh roots C A s dec st) Ag:=by
 refine iO 5 0 9 5 (No Ej) (No Ej) db rfl C3 rfl C3 hm rfl rfl Tryz.func186 Wk rfl (Nz rfl) Wk rfl 3 (yN (Xi (.gen db 1) (Yi rfl (A9.imp (AeQ roots C A s dec st) ?_))));intro v1 g1 q1;have rZ:=q1.1;have r4:=q1.2;subst rZ;subst r4;refine wu [nzA] Wk Wk Wk [(1000,1000),(1001,1001),(1002,1002),(1003,1003),(1004,1004),(10800,1005),(4,1006),(5,1007),(9,1008),(1,1009)] da (oh roots C A s dec st 0) (oh roots C A s dec st (DR roots dec).length) 301 [.ref 1005 0] rfl Wk Wk Wk Wk Wk (fun l9 D9 f9 tm9 htm=>AeR l9 roots C A s dec st hr (AK hd Cl) xD fun m n hn=>lg (σ:=da) 1007 0 1008 (No ⟨[],[(43,5)],[],[],[],[],[],[],[],[(500005,60001007)],[5]⟩) rfl C3 hm rfl rfl rfl htm Wk Wk Wk (ol m) ?_) Wk ?_
 .have hml:m<(DR roots dec).length:=(Aw.1 hn).1;have hol:=gW (roots:=roots) (dec:=dec) m;have hnl:=j7 hr hd xD;have hF:=cc hn;refine yN (Yi ⟨rfl,rfl⟩ (cU [(1,.ref 1009 0),(4,.ref 1006 0),(5,.ref 1007 0),(6,.ref 6 0)] [(6,.cells (BJ n)),(60,.tok 5 ((Hy roots dec m).2.map BJ).length),(1000,.cells (srM roots C A s dec 1004 st.length)),(1001,.tok 6 s.infs.length),(1002,.tok 1 s.drv.length),(1003,.map FU (F0 0 s.infs)),(1004,.arr 1 (st.map Bp)),(1005,.cells [.ref 1000 0]),(1006,.cells [vs (Hy roots dec m).1]),(1007,.cells [.slice (.id 60 5) ((Hy roots dec m).2.map BJ)]),(1008,.vox m),(1009,.cells [.ref 1000 0])] Z4 Z12 (BX (Bt (Dt dec n.rq.path)) (fun h2=>?_) (fun h2=>?_))))
  .have hc3:=(Aaq roots C A s dec st n.rq.path (AK hd Cl));rw[show(Dt dec n.rq.path)=true from h2]at hc3;refine Xi (.gen db 0) (Yi rfl (A9.imp hc3 ?_));intro v4 g4 q4;have q4a:=q4.1;have q4b:=q4.2;subst q4a;subst q4b;refine Yi ⟨rfl,rfl⟩ ?_
   -- [('(Dt dec n.rq.path)=true',True)]
   exact⟨rfl,VE (hF.trans (om h2)) rfl rfl⟩
  have hc5:=(Aaq roots C A s dec st n.rq.path (AK hd Cl));rw[show(Dt dec n.rq.path)=false from h2]at hc5;refine Xi (.gen db 0) (Yi rfl (A9.imp hc5 ?_));intro v6 g6 q6;have q6a:=q6.1;have q6b:=q6.2;subst q6a;subst q6b;refine Yi (fun h7=>?_) (fun h7=>?_)
  .have n7:0<(Hy roots dec m).2.length:=by have q:=h7;rw[Lm]at q;omega
   refine Yi (fun h8=>?_) (fun h8=>?_)
   .have h8:Ed (Hy roots dec m).1 n.rq.path=true:=(Gs _ _).trans h8;refine Yi ⟨rfl,rfl⟩ ?_
    -- [('(Dt dec n.rq.path)=true',False),('(0:Int)<(((Hy roots dec m).2.map BJ).length:Int)',True),('Ed (Hy roots dec m).1 n.rq.path=true',True)]
    exact⟨rfl,VE (hF.trans (rM h7 h8)) rfl rfl⟩
   have h8:Ed (Hy roots dec m).1 n.rq.path=false:=(Gs _ _).trans (AM.2 h8);refine Yi (fun _=>?_) (fun hf=>absurd h7 hf);refine Yi (fun h9=>?_) (fun h9=>?_)
   .have h9:Ed n.rq.path (Hy roots dec m).1=true:=(Gs _ _).trans h9;refine yN (yN (yN ?_));have Xo:Cr 5 [(BJ n)]/\([(BJ n)]:List (List AV)).length*72<=140737488355328/\([(BJ n)]:List (List AV)).length<=9223372036854775807:=⟨⟨rfl,trivial⟩,(by simp only[Al,Au];omega),(by simp only[Al,Au];omega)⟩;refine Yi Xo (yN (Yi ⟨rfl,rfl⟩ ?_))
    -- [('(Dt dec n.rq.path)=true',False),('(0:Int)<(((Hy roots dec m).2.map BJ).length:Int)',True),('Ed (Hy roots dec m).1 n.rq.path=true',False),('Ed n.rq.path (Hy roots dec m).1=true',True)]
    exact⟨rfl,VE (hF.trans (oo h2 h7 h8 h9)) rfl rfl⟩
   have h9:Ed n.rq.path (Hy roots dec m).1=false:=(Gs _ _).trans (AM.2 h9);refine yN (yN ?_);have ut:Cr 5 [(BJ n)]/\((Hy roots dec m).2.map BJ).length=((Hy roots dec m).2.map BJ).length/\(((Hy roots dec m).2.map BJ).length+([(BJ n)]:List (List AV)).length)*72<=140737488355328/\((Hy roots dec m).2.map BJ).length+([(BJ n)]:List (List AV)).length<=9223372036854775807:=⟨⟨rfl,trivial⟩,rfl,(by simp only[Lm,Al,Au];omega),(by simp only[Lm,Al,Au];omega)⟩;refine Yi ut (yN (Yi ⟨(QH _ n).symm,rfl⟩ ?_))
   -- [('(Dt dec n.rq.path)=true',False),('(0:Int)<(((Hy roots dec m).2.map BJ).length:Int)',True),('Ed (Hy roots dec m).1 n.rq.path=true',False),('Ed n.rq.path (Hy roots dec m).1=true',False)]
   exact⟨rfl,VE (hF.trans (oq h2 h8 h9)) (bN _ n) (QH _ n)⟩
  have n7:¬0<(Hy roots dec m).2.length:=by have q:=h7;rw[Lm]at q;omega
  refine Yi (fun hf=>absurd hf h7) (fun _=>?_);refine yN (yN ?_);have xm:Cr 5 [(BJ n)]/\((Hy roots dec m).2.map BJ).length=((Hy roots dec m).2.map BJ).length/\(((Hy roots dec m).2.map BJ).length+([(BJ n)]:List (List AV)).length)*72<=140737488355328/\((Hy roots dec m).2.map BJ).length+([(BJ n)]:List (List AV)).length<=9223372036854775807:=⟨⟨rfl,trivial⟩,rfl,(by simp only[Lm,Al,Au];omega),(by simp only[Lm,Al,Au];omega)⟩;refine Yi xm (yN (Yi ⟨(QH _ n).symm,rfl⟩ ?_))
  -- [('(Dt dec n.rq.path)=true',False),('(0:Int)<(((Hy roots dec m).2.map BJ).length:Int)',False)]
  exact⟨rfl,VE (hF.trans (rO h2 h7)) (bN _ n) (QH _ n)⟩
 refine Yi Wk ?_;exact Xi _ (Yi (.refl _) ⟨show AV.tup [vs (Hy roots dec (DR roots dec).length).1,sl BJ (Hy roots dec (DR roots dec).length).2]=_ by rw[rL (Am _)],rfl⟩)
end Go.Eng
namespace Go.Eng
open Go.Proofs
theorem XM{α:Type}(pr:α->Bool)(l:List α):(∃(k:Nat) (n:α),FS pr l 0=(k:Nat)/\l[k]?=some n/\l.find? pr=some n)\/(FS pr l 0=-1/\l.find? pr=none):=by
 have key:∀(l:List α) (b:Nat),(∃(k:Nat) (n:α),FS pr l (b:Nat)=((b+k:Nat):Int)/\l[k]?=some n/\l.find? pr=some n)\/(FS pr l (b:Nat)=-1/\l.find? pr=none):=by
  intro l
  induction l with
  |nil=>intro b;exact .inr Zr
  |cons y l ih=>
   intro b;cases h:pr y with
   |true=>exact .inl ⟨0,y,by unfold FS;rw[Ap h];rfl,rfl,by rw[Fj,h]⟩
   |false=>
    have e:FS pr (y::l) (b:Nat)=FS pr l ((b+1:Nat):Int):=by
     conv=>lhs;unfold FS
     rw[Aj (by rw[h];decide)];rw[show((b+1:Nat):Int)=(b:Int)+1 by omega]
    have e2:(y::l).find? pr=l.find? pr:=by rw[Fj,h]
    rcases ih (b+1)with ⟨k,n,h1,h2,h3⟩|⟨h1,h2⟩
    .exact .inl ⟨k+1,n,by rw[e,h1];congr 1;omega,by simpa using h2,by rw[e2];exact h3⟩
    .exact .inr ⟨by rw[e];exact h1,by rw[e2];exact h2⟩
 have:=key l 0
 simpa using this
section
variable {rec:List Cd->SS->List (List Sk)->KW}{x:List Rl}{p:ByteArray}{N:List Nd}{n0:Nd}{dec:List Cd}{st:List (List Sk)}{cs:List Cd}{i:Nat}{S:SS}{rs:List Nat}{sk:List Sk}
theorem l8(h:¬i<cs.length):Eh rec x p N n0 dec st (cs.drop i) S rs sk=⟨(D7 x p n0 rs S).1,false,(D7 x p n0 rs S).2,dec,st⟩:=by
 rw[CA ch];rfl
theorem qE(h:i<cs.length)(hf:S.full=true):Eh rec x p N n0 dec st (cs.drop i) S rs sk=⟨0,false,S,dec,st⟩:=by
 rw[AI h,Gm,Ap hf]
theorem yq(h:i<cs.length)(hf:S.full=false){n:Nd}(hn:N.find? (fun n=>!has n.rq.set cs[i].place)=some n):Eh rec x p N n0 dec st (cs.drop i) S rs sk=Eh rec x p N n0 dec st (cs.drop (i+1)) (BS S n).2 (rs++[(BS S n).1]) sk:=by
 rw[AI h,Gm,Aj (by rw[hf];decide),hn]
theorem YN(h:i<cs.length)(hf:S.full=false)(hn:N.find? (fun n=>!has n.rq.set cs[i].place)=none){k:Nat}(he:Pb S.drv (AS (dec++[cs[i]]))=some k):Eh rec x p N n0 dec st (cs.drop i) S rs sk=Jq rec x p N n0 dec st cs[i] (cs.drop (i+1)) rs sk k S:=by
 rw[AI h,Gm,Aj (by rw[hf];decide),hn];dsimp only;rw[he]
theorem ay(h:i<cs.length)(hf:S.full=false)(hn:N.find? (fun n=>!has n.rq.set cs[i].place)=none)(he:Pb S.drv (AS (dec++[cs[i]]))=none){n:Nd}(hc:En dec cs[i]=some n) :
  Eh rec x p N n0 dec st (cs.drop i) S rs sk=Jq rec x p N n0 dec st cs[i] (cs.drop (i+1)) rs sk (BS S n).1 (BS S n).2:=by
 rw[AI h,Gm,Aj (by rw[hf];decide),hn];dsimp only;rw[he];dsimp only;rw[hc]
theorem YO(h:i<cs.length)(hf:S.full=false)(hn:N.find? (fun n=>!has n.rq.set cs[i].place)=none)(he:Pb S.drv (AS (dec++[cs[i]]))=none)(hc:En dec cs[i]=none){o:KW}(ho:o=rec (dec++[cs[i]]) S (st++[sk])) :
  Eh rec x p N n0 dec st (cs.drop i) S rs sk=if o.found=true then⟨0,true,o.ss,o.dec,o.stack⟩else if o.ss.full=true then⟨0,false,o.ss,dec,st⟩else Jq rec x p N n0 dec st cs[i] (cs.drop (i+1)) rs sk o.res o.ss:=by
 rw[ho,AI h,Gm,Aj (by rw[hf];decide),hn];dsimp only;rw[he];dsimp only;rw[hc]
theorem fQ{c:Cd}{l:List Cd}{k:Nat}(h:Ee (EC S k) p=false):Jq rec x p N n0 dec st c l rs sk k S=⟨k,false,S,dec,st⟩:=by unfold Jq;rw[Ap h]
theorem YA{c:Cd}{l:List Cd}{k:Nat}(h:Ee (EC S k) p=true):Jq rec x p N n0 dec st c l rs sk k S=Eh rec x p N n0 dec st l S (rs++[k]) (sk++[⟨p,c.place,(k:Nat)⟩]):=by unfold Jq;rw[Aj (by rw[h];decide)]
end
theorem aH{x:List Rl}{dec:List Cd}(h:EI x dec):dec.length<=x.length:=by
 have h1:=Jl (m:=x.map (·.path)) h.nodup fun p hp=>by
  obtain⟨c,hc,rfl⟩:=Ai.1 hp;exact Ai.2 ⟨c.rel,(h.cand c hc).1,rfl⟩
 rw[Lm,Lm]at h1;exact h1
theorem Xs(x:List Rl)(p:ByteArray):(B7 x p).length<=x.length:=by
 unfold B7;rw[Lm];exact Bx _ _
end Go.Eng
