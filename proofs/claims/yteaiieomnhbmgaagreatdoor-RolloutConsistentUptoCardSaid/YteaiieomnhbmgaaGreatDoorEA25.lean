/- Lemmas 25. -/
import Derived.Test.YteaiieomnhbmgaaGreatDoorEA24
set_option maxHeartbeats 4000000
namespace Go.Eng
open Go.Proofs
variable {k:Nat}{p:ByteArray}{Y:Gh->World->Prop}{j:Nat}{P:Program}{o sz:Nat}{i:Nf}(l:List Nd)(roots:List Rq)(C A:List (Value×AV))(s:SS)(dec:List Cd)(st:List (List Sk))(m:Nat)(n:Nd)
theorem PX{x:List Rl}{roots:List Rq}{l0:List Nf}:∀{l:List Nf} {d d' : List (List Tm)},(∀i∈l,i∈l0)->(∀t∈d,WG (Lk x roots l0) t)->Dv x roots l d=some d'->∀t∈d',WG (Lk x roots l0) t
 | [],d,d',_,hd,h=>by cases h;exact hd
 |i::l,d,d',hl,hd,h=>by
  unfold Dv at h;cases hi:Ei x roots d i with
  |none=>rw[hi]at h;cases h
  |some t=>
   rw[hi]at h;refine PX (fun j hj=>hl j (Ah _ hj)) (fun u hu=>?_) h;rcases AP.1 hu with hu | hu
   .exact hd u hu
   .rw[Aq.1 hu];exact jn (hl i (Ab ..)) hd hi
section
variable {x:List Rl}{roots:List Rq}{s:SS}
theorem FO.few(hx:A6 x=0)(hr:BK roots=0)(h:FO x roots s):∀t∈s.drv,tA t:=fun t ht=>
 (PX (l0:=s.infs) (fun _ h=>h) (fun _ h=>by cases h) h.der t ht).fewI (dQ hx hr h.len)
theorem IP{l:List Tm}(h:s.infs.Nodup):(Fc s i l).2.infs.Nodup:=by
 cases hk:MO i 0 s.infs with
 |some k=>rw[ZL hk];exact h
 |none=>
  by_cases hf:65536<=s.infs.length
  .rw[WN hk hf];exact h
  .rw[ZK hk hf];show(s.infs++[i]).Nodup;rw[FQ];refine⟨h,by simp,fun a ha b hb e=>?_⟩;rw[Aq.1 hb]at e;exact RN hk (e▸ha)
theorem L1.add(h:L1 x roots s){l:List Tm}(hi:Ei x roots s.drv i=some l):L1 x roots (Fc s i l).2/\(Fc s i l).1<(Fc s i l).2.drv.length/\s.drv.length<=(Fc s i l).2.drv.length:=
 ⟨⟨(Ly h.der hi).1,IP h.nodup⟩,(Ly h.der hi).2.1,(Lz s i l).len⟩
theorem L1.dl(h:L1 x roots s):s.infs.length<=65536/\s.drv.length=s.infs.length/\s.drv.length<=65536:=by
 have h1:=h.der.dlen;have h2:=h.der.len;exact⟨h2,h1,by omega⟩
theorem nu(hx:A6 x=0)(p:ByteArray):∀d,Ei x roots d ⟨2,p,0,0,0,0⟩=some (IM p (Cn x p)):=fun d=>by
 obtain⟨u,u0,u1,hu⟩:=gU hx p;have hV:GD []:=fun _ h=>by cases h
 have ou:ZG [] p (Lj [] p (Rb u)):=.ver hV (Fs ⟨u0,u1⟩);have h1:Bo [(⟨p,false,EZ (Cn x p)⟩:Tm)] (Lj [] p (Rb u))=true:=by
  rw[BL];intro t ht;rw[Aq.1 ht];show DA _ (B2 (Lj [] p (Rb u)) p)=true;rw[I0 rfl];show(Cz (Rb u)&&has (EZ (Cn x p)) (place (Rb u)))=true;rw[Fs ⟨u0,u1⟩,HU,F5,hu];unfold MN;simp[u0,u1]
 have h2:Bo [(⟨p,false,EZ (Cn x p)⟩:Tm)] []=false:=rfl;have DD:IM p (Cn x p)≠[]:=by
  have c1:=Ds (l:=[(⟨p,false,EZ (Cn x p)⟩:Tm)]) ou.val;have c2:=Ds (l:=[(⟨p,false,EZ (Cn x p)⟩:Tm)]) hV;rw[h1]at c1;rw[h2]at c2;unfold IM RK;cases hc:Df [(⟨p,false,EZ (Cn x p)⟩:Tm)]with
  |none=>rw[hc]at c1;cases c1
  |some c=>
   rw[hc]at c2;intro e;have e:c=[]:=e;rw[e]at c2;cases c2
 unfold Ei;rw[Aj (show ¬((2:Int)=0) by decide),Aj (show ¬((2:Int)=1) by decide),Ao rfl,Ao ⟨rfl,rfl,rfl,rfl⟩];unfold jx;rw[Aj (by rw[Ht];exact DD)]
theorem Ft(h:k<s.drv.length):s.drv[k]?=some (EP s k):=by
 unfold EP;rw[Ca,Ge h];rfl
theorem Vf{L:List Nat}(hj:j<L.length)(h:s.full=true\/Eb (EP s k) p=false):CF p (L.drop j) k s=(k,s):=by
 rw[AI hj];unfold CF;rw[Ao h]
theorem dB{L:List Nat}(hj:j<L.length)(h1:¬(s.full=true\/Eb (EP s k) p=false))(h:L[j]=k):CF p (L.drop j) k s=CF p (L.drop (j+1)) k s:=by
 rw[AI hj]
 conv=>lhs;unfold CF
 rw[Aj h1,Ao h]
theorem js{L:List Nat}(hj:j<L.length)(h1:¬(s.full=true\/Eb (EP s k) p=false))(h2:¬L[j]=k)(h:(B1 (EP s k) (EP s L[j]) p).2≠0):CF p (L.drop j) k s=CF p (L.drop (j+1)) k s:=by
 rw[AI hj]
 conv=>lhs;unfold CF
 rw[Aj h1,Aj h2,Ao h]
theorem jr{L:List Nat}(hj:j<L.length)(h1:¬(s.full=true\/Eb (EP s k) p=false))(h2:¬L[j]=k)(h:(B1 (EP s k) (EP s L[j]) p).2=0) :
  CF p (L.drop j) k s=CF p (L.drop (j+1)) (Fc s ⟨3,p,0,0,(k:Nat),(L[j]:Nat)⟩ (B1 (EP s k) (EP s L[j]) p).1).1 (Fc s ⟨3,p,0,0,(k:Nat),(L[j]:Nat)⟩ (B1 (EP s k) (EP s L[j]) p).1).2:=by
 rw[AI hj]
 conv=>lhs;unfold CF
 rw[Aj h1,Aj h2,Aj (fun h3=>h3 h)]
end
theorem Fy{t:List Tm}(h:tA t):B8 t:=by have:=h.1;unfold B8;omega
theorem s91(x:List Rl)(roots:List Rq)(C A:List (Value×AV))(s:SS)(dec:List Cd)(st:List (List Sk))(p:ByteArray)(n:Nd)(rs:List Nat)(V:AV)(hx:A6 x=0)(hr:BK roots=0)(hs:L1 x roots s)(uJ:∀d,Ei x roots d (U8 n)=some (JU n))(w6:∀r∈rs,r<s.drv.length)(hrl:rs.length<=1073741823)(hnq:B8 n.rq.set)(hnp:Ba (n.place+1))
  (xZ:∀a,(Value.string p,a)∈A->a=V) (x7:(∀a,(Value.string p,a)∉A)->V=nzA) (x8:∀h,PC 261 [vs p,str h V] (sl AO (IM p (Cn x p)))):Bc Tryz.prog 194 [.ref 1000 0,vs p,.agg (BG n),sl Da rs] (Ap (JW roots C A s dec st) Af) fun r h'=>tw roots C A dec st (Eo x p n rs s) r h':=by
 have hw:=hs.dl;obtain⟨uT,yx,Wq⟩:=hs.add (uJ s.drv)
 change L1 x roots (BW s n).2 at uT
 change (BW s n).1<(BW s n).2.drv.length at yx
 change s.drv.length<=(BW s n).2.drv.length at Wq
 have LZ:=uT.dl;obtain⟨uU,IT,my⟩:=uT.add (nu hx p (BW s n).2.drv)
 change L1 x roots (EV x p (BW s n).2).2 at uU
 change (EV x p (BW s n).2).1<(EV x p (BW s n).2).2.drv.length at IT
 change (BW s n).2.drv.length<=(EV x p (BW s n).2).2.drv.length at my
 obtain⟨L,hL⟩:∃L,L=(EV x p (BW s n).2).1::rs:=⟨_,rfl⟩;have hLr:∀r∈L,r<(EV x p (BW s n).2).2.drv.length:=fun r qz=>by
  rw[hL]at qz;rcases AC.1 qz with rfl | h
  .exact IT
  .have:=w6 r h;omega
 have hLl:L.length=rs.length+1:=by rw[hL];rfl
 have yx:(BW s n).1<(EV x p (BW s n).2).2.drv.length:=by omega
 refine Cu (M2 (pC [6] [3,7,8,10])) [(1000,1000),(1001,1001),(1002,1002),(1003,1003),(1004,1004)] rfl CW hm rfl Tryz.func194 Wk rfl (Nz rfl) Wk rfl (yN (Xi (.gen cr 0) (Yi rfl (Bc.imp (s88 roots C A s dec st n hw.1 hw.2.1 hs.nodup hnq hnp) ?_))));intro v1 g1 q1;have rt:=q1.1;have ru:=q1.2;subst rt;subst ru;refine Qo V nzA xZ x7 (fun h=>h) (Xi .pure (Xi _ (Yi (x8 _) (Xi (.gen cr 0) (Yi rfl (Bc.imp (rA roots C A (BW s n).2 dec st ⟨2,p,0,0,0,0⟩ (IM p (Cn x p)) LZ.1 LZ.2.1 uT.nodup) ?_))))));intro v2 g2 q2;have q2a:=q2.1;have q2b:=q2.2;subst q2a;subst q2b;refine cU [(0,.ref 1000 0),(1,vs p),(3,sl Da rs),(9,vi (((BW s n).1:Nat):Int)),(10,vi (((EV x p (BW s n).2).1:Nat):Int))] [(1000,.cells [sl A8 roots,.cmap Cr C,.cmap Cr A,.slice (.id 1001 6) ((EV x p (BW s n).2).2.infs.map Dw),.slice (.id 1002 1) ((EV x p (BW s n).2).2.drv.map Dn),.mref 1003,vb (EV x p (BW s n).2).2.full,sl AX dec,sl Ae (AU dec),.msl 1004 st.length]),(1001,.tok 6 (EV x p (BW s n).2).2.infs.length),(1002,.tok 1 (EV x p (BW s n).2).2.drv.length),(1003,.map FS (FY 0 (EV x p (BW s n).2).2.infs)),(1004,.arr 1 (st.map Bq))] Z5 Z5 ?_
 have b3:Cf 1 (rs.map Da)/\([[vi (((EV x p (BW s n).2).1:Nat):Int)]]:List (List AV)).length=1/\(([[vi (((EV x p (BW s n).2).1:Nat):Int)]]:List (List AV)).length+(rs.map Da).length)*8<=140737488355328/\([[vi (((EV x p (BW s n).2).1:Nat):Int)]]:List (List AV)).length+(rs.map Da).length<=9223372036854775807:=⟨(DK (enc:=Da) (n:=1) (fun _=>rfl) rs),(by first | (simp;done) | (rw[Lm];assumption)),(by simp only[Lm,Am,Au];omega),(by simp only[Lm,Am,Au];omega)⟩
 refine Yi b3 (Xi {q:Nat×Nat×SS // q.1<=L.length/\CF p (L.drop q.1) q.2.1 q.2.2=CF p L (BW s n).1 (EV x p (BW s n).2).2/\L1 x roots q.2.2/\q.2.1<q.2.2.drv.length/\∀r∈L,r<q.2.2.drv.length} (Xi (fun q=>⟨[(0,.ref 1000 0),(1,vs p),(9,vi q.1.2.1),(33,.slice (.id 31 1) (L.map Da)),(34,vi (L.map Da).length),(35,vi q.1.1)],[(31,.tok 1 (L.map Da).length),(1000,.cells (srM roots C A q.1.2.2 dec 1004 st.length)),(1001,.tok 6 q.1.2.2.infs.length),(1002,.tok 1 q.1.2.2.drv.length),(1003,.map FS (FY 0 q.1.2.2.infs)),(1004,.arr 1 (st.map Bq))],Af⟩) (Xi (fun q=>L.length-q.1.1) (Yi (Xi ⟨(0,(BW s n).1,(EV x p (BW s n).2).2),AA _,by rw[List.drop_zero],uU,yx,hLr⟩ ?_) ?_))))
 .exact⟨⟨Zr,Zr,Zr,⟨(show AV.slice (.id 31 1) ([[vi (((EV x p (BW s n).2).1:Nat):Int)]]++rs.map Da)=.slice (.id 31 1) (L.map Da) by rw[hL];rfl),rfl⟩,⟨(show vi (([[vi (((EV x p (BW s n).2).1:Nat):Int)]]++rs.map Da:List (List AV)).length:Int)=vi ((L.map Da).length:Int) by rw[hL];rfl),rfl⟩,Zr,Tv⟩,⟨⟨(show HO.tok 1 (([[vi (((EV x p (BW s n).2).1:Nat):Int)]]:List (List AV)).length+(rs.map Da).length)=.tok 1 (L.map Da).length by rw[hL];simp[Nat.add_comm]),rfl⟩,Zr,Zr,Zr,Zr,Zr,Tv⟩,Fh,BP Wk⟩
 intro⟨⟨j,k,S⟩,j1,j2,j3,j4,j5⟩;have hw3:=j3.dl;have hfw:=j3.der.few hx hr;have gk:S.drv[k]?=some (EP S k):=Ft j4;refine Yi (fun h4=>?_) (fun h4=>?_)
 .have h4:(j:Int)<((L.map Da).length:Int):=h4;have n4:=EE h4;refine Xi (Da L[j]) (Yi (IU n4) (Yi rfl (Yi (fun h5=>?_) (fun h5=>?_))))
  .refine cU [(9,vi k)] [(1000,.cells (srM roots C A S dec 1004 st.length)),(1001,.tok 6 S.infs.length),(1002,.tok 1 S.drv.length),(1003,.map FS (FY 0 S.infs)),(1004,.arr 1 (st.map Bq))] Z1 Z5 ?_
   have eR:CF p L (BW s n).1 (EV x p (BW s n).2).2=(k,S):=by rw[<-j2];exact Vf n4 (.inl h5)
   have eL:Eo x p n rs s=(k,S):=by unfold Eo;rw[<-hL];exact eR
   exact Xi _ (Yi (.refl _) (Yi (show vi (k:Int)=vi (((Eo x p n rs s).1:Nat):Int) by rw[eL]) (show Ap (JW roots C A S dec st) Af=Ap (JW roots C A (Eo x p n rs s).2 dec st) Af by rw[eL])))
  refine Xi (Dn (EP S k)) (Yi (Yi (Nn k) (Ed gk)) (Yi rfl (BN (Bt (Eb (EP S k) p)) (fun h7=>?_) (fun h7=>?_))))
  .refine Xi .pure (Xi _ (Yi (cb h7 (pB (EP S k) p (Fy (hfw _ (Az (Ft j4)))))) (cU [(0,.ref 1000 0),(1,vs p),(9,vi k),(12,vi (L[j]:Nat)),(33,.slice (.id 31 1) (L.map Da)),(34,vi (L.map Da).length),(35,vi j)] [(31,.tok 1 (L.map Da).length),(1000,.cells (srM roots C A S dec 1004 st.length)),(1001,.tok 6 S.infs.length),(1002,.tok 1 S.drv.length),(1003,.map FS (FY 0 S.infs)),(1004,.arr 1 (st.map Bq))] Z7 Z6 (Yi (fun h8=>?_) (fun h8=>?_)))))
   .refine Yi (Ii j ch) (Xi ⟨(j+1,k,S),FR n4,by rw[<-(dB (s:=S) (p:=p) (L:=L) (j:=j) (k:=k) n4 (by rw[h5,h7];simp) (by have q:=h8;omega))];exact j2,j3,j4,j5⟩ ?_);exact⟨Dl L.length j ch,Z6,Z6,Fh,BP Wk⟩
   refine Xi (Dn (EP S k)) (Yi (Yi (Nn k) (Ed gk)) (Yi rfl (Xi (Dn (EP S L[j])) (Yi (Yi (show(0:Int)<=(L[j]:Nat) by omega) (Ed (Ft (j5 _ (Al n4))))) (Yi rfl ?_)))));have fk:=hfw _ (Az (Ft j4));have fr:=hfw _ (Az (Ft (j5 _ (Al n4))));refine Xi _ (Yi (AbE (EP S k) (EP S L[j]) p fk.1 fr.1 fk.2 fr.2) (Yi Wk (cU [(0,.ref 1000 0),(1,vs p),(9,vi k),(12,vi (L[j]:Nat)),(13,sl AO (B1 (EP S k) (EP S L[j]) p).1),(14,vi (B1 (EP S k) (EP S L[j]) p).2),(33,.slice (.id 31 1) (L.map Da)),(34,vi (L.map Da).length),(35,vi j)] [(31,.tok 1 (L.map Da).length),(1000,.cells (srM roots C A S dec 1004 st.length)),(1001,.tok 6 S.infs.length),(1002,.tok 1 S.drv.length),(1003,.map FS (FY 0 S.infs)),(1004,.arr 1 (st.map Bq))] Z9 Z6 (Yi (fun NR=>?_) (fun NR=>?_)))))
   .refine Yi (Ii j ch) (Xi ⟨(j+1,k,S),FR n4,by rw[<-(js (s:=S) (p:=p) (L:=L) (j:=j) (k:=k) n4 (by rw[h5,h7];simp) (by have q:=h8;omega) NR)];exact j2,j3,j4,j5⟩ ?_);exact⟨Dl L.length j ch,Z6,Z6,Fh,BP Wk⟩
   have NR:((B1 (EP S k) (EP S L[j]) p).2:Int)=(0:Int):=AJ NR;refine Xi (.gen cr 0) (Yi rfl (Bc.imp (rA roots C A S dec st ⟨3,p,0,0,(k:Nat),(L[j]:Nat)⟩ (B1 (EP S k) (EP S L[j]) p).1 hw3.1 hw3.2.1 j3.nodup) ?_));intro v12 g12 rr;have vE:=rr.1;have vF:=rr.2;subst vE;subst vF;refine Yi (Ii j ch) ?_;obtain⟨a1,a2,a3⟩:=j3.add (Xu (x:=x) (roots:=roots) (p:=p) j4 (j5 _ (Al n4)) NR);refine Xi ⟨(j+1,(Fc S ⟨3,p,0,0,(k:Nat),(L[j]:Nat)⟩ (B1 (EP S k) (EP S L[j]) p).1).1,(Fc S ⟨3,p,0,0,(k:Nat),(L[j]:Nat)⟩ (B1 (EP S k) (EP S L[j]) p).1).2),FR n4,by rw[<-(jr (s:=S) (p:=p) (L:=L) (j:=j) (k:=k) n4 (by rw[h5,h7];simp) (by have q:=h8;omega) NR)];exact j2,a1,a2,fun r hr=>BA (j5 r hr) a3⟩ ?_;exact⟨Dl L.length j ch,Z6,Z6,Fh,BP Wk⟩
  refine Xi .pure (Xi _ (Yi (cb h7 (pB (EP S k) p (Fy (hfw _ (Az (Ft j4)))))) (cU [(9,vi k)] [(1000,.cells (srM roots C A S dec 1004 st.length)),(1001,.tok 6 S.infs.length),(1002,.tok 1 S.drv.length),(1003,.map FS (FY 0 S.infs)),(1004,.arr 1 (st.map Bq))] Z1 Z5 ?_)))
  have eR:CF p L (BW s n).1 (EV x p (BW s n).2).2=(k,S):=by rw[<-j2];exact Vf n4 (.inr h7)
  have eL:Eo x p n rs s=(k,S):=by unfold Eo;rw[<-hL];exact eR
  exact Xi _ (Yi (.refl _) (Yi (show vi (k:Int)=vi (((Eo x p n rs s).1:Nat):Int) by rw[eL]) (show Ap (JW roots C A S dec st) Af=Ap (JW roots C A (Eo x p n rs s).2 dec st) Af by rw[eL])))
 have n4:=Dd h4;have hj:¬j<L.length:=by have q:=h4;rw[Lm]at q;omega
 have eR:CF p L (BW s n).1 (EV x p (BW s n).2).2=(k,S):=by rw[<-j2,Cv ch];rfl
 have eL:Eo x p n rs s=(k,S):=by unfold Eo;rw[<-hL];exact eR
 exact Xi _ (Yi (.refl _) (Yi (show vi (k:Int)=vi (((Eo x p n rs s).1:Nat):Int) by rw[eL]) (show Ap (JW roots C A S dec st) Af=Ap (JW roots C A (Eo x p n rs s).2 dec st) Af by rw[eL])))
abbrev ct:JN:=[(1000,1000),(1001,1001),(1002,1002),(1003,1003),(500,1004)]
abbrev srE:List (Nat×HO):=
 [(1000,.cells (srM roots C A s dec 2000 st.length)),(1001,.tok 6 s.infs.length),(1002,.tok 1 s.drv.length),(1003,.map FS (FY 0 s.infs)),(1004,.dead),(2000,.arr 1 (st.map Bq))]
abbrev cu(o:K7)(r:AV)(h' : Nat->HO):Prop:=r=.tup [vi (o.res:Nat),vb o.found]/\h'=Ap (srE roots C A o.ss o.dec o.stack) Af
def H64:Prop:=∀(s:SS) (dec:List Cd) (st:List (List Sk)),dec.length<=1000->(∀c∈dec,c.rel.reqs.length<=1073741824) ->
 Bc Tryz.prog 186 [.ref 1000 0] (Ap (JW roots C A s dec st) Af) fun r h'=>r=.tup [vs (Hg roots dec).1,sl BG (Hg roots dec).2]/\h'=Ap (JW roots C A s dec st) Af
theorem OH{roots:List Rq}{C A:List (Value×AV)}{o:K7}{b:Bool}{s:SS}{dec:List Cd}{st:List (List Sk)}(e:o=⟨k,b,s,dec,st⟩) :
  AV.tup [vi (k:Nat),vb b]=.tup [vi (o.res:Nat),vb o.found]/\Ap (srE roots C A s dec st) Af=Ap (srE roots C A o.ss o.dec o.stack) Af:=by rw[e];exact Zr
abbrev cq:JN:=[(1000,1000),(1001,1001),(1002,1002),(1003,1003),(1004,1004),(1005,1005),(1006,1006),(1007,1007),(1008,1008),(1009,1009)]
def Ho:ByteArray×List Nd:=((DN roots dec).take m).foldl (EF dec) (mt,[])
theorem bz{roots:List Rq}{dec:List Cd}{m:Nat}{n:Nd}(h:(DN roots dec)[m]?=some n):Ho roots dec (m+1)=EF dec (Ho roots dec m) n:=by
 unfold Ho;rw[Bj,h,Et];rfl
theorem q9{roots:List Rq}{dec:List Cd}{m:Nat}(h:(DN roots dec).length<=m):Ho roots dec m=Hg roots dec:=by
 unfold Ho Hg;rw[At h]
def Gb(j:Nat):Nat:=roots.length+((dec.take j).map fun c=>c.rel.reqs.length).sum
theorem VE(c:Cd):(RQ c).length=c.rel.reqs.length:=LN _ _ _
theorem jJ:Gb roots dec 0=roots.length:=by unfold Gb;simp
theorem jI{roots:List Rq}{dec:List Cd}(h:j<dec.length):Gb roots dec (j+1)=Gb roots dec j+dec[j].rel.reqs.length:=by
 unfold Gb;rw[BY h,As,List.sum_append];simp[Nat.add_assoc]
theorem bC:Gb roots dec dec.length=(DN roots dec).length:=by
 unfold Gb DN bR;rw[B9,Ac,LN,List.length_flatten,Br]
 congr 2
 exact Bi fun c _=>(VE c).symm
theorem jz{roots:List Rq}{dec:List Cd}{i:Nat}(h:i<roots.length):(DN roots dec)[i]?=some ⟨roots[i],mt,0,(i:Nat)⟩:=by
 unfold DN bR;rw[A0 (by rw[LN];exact h),QF,Ge h,Ih,Bf]
theorem ay{α:Type}:∀{l:List (List α)} {j k:Nat} (hj:j<l.length),k<l[j].length->l.flatten[((l.take j).map List.length).sum+k]?=l[j][k]?
 |y::l,0,k,_,hk=>by
  rw[BC,PB,E7,List.sum_nil,Bf,A0 (show k<y.length from hk)];rfl
 |y::l,j+1,k,hj,hk=>by
  rw[BC,JM,AL,List.sum_cons,A1 ch]
  have:=ay (l:=l) (j:=j) (k:=k) (by simpa using hj) hk
  rw[show y.length+((l.take j).map List.length).sum+k-y.length=((l.take j).map List.length).sum+k by omega,this]
  rfl
theorem nk{roots:List Rq}{dec:List Cd}(hj:j<dec.length)(hk:k<dec[j].rel.reqs.length):(DN roots dec)[Gb roots dec j+k]?=some ⟨dec[j].rel.reqs[k],dec[j].rel.path,dec[j].place,(k:Nat)⟩:=by
 unfold DN bR Gb;rw[A1 (by rw[LN];omega),LN];have h:=ay (l:=dec.map RQ) (j:=j) (k:=k) (by simpa using hj) (by rw[T8,VE];exact hk);rw[<-Tg,Br,show(List.length ∘ RQ)=fun c=>c.rel.reqs.length from funext VE]at h;rw[show roots.length+((dec.take j).map fun c=>c.rel.reqs.length).sum+k-roots.length=((dec.take j).map fun c=>c.rel.reqs.length).sum+k by omega,h,T8];unfold RQ;rw[QF,Ge hk,Ih,Bf]
abbrev nB:List (Nat×HO):=
  [(1000,.cells (srC roots C A s dec st.length)),(1001,.tok 6 s.infs.length),(1002,.tok 1 s.drv.length),(1003,.map FS (FY 0 s.infs)),(1004,.arr 1 (st.map Bq)),
   (1005,.cells [.ref 1000 0]),(1006,.cells [vs (Ho roots dec m).1]),(1007,.cells [.slice (.ver 1008 5 m) ((Ho roots dec m).2.map BG)]),(1008,.var 5 m ((Ho roots dec m).2.map BG).length),(1009,.cells [.ref 1000 0])]
noncomputable abbrev cxn(pl:Th)(l:Nat)(Y:Gh->World->Prop):Cx:=⟨Tryz.prog,rN,pl,true,0,fun l' σ' g w=>l'=l->σ'=cq->Y g w⟩
theorem JC.pre{Y':Gh->World->Prop}{l:Nat}{args:List AV}{h0:Nat->HO}{Q:AV->(Nat->HO)->Prop}(h:JC P Y l args h0 Q)(hp:∀g w,Y' g w->Y g w):JC P Y' l args h0 Q:=
 fun g w vals q1 q2 q3 q4=>h g w vals q1 q2 q3 (hp g w q4)
theorem Aek:Bc Tryz.prog 253 [.ref 1000 0] (Ap (JW roots C A s dec st) Af) fun r h'=>r=.clo 301 [.ref 2000 0]/\h'=Ap (JW roots C A s dec st++[(2000,.cells [.ref 1000 0])]) Af:=by
 refine Cu (M2 Ej) [(1000,1000),(1001,1001),(1002,1002),(1003,1003),(1004,1004),(1,2000)] rfl CW hm rfl Tryz.func253 Wk rfl (Nz rfl) Wk rfl ?_;exact Xi _ (Yi (.refl _) Zr)
theorem Aem(l:Nat)(roots:List Rq)(C A:List (Value×AV))(s:SS)(dec:List Cd)(st:List (List Sk))(hr:roots.length<=1073741824)(hd:dec.length<=1073741824)(wU:∀c∈dec,c.rel.reqs.length<=1073741824)(hy:∀m n,(DN roots dec)[m]?=some n->JC Tryz.prog Y l [.agg (BG n)] (Ap (nB roots C A s dec st m) Af) fun r h'=>r=vb true/\h'=Ap (nB roots C A s dec st (m+1)) Af) :
  ZE Tryz.prog Y cq 301 [.v (.func (.yield l) #[] #[]),.ref 1005 0] (Ap (nB roots C A s dec st 0) Af) fun _ h'=>h'=Ap (nB roots C A s dec st (DN roots dec).length) Af:=by
 refine mN (l:=l) (cxn Ej l Y) cq rfl CW hm rfl Tryz.func301 Wk rfl (Nz rfl) Wk rfl rfl (Xi {i:Nat // i<=roots.length} (Xi (fun q=>⟨[(0,.v (.func (.yield l) #[] #[])),(1,.ref 1005 0),(12,sl A8 roots),(13,vi (roots.map A8).length),(14,vi q.1)],[(1000,.cells (srM roots C A s dec 1004 st.length)),(1001,.tok 6 s.infs.length),(1002,.tok 1 s.drv.length),(1003,.map FS (FY 0 s.infs)),(1004,.arr 1 (st.map Bq)),(1005,.cells [.ref 1000 0]),(1006,.cells [vs (Ho roots dec q.1).1]),(1007,.cells [.slice (.ver 1008 5 q.1) ((Ho roots dec q.1).2.map BG)]),(1008,.var 5 q.1 ((Ho roots dec q.1).2.map BG).length),(1009,.cells [.ref 1000 0])],Af⟩) (Xi (fun q=>roots.length-q.1) (Yi (Xi ⟨0,AA _⟩ ?_) ?_))))
 .exact⟨Z5,Z10,Fh,BP Wk⟩
 intro⟨i,i1⟩;refine Yi (fun h1=>?_) (fun h1=>?_)
 .have h1:(i:Int)<((roots.map A8).length:Int):=h1;have n1:=EE h1;refine Xi (A8 roots[i]) (Yi (IU n1) (Yi rfl (yN (yN (yN (Xi (.gen cq 0) (Yi rfl (JC.imp (JC.pre (hy i ⟨roots[i],mt,0,(i:Nat)⟩ (jz n1)) (fun g w q=>q rfl rfl)) ?_))))))));intro v2 g2 q2;have q2a:=q2.1;have q2b:=q2.2;subst q2a;subst q2b;refine Yi (Ii i ch) (Xi ⟨i+1,by omega⟩ ?_);exact⟨Dl roots.length i ch,Z5,Z10,Fh,BP Wk⟩
 have h1:¬((i:Int)<((roots.map A8).length:Int)):=h1;have n1:=Dd h1;have hE:i=Gb roots dec 0:=by rw[jJ];omega
 refine Xi {j:Nat // j<=dec.length} (Xi (fun q=>⟨[(0,.v (.func (.yield l) #[] #[])),(29,sl AX dec),(30,vi (dec.map AX).length),(31,vi q.1)],[(1000,.cells (srM roots C A s dec 1004 st.length)),(1001,.tok 6 s.infs.length),(1002,.tok 1 s.drv.length),(1003,.map FS (FY 0 s.infs)),(1004,.arr 1 (st.map Bq)),(1005,.cells [.ref 1000 0]),(1006,.cells [vs (Ho roots dec (Gb roots dec q.1)).1]),(1007,.cells [.slice (.ver 1008 5 (Gb roots dec q.1)) ((Ho roots dec (Gb roots dec q.1)).2.map BG)]),(1008,.var 5 (Gb roots dec q.1) ((Ho roots dec (Gb roots dec q.1)).2.map BG).length),(1009,.cells [.ref 1000 0])],Af⟩) (Xi (fun q=>dec.length-q.1) (Yi (Xi ⟨0,AA _⟩ ?_) ?_)))
 .exact⟨Z4,⟨Zr,Zr,Zr,Zr,Zr,Zr,⟨(show .cells [vs (Ho roots dec i).1]=(.cells [vs (Ho roots dec (Gb roots dec 0)).1]:HO) by rw[hE]),rfl⟩,⟨(show .cells [.slice (.ver 1008 5 i) ((Ho roots dec i).2.map BG)]=(.cells [.slice (.ver 1008 5 (Gb roots dec 0)) ((Ho roots dec (Gb roots dec 0)).2.map BG)]:HO) by rw[hE]),rfl⟩,⟨(show .var 5 i ((Ho roots dec i).2.map BG).length=(.var 5 (Gb roots dec 0) ((Ho roots dec (Gb roots dec 0)).2.map BG).length:HO) by rw[hE]),rfl⟩,Zr,Tv⟩,Fh,BP Wk⟩
 intro⟨j,j1⟩;refine Yi (fun h4=>?_) (fun h4=>?_)
 .have h4:(j:Int)<((dec.map AX).length:Int):=h4;have n4:=EE h4;have hdj:=wU dec[j] (Al n4);refine Xi (AX dec[j]) (Yi (IU n4) (Yi rfl (yN (yN (Xi {k:Nat // k<=dec[j].rel.reqs.length} (Xi (fun q=>⟨[(0,.v (.func (.yield l) #[] #[])),(6,.ref 6 0),(29,sl AX dec),(30,vi (dec.map AX).length),(31,vi j),(37,sl A8 dec[j].rel.reqs),(38,vi (dec[j].rel.reqs.map A8).length),(39,vi q.1)],[(6,.cells (AX dec[j])),(1000,.cells (srM roots C A s dec 1004 st.length)),(1001,.tok 6 s.infs.length),(1002,.tok 1 s.drv.length),(1003,.map FS (FY 0 s.infs)),(1004,.arr 1 (st.map Bq)),(1005,.cells [.ref 1000 0]),(1006,.cells [vs (Ho roots dec (Gb roots dec j+q.1)).1]),(1007,.cells [.slice (.ver 1008 5 (Gb roots dec j+q.1)) ((Ho roots dec (Gb roots dec j+q.1)).2.map BG)]),(1008,.var 5 (Gb roots dec j+q.1) ((Ho roots dec (Gb roots dec j+q.1)).2.map BG).length),(1009,.cells [.ref 1000 0])],Af⟩) (Xi (fun q=>dec[j].rel.reqs.length-q.1) (Yi (Xi ⟨0,AA _⟩ ?_) ?_))))))))
  .exact⟨Z8,Z11,Fh,BP Wk⟩
  intro⟨k,k1⟩;have k1:k<=dec[j].rel.reqs.length:=k1;refine Yi (fun h5=>?_) (fun h5=>?_)
  .have h5:(k:Int)<((dec[j].rel.reqs.map A8).length:Int):=h5;have n5:=EE h5;refine Xi (A8 dec[j].rel.reqs[k]) (Yi (IU n5) (Yi rfl (yN (yN (yN (Xi (.gen cq 0) (Yi rfl (JC.imp (JC.pre (hy (Gb roots dec j+k) ⟨dec[j].rel.reqs[k],dec[j].rel.path,dec[j].place,(k:Nat)⟩ (nk n4 n5)) (fun g w q=>q rfl rfl)) ?_))))))));intro v6 g6 q6;have q6a:=q6.1;have q6b:=q6.2;subst q6a;subst q6b;refine Yi (Ii k ch) (Xi ⟨k+1,by omega⟩ ?_);exact⟨by show dec[j].rel.reqs.length-(k+1)<dec[j].rel.reqs.length-k;omega,Z8,Z11,Fh,BP Wk⟩
  have h5:¬((k:Int)<((dec[j].rel.reqs.map A8).length:Int)):=h5;have n5:=Dd h5;refine Yi (Ii j ch) ?_;have hE:Gb roots dec j+k=Gb roots dec (j+1):=by rw[jI n4];omega
  refine Xi ⟨j+1,by omega⟩ ?_;exact⟨Dl dec.length j ch,Z4,⟨Zr,Zr,Zr,Zr,Zr,Zr,⟨(show .cells [vs (Ho roots dec (Gb roots dec j+k)).1]=(.cells [vs (Ho roots dec (Gb roots dec (j+1))).1]:HO) by rw[hE]),rfl⟩,⟨(show .cells [.slice (.ver 1008 5 (Gb roots dec j+k)) ((Ho roots dec (Gb roots dec j+k)).2.map BG)]=(.cells [.slice (.ver 1008 5 (Gb roots dec (j+1))) ((Ho roots dec (Gb roots dec (j+1))).2.map BG)]:HO) by rw[hE]),rfl⟩,⟨(show .var 5 (Gb roots dec j+k) ((Ho roots dec (Gb roots dec j+k)).2.map BG).length=(.var 5 (Gb roots dec (j+1)) ((Ho roots dec (Gb roots dec (j+1))).2.map BG).length:HO) by rw[hE]),rfl⟩,Zr,Tv⟩,Fh,BP Wk⟩
 have h4:¬((j:Int)<((dec.map AX).length:Int)):=h4;have n4:=Dd h4;exact Aa (fun m=>Ap (nB roots C A s dec st m) Af) (show Gb roots dec j=(DN roots dec).length by rw[<-bC];congr 1;omega)
theorem vr{h:Nat->HO}{r:Nat}{cs:List AV}{K:(Nat->HO)->Prop}(c1:h o=.cells cs)(c2:JV cs k=nzA)(c3:h r=.free)(hk:K (A2 (A2 h r (.var sz 0 0)) o (.cells (E1 cs k (.slice (.ver r sz 0) []))))):xa h o k r sz K:=by
 unfold xa;rw[c1];show match JV cs k with
  |.v (.slice none 0 0)=>match h r with
   |.free=>K (A2 (A2 h r (.var sz 0 0)) o (.cells (E1 cs k (.slice (.ver r sz 0) []))))
   |_=>False
  |_=>False
 rw[c2,c3];exact hk
theorem vJ{r0:Nat}{iM:Cx}{N:Nat}{fn:Func}{σ:JN}{Q:AV->(Nat->HO)->Prop}{b rest:Code}{st:St}(cs:List AV)(c1:st.h o=.cells cs)(c2:JV cs k=nzA)(c3:st.h r0=.free)(σF σr:JN)(H0 Hn:List (Nat×HO))(gf:Nat)(caps:List AV){sy s:Nat}{ps:Array Tmp}{He body:Code}(hb:b=.block sy (.rangeFunc (.tmp s) ps He body))(k1:(EJ σF&&DY (A2 (A2 st.h r0 (.var sz 0 0)) o (.cells (E1 cs k (.slice (.ver r0 sz 0) [])))) 0 0&&DF σF 0 0)=true)(k2:FZ σF (A2 (A2 st.h r0 (.var sz 0 0)) o (.cells (E1 cs k (.slice (.ver r0 sz 0) []))))=Ap H0 Af)(k3:(Hl σr&&Jg σr H0)=true)(k4:Jg σr Hn=true)(k5:ren (CH σF) (A2 (A2 st.h r0 (.var sz 0 0)) o (.cells (E1 cs k (.slice (.ver r0 sz 0) [])))) (st.t s)=.clo gf caps)(k6:∀(l D:Nat) (f' : FuncId) (tm:Array Value),tm.size=N->ZE P (fun g w=>w.heap[l]?=some (.loop (IK f' tm ps He body D .ready))/\∀i,BO g w (AS (Ap H0 Af)) (ren (CH σF) (A2 (A2 st.h r0 (.var sz 0 0)) o (.cells (E1 cs k (.slice (.ver r0 sz 0) [])))) (st.t i)) (tm.getD i undef)) σr gf
   (.v (.func (.yield l) #[] #[])::caps) (Ap H0 Af) fun _ h'=>h'=Ap Hn Af)(k7:EQ N rest=true)(k8:Rj iM rest (af iM fn.results.toList σr fun r h'=>Q (ren (CH σ) (Eu σF 0 0 (A2 (A2 st.h r0 (.var sz 0 0)) o (.cells (E1 cs k (.slice (.ver r0 sz 0) [])))) h') (ren (Fw σF 0 0) h' r)) (FZ σ (Eu σF 0 0 (A2 (A2 st.h r0 (.var sz 0 0)) o (.cells (E1 cs k (.slice (.ver r0 sz 0) [])))) h')))
   ⟨fun i=>ren (CH σF) (A2 (A2 st.h r0 (.var sz 0 0)) o (.cells (E1 cs k (.slice (.ver r0 sz 0) [])))) (st.t i),Ap Hn Af⟩)(k9:PM [] body=false:=by kernel_rfl):RfV o k r0 sz iM P N fn σ Q b rest st:=
 vr c1 c2 c3 ⟨σF,σr,H0,Hn,sy,s,ps,He,body,gf,caps,hb,k1,k2,k3,k4,k5,k6,k7,k9,k8⟩
section
variable {roots:List Rq}{C A:List (Value×AV)}{s:SS}{dec:List Cd}{st:List (List Sk)}{n:Nd}
theorem Vu{m:Nat}{o:List Nd}(e:Ho roots dec (m+1)=(p,o)){es:List (List AV)}(h1:es=o.map BG)(h2:k=es.length) :
  Ap [(1000,.cells (srC roots C A s dec st.length)),(1001,.tok 6 s.infs.length),(1002,.tok 1 s.drv.length),(1003,.map FS (FY 0 s.infs)),(1004,.arr 1 (st.map Bq)),
   (1005,.cells [.ref 1000 0]),(1006,.cells [vs p]),(1007,.cells [.slice (.ver 1008 5 (m+1)) es]),(1008,.var 5 (m+1) k),(1009,.cells [.ref 1000 0])] Af=Ap (nB roots C A s dec st (m+1)) Af:=by
 subst h1;subst h2
 rw[show nB roots C A s dec st (m+1)=[(1000,.cells (srC roots C A s dec st.length)),(1001,.tok 6 s.infs.length),(1002,.tok 1 s.drv.length),(1003,.map FS (FY 0 s.infs)),(1004,.arr 1 (st.map Bq)),
   (1005,.cells [.ref 1000 0]),(1006,.cells [vs (Ho roots dec (m+1)).1]),(1007,.cells [.slice (.ver 1008 5 (m+1)) ((Ho roots dec (m+1)).2.map BG)]),(1008,.var 5 (m+1) ((Ho roots dec (m+1)).2.map BG).length),(1009,.cells [.ref 1000 0])]from rfl,e]
theorem nD{a:ByteArray×List Nd}(h:DQ dec n.rq.path=true):EF dec a n=(a.1,a.2):=by unfold EF;rw[Ao (.inl h)]
theorem nh{o:List Nd}(h:(0:Int)<((o.map BG).length:Int)):o≠[]:=fun e=>by subst e;simp at h
theorem qX{o:List Nd}(h:¬(0:Int)<((o.map BG).length:Int)):o=[]:=by
 cases o with
 |nil=>rfl
 |cons y l=>exact absurd B0 h
theorem rb{a:ByteArray×List Nd}(h:(0:Int)<((a.2.map BG).length:Int))(hb:Ef a.1 n.rq.path=true):EF dec a n=(a.1,a.2):=by unfold EF;rw[Ao (.inr ⟨nh h,hb⟩)]
theorem nE{a:ByteArray×List Nd}(hd:DQ dec n.rq.path=false)(h:(0:Int)<((a.2.map BG).length:Int))(hb:Ef a.1 n.rq.path=false)(hs:Ef n.rq.path a.1=true):EF dec a n=(n.rq.path,[n]):=by
 unfold EF;rw[Aj (by rw[hd,hb];simp),Ao ⟨nh h,hs⟩]
theorem nF{a:ByteArray×List Nd}(hd:DQ dec n.rq.path=false)(hb:Ef a.1 n.rq.path=false)(hs:Ef n.rq.path a.1=false):EF dec a n=(n.rq.path,a.2++[n]):=by
 unfold EF;rw[Aj (by rw[hd,hb];simp),Aj (by rw[hs];simp)]
theorem rd{a:ByteArray×List Nd}(hd:DQ dec n.rq.path=false)(h:¬(0:Int)<((a.2.map BG).length:Int)):EF dec a n=(n.rq.path,a.2++[n]):=by
 have:=qX h
 unfold EF;rw[Aj (by rw[hd,this];simp),Aj (by rw[this];simp)]
theorem rc(a:ByteArray×List Nd)(n:Nd):(EF dec a n).2.length<=a.2.length+1:=by
 unfold EF;split
 .omega
 .split
  .simp
  .simp
theorem gv:∀(m:Nat),(Ho roots dec m).2.length<=m
 |0=>Ak _
 |m+1=>by
  have ih:=gv m;cases h:(DN roots dec)[m]? with
  |none=>
   have e:Ho roots dec (m+1)=Ho roots dec m:=by unfold Ho;rw[Bj,h];simp
   rw[e];omega
  |some n=>rw[bz h];exact AG (rc _ _) (EO ih)
theorem bY:∀{l l' : List (Nat×HO)},l.map Prod.fst=l'.map Prod.fst->(∀p∈l',p.2≠.free)->∀i,AS (Ap l Af) i->AS (Ap l' Af) i
 | [],[],_,_,_,h=>h
 |(a,o)::l,(a',o')::l',e,h,i,hu=>by
  rw[AL,AL]at e
  injection e with e1 e2
  have e1:a=a':=e1;subst e1;unfold AS at *
  by_cases q:i=a
  .subst q;simp only[Ap,Dp,KM];exact h _ (Ab ..)
  .simp only[Ap,Dc q,Er]at hu⊢;exact bY e2 (fun p hp=>h p (Ah _ hp)) i hu
theorem nC:∀i,AS (Ap (nB roots C A s dec st 0) Af) i->AS (Ap (nB roots C A s dec st m) Af) i:=bY rfl (by
 repeat (first | exact Cy _ | refine Bm.2 ⟨by simp,?_⟩))
theorem gP:∀{l:List Cd},(∀c∈l,c.rel.reqs.length<=1073741824)->((l.map fun c=>c.rel.reqs.length)).sum<=l.length*1073741824
 | [],_=>by simp
 |c::l,h=>by
  have h1:=h c (Ab ..);have h2:=gP fun c hc=>h c (Ah _ hc);rw[AL,List.sum_cons,Am];omega
theorem jA(hr:roots.length<=1073741824)(hd:dec.length<=1000)(h:∀c∈dec,c.rel.reqs.length<=1073741824):(DN roots dec).length<=1074815565824:=by
 rw[<-bC];unfold Gb;rw[B9]
 have:=gP h
 have:=Bh 1073741824 hd
 omega
end
theorem bi:l.map BG++[BG n]=(l++[n]).map BG:=by rw[As];rfl
theorem Qw:(l.map BG).length+([BG n]:List (List AV)).length=(l.map BG++[BG n]).length:=Ac.symm
attribute [local irreducible] RfV xa Ho DN EF
theorem s64(hr:roots.length<=1073741824)(hd:dec.length<=1000)(wU:∀c∈dec,c.rel.reqs.length<=1073741824) :
  Bc Tryz.prog 186 [.ref 1000 0] (Ap (JW roots C A s dec st) Af) fun r h'=>r=.tup [vs (Hg roots dec).1,sl BG (Hg roots dec).2]/\h'=Ap (JW roots C A s dec st) Af:=by
 refine ie 5 0 9 5 (M2 Ej) (M2 Ej) cr rfl CW rfl CW hm rfl rfl Tryz.func186 Wk rfl (Nz rfl) Wk rfl 3 (yN (Xi (.gen cr 1) (Yi rfl (Bc.imp (Aek roots C A s dec st) ?_))));intro v1 g1 q1;have rt:=q1.1;have ru:=q1.2;subst rt;subst ru;refine vJ [nzA] Wk Wk Wk [(1000,1000),(1001,1001),(1002,1002),(1003,1003),(1004,1004),(10800,1005),(4,1006),(5,1007),(9,1008),(1,1009)] cq (nB roots C A s dec st 0) (nB roots C A s dec st (DN roots dec).length) 301 [.ref 1005 0] rfl Wk Wk Wk Wk Wk (fun l9 D9 f9 tm9 htm=>Aem l9 roots C A s dec st hr (AG hd Cl) wU fun m n hn=>ky (σ:=cq) 1007 0 1008 (M2 ⟨[],[(43,5)],[],[],[],[],[],[],[],[(500005,60001007)],[5]⟩) rfl CW hm rfl rfl rfl htm Wk Wk Wk (nC m) ?_) Wk ?_
 .have hml:m<(DN roots dec).length:=(Ay.1 hn).1;have hol:=gv (roots:=roots) (dec:=dec) m;have hnl:=jA hr hd wU;have hF:=bz hn;refine yN (Yi ⟨rfl,rfl⟩ (cU [(1,.ref 1009 0),(4,.ref 1006 0),(5,.ref 1007 0),(6,.ref 6 0)] [(6,.cells (BG n)),(60,.tok 5 ((Ho roots dec m).2.map BG).length),(1000,.cells (srM roots C A s dec 1004 st.length)),(1001,.tok 6 s.infs.length),(1002,.tok 1 s.drv.length),(1003,.map FS (FY 0 s.infs)),(1004,.arr 1 (st.map Bq)),(1005,.cells [.ref 1000 0]),(1006,.cells [vs (Ho roots dec m).1]),(1007,.cells [.slice (.id 60 5) ((Ho roots dec m).2.map BG)]),(1008,.vox m),(1009,.cells [.ref 1000 0])] Z4 Z12 (BN (Bt (DQ dec n.rq.path)) (fun h2=>?_) (fun h2=>?_))))
  .have hc3:=(zO roots C A s dec st n.rq.path (AG hd Cl));rw[show(DQ dec n.rq.path)=true from h2]at hc3;refine Xi (.gen cr 0) (Yi rfl (Bc.imp hc3 ?_));intro v4 g4 q4;have q4a:=q4.1;have q4b:=q4.2;subst q4a;subst q4b;refine Yi ⟨rfl,rfl⟩ ?_
   -- [('(DQ dec n.rq.path)=true',True)]
   exact⟨rfl,Vu (hF.trans (nD h2)) rfl rfl⟩
  have hc5:=(zO roots C A s dec st n.rq.path (AG hd Cl));rw[show(DQ dec n.rq.path)=false from h2]at hc5;refine Xi (.gen cr 0) (Yi rfl (Bc.imp hc5 ?_));intro v6 g6 q6;have q6a:=q6.1;have q6b:=q6.2;subst q6a;subst q6b;refine Yi (fun h7=>?_) (fun h7=>?_)
  .have n7:0<(Ho roots dec m).2.length:=by have q:=h7;rw[Lm]at q;omega
   refine Yi (fun h8=>?_) (fun h8=>?_)
   .have h8:Ef (Ho roots dec m).1 n.rq.path=true:=(Gk _ _).trans h8;refine Yi ⟨rfl,rfl⟩ ?_
    -- [('(DQ dec n.rq.path)=true',False),('(0:Int)<(((Ho roots dec m).2.map BG).length:Int)',True),('Ef (Ho roots dec m).1 n.rq.path=true',True)]
    exact⟨rfl,Vu (hF.trans (rb h7 h8)) rfl rfl⟩
   have h8:Ef (Ho roots dec m).1 n.rq.path=false:=(Gk _ _).trans (AN.2 h8);refine Yi (fun _=>?_) (fun hf=>absurd h7 hf);refine Yi (fun h9=>?_) (fun h9=>?_)
   .have h9:Ef n.rq.path (Ho roots dec m).1=true:=(Gk _ _).trans h9;refine yN (yN (yN ?_));have WU:Cf 5 [(BG n)]/\([(BG n)]:List (List AV)).length*72<=140737488355328/\([(BG n)]:List (List AV)).length<=9223372036854775807:=⟨⟨rfl,trivial⟩,(by simp only[Am,Au];omega),(by simp only[Am,Au];omega)⟩;refine Yi WU (yN (Yi ⟨rfl,rfl⟩ ?_))
    -- [('(DQ dec n.rq.path)=true',False),('(0:Int)<(((Ho roots dec m).2.map BG).length:Int)',True),('Ef (Ho roots dec m).1 n.rq.path=true',False),('Ef n.rq.path (Ho roots dec m).1=true',True)]
    exact⟨rfl,Vu (hF.trans (nE h2 h7 h8 h9)) rfl rfl⟩
   have h9:Ef n.rq.path (Ho roots dec m).1=false:=(Gk _ _).trans (AN.2 h9);refine yN (yN ?_);have tW:Cf 5 [(BG n)]/\((Ho roots dec m).2.map BG).length=((Ho roots dec m).2.map BG).length/\(((Ho roots dec m).2.map BG).length+([(BG n)]:List (List AV)).length)*72<=140737488355328/\((Ho roots dec m).2.map BG).length+([(BG n)]:List (List AV)).length<=9223372036854775807:=⟨⟨rfl,trivial⟩,rfl,(by simp only[Lm,Am,Au];omega),(by simp only[Lm,Am,Au];omega)⟩;refine Yi tW (yN (Yi ⟨(Qw _ n).symm,rfl⟩ ?_))
   -- [('(DQ dec n.rq.path)=true',False),('(0:Int)<(((Ho roots dec m).2.map BG).length:Int)',True),('Ef (Ho roots dec m).1 n.rq.path=true',False),('Ef n.rq.path (Ho roots dec m).1=true',False)]
   exact⟨rfl,Vu (hF.trans (nF h2 h8 h9)) (bi _ n) (Qw _ n)⟩
  have n7:¬0<(Ho roots dec m).2.length:=by have q:=h7;rw[Lm]at q;omega
  refine Yi (fun hf=>absurd hf h7) (fun _=>?_);refine yN (yN ?_);have wF:Cf 5 [(BG n)]/\((Ho roots dec m).2.map BG).length=((Ho roots dec m).2.map BG).length/\(((Ho roots dec m).2.map BG).length+([(BG n)]:List (List AV)).length)*72<=140737488355328/\((Ho roots dec m).2.map BG).length+([(BG n)]:List (List AV)).length<=9223372036854775807:=⟨⟨rfl,trivial⟩,rfl,(by simp only[Lm,Am,Au];omega),(by simp only[Lm,Am,Au];omega)⟩;refine Yi wF (yN (Yi ⟨(Qw _ n).symm,rfl⟩ ?_))
  -- [('(DQ dec n.rq.path)=true',False),('(0:Int)<(((Ho roots dec m).2.map BG).length:Int)',False)]
  exact⟨rfl,Vu (hF.trans (rd h2 h7)) (bi _ n) (Qw _ n)⟩
 refine Yi Wk ?_;exact Xi _ (Yi (.refl _) ⟨show AV.tup [vs (Ho roots dec (DN roots dec).length).1,sl BG (Ho roots dec (DN roots dec).length).2]=_ by rw[q9 (Ak _)],rfl⟩)
end Go.Eng
namespace Go.Eng
open Go.Proofs
theorem jj{α:Type}(pr:α->Bool)(l:List α):(∃(k:Nat) (n:α),JI pr l 0=(k:Nat)/\l[k]?=some n/\l.find? pr=some n)\/(JI pr l 0=-1/\l.find? pr=none):=by
 have key:∀(l:List α) (b:Nat),(∃(k:Nat) (n:α),JI pr l (b:Nat)=((b+k:Nat):Int)/\l[k]?=some n/\l.find? pr=some n)\/(JI pr l (b:Nat)=-1/\l.find? pr=none):=by
  intro l
  induction l with
  |nil=>intro b;exact .inr Zr
  |cons y l ih=>
   intro b;cases h:pr y with
   |true=>exact .inl ⟨0,y,by unfold JI;rw[Ao h];rfl,rfl,by rw[Fg,h]⟩
   |false=>
    have e:JI pr (y::l) (b:Nat)=JI pr l ((b+1:Nat):Int):=by
     conv=>lhs;unfold JI
     rw[Aj (by rw[h];decide)];rw[show((b+1:Nat):Int)=(b:Int)+1 by omega]
    have e2:(y::l).find? pr=l.find? pr:=by rw[Fg,h]
    rcases ih (b+1)with ⟨k,n,h1,h2,h3⟩ | ⟨h1,h2⟩
    .exact .inl ⟨k+1,n,by rw[e,h1];congr 1;omega,by simpa using h2,by rw[e2];exact h3⟩
    .exact .inr ⟨by rw[e];exact h1,by rw[e2];exact h2⟩
 have:=key l 0
 simpa using this
section
variable {rec:List Cd->SS->List (List Sk)->K7}{x:List Rl}{p:ByteArray}{N:List Nd}{n0:Nd}{dec:List Cd}{st:List (List Sk)}{cs:List Cd}{i:Nat}{S:SS}{rs:List Nat}{sk:List Sk}
theorem lB(h:¬i<cs.length):ED rec x p N n0 dec st (cs.drop i) S rs sk=⟨(Eo x p n0 rs S).1,false,(Eo x p n0 rs S).2,dec,st⟩:=by
 rw[Cv ch];rfl
theorem p8(h:i<cs.length)(hf:S.full=true):ED rec x p N n0 dec st (cs.drop i) S rs sk=⟨0,false,S,dec,st⟩:=by
 rw[AI h,GP,Ao hf]
theorem xE(h:i<cs.length)(hf:S.full=false){n:Nd}(hn:N.find? (fun n=>!has n.rq.set cs[i].place)=some n):ED rec x p N n0 dec st (cs.drop i) S rs sk=ED rec x p N n0 dec st (cs.drop (i+1)) (BW S n).2 (rs++[(BW S n).1]) sk:=by
 rw[AI h,GP,Aj (by rw[hf];decide),hn]
theorem Yu(h:i<cs.length)(hf:S.full=false)(hn:N.find? (fun n=>!has n.rq.set cs[i].place)=none){k:Nat}(he:P0 S.drv (AU (dec++[cs[i]]))=some k):ED rec x p N n0 dec st (cs.drop i) S rs sk=KI rec x p N n0 dec st cs[i] (cs.drop (i+1)) rs sk k S:=by
 rw[AI h,GP,Aj (by rw[hf];decide),hn];dsimp only;rw[he]
theorem ZR(h:i<cs.length)(hf:S.full=false)(hn:N.find? (fun n=>!has n.rq.set cs[i].place)=none)(he:P0 S.drv (AU (dec++[cs[i]]))=none){n:Nd}(hc:Ey dec cs[i]=some n) :
  ED rec x p N n0 dec st (cs.drop i) S rs sk=KI rec x p N n0 dec st cs[i] (cs.drop (i+1)) rs sk (BW S n).1 (BW S n).2:=by
 rw[AI h,GP,Aj (by rw[hf];decide),hn];dsimp only;rw[he];dsimp only;rw[hc]
theorem Yv(h:i<cs.length)(hf:S.full=false)(hn:N.find? (fun n=>!has n.rq.set cs[i].place)=none)(he:P0 S.drv (AU (dec++[cs[i]]))=none)(hc:Ey dec cs[i]=none){o:K7}(ho:o=rec (dec++[cs[i]]) S (st++[sk])) :
  ED rec x p N n0 dec st (cs.drop i) S rs sk=if o.found=true then⟨0,true,o.ss,o.dec,o.stack⟩else if o.ss.full=true then⟨0,false,o.ss,dec,st⟩else KI rec x p N n0 dec st cs[i] (cs.drop (i+1)) rs sk o.res o.ss:=by
 rw[ho,AI h,GP,Aj (by rw[hf];decide),hn];dsimp only;rw[he];dsimp only;rw[hc]
theorem eX{c:Cd}{l:List Cd}{k:Nat}(h:Eb (EP S k) p=false):KI rec x p N n0 dec st c l rs sk k S=⟨k,false,S,dec,st⟩:=by unfold KI;rw[Ao h]
theorem Yh{c:Cd}{l:List Cd}{k:Nat}(h:Eb (EP S k) p=true):KI rec x p N n0 dec st c l rs sk k S=ED rec x p N n0 dec st l S (rs++[k]) (sk++[⟨p,c.place,(k:Nat)⟩]):=by unfold KI;rw[Aj (by rw[h];decide)]
end
theorem Z0{x:List Rl}{dec:List Cd}(h:EY x dec):dec.length<=x.length:=by
 have h1:=I7 (m:=x.map (·.path)) h.nodup fun p hp=>by
  obtain⟨c,hc,rfl⟩:=Ai.1 hp;exact Ai.2 ⟨c.rel,(h.cand c hc).1,rfl⟩
 rw[Lm,Lm]at h1;exact h1
theorem WY(x:List Rl)(p:ByteArray):(CE x p).length<=x.length:=by
 unfold CE;rw[Lm];exact Bv _ _
end Go.Eng
