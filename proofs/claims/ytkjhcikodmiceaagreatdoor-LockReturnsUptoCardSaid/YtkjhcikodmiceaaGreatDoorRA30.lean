/- Lemmas 30. -/
import Derived.Test.YtkjhcikodmiceaaGreatDoorRA29
import Derived.Test.YtkjhcikodmiceaaGreatDoorRA14
set_option maxHeartbeats 4000000
namespace Go.Eng
open Go.Proofs
variable {k:Nat}{p:ByteArray}{Y:Gh->World->Prop}{j:Nat}{P:Program}{o sz:Nat}{i:Nf}(l:List Nd)(roots:List Rq)(C A:List (Value×AV))(s:SS)(dec:List Cd)(st:List (List Sk))(m:Nat)(n:Nd)
theorem Oi{x:List Rl}{roots:List Rq}{l0:List Nf}:∀{l:List Nf} {d d' : List (List Tm)},(∀i∈l,i∈l0)->(∀t∈d,Rh (Hu x roots l0) t)->BP x roots l d=some d'->∀t∈d',Rh (Hu x roots l0) t
 | [],d,d',_,hd,h=>by cases h;exact hd
 |i::l,d,d',hl,hd,h=>by
  unfold BP at h;cases hi:BA x roots d i with
  |none=>rw[hi]at h;cases h
  |some t=>
   rw[hi]at h;refine Oi (fun j hj=>hl j (Ah _ hj)) (fun u hu=>?_) h;rcases Bk.1 hu with hu | hu
   .exact hd u hu
   .rw[AC.1 hu];exact PI (hl i (Ae ..)) hd hi
section
variable {x:List Rl}{roots:List Rq}{s:SS}
theorem Eo.few(hx:AX x=0)(hr:Bu roots=0)(h:Eo x roots s):∀t∈s.drv,cZ t:=fun t ht=>
 (Oi (l0:=s.infs) (fun _ h=>h) (fun _ h=>by cases h) h.der t ht).fewI (NP hx hr h.len)
theorem HF{l:List Tm}(h:s.infs.Nodup):(DP s i l).2.infs.Nodup:=by
 cases hk:Ln i 0 s.infs with
 |some k=>rw[W4 hk];exact h
 |none=>
  by_cases hf:65536<=s.infs.length
  .rw[Uv hk hf];exact h
  .rw[W2 hk hf];show(s.infs++[i]).Nodup;rw[List.nodup_append];refine⟨h,by simp,fun a ha b hb e=>?_⟩;rw[AC.1 hb]at e;exact PX hk (e▸ha)
theorem Kj.add(h:Kj x roots s){l:List Tm}(hi:BA x roots s.drv i=some l):Kj x roots (DP s i l).2/\(DP s i l).1<(DP s i l).2.drv.length/\s.drv.length<=(DP s i l).2.drv.length:=
 ⟨⟨(JP h.der hi).1,HF h.nodup⟩,(JP h.der hi).2.1,(JQ s i l).len⟩
theorem Kj.dl(h:Kj x roots s):s.infs.length<=65536/\s.drv.length=s.infs.length/\s.drv.length<=65536:=by
 have h1:=h.der.dlen;have h2:=h.der.len;exact⟨h2,h1,by omega⟩
theorem jC(hx:AX x=0)(p:ByteArray):∀d,BA x roots d ⟨2,p,0,0,0,0⟩=some (E3 p (BC x p)):=fun d=>by
 obtain⟨u,u0,u1,hu⟩:=cS hx p;have hV:FP []:=fun _ h=>by cases h
 have ou:T3 [] p (Ll [] p (WV u)):=.ver hV (EN ⟨u0,u1⟩);have h1:A4 [(⟨p,false,EB (BC x p)⟩:Tm)] (Ll [] p (WV u))=true:=by
  rw[Bq];intro t ht;rw[AC.1 ht];show CH _ (BD (Ll [] p (WV u)) p)=true;rw[HL rfl];show(Ct (WV u)&&has (EB (BC x p)) (place (WV u)))=true;rw[EN ⟨u0,u1⟩,GT,FK,hu];unfold Ru;simp[u0,u1]
 have h2:A4 [(⟨p,false,EB (BC x p)⟩:Tm)] []=false:=rfl;have CU:E3 p (BC x p)≠[]:=by
  have c1:=CJ (l:=[(⟨p,false,EB (BC x p)⟩:Tm)]) ou.val;have c2:=CJ (l:=[(⟨p,false,EB (BC x p)⟩:Tm)]) hV;rw[h1]at c1;rw[h2]at c2;unfold E3 PT;cases hc:CD [(⟨p,false,EB (BC x p)⟩:Tm)]with
  |none=>rw[hc]at c1;cases c1
  |some c=>
   rw[hc]at c2;intro e;have e:c=[]:=e;rw[e]at c2;cases c2
 unfold BA;rw[AB (show ¬((2:Int)=0) by decide),AB (show ¬((2:Int)=1) by decide),As rfl,As ⟨rfl,rfl,rfl,rfl⟩];unfold ne0;rw[AB (by rw[Ij];exact CU)]
theorem EO(h:k<s.drv.length):s.drv[k]?=some (DX s k):=by
 unfold DX;rw[List.getD_eq_getElem?_getD,Ge h];rfl
theorem Tg{L:List Nat}(hj:j<L.length)(h:s.full=true\/Dr (DX s k) p=false):B2 p (L.drop j) k s=(k,s):=by
 rw[Bh hj];unfold B2;rw[As h]
theorem aw{L:List Nat}(hj:j<L.length)(h1:¬(s.full=true\/Dr (DX s k) p=false))(h:L[j]=k):B2 p (L.drop j) k s=B2 p (L.drop (j+1)) k s:=by
 rw[Bh hj]
 conv=>lhs;unfold B2
 rw[AB h1,As h]
theorem eZ{L:List Nat}(hj:j<L.length)(h1:¬(s.full=true\/Dr (DX s k) p=false))(h2:¬L[j]=k)(h:(Bg (DX s k) (DX s L[j]) p).2≠0):B2 p (L.drop j) k s=B2 p (L.drop (j+1)) k s:=by
 rw[Bh hj]
 conv=>lhs;unfold B2
 rw[AB h1,AB h2,As h]
theorem eY{L:List Nat}(hj:j<L.length)(h1:¬(s.full=true\/Dr (DX s k) p=false))(h2:¬L[j]=k)(h:(Bg (DX s k) (DX s L[j]) p).2=0) :
  B2 p (L.drop j) k s=B2 p (L.drop (j+1)) (DP s ⟨3,p,0,0,(k:Nat),(L[j]:Nat)⟩ (Bg (DX s k) (DX s L[j]) p).1).1 (DP s ⟨3,p,0,0,(k:Nat),(L[j]:Nat)⟩ (Bg (DX s k) (DX s L[j]) p).1).2:=by
 rw[Bh hj]
 conv=>lhs;unfold B2
 rw[AB h1,AB h2,AB (fun h3=>h3 h)]
end
theorem EX{t:List Tm}(h:cZ t):Cz t:=by have:=h.1;unfold Cz;omega
theorem s91(x:List Rl)(roots:List Rq)(C A:List (Value×AV))(s:SS)(dec:List Cd)(st:List (List Sk))(p:ByteArray)(n:Nd)(rs:List Nat)(V:AV)(hx:AX x=0)(hr:Bu roots=0)(hs:Kj x roots s)(XN:∀d,BA x roots d (OH n)=some (HI n))(rS:∀r∈rs,r<s.drv.length)(hrl:rs.length<=1073741823)(hnq:Cz n.rq.set)(hnp:A8 (n.place+1))
  (te:∀a,(Value.string p,a)∈A->a=V) (tf:(∀a,(Value.string p,a)∉A)->V=nzA) (tg:∀h,PC 229 [vs p,str h V] (sl Az (E3 p (BC x p)))):Bd Tryz.prog 156 [.ref 1000 0,vs p,.agg (Bi n),sl Cm rs] (Ag (IR roots C A s dec st) Ad) fun r h'=>pk roots C A dec st (Dj x p n rs s) r h':=by
 have hw:=hs.dl;obtain⟨wv,yV,bO⟩:=hs.add (XN s.drv)
 change Kj x roots (Bx s n).2 at wv
 change (Bx s n).1<(Bx s n).2.drv.length at yV
 change s.drv.length<=(Bx s n).2.drv.length at bO
 have SW:=wv.dl;obtain⟨rT,Im,oK⟩:=wv.add (jC hx p (Bx s n).2.drv)
 change Kj x roots (D3 x p (Bx s n).2).2 at rT
 change (D3 x p (Bx s n).2).1<(D3 x p (Bx s n).2).2.drv.length at Im
 change (Bx s n).2.drv.length<=(D3 x p (Bx s n).2).2.drv.length at oK
 obtain⟨L,hL⟩:∃L,L=(D3 x p (Bx s n).2).1::rs:=⟨_,rfl⟩;have hLr:∀r∈L,r<(D3 x p (Bx s n).2).2.drv.length:=fun r Wg=>by
  rw[hL]at Wg;rcases AM.1 Wg with rfl | h
  .exact Im
  .have:=rS r h;omega
 have hLl:L.length=rs.length+1:=by rw[hL];rfl
 have yV:(Bx s n).1<(D3 x p (Bx s n).2).2.drv.length:=B0
 refine Bm (IF (pC [6] [3,7,8,10])) [(1000,1000),(1001,1001),(1002,1002),(1003,1003),(1004,1004)] rfl BB hm rfl Tryz.func156 aa3 rfl (Nz rfl) aa3 rfl (yN (Xi (.gen Zt 0) (Yi rfl (Bd.imp (s88 roots C A s dec st n hw.1 hw.2.1 hs.nodup hnq hnp) ?_))));intro v1 g1 q1;have nF:=q1.1;have nG:=q1.2;subst nF;subst nG;refine Ox V nzA te tf (fun h=>h) (Xi .pure (Xi _ (Yi (tg _) (Xi (.gen Zt 0) (Yi rfl (Bd.imp (nN roots C A (Bx s n).2 dec st ⟨2,p,0,0,0,0⟩ (E3 p (BC x p)) SW.1 SW.2.1 wv.nodup) ?_))))));intro v2 g2 q2;have q2a:=q2.1;have q2b:=q2.2;subst q2a;subst q2b;refine cU [(0,.ref 1000 0),(1,vs p),(3,sl Cm rs),(9,vi (((Bx s n).1:Nat):Int)),(10,vi (((D3 x p (Bx s n).2).1:Nat):Int))] [(1000,.cells [sl Af roots,.cmap Cc C,.cmap Cc A,.slice (.id 1001 6) ((D3 x p (Bx s n).2).2.infs.map AR),.slice (.id 1002 1) ((D3 x p (Bx s n).2).2.drv.map AD),.mref 1003,vb (D3 x p (Bx s n).2).2.full,sl AL dec,sl Al (AH dec),.msl 1004 st.length]),(1001,.tok 6 (D3 x p (Bx s n).2).2.infs.length),(1002,.tok 1 (D3 x p (Bx s n).2).2.drv.length),(1003,.map E9 (Fe 0 (D3 x p (Bx s n).2).2.infs)),(1004,.arr 1 (st.map A7))] Z5 Z5 ?_
 have b3:BX 1 (rs.map Cm)/\([[vi (((D3 x p (Bx s n).2).1:Nat):Int)]]:List (List AV)).length=1/\(([[vi (((D3 x p (Bx s n).2).1:Nat):Int)]]:List (List AV)).length+(rs.map Cm).length)*8<=140737488355328/\([[vi (((D3 x p (Bx s n).2).1:Nat):Int)]]:List (List AV)).length+(rs.map Cm).length<=9223372036854775807:=⟨(DK (enc:=Cm) (n:=1) (fun _=>rfl) rs),(by first | (simp;done) | (rw[Lm];assumption)),(by simp only[Lm,AF,A0];omega),(by simp only[Lm,AF,A0];omega)⟩
 refine Yi b3 (Xi {q:Nat×Nat×SS // q.1<=L.length/\B2 p (L.drop q.1) q.2.1 q.2.2=B2 p L (Bx s n).1 (D3 x p (Bx s n).2).2/\Kj x roots q.2.2/\q.2.1<q.2.2.drv.length/\∀r∈L,r<q.2.2.drv.length} (Xi (fun q=>⟨[(0,.ref 1000 0),(1,vs p),(9,vi q.1.2.1),(33,.slice (.id 31 1) (L.map Cm)),(34,vi (L.map Cm).length),(35,vi q.1.1)],[(31,.tok 1 (L.map Cm).length),(1000,.cells (srM roots C A q.1.2.2 dec 1004 st.length)),(1001,.tok 6 q.1.2.2.infs.length),(1002,.tok 1 q.1.2.2.drv.length),(1003,.map E9 (Fe 0 q.1.2.2.infs)),(1004,.arr 1 (st.map A7))],Ad⟩) (Xi (fun q=>L.length-q.1.1) (Yi (Xi ⟨(0,(Bx s n).1,(D3 x p (Bx s n).2).2),Ao _,by rw[List.drop_zero],rT,yV,hLr⟩ ?_) ?_))))
 .exact⟨⟨Zr,Zr,Zr,⟨(show AV.slice (.id 31 1) ([[vi (((D3 x p (Bx s n).2).1:Nat):Int)]]++rs.map Cm)=.slice (.id 31 1) (L.map Cm) by rw[hL];rfl),rfl⟩,⟨(show vi (([[vi (((D3 x p (Bx s n).2).1:Nat):Int)]]++rs.map Cm:List (List AV)).length:Int)=vi ((L.map Cm).length:Int) by rw[hL];rfl),rfl⟩,Zr,Tv⟩,⟨⟨(show HO.tok 1 (([[vi (((D3 x p (Bx s n).2).1:Nat):Int)]]:List (List AV)).length+(rs.map Cm).length)=.tok 1 (L.map Cm).length by rw[hL];simp[Nat.add_comm]),rfl⟩,Zr,Zr,Zr,Zr,Zr,Tv⟩,Fh,Bp aa3⟩
 intro⟨⟨j,k,S⟩,j1,j2,j3,j4,j5⟩;have hw3:=j3.dl;have oJ:=j3.der.few hx hr;have gk:S.drv[k]?=some (DX S k):=EO j4;refine Yi (fun h4=>?_) (fun h4=>?_)
 .have h4:(j:Int)<((L.map Cm).length:Int):=h4;have n4:=IN h4;refine Xi (Cm L[j]) (Yi (LX n4) (Yi rfl (Yi (fun h5=>?_) (fun h5=>?_))))
  .refine cU [(9,vi k)] [(1000,.cells (srM roots C A S dec 1004 st.length)),(1001,.tok 6 S.infs.length),(1002,.tok 1 S.drv.length),(1003,.map E9 (Fe 0 S.infs)),(1004,.arr 1 (st.map A7))] Z1 Z5 ?_
   have eR:B2 p L (Bx s n).1 (D3 x p (Bx s n).2).2=(k,S):=by rw[<-j2];exact Tg n4 (.inl h5)
   have eL:Dj x p n rs s=(k,S):=by unfold Dj;rw[<-hL];exact eR
   exact Xi _ (Yi (.refl _) (Yi (show vi (k:Int)=vi (((Dj x p n rs s).1:Nat):Int) by rw[eL]) (show Ag (IR roots C A S dec st) Ad=Ag (IR roots C A (Dj x p n rs s).2 dec st) Ad by rw[eL])))
  refine Xi (AD (DX S k)) (Yi (Yi (Nn k) (Fj gk)) (Yi rfl (BK (Bt (Dr (DX S k) p)) (fun h7=>?_) (fun h7=>?_))))
  .refine Xi .pure (Xi _ (Yi (cb h7 (lj (DX S k) p (EX (oJ _ (Ax (EO j4)))))) (cU [(0,.ref 1000 0),(1,vs p),(9,vi k),(12,vi (L[j]:Nat)),(33,.slice (.id 31 1) (L.map Cm)),(34,vi (L.map Cm).length),(35,vi j)] [(31,.tok 1 (L.map Cm).length),(1000,.cells (srM roots C A S dec 1004 st.length)),(1001,.tok 6 S.infs.length),(1002,.tok 1 S.drv.length),(1003,.map E9 (Fe 0 S.infs)),(1004,.arr 1 (st.map A7))] Z7 Z6 (Yi (fun h8=>?_) (fun h8=>?_)))))
   .refine Yi (Ii j B0) (Xi ⟨(j+1,k,S),E8 n4,by rw[<-(aw (s:=S) (p:=p) (L:=L) (j:=j) (k:=k) n4 (by rw[h5,h7];simp) (by have q:=h8;omega))];exact j2,j3,j4,j5⟩ ?_);exact⟨Dl L.length j B0,Z6,Z6,Fh,Bp aa3⟩
   refine Xi (AD (DX S k)) (Yi (Yi (Nn k) (Fj gk)) (Yi rfl (Xi (AD (DX S L[j])) (Yi (Yi (show(0:Int)<=(L[j]:Nat) by omega) (Fj (EO (j5 _ (Am n4))))) (Yi rfl ?_)))));have fk:=oJ _ (Ax (EO j4));have fr:=oJ _ (Ax (EO (j5 _ (Am n4))));refine Xi _ (Yi (sw (DX S k) (DX S L[j]) p fk.1 fr.1 fk.2 fr.2) (Yi aa3 (cU [(0,.ref 1000 0),(1,vs p),(9,vi k),(12,vi (L[j]:Nat)),(13,sl Az (Bg (DX S k) (DX S L[j]) p).1),(14,vi (Bg (DX S k) (DX S L[j]) p).2),(33,.slice (.id 31 1) (L.map Cm)),(34,vi (L.map Cm).length),(35,vi j)] [(31,.tok 1 (L.map Cm).length),(1000,.cells (srM roots C A S dec 1004 st.length)),(1001,.tok 6 S.infs.length),(1002,.tok 1 S.drv.length),(1003,.map E9 (Fe 0 S.infs)),(1004,.arr 1 (st.map A7))] Z9 Z6 (Yi (fun Oz=>?_) (fun Oz=>?_)))))
   .refine Yi (Ii j B0) (Xi ⟨(j+1,k,S),E8 n4,by rw[<-(eZ (s:=S) (p:=p) (L:=L) (j:=j) (k:=k) n4 (by rw[h5,h7];simp) (by have q:=h8;omega) Oz)];exact j2,j3,j4,j5⟩ ?_);exact⟨Dl L.length j B0,Z6,Z6,Fh,Bp aa3⟩
   have Oz:((Bg (DX S k) (DX S L[j]) p).2:Int)=(0:Int):=AY Oz;refine Xi (.gen Zt 0) (Yi rfl (Bd.imp (nN roots C A S dec st ⟨3,p,0,0,(k:Nat),(L[j]:Nat)⟩ (Bg (DX S k) (DX S L[j]) p).1 hw3.1 hw3.2.1 j3.nodup) ?_));intro v12 g12 OY;have qY:=OY.1;have qZ:=OY.2;subst qY;subst qZ;refine Yi (Ii j B0) ?_;obtain⟨a1,a2,a3⟩:=j3.add (U2 (x:=x) (roots:=roots) (p:=p) j4 (j5 _ (Am n4)) Oz);refine Xi ⟨(j+1,(DP S ⟨3,p,0,0,(k:Nat),(L[j]:Nat)⟩ (Bg (DX S k) (DX S L[j]) p).1).1,(DP S ⟨3,p,0,0,(k:Nat),(L[j]:Nat)⟩ (Bg (DX S k) (DX S L[j]) p).1).2),E8 n4,by rw[<-(eY (s:=S) (p:=p) (L:=L) (j:=j) (k:=k) n4 (by rw[h5,h7];simp) (by have q:=h8;omega) Oz)];exact j2,a1,a2,fun r hr=>AA (j5 r hr) a3⟩ ?_;exact⟨Dl L.length j B0,Z6,Z6,Fh,Bp aa3⟩
  refine Xi .pure (Xi _ (Yi (cb h7 (lj (DX S k) p (EX (oJ _ (Ax (EO j4)))))) (cU [(9,vi k)] [(1000,.cells (srM roots C A S dec 1004 st.length)),(1001,.tok 6 S.infs.length),(1002,.tok 1 S.drv.length),(1003,.map E9 (Fe 0 S.infs)),(1004,.arr 1 (st.map A7))] Z1 Z5 ?_)))
  have eR:B2 p L (Bx s n).1 (D3 x p (Bx s n).2).2=(k,S):=by rw[<-j2];exact Tg n4 (.inr h7)
  have eL:Dj x p n rs s=(k,S):=by unfold Dj;rw[<-hL];exact eR
  exact Xi _ (Yi (.refl _) (Yi (show vi (k:Int)=vi (((Dj x p n rs s).1:Nat):Int) by rw[eL]) (show Ag (IR roots C A S dec st) Ad=Ag (IR roots C A (Dj x p n rs s).2 dec st) Ad by rw[eL])))
 have n4:=FH h4;have hj:¬j<L.length:=by have q:=h4;rw[Lm]at q;omega
 have eR:B2 p L (Bx s n).1 (D3 x p (Bx s n).2).2=(k,S):=by rw[<-j2,Fo B0];rfl
 have eL:Dj x p n rs s=(k,S):=by unfold Dj;rw[<-hL];exact eR
 exact Xi _ (Yi (.refl _) (Yi (show vi (k:Int)=vi (((Dj x p n rs s).1:Nat):Int) by rw[eL]) (show Ag (IR roots C A S dec st) Ad=Ag (IR roots C A (Dj x p n rs s).2 dec st) Ad by rw[eL])))
abbrev Zu:IC:=[(1000,1000),(1001,1001),(1002,1002),(1003,1003),(500,1004)]
abbrev wP:List (Nat×HO):=
 [(1000,.cells (srM roots C A s dec 2000 st.length)),(1001,.tok 6 s.infs.length),(1002,.tok 1 s.drv.length),(1003,.map E9 (Fe 0 s.infs)),(1004,.dead),(2000,.arr 1 (st.map A7))]
abbrev Zw(o:JO)(r:AV)(h' : Nat->HO):Prop:=r=.tup [vi (o.res:Nat),vb o.found]/\h'=Ag (wP roots C A o.ss o.dec o.stack) Ad
def H64:Prop:=∀(s:SS) (dec:List Cd) (st:List (List Sk)),dec.length<=1000->(∀c∈dec,c.rel.reqs.length<=1073741824) ->
 Bd Tryz.prog 148 [.ref 1000 0] (Ag (IR roots C A s dec st) Ad) fun r h'=>r=.tup [vs (Et roots dec).1,sl Bi (Et roots dec).2]/\h'=Ag (IR roots C A s dec st) Ad
theorem Ng{roots:List Rq}{C A:List (Value×AV)}{o:JO}{b:Bool}{s:SS}{dec:List Cd}{st:List (List Sk)}(e:o=⟨k,b,s,dec,st⟩) :
  AV.tup [vi (k:Nat),vb b]=.tup [vi (o.res:Nat),vb o.found]/\Ag (wP roots C A s dec st) Ad=Ag (wP roots C A o.ss o.dec o.stack) Ad:=by rw[e];exact Zr
abbrev Zs:IC:=[(1000,1000),(1001,1001),(1002,1002),(1003,1003),(1004,1004),(1005,1005),(1006,1006),(1007,1007),(1008,1008),(1009,1009)]
def GA:ByteArray×List Nd:=((CP roots dec).take m).foldl (D1 dec) (mt,[])
theorem Yq{roots:List Rq}{dec:List Cd}{m:Nat}{n:Nd}(h:(CP roots dec)[m]?=some n):GA roots dec (m+1)=D1 dec (GA roots dec m) n:=by
 grind [GA,List.take_add_one]
theorem nk{roots:List Rq}{dec:List Cd}{m:Nat}(h:(CP roots dec).length<=m):GA roots dec m=Et roots dec:=by
 grind [GA,Et,List.take_of_length_le]
def Fq(j:Nat):Nat:=roots.length+((dec.take j).map fun c=>c.rel.reqs.length).sum
theorem TH(c:Cd):(Qb c).length=c.rel.reqs.length:=L8 _ _ _
theorem fC:Fq roots dec 0=roots.length:=by grind [Fq]
theorem fB{roots:List Rq}{dec:List Cd}(h:j<dec.length):Fq roots dec (j+1)=Fq roots dec j+dec[j].rel.reqs.length:=by
 grind [Fq,List.take_succ_eq_append_getElem]
theorem Yt:Fq roots dec dec.length=(CP roots dec).length:=by
 grind [Fq,CP,YD,L8,List.map_congr_left,TH]
theorem fp{roots:List Rq}{dec:List Cd}{i:Nat}(h:i<roots.length):(CP roots dec)[i]?=some ⟨roots[i],mt,0,(i:Nat)⟩:=by
 grind [CP,YD,List.getElem?_append_left,OT]
theorem flat_get{α:Type}:∀{l:List (List α)} {j k:Nat} (hj:j<l.length),k<l[j].length->l.flatten[((l.take j).map List.length).sum+k]?=l[j][k]?
 |y::l,0,k,_,hk=>by
  grind
 |y::l,j+1,k,hj,hk=>by
  rw[By,List.take_succ_cons,Bb,List.sum_cons,Bf B0]
  have:=flat_get (l:=l) (j:=j) (k:=k) aa1 hk
  grind
theorem jw{roots:List Rq}{dec:List Cd}(hj:j<dec.length)(hk:k<dec[j].rel.reqs.length):(CP roots dec)[Fq roots dec j+k]?=some ⟨dec[j].rel.reqs[k],dec[j].rel.path,dec[j].place,(k:Nat)⟩:=by
 unfold CP YD Fq;rw[Bf (by grind [L8]),L8];have h:=flat_get (l:=dec.map Qb) (j:=j) (k:=k) Wk (by grind [TH]);rw[<-List.map_take,BI,show(List.length ∘ Qb)=fun c=>c.rel.reqs.length from funext TH]at h
 grind [Qb,OT]
abbrev jF:List (Nat×HO):=
  [(1000,.cells (wO roots C A s dec st.length)),(1001,.tok 6 s.infs.length),(1002,.tok 1 s.drv.length),(1003,.map E9 (Fe 0 s.infs)),(1004,.arr 1 (st.map A7)),
   (1005,.cells [.ref 1000 0]),(1006,.cells [vs (GA roots dec m).1]),(1007,.cells [.slice (.ver 1008 5 m) ((GA roots dec m).2.map Bi)]),(1008,.var 5 m ((GA roots dec m).2.map Bi).length),(1009,.cells [.ref 1000 0])]
noncomputable abbrev cxn(pl:Nm)(l:Nat)(Y:Gh->World->Prop):Cx:=⟨Tryz.prog,nY,pl,true,0,fun l' σ' g w=>l'=l->σ'=Zs->Y g w⟩
theorem It.pre{Y':Gh->World->Prop}{l:Nat}{args:List AV}{h0:Nat->HO}{Q:AV->(Nat->HO)->Prop}(h:It P Y l args h0 Q)(hp:∀g w,Y' g w->Y g w):It P Y' l args h0 Q:=
 fun g w vals q1 q2 q3 q4=>h g w vals q1 q2 q3 (hp g w q4)
theorem Aaq:Bd Tryz.prog 222 [.ref 1000 0] (Ag (IR roots C A s dec st) Ad) fun r h'=>r=.clo 289 [.ref 2000 0]/\h'=Ag (IR roots C A s dec st++[(2000,.cells [.ref 1000 0])]) Ad:=by
 refine Bm (IF Ea) [(1000,1000),(1001,1001),(1002,1002),(1003,1003),(1004,1004),(1,2000)] rfl BB hm rfl Tryz.func222 aa3 rfl (Nz rfl) aa3 rfl ?_;exact Xi _ (Yi (.refl _) Zr)
theorem Aar(l:Nat)(roots:List Rq)(C A:List (Value×AV))(s:SS)(dec:List Cd)(st:List (List Sk))(hr:roots.length<=1073741824)(hd:dec.length<=1073741824)(rL:∀c∈dec,c.rel.reqs.length<=1073741824)(hy:∀m n,(CP roots dec)[m]?=some n->It Tryz.prog Y l [.agg (Bi n)] (Ag (jF roots C A s dec st m) Ad) fun r h'=>r=vb true/\h'=Ag (jF roots C A s dec st (m+1)) Ad) :
  WW Tryz.prog Y Zs 289 [.v (.func (.yield l) #[] #[]),.ref 1005 0] (Ag (jF roots C A s dec st 0) Ad) fun _ h'=>h'=Ag (jF roots C A s dec st (CP roots dec).length) Ad:=by
 refine jc (l:=l) (cxn Ea l Y) Zs rfl BB hm rfl Tryz.func289 aa3 rfl (Nz rfl) aa3 rfl rfl (Xi {i:Nat // i<=roots.length} (Xi (fun q=>⟨[(0,.v (.func (.yield l) #[] #[])),(1,.ref 1005 0),(12,sl Af roots),(13,vi (roots.map Af).length),(14,vi q.1)],[(1000,.cells (srM roots C A s dec 1004 st.length)),(1001,.tok 6 s.infs.length),(1002,.tok 1 s.drv.length),(1003,.map E9 (Fe 0 s.infs)),(1004,.arr 1 (st.map A7)),(1005,.cells [.ref 1000 0]),(1006,.cells [vs (GA roots dec q.1).1]),(1007,.cells [.slice (.ver 1008 5 q.1) ((GA roots dec q.1).2.map Bi)]),(1008,.var 5 q.1 ((GA roots dec q.1).2.map Bi).length),(1009,.cells [.ref 1000 0])],Ad⟩) (Xi (fun q=>roots.length-q.1) (Yi (Xi ⟨0,Ao _⟩ ?_) ?_))))
 .exact⟨Z5,Z10,Fh,Bp aa3⟩
 intro⟨i,i1⟩;refine Yi (fun h1=>?_) (fun h1=>?_)
 .have h1:(i:Int)<((roots.map Af).length:Int):=h1;have n1:=IN h1;refine Xi (Af roots[i]) (Yi (LX n1) (Yi rfl (yN (yN (yN (Xi (.gen Zs 0) (Yi rfl (It.imp (It.pre (hy i ⟨roots[i],mt,0,(i:Nat)⟩ (fp n1)) (fun g w q=>q rfl rfl)) ?_))))))));intro v2 g2 q2;have q2a:=q2.1;have q2b:=q2.2;subst q2a;subst q2b;refine Yi (by grind [A8]) (Xi ⟨i+1,by omega⟩ ?_);exact⟨by grind,Z5,Z10,Fh,Bp aa3⟩
 have n1:=FH h1;have hE:i=Fq roots dec 0:=by grind [fC]
 refine Xi {j:Nat // j<=dec.length} (Xi (fun q=>⟨[(0,.v (.func (.yield l) #[] #[])),(29,sl AL dec),(30,vi (dec.map AL).length),(31,vi q.1)],[(1000,.cells (srM roots C A s dec 1004 st.length)),(1001,.tok 6 s.infs.length),(1002,.tok 1 s.drv.length),(1003,.map E9 (Fe 0 s.infs)),(1004,.arr 1 (st.map A7)),(1005,.cells [.ref 1000 0]),(1006,.cells [vs (GA roots dec (Fq roots dec q.1)).1]),(1007,.cells [.slice (.ver 1008 5 (Fq roots dec q.1)) ((GA roots dec (Fq roots dec q.1)).2.map Bi)]),(1008,.var 5 (Fq roots dec q.1) ((GA roots dec (Fq roots dec q.1)).2.map Bi).length),(1009,.cells [.ref 1000 0])],Ad⟩) (Xi (fun q=>dec.length-q.1) (Yi (Xi ⟨0,Ao _⟩ ?_) ?_)))
 .exact⟨Z4,⟨Zr,Zr,Zr,Zr,Zr,Zr,⟨(show .cells [vs (GA roots dec i).1]=(.cells [vs (GA roots dec (Fq roots dec 0)).1]:HO) by rw[hE]),rfl⟩,⟨(show .cells [.slice (.ver 1008 5 i) ((GA roots dec i).2.map Bi)]=(.cells [.slice (.ver 1008 5 (Fq roots dec 0)) ((GA roots dec (Fq roots dec 0)).2.map Bi)]:HO) by rw[hE]),rfl⟩,⟨(show .var 5 i ((GA roots dec i).2.map Bi).length=(.var 5 (Fq roots dec 0) ((GA roots dec (Fq roots dec 0)).2.map Bi).length:HO) by rw[hE]),rfl⟩,Zr,Tv⟩,Fh,Bp aa3⟩
 intro⟨j,j1⟩;refine Yi (fun h4=>?_) (fun h4=>?_)
 .have h4:(j:Int)<((dec.map AL).length:Int):=h4;have n4:=IN h4;have yF:=rL dec[j] (Am n4);refine Xi (AL dec[j]) (Yi (LX n4) (Yi rfl (yN (yN (Xi {k:Nat // k<=dec[j].rel.reqs.length} (Xi (fun q=>⟨[(0,.v (.func (.yield l) #[] #[])),(6,.ref 6 0),(29,sl AL dec),(30,vi (dec.map AL).length),(31,vi j),(37,sl Af dec[j].rel.reqs),(38,vi (dec[j].rel.reqs.map Af).length),(39,vi q.1)],[(6,.cells (AL dec[j])),(1000,.cells (srM roots C A s dec 1004 st.length)),(1001,.tok 6 s.infs.length),(1002,.tok 1 s.drv.length),(1003,.map E9 (Fe 0 s.infs)),(1004,.arr 1 (st.map A7)),(1005,.cells [.ref 1000 0]),(1006,.cells [vs (GA roots dec (Fq roots dec j+q.1)).1]),(1007,.cells [.slice (.ver 1008 5 (Fq roots dec j+q.1)) ((GA roots dec (Fq roots dec j+q.1)).2.map Bi)]),(1008,.var 5 (Fq roots dec j+q.1) ((GA roots dec (Fq roots dec j+q.1)).2.map Bi).length),(1009,.cells [.ref 1000 0])],Ad⟩) (Xi (fun q=>dec[j].rel.reqs.length-q.1) (Yi (Xi ⟨0,Ao _⟩ ?_) ?_))))))))
  .exact⟨Z8,Z11,Fh,Bp aa3⟩
  intro⟨k,k1⟩;have k1:k<=dec[j].rel.reqs.length:=k1;refine Yi (fun h5=>?_) (fun h5=>?_)
  .have h5:(k:Int)<((dec[j].rel.reqs.map Af).length:Int):=h5;have n5:=IN h5;refine Xi (Af dec[j].rel.reqs[k]) (Yi (LX n5) (Yi rfl (yN (yN (yN (Xi (.gen Zs 0) (Yi rfl (It.imp (It.pre (hy (Fq roots dec j+k) ⟨dec[j].rel.reqs[k],dec[j].rel.path,dec[j].place,(k:Nat)⟩ (jw n4 n5)) (fun g w q=>q rfl rfl)) ?_))))))));intro v6 g6 q6;have q6a:=q6.1;have q6b:=q6.2;subst q6a;subst q6b;refine Yi (by grind [A8]) (Xi ⟨k+1,by omega⟩ ?_);exact⟨by grind,Z8,Z11,Fh,Bp aa3⟩
  have h5:¬((k:Int)<((dec[j].rel.reqs.map Af).length:Int)):=h5;have n5:=FH h5;refine Yi (by grind [A8]) ?_;have hE:Fq roots dec j+k=Fq roots dec (j+1):=by grind [fB]
  refine Xi ⟨j+1,by omega⟩ ?_;exact⟨by grind,Z4,⟨Zr,Zr,Zr,Zr,Zr,Zr,⟨(show .cells [vs (GA roots dec (Fq roots dec j+k)).1]=(.cells [vs (GA roots dec (Fq roots dec (j+1))).1]:HO) by rw[hE]),rfl⟩,⟨(show .cells [.slice (.ver 1008 5 (Fq roots dec j+k)) ((GA roots dec (Fq roots dec j+k)).2.map Bi)]=(.cells [.slice (.ver 1008 5 (Fq roots dec (j+1))) ((GA roots dec (Fq roots dec (j+1))).2.map Bi)]:HO) by rw[hE]),rfl⟩,⟨(show .var 5 (Fq roots dec j+k) ((GA roots dec (Fq roots dec j+k)).2.map Bi).length=(.var 5 (Fq roots dec (j+1)) ((GA roots dec (Fq roots dec (j+1))).2.map Bi).length:HO) by rw[hE]),rfl⟩,Zr,Tv⟩,Fh,Bp aa3⟩
 have h4:¬((j:Int)<((dec.map AL).length:Int)):=h4;have n4:=FH h4;exact Ab (fun m=>Ag (jF roots C A s dec st m) Ad) (show Fq roots dec j=(CP roots dec).length by grind [Yt])
theorem qP{h:Nat->HO}{r:Nat}{cs:List AV}{K:(Nat->HO)->Prop}(c1:h o=.cells cs)(c2:IP cs k=nzA)(c3:h r=.free)(hk:K (AP (AP h r (.var sz 0 0)) o (.cells (Ei cs k (.slice (.ver r sz 0) []))))):rZ h o k r sz K:=by
 unfold rZ;rw[c1];show match IP cs k with
  |.v (.slice none 0 0)=>match h r with
   |.free=>K (AP (AP h r (.var sz 0 0)) o (.cells (Ei cs k (.slice (.ver r sz 0) []))))
   |_=>False
  |_=>False
 rw[c2,c3];exact hk
theorem re{r0:Nat}{dF:Cx}{N:Nat}{fn:Func}{σ:IC}{Q:AV->(Nat->HO)->Prop}{b rest:Code}{st:St}(cs:List AV)(c1:st.h o=.cells cs)(c2:IP cs k=nzA)(c3:st.h r0=.free)(σF σr:IC)(H0 Hn:List (Nat×HO))(gf:Nat)(caps:List AV){oq s:Nat}{ps:Array Tmp}{Gv body:Code}(hb:b=.block oq (.rangeFunc (.tmp s) ps Gv body))(k1:(D4 σF&&DN (AP (AP st.h r0 (.var sz 0 0)) o (.cells (Ei cs k (.slice (.ver r0 sz 0) [])))) 0 0&&CI σF 0 0)=true)(k2:Ff σF (AP (AP st.h r0 (.var sz 0 0)) o (.cells (Ei cs k (.slice (.ver r0 sz 0) []))))=Ag H0 Ad)(k3:(Gy σr&&H7 σr H0)=true)(k4:H7 σr Hn=true)(k5:ren (Cn σF) (AP (AP st.h r0 (.var sz 0 0)) o (.cells (Ei cs k (.slice (.ver r0 sz 0) [])))) (st.t s)=.clo gf caps)(k6:∀(l D:Nat) (f' : FuncId) (tm:Array Value),tm.size=N->WW P (fun g w=>w.heap[l]?=some (.loop (HN f' tm ps Gv body D .ready))/\∀i,A3 g w (AI (Ag H0 Ad)) (ren (Cn σF) (AP (AP st.h r0 (.var sz 0 0)) o (.cells (Ei cs k (.slice (.ver r0 sz 0) [])))) (st.t i)) (tm.getD i undef)) σr gf
   (.v (.func (.yield l) #[] #[])::caps) (Ag H0 Ad) fun _ h'=>h'=Ag Hn Ad)(k7:Ed N rest=true)(k8:Rj dF rest (Xq dF fn.results.toList σr fun r h'=>Q (ren (Cn σ) (DS σF 0 0 (AP (AP st.h r0 (.var sz 0 0)) o (.cells (Ei cs k (.slice (.ver r0 sz 0) [])))) h') (ren (EV σF 0 0) h' r)) (Ff σ (DS σF 0 0 (AP (AP st.h r0 (.var sz 0 0)) o (.cells (Ei cs k (.slice (.ver r0 sz 0) [])))) h')))
   ⟨fun i=>ren (Cn σF) (AP (AP st.h r0 (.var sz 0 0)) o (.cells (Ei cs k (.slice (.ver r0 sz 0) [])))) (st.t i),Ag Hn Ad⟩)(k9:Ob [] body=false:=by kernel_rfl):wT o k r0 sz dF P N fn σ Q b rest st:=
 qP c1 c2 c3 ⟨σF,σr,H0,Hn,oq,s,ps,Gv,body,gf,caps,hb,k1,k2,k3,k4,k5,k6,k7,k9,k8⟩
section
variable {roots:List Rq}{C A:List (Value×AV)}{s:SS}{dec:List Cd}{st:List (List Sk)}{n:Nd}
theorem Tu{m:Nat}{o:List Nd}(e:GA roots dec (m+1)=(p,o)){es:List (List AV)}(h1:es=o.map Bi)(h2:k=es.length) :
  Ag [(1000,.cells (wO roots C A s dec st.length)),(1001,.tok 6 s.infs.length),(1002,.tok 1 s.drv.length),(1003,.map E9 (Fe 0 s.infs)),(1004,.arr 1 (st.map A7)),
   (1005,.cells [.ref 1000 0]),(1006,.cells [vs p]),(1007,.cells [.slice (.ver 1008 5 (m+1)) es]),(1008,.var 5 (m+1) k),(1009,.cells [.ref 1000 0])] Ad=Ag (jF roots C A s dec st (m+1)) Ad:=by
 subst h1;subst h2
 rw[show jF roots C A s dec st (m+1)=[(1000,.cells (wO roots C A s dec st.length)),(1001,.tok 6 s.infs.length),(1002,.tok 1 s.drv.length),(1003,.map E9 (Fe 0 s.infs)),(1004,.arr 1 (st.map A7)),
   (1005,.cells [.ref 1000 0]),(1006,.cells [vs (GA roots dec (m+1)).1]),(1007,.cells [.slice (.ver 1008 5 (m+1)) ((GA roots dec (m+1)).2.map Bi)]),(1008,.var 5 (m+1) ((GA roots dec (m+1)).2.map Bi).length),(1009,.cells [.ref 1000 0])]from rfl,e]
theorem jH{a:ByteArray×List Nd}(h:De dec n.rq.path=true):D1 dec a n=(a.1,a.2):=by unfold D1;rw[As (.inl h)]
theorem ju{o:List Nd}(h:(0:Int)<((o.map Bi).length:Int)):o≠[]:=fun e=>by subst e;simp at h
theorem na{o:List Nd}(h:¬(0:Int)<((o.map Bi).length:Int)):o=[]:=by
 cases o with
 |nil=>rfl
 |cons y l=>exact absurd aa0 h
theorem nl{a:ByteArray×List Nd}(h:(0:Int)<((a.2.map Bi).length:Int))(hb:E0 a.1 n.rq.path=true):D1 dec a n=(a.1,a.2):=by unfold D1;rw[As (.inr ⟨ju h,hb⟩)]
theorem jI{a:ByteArray×List Nd}(hd:De dec n.rq.path=false)(h:(0:Int)<((a.2.map Bi).length:Int))(hb:E0 a.1 n.rq.path=false)(hs:E0 n.rq.path a.1=true):D1 dec a n=(n.rq.path,[n]):=by
 unfold D1;rw[AB (by rw[hd,hb];simp),As ⟨ju h,hs⟩]
theorem jJ{a:ByteArray×List Nd}(hd:De dec n.rq.path=false)(hb:E0 a.1 n.rq.path=false)(hs:E0 n.rq.path a.1=false):D1 dec a n=(n.rq.path,a.2++[n]):=by
 unfold D1;rw[AB (by rw[hd,hb];simp),AB (by rw[hs];simp)]
theorem nq{a:ByteArray×List Nd}(hd:De dec n.rq.path=false)(h:¬(0:Int)<((a.2.map Bi).length:Int)):D1 dec a n=(n.rq.path,a.2++[n]):=by
 have:=na h
 unfold D1;rw[AB (by rw[hd,this];simp),AB (by rw[this];simp)]
theorem np(a:ByteArray×List Nd)(n:Nd):(D1 dec a n).2.length<=a.2.length+1:=by
 unfold D1;split
 .omega
 .split
  .simp
  .simp
theorem cr:∀(m:Nat),(GA roots dec m).2.length<=m
 |0=>Ai _
 |m+1=>by
  have ih:=cr m;cases h:(CP roots dec)[m]? with
  |none=>
   have e:GA roots dec (m+1)=GA roots dec m:=by unfold GA;rw[CE,h];simp
   rw[e];omega
  |some n=>rw[Yq h];exact AO (np _ _) (Eb ih)
theorem Zg:∀{l l' : List (Nat×HO)},l.map Prod.fst=l'.map Prod.fst->(∀p∈l',p.2≠.free)->∀i,AI (Ag l Ad) i->AI (Ag l' Ad) i
 | [],[],_,_,_,h=>h
 |(a,o)::l,(a',o')::l',e,h,i,hu=>by
  rw[Bb,Bb]at e
  injection e with e1 e2
  have e1:a=a':=e1;subst e1;unfold AI at *
  by_cases q:i=a
  .subst q;simp only[Ag,Ue,cond_true];exact h _ (Ae ..)
  .simp only[Ag,Dx q,Gi]at hu⊢;exact Zg e2 (fun p hp=>h p (Ah _ hp)) i hu
theorem jG:∀i,AI (Ag (jF roots C A s dec st 0) Ad) i->AI (Ag (jF roots C A s dec st m) Ad) i:=Zg rfl (by
 repeat (first | exact Co _ | refine Bo.2 ⟨by simp,?_⟩))
theorem cO:∀{l:List Cd},(∀c∈l,c.rel.reqs.length<=1073741824)->((l.map fun c=>c.rel.reqs.length)).sum<=l.length*1073741824
 | [],_=>by simp
 |c::l,h=>by
  have h1:=h c (Ae ..);have h2:=cO fun c hc=>h c (Ah _ hc);rw[Bb,List.sum_cons,AF];omega
theorem fq(hr:roots.length<=1073741824)(hd:dec.length<=1000)(h:∀c∈dec,c.rel.reqs.length<=1073741824):(CP roots dec).length<=1074815565824:=by
 rw[<-Yt];unfold Fq;rw[Dh]
 have:=cO h
 have:=AZ 1073741824 hd
 omega
end
theorem Yb:l.map Bi++[Bi n]=(l++[n]).map Bi:=by rw[AG];rfl
theorem OJ:(l.map Bi).length+([Bi n]:List (List AV)).length=(l.map Bi++[Bi n]).length:=Aa.symm
attribute [local irreducible] wT rZ GA CP D1
theorem s64(hr:roots.length<=1073741824)(hd:dec.length<=1000)(rL:∀c∈dec,c.rel.reqs.length<=1073741824) :
  Bd Tryz.prog 148 [.ref 1000 0] (Ag (IR roots C A s dec st) Ad) fun r h'=>r=.tup [vs (Et roots dec).1,sl Bi (Et roots dec).2]/\h'=Ag (IR roots C A s dec st) Ad:=by
 refine da 5 0 9 5 (IF Ea) (IF Ea) Zt rfl BB rfl BB hm rfl rfl Tryz.func148 aa3 rfl (Nz rfl) aa3 rfl 3 (yN (Xi (.gen Zt 1) (Yi rfl (Bd.imp (Aaq roots C A s dec st) ?_))));intro v1 g1 q1;have nF:=q1.1;have nG:=q1.2;subst nF;subst nG;refine re [nzA] aa3 aa3 aa3 [(1000,1000),(1001,1001),(1002,1002),(1003,1003),(1004,1004),(10800,1005),(4,1006),(5,1007),(9,1008),(1,1009)] Zs (jF roots C A s dec st 0) (jF roots C A s dec st (CP roots dec).length) 289 [.ref 1005 0] rfl aa3 aa3 aa3 aa3 aa3 (fun l9 D9 f9 tm9 wA=>Aar l9 roots C A s dec st hr (AO hd aa2) rL fun m n hn=>gu (σ:=Zs) 1007 0 1008 (IF ⟨[],[(43,5)],[],[],[],[],[],[],[],[(500005,60001007)],[5]⟩) rfl BB hm rfl rfl rfl wA aa3 aa3 aa3 (jG m) ?_) aa3 ?_
 .have wl:m<(CP roots dec).length:=(AE.1 hn).1;have hol:=cr (roots:=roots) (dec:=dec) m;have hnl:=fq hr hd rL;have hF:=Yq hn;refine yN (Yi ⟨rfl,rfl⟩ (cU [(1,.ref 1009 0),(4,.ref 1006 0),(5,.ref 1007 0),(6,.ref 6 0)] [(6,.cells (Bi n)),(60,.tok 5 ((GA roots dec m).2.map Bi).length),(1000,.cells (srM roots C A s dec 1004 st.length)),(1001,.tok 6 s.infs.length),(1002,.tok 1 s.drv.length),(1003,.map E9 (Fe 0 s.infs)),(1004,.arr 1 (st.map A7)),(1005,.cells [.ref 1000 0]),(1006,.cells [vs (GA roots dec m).1]),(1007,.cells [.slice (.id 60 5) ((GA roots dec m).2.map Bi)]),(1008,.vox m),(1009,.cells [.ref 1000 0])] Z4 Z12 (BK (Bt (De dec n.rq.path)) (fun h2=>?_) (fun h2=>?_))))
  .have hc3:=(vg roots C A s dec st n.rq.path (AO hd aa2));rw[show(De dec n.rq.path)=true from h2]at hc3;refine Xi (.gen Zt 0) (Yi rfl (Bd.imp hc3 ?_));intro v4 g4 q4;have q4a:=q4.1;have q4b:=q4.2;subst q4a;subst q4b;refine Yi ⟨rfl,rfl⟩ ?_
   -- [('(De dec n.rq.path)=true',True)]
   exact⟨rfl,Tu (hF.trans (jH h2)) rfl rfl⟩
  have iP:=(vg roots C A s dec st n.rq.path (AO hd aa2));rw[show(De dec n.rq.path)=false from h2]at iP;refine Xi (.gen Zt 0) (Yi rfl (Bd.imp iP ?_));intro v6 g6 q6;have q6a:=q6.1;have q6b:=q6.2;subst q6a;subst q6b;refine Yi (fun h7=>?_) (fun h7=>?_)
  .have n7:0<(GA roots dec m).2.length:=by have q:=h7;rw[Lm]at q;omega
   refine Yi (fun h8=>?_) (fun h8=>?_)
   .have h8:E0 (GA roots dec m).1 n.rq.path=true:=(Gw _ _).trans h8;refine Yi ⟨rfl,rfl⟩ ?_
    -- [('(De dec n.rq.path)=true',False),('(0:Int)<(((GA roots dec m).2.map Bi).length:Int)',True),('E0 (GA roots dec m).1 n.rq.path=true',True)]
    exact⟨rfl,Tu (hF.trans (nl h7 h8)) rfl rfl⟩
   have h8:E0 (GA roots dec m).1 n.rq.path=false:=(Gw _ _).trans (Bn.2 h8);refine Yi (fun _=>?_) (fun hf=>absurd h7 hf);refine Yi (fun h9=>?_) (fun h9=>?_)
   .have h9:E0 n.rq.path (GA roots dec m).1=true:=(Gw _ _).trans h9;refine yN (yN (yN ?_));have Zl:BX 5 [(Bi n)]/\([(Bi n)]:List (List AV)).length*72<=140737488355328/\([(Bi n)]:List (List AV)).length<=9223372036854775807:=⟨⟨rfl,trivial⟩,(by simp only[AF,A0];omega),(by simp only[AF,A0];omega)⟩;refine Yi Zl (yN (Yi ⟨rfl,rfl⟩ ?_))
    -- [('(De dec n.rq.path)=true',False),('(0:Int)<(((GA roots dec m).2.map Bi).length:Int)',True),('E0 (GA roots dec m).1 n.rq.path=true',False),('E0 n.rq.path (GA roots dec m).1=true',True)]
    exact⟨rfl,Tu (hF.trans (jI h2 h7 h8 h9)) rfl rfl⟩
   have h9:E0 n.rq.path (GA roots dec m).1=false:=(Gw _ _).trans (Bn.2 h9);refine yN (yN ?_);have pB:BX 5 [(Bi n)]/\((GA roots dec m).2.map Bi).length=((GA roots dec m).2.map Bi).length/\(((GA roots dec m).2.map Bi).length+([(Bi n)]:List (List AV)).length)*72<=140737488355328/\((GA roots dec m).2.map Bi).length+([(Bi n)]:List (List AV)).length<=9223372036854775807:=⟨⟨rfl,trivial⟩,rfl,(by simp only[Lm,AF,A0];omega),(by simp only[Lm,AF,A0];omega)⟩;refine Yi pB (yN (Yi ⟨(OJ _ n).symm,rfl⟩ ?_))
   -- [('(De dec n.rq.path)=true',False),('(0:Int)<(((GA roots dec m).2.map Bi).length:Int)',True),('E0 (GA roots dec m).1 n.rq.path=true',False),('E0 n.rq.path (GA roots dec m).1=true',False)]
   exact⟨rfl,Tu (hF.trans (jJ h2 h8 h9)) (Yb _ n) (OJ _ n)⟩
  have n7:¬0<(GA roots dec m).2.length:=by have q:=h7;rw[Lm]at q;omega
  refine Yi (fun hf=>absurd hf h7) (fun _=>?_);refine yN (yN ?_);have vO:BX 5 [(Bi n)]/\((GA roots dec m).2.map Bi).length=((GA roots dec m).2.map Bi).length/\(((GA roots dec m).2.map Bi).length+([(Bi n)]:List (List AV)).length)*72<=140737488355328/\((GA roots dec m).2.map Bi).length+([(Bi n)]:List (List AV)).length<=9223372036854775807:=⟨⟨rfl,trivial⟩,rfl,(by simp only[Lm,AF,A0];omega),(by simp only[Lm,AF,A0];omega)⟩;refine Yi vO (yN (Yi ⟨(OJ _ n).symm,rfl⟩ ?_))
  -- [('(De dec n.rq.path)=true',False),('(0:Int)<(((GA roots dec m).2.map Bi).length:Int)',False)]
  exact⟨rfl,Tu (hF.trans (nq h2 h7)) (Yb _ n) (OJ _ n)⟩
 refine Yi aa3 ?_;exact Xi _ (Yi (.refl _) ⟨show AV.tup [vs (GA roots dec (CP roots dec).length).1,sl Bi (GA roots dec (CP roots dec).length).2]=_ by rw[nk (Ai _)],rfl⟩)
end Go.Eng
namespace Go.Eng
open Go.Proofs
theorem eD{α:Type}(pr:α->Bool)(l:List α):(∃(k:Nat) (n:α),JI pr l 0=(k:Nat)/\l[k]?=some n/\l.find? pr=some n)\/(JI pr l 0=-1/\l.find? pr=none):=by
 have key:∀(l:List α) (b:Nat),(∃(k:Nat) (n:α),JI pr l (b:Nat)=((b+k:Nat):Int)/\l[k]?=some n/\l.find? pr=some n)\/(JI pr l (b:Nat)=-1/\l.find? pr=none):=by
  intro l
  induction l with
  |nil=>intro b;exact .inr Zr
  |cons y l ih=>
   intro b;cases h:pr y with
   |true=>exact .inl ⟨0,y,by unfold JI;rw[As h];rfl,rfl,by rw[Fb,h]⟩
   |false=>
    have e:JI pr (y::l) (b:Nat)=JI pr l ((b+1:Nat):Int):=by
     conv=>lhs;unfold JI
     rw[AB (by rw[h];decide)];rw[show((b+1:Nat):Int)=(b:Int)+1 by omega]
    have e2:(y::l).find? pr=l.find? pr:=by rw[Fb,h]
    rcases ih (b+1)with ⟨k,n,h1,h2,h3⟩ | ⟨h1,h2⟩
    .exact .inl ⟨k+1,n,by rw[e,h1];congr 1;omega,by simpa using h2,by rw[e2];exact h3⟩
    .exact .inr ⟨by rw[e];exact h1,by rw[e2];exact h2⟩
 have:=key l 0
 simpa using this
section
variable {rec:List Cd->SS->List (List Sk)->JO}{x:List Rl}{p:ByteArray}{N:List Nd}{n0:Nd}{dec:List Cd}{st:List (List Sk)}{cs:List Cd}{i:Nat}{S:SS}{rs:List Nat}{sk:List Sk}
theorem gX(h:¬i<cs.length):Dy rec x p N n0 dec st (cs.drop i) S rs sk=⟨(Dj x p n0 rs S).1,false,(Dj x p n0 rs S).2,dec,st⟩:=by
 rw[Fo B0];rfl
theorem lM(h:i<cs.length)(hf:S.full=true):Dy rec x p N n0 dec st (cs.drop i) S rs sk=⟨0,false,S,dec,st⟩:=by
 rw[Bh h,Fu,As hf]
theorem sK(h:i<cs.length)(hf:S.full=false){n:Nd}(hn:N.find? (fun n=>!has n.rq.set cs[i].place)=some n):Dy rec x p N n0 dec st (cs.drop i) S rs sk=Dy rec x p N n0 dec st (cs.drop (i+1)) (Bx S n).2 (rs++[(Bx S n).1]) sk:=by
 rw[Bh h,Fu,AB (by rw[hf];decide),hn]
theorem VP(h:i<cs.length)(hf:S.full=false)(hn:N.find? (fun n=>!has n.rq.set cs[i].place)=none){k:Nat}(he:Nu S.drv (AH (dec++[cs[i]]))=some k):Dy rec x p N n0 dec st (cs.drop i) S rs sk=H3 rec x p N n0 dec st cs[i] (cs.drop (i+1)) rs sk k S:=by
 rw[Bh h,Fu,AB (by rw[hf];decide),hn];dsimp only;rw[he]
theorem Xd(h:i<cs.length)(hf:S.full=false)(hn:N.find? (fun n=>!has n.rq.set cs[i].place)=none)(he:Nu S.drv (AH (dec++[cs[i]]))=none){n:Nd}(hc:DL dec cs[i]=some n) :
  Dy rec x p N n0 dec st (cs.drop i) S rs sk=H3 rec x p N n0 dec st cs[i] (cs.drop (i+1)) rs sk (Bx S n).1 (Bx S n).2:=by
 rw[Bh h,Fu,AB (by rw[hf];decide),hn];dsimp only;rw[he];dsimp only;rw[hc]
theorem VQ(h:i<cs.length)(hf:S.full=false)(hn:N.find? (fun n=>!has n.rq.set cs[i].place)=none)(he:Nu S.drv (AH (dec++[cs[i]]))=none)(hc:DL dec cs[i]=none){o:JO}(ho:o=rec (dec++[cs[i]]) S (st++[sk])) :
  Dy rec x p N n0 dec st (cs.drop i) S rs sk=if o.found=true then⟨0,true,o.ss,o.dec,o.stack⟩else if o.ss.full=true then⟨0,false,o.ss,dec,st⟩else H3 rec x p N n0 dec st cs[i] (cs.drop (i+1)) rs sk o.res o.ss:=by
 rw[ho,Bh h,Fu,AB (by rw[hf];decide),hn];dsimp only;rw[he];dsimp only;rw[hc]
theorem bp{c:Cd}{l:List Cd}{k:Nat}(h:Dr (DX S k) p=false):H3 rec x p N n0 dec st c l rs sk k S=⟨k,false,S,dec,st⟩:=by unfold H3;rw[As h]
theorem VE{c:Cd}{l:List Cd}{k:Nat}(h:Dr (DX S k) p=true):H3 rec x p N n0 dec st c l rs sk k S=Dy rec x p N n0 dec st l S (rs++[k]) (sk++[⟨p,c.place,(k:Nat)⟩]):=by unfold H3;rw[AB (by rw[h];decide)]
end
theorem Xl{x:List Rl}{dec:List Cd}(h:Dz x dec):dec.length<=x.length:=by
 have h1:=Da (m:=x.map (·.path)) h.nodup fun p hp=>by
  obtain⟨c,hc,rfl⟩:=Ar.1 hp;exact Ar.2 ⟨c.rel,(h.cand c hc).1,rfl⟩
 rw[Lm,Lm]at h1;exact h1
theorem UF(x:List Rl)(p:ByteArray):(Br x p).length<=x.length:=by
 unfold Br;rw[Lm];exact CL _ _
end Go.Eng
