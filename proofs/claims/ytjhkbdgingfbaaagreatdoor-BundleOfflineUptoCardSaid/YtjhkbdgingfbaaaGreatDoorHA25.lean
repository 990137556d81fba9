/- Lemmas 25. -/
import Derived.Test.YtjhkbdgingfbaaaGreatDoorHA24
import Derived.Test.YtjhkbdgingfbaaaGreatDoorHA17
import Derived.Test.YtjhkbdgingfbaaaGreatDoorHA04
set_option maxHeartbeats 4000000
namespace Go.Eng
open Go.Proofs
variable {k:Nat}{p:ByteArray}{Y:Gh->World->Prop}{j:Nat}{P:Program}{o sz:Nat}{i:Nf}(l:List Nd)(roots:List Rq)(C A:List (Value×AV))(s:SS)(dec:List Cd)(st:List (List Sk))(n:Nd)(c:Cd)(m:Nat)
def WL(l:List Cd)(q:Rq):Bool:=l.any fun d=>decide (d.rel.path=q.path)&&!has q.set d.place
theorem Wq{f:Rq->Nat->Nd}{P:Nd->Bool}:∀{l:List Rq} {b i:Nat} {q:Rq},l[i]?=some q->P (f q (b+i))=true->(∀k u,k<i->l[k]?=some u->P (f u (b+k))=false)->(Nc f b l).find? P=some (f q (b+i))
 | [],_,_,_,h,_,_=>by simp at h
 |u::l,b,0,q,h,he,_=>by
  cases h
  unfold Nc;rw[D7,show P (f u b)=true from he];rfl
 |u::l,b,i+1,q,h,he,hn=>by
  unfold Nc;have h0:P (f u b)=false:=hn 0 u ch rfl;rw[D7,h0]
  have:=Wq (f:=f) (P:=P) (l:=l) (b:=b+1) (i:=i) (q:=q) (by simpa using h) (by rw[show b+1+i=b+(i+1) by omega];exact he) (fun k v hk hv=>by
   rw[show b+1+k=b+(k+1) by omega];exact hn (k+1) v ch (by simpa using hv))
  rw[show b+1+i=b+(i+1) by omega]at this;exact this
theorem Px{f:Rq->Nat->Nd}{P:Nd->Bool}:∀{l:List Rq} {b:Nat},(∀k u,l[k]?=some u->P (f u (b+k))=false)->(Nc f b l).find? P=none
 | [],_,_=>rfl
 |u::l,b,h=>by
  unfold Nc;have h0:P (f u b)=false:=h 0 u rfl;rw[D7,h0];exact Px fun k v hv=>by rw[show b+1+k=b+(k+1) by omega];exact h (k+1) v (by simpa using hv)
def zNd:AV:=.agg [vs ⟨#[]⟩,nzA,vs ⟨#[]⟩,vi 0,vi 0]
def pE(o:Option Nd):AV:=match o with | some n=>.tup [.agg (A6 n),vb true] | none=>.tup [zNd,vb false]
section
variable {dec:List Cd}{c:Cd}{i:Nat}
theorem lu(hi:i<c.rel.reqs.length)(hn:∀k q,k<i->c.rel.reqs[k]?=some q->WL (dec++[c]) q=false){j:Nat}(hj:j<(dec++[c]).length)(h1:(dec++[c])[j].rel.path=c.rel.reqs[i].path)(h2:has c.rel.reqs[i].set (dec++[c])[j].place=false) :
  DI dec c=some ⟨c.rel.reqs[i],c.rel.path,c.place,(i:Nat)⟩:=by
 have:=Wq (f:=fun q i=>⟨q,c.rel.path,c.place,(i:Nat)⟩) (P:=fc (dec++[c])) (l:=c.rel.reqs) (b:=0) (i:=i) (q:=c.rel.reqs[i]) (Ge hi)
  (AX.2 ⟨_,Aq hj,by rw[Ap h1,h2];rfl⟩) (fun k u hk hu=>hn k u hk hu)
 unfold DI Rn;rw[this,A7]
theorem lw(hn:∀(k:Nat) (q:Rq),c.rel.reqs[k]?=some q->WL (dec++[c]) q=false):DI dec c=none:=by
 unfold DI Rn;exact Px fun k u hu=>hn k u hu
theorem mT{q:Rq}(h:∀(m:Nat) (d:Cd),(dec++[c])[m]?=some d->(decide (d.rel.path=q.path)&&!has q.set d.place)=false):WL (dec++[c]) q=false:=by
 unfold WL;rw[DE];intro d hd;obtain⟨m,hm⟩:=Cg.1 hd;rw[h m d hm];decide
end
theorem s87(hq:Cw n.rq.set):PC 182 [.agg (A6 n),.cptr (AF c)] (vb (!has n.rq.set c.place)):=by
 refine Ps (pC [2] []) Tryz.func182 rfl (Nz rfl) (BL (Bt (has n.rq.set c.place)) (fun h1=>?_) (fun h1=>?_))
 .refine Xi .pure (Xi _ (Yi (cb h1 (td n.rq.set c.place hq)) ?_));exact .of_eq (show vb false=vb (!has n.rq.set c.place) by rw[h1];rfl)
 refine Xi .pure (Xi _ (Yi (cb h1 (td n.rq.set c.place hq)) ?_));exact .of_eq (show vb true=vb (!has n.rq.set c.place) by rw[h1];rfl)
theorem s69(hd:dec.length<=1073741823)(hr:c.rel.reqs.length<=1073741824)(hq:∀q∈c.rel.reqs,Cw q.set):Bb Tryz.prog 137 [.ref 1000 0,.agg (AF c)] (Ag (Iq roots C A s dec st) Ad) fun r h'=>r=pE (DI dec c)/\h'=Ag (Iq roots C A s dec st) Ad:=by
 have hdl:(dec++[c]).length=dec.length+1:=by simp
 refine Cm (MC ⟨[3],[],[],[],[],[],[],[],[(23,3)],[],[]⟩) [(1000,1000),(1001,1001),(1002,1002),(1003,1003),(1004,1004)] rfl Cu hm rfl Tryz.func137 aa0 rfl (Nz rfl) aa0 rfl (Xi {i:Nat // i<=c.rel.reqs.length/\∀k q,k<i->c.rel.reqs[k]?=some q->WL (dec++[c]) q=false} (Xi (fun q=>⟨[(0,.ref 1000 0),(3,.ref 3 0),(4,.ref 4 0),(12,sl A2 c.rel.reqs),(13,vi (c.rel.reqs.map A2).length),(14,vi q.1)],[(3,.ro (AF c)),(4,.cells [vs ⟨#[]⟩,nzA,vs ⟨#[]⟩,vi 0,vi 0]),(1000,.cells (srM roots C A s dec 1004 st.length)),(1001,.tok 6 s.infs.length),(1002,.tok 1 s.drv.length),(1003,.map Em (FO 0 s.infs)),(1004,.arr 1 (st.map Bi))],Ad⟩) (Xi (fun q=>c.rel.reqs.length-q.1) (Yi (Xi ⟨0,AE _,fun k q h=>absurd h (FM k)⟩ ?_) ?_))))
 .exact⟨Z6,Z7,Fh,BQ aa0⟩
 intro⟨i,i1,i2⟩;refine Yi (fun h1=>?_) (fun h1=>?_)
 .have h1:(i:Int)<((c.rel.reqs.map A2).length:Int):=h1;have n1:=Lu h1;refine Xi (A2 c.rel.reqs[i]) (Yi (Y4 n1) (Yi rfl (yN (yN (Xi _ (Xi _ (Yi aa0 (Yi (uV dec (A9 hd Cl)) (yN ?_)))))))));have b2:CR 10 [(AF c)]/\(dec.map AF).length=(dec.map AF).length/\((dec.map AF).length+([(AF c)]:List (List AV)).length)*128<=140737488355328/\(dec.map AF).length+([(AF c)]:List (List AV)).length<=9223372036854775807:=⟨⟨rfl,trivial⟩,rfl,(by simp only[Lm,Al,Ax];omega),(by simp only[Lm,Al,Ax];omega)⟩;refine Yi b2 (Yi aa0 (Xi {j:Nat // j<=(dec++[c]).length/\∀m d,m<j->(dec++[c])[m]?=some d->(decide (d.rel.path=c.rel.reqs[i].path)&&!has c.rel.reqs[i].set d.place)=false} (Xi (fun q=>⟨[(0,.ref 1000 0),(3,.ref 3 0),(4,.ref 4 0),(6,vi i),(7,.ref 7 0),(12,sl A2 c.rel.reqs),(13,vi (c.rel.reqs.map A2).length),(14,vi i),(26,.slice (.id 12300 10) ((dec++[c]).map AF)),(27,vi ((dec++[c]).map AF).length),(28,vi q.1)],[(3,.ro (AF c)),(4,.cells [vs ⟨#[]⟩,nzA,vs ⟨#[]⟩,vi 0,vi 0]),(7,.cells (A2 c.rel.reqs[i])),(1000,.cells (srM roots C A s dec 1004 st.length)),(1001,.tok 6 s.infs.length),(1002,.tok 1 s.drv.length),(1003,.map Em (FO 0 s.infs)),(1004,.arr 1 (st.map Bi)),(12300,.tok 10 ((dec++[c]).map AF).length)],Ad⟩) (Xi (fun q=>(dec++[c]).length-q.1) (Yi (Xi ⟨0,AE _,fun k q h=>absurd h (FM k)⟩ ?_) ?_)))))
  .exact⟨⟨Zr,Zr,Zr,Zr,Zr,Zr,Zr,Zr,⟨tkA,rfl⟩,⟨(show vi ((dec.map AF++[AF c]:List (List AV)).length:Int)=vi (((dec++[c]).map AF).length:Int) by rw[Az];rfl),rfl⟩,Zr,Tv⟩,⟨Zr,Zr,Zr,Zr,Zr,Zr,Zr,Zr,⟨(show HO.tok 10 ((dec.map AF).length+[AF c].length)=.tok 10 ((dec++[c]).map AF).length by simp),rfl⟩,Tv⟩,Fh,BQ aa0⟩
  intro⟨j,j1,j2⟩;refine Yi (fun h3=>?_) (fun h3=>?_)
  .have h3:(j:Int)<(((dec++[c]).map AF).length:Int):=h3;have n3:=Lu h3;refine Xi (AF ((dec++[c])[j])) (Yi (Y4 n3) (Yi rfl (yN (yN (Yi (fun h4=>?_) (fun h4=>?_))))))
   .have h4:(((dec++[c])[j]).rel.path:ByteArray)=c.rel.reqs[i].path:=h4;refine BL (Bt (has c.rel.reqs[i].set (dec++[c])[j].place)) (fun h5=>?_) (fun h5=>?_)
    .have h5:(has c.rel.reqs[i].set (dec++[c])[j].place)=true:=h5;refine Xi .pure (Xi _ (Yi (cb h5 (td c.rel.reqs[i].set (dec++[c])[j].place (hq _ (Aq _)))) (Yi (Ii j ch) ?_)));refine Xi ⟨j+1,by omega,fun m d hm hd=>by
       by_cases e:m=j
       .subst e;rw[Ge n3]at hd;cases hd;exact by rw[h5];simp
       .exact j2 m d ch hd⟩ ?_
     exact⟨by show(dec++[c]).length-(j+1)<(dec++[c]).length-j;omega,Z11,Z9,Fh,BQ aa0⟩
    have h5:(has c.rel.reqs[i].set (dec++[c])[j].place)=false:=h5;refine Xi .pure (Xi _ (Yi (cb h5 (td c.rel.reqs[i].set (dec++[c])[j].place (hq _ (Aq _)))) (yN (yN (yN ?_)))));have eC:=lu (dec:=dec) (c:=c) n1 i2 n3 h4 h5;exact Xi _ (Yi (.refl _) (Yi (show AV.tup [.agg (A6 ⟨c.rel.reqs[i],c.rel.path,c.place,(i:Nat)⟩),vb true]=pE (DI dec c) by rw[eC];rfl) rfl))
   have h4:¬(((dec++[c])[j]).rel.path:ByteArray)=c.rel.reqs[i].path:=h4;refine Yi (Ii j ch) ?_;refine Xi ⟨j+1,by omega,fun m d hm hd=>by
     by_cases e:m=j
     .subst e;rw[Ge n3]at hd;cases hd;exact by rw[Am h4];rfl
     .exact j2 m d ch hd⟩ ?_
   exact⟨by show(dec++[c]).length-(j+1)<(dec++[c]).length-j;omega,Z11,Z9,Fh,BQ aa0⟩
  have h3:¬((j:Int)<(((dec++[c]).map AF).length:Int)):=h3;have n3:=Ip h3;refine Yi (Ii i ch) ?_;have hmq:WL (dec++[c]) c.rel.reqs[i]=false:=mT fun m d hd=>j2 m d (by have:=(Ar.1 hd).1;have q:=h3;rw[Lm]at q;omega) hd;refine Xi ⟨i+1,by omega,fun k q hk hq0=>by
    by_cases e:k=i
    .subst e;rw[Ge n1]at hq0;cases hq0;exact hmq
    .exact i2 k q ch hq0⟩ ?_
  exact⟨Dl c.rel.reqs.length i ch,Z6,Z7,Fh,BQ aa0⟩
 have h1:¬((i:Int)<((c.rel.reqs.map A2).length:Int)):=h1;have n1:=Ip h1;refine yN (yN ?_);have eC:=lw (dec:=dec) (c:=c) fun k q hk=>i2 k q (by have:=(Ar.1 hk).1;have q:=h1;rw[Lm]at q;omega) hk;exact Xi _ (Yi (.refl _) (Yi (show AV.tup [zNd,vb false]=pE (DI dec c) by rw[eC];rfl) rfl))
theorem Po{x:List Rl}{roots:List Rq}{l0:List Nf}:∀{l:List Nf} {d d' : List (List Tm)},(∀i∈l,i∈l0)->(∀t∈d,VY (KY x roots l0) t)->Dj x roots l d=some d'->∀t∈d',VY (KY x roots l0) t
 | [],d,d',_,hd,h=>by cases h;exact hd
 |i::l,d,d',hl,hd,h=>by
  unfold Dj at h;cases hi:D4 x roots d i with
  |none=>rw[hi]at h;cases h
  |some t=>
   rw[hi]at h;refine Po (fun j hj=>hl j (Ae _ hj)) (fun u hu=>?_) h;rcases AT.1 hu with hu | hu
   .exact hd u hu
   .rw[Aj.1 hu];exact iG (hl i (Ab ..)) hd hi
section
variable {x:List Rl}{roots:List Rq}{s:SS}
theorem FG.few(hx:Bd x=0)(hr:B5 roots=0)(h:FG x roots s):∀t∈s.drv,su t:=fun t ht=>
 (Po (l0:=s.infs) (fun _ h=>h) (fun _ h=>by cases h) h.der t ht).fewI (dt hx hr h.len)
theorem Ix{l:List Tm}(h:s.infs.Nodup):(Eg s i l).2.infs.Nodup:=by
 cases hk:MI i 0 s.infs with
 |some k=>rw[Ze hk];exact h
 |none=>
  by_cases hf:65536<=s.infs.length
  .rw[V4 hk hf];exact h
  .rw[Zc hk hf];show(s.infs++[i]).Nodup;rw[GK];refine⟨h,by simp,fun a ha b hb e=>?_⟩;rw[Aj.1 hb]at e;exact Rk hk (e▸ha)
theorem LP.add(h:LP x roots s){l:List Tm}(hi:D4 x roots s.drv i=some l):LP x roots (Eg s i l).2/\(Eg s i l).1<(Eg s i l).2.drv.length/\s.drv.length<=(Eg s i l).2.drv.length:=
 ⟨⟨(Lh h.der hi).1,Ix h.nodup⟩,(Lh h.der hi).2.1,(Li s i l).len⟩
theorem LP.dl(h:LP x roots s):s.infs.length<=65536/\s.drv.length=s.infs.length/\s.drv.length<=65536:=by
 have h1:=h.der.dlen;have h2:=h.der.len;exact⟨h2,h1,by omega⟩
theorem m7(hx:Bd x=0)(p:ByteArray):∀d,D4 x roots d ⟨2,p,0,0,0,0⟩=some (If p (B8 x p)):=fun d=>by
 obtain⟨u,u0,u1,hu⟩:=fQ hx p;have hV:Gz []:=fun _ h=>by cases h
 have ou:Y8 [] p (KX [] p (Ql u)):=.ver hV (Fo ⟨u0,u1⟩);have h1:Bf [(⟨p,false,EC (B8 x p)⟩:Tm)] (KX [] p (Ql u))=true:=by
  rw[Bz];intro t ht;rw[Aj.1 ht];show Dp _ (Ct (KX [] p (Ql u)) p)=true;rw[IF rfl];show(B3 (Ql u)&&has (EC (B8 x p)) (place (Ql u)))=true;rw[Fo ⟨u0,u1⟩,HD,FX,hu];unfold MF;simp[u0,u1]
 have h2:Bf [(⟨p,false,EC (B8 x p)⟩:Tm)] []=false:=rfl;have Dv:If p (B8 x p)≠[]:=by
  have c1:=Dd (l:=[(⟨p,false,EC (B8 x p)⟩:Tm)]) ou.val;have c2:=Dd (l:=[(⟨p,false,EC (B8 x p)⟩:Tm)]) hV;rw[h1]at c1;rw[h2]at c2;unfold If Rg;cases hc:CW [(⟨p,false,EC (B8 x p)⟩:Tm)]with
  |none=>rw[hc]at c1;cases c1
  |some c=>
   rw[hc]at c2;intro e;have e:c=[]:=e;rw[e]at c2;cases c2
 unfold D4;rw[Ah (show ¬((2:Int)=0) by decide),Ah (show ¬((2:Int)=1) by decide),As rfl,As ⟨rfl,rfl,rfl,rfl⟩];unfold iW;rw[Ah (by rw[Hf];exact Dv)]
theorem E3(h:k<s.drv.length):s.drv[k]?=some (Eo s k):=by
 unfold Eo;rw[BU,Ge h];rfl
theorem Uy{L:List Nat}(hj:j<L.length)(h:s.full=true\/DZ (Eo s k) p=false):Cj p (L.drop j) k s=(k,s):=by
 rw[AY hj];unfold Cj;rw[As h]
theorem cZ{L:List Nat}(hj:j<L.length)(h1:¬(s.full=true\/DZ (Eo s k) p=false))(h:L[j]=k):Cj p (L.drop j) k s=Cj p (L.drop (j+1)) k s:=by
 rw[AY hj]
 conv=>lhs;unfold Cj
 rw[Ah h1,As h]
theorem iN{L:List Nat}(hj:j<L.length)(h1:¬(s.full=true\/DZ (Eo s k) p=false))(h2:¬L[j]=k)(h:(BK (Eo s k) (Eo s L[j]) p).2≠0):Cj p (L.drop j) k s=Cj p (L.drop (j+1)) k s:=by
 rw[AY hj]
 conv=>lhs;unfold Cj
 rw[Ah h1,Ah h2,As h]
theorem iM{L:List Nat}(hj:j<L.length)(h1:¬(s.full=true\/DZ (Eo s k) p=false))(h2:¬L[j]=k)(h:(BK (Eo s k) (Eo s L[j]) p).2=0) :
  Cj p (L.drop j) k s=Cj p (L.drop (j+1)) (Eg s ⟨3,p,0,0,(k:Nat),(L[j]:Nat)⟩ (BK (Eo s k) (Eo s L[j]) p).1).1 (Eg s ⟨3,p,0,0,(k:Nat),(L[j]:Nat)⟩ (BK (Eo s k) (Eo s L[j]) p).1).2:=by
 rw[AY hj]
 conv=>lhs;unfold Cj
 rw[Ah h1,Ah h2,Ah (fun h3=>h3 h)]
end
theorem Fw{t:List Tm}(h:su t):Cw t:=by have:=h.1;unfold Cw;omega
theorem s91(x:List Rl)(roots:List Rq)(C A:List (Value×AV))(s:SS)(dec:List Cd)(st:List (List Sk))(p:ByteArray)(n:Nd)(rs:List Nat)(V:AV)(hx:Bd x=0)(hr:B5 roots=0)(hs:LP x roots s)(tR:∀d,D4 x roots d (NT n)=some (H9 n))(zS:∀r∈rs,r<s.drv.length)(Uk:rs.length<=1073741823)(hnq:Cw n.rq.set)(hnp:A5 (n.place+1))
  (xq:∀a,(Value.string p,a)∈A->a=V) (xt:(∀a,(Value.string p,a)∉A)->V=nzA) (xu:∀h,PC 233 [vs p,str h V] (sl AO (If p (B8 x p)))):Bb Tryz.prog 186 [.ref 1000 0,vs p,.agg (A6 n),sl CP rs] (Ag (Iq roots C A s dec st) Ad) fun r h'=>so roots C A dec st (DT x p n rs s) r h':=by
 have hw:=hs.dl;obtain⟨vN,qb,VL⟩:=hs.add (tR s.drv)
 change LP x roots (BD s n).2 at vN
 change (BD s n).1<(BD s n).2.drv.length at qb
 change s.drv.length<=(BD s n).2.drv.length at VL
 have LN:=vN.dl;obtain⟨vO,IA,kh⟩:=vN.add (m7 hx p (BD s n).2.drv)
 change LP x roots (Ej x p (BD s n).2).2 at vO
 change (Ej x p (BD s n).2).1<(Ej x p (BD s n).2).2.drv.length at IA
 change (BD s n).2.drv.length<=(Ej x p (BD s n).2).2.drv.length at kh
 obtain⟨L,hL⟩:∃L,L=(Ej x p (BD s n).2).1::rs:=⟨_,rfl⟩;have hLr:∀r∈L,r<(Ej x p (BD s n).2).2.drv.length:=fun r qj=>by
  rw[hL]at qj;rcases Ay.1 qj with rfl | h
  .exact IA
  .have:=zS r h;omega
 have hLl:L.length=rs.length+1:=by rw[hL];rfl
 have qb:(BD s n).1<(Ej x p (BD s n).2).2.drv.length:=by omega
 refine Cm (MC (pC [6] [3,7,8,10])) [(1000,1000),(1001,1001),(1002,1002),(1003,1003),(1004,1004)] rfl Cu hm rfl Tryz.func186 aa0 rfl (Nz rfl) aa0 rfl (yN (Xi (.gen VX 0) (Yi rfl (Bb.imp (s88 roots C A s dec st n hw.1 hw.2.1 hs.nodup hnq hnp) ?_))));intro v1 g1 q1;have dA:=q1.1;have dB:=q1.2;subst dA;subst dB;refine PE V nzA xq xt (fun h=>h) (Xi .pure (Xi _ (Yi (xu _) (Xi (.gen VX 0) (Yi rfl (Bb.imp (rg roots C A (BD s n).2 dec st ⟨2,p,0,0,0,0⟩ (If p (B8 x p)) LN.1 LN.2.1 vN.nodup) ?_))))));intro v2 g2 q2;have q2a:=q2.1;have q2b:=q2.2;subst q2a;subst q2b;refine cU [(0,.ref 1000 0),(1,vs p),(3,sl CP rs),(9,vi (((BD s n).1:Nat):Int)),(10,vi (((Ej x p (BD s n).2).1:Nat):Int))] [(1000,.cells [sl A2 roots,.cmap Ek C,.cmap Ek A,.slice (.id 1001 6) ((Ej x p (BD s n).2).2.infs.map CX),.slice (.id 1002 1) ((Ej x p (BD s n).2).2.drv.map CG),.mref 1003,vb (Ej x p (BD s n).2).2.full,sl AF dec,sl Ao (AG dec),.msl 1004 st.length]),(1001,.tok 6 (Ej x p (BD s n).2).2.infs.length),(1002,.tok 1 (Ej x p (BD s n).2).2.drv.length),(1003,.map Em (FO 0 (Ej x p (BD s n).2).2.infs)),(1004,.arr 1 (st.map Bi))] Z5 Z5 ?_
 have b3:CR 1 (rs.map CP)/\([[vi (((Ej x p (BD s n).2).1:Nat):Int)]]:List (List AV)).length=1/\(([[vi (((Ej x p (BD s n).2).1:Nat):Int)]]:List (List AV)).length+(rs.map CP).length)*8<=140737488355328/\([[vi (((Ej x p (BD s n).2).1:Nat):Int)]]:List (List AV)).length+(rs.map CP).length<=9223372036854775807:=⟨(Fj (enc:=CP) (n:=1) (fun _=>rfl) rs),(by first | (simp;done) | (rw[Lm];assumption)),(by simp only[Lm,Al,Ax];omega),(by simp only[Lm,Al,Ax];omega)⟩
 refine Yi b3 (Xi {q:Nat×Nat×SS // q.1<=L.length/\Cj p (L.drop q.1) q.2.1 q.2.2=Cj p L (BD s n).1 (Ej x p (BD s n).2).2/\LP x roots q.2.2/\q.2.1<q.2.2.drv.length/\∀r∈L,r<q.2.2.drv.length} (Xi (fun q=>⟨[(0,.ref 1000 0),(1,vs p),(9,vi q.1.2.1),(33,.slice (.id 31 1) (L.map CP)),(34,vi (L.map CP).length),(35,vi q.1.1)],[(31,.tok 1 (L.map CP).length),(1000,.cells (srM roots C A q.1.2.2 dec 1004 st.length)),(1001,.tok 6 q.1.2.2.infs.length),(1002,.tok 1 q.1.2.2.drv.length),(1003,.map Em (FO 0 q.1.2.2.infs)),(1004,.arr 1 (st.map Bi))],Ad⟩) (Xi (fun q=>L.length-q.1.1) (Yi (Xi ⟨(0,(BD s n).1,(Ej x p (BD s n).2).2),AE _,by rw[List.drop_zero],vO,qb,hLr⟩ ?_) ?_))))
 .exact⟨⟨Zr,Zr,Zr,⟨(show AV.slice (.id 31 1) ([[vi (((Ej x p (BD s n).2).1:Nat):Int)]]++rs.map CP)=.slice (.id 31 1) (L.map CP) by rw[hL];rfl),rfl⟩,⟨(show vi (([[vi (((Ej x p (BD s n).2).1:Nat):Int)]]++rs.map CP:List (List AV)).length:Int)=vi ((L.map CP).length:Int) by rw[hL];rfl),rfl⟩,Zr,Tv⟩,⟨⟨(show HO.tok 1 (([[vi (((Ej x p (BD s n).2).1:Nat):Int)]]:List (List AV)).length+(rs.map CP).length)=.tok 1 (L.map CP).length by rw[hL];simp[Nat.add_comm]),rfl⟩,Zr,Zr,Zr,Zr,Zr,Tv⟩,Fh,BQ aa0⟩
 intro⟨⟨j,k,S⟩,j1,j2,j3,j4,j5⟩;have hw3:=j3.dl;have zJ:=j3.der.few hx hr;have gk:S.drv[k]?=some (Eo S k):=E3 j4;refine Yi (fun h4=>?_) (fun h4=>?_)
 .have h4:(j:Int)<((L.map CP).length:Int):=h4;have n4:=Lu h4;refine Xi (CP L[j]) (Yi (Y4 n4) (Yi rfl (Yi (fun h5=>?_) (fun h5=>?_))))
  .refine cU [(9,vi k)] [(1000,.cells (srM roots C A S dec 1004 st.length)),(1001,.tok 6 S.infs.length),(1002,.tok 1 S.drv.length),(1003,.map Em (FO 0 S.infs)),(1004,.arr 1 (st.map Bi))] Z1 Z5 ?_
   have eR:Cj p L (BD s n).1 (Ej x p (BD s n).2).2=(k,S):=by rw[<-j2];exact Uy n4 (.inl h5)
   have eL:DT x p n rs s=(k,S):=by unfold DT;rw[<-hL];exact eR
   exact Xi _ (Yi (.refl _) (Yi (show vi (k:Int)=vi (((DT x p n rs s).1:Nat):Int) by rw[eL]) (show Ag (Iq roots C A S dec st) Ad=Ag (Iq roots C A (DT x p n rs s).2 dec st) Ad by rw[eL])))
  refine Xi (CG (Eo S k)) (Yi (Yi (Nn k) (Ee gk)) (Yi rfl (BL (Bt (DZ (Eo S k) p)) (fun h7=>?_) (fun h7=>?_))))
  .refine Xi .pure (Xi _ (Yi (cb h7 (o5 (Eo S k) p (Fw (zJ _ (Av (E3 j4)))))) (cU [(0,.ref 1000 0),(1,vs p),(9,vi k),(12,vi (L[j]:Nat)),(33,.slice (.id 31 1) (L.map CP)),(34,vi (L.map CP).length),(35,vi j)] [(31,.tok 1 (L.map CP).length),(1000,.cells (srM roots C A S dec 1004 st.length)),(1001,.tok 6 S.infs.length),(1002,.tok 1 S.drv.length),(1003,.map Em (FO 0 S.infs)),(1004,.arr 1 (st.map Bi))] Z7 Z6 (Yi (fun h8=>?_) (fun h8=>?_)))))
   .refine Yi (Ii j ch) (Xi ⟨(j+1,k,S),DY n4,by rw[<-(cZ (s:=S) (p:=p) (L:=L) (j:=j) (k:=k) n4 (by rw[h5,h7];simp) (by have q:=h8;omega))];exact j2,j3,j4,j5⟩ ?_);exact⟨Dl L.length j ch,Z6,Z6,Fh,BQ aa0⟩
   refine Xi (CG (Eo S k)) (Yi (Yi (Nn k) (Ee gk)) (Yi rfl (Xi (CG (Eo S L[j])) (Yi (Yi (show(0:Int)<=(L[j]:Nat) by omega) (Ee (E3 (j5 _ (Aq n4))))) (Yi rfl ?_)))));have fk:=zJ _ (Av (E3 j4));have fr:=zJ _ (Av (E3 (j5 _ (Aq n4))));refine Xi _ (Yi (AaD (Eo S k) (Eo S L[j]) p fk.1 fr.1 fk.2 fr.2) (Yi aa0 (cU [(0,.ref 1000 0),(1,vs p),(9,vi k),(12,vi (L[j]:Nat)),(13,sl AO (BK (Eo S k) (Eo S L[j]) p).1),(14,vi (BK (Eo S k) (Eo S L[j]) p).2),(33,.slice (.id 31 1) (L.map CP)),(34,vi (L.map CP).length),(35,vi j)] [(31,.tok 1 (L.map CP).length),(1000,.cells (srM roots C A S dec 1004 st.length)),(1001,.tok 6 S.infs.length),(1002,.tok 1 S.drv.length),(1003,.map Em (FO 0 S.infs)),(1004,.arr 1 (st.map Bi))] Z9 Z6 (Yi (fun Nx=>?_) (fun Nx=>?_)))))
   .refine Yi (Ii j ch) (Xi ⟨(j+1,k,S),DY n4,by rw[<-(iN (s:=S) (p:=p) (L:=L) (j:=j) (k:=k) n4 (by rw[h5,h7];simp) (by have q:=h8;omega) Nx)];exact j2,j3,j4,j5⟩ ?_);exact⟨Dl L.length j ch,Z6,Z6,Fh,BQ aa0⟩
   have Nx:((BK (Eo S k) (Eo S L[j]) p).2:Int)=(0:Int):=Bc Nx;refine Xi (.gen VX 0) (Yi rfl (Bb.imp (rg roots C A S dec st ⟨3,p,0,0,(k:Nat),(L[j]:Nat)⟩ (BK (Eo S k) (Eo S L[j]) p).1 hw3.1 hw3.2.1 j3.nodup) ?_));intro v12 g12 YK;have dy:=YK.1;have dz:=YK.2;subst dy;subst dz;refine Yi (Ii j ch) ?_;obtain⟨a1,a2,a3⟩:=j3.add (WA (x:=x) (roots:=roots) (p:=p) j4 (j5 _ (Aq n4)) Nx);refine Xi ⟨(j+1,(Eg S ⟨3,p,0,0,(k:Nat),(L[j]:Nat)⟩ (BK (Eo S k) (Eo S L[j]) p).1).1,(Eg S ⟨3,p,0,0,(k:Nat),(L[j]:Nat)⟩ (BK (Eo S k) (Eo S L[j]) p).1).2),DY n4,by rw[<-(iM (s:=S) (p:=p) (L:=L) (j:=j) (k:=k) n4 (by rw[h5,h7];simp) (by have q:=h8;omega) Nx)];exact j2,a1,a2,fun r hr=>Bx (j5 r hr) a3⟩ ?_;exact⟨Dl L.length j ch,Z6,Z6,Fh,BQ aa0⟩
  refine Xi .pure (Xi _ (Yi (cb h7 (o5 (Eo S k) p (Fw (zJ _ (Av (E3 j4)))))) (cU [(9,vi k)] [(1000,.cells (srM roots C A S dec 1004 st.length)),(1001,.tok 6 S.infs.length),(1002,.tok 1 S.drv.length),(1003,.map Em (FO 0 S.infs)),(1004,.arr 1 (st.map Bi))] Z1 Z5 ?_)))
  have eR:Cj p L (BD s n).1 (Ej x p (BD s n).2).2=(k,S):=by rw[<-j2];exact Uy n4 (.inr h7)
  have eL:DT x p n rs s=(k,S):=by unfold DT;rw[<-hL];exact eR
  exact Xi _ (Yi (.refl _) (Yi (show vi (k:Int)=vi (((DT x p n rs s).1:Nat):Int) by rw[eL]) (show Ag (Iq roots C A S dec st) Ad=Ag (Iq roots C A (DT x p n rs s).2 dec st) Ad by rw[eL])))
 have n4:=Ip h4;have hj:¬j<L.length:=by have q:=h4;rw[Lm]at q;omega
 have eR:Cj p L (BD s n).1 (Ej x p (BD s n).2).2=(k,S):=by rw[<-j2,EW ch];rfl
 have eL:DT x p n rs s=(k,S):=by unfold DT;rw[<-hL];exact eR
 exact Xi _ (Yi (.refl _) (Yi (show vi (k:Int)=vi (((DT x p n rs s).1:Nat):Int) by rw[eL]) (show Ag (Iq roots C A S dec st) Ad=Ag (Iq roots C A (DT x p n rs s).2 dec st) Ad by rw[eL])))
abbrev bL:HU:=[(1000,1000),(1001,1001),(1002,1002),(1003,1003),(500,1004)]
abbrev srE:List (Nat×HO):=
 [(1000,.cells (srM roots C A s dec 2000 st.length)),(1001,.tok 6 s.infs.length),(1002,.tok 1 s.drv.length),(1003,.map Em (FO 0 s.infs)),(1004,.dead),(2000,.arr 1 (st.map Bi))]
abbrev bM(o:Kg)(r:AV)(h' : Nat->HO):Prop:=r=.tup [vi (o.res:Nat),vb o.found]/\h'=Ag (srE roots C A o.ss o.dec o.stack) Ad
def H64:Prop:=∀(s:SS) (dec:List Cd) (st:List (List Sk)),dec.length<=1000->(∀c∈dec,c.rel.reqs.length<=1073741824) ->
 Bb Tryz.prog 132 [.ref 1000 0] (Ag (Iq roots C A s dec st) Ad) fun r h'=>r=.tup [vs (D6 roots dec).1,sl A6 (D6 roots dec).2]/\h'=Ag (Iq roots C A s dec st) Ad
theorem Oj{roots:List Rq}{C A:List (Value×AV)}{o:Kg}{b:Bool}{s:SS}{dec:List Cd}{st:List (List Sk)}(e:o=⟨k,b,s,dec,st⟩) :
  AV.tup [vi (k:Nat),vb b]=.tup [vi (o.res:Nat),vb o.found]/\Ag (srE roots C A s dec st) Ad=Ag (srE roots C A o.ss o.dec o.stack) Ad:=by rw[e];exact Zr
abbrev bK:HU:=[(1000,1000),(1001,1001),(1002,1002),(1003,1003),(1004,1004),(1005,1005),(1006,1006),(1007,1007),(1008,1008),(1009,1009)]
def Hc:ByteArray×List Nd:=((Dh roots dec).take m).foldl (Ey dec) (mt,[])
theorem aY{roots:List Rq}{dec:List Cd}{m:Nat}{n:Nd}(h:(Dh roots dec)[m]?=some n):Hc roots dec (m+1)=Ey dec (Hc roots dec m) n:=by
 unfold Hc;rw[AZ,h,Ir];rfl
theorem qO{roots:List Rq}{dec:List Cd}{m:Nat}(h:(Dh roots dec).length<=m):Hc roots dec m=D6 roots dec:=by
 unfold Hc D6;rw[AB h]
def F8(j:Nat):Nat:=roots.length+((dec.take j).map fun c=>c.rel.reqs.length).sum
theorem U3:(Rn c).length=c.rel.reqs.length:=LC _ _ _
theorem ji:F8 roots dec 0=roots.length:=by unfold F8;simp
theorem jh{roots:List Rq}{dec:List Cd}(h:j<dec.length):F8 roots dec (j+1)=F8 roots dec j+dec[j].rel.reqs.length:=by
 unfold F8;rw[K9 h,Az,List.sum_append];simp[Nat.add_assoc]
theorem bf:F8 roots dec dec.length=(Dh roots dec).length:=by
 unfold F8 Dh bv;rw[CK,Ac,LC,List.length_flatten,Bw]
 congr 2
 exact Ba fun c _=>(U3 c).symm
theorem iY{roots:List Rq}{dec:List Cd}{i:Nat}(h:i<roots.length):(Dh roots dec)[i]?=some ⟨roots[i],mt,0,(i:Nat)⟩:=by
 unfold Dh bv;rw[AU (by rw[LC];exact h),PU,Ge h,HZ,A7]
theorem ZI{α:Type}:∀{l:List (List α)} {j k:Nat} (hj:j<l.length),k<l[j].length->l.flatten[((l.take j).map List.length).sum+k]?=l[j][k]?
 |y::l,0,k,_,hk=>by
  rw[Bu,List.take_zero,Eb,List.sum_nil,A7,AU (show k<y.length from hk)];rfl
 |y::l,j+1,k,hj,hk=>by
  rw[Bu,Jy,AK,List.sum_cons,A0 ch]
  have:=ZI (l:=l) (j:=j) (k:=k) (by simpa using hj) hk
  rw[show y.length+((l.take j).map List.length).sum+k-y.length=((l.take j).map List.length).sum+k by omega,this]
  rfl
theorem mY{roots:List Rq}{dec:List Cd}(hj:j<dec.length)(hk:k<dec[j].rel.reqs.length):(Dh roots dec)[F8 roots dec j+k]?=some ⟨dec[j].rel.reqs[k],dec[j].rel.path,dec[j].place,(k:Nat)⟩:=by
 unfold Dh bv F8;rw[A0 (by rw[LC];omega),LC];have h:=ZI (l:=dec.map Rn) (j:=j) (k:=k) (by simpa using hj) (by rw[Gd,U3];exact hk);rw[<-List.map_take,Bw,show(List.length ∘ Rn)=fun c=>c.rel.reqs.length from funext U3]at h;rw[show roots.length+((dec.take j).map fun c=>c.rel.reqs.length).sum+k-roots.length=((dec.take j).map fun c=>c.rel.reqs.length).sum+k by omega,h,Gd];unfold Rn;rw[PU,Ge hk,HZ,A7]
abbrev nf:List (Nat×HO):=
  [(1000,.cells (Qh roots C A s dec st.length)),(1001,.tok 6 s.infs.length),(1002,.tok 1 s.drv.length),(1003,.map Em (FO 0 s.infs)),(1004,.arr 1 (st.map Bi)),
   (1005,.cells [.ref 1000 0]),(1006,.cells [vs (Hc roots dec m).1]),(1007,.cells [.slice (.ver 1008 5 m) ((Hc roots dec m).2.map A6)]),(1008,.var 5 m ((Hc roots dec m).2.map A6).length),(1009,.cells [.ref 1000 0])]
noncomputable abbrev cxn(pl:Qn)(l:Nat)(Y:Gh->World->Prop):Cx:=⟨Tryz.prog,og,pl,true,0,fun l' σ' g w=>l'=l->σ'=bK->Y g w⟩
theorem G4.pre{Y':Gh->World->Prop}{l:Nat}{args:List AV}{h0:Nat->HO}{Q:AV->(Nat->HO)->Prop}(h:G4 P Y l args h0 Q)(hp:∀g w,Y' g w->Y g w):G4 P Y' l args h0 Q:=
 fun g w vals q1 q2 q3 q4=>h g w vals q1 q2 q3 (hp g w q4)
theorem Adh:Bb Tryz.prog 192 [.ref 1000 0] (Ag (Iq roots C A s dec st) Ad) fun r h'=>r=.clo 247 [.ref 2000 0]/\h'=Ag (Iq roots C A s dec st++[(2000,.cells [.ref 1000 0])]) Ad:=by
 refine Cm (MC DU) [(1000,1000),(1001,1001),(1002,1002),(1003,1003),(1004,1004),(1,2000)] rfl Cu hm rfl Tryz.func192 aa0 rfl (Nz rfl) aa0 rfl ?_;exact Xi _ (Yi (.refl _) Zr)
theorem Adi(l:Nat)(roots:List Rq)(C A:List (Value×AV))(s:SS)(dec:List Cd)(st:List (List Sk))(hr:roots.length<=1073741824)(hd:dec.length<=1073741824)(rQ:∀c∈dec,c.rel.reqs.length<=1073741824)(hy:∀m n,(Dh roots dec)[m]?=some n->G4 Tryz.prog Y l [.agg (A6 n)] (Ag (nf roots C A s dec st m) Ad) fun r h'=>r=vb true/\h'=Ag (nf roots C A s dec st (m+1)) Ad) :
  NY Tryz.prog Y bK 247 [.v (.func (.yield l) #[] #[]),.ref 1005 0] (Ag (nf roots C A s dec st 0) Ad) fun _ h'=>h'=Ag (nf roots C A s dec st (Dh roots dec).length) Ad:=by
 refine mz (l:=l) (cxn DU l Y) bK rfl Cu hm rfl Tryz.func247 aa0 rfl (Nz rfl) aa0 rfl rfl (Xi {i:Nat // i<=roots.length} (Xi (fun q=>⟨[(0,.v (.func (.yield l) #[] #[])),(1,.ref 1005 0),(12,sl A2 roots),(13,vi (roots.map A2).length),(14,vi q.1)],[(1000,.cells (srM roots C A s dec 1004 st.length)),(1001,.tok 6 s.infs.length),(1002,.tok 1 s.drv.length),(1003,.map Em (FO 0 s.infs)),(1004,.arr 1 (st.map Bi)),(1005,.cells [.ref 1000 0]),(1006,.cells [vs (Hc roots dec q.1).1]),(1007,.cells [.slice (.ver 1008 5 q.1) ((Hc roots dec q.1).2.map A6)]),(1008,.var 5 q.1 ((Hc roots dec q.1).2.map A6).length),(1009,.cells [.ref 1000 0])],Ad⟩) (Xi (fun q=>roots.length-q.1) (Yi (Xi ⟨0,AE _⟩ ?_) ?_))))
 .exact⟨Z5,Z10,Fh,BQ aa0⟩
 intro⟨i,i1⟩;refine Yi (fun h1=>?_) (fun h1=>?_)
 .have h1:(i:Int)<((roots.map A2).length:Int):=h1;have n1:=Lu h1;refine Xi (A2 roots[i]) (Yi (Y4 n1) (Yi rfl (yN (yN (yN (Xi (.gen bK 0) (Yi rfl (G4.imp (G4.pre (hy i ⟨roots[i],mt,0,(i:Nat)⟩ (iY n1)) (fun g w q=>q rfl rfl)) ?_))))))));intro v2 g2 q2;have q2a:=q2.1;have q2b:=q2.2;subst q2a;subst q2b;refine Yi (Ii i ch) (Xi ⟨i+1,by omega⟩ ?_);exact⟨Dl roots.length i ch,Z5,Z10,Fh,BQ aa0⟩
 have h1:¬((i:Int)<((roots.map A2).length:Int)):=h1;have n1:=Ip h1;have hE:i=F8 roots dec 0:=by rw[ji];omega
 refine Xi {j:Nat // j<=dec.length} (Xi (fun q=>⟨[(0,.v (.func (.yield l) #[] #[])),(29,sl AF dec),(30,vi (dec.map AF).length),(31,vi q.1)],[(1000,.cells (srM roots C A s dec 1004 st.length)),(1001,.tok 6 s.infs.length),(1002,.tok 1 s.drv.length),(1003,.map Em (FO 0 s.infs)),(1004,.arr 1 (st.map Bi)),(1005,.cells [.ref 1000 0]),(1006,.cells [vs (Hc roots dec (F8 roots dec q.1)).1]),(1007,.cells [.slice (.ver 1008 5 (F8 roots dec q.1)) ((Hc roots dec (F8 roots dec q.1)).2.map A6)]),(1008,.var 5 (F8 roots dec q.1) ((Hc roots dec (F8 roots dec q.1)).2.map A6).length),(1009,.cells [.ref 1000 0])],Ad⟩) (Xi (fun q=>dec.length-q.1) (Yi (Xi ⟨0,AE _⟩ ?_) ?_)))
 .exact⟨Z4,⟨Zr,Zr,Zr,Zr,Zr,Zr,⟨(show .cells [vs (Hc roots dec i).1]=(.cells [vs (Hc roots dec (F8 roots dec 0)).1]:HO) by rw[hE]),rfl⟩,⟨(show .cells [.slice (.ver 1008 5 i) ((Hc roots dec i).2.map A6)]=(.cells [.slice (.ver 1008 5 (F8 roots dec 0)) ((Hc roots dec (F8 roots dec 0)).2.map A6)]:HO) by rw[hE]),rfl⟩,⟨(show .var 5 i ((Hc roots dec i).2.map A6).length=(.var 5 (F8 roots dec 0) ((Hc roots dec (F8 roots dec 0)).2.map A6).length:HO) by rw[hE]),rfl⟩,Zr,Tv⟩,Fh,BQ aa0⟩
 intro⟨j,j1⟩;refine Yi (fun h4=>?_) (fun h4=>?_)
 .have h4:(j:Int)<((dec.map AF).length:Int):=h4;have n4:=Lu h4;have zH:=rQ dec[j] (Aq n4);refine Xi (AF dec[j]) (Yi (Y4 n4) (Yi rfl (yN (yN (Xi {k:Nat // k<=dec[j].rel.reqs.length} (Xi (fun q=>⟨[(0,.v (.func (.yield l) #[] #[])),(6,.ref 6 0),(29,sl AF dec),(30,vi (dec.map AF).length),(31,vi j),(37,sl A2 dec[j].rel.reqs),(38,vi (dec[j].rel.reqs.map A2).length),(39,vi q.1)],[(6,.cells (AF dec[j])),(1000,.cells (srM roots C A s dec 1004 st.length)),(1001,.tok 6 s.infs.length),(1002,.tok 1 s.drv.length),(1003,.map Em (FO 0 s.infs)),(1004,.arr 1 (st.map Bi)),(1005,.cells [.ref 1000 0]),(1006,.cells [vs (Hc roots dec (F8 roots dec j+q.1)).1]),(1007,.cells [.slice (.ver 1008 5 (F8 roots dec j+q.1)) ((Hc roots dec (F8 roots dec j+q.1)).2.map A6)]),(1008,.var 5 (F8 roots dec j+q.1) ((Hc roots dec (F8 roots dec j+q.1)).2.map A6).length),(1009,.cells [.ref 1000 0])],Ad⟩) (Xi (fun q=>dec[j].rel.reqs.length-q.1) (Yi (Xi ⟨0,AE _⟩ ?_) ?_))))))))
  .exact⟨Z8,Z11,Fh,BQ aa0⟩
  intro⟨k,k1⟩;have k1:k<=dec[j].rel.reqs.length:=k1;refine Yi (fun h5=>?_) (fun h5=>?_)
  .have h5:(k:Int)<((dec[j].rel.reqs.map A2).length:Int):=h5;have n5:=Lu h5;refine Xi (A2 dec[j].rel.reqs[k]) (Yi (Y4 n5) (Yi rfl (yN (yN (yN (Xi (.gen bK 0) (Yi rfl (G4.imp (G4.pre (hy (F8 roots dec j+k) ⟨dec[j].rel.reqs[k],dec[j].rel.path,dec[j].place,(k:Nat)⟩ (mY n4 n5)) (fun g w q=>q rfl rfl)) ?_))))))));intro v6 g6 q6;have q6a:=q6.1;have q6b:=q6.2;subst q6a;subst q6b;refine Yi (Ii k ch) (Xi ⟨k+1,by omega⟩ ?_);exact⟨by show dec[j].rel.reqs.length-(k+1)<dec[j].rel.reqs.length-k;omega,Z8,Z11,Fh,BQ aa0⟩
  have h5:¬((k:Int)<((dec[j].rel.reqs.map A2).length:Int)):=h5;have n5:=Ip h5;refine Yi (Ii j ch) ?_;have hE:F8 roots dec j+k=F8 roots dec (j+1):=by rw[jh n4];omega
  refine Xi ⟨j+1,by omega⟩ ?_;exact⟨Dl dec.length j ch,Z4,⟨Zr,Zr,Zr,Zr,Zr,Zr,⟨(show .cells [vs (Hc roots dec (F8 roots dec j+k)).1]=(.cells [vs (Hc roots dec (F8 roots dec (j+1))).1]:HO) by rw[hE]),rfl⟩,⟨(show .cells [.slice (.ver 1008 5 (F8 roots dec j+k)) ((Hc roots dec (F8 roots dec j+k)).2.map A6)]=(.cells [.slice (.ver 1008 5 (F8 roots dec (j+1))) ((Hc roots dec (F8 roots dec (j+1))).2.map A6)]:HO) by rw[hE]),rfl⟩,⟨(show .var 5 (F8 roots dec j+k) ((Hc roots dec (F8 roots dec j+k)).2.map A6).length=(.var 5 (F8 roots dec (j+1)) ((Hc roots dec (F8 roots dec (j+1))).2.map A6).length:HO) by rw[hE]),rfl⟩,Zr,Tv⟩,Fh,BQ aa0⟩
 have h4:¬((j:Int)<((dec.map AF).length:Int)):=h4;have n4:=Ip h4;exact Aa (fun m=>Ag (nf roots C A s dec st m) Ad) (show F8 roots dec j=(Dh roots dec).length by rw[<-bf];congr 1;omega)
theorem uF{h:Nat->HO}{r:Nat}{cs:List AV}{K:(Nat->HO)->Prop}(c1:h o=.cells cs)(c2:JG cs k=nzA)(c3:h r=.free)(hk:K (AR (AR h r (.var sz 0 0)) o (.cells (EP cs k (.slice (.ver r sz 0) []))))):vZ h o k r sz K:=by
 unfold vZ;rw[c1];show match JG cs k with
  |.v (.slice none 0 0)=>match h r with
   |.free=>K (AR (AR h r (.var sz 0 0)) o (.cells (EP cs k (.slice (.ver r sz 0) []))))
   |_=>False
  |_=>False
 rw[c2,c3];exact hk
theorem uR{r0:Nat}{QD:Cx}{N:Nat}{fn:Func}{σ:HU}{Q:AV->(Nat->HO)->Prop}{b rest:Code}{st:St}(cs:List AV)(c1:st.h o=.cells cs)(c2:JG cs k=nzA)(c3:st.h r0=.free)(σF σr:HU)(H0 Hn:List (Nat×HO))(gf:Nat)(caps:List AV){Qo s:Nat}{ps:Array Tmp}{Ew body:Code}(hb:b=.block Qo (.rangeFunc (.tmp s) ps Ew body))(k1:(Ef σF&&DC (AR (AR st.h r0 (.var sz 0 0)) o (.cells (EP cs k (.slice (.ver r0 sz 0) [])))) 0 0&&De σF 0 0)=true)(k2:Ft σF (AR (AR st.h r0 (.var sz 0 0)) o (.cells (EP cs k (.slice (.ver r0 sz 0) []))))=Ag H0 Ad)(k3:(E4 σr&&FH σr H0)=true)(k4:FH σr Hn=true)(k5:ren (Cc σF) (AR (AR st.h r0 (.var sz 0 0)) o (.cells (EP cs k (.slice (.ver r0 sz 0) [])))) (st.t s)=.clo gf caps)(k6:∀(l D:Nat) (f' : FuncId) (tm:Array Value),tm.size=N->NY P (fun g w=>w.heap[l]?=some (.loop (Fs f' tm ps Ew body D .ready))/\∀i,Br g w (AN (Ag H0 Ad)) (ren (Cc σF) (AR (AR st.h r0 (.var sz 0 0)) o (.cells (EP cs k (.slice (.ver r0 sz 0) [])))) (st.t i)) (tm.getD i undef)) σr gf
   (.v (.func (.yield l) #[] #[])::caps) (Ag H0 Ad) fun _ h'=>h'=Ag Hn Ad)(k7:DJ N rest=true)(k8:NZ QD rest (VH QD fn.results.toList σr fun r h'=>Q (ren (Cc σ) (Ei σF 0 0 (AR (AR st.h r0 (.var sz 0 0)) o (.cells (EP cs k (.slice (.ver r0 sz 0) [])))) h') (ren (Fv σF 0 0) h' r)) (Ft σ (Ei σF 0 0 (AR (AR st.h r0 (.var sz 0 0)) o (.cells (EP cs k (.slice (.ver r0 sz 0) [])))) h')))
   ⟨fun i=>ren (Cc σF) (AR (AR st.h r0 (.var sz 0 0)) o (.cells (EP cs k (.slice (.ver r0 sz 0) [])))) (st.t i),Ag Hn Ad⟩)(k9:MB [] body=false:=by kernel_rfl):RfV o k r0 sz QD P N fn σ Q b rest st:=
 uF c1 c2 c3 ⟨σF,σr,H0,Hn,Qo,s,ps,Ew,body,gf,caps,hb,k1,k2,k3,k4,k5,k6,k7,k9,k8⟩
section
variable {roots:List Rq}{C A:List (Value×AV)}{s:SS}{dec:List Cd}{st:List (List Sk)}{n:Nd}
theorem UO{m:Nat}{o:List Nd}(e:Hc roots dec (m+1)=(p,o)){es:List (List AV)}(h1:es=o.map A6)(h2:k=es.length) :
  Ag [(1000,.cells (Qh roots C A s dec st.length)),(1001,.tok 6 s.infs.length),(1002,.tok 1 s.drv.length),(1003,.map Em (FO 0 s.infs)),(1004,.arr 1 (st.map Bi)),
   (1005,.cells [.ref 1000 0]),(1006,.cells [vs p]),(1007,.cells [.slice (.ver 1008 5 (m+1)) es]),(1008,.var 5 (m+1) k),(1009,.cells [.ref 1000 0])] Ad=Ag (nf roots C A s dec st (m+1)) Ad:=by
 subst h1;subst h2
 rw[show nf roots C A s dec st (m+1)=[(1000,.cells (Qh roots C A s dec st.length)),(1001,.tok 6 s.infs.length),(1002,.tok 1 s.drv.length),(1003,.map Em (FO 0 s.infs)),(1004,.arr 1 (st.map Bi)),
   (1005,.cells [.ref 1000 0]),(1006,.cells [vs (Hc roots dec (m+1)).1]),(1007,.cells [.slice (.ver 1008 5 (m+1)) ((Hc roots dec (m+1)).2.map A6)]),(1008,.var 5 (m+1) ((Hc roots dec (m+1)).2.map A6).length),(1009,.cells [.ref 1000 0])]from rfl,e]
theorem nh{a:ByteArray×List Nd}(h:Da dec n.rq.path=true):Ey dec a n=(a.1,a.2):=by unfold Ey;rw[As (.inl h)]
theorem mX{o:List Nd}(h:(0:Int)<((o.map A6).length:Int)):o≠[]:=fun e=>by subst e;simp at h
theorem qJ{o:List Nd}(h:¬(0:Int)<((o.map A6).length:Int)):o=[]:=by
 cases o with
 |nil=>rfl
 |cons y l=>exact absurd B0 h
theorem qP{a:ByteArray×List Nd}(h:(0:Int)<((a.2.map A6).length:Int))(hb:FQ a.1 n.rq.path=true):Ey dec a n=(a.1,a.2):=by unfold Ey;rw[As (.inr ⟨mX h,hb⟩)]
theorem nk{a:ByteArray×List Nd}(hd:Da dec n.rq.path=false)(h:(0:Int)<((a.2.map A6).length:Int))(hb:FQ a.1 n.rq.path=false)(hs:FQ n.rq.path a.1=true):Ey dec a n=(n.rq.path,[n]):=by
 unfold Ey;rw[Ah (by rw[hd,hb];simp),As ⟨mX h,hs⟩]
theorem nl{a:ByteArray×List Nd}(hd:Da dec n.rq.path=false)(hb:FQ a.1 n.rq.path=false)(hs:FQ n.rq.path a.1=false):Ey dec a n=(n.rq.path,a.2++[n]):=by
 unfold Ey;rw[Ah (by rw[hd,hb];simp),Ah (by rw[hs];simp)]
theorem qR{a:ByteArray×List Nd}(hd:Da dec n.rq.path=false)(h:¬(0:Int)<((a.2.map A6).length:Int)):Ey dec a n=(n.rq.path,a.2++[n]):=by
 have:=qJ h
 unfold Ey;rw[Ah (by rw[hd,this];simp),Ah (by rw[this];simp)]
theorem qQ(a:ByteArray×List Nd)(n:Nd):(Ey dec a n).2.length<=a.2.length+1:=by
 unfold Ey;split
 .omega
 .split
  .simp
  .simp
theorem fm:∀(m:Nat),(Hc roots dec m).2.length<=m
 |0=>Ai _
 |m+1=>by
  have ih:=fm m;cases h:(Dh roots dec)[m]? with
  |none=>
   have e:Hc roots dec (m+1)=Hc roots dec m:=by unfold Hc;rw[AZ,h];simp
   rw[e];omega
  |some n=>rw[aY h];exact A9 (qQ _ _) (EI ih)
theorem bB:∀{l l' : List (Nat×HO)},l.map Prod.fst=l'.map Prod.fst->(∀p∈l',p.2≠.free)->∀i,AN (Ag l Ad) i->AN (Ag l' Ad) i
 | [],[],_,_,_,h=>h
 |(a,o)::l,(a',o')::l',e,h,i,hu=>by
  rw[AK,AK]at e
  injection e with e1 e2
  have e1:a=a':=e1;subst e1;unfold AN at *
  by_cases q:i=a
  .subst q;simp only[Ag,CU,Kr];exact h _ (Ab ..)
  .simp only[Ag,B9 q,Eh]at hu⊢;exact bB e2 (fun p hp=>h p (Ae _ hp)) i hu
theorem ng:∀i,AN (Ag (nf roots C A s dec st 0) Ad) i->AN (Ag (nf roots C A s dec st m) Ad) i:=bB rfl (by
 repeat (first | exact FR _ | refine GJ.2 ⟨by simp,?_⟩))
theorem fN:∀{l:List Cd},(∀c∈l,c.rel.reqs.length<=1073741824)->((l.map fun c=>c.rel.reqs.length)).sum<=l.length*1073741824
 | [],_=>by simp
 |c::l,h=>by
  have h1:=h c (Ab ..);have h2:=fN fun c hc=>h c (Ae _ hc);rw[AK,List.sum_cons,Al];omega
theorem iZ(hr:roots.length<=1073741824)(hd:dec.length<=1000)(h:∀c∈dec,c.rel.reqs.length<=1073741824):(Dh roots dec).length<=1074815565824:=by
 rw[<-bf];unfold F8;rw[CK]
 have:=fN h
 have:=Bh 1073741824 hd
 omega
end
theorem aI:l.map A6++[A6 n]=(l++[n]).map A6:=by rw[Az];rfl
theorem PM:(l.map A6).length+([A6 n]:List (List AV)).length=(l.map A6++[A6 n]).length:=Ac.symm
attribute [local irreducible] RfV vZ Hc Dh Ey
theorem s64(hr:roots.length<=1073741824)(hd:dec.length<=1000)(rQ:∀c∈dec,c.rel.reqs.length<=1073741824) :
  Bb Tryz.prog 132 [.ref 1000 0] (Ag (Iq roots C A s dec st) Ad) fun r h'=>r=.tup [vs (D6 roots dec).1,sl A6 (D6 roots dec).2]/\h'=Ag (Iq roots C A s dec st) Ad:=by
 refine fZ 5 0 9 5 (MC DU) (MC DU) VX rfl Cu rfl Cu hm rfl rfl Tryz.func132 aa0 rfl (Nz rfl) aa0 rfl 3 (yN (Xi (.gen VX 1) (Yi rfl (Bb.imp (Adh roots C A s dec st) ?_))));intro v1 g1 q1;have dA:=q1.1;have dB:=q1.2;subst dA;subst dB;refine uR [nzA] aa0 aa0 aa0 [(1000,1000),(1001,1001),(1002,1002),(1003,1003),(1004,1004),(10800,1005),(4,1006),(5,1007),(9,1008),(1,1009)] bK (nf roots C A s dec st 0) (nf roots C A s dec st (Dh roots dec).length) 247 [.ref 1005 0] rfl aa0 aa0 aa0 aa0 aa0 (fun l9 D9 f9 tm9 vQ=>Adi l9 roots C A s dec st hr (A9 hd Cl) rQ fun m n hn=>ka (σ:=bK) 1007 0 1008 (MC ⟨[],[(43,5)],[],[],[],[],[],[],[],[(500005,60001007)],[5]⟩) rfl Cu hm rfl rfl rfl vQ aa0 aa0 aa0 (ng m) ?_) aa0 ?_
 .have hml:m<(Dh roots dec).length:=(Ar.1 hn).1;have hol:=fm (roots:=roots) (dec:=dec) m;have hnl:=iZ hr hd rQ;have hF:=aY hn;refine yN (Yi ⟨rfl,rfl⟩ (cU [(1,.ref 1009 0),(4,.ref 1006 0),(5,.ref 1007 0),(6,.ref 6 0)] [(6,.cells (A6 n)),(60,.tok 5 ((Hc roots dec m).2.map A6).length),(1000,.cells (srM roots C A s dec 1004 st.length)),(1001,.tok 6 s.infs.length),(1002,.tok 1 s.drv.length),(1003,.map Em (FO 0 s.infs)),(1004,.arr 1 (st.map Bi)),(1005,.cells [.ref 1000 0]),(1006,.cells [vs (Hc roots dec m).1]),(1007,.cells [.slice (.id 60 5) ((Hc roots dec m).2.map A6)]),(1008,.vox m),(1009,.cells [.ref 1000 0])] Z4 Z12 (BL (Bt (Da dec n.rq.path)) (fun h2=>?_) (fun h2=>?_))))
  .have hc3:=(za roots C A s dec st n.rq.path (A9 hd Cl));rw[show(Da dec n.rq.path)=true from h2]at hc3;refine Xi (.gen VX 0) (Yi rfl (Bb.imp hc3 ?_));intro v4 g4 q4;have yI:=q4.1;have yJ:=q4.2;subst yI;subst yJ;refine Yi ⟨rfl,rfl⟩ ?_
   -- [('(Da dec n.rq.path)=true',True)]
   exact⟨rfl,UO (hF.trans (nh h2)) rfl rfl⟩
  have hc5:=(za roots C A s dec st n.rq.path (A9 hd Cl));rw[show(Da dec n.rq.path)=false from h2]at hc5;refine Xi (.gen VX 0) (Yi rfl (Bb.imp hc5 ?_));intro v6 g6 q6;have q6a:=q6.1;have q6b:=q6.2;subst q6a;subst q6b;refine Yi (fun h7=>?_) (fun h7=>?_)
  .have n7:0<(Hc roots dec m).2.length:=by have q:=h7;rw[Lm]at q;omega
   refine Yi (fun h8=>?_) (fun h8=>?_)
   .have h8:FQ (Hc roots dec m).1 n.rq.path=true:=(Hy _ _).trans h8;refine Yi ⟨rfl,rfl⟩ ?_
    -- [('(Da dec n.rq.path)=true',False),('(0:Int)<(((Hc roots dec m).2.map A6).length:Int)',True),('FQ (Hc roots dec m).1 n.rq.path=true',True)]
    exact⟨rfl,UO (hF.trans (qP h7 h8)) rfl rfl⟩
   have h8:FQ (Hc roots dec m).1 n.rq.path=false:=(Hy _ _).trans (AH.2 h8);refine Yi (fun _=>?_) (fun hf=>absurd h7 hf);refine Yi (fun h9=>?_) (fun h9=>?_)
   .have h9:FQ n.rq.path (Hc roots dec m).1=true:=(Hy _ _).trans h9;refine yN (yN (yN ?_));have KK:CR 5 [(A6 n)]/\([(A6 n)]:List (List AV)).length*72<=140737488355328/\([(A6 n)]:List (List AV)).length<=9223372036854775807:=⟨⟨rfl,trivial⟩,(by simp only[Al,Ax];omega),(by simp only[Al,Ax];omega)⟩;refine Yi KK (yN (Yi ⟨rfl,rfl⟩ ?_))
    -- [('(Da dec n.rq.path)=true',False),('(0:Int)<(((Hc roots dec m).2.map A6).length:Int)',True),('FQ (Hc roots dec m).1 n.rq.path=true',False),('FQ n.rq.path (Hc roots dec m).1=true',True)]
    exact⟨rfl,UO (hF.trans (nk h2 h7 h8 h9)) rfl rfl⟩
   have h9:FQ n.rq.path (Hc roots dec m).1=false:=(Hy _ _).trans (AH.2 h9);refine yN (yN ?_);have pg:CR 5 [(A6 n)]/\((Hc roots dec m).2.map A6).length=((Hc roots dec m).2.map A6).length/\(((Hc roots dec m).2.map A6).length+([(A6 n)]:List (List AV)).length)*72<=140737488355328/\((Hc roots dec m).2.map A6).length+([(A6 n)]:List (List AV)).length<=9223372036854775807:=⟨⟨rfl,trivial⟩,rfl,(by simp only[Lm,Al,Ax];omega),(by simp only[Lm,Al,Ax];omega)⟩;refine Yi pg (yN (Yi ⟨(PM _ n).symm,rfl⟩ ?_))
   -- [('(Da dec n.rq.path)=true',False),('(0:Int)<(((Hc roots dec m).2.map A6).length:Int)',True),('FQ (Hc roots dec m).1 n.rq.path=true',False),('FQ n.rq.path (Hc roots dec m).1=true',False)]
   exact⟨rfl,UO (hF.trans (nl h2 h8 h9)) (aI _ n) (PM _ n)⟩
  have n7:¬0<(Hc roots dec m).2.length:=by have q:=h7;rw[Lm]at q;omega
  refine Yi (fun hf=>absurd hf h7) (fun _=>?_);refine yN (yN ?_);have zu:CR 5 [(A6 n)]/\((Hc roots dec m).2.map A6).length=((Hc roots dec m).2.map A6).length/\(((Hc roots dec m).2.map A6).length+([(A6 n)]:List (List AV)).length)*72<=140737488355328/\((Hc roots dec m).2.map A6).length+([(A6 n)]:List (List AV)).length<=9223372036854775807:=⟨⟨rfl,trivial⟩,rfl,(by simp only[Lm,Al,Ax];omega),(by simp only[Lm,Al,Ax];omega)⟩;refine Yi zu (yN (Yi ⟨(PM _ n).symm,rfl⟩ ?_))
  -- [('(Da dec n.rq.path)=true',False),('(0:Int)<(((Hc roots dec m).2.map A6).length:Int)',False)]
  exact⟨rfl,UO (hF.trans (qR h2 h7)) (aI _ n) (PM _ n)⟩
 refine Yi aa0 ?_;exact Xi _ (Yi (.refl _) ⟨show AV.tup [vs (Hc roots dec (Dh roots dec).length).1,sl A6 (Hc roots dec (Dh roots dec).length).2]=_ by rw[qO (Ai _)],rfl⟩)
end Go.Eng
namespace Go.Eng
open Go.Proofs
theorem iD{α:Type}(pr:α->Bool)(l:List α):(∃(k:Nat) (n:α),IL pr l 0=(k:Nat)/\l[k]?=some n/\l.find? pr=some n)\/(IL pr l 0=-1/\l.find? pr=none):=by
 have key:∀(l:List α) (b:Nat),(∃(k:Nat) (n:α),IL pr l (b:Nat)=((b+k:Nat):Int)/\l[k]?=some n/\l.find? pr=some n)\/(IL pr l (b:Nat)=-1/\l.find? pr=none):=by
  intro l
  induction l with
  |nil=>intro b;exact .inr Zr
  |cons y l ih=>
   intro b;cases h:pr y with
   |true=>exact .inl ⟨0,y,by unfold IL;rw[As h];rfl,rfl,by rw[D7,h]⟩
   |false=>
    have e:IL pr (y::l) (b:Nat)=IL pr l ((b+1:Nat):Int):=by
     conv=>lhs;unfold IL
     rw[Ah (by rw[h];decide)];rw[show((b+1:Nat):Int)=(b:Int)+1 by omega]
    have e2:(y::l).find? pr=l.find? pr:=by rw[D7,h]
    rcases ih (b+1)with ⟨k,n,h1,h2,h3⟩ | ⟨h1,h2⟩
    .exact .inl ⟨k+1,n,by rw[e,h1];congr 1;omega,by simpa using h2,by rw[e2];exact h3⟩
    .exact .inr ⟨by rw[e];exact h1,by rw[e2];exact h2⟩
 have:=key l 0
 simpa using this
section
variable {rec:List Cd->SS->List (List Sk)->Kg}{x:List Rl}{p:ByteArray}{N:List Nd}{n0:Nd}{dec:List Cd}{st:List (List Sk)}{cs:List Cd}{i:Nat}{S:SS}{rs:List Nat}{sk:List Sk}
theorem lm(h:¬i<cs.length):D3 rec x p N n0 dec st (cs.drop i) S rs sk=⟨(DT x p n0 rs S).1,false,(DT x p n0 rs S).2,dec,st⟩:=by
 rw[EW ch];rfl
theorem pA(h:i<cs.length)(hf:S.full=true):D3 rec x p N n0 dec st (cs.drop i) S rs sk=⟨0,false,S,dec,st⟩:=by
 rw[AY h,Ga,As hf]
theorem wW(h:i<cs.length)(hf:S.full=false){n:Nd}(hn:N.find? (fun n=>!has n.rq.set cs[i].place)=some n):D3 rec x p N n0 dec st (cs.drop i) S rs sk=D3 rec x p N n0 dec st (cs.drop (i+1)) (BD S n).2 (rs++[(BD S n).1]) sk:=by
 rw[AY h,Ga,Ah (by rw[hf];decide),hn]
theorem XR(h:i<cs.length)(hf:S.full=false)(hn:N.find? (fun n=>!has n.rq.set cs[i].place)=none){k:Nat}(he:Ov S.drv (AG (dec++[cs[i]]))=some k):D3 rec x p N n0 dec st (cs.drop i) S rs sk=IY rec x p N n0 dec st cs[i] (cs.drop (i+1)) rs sk k S:=by
 rw[AY h,Ga,Ah (by rw[hf];decide),hn];dsimp only;rw[he]
theorem Zp(h:i<cs.length)(hf:S.full=false)(hn:N.find? (fun n=>!has n.rq.set cs[i].place)=none)(he:Ov S.drv (AG (dec++[cs[i]]))=none){n:Nd}(hc:DI dec cs[i]=some n) :
  D3 rec x p N n0 dec st (cs.drop i) S rs sk=IY rec x p N n0 dec st cs[i] (cs.drop (i+1)) rs sk (BD S n).1 (BD S n).2:=by
 rw[AY h,Ga,Ah (by rw[hf];decide),hn];dsimp only;rw[he];dsimp only;rw[hc]
theorem XS(h:i<cs.length)(hf:S.full=false)(hn:N.find? (fun n=>!has n.rq.set cs[i].place)=none)(he:Ov S.drv (AG (dec++[cs[i]]))=none)(hc:DI dec cs[i]=none){o:Kg}(ho:o=rec (dec++[cs[i]]) S (st++[sk])) :
  D3 rec x p N n0 dec st (cs.drop i) S rs sk=if o.found=true then⟨0,true,o.ss,o.dec,o.stack⟩else if o.ss.full=true then⟨0,false,o.ss,dec,st⟩else IY rec x p N n0 dec st cs[i] (cs.drop (i+1)) rs sk o.res o.ss:=by
 rw[ho,AY h,Ga,Ah (by rw[hf];decide),hn];dsimp only;rw[he];dsimp only;rw[hc]
theorem dS{c:Cd}{l:List Cd}{k:Nat}(h:DZ (Eo S k) p=false):IY rec x p N n0 dec st c l rs sk k S=⟨k,false,S,dec,st⟩:=by unfold IY;rw[As h]
theorem XE{c:Cd}{l:List Cd}{k:Nat}(h:DZ (Eo S k) p=true):IY rec x p N n0 dec st c l rs sk k S=D3 rec x p N n0 dec st l S (rs++[k]) (sk++[⟨p,c.place,(k:Nat)⟩]):=by unfold IY;rw[Ah (by rw[h];decide)]
end
theorem TP{x:List Rl}{dec:List Cd}(h:EG x dec):dec.length<=x.length:=by
 have h1:=IS (m:=x.map (·.path)) h.nodup fun p hp=>by
  obtain⟨c,hc,rfl⟩:=Ak.1 hp;exact Ak.2 ⟨c.rel,(h.cand c hc).1,rfl⟩
 rw[Lm,Lm]at h1;exact h1
theorem QA(x:List Rl)(p:ByteArray):(Bo x p).length<=x.length:=by
 unfold Bo;rw[Lm];exact BC _ _
end Go.Eng
