/- Lemmas 21. -/
import Derived.Test.YteaiieomnhbmgaaGreatDoorAA20
import Derived.Test.YteaiieomnhbmgaaGreatDoorAA03
set_option maxHeartbeats 4000000
namespace Go.Eng
open Go.Proofs Go.Proofs.Tryz
variable {k:Nat}{p:CS}{Y:Gh->World->Prop}{j:Nat}{P:Program}{o sz:Nat}{i:Nf}(l:List Nd)(roots:List Rq)(C A:List (Value×AV))(s:SS)(dec:List Cd)(st:List (List Sk))(n:Nd)(c:Cd)(m:Nat)
def WU(l:List Cd)(q:Rq):Bool:=l.any fun d=>decide (d.rel.path=q.path)&&!has q.set d.place
theorem WB{f:Rq->Nat->Nd}{P:Nd->Bool}:∀{l:List Rq} {b i:Nat} {q:Rq},l[i]?=some q->P (f q (b+i))=true->(∀k u,k<i->l[k]?=some u->P (f u (b+k))=false)->(ML f b l).find? P=some (f q (b+i))
 | [],_,_,_,h,_,_=>by simp_all
 |u::l,b,0,q,h,he,_=>by
  grind [ML]
 |u::l,b,i+1,q,h,he,hn=>by
  unfold ML;have h0:P (f u b)=false:=hn 0 u ch rfl;rw[List.find?_cons,h0]
  have:=WB (f:=f) (P:=P) (l:=l) (b:=b+1) (i:=i) (q:=q) B0 aa0 (fun k v hk hv=>by
   grind)
  grind
theorem Pn{f:Rq->Nat->Nd}{P:Nd->Bool}:∀{l:List Rq} {b:Nat},(∀k u,l[k]?=some u->P (f u (b+k))=false)->(ML f b l).find? P=none
 | [],_,_=>rfl
 |u::l,b,h=>by
  unfold ML;have h0:P (f u b)=false:=h 0 u rfl;rw[List.find?_cons,h0];exact Pn fun k v hv=>by rw[show b+1+k=b+(k+1) by omega];simp_all
def zNd:AV:=.agg [vs ⟨#[]⟩,nzA,vs ⟨#[]⟩,vi 0,vi 0]
def wC(o:Option Nd):AV:=match o with | some n=>.tup [.agg (Bn n),vb true] | none=>.tup [zNd,vb false]
section
variable {dec:List Cd}{c:Cd}{i:Nat}
theorem mr(hi:i<c.rel.reqs.length)(hn:∀k q,k<i->c.rel.reqs[k]?=some q->WU (dec++[c]) q=false){j:Nat}(hj:j<(dec++[c]).length)(h1:(dec++[c])[j].rel.path=c.rel.reqs[i].path)(h2:has c.rel.reqs[i].set (dec++[c])[j].place=false) :
  Ek dec c=some ⟨c.rel.reqs[i],c.rel.path,c.place,(i:Nat)⟩:=by
 have:=WB (f:=fun q i=>⟨q,c.rel.path,c.place,(i:Nat)⟩) (P:=gz (dec++[c])) (l:=c.rel.reqs) (b:=0) (i:=i) (q:=c.rel.reqs[i]) (Ge hi)
  (Ce.2 ⟨_,Ai hj,by simp_all⟩) (fun k u hk hu=>hn k u hk hu)
 grind [Ek,Rf]
theorem mu(hn:∀(k:Nat) (q:Rq),c.rel.reqs[k]?=some q->WU (dec++[c]) q=false):Ek dec c=none:=by
 unfold Ek Rf;exact Pn fun k u hu=>hn k u hu
theorem oy{q:Rq}(h:∀(m:Nat) (d:Cd),(dec++[c])[m]?=some d->(decide (d.rel.path=q.path)&&!has q.set d.place)=false):WU (dec++[c]) q=false:=by
 grind [WU,List.mem_iff_getElem?]
end
theorem s87(hq:BD n.rq.set):PC 188 [.agg (Bn n),.cptr (AM c)] (vb (!has n.rq.set c.place)):=by
 refine Ps (pC [2] []) func188 rfl (Nz rfl) (A1 (Bt (has n.rq.set c.place)) (fun h1=>?_) (fun h1=>?_))
 .refine C1 (C2 (cb h1 (mg n.rq.set c.place hq)) ?_);exact .of_eq (show vb false=vb (!has n.rq.set c.place) by simp_all)
 refine C1 (C2 (cb h1 (mg n.rq.set c.place hq)) ?_);exact .of_eq (show vb true=vb (!has n.rq.set c.place) by simp_all)
theorem s69(hd:dec.length<=1073741823)(hr:c.rel.reqs.length<=1073741824)(hq:∀q∈c.rel.reqs,BD q.set):AU Tryz.prog 191 [.ref 1000 0,.agg (AM c)] (Ak (Jm roots C A s dec st) Ae) fun r h'=>r=wC (Ek dec c)/\h'=Ak (Jm roots C A s dec st) Ae:=by
 have hdl:(dec++[c]).length=dec.length+1:=Cl
 refine BX (Ms ⟨[3],[],[],[],[],[],[],[],[(23,3)],[],[]⟩) [(1000,1000),(1001,1001),(1002,1002),(1003,1003),(1004,1004)] rfl Ct hm rfl func191 aa1 rfl (Nz rfl) aa1 rfl (Xi {i:Nat // i<=c.rel.reqs.length/\∀k q,k<i->c.rel.reqs[k]?=some q->WU (dec++[c]) q=false} (Xi (fun q=>⟨[(0,.ref 1000 0),(3,.ref 3 0),(4,.ref 4 0),(12,sl AI c.rel.reqs),(13,vi (c.rel.reqs.map AI).length),(14,vi q.1)],[(3,.ro (AM c)),(4,.cells [vs ⟨#[]⟩,nzA,vs ⟨#[]⟩,vi 0,vi 0]),(1000,.cells (srM roots C A s dec 1004 st.length)),(1001,.tok 6 s.infs.length),(1002,.tok 1 s.drv.length),(1003,.map FI (FK 0 s.infs)),(1004,.arr 1 (st.map Bb))],Ae⟩) (Xi (fun q=>c.rel.reqs.length-q.1) (Yi (Xi ⟨0,Aj _,fun k q h=>absurd h (DX k)⟩ ?_) ?_))))
 .exact⟨Z6,Z7,Fh,Bu aa1⟩
 intro⟨i,i1,i2⟩;refine Yi (fun h1=>?_) (fun h1=>?_)
 .have h1:(i:Int)<((c.rel.reqs.map AI).length:Int):=h1;have n1:=Dh h1;refine Xi (AI c.rel.reqs[i]) (Yi (DC n1) (Yi rfl (yN (yN (Xi _ (C2 aa1 (Yi (Acg dec (Av hd Wk)) (yN ?_))))))));have b2:Bi 10 [(AM c)]/\(dec.map AM).length=(dec.map AM).length/\((dec.map AM).length+([(AM c)]:C0).length)*128<=140737488355328/\(dec.map AM).length+([(AM c)]:C0).length<=9223372036854775807:=⟨⟨rfl,trivial⟩,rfl,aa0,aa0⟩;refine Yi b2 (Yi aa1 (Xi {j:Nat // j<=(dec++[c]).length/\∀m d,m<j->(dec++[c])[m]?=some d->(decide (d.rel.path=c.rel.reqs[i].path)&&!has c.rel.reqs[i].set d.place)=false} (Xi (fun q=>⟨[(0,.ref 1000 0),(3,.ref 3 0),(4,.ref 4 0),(6,vi i),(7,.ref 7 0),(12,sl AI c.rel.reqs),(13,vi (c.rel.reqs.map AI).length),(14,vi i),(26,.slice (.id 12300 10) ((dec++[c]).map AM)),(27,vi ((dec++[c]).map AM).length),(28,vi q.1)],[(3,.ro (AM c)),(4,.cells [vs ⟨#[]⟩,nzA,vs ⟨#[]⟩,vi 0,vi 0]),(7,.cells (AI c.rel.reqs[i])),(1000,.cells (srM roots C A s dec 1004 st.length)),(1001,.tok 6 s.infs.length),(1002,.tok 1 s.drv.length),(1003,.map FI (FK 0 s.infs)),(1004,.arr 1 (st.map Bb)),(12300,.tok 10 ((dec++[c]).map AM).length)],Ae⟩) (Xi (fun q=>(dec++[c]).length-q.1) (Yi (Xi ⟨0,Aj _,fun k q h=>absurd h (DX k)⟩ ?_) ?_)))))
  .exact⟨⟨Zr,Zr,Zr,Zr,Zr,Zr,Zr,Zr,⟨tkA,rfl⟩,⟨(show vi ((dec.map AM++[AM c]:C0).length:Int)=vi (((dec++[c]).map AM).length:Int) by simp_all),rfl⟩,Zr,Tv⟩,⟨Zr,Zr,Zr,Zr,Zr,Zr,Zr,Zr,⟨(show HO.tok 10 ((dec.map AM).length+[AM c].length)=.tok 10 ((dec++[c]).map AM).length by simp),rfl⟩,Tv⟩,Fh,Bu aa1⟩
  intro⟨j,j1,j2⟩;refine Yi (fun h3=>?_) (fun h3=>?_)
  .have h3:(j:Int)<(((dec++[c]).map AM).length:Int):=h3;have n3:=Dh h3;refine Xi (AM ((dec++[c])[j])) (Yi (DC n3) (Yi rfl (yN (yN (Yi (fun h4=>?_) (fun h4=>?_))))))
   .have h4:(((dec++[c])[j]).rel.path:CS)=c.rel.reqs[i].path:=h4;refine A1 (Bt (has c.rel.reqs[i].set (dec++[c])[j].place)) (fun h5=>?_) (fun h5=>?_)
    .have h5:(has c.rel.reqs[i].set (dec++[c])[j].place)=true:=h5;refine C1 (C2 (cb h5 (mg c.rel.reqs[i].set (dec++[c])[j].place (hq _ (Ai _)))) (Yi (by grind [Az]) ?_));refine Xi ⟨j+1,by omega,fun m d hm hd=>by
       grind⟩ ?_
     exact⟨by show(dec++[c]).length-(j+1)<(dec++[c]).length-j;omega,Z11,Z9,Fh,Bu aa1⟩
    have h5:(has c.rel.reqs[i].set (dec++[c])[j].place)=false:=h5;refine C1 (C2 (cb h5 (mg c.rel.reqs[i].set (dec++[c])[j].place (hq _ (Ai _)))) (yN (yN (yN ?_))));have eC:=mr (dec:=dec) (c:=c) n1 i2 n3 h4 h5;exact C2 (.refl _) (Yi (show AV.tup [.agg (Bn ⟨c.rel.reqs[i],c.rel.path,c.place,(i:Nat)⟩),vb true]=wC (Ek dec c) by rw[eC];rfl) rfl)
   have h4:¬(((dec++[c])[j]).rel.path:CS)=c.rel.reqs[i].path:=h4;refine Yi (by grind [Az]) ?_;refine Xi ⟨j+1,by omega,fun m d hm hd=>by
     grind⟩ ?_
   exact⟨by show(dec++[c]).length-(j+1)<(dec++[c]).length-j;omega,Z11,Z9,Fh,Bu aa1⟩
  have h3:¬((j:Int)<(((dec++[c]).map AM).length:Int)):=h3;have n3:=BB h3;refine Yi (by grind [Az]) ?_;have hmq:WU (dec++[c]) c.rel.reqs[i]=false:=oy fun m d hd=>j2 m d aa0 hd;refine Xi ⟨i+1,by omega,fun k q hk hq0=>by
    grind⟩ ?_
  exact⟨Dl c.rel.reqs.length i ch,Z6,Z7,Fh,Bu aa1⟩
 have h1:¬((i:Int)<((c.rel.reqs.map AI).length:Int)):=h1;have n1:=BB h1;refine yN (yN ?_);have eC:=mu (dec:=dec) (c:=c) fun k q hk=>i2 k q aa0 hk;exact C2 (.refl _) (Yi (show AV.tup [zNd,vb false]=wC (Ek dec c) by rw[eC];rfl) rfl)
theorem Pe{x:List Rl}{roots:List Rq}{l0:List Nf}:∀{l:List Nf} {d d' : List (List Tm)},(∀i∈l,i∈l0)->(∀t∈d,Vz (Kx x roots l0) t)->Du x roots l d=some d'->∀t∈d',Vz (Kx x roots l0) t
 | [],d,d',_,hd,h=>by cases h;exact hd
 |i::l,d,d',hl,hd,h=>by
  unfold Du at h;cases hi:D0 x roots d i with
  |none=>simp_all
  |some t=>
   rw[hi]at h;refine Pe (fun j hj=>hl j (Am _ hj)) (fun u hu=>?_) h
   grind [jK,List.mem_cons_self]
section
variable {x:List Rl}{roots:List Rq}{s:SS}
theorem EZ.few(hx:AL x=0)(hr:A8 roots=0)(h:EZ x roots s):∀t∈s.drv,vI t:=fun t ht=>
 (Pe (l0:=s.infs) (fun _ h=>h) (fun _ h=>by cases h) h.der t ht).fewI (d9 hx hr h.len)
theorem Ig{l:List Tm}(h:s.infs.Nodup):(E4 s i l).2.infs.Nodup:=by
 cases hk:Md i 0 s.infs with
 |some k=>rw[Zx hk];exact h
 |none=>
  grind [Wb,Zw,Rc]
theorem Lg.add(h:Lg x roots s){l:List Tm}(hi:D0 x roots s.drv i=some l):Lg x roots (E4 s i l).2/\(E4 s i l).1<(E4 s i l).2.drv.length/\s.drv.length<=(E4 s i l).2.drv.length:=
 ⟨⟨(KH h.der hi).1,Ig h.nodup⟩,(KH h.der hi).2.1,(KI s i l).len⟩
theorem Lg.dl(h:Lg x roots s):s.infs.length<=65536/\s.drv.length=s.infs.length/\s.drv.length<=65536:=by
 have h1:=h.der.dlen;have h2:=h.der.len;omega
theorem oK(hx:AL x=0)(p:CS):∀d,D0 x roots d ⟨2,p,0,0,0,0⟩=some (Ie p (B3 x p)):=fun d=>by
 obtain⟨u,u0,u1,hu⟩:=ij hx p;have hV:Gk []:=fun _ h=>by cases h
 have ou:Vs [] p (MO [] p (ff u)):=.ver hV (Fg ⟨u0,u1⟩);have h1:A9 [(⟨p,false,Fc (B3 x p)⟩:Tm)] (MO [] p (ff u))=true:=by
  grind [Br,Dg,BE,Fg,Ho,Gg,SB]
 have h2:A9 [(⟨p,false,Fc (B3 x p)⟩:Tm)] []=false:=rfl;have Ef:Ie p (B3 x p)≠[]:=by
  have c1:=Dj (l:=[(⟨p,false,Fc (B3 x p)⟩:Tm)]) ou.val;have c2:=Dj (l:=[(⟨p,false,Fc (B3 x p)⟩:Tm)]) hV;rw[h1]at c1;rw[h2]at c2;unfold Ie QZ;cases hc:C3 [(⟨p,false,Fc (B3 x p)⟩:Tm)]with
  |none=>grind
  |some c=>
   rw[hc]at c2;intro e;have e:c=[]:=e;rw[e]at c2;cases c2
 grind [D0,jY]
theorem Fi(h:k<s.drv.length):s.drv[k]?=some (EP s k):=by
 simp_all
theorem UA{L:List Nat}(hj:j<L.length)(h:s.full=true\/DL (EP s k) p=false):Cg p (L.drop j) k s=(k,s):=by
 grind [List.drop_eq_getElem_cons,Cg]
theorem dN{L:List Nat}(hj:j<L.length)(h1:¬(s.full=true\/DL (EP s k) p=false))(h:L[j]=k):Cg p (L.drop j) k s=Cg p (L.drop (j+1)) k s:=by
 grind [List.drop_eq_getElem_cons,Cg]
theorem jR{L:List Nat}(hj:j<L.length)(h1:¬(s.full=true\/DL (EP s k) p=false))(h2:¬L[j]=k)(h:(BG (EP s k) (EP s L[j]) p).2≠0):Cg p (L.drop j) k s=Cg p (L.drop (j+1)) k s:=by
 grind [List.drop_eq_getElem_cons,Cg]
theorem jQ{L:List Nat}(hj:j<L.length)(h1:¬(s.full=true\/DL (EP s k) p=false))(h2:¬L[j]=k)(h:(BG (EP s k) (EP s L[j]) p).2=0) :
  Cg p (L.drop j) k s=Cg p (L.drop (j+1)) (E4 s ⟨3,p,0,0,(k:Nat),(L[j]:Nat)⟩ (BG (EP s k) (EP s L[j]) p).1).1 (E4 s ⟨3,p,0,0,(k:Nat),(L[j]:Nat)⟩ (BG (EP s k) (EP s L[j]) p).1).2:=by
 grind [List.drop_eq_getElem_cons,Cg]
end
theorem Gd{t:List Tm}(h:vI t):BD t:=ch
theorem s91(x:List Rl)(roots:List Rq)(C A:List (Value×AV))(s:SS)(dec:List Cd)(st:List (List Sk))(p:CS)(n:Nd)(rs:List Nat)(V:AV)(hx:AL x=0)(hr:A8 roots=0)(hs:Lg x roots s)(wY:∀d,D0 x roots d (VJ n)=some (JE n))(hrs:∀r∈rs,r<s.drv.length)(hrl:rs.length<=1073741823)(hnq:BD n.rq.set)(hnp:Az (n.place+1))
  (hV1:∀a,(Value.string p,a)∈A->a=V) (hV2:(∀a,(Value.string p,a)∉A)->V=nzA) (hV3:∀h,PC 261 [vs p,str h V] (sl AH (Ie p (B3 x p)))):AU Tryz.prog 194 [.ref 1000 0,vs p,.agg (Bn n),sl Cz rs] (Ak (Jm roots C A s dec st) Ae) fun r h'=>vH roots C A dec st (Ea x p n rs s) r h':=by
 have hw:=hs.dl;obtain⟨xg,hk1,gj⟩:=hs.add (wY s.drv)
 change Lg x roots (Bx s n).2 at xg
 change (Bx s n).1<(Bx s n).2.drv.length at hk1
 change s.drv.length<=(Bx s n).2.drv.length at gj
 have Uo:=xg.dl;obtain⟨xh,Qr,wW⟩:=xg.add (oK hx p (Bx s n).2.drv)
 change Lg x roots (EK x p (Bx s n).2).2 at xh
 change (EK x p (Bx s n).2).1<(EK x p (Bx s n).2).2.drv.length at Qr
 change (Bx s n).2.drv.length<=(EK x p (Bx s n).2).2.drv.length at wW
 obtain⟨L,hL⟩:∃L,L=(EK x p (Bx s n).2).1::rs:=⟨_,rfl⟩;have hLr:∀r∈L,r<(EK x p (Bx s n).2).2.drv.length:=fun r xe=>by
  grind
 have hLl:L.length=rs.length+1:=B0
 have hk1:(Bx s n).1<(EK x p (Bx s n).2).2.drv.length:=ch
 refine BX (Ms (pC [6] [3,7,8,10])) [(1000,1000),(1001,1001),(1002,1002),(1003,1003),(1004,1004)] rfl Ct hm rfl func194 aa1 rfl (Nz rfl) aa1 rfl (yN (Xi (.gen cH 0) (Yi rfl (AU.imp (s88 roots C A s dec st n hw.1 hw.2.1 hs.nodup hnq hnp) ?_))));intro v1 g1 q1;have tv:=q1.1;have tw:=q1.2;subst tv;subst tw;refine Pv V nzA hV1 hV2 (fun h=>h) (C1 (C2 (hV3 _) (Xi (.gen cH 0) (Yi rfl (AU.imp (tE roots C A (Bx s n).2 dec st ⟨2,p,0,0,0,0⟩ (Ie p (B3 x p)) Uo.1 Uo.2.1 xg.nodup) ?_)))));intro v2 g2 q2;have q2a:=q2.1;have q2b:=q2.2;subst q2a;subst q2b;refine cU [(0,.ref 1000 0),(1,vs p),(3,sl Cz rs),(9,vi (((Bx s n).1:Nat):Int)),(10,vi (((EK x p (Bx s n).2).1:Nat):Int))] [(1000,.cells [sl AI roots,.cmap BW C,.cmap BW A,.slice (.id 1001 6) ((EK x p (Bx s n).2).2.infs.map Dy),.slice (.id 1002 1) ((EK x p (Bx s n).2).2.drv.map Df),.mref 1003,vb (EK x p (Bx s n).2).2.full,sl AM dec,sl Ab (AP dec),.msl 1004 st.length]),(1001,.tok 6 (EK x p (Bx s n).2).2.infs.length),(1002,.tok 1 (EK x p (Bx s n).2).2.drv.length),(1003,.map FI (FK 0 (EK x p (Bx s n).2).2.infs)),(1004,.arr 1 (st.map Bb))] Z5 Z5 ?_
 have b3:Bi 1 (rs.map Cz)/\([[vi (((EK x p (Bx s n).2).1:Nat):Int)]]:C0).length=1/\(([[vi (((EK x p (Bx s n).2).1:Nat):Int)]]:C0).length+(rs.map Cz).length)*8<=140737488355328/\([[vi (((EK x p (Bx s n).2).1:Nat):Int)]]:C0).length+(rs.map Cz).length<=9223372036854775807:=⟨(BV (enc:=Cz) (n:=1) (fun _=>rfl) rs),B0,aa0,aa0⟩;refine Yi b3 (Xi {q:Nat×Nat×SS // q.1<=L.length/\Cg p (L.drop q.1) q.2.1 q.2.2=Cg p L (Bx s n).1 (EK x p (Bx s n).2).2/\Lg x roots q.2.2/\q.2.1<q.2.2.drv.length/\∀r∈L,r<q.2.2.drv.length} (Xi (fun q=>⟨[(0,.ref 1000 0),(1,vs p),(9,vi q.1.2.1),(33,.slice (.id 31 1) (L.map Cz)),(34,vi (L.map Cz).length),(35,vi q.1.1)],[(31,.tok 1 (L.map Cz).length),(1000,.cells (srM roots C A q.1.2.2 dec 1004 st.length)),(1001,.tok 6 q.1.2.2.infs.length),(1002,.tok 1 q.1.2.2.drv.length),(1003,.map FI (FK 0 q.1.2.2.infs)),(1004,.arr 1 (st.map Bb))],Ae⟩) (Xi (fun q=>L.length-q.1.1) (Yi (Xi ⟨(0,(Bx s n).1,(EK x p (Bx s n).2).2),Aj _,by simp_all,xh,hk1,hLr⟩ ?_) ?_))))
 .exact⟨⟨Zr,Zr,Zr,⟨(show AV.slice (.id 31 1) ([[vi (((EK x p (Bx s n).2).1:Nat):Int)]]++rs.map Cz)=.slice (.id 31 1) (L.map Cz) by simp_all),rfl⟩,⟨(show vi (([[vi (((EK x p (Bx s n).2).1:Nat):Int)]]++rs.map Cz:C0).length:Int)=vi ((L.map Cz).length:Int) by simp_all),rfl⟩,Zr,Tv⟩,⟨⟨(show HO.tok 1 (([[vi (((EK x p (Bx s n).2).1:Nat):Int)]]:C0).length+(rs.map Cz).length)=.tok 1 (L.map Cz).length by grind),rfl⟩,Zr,Zr,Zr,Zr,Zr,Tv⟩,Fh,Bu aa1⟩
 intro⟨⟨j,k,S⟩,j1,j2,j3,j4,j5⟩;have hw3:=j3.dl;have hfw:=j3.der.few hx hr;have gk:S.drv[k]?=some (EP S k):=Fi j4;refine Yi (fun h4=>?_) (fun h4=>?_)
 .have h4:(j:Int)<((L.map Cz).length:Int):=h4;have n4:=Dh h4;refine Xi (Cz L[j]) (Yi (DC n4) (Yi rfl (Yi (fun h5=>?_) (fun h5=>?_))))
  .refine cU [(9,vi k)] [(1000,.cells (srM roots C A S dec 1004 st.length)),(1001,.tok 6 S.infs.length),(1002,.tok 1 S.drv.length),(1003,.map FI (FK 0 S.infs)),(1004,.arr 1 (st.map Bb))] Z1 Z5 ?_
   have eR:Cg p L (Bx s n).1 (EK x p (Bx s n).2).2=(k,S):=by grind [UA]
   have eL:Ea x p n rs s=(k,S):=by grind [Ea]
   exact C2 (.refl _) (Yi (show vi (k:Int)=vi (((Ea x p n rs s).1:Nat):Int) by rw[eL]) (show Ak (Jm roots C A S dec st) Ae=Ak (Jm roots C A (Ea x p n rs s).2 dec st) Ae by rw[eL]))
  refine Xi (Df (EP S k)) (Yi (Yi (Nn k) (El gk)) (Yi rfl (A1 (Bt (DL (EP S k) p)) (fun h7=>?_) (fun h7=>?_))))
  .refine C1 (C2 (cb h7 (qP (EP S k) p (Gd (hfw _ (AG (Fi j4)))))) (cU [(0,.ref 1000 0),(1,vs p),(9,vi k),(12,vi (L[j]:Nat)),(33,.slice (.id 31 1) (L.map Cz)),(34,vi (L.map Cz).length),(35,vi j)] [(31,.tok 1 (L.map Cz).length),(1000,.cells (srM roots C A S dec 1004 st.length)),(1001,.tok 6 S.infs.length),(1002,.tok 1 S.drv.length),(1003,.map FI (FK 0 S.infs)),(1004,.arr 1 (st.map Bb))] Z7 Z6 (Yi (fun h8=>?_) (fun h8=>?_))))
   .refine Yi (by grind [Az]) (Xi ⟨(j+1,k,S),FC n4,by grind [dN],j3,j4,j5⟩ ?_);exact⟨Dl L.length j ch,Z6,Z6,Fh,Bu aa1⟩
   refine Xi (Df (EP S k)) (Yi (Yi (Nn k) (El gk)) (Yi rfl (Xi (Df (EP S L[j])) (Yi (Yi (show(0:Int)<=(L[j]:Nat) by omega) (El (Fi (j5 _ (Ai n4))))) (Yi rfl ?_)))));have fk:=hfw _ (AG (Fi j4));have fr:=hfw _ (AG (Fi (j5 _ (Ai n4))));refine C2 (Aem (EP S k) (EP S L[j]) p fk.1 fr.1 fk.2 fr.2) (Yi aa1 (cU [(0,.ref 1000 0),(1,vs p),(9,vi k),(12,vi (L[j]:Nat)),(13,sl AH (BG (EP S k) (EP S L[j]) p).1),(14,vi (BG (EP S k) (EP S L[j]) p).2),(33,.slice (.id 31 1) (L.map Cz)),(34,vi (L.map Cz).length),(35,vi j)] [(31,.tok 1 (L.map Cz).length),(1000,.cells (srM roots C A S dec 1004 st.length)),(1001,.tok 6 S.infs.length),(1002,.tok 1 S.drv.length),(1003,.map FI (FK 0 S.infs)),(1004,.arr 1 (st.map Bb))] Z9 Z6 (Yi (fun Is=>?_) (fun Is=>?_))))
   .refine Yi (by grind [Az]) (Xi ⟨(j+1,k,S),FC n4,by rw[<-(jR (s:=S) (p:=p) (L:=L) (j:=j) (k:=k) n4 aa0 ch Is)];exact j2,j3,j4,j5⟩ ?_);exact⟨Dl L.length j ch,Z6,Z6,Fh,Bu aa1⟩
   have Is:((BG (EP S k) (EP S L[j]) p).2:Int)=(0:Int):=Aq Is;refine Xi (.gen cH 0) (Yi rfl (AU.imp (tE roots C A S dec st ⟨3,p,0,0,(k:Nat),(L[j]:Nat)⟩ (BG (EP S k) (EP S L[j]) p).1 hw3.1 hw3.2.1 j3.nodup) ?_));intro v12 g12 tu;have xV:=tu.1;have xW:=tu.2;subst xV;subst xW;refine Yi (by grind [Az]) ?_;obtain⟨a1,a2,a3⟩:=j3.add (WI (x:=x) (roots:=roots) (p:=p) j4 (j5 _ (Ai n4)) Is);refine Xi ⟨(j+1,(E4 S ⟨3,p,0,0,(k:Nat),(L[j]:Nat)⟩ (BG (EP S k) (EP S L[j]) p).1).1,(E4 S ⟨3,p,0,0,(k:Nat),(L[j]:Nat)⟩ (BG (EP S k) (EP S L[j]) p).1).2),FC n4,by rw[<-(jQ (s:=S) (p:=p) (L:=L) (j:=j) (k:=k) n4 aa0 ch Is)];exact j2,a1,a2,fun r hr=>Bm (j5 r hr) a3⟩ ?_;exact⟨Dl L.length j ch,Z6,Z6,Fh,Bu aa1⟩
  refine C1 (C2 (cb h7 (qP (EP S k) p (Gd (hfw _ (AG (Fi j4)))))) (cU [(9,vi k)] [(1000,.cells (srM roots C A S dec 1004 st.length)),(1001,.tok 6 S.infs.length),(1002,.tok 1 S.drv.length),(1003,.map FI (FK 0 S.infs)),(1004,.arr 1 (st.map Bb))] Z1 Z5 ?_))
  have eR:Cg p L (Bx s n).1 (EK x p (Bx s n).2).2=(k,S):=by grind [UA]
  have eL:Ea x p n rs s=(k,S):=by grind [Ea]
  exact C2 (.refl _) (Yi (show vi (k:Int)=vi (((Ea x p n rs s).1:Nat):Int) by rw[eL]) (show Ak (Jm roots C A S dec st) Ae=Ak (Jm roots C A (Ea x p n rs s).2 dec st) Ae by rw[eL]))
 have n4:=BB h4;have hj:¬j<L.length:=ch
 have eR:Cg p L (Bx s n).1 (EK x p (Bx s n).2).2=(k,S):=by rw[<-j2,AN ch];rfl
 have eL:Ea x p n rs s=(k,S):=by grind [Ea]
 exact C2 (.refl _) (Yi (show vi (k:Int)=vi (((Ea x p n rs s).1:Nat):Int) by rw[eL]) (show Ak (Jm roots C A S dec st) Ae=Ak (Jm roots C A (Ea x p n rs s).2 dec st) Ae by rw[eL]))
abbrev cI:Jd:=[(1000,1000),(1001,1001),(1002,1002),(1003,1003),(500,1004)]
abbrev srE:List (Nat×HO):=
 [(1000,.cells (srM roots C A s dec 2000 st.length)),(1001,.tok 6 s.infs.length),(1002,.tok 1 s.drv.length),(1003,.map FI (FK 0 s.infs)),(1004,.dead),(2000,.arr 1 (st.map Bb))]
abbrev cK(o:Ld)(r:AV)(h' : Nat->HO):Prop:=r=.tup [vi (o.res:Nat),vb o.found]/\h'=Ak (srE roots C A o.ss o.dec o.stack) Ae
def H64:Prop:=∀(s:SS) (dec:List Cd) (st:List (List Sk)),dec.length<=1000->(∀c∈dec,c.rel.reqs.length<=1073741824) ->
 AU Tryz.prog 186 [.ref 1000 0] (Ak (Jm roots C A s dec st) Ae) fun r h'=>r=.tup [vs (GS roots dec).1,sl Bn (GS roots dec).2]/\h'=Ak (Jm roots C A s dec st) Ae
theorem NY{roots:List Rq}{C A:List (Value×AV)}{o:Ld}{b:Bool}{s:SS}{dec:List Cd}{st:List (List Sk)}(e:o=⟨k,b,s,dec,st⟩) :
  AV.tup [vi (k:Nat),vb b]=.tup [vi (o.res:Nat),vb o.found]/\Ak (srE roots C A s dec st) Ae=Ak (srE roots C A o.ss o.dec o.stack) Ae:=B0
abbrev cG:Jd:=[(1000,1000),(1001,1001),(1002,1002),(1003,1003),(1004,1004),(1005,1005),(1006,1006),(1007,1007),(1008,1008),(1009,1009)]
def HF:CS×List Nd:=((Dw roots dec).take m).foldl (EA dec) (mt,[])
theorem oQ{roots:List Rq}{dec:List Cd}{m:Nat}{n:Nd}(h:(Dw roots dec)[m]?=some n):HF roots dec (m+1)=EA dec (HF roots dec m) n:=by
 grind [HF,List.take_add_one]
theorem s9{roots:List Rq}{dec:List Cd}{m:Nat}(h:(Dw roots dec).length<=m):HF roots dec m=GS roots dec:=by
 grind [HF,GS,List.take_of_length_le]
def FS(j:Nat):Nat:=roots.length+((dec.take j).map fun c=>c.rel.reqs.length).sum
theorem U3:(Rf c).length=c.rel.reqs.length:=MM _ _ _
theorem kj:FS roots dec 0=roots.length:=by grind [FS]
theorem ki{roots:List Rq}{dec:List Cd}(h:j<dec.length):FS roots dec (j+1)=FS roots dec j+dec[j].rel.reqs.length:=by
 grind [FS,List.take_succ_eq_append_getElem]
theorem bC:FS roots dec dec.length=(Dw roots dec).length:=by
 grind [FS,Dw,bQ,MM,List.map_congr_left,U3]
theorem j7{roots:List Rq}{dec:List Cd}{i:Nat}(h:i<roots.length):(Dw roots dec)[i]?=some ⟨roots[i],mt,0,(i:Nat)⟩:=by
 grind [Dw,bQ,List.getElem?_append_left,PR]
theorem am{α:Type}:∀{l:List (List α)} {j k:Nat} (hj:j<l.length),k<l[j].length->l.flatten[((l.take j).map List.length).sum+k]?=l[j][k]?
 |y::l,0,k,_,hk=>by
  grind
 |y::l,j+1,k,hj,hk=>by
  rw[BZ,List.take_succ_cons,Bq,List.sum_cons,BM ch]
  have:=am (l:=l) (j:=j) (k:=k) aa0 hk
  grind
theorem oE{roots:List Rq}{dec:List Cd}(hj:j<dec.length)(hk:k<dec[j].rel.reqs.length):(Dw roots dec)[FS roots dec j+k]?=some ⟨dec[j].rel.reqs[k],dec[j].rel.path,dec[j].place,(k:Nat)⟩:=by
 unfold Dw bQ FS;rw[BM (by grind [MM]),MM];have h:=am (l:=dec.map Rf) (j:=j) (k:=k) B0 (by grind [U3]);rw[<-So,Bw,show(List.length ∘ Rf)=fun c=>c.rel.reqs.length from funext U3]at h
 grind [Rf,PR]
abbrev qN:List (Nat×HO):=
  [(1000,.cells (srC roots C A s dec st.length)),(1001,.tok 6 s.infs.length),(1002,.tok 1 s.drv.length),(1003,.map FI (FK 0 s.infs)),(1004,.arr 1 (st.map Bb)),
   (1005,.cells [.ref 1000 0]),(1006,.cells [vs (HF roots dec m).1]),(1007,.cells [.slice (.ver 1008 5 m) ((HF roots dec m).2.map Bn)]),(1008,.var 5 m ((HF roots dec m).2.map Bn).length),(1009,.cells [.ref 1000 0])]
noncomputable abbrev cxn(pl:Qx)(l:Nat)(Y:Gh->World->Prop):Cx:=⟨Tryz.prog,tU,pl,true,0,fun l' σ' g w=>l'=l->σ'=cG->Y g w⟩
theorem I0.pre{Y':Gh->World->Prop}{l:Nat}{args:List AV}{h0:Nat->HO}{Q:AV->(Nat->HO)->Prop}(h:I0 P Y l args h0 Q)(hp:∀g w,Y' g w->Y g w):I0 P Y' l args h0 Q:=
 fun g w vals q1 q2 q3 q4=>h g w vals q1 q2 q3 (hp g w q4)
theorem AgW:AU Tryz.prog 253 [.ref 1000 0] (Ak (Jm roots C A s dec st) Ae) fun r h'=>r=.clo 301 [.ref 2000 0]/\h'=Ak (Jm roots C A s dec st++[(2000,.cells [.ref 1000 0])]) Ae:=by
 refine BX (Ms CQ) [(1000,1000),(1001,1001),(1002,1002),(1003,1003),(1004,1004),(1,2000)] rfl Ct hm rfl func253 aa1 rfl (Nz rfl) aa1 rfl ?_;exact C2 (.refl _) Zr
theorem AgX(l:Nat)(roots:List Rq)(C A:List (Value×AV))(s:SS)(dec:List Cd)(st:List (List Sk))(hr:roots.length<=1073741824)(hd:dec.length<=1073741824)(uQ:∀c∈dec,c.rel.reqs.length<=1073741824)(hy:∀m n,(Dw roots dec)[m]?=some n->I0 Tryz.prog Y l [.agg (Bn n)] (Ak (qN roots C A s dec st m) Ae) fun r h'=>r=vb true/\h'=Ak (qN roots C A s dec st (m+1)) Ae) :
  Zp Tryz.prog Y cG 301 [.v (.func (.yield l) #[] #[]),.ref 1005 0] (Ak (qN roots C A s dec st 0) Ae) fun _ h'=>h'=Ak (qN roots C A s dec st (Dw roots dec).length) Ae:=by
 refine nU (l:=l) (cxn CQ l Y) cG rfl Ct hm rfl func301 aa1 rfl (Nz rfl) aa1 rfl rfl (Xi {i:Nat // i<=roots.length} (Xi (fun q=>⟨[(0,.v (.func (.yield l) #[] #[])),(1,.ref 1005 0),(12,sl AI roots),(13,vi (roots.map AI).length),(14,vi q.1)],[(1000,.cells (srM roots C A s dec 1004 st.length)),(1001,.tok 6 s.infs.length),(1002,.tok 1 s.drv.length),(1003,.map FI (FK 0 s.infs)),(1004,.arr 1 (st.map Bb)),(1005,.cells [.ref 1000 0]),(1006,.cells [vs (HF roots dec q.1).1]),(1007,.cells [.slice (.ver 1008 5 q.1) ((HF roots dec q.1).2.map Bn)]),(1008,.var 5 q.1 ((HF roots dec q.1).2.map Bn).length),(1009,.cells [.ref 1000 0])],Ae⟩) (Xi (fun q=>roots.length-q.1) (Yi (Xi ⟨0,Aj _⟩ ?_) ?_))))
 .exact⟨Z5,Z10,Fh,Bu aa1⟩
 intro⟨i,i1⟩;refine Yi (fun h1=>?_) (fun h1=>?_)
 .have h1:(i:Int)<((roots.map AI).length:Int):=h1;have n1:=Dh h1;refine Xi (AI roots[i]) (Yi (DC n1) (Yi rfl (yN (yN (yN (Xi (.gen cG 0) (Yi rfl (I0.imp (I0.pre (hy i ⟨roots[i],mt,0,(i:Nat)⟩ (j7 n1)) (fun g w q=>q rfl rfl)) ?_))))))));intro v2 g2 q2;have q2a:=q2.1;have q2b:=q2.2;subst q2a;subst q2b;refine Yi (by grind [Az]) (Xi ⟨i+1,by omega⟩ ?_);exact⟨by grind,Z5,Z10,Fh,Bu aa1⟩
 have h1:¬((i:Int)<((roots.map AI).length:Int)):=h1;have n1:=BB h1;have hE:i=FS roots dec 0:=by grind [kj]
 refine Xi {j:Nat // j<=dec.length} (Xi (fun q=>⟨[(0,.v (.func (.yield l) #[] #[])),(29,sl AM dec),(30,vi (dec.map AM).length),(31,vi q.1)],[(1000,.cells (srM roots C A s dec 1004 st.length)),(1001,.tok 6 s.infs.length),(1002,.tok 1 s.drv.length),(1003,.map FI (FK 0 s.infs)),(1004,.arr 1 (st.map Bb)),(1005,.cells [.ref 1000 0]),(1006,.cells [vs (HF roots dec (FS roots dec q.1)).1]),(1007,.cells [.slice (.ver 1008 5 (FS roots dec q.1)) ((HF roots dec (FS roots dec q.1)).2.map Bn)]),(1008,.var 5 (FS roots dec q.1) ((HF roots dec (FS roots dec q.1)).2.map Bn).length),(1009,.cells [.ref 1000 0])],Ae⟩) (Xi (fun q=>dec.length-q.1) (Yi (Xi ⟨0,Aj _⟩ ?_) ?_)))
 .exact⟨Z4,⟨Zr,Zr,Zr,Zr,Zr,Zr,⟨(show .cells [vs (HF roots dec i).1]=(.cells [vs (HF roots dec (FS roots dec 0)).1]:HO) by rw[hE]),rfl⟩,⟨(show .cells [.slice (.ver 1008 5 i) ((HF roots dec i).2.map Bn)]=(.cells [.slice (.ver 1008 5 (FS roots dec 0)) ((HF roots dec (FS roots dec 0)).2.map Bn)]:HO) by rw[hE]),rfl⟩,⟨(show .var 5 i ((HF roots dec i).2.map Bn).length=(.var 5 (FS roots dec 0) ((HF roots dec (FS roots dec 0)).2.map Bn).length:HO) by rw[hE]),rfl⟩,Zr,Tv⟩,Fh,Bu aa1⟩
 intro⟨j,j1⟩;refine Yi (fun h4=>?_) (fun h4=>?_)
 .have h4:(j:Int)<((dec.map AM).length:Int):=h4;have n4:=Dh h4;have hdj:=uQ dec[j] (Ai n4);refine Xi (AM dec[j]) (Yi (DC n4) (Yi rfl (yN (yN (Xi {k:Nat // k<=dec[j].rel.reqs.length} (Xi (fun q=>⟨[(0,.v (.func (.yield l) #[] #[])),(6,.ref 6 0),(29,sl AM dec),(30,vi (dec.map AM).length),(31,vi j),(37,sl AI dec[j].rel.reqs),(38,vi (dec[j].rel.reqs.map AI).length),(39,vi q.1)],[(6,.cells (AM dec[j])),(1000,.cells (srM roots C A s dec 1004 st.length)),(1001,.tok 6 s.infs.length),(1002,.tok 1 s.drv.length),(1003,.map FI (FK 0 s.infs)),(1004,.arr 1 (st.map Bb)),(1005,.cells [.ref 1000 0]),(1006,.cells [vs (HF roots dec (FS roots dec j+q.1)).1]),(1007,.cells [.slice (.ver 1008 5 (FS roots dec j+q.1)) ((HF roots dec (FS roots dec j+q.1)).2.map Bn)]),(1008,.var 5 (FS roots dec j+q.1) ((HF roots dec (FS roots dec j+q.1)).2.map Bn).length),(1009,.cells [.ref 1000 0])],Ae⟩) (Xi (fun q=>dec[j].rel.reqs.length-q.1) (Yi (Xi ⟨0,Aj _⟩ ?_) ?_))))))))
  .exact⟨Z8,Z11,Fh,Bu aa1⟩
  intro⟨k,k1⟩;have k1:k<=dec[j].rel.reqs.length:=k1;refine Yi (fun h5=>?_) (fun h5=>?_)
  .have h5:(k:Int)<((dec[j].rel.reqs.map AI).length:Int):=h5;have n5:=Dh h5;refine Xi (AI dec[j].rel.reqs[k]) (Yi (DC n5) (Yi rfl (yN (yN (yN (Xi (.gen cG 0) (Yi rfl (I0.imp (I0.pre (hy (FS roots dec j+k) ⟨dec[j].rel.reqs[k],dec[j].rel.path,dec[j].place,(k:Nat)⟩ (oE n4 n5)) (fun g w q=>q rfl rfl)) ?_))))))));intro v6 g6 q6;have q6a:=q6.1;have q6b:=q6.2;subst q6a;subst q6b;refine Yi (by grind [Az]) (Xi ⟨k+1,by omega⟩ ?_);exact⟨by grind,Z8,Z11,Fh,Bu aa1⟩
  have h5:¬((k:Int)<((dec[j].rel.reqs.map AI).length:Int)):=h5;have n5:=BB h5;refine Yi (by grind [Az]) ?_;have hE:FS roots dec j+k=FS roots dec (j+1):=by grind [ki]
  refine Xi ⟨j+1,by omega⟩ ?_;exact⟨by grind,Z4,⟨Zr,Zr,Zr,Zr,Zr,Zr,⟨(show .cells [vs (HF roots dec (FS roots dec j+k)).1]=(.cells [vs (HF roots dec (FS roots dec (j+1))).1]:HO) by rw[hE]),rfl⟩,⟨(show .cells [.slice (.ver 1008 5 (FS roots dec j+k)) ((HF roots dec (FS roots dec j+k)).2.map Bn)]=(.cells [.slice (.ver 1008 5 (FS roots dec (j+1))) ((HF roots dec (FS roots dec (j+1))).2.map Bn)]:HO) by rw[hE]),rfl⟩,⟨(show .var 5 (FS roots dec j+k) ((HF roots dec (FS roots dec j+k)).2.map Bn).length=(.var 5 (FS roots dec (j+1)) ((HF roots dec (FS roots dec (j+1))).2.map Bn).length:HO) by rw[hE]),rfl⟩,Zr,Tv⟩,Fh,Bu aa1⟩
 have h4:¬((j:Int)<((dec.map AM).length:Int)):=h4;have n4:=BB h4;exact Aa (fun m=>Ak (qN roots C A s dec st m) Ae) (show FS roots dec j=(Dw roots dec).length by grind [bC])
theorem xG{h:Nat->HO}{r:Nat}{cs:List AV}{K:(Nat->HO)->Prop}(c1:h o=.cells cs)(c2:JM cs k=nzA)(c3:h r=.free)(hk:K (AO (AO h r (.var sz 0 0)) o (.cells (E2 cs k (.slice (.ver r sz 0) []))))):zH h o k r sz K:=by
 grind [zH]
theorem x6{r0:Nat}{jc:Cx}{N:Nat}{fn:Func}{σ:Jd}{Q:AV->(Nat->HO)->Prop}{b rest:Code}{st:St}(cs:List AV)(c1:st.h o=.cells cs)(c2:JM cs k=nzA)(c3:st.h r0=.free)(σF σr:Jd)(H0 Hn:List (Nat×HO))(gf:Nat)(caps:List AV){uC s:Nat}{ps:Array Tmp}{GU body:Code}(hb:b=.block uC (.rangeFunc (.tmp s) ps GU body))(k1:(EB σF&&Eb (AO (AO st.h r0 (.var sz 0 0)) o (.cells (E2 cs k (.slice (.ver r0 sz 0) [])))) 0 0&&Di σF 0 0)=true)(k2:FH σF (AO (AO st.h r0 (.var sz 0 0)) o (.cells (E2 cs k (.slice (.ver r0 sz 0) []))))=Ak H0 Ae)(k3:(GY σr&&IG σr H0)=true)(k4:IG σr Hn=true)(k5:ren (Cw σF) (AO (AO st.h r0 (.var sz 0 0)) o (.cells (E2 cs k (.slice (.ver r0 sz 0) [])))) (st.t s)=.clo gf caps)(k6:∀(l D:Nat) (f' : FuncId) (tm:Array Value),tm.size=N->Zp P (fun g w=>w.heap[l]?=some (.loop (In f' tm ps GU body D .ready))/\∀i,Ba g w (AJ (Ak H0 Ae)) (ren (Cw σF) (AO (AO st.h r0 (.var sz 0 0)) o (.cells (E2 cs k (.slice (.ver r0 sz 0) [])))) (st.t i)) (tm.getD i undef)) σr gf
   (.v (.func (.yield l) #[] #[])::caps) (Ak H0 Ae) fun _ h'=>h'=Ak Hn Ae)(k7:EI N rest=true)(k8:Sq jc rest (ZW jc fn.results.toList σr fun r h'=>Q (ren (Cw σ) (Eh σF 0 0 (AO (AO st.h r0 (.var sz 0 0)) o (.cells (E2 cs k (.slice (.ver r0 sz 0) [])))) h') (ren (Fr σF 0 0) h' r)) (FH σ (Eh σF 0 0 (AO (AO st.h r0 (.var sz 0 0)) o (.cells (E2 cs k (.slice (.ver r0 sz 0) [])))) h')))
   ⟨fun i=>ren (Cw σF) (AO (AO st.h r0 (.var sz 0 0)) o (.cells (E2 cs k (.slice (.ver r0 sz 0) [])))) (st.t i),Ak Hn Ae⟩)(k9:OV [] body=false:=by kernel_rfl):RfV o k r0 sz jc P N fn σ Q b rest st:=
 xG c1 c2 c3 ⟨σF,σr,H0,Hn,uC,s,ps,GU,body,gf,caps,hb,k1,k2,k3,k4,k5,k6,k7,k9,k8⟩
section
variable {roots:List Rq}{C A:List (Value×AV)}{s:SS}{dec:List Cd}{st:List (List Sk)}{n:Nd}
theorem UN{m:Nat}{o:List Nd}(e:HF roots dec (m+1)=(p,o)){es:C0}(h1:es=o.map Bn)(h2:k=es.length) :
  Ak [(1000,.cells (srC roots C A s dec st.length)),(1001,.tok 6 s.infs.length),(1002,.tok 1 s.drv.length),(1003,.map FI (FK 0 s.infs)),(1004,.arr 1 (st.map Bb)),
   (1005,.cells [.ref 1000 0]),(1006,.cells [vs p]),(1007,.cells [.slice (.ver 1008 5 (m+1)) es]),(1008,.var 5 (m+1) k),(1009,.cells [.ref 1000 0])] Ae=Ak (qN roots C A s dec st (m+1)) Ae:=by
 grind
theorem oT{a:CS×List Nd}(h:DT dec n.rq.path=true):EA dec a n=(a.1,a.2):=by grind [EA]
theorem sW{o:List Nd}(h:¬(0:Int)<((o.map Bn).length:Int)):o=[]:=by
 simp_all
theorem tb{a:CS×List Nd}(h:(0:Int)<((a.2.map Bn).length:Int))(hb:Dq a.1 n.rq.path=true):EA dec a n=(a.1,a.2):=by grind [EA]
theorem oU{a:CS×List Nd}(hd:DT dec n.rq.path=false)(_:(0:Int)<((a.2.map Bn).length:Int))(hb:Dq a.1 n.rq.path=false)(hs:Dq n.rq.path a.1=true):EA dec a n=(n.rq.path,[n]):=by
 grind [EA]
theorem oV{a:CS×List Nd}(hd:DT dec n.rq.path=false)(hb:Dq a.1 n.rq.path=false)(hs:Dq n.rq.path a.1=false):EA dec a n=(n.rq.path,a.2++[n]):=by
 grind [EA]
theorem td{a:CS×List Nd}(hd:DT dec n.rq.path=false)(h:¬(0:Int)<((a.2.map Bn).length:Int)):EA dec a n=(n.rq.path,a.2++[n]):=by
 grind [sW,EA]
theorem tc(a:CS×List Nd)(n:Nd):(EA dec a n).2.length<=a.2.length+1:=by
 grind [EA]
theorem gK:∀(m:Nat),(HF roots dec m).2.length<=m
 |0=>Ao _
 |m+1=>by
  have ih:=gK m
  grind [HF,List.take_add_one,tc]
theorem cc:∀{l l' : List (Nat×HO)},l.map Prod.fst=l'.map Prod.fst->(∀p∈l',p.2≠.free)->∀i,AJ (Ak l Ae) i->AJ (Ak l' Ae) i
 | [],[],_,_,_,h=>h
 |(a,o)::l,(a',o')::l',e,h,i,hu=>by
  rw[Bq,Bq]at e
  injection e with e1 e2
  have e1:a=a':=e1;subst e1;unfold AJ at *
  by_cases q:i=a
  .grind [Ak,Nat.beq_refl,List.mem_cons_self]
  .simp only[Ak,DK q,F7]at hu⊢;exact cc e2 (fun p hp=>h p (Am _ hp)) i hu
theorem oR:∀i,AJ (Ak (qN roots C A s dec st 0) Ae) i->AJ (Ak (qN roots C A s dec st m) Ae) i:=cc rfl (by
 simp_all)
theorem ia:∀{l:List Cd},(∀c∈l,c.rel.reqs.length<=1073741824)->((l.map fun c=>c.rel.reqs.length)).sum<=l.length*1073741824
 | [],_=>by simp
 |c::l,h=>by
  have h1:=h c (Ah ..);have h2:=ia fun c hc=>h c (Am _ hc)
  grind
theorem j8(hr:roots.length<=1073741824)(hd:dec.length<=1000)(h:∀c∈dec,c.rel.reqs.length<=1073741824):(Dw roots dec).length<=1074815565824:=by
 rw[<-bC]
 grind [FS,ia]
end
theorem bc:l.map Bn++[Bn n]=(l++[n]).map Bn:=B0
theorem PH:(l.map Bn).length+([Bn n]:C0).length=(l.map Bn++[Bn n]).length:=Ac.symm
attribute [local irreducible] RfV zH HF Dw EA
theorem s64(hr:roots.length<=1073741824)(hd:dec.length<=1000)(uQ:∀c∈dec,c.rel.reqs.length<=1073741824) :
  AU Tryz.prog 186 [.ref 1000 0] (Ak (Jm roots C A s dec st) Ae) fun r h'=>r=.tup [vs (GS roots dec).1,sl Bn (GS roots dec).2]/\h'=Ak (Jm roots C A s dec st) Ae:=by
 refine iE 5 0 9 5 (Ms CQ) (Ms CQ) cH rfl Ct rfl Ct hm rfl rfl func186 aa1 rfl (Nz rfl) aa1 rfl 3 (yN (Xi (.gen cH 1) (Yi rfl (AU.imp (AgW roots C A s dec st) ?_))));intro v1 g1 q1;have tv:=q1.1;have tw:=q1.2;subst tv;subst tw;refine x6 [nzA] aa1 aa1 aa1 [(1000,1000),(1001,1001),(1002,1002),(1003,1003),(1004,1004),(10800,1005),(4,1006),(5,1007),(9,1008),(1,1009)] cG (qN roots C A s dec st 0) (qN roots C A s dec st (Dw roots dec).length) 301 [.ref 1005 0] rfl aa1 aa1 aa1 aa1 aa1 (fun l9 D9 f9 tm9 htm=>AgX l9 roots C A s dec st hr (Av hd Wk) uQ fun m n hn=>lp (σ:=cG) 1007 0 1008 (Ms ⟨[],[(43,5)],[],[],[],[],[],[],[],[(500005,60001007)],[5]⟩) rfl Ct hm rfl rfl rfl htm aa1 aa1 aa1 (oR m) ?_) aa1 ?_
 .have hml:m<(Dw roots dec).length:=(Bf.1 hn).1;have hol:=gK (roots:=roots) (dec:=dec) m;have hnl:=j8 hr hd uQ;have hF:=oQ hn;refine yN (Yi ⟨rfl,rfl⟩ (cU [(1,.ref 1009 0),(4,.ref 1006 0),(5,.ref 1007 0),(6,.ref 6 0)] [(6,.cells (Bn n)),(60,.tok 5 ((HF roots dec m).2.map Bn).length),(1000,.cells (srM roots C A s dec 1004 st.length)),(1001,.tok 6 s.infs.length),(1002,.tok 1 s.drv.length),(1003,.map FI (FK 0 s.infs)),(1004,.arr 1 (st.map Bb)),(1005,.cells [.ref 1000 0]),(1006,.cells [vs (HF roots dec m).1]),(1007,.cells [.slice (.id 60 5) ((HF roots dec m).2.map Bn)]),(1008,.vox m),(1009,.cells [.ref 1000 0])] Z4 Z12 (A1 (Bt (DT dec n.rq.path)) (fun h2=>?_) (fun h2=>?_))))
  .have hc3:=(Ac9 roots C A s dec st n.rq.path (Av hd Wk));rw[show(DT dec n.rq.path)=true from h2]at hc3;refine Xi (.gen cH 0) (Yi rfl (AU.imp hc3 ?_));intro v4 g4 q4;have q4a:=q4.1;have q4b:=q4.2;subst q4a;subst q4b;refine Yi ⟨rfl,rfl⟩ ?_
   -- [('(DT dec n.rq.path)=true',True)]
   exact⟨rfl,UN (hF.trans (oT h2)) rfl rfl⟩
  have uP:=(Ac9 roots C A s dec st n.rq.path (Av hd Wk));rw[show(DT dec n.rq.path)=false from h2]at uP;refine Xi (.gen cH 0) (Yi rfl (AU.imp uP ?_));intro v6 g6 q6;have q6a:=q6.1;have q6b:=q6.2;subst q6a;subst q6b;refine Yi (fun h7=>?_) (fun h7=>?_)
  .have n7:0<(HF roots dec m).2.length:=B0
   refine Yi (fun h8=>?_) (fun h8=>?_)
   .have h8:Dq (HF roots dec m).1 n.rq.path=true:=(DZ _ _).trans h8;refine Yi ⟨rfl,rfl⟩ ?_
    -- [('(DT dec n.rq.path)=true',False),('(0:Int)<(((HF roots dec m).2.map Bn).length:Int)',True),('Dq (HF roots dec m).1 n.rq.path=true',True)]
    exact⟨rfl,UN (hF.trans (tb h7 h8)) rfl rfl⟩
   have h8:Dq (HF roots dec m).1 n.rq.path=false:=(DZ _ _).trans (BY.2 h8);refine Yi (fun _=>?_) (fun hf=>absurd h7 hf);refine Yi (fun h9=>?_) (fun h9=>?_)
   .have h9:Dq n.rq.path (HF roots dec m).1=true:=(DZ _ _).trans h9;refine yN (yN (yN ?_));have Wi:Bi 5 [(Bn n)]/\([(Bn n)]:C0).length*72<=140737488355328/\([(Bn n)]:C0).length<=9223372036854775807:=⟨⟨rfl,trivial⟩,B0,B0⟩;refine Yi Wi (yN (Yi ⟨rfl,rfl⟩ ?_))
    -- [('(DT dec n.rq.path)=true',False),('(0:Int)<(((HF roots dec m).2.map Bn).length:Int)',True),('Dq (HF roots dec m).1 n.rq.path=true',False),('Dq n.rq.path (HF roots dec m).1=true',True)]
    exact⟨rfl,UN (hF.trans (oU h2 h7 h8 h9)) rfl rfl⟩
   have h9:Dq n.rq.path (HF roots dec m).1=false:=(DZ _ _).trans (BY.2 h9);refine yN (yN ?_);have rd:Bi 5 [(Bn n)]/\((HF roots dec m).2.map Bn).length=((HF roots dec m).2.map Bn).length/\(((HF roots dec m).2.map Bn).length+([(Bn n)]:C0).length)*72<=140737488355328/\((HF roots dec m).2.map Bn).length+([(Bn n)]:C0).length<=9223372036854775807:=⟨⟨rfl,trivial⟩,rfl,aa0,aa0⟩;refine Yi rd (yN (Yi ⟨(PH _ n).symm,rfl⟩ ?_))
   -- [('(DT dec n.rq.path)=true',False),('(0:Int)<(((HF roots dec m).2.map Bn).length:Int)',True),('Dq (HF roots dec m).1 n.rq.path=true',False),('Dq n.rq.path (HF roots dec m).1=true',False)]
   exact⟨rfl,UN (hF.trans (oV h2 h8 h9)) (bc _ n) (PH _ n)⟩
  have n7:¬0<(HF roots dec m).2.length:=B0
  refine Yi (fun hf=>absurd hf h7) (fun _=>?_);refine yN (yN ?_);have ze:Bi 5 [(Bn n)]/\((HF roots dec m).2.map Bn).length=((HF roots dec m).2.map Bn).length/\(((HF roots dec m).2.map Bn).length+([(Bn n)]:C0).length)*72<=140737488355328/\((HF roots dec m).2.map Bn).length+([(Bn n)]:C0).length<=9223372036854775807:=⟨⟨rfl,trivial⟩,rfl,B0,B0⟩;refine Yi ze (yN (Yi ⟨(PH _ n).symm,rfl⟩ ?_))
  -- [('(DT dec n.rq.path)=true',False),('(0:Int)<(((HF roots dec m).2.map Bn).length:Int)',False)]
  exact⟨rfl,UN (hF.trans (td h2 h7)) (bc _ n) (PH _ n)⟩
 refine Yi aa1 ?_;exact C2 (.refl _) ⟨show AV.tup [vs (HF roots dec (Dw roots dec).length).1,sl Bn (HF roots dec (Dw roots dec).length).2]=_ by grind [s9],rfl⟩
end Go.Eng
namespace Go.Eng
open Go.Proofs
theorem jH{α:Type}(pr:α->Bool)(l:List α):(∃(k:Nat) (n:α),I7 pr l 0=(k:Nat)/\l[k]?=some n/\l.find? pr=some n)\/(I7 pr l 0=-1/\l.find? pr=none):=by
 have key:∀(l:List α) (b:Nat),(∃(k:Nat) (n:α),I7 pr l (b:Nat)=((b+k:Nat):Int)/\l[k]?=some n/\l.find? pr=some n)\/(I7 pr l (b:Nat)=-1/\l.find? pr=none):=by
  intro l
  induction l with
  |nil=>intro b;exact .inr Zr
  |cons y l ih=>
   intro b;cases h:pr y with
   |true=>exact .inl ⟨0,y,by unfold I7;simp_all,rfl,by simp_all⟩
   |false=>
    have e:I7 pr (y::l) (b:Nat)=I7 pr l ((b+1:Nat):Int):=by
     conv=>lhs;unfold I7
     simp_all
    have e2:(y::l).find? pr=l.find? pr:=B0
    rcases ih (b+1)with ⟨k,n,h1,h2,h3⟩ | ⟨h1,h2⟩
    .exact .inl ⟨k+1,n,by omega,by simp_all,by simp_all⟩
    simp_all
 have:=key l 0
 simp_all
section
variable {rec:List Cd->SS->List (List Sk)->Ld}{x:List Rl}{p:CS}{N:List Nd}{n0:Nd}{dec:List Cd}{st:List (List Sk)}{cs:List Cd}{i:Nat}{S:SS}{rs:List Nat}{sk:List Sk}
theorem mn(h:¬i<cs.length):Ew rec x p N n0 dec st (cs.drop i) S rs sk=⟨(Ea x p n0 rs S).1,false,(Ea x p n0 rs S).2,dec,st⟩:=by
 rw[AN ch];rfl
theorem rv(h:i<cs.length)(hf:S.full=true):Ew rec x p N n0 dec st (cs.drop i) S rs sk=⟨0,false,S,dec,st⟩:=by
 grind [List.drop_eq_getElem_cons,Gv]
theorem Aae(h:i<cs.length)(hf:S.full=false){n:Nd}(hn:N.find? (fun n=>!has n.rq.set cs[i].place)=some n):Ew rec x p N n0 dec st (cs.drop i) S rs sk=Ew rec x p N n0 dec st (cs.drop (i+1)) (Bx S n).2 (rs++[(Bx S n).1]) sk:=by
 grind [List.drop_eq_getElem_cons,Gv]
theorem X0(h:i<cs.length)(hf:S.full=false)(hn:N.find? (fun n=>!has n.rq.set cs[i].place)=none){k:Nat}(he:Ph S.drv (AP (dec++[cs[i]]))=some k):Ew rec x p N n0 dec st (cs.drop i) S rs sk=J9 rec x p N n0 dec st cs[i] (cs.drop (i+1)) rs sk k S:=by
 grind [List.drop_eq_getElem_cons,Gv]
theorem ZH(h:i<cs.length)(hf:S.full=false)(hn:N.find? (fun n=>!has n.rq.set cs[i].place)=none)(he:Ph S.drv (AP (dec++[cs[i]]))=none){n:Nd}(hc:Ek dec cs[i]=some n) :
  Ew rec x p N n0 dec st (cs.drop i) S rs sk=J9 rec x p N n0 dec st cs[i] (cs.drop (i+1)) rs sk (Bx S n).1 (Bx S n).2:=by
 grind [List.drop_eq_getElem_cons,Gv]
theorem X1(h:i<cs.length)(hf:S.full=false)(hn:N.find? (fun n=>!has n.rq.set cs[i].place)=none)(he:Ph S.drv (AP (dec++[cs[i]]))=none)(hc:Ek dec cs[i]=none){o:Ld}(ho:o=rec (dec++[cs[i]]) S (st++[sk])) :
  Ew rec x p N n0 dec st (cs.drop i) S rs sk=if o.found=true then⟨0,true,o.ss,o.dec,o.stack⟩else if o.ss.full=true then⟨0,false,o.ss,dec,st⟩else J9 rec x p N n0 dec st cs[i] (cs.drop (i+1)) rs sk o.res o.ss:=by
 grind [List.drop_eq_getElem_cons,Gv]
theorem fq{c:Cd}{l:List Cd}{k:Nat}(h:DL (EP S k) p=false):J9 rec x p N n0 dec st c l rs sk k S=⟨k,false,S,dec,st⟩:=by grind [J9]
theorem XL{c:Cd}{l:List Cd}{k:Nat}(h:DL (EP S k) p=true):J9 rec x p N n0 dec st c l rs sk k S=Ew rec x p N n0 dec st l S (rs++[k]) (sk++[⟨p,c.place,(k:Nat)⟩]):=by grind [J9]
end
theorem ZR{x:List Rl}{dec:List Cd}(h:DH x dec):dec.length<=x.length:=by
 have h1:=G9 (m:=x.map (·.path)) h.nodup fun p hp=>by
  grind [DH.cand]
 simp_all
theorem Wo(x:List Rl)(p:CS):(Cp x p).length<=x.length:=by
 grind [Cp]
end Go.Eng
