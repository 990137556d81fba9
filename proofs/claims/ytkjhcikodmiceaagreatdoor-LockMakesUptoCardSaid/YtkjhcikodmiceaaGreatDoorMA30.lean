/- Lemmas 30. -/
import Derived.Test.YtkjhcikodmiceaaGreatDoorMA29
set_option maxHeartbeats 4000000
namespace Go.Eng
open Go.Proofs Go.Proofs.Tryz
variable {k:Nat}{p:CS}{Y:D->World->Prop}{j:Nat}{P:Program}{o sz:Nat}{i:Nf}(l:List Nd)(roots:List Rq)(C A:List (Value×AV))(s:SS)(dec:List Cd)(st:List (List Sk))(n:Nd)(c:Cd)(m:Nat)
def Xy(l:List Cd)(q:Rq):Bool:=l.any fun d=>decide (d.rel.path=q.path)&&!has q.set d.place
theorem Xa{f:Rq->Nat->Nd}{P:Nd->Bool}:∀{l:List Rq} {b i:Nat} {q:Rq},l[i]?=some q->P (f q (b+i))=true->(∀k u,k<i->l[k]?=some u->P (f u (b+k))=false)->(Lj f b l).find? P=some (f q (b+i))
 | [],_,_,_,h,_,_=>by simp_all
 |u::l,b,0,q,h,he,_=>by
  grind [Lj]
 |u::l,b,i+1,q,h,he,hn=>by
  unfold Lj;have h0:P (f u b)=false:=hn 0 u Wk rfl;rw[Ie,h0]
  have:=Xa (f:=f) (P:=P) (l:=l) (b:=b+1) (i:=i) (q:=q) aa0 aa2 (fun k v hk hv=>by
   grind)
  grind
theorem Qf{f:Rq->Nat->Nd}{P:Nd->Bool}:∀{l:List Rq} {b:Nat},(∀k u,l[k]?=some u->P (f u (b+k))=false)->(Lj f b l).find? P=none
 | [],_,_=>rfl
 |u::l,b,h=>by
  unfold Lj;have h0:P (f u b)=false:=h 0 u rfl;rw[Ie,h0];exact Qf fun k v hv=>by rw[show b+1+k=b+(k+1) by omega];simp_all
def zNd:AV:=.agg [vs ⟨#[]⟩,BY,vs ⟨#[]⟩,G 0,G 0]
def wg(o:Option Nd):AV:=match o with | some n=>.tup [.agg (Bm n),I true] | none=>.tup [zNd,I false]
section
variable {dec:List Cd}{c:Cd}{i:Nat}
theorem mI(hi:i<c.rel.reqs.length)(hn:∀k q,k<i->c.rel.reqs[k]?=some q->Xy (dec++[c]) q=false){j:Nat}(hj:j<(dec++[c]).length)(h1:(dec++[c])[j].rel.path=c.rel.reqs[i].path)(h2:has c.rel.reqs[i].set (dec++[c])[j].place=false) :
  CX dec c=some ⟨c.rel.reqs[i],c.rel.path,c.place,(i:Nat)⟩:=by
 have:=Xa (f:=fun q i=>⟨q,c.rel.path,c.place,(i:Nat)⟩) (P:=Vj (dec++[c])) (l:=c.rel.reqs) (b:=0) (i:=i) (q:=c.rel.reqs[i]) (Ge hi)
  (Bs.2 ⟨_,Ag hj,by simp_all⟩) (fun k u hk hu=>hn k u hk hu)
 grind [CX,QQ]
theorem mJ(hn:∀(k:Nat) (q:Rq),c.rel.reqs[k]?=some q->Xy (dec++[c]) q=false):CX dec c=none:=by
 unfold CX QQ;exact Qf fun k u hu=>hn k u hu
theorem oK{q:Rq}(h:∀(m:Nat) (d:Cd),(dec++[c])[m]?=some d->(decide (d.rel.path=q.path)&&!has q.set d.place)=false):Xy (dec++[c]) q=false:=by
 grind [Xy,List.mem_iff_getElem?]
end
theorem s87(hq:BF n.rq.set):PC 150 [.agg (Bm n),.cptr (AC c)] (I (!has n.rq.set c.place)):=by
 refine Ps (pC [2] []) func150 rfl C4 (Ay (Bt (has n.rq.set c.place)) (fun h1=>?_) (fun h1=>?_))
 .refine C1 (U (cb h1 (wd n.rq.set c.place hq)) ?_);exact .of_eq (show I false=I (!has n.rq.set c.place) by simp_all)
 refine C1 (U (cb h1 (wd n.rq.set c.place hq)) ?_);exact .of_eq (show I true=I (!has n.rq.set c.place) by simp_all)
theorem s69(hd:dec.length<=1073741823)(hr:c.rel.reqs.length<=1073741824)(hq:∀q∈c.rel.reqs,BF q.set):A6 prog 153 [.ref 1000 0,.agg (AC c)] (Ai (JQ roots C A s dec st) Af) fun r h'=>r=wg (CX dec c)/\h'=Ai (JQ roots C A s dec st) Af:=by
 have hdl:(dec++[c]).length=dec.length+1:=aa1
 refine Bi (IU ⟨[3],[],[],[],[],[],[],[],[(23,3)],[],[]⟩) [(1000,1000),(1001,1001),(1002,1002),(1003,1003),(1004,1004)] rfl BA hm rfl func153 aa4 rfl C4 aa4 rfl (Z {i:Nat // i<=c.rel.reqs.length/\∀k q,k<i->c.rel.reqs[k]?=some q->Xy (dec++[c]) q=false} (Z (fun q=>⟨[(0,.ref 1000 0),(3,.ref 3 0),(4,.ref 4 0),(12,sl Ac c.rel.reqs),(13,G (c.rel.reqs.map Ac).length),(14,G q.1)],[(3,.ro (AC c)),(4,.cells [vs ⟨#[]⟩,BY,vs ⟨#[]⟩,G 0,G 0]),(1000,.cells (srM roots C A s dec 1004 st.length)),(1001,.tok 6 s.infs.length),(1002,.tok 1 s.drv.length),(1003,.map FM (FO 0 s.infs)),(1004,.arr 1 (st.map Bb))],Af⟩) (Z (fun q=>c.rel.reqs.length-q.1) (J (Z ⟨0,Ak _,fun k q h=>absurd h (Ch k)⟩ ?_) ?_))))
 .exact⟨Z6,Z7,Fh,A2 aa4⟩
 intro⟨i,i1,i2⟩;refine J (fun h1=>?_) (fun h1=>?_)
 .have h1:(i:Int)<((c.rel.reqs.map Ac).length:Int):=h1;have n1:=FY h1;refine Z (Ac c.rel.reqs[i]) (J (Ht n1) (J rfl (yN (yN (Z _ (U aa4 (J (AbS dec (Bd hd aa3)) (yN ?_))))))));have b2:A7 10 [(AC c)]/\(dec.map AC).length=(dec.map AC).length/\((dec.map AC).length+([(AC c)]:C0).length)*128<=140737488355328/\(dec.map AC).length+([(AC c)]:C0).length<=9223372036854775807:=⟨⟨rfl,trivial⟩,rfl,aa2,aa2⟩;refine J b2 (J aa4 (Z {j:Nat // j<=(dec++[c]).length/\∀m d,m<j->(dec++[c])[m]?=some d->(decide (d.rel.path=c.rel.reqs[i].path)&&!has c.rel.reqs[i].set d.place)=false} (Z (fun q=>⟨[(0,.ref 1000 0),(3,.ref 3 0),(4,.ref 4 0),(6,G i),(7,.ref 7 0),(12,sl Ac c.rel.reqs),(13,G (c.rel.reqs.map Ac).length),(14,G i),(26,.slice (.id 12300 10) ((dec++[c]).map AC)),(27,G ((dec++[c]).map AC).length),(28,G q.1)],[(3,.ro (AC c)),(4,.cells [vs ⟨#[]⟩,BY,vs ⟨#[]⟩,G 0,G 0]),(7,.cells (Ac c.rel.reqs[i])),(1000,.cells (srM roots C A s dec 1004 st.length)),(1001,.tok 6 s.infs.length),(1002,.tok 1 s.drv.length),(1003,.map FM (FO 0 s.infs)),(1004,.arr 1 (st.map Bb)),(12300,.tok 10 ((dec++[c]).map AC).length)],Af⟩) (Z (fun q=>(dec++[c]).length-q.1) (J (Z ⟨0,Ak _,fun k q h=>absurd h (Ch k)⟩ ?_) ?_)))))
  .exact⟨⟨X,X,X,X,X,X,X,X,⟨tkA,rfl⟩,⟨(show G ((dec.map AC++[AC c]:C0).length:Int)=G (((dec++[c]).map AC).length:Int) by simp_all),rfl⟩,X,W⟩,⟨X,X,X,X,X,X,X,X,⟨(show HO.tok 10 ((dec.map AC).length+[AC c].length)=.tok 10 ((dec++[c]).map AC).length by simp),rfl⟩,W⟩,Fh,A2 aa4⟩
  intro⟨j,j1,j2⟩;refine J (fun h3=>?_) (fun h3=>?_)
  .have h3:(j:Int)<(((dec++[c]).map AC).length:Int):=h3;have n3:=FY h3;refine Z (AC ((dec++[c])[j])) (J (Ht n3) (J rfl (yN (yN (J (fun h4=>?_) (fun h4=>?_))))))
   .have h4:(((dec++[c])[j]).rel.path:CS)=c.rel.reqs[i].path:=h4;refine Ay (Bt (has c.rel.reqs[i].set (dec++[c])[j].place)) (fun h5=>?_) (fun h5=>?_)
    .have h5:(has c.rel.reqs[i].set (dec++[c])[j].place)=true:=h5;refine C1 (U (cb h5 (wd c.rel.reqs[i].set (dec++[c])[j].place (hq _ (Ag _)))) (J (by grind [Au]) ?_));refine Z ⟨j+1,by omega,fun m d hm hd=>by
       grind⟩ ?_
     exact⟨by show(dec++[c]).length-(j+1)<(dec++[c]).length-j;omega,Z11,Z9,Fh,A2 aa4⟩
    have h5:(has c.rel.reqs[i].set (dec++[c])[j].place)=false:=h5;refine C1 (U (cb h5 (wd c.rel.reqs[i].set (dec++[c])[j].place (hq _ (Ag _)))) (yN (yN (yN ?_))));have eC:=mI (dec:=dec) (c:=c) n1 i2 n3 h4 h5;exact U (.refl _) (J (show AV.tup [.agg (Bm ⟨c.rel.reqs[i],c.rel.path,c.place,(i:Nat)⟩),I true]=wg (CX dec c) by rw[eC];rfl) rfl)
   have h4:¬(((dec++[c])[j]).rel.path:CS)=c.rel.reqs[i].path:=h4;refine J (by grind [Au]) ?_;refine Z ⟨j+1,by omega,fun m d hm hd=>by
     grind⟩ ?_
   exact⟨by show(dec++[c]).length-(j+1)<(dec++[c]).length-j;omega,Z11,Z9,Fh,A2 aa4⟩
  have h3:¬((j:Int)<(((dec++[c]).map AC).length:Int)):=h3;have n3:=El h3;refine J (by grind [Au]) ?_;have hmq:Xy (dec++[c]) c.rel.reqs[i]=false:=oK fun m d hd=>j2 m d aa2 hd;refine Z ⟨i+1,by omega,fun k q hk hq0=>by
    grind⟩ ?_
  exact⟨Dl c.rel.reqs.length i Wk,Z6,Z7,Fh,A2 aa4⟩
 have h1:¬((i:Int)<((c.rel.reqs.map Ac).length:Int)):=h1;have n1:=El h1;refine yN (yN ?_);have eC:=mJ (dec:=dec) (c:=c) fun k q hk=>i2 k q aa2 hk;exact U (.refl _) (J (show AV.tup [zNd,I false]=wg (CX dec c) by rw[eC];rfl) rfl)
theorem PV{x:List Rl}{roots:List Rq}{l0:List Nf}:∀{l:List Nf} {d d' : List (List Tm)},(∀i∈l,i∈l0)->(∀t∈d,Si (HM x roots l0) t)->BI x roots l d=some d'->∀t∈d',Si (HM x roots l0) t
 | [],d,d',_,hd,h=>by cases h;exact hd
 |i::l,d,d',hl,hd,h=>by
  unfold BI at h;cases hi:AR x roots d i with
  |none=>simp_all
  |some t=>
   rw[hi]at h;refine PV (fun j hj=>hl j (Aj _ hj)) (fun u hu=>?_) h
   grind [NE,List.mem_cons_self]
section
variable {x:List Rl}{roots:List Rq}{s:SS}
theorem EZ.few(hx:Aw x=0)(hr:AK roots=0)(h:EZ x roots s):∀t∈s.drv,Wg t:=fun t ht=>
 (PV (l0:=s.infs) (fun _ h=>h) (fun _ h=>by cases h) h.der t ht).fewI (L1 hx hr h.len)
theorem IE{l:List Tm}(h:s.infs.Nodup):(Ed s i l).2.infs.Nodup:=by
 cases hk:Mz i 0 s.infs with
 |some k=>rw[ZV hk];exact h
 |none=>
  grind [WJ,ZT,RK]
theorem LC.add(h:LC x roots s){l:List Tm}(hi:AR x roots s.drv i=some l):LC x roots (Ed s i l).2/\(Ed s i l).1<(Ed s i l).2.drv.length/\s.drv.length<=(Ed s i l).2.drv.length:=
 ⟨⟨(KZ h.der hi).1,IE h.nodup⟩,(KZ h.der hi).2.1,(K3 s i l).len⟩
theorem LC.dl(h:LC x roots s):s.infs.length<=65536/\s.drv.length=s.infs.length/\s.drv.length<=65536:=by
 have h1:=h.der.dlen;have h2:=h.der.len;omega
theorem oX(hx:Aw x=0)(p:CS):∀d,AR x roots d ⟨2,p,0,0,0,0⟩=some (Eh p (Ba x p)):=fun d=>by
 obtain⟨u,u0,u1,hu⟩:=iW hx p;have hV:Gv []:=fun _ h=>by cases h
 have ou:V9 [] p (M9 [] p (gi u)):=.ver hV (Fl ⟨u0,u1⟩);have h1:AX [(⟨p,false,BW (Ba x p)⟩:Tm)] (M9 [] p (gi u))=true:=by
  grind [Bu,Dj,AE,Fl,HP,Fu,Qs]
 have h2:AX [(⟨p,false,BW (Ba x p)⟩:Tm)] []=false:=rfl;have ER:Eh p (Ba x p)≠[]:=by
  have c1:=Dn (l:=[(⟨p,false,BW (Ba x p)⟩:Tm)]) ou.val;have c2:=Dn (l:=[(⟨p,false,BW (Ba x p)⟩:Tm)]) hV;rw[h1]at c1;rw[h2]at c2;unfold Eh H;cases hc:Bj [(⟨p,false,BW (Ba x p)⟩:Tm)]with
  |none=>grind
  |some c=>
   rw[hc]at c2;intro e;have e:c=[]:=e;rw[e]at c2;cases c2
 grind [AR,Ph]
theorem ES(h:k<s.drv.length):s.drv[k]?=some (Ei s k):=by
 simp_all
theorem Vb{L:List Nat}(hj:j<L.length)(h:s.full=true\/DN (Ei s k) p=false):B2 p (L.drop j) k s=(k,s):=by
 grind [List.drop_eq_getElem_cons,B2]
theorem fp{L:List Nat}(hj:j<L.length)(h1:¬(s.full=true\/DN (Ei s k) p=false))(h:L[j]=k):B2 p (L.drop j) k s=B2 p (L.drop (j+1)) k s:=by
 grind [List.drop_eq_getElem_cons,B2]
theorem kD{L:List Nat}(hj:j<L.length)(h1:¬(s.full=true\/DN (Ei s k) p=false))(h2:¬L[j]=k)(h:(AU (Ei s k) (Ei s L[j]) p).2≠0):B2 p (L.drop j) k s=B2 p (L.drop (j+1)) k s:=by
 grind [List.drop_eq_getElem_cons,B2]
theorem kB{L:List Nat}(hj:j<L.length)(h1:¬(s.full=true\/DN (Ei s k) p=false))(h2:¬L[j]=k)(h:(AU (Ei s k) (Ei s L[j]) p).2=0) :
  B2 p (L.drop j) k s=B2 p (L.drop (j+1)) (Ed s ⟨3,p,0,0,(k:Nat),(L[j]:Nat)⟩ (AU (Ei s k) (Ei s L[j]) p).1).1 (Ed s ⟨3,p,0,0,(k:Nat),(L[j]:Nat)⟩ (AU (Ei s k) (Ei s L[j]) p).1).2:=by
 grind [List.drop_eq_getElem_cons,B2]
end
theorem Gr{t:List Tm}(h:Wg t):BF t:=Wk
theorem s91(x:List Rl)(roots:List Rq)(C A:List (Value×AV))(s:SS)(dec:List Cd)(st:List (List Sk))(p:CS)(n:Nd)(rs:List Nat)(V:AV)(hx:Aw x=0)(hr:AK roots=0)(hs:LC x roots s)(aZ:∀d,AR x roots d (OZ n)=some (II n))(hrs:∀r∈rs,r<s.drv.length)(hrl:rs.length<=1073741823)(hnq:BF n.rq.set)(hnp:Au (n.place+1))
  (zU:∀a,(Value.string p,a)∈A->a=V) (zV:(∀a,(Value.string p,a)∉A)->V=BY) (zW:∀h,PC 229 [vs p,str h V] (sl M (Eh p (Ba x p)))):A6 prog 156 [.ref 1000 0,vs p,.agg (Bm n),sl CA rs] (Ai (JQ roots C A s dec st) Af) fun r h'=>vo roots C A dec st (DE x p n rs s) r h':=by
 have hw:=hs.dl;obtain⟨hs1,hk1,gX⟩:=hs.add (aZ s.drv)
 change LC x roots (Bx s n).2 at hs1
 change (Bx s n).1<(Bx s n).2.drv.length at hk1
 change s.drv.length<=(Bx s n).2.drv.length at gX
 have UV:=hs1.dl;obtain⟨yv,SD,wI⟩:=hs1.add (oX hx p (Bx s n).2.drv)
 change LC x roots (Ev x p (Bx s n).2).2 at yv
 change (Ev x p (Bx s n).2).1<(Ev x p (Bx s n).2).2.drv.length at SD
 change (Bx s n).2.drv.length<=(Ev x p (Bx s n).2).2.drv.length at wI
 obtain⟨L,hL⟩:∃L,L=(Ev x p (Bx s n).2).1::rs:=⟨_,rfl⟩;have hLr:∀r∈L,r<(Ev x p (Bx s n).2).2.drv.length:=fun r YV=>by
  grind
 have hLl:L.length=rs.length+1:=aa0
 have hk1:(Bx s n).1<(Ev x p (Bx s n).2).2.drv.length:=Wk
 refine Bi (IU (pC [6] [3,7,8,10])) [(1000,1000),(1001,1001),(1002,1002),(1003,1003),(1004,1004)] rfl BA hm rfl func156 aa4 rfl C4 aa4 rfl (yN (Z (.gen dg 0) (J rfl (A6.imp (s88 roots C A s dec st n hw.1 hw.2.1 hs.nodup hnq hnp) ?_))));intro v1 g1 q1;have te:=q1.1;have tf:=q1.2;subst te;subst tf;refine Qk V BY zU zV (fun h=>h) (C1 (U (zW _) (Z (.gen dg 0) (J rfl (A6.imp (tp roots C A (Bx s n).2 dec st ⟨2,p,0,0,0,0⟩ (Eh p (Ba x p)) UV.1 UV.2.1 hs1.nodup) ?_)))));intro v2 g2 q2;have q2a:=q2.1;have q2b:=q2.2;subst q2a;subst q2b;refine cU [(0,.ref 1000 0),(1,vs p),(3,sl CA rs),(9,G (((Bx s n).1:Nat):Int)),(10,G (((Ev x p (Bx s n).2).1:Nat):Int))] [(1000,.cells [sl Ac roots,.cmap Ca C,.cmap Ca A,.slice (.id 1001 6) ((Ev x p (Bx s n).2).2.infs.map AG),.slice (.id 1002 1) ((Ev x p (Bx s n).2).2.drv.map F),.mref 1003,I (Ev x p (Bx s n).2).2.full,sl AC dec,sl Ae (Q dec),.msl 1004 st.length]),(1001,.tok 6 (Ev x p (Bx s n).2).2.infs.length),(1002,.tok 1 (Ev x p (Bx s n).2).2.drv.length),(1003,.map FM (FO 0 (Ev x p (Bx s n).2).2.infs)),(1004,.arr 1 (st.map Bb))] Z5 Z5 ?_
 have b3:A7 1 (rs.map CA)/\([[G (((Ev x p (Bx s n).2).1:Nat):Int)]]:C0).length=1/\(([[G (((Ev x p (Bx s n).2).1:Nat):Int)]]:C0).length+(rs.map CA).length)*8<=140737488355328/\([[G (((Ev x p (Bx s n).2).1:Nat):Int)]]:C0).length+(rs.map CA).length<=9223372036854775807:=⟨(B8 (enc:=CA) (n:=1) (fun _=>rfl) rs),aa0,aa2,aa2⟩;refine J b3 (Z {q:Nat×Nat×SS // q.1<=L.length/\B2 p (L.drop q.1) q.2.1 q.2.2=B2 p L (Bx s n).1 (Ev x p (Bx s n).2).2/\LC x roots q.2.2/\q.2.1<q.2.2.drv.length/\∀r∈L,r<q.2.2.drv.length} (Z (fun q=>⟨[(0,.ref 1000 0),(1,vs p),(9,G q.1.2.1),(33,.slice (.id 31 1) (L.map CA)),(34,G (L.map CA).length),(35,G q.1.1)],[(31,.tok 1 (L.map CA).length),(1000,.cells (srM roots C A q.1.2.2 dec 1004 st.length)),(1001,.tok 6 q.1.2.2.infs.length),(1002,.tok 1 q.1.2.2.drv.length),(1003,.map FM (FO 0 q.1.2.2.infs)),(1004,.arr 1 (st.map Bb))],Af⟩) (Z (fun q=>L.length-q.1.1) (J (Z ⟨(0,(Bx s n).1,(Ev x p (Bx s n).2).2),Ak _,by simp_all,yv,hk1,hLr⟩ ?_) ?_))))
 .exact⟨⟨X,X,X,⟨(show AV.slice (.id 31 1) ([[G (((Ev x p (Bx s n).2).1:Nat):Int)]]++rs.map CA)=.slice (.id 31 1) (L.map CA) by simp_all),rfl⟩,⟨(show G (([[G (((Ev x p (Bx s n).2).1:Nat):Int)]]++rs.map CA:C0).length:Int)=G ((L.map CA).length:Int) by simp_all),rfl⟩,X,W⟩,⟨⟨(show HO.tok 1 (([[G (((Ev x p (Bx s n).2).1:Nat):Int)]]:C0).length+(rs.map CA).length)=.tok 1 (L.map CA).length by grind),rfl⟩,X,X,X,X,X,W⟩,Fh,A2 aa4⟩
 intro⟨⟨j,k,S⟩,j1,j2,j3,j4,j5⟩;have hw3:=j3.dl;have hfw:=j3.der.few hx hr;have gk:S.drv[k]?=some (Ei S k):=ES j4;refine J (fun h4=>?_) (fun h4=>?_)
 .have h4:(j:Int)<((L.map CA).length:Int):=h4;have n4:=FY h4;refine Z (CA L[j]) (J (Ht n4) (J rfl (J (fun h5=>?_) (fun h5=>?_))))
  .refine cU [(9,G k)] [(1000,.cells (srM roots C A S dec 1004 st.length)),(1001,.tok 6 S.infs.length),(1002,.tok 1 S.drv.length),(1003,.map FM (FO 0 S.infs)),(1004,.arr 1 (st.map Bb))] Z1 Z5 ?_
   have eR:B2 p L (Bx s n).1 (Ev x p (Bx s n).2).2=(k,S):=by grind [Vb]
   have eL:DE x p n rs s=(k,S):=by grind [DE]
   exact U (.refl _) (J (show G (k:Int)=G (((DE x p n rs s).1:Nat):Int) by rw[eL]) (show Ai (JQ roots C A S dec st) Af=Ai (JQ roots C A (DE x p n rs s).2 dec st) Af by rw[eL]))
  refine Z (F (Ei S k)) (J (J (Nn k) (Br gk)) (J rfl (Ay (Bt (DN (Ei S k) p)) (fun h7=>?_) (fun h7=>?_))))
  .refine C1 (U (cb h7 (qF (Ei S k) p (Gr (hfw _ (AA (ES j4)))))) (cU [(0,.ref 1000 0),(1,vs p),(9,G k),(12,G (L[j]:Nat)),(33,.slice (.id 31 1) (L.map CA)),(34,G (L.map CA).length),(35,G j)] [(31,.tok 1 (L.map CA).length),(1000,.cells (srM roots C A S dec 1004 st.length)),(1001,.tok 6 S.infs.length),(1002,.tok 1 S.drv.length),(1003,.map FM (FO 0 S.infs)),(1004,.arr 1 (st.map Bb))] Z7 Z6 (J (fun h8=>?_) (fun h8=>?_))))
   .refine J (by grind [Au]) (Z ⟨(j+1,k,S),FG n4,by grind [fp],j3,j4,j5⟩ ?_);exact⟨Dl L.length j Wk,Z6,Z6,Fh,A2 aa4⟩
   refine Z (F (Ei S k)) (J (J (Nn k) (Br gk)) (J rfl (Z (F (Ei S L[j])) (J (J (show(0:Int)<=(L[j]:Nat) by omega) (Br (ES (j5 _ (Ag n4))))) (J rfl ?_)))));have fk:=hfw _ (AA (ES j4));have fr:=hfw _ (AA (ES (j5 _ (Ag n4))));refine U (zh (Ei S k) (Ei S L[j]) p fk.1 fr.1 fk.2 fr.2) (J aa4 (cU [(0,.ref 1000 0),(1,vs p),(9,G k),(12,G (L[j]:Nat)),(13,sl M (AU (Ei S k) (Ei S L[j]) p).1),(14,G (AU (Ei S k) (Ei S L[j]) p).2),(33,.slice (.id 31 1) (L.map CA)),(34,G (L.map CA).length),(35,G j)] [(31,.tok 1 (L.map CA).length),(1000,.cells (srM roots C A S dec 1004 st.length)),(1001,.tok 6 S.infs.length),(1002,.tok 1 S.drv.length),(1003,.map FM (FO 0 S.infs)),(1004,.arr 1 (st.map Bb))] Z9 Z6 (J (fun JN=>?_) (fun JN=>?_))))
   .refine J (by grind [Au]) (Z ⟨(j+1,k,S),FG n4,by rw[<-(kD (s:=S) (p:=p) (L:=L) (j:=j) (k:=k) n4 aa2 Wk JN)];exact j2,j3,j4,j5⟩ ?_);exact⟨Dl L.length j Wk,Z6,Z6,Fh,A2 aa4⟩
   have JN:((AU (Ei S k) (Ei S L[j]) p).2:Int)=(0:Int):=As JN;refine Z (.gen dg 0) (J rfl (A6.imp (tp roots C A S dec st ⟨3,p,0,0,(k:Nat),(L[j]:Nat)⟩ (AU (Ei S k) (Ei S L[j]) p).1 hw3.1 hw3.2.1 j3.nodup) ?_));intro v12 g12 QO;have xw:=QO.1;have xx:=QO.2;subst xw;subst xx;refine J (by grind [Au]) ?_;obtain⟨a1,a2,a3⟩:=j3.add (Xn (x:=x) (roots:=roots) (p:=p) j4 (j5 _ (Ag n4)) JN);refine Z ⟨(j+1,(Ed S ⟨3,p,0,0,(k:Nat),(L[j]:Nat)⟩ (AU (Ei S k) (Ei S L[j]) p).1).1,(Ed S ⟨3,p,0,0,(k:Nat),(L[j]:Nat)⟩ (AU (Ei S k) (Ei S L[j]) p).1).2),FG n4,by rw[<-(kB (s:=S) (p:=p) (L:=L) (j:=j) (k:=k) n4 aa2 Wk JN)];exact j2,a1,a2,fun r hr=>AZ (j5 r hr) a3⟩ ?_;exact⟨Dl L.length j Wk,Z6,Z6,Fh,A2 aa4⟩
  refine C1 (U (cb h7 (qF (Ei S k) p (Gr (hfw _ (AA (ES j4)))))) (cU [(9,G k)] [(1000,.cells (srM roots C A S dec 1004 st.length)),(1001,.tok 6 S.infs.length),(1002,.tok 1 S.drv.length),(1003,.map FM (FO 0 S.infs)),(1004,.arr 1 (st.map Bb))] Z1 Z5 ?_))
  have eR:B2 p L (Bx s n).1 (Ev x p (Bx s n).2).2=(k,S):=by grind [Vb]
  have eL:DE x p n rs s=(k,S):=by grind [DE]
  exact U (.refl _) (J (show G (k:Int)=G (((DE x p n rs s).1:Nat):Int) by rw[eL]) (show Ai (JQ roots C A S dec st) Af=Ai (JQ roots C A (DE x p n rs s).2 dec st) Af by rw[eL]))
 have n4:=El h4;have hj:¬j<L.length:=Wk
 have eR:B2 p L (Bx s n).1 (Ev x p (Bx s n).2).2=(k,S):=by rw[<-j2,Eb Wk];rfl
 have eL:DE x p n rs s=(k,S):=by grind [DE]
 exact U (.refl _) (J (show G (k:Int)=G (((DE x p n rs s).1:Nat):Int) by rw[eL]) (show Ai (JQ roots C A S dec st) Af=Ai (JQ roots C A (DE x p n rs s).2 dec st) Af by rw[eL]))
abbrev dh:JD:=[(1000,1000),(1001,1001),(1002,1002),(1003,1003),(500,1004)]
abbrev srE:List (Nat×HO):=
 [(1000,.cells (srM roots C A s dec 2000 st.length)),(1001,.tok 6 s.infs.length),(1002,.tok 1 s.drv.length),(1003,.map FM (FO 0 s.infs)),(1004,.dead),(2000,.arr 1 (st.map Bb))]
abbrev dj(o:Ko)(r:AV)(h' : Nat->HO):Prop:=r=.tup [G (o.res:Nat),I o.found]/\h'=Ai (srE roots C A o.ss o.dec o.stack) Af
def H64:Prop:=∀(s:SS) (dec:List Cd) (st:List (List Sk)),dec.length<=1000->(∀c∈dec,c.rel.reqs.length<=1073741824) ->
 A6 prog 148 [.ref 1000 0] (Ai (JQ roots C A s dec st) Af) fun r h'=>r=.tup [vs (D4 roots dec).1,sl Bm (D4 roots dec).2]/\h'=Ai (JQ roots C A s dec st) Af
theorem Oz{roots:List Rq}{C A:List (Value×AV)}{o:Ko}{b:Bool}{s:SS}{dec:List Cd}{st:List (List Sk)}(e:o=⟨k,b,s,dec,st⟩) :
  AV.tup [G (k:Nat),I b]=.tup [G (o.res:Nat),I o.found]/\Ai (srE roots C A s dec st) Af=Ai (srE roots C A o.ss o.dec o.stack) Af:=aa0
abbrev df:JD:=[(1000,1000),(1001,1001),(1002,1002),(1003,1003),(1004,1004),(1005,1005),(1006,1006),(1007,1007),(1008,1008),(1009,1009)]
def H8:CS×List Nd:=((Du roots dec).take m).foldl (D0 dec) (R,[])
theorem o0{roots:List Rq}{dec:List Cd}{m:Nat}{n:Nd}(h:(Du roots dec)[m]?=some n):H8 roots dec (m+1)=D0 dec (H8 roots dec m) n:=by
 grind [H8,List.take_add_one]
theorem sU{roots:List Rq}{dec:List Cd}{m:Nat}(h:(Du roots dec).length<=m):H8 roots dec m=D4 roots dec:=by
 grind [H8,D4,List.take_of_length_le]
def FZ(j:Nat):Nat:=roots.length+((dec.take j).map fun c=>c.rel.reqs.length).sum
theorem VE:(QQ c).length=c.rel.reqs.length:=M7 _ _ _
theorem kX:FZ roots dec 0=roots.length:=by grind [FZ]
theorem kW{roots:List Rq}{dec:List Cd}(h:j<dec.length):FZ roots dec (j+1)=FZ roots dec j+dec[j].rel.reqs.length:=by
 grind [FZ,List.take_succ_eq_append_getElem]
theorem ci:FZ roots dec dec.length=(Du roots dec).length:=by
 grind [FZ,Du,cC,M7,List.map_congr_left,VE]
theorem kM{roots:List Rq}{dec:List Cd}{i:Nat}(h:i<roots.length):(Du roots dec)[i]?=some ⟨roots[i],R,0,(i:Nat)⟩:=by
 grind [Du,cC,List.getElem?_append_left,QJ]
theorem aL{α:Type}:∀{l:List (List α)} {j k:Nat} (hj:j<l.length),k<l[j].length->l.flatten[((l.take j).map List.length).sum+k]?=l[j][k]?
 |y::l,0,k,_,hk=>by
  grind
 |y::l,j+1,k,hj,hk=>by
  rw[Cs,List.take_succ_cons,Bo,List.sum_cons,BO Wk]
  have:=aL (l:=l) (j:=j) (k:=k) aa2 hk
  grind
theorem oO{roots:List Rq}{dec:List Cd}(hj:j<dec.length)(hk:k<dec[j].rel.reqs.length):(Du roots dec)[FZ roots dec j+k]?=some ⟨dec[j].rel.reqs[k],dec[j].rel.path,dec[j].place,(k:Nat)⟩:=by
 unfold Du cC FZ;rw[BO (by grind [M7]),M7];have h:=aL (l:=dec.map QQ) (j:=j) (k:=k) aa0 (by grind [VE]);rw[<-List.map_take,BH,show(List.length ∘ QQ)=fun c=>c.rel.reqs.length from funext VE]at h
 grind [QQ,QJ]
abbrev qE:List (Nat×HO):=
  [(1000,.cells (srC roots C A s dec st.length)),(1001,.tok 6 s.infs.length),(1002,.tok 1 s.drv.length),(1003,.map FM (FO 0 s.infs)),(1004,.arr 1 (st.map Bb)),
   (1005,.cells [.ref 1000 0]),(1006,.cells [vs (H8 roots dec m).1]),(1007,.cells [.slice (.ver 1008 5 m) ((H8 roots dec m).2.map Bm)]),(1008,.var 5 m ((H8 roots dec m).2.map Bm).length),(1009,.cells [.ref 1000 0])]
noncomputable abbrev cxn(pl:Ns)(l:Nat)(Y:D->World->Prop):Cx:=⟨prog,tQ,pl,true,0,fun l' σ' g w=>l'=l->σ'=df->Y g w⟩
theorem Jt.pre{Y':D->World->Prop}{l:Nat}{args:List AV}{h0:Nat->HO}{Q:AV->(Nat->HO)->Prop}(h:Jt P Y l args h0 Q)(hp:∀g w,Y' g w->Y g w):Jt P Y' l args h0 Q:=
 fun g w vals q1 q2 q3 q4=>h g w vals q1 q2 q3 (hp g w q4)
theorem AgB:A6 prog 222 [.ref 1000 0] (Ai (JQ roots C A s dec st) Af) fun r h'=>r=.clo 289 [.ref 2000 0]/\h'=Ai (JQ roots C A s dec st++[(2000,.cells [.ref 1000 0])]) Af:=by
 refine Bi (IU Dc) [(1000,1000),(1001,1001),(1002,1002),(1003,1003),(1004,1004),(1,2000)] rfl BA hm rfl func222 aa4 rfl C4 aa4 rfl ?_;exact U (.refl _) X
theorem AgE(l:Nat)(roots:List Rq)(C A:List (Value×AV))(s:SS)(dec:List Cd)(st:List (List Sk))(hr:roots.length<=1073741824)(hd:dec.length<=1073741824)(uy:∀c∈dec,c.rel.reqs.length<=1073741824)(hy:∀m n,(Du roots dec)[m]?=some n->Jt prog Y l [.agg (Bm n)] (Ai (qE roots C A s dec st m) Af) fun r h'=>r=I true/\h'=Ai (qE roots C A s dec st (m+1)) Af) :
  ZO prog Y df 289 [.v (.func (.yield l) #[] #[]),.ref 1005 0] (Ai (qE roots C A s dec st 0) Af) fun _ h'=>h'=Ai (qE roots C A s dec st (Du roots dec).length) Af:=by
 refine og (l:=l) (cxn Dc l Y) df rfl BA hm rfl func289 aa4 rfl C4 aa4 rfl rfl (Z {i:Nat // i<=roots.length} (Z (fun q=>⟨[(0,.v (.func (.yield l) #[] #[])),(1,.ref 1005 0),(12,sl Ac roots),(13,G (roots.map Ac).length),(14,G q.1)],[(1000,.cells [sl Ac roots,.cmap Ca C,.cmap Ca A,.slice (.id 1001 6) (s.infs.map AG),.slice (.id 1002 1) (s.drv.map F),.mref 1003,I s.full,sl AC dec,sl Ae (Q dec),.msl 1004 st.length]),(1001,.tok 6 s.infs.length),(1002,.tok 1 s.drv.length),(1003,.map FM (FO 0 s.infs)),(1004,.arr 1 (st.map Bb)),(1005,.cells [.ref 1000 0]),(1006,.cells [vs (H8 roots dec q.1).1]),(1007,.cells [.slice (.ver 1008 5 q.1) ((H8 roots dec q.1).2.map Bm)]),(1008,.var 5 q.1 ((H8 roots dec q.1).2.map Bm).length),(1009,.cells [.ref 1000 0])],Af⟩) (Z (fun q=>roots.length-q.1) (J (Z ⟨0,Ak _⟩ ?_) ?_))))
 .exact⟨Z5,Z10,Fh,A2 aa4⟩
 intro⟨i,i1⟩;refine J (fun h1=>?_) (fun h1=>?_)
 .have h1:(i:Int)<((roots.map Ac).length:Int):=h1;have n1:=FY h1;refine Z (Ac roots[i]) (J (Ht n1) (J rfl (yN (yN (yN (Z (.gen df 0) (J rfl (Jt.imp (Jt.pre (hy i ⟨roots[i],R,0,(i:Nat)⟩ (kM n1)) (fun g w q=>q rfl rfl)) ?_))))))));intro v2 g2 q2;have q2a:=q2.1;have q2b:=q2.2;subst q2a;subst q2b;refine J (by grind [Au]) (Z ⟨i+1,by omega⟩ ?_);exact⟨by grind,Z5,Z10,Fh,A2 aa4⟩
 have n1:=El h1;have hE:i=FZ roots dec 0:=by grind [kX]
 refine Z {j:Nat // j<=dec.length} (Z (fun q=>⟨[(0,.v (.func (.yield l) #[] #[])),(29,sl AC dec),(30,G (dec.map AC).length),(31,G q.1)],[(1000,.cells [sl Ac roots,.cmap Ca C,.cmap Ca A,.slice (.id 1001 6) (s.infs.map AG),.slice (.id 1002 1) (s.drv.map F),.mref 1003,I s.full,sl AC dec,sl Ae (Q dec),.msl 1004 st.length]),(1001,.tok 6 s.infs.length),(1002,.tok 1 s.drv.length),(1003,.map FM (FO 0 s.infs)),(1004,.arr 1 (st.map Bb)),(1005,.cells [.ref 1000 0]),(1006,.cells [vs (H8 roots dec (FZ roots dec q.1)).1]),(1007,.cells [.slice (.ver 1008 5 (FZ roots dec q.1)) ((H8 roots dec (FZ roots dec q.1)).2.map Bm)]),(1008,.var 5 (FZ roots dec q.1) ((H8 roots dec (FZ roots dec q.1)).2.map Bm).length),(1009,.cells [.ref 1000 0])],Af⟩) (Z (fun q=>dec.length-q.1) (J (Z ⟨0,Ak _⟩ ?_) ?_)))
 .exact⟨Z4,⟨X,X,X,X,X,X,⟨(show .cells [vs (H8 roots dec i).1]=(.cells [vs (H8 roots dec (FZ roots dec 0)).1]:HO) by rw[hE]),rfl⟩,⟨(show .cells [.slice (.ver 1008 5 i) ((H8 roots dec i).2.map Bm)]=(.cells [.slice (.ver 1008 5 (FZ roots dec 0)) ((H8 roots dec (FZ roots dec 0)).2.map Bm)]:HO) by rw[hE]),rfl⟩,⟨(show .var 5 i ((H8 roots dec i).2.map Bm).length=(.var 5 (FZ roots dec 0) ((H8 roots dec (FZ roots dec 0)).2.map Bm).length:HO) by rw[hE]),rfl⟩,X,W⟩,Fh,A2 aa4⟩
 intro⟨j,j1⟩;refine J (fun h4=>?_) (fun h4=>?_)
 .have h4:(j:Int)<((dec.map AC).length:Int):=h4;have n4:=FY h4;have hdj:=uy dec[j] (Ag n4);refine Z (AC dec[j]) (J (Ht n4) (J rfl (yN (yN (Z {k:Nat // k<=dec[j].rel.reqs.length} (Z (fun q=>⟨[(0,.v (.func (.yield l) #[] #[])),(6,.ref 6 0),(29,sl AC dec),(30,G (dec.map AC).length),(31,G j),(37,sl Ac dec[j].rel.reqs),(38,G (dec[j].rel.reqs.map Ac).length),(39,G q.1)],[(6,.cells (AC dec[j])),(1000,.cells [sl Ac roots,.cmap Ca C,.cmap Ca A,.slice (.id 1001 6) (s.infs.map AG),.slice (.id 1002 1) (s.drv.map F),.mref 1003,I s.full,sl AC dec,sl Ae (Q dec),.msl 1004 st.length]),(1001,.tok 6 s.infs.length),(1002,.tok 1 s.drv.length),(1003,.map FM (FO 0 s.infs)),(1004,.arr 1 (st.map Bb)),(1005,.cells [.ref 1000 0]),(1006,.cells [vs (H8 roots dec (FZ roots dec j+q.1)).1]),(1007,.cells [.slice (.ver 1008 5 (FZ roots dec j+q.1)) ((H8 roots dec (FZ roots dec j+q.1)).2.map Bm)]),(1008,.var 5 (FZ roots dec j+q.1) ((H8 roots dec (FZ roots dec j+q.1)).2.map Bm).length),(1009,.cells [.ref 1000 0])],Af⟩) (Z (fun q=>dec[j].rel.reqs.length-q.1) (J (Z ⟨0,Ak _⟩ ?_) ?_))))))))
  .exact⟨Z8,Z11,Fh,A2 aa4⟩
  intro⟨k,k1⟩;have k1:k<=dec[j].rel.reqs.length:=k1;refine J (fun h5=>?_) (fun h5=>?_)
  .have h5:(k:Int)<((dec[j].rel.reqs.map Ac).length:Int):=h5;have n5:=FY h5;refine Z (Ac dec[j].rel.reqs[k]) (J (Ht n5) (J rfl (yN (yN (yN (Z (.gen df 0) (J rfl (Jt.imp (Jt.pre (hy (FZ roots dec j+k) ⟨dec[j].rel.reqs[k],dec[j].rel.path,dec[j].place,(k:Nat)⟩ (oO n4 n5)) (fun g w q=>q rfl rfl)) ?_))))))));intro v6 g6 q6;have q6a:=q6.1;have q6b:=q6.2;subst q6a;subst q6b;refine J (by grind [Au]) (Z ⟨k+1,by omega⟩ ?_);exact⟨by grind,Z8,Z11,Fh,A2 aa4⟩
  have h5:¬((k:Int)<((dec[j].rel.reqs.map Ac).length:Int)):=h5;have n5:=El h5;refine J (by grind [Au]) ?_;have hE:FZ roots dec j+k=FZ roots dec (j+1):=by grind [kW]
  refine Z ⟨j+1,by omega⟩ ?_;exact⟨by grind,Z4,⟨X,X,X,X,X,X,⟨(show .cells [vs (H8 roots dec (FZ roots dec j+k)).1]=(.cells [vs (H8 roots dec (FZ roots dec (j+1))).1]:HO) by rw[hE]),rfl⟩,⟨(show .cells [.slice (.ver 1008 5 (FZ roots dec j+k)) ((H8 roots dec (FZ roots dec j+k)).2.map Bm)]=(.cells [.slice (.ver 1008 5 (FZ roots dec (j+1))) ((H8 roots dec (FZ roots dec (j+1))).2.map Bm)]:HO) by rw[hE]),rfl⟩,⟨(show .var 5 (FZ roots dec j+k) ((H8 roots dec (FZ roots dec j+k)).2.map Bm).length=(.var 5 (FZ roots dec (j+1)) ((H8 roots dec (FZ roots dec (j+1))).2.map Bm).length:HO) by rw[hE]),rfl⟩,X,W⟩,Fh,A2 aa4⟩
 have h4:¬((j:Int)<((dec.map AC).length:Int)):=h4;have n4:=El h4;exact Aa (fun m=>Ai (qE roots C A s dec st m) Af) (show FZ roots dec j=(Du roots dec).length by grind [ci])
theorem xl{h:Nat->HO}{r:Nat}{cs:List AV}{K:(Nat->HO)->Prop}(c1:h o=.cells cs)(c2:Ke cs k=BY)(c3:h r=.free)(hk:K (AJ (AJ h r (.var sz 0 0)) o (.cells (E2 cs k (.slice (.ver r sz 0) []))))):yD h o k r sz K:=by
 grind [yD]
theorem xF{r0:Nat}{jC:Cx}{N:Nat}{fn:Func}{σ:JD}{Q:AV->(Nat->HO)->Prop}{b rest:Code}{st:St}(cs:List AV)(c1:st.h o=.cells cs)(c2:Ke cs k=BY)(c3:st.h r0=.free)(σF σr:JD)(H0 Hn:List (Nat×HO))(gf:Nat)(caps:List AV){uh s:Nat}{ps:Array Tmp}{Hk body:Code}(hb:b=.block uh (.rangeFunc (.tmp s) ps Hk body))(k1:(EE σF&&Eg (AJ (AJ st.h r0 (.var sz 0 0)) o (.cells (E2 cs k (.slice (.ver r0 sz 0) [])))) 0 0&&Dk σF 0 0)=true)(k2:FL σF (AJ (AJ st.h r0 (.var sz 0 0)) o (.cells (E2 cs k (.slice (.ver r0 sz 0) []))))=Ai H0 Af)(k3:(Hp σr&&I8 σr H0)=true)(k4:I8 σr Hn=true)(k5:ren (CB σF) (AJ (AJ st.h r0 (.var sz 0 0)) o (.cells (E2 cs k (.slice (.ver r0 sz 0) [])))) (st.t s)=.clo gf caps)(k6:∀(l D:Nat) (f' : FuncId) (tm:Array Value),tm.size=N->ZO P (fun g w=>w.heap[l]?=some (.loop (IP f' tm ps Hk body D .ready))/\∀i,O g w (L (Ai H0 Af)) (ren (CB σF) (AJ (AJ st.h r0 (.var sz 0 0)) o (.cells (E2 cs k (.slice (.ver r0 sz 0) [])))) (st.t i)) (tm.getD i undef)) σr gf
   (.v (.func (.yield l) #[] #[])::caps) (Ai H0 Af) fun _ h'=>h'=Ai Hn Af)(k7:EL N rest=true)(k8:Rg jC rest (aA jC fn.results.toList σr fun r h'=>Q (ren (CB σ) (Em σF 0 0 (AJ (AJ st.h r0 (.var sz 0 0)) o (.cells (E2 cs k (.slice (.ver r0 sz 0) [])))) h') (ren (Fs σF 0 0) h' r)) (FL σ (Em σF 0 0 (AJ (AJ st.h r0 (.var sz 0 0)) o (.cells (E2 cs k (.slice (.ver r0 sz 0) [])))) h')))
   ⟨fun i=>ren (CB σF) (AJ (AJ st.h r0 (.var sz 0 0)) o (.cells (E2 cs k (.slice (.ver r0 sz 0) [])))) (st.t i),Ai Hn Af⟩)(k9:PM [] body=false:=by kernel_rfl):RfV o k r0 sz jC P N fn σ Q b rest st:=
 xl c1 c2 c3 ⟨σF,σr,H0,Hn,uh,s,ps,Hk,body,gf,caps,hb,k1,k2,k3,k4,k5,k6,k7,k9,k8⟩
section
variable {roots:List Rq}{C A:List (Value×AV)}{s:SS}{dec:List Cd}{st:List (List Sk)}{n:Nd}
theorem Vr{m:Nat}{o:List Nd}(e:H8 roots dec (m+1)=(p,o)){es:C0}(h1:es=o.map Bm)(h2:k=es.length) :
  Ai [(1000,.cells (srC roots C A s dec st.length)),(1001,.tok 6 s.infs.length),(1002,.tok 1 s.drv.length),(1003,.map FM (FO 0 s.infs)),(1004,.arr 1 (st.map Bb)),
   (1005,.cells [.ref 1000 0]),(1006,.cells [vs p]),(1007,.cells [.slice (.ver 1008 5 (m+1)) es]),(1008,.var 5 (m+1) k),(1009,.cells [.ref 1000 0])] Af=Ai (qE roots C A s dec st (m+1)) Af:=by
 grind
theorem o6{a:CS×List Nd}(h:DB dec n.rq.path=true):D0 dec a n=(a.1,a.2):=by grind [D0]
theorem sM{o:List Nd}(h:¬(0:Int)<((o.map Bm).length:Int)):o=[]:=by
 simp_all
theorem sV{a:CS×List Nd}(h:(0:Int)<((a.2.map Bm).length:Int))(hb:Ek a.1 n.rq.path=true):D0 dec a n=(a.1,a.2):=by grind [D0]
theorem o9{a:CS×List Nd}(hd:DB dec n.rq.path=false)(_:(0:Int)<((a.2.map Bm).length:Int))(hb:Ek a.1 n.rq.path=false)(hs:Ek n.rq.path a.1=true):D0 dec a n=(n.rq.path,[n]):=by
 grind [D0]
theorem pc{a:CS×List Nd}(hd:DB dec n.rq.path=false)(hb:Ek a.1 n.rq.path=false)(hs:Ek n.rq.path a.1=false):D0 dec a n=(n.rq.path,a.2++[n]):=by
 grind [D0]
theorem sX{a:CS×List Nd}(hd:DB dec n.rq.path=false)(h:¬(0:Int)<((a.2.map Bm).length:Int)):D0 dec a n=(n.rq.path,a.2++[n]):=by
 grind [sM,D0]
theorem sW(a:CS×List Nd)(n:Nd):(D0 dec a n).2.length<=a.2.length+1:=by
 grind [D0]
theorem iy:∀(m:Nat),(H8 roots dec m).2.length<=m
 |0=>Ao _
 |m+1=>by
  have ih:=iy m
  grind [H8,List.take_add_one,sW]
theorem cQ:∀{l l' : List (Nat×HO)},l.map Prod.fst=l'.map Prod.fst->(∀p∈l',p.2≠.free)->∀i,L (Ai l Af) i->L (Ai l' Af) i
 | [],[],_,_,_,h=>h
 |(a,o)::l,(a',o')::l',e,h,i,hu=>by
  rw[Bo,Bo]at e
  injection e with e1 e2
  have e1:a=a':=e1;subst e1;unfold L at *
  by_cases q:i=a
  .grind [Ai,Nat.beq_refl,List.mem_cons_self]
  .simp only[Ai,DY q,G7]at hu⊢;exact cQ e2 (fun p hp=>h p (Aj _ hp)) i hu
theorem o5:∀i,L (Ai (qE roots C A s dec st 0) Af) i->L (Ai (qE roots C A s dec st m) Af) i:=cQ rfl (by
 simp_all)
theorem iQ:∀{l:List Cd},(∀c∈l,c.rel.reqs.length<=1073741824)->((l.map fun c=>c.rel.reqs.length)).sum<=l.length*1073741824
 | [],_=>by simp
 |c::l,h=>by
  have h1:=h c (Ah ..);have h2:=iQ fun c hc=>h c (Aj _ hc)
  grind
theorem kN(hr:roots.length<=1073741824)(hd:dec.length<=1000)(h:∀c∈dec,c.rel.reqs.length<=1073741824):(Du roots dec).length<=1074815565824:=by
 rw[<-ci]
 grind [FZ,iQ]
end
theorem bO:l.map Bm++[Bm n]=(l++[n]).map Bm:=aa0
theorem Qx:(l.map Bm).length+([Bm n]:C0).length=(l.map Bm++[Bm n]).length:=AD.symm
attribute [local irreducible] RfV yD H8 Du D0
theorem s64(hr:roots.length<=1073741824)(hd:dec.length<=1000)(uy:∀c∈dec,c.rel.reqs.length<=1073741824) :
  A6 prog 148 [.ref 1000 0] (Ai (JQ roots C A s dec st) Af) fun r h'=>r=.tup [vs (D4 roots dec).1,sl Bm (D4 roots dec).2]/\h'=Ai (JQ roots C A s dec st) Af:=by
 refine jb 5 0 9 5 (IU Dc) (IU Dc) dg rfl BA rfl BA hm rfl rfl func148 aa4 rfl C4 aa4 rfl 3 (yN (Z (.gen dg 1) (J rfl (A6.imp (AgB roots C A s dec st) ?_))));intro v1 g1 q1;have te:=q1.1;have tf:=q1.2;subst te;subst tf;refine xF [BY] aa4 aa4 aa4 [(1000,1000),(1001,1001),(1002,1002),(1003,1003),(1004,1004),(10800,1005),(4,1006),(5,1007),(9,1008),(1,1009)] df (qE roots C A s dec st 0) (qE roots C A s dec st (Du roots dec).length) 289 [.ref 1005 0] rfl aa4 aa4 aa4 aa4 aa4 (fun l9 D9 f9 tm9 yy=>AgE l9 roots C A s dec st hr (Bd hd aa3) uy fun m n hn=>lP (σ:=df) 1007 0 1008 (IU ⟨[],[(43,5)],[],[],[],[],[],[],[],[(500005,60001007)],[5]⟩) rfl BA hm rfl rfl rfl yy aa4 aa4 aa4 (o5 m) ?_) aa4 ?_
 .have hml:m<(Du roots dec).length:=(Bg.1 hn).1;have hol:=iy (roots:=roots) (dec:=dec) m;have hnl:=kN hr hd uy;have hF:=o0 hn;refine yN (J ⟨rfl,rfl⟩ (cU [(1,.ref 1009 0),(4,.ref 1006 0),(5,.ref 1007 0),(6,.ref 6 0)] [(6,.cells (Bm n)),(60,.tok 5 ((H8 roots dec m).2.map Bm).length),(1000,.cells (srM roots C A s dec 1004 st.length)),(1001,.tok 6 s.infs.length),(1002,.tok 1 s.drv.length),(1003,.map FM (FO 0 s.infs)),(1004,.arr 1 (st.map Bb)),(1005,.cells [.ref 1000 0]),(1006,.cells [vs (H8 roots dec m).1]),(1007,.cells [.slice (.id 60 5) ((H8 roots dec m).2.map Bm)]),(1008,.vox m),(1009,.cells [.ref 1000 0])] Z4 Z12 (Ay (Bt (DB dec n.rq.path)) (fun h2=>?_) (fun h2=>?_))))
  .have gR:=(AbL roots C A s dec st n.rq.path (Bd hd aa3));rw[show(DB dec n.rq.path)=true from h2]at gR;refine Z (.gen dg 0) (J rfl (A6.imp gR ?_));intro v4 g4 q4;have q4a:=q4.1;have q4b:=q4.2;subst q4a;subst q4b;refine J ⟨rfl,rfl⟩ ?_
   -- [('(DB dec n.rq.path)=true',True)]
   exact⟨rfl,Vr (hF.trans (o6 h2)) rfl rfl⟩
  have SC:=(AbL roots C A s dec st n.rq.path (Bd hd aa3));rw[show(DB dec n.rq.path)=false from h2]at SC;refine Z (.gen dg 0) (J rfl (A6.imp SC ?_));intro v6 g6 q6;have q6a:=q6.1;have q6b:=q6.2;subst q6a;subst q6b;refine J (fun h7=>?_) (fun h7=>?_)
  .have n7:0<(H8 roots dec m).2.length:=aa0
   refine J (fun h8=>?_) (fun h8=>?_)
   .have h8:Ek (H8 roots dec m).1 n.rq.path=true:=(DZ _ _).trans h8;refine J ⟨rfl,rfl⟩ ?_
    -- [('(DB dec n.rq.path)=true',False),('(0:Int)<(((H8 roots dec m).2.map Bm).length:Int)',True),('Ek (H8 roots dec m).1 n.rq.path=true',True)]
    exact⟨rfl,Vr (hF.trans (sV h7 h8)) rfl rfl⟩
   have h8:Ek (H8 roots dec m).1 n.rq.path=false:=(DZ _ _).trans (BC.2 h8);refine J (fun _=>?_) (fun hf=>absurd h7 hf);refine J (fun h9=>?_) (fun h9=>?_)
   .have h9:Ek n.rq.path (H8 roots dec m).1=true:=(DZ _ _).trans h9;refine yN (yN (yN ?_));have Wa:A7 5 [(Bm n)]/\([(Bm n)]:C0).length*72<=140737488355328/\([(Bm n)]:C0).length<=9223372036854775807:=⟨⟨rfl,trivial⟩,aa0,aa0⟩;refine J Wa (yN (J ⟨rfl,rfl⟩ ?_))
    -- [('(DB dec n.rq.path)=true',False),('(0:Int)<(((H8 roots dec m).2.map Bm).length:Int)',True),('Ek (H8 roots dec m).1 n.rq.path=true',False),('Ek n.rq.path (H8 roots dec m).1=true',True)]
    exact⟨rfl,Vr (hF.trans (o9 h2 h7 h8 h9)) rfl rfl⟩
   have h9:Ek n.rq.path (H8 roots dec m).1=false:=(DZ _ _).trans (BC.2 h9);refine yN (yN ?_);have mo:A7 5 [(Bm n)]/\((H8 roots dec m).2.map Bm).length=((H8 roots dec m).2.map Bm).length/\(((H8 roots dec m).2.map Bm).length+([(Bm n)]:C0).length)*72<=140737488355328/\((H8 roots dec m).2.map Bm).length+([(Bm n)]:C0).length<=9223372036854775807:=⟨⟨rfl,trivial⟩,rfl,aa2,aa2⟩;refine J mo (yN (J ⟨(Qx _ n).symm,rfl⟩ ?_))
   -- [('(DB dec n.rq.path)=true',False),('(0:Int)<(((H8 roots dec m).2.map Bm).length:Int)',True),('Ek (H8 roots dec m).1 n.rq.path=true',False),('Ek n.rq.path (H8 roots dec m).1=true',False)]
   exact⟨rfl,Vr (hF.trans (pc h2 h8 h9)) (bO _ n) (Qx _ n)⟩
  have n7:¬0<(H8 roots dec m).2.length:=aa0
  refine J (fun hf=>absurd hf h7) (fun _=>?_);refine yN (yN ?_);have ug:A7 5 [(Bm n)]/\((H8 roots dec m).2.map Bm).length=((H8 roots dec m).2.map Bm).length/\(((H8 roots dec m).2.map Bm).length+([(Bm n)]:C0).length)*72<=140737488355328/\((H8 roots dec m).2.map Bm).length+([(Bm n)]:C0).length<=9223372036854775807:=⟨⟨rfl,trivial⟩,rfl,aa0,aa0⟩;refine J ug (yN (J ⟨(Qx _ n).symm,rfl⟩ ?_))
  -- [('(DB dec n.rq.path)=true',False),('(0:Int)<(((H8 roots dec m).2.map Bm).length:Int)',False)]
  exact⟨rfl,Vr (hF.trans (sX h2 h7)) (bO _ n) (Qx _ n)⟩
 refine J aa4 ?_;exact U (.refl _) ⟨show AV.tup [vs (H8 roots dec (Du roots dec).length).1,sl Bm (H8 roots dec (Du roots dec).length).2]=_ by grind [sU],rfl⟩
end Go.Eng
namespace Go.Eng
open Go.Proofs
theorem kk{α:Type}(pr:α->Bool)(l:List α):(∃(k:Nat) (n:α),KT pr l 0=(k:Nat)/\l[k]?=some n/\l.find? pr=some n)\/(KT pr l 0=-1/\l.find? pr=none):=by
 have key:∀(l:List α) (b:Nat),(∃(k:Nat) (n:α),KT pr l (b:Nat)=((b+k:Nat):Int)/\l[k]?=some n/\l.find? pr=some n)\/(KT pr l (b:Nat)=-1/\l.find? pr=none):=by
  intro l
  induction l with
  |nil=>intro b;exact .inr X
  |cons y l ih=>
   intro b;cases h:pr y with
   |true=>exact .inl ⟨0,y,by unfold KT;simp_all,rfl,by simp_all⟩
   |false=>
    have e:KT pr (y::l) (b:Nat)=KT pr l ((b+1:Nat):Int):=by
     conv=>lhs;unfold KT
     simp_all
    have e2:(y::l).find? pr=l.find? pr:=aa0
    rcases ih (b+1)with ⟨k,n,h1,h2,h3⟩ | ⟨h1,h2⟩
    .exact .inl ⟨k+1,n,by omega,by simp_all,by simp_all⟩
    simp_all
 have:=key l 0
 simp_all
section
variable {rec:List Cd->SS->List (List Sk)->Ko}{x:List Rl}{p:CS}{N:List Nd}{n0:Nd}{dec:List Cd}{st:List (List Sk)}{cs:List Cd}{i:Nat}{S:SS}{rs:List Nat}{sk:List Sk}
theorem mE(h:¬i<cs.length):DC rec x p N n0 dec st (cs.drop i) S rs sk=⟨(DE x p n0 rs S).1,false,(DE x p n0 rs S).2,dec,st⟩:=by
 rw[Eb Wk];rfl
theorem rf(h:i<cs.length)(hf:S.full=true):DC rec x p N n0 dec st (cs.drop i) S rs sk=⟨0,false,S,dec,st⟩:=by
 grind [List.drop_eq_getElem_cons,F0]
theorem zu(h:i<cs.length)(hf:S.full=false){n:Nd}(hn:N.find? (fun n=>!has n.rq.set cs[i].place)=some n):DC rec x p N n0 dec st (cs.drop i) S rs sk=DC rec x p N n0 dec st (cs.drop (i+1)) (Bx S n).2 (rs++[(Bx S n).1]) sk:=by
 grind [List.drop_eq_getElem_cons,F0]
theorem Yn(h:i<cs.length)(hf:S.full=false)(hn:N.find? (fun n=>!has n.rq.set cs[i].place)=none){k:Nat}(he:OL S.drv (Q (dec++[cs[i]]))=some k):DC rec x p N n0 dec st (cs.drop i) S rs sk=I3 rec x p N n0 dec st cs[i] (cs.drop (i+1)) rs sk k S:=by
 grind [List.drop_eq_getElem_cons,F0]
theorem ao(h:i<cs.length)(hf:S.full=false)(hn:N.find? (fun n=>!has n.rq.set cs[i].place)=none)(he:OL S.drv (Q (dec++[cs[i]]))=none){n:Nd}(hc:CX dec cs[i]=some n) :
  DC rec x p N n0 dec st (cs.drop i) S rs sk=I3 rec x p N n0 dec st cs[i] (cs.drop (i+1)) rs sk (Bx S n).1 (Bx S n).2:=by
 grind [List.drop_eq_getElem_cons,F0]
theorem Yo(h:i<cs.length)(hf:S.full=false)(hn:N.find? (fun n=>!has n.rq.set cs[i].place)=none)(he:OL S.drv (Q (dec++[cs[i]]))=none)(hc:CX dec cs[i]=none){o:Ko}(ho:o=rec (dec++[cs[i]]) S (st++[sk])) :
  DC rec x p N n0 dec st (cs.drop i) S rs sk=if o.found=true then⟨0,true,o.ss,o.dec,o.stack⟩else if o.ss.full=true then⟨0,false,o.ss,dec,st⟩else I3 rec x p N n0 dec st cs[i] (cs.drop (i+1)) rs sk o.res o.ss:=by
 grind [List.drop_eq_getElem_cons,F0]
theorem gn{c:Cd}{l:List Cd}{k:Nat}(h:DN (Ei S k) p=false):I3 rec x p N n0 dec st c l rs sk k S=⟨k,false,S,dec,st⟩:=by grind [I3]
theorem X8{c:Cd}{l:List Cd}{k:Nat}(h:DN (Ei S k) p=true):I3 rec x p N n0 dec st c l rs sk k S=DC rec x p N n0 dec st l S (rs++[k]) (sk++[⟨p,c.place,(k:Nat)⟩]):=by grind [I3]
end
theorem Uj{x:List Rl}{dec:List Cd}(h:Df x dec):dec.length<=x.length:=by
 have h1:=CC (m:=x.map (·.path)) h.nodup fun p hp=>by
  grind [Df.cand]
 simp_all
theorem WV(x:List Rl)(p:CS):(Bk x p).length<=x.length:=by
 grind [Bk]
end Go.Eng
