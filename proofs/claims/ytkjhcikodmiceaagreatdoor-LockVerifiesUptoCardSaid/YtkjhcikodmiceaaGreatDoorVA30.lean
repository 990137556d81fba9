/- Lemmas 30. -/
import Derived.Test.YtkjhcikodmiceaaGreatDoorVA29
set_option maxHeartbeats 4000000
namespace Go.Eng
open Go.Proofs Go.Proofs.Tryz
variable {k:Nat}{p:CS}{Y:Gh->World->Prop}{j:Nat}{cs:List AV}{P:Program}{o sz:Nat}{i:Nf}(l:List Nd)(roots:List Rq)(C A:List (Value×AV))(s:SS)(dec:List Cd)(st:List (List Sk))(S:List Sl)(c:Cd)(m:Nat)(n:Nd)
abbrev bL:Jj:=[(1000,1000),(1001,1001),(1002,1002),(1003,1003),(1004,1004)]
theorem xJ{h2:Nat->HO}{o1 o2 o3 o4:HO}(e0:h2 1000=.cells cs)(e1:h2 1001=o1)(e2:h2 1002=o2)(e3:h2 1003=o3)(e4:h2 1004=o4) :
  FJ bL h2=Ai [(1000,.cells (cs.map (ren1 (Cq bL) h2))),(1001,o1.ren (Cq bL) h2),(1002,o2.ren (Cq bL) h2),(1003,o3.ren (Cq bL) h2),(1004,o4.ren (Cq bL) h2)] Af:=by
 unfold FJ;simp only[Yo];rw[e0,e1,e2,e3,e4];rfl
theorem iQ{s:SS}{n:Nd}(h:n.path=mt):Ea s ⟨0,mt,0,n.number,0,0⟩ (Gy n.rq)=Bx s n:=by grind [Bx,PO,Ir]
theorem mJ{s:SS}{n:Nd}(h:¬n.path=mt):Ea s ⟨1,n.path,n.place,n.number,0,0⟩ (BM n.path n.place n.rq)=Bx s n:=by grind [Bx,PO,Ir]
abbrev lr(d:List (List Tm))(S:List Sl):AV:=.tup [vi (((Og d S).getD 0:Nat):Int),vb (Og d S).isSome]
theorem Zp{S:List Sl}:∀{l:List (List Tm)} {b i:Nat} {t:List Tm},l[i]?=some t->Bp t S=true->(∀j u,j<i->l[j]?=some u->Bp u S=false)->Pq S b l=some (b+i)
 | [],_,_,_,h,_,_=>by simp_all
 |u::l,b,0,t,h,he,_=>by grind [Pq]
 |u::l,b,i+1,t,h,he,hn=>by
  unfold Pq;rw[AN (by rw[hn 0 u Wk rfl];decide),Zp (i:=i) (by simp_all) he (fun j v hj hv=>hn (j+1) v Wk (by simp_all))]
  grind
theorem Zq{S:List Sl}:∀{l:List (List Tm)} {b:Nat},(∀t∈l,Bp t S=false)->Pq S b l=none
 | [],_,_=>rfl
 |u::l,b,h=>by
  unfold Pq;rw[AN (by simp_all)];exact Zq fun t ht=>h t (Aj _ ht)
theorem s88(hn:s.infs.length<=65536)(hdl:s.drv.length=s.infs.length)(Vu:s.infs.Nodup)(hq:BO n.rq.set)(hp:Au (n.place+1)):Bg Tryz.prog 151 [.ref 1000 0,.agg (Bl n)] (Ai (Ju roots C A s dec st) Af) fun r h'=>s8 roots C A dec st (Bx s n) r h':=by
 refine Bj (I9 ⟨[3],[],[],[],[],[],[],[],[(15,5),(31,5)],[],[]⟩) [(1000,1000),(1001,1001),(1002,1002),(1003,1003),(1004,1004)] rfl BI hm rfl func151 aa2 rfl (Nz rfl) aa2 rfl (Yi (fun h1=>?_) (fun h1=>?_))
 .refine yN (C2 (xg n.rq hq) (Xi bL (Xi [(1000,.cells (srM roots C A s dec 1004 st.length)),(1001,.tok 6 s.infs.length),(1002,.tok 1 s.drv.length),(1003,.map FL (FO 0 s.infs)),(1004,.arr 1 (st.map Ba))] (Xi (Ju roots C A (Ea s ⟨0,mt,0,n.number,0,0⟩ (Gy n.rq)).2 dec st) (Xi [.ref 1000 0,.agg [vi 0,vs ⟨#[]⟩,vi 0,vi n.number,vi 0,vi 0],sl Ac (Gy n.rq)] (Xi (vi (((Ea s ⟨0,mt,0,n.number,0,0⟩ (Gy n.rq)).1:Nat):Int):AV) (Yi (fun h2 hh=>Yi ((xJ (show h2 1000=.cells (srM roots C A s dec 1004 st.length)from hh 1000 aa1) (show h2 1001=.tok 6 s.infs.length from hh 1001 aa1) (show h2 1002=.tok 1 s.drv.length from hh 1002 aa1) (show h2 1003=.map FL (FO 0 s.infs)from hh 1003 aa1) (show h2 1004=.arr 1 (st.map Ba)from hh 1004 aa1)).trans rfl) rfl) (Yi aa2 (Yi (rx roots C A s dec st ⟨0,mt,0,n.number,0,0⟩ (Gy n.rq) hn hdl Vu) (Yi aa2 ?_))))))))));have ei:=iQ (s:=s) h1;exact C2 (.refl _) (Yi (show vi (((Ea s ⟨0,mt,0,n.number,0,0⟩ (Gy n.rq)).1:Nat):Int)=vi (((Bx s n).1:Nat):Int) by rw[ei]) (show Ai (Ju roots C A (Ea s ⟨0,mt,0,n.number,0,0⟩ (Gy n.rq)).2 dec st) Af=Ai (Ju roots C A (Bx s n).2 dec st) Af by rw[ei]))
 refine yN (C2 (xh n.path n.place n.rq hp hq) (Xi bL (Xi [(1000,.cells (srM roots C A s dec 1004 st.length)),(1001,.tok 6 s.infs.length),(1002,.tok 1 s.drv.length),(1003,.map FL (FO 0 s.infs)),(1004,.arr 1 (st.map Ba))] (Xi (Ju roots C A (Ea s ⟨1,n.path,n.place,n.number,0,0⟩ (BM n.path n.place n.rq)).2 dec st) (Xi [.ref 1000 0,.agg [vi 1,vs n.path,vi n.place,vi n.number,vi 0,vi 0],sl Ac (BM n.path n.place n.rq)] (Xi (vi (((Ea s ⟨1,n.path,n.place,n.number,0,0⟩ (BM n.path n.place n.rq)).1:Nat):Int):AV) (Yi (fun h2 hh=>Yi ((xJ (show h2 1000=.cells (srM roots C A s dec 1004 st.length)from hh 1000 aa1) (show h2 1001=.tok 6 s.infs.length from hh 1001 aa1) (show h2 1002=.tok 1 s.drv.length from hh 1002 aa1) (show h2 1003=.map FL (FO 0 s.infs)from hh 1003 aa1) (show h2 1004=.arr 1 (st.map Ba)from hh 1004 aa1)).trans rfl) rfl) (Yi aa2 (Yi (rx roots C A s dec st ⟨1,n.path,n.place,n.number,0,0⟩ (BM n.path n.place n.rq) hn hdl Vu) (Yi aa2 ?_))))))))));have ei:=mJ (s:=s) h1;exact C2 (.refl _) (Yi (show vi (((Ea s ⟨1,n.path,n.place,n.number,0,0⟩ (BM n.path n.place n.rq)).1:Nat):Int)=vi (((Bx s n).1:Nat):Int) by rw[ei]) (show Ai (Ju roots C A (Ea s ⟨1,n.path,n.place,n.number,0,0⟩ (BM n.path n.place n.rq)).2 dec st) Af=Ai (Ju roots C A (Bx s n).2 dec st) Af by rw[ei]))
theorem s89(hd:s.drv.length<=65536)(ht:∀t∈s.drv,Qx t)(hS:BO S):Bg Tryz.prog 152 [.ref 1000 0,sl Ae S] (Ai (Ju roots C A s dec st) Af) fun r h'=>r=lr s.drv S/\h'=Ai (Ju roots C A s dec st) Af:=by
 refine Bj (I9 CX) [(1000,1000),(1001,1001),(1002,1002),(1003,1003),(1004,1004)] rfl BI hm rfl func152 aa2 rfl (Nz rfl) aa2 rfl (Xi {i:Nat // i<=s.drv.length/\∀j u,j<i->s.drv[j]?=some u->Bp u S=false} (Xi (fun q=>⟨[(1,sl Ae S),(11,.slice (.id 1002 1) (s.drv.map As)),(12,vi (s.drv.map As).length),(13,vi q.1)],[(1000,.cells (srM roots C A s dec 1004 st.length)),(1001,.tok 6 s.infs.length),(1002,.tok 1 s.drv.length),(1003,.map FL (FO 0 s.infs)),(1004,.arr 1 (st.map Ba))],Af⟩) (Xi (fun q=>s.drv.length-q.1) (Yi (Xi ⟨0,Al _,fun j u h=>absurd h (Cf j)⟩ ?_) ?_))))
 .exact⟨Z4,Z5,Fh,Bn aa2⟩
 intro⟨i,i1,i2⟩;refine Yi (fun h1=>?_) (fun h1=>?_)
 .have h1:(i:Int)<((s.drv.map As).length:Int):=h1;have n1:=Ha h1;refine Xi (As s.drv[i]) (Yi (I0 n1) (Yi rfl (Ax (Bt (Bp s.drv[i] S)) (fun h2=>?_) (fun h2=>?_))))
  .refine C1 (C2 (cb h2 (c91 s.drv[i] S (ht _ (Ah _)) hS)) ?_);have eE:Og s.drv S=some i:=by unfold Og;rw[Zp (Ge n1) h2 i2,HN]
   exact C2 (.refl _) (Yi (show AV.tup [vi (i:Int),vb true]=lr s.drv S by simp_all) rfl)
  have h2:(Bp s.drv[i] S)=false:=h2;refine C1 (C2 (cb h2 (c91 s.drv[i] S (ht _ (Ah _)) hS)) (Yi (by grind [Au]) ?_));refine Xi ⟨i+1,by omega,fun j u hj hu=>by
    grind⟩ ?_
  exact⟨Dl s.drv.length i Wk,Z4,Z5,Fh,Bn aa2⟩
 have h1:¬((i:Int)<((s.drv.map As).length:Int)):=h1;have n1:=Et h1;have eE:Og s.drv S=none:=Zq fun t ht=>by
  grind [List.mem_iff_getElem?]
 exact C2 (.refl _) (Yi (show AV.tup [vi 0,vb false]=lr s.drv S by simp_all) rfl)
def WQ(l:List Cd)(q:Rq):Bool:=l.any fun d=>decide (d.rel.path=q.path)&&!has q.set d.place
theorem Wv{f:Rq->Nat->Nd}{P:Nd->Bool}:∀{l:List Rq} {b i:Nat} {q:Rq},l[i]?=some q->P (f q (b+i))=true->(∀k u,k<i->l[k]?=some u->P (f u (b+k))=false)->(MN f b l).find? P=some (f q (b+i))
 | [],_,_,_,h,_,_=>by simp_all
 |u::l,b,0,q,h,he,_=>by
  grind [MN]
 |u::l,b,i+1,q,h,he,hn=>by
  unfold MN;have h0:P (f u b)=false:=hn 0 u Wk rfl;rw[HX,h0]
  have:=Wv (f:=f) (P:=P) (l:=l) (b:=b+1) (i:=i) (q:=q) (by simp_all) (by grind) (fun k v hk hv=>by
   grind)
  grind
theorem Py{f:Rq->Nat->Nd}{P:Nd->Bool}:∀{l:List Rq} {b:Nat},(∀k u,l[k]?=some u->P (f u (b+k))=false)->(MN f b l).find? P=none
 | [],_,_=>rfl
 |u::l,b,h=>by
  unfold MN;have h0:P (f u b)=false:=h 0 u rfl;rw[HX,h0];exact Py fun k v hv=>by rw[show b+1+k=b+(k+1) by omega];simp_all
def zNd:AV:=.agg [vs ⟨#[]⟩,nzA,vs ⟨#[]⟩,vi 0,vi 0]
def t8(o:Option Nd):AV:=match o with | some n=>.tup [.agg (Bl n),vb true] | none=>.tup [zNd,vb false]
section
variable {dec:List Cd}{c:Cd}{i:Nat}
theorem kY(hi:i<c.rel.reqs.length)(hn:∀k q,k<i->c.rel.reqs[k]?=some q->WQ (dec++[c]) q=false){j:Nat}(hj:j<(dec++[c]).length)(h1:(dec++[c])[j].rel.path=c.rel.reqs[i].path)(h2:has c.rel.reqs[i].set (dec++[c])[j].place=false) :
  D3 dec c=some ⟨c.rel.reqs[i],c.rel.path,c.place,(i:Nat)⟩:=by
 have:=Wv (f:=fun q i=>⟨q,c.rel.path,c.place,(i:Nat)⟩) (P:=fI (dec++[c])) (l:=c.rel.reqs) (b:=0) (i:=i) (q:=c.rel.reqs[i]) (Ge hi)
  (BC.2 ⟨_,Ah hj,by simp_all⟩) (fun k u hk hu=>hn k u hk hu)
 grind [D3,Rh]
theorem kZ(hn:∀(k:Nat) (q:Rq),c.rel.reqs[k]?=some q->WQ (dec++[c]) q=false):D3 dec c=none:=by
 unfold D3 Rh;exact Py fun k u hu=>hn k u hu
theorem mV{q:Rq}(h:∀(m:Nat) (d:Cd),(dec++[c])[m]?=some d->(decide (d.rel.path=q.path)&&!has q.set d.place)=false):WQ (dec++[c]) q=false:=by
 grind [WQ,List.mem_iff_getElem?]
end
theorem s87(c:Cd)(hq:BO n.rq.set):PC 150 [.agg (Bl n),.cptr (AE c)] (vb (!has n.rq.set c.place)):=by
 refine Ps (pC [2] []) func150 rfl (Nz rfl) (Ax (Bt (has n.rq.set c.place)) (fun h1=>?_) (fun h1=>?_))
 .refine C1 (C2 (cb h1 (t6 n.rq.set c.place hq)) ?_);exact .of_eq (show vb false=vb (!has n.rq.set c.place) by simp_all)
 refine C1 (C2 (cb h1 (t6 n.rq.set c.place hq)) ?_);exact .of_eq (show vb true=vb (!has n.rq.set c.place) by simp_all)
theorem s69(hd:dec.length<=1073741823)(hr:c.rel.reqs.length<=1073741824)(hq:∀q∈c.rel.reqs,BO q.set):Bg Tryz.prog 153 [.ref 1000 0,.agg (AE c)] (Ai (Ju roots C A s dec st) Af) fun r h'=>r=t8 (D3 dec c)/\h'=Ai (Ju roots C A s dec st) Af:=by
 have hdl:(dec++[c]).length=dec.length+1:=by simp
 refine Bj (I9 ⟨[3],[],[],[],[],[],[],[],[(23,3)],[],[]⟩) [(1000,1000),(1001,1001),(1002,1002),(1003,1003),(1004,1004)] rfl BI hm rfl func153 aa2 rfl (Nz rfl) aa2 rfl (Xi {i:Nat // i<=c.rel.reqs.length/\∀k q,k<i->c.rel.reqs[k]?=some q->WQ (dec++[c]) q=false} (Xi (fun q=>⟨[(0,.ref 1000 0),(3,.ref 3 0),(4,.ref 4 0),(12,sl Ad c.rel.reqs),(13,vi (c.rel.reqs.map Ad).length),(14,vi q.1)],[(3,.ro (AE c)),(4,.cells [vs ⟨#[]⟩,nzA,vs ⟨#[]⟩,vi 0,vi 0]),(1000,.cells (srM roots C A s dec 1004 st.length)),(1001,.tok 6 s.infs.length),(1002,.tok 1 s.drv.length),(1003,.map FL (FO 0 s.infs)),(1004,.arr 1 (st.map Ba))],Af⟩) (Xi (fun q=>c.rel.reqs.length-q.1) (Yi (Xi ⟨0,Al _,fun k q h=>absurd h (Cf k)⟩ ?_) ?_))))
 .exact⟨Z6,Z7,Fh,Bn aa2⟩
 intro⟨i,i1,i2⟩;refine Yi (fun h1=>?_) (fun h1=>?_)
 .have h1:(i:Int)<((c.rel.reqs.map Ad).length:Int):=h1;have n1:=Ha h1;refine Xi (Ad c.rel.reqs[i]) (Yi (I0 n1) (Yi rfl (yN (yN (Xi _ (C2 aa2 (Yi (zZ dec (AS hd aa1)) (yN ?_))))))));have b2:Bh 10 [(AE c)]/\(dec.map AE).length=(dec.map AE).length/\((dec.map AE).length+([(AE c)]:C0).length)*128<=140737488355328/\(dec.map AE).length+([(AE c)]:C0).length<=9223372036854775807:=⟨⟨rfl,trivial⟩,rfl,(by grind),(by grind)⟩;refine Yi b2 (Yi aa2 (Xi {j:Nat // j<=(dec++[c]).length/\∀m d,m<j->(dec++[c])[m]?=some d->(decide (d.rel.path=c.rel.reqs[i].path)&&!has c.rel.reqs[i].set d.place)=false} (Xi (fun q=>⟨[(0,.ref 1000 0),(3,.ref 3 0),(4,.ref 4 0),(6,vi i),(7,.ref 7 0),(12,sl Ad c.rel.reqs),(13,vi (c.rel.reqs.map Ad).length),(14,vi i),(26,.slice (.id 12300 10) ((dec++[c]).map AE)),(27,vi ((dec++[c]).map AE).length),(28,vi q.1)],[(3,.ro (AE c)),(4,.cells [vs ⟨#[]⟩,nzA,vs ⟨#[]⟩,vi 0,vi 0]),(7,.cells (Ad c.rel.reqs[i])),(1000,.cells (srM roots C A s dec 1004 st.length)),(1001,.tok 6 s.infs.length),(1002,.tok 1 s.drv.length),(1003,.map FL (FO 0 s.infs)),(1004,.arr 1 (st.map Ba)),(12300,.tok 10 ((dec++[c]).map AE).length)],Af⟩) (Xi (fun q=>(dec++[c]).length-q.1) (Yi (Xi ⟨0,Al _,fun k q h=>absurd h (Cf k)⟩ ?_) ?_)))))
  .exact⟨⟨Zr,Zr,Zr,Zr,Zr,Zr,Zr,Zr,⟨tkA,rfl⟩,⟨(show vi ((dec.map AE++[AE c]:C0).length:Int)=vi (((dec++[c]).map AE).length:Int) by simp_all),rfl⟩,Zr,Tv⟩,⟨Zr,Zr,Zr,Zr,Zr,Zr,Zr,Zr,⟨(show HO.tok 10 ((dec.map AE).length+[AE c].length)=.tok 10 ((dec++[c]).map AE).length by simp),rfl⟩,Tv⟩,Fh,Bn aa2⟩
  intro⟨j,j1,j2⟩;refine Yi (fun h3=>?_) (fun h3=>?_)
  .have h3:(j:Int)<(((dec++[c]).map AE).length:Int):=h3;have n3:=Ha h3;refine Xi (AE ((dec++[c])[j])) (Yi (I0 n3) (Yi rfl (yN (yN (Yi (fun h4=>?_) (fun h4=>?_))))))
   .have h4:(((dec++[c])[j]).rel.path:CS)=c.rel.reqs[i].path:=h4;refine Ax (Bt (has c.rel.reqs[i].set (dec++[c])[j].place)) (fun h5=>?_) (fun h5=>?_)
    .have h5:(has c.rel.reqs[i].set (dec++[c])[j].place)=true:=h5;refine C1 (C2 (cb h5 (t6 c.rel.reqs[i].set (dec++[c])[j].place (hq _ (Ah _)))) (Yi (by grind [Au]) ?_));refine Xi ⟨j+1,by omega,fun m d hm hd=>by
       grind⟩ ?_
     exact⟨by show(dec++[c]).length-(j+1)<(dec++[c]).length-j;omega,Z11,Z9,Fh,Bn aa2⟩
    have h5:(has c.rel.reqs[i].set (dec++[c])[j].place)=false:=h5;refine C1 (C2 (cb h5 (t6 c.rel.reqs[i].set (dec++[c])[j].place (hq _ (Ah _)))) (yN (yN (yN ?_))));have eC:=kY (dec:=dec) (c:=c) n1 i2 n3 h4 h5;exact C2 (.refl _) (Yi (show AV.tup [.agg (Bl ⟨c.rel.reqs[i],c.rel.path,c.place,(i:Nat)⟩),vb true]=t8 (D3 dec c) by rw[eC];rfl) rfl)
   have h4:¬(((dec++[c])[j]).rel.path:CS)=c.rel.reqs[i].path:=h4;refine Yi (by grind [Au]) ?_;refine Xi ⟨j+1,by omega,fun m d hm hd=>by
     grind⟩ ?_
   exact⟨by show(dec++[c]).length-(j+1)<(dec++[c]).length-j;omega,Z11,Z9,Fh,Bn aa2⟩
  have h3:¬((j:Int)<(((dec++[c]).map AE).length:Int)):=h3;have n3:=Et h3;refine Yi (by grind [Au]) ?_;have hmq:WQ (dec++[c]) c.rel.reqs[i]=false:=mV fun m d hd=>j2 m d (by grind) hd;refine Xi ⟨i+1,by omega,fun k q hk hq0=>by
    grind⟩ ?_
  exact⟨Dl c.rel.reqs.length i Wk,Z6,Z7,Fh,Bn aa2⟩
 have h1:¬((i:Int)<((c.rel.reqs.map Ad).length:Int)):=h1;have n1:=Et h1;refine yN (yN ?_);have eC:=kZ (dec:=dec) (c:=c) fun k q hk=>i2 k q (by grind) hk;exact C2 (.refl _) (Yi (show AV.tup [zNd,vb false]=t8 (D3 dec c) by rw[eC];rfl) rfl)
theorem Po{x:List Rl}{roots:List Rq}{l0:List Nf}:∀{l:List Nf} {d d' : List (List Tm)},(∀i∈l,i∈l0)->(∀t∈d,Qy (Hb x roots l0) t)->BH x roots l d=some d'->∀t∈d',Qy (Hb x roots l0) t
 | [],d,d',_,hd,h=>by cases h;exact hd
 |i::l,d,d',hl,hd,h=>by
  unfold BH at h;cases hi:AQ x roots d i with
  |none=>simp_all
  |some t=>
   rw[hi]at h;refine Po (fun j hj=>hl j (Aj _ hj)) (fun u hu=>?_) h
   grind [Nj,List.mem_cons_self]
section
variable {x:List Rl}{roots:List Rq}{s:SS}
theorem EP.few(hx:At x=0)(hr:AH roots=0)(h:EP x roots s):∀t∈s.drv,Vw t:=fun t ht=>
 (Po (l0:=s.infs) (fun _ h=>h) (fun _ h=>by cases h) h.der t ht).fewI (LD hx hr h.len)
theorem In{l:List Tm}(h:s.infs.Nodup):(Ea s i l).2.infs.Nodup:=by
 cases hk:Me i 0 s.infs with
 |some k=>rw[YR hk];exact h
 |none=>
  grind [V4,YP,Rd]
theorem K7.add(h:K7 x roots s){l:List Tm}(hi:AQ x roots s.drv i=some l):K7 x roots (Ea s i l).2/\(Ea s i l).1<(Ea s i l).2.drv.length/\s.drv.length<=(Ea s i l).2.drv.length:=
 ⟨⟨(KB h.der hi).1,In h.nodup⟩,(KB h.der hi).2.1,(KC s i l).len⟩
theorem K7.dl(h:K7 x roots s):s.infs.length<=65536/\s.drv.length=s.infs.length/\s.drv.length<=65536:=by
 have h1:=h.der.dlen;have h2:=h.der.len;omega
theorem m9(hx:At x=0)(p:CS):∀d,AQ x roots d ⟨2,p,0,0,0,0⟩=some (D7 p (A9 x p)):=fun d=>by
 obtain⟨u,u0,u1,hu⟩:=gp hx p;have hV:Gn []:=fun _ h=>by cases h
 have ou:Vr [] p (MQ [] p (dR u)):=.ver hV (Ff ⟨u0,u1⟩);have h1:AX [(⟨p,false,BV (A9 x p)⟩:Tm)] (MQ [] p (dR u))=true:=by
  grind [Bs,Da,AF,Ff,HA,Fu,PM]
 have h2:AX [(⟨p,false,BV (A9 x p)⟩:Tm)] []=false:=rfl;have EG:D7 p (A9 x p)≠[]:=by
  have c1:=De (l:=[(⟨p,false,BV (A9 x p)⟩:Tm)]) ou.val;have c2:=De (l:=[(⟨p,false,BV (A9 x p)⟩:Tm)]) hV;rw[h1]at c1;rw[h2]at c2;unfold D7 BU;cases hc:A7 [(⟨p,false,BV (A9 x p)⟩:Tm)]with
  |none=>grind
  |some c=>
   rw[hc]at c2;intro e;have e:c=[]:=e;rw[e]at c2;cases c2
 grind [AQ,OE]
theorem Fg(h:k<s.drv.length):s.drv[k]?=some (Eh s k):=by
 simp_all
theorem Ux{L:List Nat}(hj:j<L.length)(h:s.full=true\/DJ (Eh s k) p=false):B4 p (L.drop j) k s=(k,s):=by
 grind [List.drop_eq_getElem_cons,B4]
theorem dg{L:List Nat}(hj:j<L.length)(h1:¬(s.full=true\/DJ (Eh s k) p=false))(h:L[j]=k):B4 p (L.drop j) k s=B4 p (L.drop (j+1)) k s:=by
 grind [List.drop_eq_getElem_cons,B4]
theorem ja{L:List Nat}(hj:j<L.length)(h1:¬(s.full=true\/DJ (Eh s k) p=false))(h2:¬L[j]=k)(h:(AU (Eh s k) (Eh s L[j]) p).2≠0):B4 p (L.drop j) k s=B4 p (L.drop (j+1)) k s:=by
 grind [List.drop_eq_getElem_cons,B4]
theorem i9{L:List Nat}(hj:j<L.length)(h1:¬(s.full=true\/DJ (Eh s k) p=false))(h2:¬L[j]=k)(h:(AU (Eh s k) (Eh s L[j]) p).2=0) :
  B4 p (L.drop j) k s=B4 p (L.drop (j+1)) (Ea s ⟨3,p,0,0,(k:Nat),(L[j]:Nat)⟩ (AU (Eh s k) (Eh s L[j]) p).1).1 (Ea s ⟨3,p,0,0,(k:Nat),(L[j]:Nat)⟩ (AU (Eh s k) (Eh s L[j]) p).1).2:=by
 grind [List.drop_eq_getElem_cons,B4]
end
theorem Gi{t:List Tm}(h:Vw t):BO t:=by omega
theorem s91(x:List Rl)(roots:List Rq)(C A:List (Value×AV))(s:SS)(dec:List Cd)(st:List (List Sk))(p:CS)(n:Nd)(rs:List Nat)(V:AV)(hx:At x=0)(hr:AH roots=0)(hs:K7 x roots s)(ZP:∀d,AQ x roots d (PO n)=some (Ir n))(yZ:∀r∈rs,r<s.drv.length)(hrl:rs.length<=1073741823)(hnq:BO n.rq.set)(hnp:Au (n.place+1))
  (xU:∀a,(Value.string p,a)∈A->a=V) (xV:(∀a,(Value.string p,a)∉A)->V=nzA) (xW:∀h,PC 229 [vs p,str h V] (sl Ac (D7 p (A9 x p)))):Bg Tryz.prog 156 [.ref 1000 0,vs p,.agg (Bl n),sl Cu rs] (Ai (Ju roots C A s dec st) Af) fun r h'=>s8 roots C A dec st (DC x p n rs s) r h':=by
 have hw:=hs.dl;obtain⟨hs1,hk1,fp⟩:=hs.add (ZP s.drv)
 change K7 x roots (Bx s n).2 at hs1
 change (Bx s n).1<(Bx s n).2.drv.length at hk1
 change s.drv.length<=(Bx s n).2.drv.length at fp
 have Ui:=hs1.dl;obtain⟨wz,Vt,ux⟩:=hs1.add (m9 hx p (Bx s n).2.drv)
 change K7 x roots (Ep x p (Bx s n).2).2 at wz
 change (Ep x p (Bx s n).2).1<(Ep x p (Bx s n).2).2.drv.length at Vt
 change (Bx s n).2.drv.length<=(Ep x p (Bx s n).2).2.drv.length at ux
 obtain⟨L,hL⟩:∃L,L=(Ep x p (Bx s n).2).1::rs:=⟨_,rfl⟩;have hLr:∀r∈L,r<(Ep x p (Bx s n).2).2.drv.length:=fun r X7=>by
  grind
 have hLl:L.length=rs.length+1:=by simp_all
 have hk1:(Bx s n).1<(Ep x p (Bx s n).2).2.drv.length:=by omega
 refine Bj (I9 (pC [6] [3,7,8,10])) [(1000,1000),(1001,1001),(1002,1002),(1003,1003),(1004,1004)] rfl BI hm rfl func156 aa2 rfl (Nz rfl) aa2 rfl (yN (Xi (.gen bL 0) (Yi rfl (Bg.imp (s88 roots C A s dec st n hw.1 hw.2.1 hs.nodup hnq hnp) ?_))));intro v1 g1 q1;have rk:=q1.1;have rm:=q1.2;subst rk;subst rm;refine PE V nzA xU xV (fun h=>h) (C1 (C2 (xW _) (Xi (.gen bL 0) (Yi rfl (Bg.imp (rx roots C A (Bx s n).2 dec st ⟨2,p,0,0,0,0⟩ (D7 p (A9 x p)) Ui.1 Ui.2.1 hs1.nodup) ?_)))));intro v2 g2 q2;have q2a:=q2.1;have q2b:=q2.2;subst q2a;subst q2b;refine cU [(0,.ref 1000 0),(1,vs p),(3,sl Cu rs),(9,vi (((Bx s n).1:Nat):Int)),(10,vi (((Ep x p (Bx s n).2).1:Nat):Int))] [(1000,.cells [sl Ad roots,.cmap Cc C,.cmap Cc A,.slice (.id 1001 6) ((Ep x p (Bx s n).2).2.infs.map AG),.slice (.id 1002 1) ((Ep x p (Bx s n).2).2.drv.map As),.mref 1003,vb (Ep x p (Bx s n).2).2.full,sl AE dec,sl Ae (AA dec),.msl 1004 st.length]),(1001,.tok 6 (Ep x p (Bx s n).2).2.infs.length),(1002,.tok 1 (Ep x p (Bx s n).2).2.drv.length),(1003,.map FL (FO 0 (Ep x p (Bx s n).2).2.infs)),(1004,.arr 1 (st.map Ba))] Z5 Z5 ?_
 have b3:Bh 1 (rs.map Cu)/\([[vi (((Ep x p (Bx s n).2).1:Nat):Int)]]:C0).length=1/\(([[vi (((Ep x p (Bx s n).2).1:Nat):Int)]]:C0).length+(rs.map Cu).length)*8<=140737488355328/\([[vi (((Ep x p (Bx s n).2).1:Nat):Int)]]:C0).length+(rs.map Cu).length<=9223372036854775807:=⟨(Cm (enc:=Cu) (n:=1) (fun _=>rfl) rs),(by simp_all),(by grind),(by grind)⟩;refine Yi b3 (Xi {q:Nat×Nat×SS // q.1<=L.length/\B4 p (L.drop q.1) q.2.1 q.2.2=B4 p L (Bx s n).1 (Ep x p (Bx s n).2).2/\K7 x roots q.2.2/\q.2.1<q.2.2.drv.length/\∀r∈L,r<q.2.2.drv.length} (Xi (fun q=>⟨[(0,.ref 1000 0),(1,vs p),(9,vi q.1.2.1),(33,.slice (.id 31 1) (L.map Cu)),(34,vi (L.map Cu).length),(35,vi q.1.1)],[(31,.tok 1 (L.map Cu).length),(1000,.cells (srM roots C A q.1.2.2 dec 1004 st.length)),(1001,.tok 6 q.1.2.2.infs.length),(1002,.tok 1 q.1.2.2.drv.length),(1003,.map FL (FO 0 q.1.2.2.infs)),(1004,.arr 1 (st.map Ba))],Af⟩) (Xi (fun q=>L.length-q.1.1) (Yi (Xi ⟨(0,(Bx s n).1,(Ep x p (Bx s n).2).2),Al _,by simp_all,wz,hk1,hLr⟩ ?_) ?_))))
 .exact⟨⟨Zr,Zr,Zr,⟨(show AV.slice (.id 31 1) ([[vi (((Ep x p (Bx s n).2).1:Nat):Int)]]++rs.map Cu)=.slice (.id 31 1) (L.map Cu) by simp_all),rfl⟩,⟨(show vi (([[vi (((Ep x p (Bx s n).2).1:Nat):Int)]]++rs.map Cu:C0).length:Int)=vi ((L.map Cu).length:Int) by simp_all),rfl⟩,Zr,Tv⟩,⟨⟨(show HO.tok 1 (([[vi (((Ep x p (Bx s n).2).1:Nat):Int)]]:C0).length+(rs.map Cu).length)=.tok 1 (L.map Cu).length by grind),rfl⟩,Zr,Zr,Zr,Zr,Zr,Tv⟩,Fh,Bn aa2⟩
 intro⟨⟨j,k,S⟩,j1,j2,j3,j4,j5⟩;have hw3:=j3.dl;have hfw:=j3.der.few hx hr;have gk:S.drv[k]?=some (Eh S k):=Fg j4;refine Yi (fun h4=>?_) (fun h4=>?_)
 .have h4:(j:Int)<((L.map Cu).length:Int):=h4;have n4:=Ha h4;refine Xi (Cu L[j]) (Yi (I0 n4) (Yi rfl (Yi (fun h5=>?_) (fun h5=>?_))))
  .refine cU [(9,vi k)] [(1000,.cells (srM roots C A S dec 1004 st.length)),(1001,.tok 6 S.infs.length),(1002,.tok 1 S.drv.length),(1003,.map FL (FO 0 S.infs)),(1004,.arr 1 (st.map Ba))] Z1 Z5 ?_
   have eR:B4 p L (Bx s n).1 (Ep x p (Bx s n).2).2=(k,S):=by grind [Ux]
   have eL:DC x p n rs s=(k,S):=by grind [DC]
   exact C2 (.refl _) (Yi (show vi (k:Int)=vi (((DC x p n rs s).1:Nat):Int) by rw[eL]) (show Ai (Ju roots C A S dec st) Af=Ai (Ju roots C A (DC x p n rs s).2 dec st) Af by rw[eL]))
  refine Xi (As (Eh S k)) (Yi (Yi (Nn k) (Bq gk)) (Yi rfl (Ax (Bt (DJ (Eh S k) p)) (fun h7=>?_) (fun h7=>?_))))
  .refine C1 (C2 (cb h7 (oW (Eh S k) p (Gi (hfw _ (Az (Fg j4)))))) (cU [(0,.ref 1000 0),(1,vs p),(9,vi k),(12,vi (L[j]:Nat)),(33,.slice (.id 31 1) (L.map Cu)),(34,vi (L.map Cu).length),(35,vi j)] [(31,.tok 1 (L.map Cu).length),(1000,.cells (srM roots C A S dec 1004 st.length)),(1001,.tok 6 S.infs.length),(1002,.tok 1 S.drv.length),(1003,.map FL (FO 0 S.infs)),(1004,.arr 1 (st.map Ba))] Z7 Z6 (Yi (fun h8=>?_) (fun h8=>?_))))
   .refine Yi (by grind [Au]) (Xi ⟨(j+1,k,S),FE n4,by grind [dg],j3,j4,j5⟩ ?_);exact⟨Dl L.length j Wk,Z6,Z6,Fh,Bn aa2⟩
   refine Xi (As (Eh S k)) (Yi (Yi (Nn k) (Bq gk)) (Yi rfl (Xi (As (Eh S L[j])) (Yi (Yi (show(0:Int)<=(L[j]:Nat) by omega) (Bq (Fg (j5 _ (Ah n4))))) (Yi rfl ?_)))));have fk:=hfw _ (Az (Fg j4));have fr:=hfw _ (Az (Fg (j5 _ (Ah n4))));refine C2 (xj (Eh S k) (Eh S L[j]) p fk.1 fr.1 fk.2 fr.2) (Yi aa2 (cU [(0,.ref 1000 0),(1,vs p),(9,vi k),(12,vi (L[j]:Nat)),(13,sl Ac (AU (Eh S k) (Eh S L[j]) p).1),(14,vi (AU (Eh S k) (Eh S L[j]) p).2),(33,.slice (.id 31 1) (L.map Cu)),(34,vi (L.map Cu).length),(35,vi j)] [(31,.tok 1 (L.map Cu).length),(1000,.cells (srM roots C A S dec 1004 st.length)),(1001,.tok 6 S.infs.length),(1002,.tok 1 S.drv.length),(1003,.map FL (FO 0 S.infs)),(1004,.arr 1 (st.map Ba))] Z9 Z6 (Yi (fun HQ=>?_) (fun HQ=>?_))))
   .refine Yi (by grind [Au]) (Xi ⟨(j+1,k,S),FE n4,by rw[<-(ja (s:=S) (p:=p) (L:=L) (j:=j) (k:=k) n4 (by grind) Wk HQ)];exact j2,j3,j4,j5⟩ ?_);exact⟨Dl L.length j Wk,Z6,Z6,Fh,Bn aa2⟩
   have HQ:((AU (Eh S k) (Eh S L[j]) p).2:Int)=(0:Int):=Aw HQ;refine Xi (.gen bL 0) (Yi rfl (Bg.imp (rx roots C A S dec st ⟨3,p,0,0,(k:Nat),(L[j]:Nat)⟩ (AU (Eh S k) (Eh S L[j]) p).1 hw3.1 hw3.2.1 j3.nodup) ?_));intro v12 g12 Qj;have vA:=Qj.1;have vB:=Qj.2;subst vA;subst vB;refine Yi (by grind [Au]) ?_;obtain⟨a1,a2,a3⟩:=j3.add (WE (x:=x) (roots:=roots) (p:=p) j4 (j5 _ (Ah n4)) HQ);refine Xi ⟨(j+1,(Ea S ⟨3,p,0,0,(k:Nat),(L[j]:Nat)⟩ (AU (Eh S k) (Eh S L[j]) p).1).1,(Ea S ⟨3,p,0,0,(k:Nat),(L[j]:Nat)⟩ (AU (Eh S k) (Eh S L[j]) p).1).2),FE n4,by rw[<-(i9 (s:=S) (p:=p) (L:=L) (j:=j) (k:=k) n4 (by grind) Wk HQ)];exact j2,a1,a2,fun r hr=>AM (j5 r hr) a3⟩ ?_;exact⟨Dl L.length j Wk,Z6,Z6,Fh,Bn aa2⟩
  refine C1 (C2 (cb h7 (oW (Eh S k) p (Gi (hfw _ (Az (Fg j4)))))) (cU [(9,vi k)] [(1000,.cells (srM roots C A S dec 1004 st.length)),(1001,.tok 6 S.infs.length),(1002,.tok 1 S.drv.length),(1003,.map FL (FO 0 S.infs)),(1004,.arr 1 (st.map Ba))] Z1 Z5 ?_))
  have eR:B4 p L (Bx s n).1 (Ep x p (Bx s n).2).2=(k,S):=by grind [Ux]
  have eL:DC x p n rs s=(k,S):=by grind [DC]
  exact C2 (.refl _) (Yi (show vi (k:Int)=vi (((DC x p n rs s).1:Nat):Int) by rw[eL]) (show Ai (Ju roots C A S dec st) Af=Ai (Ju roots C A (DC x p n rs s).2 dec st) Af by rw[eL]))
 have n4:=Et h4;have hj:¬j<L.length:=by omega
 have eR:B4 p L (Bx s n).1 (Ep x p (Bx s n).2).2=(k,S):=by rw[<-j2,DY Wk];rfl
 have eL:DC x p n rs s=(k,S):=by grind [DC]
 exact C2 (.refl _) (Yi (show vi (k:Int)=vi (((DC x p n rs s).1:Nat):Int) by rw[eL]) (show Ai (Ju roots C A S dec st) Af=Ai (Ju roots C A (DC x p n rs s).2 dec st) Af by rw[eL]))
abbrev bM:Jj:=[(1000,1000),(1001,1001),(1002,1002),(1003,1003),(500,1004)]
abbrev srE:List (Nat×HO):=
 [(1000,.cells (srM roots C A s dec 2000 st.length)),(1001,.tok 6 s.infs.length),(1002,.tok 1 s.drv.length),(1003,.map FL (FO 0 s.infs)),(1004,.dead),(2000,.arr 1 (st.map Ba))]
abbrev bO(o:Kz)(r:AV)(h' : Nat->HO):Prop:=r=.tup [vi (o.res:Nat),vb o.found]/\h'=Ai (srE roots C A o.ss o.dec o.stack) Af
def H64:Prop:=∀(s:SS) (dec:List Cd) (st:List (List Sk)),dec.length<=1000->(∀c∈dec,c.rel.reqs.length<=1073741824) ->
 Bg Tryz.prog 148 [.ref 1000 0] (Ai (Ju roots C A s dec st) Af) fun r h'=>r=.tup [vs (EV roots dec).1,sl Bl (EV roots dec).2]/\h'=Ai (Ju roots C A s dec st) Af
theorem N7{roots:List Rq}{C A:List (Value×AV)}{o:Kz}{b:Bool}{s:SS}{dec:List Cd}{st:List (List Sk)}(e:o=⟨k,b,s,dec,st⟩) :
  AV.tup [vi (k:Nat),vb b]=.tup [vi (o.res:Nat),vb o.found]/\Ai (srE roots C A s dec st) Af=Ai (srE roots C A o.ss o.dec o.stack) Af:=by simp_all
abbrev bK:Jj:=[(1000,1000),(1001,1001),(1002,1002),(1003,1003),(1004,1004),(1005,1005),(1006,1006),(1007,1007),(1008,1008),(1009,1009)]
def HR:CS×List Nd:=((Dr roots dec).take m).foldl (En dec) (mt,[])
theorem ng{roots:List Rq}{dec:List Cd}{m:Nat}{n:Nd}(h:(Dr roots dec)[m]?=some n):HR roots dec (m+1)=En dec (HR roots dec m) n:=by
 grind [HR,List.take_add_one]
theorem qZ{roots:List Rq}{dec:List Cd}{m:Nat}(h:(Dr roots dec).length<=m):HR roots dec m=EV roots dec:=by
 grind [HR,EV,List.take_of_length_le]
def FV(j:Nat):Nat:=roots.length+((dec.take j).map fun c=>c.rel.reqs.length).sum
theorem UZ:(Rh c).length=c.rel.reqs.length:=MO _ _ _
theorem js:FV roots dec 0=roots.length:=by grind [FV]
theorem jr{roots:List Rq}{dec:List Cd}(h:j<dec.length):FV roots dec (j+1)=FV roots dec j+dec[j].rel.reqs.length:=by
 grind [FV,List.take_succ_eq_append_getElem]
theorem aR:FV roots dec dec.length=(Dr roots dec).length:=by
 grind [FV,Dr,bl,MO,List.map_congr_left,UZ]
theorem ji{roots:List Rq}{dec:List Cd}{i:Nat}(h:i<roots.length):(Dr roots dec)[i]?=some ⟨roots[i],mt,0,(i:Nat)⟩:=by
 grind [Dr,bl,List.getElem?_append_left,Qd]
theorem ZA{α:Type}:∀{l:List (List α)} {j k:Nat} (hj:j<l.length),k<l[j].length->l.flatten[((l.take j).map List.length).sum+k]?=l[j][k]?
 |y::l,0,k,_,hk=>by
  grind
 |y::l,j+1,k,hj,hk=>by
  rw[Ck,List.take_succ_cons,Bo,List.sum_cons,BQ Wk]
  have:=ZA (l:=l) (j:=j) (k:=k) (by grind) hk
  grind
theorem mX{roots:List Rq}{dec:List Cd}(hj:j<dec.length)(hk:k<dec[j].rel.reqs.length):(Dr roots dec)[FV roots dec j+k]?=some ⟨dec[j].rel.reqs[k],dec[j].rel.path,dec[j].place,(k:Nat)⟩:=by
 unfold Dr bl FV;rw[BQ (by grind [MO]),MO];have h:=ZA (l:=dec.map Rh) (j:=j) (k:=k) (by simp_all) (by grind [UZ]);rw[<-List.map_take,BX,show(List.length ∘ Rh)=fun c=>c.rel.reqs.length from funext UZ]at h
 grind [Rh,Qd]
abbrev oV:List (Nat×HO):=
  [(1000,.cells (srC roots C A s dec st.length)),(1001,.tok 6 s.infs.length),(1002,.tok 1 s.drv.length),(1003,.map FL (FO 0 s.infs)),(1004,.arr 1 (st.map Ba)),
   (1005,.cells [.ref 1000 0]),(1006,.cells [vs (HR roots dec m).1]),(1007,.cells [.slice (.ver 1008 5 m) ((HR roots dec m).2.map Bl)]),(1008,.var 5 m ((HR roots dec m).2.map Bl).length),(1009,.cells [.ref 1000 0])]
noncomputable abbrev cxn(pl:M5)(l:Nat)(Y:Gh->World->Prop):Cx:=⟨Tryz.prog,rP,pl,true,0,fun l' σ' g w=>l'=l->σ'=bK->Y g w⟩
theorem I6.pre{Y':Gh->World->Prop}{l:Nat}{args:List AV}{h0:Nat->HO}{Q:AV->(Nat->HO)->Prop}(h:I6 P Y l args h0 Q)(hp:∀g w,Y' g w->Y g w):I6 P Y' l args h0 Q:=
 fun g w vals q1 q2 q3 q4=>h g w vals q1 q2 q3 (hp g w q4)
theorem Aew:Bg Tryz.prog 222 [.ref 1000 0] (Ai (Ju roots C A s dec st) Af) fun r h'=>r=.clo 289 [.ref 2000 0]/\h'=Ai (Ju roots C A s dec st++[(2000,.cells [.ref 1000 0])]) Af:=by
 refine Bj (I9 CX) [(1000,1000),(1001,1001),(1002,1002),(1003,1003),(1004,1004),(1,2000)] rfl BI hm rfl func222 aa2 rfl (Nz rfl) aa2 rfl ?_;exact C2 (.refl _) Zr
theorem Aex(l:Nat)(roots:List Rq)(C A:List (Value×AV))(s:SS)(dec:List Cd)(st:List (List Sk))(hr:roots.length<=1073741824)(hd:dec.length<=1073741824)(su:∀c∈dec,c.rel.reqs.length<=1073741824)(hy:∀m n,(Dr roots dec)[m]?=some n->I6 Tryz.prog Y l [.agg (Bl n)] (Ai (oV roots C A s dec st m) Af) fun r h'=>r=vb true/\h'=Ai (oV roots C A s dec st (m+1)) Af) :
  YJ Tryz.prog Y bK 289 [.v (.func (.yield l) #[] #[]),.ref 1005 0] (Ai (oV roots C A s dec st 0) Af) fun _ h'=>h'=Ai (oV roots C A s dec st (Dr roots dec).length) Af:=by
 refine mE (l:=l) (cxn CX l Y) bK rfl BI hm rfl func289 aa2 rfl (Nz rfl) aa2 rfl rfl (Xi {i:Nat // i<=roots.length} (Xi (fun q=>⟨[(0,.v (.func (.yield l) #[] #[])),(1,.ref 1005 0),(12,sl Ad roots),(13,vi (roots.map Ad).length),(14,vi q.1)],[(1000,.cells (srM roots C A s dec 1004 st.length)),(1001,.tok 6 s.infs.length),(1002,.tok 1 s.drv.length),(1003,.map FL (FO 0 s.infs)),(1004,.arr 1 (st.map Ba)),(1005,.cells [.ref 1000 0]),(1006,.cells [vs (HR roots dec q.1).1]),(1007,.cells [.slice (.ver 1008 5 q.1) ((HR roots dec q.1).2.map Bl)]),(1008,.var 5 q.1 ((HR roots dec q.1).2.map Bl).length),(1009,.cells [.ref 1000 0])],Af⟩) (Xi (fun q=>roots.length-q.1) (Yi (Xi ⟨0,Al _⟩ ?_) ?_))))
 .exact⟨Z5,Z10,Fh,Bn aa2⟩
 intro⟨i,i1⟩;refine Yi (fun h1=>?_) (fun h1=>?_)
 .have h1:(i:Int)<((roots.map Ad).length:Int):=h1;have n1:=Ha h1;refine Xi (Ad roots[i]) (Yi (I0 n1) (Yi rfl (yN (yN (yN (Xi (.gen bK 0) (Yi rfl (I6.imp (I6.pre (hy i ⟨roots[i],mt,0,(i:Nat)⟩ (ji n1)) (fun g w q=>q rfl rfl)) ?_))))))));intro v2 g2 q2;have q2a:=q2.1;have q2b:=q2.2;subst q2a;subst q2b;refine Yi (by grind [Au]) (Xi ⟨i+1,by omega⟩ ?_);exact⟨by grind,Z5,Z10,Fh,Bn aa2⟩
 have h1:¬((i:Int)<((roots.map Ad).length:Int)):=h1;have n1:=Et h1;have hE:i=FV roots dec 0:=by grind [js]
 refine Xi {j:Nat // j<=dec.length} (Xi (fun q=>⟨[(0,.v (.func (.yield l) #[] #[])),(29,sl AE dec),(30,vi (dec.map AE).length),(31,vi q.1)],[(1000,.cells (srM roots C A s dec 1004 st.length)),(1001,.tok 6 s.infs.length),(1002,.tok 1 s.drv.length),(1003,.map FL (FO 0 s.infs)),(1004,.arr 1 (st.map Ba)),(1005,.cells [.ref 1000 0]),(1006,.cells [vs (HR roots dec (FV roots dec q.1)).1]),(1007,.cells [.slice (.ver 1008 5 (FV roots dec q.1)) ((HR roots dec (FV roots dec q.1)).2.map Bl)]),(1008,.var 5 (FV roots dec q.1) ((HR roots dec (FV roots dec q.1)).2.map Bl).length),(1009,.cells [.ref 1000 0])],Af⟩) (Xi (fun q=>dec.length-q.1) (Yi (Xi ⟨0,Al _⟩ ?_) ?_)))
 .exact⟨Z4,⟨Zr,Zr,Zr,Zr,Zr,Zr,⟨(show .cells [vs (HR roots dec i).1]=(.cells [vs (HR roots dec (FV roots dec 0)).1]:HO) by rw[hE]),rfl⟩,⟨(show .cells [.slice (.ver 1008 5 i) ((HR roots dec i).2.map Bl)]=(.cells [.slice (.ver 1008 5 (FV roots dec 0)) ((HR roots dec (FV roots dec 0)).2.map Bl)]:HO) by rw[hE]),rfl⟩,⟨(show .var 5 i ((HR roots dec i).2.map Bl).length=(.var 5 (FV roots dec 0) ((HR roots dec (FV roots dec 0)).2.map Bl).length:HO) by rw[hE]),rfl⟩,Zr,Tv⟩,Fh,Bn aa2⟩
 intro⟨j,j1⟩;refine Yi (fun h4=>?_) (fun h4=>?_)
 .have h4:(j:Int)<((dec.map AE).length:Int):=h4;have n4:=Ha h4;have hdj:=su dec[j] (Ah n4);refine Xi (AE dec[j]) (Yi (I0 n4) (Yi rfl (yN (yN (Xi {k:Nat // k<=dec[j].rel.reqs.length} (Xi (fun q=>⟨[(0,.v (.func (.yield l) #[] #[])),(6,.ref 6 0),(29,sl AE dec),(30,vi (dec.map AE).length),(31,vi j),(37,sl Ad dec[j].rel.reqs),(38,vi (dec[j].rel.reqs.map Ad).length),(39,vi q.1)],[(6,.cells (AE dec[j])),(1000,.cells (srM roots C A s dec 1004 st.length)),(1001,.tok 6 s.infs.length),(1002,.tok 1 s.drv.length),(1003,.map FL (FO 0 s.infs)),(1004,.arr 1 (st.map Ba)),(1005,.cells [.ref 1000 0]),(1006,.cells [vs (HR roots dec (FV roots dec j+q.1)).1]),(1007,.cells [.slice (.ver 1008 5 (FV roots dec j+q.1)) ((HR roots dec (FV roots dec j+q.1)).2.map Bl)]),(1008,.var 5 (FV roots dec j+q.1) ((HR roots dec (FV roots dec j+q.1)).2.map Bl).length),(1009,.cells [.ref 1000 0])],Af⟩) (Xi (fun q=>dec[j].rel.reqs.length-q.1) (Yi (Xi ⟨0,Al _⟩ ?_) ?_))))))))
  .exact⟨Z8,Z11,Fh,Bn aa2⟩
  intro⟨k,k1⟩;have k1:k<=dec[j].rel.reqs.length:=k1;refine Yi (fun h5=>?_) (fun h5=>?_)
  .have h5:(k:Int)<((dec[j].rel.reqs.map Ad).length:Int):=h5;have n5:=Ha h5;refine Xi (Ad dec[j].rel.reqs[k]) (Yi (I0 n5) (Yi rfl (yN (yN (yN (Xi (.gen bK 0) (Yi rfl (I6.imp (I6.pre (hy (FV roots dec j+k) ⟨dec[j].rel.reqs[k],dec[j].rel.path,dec[j].place,(k:Nat)⟩ (mX n4 n5)) (fun g w q=>q rfl rfl)) ?_))))))));intro v6 g6 q6;have q6a:=q6.1;have q6b:=q6.2;subst q6a;subst q6b;refine Yi (by grind [Au]) (Xi ⟨k+1,by omega⟩ ?_);exact⟨by grind,Z8,Z11,Fh,Bn aa2⟩
  have h5:¬((k:Int)<((dec[j].rel.reqs.map Ad).length:Int)):=h5;have n5:=Et h5;refine Yi (by grind [Au]) ?_;have hE:FV roots dec j+k=FV roots dec (j+1):=by grind [jr]
  refine Xi ⟨j+1,by omega⟩ ?_;exact⟨by grind,Z4,⟨Zr,Zr,Zr,Zr,Zr,Zr,⟨(show .cells [vs (HR roots dec (FV roots dec j+k)).1]=(.cells [vs (HR roots dec (FV roots dec (j+1))).1]:HO) by rw[hE]),rfl⟩,⟨(show .cells [.slice (.ver 1008 5 (FV roots dec j+k)) ((HR roots dec (FV roots dec j+k)).2.map Bl)]=(.cells [.slice (.ver 1008 5 (FV roots dec (j+1))) ((HR roots dec (FV roots dec (j+1))).2.map Bl)]:HO) by rw[hE]),rfl⟩,⟨(show .var 5 (FV roots dec j+k) ((HR roots dec (FV roots dec j+k)).2.map Bl).length=(.var 5 (FV roots dec (j+1)) ((HR roots dec (FV roots dec (j+1))).2.map Bl).length:HO) by rw[hE]),rfl⟩,Zr,Tv⟩,Fh,Bn aa2⟩
 have h4:¬((j:Int)<((dec.map AE).length:Int)):=h4;have n4:=Et h4;exact Aa (fun m=>Ai (oV roots C A s dec st m) Af) (show FV roots dec j=(Dr roots dec).length by grind [aR])
theorem vh{h:Nat->HO}{r:Nat}{K:(Nat->HO)->Prop}(c1:h o=.cells cs)(c2:JR cs k=nzA)(c3:h r=.free)(hk:K (AK (AK h r (.var sz 0 0)) o (.cells (EW cs k (.slice (.ver r sz 0) []))))):wG h o k r sz K:=by
 grind [wG]
theorem vF{r0:Nat}{hJ:Cx}{N:Nat}{fn:Func}{σ:Jj}{Q:AV->(Nat->HO)->Prop}{b rest:Code}{st:St}(cs:List AV)(c1:st.h o=.cells cs)(c2:JR cs k=nzA)(c3:st.h r0=.free)(σF σr:Jj)(H0 Hn:List (Nat×HO))(gf:Nat)(caps:List AV){sa s:Nat}{ps:Array Tmp}{G7 body:Code}(hb:b=.block sa (.rangeFunc (.tmp s) ps G7 body))(k1:(Er σF&&D6 (AK (AK st.h r0 (.var sz 0 0)) o (.cells (EW cs k (.slice (.ver r0 sz 0) [])))) 0 0&&Dc σF 0 0)=true)(k2:FJ σF (AK (AK st.h r0 (.var sz 0 0)) o (.cells (EW cs k (.slice (.ver r0 sz 0) []))))=Ai H0 Af)(k3:(Hc σr&&IK σr H0)=true)(k4:IK σr Hn=true)(k5:ren (Cq σF) (AK (AK st.h r0 (.var sz 0 0)) o (.cells (EW cs k (.slice (.ver r0 sz 0) [])))) (st.t s)=.clo gf caps)(k6:∀(l D:Nat) (f' : FuncId) (tm:Array Value),tm.size=N->YJ P (fun g w=>w.heap[l]?=some (.loop (Iu f' tm ps G7 body D .ready))/\∀i,Bc g w (AC (Ai H0 Af)) (ren (Cq σF) (AK (AK st.h r0 (.var sz 0 0)) o (.cells (EW cs k (.slice (.ver r0 sz 0) [])))) (st.t i)) (tm.getD i undef)) σr gf
   (.v (.func (.yield l) #[] #[])::caps) (Ai H0 Af) fun _ h'=>h'=Ai Hn Af)(k7:EA N rest=true)(k8:QD hJ rest (Zo hJ fn.results.toList σr fun r h'=>Q (ren (Cq σ) (Eb σF 0 0 (AK (AK st.h r0 (.var sz 0 0)) o (.cells (EW cs k (.slice (.ver r0 sz 0) [])))) h') (ren (Fr σF 0 0) h' r)) (FJ σ (Eb σF 0 0 (AK (AK st.h r0 (.var sz 0 0)) o (.cells (EW cs k (.slice (.ver r0 sz 0) [])))) h')))
   ⟨fun i=>ren (Cq σF) (AK (AK st.h r0 (.var sz 0 0)) o (.cells (EW cs k (.slice (.ver r0 sz 0) [])))) (st.t i),Ai Hn Af⟩)(k9:Pf [] body=false:=by kernel_rfl):RfV o k r0 sz hJ P N fn σ Q b rest st:=
 vh c1 c2 c3 ⟨σF,σr,H0,Hn,sa,s,ps,G7,body,gf,caps,hb,k1,k2,k3,k4,k5,k6,k7,k9,k8⟩
section
variable {roots:List Rq}{C A:List (Value×AV)}{s:SS}{dec:List Cd}{st:List (List Sk)}{n:Nd}
theorem UM{m:Nat}{o:List Nd}(e:HR roots dec (m+1)=(p,o)){es:C0}(h1:es=o.map Bl)(h2:k=es.length) :
  Ai [(1000,.cells (srC roots C A s dec st.length)),(1001,.tok 6 s.infs.length),(1002,.tok 1 s.drv.length),(1003,.map FL (FO 0 s.infs)),(1004,.arr 1 (st.map Ba)),
   (1005,.cells [.ref 1000 0]),(1006,.cells [vs p]),(1007,.cells [.slice (.ver 1008 5 (m+1)) es]),(1008,.var 5 (m+1) k),(1009,.cells [.ref 1000 0])] Af=Ai (oV roots C A s dec st (m+1)) Af:=by
 grind
theorem nl{a:CS×List Nd}(h:Dz dec n.rq.path=true):En dec a n=(a.1,a.2):=by grind [En]
theorem qT{o:List Nd}(h:¬(0:Int)<((o.map Bl).length:Int)):o=[]:=by
 simp_all
theorem q8{a:CS×List Nd}(h:(0:Int)<((a.2.map Bl).length:Int))(hb:Ez a.1 n.rq.path=true):En dec a n=(a.1,a.2):=by grind [En]
theorem np{a:CS×List Nd}(hd:Dz dec n.rq.path=false)(_:(0:Int)<((a.2.map Bl).length:Int))(hb:Ez a.1 n.rq.path=false)(hs:Ez n.rq.path a.1=true):En dec a n=(n.rq.path,[n]):=by
 grind [En]
theorem nq{a:CS×List Nd}(hd:Dz dec n.rq.path=false)(hb:Ez a.1 n.rq.path=false)(hs:Ez n.rq.path a.1=false):En dec a n=(n.rq.path,a.2++[n]):=by
 grind [En]
theorem ra{a:CS×List Nd}(hd:Dz dec n.rq.path=false)(h:¬(0:Int)<((a.2.map Bl).length:Int)):En dec a n=(n.rq.path,a.2++[n]):=by
 grind [qT,En]
theorem q9(a:CS×List Nd)(n:Nd):(En dec a n).2.length<=a.2.length+1:=by
 grind [En]
theorem fN:∀(m:Nat),(HR roots dec m).2.length<=m
 |0=>Ap _
 |m+1=>by
  have ih:=fN m
  grind [HR,List.take_add_one,q9]
theorem bw:∀{l l' : List (Nat×HO)},l.map Prod.fst=l'.map Prod.fst->(∀p∈l',p.2≠.free)->∀i,AC (Ai l Af) i->AC (Ai l' Af) i
 | [],[],_,_,_,h=>h
 |(a,o)::l,(a',o')::l',e,h,i,hu=>by
  rw[Bo,Bo]at e
  injection e with e1 e2
  have e1:a=a':=e1;subst e1;unfold AC at *
  by_cases q:i=a
  .grind [Ai,Nat.beq_refl,List.mem_cons_self]
  .simp only[Ai,DH q,GX]at hu⊢;exact bw e2 (fun p hp=>h p (Aj _ hp)) i hu
theorem nh:∀i,AC (Ai (oV roots C A s dec st 0) Af) i->AC (Ai (oV roots C A s dec st m) Af) i:=bw rfl (by
 simp_all)
theorem gl:∀{l:List Cd},(∀c∈l,c.rel.reqs.length<=1073741824)->((l.map fun c=>c.rel.reqs.length)).sum<=l.length*1073741824
 | [],_=>by simp
 |c::l,h=>by
  have h1:=h c (Ag ..);have h2:=gl fun c hc=>h c (Aj _ hc)
  grind
theorem jj(hr:roots.length<=1073741824)(hd:dec.length<=1000)(h:∀c∈dec,c.rel.reqs.length<=1073741824):(Dr roots dec).length<=1074815565824:=by
 rw[<-aR]
 grind [FV,gl]
end
theorem aA:l.map Bl++[Bl n]=(l++[n]).map Bl:=by simp_all
theorem PR:(l.map Bl).length+([Bl n]:C0).length=(l.map Bl++[Bl n]).length:=AD.symm
attribute [local irreducible] RfV wG HR Dr En
theorem s64(hr:roots.length<=1073741824)(hd:dec.length<=1000)(su:∀c∈dec,c.rel.reqs.length<=1073741824) :
  Bg Tryz.prog 148 [.ref 1000 0] (Ai (Ju roots C A s dec st) Af) fun r h'=>r=.tup [vs (EV roots dec).1,sl Bl (EV roots dec).2]/\h'=Ai (Ju roots C A s dec st) Af:=by
 refine gy 5 0 9 5 (I9 CX) (I9 CX) bL rfl BI rfl BI hm rfl rfl func148 aa2 rfl (Nz rfl) aa2 rfl 3 (yN (Xi (.gen bL 1) (Yi rfl (Bg.imp (Aew roots C A s dec st) ?_))));intro v1 g1 q1;have rk:=q1.1;have rm:=q1.2;subst rk;subst rm;refine vF [nzA] aa2 aa2 aa2 [(1000,1000),(1001,1001),(1002,1002),(1003,1003),(1004,1004),(10800,1005),(4,1006),(5,1007),(9,1008),(1,1009)] bK (oV roots C A s dec st 0) (oV roots C A s dec st (Dr roots dec).length) 289 [.ref 1005 0] rfl aa2 aa2 aa2 aa2 aa2 (fun l9 D9 f9 tm9 wC=>Aex l9 roots C A s dec st hr (AS hd aa1) su fun m n hn=>j9 (σ:=bK) 1007 0 1008 (I9 ⟨[],[(43,5)],[],[],[],[],[],[],[],[(500005,60001007)],[5]⟩) rfl BI hm rfl rfl rfl wC aa2 aa2 aa2 (nh m) ?_) aa2 ?_
 .have hml:m<(Dr roots dec).length:=(Bf.1 hn).1;have hol:=fN (roots:=roots) (dec:=dec) m;have hnl:=jj hr hd su;have hF:=ng hn;refine yN (Yi ⟨rfl,rfl⟩ (cU [(1,.ref 1009 0),(4,.ref 1006 0),(5,.ref 1007 0),(6,.ref 6 0)] [(6,.cells (Bl n)),(60,.tok 5 ((HR roots dec m).2.map Bl).length),(1000,.cells (srM roots C A s dec 1004 st.length)),(1001,.tok 6 s.infs.length),(1002,.tok 1 s.drv.length),(1003,.map FL (FO 0 s.infs)),(1004,.arr 1 (st.map Ba)),(1005,.cells [.ref 1000 0]),(1006,.cells [vs (HR roots dec m).1]),(1007,.cells [.slice (.id 60 5) ((HR roots dec m).2.map Bl)]),(1008,.vox m),(1009,.cells [.ref 1000 0])] Z4 Z12 (Ax (Bt (Dz dec n.rq.path)) (fun h2=>?_) (fun h2=>?_))))
  .have ff:=(zV roots C A s dec st n.rq.path (AS hd aa1));rw[show(Dz dec n.rq.path)=true from h2]at ff;refine Xi (.gen bL 0) (Yi rfl (Bg.imp ff ?_));intro v4 g4 q4;have q4a:=q4.1;have q4b:=q4.2;subst q4a;subst q4b;refine Yi ⟨rfl,rfl⟩ ?_
   -- [('(Dz dec n.rq.path)=true',True)]
   exact⟨rfl,UM (hF.trans (nl h2)) rfl rfl⟩
  have Ua:=(zV roots C A s dec st n.rq.path (AS hd aa1));rw[show(Dz dec n.rq.path)=false from h2]at Ua;refine Xi (.gen bL 0) (Yi rfl (Bg.imp Ua ?_));intro v6 g6 q6;have q6a:=q6.1;have q6b:=q6.2;subst q6a;subst q6b;refine Yi (fun h7=>?_) (fun h7=>?_)
  .have n7:0<(HR roots dec m).2.length:=by simp_all
   refine Yi (fun h8=>?_) (fun h8=>?_)
   .have h8:Ez (HR roots dec m).1 n.rq.path=true:=(D1 _ _).trans h8;refine Yi ⟨rfl,rfl⟩ ?_
    -- [('(Dz dec n.rq.path)=true',False),('(0:Int)<(((HR roots dec m).2.map Bl).length:Int)',True),('Ez (HR roots dec m).1 n.rq.path=true',True)]
    exact⟨rfl,UM (hF.trans (q8 h7 h8)) rfl rfl⟩
   have h8:Ez (HR roots dec m).1 n.rq.path=false:=(D1 _ _).trans (A8.2 h8);refine Yi (fun _=>?_) (fun hf=>absurd h7 hf);refine Yi (fun h9=>?_) (fun h9=>?_)
   .have h9:Ez n.rq.path (HR roots dec m).1=true:=(D1 _ _).trans h9;refine yN (yN (yN ?_));have Wc:Bh 5 [(Bl n)]/\([(Bl n)]:C0).length*72<=140737488355328/\([(Bl n)]:C0).length<=9223372036854775807:=⟨⟨rfl,trivial⟩,(by simp_all),(by simp_all)⟩;refine Yi Wc (yN (Yi ⟨rfl,rfl⟩ ?_))
    -- [('(Dz dec n.rq.path)=true',False),('(0:Int)<(((HR roots dec m).2.map Bl).length:Int)',True),('Ez (HR roots dec m).1 n.rq.path=true',False),('Ez n.rq.path (HR roots dec m).1=true',True)]
    exact⟨rfl,UM (hF.trans (np h2 h7 h8 h9)) rfl rfl⟩
   have h9:Ez n.rq.path (HR roots dec m).1=false:=(D1 _ _).trans (A8.2 h9);refine yN (yN ?_);have tp:Bh 5 [(Bl n)]/\((HR roots dec m).2.map Bl).length=((HR roots dec m).2.map Bl).length/\(((HR roots dec m).2.map Bl).length+([(Bl n)]:C0).length)*72<=140737488355328/\((HR roots dec m).2.map Bl).length+([(Bl n)]:C0).length<=9223372036854775807:=⟨⟨rfl,trivial⟩,rfl,(by grind),(by grind)⟩;refine Yi tp (yN (Yi ⟨(PR _ n).symm,rfl⟩ ?_))
   -- [('(Dz dec n.rq.path)=true',False),('(0:Int)<(((HR roots dec m).2.map Bl).length:Int)',True),('Ez (HR roots dec m).1 n.rq.path=true',False),('Ez n.rq.path (HR roots dec m).1=true',False)]
   exact⟨rfl,UM (hF.trans (nq h2 h8 h9)) (aA _ n) (PR _ n)⟩
  have n7:¬0<(HR roots dec m).2.length:=by simp_all
  refine Yi (fun hf=>absurd hf h7) (fun _=>?_);refine yN (yN ?_);have vZ:Bh 5 [(Bl n)]/\((HR roots dec m).2.map Bl).length=((HR roots dec m).2.map Bl).length/\(((HR roots dec m).2.map Bl).length+([(Bl n)]:C0).length)*72<=140737488355328/\((HR roots dec m).2.map Bl).length+([(Bl n)]:C0).length<=9223372036854775807:=⟨⟨rfl,trivial⟩,rfl,(by simp_all),(by simp_all)⟩;refine Yi vZ (yN (Yi ⟨(PR _ n).symm,rfl⟩ ?_))
  -- [('(Dz dec n.rq.path)=true',False),('(0:Int)<(((HR roots dec m).2.map Bl).length:Int)',False)]
  exact⟨rfl,UM (hF.trans (ra h2 h7)) (aA _ n) (PR _ n)⟩
 refine Yi aa2 ?_;exact C2 (.refl _) ⟨show AV.tup [vs (HR roots dec (Dr roots dec).length).1,sl Bl (HR roots dec (Dr roots dec).length).2]=_ by grind [qZ],rfl⟩
end Go.Eng
namespace Go.Eng
open Go.Proofs
theorem iN{α:Type}(pr:α->Bool)(l:List α):(∃(k:Nat) (n:α),J0 pr l 0=(k:Nat)/\l[k]?=some n/\l.find? pr=some n)\/(J0 pr l 0=-1/\l.find? pr=none):=by
 have key:∀(l:List α) (b:Nat),(∃(k:Nat) (n:α),J0 pr l (b:Nat)=((b+k:Nat):Int)/\l[k]?=some n/\l.find? pr=some n)\/(J0 pr l (b:Nat)=-1/\l.find? pr=none):=by
  intro l
  induction l with
  |nil=>intro b;exact .inr Zr
  |cons y l ih=>
   intro b;cases h:pr y with
   |true=>exact .inl ⟨0,y,by unfold J0;simp_all,rfl,by simp_all⟩
   |false=>
    have e:J0 pr (y::l) (b:Nat)=J0 pr l ((b+1:Nat):Int):=by
     conv=>lhs;unfold J0
     simp_all
    have e2:(y::l).find? pr=l.find? pr:=by simp_all
    rcases ih (b+1)with ⟨k,n,h1,h2,h3⟩ | ⟨h1,h2⟩
    .exact .inl ⟨k+1,n,by omega,by simp_all,by simp_all⟩
    simp_all
 have:=key l 0
 simp_all
section
variable {rec:List Cd->SS->List (List Sk)->Kz}{x:List Rl}{p:CS}{N:List Nd}{n0:Nd}{dec:List Cd}{st:List (List Sk)}{cs:List Cd}{i:Nat}{S:SS}{rs:List Nat}{sk:List Sk}
theorem kU(h:¬i<cs.length):DR rec x p N n0 dec st (cs.drop i) S rs sk=⟨(DC x p n0 rs S).1,false,(DC x p n0 rs S).2,dec,st⟩:=by
 rw[DY Wk];rfl
theorem py(h:i<cs.length)(hf:S.full=true):DR rec x p N n0 dec st (cs.drop i) S rs sk=⟨0,false,S,dec,st⟩:=by
 grind [List.drop_eq_getElem_cons,FW]
theorem xx(h:i<cs.length)(hf:S.full=false){n:Nd}(hn:N.find? (fun n=>!has n.rq.set cs[i].place)=some n):DR rec x p N n0 dec st (cs.drop i) S rs sk=DR rec x p N n0 dec st (cs.drop (i+1)) (Bx S n).2 (rs++[(Bx S n).1]) sk:=by
 grind [List.drop_eq_getElem_cons,FW]
theorem XD(h:i<cs.length)(hf:S.full=false)(hn:N.find? (fun n=>!has n.rq.set cs[i].place)=none){k:Nat}(he:Og S.drv (AA (dec++[cs[i]]))=some k):DR rec x p N n0 dec st (cs.drop i) S rs sk=IG rec x p N n0 dec st cs[i] (cs.drop (i+1)) rs sk k S:=by
 grind [List.drop_eq_getElem_cons,FW]
theorem Ze(h:i<cs.length)(hf:S.full=false)(hn:N.find? (fun n=>!has n.rq.set cs[i].place)=none)(he:Og S.drv (AA (dec++[cs[i]]))=none){n:Nd}(hc:D3 dec cs[i]=some n) :
  DR rec x p N n0 dec st (cs.drop i) S rs sk=IG rec x p N n0 dec st cs[i] (cs.drop (i+1)) rs sk (Bx S n).1 (Bx S n).2:=by
 grind [List.drop_eq_getElem_cons,FW]
theorem XE(h:i<cs.length)(hf:S.full=false)(hn:N.find? (fun n=>!has n.rq.set cs[i].place)=none)(he:Og S.drv (AA (dec++[cs[i]]))=none)(hc:D3 dec cs[i]=none){o:Kz}(ho:o=rec (dec++[cs[i]]) S (st++[sk])) :
  DR rec x p N n0 dec st (cs.drop i) S rs sk=if o.found=true then⟨0,true,o.ss,o.dec,o.stack⟩else if o.ss.full=true then⟨0,false,o.ss,dec,st⟩else IG rec x p N n0 dec st cs[i] (cs.drop (i+1)) rs sk o.res o.ss:=by
 grind [List.drop_eq_getElem_cons,FW]
theorem dV{c:Cd}{l:List Cd}{k:Nat}(h:DJ (Eh S k) p=false):IG rec x p N n0 dec st c l rs sk k S=⟨k,false,S,dec,st⟩:=by grind [IG]
theorem Xr{c:Cd}{l:List Cd}{k:Nat}(h:DJ (Eh S k) p=true):IG rec x p N n0 dec st c l rs sk k S=DR rec x p N n0 dec st l S (rs++[k]) (sk++[⟨p,c.place,(k:Nat)⟩]):=by grind [IG]
end
theorem Zk{x:List Rl}{dec:List Cd}(h:DE x dec):dec.length<=x.length:=by
 have h1:=CB (m:=x.map (·.path)) h.nodup fun p hp=>by
  grind [DE.cand]
 simp_all
theorem Wh(x:List Rl)(p:CS):(BA x p).length<=x.length:=by
 grind [BA]
end Go.Eng
