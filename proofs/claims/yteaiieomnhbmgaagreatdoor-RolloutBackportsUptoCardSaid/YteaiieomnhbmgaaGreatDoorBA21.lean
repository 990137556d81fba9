/- Lemmas 21. -/
import Derived.Test.YteaiieomnhbmgaaGreatDoorBA20
import Derived.Test.YteaiieomnhbmgaaGreatDoorBA03
set_option maxHeartbeats 4000000
namespace Go.Eng
open Go.Proofs Go.Proofs.Tryz
variable {k:Nat}{i:Nf}{l:List Nf}{Y:Gh->World->Prop}{j:Nat}{n:Nd}(roots:List Rq)(C A:List (Value×AV))(s:SS)(dec:List Cd)(st:List (List Sk))(c:Cd)(S:List Sl)(m:Nat)(p:CS)
theorem Te:∀{l:List Nf} {k:Nat} {kx:Value} {a:AV},(kx,a)∈Fy k l↔∃j i,l[j]?=some i/\kx=Ma i/\a=vi ((k+j:Nat):Int)
 | [],k,kx,a=>by simp[Fy]
 |y::l,k,kx,a=>by
  unfold Fy;rw[AU,Te];constructor
  .rintro(h | ⟨j,i,h1,h2,h3⟩)
   .cases h<;>grind
   .exact⟨j+1,i,h1,h2,by grind⟩
  grind
theorem Xj{a b:Nf}(h:Ma a=Ma b):a=b:=by
 obtain⟨a1,a2,a3,a4,a5,a6⟩:=a;obtain⟨b1,b2,b3,b4,b5,b6⟩:=b<;>grind [Ma]
theorem AaS(h:Mp i 0 l=some k):(Ma i,vi (k:Nat))∈Fy 0 l:=by
 grind [NF,Te]
theorem sr(hn:l.Nodup)(h:Mp i 0 l=some k):∀b,(Ma i,b)∈Fy 0 l->b=vi (k:Nat):=fun b hb=>by
 grind [NF,Te,Xj,List.getElem_inj]
theorem uX(h:Mp i 0 l=none):∀a,(Ma i,a)∉Fy 0 l:=fun a ha=>by
 obtain⟨j,i',h1,h2,_⟩:=Te.1 ha
 have:=Xj h2
 subst this;exact Rj h (AB h1)
theorem gI:∀(l:List Nf) (k:Nat) (i:Nf),Fy k (l++[i])=Fy k l++[(Ma i,vi ((k+l.length:Nat):Int))]
 | [],k,i=>by simp[Fy]
 |y::l,k,i=>by
  show(Ma y,_)::Fy (k+1) (l++[i])=_;rw[gI l (k+1) i]
  grind [Fy]
theorem xg(h:Mp i 0 l=none):EM (Fy 0 l) (Ma i) (vi ((l.map Dy).length:Int))=Fy 0 (l++[i]):=by
 grind [MW,uX,gI]
theorem ZR{s:SS}{l:List Tm}(h:Mp i 0 s.infs=some k):D7 s i l=(k,s):=by grind [D7]
theorem WA{s:SS}{l:List Tm}(h:Mp i 0 s.infs=none)(hf:65536<=s.infs.length):D7 s i l=(s.infs.length-1,⟨s.infs,s.drv,true⟩):=by grind [D7]
theorem ZP{s:SS}{l:List Tm}(h:Mp i 0 s.infs=none)(hf:¬65536<=s.infs.length):D7 s i l=(s.infs.length,⟨s.infs++[i],s.drv++[l],s.full⟩):=by grind [D7]
section
variable {roots:List Rq}{C A:List (Value×AV)}{s s' : SS}{dec:List Cd}{st:List (List Sk)}{i:Nf}{l:List Tm}
theorem lM{z:Int}(e:D7 s i l=(k,s'))(hz:z=k):vi z=vi ((D7 s i l).1:Nat)/\Ai (Jv roots C A s' dec st) Ac=Ai (Jv roots C A (D7 s i l).2 dec st) Ac:=by simp_all
theorem zk(h:Mp i 0 s.infs=none):Ai [(1000,.cells [sl As roots,.cmap B4 C,.cmap B4 A,.slice (.id 1001 6) (s.infs.map Dy++[Dy i]),.slice (.id 1002 1) (s.drv.map Dg++[Dg l]),.mref 1003,vb s.full,sl AJ dec,sl Ab (Aw dec),.msl 1004 st.length]),
      (1001,.tok 6 ((s.infs.map Dy).length+[Dy i].length)),(1002,.tok 1 ((s.drv.map Dg).length+[Dg l].length)),(1003,.map Fw (EM (Fy 0 s.infs) (Ma i) (vi ((s.infs.map Dy).length:Int)))),(1004,.arr 1 (st.map Bc))] Ac=Ai (Jv roots C A ⟨s.infs++[i],s.drv++[l],s.full⟩ dec st) Ac:=by
  grind [xg]
end
theorem AbE:PC 303 [.agg (AJ c),.cptr [vs p]] (vb (decide (c.rel.path=p))):=by
 refine Ps (pC [2] []) func303 rfl (Nz rfl) (Yi (fun h1=>?_) (fun h1=>?_))
 .exact .of_eq (show vb true=vb (decide (c.rel.path=p)) by simp_all)
 exact .of_eq (show vb false=vb (decide (c.rel.path=p)) by simp_all)
theorem AbC(t:Tm)(p:CS):PC 260 [.agg (AG t),.cptr [vs p]] (vb (decide (t.path=p))):=by
 refine Ps (pC [2] []) func260 rfl (Nz rfl) (Yi (fun h1=>?_) (fun h1=>?_))
 .exact .of_eq (show vb true=vb (decide (t.path=p)) by simp_all)
 exact .of_eq (show vb false=vb (decide (t.path=p)) by simp_all)
theorem qM(l:List Tm)(p:CS)(hl:BJ l):PC 193 [sl AG l,vs p] (vb (DM l p)):=by
 refine Ps (pC [3] []) func193 rfl (Nz rfl) (AN (Bt (DM l p)) (fun h1=>?_) (fun h1=>?_))
 .refine C1 (C2 (cb h1 (show PC 259 [sl AG l,.clo 260 [.cptr [vs p]]] (vb (DM l p))from vU (fF:=260) (caps:=[.cptr [vs p]]) (fun c hc=>by obtain rfl:=AK.1 hc;intro h;rfl) l (fun t=>decide (t.path=p)) (fun t _=>AbC t p) hl)) ?_);exact .of_eq (show vb true=vb (DM l p) by rw[h1])
 refine C1 (C2 (cb h1 (show PC 259 [sl AG l,.clo 260 [.cptr [vs p]]] (vb (DM l p))from vU (fF:=260) (caps:=[.cptr [vs p]]) (fun c hc=>by obtain rfl:=AK.1 hc;intro h;rfl) l (fun t=>decide (t.path=p)) (fun t _=>AbC t p) hl)) ?_);exact .of_eq (show vb false=vb (DM l p) by rw[h1])
theorem AbB(hl:BJ dec):AP Tryz.prog 254 [.ref 1000 0,vs p] (Ai (Jv roots C A s dec st) Ac) fun r h'=>r=vb (Dn dec p)/\h'=Ai (Jv roots C A s dec st) Ac:=by
 refine BO (LB (pC [3] [])) [(1000,1000),(1001,1001),(1002,1002),(1003,1003),(1004,1004)] rfl Ck hm rfl func254 Wk rfl (Nz rfl) Wk rfl (AN (Bt (Dn dec p)) (fun h1=>?_) (fun h1=>?_))
 .refine C1 (C2 (cb h1 (show PC 302 [sl AJ dec,.clo 303 [.cptr [vs p]]] (vb (Dn dec p))from AbD (fF:=303) (caps:=[.cptr [vs p]]) (fun c hc=>by obtain rfl:=AK.1 hc;intro h;rfl) dec (fun c=>decide (c.rel.path=p)) (fun c _=>AbE c p) hl)) ?_);exact C2 (.refl _) (Yi (show vb true=vb (Dn dec p) by rw[h1]) rfl)
 refine C1 (C2 (cb h1 (show PC 302 [sl AJ dec,.clo 303 [.cptr [vs p]]] (vb (Dn dec p))from AbD (fF:=303) (caps:=[.cptr [vs p]]) (fun c hc=>by obtain rfl:=AK.1 hc;intro h;rfl) dec (fun c=>decide (c.rel.path=p)) (fun c _=>AbE c p) hl)) ?_);exact C2 (.refl _) (Yi (show vb false=vb (Dn dec p) by rw[h1]) rfl)
theorem tp(i:Nf)(l:List Tm)(k:Nat)(hk:Mp i 0 s.infs=some k)(VR:s.infs.Nodup):AP Tryz.prog 255 [.ref 1000 0,.agg (Dy i),sl AG l] (Ai (Jv roots C A s dec st) Ac) fun r h'=>r=vi ((D7 s i l).1:Nat)/\h'=Ai (Jv roots C A (D7 s i l).2 dec st) Ac:=by
 refine BO (LB (pC [4] [])) [(1000,1000),(1001,1001),(1002,1002),(1003,1003),(1004,1004)] rfl Ck hm rfl func255 Wk rfl (Nz rfl) Wk rfl (yN ?_);refine Or.inl (Xi (vi (k:Nat)) (Yi (Yi (AaS hk) (sr VR hk)) ?_));refine Yi Wk ?_;exact C2 (.refl _) (lM (ZR hk) rfl)
theorem tn(i:Nf)(l:List Tm)(hk:Mp i 0 s.infs=none)(hn:s.infs.length<=65536)(hdl:s.drv.length=s.infs.length):AP Tryz.prog 255 [.ref 1000 0,.agg (Dy i),sl AG l] (Ai (Jv roots C A s dec st) Ac) fun r h'=>r=vi ((D7 s i l).1:Nat)/\h'=Ai (Jv roots C A (D7 s i l).2 dec st) Ac:=by
 have hdn:s.drv.length<=65536:=by omega
 have hml:(s.infs.map Dy).length=s.infs.length:=Lm _;refine BO (LB (pC [4] [])) [(1000,1000),(1001,1001),(1002,1002),(1003,1003),(1004,1004)] rfl Ck hm rfl func255 Wk rfl (Nz rfl) Wk rfl (yN ?_);refine Or.inr (Yi (uX hk) ?_);refine Yi Wk (Yi (fun h1=>?_) (fun h1=>?_))
 .refine yN (Yi (by grind [Av]) ?_);exact C2 (.refl _) (lM (WA hk ch) ch)
 refine yN (Yi Wk (yN (Yi (cI rfl ch Cl) (yN (Yi Wk (Yi (cI rfl ch Cl) (yN ?_)))))));have hq:=lM (roots:=roots) (C:=C) (A:=A) (dec:=dec) (st:=st) (z:=((s.infs.map Dy).length:Int)) (ZP (l:=l) hk ch) ch;exact C2 (.refl _) (Yi hq.1 ((zk hk).trans hq.2))
structure Lt(x:List Rl)(roots:List Rq)(s:SS):Prop where
 der:EQ x roots s
 nodup:s.infs.Nodup
abbrev vB(o:Nat×SS)(r:AV)(h' : Nat->HO):Prop:=r=vi (o.1:Nat)/\h'=Ai (Jv roots C A o.2 dec st) Ac
theorem tj(i:Nf)(l:List Tm)(hn:s.infs.length<=65536)(hdl:s.drv.length=s.infs.length)(VR:s.infs.Nodup) :
  AP Tryz.prog 255 [.ref 1000 0,.agg (Dy i),sl AG l] (Ai (Jv roots C A s dec st) Ac) (vB roots C A dec st (D7 s i l)):=by
 cases hk:Mp i 0 s.infs<;>grind [tp,tn]
abbrev cS:Jk:=[(1000,1000),(1001,1001),(1002,1002),(1003,1003),(1004,1004)]
theorem zU{h2:Nat->HO}{cs:List AV}{o1 o2 o3 o4:HO}(e0:h2 1000=.cells cs)(e1:h2 1001=o1)(e2:h2 1002=o2)(e3:h2 1003=o3)(e4:h2 1004=o4) :
  Fv cS h2=Ai [(1000,.cells (cs.map (ren1 (Cy cS) h2))),(1001,o1.ren (Cy cS) h2),(1002,o2.ren (Cy cS) h2),(1003,o3.ren (Cy cS) h2),(1004,o4.ren (Cy cS) h2)] Ac:=by
 unfold Fv;simp only[Zf];rw[e0,e1,e2,e3,e4];rfl
theorem jT{s:SS}(h:n.path=mt):D7 s ⟨0,mt,0,n.number,0,0⟩ (J0 n.rq)=Bu s n:=by grind [Bu,Ox,Ib]
theorem nU{s:SS}(h:¬n.path=mt):D7 s ⟨1,n.path,n.place,n.number,0,0⟩ (EG n.path n.place n.rq)=Bu s n:=by grind [Bu,Ox,Ib]
abbrev mN(d:List (List Tm))(S:List Sl):AV:=.tup [vi (((Oi d S).getD 0:Nat):Int),vb (Oi d S).isSome]
theorem ar{S:List Sl}:∀{l:List (List Tm)} {b i:Nat} {t:List Tm},l[i]?=some t->CK t S=true->(∀j u,j<i->l[j]?=some u->CK u S=false)->Pv S b l=some (b+i)
 | [],_,_,_,h,_,_=>by simp_all
 |u::l,b,0,t,h,he,_=>by grind [Pv]
 |u::l,b,i+1,t,h,he,hn=>by
  unfold Pv;rw[Az (by rw[hn 0 u ch rfl];decide),ar (i:=i) (by simp_all) he (fun j v hj hv=>hn (j+1) v ch (by simp_all))]
  grind
theorem au{S:List Sl}:∀{l:List (List Tm)} {b:Nat},(∀t∈l,CK t S=false)->Pv S b l=none
 | [],_,_=>rfl
 |u::l,b,h=>by
  unfold Pv;rw[Az (by simp_all)];exact au fun t ht=>h t (Ao _ ht)
theorem s88(n:Nd)(hn:s.infs.length<=65536)(hdl:s.drv.length=s.infs.length)(VR:s.infs.Nodup)(hq:BJ n.rq.set)(hp:Av (n.place+1)):AP Tryz.prog 189 [.ref 1000 0,.agg (Bj n)] (Ai (Jv roots C A s dec st) Ac) fun r h'=>vB roots C A dec st (Bu s n) r h':=by
 refine BO (LB ⟨[3],[],[],[],[],[],[],[],[(15,5),(31,5)],[],[]⟩) [(1000,1000),(1001,1001),(1002,1002),(1003,1003),(1004,1004)] rfl Ck hm rfl func189 Wk rfl (Nz rfl) Wk rfl (Yi (fun h1=>?_) (fun h1=>?_))
 .refine yN (C2 (AdO n.rq hq) (Xi cS (Xi [(1000,.cells (srM roots C A s dec 1004 st.length)),(1001,.tok 6 s.infs.length),(1002,.tok 1 s.drv.length),(1003,.map Fw (Fy 0 s.infs)),(1004,.arr 1 (st.map Bc))] (Xi (Jv roots C A (D7 s ⟨0,mt,0,n.number,0,0⟩ (J0 n.rq)).2 dec st) (Xi [.ref 1000 0,.agg [vi 0,vs ⟨#[]⟩,vi 0,vi n.number,vi 0,vi 0],sl AG (J0 n.rq)] (Xi (vi (((D7 s ⟨0,mt,0,n.number,0,0⟩ (J0 n.rq)).1:Nat):Int):AV) (Yi (fun h2 hh=>Yi ((zU (show h2 1000=.cells (srM roots C A s dec 1004 st.length)from hh 1000 Cl) (show h2 1001=.tok 6 s.infs.length from hh 1001 Cl) (show h2 1002=.tok 1 s.drv.length from hh 1002 Cl) (show h2 1003=.map Fw (Fy 0 s.infs)from hh 1003 Cl) (show h2 1004=.arr 1 (st.map Bc)from hh 1004 Cl)).trans rfl) rfl) (Yi Wk (Yi (tj roots C A s dec st ⟨0,mt,0,n.number,0,0⟩ (J0 n.rq) hn hdl VR) (Yi Wk ?_))))))))));have ei:=jT (s:=s) h1;exact C2 (.refl _) (Yi (show vi (((D7 s ⟨0,mt,0,n.number,0,0⟩ (J0 n.rq)).1:Nat):Int)=vi (((Bu s n).1:Nat):Int) by rw[ei]) (show Ai (Jv roots C A (D7 s ⟨0,mt,0,n.number,0,0⟩ (J0 n.rq)).2 dec st) Ac=Ai (Jv roots C A (Bu s n).2 dec st) Ac by rw[ei]))
 refine yN (C2 (AdP n.path n.place n.rq hp hq) (Xi cS (Xi [(1000,.cells (srM roots C A s dec 1004 st.length)),(1001,.tok 6 s.infs.length),(1002,.tok 1 s.drv.length),(1003,.map Fw (Fy 0 s.infs)),(1004,.arr 1 (st.map Bc))] (Xi (Jv roots C A (D7 s ⟨1,n.path,n.place,n.number,0,0⟩ (EG n.path n.place n.rq)).2 dec st) (Xi [.ref 1000 0,.agg [vi 1,vs n.path,vi n.place,vi n.number,vi 0,vi 0],sl AG (EG n.path n.place n.rq)] (Xi (vi (((D7 s ⟨1,n.path,n.place,n.number,0,0⟩ (EG n.path n.place n.rq)).1:Nat):Int):AV) (Yi (fun h2 hh=>Yi ((zU (show h2 1000=.cells (srM roots C A s dec 1004 st.length)from hh 1000 Cl) (show h2 1001=.tok 6 s.infs.length from hh 1001 Cl) (show h2 1002=.tok 1 s.drv.length from hh 1002 Cl) (show h2 1003=.map Fw (Fy 0 s.infs)from hh 1003 Cl) (show h2 1004=.arr 1 (st.map Bc)from hh 1004 Cl)).trans rfl) rfl) (Yi Wk (Yi (tj roots C A s dec st ⟨1,n.path,n.place,n.number,0,0⟩ (EG n.path n.place n.rq) hn hdl VR) (Yi Wk ?_))))))))));have ei:=nU (s:=s) h1;exact C2 (.refl _) (Yi (show vi (((D7 s ⟨1,n.path,n.place,n.number,0,0⟩ (EG n.path n.place n.rq)).1:Nat):Int)=vi (((Bu s n).1:Nat):Int) by rw[ei]) (show Ai (Jv roots C A (D7 s ⟨1,n.path,n.place,n.number,0,0⟩ (EG n.path n.place n.rq)).2 dec st) Ac=Ai (Jv roots C A (Bu s n).2 dec st) Ac by rw[ei]))
theorem s89(hd:s.drv.length<=65536)(ht:∀t∈s.drv,lG t)(hS:BJ S):AP Tryz.prog 190 [.ref 1000 0,sl Ab S] (Ai (Jv roots C A s dec st) Ac) fun r h'=>r=mN s.drv S/\h'=Ai (Jv roots C A s dec st) Ac:=by
 refine BO (LB C3) [(1000,1000),(1001,1001),(1002,1002),(1003,1003),(1004,1004)] rfl Ck hm rfl func190 Wk rfl (Nz rfl) Wk rfl (Xi {i:Nat // i<=s.drv.length/\∀j u,j<i->s.drv[j]?=some u->CK u S=false} (Xi (fun q=>⟨[(1,sl Ab S),(11,.slice (.id 1002 1) (s.drv.map Dg)),(12,vi (s.drv.map Dg).length),(13,vi q.1)],[(1000,.cells (srM roots C A s dec 1004 st.length)),(1001,.tok 6 s.infs.length),(1002,.tok 1 s.drv.length),(1003,.map Fw (Fy 0 s.infs)),(1004,.arr 1 (st.map Bc))],Ac⟩) (Xi (fun q=>s.drv.length-q.1) (Yi (Xi ⟨0,Al _,fun j u h=>absurd h (DB j)⟩ ?_) ?_))))
 .exact⟨Z4,Z5,Fh,A4 Wk⟩
 intro⟨i,i1,i2⟩;refine Yi (fun h1=>?_) (fun h1=>?_)
 .have h1:(i:Int)<((s.drv.map Dg).length:Int):=h1;have n1:=DK h1;refine Xi (Dg s.drv[i]) (Yi (FJ n1) (Yi rfl (AN (Bt (CK s.drv[i] S)) (fun h2=>?_) (fun h2=>?_))))
  .refine C1 (C2 (cb h2 (c91 s.drv[i] S (ht _ (Ae _)) hS)) ?_);have eE:Oi s.drv S=some i:=by unfold Oi;rw[ar (Ge n1) h2 i2,ET]
   exact C2 (.refl _) (Yi (show AV.tup [vi (i:Int),vb true]=mN s.drv S by simp_all) rfl)
  have h2:(CK s.drv[i] S)=false:=h2;refine C1 (C2 (cb h2 (c91 s.drv[i] S (ht _ (Ae _)) hS)) (Yi (by grind [Av]) ?_));refine Xi ⟨i+1,by omega,fun j u hj hu=>by
    grind⟩ ?_
  exact⟨Dl s.drv.length i ch,Z4,Z5,Fh,A4 Wk⟩
 have h1:¬((i:Int)<((s.drv.map Dg).length:Int)):=h1;have n1:=B5 h1;have eE:Oi s.drv S=none:=au fun t ht=>by
  grind [List.mem_iff_getElem?]
 exact C2 (.refl _) (Yi (show AV.tup [vi 0,vb false]=mN s.drv S by simp_all) rfl)
def Xr(l:List Cd)(q:Rq):Bool:=l.any fun d=>decide (d.rel.path=q.path)&&!has q.set d.place
theorem WV{f:Rq->Nat->Nd}{P:Nd->Bool}:∀{l:List Rq} {b i:Nat} {q:Rq},l[i]?=some q->P (f q (b+i))=true->(∀k u,k<i->l[k]?=some u->P (f u (b+k))=false)->(LQ f b l).find? P=some (f q (b+i))
 | [],_,_,_,h,_,_=>by simp_all
 |u::l,b,0,q,h,he,_=>by
  grind [LQ]
 |u::l,b,i+1,q,h,he,hn=>by
  unfold LQ;have h0:P (f u b)=false:=hn 0 u ch rfl;rw[Wt,h0]
  have:=WV (f:=f) (P:=P) (l:=l) (b:=b+1) (i:=i) (q:=q) (by simp_all) (by grind) (fun k v hk hv=>by
   grind)
  grind
theorem PD{f:Rq->Nat->Nd}{P:Nd->Bool}:∀{l:List Rq} {b:Nat},(∀k u,l[k]?=some u->P (f u (b+k))=false)->(LQ f b l).find? P=none
 | [],_,_=>rfl
 |u::l,b,h=>by
  unfold LQ;have h0:P (f u b)=false:=h 0 u rfl;rw[Wt,h0];exact PD fun k v hv=>by rw[show b+1+k=b+(k+1) by omega];simp_all
def zNd:AV:=.agg [vs ⟨#[]⟩,BE,vs ⟨#[]⟩,vi 0,vi 0]
def wl(o:Option Nd):AV:=match o with | some n=>.tup [.agg (Bj n),vb true] | none=>.tup [zNd,vb false]
section
variable {dec:List Cd}{c:Cd}{i:Nat}
theorem mq(hi:i<c.rel.reqs.length)(hn:∀k q,k<i->c.rel.reqs[k]?=some q->Xr (dec++[c]) q=false){j:Nat}(hj:j<(dec++[c]).length)(h1:(dec++[c])[j].rel.path=c.rel.reqs[i].path)(h2:has c.rel.reqs[i].set (dec++[c])[j].place=false) :
  CY dec c=some ⟨c.rel.reqs[i],c.rel.path,c.place,(i:Nat)⟩:=by
 have:=WV (f:=fun q i=>⟨q,c.rel.path,c.place,(i:Nat)⟩) (P:=UY (dec++[c])) (l:=c.rel.reqs) (b:=0) (i:=i) (q:=c.rel.reqs[i]) (Ge hi)
  (BC.2 ⟨_,Ae hj,by simp_all⟩) (fun k u hk hu=>hn k u hk hu)
 grind [CY,Qf]
theorem mr(hn:∀(k:Nat) (q:Rq),c.rel.reqs[k]?=some q->Xr (dec++[c]) q=false):CY dec c=none:=by
 unfold CY Qf;exact PD fun k u hu=>hn k u hu
theorem ov{q:Rq}(h:∀(m:Nat) (d:Cd),(dec++[c])[m]?=some d->(decide (d.rel.path=q.path)&&!has q.set d.place)=false):Xr (dec++[c]) q=false:=by
 grind [Xr,List.mem_iff_getElem?]
end
theorem s87(n:Nd)(c:Cd)(hq:BJ n.rq.set):PC 188 [.agg (Bj n),.cptr (AJ c)] (vb (!has n.rq.set c.place)):=by
 refine Ps (pC [2] []) func188 rfl (Nz rfl) (AN (Bt (has n.rq.set c.place)) (fun h1=>?_) (fun h1=>?_))
 .refine C1 (C2 (cb h1 (mg n.rq.set c.place hq)) ?_);exact .of_eq (show vb false=vb (!has n.rq.set c.place) by simp_all)
 refine C1 (C2 (cb h1 (mg n.rq.set c.place hq)) ?_);exact .of_eq (show vb true=vb (!has n.rq.set c.place) by simp_all)
theorem s69(hd:dec.length<=1073741823)(hr:c.rel.reqs.length<=1073741824)(hq:∀q∈c.rel.reqs,BJ q.set):AP Tryz.prog 191 [.ref 1000 0,.agg (AJ c)] (Ai (Jv roots C A s dec st) Ac) fun r h'=>r=wl (CY dec c)/\h'=Ai (Jv roots C A s dec st) Ac:=by
 have hdl:(dec++[c]).length=dec.length+1:=by simp
 refine BO (LB ⟨[3],[],[],[],[],[],[],[],[(23,3)],[],[]⟩) [(1000,1000),(1001,1001),(1002,1002),(1003,1003),(1004,1004)] rfl Ck hm rfl func191 Wk rfl (Nz rfl) Wk rfl (Xi {i:Nat // i<=c.rel.reqs.length/\∀k q,k<i->c.rel.reqs[k]?=some q->Xr (dec++[c]) q=false} (Xi (fun q=>⟨[(0,.ref 1000 0),(3,.ref 3 0),(4,.ref 4 0),(12,sl As c.rel.reqs),(13,vi (c.rel.reqs.map As).length),(14,vi q.1)],[(3,.ro (AJ c)),(4,.cells [vs ⟨#[]⟩,BE,vs ⟨#[]⟩,vi 0,vi 0]),(1000,.cells (srM roots C A s dec 1004 st.length)),(1001,.tok 6 s.infs.length),(1002,.tok 1 s.drv.length),(1003,.map Fw (Fy 0 s.infs)),(1004,.arr 1 (st.map Bc))],Ac⟩) (Xi (fun q=>c.rel.reqs.length-q.1) (Yi (Xi ⟨0,Al _,fun k q h=>absurd h (DB k)⟩ ?_) ?_))))
 .exact⟨Z6,Z7,Fh,A4 Wk⟩
 intro⟨i,i1,i2⟩;refine Yi (fun h1=>?_) (fun h1=>?_)
 .have h1:(i:Int)<((c.rel.reqs.map As).length:Int):=h1;have n1:=DK h1;refine Xi (As c.rel.reqs[i]) (Yi (FJ n1) (Yi rfl (yN (yN (Xi _ (C2 Wk (Yi (AbJ dec (AH hd Cl)) (yN ?_))))))));have b2:Bi 10 [(AJ c)]/\(dec.map AJ).length=(dec.map AJ).length/\((dec.map AJ).length+([(AJ c)]:C0).length)*128<=140737488355328/\(dec.map AJ).length+([(AJ c)]:C0).length<=9223372036854775807:=⟨⟨rfl,trivial⟩,rfl,(by grind),(by grind)⟩;refine Yi b2 (Yi Wk (Xi {j:Nat // j<=(dec++[c]).length/\∀m d,m<j->(dec++[c])[m]?=some d->(decide (d.rel.path=c.rel.reqs[i].path)&&!has c.rel.reqs[i].set d.place)=false} (Xi (fun q=>⟨[(0,.ref 1000 0),(3,.ref 3 0),(4,.ref 4 0),(6,vi i),(7,.ref 7 0),(12,sl As c.rel.reqs),(13,vi (c.rel.reqs.map As).length),(14,vi i),(26,.slice (.id 12300 10) ((dec++[c]).map AJ)),(27,vi ((dec++[c]).map AJ).length),(28,vi q.1)],[(3,.ro (AJ c)),(4,.cells [vs ⟨#[]⟩,BE,vs ⟨#[]⟩,vi 0,vi 0]),(7,.cells (As c.rel.reqs[i])),(1000,.cells (srM roots C A s dec 1004 st.length)),(1001,.tok 6 s.infs.length),(1002,.tok 1 s.drv.length),(1003,.map Fw (Fy 0 s.infs)),(1004,.arr 1 (st.map Bc)),(12300,.tok 10 ((dec++[c]).map AJ).length)],Ac⟩) (Xi (fun q=>(dec++[c]).length-q.1) (Yi (Xi ⟨0,Al _,fun k q h=>absurd h (DB k)⟩ ?_) ?_)))))
  .exact⟨⟨Zr,Zr,Zr,Zr,Zr,Zr,Zr,Zr,⟨tkA,rfl⟩,⟨(show vi ((dec.map AJ++[AJ c]:C0).length:Int)=vi (((dec++[c]).map AJ).length:Int) by simp_all),rfl⟩,Zr,Tv⟩,⟨Zr,Zr,Zr,Zr,Zr,Zr,Zr,Zr,⟨(show HO.tok 10 ((dec.map AJ).length+[AJ c].length)=.tok 10 ((dec++[c]).map AJ).length by simp),rfl⟩,Tv⟩,Fh,A4 Wk⟩
  intro⟨j,j1,j2⟩;refine Yi (fun h3=>?_) (fun h3=>?_)
  .have h3:(j:Int)<(((dec++[c]).map AJ).length:Int):=h3;have n3:=DK h3;refine Xi (AJ ((dec++[c])[j])) (Yi (FJ n3) (Yi rfl (yN (yN (Yi (fun h4=>?_) (fun h4=>?_))))))
   .have h4:(((dec++[c])[j]).rel.path:CS)=c.rel.reqs[i].path:=h4;refine AN (Bt (has c.rel.reqs[i].set (dec++[c])[j].place)) (fun h5=>?_) (fun h5=>?_)
    .have h5:(has c.rel.reqs[i].set (dec++[c])[j].place)=true:=h5;refine C1 (C2 (cb h5 (mg c.rel.reqs[i].set (dec++[c])[j].place (hq _ (Ae _)))) (Yi (by grind [Av]) ?_));refine Xi ⟨j+1,by omega,fun m d hm hd=>by
       grind⟩ ?_
     exact⟨by show(dec++[c]).length-(j+1)<(dec++[c]).length-j;omega,Z11,Z9,Fh,A4 Wk⟩
    have h5:(has c.rel.reqs[i].set (dec++[c])[j].place)=false:=h5;refine C1 (C2 (cb h5 (mg c.rel.reqs[i].set (dec++[c])[j].place (hq _ (Ae _)))) (yN (yN (yN ?_))));have eC:=mq (dec:=dec) (c:=c) n1 i2 n3 h4 h5;exact C2 (.refl _) (Yi (show AV.tup [.agg (Bj ⟨c.rel.reqs[i],c.rel.path,c.place,(i:Nat)⟩),vb true]=wl (CY dec c) by rw[eC];rfl) rfl)
   have h4:¬(((dec++[c])[j]).rel.path:CS)=c.rel.reqs[i].path:=h4;refine Yi (by grind [Av]) ?_;refine Xi ⟨j+1,by omega,fun m d hm hd=>by
     grind⟩ ?_
   exact⟨by show(dec++[c]).length-(j+1)<(dec++[c]).length-j;omega,Z11,Z9,Fh,A4 Wk⟩
  have h3:¬((j:Int)<(((dec++[c]).map AJ).length:Int)):=h3;have n3:=B5 h3;refine Yi (by grind [Av]) ?_;have hmq:Xr (dec++[c]) c.rel.reqs[i]=false:=ov fun m d hd=>j2 m d (by grind) hd;refine Xi ⟨i+1,by omega,fun k q hk hq0=>by
    grind⟩ ?_
  exact⟨Dl c.rel.reqs.length i ch,Z6,Z7,Fh,A4 Wk⟩
 have h1:¬((i:Int)<((c.rel.reqs.map As).length:Int)):=h1;have n1:=B5 h1;refine yN (yN ?_);have eC:=mr (dec:=dec) (c:=c) fun k q hk=>i2 k q (by grind) hk;exact C2 (.refl _) (Yi (show AV.tup [zNd,vb false]=wl (CY dec c) by rw[eC];rfl) rfl)
theorem Pr{x:List Rl}{roots:List Rq}{l0:List Nf}:∀{l:List Nf} {d d' : List (List Tm)},(∀i∈l,i∈l0)->(∀t∈d,VT (KO x roots l0) t)->Du x roots l d=some d'->∀t∈d',VT (KO x roots l0) t
 | [],d,d',_,hd,h=>by cases h;exact hd
 |i::l,d,d',hl,hd,h=>by
  unfold Du at h;cases hi:DX x roots d i with
  |none=>simp_all
  |some t=>
   rw[hi]at h;refine Pr (fun j hj=>hl j (Ao _ hj)) (fun u hu=>?_) h
   grind [jU,List.mem_cons_self]
section
variable {x:List Rl}{roots:List Rq}{s:SS}
theorem EQ.few(hx:AC x=0)(hr:AR roots=0)(h:EQ x roots s):∀t∈s.drv,vC t:=fun t ht=>
 (Pr (l0:=s.infs) (fun _ h=>h) (fun _ h=>by cases h) h.der t ht).fewI (eY hx hr h.len)
theorem Im{l:List Tm}(h:s.infs.Nodup):(D7 s i l).2.infs.Nodup:=by
 cases hk:Mp i 0 s.infs with
 |some k=>rw[ZR hk];exact h
 |none=>
  grind [WA,ZP,Rj]
theorem Lt.add(h:Lt x roots s){l:List Tm}(hi:DX x roots s.drv i=some l):Lt x roots (D7 s i l).2/\(D7 s i l).1<(D7 s i l).2.drv.length/\s.drv.length<=(D7 s i l).2.drv.length:=
 ⟨⟨(KZ h.der hi).1,Im h.nodup⟩,(KZ h.der hi).2.1,(K3 s i l).len⟩
theorem Lt.dl(h:Lt x roots s):s.infs.length<=65536/\s.drv.length=s.infs.length/\s.drv.length<=65536:=by
 have h1:=h.der.dlen;have h2:=h.der.len;omega
theorem oH(hx:AC x=0)(p:CS):∀d,DX x roots d ⟨2,p,0,0,0,0⟩=some (H2 p (B6 x p)):=fun d=>by
 obtain⟨u,u0,u1,hu⟩:=iB hx p;have hV:Gb []:=fun _ h=>by cases h
 have ou:VP [] p (M3 [] p (fI u)):=.ver hV (E7 ⟨u0,u1⟩);have h1:A6 [(⟨p,false,E5 (B6 x p)⟩:Tm)] (M3 [] p (fI u))=true:=by
  grind [Bs,Dh,Bg,E7,Hk,F8,SP]
 have h2:A6 [(⟨p,false,E5 (B6 x p)⟩:Tm)] []=false:=rfl;have Ek:H2 p (B6 x p)≠[]:=by
  have c1:=Dj (l:=[(⟨p,false,E5 (B6 x p)⟩:Tm)]) ou.val;have c2:=Dj (l:=[(⟨p,false,E5 (B6 x p)⟩:Tm)]) hV;rw[h1]at c1;rw[h2]at c2;unfold H2 Rf;cases hc:CX [(⟨p,false,E5 (B6 x p)⟩:Tm)]with
  |none=>grind
  |some c=>
   rw[hc]at c2;intro e;have e:c=[]:=e;rw[e]at c2;cases c2
 grind [DX,kd]
theorem EF(h:k<s.drv.length):s.drv[k]?=some (Ef s k):=by
 simp_all
theorem UQ{p:CS}{L:List Nat}(hj:j<L.length)(h:s.full=true\/DM (Ef s k) p=false):B9 p (L.drop j) k s=(k,s):=by
 grind [List.drop_eq_getElem_cons,B9]
theorem d4{p:CS}{L:List Nat}(hj:j<L.length)(h1:¬(s.full=true\/DM (Ef s k) p=false))(h:L[j]=k):B9 p (L.drop j) k s=B9 p (L.drop (j+1)) k s:=by
 grind [List.drop_eq_getElem_cons,B9]
theorem j8{p:CS}{L:List Nat}(hj:j<L.length)(h1:¬(s.full=true\/DM (Ef s k) p=false))(h2:¬L[j]=k)(h:(BF (Ef s k) (Ef s L[j]) p).2≠0):B9 p (L.drop j) k s=B9 p (L.drop (j+1)) k s:=by
 grind [List.drop_eq_getElem_cons,B9]
theorem j7{p:CS}{L:List Nat}(hj:j<L.length)(h1:¬(s.full=true\/DM (Ef s k) p=false))(h2:¬L[j]=k)(h:(BF (Ef s k) (Ef s L[j]) p).2=0) :
  B9 p (L.drop j) k s=B9 p (L.drop (j+1)) (D7 s ⟨3,p,0,0,(k:Nat),(L[j]:Nat)⟩ (BF (Ef s k) (Ef s L[j]) p).1).1 (D7 s ⟨3,p,0,0,(k:Nat),(L[j]:Nat)⟩ (BF (Ef s k) (Ef s L[j]) p).1).2:=by
 grind [List.drop_eq_getElem_cons,B9]
end
theorem F7{t:List Tm}(h:vC t):BJ t:=by omega
theorem s91(x:List Rl)(roots:List Rq)(C A:List (Value×AV))(s:SS)(dec:List Cd)(st:List (List Sk))(p:CS)(n:Nd)(rs:List Nat)(V:AV)(hx:AC x=0)(hr:AR roots=0)(hs:Lt x roots s)(wN:∀d,DX x roots d (Ox n)=some (Ib n))(hrs:∀r∈rs,r<s.drv.length)(hrl:rs.length<=1073741823)(hnq:BJ n.rq.set)(hnp:Av (n.place+1))
  (hV1:∀a,(Value.string p,a)∈A->a=V) (hV2:(∀a,(Value.string p,a)∉A)->V=BE) (hV3:∀h,PC 261 [vs p,str h V] (sl AG (H2 p (B6 x p)))):AP Tryz.prog 194 [.ref 1000 0,vs p,.agg (Bj n),sl CG rs] (Ai (Jv roots C A s dec st) Ac) fun r h'=>vB roots C A dec st (DG x p n rs s) r h':=by
 have hw:=hs.dl;obtain⟨wW,wQ,gD⟩:=hs.add (wN s.drv)
 change Lt x roots (Bu s n).2 at wW
 change (Bu s n).1<(Bu s n).2.drv.length at wQ
 change s.drv.length<=(Bu s n).2.drv.length at gD
 have UB:=wW.dl;obtain⟨wX,Qx,wK⟩:=wW.add (oH hx p (Bu s n).2.drv)
 change Lt x roots (Ea x p (Bu s n).2).2 at wX
 change (Ea x p (Bu s n).2).1<(Ea x p (Bu s n).2).2.drv.length at Qx
 change (Bu s n).2.drv.length<=(Ea x p (Bu s n).2).2.drv.length at wK
 obtain⟨L,hL⟩:∃L,L=(Ea x p (Bu s n).2).1::rs:=⟨_,rfl⟩;have hLr:∀r∈L,r<(Ea x p (Bu s n).2).2.drv.length:=fun r r9=>by
  grind
 have hLl:L.length=rs.length+1:=by simp_all
 have wQ:(Bu s n).1<(Ea x p (Bu s n).2).2.drv.length:=by omega
 refine BO (LB (pC [6] [3,7,8,10])) [(1000,1000),(1001,1001),(1002,1002),(1003,1003),(1004,1004)] rfl Ck hm rfl func194 Wk rfl (Nz rfl) Wk rfl (yN (Xi (.gen cS 0) (Yi rfl (AP.imp (s88 roots C A s dec st n hw.1 hw.2.1 hs.nodup hnq hnp) ?_))));intro v1 g1 q1;have te:=q1.1;have tf:=q1.2;subst te;subst tf;refine PI V BE hV1 hV2 (fun h=>h) (C1 (C2 (hV3 _) (Xi (.gen cS 0) (Yi rfl (AP.imp (tj roots C A (Bu s n).2 dec st ⟨2,p,0,0,0,0⟩ (H2 p (B6 x p)) UB.1 UB.2.1 wW.nodup) ?_)))));intro v2 g2 q2;have q2a:=q2.1;have q2b:=q2.2;subst q2a;subst q2b;refine cU [(0,.ref 1000 0),(1,vs p),(3,sl CG rs),(9,vi (((Bu s n).1:Nat):Int)),(10,vi (((Ea x p (Bu s n).2).1:Nat):Int))] [(1000,.cells [sl As roots,.cmap B4 C,.cmap B4 A,.slice (.id 1001 6) ((Ea x p (Bu s n).2).2.infs.map Dy),.slice (.id 1002 1) ((Ea x p (Bu s n).2).2.drv.map Dg),.mref 1003,vb (Ea x p (Bu s n).2).2.full,sl AJ dec,sl Ab (Aw dec),.msl 1004 st.length]),(1001,.tok 6 (Ea x p (Bu s n).2).2.infs.length),(1002,.tok 1 (Ea x p (Bu s n).2).2.drv.length),(1003,.map Fw (Fy 0 (Ea x p (Bu s n).2).2.infs)),(1004,.arr 1 (st.map Bc))] Z5 Z5 ?_
 have b3:Bi 1 (rs.map CG)/\([[vi (((Ea x p (Bu s n).2).1:Nat):Int)]]:C0).length=1/\(([[vi (((Ea x p (Bu s n).2).1:Nat):Int)]]:C0).length+(rs.map CG).length)*8<=140737488355328/\([[vi (((Ea x p (Bu s n).2).1:Nat):Int)]]:C0).length+(rs.map CG).length<=9223372036854775807:=⟨(CJ (enc:=CG) (n:=1) (fun _=>rfl) rs),(by simp_all),(by grind),(by grind)⟩;refine Yi b3 (Xi {q:Nat×Nat×SS // q.1<=L.length/\B9 p (L.drop q.1) q.2.1 q.2.2=B9 p L (Bu s n).1 (Ea x p (Bu s n).2).2/\Lt x roots q.2.2/\q.2.1<q.2.2.drv.length/\∀r∈L,r<q.2.2.drv.length} (Xi (fun q=>⟨[(0,.ref 1000 0),(1,vs p),(9,vi q.1.2.1),(33,.slice (.id 31 1) (L.map CG)),(34,vi (L.map CG).length),(35,vi q.1.1)],[(31,.tok 1 (L.map CG).length),(1000,.cells (srM roots C A q.1.2.2 dec 1004 st.length)),(1001,.tok 6 q.1.2.2.infs.length),(1002,.tok 1 q.1.2.2.drv.length),(1003,.map Fw (Fy 0 q.1.2.2.infs)),(1004,.arr 1 (st.map Bc))],Ac⟩) (Xi (fun q=>L.length-q.1.1) (Yi (Xi ⟨(0,(Bu s n).1,(Ea x p (Bu s n).2).2),Al _,by simp_all,wX,wQ,hLr⟩ ?_) ?_))))
 .exact⟨⟨Zr,Zr,Zr,⟨(show AV.slice (.id 31 1) ([[vi (((Ea x p (Bu s n).2).1:Nat):Int)]]++rs.map CG)=.slice (.id 31 1) (L.map CG) by simp_all),rfl⟩,⟨(show vi (([[vi (((Ea x p (Bu s n).2).1:Nat):Int)]]++rs.map CG:C0).length:Int)=vi ((L.map CG).length:Int) by simp_all),rfl⟩,Zr,Tv⟩,⟨⟨(show HO.tok 1 (([[vi (((Ea x p (Bu s n).2).1:Nat):Int)]]:C0).length+(rs.map CG).length)=.tok 1 (L.map CG).length by grind),rfl⟩,Zr,Zr,Zr,Zr,Zr,Tv⟩,Fh,A4 Wk⟩
 intro⟨⟨j,k,S⟩,j1,j2,j3,j4,j5⟩;have hw3:=j3.dl;have hfw:=j3.der.few hx hr;have gk:S.drv[k]?=some (Ef S k):=EF j4;refine Yi (fun h4=>?_) (fun h4=>?_)
 .have h4:(j:Int)<((L.map CG).length:Int):=h4;have n4:=DK h4;refine Xi (CG L[j]) (Yi (FJ n4) (Yi rfl (Yi (fun h5=>?_) (fun h5=>?_))))
  .refine cU [(9,vi k)] [(1000,.cells (srM roots C A S dec 1004 st.length)),(1001,.tok 6 S.infs.length),(1002,.tok 1 S.drv.length),(1003,.map Fw (Fy 0 S.infs)),(1004,.arr 1 (st.map Bc))] Z1 Z5 ?_
   have eR:B9 p L (Bu s n).1 (Ea x p (Bu s n).2).2=(k,S):=by grind [UQ]
   have eL:DG x p n rs s=(k,S):=by grind [DG]
   exact C2 (.refl _) (Yi (show vi (k:Int)=vi (((DG x p n rs s).1:Nat):Int) by rw[eL]) (show Ai (Jv roots C A S dec st) Ac=Ai (Jv roots C A (DG x p n rs s).2 dec st) Ac by rw[eL]))
  refine Xi (Dg (Ef S k)) (Yi (Yi (Nn k) (Ed gk)) (Yi rfl (AN (Bt (DM (Ef S k) p)) (fun h7=>?_) (fun h7=>?_))))
  .refine C1 (C2 (cb h7 (qM (Ef S k) p (F7 (hfw _ (AB (EF j4)))))) (cU [(0,.ref 1000 0),(1,vs p),(9,vi k),(12,vi (L[j]:Nat)),(33,.slice (.id 31 1) (L.map CG)),(34,vi (L.map CG).length),(35,vi j)] [(31,.tok 1 (L.map CG).length),(1000,.cells (srM roots C A S dec 1004 st.length)),(1001,.tok 6 S.infs.length),(1002,.tok 1 S.drv.length),(1003,.map Fw (Fy 0 S.infs)),(1004,.arr 1 (st.map Bc))] Z7 Z6 (Yi (fun h8=>?_) (fun h8=>?_))))
   .refine Yi (by grind [Av]) (Xi ⟨(j+1,k,S),Fo n4,by grind [d4],j3,j4,j5⟩ ?_);exact⟨Dl L.length j ch,Z6,Z6,Fh,A4 Wk⟩
   refine Xi (Dg (Ef S k)) (Yi (Yi (Nn k) (Ed gk)) (Yi rfl (Xi (Dg (Ef S L[j])) (Yi (Yi (show(0:Int)<=(L[j]:Nat) by omega) (Ed (EF (j5 _ (Ae n4))))) (Yi rfl ?_)))));have fk:=hfw _ (AB (EF j4));have fr:=hfw _ (AB (EF (j5 _ (Ae n4))));refine C2 (AdR (Ef S k) (Ef S L[j]) p fk.1 fr.1 fk.2 fr.2) (Yi Wk (cU [(0,.ref 1000 0),(1,vs p),(9,vi k),(12,vi (L[j]:Nat)),(13,sl AG (BF (Ef S k) (Ef S L[j]) p).1),(14,vi (BF (Ef S k) (Ef S L[j]) p).2),(33,.slice (.id 31 1) (L.map CG)),(34,vi (L.map CG).length),(35,vi j)] [(31,.tok 1 (L.map CG).length),(1000,.cells (srM roots C A S dec 1004 st.length)),(1001,.tok 6 S.infs.length),(1002,.tok 1 S.drv.length),(1003,.map Fw (Fy 0 S.infs)),(1004,.arr 1 (st.map Bc))] Z9 Z6 (Yi (fun gt=>?_) (fun gt=>?_))))
   .refine Yi (by grind [Av]) (Xi ⟨(j+1,k,S),Fo n4,by rw[<-(j8 (s:=S) (p:=p) (L:=L) (j:=j) (k:=k) n4 (by grind) ch gt)];exact j2,j3,j4,j5⟩ ?_);exact⟨Dl L.length j ch,Z6,Z6,Fh,A4 Wk⟩
   have gt:((BF (Ef S k) (Ef S L[j]) p).2:Int)=(0:Int):=Aq gt;refine Xi (.gen cS 0) (Yi rfl (AP.imp (tj roots C A S dec st ⟨3,p,0,0,(k:Nat),(L[j]:Nat)⟩ (BF (Ef S k) (Ef S L[j]) p).1 hw3.1 hw3.2.1 j3.nodup) ?_));intro v12 g12 td;have xB:=td.1;have xC:=td.2;subst xB;subst xC;refine Yi (by grind [Av]) ?_;obtain⟨a1,a2,a3⟩:=j3.add (Xe (x:=x) (roots:=roots) (p:=p) j4 (j5 _ (Ae n4)) gt);refine Xi ⟨(j+1,(D7 S ⟨3,p,0,0,(k:Nat),(L[j]:Nat)⟩ (BF (Ef S k) (Ef S L[j]) p).1).1,(D7 S ⟨3,p,0,0,(k:Nat),(L[j]:Nat)⟩ (BF (Ef S k) (Ef S L[j]) p).1).2),Fo n4,by rw[<-(j7 (s:=S) (p:=p) (L:=L) (j:=j) (k:=k) n4 (by grind) ch gt)];exact j2,a1,a2,fun r hr=>BY (j5 r hr) a3⟩ ?_;exact⟨Dl L.length j ch,Z6,Z6,Fh,A4 Wk⟩
  refine C1 (C2 (cb h7 (qM (Ef S k) p (F7 (hfw _ (AB (EF j4)))))) (cU [(9,vi k)] [(1000,.cells (srM roots C A S dec 1004 st.length)),(1001,.tok 6 S.infs.length),(1002,.tok 1 S.drv.length),(1003,.map Fw (Fy 0 S.infs)),(1004,.arr 1 (st.map Bc))] Z1 Z5 ?_))
  have eR:B9 p L (Bu s n).1 (Ea x p (Bu s n).2).2=(k,S):=by grind [UQ]
  have eL:DG x p n rs s=(k,S):=by grind [DG]
  exact C2 (.refl _) (Yi (show vi (k:Int)=vi (((DG x p n rs s).1:Nat):Int) by rw[eL]) (show Ai (Jv roots C A S dec st) Ac=Ai (Jv roots C A (DG x p n rs s).2 dec st) Ac by rw[eL]))
 have n4:=B5 h4;have hj:¬j<L.length:=by omega
 have eR:B9 p L (Bu s n).1 (Ea x p (Bu s n).2).2=(k,S):=by rw[<-j2,Bq ch];rfl
 have eL:DG x p n rs s=(k,S):=by grind [DG]
 exact C2 (.refl _) (Yi (show vi (k:Int)=vi (((DG x p n rs s).1:Nat):Int) by rw[eL]) (show Ai (Jv roots C A S dec st) Ac=Ai (Jv roots C A (DG x p n rs s).2 dec st) Ac by rw[eL]))
abbrev cV:Jk:=[(1000,1000),(1001,1001),(1002,1002),(1003,1003),(500,1004)]
abbrev srE:List (Nat×HO):=
 [(1000,.cells (srM roots C A s dec 2000 st.length)),(1001,.tok 6 s.infs.length),(1002,.tok 1 s.drv.length),(1003,.map Fw (Fy 0 s.infs)),(1004,.dead),(2000,.arr 1 (st.map Bc))]
abbrev cX(o:KY)(r:AV)(h' : Nat->HO):Prop:=r=.tup [vi (o.res:Nat),vb o.found]/\h'=Ai (srE roots C A o.ss o.dec o.stack) Ac
def H64:Prop:=∀(s:SS) (dec:List Cd) (st:List (List Sk)),dec.length<=1000->(∀c∈dec,c.rel.reqs.length<=1073741824) ->
 AP Tryz.prog 186 [.ref 1000 0] (Ai (Jv roots C A s dec st) Ac) fun r h'=>r=.tup [vs (D4 roots dec).1,sl Bj (D4 roots dec).2]/\h'=Ai (Jv roots C A s dec st) Ac
theorem Oa{roots:List Rq}{C A:List (Value×AV)}{o:KY}{b:Bool}{s:SS}{dec:List Cd}{st:List (List Sk)}(e:o=⟨k,b,s,dec,st⟩) :
  AV.tup [vi (k:Nat),vb b]=.tup [vi (o.res:Nat),vb o.found]/\Ai (srE roots C A s dec st) Ac=Ai (srE roots C A o.ss o.dec o.stack) Ac:=by simp_all
abbrev cR:Jk:=[(1000,1000),(1001,1001),(1002,1002),(1003,1003),(1004,1004),(1005,1005),(1006,1006),(1007,1007),(1008,1008),(1009,1009)]
def HD:CS×List Nd:=((Dw roots dec).take m).foldl (Ep dec) (mt,[])
theorem oO{roots:List Rq}{dec:List Cd}{m:Nat}(h:(Dw roots dec)[m]?=some n):HD roots dec (m+1)=Ep dec (HD roots dec m) n:=by
 grind [HD,List.take_add_one]
theorem sU{roots:List Rq}{dec:List Cd}{m:Nat}(h:(Dw roots dec).length<=m):HD roots dec m=D4 roots dec:=by
 grind [HD,D4,List.take_of_length_le]
def FK(j:Nat):Nat:=roots.length+((dec.take j).map fun c=>c.rel.reqs.length).sum
theorem Vk:(Qf c).length=c.rel.reqs.length:=M1 _ _ _
theorem ku:FK roots dec 0=roots.length:=by grind [FK]
theorem kr{roots:List Rq}{dec:List Cd}(h:j<dec.length):FK roots dec (j+1)=FK roots dec j+dec[j].rel.reqs.length:=by
 grind [FK,List.take_succ_eq_append_getElem]
theorem bP:FK roots dec dec.length=(Dw roots dec).length:=by
 grind [FK,Dw,cg,M1,List.map_congr_left,Vk]
theorem kg{roots:List Rq}{dec:List Cd}{i:Nat}(h:i<roots.length):(Dw roots dec)[i]?=some ⟨roots[i],mt,0,(i:Nat)⟩:=by
 grind [Dw,cg,List.getElem?_append_left,PZ]
theorem aE{α:Type}:∀{l:List (List α)} {j k:Nat} (hj:j<l.length),k<l[j].length->l.flatten[((l.take j).map List.length).sum+k]?=l[j][k]?
 |y::l,0,k,_,hk=>by
  grind
 |y::l,j+1,k,hj,hk=>by
  rw[Cz,List.take_succ_cons,BB,List.sum_cons,BR ch]
  have:=aE (l:=l) (j:=j) (k:=k) (by grind) hk
  grind
theorem oA{roots:List Rq}{dec:List Cd}(hj:j<dec.length)(hk:k<dec[j].rel.reqs.length):(Dw roots dec)[FK roots dec j+k]?=some ⟨dec[j].rel.reqs[k],dec[j].rel.path,dec[j].place,(k:Nat)⟩:=by
 unfold Dw cg FK;rw[BR (by grind [M1]),M1];have h:=aE (l:=dec.map Qf) (j:=j) (k:=k) (by simp_all) (by grind [Vk]);rw[<-Mr,Br,show(List.length ∘ Qf)=fun c=>c.rel.reqs.length from funext Vk]at h
 grind [Qf,PZ]
abbrev qK:List (Nat×HO):=
  [(1000,.cells (srC roots C A s dec st.length)),(1001,.tok 6 s.infs.length),(1002,.tok 1 s.drv.length),(1003,.map Fw (Fy 0 s.infs)),(1004,.arr 1 (st.map Bc)),
   (1005,.cells [.ref 1000 0]),(1006,.cells [vs (HD roots dec m).1]),(1007,.cells [.slice (.ver 1008 5 m) ((HD roots dec m).2.map Bj)]),(1008,.var 5 m ((HD roots dec m).2.map Bj).length),(1009,.cells [.ref 1000 0])]
noncomputable abbrev cxn(pl:Qz)(l:Nat)(Y:Gh->World->Prop):Cx:=⟨Tryz.prog,tG,pl,true,0,fun l' σ' g w=>l'=l->σ'=cR->Y g w⟩
theorem I6.pre{P:Program}{Y':Gh->World->Prop}{l:Nat}{args:List AV}{h0:Nat->HO}{Q:AV->(Nat->HO)->Prop}(h:I6 P Y l args h0 Q)(hp:∀g w,Y' g w->Y g w):I6 P Y' l args h0 Q:=
 fun g w vals q1 q2 q3 q4=>h g w vals q1 q2 q3 (hp g w q4)
theorem AgE:AP Tryz.prog 253 [.ref 1000 0] (Ai (Jv roots C A s dec st) Ac) fun r h'=>r=.clo 301 [.ref 2000 0]/\h'=Ai (Jv roots C A s dec st++[(2000,.cells [.ref 1000 0])]) Ac:=by
 refine BO (LB C3) [(1000,1000),(1001,1001),(1002,1002),(1003,1003),(1004,1004),(1,2000)] rfl Ck hm rfl func253 Wk rfl (Nz rfl) Wk rfl ?_;exact C2 (.refl _) Zr
theorem AgI(l:Nat)(roots:List Rq)(C A:List (Value×AV))(s:SS)(dec:List Cd)(st:List (List Sk))(hr:roots.length<=1073741824)(hd:dec.length<=1073741824)(uG:∀c∈dec,c.rel.reqs.length<=1073741824)(hy:∀m n,(Dw roots dec)[m]?=some n->I6 Tryz.prog Y l [.agg (Bj n)] (Ai (qK roots C A s dec st m) Ac) fun r h'=>r=vb true/\h'=Ai (qK roots C A s dec st (m+1)) Ac) :
  ZK Tryz.prog Y cR 301 [.v (.func (.yield l) #[] #[]),.ref 1005 0] (Ai (qK roots C A s dec st 0) Ac) fun _ h'=>h'=Ai (qK roots C A s dec st (Dw roots dec).length) Ac:=by
 refine nP (l:=l) (cxn C3 l Y) cR rfl Ck hm rfl func301 Wk rfl (Nz rfl) Wk rfl rfl (Xi {i:Nat // i<=roots.length} (Xi (fun q=>⟨[(0,.v (.func (.yield l) #[] #[])),(1,.ref 1005 0),(12,sl As roots),(13,vi (roots.map As).length),(14,vi q.1)],[(1000,.cells (srM roots C A s dec 1004 st.length)),(1001,.tok 6 s.infs.length),(1002,.tok 1 s.drv.length),(1003,.map Fw (Fy 0 s.infs)),(1004,.arr 1 (st.map Bc)),(1005,.cells [.ref 1000 0]),(1006,.cells [vs (HD roots dec q.1).1]),(1007,.cells [.slice (.ver 1008 5 q.1) ((HD roots dec q.1).2.map Bj)]),(1008,.var 5 q.1 ((HD roots dec q.1).2.map Bj).length),(1009,.cells [.ref 1000 0])],Ac⟩) (Xi (fun q=>roots.length-q.1) (Yi (Xi ⟨0,Al _⟩ ?_) ?_))))
 .exact⟨Z5,Z10,Fh,A4 Wk⟩
 intro⟨i,i1⟩;refine Yi (fun h1=>?_) (fun h1=>?_)
 .have h1:(i:Int)<((roots.map As).length:Int):=h1;have n1:=DK h1;refine Xi (As roots[i]) (Yi (FJ n1) (Yi rfl (yN (yN (yN (Xi (.gen cR 0) (Yi rfl (I6.imp (I6.pre (hy i ⟨roots[i],mt,0,(i:Nat)⟩ (kg n1)) (fun g w q=>q rfl rfl)) ?_))))))));intro v2 g2 q2;have q2a:=q2.1;have q2b:=q2.2;subst q2a;subst q2b;refine Yi (by grind [Av]) (Xi ⟨i+1,by omega⟩ ?_);exact⟨by grind,Z5,Z10,Fh,A4 Wk⟩
 have h1:¬((i:Int)<((roots.map As).length:Int)):=h1;have n1:=B5 h1;have hE:i=FK roots dec 0:=by grind [ku]
 refine Xi {j:Nat // j<=dec.length} (Xi (fun q=>⟨[(0,.v (.func (.yield l) #[] #[])),(29,sl AJ dec),(30,vi (dec.map AJ).length),(31,vi q.1)],[(1000,.cells (srM roots C A s dec 1004 st.length)),(1001,.tok 6 s.infs.length),(1002,.tok 1 s.drv.length),(1003,.map Fw (Fy 0 s.infs)),(1004,.arr 1 (st.map Bc)),(1005,.cells [.ref 1000 0]),(1006,.cells [vs (HD roots dec (FK roots dec q.1)).1]),(1007,.cells [.slice (.ver 1008 5 (FK roots dec q.1)) ((HD roots dec (FK roots dec q.1)).2.map Bj)]),(1008,.var 5 (FK roots dec q.1) ((HD roots dec (FK roots dec q.1)).2.map Bj).length),(1009,.cells [.ref 1000 0])],Ac⟩) (Xi (fun q=>dec.length-q.1) (Yi (Xi ⟨0,Al _⟩ ?_) ?_)))
 .exact⟨Z4,⟨Zr,Zr,Zr,Zr,Zr,Zr,⟨(show .cells [vs (HD roots dec i).1]=(.cells [vs (HD roots dec (FK roots dec 0)).1]:HO) by rw[hE]),rfl⟩,⟨(show .cells [.slice (.ver 1008 5 i) ((HD roots dec i).2.map Bj)]=(.cells [.slice (.ver 1008 5 (FK roots dec 0)) ((HD roots dec (FK roots dec 0)).2.map Bj)]:HO) by rw[hE]),rfl⟩,⟨(show .var 5 i ((HD roots dec i).2.map Bj).length=(.var 5 (FK roots dec 0) ((HD roots dec (FK roots dec 0)).2.map Bj).length:HO) by rw[hE]),rfl⟩,Zr,Tv⟩,Fh,A4 Wk⟩
 intro⟨j,j1⟩;refine Yi (fun h4=>?_) (fun h4=>?_)
 .have h4:(j:Int)<((dec.map AJ).length:Int):=h4;have n4:=DK h4;have hdj:=uG dec[j] (Ae n4);refine Xi (AJ dec[j]) (Yi (FJ n4) (Yi rfl (yN (yN (Xi {k:Nat // k<=dec[j].rel.reqs.length} (Xi (fun q=>⟨[(0,.v (.func (.yield l) #[] #[])),(6,.ref 6 0),(29,sl AJ dec),(30,vi (dec.map AJ).length),(31,vi j),(37,sl As dec[j].rel.reqs),(38,vi (dec[j].rel.reqs.map As).length),(39,vi q.1)],[(6,.cells (AJ dec[j])),(1000,.cells (srM roots C A s dec 1004 st.length)),(1001,.tok 6 s.infs.length),(1002,.tok 1 s.drv.length),(1003,.map Fw (Fy 0 s.infs)),(1004,.arr 1 (st.map Bc)),(1005,.cells [.ref 1000 0]),(1006,.cells [vs (HD roots dec (FK roots dec j+q.1)).1]),(1007,.cells [.slice (.ver 1008 5 (FK roots dec j+q.1)) ((HD roots dec (FK roots dec j+q.1)).2.map Bj)]),(1008,.var 5 (FK roots dec j+q.1) ((HD roots dec (FK roots dec j+q.1)).2.map Bj).length),(1009,.cells [.ref 1000 0])],Ac⟩) (Xi (fun q=>dec[j].rel.reqs.length-q.1) (Yi (Xi ⟨0,Al _⟩ ?_) ?_))))))))
  .exact⟨Z8,Z11,Fh,A4 Wk⟩
  intro⟨k,k1⟩;have k1:k<=dec[j].rel.reqs.length:=k1;refine Yi (fun h5=>?_) (fun h5=>?_)
  .have h5:(k:Int)<((dec[j].rel.reqs.map As).length:Int):=h5;have n5:=DK h5;refine Xi (As dec[j].rel.reqs[k]) (Yi (FJ n5) (Yi rfl (yN (yN (yN (Xi (.gen cR 0) (Yi rfl (I6.imp (I6.pre (hy (FK roots dec j+k) ⟨dec[j].rel.reqs[k],dec[j].rel.path,dec[j].place,(k:Nat)⟩ (oA n4 n5)) (fun g w q=>q rfl rfl)) ?_))))))));intro v6 g6 q6;have q6a:=q6.1;have q6b:=q6.2;subst q6a;subst q6b;refine Yi (by grind [Av]) (Xi ⟨k+1,by omega⟩ ?_);exact⟨by grind,Z8,Z11,Fh,A4 Wk⟩
  have h5:¬((k:Int)<((dec[j].rel.reqs.map As).length:Int)):=h5;have n5:=B5 h5;refine Yi (by grind [Av]) ?_;have hE:FK roots dec j+k=FK roots dec (j+1):=by grind [kr]
  refine Xi ⟨j+1,by omega⟩ ?_;exact⟨by grind,Z4,⟨Zr,Zr,Zr,Zr,Zr,Zr,⟨(show .cells [vs (HD roots dec (FK roots dec j+k)).1]=(.cells [vs (HD roots dec (FK roots dec (j+1))).1]:HO) by rw[hE]),rfl⟩,⟨(show .cells [.slice (.ver 1008 5 (FK roots dec j+k)) ((HD roots dec (FK roots dec j+k)).2.map Bj)]=(.cells [.slice (.ver 1008 5 (FK roots dec (j+1))) ((HD roots dec (FK roots dec (j+1))).2.map Bj)]:HO) by rw[hE]),rfl⟩,⟨(show .var 5 (FK roots dec j+k) ((HD roots dec (FK roots dec j+k)).2.map Bj).length=(.var 5 (FK roots dec (j+1)) ((HD roots dec (FK roots dec (j+1))).2.map Bj).length:HO) by rw[hE]),rfl⟩,Zr,Tv⟩,Fh,A4 Wk⟩
 have h4:¬((j:Int)<((dec.map AJ).length:Int)):=h4;have n4:=B5 h4;exact Aa (fun m=>Ai (qK roots C A s dec st m) Ac) (show FK roots dec j=(Dw roots dec).length by grind [bP])
end Go.Eng
