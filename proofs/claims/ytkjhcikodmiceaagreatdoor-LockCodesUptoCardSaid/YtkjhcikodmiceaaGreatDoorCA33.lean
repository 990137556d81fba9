/- Lemmas 33. -/
import Derived.Test.YtkjhcikodmiceaaGreatDoorCA32
import Derived.Shelf.Strings.Repeat
import Derived.Shelf.Pu.Clone
import Derived.Ground.NamesProg
import Derived.Ground.MpProg
set_option maxHeartbeats 4000000
namespace Go.Eng
open Go.Proofs Go.Shelf Go.RowKit Go.Lib Go.Sort
abbrev Av2:=List AV
abbrev Av3:=List Int
variable (ss:List CS)(zs:List (List UInt8))(s:CS)
abbrev jU:List UInt8:=s.data.toList
abbrev vf(l:List UInt8):CS:=⟨l.toArray⟩
theorem vR:vf (jU s)=s:=by cases s;simp
theorem NS:((zs.map vf).map Ci).flatten=(zs.map encStr).map AV.v:=by
 induction zs with
 |nil=>rfl
 |cons z zs ih=>rw[A7,A7,BQ,ih];rfl
theorem ZO:(ss.map jU).map vf=ss:=by
 rw[Bo,show vf ∘ jU=id from funext vR,Kc]
theorem AkW(t:List CS)(hl:CC ss)(Ec:ss≠[])(hp:t.Perm ss)(ht:(t.map jU).Pairwise fun a b=>a<=b) :
  A1 Tryz.prog 77 [.msl 1000 ss.length] (Ah [(1000,.arr 1 (ss.map Ci))] Ab) fun r h'=>r=.tup []/\h'=Ah [(1000,.arr 1 (t.map Ci))] Ab:=by
 have hE:Fx Tryz.prog 77:=j9 77 Tryz.func77 aa5 rfl;obtain⟨zs,hz⟩:∃zs,zs=ss.map jU:=⟨_,rfl⟩;have EC:ss=zs.map vf:=by rw[hz,ZO]
 have Jc:=Rz (P:=Tryz.prog) (f:=77) (es:=ss.map Ci) (sz:=1) (rest:=[]) (Q:=fun FG=>FG=t.map Ci) hE ?_ ?_
 .rw[Lm]at Jc;refine⟨hE,fun g w vals q1 q2 q3=>(Jc.2 g w vals q1 q2 q3).mono fun _ _ ⟨v,r,h',g',e1,⟨e2,FG,p1,p3⟩,rest⟩=>⟨v,r,h',g',e1,⟨e2,by rw[p3,p1]⟩,rest⟩⟩
 .intro e;exact absurd (DR.1 e) Ec
 .intro g w b cap F hr hF hH hb;have hFl:F.toList=zs.map encStr:=Ma (by rw[<-NS,<-EC];exact hr);have zy:F=zs.toArray.map encStr:=Mt.1 (by rw[hFl];simp);have kO:zs.length=ss.length:=by rw[hz,Lm]
  have hH2:Holds encStr w b 0 zs.toArray:=fun j hj=>by
   have:=hH j (by rw[zy];simpa using hj)
   refine⟨this.1.trans ?_,this.2⟩;rw[zy,Pc _ j (by simpa using hj),Pc _ j hj];simp
  have hc:=Any.slices_Sort_string Tryz.laySortStr b 0 cap zs w hH2 hb I;have htz:(zs.mergeSort fun x y=>decide (x<=y))=t.map jU:=by
   have Jd:(zs.mergeSort fun x y=>decide (x<=y)).Perm zs:=List.mergeSort_perm _ _;have Afx:=List.pairwise_mergeSort (le:=fun x y:List UInt8=>decide (x<=y)) (fun a b c h1 h2=>by simp only[AP]at *;exact List.le_trans h1 h2) (fun a b=>by simp only[JW,AP];exact List.le_total a b) zs;refine List.Perm.eq_of_pairwise (le:=fun a b=>a<=b) (fun a b _ _ h k=>List.le_antisymm h k) (Afx.imp fun h=>B7 h) ht (Jd.trans ?_);rw[hz];exact(hp.map jU).symm
  rw[htz,kO]at hc;rw[Lm];refine hc.mono ?_
  rintro e w' ⟨rfl,n,os,rfl⟩
  have CL:t.length=ss.length:=hp.length_eq;refine⟨rfl,(t.map jU).toArray.map encStr,t.map Ci,n,os,?_,rfl,by simp[CL],fun cs hcs=>?_,fun g w _=>?_,by rw[Sx]⟩
  .rw[zy];simp[CL,kO]
  .obtain⟨x,_,rfl⟩:=Ap.1 hcs;rfl
  .have e1:t.map Ci=((t.map jU).map vf).map Ci:=by rw[ZO]
   rw[e1,NS];have e:(((t.map jU).toArray.map encStr).toList)=(t.map jU).map encStr:=aa1
   rw[e];exact N6 _ _ _ _ fun x hx=>by
    obtain⟨z,_,rfl⟩:=Ap.1 hx;rfl
def BU:List CS:=(Lib.compact (ss.map jU)).map vf
theorem Tt:(Lib.compact zs).length<=zs.length:=by
 unfold Lib.compact Lib.compactUpTo;rw[Lm];exact Az (CW _ _) (by rw[Te];exact Af _)
theorem AkX(hl:CC ss)(Ec:ss≠[]) :
  A1 Tryz.prog 79 [.msl 1000 ss.length] (Ah [(1000,.arr 1 (ss.map Ci))] Ab) fun r h'=>r=.msl 2000 (BU ss).length/\h'=Ah [(1000,.dead),(2000,.arr 1 ((BU ss).map Ci))] Ab:=by
 have hE:Fx Tryz.prog 79:=j9 79 Tryz.func79 aa5 rfl;obtain⟨zs,hz⟩:∃zs,zs=ss.map jU:=⟨_,rfl⟩;have EC:ss=zs.map vf:=by rw[hz,ZO]
 have kO:zs.length=ss.length:=by rw[hz,Lm]
 have hcl:=Tt zs;have Jc:=XP (P:=Tryz.prog) (f:=79) (es:=ss.map Ci) (sz:=1) (rest:=[]) (n':=(Lib.compact zs).length) (Q:=fun FG=>FG=((Lib.compact zs++List.replicate (zs.length-(Lib.compact zs).length) []).map vf).map Ci) hE (fun e=>Ec (DR.1 e)) (by rw[Lm];omega) ?_
 .rw[Lm]at Jc;have ez:BU ss=(Lib.compact zs).map vf:=by unfold BU;rw[hz]
  refine⟨hE,fun g w vals q1 q2 q3=>(Jc.2 g w vals q1 q2 q3).mono fun _ _ ⟨x,r,h',g',e1,⟨e2,FG,p1,p2⟩,rest⟩=>⟨x,r,h',g',e1,⟨by rw[e2,ez,Lm],by
   rw[p2,p1,ez,Au,Au,MM (by rw[Lm,Lm];exact Af _),AD (by rw[Lm,Lm];exact Af _)]⟩,rest⟩⟩
 .intro g w b cap F hr hF hH hb hc;rw[Lm]at hF hc⊢;have hFl:F.toList=zs.map encStr:=Ma (by rw[<-NS,<-EC];exact hr);have zy:F=zs.toArray.map encStr:=Mt.1 (by rw[hFl];simp);have hH2:Holds encStr w b 0 zs.toArray:=fun j hj=>by
   have:=hH j (by rw[zy];simpa using hj)
   refine⟨this.1.trans ?_,this.2⟩;rw[zy,Pc _ j (by simpa using hj),Pc _ j hj];simp
  have hcon:=Any.slices_Compact_string Tryz.layCompactStr b 0 cap zs w hH2 I I;rw[kO]at hcon;refine hcon.mono ?_
  rintro e w' ⟨rfl,q,rfl⟩
  refine⟨rfl,(Lib.compact zs++List.replicate (zs.length-(Lib.compact zs).length) []).toArray.map encStr,_,q,#[],?_,rfl,?_,fun cs hcs=>?_,fun g w _=>?_,?_⟩
  .rw[zy];simp;omega
  .simp;omega
  .obtain⟨x,_,rfl⟩:=Ap.1 hcs;rfl
  .rw[NS];have e:((Lib.compact zs++List.replicate (zs.length-(Lib.compact zs).length) []).toArray.map encStr).toList=(Lib.compact zs++List.replicate (zs.length-(Lib.compact zs).length) []).map encStr:=aa1
   rw[e];exact N6 _ _ _ _ fun x hx=>by
    obtain⟨z,_,rfl⟩:=Ap.1 hx;rfl
  .rw[Sx,grow_empty,kO]
end Go.Eng
namespace Go.Eng
open Go.Proofs Go.Proofs.Tryz
variable {i:Nat}(l:List Sl)(p:CS)(m:List Sl)
structure Mv where
 path:CS
 a:Int
 b:Int
abbrev Gc(m:Mv):Av2:=[vs m.path,G m.a,G m.b]
abbrev plP(s:Sl):Value×AV:=(.string s.path,G (place s.ver))
abbrev KJ:List (Value×AV):=l.map plP
def TZ:Int:=match Bw l p with | some s=>place s.ver | none=>-1
def aR(p:CS):Option Mv:=if TZ l p≠TZ m p then some ⟨p,TZ l p,TZ m p⟩else none
abbrev Nk(ps:List CS):List Mv:=ps.filterMap (aR l m)
structure On(l:List Sl):Prop where
 few:CC l
 val:∀s∈l,Cf s.ver=true
 inc:l.Pairwise ltP
theorem On.step{l:List Sl}(h:On l)(hi:i<l.length)(h0:0<i):E3 (l[i-1]' I).path l[i].path=true:=(Cn.1 h.inc) (i-1) i I hi I
theorem tx{l:List Sl}(h:On l)(hi:i<l.length):∀b,(Value.string l[i].path,b)∉KJ (l.take i):=fun b hb=>by
 obtain⟨s,hs,e⟩:=Ap.1 hb;obtain⟨j,hj,rfl⟩:=Fc.1 hs;rw[List.getElem_take]at e;rw[Bf]at hj;have q:=(Cn.1 h.inc) j i I hi I;have e2:l[j].path=l[i].path:=by injection e with e1;injection e1
 rw[ltP,e2,CY]at q;cases q
theorem Ack{l:List Sl}(h:On l){p:CS}{a:AV}(ha:(Value.string p,a)∈KJ l):a=G (TZ l p):=by
 obtain⟨s,hs,e⟩:=Ap.1 ha;have e1:s.path=p:=by injection e with e1;injection e1
 have e2:G (place s.ver)=a:=by injection e
 rw[<-e2];unfold TZ;rw[<-e1,O0 (nX ocP h.inc) hs]
theorem Acl{l:List Sl}{p:CS}(h:∀a,(Value.string p,a)∉KJ l):TZ l p=-1:=by
 unfold TZ;rw[show Bw l p=none from PN.2 fun s hs e=>h _ (Ap.2 ⟨s,hs,by rw[<-B7 e]⟩)]
theorem lj{l m:List Sl}{ps:List CS}{k:Nat}(h:k<ps.length):Nk l m (ps.take (k+1))=Nk l m (ps.take k)++(aR l m ps[k]).toList:=by
 unfold Nk;rw[Oa h,List.filterMap_append]
 congr 1
theorem AfX(hl:On l):A1 prog 75 [sl Ar l] (Ah [] Ab) fun r h'=>r=.tup [.mref 2000,Q true]/\h'=Ah [(2000,.map CU (KJ l))] Ab:=by
 have hfl:l.length<=2^30:=hl.few;refine Bv (Ky CF) [(9,2000)] rfl BO hm rfl func75 aa5 rfl C4 aa5 rfl (M {q:Nat // q<=l.length} (M (fun q=>⟨[(0,sl Ar l),(4,.mref 9),(10,sl Ar l),(11,G (l.map Ar).length),(12,G q.1)],[(9,.map CU (KJ (l.take q.1)))],Ab⟩) (M (fun q=>l.length-q.1) (J (M ⟨0,Ai _⟩ ?_) ?_))))
 .exact⟨Z5,Z1,Fh,AX aa5⟩
 intro⟨i,i1⟩;refine J (fun h1=>?_) (fun h1=>?_)
 .have n1:i<l.length:=Gj h1;refine M (Ar l[i]) (J (IM n1) (J rfl (U (U (U (C1 (H (by have q:=c56 l[i].ver;rw[AO (hl.val _ (Am n1)),AO (hl.val _ (Am n1))]at q;exact q) ?_)))))));refine J (fun h=>absurd h aa3) (fun _=>?_);refine J (fun h2=>?_) (fun h2=>?_)
  .have h2:(0:Int)<(i:Int):=h2;refine J (by show As ((i:Int)-(1:Int));unfold As;omega) ?_;have hi0:0<i:=I
   refine M (Ar (l[i-1])) (J (J (show(0:Int)<=(i:Int)-1 by omega) (by rw[show((i:Int)-1).toNat=i-1 by omega];exact FB (Ge I))) (J rfl ?_));refine J (fun h3=>?_) (fun h3=>?_)
   .have h3:E3 (l[i-1]).path l[i].path=false:=(Fy _ _).trans h3;exact absurd (hl.step n1 hi0) (by rw[h3];decide)
   refine J aa5 (J (Ii i I) (M ⟨i+1,n1⟩ ?_));exact⟨Dl l.length i I,Z5,⟨⟨(show HO.map CU (EN (KJ (l.take i)) (.string l[i].path) (G (place l[i].ver)))=.map CU (KJ (l.take (i+1))) by rw[Lb (tx hl n1),Oa n1];unfold KJ;rw[Au];rfl),rfl⟩,X⟩,Fh,AX aa5⟩
  refine J aa5 (J (Ii i I) (M ⟨i+1,n1⟩ ?_));exact⟨Dl l.length i I,Z5,⟨⟨(show HO.map CU (EN (KJ (l.take i)) (.string l[i].path) (G (place l[i].ver)))=.map CU (KJ (l.take (i+1))) by rw[Lb (tx hl n1),Oa n1];unfold KJ;rw[Au];rfl),rfl⟩,X⟩,Fh,AX aa5⟩
 have h1:¬((i:Int)<((l.map Ar).length:Int)):=h1;have n1:=D6 h1;have ei:l.take i=l:=AD (by have q:=h1;rw[Lm]at q;omega);exact H (.refl _) ⟨rfl,show Ah [(2000,HO.map CU (KJ (l.take i)))] Ab=Ah [(2000,.map CU (KJ l))] Ab by rw[ei]⟩
theorem AfY(hl:On l):PC 78 [.cmap CU (KJ l),vs p] (G (TZ l p)):=by
 refine Ps CF func78 rfl C4 (J (fun a ha=>?_) (fun OB=>?_))
 .have ea:=Ack hl ha;subst ea;exact .refl _
 exact .of_eq (show G (-1)=G (TZ l p) by rw[Acl OB])
theorem o75(t:List CS)(hl:On l)(hm2:On m)(hfs:l.length+m.length<=2^30)(Ec:l++m≠[])(hp:t.Perm ((l++m).map (·.path)))(ht:(t.map jU).Pairwise fun a b=>a<=b):PC 34 [sl Ar l,sl Ar m] (.tup [sl Gc (Nk l m (BU t)),G 0]):=by
 obtain⟨LM,hLM⟩:∃LM,LM=l++m:=⟨_,rfl⟩;have hm:=hm2;rw[<-hLM]at hp;have hLl:LM.length=l.length+m.length:=by rw[hLM,Ac]
 refine Fb (jW ⟨[],[(14,3)],[(10,1)],[(34,[12000,12500])],[],[],[],[],[],[],[6,7,8,9,11,13,14,15,16,17,18,19,21]⟩) rfl BO Go.Eng.hm rfl func34 aa5 rfl C4 aa5 (M (.gen [] 1) (J rfl (A1.to2 (AfX l hl) ?_)));refine M (.gen [] 1) (J rfl (A1.to2 (AfX m hm) ?_));refine cU [(0,sl Ar l),(1,sl Ar m),(6,.mref 12000),(8,.mref 12500),(10,.msl 10 0)] [(10,.arr 1 []),(12000,.map CU (KJ l)),(12500,.map CU (KJ m))] Z5 Z3 (M (.gen [] 1) (J rfl (A1.to2 (AaS l hl.few) ?_)));have b4:=bT (sz:=4) (k:=40) (n:=(l.map Ar).length) (l:=(l.map Ar)) (ys:=(m.map Ar)) (DK (enc:=Ar) (n:=4) (fun _=>rfl) m) rfl (by simp only[Lm];omega);refine J b4 (M {q:Nat×List CS // q.1<=LM.length/\q.2=(LM.take q.1).map (·.path)} (M (fun q=>⟨[(6,.mref 12000),(8,.mref 12500),(10,.msl 10 q.1.2.length),(37,.slice (.id 13500 4) (LM.map Ar)),(38,G (LM.length:Nat)),(39,G q.1.1)],[(10,.arr 1 (q.1.2.map Ci)),(12000,.rom CU (KJ l)),(12500,.rom CU (KJ m)),(13500,.tok 4 LM.length)],Ab⟩) (M (fun q=>LM.length-q.1.1) (J (M ⟨(0,[]),Ai _,rfl⟩ ?_) ?_))))
 .exact⟨⟨Z,Z,Z,⟨(show AV.slice (.id 13500 4) (l.map Ar++m.map Ar)=.slice (.id 13500 4) (LM.map Ar) by rw[hLM,Au]),rfl⟩,⟨(show G ((l.map Ar++m.map Ar:C0).length:Int)=G ((LM.length:Nat):Int) by rw[hLM,Ac,Ac,Lm,Lm]),rfl⟩,Z,X⟩,⟨Z,Z,Z,⟨(show HO.tok 4 ((l.map Ar).length+(m.map Ar).length)=.tok 4 LM.length by rw[hLM,Ac,Lm,Lm]),rfl⟩,X⟩,Fh,X⟩
 intro⟨⟨i,P⟩,i1,i2⟩;have i2:P=(LM.take i).map (·.path):=i2;have i3:P.length<=i:=by rw[i2,Lm,Bf];omega
 refine cU [(6,.mref 12000),(8,.mref 12500),(10,.msl 10 P.length),(37,.slice (.id 13500 4) (LM.map Ar)),(38,G (LM.length:Nat)),(39,G i)] [(10,.arr 1 (P.map Ci)),(12000,.rom CU (KJ l)),(12500,.rom CU (KJ m)),(13500,.tok 4 LM.length)] Z6 Z4 (J (fun h5=>?_) (fun h5=>?_))
 .have n5:i<LM.length:=I
  refine cU [(6,.mref 12000),(8,.mref 12500),(10,.msl 10 P.length),(37,.slice (.id 13500 4) (LM.map Ar)),(38,G (LM.length:Nat)),(39,G i)] [(10,.arr 1 (P.map Ci)),(12000,.rom CU (KJ l)),(12500,.rom CU (KJ m)),(13500,.tok 4 LM.length)] Z6 Z4 (M (Ar LM[i]) (J (IM n5) (J rfl (U (U (cU [(6,.mref 12000),(8,.mref 12500),(10,.msl 10 P.length),(12,.ref 12 0),(37,.slice (.id 13500 4) (LM.map Ar)),(38,G (LM.length:Nat)),(39,G i)] [(10,.arr 1 (P.map Ci)),(12,.cells (Ar LM[i])),(12000,.rom CU (KJ l)),(12500,.rom CU (KJ m)),(13500,.tok 4 LM.length)] Z7 Z5 ?_))))))
  have b6:=bT (sz:=1) (k:=16) (n:=P.length) (l:=(P.map Ci)) (ys:=[[vs LM[i].path]]) ⟨rfl,trivial⟩ (by rw[Lm]) (by simp only[Lm,AK,A4];omega);refine J b6 (J (Ii i I) (M ⟨(i+1,P++[LM[i].path]),n5,by show P++[LM[i].path]=_;rw[Oa n5,Au,i2];rfl⟩ ?_));exact⟨Dl LM.length i I,⟨Z,Z,⟨(show AV.msl 10 ((P.map Ci).length+([[vs LM[i].path]]:C0).length)=.msl 10 (P++[LM[i].path]).length by rw[Ac,Lm];rfl),rfl⟩,Z,Z,Z,X⟩,⟨⟨(show HO.arr 1 (P.map Ci++[[vs LM[i].path]])=.arr 1 ((P++[LM[i].path]).map Ci) by rw[Au];rfl),rfl⟩,Z,Z,Z,X⟩,Fh,X⟩
 have hPe:P=LM.map (·.path):=by rw[i2,AD (by have q:=h5;omega)]
 have hPf:CC P:=by unfold CC;rw[hPe,Lm,hLM,Ac];exact hfs
 have hPn:P≠[]:=fun e=>by rw[hPe]at e;exact Ec (by rw[<-hLM];exact DR.1 e)
 have hPt:t.length=P.length:=by rw[hPe];exact hp.length_eq
 have htl:t.length<=2^30:=by rw[hPt];exact hPf
 have htn:t≠[]:=fun e=>hPn (AI (by rw[<-hPt,e];rfl));have hcl:(BU t).length<=t.length:=by unfold BU;rw[Lm];exact Az (Tt _) (by rw[Lm];exact Af _)
 refine cU [(6,.mref 12000),(8,.mref 12500),(10,.msl 10 P.length)] [(10,.arr 1 (P.map Ci)),(12000,.rom CU (KJ l)),(12500,.rom CU (KJ m))] Z3 Z3 (M (.gen [(10,1000)] 0) (J rfl (A1.to2 (AkW P t hPf hPn (by rw[hPe];exact hp) ht) ?_)));refine cU [(6,.mref 12000),(8,.mref 12500),(10,.msl 10 P.length),(13,.v (.func (.func 78) #[] #[]))] [(10,.arr 1 (t.map Ci)),(12000,.rom CU (KJ l)),(12500,.rom CU (KJ m))] Z4 Z3 (cU [(6,.mref 12000),(8,.mref 12500),(10,.msl 10 t.length),(13,.v (.func (.func 78) #[] #[])),(14,.slice (.id 14 3) [])] [(10,.arr 1 (t.map Ci)),(14,.tok 3 0),(12000,.rom CU (KJ l)),(12500,.rom CU (KJ m))] ⟨Z,Z,⟨(Aa (AV.msl 10) hPt.symm),rfl⟩,Z,Z,X⟩ Z4 (M (.gen [(10,1000)] 1) (J rfl (A1.to2 (AkX t (by unfold CC;omega) htn) ?_))));refine M {q:Nat×List Mv // q.1<=(BU t).length/\q.2=Nk l m ((BU t).take q.1)} (M (fun q=>⟨[(6,.mref 12000),(8,.mref 12500),(13,.v (.func (.func 78) #[] #[])),(14,.slice (.id 14 3) (q.1.2.map Gc)),(52,.msl 15200 (BU t).length),(53,G (BU t).length),(54,G q.1.1)],[(14,.tok 3 q.1.2.length),(12000,.rom CU (KJ l)),(12500,.rom CU (KJ m)),(15200,.arr 1 ((BU t).map Ci))],Ab⟩) (M (fun q=>(BU t).length-q.1.1) (J (M ⟨(0,[]),Ai _,rfl⟩ ?_) ?_)))
 .exact⟨Z7,Z4,Fh,X⟩
 intro⟨⟨k,O⟩,k1,k2⟩;have k2:O=Nk l m ((BU t).take k):=k2;have k3:O.length<=k:=by rw[k2];exact Az (List.length_filterMap_le ..) (by rw[Bf];omega)
 refine cU [(6,.mref 12000),(8,.mref 12500),(13,.v (.func (.func 78) #[] #[])),(14,.slice (.id 14 3) (O.map Gc)),(52,.msl 15200 (BU t).length),(53,G (BU t).length),(54,G k)] [(14,.tok 3 O.length),(12000,.rom CU (KJ l)),(12500,.rom CU (KJ m)),(15200,.arr 1 ((BU t).map Ci))] Z7 Z4 (J (fun KH=>?_) (fun KH=>?_))
 .have nb:k<(BU t).length:=I
  have n10:=nb;have gb:(BU t)[k]?=some (BU t)[k]:=Ge nb;refine cU [(6,.mref 12000),(8,.mref 12500),(13,.v (.func (.func 78) #[] #[])),(14,.slice (.id 14 3) (O.map Gc)),(52,.msl 15200 (BU t).length),(53,G (BU t).length),(54,G k)] [(14,.tok 3 O.length),(12000,.rom CU (KJ l)),(12500,.rom CU (KJ m)),(15200,.arr 1 ((BU t).map Ci))] Z7 Z4 (J (by show(0:Int)<=k/\(k:Int)<((BU t).length:Nat);omega) (J (show(BU t).length=((BU t).map Ci).length by rw[Lm]) (M (Ci ((BU t)[k])) (J (FB gb) (cU [(6,.mref 12000),(8,.mref 12500),(13,.v (.func (.func 78) #[] #[])),(14,.slice (.id 14 3) (O.map Gc)),(16,vs ((BU t)[k])),(52,.msl 15200 (BU t).length),(53,G (BU t).length),(54,G k)] [(14,.tok 3 O.length),(12000,.rom CU (KJ l)),(12500,.rom CU (KJ m)),(15200,.arr 1 ((BU t).map Ci))] Z8 Z4 (C1 (H (AfY l (BU t)[k] hl) (C1 (H (AfY m (BU t)[k] hm) (U (cU [(6,.mref 12000),(8,.mref 12500),(13,.v (.func (.func 78) #[] #[])),(14,.slice (.id 14 3) (O.map Gc)),(17,.ref 17 0),(52,.msl 15200 (BU t).length),(53,G (BU t).length),(54,G k)] [(14,.tok 3 O.length),(17,.cells [vs ((BU t)[k]),G (TZ l (BU t)[k]),G (TZ m (BU t)[k])]),(12000,.rom CU (KJ l)),(12500,.rom CU (KJ m)),(15200,.arr 1 ((BU t).map Ci))] Z8 Z5 (J (fun H1=>?_) (fun H1=>?_)))))))))))))
  .refine cU [(6,.mref 12000),(8,.mref 12500),(13,.v (.func (.func 78) #[] #[])),(14,.slice (.id 14 3) (O.map Gc)),(17,.ref 17 0),(52,.msl 15200 (BU t).length),(53,G (BU t).length),(54,G k)] [(14,.tok 3 O.length),(17,.cells [vs ((BU t)[k]),G (TZ l (BU t)[k]),G (TZ m (BU t)[k])]),(12000,.rom CU (KJ l)),(12500,.rom CU (KJ m)),(15200,.arr 1 ((BU t).map Ci))] Z8 Z5 (U (J (cp rfl I aa3) (J (Ii k I) ?_)));have eO:=lj (l:=l) (m:=m) n10;have eM:aR l m (BU t)[k]=some ⟨(BU t)[k],(TZ l (BU t)[k]),(TZ m (BU t)[k])⟩:=AO H1;rw[eM]at eO;refine M ⟨(k+1,(O++[(⟨(BU t)[k],(TZ l (BU t)[k]),(TZ m (BU t)[k])⟩:Mv)])),n10,by show(O++[(⟨(BU t)[k],(TZ l (BU t)[k]),(TZ m (BU t)[k])⟩:Mv)])=_;rw[eO,k2];rfl⟩ ?_;exact⟨by show(BU t).length-(k+1)<(BU t).length-k;omega,⟨Z,Z,Z,⟨(show AV.slice (.id 14 3) (O.map Gc++[[vs (BU t)[k],G (TZ l (BU t)[k]),G (TZ m (BU t)[k])]])=.slice (.id 14 3) ((O++[(⟨(BU t)[k],(TZ l (BU t)[k]),(TZ m (BU t)[k])⟩:Mv)]).map Gc) by rw[Au];rfl),rfl⟩,Z,Z,Z,X⟩,⟨⟨hkA,rfl⟩,Z,Z,Z,X⟩,Fh,X⟩
  have H1:((TZ l (BU t)[k]):Int)=((TZ m (BU t)[k]):Int):=AH H1;refine J (Ii k I) ?_;have eO:=lj (l:=l) (m:=m) n10;have eM:aR l m (BU t)[k]=none:=AB (fun c=>c H1);rw[eM]at eO;rw[show(none:Option Mv).toList=[]from rfl,B9]at eO;refine M ⟨(k+1,O),n10,by show O=_;rw[eO,k2]⟩ ?_;exact⟨by show(BU t).length-(k+1)<(BU t).length-k;omega,Z7,Z4,Fh,X⟩
 refine cU [(14,.slice (.id 14 3) (O.map Gc))] [(14,.tok 3 O.length)] Z1 Z1 ?_
 have ek:(BU t).take k=BU t:=AD I;have eO:O=Nk l m (BU t):=by rw[k2,ek]
 exact C (fun z=>AV.tup [sl Gc z,G 0]) eO
instance:DecidableEq Mv:=fun x y=>decidable_of_iff (x.path=y.path/\x.a=y.a/\x.b=y.b) ⟨fun⟨h1,h2,h3⟩=>by cases x;cases y;simp_all,fun h=>by subst h;exact⟨rfl,rfl,rfl⟩⟩
theorem AfQ{a b:Mv}(h:a.path=b.path/\a.a=b.a/\a.b=b.b/\True):a=b:=by cases a;cases b;simp_all
theorem AfR{a b:Mv}(h:¬(a.path=b.path/\a.a=b.a/\a.b=b.b/\True)):a≠b:=fun e=>h (by subst e;exact⟨rfl,rfl,rfl,trivial⟩)
theorem o35(a b:List Mv)(ha:CC a):PC 35 [sl Gc a,sl Gc b] (Q (decide (a=b))):=by
 have hal:a.length<=2^30:=ha;refine Ps CF func35 rfl C4 (J (fun h1=>?_) (fun h1=>?_))
 .exact .of_eq (show Q false=Q (decide (a=b)) by rw[Al (fun e=>absurd (Aa (fun z=>((z.map Gc).length:Int)) e) h1)])
 have h1:((a.map Gc).length:Int)=((b.map Gc).length:Int):=AH h1;have hl:a.length=b.length:=by have q:=h1;rw[Lm,Lm]at q;omega
 refine M {q:Nat // q<=a.length/\∀j (hj:j<a.length),j<q->a[j]=b[j]'(hl▸hj)} (M (fun q=>⟨[(0,sl Gc a),(1,sl Gc b),(12,G (a.map Gc).length),(13,G q.1)],[],Ab⟩) (M (fun q=>a.length-q.1) (J (M ⟨0,Ai _,fun _ _ h=>absurd h (Cv _)⟩ ?_) ?_)))
 .exact⟨Z4,X,Fh,X⟩
 intro⟨i,i1,i2⟩;refine J (fun h3=>?_) (fun h3=>?_)
 .have h3:(i:Int)<((a.map Gc).length:Int):=h3;have n3:=Gj h3;have hib:i<b.length:=by have q:=h3;rw[Lm]at q;omega
  refine M (Gc a[i]) (J (IM n3) (J rfl (U (M (Gc b[i]) (J (IM hib) (J rfl (U (J (fun h4=>?_) (fun h4=>?_)))))))))
  .refine J aa5 (J (Ii i I) ?_);refine M ⟨i+1,n3,fun j hj IY=>if e:j<i then i2 j hj e else by
     have e:j=i:=I
     subst e;exact AfQ h4⟩ ?_
   exact⟨Dl a.length i I,Z4,X,Fh,X⟩
  refine J aa5 ?_;exact .of_eq (show Q false=Q (decide (a=b)) by rw[Al (qh (i:=i) (ha:=n3) (hb:=hib) (AfR h4))])
 have h3:¬((i:Int)<((a.map Gc).length:Int)):=h3;have n3:=D6 h3;exact .of_eq (show Q true=Q (decide (a=b)) by rw[Aq (kY hl fun j hj=>i2 j hj (by have q:=h3;rw[Lm]at q;omega))])
abbrev pa:CS:=⟨#[97,47,118,49]⟩
abbrev pb:CS:=⟨#[98,47,118,49]⟩
abbrev yF(m:Int):Ver:=⟨1,m,0⟩
abbrev o0(m:Int)(q:List Rq)(y:Bool):F:=⟨p,yF m,q,mt,mt,mt,y⟩
abbrev q40:List Rq:=[⟨pb,[(1000,1000000)]⟩]
abbrev Ur:List F:=[o0 pa 0 q40 false,o0 pb 0 [] false,o0 pb 1 [] false,o0 pb 2 [] true]
abbrev Wv:List Rq:=[⟨pa,[(0,1000000)]⟩]
abbrev a40:List Sl:=[⟨pa,yF 0⟩,⟨pb,yF 1⟩]
theorem AeG:∀r∈Ur,Jz r:=
 Bi.2 ⟨⟨by decide,by decide⟩,Bi.2 ⟨⟨by decide,by decide⟩,Bi.2 ⟨⟨by decide,by decide⟩,Bi.2 ⟨⟨by decide,by decide⟩,Co _⟩⟩⟩⟩
abbrev sJ:AV:=nzA
abbrev lU(b:Int)(y:Bool):Av2:=[vs p,G 1,G b,G 0,sJ,vs mt,vs mt,vs mt,Q y]
abbrev AcU:Av2:=[.slice .none [Ay (o0 pa 0 q40 false),lU pb 0 false,lU pb 1 false,lU pb 2 true],sJ]
theorem mq:Da (.agg AcU) (Sa Ur []):=
 have h (p:CS) (b:Int) (y:Bool):MA (lU p b y) (Ay (o0 p b [] y)):=⟨.refl _,.refl _,.refl _,.refl _,.nil,.refl _,.refl _,.refl _,.refl _,trivial⟩
 Da.agg ⟨Da.slice ⟨.refl _,h pb 0 false,h pb 1 false,h pb 2 true,trivial⟩,.nil,trivial⟩
theorem yv(m:Int)(h:m=1\/m=2):On [⟨pa,yF 0⟩,⟨pb,yF m⟩]:=by
 rcases h with rfl | rfl
 .exact⟨by decide,Bi.2 ⟨by decide,Bi.2 ⟨by decide,Co _⟩⟩,.cons (Bi.2 ⟨by show E3 pa pb=true;kernel_rfl,Co _⟩) (.cons (Co _) .nil)⟩
 .exact⟨by decide,Bi.2 ⟨by decide,Bi.2 ⟨by decide,Co _⟩⟩,.cons (Bi.2 ⟨by show E3 pa pb=true;kernel_rfl,Co _⟩) (.cons (Co _) .nil)⟩
end Go.Eng
namespace Go.Eng
/-! The empty workspace, and a workspace twice. -/
/-! What is merged. -/
/-! What a workspace makes of an index. -/
/-! What the solver selects. -/
/-! Releases whose names satisfy p get Yanked. -/
end Go.Eng
namespace Go.Eng
open Go.Proofs
theorem Ac8{x:List F}{roots:List Rq}(hx:x.length<=16)(h:fE x roots=0):I5 x roots=0/\ub x roots=(Ej x roots).sel/\(∀y∈(Ej x roots).sel,(BG x y).isSome=true)/\(Ej x roots).sel.length<=16:=by
 have hv:FP x roots=true:=by
  grind [I5,fE]
 obtain⟨h0,hr⟩:=fT hv;have hA:=pm hv hx;have hf:(Ej x roots).found=true:=by
  grind [fE]
 have hc:=gD h0 hr (PF (roots:=roots) hx);rw[<-hA]at hc;obtain⟨_,c1 | ⟨_,⟨l,hR⟩,_,_⟩⟩:=mX hc
 .simp_all
 have az:=If hR.sol0.sel;have hI:Xg (Ej x roots).sel:=(JK hR.sol0.inc).1;have hn:(Ej x roots).sel.Nodup:=hI.imp fun {a b} h e=>by grind [CY]
 refine⟨fL hv hx,by grind [ub],fun y hy=>by grind,Az (De (m:=x.map DJ) hn fun y hy=>?_) aa0⟩
 grind [E9]
theorem yU:PC 27 [.agg [lm,lm,lm,lm]] (.tup [vs ⟨#[0,0,0,0]⟩,G 0]):=by
 have e:I0 zLk=[0,0,0,0]:=by simp[I0,G9,Zx (n:=0) aa3]
 have k:=W8 zLk true (fun _=>⟨fun _ h=>(nomatch h),fun _ h=>(nomatch h),fun _ h=>(nomatch h),fun _ h=>(nomatch h),Ai _,Ai _,Ai _,Ai _⟩) (bP zLk (fun _ h=>(nomatch h)) (fun _ h=>(nomatch h)) (Ai _) (Ai _) (Ai _)) (fun _=>by simp_all)
 rw[e]at k;exact k.args ⟨.agg ⟨.nil,.nil,.nil,.nil,trivial⟩,trivial⟩
abbrev tp:CS:=⟨#[99,47,118,49]⟩
abbrev e39:List Lo:=[⟨pa,yF 0,mt,mt⟩,⟨pb,yF 1,mt,mt⟩]
abbrev o39:List Sl:=[⟨pa,yF 0⟩,⟨tp,yF 2⟩]
abbrev m39:List Mv:=[⟨pb,1000,-1⟩,⟨tp,-1,2000⟩]
abbrev l39:Lk:=⟨Wv,e39,(Ej Ur Wv).infs,(Ej Ur Wv).skips⟩
theorem Ac2:mkL Ur Wv (Ej Ur Wv)=l39:=Aa (fun e=>Lk.mk Wv e (Ej Ur Wv).infs (Ej Ur Wv).skips) (show(Ej Ur Wv).sel.map (Jb Ur)=e39 by kernel_rfl)
theorem AeF:IE l39:=⟨by kernel_rfl,by kernel_rfl,by kernel_rfl,by kernel_rfl,by decide,By aa5,By aa5⟩
theorem yu:On o39:=
 ⟨by decide,Bi.2 ⟨by decide,Bi.2 ⟨by decide,Co _⟩⟩,.cons (Bi.2 ⟨by show E3 pa tp=true;kernel_rfl,Co _⟩) (.cons (Co _) .nil)⟩
theorem y_v(m:Int):PC 33 [G m] (.agg [G 1,G m,G 0]):=by
 refine Ps CF Tryz.func33 rfl C4 (U (U ?_));exact .refl _
abbrev qq53:Nat×HO:=(3,.ro [.slice .none [[vs ⟨#[97,47,118,49]⟩,G 1,G 0,G 0,.slice .none [[vs ⟨#[98,47,118,49]⟩,.slice .none [[G 1000,G 1000000]]]],vs ⟨#[]⟩,vs ⟨#[]⟩,vs ⟨#[]⟩,Q false],[vs ⟨#[98,47,118,49]⟩,G 1,G 0,G 0,nzA,vs ⟨#[]⟩,vs ⟨#[]⟩,vs ⟨#[]⟩,Q false],[vs ⟨#[98,47,118,49]⟩,G 1,G 1,G 0,nzA,vs ⟨#[]⟩,vs ⟨#[]⟩,vs ⟨#[]⟩,Q false],[vs ⟨#[98,47,118,49]⟩,G 1,G 2,G 0,nzA,vs ⟨#[]⟩,vs ⟨#[]⟩,vs ⟨#[]⟩,Q true]],nzA])
abbrev qq54:Nat×HO:=(4,.ro [sl Ak Wv,.slice .none [[vs pa,G 1,G 0,G 0,vs mt,vs mt],[vs pb,G 1,G 1,G 0,vs mt,vs mt]],sl A8 (Ej Ur Wv).infs,sl AT (Ej Ur Wv).skips])
theorem yQ  : PC 9 [] (Q true):=by
 have hq:∀q∈Wv,J5 q:=Bi.2 ⟨⟨by decide,by decide⟩,Co _⟩;have rQ:∀r∈Ur,CC r.reqs:=Bi.2 ⟨by decide,Bi.2 ⟨by decide,Bi.2 ⟨by decide,Bi.2 ⟨by decide,Co _⟩⟩⟩⟩;have L:mD Ur Wv:=⟨by decide,by decide,fun r hr=>⟨rQ r hr,AeG r hr⟩,hq⟩;have hx:Ur.length<=16:=aa3
 have hs:(SI Ur 16&&Ef Wv)=true:=by kernel_rfl
 have c0:fE Ur Wv=0:=by kernel_rfl
 obtain⟨u1,u2,u3,u4⟩:=Ac8 hx c0;have k19:=s16 Ur [] Wv L.x L.rq;rw[c0]at k19;have k38:PC 38 [Sa Ur [],sl Ak Wv] (.tup [.agg (KU (Ej Ur Wv)),G 0]):=by have q:=s21 Ur [] Wv L.x L.rq;unfold jl at q;rw[u1]at q;exact q
 have k11:=(Ah2 Ur [] Wv (Ej Ur Wv) _ k19 k38 (fun p v=>c53 Ur [] p v (L.c84 []) L.x) u3 (fun q hq=>(L.rq q hq).1) (wt hs) I).args (args':=[.agg AcU,sl Ak Wv]) ⟨mq,.refl _,trivial⟩;rw[Ac2]at k11;have k18:=(AfF (ifs:=[]) (l:=l39) L hs AeF).args (args':=[.agg AcU,.agg (Bu l39)]) ⟨mq,.refl _,trivial⟩;rw[show pH Ur l39=0 by kernel_rfl]at k18;have k20:=Aaf l39 aa3;have k34:=o75 a40 o39 [pa,pa,pb,tp] (yv 1 (.inl rfl)) yu aa3 aa3 (.cons _ (.swap _ _ _)) aa3;rw[show Nk a40 o39 (BU [pa,pa,pb,tp])=m39 by kernel_rfl]at k34;have k35:=o35 m39 m39 aa3;rw[Aq rfl]at k35;refine Ps (pC [3,4] [4,5,7,8]) Tryz.func9 rfl C4 (C1 (H (y_v 0) (C1 (H (y_v 0) (C1 (H (y_v 1) (C1 (H (y_v 2) (U (cU [(1,.v (.func (.func 33) #[] #[])),(3,.ref 3 0)] [qq53] Z2 Z1 (U (C1 (H k11 (U (cU [(1,.v (.func (.func 33) #[] #[])),(3,.ref 3 0),(4,.ref 4 0),(5,G 0)] [qq53,qq54] Z4 Z2 (C1 (H yU (C1 (H (y_v 0) (C1 (H (y_v 2) (cU [(1,.v (.func (.func 33) #[] #[])),(3,.ref 3 0),(4,.ref 4 0),(5,G 0),(6,vs ⟨#[0,0,0,0]⟩),(7,G 0),(8,.slice (.id 50 4) [[vs ⟨#[97,47,118,49]⟩,G 1,G 0,G 0],[vs ⟨#[99,47,118,49]⟩,G 1,G 2,G 0]])] [qq53,qq54,(50,.tok 4 2)] Z7 Z3 (U (C1 (H k20 (C1 (H k34 (cU [(1,.v (.func (.func 33) #[] #[])),(3,.ref 3 0),(4,.ref 4 0),(5,G 0),(6,vs ⟨#[0,0,0,0]⟩),(7,G 0),(9,sl Gc m39),(10,G 0)] [qq53,qq54] Z8 Z2 (J (fun _=>?_) (fun h=>absurd aa3 h))))))))))))))))))))))))))))));refine J (fun _=>?_) (fun h=>absurd aa3 h);refine M [vs pb,G 1,G 1,G 0,vs mt,vs mt] (J ⟨by decide,rfl⟩ (J rfl ?_));refine U (H (y_v 1) (J (fun h1=>?_) (fun h1=>?_)))
 .have h1:(1:Int)=1/\(1:Int)=1/\(0:Int)=0/\True:=h1;refine U (U (H k18 (J (fun _=>?_) (fun h=>absurd aa3 h))));refine J (fun _=>?_) (fun h=>absurd aa3 h);refine J (fun h2=>?_) (fun h2=>?_)
  .have h2:(⟨#[0,0,0,0]⟩:CS)=⟨#[0,0,0,0]⟩:=h2;refine J (fun _=>?_) (fun h=>absurd aa3 h);refine H k35 (J aa5 ?_);exact .refl _
  have h2:¬(⟨#[0,0,0,0]⟩:CS)=⟨#[0,0,0,0]⟩:=h2;refine J aa5 ?_;exact absurd rfl h2
 have h1:¬((1:Int)=1/\(1:Int)=1/\(0:Int)=0/\True):=h1;refine J aa5 ?_;exact absurd ⟨rfl,rfl,rfl,trivial⟩ h1
end Go.Eng
namespace Go.Eng
open IntKind(wrap)
variable {i:Nat}{tl:Av2}{m:Nat}(x a w:Int)(s:CS)(ws:Av3)(k b:Int)
abbrev Ek:AV:=.v (.int .u32 x)
theorem G2{cs r:Av2}{a:AV}{K:AV->Prop}(h:cs=a::r)(k:K a):Mo cs K:=by rw[h];exact k
theorem Qj{l:Av2}{n:Nat}{a:AV}(h:l[n]?=some a)(e:m=n):l.drop m=a::l.drop (n+1):=by
 grind [List.drop_eq_getElem_cons]
theorem Aa4{a:AV}:∀{l:Av2} {n:Nat},over l n [a]=l.set n a
 | [],_=>rfl
 |c::l,0=>by cases l<;>rfl
 |c::l,n+1=>by show c::over l n [a]=_;rw[Aa4 (l:=l)];rfl
def Ra:Int:=Dv .or .u32 (DY .shl .u32 x (Dv .and .u64 (wrap .u64 k) 31)) (DY .shr .u32 x (wrap .u64 (32-Dv .and .u64 (wrap .u64 k) 31)))
def xr:Int:=Dv .xor .u32 a b
def an:Int:=Dv .and .u32 a b
def nt:Int:=Dv .xor .u32 4294967295 a
def ad:Int:=wrap .u32 (a+b)
def Ac7(c:Int):Int:=xr (xr (Ra x (-a)) (Ra x (-b))) (Ra x (-c))
def sv(s:Int):Int:=xr (xr (Ra x (-a)) (Ra x (-b))) (DY .shr .u32 x s)
def OQ(s:CS)(i:Nat):Nat->Int
 |0=>0
 |k+1=>Dv .or .u32 (DY .shl .u32 (OQ s i k) 8) (wrap .u32 ((Bd s (4*i+k)).toNat:Int))
def J4(i:Nat):Int:=ws[i]?.getD 0
def Wd(i:Nat):Int:=
 if i<16 then OQ s i 4 else ad (ad (ad (sv (J4 ws (i-2)) 17 19 10) (J4 ws (i-7))) (sv (J4 ws (i-15)) 7 18 3)) (J4 ws (i-16))
def CG(s:CS):Nat->Av3
 |0=>[]
 |i+1=>CG s i++[Wd s (CG s i) i]
theorem EB(s:CS):∀i,(CG s i).length=i
 |0=>rfl
 |i+1=>by rw[CG,Ac,EB s i];rfl
theorem WY{ws:Av3}(h:i<ws.length):ws[i]?=some (J4 ws i):=by grind [J4]
structure S8 where
 (a b c d e f g h:Int)
def S8.l(v:S8):Av3:=[v.a,v.b,v.c,v.d,v.e,v.f,v.g,v.h]
abbrev cM(v:S8):Av2:=[Ek v.a,Ek v.b,Ek v.c,Ek v.d,Ek v.e,Ek v.f,Ek v.g,Ek v.h]
def rT1(v:S8):Int:=ad (ad (ad (ad v.h (Ac7 v.e 6 11 25)) (xr (an v.e v.f) (an (nt v.e) v.g))) k) w
def rT2(v:S8):Int:=ad (Ac7 v.a 2 13 22) (xr (xr (an v.a v.b) (an v.a v.c)) (an v.b v.c))
def Alx(v:S8):S8:=⟨ad (rT1 w k v) (rT2 v),v.a,v.b,v.c,ad v.d (rT1 w k v),v.e,v.f,v.g⟩
def DP(ws ks:Av3)(v:S8):Nat->S8
 |0=>v
 |i+1=>Alx (J4 ws i) (J4 ks i) (DP ws ks v i)
def vE(v r:S8):S8:=⟨ad v.a r.a,ad v.b r.b,ad v.c r.c,ad v.d r.d,ad v.e r.e,ad v.f r.f,ad v.g r.g,ad v.h r.h⟩
def kK:Av3:=[0x428a2f98,0x71374491,0xb5c0fbcf,0xe9b5dba5,0x3956c25b,0x59f111f1,0x923f82a4,0xab1c5ed5,
 0xd807aa98,0x12835b01,0x243185be,0x550c7dc3,0x72be5d74,0x80deb1fe,0x9bdc06a7,0xc19bf174,
 0xe49b69c1,0xefbe4786,0x0fc19dc6,0x240ca1cc,0x2de92c6f,0x4a7484aa,0x5cb0a9dc,0x76f988da,
 0x983e5152,0xa831c66d,0xb00327c8,0xbf597fc7,0xc6e00bf3,0xd5a79147,0x06ca6351,0x14292967,
 0x27b70a85,0x2e1b2138,0x4d2c6dfc,0x53380d13,0x650a7354,0x766a0abb,0x81c2c92e,0x92722c85,
 0xa2bfe8a1,0xa81a664b,0xc24b8b70,0xc76c51a3,0xd192e819,0xd6990624,0xf40e3585,0x106aa070,
 0x19a4c116,0x1e376c08,0x2748774c,0x34b0bcb5,0x391c0cb3,0x4ed8aa4a,0x5b9cca4f,0x682e6ff3,
 0x748f82ee,0x78a5636f,0x84c87814,0x8cc70208,0x90befffa,0xa4506ceb,0xbef9a3f7,0xc67178f2]
def fI(v:S8)(s:CS):S8:=vE v (DP (CG s 64) kK v 64)
def TT(v r:S8)(i:Nat)(tl:Av2):Av2:=
 Ek (if 0<i then ad v.a r.a else v.a)::Ek (if 1<i then ad v.b r.b else v.b)::Ek (if 2<i then ad v.c r.c else v.c)::Ek (if 3<i then ad v.d r.d else v.d) ::
 Ek (if 4<i then ad v.e r.e else v.e)::Ek (if 5<i then ad v.f r.f else v.f)::Ek (if 6<i then ad v.g r.g else v.g)::Ek (if 7<i then ad v.h r.h else v.h)::tl
def CJ(v:S8)(b:CS):S8×CS:=
 if 64<=b.size then CJ (fI v (b.extract 0 64)) (b.extract 64 b.size)else(v,b)
termination_by b.size
decreasing_by grind [ByteArray.size_extract]
def dJ:S8:=⟨1779033703,3144134277,1013904242,2773480762,1359893119,2600822924,528734635,1541459225⟩
structure HS where
 v:S8
 rest:CS
 tot:Int
abbrev Gb(x:HS):Av2:=[Ek x.v.a,Ek x.v.b,Ek x.v.c,Ek x.v.d,Ek x.v.e,Ek x.v.f,Ek x.v.g,Ek x.v.h,vs x.rest,.v (.int .u64 x.tot)]
def ID(x:HS)(s:CS):HS:=⟨(CJ x.v (x.rest++s)).1,(CJ x.v (x.rest++s)).2,wrap .u64 (x.tot+wrap .u64 (s.size:Int))⟩
def Hj(n:Int):CS:=⟨((List.range 8).map fun(i:Nat)=>UInt8.ofNat (wrap .u8 (DY .shr .u64 n (56-8*(i:Int)))).toNat).toArray⟩
def Fk:List UInt8:=[UInt8.ofNat (wrap .u8 (DY .shr .u32 x 24)).toNat,UInt8.ofNat (wrap .u8 (DY .shr .u32 x 16)).toNat,UInt8.ofNat (wrap .u8 (DY .shr .u32 x 8)).toNat,UInt8.ofNat (wrap .u8 x).toNat]
def pV(n:Nat):CS:=⟨(List.replicate n 0).toArray⟩
def F8(x:HS):CS:=(⟨#[128]⟩++pV ((119-(x.rest.size:Int)) % 64).toNat)++Hj (wrap .u64 (8*x.tot))
def uj(x:HS):CS:=⟨(((ID x (F8 x)).v.l).flatMap Fk).toArray⟩
def QK:HS:=⟨dJ,⟨#[]⟩,0⟩
def Ol(x:HS)(l:List CS):HS:=l.foldl (fun x s=>ID (ID x (Hj (wrap .u64 (s.size:Int)))) s) x
def Kw(tag:CS)(l:List CS):CS:=uj (Ol (ID QK (Hj (wrap .u64 (tag.size:Int))++tag)) l)
theorem qw{b:Bool}{p:Prop}(h:b=true)(k:p):(match(generalizing:=false) b with | true=>p | false=>False):=aa0
theorem mapU(h:Nat->HO):∀ws:Av3,(ws.map Ek).map (str0 h)=ws.map Ek
 | []=>rfl
 |_::ws=>Aa (_ :: ·) (mapU h ws)
theorem AlS{h:Nat->HO}{l:Av2}{ws:Av3}(e:l=ws.map Ek):Da (.agg (l.map (str0 h))) (.agg (ws.map Ek)):=by
 rw[e,mapU];exact .refl _
theorem Aax{l:Av2}{a:AV}{n:Nat}(h:l.length=n):(l++a::tl)[n]?=some a:=by
 simp_all
theorem aP{ws:Av3}(h:i<ws.length):(ws.map Ek++tl)[i]?=some (Ek (J4 ws i)):=by
 grind [WY]
theorem aQ{ws:Av3}(h:i<ws.length):(ws.map Ek)[i]?=some (Ek (J4 ws i)):=by
 grind [WY]
theorem QS{a b:AV}{tl:Av2}:∀{l:Av2} {n:Nat},l.length=n->over (l++a::tl) n [b]=l++b::tl
 | [],_,rfl=>by cases tl<;>rfl
 |c::l,_,rfl=>by show c::over (l++a::tl) l.length [b]=_;rw[QS rfl];rfl
theorem Ns:∀{z l:Av2},z.length=l.length->over z 0 l=l
 | [],[],_=>rfl
 | [],_::_,h=>by cases h
 |_::_,[],h=>by cases h
 |_::z,b::l,h=>by show b::over z 0 l=_;rw[Ns (Nat.succ.inj h)]
def S8.n(v:S8)(i:Nat):Int:=J4 v.l i
theorem zr{v:S8}(h:i<8)(e:m=i):(cM v).drop m=Ek (v.n i)::(cM v).drop (i+1):=
 Qj (aQ (ws:=v.l) h) e
theorem qK{v r:S8}(h:i<8)(e:m=i):(TT v r i tl).drop m=Ek (v.n i)::(TT v r i tl).drop (i+1):=by
 refine Qj ?_ e
 match i,h with
 |0,_ |1,_ |2,_ |3,_ |4,_ |5,_ |6,_ |7,_=>rfl
theorem tf{v r:S8}(h:i<8)(e:m=i):over (TT v r i tl) m [Ek (ad (v.n i) (r.n i))]=TT v r (i+1) tl:=by
 subst e;rw[Aa4]
 match m,h with
 |0,_ |1,_ |2,_ |3,_ |4,_ |5,_ |6,_ |7,_=>rfl
theorem lS{n:Nat}(h:n<64):List.replicate (64-n) (Ek 0)=Ek 0::List.replicate (64-(n+1)) (Ek 0):=by
 rw[show 64-n=(64-(n+1))+1 by omega];rfl
theorem fD{s:CS}{x:Int}(h:x=Wd s (CG s i) i):(CG s i).map Ek++Ek x::List.replicate (64-(i+1)) (Ek 0)=(CG s (i+1)).map Ek++List.replicate (64-(i+1)) (Ek 0):=by
 grind [CG]
theorem AbR(h:Nat->HO)(tl:Av2):∀ws:Av3,aC h (ws.map Ek++tl)=aC h tl
 | []=>rfl
 |_::ws=>AbR h tl ws
theorem AbQ(h:Nat->HO):∀n:Nat,aC h (List.replicate n (Ek 0))=true
 |0=>rfl
 |n+1=>AbQ h n
theorem iy(h:Nat->HO):∀ws:Av3,Uj h (.cells (ws.map Ek))=true
 | []=>rfl
 |_::ws=>iy h ws
theorem AbS(h:Nat->HO)(ws:Av3)(n:Nat):Uj h (.cells (ws.map Ek++List.replicate n (Ek 0)))=true:=(AbR h _ ws).trans (AbQ h n)
theorem AfC(h:Nat->HO)(ws:Av3)(x:Int)(n:Nat):Uj h (.cells (ws.map Ek++Ek x::List.replicate n (Ek 0)))=true:=(AbR h _ ws).trans (AbQ h n)
theorem WI(i:Nat):((CG s i).map Ek).length=i:=by grind [EB]
end Go.Eng
namespace Go.Eng
open Go.Proofs Go.Proofs.Tryz
open IntKind(wrap)
theorem fZ(a:Int):0<=wrap .u64 a:=Int.emod_nonneg _ aa3
theorem ql(a b:Int):0<=Dv .and .u64 a b:=fZ _
theorem fW(x k:Int):PC 269 [.v (.int .u32 x),G k] (.v (.int .u32 (Ra x k))):=by
 refine Ps CF func269 rfl C4 (J (ql _ _) (J (fZ _) ?_));exact .refl _
theorem uH(x a b c:Int)(ha:0<=a/\a<=64)(hb:0<=b/\b<=64)(hc:0<=c):PC 332 [.v (.int .u32 x),G a,G b,G c] (.v (.int .u32 (sv x a b c))):=by
 refine Ps CF func332 rfl C4 (J (by grind [As]) (H (fW x (-a)) (J (by grind [As]) (H (fW x (-b)) (J hc (J aa5 ?_))))));exact .refl _
theorem uG(x a b c:Int)(ha:0<=a/\a<=64)(hb:0<=b/\b<=64)(hc:0<=c)(hd:c<=64):PC 268 [.v (.int .u32 x),G a,G b,G c] (.v (.int .u32 (Ac7 x a b c))):=by
 refine Ps CF func268 rfl C4 (J (by grind [As]) (C1 (H (fW x (-a)) (J (by grind [As]) (C1 (H (fW x (-b)) (J (by grind [As]) (C1 (H (fW x (-c)) ?_)))))))));exact .refl _
set_option maxRecDepth 100000 in
theorem yK  : PC 271 [] (.agg (kK.map Ek)):=by
 refine Ps CF func271 rfl C4 (U (U ?_));exact .refl _
theorem AgN(s:CS)(hs:s.size=64):PC 270 [vs s] (.agg ((CG s 64).map Ek)):=by
 refine Ps CF func270 rfl C4 (M {q:Nat // q<=64} (M (fun q=>⟨[(0,vs s),(2,.ref 2 0),(3,.ref 3 0),(4,.v (.func (.func 332) #[] #[])),(7,G q.1)],[(2,.cells (List.replicate 64 (Ek 0))),(3,.cells ((CG s q.1).map Ek++List.replicate (64-q.1) (Ek 0)))],Ab⟩) (M (fun q=>64-q.1) (J (M ⟨0,Ai _⟩ ?_) ?_))))
 .exact⟨Z5,⟨Z,⟨rfl,(AbS _ _ _)⟩,X⟩,Fh,X⟩
 intro⟨i,i1⟩;have i1:i<=64:=i1;refine J (fun h1=>?_) (fun h1=>?_)
 .have h1:(i:Int)<(64:Int):=h1;refine J (fun h2=>?_) (fun h2=>?_)
  .have h2:(i:Int)<(16:Int):=h2;refine M {q:Nat // q<=4} (M (fun q=>⟨[(0,vs s),(2,.ref 2 0),(3,.ref 3 0),(4,.v (.func (.func 332) #[] #[])),(5,G i),(7,G i),(12,G q.1)],[(2,.cells (List.replicate 64 (Ek 0))),(3,.cells ((CG s i).map Ek++Ek (OQ s i q.1)::List.replicate (64-(i+1)) (Ek 0)))],Ab⟩) (M (fun q=>4-q.1) (J (M ⟨0,Ai _⟩ ?_) ?_)))
   .exact⟨Z7,⟨Z,⟨(Aa (fun z=>HO.cells ((CG s i).map Ek++z)) (lS (show i<64 by omega))),(AfC _ _ _ _)⟩,X⟩,Fh,X⟩
   intro⟨k,k1⟩;have k1:k<=4:=k1;refine J (fun h3=>?_) (fun h3=>?_)
   .have h3:(k:Int)<(4:Int):=h3;refine J (show(0:Int)<=i/\(i:Int)<(64:Nat)from by omega) (G2 (Qj (Aax (WI s i)) (show(0+(i:Int).toNat*1)=i by omega)) (J aa3 (J (by show As ((4:Int)*(i:Int));unfold As;omega) (J (by show As ((4*i:Int)+(k:Int));unfold As;omega) (M (Bd s (4*i+k)) (J (Ly (z:=(4*i)+k) (show 4*i+k<s.size by omega) I) (J (show(0:Int)<=i/\(i:Int)<(64:Nat)from by omega) (J (show(0+(i:Int).toNat*1)+1<=(((CG s i).map Ek++Ek (OQ s i k)::List.replicate (64-(i+1)) (Ek 0))).length from by rw[Ac,WI];simp only[AK,CA];omega) ?_))))))));refine J aa5 (J (Ii k I) (M ⟨k+1,by omega⟩ ?_));exact⟨Dl 4 k I,Z7,⟨Z,⟨(show HO.cells (over ((CG s i).map Ek++Ek (OQ s i k)::List.replicate (64-(i+1)) (Ek 0)) (0+(i:Int).toNat*1) [.v (.int .u32 (Dv .or .u32 (DY .shl .u32 (OQ s i k) 8) (wrap .u32 ((Bd s (4*i+k)).toNat:Int))))])=.cells ((CG s i).map Ek++Ek (OQ s i (k+1))::List.replicate (64-(i+1)) (Ek 0))from Aa HO.cells (QS (by rw[WI];omega))),(AfC _ _ _ _)⟩,X⟩,Fh,X⟩
   have h3:¬((k:Int)<(4:Int)):=h3;refine J (Ii i I) (M ⟨i+1,by omega⟩ ?_);exact⟨Dl 64 i I,Z5,⟨Z,⟨(Aa HO.cells (fD (show OQ s i k=Wd s (CG s i) i by rw[Wd,AO I,show k=4 by omega]))),(AbS _ _ _)⟩,X⟩,Fh,X⟩
  have h2:¬((i:Int)<(16:Int)):=h2;refine J (by show As ((i:Int)-(2:Int));unfold As;omega) (J (show(0:Int)<=i-2/\(i-2:Int)<(64:Nat)from by omega) (G2 (Qj (aP (show i-2<(CG s i).length by rw[EB];omega)) (show(0+(i-2:Int).toNat*1)=i-2 by omega)) (H (uH (J4 (CG s i) (i-2)) 17 19 10 aa3 aa3 aa3) (J (by show As ((i:Int)-(7:Int));unfold As;omega) (J (show(0:Int)<=i-7/\(i-7:Int)<(64:Nat)from by omega) (G2 (Qj (aP (show i-7<(CG s i).length by rw[EB];omega)) (show(0+(i-7:Int).toNat*1)=i-7 by omega)) (J (by show As ((i:Int)-(15:Int));unfold As;omega) (J (show(0:Int)<=i-15/\(i-15:Int)<(64:Nat)from by omega) (G2 (Qj (aP (show i-15<(CG s i).length by rw[EB];omega)) (show(0+(i-15:Int).toNat*1)=i-15 by omega)) (H (uH (J4 (CG s i) (i-15)) 7 18 3 aa3 aa3 aa3) (J (by show As ((i:Int)-(16:Int));unfold As;omega) (J (show(0:Int)<=i-16/\(i-16:Int)<(64:Nat)from by omega) (G2 (Qj (aP (show i-16<(CG s i).length by rw[EB];omega)) (show(0+(i-16:Int).toNat*1)=i-16 by omega)) (J (show(0:Int)<=i/\(i:Int)<(64:Nat)from by omega) (J (show(0+(i:Int).toNat*1)+1<=(((CG s i).map Ek++List.replicate (64-i) (Ek 0))).length from by rw[Ac,WI];simp only[CA];omega) ?_)))))))))))))));refine J aa5 (J (Ii i I) (M ⟨i+1,by omega⟩ ?_));exact⟨Dl 64 i I,Z5,⟨Z,⟨(show HO.cells (over ((CG s i).map Ek++List.replicate (64-i) (Ek 0)) (0+(i:Int).toNat*1) [.v (.int .u32 (wrap .u32 ((wrap .u32 ((wrap .u32 ((sv (J4 (CG s i) (i-2)) 17 19 10)+(J4 (CG s i) (i-7))))+(sv (J4 (CG s i) (i-15)) 7 18 3)))+(J4 (CG s i) (i-16)))))])=.cells ((CG s (i+1)).map Ek++List.replicate (64-(i+1)) (Ek 0))from Aa HO.cells (by rw[lS (show i<64 by omega),QS (by rw[WI];omega)];exact fD (by rw[Wd,AB I];rfl))),(AbS _ _ _)⟩,X⟩,Fh,X⟩
 have h1:¬((i:Int)<(64:Int)):=h1;refine J (show 64<=((CG s i).map Ek++List.replicate (64-i) (Ek 0)).length by rw[Ac,WI,CA];omega) ?_
 conv=>whnf
 refine qw (show Nat.beq (((CG s i).map Ek++List.replicate (64-i) (Ek 0)).take 64).length 64=true from by rw[show(((CG s i).map Ek++List.replicate (64-i) (Ek 0)).take 64).length=64 by rw[Bf,Ac,WI,CA];omega];rfl) ?_;refine J (show 0+(((CG s i).map Ek++List.replicate (64-i) (Ek 0)).take 64).length<=64 from by rw[Bf];omega) ?_;refine J (show 64<=(over (List.replicate 64 (Ek 0)) 0 (((CG s i).map Ek++List.replicate (64-i) (Ek 0)).take 64)).length by rw[Ns (by rw[Bf,Ac,WI,CA,CA];omega),Bf,Ac,WI,CA];omega) ?_;exact AlS (show(over (List.replicate 64 (Ek 0)) 0 (((CG s i).map Ek++List.replicate (64-i) (Ek 0)).take 64)).take 64=(CG s 64).map Ek from by rw[show i=64 by omega,Ns (by rw[Bf,Ac,WI];rfl),List.take_take,Nat.min_self,JZ (WI s 64)])
theorem AcR(x:HS)(s:CS)(W Kk:Av3)(r8:S8)(hW:W.length=64)(hK:Kk.length=64)(hr:DP W Kk x.v 64=r8)(hc:PC 270 [vs s] (.agg (W.map Ek)))(hk:PC 271 [] (.agg (Kk.map Ek))):A1 prog 204 [.ref 1000 0,vs s] (Ah [(1000,.cells (Gb x))] Ab) fun r h'=>r=.tup []/\h'=Ah [(1000,.cells (Gb ⟨vE x.v r8,x.rest,x.tot⟩))] Ab:=by
 refine Bv (Ky (pC [] [2,11])) [(1000,1000)] rfl BO hm rfl func204 aa5 rfl C4 aa5 rfl (C1 (H hc (C1 (H hk ?_))))
 conv=>whnf
 refine qw (show Nat.beq (W.map Ek).length 64=true from by rw[Lm,hW];rfl) (J (show 0+(W.map Ek).length<=64 from by rw[Lm];omega) ?_)
 conv=>whnf
 refine qw (show Nat.beq (Kk.map Ek).length 64=true from by rw[Lm,hK];rfl) (J (show 0+(Kk.map Ek).length<=64 from by rw[Lm];omega) (cU [(0,.ref 1000 0),(4,.v (.func (.func 268) #[] #[])),(5,.ref 5 0),(6,.ref 6 0)] [(5,.cells (W.map Ek)),(6,.cells (Kk.map Ek)),(1000,.cells (Gb x))] Z4 ⟨⟨(Aa HO.cells (Ns (show 64=(W.map Ek).length by rw[Lm,hW]))),(iy _ _)⟩,⟨(Aa HO.cells (Ns (show 64=(Kk.map Ek).length by rw[Lm,hK]))),(iy _ _)⟩,Z,X⟩ ?_))
 refine U (U (M {q:Nat // q<=64} (M (fun q=>⟨[(0,.ref 1000 0),(4,.v (.func (.func 268) #[] #[])),(5,.ref 5 0),(6,.ref 6 0),(7,.ref 7 0),(26,G q.1)],[(5,.cells (W.map Ek)),(6,.cells (Kk.map Ek)),(7,.cells (cM (DP W Kk x.v q.1))),(1000,.cells (Gb x))],Ab⟩) (M (fun q=>64-q.1) (J (M ⟨0,Ai _⟩ ?_) ?_)))))
 .exact⟨Z6,⟨⟨rfl,(iy _ _)⟩,⟨rfl,(iy _ _)⟩,Z,Z,X⟩,Fh,AX aa5⟩
 intro⟨i,i1⟩;have i1:i<=64:=i1;refine J (fun h1=>?_) (fun h1=>?_)
 .have h1:(i:Int)<(64:Int):=h1;refine J ⟨by decide,by decide⟩ ?_;refine J ⟨by decide,by decide⟩ ?_;refine J ⟨by decide,by decide⟩ ?_;refine J ⟨by decide,by decide⟩ ?_;refine J ⟨by decide,by decide⟩ ?_;refine J ⟨by decide,by decide⟩ ?_;refine J aa5 (J ⟨by decide,by decide⟩ ?_);refine H (uG (DP W Kk x.v i).e 6 11 25 aa3 aa3 aa3 aa3) (J (show(0:Int)<=i/\(i:Int)<(64:Nat)from by omega) (G2 (Qj (aQ (show i<Kk.length by omega)) (show(0+(i:Int).toNat*1)=i by omega)) (J (show(0:Int)<=i/\(i:Int)<(64:Nat)from by omega) (G2 (Qj (aQ (show i<W.length by omega)) (show(0+(i:Int).toNat*1)=i by omega)) (J aa5 (C1 (H (uG (DP W Kk x.v i).a 2 13 22 aa3 aa3 aa3 aa3) (J ⟨by decide,by decide⟩ ?_))))))));refine U (J (Ii i I) (M ⟨i+1,by omega⟩ ?_));exact⟨Dl 64 i I,Z6,⟨⟨rfl,(iy _ _)⟩,⟨rfl,(iy _ _)⟩,Z,Z,X⟩,Fh,AX aa5⟩
 have h1:¬((i:Int)<(64:Int)):=h1;refine cU [(0,.ref 1000 0),(7,.ref 7 0)] [(7,.cells (cM r8)),(1000,.cells (Gb x))] Z2 ⟨⟨(Aa (fun z=>HO.cells (cM z)) (show DP W Kk x.v i=r8 by rw[show i=64 by omega,hr])),rfl⟩,Z,X⟩ (U (M {q:Nat // q<=8} (M (fun q=>⟨[(0,.ref 1000 0),(94,.agg [.v (.int .u32 r8.a),.v (.int .u32 r8.b),.v (.int .u32 r8.c),.v (.int .u32 r8.d),.v (.int .u32 r8.e),.v (.int .u32 r8.f),.v (.int .u32 r8.g),.v (.int .u32 r8.h)]),(95,G q.1)],[(1000,.cells (TT x.v r8 q.1 [vs x.rest,.v (.int .u64 x.tot)]))],Ab⟩) (M (fun q=>8-q.1) (J (M ⟨0,Ai _⟩ ?_) ?_)))))
 .exact⟨Z3,Z1,Fh,AX aa5⟩
 intro⟨j,j1⟩;have j1:j<=8:=j1;refine J (fun h3=>?_) (fun h3=>?_)
 .have h3:(j:Int)<(8:Int):=h3;refine J (show(0:Int)<=j/\(j:Int)<(8:Nat)from by omega) (G2 (zr (v:=r8) (show j<8 by omega) (show((j:Int).toNat*1)=j by omega)) (J (show(0:Int)<=j/\(j:Int)<(8:Nat)from by omega) (G2 (qK (show j<8 by omega) (show(0+(j:Int).toNat*1)=j by omega)) (J (show(0:Int)<=j/\(j:Int)<(8:Nat)from by omega) (J (show(0+(j:Int).toNat*1)+1<=((TT x.v r8 j [vs x.rest,.v (.int .u64 x.tot)])).length from by show(0+(j:Int).toNat*1)+1<=10;omega) ?_)))));refine J aa5 (J (Ii j I) (M ⟨j+1,by omega⟩ ?_));exact⟨Dl 8 j I,Z3,⟨⟨(show HO.cells (over (TT x.v r8 j [vs x.rest,.v (.int .u64 x.tot)]) (0+(j:Int).toNat*1) [.v (.int .u32 (wrap .u32 ((S8.n x.v j)+(S8.n r8 j))))])=.cells (TT x.v r8 (j+1) [vs x.rest,.v (.int .u64 x.tot)])from Aa HO.cells (tf (show j<8 by omega) I)),rfl⟩,X⟩,Fh,AX aa5⟩
 have h3:¬((j:Int)<(8:Int)):=h3;have e8:j=8:=I
 subst e8;exact H (.refl _) Z
theorem AgL(x:HS)(s:CS)(hs:s.size=64):A1 prog 204 [.ref 1000 0,vs s] (Ah [(1000,.cells (Gb x))] Ab) fun r h'=>r=.tup []/\h'=Ah [(1000,.cells (Gb ⟨fI x.v s,x.rest,x.tot⟩))] Ab:=
 AcR x s (CG s 64) kK _ (EB s 64) rfl rfl (AgN s hs) yK
end Go.Eng
namespace Go.Proofs
open Go.Proofs.Tryz
open Go.Shelf
open Go.Eng(A0a)
def Tryz.layRepeat_ren:Go.Shelf.Ren:=⟨fun | 105=>207 | 212=>273 | 99=>274 | 165=>275 | 166=>276 | 170=>277 | 169=>278 | 263=>333 | 264=>334 | 206=>335 | 240=>336 | 241=>337 | 276=>365 | 277=>366 | n=>n,fun | 9=>9 | 3=>3 | 4=>4 | 20=>20 | 0=>0 | 46=>240 | 109=>359 | 5=>5 | 72=>363 | 76=>367 | 51=>299 | 146=>352 | 53=>229 | 148=>406 | 70=>361 | 37=>296 | 75=>366 | 127=>404 | 164=>424 | 80=>237 | n=>n,fun | n=>n⟩
theorem Tryz.layRepeat:Go.Proofs.Lays.n105 prog Tryz.layRepeat_ren:={
 mixed:=by kernel_rfl
 f99:=A0a func274
 f105:=A0a func207
 f165:=A0a func275
 f166:=A0a func276
 f169:=A0a func278
 f170:=A0a func277
 f206:=A0a func335
 f212:=A0a func273
 f240:=A0a func336
 f241:=A0a func337
 f263:=A0a func333
 f264:=A0a func334
 f276:=A0a func365
 f277:=A0a func366
 t0:=underlying0
 a0:=isAgg0
 z0:=sizeOf0
 v0:=zeroValue0
 t3:=underlying3
 a3:=isAgg3
 z3:=sizeOf3
 v3:=zeroValue3
 t4:=underlying4
 a4:=isAgg4
 z4:=sizeOf4
 v4:=zeroValue4
 t5:=underlying5
 a5:=isAgg5
 z5:=sizeOf5
 v5:=zeroValue5
 t9:=underlying9
 a9:=isAgg9
 z9:=sizeOf9
 v9:=zeroValue9
 t20:=underlying20
 a20:=isAgg20
 z20:=sizeOf20
 v20:=zeroValue20
 t37:=underlying296
 a37:=isAgg296
 z37:=sizeOf296
 v37:=zeroValue296
 t46:=underlying240
 a46:=isAgg240
 z46:=sizeOf240
 v46:=zeroValue240
 t51:=underlying299
 a51:=isAgg299
 z51:=sizeOf299
 v51:=zeroValue299
 t53:=underlying229
 a53:=isAgg229
 z53:=sizeOf229
 v53:=zeroValue229
 t70:=underlying361
 a70:=isAgg361
 z70:=sizeOf361
 v70:=zeroValue361
 t72:=underlying363
 a72:=isAgg363
 z72:=sizeOf363
 v72:=zeroValue363
 t75:=underlying366
 a75:=isAgg366
 z75:=sizeOf366
 v75:=zeroValue366
 t76:=underlying367
 a76:=isAgg367
 z76:=sizeOf367
 v76:=zeroValue367
 t109:=underlying359
 a109:=isAgg359
 z109:=sizeOf359
 v109:=zeroValue359
 t127:=underlying404
 a127:=isAgg404
 z127:=sizeOf404
 v127:=zeroValue404
 t146:=underlying352
 a146:=isAgg352
 z146:=sizeOf352
 v146:=zeroValue352
 t148:=underlying406
 a148:=isAgg406
 z148:=sizeOf406
 v148:=zeroValue406
 t164:=underlying424
 a164:=isAgg424
 z164:=sizeOf424
 v164:=zeroValue424 }
def Tryz.layClone_ren:Go.Shelf.Ren:=⟨fun | 25=>272 | n=>n,fun | 9=>9 | 3=>3 | 4=>4 | 37=>296 | 0=>0 | 47=>404 | 5=>5 | n=>n,fun | n=>n⟩
theorem Tryz.layClone:Go.Proofs.LaysPu.n25 prog Tryz.layClone_ren:={
 mixed:=by kernel_rfl
 f25:=A0a func272
 t0:=underlying0
 a0:=isAgg0
 z0:=sizeOf0
 v0:=zeroValue0
 i0:=by kernel_rfl
 t3:=underlying3
 a3:=isAgg3
 z3:=sizeOf3
 v3:=zeroValue3
 i3:=by kernel_rfl
 t4:=underlying4
 a4:=isAgg4
 z4:=sizeOf4
 v4:=zeroValue4
 i4:=by kernel_rfl
 t5:=underlying5
 a5:=isAgg5
 z5:=sizeOf5
 v5:=zeroValue5
 i5:=by kernel_rfl
 t9:=underlying9
 a9:=isAgg9
 z9:=sizeOf9
 v9:=zeroValue9
 i9:=by kernel_rfl
 t37:=underlying296
 a37:=isAgg296
 z37:=sizeOf296
 v37:=zeroValue296
 i37:=by kernel_rfl
 t47:=underlying404
 a47:=isAgg404
 z47:=sizeOf404
 v47:=zeroValue404
 i47:=by kernel_rfl }
theorem Tryz.layRepeatX:Builder.Extra prog Tryz.layRepeat_ren:={
 sizeBuilder:=by kernel_rfl
 liesBuilder:=by kernel_rfl
 t5:=underlying5
 a5:=isAgg5
 z5:=sizeOf5
 v5:=zeroValue5
 infoByte:=by kernel_rfl
 cellsByte:=by kernel_rfl
 sizeByte:=by kernel_rfl
 neB5:=by decide }
end Go.Proofs
