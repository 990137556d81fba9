/- Lemmas 28. -/
import Derived.Test.YtkjhcikodmiceaaGreatDoorUA27
import Derived.Lib.IndexMore
set_option maxHeartbeats 4000000
namespace Go.Eng
open Go.Proofs Go.Shelf Go.RowKit Go.Lib Go.Sort
variable (ss:List ByteArray)(zs:List (List UInt8))(s:ByteArray)
abbrev ZR:List UInt8:=s.data.toList
abbrev jq(l:List UInt8):ByteArray:=⟨l.toArray⟩
theorem jQ:jq (ZR s)=s:=by cases s;simp
theorem LP:((zs.map jq).map CQ).flatten=(zs.map Go.Proofs.encStr).map AV.v:=by
 induction zs with
 |nil=>rfl
 |cons z zs ih=>rw[Bb,Bb,BW,ih];rfl
theorem U3:(ss.map ZR).map jq=ss:=by
 rw[Bx,show jq ∘ ZR=id from funext jQ,GI]
theorem xz(t:List ByteArray)(hl:Cr ss)(DT:ss≠[])(hp:t.Perm ss)(ht:(t.map ZR).Pairwise fun a b=>a<=b) :
  AW Tryz.prog 77 [.msl 1000 ss.length] (Ae [(1000,.arr 1 (ss.map CQ))] Ab) fun r h'=>r=.tup []/\h'=Ae [(1000,.arr 1 (t.map CQ))] Ab:=by
 have hE:Fb Tryz.prog 77:=ZX 77 Tryz.func77 aa0 rfl;obtain⟨zs,hz⟩:∃zs,zs=ss.map ZR:=⟨_,rfl⟩;have Fi:ss=zs.map jq:=by rw[hz,U3]
 have G7:=OD (P:=Tryz.prog) (f:=77) (es:=ss.map CQ) (sz:=1) (rest:=[]) (Q:=fun EZ=>EZ=t.map CQ) hE ?_ ?_
 .rw[Lm]at G7;refine⟨hE,fun g w vals q1 q2 q3=>(G7.2 g w vals q1 q2 q3).mono fun _ _ ⟨v,r,h',g',e1,⟨e2,EZ,p1,p3⟩,rest⟩=>⟨v,r,h',g',e1,⟨e2,by rw[p3,p1]⟩,rest⟩⟩
 .intro e;exact absurd (Dv.1 e) DT
 .intro g w b cap F hr hF hH hb;have tG:F.toList=zs.map Go.Proofs.encStr:=Kk (by rw[<-LP,<-Fi];exact hr);have mw:F=zs.toArray.map Go.Proofs.encStr:=QM.1 (by rw[tG];simp);have V3:zs.length=ss.length:=by rw[hz,Lm]
  have qY:Holds Go.Proofs.encStr w b 0 zs.toArray:=fun j hj=>by
   have:=hH j (by rw[mw];simpa using hj)
   refine⟨this.1.trans ?_,this.2⟩;rw[mw,Jw _ j (by simpa using hj),Jw _ j hj];simp
  have hc:=Any.slices_Sort_string Tryz.laySortStr b 0 cap zs w qY hb ch;have htz:(zs.mergeSort fun x y=>decide (x<=y))=t.map ZR:=by
   have H7:(zs.mergeSort fun x y=>decide (x<=y)).Perm zs:=List.mergeSort_perm _ _;have rV:=List.pairwise_mergeSort (le:=fun x y:List UInt8=>decide (x<=y)) (fun a b c h1 h2=>by simp only[A5]at *;exact List.le_trans h1 h2) (fun a b=>by simp only[IH,A5];exact List.le_total a b) zs;refine List.Perm.eq_of_pairwise (le:=fun a b=>a<=b) (fun a b _ _ h k=>List.le_antisymm h k) (rV.imp fun h=>BD h) ht (H7.trans ?_);rw[hz];exact(hp.map ZR).symm
  rw[htz,V3]at hc;rw[Lm];refine hc.mono ?_
  rintro e w' ⟨rfl,n,os,rfl⟩
  have Ez:t.length=ss.length:=hp.length_eq;refine⟨rfl,(t.map ZR).toArray.map Go.Proofs.encStr,t.map CQ,n,os,?_,rfl,by simp[Ez],fun cs hcs=>?_,fun g w _=>?_,by rw[Ph]⟩
  .rw[mw];simp[Ez,V3]
  .obtain⟨x,_,rfl⟩:=Ak.1 hcs;rfl
  .have e1:t.map CQ=((t.map ZR).map jq).map CQ:=by rw[U3]
   rw[e1,LP];have e:(((t.map ZR).toArray.map Go.Proofs.encStr).toList)=(t.map ZR).map Go.Proofs.encStr:=by simp
   rw[e];exact JJ _ _ _ _ fun x hx=>by
    obtain⟨z,_,rfl⟩:=Ak.1 hx;rfl
def BT:List ByteArray:=(Lib.compact (ss.map ZR)).map jq
theorem PJ:(Lib.compact zs).length<=zs.length:=by
 unfold Lib.compact Lib.compactUpTo;rw[Lm];exact AH (Hg _ _) (by rw[List.length_range];exact Ai _)
theorem xA(hl:Cr ss)(DT:ss≠[]) :
  AW Tryz.prog 79 [.msl 1000 ss.length] (Ae [(1000,.arr 1 (ss.map CQ))] Ab) fun r h'=>r=.msl 2000 (BT ss).length/\h'=Ae [(1000,.dead),(2000,.arr 1 ((BT ss).map CQ))] Ab:=by
 have hE:Fb Tryz.prog 79:=ZX 79 Tryz.func79 aa0 rfl;obtain⟨zs,hz⟩:∃zs,zs=ss.map ZR:=⟨_,rfl⟩;have Fi:ss=zs.map jq:=by rw[hz,U3]
 have V3:zs.length=ss.length:=by rw[hz,Lm]
 have hcl:=PJ zs;have G7:=OB (P:=Tryz.prog) (f:=79) (es:=ss.map CQ) (sz:=1) (rest:=[]) (n':=(Lib.compact zs).length) (Q:=fun EZ=>EZ=((Lib.compact zs++List.replicate (zs.length-(Lib.compact zs).length) []).map jq).map CQ) hE (fun e=>DT (Dv.1 e)) (by rw[Lm];omega) ?_
 .rw[Lm]at G7;have ez:BT ss=(Lib.compact zs).map jq:=by unfold BT;rw[hz]
  refine⟨hE,fun g w vals q1 q2 q3=>(G7.2 g w vals q1 q2 q3).mono fun _ _ ⟨x,r,h',g',e1,⟨e2,EZ,p1,p2⟩,rest⟩=>⟨x,r,h',g',e1,⟨by rw[e2,ez,Lm],by
   rw[p2,p1,ez,Bm,Bm,KN (by rw[Lm,Lm];exact Ai _),Bd (by rw[Lm,Lm];exact Ai _)]⟩,rest⟩⟩
 .intro g w b cap F hr hF hH hb hc;rw[Lm]at hF hc⊢;have tG:F.toList=zs.map Go.Proofs.encStr:=Kk (by rw[<-LP,<-Fi];exact hr);have mw:F=zs.toArray.map Go.Proofs.encStr:=QM.1 (by rw[tG];simp);have qY:Holds Go.Proofs.encStr w b 0 zs.toArray:=fun j hj=>by
   have:=hH j (by rw[mw];simpa using hj)
   refine⟨this.1.trans ?_,this.2⟩;rw[mw,Jw _ j (by simpa using hj),Jw _ j hj];simp
  have hcon:=Any.slices_Compact_string Tryz.layCompactStr b 0 cap zs w qY ch ch;rw[V3]at hcon;refine hcon.mono ?_
  rintro e w' ⟨rfl,q,rfl⟩
  refine⟨rfl,(Lib.compact zs++List.replicate (zs.length-(Lib.compact zs).length) []).toArray.map Go.Proofs.encStr,_,q,#[],?_,rfl,?_,fun cs hcs=>?_,fun g w _=>?_,?_⟩
  .rw[mw];simp;omega
  .simp;omega
  .obtain⟨x,_,rfl⟩:=Ak.1 hcs;rfl
  .rw[LP];have e:((Lib.compact zs++List.replicate (zs.length-(Lib.compact zs).length) []).toArray.map Go.Proofs.encStr).toList=(Lib.compact zs++List.replicate (zs.length-(Lib.compact zs).length) []).map Go.Proofs.encStr:=by simp
   rw[e];exact JJ _ _ _ _ fun x hx=>by
    obtain⟨z,_,rfl⟩:=Ak.1 hx;rfl
  .rw[Ph,grow_empty,V3]
end Go.Eng
namespace Go.Eng
open Go.Proofs
variable {i:Nat}(l:List Sl)(p:ByteArray)(m:List Sl)
structure Mv where
 path:ByteArray
 a:Int
 b:Int
abbrev Fy(m:Mv):List AV:=[vs m.path,vi m.a,vi m.b]
abbrev plP(s:Sl):Value×AV:=(.string s.path,vi (place s.ver))
abbrev JO:List (Value×AV):=l.map plP
def QK:Int:=match A4 l p with | some s=>place s.ver | none=>-1
def VC(p:ByteArray):Option Mv:=if QK l p≠QK m p then some ⟨p,QK l p,QK m p⟩else none
abbrev M2(ps:List ByteArray):List Mv:=ps.filterMap (VC l m)
structure KQ(l:List Sl):Prop where
 few:Cr l
 val:∀s∈l,Cf s.ver=true
 inc:l.Pairwise uj
theorem KQ.step{l:List Sl}(h:KQ l)(hi:i<l.length)(h0:0<i):EL (l[i-1]' ch).path l[i].path=true:=(B1.1 h.inc) (i-1) i ch hi ch
theorem pc{l:List Sl}(h:KQ l)(hi:i<l.length):∀b,(Value.string l[i].path,b)∉JO (l.take i):=fun b hb=>by
 obtain⟨s,hs,e⟩:=Ak.1 hb;obtain⟨j,hj,rfl⟩:=CF.1 hs;rw[List.getElem_take]at e;rw[CB]at hj;have q:=(B1.1 h.inc) j i ch hi ch
 grind [CG]
theorem pd{l:List Sl}(h:KQ l){p:ByteArray}{a:AV}(ha:(Value.string p,a)∈JO l):a=vi (QK l p):=by
 grind [QK,MN,cK,ocP,KQ.inc]
theorem pe{l:List Sl}{p:ByteArray}(h:∀a,(Value.string p,a)∉JO l):QK l p=-1:=by
 unfold QK;rw[show A4 l p=none from List.find?_eq_none.2 fun s hs e=>h _ (Ak.2 ⟨s,hs,by rw[<-BD e]⟩)]
theorem aH{l m:List Sl}{ps:List ByteArray}{k:Nat}(h:k<ps.length):M2 l m (ps.take (k+1))=M2 l m (ps.take k)++(VC l m ps[k]).toList:=by
 grind [L8]
theorem sn(hl:KQ l):AW Tryz.prog 75 [sl Ah l] (Ae [] Ab) fun r h'=>r=.tup [.mref 2000,vb true]/\h'=Ae [(2000,.map BS (JO l))] Ab:=by
 have hfl:l.length<=1073741824:=hl.few;refine A7 (H5 D0) [(9,2000)] rfl Bu hm rfl Tryz.func75 aa0 rfl (Nz rfl) aa0 rfl (Xi {q:Nat // q<=l.length} (Xi (fun q=>⟨[(0,sl Ah l),(4,.mref 9),(10,sl Ah l),(11,vi (l.map Ah).length),(12,vi q.1)],[(9,.map BS (JO (l.take q.1)))],Ab⟩) (Xi (fun q=>l.length-q.1) (Yi (Xi ⟨0,Ar _⟩ ?_) ?_))))
 .exact⟨Z5,Z1,Fh,Be aa0⟩
 intro⟨i,i1⟩;refine Yi (fun h1=>?_) (fun h1=>?_)
 .have h1:(i:Int)<((l.map Ah).length:Int):=h1;have n1:=Jb h1;refine Xi (Ah l[i]) (Yi (N0 n1) (Yi rfl (yN (yN (yN (Xi .pure (Xi _ (Yi (by have q:=nR l[i].ver;rw[A1 (hl.val _ (Ao n1)),A1 (hl.val _ (Ao n1))]at q;exact q) ?_))))))));refine Yi (fun h=>absurd h Wk) (fun _=>?_);refine Yi (fun h2=>?_) (fun h2=>?_)
  .have h2:(0:Int)<(i:Int):=h2;refine Yi (by grind [AQ]) ?_;have rA:0<i:=by omega
   refine Xi (Ah (l[i-1])) (Yi (Yi (show(0:Int)<=(i:Int)-1 by omega) (by rw[show((i:Int)-1).toNat=i-1 by omega];grind)) (Yi rfl ?_));refine Yi (fun h3=>?_) (fun h3=>?_)
   .have h3:EL (l[i-1]).path l[i].path=false:=(Gg _ _).trans h3;exact absurd (hl.step n1 rA) (by simp_all)
   refine Yi aa0 (Yi (by grind [AQ]) (Xi ⟨i+1,n1⟩ ?_));exact⟨by grind,Z5,⟨⟨(show HO.map BS (Ej (JO (l.take i)) (.string l[i].path) (vi (place l[i].ver)))=.map BS (JO (l.take (i+1))) by grind [JD,pc,L8]),rfl⟩,Tv⟩,Fh,Be aa0⟩
  refine Yi aa0 (Yi (by grind [AQ]) (Xi ⟨i+1,n1⟩ ?_));exact⟨by grind,Z5,⟨⟨(show HO.map BS (Ej (JO (l.take i)) (.string l[i].path) (vi (place l[i].ver)))=.map BS (JO (l.take (i+1))) by grind [JD,L8]),rfl⟩,Tv⟩,Fh,Be aa0⟩
 have h1:¬((i:Int)<((l.map Ah).length:Int)):=h1;have n1:=FS h1;have ei:l.take i=l:=Bd ch;exact Xi _ (Yi (.refl _) ⟨rfl,show Ae [(2000,HO.map BS (JO (l.take i)))] Ab=Ae [(2000,.map BS (JO l))] Ab by rw[ei]⟩)
theorem so(hl:KQ l):PC 78 [.cmap BS (JO l),vs p] (vi (QK l p)):=by
 refine Ps D0 Tryz.func78 rfl (Nz rfl) (Yi (fun a ha=>?_) (fun NW=>?_))
 .have ea:=pd hl ha;subst ea;exact .refl _
 exact .of_eq (show vi (-1)=vi (QK l p) by rw[pe NW])
theorem o75(t:List ByteArray)(hl:KQ l)(hm2:KQ m)(zt:l.length+m.length<=1073741824)(DT:l++m≠[])(hp:t.Perm ((l++m).map (·.path)))(ht:(t.map ZR).Pairwise fun a b=>a<=b):PC 34 [sl Ah l,sl Ah m] (.tup [sl Fy (M2 l m (BT t)),vi 0]):=by
 obtain⟨LM,hLM⟩:∃LM,LM=l++m:=⟨_,rfl⟩;have hm:=hm2;rw[<-hLM]at hp;have y9:LM.length=l.length+m.length:=by simp_all
 refine Em (Yy ⟨[],[(14,3)],[(10,1)],[(34,[12000,12500])],[],[],[],[],[],[],[6,7,8,9,11,13,14,15,16,17,18,19,21]⟩) rfl Bu Go.Eng.hm rfl Tryz.func34 aa0 rfl (Nz rfl) aa0 (Xi (.gen [] 1) (Yi rfl (AW.to2 (sn l hl) ?_)));refine Xi (.gen [] 1) (Yi rfl (AW.to2 (sn m hm) ?_));refine cU [(0,sl Ah l),(1,sl Ah m),(6,.mref 12000),(8,.mref 12500),(10,.msl 10 0)] [(10,.arr 1 []),(12000,.map BS (JO l)),(12500,.map BS (JO m))] Z5 Z3 (Xi (.gen [] 1) (Yi rfl (AW.to2 (nQ l hl.few) ?_)));have b4:BJ 4 (m.map Ah)/\(l.map Ah).length=(l.map Ah).length/\((l.map Ah).length+(m.map Ah).length)*40<=140737488355328/\(l.map Ah).length+(m.map Ah).length<=9223372036854775807:=⟨(Df (enc:=Ah) (n:=4) (fun _=>rfl) m),rfl,(by grind),(by grind)⟩;refine Yi b4 (Xi {q:Nat×List ByteArray // q.1<=LM.length/\q.2=(LM.take q.1).map (·.path)} (Xi (fun q=>⟨[(6,.mref 12000),(8,.mref 12500),(10,.msl 10 q.1.2.length),(37,.slice (.id 13500 4) (LM.map Ah)),(38,vi (LM.length:Nat)),(39,vi q.1.1)],[(10,.arr 1 (q.1.2.map CQ)),(12000,.rom BS (JO l)),(12500,.rom BS (JO m)),(13500,.tok 4 LM.length)],Ab⟩) (Xi (fun q=>LM.length-q.1.1) (Yi (Xi ⟨(0,[]),Ar _,rfl⟩ ?_) ?_))))
 .exact⟨⟨Zr,Zr,Zr,⟨(show AV.slice (.id 13500 4) (l.map Ah++m.map Ah)=.slice (.id 13500 4) (LM.map Ah) by simp_all),rfl⟩,⟨(show vi ((l.map Ah++m.map Ah:List (List AV)).length:Int)=vi ((LM.length:Nat):Int) by simp_all),rfl⟩,Zr,Tv⟩,⟨Zr,Zr,Zr,⟨(show HO.tok 4 ((l.map Ah).length+(m.map Ah).length)=.tok 4 LM.length by simp_all),rfl⟩,Tv⟩,Fh,Tv⟩
 intro⟨⟨i,P⟩,i1,i2⟩;have i2:P=(LM.take i).map (·.path):=i2;have i3:P.length<=i:=by simp_all
 refine cU [(6,.mref 12000),(8,.mref 12500),(10,.msl 10 P.length),(37,.slice (.id 13500 4) (LM.map Ah)),(38,vi (LM.length:Nat)),(39,vi i)] [(10,.arr 1 (P.map CQ)),(12000,.rom BS (JO l)),(12500,.rom BS (JO m)),(13500,.tok 4 LM.length)] Z6 Z4 (Yi (fun h5=>?_) (fun h5=>?_))
 .have n5:i<LM.length:=by omega
  refine cU [(6,.mref 12000),(8,.mref 12500),(10,.msl 10 P.length),(37,.slice (.id 13500 4) (LM.map Ah)),(38,vi (LM.length:Nat)),(39,vi i)] [(10,.arr 1 (P.map CQ)),(12000,.rom BS (JO l)),(12500,.rom BS (JO m)),(13500,.tok 4 LM.length)] Z6 Z4 (Xi (Ah LM[i]) (Yi (N0 n5) (Yi rfl (yN (yN (cU [(6,.mref 12000),(8,.mref 12500),(10,.msl 10 P.length),(12,.ref 12 0),(37,.slice (.id 13500 4) (LM.map Ah)),(38,vi (LM.length:Nat)),(39,vi i)] [(10,.arr 1 (P.map CQ)),(12,.cells (Ah LM[i])),(12000,.rom BS (JO l)),(12500,.rom BS (JO m)),(13500,.tok 4 LM.length)] Z7 Z5 ?_))))))
  have b6:BJ 1 [[vs LM[i].path]]/\(P.map CQ).length=P.length/\((P.map CQ).length+([[vs LM[i].path]]:List (List AV)).length)*16<=140737488355328/\(P.map CQ).length+([[vs LM[i].path]]:List (List AV)).length<=9223372036854775807:=⟨⟨rfl,trivial⟩,(by simp_all),(by grind),(by grind)⟩;refine Yi b6 (Yi (by grind [AQ]) (Xi ⟨(i+1,P++[LM[i].path]),n5,by show P++[LM[i].path]=_;rw[L8 n5,Bm,i2];rfl⟩ ?_));exact⟨Dl LM.length i ch,⟨Zr,Zr,⟨(show AV.msl 10 ((P.map CQ).length+([[vs LM[i].path]]:List (List AV)).length)=.msl 10 (P++[LM[i].path]).length by simp_all),rfl⟩,Zr,Zr,Zr,Tv⟩,⟨⟨(show HO.arr 1 (P.map CQ++[[vs LM[i].path]])=.arr 1 ((P++[LM[i].path]).map CQ) by simp_all),rfl⟩,Zr,Zr,Zr,Tv⟩,Fh,Tv⟩
 have hPe:P=LM.map (·.path):=by grind
 have hPf:Cr P:=by omega
 have za:P≠[]:=fun e=>by grind
 have hPt:t.length=P.length:=by rw[hPe];exact hp.length_eq
 have ue:t.length<=1073741824:=by omega
 have z6:t≠[]:=fun e=>za (AI (by simp_all));have hcl:(BT t).length<=t.length:=by unfold BT;rw[Lm];exact AH (PJ _) (by grind)
 refine cU [(6,.mref 12000),(8,.mref 12500),(10,.msl 10 P.length)] [(10,.arr 1 (P.map CQ)),(12000,.rom BS (JO l)),(12500,.rom BS (JO m))] Z3 Z3 (Xi (.gen [(10,1000)] 0) (Yi rfl (AW.to2 (xz P t hPf za (by grind) ht) ?_)));refine cU [(6,.mref 12000),(8,.mref 12500),(10,.msl 10 P.length),(13,.v (.func (.func 78) #[] #[]))] [(10,.arr 1 (t.map CQ)),(12000,.rom BS (JO l)),(12500,.rom BS (JO m))] Z4 Z3 (cU [(6,.mref 12000),(8,.mref 12500),(10,.msl 10 t.length),(13,.v (.func (.func 78) #[] #[])),(14,.slice (.id 14 3) [])] [(10,.arr 1 (t.map CQ)),(14,.tok 3 0),(12000,.rom BS (JO l)),(12500,.rom BS (JO m))] ⟨Zr,Zr,⟨(Aa (AV.msl 10) hPt.symm),rfl⟩,Zr,Zr,Tv⟩ Z4 (Xi (.gen [(10,1000)] 1) (Yi rfl (AW.to2 (xA t ch z6) ?_))));refine Xi {q:Nat×List Mv // q.1<=(BT t).length/\q.2=M2 l m ((BT t).take q.1)} (Xi (fun q=>⟨[(6,.mref 12000),(8,.mref 12500),(13,.v (.func (.func 78) #[] #[])),(14,.slice (.id 14 3) (q.1.2.map Fy)),(52,.msl 15200 (BT t).length),(53,vi (BT t).length),(54,vi q.1.1)],[(14,.tok 3 q.1.2.length),(12000,.rom BS (JO l)),(12500,.rom BS (JO m)),(15200,.arr 1 ((BT t).map CQ))],Ab⟩) (Xi (fun q=>(BT t).length-q.1.1) (Yi (Xi ⟨(0,[]),Ar _,rfl⟩ ?_) ?_)))
 .exact⟨Z7,Z4,Fh,Tv⟩
 intro⟨⟨k,O⟩,k1,k2⟩;have k2:O=M2 l m ((BT t).take k):=k2;have k3:O.length<=k:=by grind
 refine cU [(6,.mref 12000),(8,.mref 12500),(13,.v (.func (.func 78) #[] #[])),(14,.slice (.id 14 3) (O.map Fy)),(52,.msl 15200 (BT t).length),(53,vi (BT t).length),(54,vi k)] [(14,.tok 3 O.length),(12000,.rom BS (JO l)),(12500,.rom BS (JO m)),(15200,.arr 1 ((BT t).map CQ))] Z7 Z4 (Yi (fun NT=>?_) (fun NT=>?_))
 .have nb:k<(BT t).length:=by omega
  have n10:=nb;have gb:(BT t)[k]?=some (BT t)[k]:=Ge nb;refine cU [(6,.mref 12000),(8,.mref 12500),(13,.v (.func (.func 78) #[] #[])),(14,.slice (.id 14 3) (O.map Fy)),(52,.msl 15200 (BT t).length),(53,vi (BT t).length),(54,vi k)] [(14,.tok 3 O.length),(12000,.rom BS (JO l)),(12500,.rom BS (JO m)),(15200,.arr 1 ((BT t).map CQ))] Z7 Z4 (Yi ch (Yi (show(BT t).length=((BT t).map CQ).length by grind) (Xi (CQ ((BT t)[k])) (Yi (EE gb) (cU [(6,.mref 12000),(8,.mref 12500),(13,.v (.func (.func 78) #[] #[])),(14,.slice (.id 14 3) (O.map Fy)),(16,vs ((BT t)[k])),(52,.msl 15200 (BT t).length),(53,vi (BT t).length),(54,vi k)] [(14,.tok 3 O.length),(12000,.rom BS (JO l)),(12500,.rom BS (JO m)),(15200,.arr 1 ((BT t).map CQ))] Z8 Z4 (Xi .pure (Xi _ (Yi (so l (BT t)[k] hl) (Xi .pure (Xi _ (Yi (so m (BT t)[k] hm) (yN (cU [(6,.mref 12000),(8,.mref 12500),(13,.v (.func (.func 78) #[] #[])),(14,.slice (.id 14 3) (O.map Fy)),(17,.ref 17 0),(52,.msl 15200 (BT t).length),(53,vi (BT t).length),(54,vi k)] [(14,.tok 3 O.length),(17,.cells [vs ((BT t)[k]),vi (QK l (BT t)[k]),vi (QK m (BT t)[k])]),(12000,.rom BS (JO l)),(12500,.rom BS (JO m)),(15200,.arr 1 ((BT t).map CQ))] Z8 Z5 (Yi (fun HI=>?_) (fun HI=>?_)))))))))))))))
  .refine cU [(6,.mref 12000),(8,.mref 12500),(13,.v (.func (.func 78) #[] #[])),(14,.slice (.id 14 3) (O.map Fy)),(17,.ref 17 0),(52,.msl 15200 (BT t).length),(53,vi (BT t).length),(54,vi k)] [(14,.tok 3 O.length),(17,.cells [vs ((BT t)[k]),vi (QK l (BT t)[k]),vi (QK m (BT t)[k])]),(12000,.rom BS (JO l)),(12500,.rom BS (JO m)),(15200,.arr 1 ((BT t).map CQ))] Z8 Z5 (yN (Yi (X2 rfl ch Wk) (Yi (Ii k ch) ?_)));have eO:=aH (l:=l) (m:=m) n10;have eM:VC l m (BT t)[k]=some ⟨(BT t)[k],(QK l (BT t)[k]),(QK m (BT t)[k])⟩:=A1 HI;rw[eM]at eO;refine Xi ⟨(k+1,(O++[(⟨(BT t)[k],(QK l (BT t)[k]),(QK m (BT t)[k])⟩:Mv)])),n10,by grind⟩ ?_;exact⟨by show(BT t).length-(k+1)<(BT t).length-k;omega,⟨Zr,Zr,Zr,⟨(show AV.slice (.id 14 3) (O.map Fy++[[vs (BT t)[k],vi (QK l (BT t)[k]),vi (QK m (BT t)[k])]])=.slice (.id 14 3) ((O++[(⟨(BT t)[k],(QK l (BT t)[k]),(QK m (BT t)[k])⟩:Mv)]).map Fy) by grind),rfl⟩,Zr,Zr,Zr,Tv⟩,⟨⟨hkA,rfl⟩,Zr,Zr,Zr,Tv⟩,Fh,Tv⟩
  have HI:((QK l (BT t)[k]):Int)=((QK m (BT t)[k]):Int):=AP HI;refine Yi (Ii k ch) ?_;have eO:=aH (l:=l) (m:=m) n10;have eM:VC l m (BT t)[k]=none:=AO (fun c=>c HI);rw[eM]at eO;rw[show(none:Option Mv).toList=[]from rfl,Dm]at eO;refine Xi ⟨(k+1,O),n10,by grind⟩ ?_;exact⟨by grind,Z7,Z4,Fh,Tv⟩
 refine cU [(14,.slice (.id 14 3) (O.map Fy))] [(14,.tok 3 O.length)] Z1 Z1 ?_
 have ek:(BT t).take k=BT t:=Bd ch;have eO:O=M2 l m (BT t):=by grind
 exact .of_eq (Aa (fun z=>AV.tup [sl Fy z,vi 0]) eO)
instance:DecidableEq Mv:=fun x y=>decidable_of_iff (x.path=y.path/\x.a=y.a/\x.b=y.b) ⟨fun⟨h1,h2,h3⟩=>by cases x;cases y;simp_all,fun h=>by subst h;exact⟨rfl,rfl,rfl⟩⟩
theorem si{a b:Mv}(h:a.path=b.path/\a.a=b.a/\a.b=b.b/\True):a=b:=by cases a;cases b;simp_all
theorem sj{a b:Mv}(h:¬(a.path=b.path/\a.a=b.a/\a.b=b.b/\True)):a≠b:=fun e=>h (by subst e;exact⟨rfl,rfl,rfl,trivial⟩)
theorem o35(a b:List Mv)(ha:Cr a):PC 35 [sl Fy a,sl Fy b] (vb (decide (a=b))):=by
 have ze:a.length<=1073741824:=ha;refine Ps D0 Tryz.func35 rfl (Nz rfl) (Yi (fun h1=>?_) (fun h1=>?_))
 .exact .of_eq (show vb false=vb (decide (a=b)) by rw[Av (fun e=>absurd (Aa (fun z=>((z.map Fy).length:Int)) e) h1)])
 have h1:((a.map Fy).length:Int)=((b.map Fy).length:Int):=AP h1;have hl:a.length=b.length:=by have q:=h1;rw[Lm,Lm]at q;omega
 refine Xi {q:Nat // q<=a.length/\∀j (hj:j<a.length),j<q->a[j]=b[j]'(hl▸hj)} (Xi (fun q=>⟨[(0,sl Fy a),(1,sl Fy b),(12,vi (a.map Fy).length),(13,vi q.1)],[],Ab⟩) (Xi (fun q=>a.length-q.1) (Yi (Xi ⟨0,Ar _,fun _ _ h=>absurd h (Dn _)⟩ ?_) ?_)))
 .exact⟨Z4,Tv,Fh,Tv⟩
 intro⟨i,i1,i2⟩;refine Yi (fun h3=>?_) (fun h3=>?_)
 .have h3:(i:Int)<((a.map Fy).length:Int):=h3;have n3:=Jb h3;have zx:i<b.length:=by have q:=h3;rw[Lm]at q;omega
  refine Xi (Fy a[i]) (Yi (N0 n3) (Yi rfl (yN (Xi (Fy b[i]) (Yi (N0 zx) (Yi rfl (yN (Yi (fun h4=>?_) (fun h4=>?_)))))))))
  .refine Yi aa0 (Yi (Ii i ch) ?_);refine Xi ⟨i+1,n3,fun j hj Jy=>if e:j<i then i2 j hj e else by
     have e:j=i:=by omega
     subst e;exact si h4⟩ ?_
   exact⟨Dl a.length i ch,Z4,Tv,Fh,Tv⟩
  refine Yi aa0 ?_;exact .of_eq (show vb false=vb (decide (a=b)) by rw[Av (qg (i:=i) (ha:=n3) (hb:=zx) (sj h4))])
 have h3:¬((i:Int)<((a.map Fy).length:Int)):=h3;have n3:=FS h3;exact .of_eq (show vb true=vb (decide (a=b)) by rw[As (lh hl fun j hj=>i2 j hj (by have q:=h3;rw[Lm]at q;omega))])
abbrev pa:ByteArray:=⟨#[97,47,118,49]⟩
abbrev pb:ByteArray:=⟨#[98,47,118,49]⟩
abbrev md(m:Int):Ver:=⟨1,m,0⟩
abbrev dE(m:Int)(q:List Rq)(y:Bool):Rl:=⟨p,md m,q,mt,mt,mt,y⟩
abbrev q40:List Rq:=[⟨pb,[(1000,1000000)]⟩]
abbrev Ow:List Rl:=[dE pa 0 q40 false,dE pb 0 [] false,dE pb 1 [] false,dE pb 2 [] true]
abbrev Oj:List Rq:=[⟨pa,[(0,1000000)]⟩]
abbrev yP:List Sl:=[⟨pa,md 0⟩,⟨pb,md 1⟩]
theorem qO:∀r∈Ow,Ir r:=
 Bi.2 ⟨⟨by decide,by decide⟩,Bi.2 ⟨⟨by decide,by decide⟩,Bi.2 ⟨⟨by decide,by decide⟩,Bi.2 ⟨⟨by decide,by decide⟩,Cb _⟩⟩⟩⟩
abbrev hJ:AV:=nzA
abbrev aX(b:Int)(y:Bool):List AV:=[vs p,vi 1,vi b,vi 0,hJ,vs mt,vs mt,vs mt,vb y]
abbrev pA:List AV:=[.slice .none [Al (dE pa 0 q40 false),aX pb 0 false,aX pb 1 false,aX pb 2 true],hJ]
theorem bq:DC (.agg pA) (IP Ow []):=
 have h (p:ByteArray) (b:Int) (y:Bool):KF (aX p b y) (Al (dE p b [] y)):=⟨.refl _,.refl _,.refl _,.refl _,.nil,.refl _,.refl _,.refl _,.refl _,trivial⟩
 DC.agg ⟨DC.slice ⟨.refl _,h pb 0 false,h pb 1 false,h pb 2 true,trivial⟩,.nil,trivial⟩
theorem lZ(m:Int)(h:m=1\/m=2):KQ [⟨pa,md 0⟩,⟨pb,md m⟩]:=by
 rcases h with rfl | rfl
 .exact⟨by decide,Bi.2 ⟨by decide,Bi.2 ⟨by decide,Cb _⟩⟩,.cons (Bi.2 ⟨by show EL pa pb=true;kernel_rfl,Cb _⟩) (.cons (Cb _) .nil)⟩
 .exact⟨by decide,Bi.2 ⟨by decide,Bi.2 ⟨by decide,Cb _⟩⟩,.cons (Bi.2 ⟨by show EL pa pb=true;kernel_rfl,Cb _⟩) (.cons (Cb _) .nil)⟩
end Go.Eng
namespace Go.Eng
/-! The empty workspace, and a workspace twice. -/
/-! What is merged. -/
/-! What a workspace makes of an index. -/
/-! What the solver selects. -/
/-! Releases whose names satisfy p get Yanked. -/
end Go.Eng
namespace Go.Eng
open Go.Proofs
theorem oW{x:List Rl}{roots:List Rq}(hx:x.length<=16)(h:TA x roots=0):Jd x roots=0/\dH x roots=(Db x roots).sel/\(∀y∈(Db x roots).sel,(Bg x y).isSome=true)/\(Db x roots).sel.length<=16:=by
 have hv:EF x roots=true:=by
  cases e:EF x roots with
  |true=>rfl
  |false=>
   have q:Jd x roots=1:=by unfold Jd;rw[AO (by rw[e];exact Bool.false_ne_true)]
   unfold TA at h;rw[q,A1 Wk]at h;cases h
 obtain⟨h0,hr⟩:=XY hv;have hA:=UC hv hx;have hf:(Db x roots).found=true:=by
  unfold TA at h;split at h
  .rename_i c;exact absurd h c
  .split at h
   .assumption
   .cases h
 have hc:=QT h0 hr (Kn (roots:=roots) hx);rw[<-hA]at hc;obtain⟨_,c1 | ⟨_,⟨l,hR⟩,_,_⟩⟩:=OI hc
 .rw[hf]at c1;exact absurd c1.1 Wk
 have RQ:=Hd hR.sol0.sel;have hI:Ox (Db x roots).sel:=(FR hR.sol0.inc).1;have hn:(Db x roots).sel.Nodup:=hI.imp fun {a b} h e=>by subst e;rw[CG]at h;cases h
 refine⟨Qf hv hx,by unfold dH;rw[A1 h],fun y hy=>by obtain⟨r,_,e⟩:=RQ.2.2 y hy;rw[e];rfl,AH (Cz (m:=x.map Dd) hn fun y hy=>?_) (by rw[Lm];exact hx)⟩;obtain⟨r,_,e⟩:=RQ.2.2 y hy;exact Ak.2 ⟨r,(CK e).2.1,(CK e).2.2⟩
end Go.Eng
namespace Go.Proofs
open Go.Shelf Go.RowKit Go.Lib Go.Sort Go.Eng
theorem new_heap(W:World)(o:Obj):(W.alloc o).heap[W.heap.size]? = some o := by
 show(W.heap.push o)[W.heap.size]? = _
 simp
set_option maxRecDepth 100000 in
theorem ye_unsigned(W:World):Calls Tryz.prog 439 #[.int .u64 0] W fun e w' => e = .returned (.string ⟨#[0]⟩) /\ Below W.heap.size W w' := by
 have hcv := fun c w hc => run_convert_bytes_back (P := Tryz.prog) w 296 9 5 ⟨W.heap.size + 1,0,none⟩ c [0] Tryz.underlying296 Tryz.underlying5 Tryz.underlying9 hc
 go_enter Tryz.func439,Tryz.ntmps439
 go_wp2
 go_loop [0,3] (fun i s => i = Value.int .u64 0 /\ s = Value.slice none 0 0) (fun _ _ => 0)
 case atStart => exact⟨rfl,rfl⟩
 case round=>
  obtain⟨rfl,rfl⟩ := hrel
  go_wp2
  generalize (Question.appendCap 1 0 5).cut (W.tape W.drawn (Question.appendCap 1 0 5)) = c
  have q := hcv c ((W.alloc (.cells #[.int .u8 0] 5)).alloc (.cells (#[.int .u8 0] ++ Builtin.zeroCells #[.int .u8 0] (c-1)) 5)).drew (fun j hj => by
   have hj:j<1 := hj
   obtain rfl:j = 0 := by omega
   rw[show(⟨W.heap.size + 1,0,none⟩:Addr).add 0 = ⟨W.heap.size + 1,0,none⟩from rfl,Lib.cell_of_heap (cs := #[.int .u8 0] ++ Builtin.zeroCells #[.int .u8 0] (c-1)) (T := 5) (fr := (0,0)) (show((W.heap.push _).push _)[W.heap.size + 1]? = _ by rw[Array.getElem?_push,if_pos B0])]
   rw[Array.getElem?_append_left Wk];rfl)
  rw[show([0]:List UInt8).length = 1 from rfl]at q
  rw[q]
  go_wp2
  go_ret
  refine⟨rfl,?_⟩
  exact(((Below.refl _ W).alloc (Nat.le_refl _) _).alloc B0 _).drew
theorem ye_uint(W:World):Calls Tryz.prog 437 #[.int .i64 0] W fun e w' => e = .returned (.tuple #[.string ⟨#[0]⟩,.int .i64 0]) /\ Below W.heap.size W w' := by
 go_enter Tryz.func437,Tryz.ntmps437
 go_wp2_with (go_at_call 439;refine(ye_unsigned _).mono ?_;rintro e w' ⟨rfl,hb⟩)
 go_ret2
 exact⟨rfl,hb⟩
structure WrB(B:Nat)(A:Nat)(w w' : World):Prop where
 os:w'.os = w.os
 tape:w'.tape = w.tape
 output:w'.output = w.output
 size:w.heap.size <= w'.heap.size
 block:∀k,k<B -> k ≠ A -> w'.heap[k]? = w.heap[k]?
theorem WrB.alloc{A:Nat}{w w' : World}{o:Obj}(h:WrB (w.alloc o).heap.size A (w.alloc o) w'):WrB w.heap.size A w w':=
 have e:(w.alloc o).heap.size = w.heap.size + 1 := by simp
 ⟨h.os,h.tape,h.output,by have := h.size;omega,fun k hk hn => (h.block k ch hn).trans (Below.heap_alloc _ _ _ hk)⟩
abbrev wrO(s:ByteArray):Obj := .cells #[.string s] 121 (0,0)
theorem ye_number(A:Nat)(p:Addr)(s:ByteArray)(hs:s.size <= 1000)(W:World)(hA:W.heap[A]? = some (wrO s))(hp:W.cell? p = some (.int .i64 0)) :
  Calls Tryz.prog 435 #[.pointer (some ⟨A,0,none⟩),.pointer (some p)] W fun e w' => e = .returned (.tuple #[]) /\ w'.heap[A]? = some (wrO (s ++ ⟨#[0]⟩)) /\ WrB W.heap.size A W w' := by
 have Ez:A<W.heap.size := (Array.getElem?_eq_some_iff.1 hA).1
 have hk:((s.size + (⟨#[0]⟩:ByteArray).size:Nat):Int) <= 9223372036854775807 := by
  have:(⟨#[0]⟩:ByteArray).size = 1 := rfl
  omega
 go_enter Tryz.func435,Tryz.ntmps435
 go_wp2_with (go_at_call 437;refine(ye_uint _).mono ?_;rintro e w' ⟨rfl,hb⟩;have oc : w'.heap[A]? = some (wrO s) := (hb.block A Ez).trans hA;have c1:w'.cell? ⟨A,0,none⟩ = some (.string s) := Lib.cell_of_heap oc 0;have c2 := Lib.frozen_of_heap oc 0)
 refine bodyPost_end (results_none rfl _ _ _) rfl ⟨rfl,?_,?_⟩
 .show(w'.heap.modify A _)[A]? = _
  rw[Array.getElem?_modify,if_pos rfl,oc];rfl
 .exact⟨hb.os,hb.tape,hb.output,by simp[World.setCell];exact hb.size,fun k hk DT => (Below.heap_setCell _ _ _ _ DT).trans (hb.block k hk)⟩
theorem ye_count(A:Nat)(s:ByteArray)(hs:s.size <= 1000)(W:World)(hA:W.heap[A]? = some (wrO s)) :
  Calls Tryz.prog 434 #[.pointer (some ⟨A,0,none⟩),.int .i64 0] W fun e w' => e = .returned (.int .i64 0) /\ w'.heap[A]? = some (wrO (s ++ ⟨#[0]⟩)) /\ WrB W.heap.size A W w' := by
 have Ez:A<W.heap.size := (Array.getElem?_eq_some_iff.1 hA).1
 go_enter Tryz.func434,Tryz.ntmps434
 go_wp2_with (go_at_call 435;refine(ye_number A ⟨W.heap.size,0,none⟩ s hs _ ((Below.heap_alloc _ _ _ Ez).trans hA) (Lib.cell_of_heap (new_heap _ _) 0)).mono ?_;rintro e w' ⟨rfl,oc,hb⟩;have c1:w'.cell? ⟨W.heap.size,0,none⟩ = some (.int .i64 0) := Lib.cell_of_heap ((hb.block _ B0 ch).trans (new_heap _ _)) 0)
 go_ret
 exact⟨rfl,oc,hb.alloc⟩
theorem ye_n (a : Addr) (w : World) : (nilAhead 601 119 (.pointer (some a)) "modcert/lock.count").run Tryz.prog w = .ok (some false) w := by kernel_rfl
theorem ye_m (a : Addr) (w : World) : (method 601 119 (.pointer (some a)) "modcert/lock.count").run Tryz.prog w = .ok (434, .pointer (some a)) w := by kernel_rfl
theorem ye_t(a:Addr)(w:World):(Instr.typeAssert (.iface 119 (.pointer (some a))) 197 124 true).run Tryz.prog w = .ok (.tuple #[.pointer none,.bool false]) w := by kernel_rfl
theorem WrB.cell{A B k:Nat}{w w' : World}(h:WrB w.heap.size A w w')(hB:B ≠ A){v:Value}(hv:w.cell? ⟨B,k,none⟩ = some v):w'.cell? ⟨B,k,none⟩ = some v := by
 have Ez:B<w.heap.size := by
  rcases Nat.lt_or_ge B w.heap.size with q | q
  .exact q
  .simp[World.cell?,Array.getElem?_eq_none q]at hv
 rw[<-hv]
 simp only[World.cell?,h.block B Ez hB]
set_option maxRecDepth 100000 in
theorem ye_list120(A B k:Nat)(F:Value)(s:ByteArray)(hs:s.size <= 1000)(hB:B ≠ A)(W:World)(hA:W.heap[A]? = some (wrO s))(hp:W.cell? ⟨B,k,none⟩ = some (.slice none 0 0)) :
  Calls Tryz.prog 120 #[.iface 119 (.pointer (some ⟨A,0,none⟩)),.pointer (some ⟨B,k,none⟩),F] W fun e w' => e = .returned (.tuple #[]) /\ w'.heap[A]? = some (wrO (s ++ ⟨#[0]⟩)) /\ WrB W.heap.size A W w' := by
 have n1 := ye_n ⟨A,0,none⟩
 have m1 := ye_m ⟨A,0,none⟩
 have t1 := ye_t ⟨A,0,none⟩
 go_enter Tryz.func120,Tryz.ntmps120
 go_wp2
 go_region_with (go_at_call 434;refine(ye_count A s hs W.drew hA).mono ?_;rintro e w2 ⟨rfl,co,hb⟩;have w7 := hb.cell hB hp)
 go_wp2
 all_goals
  go_loop [56] (fun i => i = Value.int .i64 0) (fun _ => 0)
  case atStart => rfl
  case round=>
   subst hrel
   go_wp2
   exact bodyPost_end (results_none rfl _ _ _) rfl ⟨rfl,co,hb.os,hb.tape,hb.output,hb.size,hb.block⟩
set_option maxRecDepth 100000 in
theorem ye_list125(A B k:Nat)(F:Value)(s:ByteArray)(hs:s.size <= 1000)(hB:B ≠ A)(W:World)(hA:W.heap[A]? = some (wrO s))(hp:W.cell? ⟨B,k,none⟩ = some (.slice none 0 0)) :
  Calls Tryz.prog 125 #[.iface 119 (.pointer (some ⟨A,0,none⟩)),.pointer (some ⟨B,k,none⟩),F] W fun e w' => e = .returned (.tuple #[]) /\ w'.heap[A]? = some (wrO (s ++ ⟨#[0]⟩)) /\ WrB W.heap.size A W w' := by
 have n1 := ye_n ⟨A,0,none⟩
 have m1 := ye_m ⟨A,0,none⟩
 have t1 := ye_t ⟨A,0,none⟩
 go_enter Tryz.func125,Tryz.ntmps125
 go_wp2
 go_region_with (go_at_call 434;refine(ye_count A s hs W.drew hA).mono ?_;rintro e w2 ⟨rfl,co,hb⟩;have w7 := hb.cell hB hp)
 go_wp2
 all_goals
  go_loop [56] (fun i => i = Value.int .i64 0) (fun _ => 0)
  case atStart => rfl
  case round=>
   subst hrel
   go_wp2
   exact bodyPost_end (results_none rfl _ _ _) rfl ⟨rfl,co,hb.os,hb.tape,hb.output,hb.size,hb.block⟩
set_option maxRecDepth 100000 in
theorem ye_list127(A B k:Nat)(F:Value)(s:ByteArray)(hs:s.size <= 1000)(hB:B ≠ A)(W:World)(hA:W.heap[A]? = some (wrO s))(hp:W.cell? ⟨B,k,none⟩ = some (.slice none 0 0)) :
  Calls Tryz.prog 127 #[.iface 119 (.pointer (some ⟨A,0,none⟩)),.pointer (some ⟨B,k,none⟩),F] W fun e w' => e = .returned (.tuple #[]) /\ w'.heap[A]? = some (wrO (s ++ ⟨#[0]⟩)) /\ WrB W.heap.size A W w' := by
 have n1 := ye_n ⟨A,0,none⟩
 have m1 := ye_m ⟨A,0,none⟩
 have t1 := ye_t ⟨A,0,none⟩
 go_enter Tryz.func127,Tryz.ntmps127
 go_wp2
 go_region_with (go_at_call 434;refine(ye_count A s hs W.drew hA).mono ?_;rintro e w2 ⟨rfl,co,hb⟩;have w7 := hb.cell hB hp)
 go_wp2
 all_goals
  go_loop [56] (fun i => i = Value.int .i64 0) (fun _ => 0)
  case atStart => rfl
  case round=>
   subst hrel
   go_wp2
   exact bodyPost_end (results_none rfl _ _ _) rfl ⟨rfl,co,hb.os,hb.tape,hb.output,hb.size,hb.block⟩
set_option maxRecDepth 100000 in
theorem ye_list129(A B k:Nat)(F:Value)(s:ByteArray)(hs:s.size <= 1000)(hB:B ≠ A)(W:World)(hA:W.heap[A]? = some (wrO s))(hp:W.cell? ⟨B,k,none⟩ = some (.slice none 0 0)) :
  Calls Tryz.prog 129 #[.iface 119 (.pointer (some ⟨A,0,none⟩)),.pointer (some ⟨B,k,none⟩),F] W fun e w' => e = .returned (.tuple #[]) /\ w'.heap[A]? = some (wrO (s ++ ⟨#[0]⟩)) /\ WrB W.heap.size A W w' := by
 have n1 := ye_n ⟨A,0,none⟩
 have m1 := ye_m ⟨A,0,none⟩
 have t1 := ye_t ⟨A,0,none⟩
 go_enter Tryz.func129,Tryz.ntmps129
 go_wp2
 go_region_with (go_at_call 434;refine(ye_count A s hs W.drew hA).mono ?_;rintro e w2 ⟨rfl,co,hb⟩;have w7 := hb.cell hB hp)
 go_wp2
 all_goals
  go_loop [56] (fun i => i = Value.int .i64 0) (fun _ => 0)
  case atStart => rfl
  case round=>
   subst hrel
   go_wp2
   exact bodyPost_end (results_none rfl _ _ _) rfl ⟨rfl,co,hb.os,hb.tape,hb.output,hb.size,hb.block⟩
theorem WrB.trans{A:Nat}{a b c:World}(h:WrB a.heap.size A a b)(k:WrB b.heap.size A b c):WrB a.heap.size A a c:=
 ⟨k.os.trans h.os,k.tape.trans h.tape,k.output.trans h.output,Nat.le_trans h.size k.size,fun i hi hn => (k.block i (Nat.lt_of_lt_of_le hi h.size) hn).trans (h.block i hi hn)⟩
set_option maxRecDepth 100000 in
theorem ye_parts(A B:Nat)(hB:B ≠ A)(W:World)(hA:W.heap[A]? = some (wrO ⟨#[]⟩))(p0:W.cell? ⟨B,0,none⟩ = some (.slice none 0 0))(p1:W.cell? ⟨B,1,none⟩ = some (.slice none 0 0))(p2:W.cell? ⟨B,2,none⟩ = some (.slice none 0 0))(p3:W.cell? ⟨B,3,none⟩ = some (.slice none 0 0)) :
  Calls Tryz.prog 63 #[.iface 119 (.pointer (some ⟨A,0,none⟩)),.pointer (some ⟨B,0,none⟩)] W fun e w' => e = .returned (.tuple #[]) /\ w'.heap[A]? = some (wrO ⟨#[0,0,0,0]⟩) /\ WrB W.heap.size A W w' := by
 go_enter Tryz.func63,Tryz.ntmps63
 go_wp2_with (first | (go_at_call 120;refine(ye_list120 A B 0 _ ⟨#[]⟩ Wk hB _ hA p0).mono ?_;rintro e w1 ⟨rfl,mv,b1⟩) | (go_at_call 125;refine(ye_list125 A B 1 _ _ Wk hB _ mv (b1.cell hB p1)).mono ?_;rintro e w2 ⟨rfl,co,b2⟩;have c2 := b1.trans b2) | (go_at_call 127;refine(ye_list127 A B 2 _ _ Wk hB _ co (c2.cell hB p2)).mono ?_;rintro e w3 ⟨rfl,hA3,b3⟩;have c3 := c2.trans b3) | (go_at_call 129;refine(ye_list129 A B 3 _ _ Wk hB _ hA3 (c3.cell hB p3)).mono ?_;rintro e w4 ⟨rfl,hA4,b4⟩))
 exact bodyPost_end (results_none rfl _ _ _) rfl ⟨rfl,hA4,c3.trans b4⟩
end Go.Proofs
namespace Go.Proofs
open Go.Shelf Go.RowKit Go.Lib Go.Sort Go.Eng
theorem below_of{f:Nat}{args:List AV}{res:AV}{vals:Array Value}{W:World}(hc:PC f args res)(hM:∃m,W.cell? ⟨0,0,none⟩ = some (.int .i64 m))(hs:vals.size = args.length)
  (hr:∀(i:Nat) (av:AV) (x:Value),args[i]? = some av -> vals[i]? = some x -> AT (ci W) W ES av x):Calls Tryz.prog f vals W fun e W' => (∃v g' U,e = .returned v /\ AT g' W' U res v) /\ Below W.heap.size W W' := by
 refine(hc.2 (ci W) W vals hs (fun i av x q1 q2 => (hr i av x q1 q2).up _) (mQ hM (fun _ h => by cases h))).mono fun e W' ⟨v,r,h',g',e1,e2,e3,e4,_⟩ => ?_
 subst e1
 obtain⟨rfl,rfl⟩ := e2
 exact⟨⟨v,_,_,rfl,e3⟩,e4.os,e4.tape,e4.output,e4.size,fun b hb => e4.frame b hb (fun r h => h.elim)⟩
abbrev nilV9:Value := .slice none 0 0
abbrev nilA9:AV := .v nilV9
abbrev zLk:Lk := ⟨[],[],[],[]⟩
theorem ye_form0:PC 48 [.agg [nilA9,nilA9,nilA9,nilA9]] (vb true):=
 (jn zLk (fun _ h => by cases h) (fun _ h => by cases h) (Nat.zero_le _) (Nat.zero_le _) (Nat.zero_le _)).args ⟨.agg ⟨.nil,.nil,.nil,.nil,trivial⟩,trivial⟩
theorem ye_formed(W:World)(hM:∃m,W.cell? ⟨0,0,none⟩ = some (.int .i64 m)):Calls Tryz.prog 48 #[.agg #[nilV9,nilV9,nilV9,nilV9]] W fun e w' => e = .returned (.bool true) /\ Below W.heap.size W w' := by
 refine(below_of (vals := #[.agg #[nilV9,nilV9,nilV9,nilV9]]) ye_form0 hM rfl (fun i av x e1 e2 => ?_)).mono fun e W' ⟨⟨v,g',U,e1,e2⟩,hb⟩ => ⟨by rw[e1,e2.v_eq],hb⟩
 match i with
 |0=>
  cases e1;cases e2
  exact .agg _ _ _ rfl (fun j x h => by
   match j with
   |0 |1 |2 |3 => cases h;rfl
   |_ + 4 => simp at h) fun j av x h1 h2 => by
   match j with
   |0 |1 |2 |3 => cases h1;cases h2;exact .v _ _
   |_ + 4 => simp at h1
 |_ + 1 => simp at e1
set_option maxRecDepth 100000 in
theorem ye_encode(W:World)(hM:∃m,W.cell? ⟨0,0,none⟩ = some (.int .i64 m)):Calls Tryz.prog 27 #[.agg #[nilV9,nilV9,nilV9,nilV9]] W fun e w' => e = .returned (.tuple #[.string ⟨#[0,0,0,0]⟩,.int .i64 0]) /\ Below W.heap.size W w' := by
  obtain⟨m,hM⟩ := hM
  obtain⟨W1,dY⟩:∃W1,W1 = W.alloc (.cells #[nilV9,nilV9,nilV9,nilV9] 33) := ⟨_,rfl⟩
  have b1:Below W.heap.size W W1 := by rw[dY];exact(Below.refl _ W).alloc (Nat.le_refl _) _
  have z1:W1.heap.size = W.heap.size + 1 := by rw[dY];simp
  have k1:W1.heap[W.heap.size]? = some (.cells #[nilV9,nilV9,nilV9,nilV9] 33) := by rw[dY];exact new_heap _ _
  have m1:∃m,W1.cell? ⟨0,0,none⟩ = some (.int .i64 m) := ⟨m,by
    rw[<-hM];simp only[World.cell?,b1.block 0 (U8 hM)]⟩
  have HW:Hid _ := dY
  go_enter Tryz.func27,Tryz.ntmps27
  go_wp2_with (first
    |(go_at_call 48;rw[<-HW.out];refine(ye_formed _ m1).mono ?_;rintro e w2 ⟨rfl,b2⟩;have k2:w2.heap[W.heap.size]? = some (.cells #[nilV9,nilV9,nilV9,nilV9] 33) := (b2.block _ ch).trans k1;have z2:W.heap.size<w2.heap.size := (by have := b2.size;omega);have k3 := (Below.heap_alloc w2 (wrO ⟨#[]⟩) _ z2).trans k2)
    |(go_at_call 63;refine(ye_parts w2.heap.size W.heap.size ch _ (new_heap _ _) (Lib.cell_of_heap k3 0) (Lib.cell_of_heap k3 1) (Lib.cell_of_heap k3 2) (Lib.cell_of_heap k3 3)).mono ?_;rintro e w4 ⟨rfl,hA4,b4⟩;have c4:w4.cell? ⟨w2.heap.size,0,none⟩ = some (.string ⟨#[0,0,0,0]⟩) := Lib.cell_of_heap hA4 0))
  go_ret2
  have z4:(w2.alloc (wrO ⟨#[]⟩)).heap.size = w2.heap.size + 1 := by simp
  exact⟨rfl,(b1.trans (b2.mono ch)).trans ⟨b4.os,b4.tape,b4.output,by have := b4.size;omega,fun k hk => (b4.block k ch ch).trans (Below.heap_alloc _ _ _ ch)⟩⟩
theorem ye_enc0:PC 27 [.agg [nilA9,nilA9,nilA9,nilA9]] (.tup [Go.Eng.vs ⟨#[0,0,0,0]⟩,vi 0]) := by
 refine⟨ZX 27 Tryz.func27 aa0 rfl,fun g w us hs hv hI => ?_⟩
 have hs:us.size = 1 := hs
 have hu:us = #[.agg #[nilV9,nilV9,nilV9,nilV9]] := by
  have h0 := hv 0 _ (us[0]' ch) rfl (Array.getElem?_eq_getElem ch)
  refine Array.ext hs fun i i1 i2 => ?_
  obtain rfl:i = 0 := by omega
  generalize us[0] = u at h0
  cases h0 with
  |agg _ _ vs k1 k2 k3=>
   have k1:vs.size = 4 := k1
   show Value.agg vs = .agg #[nilV9,nilV9,nilV9,nilV9]
   refine congrArg Value.agg (Array.ext k1 fun j j1 j2 => ?_)
   have q := k3 j
   match j with
   |0 |1 |2 |3 => exact(q _ _ rfl (Array.getElem?_eq_getElem j1)).v_eq
   |_ + 4 => omega
 subst hu
 refine(ye_encode w hI.glob.1.2).mono ?_
 rintro e w' ⟨rfl,q⟩
 have hK:En g w g w' := fun b o hb => by
  grind [World.cell?,Cm.slt,Go.RowKit.Below.block]
 refine⟨_,_,Ab,g,rfl,⟨rfl,rfl⟩,.tup _ _ _ rfl fun i av x e1 e2 => ?_,⟨q.os,q.tape,q.output,q.size,fun b hb _ => q.block b hb,fun b o hs => Nat.lt_of_lt_of_le (hI.slt b o hs) q.size,fun _ => trivial,fun _ _ _ h => h.elim,fun _ _ h => h.elim,fun b o hs => .inl hs,hI.glob.keep hK⟩,⟨.refl _ _,fun _ h => h,hK⟩⟩
 match i with
 |0 |1 => cases e1;cases e2;exact .v _ _
 |_ + 2 => simp at e1
end Go.Proofs
namespace Go.Eng
open Go.Proofs
abbrev ir:ByteArray:=⟨#[99,47,118,49]⟩
abbrev yU:List Lo:=[⟨pa,md 0,mt,mt⟩,⟨pb,md 1,mt,mt⟩]
abbrev xB:List Sl:=[⟨pa,md 0⟩,⟨ir,md 2⟩]
abbrev uk:List Mv:=[⟨pb,1000,-1⟩,⟨ir,-1,2000⟩]
abbrev p6:Lk:=⟨Oj,yU,(Db Ow Oj).infs,(Db Ow Oj).skips⟩
theorem oT:ul Ow Oj (Db Ow Oj)=p6:=Aa (fun e=>Lk.mk Oj e (Db Ow Oj).infs (Db Ow Oj).skips) (show(Db Ow Oj).sel.map (GL Ow)=yU by kernel_rfl)
theorem qN:HY p6:=⟨by kernel_rfl,by kernel_rfl,by kernel_rfl,by kernel_rfl,by decide,DB aa0,DB aa0⟩
theorem lY:KQ xB:=
 ⟨by decide,Bi.2 ⟨by decide,Bi.2 ⟨by decide,Cb _⟩⟩,.cons (Bi.2 ⟨by show EL pa ir=true;kernel_rfl,Cb _⟩) (.cons (Cb _) .nil)⟩
theorem pB(m:Int):PC 33 [vi m] (.agg [vi 1,vi m,vi 0]):=by
 refine Ps D0 Tryz.func33 rfl (Nz rfl) (yN (yN ?_));exact .refl _
theorem br  : PC 9 [] (vb true):=by
 have hq:∀q∈Oj,KL q:=Bi.2 ⟨⟨by decide,by decide⟩,Cb _⟩;have gD:∀r∈Ow,Cr r.reqs:=Bi.2 ⟨by decide,Bi.2 ⟨by decide,Bi.2 ⟨by decide,Bi.2 ⟨by decide,Cb _⟩⟩⟩⟩;have L:UQ Ow Oj:=⟨by decide,by decide,fun r hr=>⟨gD r hr,qO r hr⟩,hq⟩;have hx:Ow.length<=16:=by decide
 have hs:(Er Ow 16&&CE Oj)=true:=by kernel_rfl
 have c0:TA Ow Oj=0:=by kernel_rfl
 obtain⟨u1,u2,u3,u4⟩:=oW hx c0;have mS:=s16 Ow [] Oj L.x L.rq;rw[c0]at mS;have xu:PC 38 [IP Ow [],sl Ac Oj] (.tup [.agg (IS (Db Ow Oj)),vi 0]):=by have q:=yt Ow [] Oj L.x L.rq;unfold VQ at q;rw[u1]at q;exact q
 have pZ:=(m9 Ow [] Oj (Db Ow Oj) _ mS xu (fun p v=>tx Ow [] p v (L.c84 []) L.x) u3 (fun q hq=>(L.rq q hq).1) (aa hs) ch).args (args':=[.agg pA,sl Ac Oj]) ⟨bq,.refl _,trivial⟩;rw[oT]at pZ;have k18:=(N1 (ifs:=[]) (l:=p6) L hs qN).args (args':=[.agg pA,.agg (Dj p6)]) ⟨bq,.refl _,trivial⟩;rw[show LF Ow p6=0 by kernel_rfl]at k18;have xt:=jp p6 Wk;have k34:=o75 yP xB [pa,pa,pb,ir] (lZ 1 (.inl rfl)) lY Wk Wk (.cons _ (.swap _ _ _)) Wk;rw[show M2 yP xB (BT [pa,pa,pb,ir])=uk by kernel_rfl]at k34;have k35:=o35 uk uk Wk;rw[As rfl]at k35;refine Ps (pC [3,4] [4,5,7,8]) Tryz.func9 rfl (Nz rfl) (Xi .pure (Xi _ (Yi (pB 0) (Xi .pure (Xi _ (Yi (pB 0) (Xi .pure (Xi _ (Yi (pB 1) (Xi .pure (Xi _ (Yi (pB 2) (yN (cU [(1,.v (.func (.func 33) #[] #[])),(3,.ref 3 0)] [(3,.ro [.slice .none [[vs ⟨#[97,47,118,49]⟩,vi 1,vi 0,vi 0,.slice .none [[vs ⟨#[98,47,118,49]⟩,.slice .none [[vi 1000,vi 1000000]]]],vs ⟨#[]⟩,vs ⟨#[]⟩,vs ⟨#[]⟩,vb false],[vs ⟨#[98,47,118,49]⟩,vi 1,vi 0,vi 0,nzA,vs ⟨#[]⟩,vs ⟨#[]⟩,vs ⟨#[]⟩,vb false],[vs ⟨#[98,47,118,49]⟩,vi 1,vi 1,vi 0,nzA,vs ⟨#[]⟩,vs ⟨#[]⟩,vs ⟨#[]⟩,vb false],[vs ⟨#[98,47,118,49]⟩,vi 1,vi 2,vi 0,nzA,vs ⟨#[]⟩,vs ⟨#[]⟩,vs ⟨#[]⟩,vb true]],nzA])] Z2 Z1 (yN (Xi .pure (Xi _ (Yi pZ (yN (cU [(1,.v (.func (.func 33) #[] #[])),(3,.ref 3 0),(4,.ref 4 0),(5,vi 0)] [(3,.ro [.slice .none [[vs ⟨#[97,47,118,49]⟩,vi 1,vi 0,vi 0,.slice .none [[vs ⟨#[98,47,118,49]⟩,.slice .none [[vi 1000,vi 1000000]]]],vs ⟨#[]⟩,vs ⟨#[]⟩,vs ⟨#[]⟩,vb false],[vs ⟨#[98,47,118,49]⟩,vi 1,vi 0,vi 0,nzA,vs ⟨#[]⟩,vs ⟨#[]⟩,vs ⟨#[]⟩,vb false],[vs ⟨#[98,47,118,49]⟩,vi 1,vi 1,vi 0,nzA,vs ⟨#[]⟩,vs ⟨#[]⟩,vs ⟨#[]⟩,vb false],[vs ⟨#[98,47,118,49]⟩,vi 1,vi 2,vi 0,nzA,vs ⟨#[]⟩,vs ⟨#[]⟩,vs ⟨#[]⟩,vb true]],nzA]),(4,.ro [sl Ac Oj,.slice .none [[vs pa,vi 1,vi 0,vi 0,vs mt,vs mt],[vs pb,vi 1,vi 1,vi 0,vs mt,vs mt]],sl AG (Db Ow Oj).infs,sl Ay (Db Ow Oj).skips])] Z4 Z2 (Xi .pure (Xi _ (Yi ye_enc0 (Xi .pure (Xi _ (Yi (pB 0) (Xi .pure (Xi _ (Yi (pB 2) (cU [(1,.v (.func (.func 33) #[] #[])),(3,.ref 3 0),(4,.ref 4 0),(5,vi 0),(6,vs ⟨#[0,0,0,0]⟩),(7,vi 0),(8,.slice (.id 50 4) [[vs ⟨#[97,47,118,49]⟩,vi 1,vi 0,vi 0],[vs ⟨#[99,47,118,49]⟩,vi 1,vi 2,vi 0]])] [(3,.ro [.slice .none [[vs ⟨#[97,47,118,49]⟩,vi 1,vi 0,vi 0,.slice .none [[vs ⟨#[98,47,118,49]⟩,.slice .none [[vi 1000,vi 1000000]]]],vs ⟨#[]⟩,vs ⟨#[]⟩,vs ⟨#[]⟩,vb false],[vs ⟨#[98,47,118,49]⟩,vi 1,vi 0,vi 0,nzA,vs ⟨#[]⟩,vs ⟨#[]⟩,vs ⟨#[]⟩,vb false],[vs ⟨#[98,47,118,49]⟩,vi 1,vi 1,vi 0,nzA,vs ⟨#[]⟩,vs ⟨#[]⟩,vs ⟨#[]⟩,vb false],[vs ⟨#[98,47,118,49]⟩,vi 1,vi 2,vi 0,nzA,vs ⟨#[]⟩,vs ⟨#[]⟩,vs ⟨#[]⟩,vb true]],nzA]),(4,.ro [sl Ac Oj,.slice .none [[vs pa,vi 1,vi 0,vi 0,vs mt,vs mt],[vs pb,vi 1,vi 1,vi 0,vs mt,vs mt]],sl AG (Db Ow Oj).infs,sl Ay (Db Ow Oj).skips]),(50,.tok 4 2)] Z7 Z3 (yN (Xi .pure (Xi _ (Yi xt (Xi .pure (Xi _ (Yi k34 (cU [(1,.v (.func (.func 33) #[] #[])),(3,.ref 3 0),(4,.ref 4 0),(5,vi 0),(6,vs ⟨#[0,0,0,0]⟩),(7,vi 0),(9,sl Fy uk),(10,vi 0)] [(3,.ro [.slice .none [[vs ⟨#[97,47,118,49]⟩,vi 1,vi 0,vi 0,.slice .none [[vs ⟨#[98,47,118,49]⟩,.slice .none [[vi 1000,vi 1000000]]]],vs ⟨#[]⟩,vs ⟨#[]⟩,vs ⟨#[]⟩,vb false],[vs ⟨#[98,47,118,49]⟩,vi 1,vi 0,vi 0,nzA,vs ⟨#[]⟩,vs ⟨#[]⟩,vs ⟨#[]⟩,vb false],[vs ⟨#[98,47,118,49]⟩,vi 1,vi 1,vi 0,nzA,vs ⟨#[]⟩,vs ⟨#[]⟩,vs ⟨#[]⟩,vb false],[vs ⟨#[98,47,118,49]⟩,vi 1,vi 2,vi 0,nzA,vs ⟨#[]⟩,vs ⟨#[]⟩,vs ⟨#[]⟩,vb true]],nzA]),(4,.ro [sl Ac Oj,.slice .none [[vs pa,vi 1,vi 0,vi 0,vs mt,vs mt],[vs pb,vi 1,vi 1,vi 0,vs mt,vs mt]],sl AG (Db Ow Oj).infs,sl Ay (Db Ow Oj).skips])] Z8 Z2 (Yi (fun _=>?_) (fun h=>absurd Wk h))))))))))))))))))))))))))))))))))))))));refine Yi (fun _=>?_) (fun h=>absurd Wk h);refine Xi [vs pb,vi 1,vi 1,vi 0,vs mt,vs mt] (Yi ⟨by decide,rfl⟩ (Yi rfl ?_));refine yN (Xi _ (Yi (pB 1) (Yi (fun h1=>?_) (fun h1=>?_))))
 .have h1:(1:Int)=1/\(1:Int)=1/\(0:Int)=0/\True:=h1;refine yN (yN (Xi _ (Yi k18 (Yi (fun _=>?_) (fun h=>absurd Wk h)))));refine Yi (fun _=>?_) (fun h=>absurd Wk h);refine Yi (fun h2=>?_) (fun h2=>?_)
  .have h2:(⟨#[0,0,0,0]⟩:ByteArray)=⟨#[0,0,0,0]⟩:=h2;refine Yi (fun _=>?_) (fun h=>absurd Wk h);refine Xi _ (Yi k35 (Yi aa0 ?_));exact .refl _
  have h2:¬(⟨#[0,0,0,0]⟩:ByteArray)=⟨#[0,0,0,0]⟩:=h2;refine Yi aa0 ?_;exact absurd rfl h2
 have h1:¬((1:Int)=1/\(1:Int)=1/\(0:Int)=0/\True):=h1;refine Yi aa0 ?_;exact absurd ⟨rfl,rfl,rfl,trivial⟩ h1
end Go.Eng
