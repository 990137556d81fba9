/- Lemmas for the claims of this seat, without a condition: part 23 (O16, O17, S15, S1, S2, S3). -/
import Derived.Test.YtddfphmpfnmknaaGreatDoorBA22
set_option maxHeartbeats 4000000
namespace Go.Eng
open Go.Proofs
structure Mv where
 path:ByteArray
 a:Int
 b:Int
abbrev DQ(m:Mv):List AV:=[vs m.path,vi m.a,vi m.b]
abbrev zQ(s:Sl):Value×AV:=(.string s.path,vi (place s.ver))
abbrev Jd(l:List Sl):List (Value×AV):=l.map zQ
def Ku(l:List Sl)(p:ByteArray):Int:=match BX l p with | some s=>place s.ver | none=>-1
def JT(l m:List Sl)(p:ByteArray):Option Mv:=if Ku l p≠Ku m p then some ⟨p,Ku l p,Ku m p⟩else none
abbrev Hu(l m:List Sl)(ps:List ByteArray):List Mv:=ps.filterMap (JT l m)
structure Lr(l:List Sl):Prop where
 few:CU l
 val:∀s∈l,B8 s.ver=true
 inc:l.Pairwise mY
theorem Lr.step{l:List Sl}(h:Lr l){i:Nat}(hi:i<l.length)(h0:0<i):En (l[i-1]'(by omega)).path l[i].path=true:=(AT.1 h.inc) (i-1) i (by omega) hi (by omega)
theorem gl{l:List Sl}(h:Lr l){i:Nat}(hi:i<l.length):∀b,(Value.string l[i].path,b)∉Jd (l.take i):=fun b hb=>by
 obtain⟨s,hs,e⟩:=Al.1 hb;obtain⟨j,hj,rfl⟩:=CD.1 hs;rw[F1]at e;rw[AB]at hj;have q:=(AT.1 h.inc) j i (by omega) hi (by omega);have e2:l[j].path=l[i].path:=by injection e with e1;injection e1
 rw[mY,e2,CO]at q;cases q
theorem na{l:List Sl}(h:Lr l){p:ByteArray}{a:AV}(ha:(Value.string p,a)∈Jd l):a=vi (Ku l p):=by
 obtain⟨s,hs,e⟩:=Al.1 ha;have e1:s.path=p:=by injection e with e1;injection e1
 have e2:vi (place s.ver)=a:=by injection e
 rw[←e2];unfold Ku;rw[←e1,M6 (bt zN h.inc) hs]
theorem ne{l:List Sl}{p:ByteArray}(h:∀a,(Value.string p,a)∉Jd l):Ku l p=-1:=by
 unfold Ku;rw[show BX l p=none from DL.2 fun s hs e=>h _ (Al.2 ⟨s,hs,by rw[←A8 e]⟩)]
theorem ZE{l m:List Sl}{ps:List ByteArray}{k:Nat}(h:k<ps.length):Hu l m (ps.take (k+1))=Hu l m (ps.take k)++(JT l m ps[k]).toList:=by
 unfold Hu;rw[E0 h,List.filterMap_append]
 congr 1
theorem qB(l:List Sl)(hl:Lr l):A3 Tryz.prog 75 [sl Ae l] (Aj [] Aa) fun r h'=>r=.tup [.mref 2000,vb true]∧h'=Aj [(2000,.map CL (Jd l))] Aa:=by
 have hfl:l.length≤1073741824:=hl.few;refine BV (Lh ⟨[],[],[],[],[],[],[],[],[],[],[6,7,8]⟩) [(9,2000)] rfl Cs hm rfl Tryz.func75 (by kernel_rfl) rfl (Nz rfl) (by kernel_rfl) rfl ?_;refine Xi {q:Nat // q≤l.length} (Xi (fun q=>⟨[(0,sl Ae l),(4,.mref 9),(10,sl Ae l),(11,vi (l.map Ae).length),(12,vi q.1)],[(9,.map CL (Jd (l.take q.1)))],Aa⟩) (Xi (fun q=>l.length-q.1) (Yi (Xi ⟨0,AO _⟩ ?_) ?_)))
 ·exact⟨Z5,Z1,Fh,Aw (by kernel_rfl)⟩
 intro⟨i,i1⟩;have i1:i≤l.length:=i1;refine Yi (fun h1=>?_) (fun h1=>?_)
 ·have h1:(i:Int)<((l.map Ae).length:Int):=h1;have n1:=MB h1;refine Xi (Ae l[i]) (Yi (Wj n1) (Yi rfl ?_));refine Yi (Nz rfl) ?_;refine Yi (Nz rfl) ?_;refine Yi (Nz rfl) ?_;refine Xi .pure (Xi _ (Yi (by have q:=oU l[i].ver;rw[Ao (hl.val _ (At n1)),Ao (hl.val _ (At n1))]at q;exact q) ?_));refine Xi ⟨[(0,sl Ae l),(4,.mref 9),(5,vi i),(6,.ref 6 0),(7,vi (place l[i].ver)),(8,vi 0),(10,sl Ae l),(11,vi (l.map Ae).length),(12,vi i)],[(6,.cells (Ae l[i])),(9,.map CL (Jd (l.take i)))],Aa⟩ (Yi ⟨Z9,Z2,Fh,Aw (by kernel_rfl)⟩ ?_)
  refine Yi (fun h=>absurd h (by decide)) (fun _=>?_);refine Yi (fun h2=>?_) (fun h2=>?_)
  ·have h2:(0:Int)<(i:Int):=h2;refine Yi (by show BM ((i:Int)-(1:Int));unfold BM;omega) ?_;have t8:0<i:=by omega
   refine Xi (Ae (l[i-1])) (Yi (Yi (show(0:Int)≤(i:Int)-1 by omega) (by rw[show((i:Int)-1).toNat=i-1 by omega];exact Dp (Ge (by omega)))) (Yi rfl ?_));refine Yi (fun h3=>?_) (fun h3=>?_)
   ·have h3:En (l[i-1]).path l[i].path=false:=(GM _ _).trans h3;exact absurd (hl.step n1 t8) (by rw[h3];decide)
   have h3:En (l[i-1]).path l[i].path=true:=(GM _ _).trans (by simpa using h3);refine Yi (by kernel_rfl) ?_;refine Xi ⟨[(0,sl Ae l),(4,.mref 9),(6,.ref 6 0),(7,vi (place l[i].ver)),(10,sl Ae l),(11,vi (l.map Ae).length),(12,vi i)],[(6,.cells (Ae l[i])),(9,.map CL (Jd (l.take i)))],Aa⟩ (Yi ⟨Z7,Z2,Fh,Aw (by kernel_rfl)⟩ ?_)
   refine Yi (Ii i (by omega)) ?_;refine Xi ⟨i+1,n1⟩ ?_;exact⟨Dl l.length i (by omega),Z5,⟨⟨(show HO.map CL (EK (Jd (l.take i)) (.string l[i].path) (vi (place l[i].ver)))=.map CL (Jd (l.take (i+1))) by rw[Kn (gl hl n1),E0 n1];unfold Jd;rw[Ay];rfl),rfl⟩,Tv⟩,Fh,Aw (by kernel_rfl)⟩
  have h2:¬((0:Int)<(i:Int)):=h2;refine Yi (by kernel_rfl) ?_;refine Xi ⟨[(0,sl Ae l),(4,.mref 9),(6,.ref 6 0),(7,vi (place l[i].ver)),(10,sl Ae l),(11,vi (l.map Ae).length),(12,vi i)],[(6,.cells (Ae l[i])),(9,.map CL (Jd (l.take i)))],Aa⟩ (Yi ⟨Z7,Z2,Fh,Aw (by kernel_rfl)⟩ ?_)
  refine Yi (Ii i (by omega)) ?_;refine Xi ⟨i+1,n1⟩ ?_;exact⟨Dl l.length i (by omega),Z5,⟨⟨(show HO.map CL (EK (Jd (l.take i)) (.string l[i].path) (vi (place l[i].ver)))=.map CL (Jd (l.take (i+1))) by rw[Kn (gl hl n1),E0 n1];unfold Jd;rw[Ay];rfl),rfl⟩,Tv⟩,Fh,Aw (by kernel_rfl)⟩
 have h1:¬((i:Int)<((l.map Ae).length:Int)):=h1;have n1:=MA h1;have ei:l.take i=l:=AD (by have q:=h1;rw[Lm]at q;omega);exact Xi _ (Yi (.refl _) ⟨rfl,show Aj [(2000,HO.map CL (Jd (l.take i)))] Aa=Aj [(2000,.map CL (Jd l))] Aa by rw[ei]⟩)
theorem qC(l:List Sl)(p:ByteArray)(hl:Lr l):PC 77 [.cmap CL (Jd l),vs p] (vi (Ku l p)):=by
 refine Ps ⟨[],[],[],[],[],[],[],[],[],[],[4]⟩ Tryz.func77 rfl (Nz rfl) ?_;refine Yi (fun a ha=>?_) (fun QG=>?_)
 ·have ea:=na hl ha;subst ea;exact .refl _
 refine Xi ⟨[],[],Aa⟩ (Yi ⟨Tv,Tv,Fh,Tv⟩ ?_)
 exact .of_eq (show vi (-1)=vi (Ku l p) by rw[ne QG])
theorem zM(l m:List Sl)(t:List ByteArray)(hl:Lr l)(xg:Lr m)(yZ:l.length+m.length≤1073741824)(Dt:l++m≠[])(hp:t.Perm ((l++m).map (·.path)))(ht:(t.map PV).Pairwise fun a b=>a≤b):PC 54 [sl Ae l,sl Ae m] (.tup [sl DQ (Hu l m (BS t)),vi 0]):=by
 obtain⟨LM,mh⟩:∃LM,LM=l++m:=⟨_,rfl⟩;have hm:=xg;rw[←mh]at hp;have wL:LM.length=l.length+m.length:=by rw[mh,Ac]
 have rJ:l.length≤1073741824:=hl.few;have kN:m.length≤1073741824:=xg.few;refine FQ (cH ⟨[],[(14,3)],[(10,1)],[(34,[12000,12500])],[],[],[],[],[],[],[3,6,7,8,9,11,13,14,15,16,17,18,19,21]⟩) rfl Cs Go.Eng.hm rfl Tryz.func54 (by kernel_rfl) rfl (Nz rfl) (by kernel_rfl) ?_;refine Xi (.gen [] 1) (Yi rfl (A3.to2 (qB l hl) ?_));refine Xi (.gen [] 1) (Yi rfl (A3.to2 (qB m hm) ?_));refine Xi ⟨[(0,sl Ae l),(1,sl Ae m),(6,.mref 12000),(7,vb true),(8,.mref 12500),(9,vb true)],[(12000,.map CL (Jd l)),(12500,.map CL (Jd m))],Aa⟩ (Yi ⟨Z6,Z2,Fh,Tv⟩ ?_)
 refine Xi ⟨[(0,sl Ae l),(1,sl Ae m),(6,.mref 12000),(8,.mref 12500),(10,.msl 10 0)],[(10,.arr 1 []),(12000,.map CL (Jd l)),(12500,.map CL (Jd m))],Aa⟩ (Yi ⟨Z5,Z3,Fh,Tv⟩ ?_)
 refine Xi (.gen [] 1) (Yi rfl (A3.to2 (oT l hl.few) ?_));have b4:De 4 (m.map Ae)∧(l.map Ae).length=(l.map Ae).length∧((l.map Ae).length+(m.map Ae).length)*40≤140737488355328∧(l.map Ae).length+(m.map Ae).length≤9223372036854775807:=⟨(E9 (enc:=Ae) (n:=4) (fun _=>rfl) m),rfl,(by simp only[Lm];omega),(by simp only[Lm];omega)⟩;refine Yi b4 ?_;refine Xi {q:Nat×List ByteArray // q.1≤LM.length∧q.2=(LM.take q.1).map (·.path)} (Xi (fun q=>⟨[(6,.mref 12000),(8,.mref 12500),(10,.msl 10 q.1.2.length),(37,.slice (.id 13500 4) (LM.map Ae)),(38,vi (LM.length:Nat)),(39,vi q.1.1)],[(10,.arr 1 (q.1.2.map DB)),(12000,.rom CL (Jd l)),(12500,.rom CL (Jd m)),(13500,.tok 4 LM.length)],Aa⟩) (Xi (fun q=>LM.length-q.1.1) (Yi (Xi ⟨(0,[]),AO _,rfl⟩ ?_) ?_)))
 ·exact⟨⟨Zr,Zr,Zr,⟨(show AV.slice (.id 13500 4) (l.map Ae++m.map Ae)=.slice (.id 13500 4) (LM.map Ae) by rw[mh,Ay]),rfl⟩,⟨(show vi ((l.map Ae++m.map Ae:List (List AV)).length:Int)=vi ((LM.length:Nat):Int) by rw[mh,Ac,Ac,Lm,Lm]),rfl⟩,Zr,Tv⟩,⟨Zr,Zr,Zr,⟨(show HO.tok 4 ((l.map Ae).length+(m.map Ae).length)=.tok 4 LM.length by rw[mh,Ac,Lm,Lm]),rfl⟩,Tv⟩,Fh,Tv⟩
 intro⟨⟨i,P⟩,i1,i2⟩;have i1:i≤LM.length:=i1;have i2:P=(LM.take i).map (·.path):=i2;have i3:P.length≤i:=by rw[i2,Lm,AB];omega
 refine Xi ⟨[(6,.mref 12000),(8,.mref 12500),(10,.msl 10 P.length),(37,.slice (.id 13500 4) (LM.map Ae)),(38,vi (LM.length:Nat)),(39,vi i)],[(10,.arr 1 (P.map DB)),(12000,.rom CL (Jd l)),(12500,.rom CL (Jd m)),(13500,.tok 4 LM.length)],Aa⟩ (Yi ⟨Z6,Z4,Fh,Tv⟩ ?_)
 refine Yi (fun h5=>?_) (fun h5=>?_)
 ·have h5:(i:Int)<((LM.length:Nat):Int):=h5;have n5:i<LM.length:=by omega
  refine Xi ⟨[(6,.mref 12000),(8,.mref 12500),(10,.msl 10 P.length),(37,.slice (.id 13500 4) (LM.map Ae)),(38,vi (LM.length:Nat)),(39,vi i)],[(10,.arr 1 (P.map DB)),(12000,.rom CL (Jd l)),(12500,.rom CL (Jd m)),(13500,.tok 4 LM.length)],Aa⟩ (Yi ⟨Z6,Z4,Fh,Tv⟩ ?_)
  refine Xi (Ae LM[i]) (Yi (Wj n5) (Yi rfl ?_));refine Yi (Nz rfl) ?_;refine Yi (Nz rfl) ?_;refine Xi ⟨[(6,.mref 12000),(8,.mref 12500),(10,.msl 10 P.length),(12,.ref 12 0),(37,.slice (.id 13500 4) (LM.map Ae)),(38,vi (LM.length:Nat)),(39,vi i)],[(10,.arr 1 (P.map DB)),(12,.cells (Ae LM[i])),(12000,.rom CL (Jd l)),(12500,.rom CL (Jd m)),(13500,.tok 4 LM.length)],Aa⟩ (Yi ⟨Z7,Z5,Fh,Tv⟩ ?_)
  have b6:De 1 [[vs LM[i].path]]∧(P.map DB).length=P.length∧((P.map DB).length+([[vs LM[i].path]]:List (List AV)).length)*16≤140737488355328∧(P.map DB).length+([[vs LM[i].path]]:List (List AV)).length≤9223372036854775807:=⟨⟨rfl,trivial⟩,(by rw[Lm]),(by simp only[Lm,Ax,AF];omega),(by simp only[Lm,Ax,AF];omega)⟩;refine Yi b6 ?_;refine Yi (Ii i (by omega)) ?_;refine Xi ⟨(i+1,P++[LM[i].path]),n5,by show P++[LM[i].path]=_;rw[E0 n5,Ay,i2];rfl⟩ ?_;exact⟨Dl LM.length i (by omega),⟨Zr,Zr,⟨(show AV.msl 10 ((P.map DB).length+([[vs LM[i].path]]:List (List AV)).length)=.msl 10 (P++[LM[i].path]).length by rw[Ac,Lm];rfl),rfl⟩,Zr,Zr,Zr,Tv⟩,⟨⟨(show HO.arr 1 (P.map DB++[[vs LM[i].path]])=.arr 1 ((P++[LM[i].path]).map DB) by rw[Ay];rfl),rfl⟩,Zr,Zr,Zr,Tv⟩,Fh,Tv⟩
 have h5:¬((i:Int)<((LM.length:Nat):Int)):=h5;have rC:P=LM.map (·.path):=by rw[i2,AD (by have q:=h5;omega)]
 have wM:CU P:=by unfold CU;rw[rC,Lm,mh,Ac];exact yZ
 have wN:P≠[]:=fun e=>by rw[rC]at e;exact Dt (by rw[←mh];exact DY.1 e)
 have tw:t.length=P.length:=by rw[rC];exact hp.length_eq
 have mN:t.length≤1073741824:=by rw[tw];exact wM
 have uE:t≠[]:=fun e=>wN (AM (by rw[←tw,e];rfl));have hcl:(BS t).length≤t.length:=by unfold BS;rw[Lm];exact Br (PX _) (by rw[Lm];exact Am _)
 refine Xi ⟨[(6,.mref 12000),(8,.mref 12500),(10,.msl 10 P.length)],[(10,.arr 1 (P.map DB)),(12000,.rom CL (Jd l)),(12500,.rom CL (Jd m))],Aa⟩ (Yi ⟨Z3,Z3,Fh,Tv⟩ ?_)
 refine Xi (.gen [(10,1000)] 0) (Yi rfl (A3.to2 (uS P t wM wN (by rw[rC];exact hp) ht) ?_));refine Xi ⟨[(6,.mref 12000),(8,.mref 12500),(10,.msl 10 P.length),(13,.v (.func (.func 77) #[] #[]))],[(10,.arr 1 (t.map DB)),(12000,.rom CL (Jd l)),(12500,.rom CL (Jd m))],Aa⟩ (Yi ⟨Z4,Z3,Fh,Tv⟩ ?_)
 refine Xi ⟨[(6,.mref 12000),(8,.mref 12500),(10,.msl 10 t.length),(13,.v (.func (.func 77) #[] #[])),(14,.slice (.id 14 3) [])],[(10,.arr 1 (t.map DB)),(14,.tok 3 0),(12000,.rom CL (Jd l)),(12500,.rom CL (Jd m))],Aa⟩ (Yi ⟨⟨Zr,Zr,⟨(Ad (AV.msl 10) tw.symm),rfl⟩,Zr,Zr,Tv⟩,Z4,Fh,Tv⟩ ?_)
 refine Xi (.gen [(10,1000)] 1) (Yi rfl (A3.to2 (uT t (by unfold CU;omega) uE) ?_));refine Xi {q:Nat×List Mv // q.1≤(BS t).length∧q.2=Hu l m ((BS t).take q.1)} (Xi (fun q=>⟨[(6,.mref 12000),(8,.mref 12500),(13,.v (.func (.func 77) #[] #[])),(14,.slice (.id 14 3) (q.1.2.map DQ)),(52,.msl 15200 (BS t).length),(53,vi (BS t).length),(54,vi q.1.1)],[(14,.tok 3 q.1.2.length),(12000,.rom CL (Jd l)),(12500,.rom CL (Jd m)),(15200,.arr 1 ((BS t).map DB))],Aa⟩) (Xi (fun q=>(BS t).length-q.1.1) (Yi (Xi ⟨(0,[]),AO _,rfl⟩ ?_) ?_)))
 ·exact⟨Z7,Z4,Fh,Tv⟩
 intro⟨⟨k,O⟩,k1,k2⟩;have k1:k≤(BS t).length:=k1;have k2:O=Hu l m ((BS t).take k):=k2;have k3:O.length≤k:=by rw[k2];exact Br (List.length_filterMap_le ..) (by rw[AB];omega)
 refine Xi ⟨[(6,.mref 12000),(8,.mref 12500),(13,.v (.func (.func 77) #[] #[])),(14,.slice (.id 14 3) (O.map DQ)),(52,.msl 15200 (BS t).length),(53,vi (BS t).length),(54,vi k)],[(14,.tok 3 O.length),(12000,.rom CL (Jd l)),(12500,.rom CL (Jd m)),(15200,.arr 1 ((BS t).map DB))],Aa⟩ (Yi ⟨Z7,Z4,Fh,Tv⟩ ?_)
 refine Yi (fun RV=>?_) (fun RV=>?_)
 ·have RV:(k:Int)<((BS t).length:Int):=RV;have nb:k<(BS t).length:=by omega
  have n10:=nb;have gb:(BS t)[k]?=some (BS t)[k]:=Ge nb;refine Xi ⟨[(6,.mref 12000),(8,.mref 12500),(13,.v (.func (.func 77) #[] #[])),(14,.slice (.id 14 3) (O.map DQ)),(52,.msl 15200 (BS t).length),(53,vi (BS t).length),(54,vi k)],[(14,.tok 3 O.length),(12000,.rom CL (Jd l)),(12500,.rom CL (Jd m)),(15200,.arr 1 ((BS t).map DB))],Aa⟩ (Yi ⟨Z7,Z4,Fh,Tv⟩ ?_)
  refine Yi (by show(0:Int)≤k∧(k:Int)<((BS t).length:Nat);omega) ?_;refine Yi (show(BS t).length=((BS t).map DB).length by rw[Lm]) (Xi (DB ((BS t)[k])) (Yi (Dp gb) ?_));refine Xi ⟨[(6,.mref 12000),(8,.mref 12500),(13,.v (.func (.func 77) #[] #[])),(14,.slice (.id 14 3) (O.map DQ)),(16,vs ((BS t)[k])),(52,.msl 15200 (BS t).length),(53,vi (BS t).length),(54,vi k)],[(14,.tok 3 O.length),(12000,.rom CL (Jd l)),(12500,.rom CL (Jd m)),(15200,.arr 1 ((BS t).map DB))],Aa⟩ (Yi ⟨Z8,Z4,Fh,Tv⟩ ?_)
  refine Xi .pure (Xi _ (Yi (qC l (BS t)[k] hl) ?_));refine Xi .pure (Xi _ (Yi (qC m (BS t)[k] hm) ?_));refine Yi (Nz rfl) ?_;refine Xi ⟨[(6,.mref 12000),(8,.mref 12500),(13,.v (.func (.func 77) #[] #[])),(14,.slice (.id 14 3) (O.map DQ)),(17,.ref 17 0),(52,.msl 15200 (BS t).length),(53,vi (BS t).length),(54,vi k)],[(14,.tok 3 O.length),(17,.cells [vs ((BS t)[k]),vi (Ku l (BS t)[k]),vi (Ku m (BS t)[k])]),(12000,.rom CL (Jd l)),(12500,.rom CL (Jd m)),(15200,.arr 1 ((BS t).map DB))],Aa⟩ (Yi ⟨Z8,Z5,Fh,Tv⟩ ?_)
  refine Yi (fun Na=>?_) (fun Na=>?_)
  ·have Na:((Ku l (BS t)[k]):Int)≠((Ku m (BS t)[k]):Int):=Na;refine Xi ⟨[(6,.mref 12000),(8,.mref 12500),(13,.v (.func (.func 77) #[] #[])),(14,.slice (.id 14 3) (O.map DQ)),(17,.ref 17 0),(52,.msl 15200 (BS t).length),(53,vi (BS t).length),(54,vi k)],[(14,.tok 3 O.length),(17,.cells [vs ((BS t)[k]),vi (Ku l (BS t)[k]),vi (Ku m (BS t)[k])]),(12000,.rom CL (Jd l)),(12500,.rom CL (Jd m)),(15200,.arr 1 ((BS t).map DB))],Aa⟩ (Yi ⟨Z8,Z5,Fh,Tv⟩ ?_)
   refine Yi (Nz rfl) ?_;refine Yi (az rfl (by omega) (by decide)) ?_;refine Yi (Ii k (by omega)) ?_;have eO:=ZE (l:=l) (m:=m) n10;have eM:JT l m (BS t)[k]=some ⟨(BS t)[k],(Ku l (BS t)[k]),(Ku m (BS t)[k])⟩:=Ao Na;rw[eM]at eO;refine Xi ⟨(k+1,(O++[(⟨(BS t)[k],(Ku l (BS t)[k]),(Ku m (BS t)[k])⟩:Mv)])),n10,by show(O++[(⟨(BS t)[k],(Ku l (BS t)[k]),(Ku m (BS t)[k])⟩:Mv)])=_;rw[eO,k2];rfl⟩ ?_;exact⟨by show(BS t).length-(k+1)<(BS t).length-k;omega,⟨Zr,Zr,Zr,⟨(show AV.slice (.id 14 3) (O.map DQ++[[vs (BS t)[k],vi (Ku l (BS t)[k]),vi (Ku m (BS t)[k])]])=.slice (.id 14 3) ((O++[(⟨(BS t)[k],(Ku l (BS t)[k]),(Ku m (BS t)[k])⟩:Mv)]).map DQ) by rw[Ay];rfl),rfl⟩,Zr,Zr,Zr,Tv⟩,⟨⟨zb,rfl⟩,Zr,Zr,Zr,Tv⟩,Fh,Tv⟩
  have Na:((Ku l (BS t)[k]):Int)=((Ku m (BS t)[k]):Int):=AS Na;refine Yi (Ii k (by omega)) ?_;have eO:=ZE (l:=l) (m:=m) n10;have eM:JT l m (BS t)[k]=none:=Ai (fun c=>c Na);rw[eM]at eO;rw[show(none:Option Mv).toList=[]from rfl,BT]at eO;refine Xi ⟨(k+1,O),n10,by show O=_;rw[eO,k2]⟩ ?_;exact⟨by show(BS t).length-(k+1)<(BS t).length-k;omega,Z7,Z4,Fh,Tv⟩
 have RV:¬((k:Int)<((BS t).length:Int)):=RV;refine Xi ⟨[(14,.slice (.id 14 3) (O.map DQ))],[(14,.tok 3 O.length)],Aa⟩ (Yi ⟨Z1,Z1,Fh,Tv⟩ ?_)
 have ek:(BS t).take k=BS t:=AD (by omega);have eO:O=Hu l m (BS t):=by rw[k2,ek]
 exact .of_eq (Ad (fun z=>AV.tup [sl DQ z,vi 0]) eO)
end Go.Eng
namespace Go.Proofs
open Go.Shelf Go.RowKit Go.Lib Go.Sort
abbrev OneC:Type:={v:Value // v.oneCell'=true}
def SlA:Type:=ByteArray×OneC×OneC×OneC
instance:Inhabited SlA:=⟨⟨ByteArray.empty,⟨.bool false,rfl⟩,⟨.bool false,rfl⟩,⟨.bool false,rfl⟩⟩⟩
def encSlA(x:SlA):List Value:=[.string x.1,x.2.1.1,x.2.2.1.1,x.2.2.2.1]
def cfSlA(x y:SlA):Int:=Lib.compareBytes x.1.data.toList y.1.data.toList
abbrev CmpSlA(k:Nat):Prop:=∀(x y:SlA) (W:World),Calls Tryz.prog k #[.agg #[.string x.1,x.2.1.1,x.2.2.1.1,x.2.2.2.1],.agg #[.string y.1,y.2.1.1,y.2.2.1.1,y.2.2.2.1]] W fun e w'=>e=.returned (.int .i64 (cfSlA x y))∧∃q os',w'=grow (W.drewN q) os'
theorem Tryz.closure68:CmpSlA 68:=fun x y W=>by
 have hcon:=fun W'=>Any.strings_Compare Tryz.layCompare x.1 y.1 W';obtain⟨a,⟨b,hb⟩,⟨c,hc⟩,⟨d,hd⟩⟩:=x;obtain⟨a',⟨b',ml⟩,⟨c',nT⟩,⟨d',jg⟩⟩:=y;dsimp only at hcon
 change ∀W',Calls Tryz.prog 69 _ _ _ at hcon
 unfold cfSlA;dsimp only;generalize Lib.compareBytes a.data.toList a'.data.toList=r at hcon⊢
 go_enter Tryz.func68,Tryz.ntmps68
 go_wp2_with (go_at_call 69;refine(hcon _).mono ?_;rintro e w' ⟨rfl,rfl⟩)
 go_ret
 exact⟨rfl,0,_,by rw[alloc_eq_grow,alloc_eq_grow,grow_grow];rfl⟩
end Go.Proofs
namespace Go.Eng
open Go.Proofs Go.Shelf Go.RowKit Go.Lib Go.Sort
theorem ZA(x y:SlA):ltOf cfSlA x y=En x.1 y.1:=Sz _ _
theorem gL:SWO (ltOf cfSlA) where
 irrefl x:=by rw[ZA];exact CO _
 trans x y z h1 h2:=by rw[ZA]at *;exact DM h1 h2
 ntrans x y z h1 h2:=by
  rw[ZA]at *
  rw[AK];intro h;cases oe:En y.1 x.1 with
  |true=>have:=DM oe h;rw[h2]at this;cases this
  |false =>
   have e:=Hh h1 oe;rw[e]at h;rw[h2]at h;cases h
theorem s92(k:Nat)(hc:CmpSlA k)(eg:∀args w,(callFunc k args).run Tryz.prog w=.ok (.enter k args) w)(l:List Sl)(hl:CU l)(lim:Nat)(W3:lim<100) :
  A3 Tryz.prog 97 [.msl 1000 l.length,vi 0,vi l.length,vi lim,.v (TE k)] (Aj [(1000,.arr 4 (l.map Ae))] Aa) fun r h' =>
   r=.tup []∧∃l' : List Sl,l'.Perm l∧l'.Pairwise (fun x y=>En y.path x.path=false)∧h'=Aj [(1000,.arr 4 (l'.map Ae))] Aa:=by
 have hl:l.length≤1073741824:=hl;have hE:FS Tryz.prog 97:=cI 97 Tryz.func97 (by kernel_rfl) rfl;have G1:=I0 (P:=Tryz.prog) (f:=97) (α:=SlA) (rest:=[.int .i64 0,.int .i64 l.length,.int .i64 lim,TE k]) hE Ae encSlA (k:=4) (fun _=>rfl) (fun _=>rfl) (ltOf cfSlA) (fun x a=>a.1=x.path) l (by omega) ?_ ?_ ?_
 ·refine⟨hE,fun g w vals q1 q2 q3=>(G1.2 g w vals q1 q2 q3).mono fun _ _ ⟨v,r,h',g',e1,⟨e2,l',p1,⟨al,a1,a2,a3⟩,p2⟩,rest⟩=>⟨v,r,h',g',e1,⟨e2,l',p1,?_,p2⟩,rest⟩⟩;rw[AT]at a3⊢;intro i j hi hj OO
  have:=a3 i j (by omega) (by omega) OO
  rw[ZA]at this;have e1:=a2 i _ _ (Ge hi) (Ge (by omega));have e2:=a2 j _ _ (Ge hj) (Ge (by omega));rw[←e1,←e2];exact this
 ·intro x hx g w vs hr
  match vs,hr with
  | [a,b,c,d],hr =>
   have h1:=(hr.2.2 0 (Go.Eng.vs x.path) a rfl rfl).v_eq;subst h1;exact⟨⟨x.path,⟨b,hr.2.1 b (by simp)⟩,⟨c,hr.2.1 c (by simp)⟩,⟨d,hr.2.1 d (by simp)⟩⟩,rfl,rfl⟩
  | [],hr=>have:=hr.1;simp at this
  | [_],hr=>have:=hr.1;simp at this
  | [_,_],hr=>have:=hr.1;simp at this
  | [_,_,_],hr=>have:=hr.1;simp at this
  |_::_::_::_::_::_,hr=>have:=hr.1;simp at this
 ·intro w b cap d hH hb Et hdl;have ee:CmpLays Tryz.prog k #[] encSlA 4 cfSlA b 0 d.size w:=fun _ _ _ _ x y=>hc x y _;have hp:=AnyQ.pdqsortCmpFunc_all Tryz.layPdqSel 4 Tryz.isAgg29 Tryz.sizeOf29 encSlA cfSlA k #[] gL b 0 cap d w eg ee ⟨fun _=>rfl,fun x v hv=>by
    simp only[encSlA,Au,Ld,or_false]at hv;rcases hv with rfl | rfl | rfl | rfl
    ·rfl
    ·exact x.2.1.2
    ·exact x.2.2.1.2
    ·exact x.2.2.2.2,hH,hb⟩ (d.size+1) 0 d.size lim d w (by omega) rfl (SWK.start hH) (AO _) (Am _) Et (by omega) (Or.inl rfl)
  rw[hdl]at hp⊢;refine hp.mono ?_
  rintro e w' ⟨rfl,n,os,rfl⟩
  have h:=pdq_sorts (ltOf cfSlA) gL d 0 d.size lim true true (AO _) (Am _) (Or.inl rfl);rw[hdl]at h;exact⟨rfl,_,n,os,h.1,h.2,rfl⟩
 ·intro e w;subst e;exact AnyF.pdqsortCmpFunc_none Tryz.layPdqSel none 0 lim (TE k) w
theorem TS{l l' : List Sl}(h1:U6 l)(h2:U6 l')(hm:∀y,y∈l↔y∈l'):l=l':=by
 induction l generalizing l' with
 |nil =>
  cases l' with
  |nil=>rfl
  |cons y l'=>have:=(hm y).2 (Ab ..);cases this
 |cons x l ih =>
  cases l' with
  |nil=>have:=(hm x).1 (Ab ..);cases this
  |cons y l' =>
   obtain⟨a1,a2⟩:=BE.1 h1;obtain⟨b1,b2⟩:=BE.1 h2;have e:x=y:=by
    rcases Au.1 ((hm x).1 (Ab ..))with e | e
    ·exact e
    ·rcases Au.1 ((hm y).2 (Ab ..))with e2 | e2
     ·exact e2.symm
     ·have c1:=b1 x e;have c2:=a1 y e2
      have:=DM c1 c2
      rw[CO]at this;cases this
   subst e
   congr 1
   refine ih a2 b2 fun z=>⟨fun hz=>?_,fun hz=>?_⟩
   ·rcases Au.1 ((hm z).1 (Ag _ hz))with e | e
    ·subst e
     have:=a1 z hz
     rw[CO]at this;cases this
    ·exact e
   ·rcases Au.1 ((hm z).2 (Ag _ hz))with e | e
    ·subst e
     have:=b1 z hz
     rw[CO]at this;cases this
    ·exact e
theorem gI{l l' : List Sl}(hn:(l.map (·.path)).Nodup)(hp:l'.Perm l)(hs:l'.Pairwise fun x y=>En y.path x.path=false):l'=FO l:=by
 refine TS ?_ (PD hn) fun y=>by rw[hp.mem_iff,H2]
 have W5 : (l'.map (·.path)).Nodup:=(hp.map (·.path)).nodup_iff.2 hn;show l'.Pairwise _;rw[AT]at hs⊢;intro i j hi hj OO;cases hb:En l'[i].path l'[j].path with
 |true=>rfl
 |false =>
  have e:=Hh hb (hs i j hi hj OO)
  have:=(AT.1 W5) i j (by simpa using hi) (by simpa using hj) OO
  simp at this;exact absurd e this
theorem zY(k:Nat)(hc:CmpSlA k)(eg:∀args w,(callFunc k args).run Tryz.prog w=.ok (.enter k args) w)(l:List Sl)(hl:CU l)(hn:(l.map (·.path)).Nodup) :
  A3 Tryz.prog 67 [.msl 1000 l.length,.v (TE k)] (Aj [(1000,.arr 4 (l.map Ae))] Aa) fun r h' =>
   r=.tup []∧h'=Aj [(1000,.arr 4 ((FO l).map Ae))] Aa:=by
 obtain⟨lim,W3,hb⟩:=lL l.length hl;refine BV (Lh Ga) [(1000,1000)] rfl Cs hm rfl Tryz.func67 (by kernel_rfl) rfl (Nz rfl) (by kernel_rfl) rfl ?_;refine Xi .pure (Xi _ (Yi (hb) ?_));refine Xi (.gen [(1000,1000)] 0) (Yi rfl ((s92 k hc eg l hl lim W3).imp ?_));intro r h' hq;refine B4 hq.2 (fun l' Pf=>?_);have e:=gI hn Pf.1 Pf.2.1;refine Xi (.tup []) (Yi ?_ (Yi rfl ?_))
 ·exact .refl _
 ·rw[Pf.2.2,e];rfl
end Go.Eng
namespace Go.Eng
open Go.Proofs
abbrev Az(c:Cd):List AV:=vi c.place::Ah c.rel
abbrev A6(n:Nd):List AV:=[vs n.rq.path,sl Aq n.rq.set,vs n.path,vi n.place,vi n.number]
abbrev AR(l:List Sk):List AV:=[sl BN l]
abbrev BJ(i:Nat):List AV:=[vi (i:Nat)]
def DO:EA:=⟨true,[.int .i64,.str,.int .i64,.int .i64,.int .i64,.int .i64]⟩
def I9(i:Nf):Value:=.agg [.int .i64 i.kind,.string i.path,.int .i64 i.place,.int .i64 i.number,.int .i64 i.left,.int .i64 i.right].toArray
def DR:Nat→List Nf→List (Value×AV)
 |_,[]=>[]
 |k,i::l=>(I9 i,vi (k:Nat))::DR (k+1) l
abbrev r6(roots:List Rq)(C A:List (Value×AV))(s:SS)(dec:List Cd)(n:Nat):List AV :=
 [sl AN roots,.cmap CL C,.cmap CL A,.slice (.id 1001 6) (s.infs.map BQ),.slice (.id 1002 1) (s.drv.map B3),.mref 1003,vb s.full,sl Az dec,sl Ae (AI dec),.msl 1004 n]
abbrev srM(roots:List Rq)(C A:List (Value×AV))(s:SS)(dec:List Cd)(k n:Nat):List AV :=
 [sl AN roots,.cmap CL C,.cmap CL A,.slice (.id 1001 6) (s.infs.map BQ),.slice (.id 1002 1) (s.drv.map B3),.mref 1003,vb s.full,sl Az dec,sl Ae (AI dec),.msl k n]
abbrev IR(roots:List Rq)(C A:List (Value×AV))(s:SS)(dec:List Cd)(st:List (List Sk)):List (Nat×HO) :=
 [(1000,.cells (r6 roots C A s dec st.length)),(1001,.tok 6 s.infs.length),(1002,.tok 1 s.drv.length),(1003,.map DO (DR 0 s.infs)),(1004,.arr 1 (st.map AR))]
theorem vV{fF:Nat}{caps:List AV}(hs:EU caps)(l:List (Cd))(p:Cd→Bool)(hF:∀x∈l,PC fF ([.agg (Az x)]++caps) (vb (p x)))(hl:l.length<9223372036854775807) :
  PC 206 [sl Az l,.clo fF caps] (vi (KB p l 0)):=by
 refine Ps Ga Tryz.func206 rfl (Nz rfl) ?_;refine Xi {i:Nat // i≤l.length∧∀j (hj:j<l.length),j<i→p l[j]=false} (Xi (fun i=>⟨[(0,sl Az l),(1,.clo fF caps),(7,vi (l.map Az).length),(8,vi i.1)],[],Aa⟩) (Xi (fun i=>l.length-i.1) (Yi (Xi ⟨0,by simp⟩ ?_) ?_)))
 ·exact⟨⟨Zr,⟨rfl,hs.ids _⟩,Zr,Zr,Tv⟩,Tv,Fh,Tv⟩
 ·intro⟨i,h1,h2⟩;refine Yi ?_ ?_
  ·intro h;have h:(i:Int)<(l.map Az).length:=h;have h:i<l.length:=by simpa using h
   have hg:l[i]?=some l[i]:=Ge h;refine Xi (Az l[i]) (Yi (Yi (Nn i) (by simp[hg])) (Yi rfl (Yi (Nz rfl) ?_)));have DW:∀h,PC fF ([.agg (Az l[i])]++caps.map (str0 h)) (vb (p l[i])):=fun h=>by rw[hs.map];exact hF l[i] (At _)
   cases hp:p l[i]with
   |true =>
    rw[hp]at DW;refine Xi .pure (Xi (vb true) (Yi (DW _) ?_));rw[Ph h (fun j hj Nb=>h2 j hj Nb) hp,J3];exact .refl _
   |false =>
    rw[hp]at DW;refine Xi .pure (Xi (vb false) (Yi (DW _) ?_));refine Yi (Ii i (by omega)) ?_;refine Xi ⟨i+1,by omega,fun j hj Nb=>?_⟩ ?_
    ·by_cases e:j=i
     ·subst e;exact hp
     ·exact h2 j hj (by omega)
    ·exact⟨Dl l.length i (by omega),⟨Zr,⟨rfl,hs.ids _⟩,Zr,Zr,Tv⟩,Tv,Fh,Tv⟩
  ·intro h;have h:¬(i:Int)<(l.map Az).length:=h;have h:¬i<l.length:=by simpa using h
   rw[Kk fun j hj=>h2 j hj (by omega)];exact .refl _
theorem z6{fF:Nat}{caps:List AV}(hs:EU caps)(l:List (Nd))(p:Nd→Bool)(hF:∀x∈l,PC fF ([.agg (A6 x)]++caps) (vb (p x)))(hl:l.length<9223372036854775807) :
  PC 88 [sl A6 l,.clo fF caps] (vi (KB p l 0)):=by
 refine Ps Ga Tryz.func88 rfl (Nz rfl) ?_;refine Xi {i:Nat // i≤l.length∧∀j (hj:j<l.length),j<i→p l[j]=false} (Xi (fun i=>⟨[(0,sl A6 l),(1,.clo fF caps),(7,vi (l.map A6).length),(8,vi i.1)],[],Aa⟩) (Xi (fun i=>l.length-i.1) (Yi (Xi ⟨0,by simp⟩ ?_) ?_)))
 ·exact⟨⟨Zr,⟨rfl,hs.ids _⟩,Zr,Zr,Tv⟩,Tv,Fh,Tv⟩
 ·intro⟨i,h1,h2⟩;refine Yi ?_ ?_
  ·intro h;have h:(i:Int)<(l.map A6).length:=h;have h:i<l.length:=by simpa using h
   have hg:l[i]?=some l[i]:=Ge h;refine Xi (A6 l[i]) (Yi (Yi (Nn i) (by simp[hg])) (Yi rfl (Yi (Nz rfl) ?_)));have DW:∀h,PC fF ([.agg (A6 l[i])]++caps.map (str0 h)) (vb (p l[i])):=fun h=>by rw[hs.map];exact hF l[i] (At _)
   cases hp:p l[i]with
   |true =>
    rw[hp]at DW;refine Xi .pure (Xi (vb true) (Yi (DW _) ?_));rw[Ph h (fun j hj Nb=>h2 j hj Nb) hp,J3];exact .refl _
   |false =>
    rw[hp]at DW;refine Xi .pure (Xi (vb false) (Yi (DW _) ?_));refine Yi (Ii i (by omega)) ?_;refine Xi ⟨i+1,by omega,fun j hj Nb=>?_⟩ ?_
    ·by_cases e:j=i
     ·subst e;exact hp
     ·exact h2 j hj (by omega)
    ·exact⟨Dl l.length i (by omega),⟨Zr,⟨rfl,hs.ids _⟩,Zr,Zr,Tv⟩,Tv,Fh,Tv⟩
  ·intro h;have h:¬(i:Int)<(l.map A6).length:=h;have h:¬i<l.length:=by simpa using h
   rw[Kk fun j hj=>h2 j hj (by omega)];exact .refl _
theorem qW{fF:Nat}{caps:List AV}(hs:EU caps)(l:List (Cd))(p:Cd→Bool)(hF:∀x∈l,PC fF ([.agg (Az x)]++caps) (vb (p x)))(hl:CU l) :
  PC 171 [sl Az l,.clo fF caps] (vb (l.any p)):=by
 refine Ps Ga Tryz.func171 rfl (Nz rfl) ?_;have hi:=vV hs l p hF (by unfold CU at hl;omega);have DW:∀h,PC 206 [sl Az l,.clo fF (caps.map (str0 h))] (vi (KB p l 0)):=fun h=>by rw[hs.map];exact hi
 refine Xi .pure (Xi _ (Yi (DW _) ?_));have ha:=Oh (p:=p) l 0 (BD 0);refine Yi ?_ ?_
 ·intro h;have h:(0:Int)≤KB p l 0:=h;rw[←ha,AE h];exact .refl _
 ·intro h;have h:¬(0:Int)≤KB p l 0:=h;rw[←ha,AG h];exact .refl _
theorem qY(l:List Cd)(hl:CU l):A3 Tryz.prog 94 [sl Az l] (Aj [] Aa) fun r h'=>r=.slice (.id 2000 10) (l.map Az)∧h'=Aj [(2000,.tok 10 (l.map Az).length)] Aa:=by
 refine BV (Lh (uY 10)) [(2,2000)] rfl Cs hm rfl Tryz.func94 (by kernel_rfl) rfl (Nz rfl) (by kernel_rfl) rfl ?_;have G9:De 10 (l.map Az)∧([]:List (List AV)).length=0∧(([]:List (List AV)).length+(l.map Az).length)*128≤140737488355328∧([]:List (List AV)).length+(l.map Az).length≤9223372036854775807:=by
  refine⟨E9 (enc:=Az) (n:=10) (fun _=>rfl) l,rfl,?_,?_⟩<;>simp only[AF,Lm]<;>unfold CU at hl<;>omega
 have e2:HO.tok 10 (([]:List (List AV)).length+(l.map Az).length)=.tok 10 (l.map Az).length:=by rw[AF,Bg]
 have e3:AV.slice (.id 2000 10) ([]++l.map Az)=.slice (.id 2000 10) (l.map Az):=rfl;have full:∀st:St,(∃s:LS,St.le (Lh (uY 10)) st s∧True)→True:=fun _ _=>trivial;refine Xi 0 ?_;refine Xi 0 ?_;refine Yi ?_ ?_
 ·intro _;refine Xi ⟨[(0,sl Az l)],[],Aa⟩ (Yi ⟨Z1,Tv,Fh,Aw (by kernel_rfl)⟩ ?_)
  refine Xi 2 ?_;refine Yi G9 ?_;exact Xi _ (Yi (.refl _) (Yi e3 (Ad (fun o=>Aj [(2000,o)] Aa) e2)))
 ·intro h;have h:l.map Az=[]:=h;refine Yi ?_ ?_
  ·refine Xi ⟨[],[],Aa⟩ (Yi ⟨trivial,trivial,fun _=>.inl rfl,Aw (by kernel_rfl)⟩ ?_)
   refine Xi 0 ?_;exact Xi _ (Yi (.refl _) (Yi (show AV.slice (.id 2000 10) []=_ by rw[h]) (show Aj [(2000,HO.tok 10 0)] Aa=_ by rw[h];rfl)))
  ·refine Xi ⟨[(0,sl Az l)],[],Aa⟩ (Yi ⟨Z1,Tv,Fh,Aw (by kernel_rfl)⟩ ?_)
   refine Xi 2 ?_;refine Yi G9 ?_;exact Xi _ (Yi (.refl _) (Yi e3 (Ad (fun o=>Aj [(2000,o)] Aa) e2)))
theorem QT:∀{l:List Nf} {k:Nat} {kx:Value} {a:AV},(kx,a)∈DR k l↔∃j i,l[j]?=some i∧kx=I9 i∧a=vi ((k+j:Nat):Int)
 | [],k,kx,a=>by simp[DR]
 |y::l,k,kx,a=>by
  unfold DR;rw[Au,QT];constructor
  ·rintro(h | ⟨j,i,h1,h2,h3⟩)
   ·cases h;exact⟨0,y,rfl,rfl,rfl⟩
   ·exact⟨j+1,i,h1,h2,by rw[h3,show k+1+j=k+(j+1) by omega]⟩
  ·rintro⟨j,i,h1,h2,h3⟩
   cases j with
   |zero=>cases h1;exact .inl (by rw[h2,h3];rfl)
   |succ j=>exact .inr ⟨j,i,h1,h2,by rw[h3,show k+1+j=k+(j+1) by omega]⟩
theorem Ux{a b:Nf}(h:I9 a=I9 b):a=b:=by
 obtain⟨a1,a2,a3,a4,a5,a6⟩:=a;obtain⟨b1,b2,b3,b4,b5,b6⟩:=b;unfold I9 at h;simp at h;obtain⟨rfl,rfl,rfl,rfl,rfl,rfl⟩:=h
 rfl
theorem qr{l:List Nf}{i:Nf}{k:Nat}(h:Ll i 0 l=some k):(I9 i,vi (k:Nat))∈DR 0 l:=by
 obtain⟨j,e,hj⟩:=Ms h;exact QT.2 ⟨j,i,hj,rfl,by rw[e]⟩
theorem jv{l:List Nf}(hn:l.Nodup){i:Nf}{k:Nat}(h:Ll i 0 l=some k):∀b,(I9 i,b)∈DR 0 l→b=vi (k:Nat):=fun b hb=>by
 obtain⟨j,e,hj⟩:=Ms h;obtain⟨j',i',h1,h2,h3⟩:=QT.1 hb
 have:=Ux h2
 subst this;obtain⟨a1,a2⟩:=Ap.1 hj;obtain⟨b1,b2⟩:=Ap.1 h1
 have:j'=j:=(List.getElem_inj hn).1 (b2.trans a2.symm)
 subst this;rw[h3,e]
theorem kZ{l:List Nf}{i:Nf}(h:Ll i 0 l=none):∀a,(I9 i,a)∉DR 0 l:=fun a ha=>by
 obtain⟨j,i',h1,h2,_⟩:=QT.1 ha
 have:=Ux h2
 subst this;exact Pq h (Ar h1)
theorem Zv:∀(l:List Nf) (k:Nat) (i:Nf),DR k (l++[i])=DR k l++[(I9 i,vi ((k+l.length:Nat):Int))]
 | [],k,i=>by simp[DR]
 |y::l,k,i=>by
  show(I9 y,_)::DR (k+1) (l++[i])=_;rw[Zv l (k+1) i];simp[DR,show k+1+l.length=k+(l.length+1) by omega]
theorem mU{l:List Nf}{i:Nf}(h:Ll i 0 l=none):EK (DR 0 l) (I9 i) (vi ((l.map BQ).length:Int))=DR 0 (l++[i]):=by
 rw[LN (kZ h),Zv,Lm,Bg]
theorem Ws{s:SS}{i:Nf}{l:List Tm}{k:Nat}(h:Ll i 0 s.infs=some k):D5 s i l=(k,s):=by unfold D5;rw[h]
theorem T0{s:SS}{i:Nf}{l:List Tm}(h:Ll i 0 s.infs=none)(hf:65536≤s.infs.length):D5 s i l=(s.infs.length-1,⟨s.infs,s.drv,true⟩):=by unfold D5;rw[h];exact Ao hf
theorem Wr{s:SS}{i:Nf}{l:List Tm}(h:Ll i 0 s.infs=none)(hf:¬65536≤s.infs.length):D5 s i l=(s.infs.length,⟨s.infs++[i],s.drv++[l],s.full⟩):=by unfold D5;rw[h];exact Ai hf
section
variable {roots:List Rq}{C A:List (Value×AV)}{s s' : SS}{dec:List Cd}{st:List (List Sk)}{i:Nf}{l:List Tm}
theorem c8{k:Nat}{z:Int}(e:D5 s i l=(k,s'))(hz:z=k):vi z=vi ((D5 s i l).1:Nat)∧Aj (IR roots C A s' dec st) Aa=Aj (IR roots C A (D5 s i l).2 dec st) Aa:=by rw[e,hz];exact Zr
theorem ov(h:Ll i 0 s.infs=none):Aj [(1000,.cells [sl AN roots,.cmap CL C,.cmap CL A,.slice (.id 1001 6) (s.infs.map BQ++[BQ i]),.slice (.id 1002 1) (s.drv.map B3++[B3 l]),.mref 1003,vb s.full,sl Az dec,sl Ae (AI dec),.msl 1004 st.length]),
      (1001,.tok 6 ((s.infs.map BQ).length+[BQ i].length)),(1002,.tok 1 ((s.drv.map B3).length+[B3 l].length)),(1003,.map DO (EK (DR 0 s.infs) (I9 i) (vi ((s.infs.map BQ).length:Int)))),(1004,.arr 1 (st.map AR))] Aa=Aj (IR roots C A ⟨s.infs++[i],s.drv++[l],s.full⟩ dec st) Aa:=by
  have e1:s.infs.map BQ++[BQ i]=(s.infs++[i]).map BQ:=by simp
  have e2:s.drv.map B3++[B3 l]=(s.drv++[l]).map B3:=by simp
  have e3:(s.infs.map BQ).length+[BQ i].length=(s.infs++[i]).length:=by simp
  have e4:(s.drv.map B3).length+[B3 l].length=(s.drv++[l]).length:=by simp
  rw[e1,e2,e3,e4,mU h]
end
theorem qX(c:Cd)(p:ByteArray):PC 172 [.agg (Az c),.cptr [vs p]] (vb (decide (c.rel.path=p))):=by
 refine Ps ⟨[2],[],[],[],[],[],[],[],[],[],[]⟩ Tryz.func172 rfl (Nz rfl) ?_;refine Yi (fun h1=>?_) (fun h1=>?_)
 ·have h1:(c.rel.path:ByteArray)=p:=h1;exact .of_eq (show vb true=vb (decide (c.rel.path=p)) by rw[AE h1])
 have h1:¬(c.rel.path:ByteArray)=p:=h1;exact .of_eq (show vb false=vb (decide (c.rel.path=p)) by rw[AG h1])
theorem qV(t:Tm)(p:ByteArray):PC 126 [.agg (AA t),.cptr [vs p]] (vb (decide (t.path=p))):=by
 refine Ps ⟨[2],[],[],[],[],[],[],[],[],[],[]⟩ Tryz.func126 rfl (Nz rfl) ?_;refine Yi (fun h1=>?_) (fun h1=>?_)
 ·have h1:(t.path:ByteArray)=p:=h1;exact .of_eq (show vb true=vb (decide (t.path=p)) by rw[AE h1])
 have h1:¬(t.path:ByteArray)=p:=h1;exact .of_eq (show vb false=vb (decide (t.path=p)) by rw[AG h1])
theorem ir(l:List Tm)(p:ByteArray)(hl:CU l):PC 95 [sl AA l,vs p] (vb (CP l p)):=by
 refine Ps ⟨[3],[],[],[],[],[],[],[],[],[],[]⟩ Tryz.func95 rfl (Nz rfl) ?_;refine Dj (Bt (CP l p)) (fun h1=>?_) (fun h1=>?_)
 ·have h1:(CP l p)=true:=h1;refine Xi .pure (Xi _ (Yi (cb h1 (show PC 125 [sl AA l,.clo 126 [.cptr [vs p]]] (vb (CP l p))from lN (fF:=126) (caps:=[.cptr [vs p]]) (fun c hc=>by obtain rfl:=Ak.1 hc;intro h;rfl) l (fun t=>decide (t.path=p)) (fun t _=>qV t p) hl)) ?_));exact .of_eq (show vb true=vb (CP l p) by rw[h1])
 have h1:(CP l p)=false:=h1;refine Xi .pure (Xi _ (Yi (cb h1 (show PC 125 [sl AA l,.clo 126 [.cptr [vs p]]] (vb (CP l p))from lN (fF:=126) (caps:=[.cptr [vs p]]) (fun c hc=>by obtain rfl:=Ak.1 hc;intro h;rfl) l (fun t=>decide (t.path=p)) (fun t _=>qV t p) hl)) ?_));exact .of_eq (show vb false=vb (CP l p) by rw[h1])
theorem qU(roots:List Rq)(C A:List (Value×AV))(s:SS)(dec:List Cd)(st:List (List Sk))(p:ByteArray)(hl:CU dec):A3 Tryz.prog 118 [.ref 1000 0,vs p] (Aj (IR roots C A s dec st) Aa) fun r h'=>r=vb (CY dec p)∧h'=Aj (IR roots C A s dec st) Aa:=by
 refine BV (Lh ⟨[3],[],[],[],[],[],[],[],[],[],[]⟩) [(1000,1000),(1001,1001),(1002,1002),(1003,1003),(1004,1004)] rfl Cs hm rfl Tryz.func118 (by kernel_rfl) rfl (Nz rfl) (by kernel_rfl) rfl ?_;refine Dj (Bt (CY dec p)) (fun h1=>?_) (fun h1=>?_)
 ·have h1:(CY dec p)=true:=h1;refine Xi .pure (Xi _ (Yi (cb h1 (show PC 171 [sl Az dec,.clo 172 [.cptr [vs p]]] (vb (CY dec p))from qW (fF:=172) (caps:=[.cptr [vs p]]) (fun c hc=>by obtain rfl:=Ak.1 hc;intro h;rfl) dec (fun c=>decide (c.rel.path=p)) (fun c _=>qX c p) hl)) ?_));exact Xi _ (Yi (.refl _) (Yi (show vb true=vb (CY dec p) by rw[h1]) rfl))
 have h1:(CY dec p)=false:=h1;refine Xi .pure (Xi _ (Yi (cb h1 (show PC 171 [sl Az dec,.clo 172 [.cptr [vs p]]] (vb (CY dec p))from qW (fF:=172) (caps:=[.cptr [vs p]]) (fun c hc=>by obtain rfl:=Ak.1 hc;intro h;rfl) dec (fun c=>decide (c.rel.path=p)) (fun c _=>qX c p) hl)) ?_));exact Xi _ (Yi (.refl _) (Yi (show vb false=vb (CY dec p) by rw[h1]) rfl))
theorem kc(roots:List Rq)(C A:List (Value×AV))(s:SS)(dec:List Cd)(st:List (List Sk))(i:Nf)(l:List Tm)(k:Nat)(hk:Ll i 0 s.infs=some k)(QF:s.infs.Nodup):A3 Tryz.prog 121 [.ref 1000 0,.agg (BQ i),sl AA l] (Aj (IR roots C A s dec st) Aa) fun r h'=>r=vi ((D5 s i l).1:Nat)∧h'=Aj (IR roots C A (D5 s i l).2 dec st) Aa:=by
 refine BV (Lh ⟨[4],[],[],[],[],[],[],[],[],[],[2,5,7,8,9,10,11]⟩) [(1000,1000),(1001,1001),(1002,1002),(1003,1003),(1004,1004)] rfl Cs hm rfl Tryz.func121 (by kernel_rfl) rfl (Nz rfl) (by kernel_rfl) rfl ?_;refine Yi (Nz rfl) ?_;refine Or.inl (Xi (vi (k:Nat)) (Yi (Yi (qr hk) (jv QF hk)) ?_));refine Yi (by kernel_rfl) ?_;refine Xi ⟨[(0,.ref 1000 0),(2,sl AA l),(4,.ref 4 0),(7,vi (k:Nat)),(8,vb true)],[(4,.ro (BQ i)),(1000,.cells (srM roots C A s dec 1004 st.length)),(1001,.tok 6 s.infs.length),(1002,.tok 1 s.drv.length),(1003,.map DO (DR 0 s.infs)),(1004,.arr 1 (st.map AR))],Aa⟩ (Yi ⟨Z5,Z6,Fh,Aw (by kernel_rfl)⟩ ?_)
 exact Xi _ (Yi (.refl _) (c8 (Ws hk) rfl))
theorem kb(roots:List Rq)(C A:List (Value×AV))(s:SS)(dec:List Cd)(st:List (List Sk))(i:Nf)(l:List Tm)(hk:Ll i 0 s.infs=none)(hn:s.infs.length≤65536)(hdl:s.drv.length=s.infs.length):A3 Tryz.prog 121 [.ref 1000 0,.agg (BQ i),sl AA l] (Aj (IR roots C A s dec st) Aa) fun r h'=>r=vi ((D5 s i l).1:Nat)∧h'=Aj (IR roots C A (D5 s i l).2 dec st) Aa:=by
 have hdn:s.drv.length≤65536:=by omega
 have xh:(s.infs.map BQ).length=s.infs.length:=Lm _;refine BV (Lh ⟨[4],[],[],[],[],[],[],[],[],[],[2,5,7,8,9,10,11]⟩) [(1000,1000),(1001,1001),(1002,1002),(1003,1003),(1004,1004)] rfl Cs hm rfl Tryz.func121 (by kernel_rfl) rfl (Nz rfl) (by kernel_rfl) rfl ?_;refine Yi (Nz rfl) ?_;refine Or.inr (Yi (kZ hk) ?_);refine Yi (by kernel_rfl) ?_;refine Xi ⟨[(0,.ref 1000 0),(2,sl AA l),(4,.ref 4 0),(7,vi 0),(8,vb false)],[(4,.ro (BQ i)),(1000,.cells (srM roots C A s dec 1004 st.length)),(1001,.tok 6 s.infs.length),(1002,.tok 1 s.drv.length),(1003,.map DO (DR 0 s.infs)),(1004,.arr 1 (st.map AR))],Aa⟩ (Yi ⟨Z5,Z6,Fh,Aw (by kernel_rfl)⟩ ?_)
 refine Yi (fun h1=>?_) (fun h1=>?_)
 ·have h1:(65536:Int)≤((s.infs.map BQ).length:Int):=h1;refine Xi ⟨[(0,.ref 1000 0)],[(1000,.cells (srM roots C A s dec 1004 st.length)),(1001,.tok 6 s.infs.length),(1002,.tok 1 s.drv.length),(1003,.map DO (DR 0 s.infs)),(1004,.arr 1 (st.map AR))],Aa⟩ (Yi ⟨Z1,Z5,Fh,Aw (by kernel_rfl)⟩ ?_)
  refine Yi (Nz rfl) ?_;refine Yi (by show BM (((s.infs.map BQ).length:Int)-(1:Int));unfold BM;omega) ?_;exact Xi _ (Yi (.refl _) (c8 (T0 hk (by have q:=h1;rw[Lm]at q;omega)) (by have q:=h1;rw[Lm]at q⊢;omega)))
 have h1:¬((65536:Int)≤((s.infs.map BQ).length:Int)):=h1;refine Xi ⟨[(0,.ref 1000 0),(2,sl AA l),(4,.ref 4 0)],[(4,.ro (BQ i)),(1000,.cells (srM roots C A s dec 1004 st.length)),(1001,.tok 6 s.infs.length),(1002,.tok 1 s.drv.length),(1003,.map DO (DR 0 s.infs)),(1004,.arr 1 (st.map AR))],Aa⟩ (Yi ⟨Z3,Z6,Fh,Aw (by kernel_rfl)⟩ ?_)
 refine Xi ⟨[(0,.ref 1000 0),(2,sl AA l),(4,.ref 4 0),(9,vi (s.infs.map BQ).length)],[(4,.ro (BQ i)),(1000,.cells (srM roots C A s dec 1004 st.length)),(1001,.tok 6 s.infs.length),(1002,.tok 1 s.drv.length),(1003,.map DO (DR 0 s.infs)),(1004,.arr 1 (st.map AR))],Aa⟩ (Yi ⟨Z4,Z6,Fh,Aw (by kernel_rfl)⟩ ?_)
 refine Yi (Nz rfl) ?_;refine Yi (by kernel_rfl) ?_;refine Xi ⟨[(0,.ref 1000 0),(2,sl AA l),(4,.ref 4 0),(9,vi (s.infs.map BQ).length)],[(4,.ro (BQ i)),(1000,.cells (srM roots C A s dec 1004 st.length)),(1001,.tok 6 s.infs.length),(1002,.tok 1 s.drv.length),(1003,.map DO (EK (DR 0 s.infs) (I9 i) (vi (s.infs.map BQ).length))),(1004,.arr 1 (st.map AR))],Aa⟩ (Yi ⟨Z4,Z6,Fh,Aw (by kernel_rfl)⟩ ?_)
 refine Yi (Nz rfl) ?_;refine Yi (az rfl (by omega) (by decide)) ?_;refine Yi (Nz rfl) ?_;refine Yi (by kernel_rfl) ?_;refine Xi ⟨[(0,.ref 1000 0),(2,sl AA l),(9,vi (s.infs.map BQ).length)],[(1000,.cells [sl AN roots,.cmap CL C,.cmap CL A,.slice (.id 1001 6) ((s.infs.map BQ)++[(BQ i)]),.slice (.id 1002 1) (s.drv.map B3),.mref 1003,vb s.full,sl Az dec,sl Ae (AI dec),.msl 1004 st.length]),(1001,.tok 6 ((s.infs.map BQ).length+([(BQ i)]:List (List AV)).length)),(1002,.tok 1 s.drv.length),(1003,.map DO (EK (DR 0 s.infs) (I9 i) (vi (s.infs.map BQ).length))),(1004,.arr 1 (st.map AR))],Aa⟩ (Yi ⟨Z3,Z5,Fh,Aw (by kernel_rfl)⟩ ?_)
 refine Yi (az rfl (by omega) (by decide)) ?_;refine Yi (Nz rfl) ?_;refine Xi ⟨[(9,vi (s.infs.map BQ).length)],[(1000,.cells [sl AN roots,.cmap CL C,.cmap CL A,.slice (.id 1001 6) ((s.infs.map BQ)++[(BQ i)]),.slice (.id 1002 1) ((s.drv.map B3)++[[sl AA l]]),.mref 1003,vb s.full,sl Az dec,sl Ae (AI dec),.msl 1004 st.length]),(1001,.tok 6 ((s.infs.map BQ).length+([(BQ i)]:List (List AV)).length)),(1002,.tok 1 ((s.drv.map B3).length+([[sl AA l]]:List (List AV)).length)),(1003,.map DO (EK (DR 0 s.infs) (I9 i) (vi (s.infs.map BQ).length))),(1004,.arr 1 (st.map AR))],Aa⟩ (Yi ⟨Z1,Z5,Fh,Aw (by kernel_rfl)⟩ ?_)
 have hq:=c8 (roots:=roots) (C:=C) (A:=A) (dec:=dec) (st:=st) (z:=((s.infs.map BQ).length:Int)) (Wr (l:=l) hk (by have q:=h1;rw[Lm]at q;omega)) (by rw[Lm]);exact Xi _ (Yi (.refl _) (Yi hq.1 ((ov hk).trans hq.2)))
structure Jm(x:List Rl)(roots:List Rq)(s:SS):Prop where
 der:Fe x roots s
 nodup:s.infs.Nodup
abbrev lp(roots:List Rq)(C A:List (Value×AV))(dec:List Cd)(st:List (List Sk))(o:Nat×SS)(r:AV)(h' : Nat→HO):Prop:=r=vi (o.1:Nat)∧h'=Aj (IR roots C A o.2 dec st) Aa
theorem ka(roots:List Rq)(C A:List (Value×AV))(s:SS)(dec:List Cd)(st:List (List Sk))(i:Nf)(l:List Tm)(hn:s.infs.length≤65536)(hdl:s.drv.length=s.infs.length)(QF:s.infs.Nodup) :
  A3 Tryz.prog 121 [.ref 1000 0,.agg (BQ i),sl AA l] (Aj (IR roots C A s dec st) Aa) (lp roots C A dec st (D5 s i l)):=by
 cases hk:Ll i 0 s.infs with
 |some k=>exact kc roots C A s dec st i l k hk QF
 |none=>exact kb roots C A s dec st i l hk hn hdl
abbrev XW:II:=[(1000,1000),(1001,1001),(1002,1002),(1003,1003),(1004,1004)]
theorem pc{h2:Nat→HO}{cs:List AV}{o1 o2 o3 o4:HO}(e0:h2 1000=.cells cs)(e1:h2 1001=o1)(e2:h2 1002=o2)(e3:h2 1003=o3)(e4:h2 1004=o4) :
  Fp XW h2=Aj [(1000,.cells (cs.map (ren1 (Cj XW) h2))),(1001,o1.ren (Cj XW) h2),(1002,o2.ren (Cj XW) h2),(1003,o3.ren (Cj XW) h2),(1004,o4.ren (Cj XW) h2)] Aa:=by
 unfold Fp;simp only[VR];rw[e0,e1,e2,e3,e4];rfl
theorem bo{s:SS}{n:Nd}(h:n.path=mt):D5 s ⟨0,mt,0,n.number,0,0⟩ (Jg n.rq)=Bh s n:=by unfold Bh Sp IP;rw[Ao h,Ao h]
theorem fh{s:SS}{n:Nd}(h:¬n.path=mt):D5 s ⟨1,n.path,n.place,n.number,0,0⟩ (Eb n.path n.place n.rq)=Bh s n:=by unfold Bh Sp IP;rw[Ai h,Ai h]
abbrev Vp(d:List (List Tm))(S:List Sl):AV:=.tup [vi (((NZ d S).getD 0:Nat):Int),vb (NZ d S).isSome]
theorem WJ{S:List Sl}:∀{l:List (List Tm)} {b i:Nat} {t:List Tm},l[i]?=some t→Ct t S=true→(∀j u,j<i→l[j]?=some u→Ct u S=false)→NY S b l=some (b+i)
 | [],_,_,_,h,_,_=>by simp at h
 |u::l,b,0,t,h,he,_=>by cases h;unfold NY;rw[Ao he];rfl
 |u::l,b,i+1,t,h,he,hn=>by
  unfold NY;rw[Ai (by rw[hn 0 u (by omega) rfl];decide),WJ (i:=i) (by simpa using h) he (fun j v hj hv=>hn (j+1) v (by omega) (by simpa using hv))]
  congr 1;omega
theorem WK{S:List Sl}:∀{l:List (List Tm)} {b:Nat},(∀t∈l,Ct t S=false)→NY S b l=none
 | [],_,_=>rfl
 |u::l,b,h=>by
  unfold NY;rw[Ai (by rw[h u (Ab ..)];decide)];exact WK fun t ht=>h t (Ag _ ht)
theorem wb(roots:List Rq)(C A:List (Value×AV))(s:SS)(dec:List Cd)(st:List (List Sk))(n:Nd)(hn:s.infs.length≤65536)(hdl:s.drv.length=s.infs.length)(QF:s.infs.Nodup)(hq:CU n.rq.set)(hp:BM (n.place+1)):A3 Tryz.prog 91 [.ref 1000 0,.agg (A6 n)] (Aj (IR roots C A s dec st) Aa) fun r h'=>lp roots C A dec st (Bh s n) r h':=by
 refine BV (Lh ⟨[3],[],[],[],[],[],[],[],[(15,5),(31,5)],[],[2,3]⟩) [(1000,1000),(1001,1001),(1002,1002),(1003,1003),(1004,1004)] rfl Cs hm rfl Tryz.func91 (by kernel_rfl) rfl (Nz rfl) (by kernel_rfl) rfl ?_;refine Yi (fun h1=>?_) (fun h1=>?_)
 ·have h1:(n.path:ByteArray)=⟨#[]⟩:=h1;refine Xi ⟨[(0,.ref 1000 0),(3,.ref 3 0)],[(3,.ro (A6 n)),(1000,.cells (srM roots C A s dec 1004 st.length)),(1001,.tok 6 s.infs.length),(1002,.tok 1 s.drv.length),(1003,.map DO (DR 0 s.infs)),(1004,.arr 1 (st.map AR))],Aa⟩ (Yi ⟨Z2,Z6,Fh,Aw (by kernel_rfl)⟩ ?_)
  refine Yi (Nz rfl) ?_;refine Xi _ (Yi (sO n.rq hq) ?_);refine Xi XW (Xi [(1000,.cells (srM roots C A s dec 1004 st.length)),(1001,.tok 6 s.infs.length),(1002,.tok 1 s.drv.length),(1003,.map DO (DR 0 s.infs)),(1004,.arr 1 (st.map AR))] (Xi (IR roots C A (D5 s ⟨0,mt,0,n.number,0,0⟩ (Jg n.rq)).2 dec st) (Xi [.ref 1000 0,.agg [vi 0,vs ⟨#[]⟩,vi 0,vi n.number,vi 0,vi 0],sl AA (Jg n.rq)] (Xi (vi (((D5 s ⟨0,mt,0,n.number,0,0⟩ (Jg n.rq)).1:Nat):Int):AV) (Yi (fun h2 hh=>Yi ((pc (show h2 1000=.cells (srM roots C A s dec 1004 st.length)from hh 1000 (by decide)) (show h2 1001=.tok 6 s.infs.length from hh 1001 (by decide)) (show h2 1002=.tok 1 s.drv.length from hh 1002 (by decide)) (show h2 1003=.map DO (DR 0 s.infs)from hh 1003 (by decide)) (show h2 1004=.arr 1 (st.map AR)from hh 1004 (by decide))).trans rfl) rfl) (Yi (by kernel_rfl) (Yi (ka roots C A s dec st ⟨0,mt,0,n.number,0,0⟩ (Jg n.rq) hn hdl QF) ?_)))))));refine Yi (by kernel_rfl) ?_;have ei:=bo (s:=s) h1;exact Xi _ (Yi (.refl _) (Yi (show vi (((D5 s ⟨0,mt,0,n.number,0,0⟩ (Jg n.rq)).1:Nat):Int)=vi (((Bh s n).1:Nat):Int) by rw[ei]) (show Aj (IR roots C A (D5 s ⟨0,mt,0,n.number,0,0⟩ (Jg n.rq)).2 dec st) Aa=Aj (IR roots C A (Bh s n).2 dec st) Aa by rw[ei])))
 have h1:¬(n.path:ByteArray)=⟨#[]⟩:=h1;refine Xi ⟨[(0,.ref 1000 0),(3,.ref 3 0)],[(3,.ro (A6 n)),(1000,.cells (srM roots C A s dec 1004 st.length)),(1001,.tok 6 s.infs.length),(1002,.tok 1 s.drv.length),(1003,.map DO (DR 0 s.infs)),(1004,.arr 1 (st.map AR))],Aa⟩ (Yi ⟨Z2,Z6,Fh,Aw (by kernel_rfl)⟩ ?_)
 refine Yi (Nz rfl) ?_;refine Xi _ (Yi (sP n.path n.place n.rq hp hq) ?_);refine Xi XW (Xi [(1000,.cells (srM roots C A s dec 1004 st.length)),(1001,.tok 6 s.infs.length),(1002,.tok 1 s.drv.length),(1003,.map DO (DR 0 s.infs)),(1004,.arr 1 (st.map AR))] (Xi (IR roots C A (D5 s ⟨1,n.path,n.place,n.number,0,0⟩ (Eb n.path n.place n.rq)).2 dec st) (Xi [.ref 1000 0,.agg [vi 1,vs n.path,vi n.place,vi n.number,vi 0,vi 0],sl AA (Eb n.path n.place n.rq)] (Xi (vi (((D5 s ⟨1,n.path,n.place,n.number,0,0⟩ (Eb n.path n.place n.rq)).1:Nat):Int):AV) (Yi (fun h2 hh=>Yi ((pc (show h2 1000=.cells (srM roots C A s dec 1004 st.length)from hh 1000 (by decide)) (show h2 1001=.tok 6 s.infs.length from hh 1001 (by decide)) (show h2 1002=.tok 1 s.drv.length from hh 1002 (by decide)) (show h2 1003=.map DO (DR 0 s.infs)from hh 1003 (by decide)) (show h2 1004=.arr 1 (st.map AR)from hh 1004 (by decide))).trans rfl) rfl) (Yi (by kernel_rfl) (Yi (ka roots C A s dec st ⟨1,n.path,n.place,n.number,0,0⟩ (Eb n.path n.place n.rq) hn hdl QF) ?_)))))));refine Yi (by kernel_rfl) ?_;have ei:=fh (s:=s) h1;exact Xi _ (Yi (.refl _) (Yi (show vi (((D5 s ⟨1,n.path,n.place,n.number,0,0⟩ (Eb n.path n.place n.rq)).1:Nat):Int)=vi (((Bh s n).1:Nat):Int) by rw[ei]) (show Aj (IR roots C A (D5 s ⟨1,n.path,n.place,n.number,0,0⟩ (Eb n.path n.place n.rq)).2 dec st) Aa=Aj (IR roots C A (Bh s n).2 dec st) Aa by rw[ei])))
theorem z8(roots:List Rq)(C A:List (Value×AV))(s:SS)(dec:List Cd)(st:List (List Sk))(S:List Sl)(hd:s.drv.length≤65536)(ht:∀t∈s.drv,cV t)(hS:CU S):A3 Tryz.prog 92 [.ref 1000 0,sl Ae S] (Aj (IR roots C A s dec st) Aa) fun r h'=>r=Vp s.drv S∧h'=Aj (IR roots C A s dec st) Aa:=by
 refine BV (Lh ⟨[],[],[],[],[],[],[],[],[],[],[4,6]⟩) [(1000,1000),(1001,1001),(1002,1002),(1003,1003),(1004,1004)] rfl Cs hm rfl Tryz.func92 (by kernel_rfl) rfl (Nz rfl) (by kernel_rfl) rfl ?_;refine Xi {i:Nat // i≤s.drv.length∧∀j u,j<i→s.drv[j]?=some u→Ct u S=false} (Xi (fun q=>⟨[(1,sl Ae S),(11,.slice (.id 1002 1) (s.drv.map B3)),(12,vi (s.drv.map B3).length),(13,vi q.1)],[(1000,.cells (srM roots C A s dec 1004 st.length)),(1001,.tok 6 s.infs.length),(1002,.tok 1 s.drv.length),(1003,.map DO (DR 0 s.infs)),(1004,.arr 1 (st.map AR))],Aa⟩) (Xi (fun q=>s.drv.length-q.1) (Yi (Xi ⟨0,AO _,fun j u h=>absurd h (TX j)⟩ ?_) ?_)))
 ·exact⟨Z4,Z5,Fh,Aw (by kernel_rfl)⟩
 intro⟨i,i1,i2⟩;have i1:i≤s.drv.length:=i1;have i2:∀j u,j<i→s.drv[j]?=some u→Ct u S=false:=i2;refine Yi (fun h1=>?_) (fun h1=>?_)
 ·have h1:(i:Int)<((s.drv.map B3).length:Int):=h1;have n1:=MB h1;refine Xi (B3 s.drv[i]) (Yi (Wj n1) (Yi rfl ?_));refine Xi ⟨[(1,sl Ae S),(6,vi i),(7,sl AA s.drv[i]),(11,.slice (.id 1002 1) (s.drv.map B3)),(12,vi (s.drv.map B3).length),(13,vi i)],[(1000,.cells (srM roots C A s dec 1004 st.length)),(1001,.tok 6 s.infs.length),(1002,.tok 1 s.drv.length),(1003,.map DO (DR 0 s.infs)),(1004,.arr 1 (st.map AR))],Aa⟩ (Yi ⟨Z6,Z5,Fh,Aw (by kernel_rfl)⟩ ?_)
  refine Dj (Bt (Ct s.drv[i] S)) (fun h2=>?_) (fun h2=>?_)
  ·have h2:(Ct s.drv[i] S)=true:=h2;refine Xi .pure (Xi _ (Yi (cb h2 (wC s.drv[i] S (ht _ (At _)) hS)) ?_));have eE:NZ s.drv S=some i:=by unfold NZ;rw[WJ (Ge n1) h2 i2,Bg]
   exact Xi _ (Yi (.refl _) (Yi (show AV.tup [vi (i:Int),vb true]=Vp s.drv S by unfold Vp;rw[eE];rfl) rfl))
  have h2:(Ct s.drv[i] S)=false:=h2;refine Xi .pure (Xi _ (Yi (cb h2 (wC s.drv[i] S (ht _ (At _)) hS)) ?_));refine Xi ⟨[(1,sl Ae S),(11,.slice (.id 1002 1) (s.drv.map B3)),(12,vi (s.drv.map B3).length),(13,vi i)],[(1000,.cells (srM roots C A s dec 1004 st.length)),(1001,.tok 6 s.infs.length),(1002,.tok 1 s.drv.length),(1003,.map DO (DR 0 s.infs)),(1004,.arr 1 (st.map AR))],Aa⟩ (Yi ⟨Z4,Z5,Fh,Aw (by kernel_rfl)⟩ ?_)
  refine Yi (Ii i (by omega)) ?_;refine Xi ⟨i+1,by omega,fun j u hj hu=>by
    by_cases e:j=i
    ·subst e;rw[Ge n1]at hu;cases hu;exact h2
    ·exact i2 j u (by omega) hu⟩ ?_
  exact⟨Dl s.drv.length i (by omega),Z4,Z5,Fh,Aw (by kernel_rfl)⟩
 have h1:¬((i:Int)<((s.drv.map B3).length:Int)):=h1;have n1:=MA h1;have eE:NZ s.drv S=none:=WK fun t ht=>by
  obtain⟨j,hj⟩:=B1.1 ht
  have:=(Ap.1 hj).1
  exact i2 j t (by have q:=h1;rw[Lm]at q;omega) hj
 exact Xi _ (Yi (.refl _) (Yi (show AV.tup [vi 0,vb false]=Vp s.drv S by unfold Vp;rw[eE];rfl) rfl))
end Go.Eng
