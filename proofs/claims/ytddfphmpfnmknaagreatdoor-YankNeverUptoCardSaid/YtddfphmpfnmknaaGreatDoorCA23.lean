/- Lemmas for the claims of this seat, without a condition: part 23 (O16, O17, S15, S1, S2, S3). -/
import Derived.Test.YtddfphmpfnmknaaGreatDoorCA22
set_option maxHeartbeats 4000000
namespace Go.Eng
open Go.Proofs
structure Mv where
 path:ByteArray
 a:Int
 b:Int
abbrev DW(m:Mv):List AV:=[vs m.path,vi m.a,vi m.b]
abbrev plP(s:Sl):Value×AV:=(.string s.path,vi (place s.ver))
abbrev Jm(l:List Sl):List (Value×AV):=l.map plP
def KI(l:List Sl)(p:ByteArray):Int:=match B2 l p with | some s=>place s.ver | none=>-1
def J9(l m:List Sl)(p:ByteArray):Option Mv:=if KI l p≠KI m p then some ⟨p,KI l p,KI m p⟩else none
abbrev HA(l m:List Sl)(ps:List ByteArray):List Mv:=ps.filterMap (J9 l m)
structure LL(l:List Sl):Prop where
 few:CO l
 val:∀s∈l,Cr s.ver=true
 inc:l.Pairwise nW
theorem LL.step{l:List Sl}(h:LL l){i:Nat}(hi:i<l.length)(h0:0<i):Ew (l[i-1]'(by omega)).path l[i].path=true:=(AY.1 h.inc) (i-1) i (by omega) hi (by omega)
theorem gX{l:List Sl}(h:LL l){i:Nat}(hi:i<l.length):∀b,(Value.string l[i].path,b)∉Jm (l.take i):=fun b hb=>by
 obtain⟨s,hs,e⟩:=Aj.1 hb;obtain⟨j,hj,rfl⟩:=CW.1 hs;rw[HS]at e;rw[AD]at hj;have q:=(AY.1 h.inc) j i (by omega) hi (by omega);have e2:l[j].path=l[i].path:=by injection e with e1;injection e1
 rw[nW,e2,CZ]at q;cases q
theorem oa{l:List Sl}(h:LL l){p:ByteArray}{a:AV}(ha:(Value.string p,a)∈Jm l):a=vi (KI l p):=by
 obtain⟨s,hs,e⟩:=Aj.1 ha;have e1:s.path=p:=by injection e with e1;injection e1
 have e2:vi (place s.ver)=a:=by injection e
 rw[←e2];unfold KI;rw[←e1,Nw (cp ocP h.inc) hs]
theorem oc{l:List Sl}{p:ByteArray}(h:∀a,(Value.string p,a)∉Jm l):KI l p=-1:=by
 unfold KI;rw[show B2 l p=none from DQ.2 fun s hs e=>h _ (Aj.2 ⟨s,hs,by rw[←Bv e]⟩)]
theorem aA{l m:List Sl}{ps:List ByteArray}{k:Nat}(h:k<ps.length):HA l m (ps.take (k+1))=HA l m (ps.take k)++(J9 l m ps[k]).toList:=by
 unfold HA;rw[E8 h,List.filterMap_append]
 congr 1
theorem rl(l:List Sl)(hl:LL l):A3 Tryz.prog 75 [sl Ae l] (Ai [] Aa) fun r h'=>r=.tup [.mref 2000,vb true]∧h'=Ai [(2000,.map CM (Jm l))] Aa:=by
 have hfl:l.length≤1073741824:=hl.few;refine BX (LC ⟨[],[],[],[],[],[],[],[],[],[],[6,7,8]⟩) [(9,2000)] rfl Co hm rfl Tryz.func75 (by kernel_rfl) rfl (Nz rfl) (by kernel_rfl) rfl ?_;refine Xi {q:Nat // q≤l.length} (Xi (fun q=>⟨[(0,sl Ae l),(4,.mref 9),(10,sl Ae l),(11,vi (l.map Ae).length),(12,vi q.1)],[(9,.map CM (Jm (l.take q.1)))],Aa⟩) (Xi (fun q=>l.length-q.1) (Yi (Xi ⟨0,AL _⟩ ?_) ?_)))
 ·exact⟨Z5,Z1,Fh,Aw (by kernel_rfl)⟩
 intro⟨i,i1⟩;have i1:i≤l.length:=i1;refine Yi (fun h1=>?_) (fun h1=>?_)
 ·have h1:(i:Int)<((l.map Ae).length:Int):=h1;have n1:=Ma h1;refine Xi (Ae l[i]) (Yi (UW n1) (Yi rfl ?_));refine Yi (Nz rfl) ?_;refine Yi (Nz rfl) ?_;refine Yi (Nz rfl) ?_;refine Xi .pure (Xi _ (Yi (by have q:=pL l[i].ver;rw[Ao (hl.val _ (AC n1)),Ao (hl.val _ (AC n1))]at q;exact q) ?_));refine Xi ⟨[(0,sl Ae l),(4,.mref 9),(5,vi i),(6,.ref 6 0),(7,vi (place l[i].ver)),(8,vi 0),(10,sl Ae l),(11,vi (l.map Ae).length),(12,vi i)],[(6,.cells (Ae l[i])),(9,.map CM (Jm (l.take i)))],Aa⟩ (Yi ⟨Z9,Z2,Fh,Aw (by kernel_rfl)⟩ ?_)
  refine Yi (fun h=>absurd h (by decide)) (fun _=>?_);refine Yi (fun h2=>?_) (fun h2=>?_)
  ·have h2:(0:Int)<(i:Int):=h2;refine Yi (by show BQ ((i:Int)-(1:Int));unfold BQ;omega) ?_;have uS:0<i:=by omega
   refine Xi (Ae (l[i-1])) (Yi (Yi (show(0:Int)≤(i:Int)-1 by omega) (by rw[show((i:Int)-1).toNat=i-1 by omega];exact Do (Ge (by omega)))) (Yi rfl ?_));refine Yi (fun h3=>?_) (fun h3=>?_)
   ·have h3:Ew (l[i-1]).path l[i].path=false:=(GT _ _).trans h3;exact absurd (hl.step n1 uS) (by rw[h3];decide)
   have h3:Ew (l[i-1]).path l[i].path=true:=(GT _ _).trans (by simpa using h3);refine Yi (by kernel_rfl) ?_;refine Xi ⟨[(0,sl Ae l),(4,.mref 9),(6,.ref 6 0),(7,vi (place l[i].ver)),(10,sl Ae l),(11,vi (l.map Ae).length),(12,vi i)],[(6,.cells (Ae l[i])),(9,.map CM (Jm (l.take i)))],Aa⟩ (Yi ⟨Z7,Z2,Fh,Aw (by kernel_rfl)⟩ ?_)
   refine Yi (Ii i (by omega)) ?_;refine Xi ⟨i+1,n1⟩ ?_;exact⟨Dl l.length i (by omega),Z5,⟨⟨(show HO.map CM (ET (Jm (l.take i)) (.string l[i].path) (vi (place l[i].ver)))=.map CM (Jm (l.take (i+1))) by rw[KB (gX hl n1),E8 n1];unfold Jm;rw[Ax];rfl),rfl⟩,Tv⟩,Fh,Aw (by kernel_rfl)⟩
  have h2:¬((0:Int)<(i:Int)):=h2;refine Yi (by kernel_rfl) ?_;refine Xi ⟨[(0,sl Ae l),(4,.mref 9),(6,.ref 6 0),(7,vi (place l[i].ver)),(10,sl Ae l),(11,vi (l.map Ae).length),(12,vi i)],[(6,.cells (Ae l[i])),(9,.map CM (Jm (l.take i)))],Aa⟩ (Yi ⟨Z7,Z2,Fh,Aw (by kernel_rfl)⟩ ?_)
  refine Yi (Ii i (by omega)) ?_;refine Xi ⟨i+1,n1⟩ ?_;exact⟨Dl l.length i (by omega),Z5,⟨⟨(show HO.map CM (ET (Jm (l.take i)) (.string l[i].path) (vi (place l[i].ver)))=.map CM (Jm (l.take (i+1))) by rw[KB (gX hl n1),E8 n1];unfold Jm;rw[Ax];rfl),rfl⟩,Tv⟩,Fh,Aw (by kernel_rfl)⟩
 have h1:¬((i:Int)<((l.map Ae).length:Int)):=h1;have n1:=L9 h1;have ei:l.take i=l:=AG (by have q:=h1;rw[Lm]at q;omega);exact Xi _ (Yi (.refl _) ⟨rfl,show Ai [(2000,HO.map CM (Jm (l.take i)))] Aa=Ai [(2000,.map CM (Jm l))] Aa by rw[ei]⟩)
theorem rn(l:List Sl)(p:ByteArray)(hl:LL l):PC 77 [.cmap CM (Jm l),vs p] (vi (KI l p)):=by
 refine Ps ⟨[],[],[],[],[],[],[],[],[],[],[4]⟩ Tryz.func77 rfl (Nz rfl) ?_;refine Yi (fun a ha=>?_) (fun Rc=>?_)
 ·have ea:=oa hl ha;subst ea;exact .refl _
 refine Xi ⟨[],[],Aa⟩ (Yi ⟨Tv,Tv,Fh,Tv⟩ ?_)
 exact .of_eq (show vi (-1)=vi (KI l p) by rw[oc Rc])
theorem o75(l m:List Sl)(t:List ByteArray)(hl:LL l)(xY:LL m)(zL:l.length+m.length≤1073741824)(Dr:l++m≠[])(hp:t.Perm ((l++m).map (·.path)))(ht:(t.map Qt).Pairwise fun a b=>a≤b):PC 54 [sl Ae l,sl Ae m] (.tup [sl DW (HA l m (BU t)),vi 0]):=by
 obtain⟨LM,ne⟩:∃LM,LM=l++m:=⟨_,rfl⟩;have hm:=xY;rw[←ne]at hp;have xA:LM.length=l.length+m.length:=by rw[ne,Ad]
 have sG:l.length≤1073741824:=hl.few;have lI:m.length≤1073741824:=xY.few;refine F0 (dC ⟨[],[(14,3)],[(10,1)],[(34,[12000,12500])],[],[],[],[],[],[],[3,6,7,8,9,11,13,14,15,16,17,18,19,21]⟩) rfl Co Go.Eng.hm rfl Tryz.func54 (by kernel_rfl) rfl (Nz rfl) (by kernel_rfl) ?_;refine Xi (.gen [] 1) (Yi rfl (A3.to2 (rl l hl) ?_));refine Xi (.gen [] 1) (Yi rfl (A3.to2 (rl m hm) ?_));refine Xi ⟨[(0,sl Ae l),(1,sl Ae m),(6,.mref 12000),(7,vb true),(8,.mref 12500),(9,vb true)],[(12000,.map CM (Jm l)),(12500,.map CM (Jm m))],Aa⟩ (Yi ⟨Z6,Z2,Fh,Tv⟩ ?_)
 refine Xi ⟨[(0,sl Ae l),(1,sl Ae m),(6,.mref 12000),(8,.mref 12500),(10,.msl 10 0)],[(10,.arr 1 []),(12000,.map CM (Jm l)),(12500,.map CM (Jm m))],Aa⟩ (Yi ⟨Z5,Z3,Fh,Tv⟩ ?_)
 refine Xi (.gen [] 1) (Yi rfl (A3.to2 (pK l hl.few) ?_));have b4:De 4 (m.map Ae)∧(l.map Ae).length=(l.map Ae).length∧((l.map Ae).length+(m.map Ae).length)*40≤140737488355328∧(l.map Ae).length+(m.map Ae).length≤9223372036854775807:=⟨(Fi (enc:=Ae) (n:=4) (fun _=>rfl) m),rfl,(by simp only[Lm];omega),(by simp only[Lm];omega)⟩;refine Yi b4 ?_;refine Xi {q:Nat×List ByteArray // q.1≤LM.length∧q.2=(LM.take q.1).map (·.path)} (Xi (fun q=>⟨[(6,.mref 12000),(8,.mref 12500),(10,.msl 10 q.1.2.length),(37,.slice (.id 13500 4) (LM.map Ae)),(38,vi (LM.length:Nat)),(39,vi q.1.1)],[(10,.arr 1 (q.1.2.map DC)),(12000,.rom CM (Jm l)),(12500,.rom CM (Jm m)),(13500,.tok 4 LM.length)],Aa⟩) (Xi (fun q=>LM.length-q.1.1) (Yi (Xi ⟨(0,[]),AL _,rfl⟩ ?_) ?_)))
 ·exact⟨⟨Zr,Zr,Zr,⟨(show AV.slice (.id 13500 4) (l.map Ae++m.map Ae)=.slice (.id 13500 4) (LM.map Ae) by rw[ne,Ax]),rfl⟩,⟨(show vi ((l.map Ae++m.map Ae:List (List AV)).length:Int)=vi ((LM.length:Nat):Int) by rw[ne,Ad,Ad,Lm,Lm]),rfl⟩,Zr,Tv⟩,⟨Zr,Zr,Zr,⟨(show HO.tok 4 ((l.map Ae).length+(m.map Ae).length)=.tok 4 LM.length by rw[ne,Ad,Lm,Lm]),rfl⟩,Tv⟩,Fh,Tv⟩
 intro⟨⟨i,P⟩,i1,i2⟩;have i1:i≤LM.length:=i1;have i2:P=(LM.take i).map (·.path):=i2;have i3:P.length≤i:=by rw[i2,Lm,AD];omega
 refine Xi ⟨[(6,.mref 12000),(8,.mref 12500),(10,.msl 10 P.length),(37,.slice (.id 13500 4) (LM.map Ae)),(38,vi (LM.length:Nat)),(39,vi i)],[(10,.arr 1 (P.map DC)),(12000,.rom CM (Jm l)),(12500,.rom CM (Jm m)),(13500,.tok 4 LM.length)],Aa⟩ (Yi ⟨Z6,Z4,Fh,Tv⟩ ?_)
 refine Yi (fun h5=>?_) (fun h5=>?_)
 ·have h5:(i:Int)<((LM.length:Nat):Int):=h5;have n5:i<LM.length:=by omega
  refine Xi ⟨[(6,.mref 12000),(8,.mref 12500),(10,.msl 10 P.length),(37,.slice (.id 13500 4) (LM.map Ae)),(38,vi (LM.length:Nat)),(39,vi i)],[(10,.arr 1 (P.map DC)),(12000,.rom CM (Jm l)),(12500,.rom CM (Jm m)),(13500,.tok 4 LM.length)],Aa⟩ (Yi ⟨Z6,Z4,Fh,Tv⟩ ?_)
  refine Xi (Ae LM[i]) (Yi (UW n5) (Yi rfl ?_));refine Yi (Nz rfl) ?_;refine Yi (Nz rfl) ?_;refine Xi ⟨[(6,.mref 12000),(8,.mref 12500),(10,.msl 10 P.length),(12,.ref 12 0),(37,.slice (.id 13500 4) (LM.map Ae)),(38,vi (LM.length:Nat)),(39,vi i)],[(10,.arr 1 (P.map DC)),(12,.cells (Ae LM[i])),(12000,.rom CM (Jm l)),(12500,.rom CM (Jm m)),(13500,.tok 4 LM.length)],Aa⟩ (Yi ⟨Z7,Z5,Fh,Tv⟩ ?_)
  have b6:De 1 [[vs LM[i].path]]∧(P.map DC).length=P.length∧((P.map DC).length+([[vs LM[i].path]]:List (List AV)).length)*16≤140737488355328∧(P.map DC).length+([[vs LM[i].path]]:List (List AV)).length≤9223372036854775807:=⟨⟨rfl,trivial⟩,(by rw[Lm]),(by simp only[Lm,Au,AE];omega),(by simp only[Lm,Au,AE];omega)⟩;refine Yi b6 ?_;refine Yi (Ii i (by omega)) ?_;refine Xi ⟨(i+1,P++[LM[i].path]),n5,by show P++[LM[i].path]=_;rw[E8 n5,Ax,i2];rfl⟩ ?_;exact⟨Dl LM.length i (by omega),⟨Zr,Zr,⟨(show AV.msl 10 ((P.map DC).length+([[vs LM[i].path]]:List (List AV)).length)=.msl 10 (P++[LM[i].path]).length by rw[Ad,Lm];rfl),rfl⟩,Zr,Zr,Zr,Tv⟩,⟨⟨(show HO.arr 1 (P.map DC++[[vs LM[i].path]])=.arr 1 ((P++[LM[i].path]).map DC) by rw[Ax];rfl),rfl⟩,Zr,Zr,Zr,Tv⟩,Fh,Tv⟩
 have h5:¬((i:Int)<((LM.length:Nat):Int)):=h5;have sw:P=LM.map (·.path):=by rw[i2,AG (by have q:=h5;omega)]
 have xB:CO P:=by unfold CO;rw[sw,Lm,ne,Ad];exact zL
 have xC:P≠[]:=fun e=>by rw[sw]at e;exact Dr (by rw[←ne];exact D5.1 e)
 have uq:t.length=P.length:=by rw[sw];exact hp.length_eq
 have nL:t.length≤1073741824:=by rw[uq];exact xB
 have vD:t≠[]:=fun e=>xC (AN (by rw[←uq,e];rfl));have hcl:(BU t).length≤t.length:=by unfold BU;rw[Lm];exact Br (Qw _) (by rw[Lm];exact Al _)
 refine Xi ⟨[(6,.mref 12000),(8,.mref 12500),(10,.msl 10 P.length)],[(10,.arr 1 (P.map DC)),(12000,.rom CM (Jm l)),(12500,.rom CM (Jm m))],Aa⟩ (Yi ⟨Z3,Z3,Fh,Tv⟩ ?_)
 refine Xi (.gen [(10,1000)] 0) (Yi rfl (A3.to2 (vQ P t xB xC (by rw[sw];exact hp) ht) ?_));refine Xi ⟨[(6,.mref 12000),(8,.mref 12500),(10,.msl 10 P.length),(13,.v (.func (.func 77) #[] #[]))],[(10,.arr 1 (t.map DC)),(12000,.rom CM (Jm l)),(12500,.rom CM (Jm m))],Aa⟩ (Yi ⟨Z4,Z3,Fh,Tv⟩ ?_)
 refine Xi ⟨[(6,.mref 12000),(8,.mref 12500),(10,.msl 10 t.length),(13,.v (.func (.func 77) #[] #[])),(14,.slice (.id 14 3) [])],[(10,.arr 1 (t.map DC)),(14,.tok 3 0),(12000,.rom CM (Jm l)),(12500,.rom CM (Jm m))],Aa⟩ (Yi ⟨⟨Zr,Zr,⟨(Ac (AV.msl 10) uq.symm),rfl⟩,Zr,Zr,Tv⟩,Z4,Fh,Tv⟩ ?_)
 refine Xi (.gen [(10,1000)] 1) (Yi rfl (A3.to2 (vR t (by unfold CO;omega) vD) ?_));refine Xi {q:Nat×List Mv // q.1≤(BU t).length∧q.2=HA l m ((BU t).take q.1)} (Xi (fun q=>⟨[(6,.mref 12000),(8,.mref 12500),(13,.v (.func (.func 77) #[] #[])),(14,.slice (.id 14 3) (q.1.2.map DW)),(52,.msl 15200 (BU t).length),(53,vi (BU t).length),(54,vi q.1.1)],[(14,.tok 3 q.1.2.length),(12000,.rom CM (Jm l)),(12500,.rom CM (Jm m)),(15200,.arr 1 ((BU t).map DC))],Aa⟩) (Xi (fun q=>(BU t).length-q.1.1) (Yi (Xi ⟨(0,[]),AL _,rfl⟩ ?_) ?_)))
 ·exact⟨Z7,Z4,Fh,Tv⟩
 intro⟨⟨k,O⟩,k1,k2⟩;have k1:k≤(BU t).length:=k1;have k2:O=HA l m ((BU t).take k):=k2;have k3:O.length≤k:=by rw[k2];exact Br (List.length_filterMap_le ..) (by rw[AD];omega)
 refine Xi ⟨[(6,.mref 12000),(8,.mref 12500),(13,.v (.func (.func 77) #[] #[])),(14,.slice (.id 14 3) (O.map DW)),(52,.msl 15200 (BU t).length),(53,vi (BU t).length),(54,vi k)],[(14,.tok 3 O.length),(12000,.rom CM (Jm l)),(12500,.rom CM (Jm m)),(15200,.arr 1 ((BU t).map DC))],Aa⟩ (Yi ⟨Z7,Z4,Fh,Tv⟩ ?_)
 refine Yi (fun Sy=>?_) (fun Sy=>?_)
 ·have Sy:(k:Int)<((BU t).length:Int):=Sy;have nb:k<(BU t).length:=by omega
  have n10:=nb;have gb:(BU t)[k]?=some (BU t)[k]:=Ge nb;refine Xi ⟨[(6,.mref 12000),(8,.mref 12500),(13,.v (.func (.func 77) #[] #[])),(14,.slice (.id 14 3) (O.map DW)),(52,.msl 15200 (BU t).length),(53,vi (BU t).length),(54,vi k)],[(14,.tok 3 O.length),(12000,.rom CM (Jm l)),(12500,.rom CM (Jm m)),(15200,.arr 1 ((BU t).map DC))],Aa⟩ (Yi ⟨Z7,Z4,Fh,Tv⟩ ?_)
  refine Yi (by show(0:Int)≤k∧(k:Int)<((BU t).length:Nat);omega) ?_;refine Yi (show(BU t).length=((BU t).map DC).length by rw[Lm]) (Xi (DC ((BU t)[k])) (Yi (Do gb) ?_));refine Xi ⟨[(6,.mref 12000),(8,.mref 12500),(13,.v (.func (.func 77) #[] #[])),(14,.slice (.id 14 3) (O.map DW)),(16,vs ((BU t)[k])),(52,.msl 15200 (BU t).length),(53,vi (BU t).length),(54,vi k)],[(14,.tok 3 O.length),(12000,.rom CM (Jm l)),(12500,.rom CM (Jm m)),(15200,.arr 1 ((BU t).map DC))],Aa⟩ (Yi ⟨Z8,Z4,Fh,Tv⟩ ?_)
  refine Xi .pure (Xi _ (Yi (rn l (BU t)[k] hl) ?_));refine Xi .pure (Xi _ (Yi (rn m (BU t)[k] hm) ?_));refine Yi (Nz rfl) ?_;refine Xi ⟨[(6,.mref 12000),(8,.mref 12500),(13,.v (.func (.func 77) #[] #[])),(14,.slice (.id 14 3) (O.map DW)),(17,.ref 17 0),(52,.msl 15200 (BU t).length),(53,vi (BU t).length),(54,vi k)],[(14,.tok 3 O.length),(17,.cells [vs ((BU t)[k]),vi (KI l (BU t)[k]),vi (KI m (BU t)[k])]),(12000,.rom CM (Jm l)),(12500,.rom CM (Jm m)),(15200,.arr 1 ((BU t).map DC))],Aa⟩ (Yi ⟨Z8,Z5,Fh,Tv⟩ ?_)
  refine Yi (fun J4=>?_) (fun J4=>?_)
  ·have J4:((KI l (BU t)[k]):Int)≠((KI m (BU t)[k]):Int):=J4;refine Xi ⟨[(6,.mref 12000),(8,.mref 12500),(13,.v (.func (.func 77) #[] #[])),(14,.slice (.id 14 3) (O.map DW)),(17,.ref 17 0),(52,.msl 15200 (BU t).length),(53,vi (BU t).length),(54,vi k)],[(14,.tok 3 O.length),(17,.cells [vs ((BU t)[k]),vi (KI l (BU t)[k]),vi (KI m (BU t)[k])]),(12000,.rom CM (Jm l)),(12500,.rom CM (Jm m)),(15200,.arr 1 ((BU t).map DC))],Aa⟩ (Yi ⟨Z8,Z5,Fh,Tv⟩ ?_)
   refine Yi (Nz rfl) ?_;refine Yi (bw rfl (by omega) (by decide)) ?_;refine Yi (Ii k (by omega)) ?_;have eO:=aA (l:=l) (m:=m) n10;have eM:J9 l m (BU t)[k]=some ⟨(BU t)[k],(KI l (BU t)[k]),(KI m (BU t)[k])⟩:=Ao J4;rw[eM]at eO;refine Xi ⟨(k+1,(O++[(⟨(BU t)[k],(KI l (BU t)[k]),(KI m (BU t)[k])⟩:Mv)])),n10,by show(O++[(⟨(BU t)[k],(KI l (BU t)[k]),(KI m (BU t)[k])⟩:Mv)])=_;rw[eO,k2];rfl⟩ ?_;exact⟨by show(BU t).length-(k+1)<(BU t).length-k;omega,⟨Zr,Zr,Zr,⟨(show AV.slice (.id 14 3) (O.map DW++[[vs (BU t)[k],vi (KI l (BU t)[k]),vi (KI m (BU t)[k])]])=.slice (.id 14 3) ((O++[(⟨(BU t)[k],(KI l (BU t)[k]),(KI m (BU t)[k])⟩:Mv)]).map DW) by rw[Ax];rfl),rfl⟩,Zr,Zr,Zr,Tv⟩,⟨⟨zS,rfl⟩,Zr,Zr,Zr,Tv⟩,Fh,Tv⟩
  have J4:((KI l (BU t)[k]):Int)=((KI m (BU t)[k]):Int):=AW J4;refine Yi (Ii k (by omega)) ?_;have eO:=aA (l:=l) (m:=m) n10;have eM:J9 l m (BU t)[k]=none:=Ah (fun c=>c J4);rw[eM]at eO;rw[show(none:Option Mv).toList=[]from rfl,BV]at eO;refine Xi ⟨(k+1,O),n10,by show O=_;rw[eO,k2]⟩ ?_;exact⟨by show(BU t).length-(k+1)<(BU t).length-k;omega,Z7,Z4,Fh,Tv⟩
 have Sy:¬((k:Int)<((BU t).length:Int)):=Sy;refine Xi ⟨[(14,.slice (.id 14 3) (O.map DW))],[(14,.tok 3 O.length)],Aa⟩ (Yi ⟨Z1,Z1,Fh,Tv⟩ ?_)
 have ek:(BU t).take k=BU t:=AG (by omega);have eO:O=HA l m (BU t):=by rw[k2,ek]
 exact .of_eq (Ac (fun z=>AV.tup [sl DW z,vi 0]) eO)
end Go.Eng
namespace Go.Proofs
open Go.Shelf Go.RowKit Go.Lib Go.Sort
abbrev OneC:Type:={v:Value // v.oneCell'=true}
def SlA:Type:=ByteArray×OneC×OneC×OneC
instance:Inhabited SlA:=⟨⟨ByteArray.empty,⟨.bool false,rfl⟩,⟨.bool false,rfl⟩,⟨.bool false,rfl⟩⟩⟩
def encSlA(x:SlA):List Value:=[.string x.1,x.2.1.1,x.2.2.1.1,x.2.2.2.1]
def cfSlA(x y:SlA):Int:=Lib.compareBytes x.1.data.toList y.1.data.toList
abbrev CmpSlA(k:Nat):Prop:=∀(x y:SlA) (W:World),Calls Tryz.prog k #[.agg #[.string x.1,x.2.1.1,x.2.2.1.1,x.2.2.2.1],.agg #[.string y.1,y.2.1.1,y.2.2.1.1,y.2.2.2.1]] W fun e w'=>e=.returned (.int .i64 (cfSlA x y))∧∃q os',w'=grow (W.drewN q) os'
theorem Tryz.closure68:CmpSlA 68:=fun x y W=>by
 have hcon:=fun W'=>Any.strings_Compare Tryz.layCompare x.1 y.1 W';obtain⟨a,⟨b,hb⟩,⟨c,hc⟩,⟨d,hd⟩⟩:=x;obtain⟨a',⟨b',nh⟩,⟨c',oW⟩,⟨d',jQ⟩⟩:=y;dsimp only at hcon
 change ∀W',Calls Tryz.prog 69 _ _ _ at hcon
 unfold cfSlA;dsimp only;generalize Lib.compareBytes a.data.toList a'.data.toList=r at hcon⊢
 go_enter Tryz.func68,Tryz.ntmps68
 go_wp2_with (go_at_call 69;refine(hcon _).mono ?_;rintro e w' ⟨rfl,rfl⟩)
 go_ret
 exact⟨rfl,0,_,by rw[alloc_eq_grow,alloc_eq_grow,grow_grow];rfl⟩
end Go.Proofs
namespace Go.Eng
open Go.Proofs Go.Shelf Go.RowKit Go.Lib Go.Sort
theorem aw(x y:SlA):ltOf cfSlA x y=Ew x.1 y.1:=S8 _ _
theorem iy:SWO (ltOf cfSlA) where
 irrefl x:=by rw[aw];exact CZ _
 trans x y z h1 h2:=by rw[aw]at *;exact DR h1 h2
 ntrans x y z h1 h2:=by
  rw[aw]at *
  rw[AM];intro h;cases pf:Ew y.1 x.1 with
  |true=>have:=DR pf h;rw[h2]at this;cases this
  |false =>
   have e:=Ho h1 pf;rw[e]at h;rw[h2]at h;cases h
theorem s92(k:Nat)(hc:CmpSlA k)(eg:∀args w,(callFunc k args).run Tryz.prog w=.ok (.enter k args) w)(l:List Sl)(hl:CO l)(lim:Nat)(XD:lim<100) :
  A3 Tryz.prog 97 [.msl 1000 l.length,vi 0,vi l.length,vi lim,.v (T5 k)] (Ai [(1000,.arr 4 (l.map Ae))] Aa) fun r h' =>
   r=.tup []∧∃l' : List Sl,l'.Perm l∧l'.Pairwise (fun x y=>Ew y.path x.path=false)∧h'=Ai [(1000,.arr 4 (l'.map Ae))] Aa:=by
 have hl:l.length≤1073741824:=hl;have hE:F3 Tryz.prog 97:=dD 97 Tryz.func97 (by kernel_rfl) rfl;have G8:=I7 (P:=Tryz.prog) (f:=97) (α:=SlA) (rest:=[.int .i64 0,.int .i64 l.length,.int .i64 lim,T5 k]) hE Ae encSlA (k:=4) (fun _=>rfl) (fun _=>rfl) (ltOf cfSlA) (fun x a=>a.1=x.path) l (by omega) ?_ ?_ ?_
 ·refine⟨hE,fun g w vals q1 q2 q3=>(G8.2 g w vals q1 q2 q3).mono fun _ _ ⟨v,r,h',g',e1,⟨e2,l',p1,⟨al,a1,a2,a3⟩,p2⟩,rest⟩=>⟨v,r,h',g',e1,⟨e2,l',p1,?_,p2⟩,rest⟩⟩;rw[AY]at a3⊢;intro i j hi hj Pk
  have:=a3 i j (by omega) (by omega) Pk
  rw[aw]at this;have e1:=a2 i _ _ (Ge hi) (Ge (by omega));have e2:=a2 j _ _ (Ge hj) (Ge (by omega));rw[←e1,←e2];exact this
 ·intro x hx g w vs hr
  match vs,hr with
  | [a,b,c,d],hr =>
   have h1:=(hr.2.2 0 (Go.Eng.vs x.path) a rfl rfl).v_eq;subst h1;exact⟨⟨x.path,⟨b,hr.2.1 b (by simp)⟩,⟨c,hr.2.1 c (by simp)⟩,⟨d,hr.2.1 d (by simp)⟩⟩,rfl,rfl⟩
  | [],hr=>have:=hr.1;simp at this
  | [_],hr=>have:=hr.1;simp at this
  | [_,_],hr=>have:=hr.1;simp at this
  | [_,_,_],hr=>have:=hr.1;simp at this
  |_::_::_::_::_::_,hr=>have:=hr.1;simp at this
 ·intro w b cap d hH hb EC hdl;have fC:CmpLays Tryz.prog k #[] encSlA 4 cfSlA b 0 d.size w:=fun _ _ _ _ x y=>hc x y _;have hp:=AnyQ.pdqsortCmpFunc_all Tryz.layPdqSel 4 Tryz.isAgg29 Tryz.sizeOf29 encSlA cfSlA k #[] iy b 0 cap d w eg fC ⟨fun _=>rfl,fun x v hv=>by
    simp only[encSlA,Av,LA,or_false]at hv;rcases hv with rfl | rfl | rfl | rfl
    ·rfl
    ·exact x.2.1.2
    ·exact x.2.2.1.2
    ·exact x.2.2.2.2,hH,hb⟩ (d.size+1) 0 d.size lim d w (by omega) rfl (SWK.start hH) (AL _) (Al _) EC (by omega) (Or.inl rfl)
  rw[hdl]at hp⊢;refine hp.mono ?_
  rintro e w' ⟨rfl,n,os,rfl⟩
  have h:=pdq_sorts (ltOf cfSlA) iy d 0 d.size lim true true (AL _) (Al _) (Or.inl rfl);rw[hdl]at h;exact⟨rfl,_,n,os,h.1,h.2,rfl⟩
 ·intro e w;subst e;exact AnyF.pdqsortCmpFunc_none Tryz.layPdqSel none 0 lim (T5 k) w
theorem Uj{l l' : List Sl}(h1:Vw l)(h2:Vw l')(hm:∀y,y∈l↔y∈l'):l=l':=by
 induction l generalizing l' with
 |nil =>
  cases l' with
  |nil=>rfl
  |cons y l'=>have:=(hm y).2 (Ab ..);cases this
 |cons x l ih =>
  cases l' with
  |nil=>have:=(hm x).1 (Ab ..);cases this
  |cons y l' =>
   obtain⟨a1,a2⟩:=BF.1 h1;obtain⟨b1,b2⟩:=BF.1 h2;have e:x=y:=by
    rcases Av.1 ((hm x).1 (Ab ..))with e | e
    ·exact e
    ·rcases Av.1 ((hm y).2 (Ab ..))with e2 | e2
     ·exact e2.symm
     ·have c1:=b1 x e;have c2:=a1 y e2
      have:=DR c1 c2
      rw[CZ]at this;cases this
   subst e
   congr 1
   refine ih a2 b2 fun z=>⟨fun hz=>?_,fun hz=>?_⟩
   ·rcases Av.1 ((hm z).1 (Ag _ hz))with e | e
    ·subst e
     have:=a1 z hz
     rw[CZ]at this;cases this
    ·exact e
   ·rcases Av.1 ((hm z).2 (Ag _ hz))with e | e
    ·subst e
     have:=b1 z hz
     rw[CZ]at this;cases this
    ·exact e
theorem iu{l l' : List Sl}(hn:(l.map (·.path)).Nodup)(hp:l'.Perm l)(hs:l'.Pairwise fun x y=>Ew y.path x.path=false):l'=FF l:=by
 refine Uj ?_ (P0 hn) fun y=>by rw[hp.mem_iff,F1]
 have XF : (l'.map (·.path)).Nodup:=(hp.map (·.path)).nodup_iff.2 hn;show l'.Pairwise _;rw[AY]at hs⊢;intro i j hi hj Pk;cases hb:Ew l'[i].path l'[j].path with
 |true=>rfl
 |false =>
  have e:=Ho hb (hs i j hi hj Pk)
  have:=(AY.1 XF) i j (by simpa using hi) (by simpa using hj) Pk
  simp at this;exact absurd e this
theorem s47(k:Nat)(hc:CmpSlA k)(eg:∀args w,(callFunc k args).run Tryz.prog w=.ok (.enter k args) w)(l:List Sl)(hl:CO l)(hn:(l.map (·.path)).Nodup) :
  A3 Tryz.prog 67 [.msl 1000 l.length,.v (T5 k)] (Ai [(1000,.arr 4 (l.map Ae))] Aa) fun r h' =>
   r=.tup []∧h'=Ai [(1000,.arr 4 ((FF l).map Ae))] Aa:=by
 obtain⟨lim,XD,hb⟩:=mF l.length hl;refine BX (LC Gl) [(1000,1000)] rfl Co hm rfl Tryz.func67 (by kernel_rfl) rfl (Nz rfl) (by kernel_rfl) rfl ?_;refine Xi .pure (Xi _ (Yi (hb) ?_));refine Xi (.gen [(1000,1000)] 0) (Yi rfl ((s92 k hc eg l hl lim XD).imp ?_));intro r h' hq;refine CD hq.2 (fun l' OH=>?_);have e:=iu hn OH.1 OH.2.1;refine Xi (.tup []) (Yi ?_ (Yi rfl ?_))
 ·exact .refl _
 ·rw[OH.2.2,e];rfl
end Go.Eng
namespace Go.Eng
open Go.Proofs
abbrev Az(c:Cd):List AV:=vi c.place::Ak c.rel
abbrev A7(n:Nd):List AV:=[vs n.rq.path,sl Aq n.rq.set,vs n.path,vi n.place,vi n.number]
abbrev AQ(l:List Sk):List AV:=[sl BM l]
abbrev BK(i:Nat):List AV:=[vi (i:Nat)]
def DT:EG:=⟨true,[.int .i64,.str,.int .i64,.int .i64,.int .i64,.int .i64]⟩
def Ji(i:Nf):Value:=.agg [.int .i64 i.kind,.string i.path,.int .i64 i.place,.int .i64 i.number,.int .i64 i.left,.int .i64 i.right].toArray
def DX:Nat→List Nf→List (Value×AV)
 |_,[]=>[]
 |k,i::l=>(Ji i,vi (k:Nat))::DX (k+1) l
abbrev s7(roots:List Rq)(C A:List (Value×AV))(s:SS)(dec:List Cd)(n:Nat):List AV :=
 [sl AK roots,.cmap CM C,.cmap CM A,.slice (.id 1001 6) (s.infs.map BS),.slice (.id 1002 1) (s.drv.map B6),.mref 1003,vb s.full,sl Az dec,sl Ae (AJ dec),.msl 1004 n]
abbrev srM(roots:List Rq)(C A:List (Value×AV))(s:SS)(dec:List Cd)(k n:Nat):List AV :=
 [sl AK roots,.cmap CM C,.cmap CM A,.slice (.id 1001 6) (s.infs.map BS),.slice (.id 1002 1) (s.drv.map B6),.mref 1003,vb s.full,sl Az dec,sl Ae (AJ dec),.msl k n]
abbrev IZ(roots:List Rq)(C A:List (Value×AV))(s:SS)(dec:List Cd)(st:List (List Sk)):List (Nat×HO) :=
 [(1000,.cells (s7 roots C A s dec st.length)),(1001,.tok 6 s.infs.length),(1002,.tok 1 s.drv.length),(1003,.map DT (DX 0 s.infs)),(1004,.arr 1 (st.map AQ))]
theorem wQ{fF:Nat}{caps:List AV}(hs:E2 caps)(l:List (Cd))(p:Cd→Bool)(hF:∀x∈l,PC fF ([.agg (Az x)]++caps) (vb (p x)))(hl:l.length<9223372036854775807) :
  PC 206 [sl Az l,.clo fF caps] (vi (Kg p l 0)):=by
 refine Ps Gl Tryz.func206 rfl (Nz rfl) ?_;refine Xi {i:Nat // i≤l.length∧∀j (hj:j<l.length),j<i→p l[j]=false} (Xi (fun i=>⟨[(0,sl Az l),(1,.clo fF caps),(7,vi (l.map Az).length),(8,vi i.1)],[],Aa⟩) (Xi (fun i=>l.length-i.1) (Yi (Xi ⟨0,by simp⟩ ?_) ?_)))
 ·exact⟨⟨Zr,⟨rfl,hs.ids _⟩,Zr,Zr,Tv⟩,Tv,Fh,Tv⟩
 ·intro⟨i,h1,h2⟩;refine Yi ?_ ?_
  ·intro h;have h:(i:Int)<(l.map Az).length:=h;have h:i<l.length:=by simpa using h
   have hg:l[i]?=some l[i]:=Ge h;refine Xi (Az l[i]) (Yi (Yi (Nn i) (by simp[hg])) (Yi rfl (Yi (Nz rfl) ?_)));have D3:∀h,PC fF ([.agg (Az l[i])]++caps.map (str0 h)) (vb (p l[i])):=fun h=>by rw[hs.map];exact hF l[i] (AC _)
   cases hp:p l[i]with
   |true =>
    rw[hp]at D3;refine Xi .pure (Xi (vb true) (Yi (D3 _) ?_));rw[NF h (fun j hj L3=>h2 j hj L3) hp,Iz];exact .refl _
   |false =>
    rw[hp]at D3;refine Xi .pure (Xi (vb false) (Yi (D3 _) ?_));refine Yi (Ii i (by omega)) ?_;refine Xi ⟨i+1,by omega,fun j hj L3=>?_⟩ ?_
    ·by_cases e:j=i
     ·subst e;exact hp
     ·exact h2 j hj (by omega)
    ·exact⟨Dl l.length i (by omega),⟨Zr,⟨rfl,hs.ids _⟩,Zr,Zr,Tv⟩,Tv,Fh,Tv⟩
  ·intro h;have h:¬(i:Int)<(l.map Az).length:=h;have h:¬i<l.length:=by simpa using h
   rw[Jg fun j hj=>h2 j hj (by omega)];exact .refl _
theorem s86{fF:Nat}{caps:List AV}(hs:E2 caps)(l:List (Nd))(p:Nd→Bool)(hF:∀x∈l,PC fF ([.agg (A7 x)]++caps) (vb (p x)))(hl:l.length<9223372036854775807) :
  PC 88 [sl A7 l,.clo fF caps] (vi (Kg p l 0)):=by
 refine Ps Gl Tryz.func88 rfl (Nz rfl) ?_;refine Xi {i:Nat // i≤l.length∧∀j (hj:j<l.length),j<i→p l[j]=false} (Xi (fun i=>⟨[(0,sl A7 l),(1,.clo fF caps),(7,vi (l.map A7).length),(8,vi i.1)],[],Aa⟩) (Xi (fun i=>l.length-i.1) (Yi (Xi ⟨0,by simp⟩ ?_) ?_)))
 ·exact⟨⟨Zr,⟨rfl,hs.ids _⟩,Zr,Zr,Tv⟩,Tv,Fh,Tv⟩
 ·intro⟨i,h1,h2⟩;refine Yi ?_ ?_
  ·intro h;have h:(i:Int)<(l.map A7).length:=h;have h:i<l.length:=by simpa using h
   have hg:l[i]?=some l[i]:=Ge h;refine Xi (A7 l[i]) (Yi (Yi (Nn i) (by simp[hg])) (Yi rfl (Yi (Nz rfl) ?_)));have D3:∀h,PC fF ([.agg (A7 l[i])]++caps.map (str0 h)) (vb (p l[i])):=fun h=>by rw[hs.map];exact hF l[i] (AC _)
   cases hp:p l[i]with
   |true =>
    rw[hp]at D3;refine Xi .pure (Xi (vb true) (Yi (D3 _) ?_));rw[NF h (fun j hj L3=>h2 j hj L3) hp,Iz];exact .refl _
   |false =>
    rw[hp]at D3;refine Xi .pure (Xi (vb false) (Yi (D3 _) ?_));refine Yi (Ii i (by omega)) ?_;refine Xi ⟨i+1,by omega,fun j hj L3=>?_⟩ ?_
    ·by_cases e:j=i
     ·subst e;exact hp
     ·exact h2 j hj (by omega)
    ·exact⟨Dl l.length i (by omega),⟨Zr,⟨rfl,hs.ids _⟩,Zr,Zr,Tv⟩,Tv,Fh,Tv⟩
  ·intro h;have h:¬(i:Int)<(l.map A7).length:=h;have h:¬i<l.length:=by simpa using h
   rw[Jg fun j hj=>h2 j hj (by omega)];exact .refl _
theorem rP{fF:Nat}{caps:List AV}(hs:E2 caps)(l:List (Cd))(p:Cd→Bool)(hF:∀x∈l,PC fF ([.agg (Az x)]++caps) (vb (p x)))(hl:CO l) :
  PC 171 [sl Az l,.clo fF caps] (vb (l.any p)):=by
 refine Ps Gl Tryz.func171 rfl (Nz rfl) ?_;have hi:=wQ hs l p hF (by unfold CO at hl;omega);have D3:∀h,PC 206 [sl Az l,.clo fF (caps.map (str0 h))] (vi (Kg p l 0)):=fun h=>by rw[hs.map];exact hi
 refine Xi .pure (Xi _ (Yi (D3 _) ?_));have ha:=MA (p:=p) l 0 (BO 0);refine Yi ?_ ?_
 ·intro h;have h:(0:Int)≤Kg p l 0:=h;rw[←ha,AA h];exact .refl _
 ·intro h;have h:¬(0:Int)≤Kg p l 0:=h;rw[←ha,Ay h];exact .refl _
theorem rR(l:List Cd)(hl:CO l):A3 Tryz.prog 94 [sl Az l] (Ai [] Aa) fun r h'=>r=.slice (.id 2000 10) (l.map Az)∧h'=Ai [(2000,.tok 10 (l.map Az).length)] Aa:=by
 refine BX (LC (vX 10)) [(2,2000)] rfl Co hm rfl Tryz.func94 (by kernel_rfl) rfl (Nz rfl) (by kernel_rfl) rfl ?_;have He:De 10 (l.map Az)∧([]:List (List AV)).length=0∧(([]:List (List AV)).length+(l.map Az).length)*128≤140737488355328∧([]:List (List AV)).length+(l.map Az).length≤9223372036854775807:=by
  refine⟨Fi (enc:=Az) (n:=10) (fun _=>rfl) l,rfl,?_,?_⟩<;>simp only[AE,Lm]<;>unfold CO at hl<;>omega
 have e2:HO.tok 10 (([]:List (List AV)).length+(l.map Az).length)=.tok 10 (l.map Az).length:=by rw[AE,Be]
 have e3:AV.slice (.id 2000 10) ([]++l.map Az)=.slice (.id 2000 10) (l.map Az):=rfl;have full:∀st:St,(∃s:LS,St.le (LC (vX 10)) st s∧True)→True:=fun _ _=>trivial;refine Xi 0 ?_;refine Xi 0 ?_;refine Yi ?_ ?_
 ·intro _;refine Xi ⟨[(0,sl Az l)],[],Aa⟩ (Yi ⟨Z1,Tv,Fh,Aw (by kernel_rfl)⟩ ?_)
  refine Xi 2 ?_;refine Yi He ?_;exact Xi _ (Yi (.refl _) (Yi e3 (Ac (fun o=>Ai [(2000,o)] Aa) e2)))
 ·intro h;have h:l.map Az=[]:=h;refine Yi ?_ ?_
  ·refine Xi ⟨[],[],Aa⟩ (Yi ⟨trivial,trivial,fun _=>.inl rfl,Aw (by kernel_rfl)⟩ ?_)
   refine Xi 0 ?_;exact Xi _ (Yi (.refl _) (Yi (show AV.slice (.id 2000 10) []=_ by rw[h]) (show Ai [(2000,HO.tok 10 0)] Aa=_ by rw[h];rfl)))
  ·refine Xi ⟨[(0,sl Az l)],[],Aa⟩ (Yi ⟨Z1,Tv,Fh,Aw (by kernel_rfl)⟩ ?_)
   refine Xi 2 ?_;refine Yi He ?_;exact Xi _ (Yi (.refl _) (Yi e3 (Ac (fun o=>Ai [(2000,o)] Aa) e2)))
theorem Rr:∀{l:List Nf} {k:Nat} {kx:Value} {a:AV},(kx,a)∈DX k l↔∃j i,l[j]?=some i∧kx=Ji i∧a=vi ((k+j:Nat):Int)
 | [],k,kx,a=>by simp[DX]
 |y::l,k,kx,a=>by
  unfold DX;rw[Av,Rr];constructor
  ·rintro(h | ⟨j,i,h1,h2,h3⟩)
   ·cases h;exact⟨0,y,rfl,rfl,rfl⟩
   ·exact⟨j+1,i,h1,h2,by rw[h3,show k+1+j=k+(j+1) by omega]⟩
  ·rintro⟨j,i,h1,h2,h3⟩
   cases j with
   |zero=>cases h1;exact .inl (by rw[h2,h3];rfl)
   |succ j=>exact .inr ⟨j,i,h1,h2,by rw[h3,show k+1+j=k+(j+1) by omega]⟩
theorem UY{a b:Nf}(h:Ji a=Ji b):a=b:=by
 obtain⟨a1,a2,a3,a4,a5,a6⟩:=a;obtain⟨b1,b2,b3,b4,b5,b6⟩:=b;unfold Ji at h;simp at h;obtain⟨rfl,rfl,rfl,rfl,rfl,rfl⟩:=h
 rfl
theorem rc{l:List Nf}{i:Nf}{k:Nat}(h:LG i 0 l=some k):(Ji i,vi (k:Nat))∈DX 0 l:=by
 obtain⟨j,e,hj⟩:=MO h;exact Rr.2 ⟨j,i,hj,rfl,by rw[e]⟩
theorem kd{l:List Nf}(hn:l.Nodup){i:Nf}{k:Nat}(h:LG i 0 l=some k):∀b,(Ji i,b)∈DX 0 l→b=vi (k:Nat):=fun b hb=>by
 obtain⟨j,e,hj⟩:=MO h;obtain⟨j',i',h1,h2,h3⟩:=Rr.1 hb
 have:=UY h2
 subst this;obtain⟨a1,a2⟩:=Ap.1 hj;obtain⟨b1,b2⟩:=Ap.1 h1
 have:j'=j:=(List.getElem_inj hn).1 (b2.trans a2.symm)
 subst this;rw[h3,e]
theorem lV{l:List Nf}{i:Nf}(h:LG i 0 l=none):∀a,(Ji i,a)∉DX 0 l:=fun a ha=>by
 obtain⟨j,i',h1,h2,_⟩:=Rr.1 ha
 have:=UY h2
 subst this;exact PO h (Ar h1)
theorem ao:∀(l:List Nf) (k:Nat) (i:Nf),DX k (l++[i])=DX k l++[(Ji i,vi ((k+l.length:Nat):Int))]
 | [],k,i=>by simp[DX]
 |y::l,k,i=>by
  show(Ji y,_)::DX (k+1) (l++[i])=_;rw[ao l (k+1) i];simp[DX,show k+1+l.length=k+(l.length+1) by omega]
theorem nS{l:List Nf}{i:Nf}(h:LG i 0 l=none):ET (DX 0 l) (Ji i) (vi ((l.map BS).length:Int))=DX 0 (l++[i]):=by
 rw[Mc (lV h),ao,Lm,Be]
theorem WV{s:SS}{i:Nf}{l:List Tm}{k:Nat}(h:LG i 0 s.infs=some k):DK s i l=(k,s):=by unfold DK;rw[h]
theorem Uq{s:SS}{i:Nf}{l:List Tm}(h:LG i 0 s.infs=none)(hf:65536≤s.infs.length):DK s i l=(s.infs.length-1,⟨s.infs,s.drv,true⟩):=by unfold DK;rw[h];exact Ao hf
theorem WT{s:SS}{i:Nf}{l:List Tm}(h:LG i 0 s.infs=none)(hf:¬65536≤s.infs.length):DK s i l=(s.infs.length,⟨s.infs++[i],s.drv++[l],s.full⟩):=by unfold DK;rw[h];exact Ah hf
section
variable {roots:List Rq}{C A:List (Value×AV)}{s s' : SS}{dec:List Cd}{st:List (List Sk)}{i:Nf}{l:List Tm}
theorem dS{k:Nat}{z:Int}(e:DK s i l=(k,s'))(hz:z=k):vi z=vi ((DK s i l).1:Nat)∧Ai (IZ roots C A s' dec st) Aa=Ai (IZ roots C A (DK s i l).2 dec st) Aa:=by rw[e,hz];exact Zr
theorem po(h:LG i 0 s.infs=none):Ai [(1000,.cells [sl AK roots,.cmap CM C,.cmap CM A,.slice (.id 1001 6) (s.infs.map BS++[BS i]),.slice (.id 1002 1) (s.drv.map B6++[B6 l]),.mref 1003,vb s.full,sl Az dec,sl Ae (AJ dec),.msl 1004 st.length]),
      (1001,.tok 6 ((s.infs.map BS).length+[BS i].length)),(1002,.tok 1 ((s.drv.map B6).length+[B6 l].length)),(1003,.map DT (ET (DX 0 s.infs) (Ji i) (vi ((s.infs.map BS).length:Int)))),(1004,.arr 1 (st.map AQ))] Aa=Ai (IZ roots C A ⟨s.infs++[i],s.drv++[l],s.full⟩ dec st) Aa:=by
  have e1:s.infs.map BS++[BS i]=(s.infs++[i]).map BS:=by simp
  have e2:s.drv.map B6++[B6 l]=(s.drv++[l]).map B6:=by simp
  have e3:(s.infs.map BS).length+[BS i].length=(s.infs++[i]).length:=by simp
  have e4:(s.drv.map B6).length+[B6 l].length=(s.drv++[l]).length:=by simp
  rw[e1,e2,e3,e4,nS h]
end
theorem rQ(c:Cd)(p:ByteArray):PC 172 [.agg (Az c),.cptr [vs p]] (vb (decide (c.rel.path=p))):=by
 refine Ps ⟨[2],[],[],[],[],[],[],[],[],[],[]⟩ Tryz.func172 rfl (Nz rfl) ?_;refine Yi (fun h1=>?_) (fun h1=>?_)
 ·have h1:(c.rel.path:ByteArray)=p:=h1;exact .of_eq (show vb true=vb (decide (c.rel.path=p)) by rw[AA h1])
 have h1:¬(c.rel.path:ByteArray)=p:=h1;exact .of_eq (show vb false=vb (decide (c.rel.path=p)) by rw[Ay h1])
theorem rO(t:Tm)(p:ByteArray):PC 126 [.agg (AB t),.cptr [vs p]] (vb (decide (t.path=p))):=by
 refine Ps ⟨[2],[],[],[],[],[],[],[],[],[],[]⟩ Tryz.func126 rfl (Nz rfl) ?_;refine Yi (fun h1=>?_) (fun h1=>?_)
 ·have h1:(t.path:ByteArray)=p:=h1;exact .of_eq (show vb true=vb (decide (t.path=p)) by rw[AA h1])
 have h1:¬(t.path:ByteArray)=p:=h1;exact .of_eq (show vb false=vb (decide (t.path=p)) by rw[Ay h1])
theorem jb(l:List Tm)(p:ByteArray)(hl:CO l):PC 95 [sl AB l,vs p] (vb (CR l p)):=by
 refine Ps ⟨[3],[],[],[],[],[],[],[],[],[],[]⟩ Tryz.func95 rfl (Nz rfl) ?_;refine Dd (Bt (CR l p)) (fun h1=>?_) (fun h1=>?_)
 ·have h1:(CR l p)=true:=h1;refine Xi .pure (Xi _ (Yi (cb h1 (show PC 125 [sl AB l,.clo 126 [.cptr [vs p]]] (vb (CR l p))from mH (fF:=126) (caps:=[.cptr [vs p]]) (fun c hc=>by obtain rfl:=Am.1 hc;intro h;rfl) l (fun t=>decide (t.path=p)) (fun t _=>rO t p) hl)) ?_));exact .of_eq (show vb true=vb (CR l p) by rw[h1])
 have h1:(CR l p)=false:=h1;refine Xi .pure (Xi _ (Yi (cb h1 (show PC 125 [sl AB l,.clo 126 [.cptr [vs p]]] (vb (CR l p))from mH (fF:=126) (caps:=[.cptr [vs p]]) (fun c hc=>by obtain rfl:=Am.1 hc;intro h;rfl) l (fun t=>decide (t.path=p)) (fun t _=>rO t p) hl)) ?_));exact .of_eq (show vb false=vb (CR l p) by rw[h1])
theorem rN(roots:List Rq)(C A:List (Value×AV))(s:SS)(dec:List Cd)(st:List (List Sk))(p:ByteArray)(hl:CO dec):A3 Tryz.prog 118 [.ref 1000 0,vs p] (Ai (IZ roots C A s dec st) Aa) fun r h'=>r=vb (CA dec p)∧h'=Ai (IZ roots C A s dec st) Aa:=by
 refine BX (LC ⟨[3],[],[],[],[],[],[],[],[],[],[]⟩) [(1000,1000),(1001,1001),(1002,1002),(1003,1003),(1004,1004)] rfl Co hm rfl Tryz.func118 (by kernel_rfl) rfl (Nz rfl) (by kernel_rfl) rfl ?_;refine Dd (Bt (CA dec p)) (fun h1=>?_) (fun h1=>?_)
 ·have h1:(CA dec p)=true:=h1;refine Xi .pure (Xi _ (Yi (cb h1 (show PC 171 [sl Az dec,.clo 172 [.cptr [vs p]]] (vb (CA dec p))from rP (fF:=172) (caps:=[.cptr [vs p]]) (fun c hc=>by obtain rfl:=Am.1 hc;intro h;rfl) dec (fun c=>decide (c.rel.path=p)) (fun c _=>rQ c p) hl)) ?_));exact Xi _ (Yi (.refl _) (Yi (show vb true=vb (CA dec p) by rw[h1]) rfl))
 have h1:(CA dec p)=false:=h1;refine Xi .pure (Xi _ (Yi (cb h1 (show PC 171 [sl Az dec,.clo 172 [.cptr [vs p]]] (vb (CA dec p))from rP (fF:=172) (caps:=[.cptr [vs p]]) (fun c hc=>by obtain rfl:=Am.1 hc;intro h;rfl) dec (fun c=>decide (c.rel.path=p)) (fun c _=>rQ c p) hl)) ?_));exact Xi _ (Yi (.refl _) (Yi (show vb false=vb (CA dec p) by rw[h1]) rfl))
theorem kU(roots:List Rq)(C A:List (Value×AV))(s:SS)(dec:List Cd)(st:List (List Sk))(i:Nf)(l:List Tm)(k:Nat)(hk:LG i 0 s.infs=some k)(Rb:s.infs.Nodup):A3 Tryz.prog 121 [.ref 1000 0,.agg (BS i),sl AB l] (Ai (IZ roots C A s dec st) Aa) fun r h'=>r=vi ((DK s i l).1:Nat)∧h'=Ai (IZ roots C A (DK s i l).2 dec st) Aa:=by
 refine BX (LC ⟨[4],[],[],[],[],[],[],[],[],[],[2,5,7,8,9,10,11]⟩) [(1000,1000),(1001,1001),(1002,1002),(1003,1003),(1004,1004)] rfl Co hm rfl Tryz.func121 (by kernel_rfl) rfl (Nz rfl) (by kernel_rfl) rfl ?_;refine Yi (Nz rfl) ?_;refine Or.inl (Xi (vi (k:Nat)) (Yi (Yi (rc hk) (kd Rb hk)) ?_));refine Yi (by kernel_rfl) ?_;refine Xi ⟨[(0,.ref 1000 0),(2,sl AB l),(4,.ref 4 0),(7,vi (k:Nat)),(8,vb true)],[(4,.ro (BS i)),(1000,.cells (srM roots C A s dec 1004 st.length)),(1001,.tok 6 s.infs.length),(1002,.tok 1 s.drv.length),(1003,.map DT (DX 0 s.infs)),(1004,.arr 1 (st.map AQ))],Aa⟩ (Yi ⟨Z5,Z6,Fh,Aw (by kernel_rfl)⟩ ?_)
 exact Xi _ (Yi (.refl _) (dS (WV hk) rfl))
theorem kT(roots:List Rq)(C A:List (Value×AV))(s:SS)(dec:List Cd)(st:List (List Sk))(i:Nf)(l:List Tm)(hk:LG i 0 s.infs=none)(hn:s.infs.length≤65536)(hdl:s.drv.length=s.infs.length):A3 Tryz.prog 121 [.ref 1000 0,.agg (BS i),sl AB l] (Ai (IZ roots C A s dec st) Aa) fun r h'=>r=vi ((DK s i l).1:Nat)∧h'=Ai (IZ roots C A (DK s i l).2 dec st) Aa:=by
 have hdn:s.drv.length≤65536:=by omega
 have xZ:(s.infs.map BS).length=s.infs.length:=Lm _;refine BX (LC ⟨[4],[],[],[],[],[],[],[],[],[],[2,5,7,8,9,10,11]⟩) [(1000,1000),(1001,1001),(1002,1002),(1003,1003),(1004,1004)] rfl Co hm rfl Tryz.func121 (by kernel_rfl) rfl (Nz rfl) (by kernel_rfl) rfl ?_;refine Yi (Nz rfl) ?_;refine Or.inr (Yi (lV hk) ?_);refine Yi (by kernel_rfl) ?_;refine Xi ⟨[(0,.ref 1000 0),(2,sl AB l),(4,.ref 4 0),(7,vi 0),(8,vb false)],[(4,.ro (BS i)),(1000,.cells (srM roots C A s dec 1004 st.length)),(1001,.tok 6 s.infs.length),(1002,.tok 1 s.drv.length),(1003,.map DT (DX 0 s.infs)),(1004,.arr 1 (st.map AQ))],Aa⟩ (Yi ⟨Z5,Z6,Fh,Aw (by kernel_rfl)⟩ ?_)
 refine Yi (fun h1=>?_) (fun h1=>?_)
 ·have h1:(65536:Int)≤((s.infs.map BS).length:Int):=h1;refine Xi ⟨[(0,.ref 1000 0)],[(1000,.cells (srM roots C A s dec 1004 st.length)),(1001,.tok 6 s.infs.length),(1002,.tok 1 s.drv.length),(1003,.map DT (DX 0 s.infs)),(1004,.arr 1 (st.map AQ))],Aa⟩ (Yi ⟨Z1,Z5,Fh,Aw (by kernel_rfl)⟩ ?_)
  refine Yi (Nz rfl) ?_;refine Yi (by show BQ (((s.infs.map BS).length:Int)-(1:Int));unfold BQ;omega) ?_;exact Xi _ (Yi (.refl _) (dS (Uq hk (by have q:=h1;rw[Lm]at q;omega)) (by have q:=h1;rw[Lm]at q⊢;omega)))
 have h1:¬((65536:Int)≤((s.infs.map BS).length:Int)):=h1;refine Xi ⟨[(0,.ref 1000 0),(2,sl AB l),(4,.ref 4 0)],[(4,.ro (BS i)),(1000,.cells (srM roots C A s dec 1004 st.length)),(1001,.tok 6 s.infs.length),(1002,.tok 1 s.drv.length),(1003,.map DT (DX 0 s.infs)),(1004,.arr 1 (st.map AQ))],Aa⟩ (Yi ⟨Z3,Z6,Fh,Aw (by kernel_rfl)⟩ ?_)
 refine Xi ⟨[(0,.ref 1000 0),(2,sl AB l),(4,.ref 4 0),(9,vi (s.infs.map BS).length)],[(4,.ro (BS i)),(1000,.cells (srM roots C A s dec 1004 st.length)),(1001,.tok 6 s.infs.length),(1002,.tok 1 s.drv.length),(1003,.map DT (DX 0 s.infs)),(1004,.arr 1 (st.map AQ))],Aa⟩ (Yi ⟨Z4,Z6,Fh,Aw (by kernel_rfl)⟩ ?_)
 refine Yi (Nz rfl) ?_;refine Yi (by kernel_rfl) ?_;refine Xi ⟨[(0,.ref 1000 0),(2,sl AB l),(4,.ref 4 0),(9,vi (s.infs.map BS).length)],[(4,.ro (BS i)),(1000,.cells (srM roots C A s dec 1004 st.length)),(1001,.tok 6 s.infs.length),(1002,.tok 1 s.drv.length),(1003,.map DT (ET (DX 0 s.infs) (Ji i) (vi (s.infs.map BS).length))),(1004,.arr 1 (st.map AQ))],Aa⟩ (Yi ⟨Z4,Z6,Fh,Aw (by kernel_rfl)⟩ ?_)
 refine Yi (Nz rfl) ?_;refine Yi (bw rfl (by omega) (by decide)) ?_;refine Yi (Nz rfl) ?_;refine Yi (by kernel_rfl) ?_;refine Xi ⟨[(0,.ref 1000 0),(2,sl AB l),(9,vi (s.infs.map BS).length)],[(1000,.cells [sl AK roots,.cmap CM C,.cmap CM A,.slice (.id 1001 6) ((s.infs.map BS)++[(BS i)]),.slice (.id 1002 1) (s.drv.map B6),.mref 1003,vb s.full,sl Az dec,sl Ae (AJ dec),.msl 1004 st.length]),(1001,.tok 6 ((s.infs.map BS).length+([(BS i)]:List (List AV)).length)),(1002,.tok 1 s.drv.length),(1003,.map DT (ET (DX 0 s.infs) (Ji i) (vi (s.infs.map BS).length))),(1004,.arr 1 (st.map AQ))],Aa⟩ (Yi ⟨Z3,Z5,Fh,Aw (by kernel_rfl)⟩ ?_)
 refine Yi (bw rfl (by omega) (by decide)) ?_;refine Yi (Nz rfl) ?_;refine Xi ⟨[(9,vi (s.infs.map BS).length)],[(1000,.cells [sl AK roots,.cmap CM C,.cmap CM A,.slice (.id 1001 6) ((s.infs.map BS)++[(BS i)]),.slice (.id 1002 1) ((s.drv.map B6)++[[sl AB l]]),.mref 1003,vb s.full,sl Az dec,sl Ae (AJ dec),.msl 1004 st.length]),(1001,.tok 6 ((s.infs.map BS).length+([(BS i)]:List (List AV)).length)),(1002,.tok 1 ((s.drv.map B6).length+([[sl AB l]]:List (List AV)).length)),(1003,.map DT (ET (DX 0 s.infs) (Ji i) (vi (s.infs.map BS).length))),(1004,.arr 1 (st.map AQ))],Aa⟩ (Yi ⟨Z1,Z5,Fh,Aw (by kernel_rfl)⟩ ?_)
 have hq:=dS (roots:=roots) (C:=C) (A:=A) (dec:=dec) (st:=st) (z:=((s.infs.map BS).length:Int)) (WT (l:=l) hk (by have q:=h1;rw[Lm]at q;omega)) (by rw[Lm]);exact Xi _ (Yi (.refl _) (Yi hq.1 ((po hk).trans hq.2)))
structure Jy(x:List Rl)(roots:List Rq)(s:SS):Prop where
 der:Fo x roots s
 nodup:s.infs.Nodup
abbrev mg(roots:List Rq)(C A:List (Value×AV))(dec:List Cd)(st:List (List Sk))(o:Nat×SS)(r:AV)(h' : Nat→HO):Prop:=r=vi (o.1:Nat)∧h'=Ai (IZ roots C A o.2 dec st) Aa
theorem kS(roots:List Rq)(C A:List (Value×AV))(s:SS)(dec:List Cd)(st:List (List Sk))(i:Nf)(l:List Tm)(hn:s.infs.length≤65536)(hdl:s.drv.length=s.infs.length)(Rb:s.infs.Nodup) :
  A3 Tryz.prog 121 [.ref 1000 0,.agg (BS i),sl AB l] (Ai (IZ roots C A s dec st) Aa) (mg roots C A dec st (DK s i l)):=by
 cases hk:LG i 0 s.infs with
 |some k=>exact kU roots C A s dec st i l k hk Rb
 |none=>exact kT roots C A s dec st i l hk hn hdl
abbrev Yz:IR:=[(1000,1000),(1001,1001),(1002,1002),(1003,1003),(1004,1004)]
theorem pX{h2:Nat→HO}{cs:List AV}{o1 o2 o3 o4:HO}(e0:h2 1000=.cells cs)(e1:h2 1001=o1)(e2:h2 1002=o2)(e3:h2 1003=o3)(e4:h2 1004=o4) :
  Fw Yz h2=Ai [(1000,.cells (cs.map (ren1 (Cf Yz) h2))),(1001,o1.ren (Cf Yz) h2),(1002,o2.ren (Cf Yz) h2),(1003,o3.ren (Cf Yz) h2),(1004,o4.ren (Cf Yz) h2)] Aa:=by
 unfold Fw;simp only[Wu];rw[e0,e1,e2,e3,e4];rfl
theorem ci{s:SS}{n:Nd}(h:n.path=mt):DK s ⟨0,mt,0,n.number,0,0⟩ (Jp n.rq)=Bd s n:=by unfold Bd MV Hx;rw[Ao h,Ao h]
theorem fX{s:SS}{n:Nd}(h:¬n.path=mt):DK s ⟨1,n.path,n.place,n.number,0,0⟩ (Ei n.path n.place n.rq)=Bd s n:=by unfold Bd MV Hx;rw[Ah h,Ah h]
abbrev VQ(d:List (List Tm))(S:List Sl):AV:=.tup [vi (((Nv d S).getD 0:Nat):Int),vb (Nv d S).isSome]
theorem Xd{S:List Sl}:∀{l:List (List Tm)} {b i:Nat} {t:List Tm},l[i]?=some t→Cq t S=true→(∀j u,j<i→l[j]?=some u→Cq u S=false)→Ok S b l=some (b+i)
 | [],_,_,_,h,_,_=>by simp at h
 |u::l,b,0,t,h,he,_=>by cases h;unfold Ok;rw[Ao he];rfl
 |u::l,b,i+1,t,h,he,hn=>by
  unfold Ok;rw[Ah (by rw[hn 0 u (by omega) rfl];decide),Xd (i:=i) (by simpa using h) he (fun j v hj hv=>hn (j+1) v (by omega) (by simpa using hv))]
  congr 1;omega
theorem Xe{S:List Sl}:∀{l:List (List Tm)} {b:Nat},(∀t∈l,Cq t S=false)→Ok S b l=none
 | [],_,_=>rfl
 |u::l,b,h=>by
  unfold Ok;rw[Ah (by rw[h u (Ab ..)];decide)];exact Xe fun t ht=>h t (Ag _ ht)
theorem wX(roots:List Rq)(C A:List (Value×AV))(s:SS)(dec:List Cd)(st:List (List Sk))(n:Nd)(hn:s.infs.length≤65536)(hdl:s.drv.length=s.infs.length)(Rb:s.infs.Nodup)(hq:CO n.rq.set)(hp:BQ (n.place+1)):A3 Tryz.prog 91 [.ref 1000 0,.agg (A7 n)] (Ai (IZ roots C A s dec st) Aa) fun r h'=>mg roots C A dec st (Bd s n) r h':=by
 refine BX (LC ⟨[3],[],[],[],[],[],[],[],[(15,5),(31,5)],[],[2,3]⟩) [(1000,1000),(1001,1001),(1002,1002),(1003,1003),(1004,1004)] rfl Co hm rfl Tryz.func91 (by kernel_rfl) rfl (Nz rfl) (by kernel_rfl) rfl ?_;refine Yi (fun h1=>?_) (fun h1=>?_)
 ·have h1:(n.path:ByteArray)=⟨#[]⟩:=h1;refine Xi ⟨[(0,.ref 1000 0),(3,.ref 3 0)],[(3,.ro (A7 n)),(1000,.cells (srM roots C A s dec 1004 st.length)),(1001,.tok 6 s.infs.length),(1002,.tok 1 s.drv.length),(1003,.map DT (DX 0 s.infs)),(1004,.arr 1 (st.map AQ))],Aa⟩ (Yi ⟨Z2,Z6,Fh,Aw (by kernel_rfl)⟩ ?_)
  refine Yi (Nz rfl) ?_;refine Xi _ (Yi (tM n.rq hq) ?_);refine Xi Yz (Xi [(1000,.cells (srM roots C A s dec 1004 st.length)),(1001,.tok 6 s.infs.length),(1002,.tok 1 s.drv.length),(1003,.map DT (DX 0 s.infs)),(1004,.arr 1 (st.map AQ))] (Xi (IZ roots C A (DK s ⟨0,mt,0,n.number,0,0⟩ (Jp n.rq)).2 dec st) (Xi [.ref 1000 0,.agg [vi 0,vs ⟨#[]⟩,vi 0,vi n.number,vi 0,vi 0],sl AB (Jp n.rq)] (Xi (vi (((DK s ⟨0,mt,0,n.number,0,0⟩ (Jp n.rq)).1:Nat):Int):AV) (Yi (fun h2 hh=>Yi ((pX (show h2 1000=.cells (srM roots C A s dec 1004 st.length)from hh 1000 (by decide)) (show h2 1001=.tok 6 s.infs.length from hh 1001 (by decide)) (show h2 1002=.tok 1 s.drv.length from hh 1002 (by decide)) (show h2 1003=.map DT (DX 0 s.infs)from hh 1003 (by decide)) (show h2 1004=.arr 1 (st.map AQ)from hh 1004 (by decide))).trans rfl) rfl) (Yi (by kernel_rfl) (Yi (kS roots C A s dec st ⟨0,mt,0,n.number,0,0⟩ (Jp n.rq) hn hdl Rb) ?_)))))));refine Yi (by kernel_rfl) ?_;have ei:=ci (s:=s) h1;exact Xi _ (Yi (.refl _) (Yi (show vi (((DK s ⟨0,mt,0,n.number,0,0⟩ (Jp n.rq)).1:Nat):Int)=vi (((Bd s n).1:Nat):Int) by rw[ei]) (show Ai (IZ roots C A (DK s ⟨0,mt,0,n.number,0,0⟩ (Jp n.rq)).2 dec st) Aa=Ai (IZ roots C A (Bd s n).2 dec st) Aa by rw[ei])))
 have h1:¬(n.path:ByteArray)=⟨#[]⟩:=h1;refine Xi ⟨[(0,.ref 1000 0),(3,.ref 3 0)],[(3,.ro (A7 n)),(1000,.cells (srM roots C A s dec 1004 st.length)),(1001,.tok 6 s.infs.length),(1002,.tok 1 s.drv.length),(1003,.map DT (DX 0 s.infs)),(1004,.arr 1 (st.map AQ))],Aa⟩ (Yi ⟨Z2,Z6,Fh,Aw (by kernel_rfl)⟩ ?_)
 refine Yi (Nz rfl) ?_;refine Xi _ (Yi (tN n.path n.place n.rq hp hq) ?_);refine Xi Yz (Xi [(1000,.cells (srM roots C A s dec 1004 st.length)),(1001,.tok 6 s.infs.length),(1002,.tok 1 s.drv.length),(1003,.map DT (DX 0 s.infs)),(1004,.arr 1 (st.map AQ))] (Xi (IZ roots C A (DK s ⟨1,n.path,n.place,n.number,0,0⟩ (Ei n.path n.place n.rq)).2 dec st) (Xi [.ref 1000 0,.agg [vi 1,vs n.path,vi n.place,vi n.number,vi 0,vi 0],sl AB (Ei n.path n.place n.rq)] (Xi (vi (((DK s ⟨1,n.path,n.place,n.number,0,0⟩ (Ei n.path n.place n.rq)).1:Nat):Int):AV) (Yi (fun h2 hh=>Yi ((pX (show h2 1000=.cells (srM roots C A s dec 1004 st.length)from hh 1000 (by decide)) (show h2 1001=.tok 6 s.infs.length from hh 1001 (by decide)) (show h2 1002=.tok 1 s.drv.length from hh 1002 (by decide)) (show h2 1003=.map DT (DX 0 s.infs)from hh 1003 (by decide)) (show h2 1004=.arr 1 (st.map AQ)from hh 1004 (by decide))).trans rfl) rfl) (Yi (by kernel_rfl) (Yi (kS roots C A s dec st ⟨1,n.path,n.place,n.number,0,0⟩ (Ei n.path n.place n.rq) hn hdl Rb) ?_)))))));refine Yi (by kernel_rfl) ?_;have ei:=fX (s:=s) h1;exact Xi _ (Yi (.refl _) (Yi (show vi (((DK s ⟨1,n.path,n.place,n.number,0,0⟩ (Ei n.path n.place n.rq)).1:Nat):Int)=vi (((Bd s n).1:Nat):Int) by rw[ei]) (show Ai (IZ roots C A (DK s ⟨1,n.path,n.place,n.number,0,0⟩ (Ei n.path n.place n.rq)).2 dec st) Aa=Ai (IZ roots C A (Bd s n).2 dec st) Aa by rw[ei])))
theorem s89(roots:List Rq)(C A:List (Value×AV))(s:SS)(dec:List Cd)(st:List (List Sk))(S:List Sl)(hd:s.drv.length≤65536)(ht:∀t∈s.drv,dO t)(hS:CO S):A3 Tryz.prog 92 [.ref 1000 0,sl Ae S] (Ai (IZ roots C A s dec st) Aa) fun r h'=>r=VQ s.drv S∧h'=Ai (IZ roots C A s dec st) Aa:=by
 refine BX (LC ⟨[],[],[],[],[],[],[],[],[],[],[4,6]⟩) [(1000,1000),(1001,1001),(1002,1002),(1003,1003),(1004,1004)] rfl Co hm rfl Tryz.func92 (by kernel_rfl) rfl (Nz rfl) (by kernel_rfl) rfl ?_;refine Xi {i:Nat // i≤s.drv.length∧∀j u,j<i→s.drv[j]?=some u→Cq u S=false} (Xi (fun q=>⟨[(1,sl Ae S),(11,.slice (.id 1002 1) (s.drv.map B6)),(12,vi (s.drv.map B6).length),(13,vi q.1)],[(1000,.cells (srM roots C A s dec 1004 st.length)),(1001,.tok 6 s.infs.length),(1002,.tok 1 s.drv.length),(1003,.map DT (DX 0 s.infs)),(1004,.arr 1 (st.map AQ))],Aa⟩) (Xi (fun q=>s.drv.length-q.1) (Yi (Xi ⟨0,AL _,fun j u h=>absurd h (Ju j)⟩ ?_) ?_)))
 ·exact⟨Z4,Z5,Fh,Aw (by kernel_rfl)⟩
 intro⟨i,i1,i2⟩;have i1:i≤s.drv.length:=i1;have i2:∀j u,j<i→s.drv[j]?=some u→Cq u S=false:=i2;refine Yi (fun h1=>?_) (fun h1=>?_)
 ·have h1:(i:Int)<((s.drv.map B6).length:Int):=h1;have n1:=Ma h1;refine Xi (B6 s.drv[i]) (Yi (UW n1) (Yi rfl ?_));refine Xi ⟨[(1,sl Ae S),(6,vi i),(7,sl AB s.drv[i]),(11,.slice (.id 1002 1) (s.drv.map B6)),(12,vi (s.drv.map B6).length),(13,vi i)],[(1000,.cells (srM roots C A s dec 1004 st.length)),(1001,.tok 6 s.infs.length),(1002,.tok 1 s.drv.length),(1003,.map DT (DX 0 s.infs)),(1004,.arr 1 (st.map AQ))],Aa⟩ (Yi ⟨Z6,Z5,Fh,Aw (by kernel_rfl)⟩ ?_)
  refine Dd (Bt (Cq s.drv[i] S)) (fun h2=>?_) (fun h2=>?_)
  ·have h2:(Cq s.drv[i] S)=true:=h2;refine Xi .pure (Xi _ (Yi (cb h2 (xm s.drv[i] S (ht _ (AC _)) hS)) ?_));have eE:Nv s.drv S=some i:=by unfold Nv;rw[Xd (Ge n1) h2 i2,Be]
   exact Xi _ (Yi (.refl _) (Yi (show AV.tup [vi (i:Int),vb true]=VQ s.drv S by unfold VQ;rw[eE];rfl) rfl))
  have h2:(Cq s.drv[i] S)=false:=h2;refine Xi .pure (Xi _ (Yi (cb h2 (xm s.drv[i] S (ht _ (AC _)) hS)) ?_));refine Xi ⟨[(1,sl Ae S),(11,.slice (.id 1002 1) (s.drv.map B6)),(12,vi (s.drv.map B6).length),(13,vi i)],[(1000,.cells (srM roots C A s dec 1004 st.length)),(1001,.tok 6 s.infs.length),(1002,.tok 1 s.drv.length),(1003,.map DT (DX 0 s.infs)),(1004,.arr 1 (st.map AQ))],Aa⟩ (Yi ⟨Z4,Z5,Fh,Aw (by kernel_rfl)⟩ ?_)
  refine Yi (Ii i (by omega)) ?_;refine Xi ⟨i+1,by omega,fun j u hj hu=>by
    by_cases e:j=i
    ·subst e;rw[Ge n1]at hu;cases hu;exact h2
    ·exact i2 j u (by omega) hu⟩ ?_
  exact⟨Dl s.drv.length i (by omega),Z4,Z5,Fh,Aw (by kernel_rfl)⟩
 have h1:¬((i:Int)<((s.drv.map B6).length:Int)):=h1;have n1:=L9 h1;have eE:Nv s.drv S=none:=Xe fun t ht=>by
  obtain⟨j,hj⟩:=B5.1 ht
  have:=(Ap.1 hj).1
  exact i2 j t (by have q:=h1;rw[Lm]at q;omega) hj
 exact Xi _ (Yi (.refl _) (Yi (show AV.tup [vi 0,vb false]=VQ s.drv S by unfold VQ;rw[eE];rfl) rfl))
end Go.Eng
