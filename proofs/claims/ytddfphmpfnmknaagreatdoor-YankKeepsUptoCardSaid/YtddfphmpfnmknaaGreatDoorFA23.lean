/- Lemmas for the claims of this seat, without a condition: part 23 (O16, O17, S15, S1, S2, S3). -/
import Derived.Test.YtddfphmpfnmknaaGreatDoorFA22
set_option maxHeartbeats 4000000
namespace Go.Eng
open Go.Proofs
structure Mv where
 path:ByteArray
 a:Int
 b:Int
abbrev DV(m:Mv):List AV:=[vs m.path,vi m.a,vi m.b]
abbrev plP(s:Sl):Value×AV:=(.string s.path,vi (place s.ver))
abbrev Jt(l:List Sl):List (Value×AV):=l.map plP
def KD(l:List Sl)(p:ByteArray):Int:=match B1 l p with | some s=>place s.ver | none=>-1
def J7(l m:List Sl)(p:ByteArray):Option Mv:=if KD l p≠KD m p then some ⟨p,KD l p,KD m p⟩else none
abbrev HF(l m:List Sl)(ps:List ByteArray):List Mv:=ps.filterMap (J7 l m)
structure Lk(l:List Sl):Prop where
 few:CM l
 val:∀s∈l,Cs s.ver=true
 inc:l.Pairwise mf
theorem Lk.step{l:List Sl}(h:Lk l){i:Nat}(hi:i<l.length)(h0:0<i):Er (l[i-1]'(by omega)).path l[i].path=true:=(AS.1 h.inc) (i-1) i (by omega) hi (by omega)
theorem ib{l:List Sl}(h:Lk l){i:Nat}(hi:i<l.length):∀b,(Value.string l[i].path,b)∉Jt (l.take i):=fun b hb=>by
 obtain⟨s,hs,e⟩:=Ak.1 hb;obtain⟨j,hj,rfl⟩:=Ca.1 hs;rw[EC]at e;rw[AB]at hj;have q:=(AS.1 h.inc) j i (by omega) hi (by omega);have e2:l[j].path=l[i].path:=by injection e with e1;injection e1
 rw[mf,e2,CT]at q;cases q
theorem oo{l:List Sl}(h:Lk l){p:ByteArray}{a:AV}(ha:(Value.string p,a)∈Jt l):a=vi (KD l p):=by
 obtain⟨s,hs,e⟩:=Ak.1 ha;have e1:s.path=p:=by injection e with e1;injection e1
 have e2:vi (place s.ver)=a:=by injection e
 rw[←e2];unfold KD;rw[←e1,Nt (cz ocP h.inc) hs]
theorem oq{l:List Sl}{p:ByteArray}(h:∀a,(Value.string p,a)∉Jt l):KD l p=-1:=by
 unfold KD;rw[show B1 l p=none from DP.2 fun s hs e=>h _ (Ak.2 ⟨s,hs,by rw[←A2 e]⟩)]
theorem aI{l m:List Sl}{ps:List ByteArray}{k:Nat}(h:k<ps.length):HF l m (ps.take (k+1))=HF l m (ps.take k)++(J7 l m ps[k]).toList:=by
 unfold HF;rw[ES h,List.filterMap_append]
 congr 1
theorem rt(l:List Sl)(hl:Lk l):A3 Tryz.prog 75 [sl Ae l] (Ai [] Ab) fun r h'=>r=.tup [.mref 2000,vb true]∧h'=Ai [(2000,.map CP (Jt l))] Ab:=by
 have hfl:l.length≤1073741824:=hl.few;refine BS (KV ⟨[],[],[],[],[],[],[],[],[],[],[6,7,8]⟩) [(9,2000)] rfl Ck hm rfl Tryz.func75 (by kernel_rfl) rfl (Nz rfl) (by kernel_rfl) rfl ?_;refine Xi {q:Nat // q≤l.length} (Xi (fun q=>⟨[(0,sl Ae l),(4,.mref 9),(10,sl Ae l),(11,vi (l.map Ae).length),(12,vi q.1)],[(9,.map CP (Jt (l.take q.1)))],Ab⟩) (Xi (fun q=>l.length-q.1) (Yi (Xi ⟨0,AJ _⟩ ?_) ?_)))
 ·exact⟨Z5,Z1,Fh,Aw (by kernel_rfl)⟩
 intro⟨i,i1⟩;have i1:i≤l.length:=i1;refine Yi (fun h1=>?_) (fun h1=>?_)
 ·have h1:(i:Int)<((l.map Ae).length:Int):=h1;have n1:=LC h1;refine Xi (Ae l[i]) (Yi (Uo n1) (Yi rfl ?_));refine Yi (Nz rfl) ?_;refine Yi (Nz rfl) ?_;refine Yi (Nz rfl) ?_;refine Xi .pure (Xi _ (Yi (by have q:=pR l[i].ver;rw[Ao (hl.val _ (AC n1)),Ao (hl.val _ (AC n1))]at q;exact q) ?_));refine Xi ⟨[(0,sl Ae l),(4,.mref 9),(5,vi i),(6,.ref 6 0),(7,vi (place l[i].ver)),(8,vi 0),(10,sl Ae l),(11,vi (l.map Ae).length),(12,vi i)],[(6,.cells (Ae l[i])),(9,.map CP (Jt (l.take i)))],Ab⟩ (Yi ⟨Z9,Z2,Fh,Aw (by kernel_rfl)⟩ ?_)
  refine Yi (fun h=>absurd h (by decide)) (fun _=>?_);refine Yi (fun h2=>?_) (fun h2=>?_)
  ·have h2:(0:Int)<(i:Int):=h2;refine Yi (by show BR ((i:Int)-(1:Int));unfold BR;omega) ?_;have u9:0<i:=by omega
   refine Xi (Ae (l[i-1])) (Yi (Yi (show(0:Int)≤(i:Int)-1 by omega) (by rw[show((i:Int)-1).toNat=i-1 by omega];exact Dg (Ge (by omega)))) (Yi rfl ?_));refine Yi (fun h3=>?_) (fun h3=>?_)
   ·have h3:Er (l[i-1]).path l[i].path=false:=(GW _ _).trans h3;exact absurd (hl.step n1 u9) (by rw[h3];decide)
   have h3:Er (l[i-1]).path l[i].path=true:=(GW _ _).trans (by simpa using h3);refine Yi (by kernel_rfl) ?_;refine Xi ⟨[(0,sl Ae l),(4,.mref 9),(6,.ref 6 0),(7,vi (place l[i].ver)),(10,sl Ae l),(11,vi (l.map Ae).length),(12,vi i)],[(6,.cells (Ae l[i])),(9,.map CP (Jt (l.take i)))],Ab⟩ (Yi ⟨Z7,Z2,Fh,Aw (by kernel_rfl)⟩ ?_)
   refine Yi (Ii i (by omega)) ?_;refine Xi ⟨i+1,n1⟩ ?_;exact⟨Dl l.length i (by omega),Z5,⟨⟨(show HO.map CP (ER (Jt (l.take i)) (.string l[i].path) (vi (place l[i].ver)))=.map CP (Jt (l.take (i+1))) by rw[Kw (ib hl n1),ES n1];unfold Jt;rw[Ay];rfl),rfl⟩,Tv⟩,Fh,Aw (by kernel_rfl)⟩
  have h2:¬((0:Int)<(i:Int)):=h2;refine Yi (by kernel_rfl) ?_;refine Xi ⟨[(0,sl Ae l),(4,.mref 9),(6,.ref 6 0),(7,vi (place l[i].ver)),(10,sl Ae l),(11,vi (l.map Ae).length),(12,vi i)],[(6,.cells (Ae l[i])),(9,.map CP (Jt (l.take i)))],Ab⟩ (Yi ⟨Z7,Z2,Fh,Aw (by kernel_rfl)⟩ ?_)
  refine Yi (Ii i (by omega)) ?_;refine Xi ⟨i+1,n1⟩ ?_;exact⟨Dl l.length i (by omega),Z5,⟨⟨(show HO.map CP (ER (Jt (l.take i)) (.string l[i].path) (vi (place l[i].ver)))=.map CP (Jt (l.take (i+1))) by rw[Kw (ib hl n1),ES n1];unfold Jt;rw[Ay];rfl),rfl⟩,Tv⟩,Fh,Aw (by kernel_rfl)⟩
 have h1:¬((i:Int)<((l.map Ae).length:Int)):=h1;have n1:=LB h1;have ei:l.take i=l:=AE (by have q:=h1;rw[Lm]at q;omega);exact Xi _ (Yi (.refl _) ⟨rfl,show Ai [(2000,HO.map CP (Jt (l.take i)))] Ab=Ai [(2000,.map CP (Jt l))] Ab by rw[ei]⟩)
theorem ru(l:List Sl)(p:ByteArray)(hl:Lk l):PC 77 [.cmap CP (Jt l),vs p] (vi (KD l p)):=by
 refine Ps ⟨[],[],[],[],[],[],[],[],[],[],[4]⟩ Tryz.func77 rfl (Nz rfl) ?_;refine Yi (fun a ha=>?_) (fun Ri=>?_)
 ·have ea:=oo hl ha;subst ea;exact .refl _
 refine Xi ⟨[],[],Ab⟩ (Yi ⟨Tv,Tv,Fh,Tv⟩ ?_)
 exact .of_eq (show vi (-1)=vi (KD l p) by rw[oq Ri])
theorem o75(l m:List Sl)(t:List ByteArray)(hl:Lk l)(ye:Lk m)(zZ:l.length+m.length≤1073741824)(Dt:l++m≠[])(hp:t.Perm ((l++m).map (·.path)))(ht:(t.map QA).Pairwise fun a b=>a≤b):PC 54 [sl Ae l,sl Ae m] (.tup [sl DV (HF l m (BW t)),vi 0]):=by
 obtain⟨LM,nt⟩:∃LM,LM=l++m:=⟨_,rfl⟩;have hm:=ye;rw[←nt]at hp;have xL:LM.length=l.length+m.length:=by rw[nt,Ad]
 have sO:l.length≤1073741824:=hl.few;have lS:m.length≤1073741824:=ye.few;refine FZ (dI ⟨[],[(14,3)],[(10,1)],[(34,[12000,12500])],[],[],[],[],[],[],[3,6,7,8,9,11,13,14,15,16,17,18,19,21]⟩) rfl Ck Go.Eng.hm rfl Tryz.func54 (by kernel_rfl) rfl (Nz rfl) (by kernel_rfl) ?_;refine Xi (.gen [] 1) (Yi rfl (A3.to2 (rt l hl) ?_));refine Xi (.gen [] 1) (Yi rfl (A3.to2 (rt m hm) ?_));refine Xi ⟨[(0,sl Ae l),(1,sl Ae m),(6,.mref 12000),(7,vb true),(8,.mref 12500),(9,vb true)],[(12000,.map CP (Jt l)),(12500,.map CP (Jt m))],Ab⟩ (Yi ⟨Z6,Z2,Fh,Tv⟩ ?_)
 refine Xi ⟨[(0,sl Ae l),(1,sl Ae m),(6,.mref 12000),(8,.mref 12500),(10,.msl 10 0)],[(10,.arr 1 []),(12000,.map CP (Jt l)),(12500,.map CP (Jt m))],Ab⟩ (Yi ⟨Z5,Z3,Fh,Tv⟩ ?_)
 refine Xi (.gen [] 1) (Yi rfl (A3.to2 (pQ l hl.few) ?_));have b4:Df 4 (m.map Ae)∧(l.map Ae).length=(l.map Ae).length∧((l.map Ae).length+(m.map Ae).length)*40≤140737488355328∧(l.map Ae).length+(m.map Ae).length≤9223372036854775807:=⟨(Fj (enc:=Ae) (n:=4) (fun _=>rfl) m),rfl,(by simp only[Lm];omega),(by simp only[Lm];omega)⟩;refine Yi b4 ?_;refine Xi {q:Nat×List ByteArray // q.1≤LM.length∧q.2=(LM.take q.1).map (·.path)} (Xi (fun q=>⟨[(6,.mref 12000),(8,.mref 12500),(10,.msl 10 q.1.2.length),(37,.slice (.id 13500 4) (LM.map Ae)),(38,vi (LM.length:Nat)),(39,vi q.1.1)],[(10,.arr 1 (q.1.2.map DD)),(12000,.rom CP (Jt l)),(12500,.rom CP (Jt m)),(13500,.tok 4 LM.length)],Ab⟩) (Xi (fun q=>LM.length-q.1.1) (Yi (Xi ⟨(0,[]),AJ _,rfl⟩ ?_) ?_)))
 ·exact⟨⟨Zr,Zr,Zr,⟨(show AV.slice (.id 13500 4) (l.map Ae++m.map Ae)=.slice (.id 13500 4) (LM.map Ae) by rw[nt,Ay]),rfl⟩,⟨(show vi ((l.map Ae++m.map Ae:List (List AV)).length:Int)=vi ((LM.length:Nat):Int) by rw[nt,Ad,Ad,Lm,Lm]),rfl⟩,Zr,Tv⟩,⟨Zr,Zr,Zr,⟨(show HO.tok 4 ((l.map Ae).length+(m.map Ae).length)=.tok 4 LM.length by rw[nt,Ad,Lm,Lm]),rfl⟩,Tv⟩,Fh,Tv⟩
 intro⟨⟨i,P⟩,i1,i2⟩;have i1:i≤LM.length:=i1;have i2:P=(LM.take i).map (·.path):=i2;have i3:P.length≤i:=by rw[i2,Lm,AB];omega
 refine Xi ⟨[(6,.mref 12000),(8,.mref 12500),(10,.msl 10 P.length),(37,.slice (.id 13500 4) (LM.map Ae)),(38,vi (LM.length:Nat)),(39,vi i)],[(10,.arr 1 (P.map DD)),(12000,.rom CP (Jt l)),(12500,.rom CP (Jt m)),(13500,.tok 4 LM.length)],Ab⟩ (Yi ⟨Z6,Z4,Fh,Tv⟩ ?_)
 refine Yi (fun h5=>?_) (fun h5=>?_)
 ·have h5:(i:Int)<((LM.length:Nat):Int):=h5;have n5:i<LM.length:=by omega
  refine Xi ⟨[(6,.mref 12000),(8,.mref 12500),(10,.msl 10 P.length),(37,.slice (.id 13500 4) (LM.map Ae)),(38,vi (LM.length:Nat)),(39,vi i)],[(10,.arr 1 (P.map DD)),(12000,.rom CP (Jt l)),(12500,.rom CP (Jt m)),(13500,.tok 4 LM.length)],Ab⟩ (Yi ⟨Z6,Z4,Fh,Tv⟩ ?_)
  refine Xi (Ae LM[i]) (Yi (Uo n5) (Yi rfl ?_));refine Yi (Nz rfl) ?_;refine Yi (Nz rfl) ?_;refine Xi ⟨[(6,.mref 12000),(8,.mref 12500),(10,.msl 10 P.length),(12,.ref 12 0),(37,.slice (.id 13500 4) (LM.map Ae)),(38,vi (LM.length:Nat)),(39,vi i)],[(10,.arr 1 (P.map DD)),(12,.cells (Ae LM[i])),(12000,.rom CP (Jt l)),(12500,.rom CP (Jt m)),(13500,.tok 4 LM.length)],Ab⟩ (Yi ⟨Z7,Z5,Fh,Tv⟩ ?_)
  have b6:Df 1 [[vs LM[i].path]]∧(P.map DD).length=P.length∧((P.map DD).length+([[vs LM[i].path]]:List (List AV)).length)*16≤140737488355328∧(P.map DD).length+([[vs LM[i].path]]:List (List AV)).length≤9223372036854775807:=⟨⟨rfl,trivial⟩,(by rw[Lm]),(by simp only[Lm,Av,AF];omega),(by simp only[Lm,Av,AF];omega)⟩;refine Yi b6 ?_;refine Yi (Ii i (by omega)) ?_;refine Xi ⟨(i+1,P++[LM[i].path]),n5,by show P++[LM[i].path]=_;rw[ES n5,Ay,i2];rfl⟩ ?_;exact⟨Dl LM.length i (by omega),⟨Zr,Zr,⟨(show AV.msl 10 ((P.map DD).length+([[vs LM[i].path]]:List (List AV)).length)=.msl 10 (P++[LM[i].path]).length by rw[Ad,Lm];rfl),rfl⟩,Zr,Zr,Zr,Tv⟩,⟨⟨(show HO.arr 1 (P.map DD++[[vs LM[i].path]])=.arr 1 ((P++[LM[i].path]).map DD) by rw[Ay];rfl),rfl⟩,Zr,Zr,Zr,Tv⟩,Fh,Tv⟩
 have h5:¬((i:Int)<((LM.length:Nat):Int)):=h5;have sH:P=LM.map (·.path):=by rw[i2,AE (by have q:=h5;omega)]
 have xM:CM P:=by unfold CM;rw[sH,Lm,nt,Ad];exact zZ
 have xN:P≠[]:=fun e=>by rw[sH]at e;exact Dt (by rw[←nt];exact D3.1 e)
 have uC:t.length=P.length:=by rw[sH];exact hp.length_eq
 have l7:t.length≤1073741824:=by rw[uC];exact xM
 have vN:t≠[]:=fun e=>xN (AN (by rw[←uC,e];rfl));have hcl:(BW t).length≤t.length:=by unfold BW;rw[Lm];exact Br (QC _) (by rw[Lm];exact Al _)
 refine Xi ⟨[(6,.mref 12000),(8,.mref 12500),(10,.msl 10 P.length)],[(10,.arr 1 (P.map DD)),(12000,.rom CP (Jt l)),(12500,.rom CP (Jt m))],Ab⟩ (Yi ⟨Z3,Z3,Fh,Tv⟩ ?_)
 refine Xi (.gen [(10,1000)] 0) (Yi rfl (A3.to2 (v8 P t xM xN (by rw[sH];exact hp) ht) ?_));refine Xi ⟨[(6,.mref 12000),(8,.mref 12500),(10,.msl 10 P.length),(13,.v (.func (.func 77) #[] #[]))],[(10,.arr 1 (t.map DD)),(12000,.rom CP (Jt l)),(12500,.rom CP (Jt m))],Ab⟩ (Yi ⟨Z4,Z3,Fh,Tv⟩ ?_)
 refine Xi ⟨[(6,.mref 12000),(8,.mref 12500),(10,.msl 10 t.length),(13,.v (.func (.func 77) #[] #[])),(14,.slice (.id 14 3) [])],[(10,.arr 1 (t.map DD)),(14,.tok 3 0),(12000,.rom CP (Jt l)),(12500,.rom CP (Jt m))],Ab⟩ (Yi ⟨⟨Zr,Zr,⟨(Ac (AV.msl 10) uC.symm),rfl⟩,Zr,Zr,Tv⟩,Z4,Fh,Tv⟩ ?_)
 refine Xi (.gen [(10,1000)] 1) (Yi rfl (A3.to2 (wa t (by unfold CM;omega) vN) ?_));refine Xi {q:Nat×List Mv // q.1≤(BW t).length∧q.2=HF l m ((BW t).take q.1)} (Xi (fun q=>⟨[(6,.mref 12000),(8,.mref 12500),(13,.v (.func (.func 77) #[] #[])),(14,.slice (.id 14 3) (q.1.2.map DV)),(52,.msl 15200 (BW t).length),(53,vi (BW t).length),(54,vi q.1.1)],[(14,.tok 3 q.1.2.length),(12000,.rom CP (Jt l)),(12500,.rom CP (Jt m)),(15200,.arr 1 ((BW t).map DD))],Ab⟩) (Xi (fun q=>(BW t).length-q.1.1) (Yi (Xi ⟨(0,[]),AJ _,rfl⟩ ?_) ?_)))
 ·exact⟨Z7,Z4,Fh,Tv⟩
 intro⟨⟨k,O⟩,k1,k2⟩;have k1:k≤(BW t).length:=k1;have k2:O=HF l m ((BW t).take k):=k2;have k3:O.length≤k:=by rw[k2];exact Br (List.length_filterMap_le ..) (by rw[AB];omega)
 refine Xi ⟨[(6,.mref 12000),(8,.mref 12500),(13,.v (.func (.func 77) #[] #[])),(14,.slice (.id 14 3) (O.map DV)),(52,.msl 15200 (BW t).length),(53,vi (BW t).length),(54,vi k)],[(14,.tok 3 O.length),(12000,.rom CP (Jt l)),(12500,.rom CP (Jt m)),(15200,.arr 1 ((BW t).map DD))],Ab⟩ (Yi ⟨Z7,Z4,Fh,Tv⟩ ?_)
 refine Yi (fun SC=>?_) (fun SC=>?_)
 ·have SC:(k:Int)<((BW t).length:Int):=SC;have nb:k<(BW t).length:=by omega
  have n10:=nb;have gb:(BW t)[k]?=some (BW t)[k]:=Ge nb;refine Xi ⟨[(6,.mref 12000),(8,.mref 12500),(13,.v (.func (.func 77) #[] #[])),(14,.slice (.id 14 3) (O.map DV)),(52,.msl 15200 (BW t).length),(53,vi (BW t).length),(54,vi k)],[(14,.tok 3 O.length),(12000,.rom CP (Jt l)),(12500,.rom CP (Jt m)),(15200,.arr 1 ((BW t).map DD))],Ab⟩ (Yi ⟨Z7,Z4,Fh,Tv⟩ ?_)
  refine Yi (by show(0:Int)≤k∧(k:Int)<((BW t).length:Nat);omega) ?_;refine Yi (show(BW t).length=((BW t).map DD).length by rw[Lm]) (Xi (DD ((BW t)[k])) (Yi (Dg gb) ?_));refine Xi ⟨[(6,.mref 12000),(8,.mref 12500),(13,.v (.func (.func 77) #[] #[])),(14,.slice (.id 14 3) (O.map DV)),(16,vs ((BW t)[k])),(52,.msl 15200 (BW t).length),(53,vi (BW t).length),(54,vi k)],[(14,.tok 3 O.length),(12000,.rom CP (Jt l)),(12500,.rom CP (Jt m)),(15200,.arr 1 ((BW t).map DD))],Ab⟩ (Yi ⟨Z8,Z4,Fh,Tv⟩ ?_)
  refine Xi .pure (Xi _ (Yi (ru l (BW t)[k] hl) ?_));refine Xi .pure (Xi _ (Yi (ru m (BW t)[k] hm) ?_));refine Yi (Nz rfl) ?_;refine Xi ⟨[(6,.mref 12000),(8,.mref 12500),(13,.v (.func (.func 77) #[] #[])),(14,.slice (.id 14 3) (O.map DV)),(17,.ref 17 0),(52,.msl 15200 (BW t).length),(53,vi (BW t).length),(54,vi k)],[(14,.tok 3 O.length),(17,.cells [vs ((BW t)[k]),vi (KD l (BW t)[k]),vi (KD m (BW t)[k])]),(12000,.rom CP (Jt l)),(12500,.rom CP (Jt m)),(15200,.arr 1 ((BW t).map DD))],Ab⟩ (Yi ⟨Z8,Z5,Fh,Tv⟩ ?_)
  refine Yi (fun Ny=>?_) (fun Ny=>?_)
  ·have Ny:((KD l (BW t)[k]):Int)≠((KD m (BW t)[k]):Int):=Ny;refine Xi ⟨[(6,.mref 12000),(8,.mref 12500),(13,.v (.func (.func 77) #[] #[])),(14,.slice (.id 14 3) (O.map DV)),(17,.ref 17 0),(52,.msl 15200 (BW t).length),(53,vi (BW t).length),(54,vi k)],[(14,.tok 3 O.length),(17,.cells [vs ((BW t)[k]),vi (KD l (BW t)[k]),vi (KD m (BW t)[k])]),(12000,.rom CP (Jt l)),(12500,.rom CP (Jt m)),(15200,.arr 1 ((BW t).map DD))],Ab⟩ (Yi ⟨Z8,Z5,Fh,Tv⟩ ?_)
   refine Yi (Nz rfl) ?_;refine Yi (bG rfl (by omega) (by decide)) ?_;refine Yi (Ii k (by omega)) ?_;have eO:=aI (l:=l) (m:=m) n10;have eM:J7 l m (BW t)[k]=some ⟨(BW t)[k],(KD l (BW t)[k]),(KD m (BW t)[k])⟩:=Ao Ny;rw[eM]at eO;refine Xi ⟨(k+1,(O++[(⟨(BW t)[k],(KD l (BW t)[k]),(KD m (BW t)[k])⟩:Mv)])),n10,by show(O++[(⟨(BW t)[k],(KD l (BW t)[k]),(KD m (BW t)[k])⟩:Mv)])=_;rw[eO,k2];rfl⟩ ?_;exact⟨by show(BW t).length-(k+1)<(BW t).length-k;omega,⟨Zr,Zr,Zr,⟨(show AV.slice (.id 14 3) (O.map DV++[[vs (BW t)[k],vi (KD l (BW t)[k]),vi (KD m (BW t)[k])]])=.slice (.id 14 3) ((O++[(⟨(BW t)[k],(KD l (BW t)[k]),(KD m (BW t)[k])⟩:Mv)]).map DV) by rw[Ay];rfl),rfl⟩,Zr,Zr,Zr,Tv⟩,⟨⟨hkA,rfl⟩,Zr,Zr,Zr,Tv⟩,Fh,Tv⟩
  have Ny:((KD l (BW t)[k]):Int)=((KD m (BW t)[k]):Int):=A4 Ny;refine Yi (Ii k (by omega)) ?_;have eO:=aI (l:=l) (m:=m) n10;have eM:J7 l m (BW t)[k]=none:=Ah (fun c=>c Ny);rw[eM]at eO;rw[show(none:Option Mv).toList=[]from rfl,BP]at eO;refine Xi ⟨(k+1,O),n10,by show O=_;rw[eO,k2]⟩ ?_;exact⟨by show(BW t).length-(k+1)<(BW t).length-k;omega,Z7,Z4,Fh,Tv⟩
 have SC:¬((k:Int)<((BW t).length:Int)):=SC;refine Xi ⟨[(14,.slice (.id 14 3) (O.map DV))],[(14,.tok 3 O.length)],Ab⟩ (Yi ⟨Z1,Z1,Fh,Tv⟩ ?_)
 have ek:(BW t).take k=BW t:=AE (by omega);have eO:O=HF l m (BW t):=by rw[k2,ek]
 exact .of_eq (Ac (fun z=>AV.tup [sl DV z,vi 0]) eO)
end Go.Eng
namespace Go.Proofs
open Go.Shelf Go.RowKit Go.Lib Go.Sort
abbrev OneC:Type:={v:Value // v.oneCell'=true}
def SlA:Type:=ByteArray×OneC×OneC×OneC
instance:Inhabited SlA:=⟨⟨ByteArray.empty,⟨.bool false,rfl⟩,⟨.bool false,rfl⟩,⟨.bool false,rfl⟩⟩⟩
def encSlA(x:SlA):List Value:=[.string x.1,x.2.1.1,x.2.2.1.1,x.2.2.2.1]
def cfSlA(x y:SlA):Int:=Lib.compareBytes x.1.data.toList y.1.data.toList
abbrev CmpSlA(k:Nat):Prop:=∀(x y:SlA) (W:World),Calls Tryz.prog k #[.agg #[.string x.1,x.2.1.1,x.2.2.1.1,x.2.2.2.1],.agg #[.string y.1,y.2.1.1,y.2.2.1.1,y.2.2.2.1]] W fun e w'=>e=.returned (.int .i64 (cfSlA x y))∧∃q os',w'=grow (W.drewN q) os'
theorem Tryz.closure68:CmpSlA 68:=fun x y W=>by
 have hcon:=fun W'=>Any.strings_Compare Tryz.layCompare x.1 y.1 W';obtain⟨a,⟨b,hb⟩,⟨c,hc⟩,⟨d,hd⟩⟩:=x;obtain⟨a',⟨b',nw⟩,⟨c',o6⟩,⟨d',kb⟩⟩:=y;dsimp only at hcon
 change ∀W',Calls Tryz.prog 69 _ _ _ at hcon
 unfold cfSlA;dsimp only;generalize Lib.compareBytes a.data.toList a'.data.toList=r at hcon⊢
 go_enter Tryz.func68,Tryz.ntmps68
 go_wp2_with (go_at_call 69;refine(hcon _).mono ?_;rintro e w' ⟨rfl,rfl⟩)
 go_ret
 exact⟨rfl,0,_,by rw[alloc_eq_grow,alloc_eq_grow,grow_grow];rfl⟩
end Go.Proofs
namespace Go.Eng
open Go.Proofs Go.Shelf Go.RowKit Go.Lib Go.Sort
theorem aE(x y:SlA):ltOf cfSlA x y=Er x.1 y.1:=Td _ _
theorem iE:SWO (ltOf cfSlA) where
 irrefl x:=by rw[aE];exact CT _
 trans x y z h1 h2:=by rw[aE]at *;exact DR h1 h2
 ntrans x y z h1 h2:=by
  rw[aE]at *
  rw[AM];intro h;cases pm:Er y.1 x.1 with
  |true=>have:=DR pm h;rw[h2]at this;cases this
  |false =>
   have e:=Ht h1 pm;rw[e]at h;rw[h2]at h;cases h
theorem s92(k:Nat)(hc:CmpSlA k)(eg:∀args w,(callFunc k args).run Tryz.prog w=.ok (.enter k args) w)(l:List Sl)(hl:CM l)(lim:Nat)(XK:lim<100) :
  A3 Tryz.prog 97 [.msl 1000 l.length,vi 0,vi l.length,vi lim,.v (Uc k)] (Ai [(1000,.arr 4 (l.map Ae))] Ab) fun r h' =>
   r=.tup []∧∃l' : List Sl,l'.Perm l∧l'.Pairwise (fun x y=>Er y.path x.path=false)∧h'=Ai [(1000,.arr 4 (l'.map Ae))] Ab:=by
 have hl:l.length≤1073741824:=hl;have hE:F1 Tryz.prog 97:=dJ 97 Tryz.func97 (by kernel_rfl) rfl;have Hd:=Jd (P:=Tryz.prog) (f:=97) (α:=SlA) (rest:=[.int .i64 0,.int .i64 l.length,.int .i64 lim,Uc k]) hE Ae encSlA (k:=4) (fun _=>rfl) (fun _=>rfl) (ltOf cfSlA) (fun x a=>a.1=x.path) l (by omega) ?_ ?_ ?_
 ·refine⟨hE,fun g w vals q1 q2 q3=>(Hd.2 g w vals q1 q2 q3).mono fun _ _ ⟨v,r,h',g',e1,⟨e2,l',p1,⟨al,a1,a2,a3⟩,p2⟩,rest⟩=>⟨v,r,h',g',e1,⟨e2,l',p1,?_,p2⟩,rest⟩⟩;rw[AS]at a3⊢;intro i j hi hj Pn
  have:=a3 i j (by omega) (by omega) Pn
  rw[aE]at this;have e1:=a2 i _ _ (Ge hi) (Ge (by omega));have e2:=a2 j _ _ (Ge hj) (Ge (by omega));rw[←e1,←e2];exact this
 ·intro x hx g w vs hr
  match vs,hr with
  | [a,b,c,d],hr =>
   have h1:=(hr.2.2 0 (Go.Eng.vs x.path) a rfl rfl).v_eq;subst h1;exact⟨⟨x.path,⟨b,hr.2.1 b (by simp)⟩,⟨c,hr.2.1 c (by simp)⟩,⟨d,hr.2.1 d (by simp)⟩⟩,rfl,rfl⟩
  | [],hr=>have:=hr.1;simp at this
  | [_],hr=>have:=hr.1;simp at this
  | [_,_],hr=>have:=hr.1;simp at this
  | [_,_,_],hr=>have:=hr.1;simp at this
  |_::_::_::_::_::_,hr=>have:=hr.1;simp at this
 ·intro w b cap d hH hb Ew hdl;have fL:CmpLays Tryz.prog k #[] encSlA 4 cfSlA b 0 d.size w:=fun _ _ _ _ x y=>hc x y _;have hp:=AnyQ.pdqsortCmpFunc_all Tryz.layPdqSel 4 Tryz.isAgg29 Tryz.sizeOf29 encSlA cfSlA k #[] iE b 0 cap d w eg fL ⟨fun _=>rfl,fun x v hv=>by
    simp only[encSlA,Au,Lw,or_false]at hv;rcases hv with rfl | rfl | rfl | rfl
    ·rfl
    ·exact x.2.1.2
    ·exact x.2.2.1.2
    ·exact x.2.2.2.2,hH,hb⟩ (d.size+1) 0 d.size lim d w (by omega) rfl (SWK.start hH) (AJ _) (Al _) Ew (by omega) (Or.inl rfl)
  rw[hdl]at hp⊢;refine hp.mono ?_
  rintro e w' ⟨rfl,n,os,rfl⟩
  have h:=pdq_sorts (ltOf cfSlA) iE d 0 d.size lim true true (AJ _) (Al _) (Or.inl rfl);rw[hdl]at h;exact⟨rfl,_,n,os,h.1,h.2,rfl⟩
 ·intro e w;subst e;exact AnyF.pdqsortCmpFunc_none Tryz.layPdqSel none 0 lim (Uc k) w
theorem Ur{l l' : List Sl}(h1:VC l)(h2:VC l')(hm:∀y,y∈l↔y∈l'):l=l':=by
 induction l generalizing l' with
 |nil =>
  cases l' with
  |nil=>rfl
  |cons y l'=>have:=(hm y).2 (Aa ..);cases this
 |cons x l ih =>
  cases l' with
  |nil=>have:=(hm x).1 (Aa ..);cases this
  |cons y l' =>
   obtain⟨a1,a2⟩:=BC.1 h1;obtain⟨b1,b2⟩:=BC.1 h2;have e:x=y:=by
    rcases Au.1 ((hm x).1 (Aa ..))with e | e
    ·exact e
    ·rcases Au.1 ((hm y).2 (Aa ..))with e2 | e2
     ·exact e2.symm
     ·have c1:=b1 x e;have c2:=a1 y e2
      have:=DR c1 c2
      rw[CT]at this;cases this
   subst e
   congr 1
   refine ih a2 b2 fun z=>⟨fun hz=>?_,fun hz=>?_⟩
   ·rcases Au.1 ((hm z).1 (Ag _ hz))with e | e
    ·subst e
     have:=a1 z hz
     rw[CT]at this;cases this
    ·exact e
   ·rcases Au.1 ((hm z).2 (Ag _ hz))with e | e
    ·subst e
     have:=b1 z hz
     rw[CT]at this;cases this
    ·exact e
theorem iB{l l' : List Sl}(hn:(l.map (·.path)).Nodup)(hp:l'.Perm l)(hs:l'.Pairwise fun x y=>Er y.path x.path=false):l'=FJ l:=by
 refine Ur ?_ (Qe hn) fun y=>by rw[hp.mem_iff,GA]
 have XM : (l'.map (·.path)).Nodup:=(hp.map (·.path)).nodup_iff.2 hn;show l'.Pairwise _;rw[AS]at hs⊢;intro i j hi hj Pn;cases hb:Er l'[i].path l'[j].path with
 |true=>rfl
 |false =>
  have e:=Ht hb (hs i j hi hj Pn)
  have:=(AS.1 XM) i j (by simpa using hi) (by simpa using hj) Pn
  simp at this;exact absurd e this
theorem s47(k:Nat)(hc:CmpSlA k)(eg:∀args w,(callFunc k args).run Tryz.prog w=.ok (.enter k args) w)(l:List Sl)(hl:CM l)(hn:(l.map (·.path)).Nodup) :
  A3 Tryz.prog 67 [.msl 1000 l.length,.v (Uc k)] (Ai [(1000,.arr 4 (l.map Ae))] Ab) fun r h' =>
   r=.tup []∧h'=Ai [(1000,.arr 4 ((FJ l).map Ae))] Ab:=by
 obtain⟨lim,XK,hb⟩:=mR l.length hl;refine BS (KV Gn) [(1000,1000)] rfl Ck hm rfl Tryz.func67 (by kernel_rfl) rfl (Nz rfl) (by kernel_rfl) rfl ?_;refine Xi .pure (Xi _ (Yi (hb) ?_));refine Xi (.gen [(1000,1000)] 0) (Yi rfl ((s92 k hc eg l hl lim XK).imp ?_));intro r h' hq;refine CF hq.2 (fun l' PG=>?_);have e:=iB hn PG.1 PG.2.1;refine Xi (.tup []) (Yi ?_ (Yi rfl ?_))
 ·exact .refl _
 ·rw[PG.2.2,e];rfl
end Go.Eng
namespace Go.Eng
open Go.Proofs
abbrev AA(c:Cd):List AV:=vi c.place::Aj c.rel
abbrev A9(n:Nd):List AV:=[vs n.rq.path,sl Aq n.rq.set,vs n.path,vi n.place,vi n.number]
abbrev AR(l:List Sk):List AV:=[sl BL l]
abbrev BJ(i:Nat):List AV:=[vi (i:Nat)]
def DS:EE:=⟨true,[.int .i64,.str,.int .i64,.int .i64,.int .i64,.int .i64]⟩
def Jp(i:Nf):Value:=.agg [.int .i64 i.kind,.string i.path,.int .i64 i.place,.int .i64 i.number,.int .i64 i.left,.int .i64 i.right].toArray
def DW:Nat→List Nf→List (Value×AV)
 |_,[]=>[]
 |k,i::l=>(Jp i,vi (k:Nat))::DW (k+1) l
abbrev th(roots:List Rq)(C A:List (Value×AV))(s:SS)(dec:List Cd)(n:Nat):List AV :=
 [sl AK roots,.cmap CP C,.cmap CP A,.slice (.id 1001 6) (s.infs.map BU),.slice (.id 1002 1) (s.drv.map B5),.mref 1003,vb s.full,sl AA dec,sl Ae (AI dec),.msl 1004 n]
abbrev srM(roots:List Rq)(C A:List (Value×AV))(s:SS)(dec:List Cd)(k n:Nat):List AV :=
 [sl AK roots,.cmap CP C,.cmap CP A,.slice (.id 1001 6) (s.infs.map BU),.slice (.id 1002 1) (s.drv.map B5),.mref 1003,vb s.full,sl AA dec,sl Ae (AI dec),.msl k n]
abbrev I4(roots:List Rq)(C A:List (Value×AV))(s:SS)(dec:List Cd)(st:List (List Sk)):List (Nat×HO) :=
 [(1000,.cells (th roots C A s dec st.length)),(1001,.tok 6 s.infs.length),(1002,.tok 1 s.drv.length),(1003,.map DS (DW 0 s.infs)),(1004,.arr 1 (st.map AR))]
theorem wZ{fF:Nat}{caps:List AV}(hs:E2 caps)(l:List (Cd))(p:Cd→Bool)(hF:∀x∈l,PC fF ([.agg (AA x)]++caps) (vb (p x)))(hl:l.length<9223372036854775807) :
  PC 206 [sl AA l,.clo fF caps] (vi (Ke p l 0)):=by
 refine Ps Gn Tryz.func206 rfl (Nz rfl) ?_;refine Xi {i:Nat // i≤l.length∧∀j (hj:j<l.length),j<i→p l[j]=false} (Xi (fun i=>⟨[(0,sl AA l),(1,.clo fF caps),(7,vi (l.map AA).length),(8,vi i.1)],[],Ab⟩) (Xi (fun i=>l.length-i.1) (Yi (Xi ⟨0,by simp⟩ ?_) ?_)))
 ·exact⟨⟨Zr,⟨rfl,hs.ids _⟩,Zr,Zr,Tv⟩,Tv,Fh,Tv⟩
 ·intro⟨i,h1,h2⟩;refine Yi ?_ ?_
  ·intro h;have h:(i:Int)<(l.map AA).length:=h;have h:i<l.length:=by simpa using h
   have hg:l[i]?=some l[i]:=Ge h;refine Xi (AA l[i]) (Yi (Yi (Nn i) (by simp[hg])) (Yi rfl (Yi (Nz rfl) ?_)));have D1:∀h,PC fF ([.agg (AA l[i])]++caps.map (str0 h)) (vb (p l[i])):=fun h=>by rw[hs.map];exact hF l[i] (AC _)
   cases hp:p l[i]with
   |true =>
    rw[hp]at D1;refine Xi .pure (Xi (vb true) (Yi (D1 _) ?_));rw[ND h (fun j hj LZ=>h2 j hj LZ) hp,IC];exact .refl _
   |false =>
    rw[hp]at D1;refine Xi .pure (Xi (vb false) (Yi (D1 _) ?_));refine Yi (Ii i (by omega)) ?_;refine Xi ⟨i+1,by omega,fun j hj LZ=>?_⟩ ?_
    ·by_cases e:j=i
     ·subst e;exact hp
     ·exact h2 j hj (by omega)
    ·exact⟨Dl l.length i (by omega),⟨Zr,⟨rfl,hs.ids _⟩,Zr,Zr,Tv⟩,Tv,Fh,Tv⟩
  ·intro h;have h:¬(i:Int)<(l.map AA).length:=h;have h:¬i<l.length:=by simpa using h
   rw[Jm fun j hj=>h2 j hj (by omega)];exact .refl _
theorem s86{fF:Nat}{caps:List AV}(hs:E2 caps)(l:List (Nd))(p:Nd→Bool)(hF:∀x∈l,PC fF ([.agg (A9 x)]++caps) (vb (p x)))(hl:l.length<9223372036854775807) :
  PC 88 [sl A9 l,.clo fF caps] (vi (Ke p l 0)):=by
 refine Ps Gn Tryz.func88 rfl (Nz rfl) ?_;refine Xi {i:Nat // i≤l.length∧∀j (hj:j<l.length),j<i→p l[j]=false} (Xi (fun i=>⟨[(0,sl A9 l),(1,.clo fF caps),(7,vi (l.map A9).length),(8,vi i.1)],[],Ab⟩) (Xi (fun i=>l.length-i.1) (Yi (Xi ⟨0,by simp⟩ ?_) ?_)))
 ·exact⟨⟨Zr,⟨rfl,hs.ids _⟩,Zr,Zr,Tv⟩,Tv,Fh,Tv⟩
 ·intro⟨i,h1,h2⟩;refine Yi ?_ ?_
  ·intro h;have h:(i:Int)<(l.map A9).length:=h;have h:i<l.length:=by simpa using h
   have hg:l[i]?=some l[i]:=Ge h;refine Xi (A9 l[i]) (Yi (Yi (Nn i) (by simp[hg])) (Yi rfl (Yi (Nz rfl) ?_)));have D1:∀h,PC fF ([.agg (A9 l[i])]++caps.map (str0 h)) (vb (p l[i])):=fun h=>by rw[hs.map];exact hF l[i] (AC _)
   cases hp:p l[i]with
   |true =>
    rw[hp]at D1;refine Xi .pure (Xi (vb true) (Yi (D1 _) ?_));rw[ND h (fun j hj LZ=>h2 j hj LZ) hp,IC];exact .refl _
   |false =>
    rw[hp]at D1;refine Xi .pure (Xi (vb false) (Yi (D1 _) ?_));refine Yi (Ii i (by omega)) ?_;refine Xi ⟨i+1,by omega,fun j hj LZ=>?_⟩ ?_
    ·by_cases e:j=i
     ·subst e;exact hp
     ·exact h2 j hj (by omega)
    ·exact⟨Dl l.length i (by omega),⟨Zr,⟨rfl,hs.ids _⟩,Zr,Zr,Tv⟩,Tv,Fh,Tv⟩
  ·intro h;have h:¬(i:Int)<(l.map A9).length:=h;have h:¬i<l.length:=by simpa using h
   rw[Jm fun j hj=>h2 j hj (by omega)];exact .refl _
theorem rS{fF:Nat}{caps:List AV}(hs:E2 caps)(l:List (Cd))(p:Cd→Bool)(hF:∀x∈l,PC fF ([.agg (AA x)]++caps) (vb (p x)))(hl:CM l) :
  PC 171 [sl AA l,.clo fF caps] (vb (l.any p)):=by
 refine Ps Gn Tryz.func171 rfl (Nz rfl) ?_;have hi:=wZ hs l p hF (by unfold CM at hl;omega);have D1:∀h,PC 206 [sl AA l,.clo fF (caps.map (str0 h))] (vi (Ke p l 0)):=fun h=>by rw[hs.map];exact hi
 refine Xi .pure (Xi _ (Yi (D1 _) ?_));have ha:=Mw (p:=p) l 0 (BM 0);refine Yi ?_ ?_
 ·intro h;have h:(0:Int)≤Ke p l 0:=h;rw[←ha,Ax h];exact .refl _
 ·intro h;have h:¬(0:Int)≤Ke p l 0:=h;rw[←ha,Az h];exact .refl _
theorem rU(l:List Cd)(hl:CM l):A3 Tryz.prog 94 [sl AA l] (Ai [] Ab) fun r h'=>r=.slice (.id 2000 10) (l.map AA)∧h'=Ai [(2000,.tok 10 (l.map AA).length)] Ab:=by
 refine BS (KV (wh 10)) [(2,2000)] rfl Ck hm rfl Tryz.func94 (by kernel_rfl) rfl (Nz rfl) (by kernel_rfl) rfl ?_;have Hl:Df 10 (l.map AA)∧([]:List (List AV)).length=0∧(([]:List (List AV)).length+(l.map AA).length)*128≤140737488355328∧([]:List (List AV)).length+(l.map AA).length≤9223372036854775807:=by
  refine⟨Fj (enc:=AA) (n:=10) (fun _=>rfl) l,rfl,?_,?_⟩<;>simp only[AF,Lm]<;>unfold CM at hl<;>omega
 have e2:HO.tok 10 (([]:List (List AV)).length+(l.map AA).length)=.tok 10 (l.map AA).length:=by rw[AF,Bg]
 have e3:AV.slice (.id 2000 10) ([]++l.map AA)=.slice (.id 2000 10) (l.map AA):=rfl;have full:∀st:St,(∃s:LS,St.le (KV (wh 10)) st s∧True)→True:=fun _ _=>trivial;refine Xi 0 ?_;refine Xi 0 ?_;refine Yi ?_ ?_
 ·intro _;refine Xi ⟨[(0,sl AA l)],[],Ab⟩ (Yi ⟨Z1,Tv,Fh,Aw (by kernel_rfl)⟩ ?_)
  refine Xi 2 ?_;refine Yi Hl ?_;exact Xi _ (Yi (.refl _) (Yi e3 (Ac (fun o=>Ai [(2000,o)] Ab) e2)))
 ·intro h;have h:l.map AA=[]:=h;refine Yi ?_ ?_
  ·refine Xi ⟨[],[],Ab⟩ (Yi ⟨trivial,trivial,fun _=>.inl rfl,Aw (by kernel_rfl)⟩ ?_)
   refine Xi 0 ?_;exact Xi _ (Yi (.refl _) (Yi (show AV.slice (.id 2000 10) []=_ by rw[h]) (show Ai [(2000,HO.tok 10 0)] Ab=_ by rw[h];rfl)))
  ·refine Xi ⟨[(0,sl AA l)],[],Ab⟩ (Yi ⟨Z1,Tv,Fh,Aw (by kernel_rfl)⟩ ?_)
   refine Xi 2 ?_;refine Yi Hl ?_;exact Xi _ (Yi (.refl _) (Yi e3 (Ac (fun o=>Ai [(2000,o)] Ab) e2)))
theorem Rx:∀{l:List Nf} {k:Nat} {kx:Value} {a:AV},(kx,a)∈DW k l↔∃j i,l[j]?=some i∧kx=Jp i∧a=vi ((k+j:Nat):Int)
 | [],k,kx,a=>by simp[DW]
 |y::l,k,kx,a=>by
  unfold DW;rw[Au,Rx];constructor
  ·rintro(h | ⟨j,i,h1,h2,h3⟩)
   ·cases h;exact⟨0,y,rfl,rfl,rfl⟩
   ·exact⟨j+1,i,h1,h2,by rw[h3,show k+1+j=k+(j+1) by omega]⟩
  ·rintro⟨j,i,h1,h2,h3⟩
   cases j with
   |zero=>cases h1;exact .inl (by rw[h2,h3];rfl)
   |succ j=>exact .inr ⟨j,i,h1,h2,by rw[h3,show k+1+j=k+(j+1) by omega]⟩
theorem U6{a b:Nf}(h:Jp a=Jp b):a=b:=by
 obtain⟨a1,a2,a3,a4,a5,a6⟩:=a;obtain⟨b1,b2,b3,b4,b5,b6⟩:=b;unfold Jp at h;simp at h;obtain⟨rfl,rfl,rfl,rfl,rfl,rfl⟩:=h
 rfl
theorem rh{l:List Nf}{i:Nf}{k:Nat}(h:LD i 0 l=some k):(Jp i,vi (k:Nat))∈DW 0 l:=by
 obtain⟨j,e,hj⟩:=MK h;exact Rx.2 ⟨j,i,hj,rfl,by rw[e]⟩
theorem ku{l:List Nf}(hn:l.Nodup){i:Nf}{k:Nat}(h:LD i 0 l=some k):∀b,(Jp i,b)∈DW 0 l→b=vi (k:Nat):=fun b hb=>by
 obtain⟨j,e,hj⟩:=MK h;obtain⟨j',i',h1,h2,h3⟩:=Rx.1 hb
 have:=U6 h2
 subst this;obtain⟨a1,a2⟩:=Ap.1 hj;obtain⟨b1,b2⟩:=Ap.1 h1
 have:j'=j:=(List.getElem_inj hn).1 (b2.trans a2.symm)
 subst this;rw[h3,e]
theorem md{l:List Nf}{i:Nf}(h:LD i 0 l=none):∀a,(Jp i,a)∉DW 0 l:=fun a ha=>by
 obtain⟨j,i',h1,h2,_⟩:=Rx.1 ha
 have:=U6 h2
 subst this;exact PS h (Ar h1)
theorem az:∀(l:List Nf) (k:Nat) (i:Nf),DW k (l++[i])=DW k l++[(Jp i,vi ((k+l.length:Nat):Int))]
 | [],k,i=>by simp[DW]
 |y::l,k,i=>by
  show(Jp y,_)::DW (k+1) (l++[i])=_;rw[az l (k+1) i];simp[DW,show k+1+l.length=k+(l.length+1) by omega]
theorem n8{l:List Nf}{i:Nf}(h:LD i 0 l=none):ER (DW 0 l) (Jp i) (vi ((l.map BU).length:Int))=DW 0 (l++[i]):=by
 rw[L7 (md h),az,Lm,Bg]
theorem W0{s:SS}{i:Nf}{l:List Tm}{k:Nat}(h:LD i 0 s.infs=some k):DJ s i l=(k,s):=by unfold DJ;rw[h]
theorem Uy{s:SS}{i:Nf}{l:List Tm}(h:LD i 0 s.infs=none)(hf:65536≤s.infs.length):DJ s i l=(s.infs.length-1,⟨s.infs,s.drv,true⟩):=by unfold DJ;rw[h];exact Ao hf
theorem WY{s:SS}{i:Nf}{l:List Tm}(h:LD i 0 s.infs=none)(hf:¬65536≤s.infs.length):DJ s i l=(s.infs.length,⟨s.infs++[i],s.drv++[l],s.full⟩):=by unfold DJ;rw[h];exact Ah hf
section
variable {roots:List Rq}{C A:List (Value×AV)}{s s' : SS}{dec:List Cd}{st:List (List Sk)}{i:Nf}{l:List Tm}
theorem dX{k:Nat}{z:Int}(e:DJ s i l=(k,s'))(hz:z=k):vi z=vi ((DJ s i l).1:Nat)∧Ai (I4 roots C A s' dec st) Ab=Ai (I4 roots C A (DJ s i l).2 dec st) Ab:=by rw[e,hz];exact Zr
theorem py(h:LD i 0 s.infs=none):Ai [(1000,.cells [sl AK roots,.cmap CP C,.cmap CP A,.slice (.id 1001 6) (s.infs.map BU++[BU i]),.slice (.id 1002 1) (s.drv.map B5++[B5 l]),.mref 1003,vb s.full,sl AA dec,sl Ae (AI dec),.msl 1004 st.length]),
      (1001,.tok 6 ((s.infs.map BU).length+[BU i].length)),(1002,.tok 1 ((s.drv.map B5).length+[B5 l].length)),(1003,.map DS (ER (DW 0 s.infs) (Jp i) (vi ((s.infs.map BU).length:Int)))),(1004,.arr 1 (st.map AR))] Ab=Ai (I4 roots C A ⟨s.infs++[i],s.drv++[l],s.full⟩ dec st) Ab:=by
  have e1:s.infs.map BU++[BU i]=(s.infs++[i]).map BU:=by simp
  have e2:s.drv.map B5++[B5 l]=(s.drv++[l]).map B5:=by simp
  have e3:(s.infs.map BU).length+[BU i].length=(s.infs++[i]).length:=by simp
  have e4:(s.drv.map B5).length+[B5 l].length=(s.drv++[l]).length:=by simp
  rw[e1,e2,e3,e4,n8 h]
end
theorem rT(c:Cd)(p:ByteArray):PC 172 [.agg (AA c),.cptr [vs p]] (vb (decide (c.rel.path=p))):=by
 refine Ps ⟨[2],[],[],[],[],[],[],[],[],[],[]⟩ Tryz.func172 rfl (Nz rfl) ?_;refine Yi (fun h1=>?_) (fun h1=>?_)
 ·have h1:(c.rel.path:ByteArray)=p:=h1;exact .of_eq (show vb true=vb (decide (c.rel.path=p)) by rw[Ax h1])
 have h1:¬(c.rel.path:ByteArray)=p:=h1;exact .of_eq (show vb false=vb (decide (c.rel.path=p)) by rw[Az h1])
theorem rR(t:Tm)(p:ByteArray):PC 126 [.agg (AD t),.cptr [vs p]] (vb (decide (t.path=p))):=by
 refine Ps ⟨[2],[],[],[],[],[],[],[],[],[],[]⟩ Tryz.func126 rfl (Nz rfl) ?_;refine Yi (fun h1=>?_) (fun h1=>?_)
 ·have h1:(t.path:ByteArray)=p:=h1;exact .of_eq (show vb true=vb (decide (t.path=p)) by rw[Ax h1])
 have h1:¬(t.path:ByteArray)=p:=h1;exact .of_eq (show vb false=vb (decide (t.path=p)) by rw[Az h1])
theorem jl(l:List Tm)(p:ByteArray)(hl:CM l):PC 95 [sl AD l,vs p] (vb (CU l p)):=by
 refine Ps ⟨[3],[],[],[],[],[],[],[],[],[],[]⟩ Tryz.func95 rfl (Nz rfl) ?_;refine Dp (Bt (CU l p)) (fun h1=>?_) (fun h1=>?_)
 ·have h1:(CU l p)=true:=h1;refine Xi .pure (Xi _ (Yi (cb h1 (show PC 125 [sl AD l,.clo 126 [.cptr [vs p]]] (vb (CU l p))from mT (fF:=126) (caps:=[.cptr [vs p]]) (fun c hc=>by obtain rfl:=Am.1 hc;intro h;rfl) l (fun t=>decide (t.path=p)) (fun t _=>rR t p) hl)) ?_));exact .of_eq (show vb true=vb (CU l p) by rw[h1])
 have h1:(CU l p)=false:=h1;refine Xi .pure (Xi _ (Yi (cb h1 (show PC 125 [sl AD l,.clo 126 [.cptr [vs p]]] (vb (CU l p))from mT (fF:=126) (caps:=[.cptr [vs p]]) (fun c hc=>by obtain rfl:=Am.1 hc;intro h;rfl) l (fun t=>decide (t.path=p)) (fun t _=>rR t p) hl)) ?_));exact .of_eq (show vb false=vb (CU l p) by rw[h1])
theorem rQ(roots:List Rq)(C A:List (Value×AV))(s:SS)(dec:List Cd)(st:List (List Sk))(p:ByteArray)(hl:CM dec):A3 Tryz.prog 118 [.ref 1000 0,vs p] (Ai (I4 roots C A s dec st) Ab) fun r h'=>r=vb (CC dec p)∧h'=Ai (I4 roots C A s dec st) Ab:=by
 refine BS (KV ⟨[3],[],[],[],[],[],[],[],[],[],[]⟩) [(1000,1000),(1001,1001),(1002,1002),(1003,1003),(1004,1004)] rfl Ck hm rfl Tryz.func118 (by kernel_rfl) rfl (Nz rfl) (by kernel_rfl) rfl ?_;refine Dp (Bt (CC dec p)) (fun h1=>?_) (fun h1=>?_)
 ·have h1:(CC dec p)=true:=h1;refine Xi .pure (Xi _ (Yi (cb h1 (show PC 171 [sl AA dec,.clo 172 [.cptr [vs p]]] (vb (CC dec p))from rS (fF:=172) (caps:=[.cptr [vs p]]) (fun c hc=>by obtain rfl:=Am.1 hc;intro h;rfl) dec (fun c=>decide (c.rel.path=p)) (fun c _=>rT c p) hl)) ?_));exact Xi _ (Yi (.refl _) (Yi (show vb true=vb (CC dec p) by rw[h1]) rfl))
 have h1:(CC dec p)=false:=h1;refine Xi .pure (Xi _ (Yi (cb h1 (show PC 171 [sl AA dec,.clo 172 [.cptr [vs p]]] (vb (CC dec p))from rS (fF:=172) (caps:=[.cptr [vs p]]) (fun c hc=>by obtain rfl:=Am.1 hc;intro h;rfl) dec (fun c=>decide (c.rel.path=p)) (fun c _=>rT c p) hl)) ?_));exact Xi _ (Yi (.refl _) (Yi (show vb false=vb (CC dec p) by rw[h1]) rfl))
theorem lm(roots:List Rq)(C A:List (Value×AV))(s:SS)(dec:List Cd)(st:List (List Sk))(i:Nf)(l:List Tm)(k:Nat)(hk:LD i 0 s.infs=some k)(Rh:s.infs.Nodup):A3 Tryz.prog 121 [.ref 1000 0,.agg (BU i),sl AD l] (Ai (I4 roots C A s dec st) Ab) fun r h'=>r=vi ((DJ s i l).1:Nat)∧h'=Ai (I4 roots C A (DJ s i l).2 dec st) Ab:=by
 refine BS (KV ⟨[4],[],[],[],[],[],[],[],[],[],[2,5,7,8,9,10,11]⟩) [(1000,1000),(1001,1001),(1002,1002),(1003,1003),(1004,1004)] rfl Ck hm rfl Tryz.func121 (by kernel_rfl) rfl (Nz rfl) (by kernel_rfl) rfl ?_;refine Yi (Nz rfl) ?_;refine Or.inl (Xi (vi (k:Nat)) (Yi (Yi (rh hk) (ku Rh hk)) ?_));refine Yi (by kernel_rfl) ?_;refine Xi ⟨[(0,.ref 1000 0),(2,sl AD l),(4,.ref 4 0),(7,vi (k:Nat)),(8,vb true)],[(4,.ro (BU i)),(1000,.cells (srM roots C A s dec 1004 st.length)),(1001,.tok 6 s.infs.length),(1002,.tok 1 s.drv.length),(1003,.map DS (DW 0 s.infs)),(1004,.arr 1 (st.map AR))],Ab⟩ (Yi ⟨Z5,Z6,Fh,Aw (by kernel_rfl)⟩ ?_)
 exact Xi _ (Yi (.refl _) (dX (W0 hk) rfl))
theorem ll(roots:List Rq)(C A:List (Value×AV))(s:SS)(dec:List Cd)(st:List (List Sk))(i:Nf)(l:List Tm)(hk:LD i 0 s.infs=none)(hn:s.infs.length≤65536)(hdl:s.drv.length=s.infs.length):A3 Tryz.prog 121 [.ref 1000 0,.agg (BU i),sl AD l] (Ai (I4 roots C A s dec st) Ab) fun r h'=>r=vi ((DJ s i l).1:Nat)∧h'=Ai (I4 roots C A (DJ s i l).2 dec st) Ab:=by
 have hdn:s.drv.length≤65536:=by omega
 have yf:(s.infs.map BU).length=s.infs.length:=Lm _;refine BS (KV ⟨[4],[],[],[],[],[],[],[],[],[],[2,5,7,8,9,10,11]⟩) [(1000,1000),(1001,1001),(1002,1002),(1003,1003),(1004,1004)] rfl Ck hm rfl Tryz.func121 (by kernel_rfl) rfl (Nz rfl) (by kernel_rfl) rfl ?_;refine Yi (Nz rfl) ?_;refine Or.inr (Yi (md hk) ?_);refine Yi (by kernel_rfl) ?_;refine Xi ⟨[(0,.ref 1000 0),(2,sl AD l),(4,.ref 4 0),(7,vi 0),(8,vb false)],[(4,.ro (BU i)),(1000,.cells (srM roots C A s dec 1004 st.length)),(1001,.tok 6 s.infs.length),(1002,.tok 1 s.drv.length),(1003,.map DS (DW 0 s.infs)),(1004,.arr 1 (st.map AR))],Ab⟩ (Yi ⟨Z5,Z6,Fh,Aw (by kernel_rfl)⟩ ?_)
 refine Yi (fun h1=>?_) (fun h1=>?_)
 ·have h1:(65536:Int)≤((s.infs.map BU).length:Int):=h1;refine Xi ⟨[(0,.ref 1000 0)],[(1000,.cells (srM roots C A s dec 1004 st.length)),(1001,.tok 6 s.infs.length),(1002,.tok 1 s.drv.length),(1003,.map DS (DW 0 s.infs)),(1004,.arr 1 (st.map AR))],Ab⟩ (Yi ⟨Z1,Z5,Fh,Aw (by kernel_rfl)⟩ ?_)
  refine Yi (Nz rfl) ?_;refine Yi (by show BR (((s.infs.map BU).length:Int)-(1:Int));unfold BR;omega) ?_;exact Xi _ (Yi (.refl _) (dX (Uy hk (by have q:=h1;rw[Lm]at q;omega)) (by have q:=h1;rw[Lm]at q⊢;omega)))
 have h1:¬((65536:Int)≤((s.infs.map BU).length:Int)):=h1;refine Xi ⟨[(0,.ref 1000 0),(2,sl AD l),(4,.ref 4 0)],[(4,.ro (BU i)),(1000,.cells (srM roots C A s dec 1004 st.length)),(1001,.tok 6 s.infs.length),(1002,.tok 1 s.drv.length),(1003,.map DS (DW 0 s.infs)),(1004,.arr 1 (st.map AR))],Ab⟩ (Yi ⟨Z3,Z6,Fh,Aw (by kernel_rfl)⟩ ?_)
 refine Xi ⟨[(0,.ref 1000 0),(2,sl AD l),(4,.ref 4 0),(9,vi (s.infs.map BU).length)],[(4,.ro (BU i)),(1000,.cells (srM roots C A s dec 1004 st.length)),(1001,.tok 6 s.infs.length),(1002,.tok 1 s.drv.length),(1003,.map DS (DW 0 s.infs)),(1004,.arr 1 (st.map AR))],Ab⟩ (Yi ⟨Z4,Z6,Fh,Aw (by kernel_rfl)⟩ ?_)
 refine Yi (Nz rfl) ?_;refine Yi (by kernel_rfl) ?_;refine Xi ⟨[(0,.ref 1000 0),(2,sl AD l),(4,.ref 4 0),(9,vi (s.infs.map BU).length)],[(4,.ro (BU i)),(1000,.cells (srM roots C A s dec 1004 st.length)),(1001,.tok 6 s.infs.length),(1002,.tok 1 s.drv.length),(1003,.map DS (ER (DW 0 s.infs) (Jp i) (vi (s.infs.map BU).length))),(1004,.arr 1 (st.map AR))],Ab⟩ (Yi ⟨Z4,Z6,Fh,Aw (by kernel_rfl)⟩ ?_)
 refine Yi (Nz rfl) ?_;refine Yi (bG rfl (by omega) (by decide)) ?_;refine Yi (Nz rfl) ?_;refine Yi (by kernel_rfl) ?_;refine Xi ⟨[(0,.ref 1000 0),(2,sl AD l),(9,vi (s.infs.map BU).length)],[(1000,.cells [sl AK roots,.cmap CP C,.cmap CP A,.slice (.id 1001 6) ((s.infs.map BU)++[(BU i)]),.slice (.id 1002 1) (s.drv.map B5),.mref 1003,vb s.full,sl AA dec,sl Ae (AI dec),.msl 1004 st.length]),(1001,.tok 6 ((s.infs.map BU).length+([(BU i)]:List (List AV)).length)),(1002,.tok 1 s.drv.length),(1003,.map DS (ER (DW 0 s.infs) (Jp i) (vi (s.infs.map BU).length))),(1004,.arr 1 (st.map AR))],Ab⟩ (Yi ⟨Z3,Z5,Fh,Aw (by kernel_rfl)⟩ ?_)
 refine Yi (bG rfl (by omega) (by decide)) ?_;refine Yi (Nz rfl) ?_;refine Xi ⟨[(9,vi (s.infs.map BU).length)],[(1000,.cells [sl AK roots,.cmap CP C,.cmap CP A,.slice (.id 1001 6) ((s.infs.map BU)++[(BU i)]),.slice (.id 1002 1) ((s.drv.map B5)++[[sl AD l]]),.mref 1003,vb s.full,sl AA dec,sl Ae (AI dec),.msl 1004 st.length]),(1001,.tok 6 ((s.infs.map BU).length+([(BU i)]:List (List AV)).length)),(1002,.tok 1 ((s.drv.map B5).length+([[sl AD l]]:List (List AV)).length)),(1003,.map DS (ER (DW 0 s.infs) (Jp i) (vi (s.infs.map BU).length))),(1004,.arr 1 (st.map AR))],Ab⟩ (Yi ⟨Z1,Z5,Fh,Aw (by kernel_rfl)⟩ ?_)
 have hq:=dX (roots:=roots) (C:=C) (A:=A) (dec:=dec) (st:=st) (z:=((s.infs.map BU).length:Int)) (WY (l:=l) hk (by have q:=h1;rw[Lm]at q;omega)) (by rw[Lm]);exact Xi _ (Yi (.refl _) (Yi hq.1 ((py hk).trans hq.2)))
structure JD(x:List Rl)(roots:List Rq)(s:SS):Prop where
 der:Fq x roots s
 nodup:s.infs.Nodup
abbrev my(roots:List Rq)(C A:List (Value×AV))(dec:List Cd)(st:List (List Sk))(o:Nat×SS)(r:AV)(h' : Nat→HO):Prop:=r=vi (o.1:Nat)∧h'=Ai (I4 roots C A o.2 dec st) Ab
theorem lk(roots:List Rq)(C A:List (Value×AV))(s:SS)(dec:List Cd)(st:List (List Sk))(i:Nf)(l:List Tm)(hn:s.infs.length≤65536)(hdl:s.drv.length=s.infs.length)(Rh:s.infs.Nodup) :
  A3 Tryz.prog 121 [.ref 1000 0,.agg (BU i),sl AD l] (Ai (I4 roots C A s dec st) Ab) (my roots C A dec st (DJ s i l)):=by
 cases hk:LD i 0 s.infs with
 |some k=>exact lm roots C A s dec st i l k hk Rh
 |none=>exact ll roots C A s dec st i l hk hn hdl
abbrev YI:IV:=[(1000,1000),(1001,1001),(1002,1002),(1003,1003),(1004,1004)]
theorem p8{h2:Nat→HO}{cs:List AV}{o1 o2 o3 o4:HO}(e0:h2 1000=.cells cs)(e1:h2 1001=o1)(e2:h2 1002=o2)(e3:h2 1003=o3)(e4:h2 1004=o4) :
  Fz YI h2=Ai [(1000,.cells (cs.map (ren1 (Cf YI) h2))),(1001,o1.ren (Cf YI) h2),(1002,o2.ren (Cf YI) h2),(1003,o3.ren (Cf YI) h2),(1004,o4.ren (Cf YI) h2)] Ab:=by
 unfold Fz;simp only[Wz];rw[e0,e1,e2,e3,e4];rfl
theorem ct{s:SS}{n:Nd}(h:n.path=mt):DJ s ⟨0,mt,0,n.number,0,0⟩ (Jw n.rq)=Bf s n:=by unfold Bf MR HC;rw[Ao h,Ao h]
theorem gm{s:SS}{n:Nd}(h:¬n.path=mt):DJ s ⟨1,n.path,n.place,n.number,0,0⟩ (Ef n.path n.place n.rq)=Bf s n:=by unfold Bf MR HC;rw[Ah h,Ah h]
abbrev VV(d:List (List Tm))(S:List Sl):AV:=.tup [vi (((Ns d S).getD 0:Nat):Int),vb (Ns d S).isSome]
theorem Xm{S:List Sl}:∀{l:List (List Tm)} {b i:Nat} {t:List Tm},l[i]?=some t→Cr t S=true→(∀j u,j<i→l[j]?=some u→Cr u S=false)→Om S b l=some (b+i)
 | [],_,_,_,h,_,_=>by simp at h
 |u::l,b,0,t,h,he,_=>by cases h;unfold Om;rw[Ao he];rfl
 |u::l,b,i+1,t,h,he,hn=>by
  unfold Om;rw[Ah (by rw[hn 0 u (by omega) rfl];decide),Xm (i:=i) (by simpa using h) he (fun j v hj hv=>hn (j+1) v (by omega) (by simpa using hv))]
  congr 1;omega
theorem Xn{S:List Sl}:∀{l:List (List Tm)} {b:Nat},(∀t∈l,Cr t S=false)→Om S b l=none
 | [],_,_=>rfl
 |u::l,b,h=>by
  unfold Om;rw[Ah (by rw[h u (Aa ..)];decide)];exact Xn fun t ht=>h t (Ag _ ht)
theorem xc(roots:List Rq)(C A:List (Value×AV))(s:SS)(dec:List Cd)(st:List (List Sk))(n:Nd)(hn:s.infs.length≤65536)(hdl:s.drv.length=s.infs.length)(Rh:s.infs.Nodup)(hq:CM n.rq.set)(hp:BR (n.place+1)):A3 Tryz.prog 91 [.ref 1000 0,.agg (A9 n)] (Ai (I4 roots C A s dec st) Ab) fun r h'=>my roots C A dec st (Bf s n) r h':=by
 refine BS (KV ⟨[3],[],[],[],[],[],[],[],[(15,5),(31,5)],[],[2,3]⟩) [(1000,1000),(1001,1001),(1002,1002),(1003,1003),(1004,1004)] rfl Ck hm rfl Tryz.func91 (by kernel_rfl) rfl (Nz rfl) (by kernel_rfl) rfl ?_;refine Yi (fun h1=>?_) (fun h1=>?_)
 ·have h1:(n.path:ByteArray)=⟨#[]⟩:=h1;refine Xi ⟨[(0,.ref 1000 0),(3,.ref 3 0)],[(3,.ro (A9 n)),(1000,.cells (srM roots C A s dec 1004 st.length)),(1001,.tok 6 s.infs.length),(1002,.tok 1 s.drv.length),(1003,.map DS (DW 0 s.infs)),(1004,.arr 1 (st.map AR))],Ab⟩ (Yi ⟨Z2,Z6,Fh,Aw (by kernel_rfl)⟩ ?_)
  refine Yi (Nz rfl) ?_;refine Xi _ (Yi (tY n.rq hq) ?_);refine Xi YI (Xi [(1000,.cells (srM roots C A s dec 1004 st.length)),(1001,.tok 6 s.infs.length),(1002,.tok 1 s.drv.length),(1003,.map DS (DW 0 s.infs)),(1004,.arr 1 (st.map AR))] (Xi (I4 roots C A (DJ s ⟨0,mt,0,n.number,0,0⟩ (Jw n.rq)).2 dec st) (Xi [.ref 1000 0,.agg [vi 0,vs ⟨#[]⟩,vi 0,vi n.number,vi 0,vi 0],sl AD (Jw n.rq)] (Xi (vi (((DJ s ⟨0,mt,0,n.number,0,0⟩ (Jw n.rq)).1:Nat):Int):AV) (Yi (fun h2 hh=>Yi ((p8 (show h2 1000=.cells (srM roots C A s dec 1004 st.length)from hh 1000 (by decide)) (show h2 1001=.tok 6 s.infs.length from hh 1001 (by decide)) (show h2 1002=.tok 1 s.drv.length from hh 1002 (by decide)) (show h2 1003=.map DS (DW 0 s.infs)from hh 1003 (by decide)) (show h2 1004=.arr 1 (st.map AR)from hh 1004 (by decide))).trans rfl) rfl) (Yi (by kernel_rfl) (Yi (lk roots C A s dec st ⟨0,mt,0,n.number,0,0⟩ (Jw n.rq) hn hdl Rh) ?_)))))));refine Yi (by kernel_rfl) ?_;have ei:=ct (s:=s) h1;exact Xi _ (Yi (.refl _) (Yi (show vi (((DJ s ⟨0,mt,0,n.number,0,0⟩ (Jw n.rq)).1:Nat):Int)=vi (((Bf s n).1:Nat):Int) by rw[ei]) (show Ai (I4 roots C A (DJ s ⟨0,mt,0,n.number,0,0⟩ (Jw n.rq)).2 dec st) Ab=Ai (I4 roots C A (Bf s n).2 dec st) Ab by rw[ei])))
 have h1:¬(n.path:ByteArray)=⟨#[]⟩:=h1;refine Xi ⟨[(0,.ref 1000 0),(3,.ref 3 0)],[(3,.ro (A9 n)),(1000,.cells (srM roots C A s dec 1004 st.length)),(1001,.tok 6 s.infs.length),(1002,.tok 1 s.drv.length),(1003,.map DS (DW 0 s.infs)),(1004,.arr 1 (st.map AR))],Ab⟩ (Yi ⟨Z2,Z6,Fh,Aw (by kernel_rfl)⟩ ?_)
 refine Yi (Nz rfl) ?_;refine Xi _ (Yi (tZ n.path n.place n.rq hp hq) ?_);refine Xi YI (Xi [(1000,.cells (srM roots C A s dec 1004 st.length)),(1001,.tok 6 s.infs.length),(1002,.tok 1 s.drv.length),(1003,.map DS (DW 0 s.infs)),(1004,.arr 1 (st.map AR))] (Xi (I4 roots C A (DJ s ⟨1,n.path,n.place,n.number,0,0⟩ (Ef n.path n.place n.rq)).2 dec st) (Xi [.ref 1000 0,.agg [vi 1,vs n.path,vi n.place,vi n.number,vi 0,vi 0],sl AD (Ef n.path n.place n.rq)] (Xi (vi (((DJ s ⟨1,n.path,n.place,n.number,0,0⟩ (Ef n.path n.place n.rq)).1:Nat):Int):AV) (Yi (fun h2 hh=>Yi ((p8 (show h2 1000=.cells (srM roots C A s dec 1004 st.length)from hh 1000 (by decide)) (show h2 1001=.tok 6 s.infs.length from hh 1001 (by decide)) (show h2 1002=.tok 1 s.drv.length from hh 1002 (by decide)) (show h2 1003=.map DS (DW 0 s.infs)from hh 1003 (by decide)) (show h2 1004=.arr 1 (st.map AR)from hh 1004 (by decide))).trans rfl) rfl) (Yi (by kernel_rfl) (Yi (lk roots C A s dec st ⟨1,n.path,n.place,n.number,0,0⟩ (Ef n.path n.place n.rq) hn hdl Rh) ?_)))))));refine Yi (by kernel_rfl) ?_;have ei:=gm (s:=s) h1;exact Xi _ (Yi (.refl _) (Yi (show vi (((DJ s ⟨1,n.path,n.place,n.number,0,0⟩ (Ef n.path n.place n.rq)).1:Nat):Int)=vi (((Bf s n).1:Nat):Int) by rw[ei]) (show Ai (I4 roots C A (DJ s ⟨1,n.path,n.place,n.number,0,0⟩ (Ef n.path n.place n.rq)).2 dec st) Ab=Ai (I4 roots C A (Bf s n).2 dec st) Ab by rw[ei])))
theorem s89(roots:List Rq)(C A:List (Value×AV))(s:SS)(dec:List Cd)(st:List (List Sk))(S:List Sl)(hd:s.drv.length≤65536)(ht:∀t∈s.drv,dT t)(hS:CM S):A3 Tryz.prog 92 [.ref 1000 0,sl Ae S] (Ai (I4 roots C A s dec st) Ab) fun r h'=>r=VV s.drv S∧h'=Ai (I4 roots C A s dec st) Ab:=by
 refine BS (KV ⟨[],[],[],[],[],[],[],[],[],[],[4,6]⟩) [(1000,1000),(1001,1001),(1002,1002),(1003,1003),(1004,1004)] rfl Ck hm rfl Tryz.func92 (by kernel_rfl) rfl (Nz rfl) (by kernel_rfl) rfl ?_;refine Xi {i:Nat // i≤s.drv.length∧∀j u,j<i→s.drv[j]?=some u→Cr u S=false} (Xi (fun q=>⟨[(1,sl Ae S),(11,.slice (.id 1002 1) (s.drv.map B5)),(12,vi (s.drv.map B5).length),(13,vi q.1)],[(1000,.cells (srM roots C A s dec 1004 st.length)),(1001,.tok 6 s.infs.length),(1002,.tok 1 s.drv.length),(1003,.map DS (DW 0 s.infs)),(1004,.arr 1 (st.map AR))],Ab⟩) (Xi (fun q=>s.drv.length-q.1) (Yi (Xi ⟨0,AJ _,fun j u h=>absurd h (JA j)⟩ ?_) ?_)))
 ·exact⟨Z4,Z5,Fh,Aw (by kernel_rfl)⟩
 intro⟨i,i1,i2⟩;have i1:i≤s.drv.length:=i1;have i2:∀j u,j<i→s.drv[j]?=some u→Cr u S=false:=i2;refine Yi (fun h1=>?_) (fun h1=>?_)
 ·have h1:(i:Int)<((s.drv.map B5).length:Int):=h1;have n1:=LC h1;refine Xi (B5 s.drv[i]) (Yi (Uo n1) (Yi rfl ?_));refine Xi ⟨[(1,sl Ae S),(6,vi i),(7,sl AD s.drv[i]),(11,.slice (.id 1002 1) (s.drv.map B5)),(12,vi (s.drv.map B5).length),(13,vi i)],[(1000,.cells (srM roots C A s dec 1004 st.length)),(1001,.tok 6 s.infs.length),(1002,.tok 1 s.drv.length),(1003,.map DS (DW 0 s.infs)),(1004,.arr 1 (st.map AR))],Ab⟩ (Yi ⟨Z6,Z5,Fh,Aw (by kernel_rfl)⟩ ?_)
  refine Dp (Bt (Cr s.drv[i] S)) (fun h2=>?_) (fun h2=>?_)
  ·have h2:(Cr s.drv[i] S)=true:=h2;refine Xi .pure (Xi _ (Yi (cb h2 (xz s.drv[i] S (ht _ (AC _)) hS)) ?_));have eE:Ns s.drv S=some i:=by unfold Ns;rw[Xm (Ge n1) h2 i2,Bg]
   exact Xi _ (Yi (.refl _) (Yi (show AV.tup [vi (i:Int),vb true]=VV s.drv S by unfold VV;rw[eE];rfl) rfl))
  have h2:(Cr s.drv[i] S)=false:=h2;refine Xi .pure (Xi _ (Yi (cb h2 (xz s.drv[i] S (ht _ (AC _)) hS)) ?_));refine Xi ⟨[(1,sl Ae S),(11,.slice (.id 1002 1) (s.drv.map B5)),(12,vi (s.drv.map B5).length),(13,vi i)],[(1000,.cells (srM roots C A s dec 1004 st.length)),(1001,.tok 6 s.infs.length),(1002,.tok 1 s.drv.length),(1003,.map DS (DW 0 s.infs)),(1004,.arr 1 (st.map AR))],Ab⟩ (Yi ⟨Z4,Z5,Fh,Aw (by kernel_rfl)⟩ ?_)
  refine Yi (Ii i (by omega)) ?_;refine Xi ⟨i+1,by omega,fun j u hj hu=>by
    by_cases e:j=i
    ·subst e;rw[Ge n1]at hu;cases hu;exact h2
    ·exact i2 j u (by omega) hu⟩ ?_
  exact⟨Dl s.drv.length i (by omega),Z4,Z5,Fh,Aw (by kernel_rfl)⟩
 have h1:¬((i:Int)<((s.drv.map B5).length:Int)):=h1;have n1:=LB h1;have eE:Ns s.drv S=none:=Xn fun t ht=>by
  obtain⟨j,hj⟩:=B4.1 ht
  have:=(Ap.1 hj).1
  exact i2 j t (by have q:=h1;rw[Lm]at q;omega) hj
 exact Xi _ (Yi (.refl _) (Yi (show AV.tup [vi 0,vb false]=VV s.drv S by unfold VV;rw[eE];rfl) rfl))
end Go.Eng
