/- Lemmas for the claims of this seat, without a condition: part 28 (O16, O17, S15, S1, S2). -/
import Derived.Test.YtmcbkdbfaneofaaGreatDoorBA27
set_option maxHeartbeats 4000000
namespace Go.Eng
open Go.Proofs
structure Mv where
 path:ByteArray
 a:Int
 b:Int
abbrev E2(m:Mv):List AV:=[vs m.path,vi m.a,vi m.b]
abbrev plP(s:Sl):Value×AV:=(.string s.path,vi (place s.ver))
abbrev JQ(l:List Sl):List (Value×AV):=l.map plP
def Qe(l:List Sl)(p:ByteArray):Int:=match Ck l p with | some s=>place s.ver | none=>-1
def W3(l m:List Sl)(p:ByteArray):Option Mv:=if Qe l p≠Qe m p then some ⟨p,Qe l p,Qe m p⟩else none
abbrev MG(l m:List Sl)(ps:List ByteArray):List Mv:=ps.filterMap (W3 l m)
structure OO(l:List Sl):Prop where
 few:Ci l
 val:∀s∈l,Cy s.ver=true
 inc:l.Pairwise qA
theorem OO.step{l:List Sl}(h:OO l){i:Nat}(hi:i<l.length)(h0:0<i):EJ (l[i-1]'(by omega)).path l[i].path=true:=(Be.1 h.inc) (i-1) i (by omega) hi (by omega)
theorem ju{l:List Sl}(h:OO l){i:Nat}(hi:i<l.length):∀b,(Value.string l[i].path,b)∉JQ (l.take i):=fun b hb=>by
 obtain⟨s,hs,e⟩:=Ao.1 hb;obtain⟨j,hj,rfl⟩:=Ce.1 hs;rw[Il]at e;rw[AH]at hj;have q:=(Be.1 h.inc) j i (by omega) hi (by omega);have e2:l[j].path=l[i].path:=by injection e with e1;injection e1
 rw[qA,e2,Dk]at q;cases q
theorem pL{l:List Sl}(h:OO l){p:ByteArray}{a:AV}(ha:(Value.string p,a)∈JQ l):a=vi (Qe l p):=by
 obtain⟨s,hs,e⟩:=Ao.1 ha;have e1:s.path=p:=by injection e with e1;injection e1
 have e2:vi (place s.ver)=a:=by injection e
 rw[←e2];unfold Qe;rw[←e1,Ls (QD xT h.inc) hs]
theorem pM{l:List Sl}{p:ByteArray}(h:∀a,(Value.string p,a)∉JQ l):Qe l p=-1:=by
 unfold Qe;rw[show Ck l p=none from D2.2 fun s hs e=>h _ (Ao.2 ⟨s,hs,by rw[←BC e]⟩)]
theorem bC{l m:List Sl}{ps:List ByteArray}{k:Nat}(h:k<ps.length):MG l m (ps.take (k+1))=MG l m (ps.take k)++(W3 l m ps[k]).toList:=by
 unfold MG;rw[Jy h,List.filterMap_append]
 congr 1
theorem s5(l:List Sl)(hl:OO l):Bj Tryz.prog 101 [sl Ae l] (Ap [] Ab) fun r h'=>r=.tup [.mref 2000,vb true]∧h'=Ap [(2000,.map Dn (JQ l))] Ab:=by
 have hfl:l.length≤1073741824:=hl.few;refine Cq (M4 ⟨[],[],[],[],[],[],[],[],[],[],[6,7,8]⟩) [(9,2000)] rfl CX hm rfl Tryz.func101 (by kernel_rfl) rfl (Nz rfl) (by kernel_rfl) rfl ?_;refine Xi {q:Nat // q≤l.length} (Xi (fun q=>⟨[(0,sl Ae l),(4,.mref 9),(10,sl Ae l),(11,vi (l.map Ae).length),(12,vi q.1)],[(9,.map Dn (JQ (l.take q.1)))],Ab⟩) (Xi (fun q=>l.length-q.1) (Yi (Xi ⟨0,AF _⟩ ?_) ?_)))
 ·exact⟨Z5,Z1,Fh,Az (by kernel_rfl)⟩
 intro⟨i,i1⟩;have i1:i≤l.length:=i1;refine Yi (fun h1=>?_) (fun h1=>?_)
 ·have h1:(i:Int)<((l.map Ae).length:Int):=h1;have n1:=Iy h1;refine Xi (Ae l[i]) (Yi (J3 n1) (Yi rfl ?_));refine Yi (Nz rfl) ?_;refine Yi (Nz rfl) ?_;refine Yi (Nz rfl) ?_;refine Xi .pure (Xi _ (Yi (by have q:=tX l[i].ver;rw[Au (hl.val _ (Ak n1)),Au (hl.val _ (Ak n1))]at q;exact q) ?_));refine Xi ⟨[(0,sl Ae l),(4,.mref 9),(5,vi i),(6,.ref 6 0),(7,vi (place l[i].ver)),(8,vi 0),(10,sl Ae l),(11,vi (l.map Ae).length),(12,vi i)],[(6,.cells (Ae l[i])),(9,.map Dn (JQ (l.take i)))],Ab⟩ (Yi ⟨Z9,Z2,Fh,Az (by kernel_rfl)⟩ ?_)
  refine Yi (fun h=>absurd h (by decide)) (fun _=>?_);refine Yi (fun h2=>?_) (fun h2=>?_)
  ·have h2:(0:Int)<(i:Int):=h2;refine Yi (by show Bs ((i:Int)-(1:Int));unfold Bs;omega) ?_;have gV:0<i:=by omega
   refine Xi (Ae (l[i-1])) (Yi (Yi (show(0:Int)≤(i:Int)-1 by omega) (by rw[show((i:Int)-1).toNat=i-1 by omega];exact B3 (Ge (by omega)))) (Yi rfl ?_));refine Yi (fun h3=>?_) (fun h3=>?_)
   ·have h3:EJ (l[i-1]).path l[i].path=false:=(EX _ _).trans h3;exact absurd (hl.step n1 gV) (by rw[h3];decide)
   have h3:EJ (l[i-1]).path l[i].path=true:=(EX _ _).trans (by simpa using h3);refine Yi (by kernel_rfl) ?_;refine Xi ⟨[(0,sl Ae l),(4,.mref 9),(6,.ref 6 0),(7,vi (place l[i].ver)),(10,sl Ae l),(11,vi (l.map Ae).length),(12,vi i)],[(6,.cells (Ae l[i])),(9,.map Dn (JQ (l.take i)))],Ab⟩ (Yi ⟨Z7,Z2,Fh,Az (by kernel_rfl)⟩ ?_)
   refine Yi (Ii i (by omega)) ?_;refine Xi ⟨i+1,n1⟩ ?_;exact⟨Dl l.length i (by omega),Z5,⟨⟨(show HO.map Dn (E6 (JQ (l.take i)) (.string l[i].path) (vi (place l[i].ver)))=.map Dn (JQ (l.take (i+1))) by rw[KZ (ju hl n1),Jy n1];unfold JQ;rw[AG];rfl),rfl⟩,Tv⟩,Fh,Az (by kernel_rfl)⟩
  have h2:¬((0:Int)<(i:Int)):=h2;refine Yi (by kernel_rfl) ?_;refine Xi ⟨[(0,sl Ae l),(4,.mref 9),(6,.ref 6 0),(7,vi (place l[i].ver)),(10,sl Ae l),(11,vi (l.map Ae).length),(12,vi i)],[(6,.cells (Ae l[i])),(9,.map Dn (JQ (l.take i)))],Ab⟩ (Yi ⟨Z7,Z2,Fh,Az (by kernel_rfl)⟩ ?_)
  refine Yi (Ii i (by omega)) ?_;refine Xi ⟨i+1,n1⟩ ?_;exact⟨Dl l.length i (by omega),Z5,⟨⟨(show HO.map Dn (E6 (JQ (l.take i)) (.string l[i].path) (vi (place l[i].ver)))=.map Dn (JQ (l.take (i+1))) by rw[KZ (ju hl n1),Jy n1];unfold JQ;rw[AG];rfl),rfl⟩,Tv⟩,Fh,Az (by kernel_rfl)⟩
 have h1:¬((i:Int)<((l.map Ae).length:Int)):=h1;have n1:=Ix h1;have ei:l.take i=l:=AL (by have q:=h1;rw[Lm]at q;omega);exact Xi _ (Yi (.refl _) ⟨rfl,show Ap [(2000,HO.map Dn (JQ (l.take i)))] Ab=Ap [(2000,.map Dn (JQ l))] Ab by rw[ei]⟩)
theorem s7(l:List Sl)(p:ByteArray)(hl:OO l):PC 103 [.cmap Dn (JQ l),vs p] (vi (Qe l p)):=by
 refine Ps ⟨[],[],[],[],[],[],[],[],[],[],[4]⟩ Tryz.func103 rfl (Nz rfl) ?_;refine Yi (fun a ha=>?_) (fun Od=>?_)
 ·have ea:=pL hl ha;subst ea;exact .refl _
 refine Xi ⟨[],[],Ab⟩ (Yi ⟨Tv,Tv,Fh,Tv⟩ ?_)
 exact .of_eq (show vi (-1)=vi (Qe l p) by rw[pM Od])
theorem o75(l m:List Sl)(t:List ByteArray)(hl:OO l)(zN:OO m)(hfs:l.length+m.length≤1073741824)(DM:l++m≠[])(hp:t.Perm ((l++m).map (·.path)))(ht:(t.map aU).Pairwise fun a b=>a≤b):PC 75 [sl Ae l,sl Ae m] (.tup [sl E2 (MG l m (Cf t)),vi 0]):=by
 obtain⟨LM,oQ⟩:∃LM,LM=l++m:=⟨_,rfl⟩;have hm:=zN;rw[←oQ]at hp;have zo:LM.length=l.length+m.length:=by rw[oQ,Ad]
 have uh:l.length≤1073741824:=hl.few;have nf:m.length≤1073741824:=zN.few;refine Gj (fe ⟨[],[(14,3)],[(10,1)],[(34,[12000,12500])],[],[],[],[],[],[],[3,6,7,8,9,11,13,14,15,16,17,18,19,21]⟩) rfl CX Go.Eng.hm rfl Tryz.func75 (by kernel_rfl) rfl (Nz rfl) (by kernel_rfl) ?_;refine Xi (.gen [] 1) (Yi rfl (Bj.to2 (s5 l hl) ?_));refine Xi (.gen [] 1) (Yi rfl (Bj.to2 (s5 m hm) ?_));refine Xi ⟨[(0,sl Ae l),(1,sl Ae m),(6,.mref 12000),(7,vb true),(8,.mref 12500),(9,vb true)],[(12000,.map Dn (JQ l)),(12500,.map Dn (JQ m))],Ab⟩ (Yi ⟨Z6,Z2,Fh,Tv⟩ ?_)
 refine Xi ⟨[(0,sl Ae l),(1,sl Ae m),(6,.mref 12000),(8,.mref 12500),(10,.msl 10 0)],[(10,.arr 1 []),(12000,.map Dn (JQ l)),(12500,.map Dn (JQ m))],Ab⟩ (Yi ⟨Z5,Z3,Fh,Tv⟩ ?_)
 refine Xi (.gen [] 1) (Yi rfl (Bj.to2 (rk l hl.few) ?_));have b4:Da 4 (m.map Ae)∧(l.map Ae).length=(l.map Ae).length∧((l.map Ae).length+(m.map Ae).length)*40≤140737488355328∧(l.map Ae).length+(m.map Ae).length≤9223372036854775807:=⟨(EN (enc:=Ae) (n:=4) (fun _=>rfl) m),rfl,(by simp only[Lm];omega),(by simp only[Lm];omega)⟩;refine Yi b4 ?_;refine Xi {q:Nat×List ByteArray // q.1≤LM.length∧q.2=(LM.take q.1).map (·.path)} (Xi (fun q=>⟨[(6,.mref 12000),(8,.mref 12500),(10,.msl 10 q.1.2.length),(37,.slice (.id 13500 4) (LM.map Ae)),(38,vi (LM.length:Nat)),(39,vi q.1.1)],[(10,.arr 1 (q.1.2.map Dx)),(12000,.rom Dn (JQ l)),(12500,.rom Dn (JQ m)),(13500,.tok 4 LM.length)],Ab⟩) (Xi (fun q=>LM.length-q.1.1) (Yi (Xi ⟨(0,[]),AF _,rfl⟩ ?_) ?_)))
 ·exact⟨⟨Zr,Zr,Zr,⟨(show AV.slice (.id 13500 4) (l.map Ae++m.map Ae)=.slice (.id 13500 4) (LM.map Ae) by rw[oQ,AG]),rfl⟩,⟨(show vi ((l.map Ae++m.map Ae:List (List AV)).length:Int)=vi ((LM.length:Nat):Int) by rw[oQ,Ad,Ad,Lm,Lm]),rfl⟩,Zr,Tv⟩,⟨Zr,Zr,Zr,⟨(show HO.tok 4 ((l.map Ae).length+(m.map Ae).length)=.tok 4 LM.length by rw[oQ,Ad,Lm,Lm]),rfl⟩,Tv⟩,Fh,Tv⟩
 intro⟨⟨i,P⟩,i1,i2⟩;have i1:i≤LM.length:=i1;have i2:P=(LM.take i).map (·.path):=i2;have i3:P.length≤i:=by rw[i2,Lm,AH];omega
 refine Xi ⟨[(6,.mref 12000),(8,.mref 12500),(10,.msl 10 P.length),(37,.slice (.id 13500 4) (LM.map Ae)),(38,vi (LM.length:Nat)),(39,vi i)],[(10,.arr 1 (P.map Dx)),(12000,.rom Dn (JQ l)),(12500,.rom Dn (JQ m)),(13500,.tok 4 LM.length)],Ab⟩ (Yi ⟨Z6,Z4,Fh,Tv⟩ ?_)
 refine Yi (fun h5=>?_) (fun h5=>?_)
 ·have h5:(i:Int)<((LM.length:Nat):Int):=h5;have n5:i<LM.length:=by omega
  refine Xi ⟨[(6,.mref 12000),(8,.mref 12500),(10,.msl 10 P.length),(37,.slice (.id 13500 4) (LM.map Ae)),(38,vi (LM.length:Nat)),(39,vi i)],[(10,.arr 1 (P.map Dx)),(12000,.rom Dn (JQ l)),(12500,.rom Dn (JQ m)),(13500,.tok 4 LM.length)],Ab⟩ (Yi ⟨Z6,Z4,Fh,Tv⟩ ?_)
  refine Xi (Ae LM[i]) (Yi (J3 n5) (Yi rfl ?_));refine Yi (Nz rfl) ?_;refine Yi (Nz rfl) ?_;refine Xi ⟨[(6,.mref 12000),(8,.mref 12500),(10,.msl 10 P.length),(12,.ref 12 0),(37,.slice (.id 13500 4) (LM.map Ae)),(38,vi (LM.length:Nat)),(39,vi i)],[(10,.arr 1 (P.map Dx)),(12,.cells (Ae LM[i])),(12000,.rom Dn (JQ l)),(12500,.rom Dn (JQ m)),(13500,.tok 4 LM.length)],Ab⟩ (Yi ⟨Z7,Z5,Fh,Tv⟩ ?_)
  have b6:Da 1 [[vs LM[i].path]]∧(P.map Dx).length=P.length∧((P.map Dx).length+([[vs LM[i].path]]:List (List AV)).length)*16≤140737488355328∧(P.map Dx).length+([[vs LM[i].path]]:List (List AV)).length≤9223372036854775807:=⟨⟨rfl,trivial⟩,(by rw[Lm]),(by simp only[Lm,Av,AE];omega),(by simp only[Lm,Av,AE];omega)⟩;refine Yi b6 ?_;refine Yi (Ii i (by omega)) ?_;refine Xi ⟨(i+1,P++[LM[i].path]),n5,by show P++[LM[i].path]=_;rw[Jy n5,AG,i2];rfl⟩ ?_;exact⟨Dl LM.length i (by omega),⟨Zr,Zr,⟨(show AV.msl 10 ((P.map Dx).length+([[vs LM[i].path]]:List (List AV)).length)=.msl 10 (P++[LM[i].path]).length by rw[Ad,Lm];rfl),rfl⟩,Zr,Zr,Zr,Tv⟩,⟨⟨(show HO.arr 1 (P.map Dx++[[vs LM[i].path]])=.arr 1 ((P++[LM[i].path]).map Dx) by rw[AG];rfl),rfl⟩,Zr,Zr,Zr,Tv⟩,Fh,Tv⟩
 have h5:¬((i:Int)<((LM.length:Nat):Int)):=h5;have ua:P=LM.map (·.path):=by rw[i2,AL (by have q:=h5;omega)]
 have zp:Ci P:=by unfold Ci;rw[ua,Lm,oQ,Ad];exact hfs
 have zq:P≠[]:=fun e=>by rw[ua]at e;exact DM (by rw[←oQ];exact DD.1 e)
 have wt:t.length=P.length:=by rw[ua];exact hp.length_eq
 have pn:t.length≤1073741824:=by rw[wt];exact zp
 have xp:t≠[]:=fun e=>zq (AA (by rw[←wt,e];rfl));have hcl:(Cf t).length≤t.length:=by unfold Cf;rw[Lm];exact AT (Ru _) (by rw[Lm];exact Am _)
 refine Xi ⟨[(6,.mref 12000),(8,.mref 12500),(10,.msl 10 P.length)],[(10,.arr 1 (P.map Dx)),(12000,.rom Dn (JQ l)),(12500,.rom Dn (JQ m))],Ab⟩ (Yi ⟨Z3,Z3,Fh,Tv⟩ ?_)
 refine Xi (.gen [(10,1000)] 0) (Yi rfl (Bj.to2 (xE P t zp zq (by rw[ua];exact hp) ht) ?_));refine Xi ⟨[(6,.mref 12000),(8,.mref 12500),(10,.msl 10 P.length),(13,.v (.func (.func 103) #[] #[]))],[(10,.arr 1 (t.map Dx)),(12000,.rom Dn (JQ l)),(12500,.rom Dn (JQ m))],Ab⟩ (Yi ⟨Z4,Z3,Fh,Tv⟩ ?_)
 refine Xi ⟨[(6,.mref 12000),(8,.mref 12500),(10,.msl 10 t.length),(13,.v (.func (.func 103) #[] #[])),(14,.slice (.id 14 3) [])],[(10,.arr 1 (t.map Dx)),(14,.tok 3 0),(12000,.rom Dn (JQ l)),(12500,.rom Dn (JQ m))],Ab⟩ (Yi ⟨⟨Zr,Zr,⟨(Aa (AV.msl 10) wt.symm),rfl⟩,Zr,Zr,Tv⟩,Z4,Fh,Tv⟩ ?_)
 refine Xi (.gen [(10,1000)] 1) (Yi rfl (Bj.to2 (xF t (by unfold Ci;omega) xp) ?_));refine Xi {q:Nat×List Mv // q.1≤(Cf t).length∧q.2=MG l m ((Cf t).take q.1)} (Xi (fun q=>⟨[(6,.mref 12000),(8,.mref 12500),(13,.v (.func (.func 103) #[] #[])),(14,.slice (.id 14 3) (q.1.2.map E2)),(52,.msl 15200 (Cf t).length),(53,vi (Cf t).length),(54,vi q.1.1)],[(14,.tok 3 q.1.2.length),(12000,.rom Dn (JQ l)),(12500,.rom Dn (JQ m)),(15200,.arr 1 ((Cf t).map Dx))],Ab⟩) (Xi (fun q=>(Cf t).length-q.1.1) (Yi (Xi ⟨(0,[]),AF _,rfl⟩ ?_) ?_)))
 ·exact⟨Z7,Z4,Fh,Tv⟩
 intro⟨⟨k,O⟩,k1,k2⟩;have k1:k≤(Cf t).length:=k1;have k2:O=MG l m ((Cf t).take k):=k2;have k3:O.length≤k:=by rw[k2];exact AT (List.length_filterMap_le ..) (by rw[AH];omega)
 refine Xi ⟨[(6,.mref 12000),(8,.mref 12500),(13,.v (.func (.func 103) #[] #[])),(14,.slice (.id 14 3) (O.map E2)),(52,.msl 15200 (Cf t).length),(53,vi (Cf t).length),(54,vi k)],[(14,.tok 3 O.length),(12000,.rom Dn (JQ l)),(12500,.rom Dn (JQ m)),(15200,.arr 1 ((Cf t).map Dx))],Ab⟩ (Yi ⟨Z7,Z4,Fh,Tv⟩ ?_)
 refine Yi (fun Ty=>?_) (fun Ty=>?_)
 ·have Ty:(k:Int)<((Cf t).length:Int):=Ty;have nb:k<(Cf t).length:=by omega
  have n10:=nb;have gb:(Cf t)[k]?=some (Cf t)[k]:=Ge nb;refine Xi ⟨[(6,.mref 12000),(8,.mref 12500),(13,.v (.func (.func 103) #[] #[])),(14,.slice (.id 14 3) (O.map E2)),(52,.msl 15200 (Cf t).length),(53,vi (Cf t).length),(54,vi k)],[(14,.tok 3 O.length),(12000,.rom Dn (JQ l)),(12500,.rom Dn (JQ m)),(15200,.arr 1 ((Cf t).map Dx))],Ab⟩ (Yi ⟨Z7,Z4,Fh,Tv⟩ ?_)
  refine Yi (by show(0:Int)≤k∧(k:Int)<((Cf t).length:Nat);omega) ?_;refine Yi (show(Cf t).length=((Cf t).map Dx).length by rw[Lm]) (Xi (Dx ((Cf t)[k])) (Yi (B3 gb) ?_));refine Xi ⟨[(6,.mref 12000),(8,.mref 12500),(13,.v (.func (.func 103) #[] #[])),(14,.slice (.id 14 3) (O.map E2)),(16,vs ((Cf t)[k])),(52,.msl 15200 (Cf t).length),(53,vi (Cf t).length),(54,vi k)],[(14,.tok 3 O.length),(12000,.rom Dn (JQ l)),(12500,.rom Dn (JQ m)),(15200,.arr 1 ((Cf t).map Dx))],Ab⟩ (Yi ⟨Z8,Z4,Fh,Tv⟩ ?_)
  refine Xi .pure (Xi _ (Yi (s7 l (Cf t)[k] hl) ?_));refine Xi .pure (Xi _ (Yi (s7 m (Cf t)[k] hm) ?_));refine Yi (Nz rfl) ?_;refine Xi ⟨[(6,.mref 12000),(8,.mref 12500),(13,.v (.func (.func 103) #[] #[])),(14,.slice (.id 14 3) (O.map E2)),(17,.ref 17 0),(52,.msl 15200 (Cf t).length),(53,vi (Cf t).length),(54,vi k)],[(14,.tok 3 O.length),(17,.cells [vs ((Cf t)[k]),vi (Qe l (Cf t)[k]),vi (Qe m (Cf t)[k])]),(12000,.rom Dn (JQ l)),(12500,.rom Dn (JQ m)),(15200,.arr 1 ((Cf t).map Dx))],Ab⟩ (Yi ⟨Z8,Z5,Fh,Tv⟩ ?_)
  refine Yi (fun Hm=>?_) (fun Hm=>?_)
  ·have Hm:((Qe l (Cf t)[k]):Int)≠((Qe m (Cf t)[k]):Int):=Hm;refine Xi ⟨[(6,.mref 12000),(8,.mref 12500),(13,.v (.func (.func 103) #[] #[])),(14,.slice (.id 14 3) (O.map E2)),(17,.ref 17 0),(52,.msl 15200 (Cf t).length),(53,vi (Cf t).length),(54,vi k)],[(14,.tok 3 O.length),(17,.cells [vs ((Cf t)[k]),vi (Qe l (Cf t)[k]),vi (Qe m (Cf t)[k])]),(12000,.rom Dn (JQ l)),(12500,.rom Dn (JQ m)),(15200,.arr 1 ((Cf t).map Dx))],Ab⟩ (Yi ⟨Z8,Z5,Fh,Tv⟩ ?_)
   refine Yi (Nz rfl) ?_;refine Yi (Mg rfl (by omega) (by decide)) ?_;refine Yi (Ii k (by omega)) ?_;have eO:=bC (l:=l) (m:=m) n10;have eM:W3 l m (Cf t)[k]=some ⟨(Cf t)[k],(Qe l (Cf t)[k]),(Qe m (Cf t)[k])⟩:=Au Hm;rw[eM]at eO;refine Xi ⟨(k+1,(O++[(⟨(Cf t)[k],(Qe l (Cf t)[k]),(Qe m (Cf t)[k])⟩:Mv)])),n10,by show(O++[(⟨(Cf t)[k],(Qe l (Cf t)[k]),(Qe m (Cf t)[k])⟩:Mv)])=_;rw[eO,k2];rfl⟩ ?_;exact⟨by show(Cf t).length-(k+1)<(Cf t).length-k;omega,⟨Zr,Zr,Zr,⟨(show AV.slice (.id 14 3) (O.map E2++[[vs (Cf t)[k],vi (Qe l (Cf t)[k]),vi (Qe m (Cf t)[k])]])=.slice (.id 14 3) ((O++[(⟨(Cf t)[k],(Qe l (Cf t)[k]),(Qe m (Cf t)[k])⟩:Mv)]).map E2) by rw[AG];rfl),rfl⟩,Zr,Zr,Zr,Tv⟩,⟨⟨Qc,rfl⟩,Zr,Zr,Zr,Tv⟩,Fh,Tv⟩
  have Hm:((Qe l (Cf t)[k]):Int)=((Qe m (Cf t)[k]):Int):=A9 Hm;refine Yi (Ii k (by omega)) ?_;have eO:=bC (l:=l) (m:=m) n10;have eM:W3 l m (Cf t)[k]=none:=Al (fun c=>c Hm);rw[eM]at eO;rw[show(none:Option Mv).toList=[]from rfl,BS]at eO;refine Xi ⟨(k+1,O),n10,by show O=_;rw[eO,k2]⟩ ?_;exact⟨by show(Cf t).length-(k+1)<(Cf t).length-k;omega,Z7,Z4,Fh,Tv⟩
 have Ty:¬((k:Int)<((Cf t).length:Int)):=Ty;refine Xi ⟨[(14,.slice (.id 14 3) (O.map E2))],[(14,.tok 3 O.length)],Ab⟩ (Yi ⟨Z1,Z1,Fh,Tv⟩ ?_)
 have ek:(Cf t).take k=Cf t:=AL (by omega);have eO:O=MG l m (Cf t):=by rw[k2,ek]
 exact .of_eq (Aa (fun z=>AV.tup [sl E2 z,vi 0]) eO)
def Fc(w:Wk):Bool:=w.exc.all (fun s=>decide (s.path.size≤100))&&w.pin.all (fun s=>decide (s.path.size≤100))&&(EO w.rep 8&&decide (w.exc.length≤12)&&decide (w.pin.length≤8))
theorem fC{l:List Sl}{i:Nat}(h:i<l.length)(hb:¬(l[i].path.size:Int)≤100):(l.all fun s=>decide (s.path.size≤100))=false:=by
 rw[List.all_eq_false];exact⟨l[i],Ak h,by simp;omega⟩
theorem Me{l:List Sl}(h:∀j (hj:j<l.length),(l[j].path.size:Int)≤100):(l.all fun s=>decide (s.path.size≤100))=true:=by
 rw[AS];intro s hs;obtain⟨j,hj,rfl⟩:=Ce.1 hs
 have:=h j hj
 simp;omega
structure Qf(w:Wk):Prop where
 rep:w.rep.length≤1048576
 exc:w.exc.length≤1048576
 pin:w.pin.length≤1048576
 rl:∀r∈w.rep,Ci r.reqs∧Jg r
 excs:∀s∈w.exc,E7 s.path
 pins:∀s∈w.pin,E7 s.path
theorem Qf.few{w:Wk}(h:Qf w):Xs w:=⟨fun r hr=>(h.rl r hr).2,AT h.rep (by decide),AT h.exc (by decide),AT h.pin (by decide),h.excs,h.pins⟩
theorem Qf.qs{w:Wk}(h:Qf w):Xr w.rep:=fun r hr=>⟨(h.rl r hr).1,fun q hq=>((h.rl r hr).2.2 q hq).1⟩
theorem Qf.rq{w:Wk}(h:Qf w):∀r∈w.rep,Ci r.reqs:=fun r hr=>(h.rl r hr).1
theorem o16(w:Wk)(hW:Qf w):PC 16 [.agg (BH w)] (vb (Fc w)):=by
 have rO:w.exc.length≤1048576:=hW.exc;have hW2:w.pin.length≤1048576:=hW.pin;refine Ps ⟨[1],[],[],[],[],[],[],[],[],[],[3,5,8,10]⟩ Tryz.func16 rfl (Nz rfl) ?_;refine Xi {q:Nat // q≤w.exc.length∧∀j (hj:j<w.exc.length),j<q→(w.exc[j].path.size:Int)≤100} (Xi (fun q=>⟨[(1,.ref 1 0),(3,vi q.1)],[(1,.ro (BH w))],Ab⟩) (Xi (fun q=>w.exc.length-q.1) (Yi (Xi ⟨0,AF _,fun _ _ h=>absurd h (Cr _)⟩ ?_) ?_)))
 ·exact⟨Z2,Z1,Fh,Tv⟩
 intro⟨i,i1,i2⟩;have i1:i≤w.exc.length:=i1;have i2:∀j (hj:j<w.exc.length),j<i→(w.exc[j].path.size:Int)≤100:=i2;refine Yi (fun h1=>?_) (fun h1=>?_)
 ·have h1:(i:Int)<((w.exc.map Ae).length:Int):=h1;have n1:=Iy h1;refine Xi (Ae w.exc[i]) (Yi (J3 n1) (Yi rfl ?_));refine Yi (fun h2=>?_) (fun h2=>?_)
  ·have h2:(100:Int)<(w.exc[i].path.size:Int):=h2;refine Xi ⟨[],[],Ab⟩ (Yi ⟨Tv,Tv,Fh,Tv⟩ ?_)
   exact .of_eq (show vb false=vb (Fc w) by unfold Fc;rw[fC (l:=w.exc) n1 (UH.2 h2),Bool.false_and,Bool.false_and])
  have h2:¬((100:Int)<(w.exc[i].path.size:Int)):=h2;refine Xi ⟨[(1,.ref 1 0),(3,vi i)],[(1,.ro (BH w))],Ab⟩ (Yi ⟨Z2,Z1,Fh,Tv⟩ ?_)
  refine Yi (Ii i (by omega)) ?_;refine Xi ⟨i+1,n1,fun j hj GF=>if e:j<i then i2 j hj e else by
    have e:j=i:=by omega
    subst e;exact Int.not_lt.1 h2⟩ ?_
  exact⟨Dl w.exc.length i (by omega),Z2,Z1,Fh,Tv⟩
 have h1:¬((i:Int)<((w.exc.map Ae).length:Int)):=h1;have n1:=Ix h1;refine Xi {q:Nat // q≤w.pin.length∧∀j (hj:j<w.pin.length),j<q→(w.pin[j].path.size:Int)≤100} (Xi (fun q=>⟨[(1,.ref 1 0),(4,vi q.1)],[(1,.ro (BH w))],Ab⟩) (Xi (fun q=>w.pin.length-q.1) (Yi (Xi ⟨0,AF _,fun _ _ h=>absurd h (Cr _)⟩ ?_) ?_)))
 ·exact⟨Z2,Z1,Fh,Tv⟩
 intro⟨k,k1,k2⟩;have k1:k≤w.pin.length:=k1;have k2:∀j (hj:j<w.pin.length),j<k→(w.pin[j].path.size:Int)≤100:=k2;refine Yi (fun h5=>?_) (fun h5=>?_)
 ·have h5:(k:Int)<((w.pin.map Ae).length:Int):=h5;have n5:=Iy h5;refine Xi (Ae w.pin[k]) (Yi (J3 n5) (Yi rfl ?_));refine Yi (fun h6=>?_) (fun h6=>?_)
  ·have h6:(100:Int)<(w.pin[k].path.size:Int):=h6;refine Xi ⟨[],[],Ab⟩ (Yi ⟨Tv,Tv,Fh,Tv⟩ ?_)
   exact .of_eq (show vb false=vb (Fc w) by unfold Fc;rw[fC (l:=w.pin) n5 (UH.2 h6),Cz,Bool.false_and])
  have h6:¬((100:Int)<(w.pin[k].path.size:Int)):=h6;refine Xi ⟨[(1,.ref 1 0),(4,vi k)],[(1,.ro (BH w))],Ab⟩ (Yi ⟨Z2,Z1,Fh,Tv⟩ ?_)
  refine Yi (Ii k (by omega)) ?_;refine Xi ⟨k+1,n5,fun j hj GF=>if e:j<k then k2 j hj e else by
    have e:j=k:=by omega
    subst e;exact Int.not_lt.1 h6⟩ ?_
  exact⟨Dl w.pin.length k (by omega),Z2,Z1,Fh,Tv⟩
 have h5:¬((k:Int)<((w.pin.map Ae).length:Int)):=h5;have n5:=Ix h5;refine Bp (Bt (EO w.rep 8)) (fun h9=>?_) (fun h9=>?_)
 ·have h9:(EO w.rep 8)=true:=h9;refine Xi .pure (Xi _ (Yi (cb h9 (v8 w.rep 8 (AT hW.rep (by decide)) hW.rq)) ?_));refine Yi (fun Ty=>?_) (fun Ty=>?_)
  ·have Ty:((w.exc.map Ae).length:Int)≤(12:Int):=Ty;refine Yi (fun Hm=>?_) (fun Hm=>?_)
   ·have Hm:((w.pin.map Ae).length:Int)≤(8:Int):=Hm;have e1:=Me fun j hj=>i2 j hj (by have q:=h1;rw[Lm]at q;omega);have e2:=Me fun j hj=>k2 j hj (by have q:=h5;rw[Lm]at q;omega);exact .of_eq (show vb true=vb (Fc w) by unfold Fc;rw[e1,e2,h9,At (by have q:=Ty;rw[Lm]at q;omega),At (by have q:=Hm;rw[Lm]at q;omega)];rfl)
   have Hm:¬(((w.pin.map Ae).length:Int)≤(8:Int)):=Hm;have e1:=Me fun j hj=>i2 j hj (by have q:=h1;rw[Lm]at q;omega);have e2:=Me fun j hj=>k2 j hj (by have q:=h5;rw[Lm]at q;omega);exact .of_eq (show vb false=vb (Fc w) by unfold Fc;rw[e1,e2,h9,At (by have q:=Ty;rw[Lm]at q;omega),Aj (by have q:=Hm;rw[Lm]at q;omega)];simp)
  have Ty:¬(((w.exc.map Ae).length:Int)≤(12:Int)):=Ty;have e1:=Me fun j hj=>i2 j hj (by have q:=h1;rw[Lm]at q;omega);have e2:=Me fun j hj=>k2 j hj (by have q:=h5;rw[Lm]at q;omega);exact .of_eq (show vb false=vb (Fc w) by unfold Fc;rw[e1,e2,h9,Aj (by have q:=Ty;rw[Lm]at q;omega)];simp)
 have h9:(EO w.rep 8)=false:=h9;refine Xi .pure (Xi _ (Yi (cb h9 (v8 w.rep 8 (AT hW.rep (by decide)) hW.rq)) ?_));have e1:=Me fun j hj=>i2 j hj (by have q:=h1;rw[Lm]at q;omega);have e2:=Me fun j hj=>k2 j hj (by have q:=h5;rw[Lm]at q;omega);exact .of_eq (show vb false=vb (Fc w) by unfold Fc;rw[e1,e2,h9];simp)
theorem o10(x:List Rl)(ifs:List (List AV))(w:Wk)(hL:mR x [])(hW:Qf w):PC 10 [M8 x ifs,.agg (BH w)] (vb (EO x 16&&Fc w)):=by
 have zj:PC 36 [M8 x ifs,.v (.slice none 0 0)] (vb (EO x 16)):=by
  have q:=(hL.c11 ifs).args (args':=[M8 x ifs,.v (.slice none 0 0)]) ⟨.refl _,.nil,trivial⟩;rw[show Hg []=true from rfl,RV]at q;exact q
 refine Ps ⟨[2,3],[],[],[],[],[],[],[],[],[],[]⟩ Tryz.func10 rfl (Nz rfl) ?_;refine Yi (Nz rfl) ?_;refine Bp (Bt (EO x 16)) (fun h1=>?_) (fun h1=>?_)
 ·have h1:(EO x 16)=true:=h1;refine Xi .pure (Xi _ (Yi (cb h1 zj) ?_));refine Yi (Nz rfl) ?_;refine Bp (Bt (Fc w)) (fun h2=>?_) (fun h2=>?_)
  ·have h2:(Fc w)=true:=h2;refine Xi .pure (Xi _ (Yi (cb h2 (o16 w hW)) ?_));exact .of_eq (show vb true=vb (EO x 16&&Fc w) by rw[h1,h2];rfl)
  have h2:(Fc w)=false:=h2;refine Xi .pure (Xi _ (Yi (cb h2 (o16 w hW)) ?_));exact .of_eq (show vb false=vb (EO x 16&&Fc w) by rw[h1,h2];rfl)
 have h1:(EO x 16)=false:=h1;refine Xi .pure (Xi _ (Yi (cb h1 zj) ?_));exact .of_eq (show vb false=vb (EO x 16&&Fc w) by rw[h1];rfl)
theorem o34(x y:List Rl)(ifs uu:List (List AV))(roots:List Rq)(w:Wk)(a b:List Sl)(ms:List Mv)(Hm:PC 11 [M8 x ifs,.agg (BH w)] (.tup [M8 y uu,vi 0]))(h1:PC 30 [M8 x ifs,sl AM roots] (.tup [sl Ae a,vi 0]))(h2:PC 30 [M8 y uu,sl AM roots] (.tup [sl Ae b,vi 0]))(t7:PC 75 [sl Ae a,sl Ae b] (.tup [sl E2 ms,vi 0])):PC 34 [M8 x ifs,sl AM roots,.agg (BH w)] (.tup [sl E2 ms,vi 0]):=by
 refine Ps ⟨[3,5,8],[],[],[],[],[],[],[],[],[],[2,5,8]⟩ Tryz.func34 rfl (Nz rfl) ?_;refine Yi (Nz rfl) ?_;refine Yi (Nz rfl) ?_;refine Xi .pure (Xi _ (Yi Hm ?_));refine Yi (Nz rfl) ?_;refine Xi ⟨[(1,sl AM roots),(3,.ref 3 0),(8,.ref 8 0),(9,vi 0)],[(3,.ro (Ic x ifs)),(8,.ro [sl Ag y,.slice .none uu])],Ab⟩ (Yi ⟨Z4,Z2,Fh,Tv⟩ ?_)
 refine Yi (fun h=>absurd h (by decide)) (fun _=>?_);refine Yi (Nz rfl) ?_;refine Xi .pure (Xi _ (Yi h1 ?_));refine Xi ⟨[(1,sl AM roots),(8,.ref 8 0),(9,vi 0),(10,sl Ae a)],[(8,.ro [sl Ag y,.slice .none uu])],Ab⟩ (Yi ⟨Z4,Z1,Fh,Tv⟩ ?_)
 refine Yi (fun h=>absurd h (by decide)) (fun _=>?_);refine Yi (Nz rfl) ?_;refine Xi .pure (Xi _ (Yi h2 ?_));refine Xi ⟨[(9,vi 0),(10,sl Ae a),(11,sl Ae b)],[],Ab⟩ (Yi ⟨Z3,Tv,Fh,Tv⟩ ?_)
 refine Yi (fun h=>absurd h (by decide)) (fun _=>?_);refine Xi .pure (Xi _ (Yi t7 ?_));exact .refl _
end Go.Eng
namespace Go.Proofs
open Go.Shelf Go.RowKit Go.Lib Go.Sort
abbrev OneC:Type:={v:Value // v.oneCell'=true}
def SlA:Type:=ByteArray×OneC×OneC×OneC
instance:Inhabited SlA:=⟨⟨ByteArray.empty,⟨.bool false,rfl⟩,⟨.bool false,rfl⟩,⟨.bool false,rfl⟩⟩⟩
def encSlA(x:SlA):List Value:=[.string x.1,x.2.1.1,x.2.2.1.1,x.2.2.2.1]
def cfSlA(x y:SlA):Int:=Lib.compareBytes x.1.data.toList y.1.data.toList
abbrev CmpSlA(k:Nat):Prop:=∀(x y:SlA) (W:World),Calls Tryz.prog k #[.agg #[.string x.1,x.2.1.1,x.2.2.1.1,x.2.2.2.1],.agg #[.string y.1,y.2.1.1,y.2.2.1.1,y.2.2.2.1]] W fun e w'=>e=.returned (.int .i64 (cfSlA x y))∧∃q os',w'=grow (W.drewN q) os'
theorem Tryz.closure99:CmpSlA 99:=fun x y W=>by
 have hcon:=fun W'=>Any.strings_Compare Tryz.layCompare x.1 y.1 W';obtain⟨a,⟨b,hb⟩,⟨c,hc⟩,⟨d,hd⟩⟩:=x;obtain⟨a',⟨b',oU⟩,⟨c',qh⟩,⟨d',lz⟩⟩:=y;dsimp only at hcon
 change ∀W',Calls Tryz.prog 100 _ _ _ at hcon
 unfold cfSlA;dsimp only;generalize Lib.compareBytes a.data.toList a'.data.toList=r at hcon⊢
 go_enter Tryz.func99,Tryz.ntmps99
 go_wp2_with (go_at_call 100;refine(hcon _).mono ?_;rintro e w' ⟨rfl,rfl⟩)
 go_ret
 exact⟨rfl,0,_,by rw[alloc_eq_grow,alloc_eq_grow,grow_grow];rfl⟩
end Go.Proofs
namespace Go.Eng
open Go.Proofs Go.Shelf Go.RowKit Go.Lib Go.Sort
theorem bx(x y:SlA):ltOf cfSlA x y=EJ x.1 y.1:=T3 _ _
theorem jS:SWO (ltOf cfSlA) where
 irrefl x:=by rw[bx];exact Dk _
 trans x y z h1 h2:=by rw[bx]at *;exact EK h1 h2
 ntrans x y z h1 h2:=by
  rw[bx]at *
  rw[AD];intro h;cases qy:EJ y.1 x.1 with
  |true=>have:=EK qy h;rw[h2]at this;cases this
  |false =>
   have e:=HP h1 qy;rw[e]at h;rw[h2]at h;cases h
theorem s92(k:Nat)(hc:CmpSlA k)(eg:∀args w,(callFunc k args).run Tryz.prog w=.ok (.enter k args) w)(l:List Sl)(hl:Ci l)(lim:Nat)(Yg:lim<100) :
  Bj Tryz.prog 129 [.msl 1000 l.length,vi 0,vi l.length,vi lim,.v (UP k)] (Ap [(1000,.arr 4 (l.map Ae))] Ab) fun r h' =>
   r=.tup []∧∃l' : List Sl,l'.Perm l∧l'.Pairwise (fun x y=>EJ y.path x.path=false)∧h'=Ap [(1000,.arr 4 (l'.map Ae))] Ab:=by
 have hl:l.length≤1073741824:=hl;have hE:Gl Tryz.prog 129:=ff 129 Tryz.func129 (by kernel_rfl) rfl;have Hx:=JA (P:=Tryz.prog) (f:=129) (α:=SlA) (rest:=[.int .i64 0,.int .i64 l.length,.int .i64 lim,UP k]) hE Ae encSlA (k:=4) (fun _=>rfl) (fun _=>rfl) (ltOf cfSlA) (fun x a=>a.1=x.path) l (by omega) ?_ ?_ ?_
 ·refine⟨hE,fun g w vals q1 q2 q3=>(Hx.2 g w vals q1 q2 q3).mono fun _ _ ⟨v,r,h',g',e1,⟨e2,l',p1,⟨al,a1,a2,a3⟩,p2⟩,rest⟩=>⟨v,r,h',g',e1,⟨e2,l',p1,?_,p2⟩,rest⟩⟩;rw[Be]at a3⊢;intro i j hi hj VB
  have:=a3 i j (by omega) (by omega) VB
  rw[bx]at this;have e1:=a2 i _ _ (Ge hi) (Ge (by omega));have e2:=a2 j _ _ (Ge hj) (Ge (by omega));rw[←e1,←e2];exact this
 ·intro x hx g w vs hr
  match vs,hr with
  | [a,b,c,d],hr =>
   have h1:=(hr.2.2 0 (Go.Eng.vs x.path) a rfl rfl).v_eq;subst h1;exact⟨⟨x.path,⟨b,hr.2.1 b (by simp)⟩,⟨c,hr.2.1 c (by simp)⟩,⟨d,hr.2.1 d (by simp)⟩⟩,rfl,rfl⟩
  | [],hr=>have:=hr.1;simp at this
  | [_],hr=>have:=hr.1;simp at this
  | [_,_],hr=>have:=hr.1;simp at this
  | [_,_,_],hr=>have:=hr.1;simp at this
  |_::_::_::_::_::_,hr=>have:=hr.1;simp at this
 ·intro w b cap d hH hb El hdl;have gN:CmpLays Tryz.prog k #[] encSlA 4 cfSlA b 0 d.size w:=fun _ _ _ _ x y=>hc x y _;have hp:=AnyQ.pdqsortCmpFunc_all Tryz.layPdqSel 4 Tryz.isAgg51 Tryz.sizeOf51 encSlA cfSlA k #[] jS b 0 cap d w eg gN ⟨fun _=>rfl,fun x v hv=>by
    simp only[encSlA,AC,L1,or_false]at hv;rcases hv with rfl | rfl | rfl | rfl
    ·rfl
    ·exact x.2.1.2
    ·exact x.2.2.1.2
    ·exact x.2.2.2.2,hH,hb⟩ (d.size+1) 0 d.size lim d w (by omega) rfl (SWK.start hH) (AF _) (Am _) El (by omega) (Or.inl rfl)
  rw[hdl]at hp⊢;refine hp.mono ?_
  rintro e w' ⟨rfl,n,os,rfl⟩
  have h:=pdq_sorts (ltOf cfSlA) jS d 0 d.size lim true true (AF _) (Am _) (Or.inl rfl);rw[hdl]at h;exact⟨rfl,_,n,os,h.1,h.2,rfl⟩
 ·intro e w;subst e;exact AnyF.pdqsortCmpFunc_none Tryz.layPdqSel none 0 lim (UP k) w
theorem U4{l l' : List Sl}(h1:Wj l)(h2:Wj l')(hm:∀y,y∈l↔y∈l'):l=l':=by
 induction l generalizing l' with
 |nil =>
  cases l' with
  |nil=>rfl
  |cons y l'=>have:=(hm y).2 (Ac ..);cases this
 |cons x l ih =>
  cases l' with
  |nil=>have:=(hm x).1 (Ac ..);cases this
  |cons y l' =>
   obtain⟨a1,a2⟩:=CD.1 h1;obtain⟨b1,b2⟩:=CD.1 h2;have e:x=y:=by
    rcases AC.1 ((hm x).1 (Ac ..))with e | e
    ·exact e
    ·rcases AC.1 ((hm y).2 (Ac ..))with e2 | e2
     ·exact e2.symm
     ·have c1:=b1 x e;have c2:=a1 y e2
      have:=EK c1 c2
      rw[Dk]at this;cases this
   subst e
   congr 1
   refine ih a2 b2 fun z=>⟨fun hz=>?_,fun hz=>?_⟩
   ·rcases AC.1 ((hm z).1 (Ah _ hz))with e | e
    ·subst e
     have:=a1 z hz
     rw[Dk]at this;cases this
    ·exact e
   ·rcases AC.1 ((hm z).2 (Ah _ hz))with e | e
    ·subst e
     have:=b1 z hz
     rw[Dk]at this;cases this
    ·exact e
theorem jP{l l' : List Sl}(hn:(l.map (·.path)).Nodup)(hp:l'.Perm l)(hs:l'.Pairwise fun x y=>EJ y.path x.path=false):l'=Gg l:=by
 refine U4 ?_ (QY hn) fun y=>by rw[hp.mem_iff,IE]
 have Yj : (l'.map (·.path)).Nodup:=(hp.map (·.path)).nodup_iff.2 hn;show l'.Pairwise _;rw[Be]at hs⊢;intro i j hi hj VB;cases hb:EJ l'[i].path l'[j].path with
 |true=>rfl
 |false =>
  have e:=HP hb (hs i j hi hj VB)
  have:=(Be.1 Yj) i j (by simpa using hi) (by simpa using hj) VB
  simp at this;exact absurd e this
theorem s47(k:Nat)(hc:CmpSlA k)(eg:∀args w,(callFunc k args).run Tryz.prog w=.ok (.enter k args) w)(l:List Sl)(hl:Ci l)(hn:(l.map (·.path)).Nodup) :
  Bj Tryz.prog 98 [.msl 1000 l.length,.v (UP k)] (Ap [(1000,.arr 4 (l.map Ae))] Ab) fun r h' =>
   r=.tup []∧h'=Ap [(1000,.arr 4 ((Gg l).map Ae))] Ab:=by
 obtain⟨lim,Yg,hb⟩:=oa l.length hl;refine Cq (M4 EY) [(1000,1000)] rfl CX hm rfl Tryz.func98 (by kernel_rfl) rfl (Nz rfl) (by kernel_rfl) rfl ?_;refine Xi .pure (Xi _ (Yi (hb) ?_));refine Xi (.gen [(1000,1000)] 0) (Yi rfl ((s92 k hc eg l hl lim Yg).imp ?_));intro r h' hq;refine BM hq.2 (fun l' Qy=>?_);have e:=jP hn Qy.1 Qy.2.1;refine Xi (.tup []) (Yi ?_ (Yi rfl ?_))
 ·exact .refl _
 ·rw[Qy.2.2,e];rfl
end Go.Eng
namespace Go.Eng
open Go.Proofs
abbrev AI(c:Cd):List AV:=vi c.place::Ag c.rel
abbrev Bf(n:Nd):List AV:=[vs n.rq.path,sl Af n.rq.set,vs n.path,vi n.place,vi n.number]
abbrev AX(l:List Sk):List AV:=[sl B2 l]
abbrev BT(i:Nat):List AV:=[vi (i:Nat)]
def D4:EU:=⟨true,[.int .i64,.str,.int .i64,.int .i64,.int .i64,.int .i64]⟩
def JK(i:Nf):Value:=.agg [.int .i64 i.kind,.string i.path,.int .i64 i.place,.int .i64 i.number,.int .i64 i.left,.int .i64 i.right].toArray
def D6:Nat→List Nf→List (Value×AV)
 |_,[]=>[]
 |k,i::l=>(JK i,vi (k:Nat))::D6 (k+1) l
abbrev uL(roots:List Rq)(C A:List (Value×AV))(s:SS)(dec:List Cd)(n:Nat):List AV :=
 [sl AM roots,.cmap Dn C,.cmap Dn A,.slice (.id 1001 6) (s.infs.map B4),.slice (.id 1002 1) (s.drv.map Cj),.mref 1003,vb s.full,sl AI dec,sl Ae (AO dec),.msl 1004 n]
abbrev srM(roots:List Rq)(C A:List (Value×AV))(s:SS)(dec:List Cd)(k n:Nat):List AV :=
 [sl AM roots,.cmap Dn C,.cmap Dn A,.slice (.id 1001 6) (s.infs.map B4),.slice (.id 1002 1) (s.drv.map Cj),.mref 1003,vb s.full,sl AI dec,sl Ae (AO dec),.msl k n]
abbrev Jq(roots:List Rq)(C A:List (Value×AV))(s:SS)(dec:List Cd)(st:List (List Sk)):List (Nat×HO) :=
 [(1000,.cells (uL roots C A s dec st.length)),(1001,.tok 6 s.infs.length),(1002,.tok 1 s.drv.length),(1003,.map D4 (D6 0 s.infs)),(1004,.arr 1 (st.map AX))]
theorem yJ{fF:Nat}{caps:List AV}(hs:EW caps)(l:List (Cd))(p:Cd→Bool)(hF:∀x∈l,PC fF ([.agg (AI x)]++caps) (vb (p x)))(hl:l.length<9223372036854775807) :
  PC 224 [sl AI l,.clo fF caps] (vi (Iv p l 0)):=by
 refine Ps EY Tryz.func224 rfl (Nz rfl) ?_;refine Xi {i:Nat // i≤l.length∧∀j (hj:j<l.length),j<i→p l[j]=false} (Xi (fun i=>⟨[(0,sl AI l),(1,.clo fF caps),(7,vi (l.map AI).length),(8,vi i.1)],[],Ab⟩) (Xi (fun i=>l.length-i.1) (Yi (Xi ⟨0,by simp⟩ ?_) ?_)))
 ·exact⟨⟨Zr,⟨rfl,hs.ids _⟩,Zr,Zr,Tv⟩,Tv,Fh,Tv⟩
 ·intro⟨i,h1,h2⟩;refine Yi ?_ ?_
  ·intro h;have h:(i:Int)<(l.map AI).length:=h;have h:i<l.length:=by simpa using h
   have hg:l[i]?=some l[i]:=Ge h;refine Xi (AI l[i]) (Yi (Yi (Nn i) (by simp[hg])) (Yi rfl (Yi (Nz rfl) ?_)));have DN:∀h,PC fF ([.agg (AI l[i])]++caps.map (str0 h)) (vb (p l[i])):=fun h=>by rw[hs.map];exact hF l[i] (Ak _)
   cases hp:p l[i]with
   |true =>
    rw[hp]at DN;refine Xi .pure (Xi (vb true) (Yi (DN _) ?_));rw[JI h (fun j hj GF=>h2 j hj GF) hp,Fj];exact .refl _
   |false =>
    rw[hp]at DN;refine Xi .pure (Xi (vb false) (Yi (DN _) ?_));refine Yi (Ii i (by omega)) ?_;refine Xi ⟨i+1,by omega,fun j hj GF=>?_⟩ ?_
    ·by_cases e:j=i
     ·subst e;exact hp
     ·exact h2 j hj (by omega)
    ·exact⟨Dl l.length i (by omega),⟨Zr,⟨rfl,hs.ids _⟩,Zr,Zr,Tv⟩,Tv,Fh,Tv⟩
  ·intro h;have h:¬(i:Int)<(l.map AI).length:=h;have h:¬i<l.length:=by simpa using h
   rw[GG fun j hj=>h2 j hj (by omega)];exact .refl _
theorem s86{fF:Nat}{caps:List AV}(hs:EW caps)(l:List (Nd))(p:Nd→Bool)(hF:∀x∈l,PC fF ([.agg (Bf x)]++caps) (vb (p x)))(hl:l.length<9223372036854775807) :
  PC 120 [sl Bf l,.clo fF caps] (vi (Iv p l 0)):=by
 refine Ps EY Tryz.func120 rfl (Nz rfl) ?_;refine Xi {i:Nat // i≤l.length∧∀j (hj:j<l.length),j<i→p l[j]=false} (Xi (fun i=>⟨[(0,sl Bf l),(1,.clo fF caps),(7,vi (l.map Bf).length),(8,vi i.1)],[],Ab⟩) (Xi (fun i=>l.length-i.1) (Yi (Xi ⟨0,by simp⟩ ?_) ?_)))
 ·exact⟨⟨Zr,⟨rfl,hs.ids _⟩,Zr,Zr,Tv⟩,Tv,Fh,Tv⟩
 ·intro⟨i,h1,h2⟩;refine Yi ?_ ?_
  ·intro h;have h:(i:Int)<(l.map Bf).length:=h;have h:i<l.length:=by simpa using h
   have hg:l[i]?=some l[i]:=Ge h;refine Xi (Bf l[i]) (Yi (Yi (Nn i) (by simp[hg])) (Yi rfl (Yi (Nz rfl) ?_)));have DN:∀h,PC fF ([.agg (Bf l[i])]++caps.map (str0 h)) (vb (p l[i])):=fun h=>by rw[hs.map];exact hF l[i] (Ak _)
   cases hp:p l[i]with
   |true =>
    rw[hp]at DN;refine Xi .pure (Xi (vb true) (Yi (DN _) ?_));rw[JI h (fun j hj GF=>h2 j hj GF) hp,Fj];exact .refl _
   |false =>
    rw[hp]at DN;refine Xi .pure (Xi (vb false) (Yi (DN _) ?_));refine Yi (Ii i (by omega)) ?_;refine Xi ⟨i+1,by omega,fun j hj GF=>?_⟩ ?_
    ·by_cases e:j=i
     ·subst e;exact hp
     ·exact h2 j hj (by omega)
    ·exact⟨Dl l.length i (by omega),⟨Zr,⟨rfl,hs.ids _⟩,Zr,Zr,Tv⟩,Tv,Fh,Tv⟩
  ·intro h;have h:¬(i:Int)<(l.map Bf).length:=h;have h:¬i<l.length:=by simpa using h
   rw[GG fun j hj=>h2 j hj (by omega)];exact .refl _
theorem tJ{fF:Nat}{caps:List AV}(hs:EW caps)(l:List (Cd))(p:Cd→Bool)(hF:∀x∈l,PC fF ([.agg (AI x)]++caps) (vb (p x)))(hl:Ci l) :
  PC 193 [sl AI l,.clo fF caps] (vb (l.any p)):=by
 refine Ps EY Tryz.func193 rfl (Nz rfl) ?_;have hi:=yJ hs l p hF (by unfold Ci at hl;omega);have DN:∀h,PC 224 [sl AI l,.clo fF (caps.map (str0 h))] (vi (Iv p l 0)):=fun h=>by rw[hs.map];exact hi
 refine Xi .pure (Xi _ (Yi (DN _) ?_));have ha:=Lx (p:=p) l 0 (AZ 0);refine Yi ?_ ?_
 ·intro h;have h:(0:Int)≤Iv p l 0:=h;rw[←ha,At h];exact .refl _
 ·intro h;have h:¬(0:Int)≤Iv p l 0:=h;rw[←ha,Aj h];exact .refl _
theorem tN(l:List Cd)(hl:Ci l):Bj Tryz.prog 126 [sl AI l] (Ap [] Ab) fun r h'=>r=.slice (.id 2000 10) (l.map AI)∧h'=Ap [(2000,.tok 10 (l.map AI).length)] Ab:=by
 refine Cq (M4 (xX 10)) [(2,2000)] rfl CX hm rfl Tryz.func126 (by kernel_rfl) rfl (Nz rfl) (by kernel_rfl) rfl ?_;have F3:Da 10 (l.map AI)∧([]:List (List AV)).length=0∧(([]:List (List AV)).length+(l.map AI).length)*128≤140737488355328∧([]:List (List AV)).length+(l.map AI).length≤9223372036854775807:=by
  refine⟨EN (enc:=AI) (n:=10) (fun _=>rfl) l,rfl,?_,?_⟩<;>simp only[AE,Lm]<;>unfold Ci at hl<;>omega
 have e2:HO.tok 10 (([]:List (List AV)).length+(l.map AI).length)=.tok 10 (l.map AI).length:=by rw[AE,Bo]
 have e3:AV.slice (.id 2000 10) ([]++l.map AI)=.slice (.id 2000 10) (l.map AI):=rfl;have full:∀st:St,(∃s:LS,St.le (M4 (xX 10)) st s∧True)→True:=fun _ _=>trivial;refine Xi 0 ?_;refine Xi 0 ?_;refine Yi ?_ ?_
 ·intro _;refine Xi ⟨[(0,sl AI l)],[],Ab⟩ (Yi ⟨Z1,Tv,Fh,Az (by kernel_rfl)⟩ ?_)
  refine Xi 2 ?_;refine Yi F3 ?_;exact Xi _ (Yi (.refl _) (Yi e3 (Aa (fun o=>Ap [(2000,o)] Ab) e2)))
 ·intro h;have h:l.map AI=[]:=h;refine Yi ?_ ?_
  ·refine Xi ⟨[],[],Ab⟩ (Yi ⟨trivial,trivial,fun _=>.inl rfl,Az (by kernel_rfl)⟩ ?_)
   refine Xi 0 ?_;exact Xi _ (Yi (.refl _) (Yi (show AV.slice (.id 2000 10) []=_ by rw[h]) (show Ap [(2000,HO.tok 10 0)] Ab=_ by rw[h];rfl)))
  ·refine Xi ⟨[(0,sl AI l)],[],Ab⟩ (Yi ⟨Z1,Tv,Fh,Az (by kernel_rfl)⟩ ?_)
   refine Xi 2 ?_;refine Yi F3 ?_;exact Xi _ (Yi (.refl _) (Yi e3 (Aa (fun o=>Ap [(2000,o)] Ab) e2)))
theorem Ss:∀{l:List Nf} {k:Nat} {kx:Value} {a:AV},(kx,a)∈D6 k l↔∃j i,l[j]?=some i∧kx=JK i∧a=vi ((k+j:Nat):Int)
 | [],k,kx,a=>by simp[D6]
 |y::l,k,kx,a=>by
  unfold D6;rw[AC,Ss];constructor
  ·rintro(h | ⟨j,i,h1,h2,h3⟩)
   ·cases h;exact⟨0,y,rfl,rfl,rfl⟩
   ·exact⟨j+1,i,h1,h2,by rw[h3,show k+1+j=k+(j+1) by omega]⟩
  ·rintro⟨j,i,h1,h2,h3⟩
   cases j with
   |zero=>cases h1;exact .inl (by rw[h2,h3];rfl)
   |succ j=>exact .inr ⟨j,i,h1,h2,by rw[h3,show k+1+j=k+(j+1) by omega]⟩
theorem VI{a b:Nf}(h:JK a=JK b):a=b:=by
 obtain⟨a1,a2,a3,a4,a5,a6⟩:=a;obtain⟨b1,b2,b3,b4,b5,b6⟩:=b;unfold JK at h;simp at h;obtain⟨rfl,rfl,rfl,rfl,rfl,rfl⟩:=h
 rfl
theorem sR{l:List Nf}{i:Nf}{k:Nat}(h:L7 i 0 l=some k):(JK i,vi (k:Nat))∈D6 0 l:=by
 obtain⟨j,e,hj⟩:=Nr h;exact Ss.2 ⟨j,i,hj,rfl,by rw[e]⟩
theorem lP{l:List Nf}(hn:l.Nodup){i:Nf}{k:Nat}(h:L7 i 0 l=some k):∀b,(JK i,b)∈D6 0 l→b=vi (k:Nat):=fun b hb=>by
 obtain⟨j,e,hj⟩:=Nr h;obtain⟨j',i',h1,h2,h3⟩:=Ss.1 hb
 have:=VI h2
 subst this;obtain⟨a1,a2⟩:=Aw.1 hj;obtain⟨b1,b2⟩:=Aw.1 h1
 have:j'=j:=(List.getElem_inj hn).1 (b2.trans a2.symm)
 subst this;rw[h3,e]
theorem ny{l:List Nf}{i:Nf}(h:L7 i 0 l=none):∀a,(JK i,a)∉D6 0 l:=fun a ha=>by
 obtain⟨j,i',h1,h2,_⟩:=Ss.1 ha
 have:=VI h2
 subst this;exact QO h (Ax h1)
theorem bw:∀(l:List Nf) (k:Nat) (i:Nf),D6 k (l++[i])=D6 k l++[(JK i,vi ((k+l.length:Nat):Int))]
 | [],k,i=>by simp[D6]
 |y::l,k,i=>by
  show(JK y,_)::D6 (k+1) (l++[i])=_;rw[bw l (k+1) i];simp[D6,show k+1+l.length=k+(l.length+1) by omega]
theorem pz{l:List Nf}{i:Nf}(h:L7 i 0 l=none):E6 (D6 0 l) (JK i) (vi ((l.map B4).length:Int))=D6 0 (l++[i]):=by
 rw[MH (ny h),bw,Lm,Bo]
theorem XA{s:SS}{i:Nf}{l:List Tm}{k:Nat}(h:L7 i 0 s.infs=some k):Em s i l=(k,s):=by unfold Em;rw[h]
theorem Vb{s:SS}{i:Nf}{l:List Tm}(h:L7 i 0 s.infs=none)(hf:65536≤s.infs.length):Em s i l=(s.infs.length-1,⟨s.infs,s.drv,true⟩):=by unfold Em;rw[h];exact Au hf
theorem Xz{s:SS}{i:Nf}{l:List Tm}(h:L7 i 0 s.infs=none)(hf:¬65536≤s.infs.length):Em s i l=(s.infs.length,⟨s.infs++[i],s.drv++[l],s.full⟩):=by unfold Em;rw[h];exact Al hf
section
variable {roots:List Rq}{C A:List (Value×AV)}{s s' : SS}{dec:List Cd}{st:List (List Sk)}{i:Nf}{l:List Tm}
theorem fB{k:Nat}{z:Int}(e:Em s i l=(k,s'))(hz:z=k):vi z=vi ((Em s i l).1:Nat)∧Ap (Jq roots C A s' dec st) Ab=Ap (Jq roots C A (Em s i l).2 dec st) Ab:=by rw[e,hz];exact Zr
theorem qN(h:L7 i 0 s.infs=none):Ap [(1000,.cells [sl AM roots,.cmap Dn C,.cmap Dn A,.slice (.id 1001 6) (s.infs.map B4++[B4 i]),.slice (.id 1002 1) (s.drv.map Cj++[Cj l]),.mref 1003,vb s.full,sl AI dec,sl Ae (AO dec),.msl 1004 st.length]),
      (1001,.tok 6 ((s.infs.map B4).length+[B4 i].length)),(1002,.tok 1 ((s.drv.map Cj).length+[Cj l].length)),(1003,.map D4 (E6 (D6 0 s.infs) (JK i) (vi ((s.infs.map B4).length:Int)))),(1004,.arr 1 (st.map AX))] Ab=Ap (Jq roots C A ⟨s.infs++[i],s.drv++[l],s.full⟩ dec st) Ab:=by
  have e1:s.infs.map B4++[B4 i]=(s.infs++[i]).map B4:=by simp
  have e2:s.drv.map Cj++[Cj l]=(s.drv++[l]).map Cj:=by simp
  have e3:(s.infs.map B4).length+[B4 i].length=(s.infs++[i]).length:=by simp
  have e4:(s.drv.map Cj).length+[Cj l].length=(s.drv++[l]).length:=by simp
  rw[e1,e2,e3,e4,pz h]
end
theorem tK(c:Cd)(p:ByteArray):PC 194 [.agg (AI c),.cptr [vs p]] (vb (decide (c.rel.path=p))):=by
 refine Ps ⟨[2],[],[],[],[],[],[],[],[],[],[]⟩ Tryz.func194 rfl (Nz rfl) ?_;refine Yi (fun h1=>?_) (fun h1=>?_)
 ·have h1:(c.rel.path:ByteArray)=p:=h1;exact .of_eq (show vb true=vb (decide (c.rel.path=p)) by rw[At h1])
 have h1:¬(c.rel.path:ByteArray)=p:=h1;exact .of_eq (show vb false=vb (decide (c.rel.path=p)) by rw[Aj h1])
theorem tH(t:Tm)(p:ByteArray):PC 159 [.agg (AK t),.cptr [vs p]] (vb (decide (t.path=p))):=by
 refine Ps ⟨[2],[],[],[],[],[],[],[],[],[],[]⟩ Tryz.func159 rfl (Nz rfl) ?_;refine Yi (fun h1=>?_) (fun h1=>?_)
 ·have h1:(t.path:ByteArray)=p:=h1;exact .of_eq (show vb true=vb (decide (t.path=p)) by rw[At h1])
 have h1:¬(t.path:ByteArray)=p:=h1;exact .of_eq (show vb false=vb (decide (t.path=p)) by rw[Aj h1])
theorem ku(l:List Tm)(p:ByteArray)(hl:Ci l):PC 127 [sl AK l,vs p] (vb (Dm l p)):=by
 refine Ps ⟨[3],[],[],[],[],[],[],[],[],[],[]⟩ Tryz.func127 rfl (Nz rfl) ?_;refine Bp (Bt (Dm l p)) (fun h1=>?_) (fun h1=>?_)
 ·have h1:(Dm l p)=true:=h1;refine Xi .pure (Xi _ (Yi (cb h1 (show PC 158 [sl AK l,.clo 159 [.cptr [vs p]]] (vb (Dm l p))from od (fF:=159) (caps:=[.cptr [vs p]]) (fun c hc=>by obtain rfl:=As.1 hc;intro h;rfl) l (fun t=>decide (t.path=p)) (fun t _=>tH t p) hl)) ?_));exact .of_eq (show vb true=vb (Dm l p) by rw[h1])
 have h1:(Dm l p)=false:=h1;refine Xi .pure (Xi _ (Yi (cb h1 (show PC 158 [sl AK l,.clo 159 [.cptr [vs p]]] (vb (Dm l p))from od (fF:=159) (caps:=[.cptr [vs p]]) (fun c hc=>by obtain rfl:=As.1 hc;intro h;rfl) l (fun t=>decide (t.path=p)) (fun t _=>tH t p) hl)) ?_));exact .of_eq (show vb false=vb (Dm l p) by rw[h1])
theorem tG(roots:List Rq)(C A:List (Value×AV))(s:SS)(dec:List Cd)(st:List (List Sk))(p:ByteArray)(hl:Ci dec):Bj Tryz.prog 151 [.ref 1000 0,vs p] (Ap (Jq roots C A s dec st) Ab) fun r h'=>r=vb (Du dec p)∧h'=Ap (Jq roots C A s dec st) Ab:=by
 refine Cq (M4 ⟨[3],[],[],[],[],[],[],[],[],[],[]⟩) [(1000,1000),(1001,1001),(1002,1002),(1003,1003),(1004,1004)] rfl CX hm rfl Tryz.func151 (by kernel_rfl) rfl (Nz rfl) (by kernel_rfl) rfl ?_;refine Bp (Bt (Du dec p)) (fun h1=>?_) (fun h1=>?_)
 ·have h1:(Du dec p)=true:=h1;refine Xi .pure (Xi _ (Yi (cb h1 (show PC 193 [sl AI dec,.clo 194 [.cptr [vs p]]] (vb (Du dec p))from tJ (fF:=194) (caps:=[.cptr [vs p]]) (fun c hc=>by obtain rfl:=As.1 hc;intro h;rfl) dec (fun c=>decide (c.rel.path=p)) (fun c _=>tK c p) hl)) ?_));exact Xi _ (Yi (.refl _) (Yi (show vb true=vb (Du dec p) by rw[h1]) rfl))
 have h1:(Du dec p)=false:=h1;refine Xi .pure (Xi _ (Yi (cb h1 (show PC 193 [sl AI dec,.clo 194 [.cptr [vs p]]] (vb (Du dec p))from tJ (fF:=194) (caps:=[.cptr [vs p]]) (fun c hc=>by obtain rfl:=As.1 hc;intro h;rfl) dec (fun c=>decide (c.rel.path=p)) (fun c _=>tK c p) hl)) ?_));exact Xi _ (Yi (.refl _) (Yi (show vb false=vb (Du dec p) by rw[h1]) rfl))
theorem mE(roots:List Rq)(C A:List (Value×AV))(s:SS)(dec:List Cd)(st:List (List Sk))(i:Nf)(l:List Tm)(k:Nat)(hk:L7 i 0 s.infs=some k)(Sb:s.infs.Nodup):Bj Tryz.prog 154 [.ref 1000 0,.agg (B4 i),sl AK l] (Ap (Jq roots C A s dec st) Ab) fun r h'=>r=vi ((Em s i l).1:Nat)∧h'=Ap (Jq roots C A (Em s i l).2 dec st) Ab:=by
 refine Cq (M4 ⟨[4],[],[],[],[],[],[],[],[],[],[2,5,7,8,9,10,11]⟩) [(1000,1000),(1001,1001),(1002,1002),(1003,1003),(1004,1004)] rfl CX hm rfl Tryz.func154 (by kernel_rfl) rfl (Nz rfl) (by kernel_rfl) rfl ?_;refine Yi (Nz rfl) ?_;refine Or.inl (Xi (vi (k:Nat)) (Yi (Yi (sR hk) (lP Sb hk)) ?_));refine Yi (by kernel_rfl) ?_;refine Xi ⟨[(0,.ref 1000 0),(2,sl AK l),(4,.ref 4 0),(7,vi (k:Nat)),(8,vb true)],[(4,.ro (B4 i)),(1000,.cells (srM roots C A s dec 1004 st.length)),(1001,.tok 6 s.infs.length),(1002,.tok 1 s.drv.length),(1003,.map D4 (D6 0 s.infs)),(1004,.arr 1 (st.map AX))],Ab⟩ (Yi ⟨Z5,Z6,Fh,Az (by kernel_rfl)⟩ ?_)
 exact Xi _ (Yi (.refl _) (fB (XA hk) rfl))
theorem mD(roots:List Rq)(C A:List (Value×AV))(s:SS)(dec:List Cd)(st:List (List Sk))(i:Nf)(l:List Tm)(hk:L7 i 0 s.infs=none)(hn:s.infs.length≤65536)(hdl:s.drv.length=s.infs.length):Bj Tryz.prog 154 [.ref 1000 0,.agg (B4 i),sl AK l] (Ap (Jq roots C A s dec st) Ab) fun r h'=>r=vi ((Em s i l).1:Nat)∧h'=Ap (Jq roots C A (Em s i l).2 dec st) Ab:=by
 have hdn:s.drv.length≤65536:=by omega
 have zO:(s.infs.map B4).length=s.infs.length:=Lm _;refine Cq (M4 ⟨[4],[],[],[],[],[],[],[],[],[],[2,5,7,8,9,10,11]⟩) [(1000,1000),(1001,1001),(1002,1002),(1003,1003),(1004,1004)] rfl CX hm rfl Tryz.func154 (by kernel_rfl) rfl (Nz rfl) (by kernel_rfl) rfl ?_;refine Yi (Nz rfl) ?_;refine Or.inr (Yi (ny hk) ?_);refine Yi (by kernel_rfl) ?_;refine Xi ⟨[(0,.ref 1000 0),(2,sl AK l),(4,.ref 4 0),(7,vi 0),(8,vb false)],[(4,.ro (B4 i)),(1000,.cells (srM roots C A s dec 1004 st.length)),(1001,.tok 6 s.infs.length),(1002,.tok 1 s.drv.length),(1003,.map D4 (D6 0 s.infs)),(1004,.arr 1 (st.map AX))],Ab⟩ (Yi ⟨Z5,Z6,Fh,Az (by kernel_rfl)⟩ ?_)
 refine Yi (fun h1=>?_) (fun h1=>?_)
 ·have h1:(65536:Int)≤((s.infs.map B4).length:Int):=h1;refine Xi ⟨[(0,.ref 1000 0)],[(1000,.cells (srM roots C A s dec 1004 st.length)),(1001,.tok 6 s.infs.length),(1002,.tok 1 s.drv.length),(1003,.map D4 (D6 0 s.infs)),(1004,.arr 1 (st.map AX))],Ab⟩ (Yi ⟨Z1,Z5,Fh,Az (by kernel_rfl)⟩ ?_)
  refine Yi (Nz rfl) ?_;refine Yi (by show Bs (((s.infs.map B4).length:Int)-(1:Int));unfold Bs;omega) ?_;exact Xi _ (Yi (.refl _) (fB (Vb hk (by have q:=h1;rw[Lm]at q;omega)) (by have q:=h1;rw[Lm]at q⊢;omega)))
 have h1:¬((65536:Int)≤((s.infs.map B4).length:Int)):=h1;refine Xi ⟨[(0,.ref 1000 0),(2,sl AK l),(4,.ref 4 0)],[(4,.ro (B4 i)),(1000,.cells (srM roots C A s dec 1004 st.length)),(1001,.tok 6 s.infs.length),(1002,.tok 1 s.drv.length),(1003,.map D4 (D6 0 s.infs)),(1004,.arr 1 (st.map AX))],Ab⟩ (Yi ⟨Z3,Z6,Fh,Az (by kernel_rfl)⟩ ?_)
 refine Xi ⟨[(0,.ref 1000 0),(2,sl AK l),(4,.ref 4 0),(9,vi (s.infs.map B4).length)],[(4,.ro (B4 i)),(1000,.cells (srM roots C A s dec 1004 st.length)),(1001,.tok 6 s.infs.length),(1002,.tok 1 s.drv.length),(1003,.map D4 (D6 0 s.infs)),(1004,.arr 1 (st.map AX))],Ab⟩ (Yi ⟨Z4,Z6,Fh,Az (by kernel_rfl)⟩ ?_)
 refine Yi (Nz rfl) ?_;refine Yi (by kernel_rfl) ?_;refine Xi ⟨[(0,.ref 1000 0),(2,sl AK l),(4,.ref 4 0),(9,vi (s.infs.map B4).length)],[(4,.ro (B4 i)),(1000,.cells (srM roots C A s dec 1004 st.length)),(1001,.tok 6 s.infs.length),(1002,.tok 1 s.drv.length),(1003,.map D4 (E6 (D6 0 s.infs) (JK i) (vi (s.infs.map B4).length))),(1004,.arr 1 (st.map AX))],Ab⟩ (Yi ⟨Z4,Z6,Fh,Az (by kernel_rfl)⟩ ?_)
 refine Yi (Nz rfl) ?_;refine Yi (Mg rfl (by omega) (by decide)) ?_;refine Yi (Nz rfl) ?_;refine Yi (by kernel_rfl) ?_;refine Xi ⟨[(0,.ref 1000 0),(2,sl AK l),(9,vi (s.infs.map B4).length)],[(1000,.cells [sl AM roots,.cmap Dn C,.cmap Dn A,.slice (.id 1001 6) ((s.infs.map B4)++[(B4 i)]),.slice (.id 1002 1) (s.drv.map Cj),.mref 1003,vb s.full,sl AI dec,sl Ae (AO dec),.msl 1004 st.length]),(1001,.tok 6 ((s.infs.map B4).length+([(B4 i)]:List (List AV)).length)),(1002,.tok 1 s.drv.length),(1003,.map D4 (E6 (D6 0 s.infs) (JK i) (vi (s.infs.map B4).length))),(1004,.arr 1 (st.map AX))],Ab⟩ (Yi ⟨Z3,Z5,Fh,Az (by kernel_rfl)⟩ ?_)
 refine Yi (Mg rfl (by omega) (by decide)) ?_;refine Yi (Nz rfl) ?_;refine Xi ⟨[(9,vi (s.infs.map B4).length)],[(1000,.cells [sl AM roots,.cmap Dn C,.cmap Dn A,.slice (.id 1001 6) ((s.infs.map B4)++[(B4 i)]),.slice (.id 1002 1) ((s.drv.map Cj)++[[sl AK l]]),.mref 1003,vb s.full,sl AI dec,sl Ae (AO dec),.msl 1004 st.length]),(1001,.tok 6 ((s.infs.map B4).length+([(B4 i)]:List (List AV)).length)),(1002,.tok 1 ((s.drv.map Cj).length+([[sl AK l]]:List (List AV)).length)),(1003,.map D4 (E6 (D6 0 s.infs) (JK i) (vi (s.infs.map B4).length))),(1004,.arr 1 (st.map AX))],Ab⟩ (Yi ⟨Z1,Z5,Fh,Az (by kernel_rfl)⟩ ?_)
 have hq:=fB (roots:=roots) (C:=C) (A:=A) (dec:=dec) (st:=st) (z:=((s.infs.map B4).length:Int)) (Xz (l:=l) hk (by have q:=h1;rw[Lm]at q;omega)) (by rw[Lm]);exact Xi _ (Yi (.refl _) (Yi hq.1 ((qN hk).trans hq.2)))
structure JY(x:List Rl)(roots:List Rq)(s:SS):Prop where
 der:FD x roots s
 nodup:s.infs.Nodup
abbrev nJ(roots:List Rq)(C A:List (Value×AV))(dec:List Cd)(st:List (List Sk))(o:Nat×SS)(r:AV)(h' : Nat→HO):Prop:=r=vi (o.1:Nat)∧h'=Ap (Jq roots C A o.2 dec st) Ab
theorem mB(roots:List Rq)(C A:List (Value×AV))(s:SS)(dec:List Cd)(st:List (List Sk))(i:Nf)(l:List Tm)(hn:s.infs.length≤65536)(hdl:s.drv.length=s.infs.length)(Sb:s.infs.Nodup) :
  Bj Tryz.prog 154 [.ref 1000 0,.agg (B4 i),sl AK l] (Ap (Jq roots C A s dec st) Ab) (nJ roots C A dec st (Em s i l)):=by
 cases hk:L7 i 0 s.infs with
 |some k=>exact mE roots C A s dec st i l k hk Sb
 |none=>exact mD roots C A s dec st i l hk hn hdl
end Go.Eng
