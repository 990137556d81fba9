/- Lemmas 24. -/
import Derived.Test.YteaiieomnhbmgaaGreatDoorEA23
set_option maxHeartbeats 4000000
namespace Go.Eng
open Go.Proofs
variable {i:Nat}(l m:List Sl)(p:ByteArray)
structure Mv where
 path:ByteArray
 a:Int
 b:Int
abbrev Hz(m:Mv):List AV:=[vs m.path,vi m.a,vi m.b]
abbrev plP(s:Sl):Value×AV:=(.string s.path,vi (place s.ver))
abbrev Ie:List (Value×AV):=l.map plP
def Jo:Int:=match B2 l p with | some s=>place s.ver | none=>-1
def Jy:Option Mv:=if Jo l p≠Jo m p then some ⟨p,Jo l p,Jo m p⟩else none
abbrev Iw(ps:List ByteArray):List Mv:=ps.filterMap (Jy l m)
structure IL(l:List Sl):Prop where
 few:B8 l
 val:∀s∈l,Cz s.ver=true
 inc:l.Pairwise Vi
theorem IL.step{l:List Sl}(h:IL l)(hi:i<l.length)(h0:0<i):Ef (l[i-1]' ch).path l[i].path=true:=(AT.1 h.inc) (i-1) i ch hi ch
theorem nT{l:List Sl}(h:IL l)(hi:i<l.length):∀b,(Value.string l[i].path,b)∉Ie (l.take i):=fun b hb=>by
 obtain⟨s,hs,e⟩:=Ai.1 hb;obtain⟨j,hj,rfl⟩:=BU.1 hs;rw[GN]at e;rw[Aw]at hj;have q:=(AT.1 h.inc) j i ch hi ch;have e2:l[j].path=l[i].path:=by injection e with e1;injection e1
 rw[Vi,e2,Dm]at q;cases q
theorem vB{l:List Sl}(h:IL l){p:ByteArray}{a:AV}(ha:(Value.string p,a)∈Ie l):a=vi (Jo l p):=by
 obtain⟨s,hs,e⟩:=Ai.1 ha;have e1:s.path=p:=by injection e with e1;injection e1
 have e2:vi (place s.ver)=a:=by injection e
 rw[<-e2];unfold Jo;rw[<-e1,Kd (RE ocP h.inc) hs]
theorem vC{l:List Sl}{p:ByteArray}(h:∀a,(Value.string p,a)∉Ie l):Jo l p=-1:=by
 unfold Jo;rw[show B2 l p=none from DU.2 fun s hs e=>h _ (Ai.2 ⟨s,hs,by rw[<-AK e]⟩)]
theorem gm{l m:List Sl}{ps:List ByteArray}{k:Nat}(h:k<ps.length):Iw l m (ps.take (k+1))=Iw l m (ps.take k)++(Jy l m ps[k]).toList:=by
 unfold Iw;rw[Ek h,List.filterMap_append]
 congr 1
theorem re(hl:IL l):Bc Tryz.prog 181 [sl Ae l] (Ap [] Af) fun r h'=>r=.tup [.mref 2000,vb true]/\h'=Ap [(2000,.map Cr (Ie l))] Af:=by
 have hfl:l.length<=1073741824:=hl.few;refine Cu (M2 Ej) [(9,2000)] rfl CW hm rfl Tryz.func181 Wk rfl (Nz rfl) Wk rfl (Xi {q:Nat // q<=l.length} (Xi (fun q=>⟨[(0,sl Ae l),(4,.mref 9),(10,sl Ae l),(11,vi (l.map Ae).length),(12,vi q.1)],[(9,.map Cr (Ie (l.take q.1)))],Af⟩) (Xi (fun q=>l.length-q.1) (Yi (Xi ⟨0,AA _⟩ ?_) ?_))))
 .exact⟨Z5,Z1,Fh,BP Wk⟩
 intro⟨i,i1⟩;refine Yi (fun h1=>?_) (fun h1=>?_)
 .have h1:(i:Int)<((l.map Ae).length:Int):=h1;have n1:=EE h1;refine Xi (Ae l[i]) (Yi (IU n1) (Yi rfl (yN (yN (yN (Xi .pure (Xi _ (Yi (by have q:=wH l[i].ver;rw[Ao (hl.val _ (Al n1)),Ao (hl.val _ (Al n1))]at q;exact q) ?_))))))));refine Yi (fun h=>absurd h Cl) (fun _=>?_);refine Yi (fun h2=>?_) (fun h2=>?_)
  .have h2:(0:Int)<(i:Int):=h2;refine Yi (by show Ba ((i:Int)-(1:Int));unfold Ba;omega) ?_;have sN:0<i:=by omega
   refine Xi (Ae (l[i-1])) (Yi (Yi (show(0:Int)<=(i:Int)-1 by omega) (by rw[show((i:Int)-1).toNat=i-1 by omega];exact Ed (Ge ch))) (Yi rfl ?_));refine Yi (fun h3=>?_) (fun h3=>?_)
   .have h3:Ef (l[i-1]).path l[i].path=false:=(Gk _ _).trans h3;exact absurd (hl.step n1 sN) (by rw[h3];decide)
   refine Yi Wk (Yi (Ii i ch) (Xi ⟨i+1,n1⟩ ?_));exact⟨Dl l.length i ch,Z5,⟨⟨(show HO.map Cr (E4 (Ie (l.take i)) (.string l[i].path) (vi (place l[i].ver)))=.map Cr (Ie (l.take (i+1))) by rw[IY (nT hl n1),Ek n1];unfold Ie;rw[As];rfl),rfl⟩,Tv⟩,Fh,BP Wk⟩
  refine Yi Wk (Yi (Ii i ch) (Xi ⟨i+1,n1⟩ ?_));exact⟨Dl l.length i ch,Z5,⟨⟨(show HO.map Cr (E4 (Ie (l.take i)) (.string l[i].path) (vi (place l[i].ver)))=.map Cr (Ie (l.take (i+1))) by rw[IY (nT hl n1),Ek n1];unfold Ie;rw[As];rfl),rfl⟩,Tv⟩,Fh,BP Wk⟩
 have h1:¬((i:Int)<((l.map Ae).length:Int)):=h1;have n1:=Dd h1;have ei:l.take i=l:=At (by have q:=h1;rw[Lm]at q;omega);exact Xi _ (Yi (.refl _) ⟨rfl,show Ap [(2000,HO.map Cr (Ie (l.take i)))] Af=Ap [(2000,.map Cr (Ie l))] Af by rw[ei]⟩)
theorem zk(hl:IL l):PC 182 [.cmap Cr (Ie l),vs p] (vi (Jo l p)):=by
 refine Ps Ej Tryz.func182 rfl (Nz rfl) (Yi (fun a ha=>?_) (fun Ob=>?_))
 .have ea:=vB hl ha;subst ea;exact .refl _
 exact .of_eq (show vi (-1)=vi (Jo l p) by rw[vC Ob])
theorem o75(t:List ByteArray)(hl:IL l)(hm2:IL m)(hfs:l.length+m.length<=1073741824)(DD:l++m≠[])(hp:t.Perm ((l++m).map (·.path)))(ht:(t.map KJ).Pairwise fun a b=>a<=b):PC 130 [sl Ae l,sl Ae m] (.tup [sl Hz (Iw l m (Cm t)),vi 0]):=by
 obtain⟨LM,ux⟩:∃LM,LM=l++m:=⟨_,rfl⟩;have hm:=hm2;rw[<-ux]at hp;have hLl:LM.length=l.length+m.length:=by rw[ux,Ac]
 refine F8 (iN ⟨[],[(14,3)],[(10,1)],[(34,[12000,12500])],[],[],[],[],[],[],[6,7,8,9,11,13,14,15,16,17,18,19,21]⟩) rfl CW Go.Eng.hm rfl Tryz.func130 Wk rfl (Nz rfl) Wk (Xi (.gen [] 1) (Yi rfl (Bc.to2 (re l hl) ?_)));refine Xi (.gen [] 1) (Yi rfl (Bc.to2 (re m hm) ?_));refine cU [(0,sl Ae l),(1,sl Ae m),(6,.mref 12000),(8,.mref 12500),(10,.msl 10 0)] [(10,.arr 1 []),(12000,.map Cr (Ie l)),(12500,.map Cr (Ie m))] Z5 Z3 (Xi (.gen [] 1) (Yi rfl (Bc.to2 (uh l hl.few) ?_)));have b4:Cf 4 (m.map Ae)/\(l.map Ae).length=(l.map Ae).length/\((l.map Ae).length+(m.map Ae).length)*40<=140737488355328/\(l.map Ae).length+(m.map Ae).length<=9223372036854775807:=⟨(DK (enc:=Ae) (n:=4) (fun _=>rfl) m),rfl,(by simp only[Lm];omega),(by simp only[Lm];omega)⟩;refine Yi b4 (Xi {q:Nat×List ByteArray // q.1<=LM.length/\q.2=(LM.take q.1).map (·.path)} (Xi (fun q=>⟨[(6,.mref 12000),(8,.mref 12500),(10,.msl 10 q.1.2.length),(37,.slice (.id 13500 4) (LM.map Ae)),(38,vi (LM.length:Nat)),(39,vi q.1.1)],[(10,.arr 1 (q.1.2.map Ax)),(12000,.rom Cr (Ie l)),(12500,.rom Cr (Ie m)),(13500,.tok 4 LM.length)],Af⟩) (Xi (fun q=>LM.length-q.1.1) (Yi (Xi ⟨(0,[]),AA _,rfl⟩ ?_) ?_))))
 .exact⟨⟨Zr,Zr,Zr,⟨(show AV.slice (.id 13500 4) (l.map Ae++m.map Ae)=.slice (.id 13500 4) (LM.map Ae) by rw[ux,As]),rfl⟩,⟨(show vi ((l.map Ae++m.map Ae:List (List AV)).length:Int)=vi ((LM.length:Nat):Int) by rw[ux,Ac,Ac,Lm,Lm]),rfl⟩,Zr,Tv⟩,⟨Zr,Zr,Zr,⟨(show HO.tok 4 ((l.map Ae).length+(m.map Ae).length)=.tok 4 LM.length by rw[ux,Ac,Lm,Lm]),rfl⟩,Tv⟩,Fh,Tv⟩
 intro⟨⟨i,P⟩,i1,i2⟩;have i2:P=(LM.take i).map (·.path):=i2;have i3:P.length<=i:=by rw[i2,Lm,Aw];omega
 refine cU [(6,.mref 12000),(8,.mref 12500),(10,.msl 10 P.length),(37,.slice (.id 13500 4) (LM.map Ae)),(38,vi (LM.length:Nat)),(39,vi i)] [(10,.arr 1 (P.map Ax)),(12000,.rom Cr (Ie l)),(12500,.rom Cr (Ie m)),(13500,.tok 4 LM.length)] Z6 Z4 (Yi (fun h5=>?_) (fun h5=>?_))
 .have n5:i<LM.length:=by omega
  refine cU [(6,.mref 12000),(8,.mref 12500),(10,.msl 10 P.length),(37,.slice (.id 13500 4) (LM.map Ae)),(38,vi (LM.length:Nat)),(39,vi i)] [(10,.arr 1 (P.map Ax)),(12000,.rom Cr (Ie l)),(12500,.rom Cr (Ie m)),(13500,.tok 4 LM.length)] Z6 Z4 (Xi (Ae LM[i]) (Yi (IU n5) (Yi rfl (yN (yN (cU [(6,.mref 12000),(8,.mref 12500),(10,.msl 10 P.length),(12,.ref 12 0),(37,.slice (.id 13500 4) (LM.map Ae)),(38,vi (LM.length:Nat)),(39,vi i)] [(10,.arr 1 (P.map Ax)),(12,.cells (Ae LM[i])),(12000,.rom Cr (Ie l)),(12500,.rom Cr (Ie m)),(13500,.tok 4 LM.length)] Z7 Z5 ?_))))))
  have b6:Cf 1 [[vs LM[i].path]]/\(P.map Ax).length=P.length/\((P.map Ax).length+([[vs LM[i].path]]:List (List AV)).length)*16<=140737488355328/\(P.map Ax).length+([[vs LM[i].path]]:List (List AV)).length<=9223372036854775807:=⟨⟨rfl,trivial⟩,(by rw[Lm]),(by simp only[Lm,Am,Au];omega),(by simp only[Lm,Am,Au];omega)⟩;refine Yi b6 (Yi (Ii i ch) (Xi ⟨(i+1,P++[LM[i].path]),n5,by show P++[LM[i].path]=_;rw[Ek n5,As,i2];rfl⟩ ?_));exact⟨Dl LM.length i ch,⟨Zr,Zr,⟨(show AV.msl 10 ((P.map Ax).length+([[vs LM[i].path]]:List (List AV)).length)=.msl 10 (P++[LM[i].path]).length by rw[Ac,Lm];rfl),rfl⟩,Zr,Zr,Zr,Tv⟩,⟨⟨(show HO.arr 1 (P.map Ax++[[vs LM[i].path]])=.arr 1 ((P++[LM[i].path]).map Ax) by rw[As];rfl),rfl⟩,Zr,Zr,Zr,Tv⟩,Fh,Tv⟩
 have hPe:P=LM.map (·.path):=by rw[i2,At (by have q:=h5;omega)]
 have hPf:B8 P:=by unfold B8;rw[hPe,Lm,ux,Ac];exact hfs
 have hPn:P≠[]:=fun e=>by rw[hPe]at e;exact DD (by rw[<-ux];exact DJ.1 e)
 have hPt:t.length=P.length:=by rw[hPe];exact hp.length_eq
 have uW:t.length<=1073741824:=by rw[hPt];exact hPf
 have htn:t≠[]:=fun e=>hPn (AQ (by rw[<-hPt,e];rfl));have hcl:(Cm t).length<=t.length:=by unfold Cm;rw[Lm];exact AG (M0 _) (by rw[Lm];exact Ak _)
 refine cU [(6,.mref 12000),(8,.mref 12500),(10,.msl 10 P.length)] [(10,.arr 1 (P.map Ax)),(12000,.rom Cr (Ie l)),(12500,.rom Cr (Ie m))] Z3 Z3 (Xi (.gen [(10,1000)] 0) (Yi rfl (Bc.to2 (zj P t hPf hPn (by rw[hPe];exact hp) ht) ?_)));refine cU [(6,.mref 12000),(8,.mref 12500),(10,.msl 10 P.length),(13,.v (.func (.func 182) #[] #[]))] [(10,.arr 1 (t.map Ax)),(12000,.rom Cr (Ie l)),(12500,.rom Cr (Ie m))] Z4 Z3 (cU [(6,.mref 12000),(8,.mref 12500),(10,.msl 10 t.length),(13,.v (.func (.func 182) #[] #[])),(14,.slice (.id 14 3) [])] [(10,.arr 1 (t.map Ax)),(14,.tok 3 0),(12000,.rom Cr (Ie l)),(12500,.rom Cr (Ie m))] ⟨Zr,Zr,⟨(Aa (AV.msl 10) hPt.symm),rfl⟩,Zr,Zr,Tv⟩ Z4 (Xi (.gen [(10,1000)] 1) (Yi rfl (Bc.to2 (AdA t (by unfold B8;omega) htn) ?_))));refine Xi {q:Nat×List Mv // q.1<=(Cm t).length/\q.2=Iw l m ((Cm t).take q.1)} (Xi (fun q=>⟨[(6,.mref 12000),(8,.mref 12500),(13,.v (.func (.func 182) #[] #[])),(14,.slice (.id 14 3) (q.1.2.map Hz)),(52,.msl 15200 (Cm t).length),(53,vi (Cm t).length),(54,vi q.1.1)],[(14,.tok 3 q.1.2.length),(12000,.rom Cr (Ie l)),(12500,.rom Cr (Ie m)),(15200,.arr 1 ((Cm t).map Ax))],Af⟩) (Xi (fun q=>(Cm t).length-q.1.1) (Yi (Xi ⟨(0,[]),AA _,rfl⟩ ?_) ?_)))
 .exact⟨Z7,Z4,Fh,Tv⟩
 intro⟨⟨k,O⟩,k1,k2⟩;have k2:O=Iw l m ((Cm t).take k):=k2;have k3:O.length<=k:=by rw[k2];exact AG (List.length_filterMap_le ..) (by rw[Aw];omega)
 refine cU [(6,.mref 12000),(8,.mref 12500),(13,.v (.func (.func 182) #[] #[])),(14,.slice (.id 14 3) (O.map Hz)),(52,.msl 15200 (Cm t).length),(53,vi (Cm t).length),(54,vi k)] [(14,.tok 3 O.length),(12000,.rom Cr (Ie l)),(12500,.rom Cr (Ie m)),(15200,.arr 1 ((Cm t).map Ax))] Z7 Z4 (Yi (fun NR=>?_) (fun NR=>?_))
 .have nb:k<(Cm t).length:=by omega
  have n10:=nb;have gb:(Cm t)[k]?=some (Cm t)[k]:=Ge nb;refine cU [(6,.mref 12000),(8,.mref 12500),(13,.v (.func (.func 182) #[] #[])),(14,.slice (.id 14 3) (O.map Hz)),(52,.msl 15200 (Cm t).length),(53,vi (Cm t).length),(54,vi k)] [(14,.tok 3 O.length),(12000,.rom Cr (Ie l)),(12500,.rom Cr (Ie m)),(15200,.arr 1 ((Cm t).map Ax))] Z7 Z4 (Yi (by show(0:Int)<=k/\(k:Int)<((Cm t).length:Nat);omega) (Yi (show(Cm t).length=((Cm t).map Ax).length by rw[Lm]) (Xi (Ax ((Cm t)[k])) (Yi (Ed gb) (cU [(6,.mref 12000),(8,.mref 12500),(13,.v (.func (.func 182) #[] #[])),(14,.slice (.id 14 3) (O.map Hz)),(16,vs ((Cm t)[k])),(52,.msl 15200 (Cm t).length),(53,vi (Cm t).length),(54,vi k)] [(14,.tok 3 O.length),(12000,.rom Cr (Ie l)),(12500,.rom Cr (Ie m)),(15200,.arr 1 ((Cm t).map Ax))] Z8 Z4 (Xi .pure (Xi _ (Yi (zk l (Cm t)[k] hl) (Xi .pure (Xi _ (Yi (zk m (Cm t)[k] hm) (yN (cU [(6,.mref 12000),(8,.mref 12500),(13,.v (.func (.func 182) #[] #[])),(14,.slice (.id 14 3) (O.map Hz)),(17,.ref 17 0),(52,.msl 15200 (Cm t).length),(53,vi (Cm t).length),(54,vi k)] [(14,.tok 3 O.length),(17,.cells [vs ((Cm t)[k]),vi (Jo l (Cm t)[k]),vi (Jo m (Cm t)[k])]),(12000,.rom Cr (Ie l)),(12500,.rom Cr (Ie m)),(15200,.arr 1 ((Cm t).map Ax))] Z8 Z5 (Yi (fun MB=>?_) (fun MB=>?_)))))))))))))))
  .refine cU [(6,.mref 12000),(8,.mref 12500),(13,.v (.func (.func 182) #[] #[])),(14,.slice (.id 14 3) (O.map Hz)),(17,.ref 17 0),(52,.msl 15200 (Cm t).length),(53,vi (Cm t).length),(54,vi k)] [(14,.tok 3 O.length),(17,.cells [vs ((Cm t)[k]),vi (Jo l (Cm t)[k]),vi (Jo m (Cm t)[k])]),(12000,.rom Cr (Ie l)),(12500,.rom Cr (Ie m)),(15200,.arr 1 ((Cm t).map Ax))] Z8 Z5 (yN (Yi (kD rfl ch Cl) (Yi (Ii k ch) ?_)));have eO:=gm (l:=l) (m:=m) n10;have eM:Jy l m (Cm t)[k]=some ⟨(Cm t)[k],(Jo l (Cm t)[k]),(Jo m (Cm t)[k])⟩:=Ao MB;rw[eM]at eO;refine Xi ⟨(k+1,(O++[(⟨(Cm t)[k],(Jo l (Cm t)[k]),(Jo m (Cm t)[k])⟩:Mv)])),n10,by show(O++[(⟨(Cm t)[k],(Jo l (Cm t)[k]),(Jo m (Cm t)[k])⟩:Mv)])=_;rw[eO,k2];rfl⟩ ?_;exact⟨by show(Cm t).length-(k+1)<(Cm t).length-k;omega,⟨Zr,Zr,Zr,⟨(show AV.slice (.id 14 3) (O.map Hz++[[vs (Cm t)[k],vi (Jo l (Cm t)[k]),vi (Jo m (Cm t)[k])]])=.slice (.id 14 3) ((O++[(⟨(Cm t)[k],(Jo l (Cm t)[k]),(Jo m (Cm t)[k])⟩:Mv)]).map Hz) by rw[As];rfl),rfl⟩,Zr,Zr,Zr,Tv⟩,⟨⟨hkA,rfl⟩,Zr,Zr,Zr,Tv⟩,Fh,Tv⟩
  have MB:((Jo l (Cm t)[k]):Int)=((Jo m (Cm t)[k]):Int):=AJ MB;refine Yi (Ii k ch) ?_;have eO:=gm (l:=l) (m:=m) n10;have eM:Jy l m (Cm t)[k]=none:=Aj (fun c=>c MB);rw[eM]at eO;rw[show(none:Option Mv).toList=[]from rfl,BM]at eO;refine Xi ⟨(k+1,O),n10,by show O=_;rw[eO,k2]⟩ ?_;exact⟨by show(Cm t).length-(k+1)<(Cm t).length-k;omega,Z7,Z4,Fh,Tv⟩
 refine cU [(14,.slice (.id 14 3) (O.map Hz))] [(14,.tok 3 O.length)] Z1 Z1 ?_
 have ek:(Cm t).take k=Cm t:=At ch;have eO:O=Iw l m (Cm t):=by rw[k2,ek]
 exact .of_eq (Aa (fun z=>AV.tup [sl Hz z,vi 0]) eO)
end Go.Eng
namespace Go.Proofs
open Go.Shelf Go.RowKit Go.Lib Go.Sort
abbrev OneC:Type:={v:Value // v.oneCell'=true}
def SlA:Type:=ByteArray×OneC×OneC×OneC
instance:Inhabited SlA:=⟨⟨ByteArray.empty,⟨.bool false,rfl⟩,⟨.bool false,rfl⟩,⟨.bool false,rfl⟩⟩⟩
def encSlA(x:SlA):List Value:=[.string x.1,x.2.1.1,x.2.2.1.1,x.2.2.2.1]
def cfSlA(x y:SlA):Int:=Lib.compareBytes x.1.data.toList y.1.data.toList
abbrev CmpSlG(cf:SlA->SlA->Int)(k:Nat):Prop:=∀(x y:SlA) (W:World),Calls Tryz.prog k #[.agg #[.string x.1,x.2.1.1,x.2.2.1.1,x.2.2.2.1],.agg #[.string y.1,y.2.1.1,y.2.2.1.1,y.2.2.2.1]] W fun e w'=>e=.returned (.int .i64 (cf x y))/\∃q os',w'=grow (W.drewN q) os'
abbrev CmpSlA(k:Nat):Prop:=CmpSlG cfSlA k
theorem Tryz.closure139:CmpSlA 139:=fun x y W=>by
 have hcon:=fun W'=>Any.strings_Compare Tryz.layCompare x.1 y.1 W';obtain⟨a,⟨b,hb⟩,⟨c,hc⟩,⟨d,hd⟩⟩:=x;obtain⟨a',⟨b',sI⟩,⟨c',uB⟩,⟨d',pk⟩⟩:=y;dsimp only at hcon
 change ∀W',Calls Tryz.prog 140 _ _ _ at hcon
 unfold cfSlA;dsimp only;generalize Lib.compareBytes a.data.toList a'.data.toList=r at hcon⊢
 go_enter Tryz.func139,Tryz.ntmps139
 go_wp2_with (go_at_call 140;refine(hcon _).mono ?_;rintro e w' ⟨rfl,rfl⟩)
 go_ret
 exact⟨rfl,0,_,by rw[alloc_eq_grow,alloc_eq_grow,grow_grow];rfl⟩
end Go.Proofs
namespace Go.Eng
open Go.Proofs Go.Shelf Go.RowKit Go.Lib Go.Sort
theorem zd(x y:SlA):ltOf cfSlA x y=Ef x.1 y.1:=Vg _ _
section
variable {cf:SlA->SlA->Int}(DE:∀x y,ltOf cf x y=Ef x.1 y.1)
include DE
theorem oA:SWO (ltOf cf) where
 irrefl x:=by rw[DE];exact Dm _
 trans x y z h1 h2:=by rw[DE]at *;exact D6 h1 h2
 ntrans x y z h1 h2:=by
  rw[DE]at *
  rw[AN];intro h;cases w8:Ef y.1 x.1 with
  |true=>have:=D6 w8 h;rw[h2]at this;cases this
  |false=>
   have e:=Ik h1 w8;rw[e]at h;rw[h2]at h;cases h
theorem Aev(k:Nat)(hc:CmpSlG cf k)(eg:∀args w,(callFunc k args).run Tryz.prog w=.ok (.enter k args) w)(l:List Sl)(hl:B8 l)(lim:Nat)(aM:lim<100) :
  Bc Tryz.prog 184 [.msl 1000 l.length,vi 0,vi l.length,vi lim,.v (YK k)] (Ap [(1000,.arr 4 (l.map Ae))] Af) fun r h'=>
   r=.tup []/\∃l' : List Sl,l'.Perm l/\l'.Pairwise (fun x y=>Ef y.path x.path=false)/\h'=Ap [(1000,.arr 4 (l'.map Ae))] Af:=by
 have hl:l.length<=1073741824:=hl;have hE:F1 Tryz.prog 184:=ah 184 Tryz.func184 Wk rfl;have H4:=J8 (P:=Tryz.prog) (f:=184) (α:=SlA) (rest:=[.int .i64 0,.int .i64 l.length,.int .i64 lim,YK k]) hE Ae encSlA (k:=4) (fun _=>rfl) (fun _=>rfl) (ltOf cf) (fun x a=>a.1=x.path) l ch ?_ ?_ ?_
 .refine⟨hE,fun g w vals q1 q2 q3=>(H4.2 g w vals q1 q2 q3).mono fun _ _ ⟨v,r,h',g',e1,⟨e2,l',p1,⟨al,a1,a2,a3⟩,p2⟩,rest⟩=>⟨v,r,h',g',e1,⟨e2,l',p1,?_,p2⟩,rest⟩⟩;rw[AT]at a3⊢;intro i j hi hj Pt
  have:=a3 i j ch ch Pt
  rw[DE]at this;have e1:=a2 i _ _ (Ge hi) (Ge ch);have e2:=a2 j _ _ (Ge hj) (Ge ch);rw[<-e1,<-e2];exact this
 .intro x hx g w vs hr
  match vs,hr with
  | [a,b,c,d],hr=>
   have h1:=(hr.2.2 0 (Go.Eng.vs x.path) a rfl rfl).v_eq;subst h1;exact⟨⟨x.path,⟨b,hr.2.1 b B0⟩,⟨c,hr.2.1 c B0⟩,⟨d,hr.2.1 d B0⟩⟩,rfl,rfl⟩
  | [],hr=>have:=hr.1;simp at this
  | [_],hr=>have:=hr.1;simp at this
  | [_,_],hr=>have:=hr.1;simp at this
  | [_,_,_],hr=>have:=hr.1;simp at this
  |_::_::_::_::_::_,hr=>have:=hr.1;simp at this
 .intro w b cap d hH hb ET hdl;have mw:CmpLays Tryz.prog k #[] encSlA 4 cf b 0 d.size w:=fun _ _ _ _ x y=>hc x y _;have hp:=AnyQ.pdqsortCmpFunc_all Tryz.layPdqSel 4 Tryz.isAgg48 Tryz.sizeOf48 encSlA cf k #[] (oA DE) b 0 cap d w eg mw ⟨fun _=>rfl,fun x v hv=>by
    simp only[encSlA,AC,ML,or_false]at hv;rcases hv with rfl | rfl | rfl | rfl
    .rfl
    .exact x.2.1.2
    .exact x.2.2.1.2
    .exact x.2.2.2.2,hH,hb⟩ (d.size+1) 0 d.size lim d w ch rfl (SWK.start hH) (AA _) (Ak _) ET ch (Or.inl rfl)
  rw[hdl]at hp⊢;refine hp.mono ?_
  rintro e w' ⟨rfl,n,os,rfl⟩
  have h:=pdq_sorts (ltOf cf) (oA DE) d 0 d.size lim true true (AA _) (Ak _) (Or.inl rfl);rw[hdl]at h;exact⟨rfl,_,n,os,h.1,h.2,rfl⟩
 .intro e w;subst e;exact AnyF.pdqsortCmpFunc_none Tryz.layPdqSel none 0 lim (YK k) w
end
theorem Ln{l l' : List Sl}(h1:Yb l)(h2:Yb l')(hm:∀y,y∈l↔y∈l'):l=l':=by
 induction l generalizing l' with
 |nil=>
  cases l' with
  |nil=>rfl
  |cons y l'=>have:=(hm y).2 (Ab ..);cases this
 |cons x l ih=>
  cases l' with
  |nil=>have:=(hm x).1 (Ab ..);cases this
  |cons y l'=>
   obtain⟨a1,a2⟩:=BH.1 h1;obtain⟨b1,b2⟩:=BH.1 h2;have e:x=y:=by
    rcases AC.1 ((hm x).1 (Ab ..))with e | e
    .exact e
    .rcases AC.1 ((hm y).2 (Ab ..))with e2 | e2
     .exact e2.symm
     .have c1:=b1 x e;have c2:=a1 y e2
      have:=D6 c1 c2
      rw[Dm]at this;cases this
   subst e
   congr 1
   refine ih a2 b2 fun z=>⟨fun hz=>?_,fun hz=>?_⟩
   .rcases AC.1 ((hm z).1 (Ah _ hz))with e | e
    .subst e
     have:=a1 z hz
     rw[Dm]at this;cases this
    .exact e
   .rcases AC.1 ((hm z).2 (Ah _ hz))with e | e
    .subst e
     have:=b1 z hz
     rw[Dm]at this;cases this
    .exact e
theorem ot{l l' : List Sl}(hn:(l.map (·.path)).Nodup)(hp:l'.Perm l)(hs:l'.Pairwise fun x y=>Ef y.path x.path=false):l'=D5 l:=by
 refine Ln ?_ (LR hn) fun y=>by rw[hp.mem_iff,GA]
 have aP : (l'.map (·.path)).Nodup:=(hp.map (·.path)).nodup_iff.2 hn;show l'.Pairwise _;rw[AT]at hs⊢;intro i j hi hj Pt;cases hb:Ef l'[i].path l'[j].path with
 |true=>rfl
 |false=>
  have e:=Ik hb (hs i j hi hj Pt)
  have:=(AT.1 aP) i j (by simpa using hi) (by simpa using hj) Pt
  simp at this;exact absurd e this
theorem zS{cf:SlA->SlA->Int}(DE:∀x y,ltOf cf x y=Ef x.1 y.1)(k:Nat)(hc:CmpSlG cf k)(eg:∀args w,(callFunc k args).run Tryz.prog w=.ok (.enter k args) w)(l:List Sl)(hl:B8 l)(hn:(l.map (·.path)).Nodup) :
  Bc Tryz.prog 133 [.msl 1000 l.length,.v (YK k)] (Ap [(1000,.arr 4 (l.map Ae))] Af) fun r h'=>
   r=.tup []/\h'=Ap [(1000,.arr 4 ((D5 l).map Ae))] Af:=by
 obtain⟨lim,aM,hb⟩:=lr l.length hl;refine Cu (M2 Ej) [(1000,1000)] rfl CW hm rfl Tryz.func133 Wk rfl (Nz rfl) Wk rfl (Xi .pure (Xi _ (Yi (hb) (Xi (.gen [(1000,1000)] 0) (Yi rfl ((Aev DE k hc eg l hl lim aM).imp ?_))))));intro r h' hq;refine CR hq.2 (fun l' Ry=>?_);have e:=ot hn Ry.1 Ry.2.1;refine Xi (.tup []) (Yi ?_ (Yi rfl ?_))
 .exact .refl _
 .rw[Ry.2.2,e];rfl
theorem s47(k:Nat)(hc:CmpSlA k)(eg:∀args w,(callFunc k args).run Tryz.prog w=.ok (.enter k args) w)(l:List Sl)(hl:B8 l)(hn:(l.map (·.path)).Nodup) :
  Bc Tryz.prog 133 [.msl 1000 l.length,.v (YK k)] (Ap [(1000,.arr 4 (l.map Ae))] Af) fun r h'=>
   r=.tup []/\h'=Ap [(1000,.arr 4 ((D5 l).map Ae))] Af:=
 zS zd k hc eg l hl hn
end Go.Eng
namespace Go.Eng
open Go.Proofs
variable {l:List Nf}{i:Nf}{caps:List AV}{k fF:Nat}(roots:List Rq)(C A:List (Value×AV))(s:SS)(dec:List Cd)(st:List (List Sk))(S:List Sl)(n:Nd)(c:Cd)
abbrev AX:List AV:=vi c.place::AF c.rel
abbrev BG:List AV:=[vs n.rq.path,sl AE n.rq.set,vs n.path,vi n.place,vi n.number]
abbrev Bq(l:List Sk):List AV:=[sl CD l]
abbrev Da(i:Nat):List AV:=[vi (i:Nat)]
def FS:E9:=⟨true,[.int .i64,.str,.int .i64,.int .i64,.int .i64,.int .i64]⟩
def MF(i:Nf):Value:=.agg [.int .i64 i.kind,.string i.path,.int .i64 i.place,.int .i64 i.number,.int .i64 i.left,.int .i64 i.right].toArray
def FY:Nat->List Nf->List (Value×AV)
 |_,[]=>[]
 |k,i::l=>(MF i,vi (k:Nat))::FY (k+1) l
abbrev srC(n:Nat):List AV:=
 [sl A8 roots,.cmap Cr C,.cmap Cr A,.slice (.id 1001 6) (s.infs.map Dw),.slice (.id 1002 1) (s.drv.map Dn),.mref 1003,vb s.full,sl AX dec,sl Ae (AU dec),.msl 1004 n]
abbrev srM(k n:Nat):List AV:=
 [sl A8 roots,.cmap Cr C,.cmap Cr A,.slice (.id 1001 6) (s.infs.map Dw),.slice (.id 1002 1) (s.drv.map Dn),.mref 1003,vb s.full,sl AX dec,sl Ae (AU dec),.msl k n]
abbrev JW:List (Nat×HO):=
 [(1000,.cells (srC roots C A s dec st.length)),(1001,.tok 6 s.infs.length),(1002,.tok 1 s.drv.length),(1003,.map FS (FY 0 s.infs)),(1004,.arr 1 (st.map Bq))]
theorem Aen(hs:Db caps)(l:List (Cd))(p:Cd->Bool)(hF:∀x∈l,PC fF ([.agg (AX x)]++caps) (vb (p x)))(hl:l.length<9223372036854775807) :
  PC 339 [sl AX l,.clo fF caps] (vi (JI p l 0)):=by
 refine Ps Ej Tryz.func339 rfl (Nz rfl) (Xi {i:Nat // i<=l.length/\∀j (hj:j<l.length),j<i->p l[j]=false} (Xi (fun i=>⟨[(0,sl AX l),(1,.clo fF caps),(7,vi (l.map AX).length),(8,vi i.1)],[],Af⟩) (Xi (fun i=>l.length-i.1) (Yi (Xi ⟨0,by simp⟩ ?_) ?_))))
 .exact⟨⟨Zr,⟨rfl,hs.ids _⟩,Zr,Zr,Tv⟩,Tv,Fh,Tv⟩
 .intro⟨i,h1,h2⟩;refine Yi ?_ ?_
  .intro h;have h:i<l.length:=by simpa using h
   have hg:l[i]?=some l[i]:=Ge h;refine Xi (AX l[i]) (Yi (Yi (Nn i) (by simp[hg])) (Yi rfl (yN ?_)));have Cg:∀h,PC fF ([.agg (AX l[i])]++caps.map (str0 h)) (vb (p l[i])):=fun h=>by rw[hs.map];exact hF l[i] (Al _)
   cases hp:p l[i]with
   |true=>
    rw[hp]at Cg;refine Xi .pure (Xi (vb true) (Yi (Cg _) ?_));rw[HM h (fun j hj IG=>h2 j hj IG) hp,EC];exact .refl _
   |false=>
    rw[hp]at Cg;refine Xi .pure (Xi (vb false) (Yi (Cg _) (Yi (Ii i ch) (Xi ⟨i+1,by omega,fun j hj IG=>?_⟩ ?_))))
    .by_cases e:j=i
     .subst e;exact hp
     .exact h2 j hj ch
    .exact⟨Dl l.length i ch,⟨Zr,⟨rfl,hs.ids _⟩,Zr,Zr,Tv⟩,Tv,Fh,Tv⟩
  .intro h;have h:¬i<l.length:=by simpa using h
   rw[Gt fun j hj=>h2 j hj ch];exact .refl _
theorem s86(hs:Db caps)(l:List (Nd))(p:Nd->Bool)(hF:∀x∈l,PC fF ([.agg (BG x)]++caps) (vb (p x)))(hl:l.length<9223372036854775807) :
  PC 187 [sl BG l,.clo fF caps] (vi (JI p l 0)):=by
 refine Ps Ej Tryz.func187 rfl (Nz rfl) (Xi {i:Nat // i<=l.length/\∀j (hj:j<l.length),j<i->p l[j]=false} (Xi (fun i=>⟨[(0,sl BG l),(1,.clo fF caps),(7,vi (l.map BG).length),(8,vi i.1)],[],Af⟩) (Xi (fun i=>l.length-i.1) (Yi (Xi ⟨0,by simp⟩ ?_) ?_))))
 .exact⟨⟨Zr,⟨rfl,hs.ids _⟩,Zr,Zr,Tv⟩,Tv,Fh,Tv⟩
 .intro⟨i,h1,h2⟩;refine Yi ?_ ?_
  .intro h;have h:i<l.length:=by simpa using h
   have hg:l[i]?=some l[i]:=Ge h;refine Xi (BG l[i]) (Yi (Yi (Nn i) (by simp[hg])) (Yi rfl (yN ?_)));have Cg:∀h,PC fF ([.agg (BG l[i])]++caps.map (str0 h)) (vb (p l[i])):=fun h=>by rw[hs.map];exact hF l[i] (Al _)
   cases hp:p l[i]with
   |true=>
    rw[hp]at Cg;refine Xi .pure (Xi (vb true) (Yi (Cg _) ?_));rw[HM h (fun j hj IG=>h2 j hj IG) hp,EC];exact .refl _
   |false=>
    rw[hp]at Cg;refine Xi .pure (Xi (vb false) (Yi (Cg _) (Yi (Ii i ch) (Xi ⟨i+1,by omega,fun j hj IG=>?_⟩ ?_))))
    .by_cases e:j=i
     .subst e;exact hp
     .exact h2 j hj ch
    .exact⟨Dl l.length i ch,⟨Zr,⟨rfl,hs.ids _⟩,Zr,Zr,Tv⟩,Tv,Fh,Tv⟩
  .intro h;have h:¬i<l.length:=by simpa using h
   rw[Gt fun j hj=>h2 j hj ch];exact .refl _
theorem zQ(hs:Db caps)(l:List (Cd))(p:Cd->Bool)(hF:∀x∈l,PC fF ([.agg (AX x)]++caps) (vb (p x)))(hl:B8 l) :
  PC 302 [sl AX l,.clo fF caps] (vb (l.any p)):=by
 refine Ps Ej Tryz.func302 rfl (Nz rfl) ?_;have hi:=Aen hs l p hF (by unfold B8 at hl;omega);have Cg:∀h,PC 339 [sl AX l,.clo fF (caps.map (str0 h))] (vi (JI p l 0)):=fun h=>by rw[hs.map];exact hi
 refine Xi .pure (Xi _ (Yi (Cg _) ?_));have ha:=HG (p:=p) l 0 (Bn 0);refine Yi ?_ ?_
 .intro h;rw[<-ha,Ar h];exact .refl _
 .intro h;rw[<-ha,Av h];exact .refl _
theorem zU(l:List Cd)(hl:B8 l):Bc Tryz.prog 192 [sl AX l] (Ap [] Af) fun r h'=>r=.slice (.id 2000 10) (l.map AX)/\h'=Ap [(2000,.tok 10 (l.map AX).length)] Af:=by
 refine Cu (M2 (plT 10)) [(2,2000)] rfl CW hm rfl Tryz.func192 Wk rfl (Nz rfl) Wk rfl ?_;have Hw:Cf 10 (l.map AX)/\([]:List (List AV)).length=0/\(([]:List (List AV)).length+(l.map AX).length)*128<=140737488355328/\([]:List (List AV)).length+(l.map AX).length<=9223372036854775807:=by
  refine⟨DK (enc:=AX) (n:=10) (fun _=>rfl) l,rfl,?_,?_⟩<;>simp only[Au,Lm]<;>unfold B8 at hl<;>omega
 have e2:HO.tok 10 (([]:List (List AV)).length+(l.map AX).length)=.tok 10 (l.map AX).length:=by rw[Au,Bf]
 have e3:AV.slice (.id 2000 10) ([]++l.map AX)=.slice (.id 2000 10) (l.map AX):=rfl;have full:∀st:St,(∃s:LS,St.le (M2 (plT 10)) st s/\True)->True:=fun _ _=>trivial;refine Xi 0 (Xi 0 (Yi ?_ ?_))
 .intro _;refine cU [(0,sl AX l)] [] Z1 Tv (Xi 2 (Yi Hw ?_));exact Xi _ (Yi (.refl _) (Yi e3 (Aa (fun o=>Ap [(2000,o)] Af) e2)))
 .intro h;refine Yi ?_ ?_
  .refine Xi ⟨[],[],Af⟩ (Yi ⟨trivial,trivial,fun _=>.inl rfl,BP Wk⟩ ?_);refine Xi 0 ?_;exact Xi _ (Yi (.refl _) (Yi (show AV.slice (.id 2000 10) []=_ by rw[h]) (show Ap [(2000,HO.tok 10 0)] Af=_ by rw[h];rfl)))
  .refine cU [(0,sl AX l)] [] Z1 Tv (Xi 2 (Yi Hw ?_));exact Xi _ (Yi (.refl _) (Yi e3 (Aa (fun o=>Ap [(2000,o)] Af) e2)))
theorem TN:∀{l:List Nf} {k:Nat} {kx:Value} {a:AV},(kx,a)∈FY k l↔∃j i,l[j]?=some i/\kx=MF i/\a=vi ((k+j:Nat):Int)
 | [],k,kx,a=>by simp[FY]
 |y::l,k,kx,a=>by
  unfold FY;rw[AC,TN];constructor
  .rintro(h | ⟨j,i,h1,h2,h3⟩)
   .cases h;exact⟨0,y,rfl,rfl,rfl⟩
   .exact⟨j+1,i,h1,h2,by rw[h3,show k+1+j=k+(j+1) by omega]⟩
  .rintro⟨j,i,h1,h2,h3⟩
   cases j with
   |zero=>cases h1;exact .inl (by rw[h2,h3];rfl)
   |succ j=>exact .inr ⟨j,i,h1,h2,by rw[h3,show k+1+j=k+(j+1) by omega]⟩
theorem Xy{a b:Nf}(h:MF a=MF b):a=b:=by
 obtain⟨a1,a2,a3,a4,a5,a6⟩:=a;obtain⟨b1,b2,b3,b4,b5,b6⟩:=b;unfold MF at h;simp at h;obtain⟨rfl,rfl,rfl,rfl,rfl,rfl⟩:=h
 rfl
theorem za(h:MO i 0 l=some k):(MF i,vi (k:Nat))∈FY 0 l:=by
 obtain⟨j,e,hj⟩:=N5 h;exact TN.2 ⟨j,i,hj,rfl,by rw[e]⟩
theorem qJ(hn:l.Nodup)(h:MO i 0 l=some k):∀b,(MF i,b)∈FY 0 l->b=vi (k:Nat):=fun b hb=>by
 obtain⟨j,e,hj⟩:=N5 h;obtain⟨j',i',h1,h2,h3⟩:=TN.1 hb
 have:=Xy h2
 subst this;obtain⟨a1,a2⟩:=Ay.1 hj;obtain⟨b1,b2⟩:=Ay.1 h1
 have:j'=j:=(List.getElem_inj hn).1 (b2.trans a2.symm)
 subst this;rw[h3,e]
theorem s8(h:MO i 0 l=none):∀a,(MF i,a)∉FY 0 l:=fun a ha=>by
 obtain⟨j,i',h1,h2,_⟩:=TN.1 ha
 have:=Xy h2
 subst this;exact RN h (Az h1)
theorem fV:∀(l:List Nf) (k:Nat) (i:Nf),FY k (l++[i])=FY k l++[(MF i,vi ((k+l.length:Nat):Int))]
 | [],k,i=>by simp[FY]
 |y::l,k,i=>by
  show(MF y,_)::FY (k+1) (l++[i])=_;rw[fV l (k+1) i];simp[FY,show k+1+l.length=k+(l.length+1) by omega]
theorem vf(h:MO i 0 l=none):E4 (FY 0 l) (MF i) (vi ((l.map Dw).length:Int))=FY 0 (l++[i]):=by
 rw[Np (s8 h),fV,Lm,Bf]
theorem ZL{s:SS}{l:List Tm}(h:MO i 0 s.infs=some k):Fc s i l=(k,s):=by unfold Fc;rw[h]
theorem WN{s:SS}{l:List Tm}(h:MO i 0 s.infs=none)(hf:65536<=s.infs.length):Fc s i l=(s.infs.length-1,⟨s.infs,s.drv,true⟩):=by unfold Fc;rw[h];exact Ao hf
theorem ZK{s:SS}{l:List Tm}(h:MO i 0 s.infs=none)(hf:¬65536<=s.infs.length):Fc s i l=(s.infs.length,⟨s.infs++[i],s.drv++[l],s.full⟩):=by unfold Fc;rw[h];exact Aj hf
section
variable {roots:List Rq}{C A:List (Value×AV)}{s s' : SS}{dec:List Cd}{st:List (List Sk)}{i:Nf}{l:List Tm}
theorem kV{z:Int}(e:Fc s i l=(k,s'))(hz:z=k):vi z=vi ((Fc s i l).1:Nat)/\Ap (JW roots C A s' dec st) Af=Ap (JW roots C A (Fc s i l).2 dec st) Af:=by rw[e,hz];exact Zr
theorem xg(h:MO i 0 s.infs=none):Ap [(1000,.cells [sl A8 roots,.cmap Cr C,.cmap Cr A,.slice (.id 1001 6) (s.infs.map Dw++[Dw i]),.slice (.id 1002 1) (s.drv.map Dn++[Dn l]),.mref 1003,vb s.full,sl AX dec,sl Ae (AU dec),.msl 1004 st.length]),
      (1001,.tok 6 ((s.infs.map Dw).length+[Dw i].length)),(1002,.tok 1 ((s.drv.map Dn).length+[Dn l].length)),(1003,.map FS (E4 (FY 0 s.infs) (MF i) (vi ((s.infs.map Dw).length:Int)))),(1004,.arr 1 (st.map Bq))] Af=Ap (JW roots C A ⟨s.infs++[i],s.drv++[l],s.full⟩ dec st) Af:=by
  have e1:s.infs.map Dw++[Dw i]=(s.infs++[i]).map Dw:=by simp
  have e2:s.drv.map Dn++[Dn l]=(s.drv++[l]).map Dn:=by simp
  have e3:(s.infs.map Dw).length+[Dw i].length=(s.infs++[i]).length:=by simp
  have e4:(s.drv.map Dn).length+[Dn l].length=(s.drv++[l]).length:=by simp
  rw[e1,e2,e3,e4,vf h]
end
theorem zR(p:ByteArray):PC 303 [.agg (AX c),.cptr [vs p]] (vb (decide (c.rel.path=p))):=by
 refine Ps (pC [2] []) Tryz.func303 rfl (Nz rfl) (Yi (fun h1=>?_) (fun h1=>?_))
 .exact .of_eq (show vb true=vb (decide (c.rel.path=p)) by rw[Ar h1])
 exact .of_eq (show vb false=vb (decide (c.rel.path=p)) by rw[Av h1])
theorem zP(t:Tm)(p:ByteArray):PC 260 [.agg (AO t),.cptr [vs p]] (vb (decide (t.path=p))):=by
 refine Ps (pC [2] []) Tryz.func260 rfl (Nz rfl) (Yi (fun h1=>?_) (fun h1=>?_))
 .exact .of_eq (show vb true=vb (decide (t.path=p)) by rw[Ar h1])
 exact .of_eq (show vb false=vb (decide (t.path=p)) by rw[Av h1])
theorem pB(l:List Tm)(p:ByteArray)(hl:B8 l):PC 193 [sl AO l,vs p] (vb (Eb l p)):=by
 refine Ps (pC [3] []) Tryz.func193 rfl (Nz rfl) (BN (Bt (Eb l p)) (fun h1=>?_) (fun h1=>?_))
 .refine Xi .pure (Xi _ (Yi (cb h1 (show PC 259 [sl AO l,.clo 260 [.cptr [vs p]]] (vb (Eb l p))from t6 (fF:=260) (caps:=[.cptr [vs p]]) (fun c hc=>by obtain rfl:=Aq.1 hc;intro h;rfl) l (fun t=>decide (t.path=p)) (fun t _=>zP t p) hl)) ?_));exact .of_eq (show vb true=vb (Eb l p) by rw[h1])
 refine Xi .pure (Xi _ (Yi (cb h1 (show PC 259 [sl AO l,.clo 260 [.cptr [vs p]]] (vb (Eb l p))from t6 (fF:=260) (caps:=[.cptr [vs p]]) (fun c hc=>by obtain rfl:=Aq.1 hc;intro h;rfl) l (fun t=>decide (t.path=p)) (fun t _=>zP t p) hl)) ?_));exact .of_eq (show vb false=vb (Eb l p) by rw[h1])
theorem zO(p:ByteArray)(hl:B8 dec):Bc Tryz.prog 254 [.ref 1000 0,vs p] (Ap (JW roots C A s dec st) Af) fun r h'=>r=vb (DQ dec p)/\h'=Ap (JW roots C A s dec st) Af:=by
 refine Cu (M2 (pC [3] [])) [(1000,1000),(1001,1001),(1002,1002),(1003,1003),(1004,1004)] rfl CW hm rfl Tryz.func254 Wk rfl (Nz rfl) Wk rfl (BN (Bt (DQ dec p)) (fun h1=>?_) (fun h1=>?_))
 .refine Xi .pure (Xi _ (Yi (cb h1 (show PC 302 [sl AX dec,.clo 303 [.cptr [vs p]]] (vb (DQ dec p))from zQ (fF:=303) (caps:=[.cptr [vs p]]) (fun c hc=>by obtain rfl:=Aq.1 hc;intro h;rfl) dec (fun c=>decide (c.rel.path=p)) (fun c _=>zR c p) hl)) ?_));exact Xi _ (Yi (.refl _) (Yi (show vb true=vb (DQ dec p) by rw[h1]) rfl))
 refine Xi .pure (Xi _ (Yi (cb h1 (show PC 302 [sl AX dec,.clo 303 [.cptr [vs p]]] (vb (DQ dec p))from zQ (fF:=303) (caps:=[.cptr [vs p]]) (fun c hc=>by obtain rfl:=Aq.1 hc;intro h;rfl) dec (fun c=>decide (c.rel.path=p)) (fun c _=>zR c p) hl)) ?_));exact Xi _ (Yi (.refl _) (Yi (show vb false=vb (DQ dec p) by rw[h1]) rfl))
theorem rD(i:Nf)(l:List Tm)(k:Nat)(hk:MO i 0 s.infs=some k)(SD:s.infs.Nodup):Bc Tryz.prog 255 [.ref 1000 0,.agg (Dw i),sl AO l] (Ap (JW roots C A s dec st) Af) fun r h'=>r=vi ((Fc s i l).1:Nat)/\h'=Ap (JW roots C A (Fc s i l).2 dec st) Af:=by
 refine Cu (M2 (pC [4] [])) [(1000,1000),(1001,1001),(1002,1002),(1003,1003),(1004,1004)] rfl CW hm rfl Tryz.func255 Wk rfl (Nz rfl) Wk rfl (yN ?_);refine Or.inl (Xi (vi (k:Nat)) (Yi (Yi (za hk) (qJ SD hk)) ?_));refine Yi Wk ?_;exact Xi _ (Yi (.refl _) (kV (ZL hk) rfl))
theorem rC(i:Nf)(l:List Tm)(hk:MO i 0 s.infs=none)(hn:s.infs.length<=65536)(hdl:s.drv.length=s.infs.length):Bc Tryz.prog 255 [.ref 1000 0,.agg (Dw i),sl AO l] (Ap (JW roots C A s dec st) Af) fun r h'=>r=vi ((Fc s i l).1:Nat)/\h'=Ap (JW roots C A (Fc s i l).2 dec st) Af:=by
 have hdn:s.drv.length<=65536:=by omega
 have hml:(s.infs.map Dw).length=s.infs.length:=Lm _;refine Cu (M2 (pC [4] [])) [(1000,1000),(1001,1001),(1002,1002),(1003,1003),(1004,1004)] rfl CW hm rfl Tryz.func255 Wk rfl (Nz rfl) Wk rfl (yN ?_);refine Or.inr (Yi (s8 hk) ?_);refine Yi Wk (Yi (fun h1=>?_) (fun h1=>?_))
 .refine yN (Yi (by show Ba (((s.infs.map Dw).length:Int)-(1:Int));unfold Ba;omega) ?_);exact Xi _ (Yi (.refl _) (kV (WN hk (by have q:=h1;rw[Lm]at q;omega)) (by have q:=h1;rw[Lm]at q⊢;omega)))
 refine yN (Yi Wk (yN (Yi (kD rfl ch Cl) (yN (Yi Wk (Yi (kD rfl ch Cl) (yN ?_)))))));have hq:=kV (roots:=roots) (C:=C) (A:=A) (dec:=dec) (st:=st) (z:=((s.infs.map Dw).length:Int)) (ZK (l:=l) hk (by have q:=h1;rw[Lm]at q;omega)) (by rw[Lm]);exact Xi _ (Yi (.refl _) (Yi hq.1 ((xg hk).trans hq.2)))
structure L1(x:List Rl)(roots:List Rq)(s:SS):Prop where
 der:FO x roots s
 nodup:s.infs.Nodup
abbrev tw(o:Nat×SS)(r:AV)(h' : Nat->HO):Prop:=r=vi (o.1:Nat)/\h'=Ap (JW roots C A o.2 dec st) Af
theorem rA(i:Nf)(l:List Tm)(hn:s.infs.length<=65536)(hdl:s.drv.length=s.infs.length)(SD:s.infs.Nodup) :
  Bc Tryz.prog 255 [.ref 1000 0,.agg (Dw i),sl AO l] (Ap (JW roots C A s dec st) Af) (tw roots C A dec st (Fc s i l)):=by
 cases hk:MO i 0 s.infs with
 |some k=>exact rD roots C A s dec st i l k hk SD
 |none=>exact rC roots C A s dec st i l hk hn hdl
abbrev cr:JN:=[(1000,1000),(1001,1001),(1002,1002),(1003,1003),(1004,1004)]
theorem xN{h2:Nat->HO}{cs:List AV}{o1 o2 o3 o4:HO}(e0:h2 1000=.cells cs)(e1:h2 1001=o1)(e2:h2 1002=o2)(e3:h2 1003=o3)(e4:h2 1004=o4) :
  FZ cr h2=Ap [(1000,.cells (cs.map (ren1 (CH cr) h2))),(1001,o1.ren (CH cr) h2),(1002,o2.ren (CH cr) h2),(1003,o3.ren (CH cr) h2),(1004,o4.ren (CH cr) h2)] Af:=by
 unfold FZ;simp only[Zd];rw[e0,e1,e2,e3,e4];rfl
theorem jl{s:SS}{n:Nd}(h:n.path=mt):Fc s ⟨0,mt,0,n.number,0,0⟩ (Ks n.rq)=BW s n:=by unfold BW U8 JU;rw[Ao h,Ao h]
theorem mS{s:SS}{n:Nd}(h:¬n.path=mt):Fc s ⟨1,n.path,n.place,n.number,0,0⟩ (EG n.path n.place n.rq)=BW s n:=by unfold BW U8 JU;rw[Aj h,Aj h]
abbrev YD(d:List (List Tm))(S:List Sl):AV:=.tup [vi (((P0 d S).getD 0:Nat):Int),vb (P0 d S).isSome]
theorem ai{S:List Sl}:∀{l:List (List Tm)} {b i:Nat} {t:List Tm},l[i]?=some t->Dg t S=true->(∀j u,j<i->l[j]?=some u->Dg u S=false)->PZ S b l=some (b+i)
 | [],_,_,_,h,_,_=>by simp at h
 |u::l,b,0,t,h,he,_=>by cases h;unfold PZ;rw[Ao he];rfl
 |u::l,b,i+1,t,h,he,hn=>by
  unfold PZ;rw[Aj (by rw[hn 0 u ch rfl];decide),ai (i:=i) (by simpa using h) he (fun j v hj hv=>hn (j+1) v ch (by simpa using hv))]
  congr 1;omega
theorem aj{S:List Sl}:∀{l:List (List Tm)} {b:Nat},(∀t∈l,Dg t S=false)->PZ S b l=none
 | [],_,_=>rfl
 |u::l,b,h=>by
  unfold PZ;rw[Aj (by rw[h u (Ab ..)];decide)];exact aj fun t ht=>h t (Ah _ ht)
theorem s88(hn:s.infs.length<=65536)(hdl:s.drv.length=s.infs.length)(SD:s.infs.Nodup)(hq:B8 n.rq.set)(hp:Ba (n.place+1)):Bc Tryz.prog 189 [.ref 1000 0,.agg (BG n)] (Ap (JW roots C A s dec st) Af) fun r h'=>tw roots C A dec st (BW s n) r h':=by
 refine Cu (M2 ⟨[3],[],[],[],[],[],[],[],[(15,5),(31,5)],[],[]⟩) [(1000,1000),(1001,1001),(1002,1002),(1003,1003),(1004,1004)] rfl CW hm rfl Tryz.func189 Wk rfl (Nz rfl) Wk rfl (Yi (fun h1=>?_) (fun h1=>?_))
 .refine yN (Xi _ (Yi (AbB n.rq hq) (Xi cr (Xi [(1000,.cells (srM roots C A s dec 1004 st.length)),(1001,.tok 6 s.infs.length),(1002,.tok 1 s.drv.length),(1003,.map FS (FY 0 s.infs)),(1004,.arr 1 (st.map Bq))] (Xi (JW roots C A (Fc s ⟨0,mt,0,n.number,0,0⟩ (Ks n.rq)).2 dec st) (Xi [.ref 1000 0,.agg [vi 0,vs ⟨#[]⟩,vi 0,vi n.number,vi 0,vi 0],sl AO (Ks n.rq)] (Xi (vi (((Fc s ⟨0,mt,0,n.number,0,0⟩ (Ks n.rq)).1:Nat):Int):AV) (Yi (fun h2 hh=>Yi ((xN (show h2 1000=.cells (srM roots C A s dec 1004 st.length)from hh 1000 Cl) (show h2 1001=.tok 6 s.infs.length from hh 1001 Cl) (show h2 1002=.tok 1 s.drv.length from hh 1002 Cl) (show h2 1003=.map FS (FY 0 s.infs)from hh 1003 Cl) (show h2 1004=.arr 1 (st.map Bq)from hh 1004 Cl)).trans rfl) rfl) (Yi Wk (Yi (rA roots C A s dec st ⟨0,mt,0,n.number,0,0⟩ (Ks n.rq) hn hdl SD) (Yi Wk ?_)))))))))));have ei:=jl (s:=s) h1;exact Xi _ (Yi (.refl _) (Yi (show vi (((Fc s ⟨0,mt,0,n.number,0,0⟩ (Ks n.rq)).1:Nat):Int)=vi (((BW s n).1:Nat):Int) by rw[ei]) (show Ap (JW roots C A (Fc s ⟨0,mt,0,n.number,0,0⟩ (Ks n.rq)).2 dec st) Af=Ap (JW roots C A (BW s n).2 dec st) Af by rw[ei])))
 refine yN (Xi _ (Yi (AbC n.path n.place n.rq hp hq) (Xi cr (Xi [(1000,.cells (srM roots C A s dec 1004 st.length)),(1001,.tok 6 s.infs.length),(1002,.tok 1 s.drv.length),(1003,.map FS (FY 0 s.infs)),(1004,.arr 1 (st.map Bq))] (Xi (JW roots C A (Fc s ⟨1,n.path,n.place,n.number,0,0⟩ (EG n.path n.place n.rq)).2 dec st) (Xi [.ref 1000 0,.agg [vi 1,vs n.path,vi n.place,vi n.number,vi 0,vi 0],sl AO (EG n.path n.place n.rq)] (Xi (vi (((Fc s ⟨1,n.path,n.place,n.number,0,0⟩ (EG n.path n.place n.rq)).1:Nat):Int):AV) (Yi (fun h2 hh=>Yi ((xN (show h2 1000=.cells (srM roots C A s dec 1004 st.length)from hh 1000 Cl) (show h2 1001=.tok 6 s.infs.length from hh 1001 Cl) (show h2 1002=.tok 1 s.drv.length from hh 1002 Cl) (show h2 1003=.map FS (FY 0 s.infs)from hh 1003 Cl) (show h2 1004=.arr 1 (st.map Bq)from hh 1004 Cl)).trans rfl) rfl) (Yi Wk (Yi (rA roots C A s dec st ⟨1,n.path,n.place,n.number,0,0⟩ (EG n.path n.place n.rq) hn hdl SD) (Yi Wk ?_)))))))))));have ei:=mS (s:=s) h1;exact Xi _ (Yi (.refl _) (Yi (show vi (((Fc s ⟨1,n.path,n.place,n.number,0,0⟩ (EG n.path n.place n.rq)).1:Nat):Int)=vi (((BW s n).1:Nat):Int) by rw[ei]) (show Ap (JW roots C A (Fc s ⟨1,n.path,n.place,n.number,0,0⟩ (EG n.path n.place n.rq)).2 dec st) Af=Ap (JW roots C A (BW s n).2 dec st) Af by rw[ei])))
theorem s89(hd:s.drv.length<=65536)(ht:∀t∈s.drv,kR t)(hS:B8 S):Bc Tryz.prog 190 [.ref 1000 0,sl Ae S] (Ap (JW roots C A s dec st) Af) fun r h'=>r=YD s.drv S/\h'=Ap (JW roots C A s dec st) Af:=by
 refine Cu (M2 Ej) [(1000,1000),(1001,1001),(1002,1002),(1003,1003),(1004,1004)] rfl CW hm rfl Tryz.func190 Wk rfl (Nz rfl) Wk rfl (Xi {i:Nat // i<=s.drv.length/\∀j u,j<i->s.drv[j]?=some u->Dg u S=false} (Xi (fun q=>⟨[(1,sl Ae S),(11,.slice (.id 1002 1) (s.drv.map Dn)),(12,vi (s.drv.map Dn).length),(13,vi q.1)],[(1000,.cells (srM roots C A s dec 1004 st.length)),(1001,.tok 6 s.infs.length),(1002,.tok 1 s.drv.length),(1003,.map FS (FY 0 s.infs)),(1004,.arr 1 (st.map Bq))],Af⟩) (Xi (fun q=>s.drv.length-q.1) (Yi (Xi ⟨0,AA _,fun j u h=>absurd h (Fi j)⟩ ?_) ?_))))
 .exact⟨Z4,Z5,Fh,BP Wk⟩
 intro⟨i,i1,i2⟩;refine Yi (fun h1=>?_) (fun h1=>?_)
 .have h1:(i:Int)<((s.drv.map Dn).length:Int):=h1;have n1:=EE h1;refine Xi (Dn s.drv[i]) (Yi (IU n1) (Yi rfl (BN (Bt (Dg s.drv[i] S)) (fun h2=>?_) (fun h2=>?_))))
  .refine Xi .pure (Xi _ (Yi (cb h2 (c91 s.drv[i] S (ht _ (Al _)) hS)) ?_));have eE:P0 s.drv S=some i:=by unfold P0;rw[ai (Ge n1) h2 i2,Bf]
   exact Xi _ (Yi (.refl _) (Yi (show AV.tup [vi (i:Int),vb true]=YD s.drv S by unfold YD;rw[eE];rfl) rfl))
  have h2:(Dg s.drv[i] S)=false:=h2;refine Xi .pure (Xi _ (Yi (cb h2 (c91 s.drv[i] S (ht _ (Al _)) hS)) (Yi (Ii i ch) ?_)));refine Xi ⟨i+1,by omega,fun j u hj hu=>by
    by_cases e:j=i
    .subst e;rw[Ge n1]at hu;cases hu;exact h2
    .exact i2 j u ch hu⟩ ?_
  exact⟨Dl s.drv.length i ch,Z4,Z5,Fh,BP Wk⟩
 have h1:¬((i:Int)<((s.drv.map Dn).length:Int)):=h1;have n1:=Dd h1;have eE:P0 s.drv S=none:=aj fun t ht=>by
  obtain⟨j,hj⟩:=Cp.1 ht
  have:=(Ay.1 hj).1
  exact i2 j t (by have q:=h1;rw[Lm]at q;omega) hj
 exact Xi _ (Yi (.refl _) (Yi (show AV.tup [vi 0,vb false]=YD s.drv S by unfold YD;rw[eE];rfl) rfl))
def XD(l:List Cd)(q:Rq):Bool:=l.any fun d=>decide (d.rel.path=q.path)&&!has q.set d.place
theorem Xl{f:Rq->Nat->Nd}{P:Nd->Bool}:∀{l:List Rq} {b i:Nat} {q:Rq},l[i]?=some q->P (f q (b+i))=true->(∀k u,k<i->l[k]?=some u->P (f u (b+k))=false)->(Nr f b l).find? P=some (f q (b+i))
 | [],_,_,_,h,_,_=>by simp at h
 |u::l,b,0,q,h,he,_=>by
  cases h
  unfold Nr;rw[Fg,show P (f u b)=true from he];rfl
 |u::l,b,i+1,q,h,he,hn=>by
  unfold Nr;have h0:P (f u b)=false:=hn 0 u ch rfl;rw[Fg,h0]
  have:=Xl (f:=f) (P:=P) (l:=l) (b:=b+1) (i:=i) (q:=q) (by simpa using h) (by rw[show b+1+i=b+(i+1) by omega];exact he) (fun k v hk hv=>by
   rw[show b+1+k=b+(k+1) by omega];exact hn (k+1) v ch (by simpa using hv))
  rw[show b+1+i=b+(i+1) by omega]at this;exact this
theorem Qi{f:Rq->Nat->Nd}{P:Nd->Bool}:∀{l:List Rq} {b:Nat},(∀k u,l[k]?=some u->P (f u (b+k))=false)->(Nr f b l).find? P=none
 | [],_,_=>rfl
 |u::l,b,h=>by
  unfold Nr;have h0:P (f u b)=false:=h 0 u rfl;rw[Fg,h0];exact Qi fun k v hv=>by rw[show b+1+k=b+(k+1) by omega];exact h (k+1) v (by simpa using hv)
def zNd:AV:=.agg [vs ⟨#[]⟩,nzA,vs ⟨#[]⟩,vi 0,vi 0]
def uk(o:Option Nd):AV:=match o with | some n=>.tup [.agg (BG n),vb true] | none=>.tup [zNd,vb false]
section
variable {dec:List Cd}{c:Cd}{i:Nat}
theorem lE(hi:i<c.rel.reqs.length)(hn:∀k q,k<i->c.rel.reqs[k]?=some q->XD (dec++[c]) q=false){j:Nat}(hj:j<(dec++[c]).length)(h1:(dec++[c])[j].rel.path=c.rel.reqs[i].path)(h2:has c.rel.reqs[i].set (dec++[c])[j].place=false) :
  Ey dec c=some ⟨c.rel.reqs[i],c.rel.path,c.place,(i:Nat)⟩:=by
 have:=Xl (f:=fun q i=>⟨q,c.rel.path,c.place,(i:Nat)⟩) (P:=gi (dec++[c])) (l:=c.rel.reqs) (b:=0) (i:=i) (q:=c.rel.reqs[i]) (Ge hi)
  (Bd.2 ⟨_,Al hj,by rw[Ar h1,h2];rfl⟩) (fun k u hk hu=>hn k u hk hu)
 unfold Ey RQ;rw[this,Bf]
theorem lG(hn:∀(k:Nat) (q:Rq),c.rel.reqs[k]?=some q->XD (dec++[c]) q=false):Ey dec c=none:=by
 unfold Ey RQ;exact Qi fun k u hu=>hn k u hu
theorem na{q:Rq}(h:∀(m:Nat) (d:Cd),(dec++[c])[m]?=some d->(decide (d.rel.path=q.path)&&!has q.set d.place)=false):XD (dec++[c]) q=false:=by
 unfold XD;rw[GM];intro d hd;obtain⟨m,hm⟩:=Cp.1 hd;rw[h m d hm];decide
end
theorem s87(hq:B8 n.rq.set):PC 188 [.agg (BG n),.cptr (AX c)] (vb (!has n.rq.set c.place)):=by
 refine Ps (pC [2] []) Tryz.func188 rfl (Nz rfl) (BN (Bt (has n.rq.set c.place)) (fun h1=>?_) (fun h1=>?_))
 .refine Xi .pure (Xi _ (Yi (cb h1 (lx n.rq.set c.place hq)) ?_));exact .of_eq (show vb false=vb (!has n.rq.set c.place) by rw[h1];rfl)
 refine Xi .pure (Xi _ (Yi (cb h1 (lx n.rq.set c.place hq)) ?_));exact .of_eq (show vb true=vb (!has n.rq.set c.place) by rw[h1];rfl)
theorem s69(hd:dec.length<=1073741823)(hr:c.rel.reqs.length<=1073741824)(hq:∀q∈c.rel.reqs,B8 q.set):Bc Tryz.prog 191 [.ref 1000 0,.agg (AX c)] (Ap (JW roots C A s dec st) Af) fun r h'=>r=uk (Ey dec c)/\h'=Ap (JW roots C A s dec st) Af:=by
 have hdl:(dec++[c]).length=dec.length+1:=by simp
 refine Cu (M2 ⟨[3],[],[],[],[],[],[],[],[(23,3)],[],[]⟩) [(1000,1000),(1001,1001),(1002,1002),(1003,1003),(1004,1004)] rfl CW hm rfl Tryz.func191 Wk rfl (Nz rfl) Wk rfl (Xi {i:Nat // i<=c.rel.reqs.length/\∀k q,k<i->c.rel.reqs[k]?=some q->XD (dec++[c]) q=false} (Xi (fun q=>⟨[(0,.ref 1000 0),(3,.ref 3 0),(4,.ref 4 0),(12,sl A8 c.rel.reqs),(13,vi (c.rel.reqs.map A8).length),(14,vi q.1)],[(3,.ro (AX c)),(4,.cells [vs ⟨#[]⟩,nzA,vs ⟨#[]⟩,vi 0,vi 0]),(1000,.cells (srM roots C A s dec 1004 st.length)),(1001,.tok 6 s.infs.length),(1002,.tok 1 s.drv.length),(1003,.map FS (FY 0 s.infs)),(1004,.arr 1 (st.map Bq))],Af⟩) (Xi (fun q=>c.rel.reqs.length-q.1) (Yi (Xi ⟨0,AA _,fun k q h=>absurd h (Fi k)⟩ ?_) ?_))))
 .exact⟨Z6,Z7,Fh,BP Wk⟩
 intro⟨i,i1,i2⟩;refine Yi (fun h1=>?_) (fun h1=>?_)
 .have h1:(i:Int)<((c.rel.reqs.map A8).length:Int):=h1;have n1:=EE h1;refine Xi (A8 c.rel.reqs[i]) (Yi (IU n1) (Yi rfl (yN (yN (Xi _ (Xi _ (Yi Wk (Yi (zU dec (AG hd Cl)) (yN ?_)))))))));have b2:Cf 10 [(AX c)]/\(dec.map AX).length=(dec.map AX).length/\((dec.map AX).length+([(AX c)]:List (List AV)).length)*128<=140737488355328/\(dec.map AX).length+([(AX c)]:List (List AV)).length<=9223372036854775807:=⟨⟨rfl,trivial⟩,rfl,(by simp only[Lm,Am,Au];omega),(by simp only[Lm,Am,Au];omega)⟩;refine Yi b2 (Yi Wk (Xi {j:Nat // j<=(dec++[c]).length/\∀m d,m<j->(dec++[c])[m]?=some d->(decide (d.rel.path=c.rel.reqs[i].path)&&!has c.rel.reqs[i].set d.place)=false} (Xi (fun q=>⟨[(0,.ref 1000 0),(3,.ref 3 0),(4,.ref 4 0),(6,vi i),(7,.ref 7 0),(12,sl A8 c.rel.reqs),(13,vi (c.rel.reqs.map A8).length),(14,vi i),(26,.slice (.id 12300 10) ((dec++[c]).map AX)),(27,vi ((dec++[c]).map AX).length),(28,vi q.1)],[(3,.ro (AX c)),(4,.cells [vs ⟨#[]⟩,nzA,vs ⟨#[]⟩,vi 0,vi 0]),(7,.cells (A8 c.rel.reqs[i])),(1000,.cells (srM roots C A s dec 1004 st.length)),(1001,.tok 6 s.infs.length),(1002,.tok 1 s.drv.length),(1003,.map FS (FY 0 s.infs)),(1004,.arr 1 (st.map Bq)),(12300,.tok 10 ((dec++[c]).map AX).length)],Af⟩) (Xi (fun q=>(dec++[c]).length-q.1) (Yi (Xi ⟨0,AA _,fun k q h=>absurd h (Fi k)⟩ ?_) ?_)))))
  .exact⟨⟨Zr,Zr,Zr,Zr,Zr,Zr,Zr,Zr,⟨tkA,rfl⟩,⟨(show vi ((dec.map AX++[AX c]:List (List AV)).length:Int)=vi (((dec++[c]).map AX).length:Int) by rw[As];rfl),rfl⟩,Zr,Tv⟩,⟨Zr,Zr,Zr,Zr,Zr,Zr,Zr,Zr,⟨(show HO.tok 10 ((dec.map AX).length+[AX c].length)=.tok 10 ((dec++[c]).map AX).length by simp),rfl⟩,Tv⟩,Fh,BP Wk⟩
  intro⟨j,j1,j2⟩;refine Yi (fun h3=>?_) (fun h3=>?_)
  .have h3:(j:Int)<(((dec++[c]).map AX).length:Int):=h3;have n3:=EE h3;refine Xi (AX ((dec++[c])[j])) (Yi (IU n3) (Yi rfl (yN (yN (Yi (fun h4=>?_) (fun h4=>?_))))))
   .have h4:(((dec++[c])[j]).rel.path:ByteArray)=c.rel.reqs[i].path:=h4;refine BN (Bt (has c.rel.reqs[i].set (dec++[c])[j].place)) (fun h5=>?_) (fun h5=>?_)
    .have h5:(has c.rel.reqs[i].set (dec++[c])[j].place)=true:=h5;refine Xi .pure (Xi _ (Yi (cb h5 (lx c.rel.reqs[i].set (dec++[c])[j].place (hq _ (Al _)))) (Yi (Ii j ch) ?_)));refine Xi ⟨j+1,by omega,fun m d hm hd=>by
       by_cases e:m=j
       .subst e;rw[Ge n3]at hd;cases hd;exact by rw[h5];simp
       .exact j2 m d ch hd⟩ ?_
     exact⟨by show(dec++[c]).length-(j+1)<(dec++[c]).length-j;omega,Z11,Z9,Fh,BP Wk⟩
    have h5:(has c.rel.reqs[i].set (dec++[c])[j].place)=false:=h5;refine Xi .pure (Xi _ (Yi (cb h5 (lx c.rel.reqs[i].set (dec++[c])[j].place (hq _ (Al _)))) (yN (yN (yN ?_)))));have eC:=lE (dec:=dec) (c:=c) n1 i2 n3 h4 h5;exact Xi _ (Yi (.refl _) (Yi (show AV.tup [.agg (BG ⟨c.rel.reqs[i],c.rel.path,c.place,(i:Nat)⟩),vb true]=uk (Ey dec c) by rw[eC];rfl) rfl))
   have h4:¬(((dec++[c])[j]).rel.path:ByteArray)=c.rel.reqs[i].path:=h4;refine Yi (Ii j ch) ?_;refine Xi ⟨j+1,by omega,fun m d hm hd=>by
     by_cases e:m=j
     .subst e;rw[Ge n3]at hd;cases hd;exact by rw[Av h4];rfl
     .exact j2 m d ch hd⟩ ?_
   exact⟨by show(dec++[c]).length-(j+1)<(dec++[c]).length-j;omega,Z11,Z9,Fh,BP Wk⟩
  have h3:¬((j:Int)<(((dec++[c]).map AX).length:Int)):=h3;have n3:=Dd h3;refine Yi (Ii i ch) ?_;have hmq:XD (dec++[c]) c.rel.reqs[i]=false:=na fun m d hd=>j2 m d (by have:=(Ay.1 hd).1;have q:=h3;rw[Lm]at q;omega) hd;refine Xi ⟨i+1,by omega,fun k q hk hq0=>by
    by_cases e:k=i
    .subst e;rw[Ge n1]at hq0;cases hq0;exact hmq
    .exact i2 k q ch hq0⟩ ?_
  exact⟨Dl c.rel.reqs.length i ch,Z6,Z7,Fh,BP Wk⟩
 have h1:¬((i:Int)<((c.rel.reqs.map A8).length:Int)):=h1;have n1:=Dd h1;refine yN (yN ?_);have eC:=lG (dec:=dec) (c:=c) fun k q hk=>i2 k q (by have:=(Ay.1 hk).1;have q:=h1;rw[Lm]at q;omega) hk;exact Xi _ (Yi (.refl _) (Yi (show AV.tup [zNd,vb false]=uk (Ey dec c) by rw[eC];rfl) rfl))
end Go.Eng
