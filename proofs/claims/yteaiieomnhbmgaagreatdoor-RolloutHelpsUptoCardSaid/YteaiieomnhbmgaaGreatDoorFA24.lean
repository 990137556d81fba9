/- Lemmas 24. -/
import Derived.Test.YteaiieomnhbmgaaGreatDoorFA23
set_option maxHeartbeats 4000000
namespace Go.Eng
open Go.Proofs
variable {i:Nat}(l m:List Sl)(p:ByteArray)
structure Mv where
 path:ByteArray
 a:Int
 b:Int
abbrev HJ(m:Mv):List AV:=[vs m.path,vi m.a,vi m.b]
abbrev plP(s:Sl):Value×AV:=(.string s.path,vi (place s.ver))
abbrev It:List (Value×AV):=l.map plP
def JE:Int:=match B5 l p with|some s=>place s.ver|none=>-1
def JP:Option Mv:=if JE l p≠JE m p then some ⟨p,JE l p,JE m p⟩else none
abbrev IL(ps:List ByteArray):List Mv:=ps.filterMap (JP l m)
structure Iz(l:List Sl):Prop where
 few:B8 l
 val:∀s∈l,Ci s.ver=true
 inc:l.Pairwise Vr
theorem Iz.step{l:List Sl}(h:Iz l)(hi:i<l.length)(h0:0<i):Ed (l[i-1]' ch).path l[i].path=true:=(AU.1 h.inc) (i-1) i ch hi ch
theorem oH{l:List Sl}(h:Iz l)(hi:i<l.length):∀b,(Value.string l[i].path,b)∉It (l.take i):=fun b hb=>by
 obtain⟨s,hs,e⟩:=Ai.1 hb;obtain⟨j,hj,rfl⟩:=Cc.1 hs;rw[GS]at e;rw[Ax]at hj;have q:=(AU.1 h.inc) j i ch hi ch;have e2:l[j].path=l[i].path:=by injection e with e1;injection e1
 rw[Vr,e2,Dm]at q;cases q
theorem wi{l:List Sl}(h:Iz l){p:ByteArray}{a:AV}(ha:(Value.string p,a)∈It l):a=vi (JE l p):=by
 obtain⟨s,hs,e⟩:=Ai.1 ha;have e1:s.path=p:=by injection e with e1;injection e1
 have e2:vi (place s.ver)=a:=by injection e
 rw[<-e2];unfold JE;rw[<-e1,H1 (LX zZ h.inc) hs]
theorem wj{l:List Sl}{p:ByteArray}(h:∀a,(Value.string p,a)∉It l):JE l p=-1:=by
 unfold JE;rw[show B5 l p=none from DI.2 fun s hs e=>h _ (Ai.2 ⟨s,hs,by rw[<-AP e]⟩)]
theorem gQ{l m:List Sl}{ps:List ByteArray}{k:Nat}(h:k<ps.length):IL l m (ps.take (k+1))=IL l m (ps.take k)++(JP l m ps[k]).toList:=by
 unfold IL;rw[Ep h,List.filterMap_append]
 congr 1
theorem rP(hl:Iz l):A9 Tryz.prog 181 [sl Aq l] (As [] Ag) fun r h'=>r=.tup [.mref 2000,vb true]/\h'=As [(2000,.map Cu (It l))] Ag:=by
 have hfl:l.length<=1073741824:=hl.few;refine Cz (No Ej) [(9,2000)] rfl C3 hm rfl Tryz.func181 Wk rfl (Nz rfl) Wk rfl (Xi {q:Nat // q<=l.length} (Xi (fun q=>⟨[(0,sl Aq l),(4,.mref 9),(10,sl Aq l),(11,vi (l.map Aq).length),(12,vi q.1)],[(9,.map Cu (It (l.take q.1)))],Ag⟩) (Xi (fun q=>l.length-q.1) (Yi (Xi ⟨0,AB _⟩ ?_) ?_))))
 .exact⟨Z5,Z1,Fh,BV Wk⟩
 intro⟨i,i1⟩;refine Yi (fun h1=>?_) (fun h1=>?_)
 .have h1:(i:Int)<((l.map Aq).length:Int):=h1;have n1:=FJ h1;refine Xi (Aq l[i]) (Yi (Lv n1) (Yi rfl (yN (yN (yN (Xi .pure (Xi _ (Yi (by have q:=xn l[i].ver;rw[Ap (hl.val _ (Ao n1)),Ap (hl.val _ (Ao n1))]at q;exact q) ?_))))))));refine Yi (fun h=>absurd h Cl) (fun _=>?_);refine Yi (fun h2=>?_) (fun h2=>?_)
  .have h2:(0:Int)<(i:Int):=h2;refine Yi (by show Bc ((i:Int)-(1:Int));unfold Bc;omega) ?_;have tf:0<i:=by omega
   refine Xi (Aq (l[i-1])) (Yi (Yi (show(0:Int)<=(i:Int)-1 by omega) (by rw[show((i:Int)-1).toNat=i-1 by omega];exact Ek (Ge ch))) (Yi rfl ?_));refine Yi (fun h3=>?_) (fun h3=>?_)
   .have h3:Ed (l[i-1]).path l[i].path=false:=(Gs _ _).trans h3;exact absurd (hl.step n1 tf) (by rw[h3];decide)
   refine Yi Wk (Yi (Ii i ch) (Xi ⟨i+1,n1⟩ ?_));exact⟨Dl l.length i ch,Z5,⟨⟨(show HO.map Cu (E2 (It (l.take i)) (.string l[i].path) (vi (place l[i].ver)))=.map Cu (It (l.take (i+1))) by rw[Jc (oH hl n1),Ep n1];unfold It;rw[At];rfl),rfl⟩,Tv⟩,Fh,BV Wk⟩
  refine Yi Wk (Yi (Ii i ch) (Xi ⟨i+1,n1⟩ ?_));exact⟨Dl l.length i ch,Z5,⟨⟨(show HO.map Cu (E2 (It (l.take i)) (.string l[i].path) (vi (place l[i].ver)))=.map Cu (It (l.take (i+1))) by rw[Jc (oH hl n1),Ep n1];unfold It;rw[At];rfl),rfl⟩,Tv⟩,Fh,BV Wk⟩
 have h1:¬((i:Int)<((l.map Aq).length:Int)):=h1;have n1:=DP h1;have ei:l.take i=l:=Av (by have q:=h1;rw[Lm]at q;omega);exact Xi _ (Yi (.refl _) ⟨rfl,show As [(2000,HO.map Cu (It (l.take i)))] Ag=As [(2000,.map Cu (It l))] Ag by rw[ei]⟩)
theorem zY(hl:Iz l):PC 182 [.cmap Cu (It l),vs p] (vi (JE l p)):=by
 refine Ps Ej Tryz.func182 rfl (Nz rfl) (Yi (fun a ha=>?_) (fun Ok=>?_))
 .have ea:=wi hl ha;subst ea;exact .refl _
 exact .of_eq (show vi (-1)=vi (JE l p) by rw[wj Ok])
theorem o75(t:List ByteArray)(hl:Iz l)(hm2:Iz m)(hfs:l.length+m.length<=1073741824)(DJ:l++m≠[])(hp:t.Perm ((l++m).map (·.path)))(ht:(t.map K8).Pairwise fun a b=>a<=b):PC 130 [sl Aq l,sl Aq m] (.tup [sl HJ (IL l m (Cq t)),vi 0]):=by
 obtain⟨LM,uW⟩:∃LM,LM=l++m:=⟨_,rfl⟩;have hm:=hm2;rw[<-uW]at hp;have hLl:LM.length=l.length+m.length:=by rw[uW,Ac]
 refine Gc (jp ⟨[],[(14,3)],[(10,1)],[(34,[12000,12500])],[],[],[],[],[],[],[6,7,8,9,11,13,14,15,16,17,18,19,21]⟩) rfl C3 Go.Eng.hm rfl Tryz.func130 Wk rfl (Nz rfl) Wk (Xi (.gen [] 1) (Yi rfl (A9.to2 (rP l hl) ?_)));refine Xi (.gen [] 1) (Yi rfl (A9.to2 (rP m hm) ?_));refine cU [(0,sl Aq l),(1,sl Aq m),(6,.mref 12000),(8,.mref 12500),(10,.msl 10 0)] [(10,.arr 1 []),(12000,.map Cu (It l)),(12500,.map Cu (It m))] Z5 Z3 (Xi (.gen [] 1) (Yi rfl (A9.to2 (uH l hl.few) ?_)));have b4:Cr 4 (m.map Aq)/\(l.map Aq).length=(l.map Aq).length/\((l.map Aq).length+(m.map Aq).length)*40<=140737488355328/\(l.map Aq).length+(m.map Aq).length<=9223372036854775807:=⟨(D5 (enc:=Aq) (n:=4) (fun _=>rfl) m),rfl,(by simp only[Lm];omega),(by simp only[Lm];omega)⟩;refine Yi b4 (Xi {q:Nat×List ByteArray // q.1<=LM.length/\q.2=(LM.take q.1).map (·.path)} (Xi (fun q=>⟨[(6,.mref 12000),(8,.mref 12500),(10,.msl 10 q.1.2.length),(37,.slice (.id 13500 4) (LM.map Aq)),(38,vi (LM.length:Nat)),(39,vi q.1.1)],[(10,.arr 1 (q.1.2.map AF)),(12000,.rom Cu (It l)),(12500,.rom Cu (It m)),(13500,.tok 4 LM.length)],Ag⟩) (Xi (fun q=>LM.length-q.1.1) (Yi (Xi ⟨(0,[]),AB _,rfl⟩ ?_) ?_))))
 .exact⟨⟨Zr,Zr,Zr,⟨(show AV.slice (.id 13500 4) (l.map Aq++m.map Aq)=.slice (.id 13500 4) (LM.map Aq) by rw[uW,At]),rfl⟩,⟨(show vi ((l.map Aq++m.map Aq:List (List AV)).length:Int)=vi ((LM.length:Nat):Int) by rw[uW,Ac,Ac,Lm,Lm]),rfl⟩,Zr,Tv⟩,⟨Zr,Zr,Zr,⟨(show HO.tok 4 ((l.map Aq).length+(m.map Aq).length)=.tok 4 LM.length by rw[uW,Ac,Lm,Lm]),rfl⟩,Tv⟩,Fh,Tv⟩
 intro⟨⟨i,P⟩,i1,i2⟩;have i2:P=(LM.take i).map (·.path):=i2;have i3:P.length<=i:=by rw[i2,Lm,Ax];omega
 refine cU [(6,.mref 12000),(8,.mref 12500),(10,.msl 10 P.length),(37,.slice (.id 13500 4) (LM.map Aq)),(38,vi (LM.length:Nat)),(39,vi i)] [(10,.arr 1 (P.map AF)),(12000,.rom Cu (It l)),(12500,.rom Cu (It m)),(13500,.tok 4 LM.length)] Z6 Z4 (Yi (fun h5=>?_) (fun h5=>?_))
 .have n5:i<LM.length:=by omega
  refine cU [(6,.mref 12000),(8,.mref 12500),(10,.msl 10 P.length),(37,.slice (.id 13500 4) (LM.map Aq)),(38,vi (LM.length:Nat)),(39,vi i)] [(10,.arr 1 (P.map AF)),(12000,.rom Cu (It l)),(12500,.rom Cu (It m)),(13500,.tok 4 LM.length)] Z6 Z4 (Xi (Aq LM[i]) (Yi (Lv n5) (Yi rfl (yN (yN (cU [(6,.mref 12000),(8,.mref 12500),(10,.msl 10 P.length),(12,.ref 12 0),(37,.slice (.id 13500 4) (LM.map Aq)),(38,vi (LM.length:Nat)),(39,vi i)] [(10,.arr 1 (P.map AF)),(12,.cells (Aq LM[i])),(12000,.rom Cu (It l)),(12500,.rom Cu (It m)),(13500,.tok 4 LM.length)] Z7 Z5 ?_))))))
  have b6:Cr 1 [[vs LM[i].path]]/\(P.map AF).length=P.length/\((P.map AF).length+([[vs LM[i].path]]:List (List AV)).length)*16<=140737488355328/\(P.map AF).length+([[vs LM[i].path]]:List (List AV)).length<=9223372036854775807:=⟨⟨rfl,trivial⟩,(by rw[Lm]),(by simp only[Lm,Al,Au];omega),(by simp only[Lm,Al,Au];omega)⟩;refine Yi b6 (Yi (Ii i ch) (Xi ⟨(i+1,P++[LM[i].path]),n5,by show P++[LM[i].path]=_;rw[Ep n5,At,i2];rfl⟩ ?_));exact⟨Dl LM.length i ch,⟨Zr,Zr,⟨(show AV.msl 10 ((P.map AF).length+([[vs LM[i].path]]:List (List AV)).length)=.msl 10 (P++[LM[i].path]).length by rw[Ac,Lm];rfl),rfl⟩,Zr,Zr,Zr,Tv⟩,⟨⟨(show HO.arr 1 (P.map AF++[[vs LM[i].path]])=.arr 1 ((P++[LM[i].path]).map AF) by rw[At];rfl),rfl⟩,Zr,Zr,Zr,Tv⟩,Fh,Tv⟩
 have hPe:P=LM.map (·.path):=by rw[i2,Av (by have q:=h5;omega)]
 have hPf:B8 P:=by unfold B8;rw[hPe,Lm,uW,Ac];exact hfs
 have hPn:P≠[]:=fun e=>by rw[hPe]at e;exact DJ (by rw[<-uW];exact DO.1 e)
 have hPt:t.length=P.length:=by rw[hPe];exact hp.length_eq
 have vH:t.length<=1073741824:=by rw[hPt];exact hPf
 have htn:t≠[]:=fun e=>hPn (AQ (by rw[<-hPt,e];rfl));have hcl:(Cq t).length<=t.length:=by unfold Cq;rw[Lm];exact AK (Nl _) (by rw[Lm];exact Am _)
 refine cU [(6,.mref 12000),(8,.mref 12500),(10,.msl 10 P.length)] [(10,.arr 1 (P.map AF)),(12000,.rom Cu (It l)),(12500,.rom Cu (It m))] Z3 Z3 (Xi (.gen [(10,1000)] 0) (Yi rfl (A9.to2 (zX P t hPf hPn (by rw[hPe];exact hp) ht) ?_)));refine cU [(6,.mref 12000),(8,.mref 12500),(10,.msl 10 P.length),(13,.v (.func (.func 182) #[] #[]))] [(10,.arr 1 (t.map AF)),(12000,.rom Cu (It l)),(12500,.rom Cu (It m))] Z4 Z3 (cU [(6,.mref 12000),(8,.mref 12500),(10,.msl 10 t.length),(13,.v (.func (.func 182) #[] #[])),(14,.slice (.id 14 3) [])] [(10,.arr 1 (t.map AF)),(14,.tok 3 0),(12000,.rom Cu (It l)),(12500,.rom Cu (It m))] ⟨Zr,Zr,⟨(Aa (AV.msl 10) hPt.symm),rfl⟩,Zr,Zr,Tv⟩ Z4 (Xi (.gen [(10,1000)] 1) (Yi rfl (A9.to2 (Ae6 t (by unfold B8;omega) htn) ?_))));refine Xi {q:Nat×List Mv // q.1<=(Cq t).length/\q.2=IL l m ((Cq t).take q.1)} (Xi (fun q=>⟨[(6,.mref 12000),(8,.mref 12500),(13,.v (.func (.func 182) #[] #[])),(14,.slice (.id 14 3) (q.1.2.map HJ)),(52,.msl 15200 (Cq t).length),(53,vi (Cq t).length),(54,vi q.1.1)],[(14,.tok 3 q.1.2.length),(12000,.rom Cu (It l)),(12500,.rom Cu (It m)),(15200,.arr 1 ((Cq t).map AF))],Ag⟩) (Xi (fun q=>(Cq t).length-q.1.1) (Yi (Xi ⟨(0,[]),AB _,rfl⟩ ?_) ?_)))
 .exact⟨Z7,Z4,Fh,Tv⟩
 intro⟨⟨k,O⟩,k1,k2⟩;have k2:O=IL l m ((Cq t).take k):=k2;have k3:O.length<=k:=by rw[k2];exact AK (List.length_filterMap_le ..) (by rw[Ax];omega)
 refine cU [(6,.mref 12000),(8,.mref 12500),(13,.v (.func (.func 182) #[] #[])),(14,.slice (.id 14 3) (O.map HJ)),(52,.msl 15200 (Cq t).length),(53,vi (Cq t).length),(54,vi k)] [(14,.tok 3 O.length),(12000,.rom Cu (It l)),(12500,.rom Cu (It m)),(15200,.arr 1 ((Cq t).map AF))] Z7 Z4 (Yi (fun UZ=>?_) (fun UZ=>?_))
 .have nb:k<(Cq t).length:=by omega
  have n10:=nb;have gb:(Cq t)[k]?=some (Cq t)[k]:=Ge nb;refine cU [(6,.mref 12000),(8,.mref 12500),(13,.v (.func (.func 182) #[] #[])),(14,.slice (.id 14 3) (O.map HJ)),(52,.msl 15200 (Cq t).length),(53,vi (Cq t).length),(54,vi k)] [(14,.tok 3 O.length),(12000,.rom Cu (It l)),(12500,.rom Cu (It m)),(15200,.arr 1 ((Cq t).map AF))] Z7 Z4 (Yi (by show(0:Int)<=k/\(k:Int)<((Cq t).length:Nat);omega) (Yi (show(Cq t).length=((Cq t).map AF).length by rw[Lm]) (Xi (AF ((Cq t)[k])) (Yi (Ek gb) (cU [(6,.mref 12000),(8,.mref 12500),(13,.v (.func (.func 182) #[] #[])),(14,.slice (.id 14 3) (O.map HJ)),(16,vs ((Cq t)[k])),(52,.msl 15200 (Cq t).length),(53,vi (Cq t).length),(54,vi k)] [(14,.tok 3 O.length),(12000,.rom Cu (It l)),(12500,.rom Cu (It m)),(15200,.arr 1 ((Cq t).map AF))] Z8 Z4 (Xi .pure (Xi _ (Yi (zY l (Cq t)[k] hl) (Xi .pure (Xi _ (Yi (zY m (Cq t)[k] hm) (yN (cU [(6,.mref 12000),(8,.mref 12500),(13,.v (.func (.func 182) #[] #[])),(14,.slice (.id 14 3) (O.map HJ)),(17,.ref 17 0),(52,.msl 15200 (Cq t).length),(53,vi (Cq t).length),(54,vi k)] [(14,.tok 3 O.length),(17,.cells [vs ((Cq t)[k]),vi (JE l (Cq t)[k]),vi (JE m (Cq t)[k])]),(12000,.rom Cu (It l)),(12500,.rom Cu (It m)),(15200,.arr 1 ((Cq t).map AF))] Z8 Z5 (Yi (fun Kz=>?_) (fun Kz=>?_)))))))))))))))
  .refine cU [(6,.mref 12000),(8,.mref 12500),(13,.v (.func (.func 182) #[] #[])),(14,.slice (.id 14 3) (O.map HJ)),(17,.ref 17 0),(52,.msl 15200 (Cq t).length),(53,vi (Cq t).length),(54,vi k)] [(14,.tok 3 O.length),(17,.cells [vs ((Cq t)[k]),vi (JE l (Cq t)[k]),vi (JE m (Cq t)[k])]),(12000,.rom Cu (It l)),(12500,.rom Cu (It m)),(15200,.arr 1 ((Cq t).map AF))] Z8 Z5 (yN (Yi (lj rfl ch Cl) (Yi (Ii k ch) ?_)));have eO:=gQ (l:=l) (m:=m) n10;have eM:JP l m (Cq t)[k]=some ⟨(Cq t)[k],(JE l (Cq t)[k]),(JE m (Cq t)[k])⟩:=Ap Kz;rw[eM]at eO;refine Xi ⟨(k+1,(O++[(⟨(Cq t)[k],(JE l (Cq t)[k]),(JE m (Cq t)[k])⟩:Mv)])),n10,by show(O++[(⟨(Cq t)[k],(JE l (Cq t)[k]),(JE m (Cq t)[k])⟩:Mv)])=_;rw[eO,k2];rfl⟩ ?_;exact⟨by show(Cq t).length-(k+1)<(Cq t).length-k;omega,⟨Zr,Zr,Zr,⟨(show AV.slice (.id 14 3) (O.map HJ++[[vs (Cq t)[k],vi (JE l (Cq t)[k]),vi (JE m (Cq t)[k])]])=.slice (.id 14 3) ((O++[(⟨(Cq t)[k],(JE l (Cq t)[k]),(JE m (Cq t)[k])⟩:Mv)]).map HJ) by rw[At];rfl),rfl⟩,Zr,Zr,Zr,Tv⟩,⟨⟨hkA,rfl⟩,Zr,Zr,Zr,Tv⟩,Fh,Tv⟩
  have Kz:((JE l (Cq t)[k]):Int)=((JE m (Cq t)[k]):Int):=AH Kz;refine Yi (Ii k ch) ?_;have eO:=gQ (l:=l) (m:=m) n10;have eM:JP l m (Cq t)[k]=none:=Aj (fun c=>c Kz);rw[eM]at eO;rw[show(none:Option Mv).toList=[]from rfl,BQ]at eO;refine Xi ⟨(k+1,O),n10,by show O=_;rw[eO,k2]⟩ ?_;exact⟨by show(Cq t).length-(k+1)<(Cq t).length-k;omega,Z7,Z4,Fh,Tv⟩
 refine cU [(14,.slice (.id 14 3) (O.map HJ))] [(14,.tok 3 O.length)] Z1 Z1 ?_
 have ek:(Cq t).take k=Cq t:=Av ch;have eO:O=IL l m (Cq t):=by rw[k2,ek]
 exact .of_eq (Aa (fun z=>AV.tup [sl HJ z,vi 0]) eO)
end Go.Eng
namespace Go.Proofs
open Go.Shelf Go.RowKit Go.Lib Go.Sort
abbrev OneC:Type:={v:Value // v.oneCell'=true}
def SlA:Type:=ByteArray×OneC×OneC×OneC
instance:Inhabited SlA:=⟨⟨ByteArray.empty,⟨.bool false,rfl⟩,⟨.bool false,rfl⟩,⟨.bool false,rfl⟩⟩⟩
def encSlA(x:SlA):List Value:=[.string x.1,x.2.1.1,x.2.2.1.1,x.2.2.2.1]
def cfSlA(x y:SlA):Int:=Lib.compareBytes x.1.data.toList y.1.data.toList
abbrev CmpSlG(cf:SlA->SlA->Int)(k:Nat):Prop:=∀(x y:SlA) (W:World),Calls Tryz.prog k #[.agg #[.string x.1,x.2.1.1,x.2.2.1.1,x.2.2.2.1],.agg #[.string y.1,y.2.1.1,y.2.2.1.1,y.2.2.2.1]] W fun e w'=>e=.returned (.int .i64 (cf x y))/\∃q os',w'=grow (W.drewN q) os'
abbrev CmpSlA(k:Nat):Prop:=CmpSlG cfSlA k
theorem Tryz.closure139:CmpSlA 139:=fun x y W=>by
 have hcon:=fun W'=>Any.strings_Compare Tryz.layCompare x.1 y.1 W';obtain⟨a,⟨b,hb⟩,⟨c,hc⟩,⟨d,hd⟩⟩:=x;obtain⟨a',⟨b',lp⟩,⟨c',u5⟩,⟨d',p6⟩⟩:=y;dsimp only at hcon
 change ∀W',Calls Tryz.prog 140 _ _ _ at hcon
 unfold cfSlA;dsimp only;generalize Lib.compareBytes a.data.toList a'.data.toList=r at hcon⊢
 go_enter Tryz.func139,Tryz.ntmps139
 go_wp2_with (go_at_call 140;refine(hcon _).mono ?_;rintro e w' ⟨rfl,rfl⟩)
 go_ret
 exact⟨rfl,0,_,by rw[alloc_eq_grow,alloc_eq_grow,grow_grow];rfl⟩
end Go.Proofs
namespace Go.Eng
open Go.Proofs Go.Shelf Go.RowKit Go.Lib Go.Sort
theorem zQ(x y:SlA):ltOf cfSlA x y=Ed x.1 y.1:=Vp _ _
section
variable {cf:SlA->SlA->Int}(DF:∀x y,ltOf cf x y=Ed x.1 y.1)
include DF
theorem pg:SWO (ltOf cf) where
 irrefl x:=by rw[DF];exact Dm _
 trans x y z h1 h2:=by rw[DF]at *;exact D8 h1 h2
 ntrans x y z h1 h2:=by
  rw[DF]at *
  rw[AM];intro h;cases xM:Ed y.1 x.1 with
  |true=>have:=D8 xM h;rw[h2]at this;cases this
  |false=>
   have e:=HQ h1 xM;rw[e]at h;rw[h2]at h;cases h
theorem Af0(k:Nat)(hc:CmpSlG cf k)(eg:∀args w,(callFunc k args).run Tryz.prog w=.ok (.enter k args) w)(l:List Sl)(hl:B8 l)(lim:Nat)(bu:lim<100) :
  A9 Tryz.prog 184 [.msl 1000 l.length,vi 0,vi l.length,vi lim,.v (Y2 k)] (As [(1000,.arr 4 (l.map Aq))] Ag) fun r h'=>
   r=.tup []/\∃l' : List Sl,l'.Perm l/\l'.Pairwise (fun x y=>Ed y.path x.path=false)/\h'=As [(1000,.arr 4 (l'.map Aq))] Ag:=by
 have hl:l.length<=1073741824:=hl;have hE:F3 Tryz.prog 184:=aN 184 Tryz.func184 Wk rfl;have Ig:=Kt (P:=Tryz.prog) (f:=184) (α:=SlA) (rest:=[.int .i64 0,.int .i64 l.length,.int .i64 lim,Y2 k]) hE Aq encSlA (k:=4) (fun _=>rfl) (fun _=>rfl) (ltOf cf) (fun x a=>a.1=x.path) l ch ?_ ?_ ?_
 .refine⟨hE,fun g w vals q1 q2 q3=>(Ig.2 g w vals q1 q2 q3).mono fun _ _ ⟨v,r,h',g',e1,⟨e2,l',p1,⟨al,a1,a2,a3⟩,p2⟩,rest⟩=>⟨v,r,h',g',e1,⟨e2,l',p1,?_,p2⟩,rest⟩⟩;rw[AU]at a3⊢;intro i j hi hj QC
  have:=a3 i j ch ch QC
  rw[DF]at this;have e1:=a2 i _ _ (Ge hi) (Ge ch);have e2:=a2 j _ _ (Ge hj) (Ge ch);rw[<-e1,<-e2];exact this
 .intro x hx g w vs hr
  match vs,hr with
  | [a,b,c,d],hr=>
   have h1:=(hr.2.2 0 (Go.Eng.vs x.path) a rfl rfl).v_eq;subst h1;exact⟨⟨x.path,⟨b,hr.2.1 b B0⟩,⟨c,hr.2.1 c B0⟩,⟨d,hr.2.1 d B0⟩⟩,rfl,rfl⟩
  | [],hr=>have:=hr.1;simp at this
  | [_],hr=>have:=hr.1;simp at this
  | [_,_],hr=>have:=hr.1;simp at this
  | [_,_,_],hr=>have:=hr.1;simp at this
  |_::_::_::_::_::_,hr=>have:=hr.1;simp at this
 .intro w b cap d hH hb ES hdl;have mY:CmpLays Tryz.prog k #[] encSlA 4 cf b 0 d.size w:=fun _ _ _ _ x y=>hc x y _;have hp:=AnyQ.pdqsortCmpFunc_all Tryz.layPdqSel 4 Tryz.isAgg48 Tryz.sizeOf48 encSlA cf k #[] (pg DF) b 0 cap d w eg mY ⟨fun _=>rfl,fun x v hv=>by
    simp only[encSlA,Ay,M4,or_false]at hv;rcases hv with rfl|rfl|rfl|rfl
    .rfl
    .exact x.2.1.2
    .exact x.2.2.1.2
    .exact x.2.2.2.2,hH,hb⟩ (d.size+1) 0 d.size lim d w ch rfl (SWK.start hH) (AB _) (Am _) ES ch (Or.inl rfl)
  rw[hdl]at hp⊢;refine hp.mono ?_
  rintro e w' ⟨rfl,n,os,rfl⟩
  have h:=pdq_sorts (ltOf cf) (pg DF) d 0 d.size lim true true (AB _) (Am _) (Or.inl rfl);rw[hdl]at h;exact⟨rfl,_,n,os,h.1,h.2,rfl⟩
 .intro e w;subst e;exact AnyF.pdqsortCmpFunc_none Tryz.layPdqSel none 0 lim (Y2 k) w
end
theorem LC{l l' : List Sl}(h1:Yu l)(h2:Yu l')(hm:∀y,y∈l↔y∈l'):l=l':=by
 induction l generalizing l' with
 |nil=>
  cases l' with
  |nil=>rfl
  |cons y l'=>have:=(hm y).2 (Ab ..);cases this
 |cons x l ih=>
  cases l' with
  |nil=>have:=(hm x).1 (Ab ..);cases this
  |cons y l'=>
   obtain⟨a1,a2⟩:=Bw.1 h1;obtain⟨b1,b2⟩:=Bw.1 h2;have e:x=y:=by
    rcases Ay.1 ((hm x).1 (Ab ..))with e|e
    .exact e
    .rcases Ay.1 ((hm y).2 (Ab ..))with e2|e2
     .exact e2.symm
     .have c1:=b1 x e;have c2:=a1 y e2
      have:=D8 c1 c2
      rw[Dm]at this;cases this
   subst e
   congr 1
   refine ih a2 b2 fun z=>⟨fun hz=>?_,fun hz=>?_⟩
   .rcases Ay.1 ((hm z).1 (Ah _ hz))with e|e
    .subst e
     have:=a1 z hz
     rw[Dm]at this;cases this
    .exact e
   .rcases Ay.1 ((hm z).2 (Ah _ hz))with e|e
    .subst e
     have:=b1 z hz
     rw[Dm]at this;cases this
    .exact e
theorem pc{l l' : List Sl}(hn:(l.map (·.path)).Nodup)(hp:l'.Perm l)(hs:l'.Pairwise fun x y=>Ed y.path x.path=false):l'=DZ l:=by
 refine LC ?_ (L9 hn) fun y=>by rw[hp.mem_iff,Gd]
 have bw:(l'.map (·.path)).Nodup:=(hp.map (·.path)).nodup_iff.2 hn;show l'.Pairwise _;rw[AU]at hs⊢;intro i j hi hj QC;cases hb:Ed l'[i].path l'[j].path with
 |true=>rfl
 |false=>
  have e:=HQ hb (hs i j hi hj QC)
  have:=(AU.1 bw) i j (by simpa using hi) (by simpa using hj) QC
  simp at this;exact absurd e this
theorem Aav{cf:SlA->SlA->Int}(DF:∀x y,ltOf cf x y=Ed x.1 y.1)(k:Nat)(hc:CmpSlG cf k)(eg:∀args w,(callFunc k args).run Tryz.prog w=.ok (.enter k args) w)(l:List Sl)(hl:B8 l)(hn:(l.map (·.path)).Nodup) :
  A9 Tryz.prog 133 [.msl 1000 l.length,.v (Y2 k)] (As [(1000,.arr 4 (l.map Aq))] Ag) fun r h'=>
   r=.tup []/\h'=As [(1000,.arr 4 ((DZ l).map Aq))] Ag:=by
 obtain⟨lim,bu,hb⟩:=lW l.length hl;refine Cz (No Ej) [(1000,1000)] rfl C3 hm rfl Tryz.func133 Wk rfl (Nz rfl) Wk rfl (Xi .pure (Xi _ (Yi (hb) (Xi (.gen [(1000,1000)] 0) (Yi rfl ((Af0 DF k hc eg l hl lim bu).imp ?_))))));intro r h' hq;refine CL hq.2 (fun l' RJ=>?_);have e:=pc hn RJ.1 RJ.2.1;refine Xi (.tup []) (Yi ?_ (Yi rfl ?_))
 .exact .refl _
 .rw[RJ.2.2,e];rfl
theorem s47(k:Nat)(hc:CmpSlA k)(eg:∀args w,(callFunc k args).run Tryz.prog w=.ok (.enter k args) w)(l:List Sl)(hl:B8 l)(hn:(l.map (·.path)).Nodup) :
  A9 Tryz.prog 133 [.msl 1000 l.length,.v (Y2 k)] (As [(1000,.arr 4 (l.map Aq))] Ag) fun r h'=>
   r=.tup []/\h'=As [(1000,.arr 4 ((DZ l).map Aq))] Ag:=
 Aav zQ k hc eg l hl hn
end Go.Eng
namespace Go.Eng
open Go.Proofs
variable {l:List Nf}{i:Nf}{caps:List AV}{k fF:Nat}(roots:List Rq)(C A:List (Value×AV))(s:SS)(dec:List Cd)(st:List (List Sk))(S:List Sl)(n:Nd)(c:Cd)
abbrev AY:List AV:=vi c.place::AC c.rel
abbrev BJ:List AV:=[vs n.rq.path,sl AE n.rq.set,vs n.path,vi n.place,vi n.number]
abbrev Bp(l:List Sk):List AV:=[sl CG l]
abbrev Dc(i:Nat):List AV:=[vi (i:Nat)]
def FU:E8:=⟨true,[.int .i64,.str,.int .i64,.int .i64,.int .i64,.int .i64]⟩
def MZ(i:Nf):Value:=.agg [.int .i64 i.kind,.string i.path,.int .i64 i.place,.int .i64 i.number,.int .i64 i.left,.int .i64 i.right].toArray
def F0:Nat->List Nf->List (Value×AV)
 |_,[]=>[]
 |k,i::l=>(MZ i,vi (k:Nat))::F0 (k+1) l
abbrev srC(n:Nat):List AV:=
 [sl AW roots,.cmap Cu C,.cmap Cu A,.slice (.id 1001 6) (s.infs.map DB),.slice (.id 1002 1) (s.drv.map Dn),.mref 1003,vb s.full,sl AY dec,sl Aq (AS dec),.msl 1004 n]
abbrev srM(k n:Nat):List AV:=
 [sl AW roots,.cmap Cu C,.cmap Cu A,.slice (.id 1001 6) (s.infs.map DB),.slice (.id 1002 1) (s.drv.map Dn),.mref 1003,vb s.full,sl AY dec,sl Aq (AS dec),.msl k n]
abbrev Kh:List (Nat×HO):=
 [(1000,.cells (srC roots C A s dec st.length)),(1001,.tok 6 s.infs.length),(1002,.tok 1 s.drv.length),(1003,.map FU (F0 0 s.infs)),(1004,.arr 1 (st.map Bp))]
theorem AeS(hs:CU caps)(l:List (Cd))(p:Cd->Bool)(hF:∀x∈l,PC fF ([.agg (AY x)]++caps) (vb (p x)))(hl:l.length<9223372036854775807) :
  PC 339 [sl AY l,.clo fF caps] (vi (FS p l 0)):=by
 refine Ps Ej Tryz.func339 rfl (Nz rfl) (Xi {i:Nat // i<=l.length/\∀j (hj:j<l.length),j<i->p l[j]=false} (Xi (fun i=>⟨[(0,sl AY l),(1,.clo fF caps),(7,vi (l.map AY).length),(8,vi i.1)],[],Ag⟩) (Xi (fun i=>l.length-i.1) (Yi (Xi ⟨0,by simp⟩ ?_) ?_))))
 .exact⟨⟨Zr,⟨rfl,hs.ids _⟩,Zr,Zr,Tv⟩,Tv,Fh,Tv⟩
 .intro⟨i,h1,h2⟩;refine Yi ?_ ?_
  .intro h;have h:i<l.length:=by simpa using h
   have hg:l[i]?=some l[i]:=Ge h;refine Xi (AY l[i]) (Yi (Yi (Nn i) (by simp[hg])) (Yi rfl (yN ?_)));have Ck:∀h,PC fF ([.agg (AY l[i])]++caps.map (str0 h)) (vb (p l[i])):=fun h=>by rw[hs.map];exact hF l[i] (Ao _)
   cases hp:p l[i]with
   |true=>
    rw[hp]at Ck;refine Xi .pure (Xi (vb true) (Yi (Ck _) ?_));rw[H2 h (fun j hj I6=>h2 j hj I6) hp,EF];exact .refl _
   |false=>
    rw[hp]at Ck;refine Xi .pure (Xi (vb false) (Yi (Ck _) (Yi (Ii i ch) (Xi ⟨i+1,by omega,fun j hj I6=>?_⟩ ?_))))
    .by_cases e:j=i
     .subst e;exact hp
     .exact h2 j hj ch
    .exact⟨Dl l.length i ch,⟨Zr,⟨rfl,hs.ids _⟩,Zr,Zr,Tv⟩,Tv,Fh,Tv⟩
  .intro h;have h:¬i<l.length:=by simpa using h
   rw[F9 fun j hj=>h2 j hj ch];exact .refl _
theorem s86(hs:CU caps)(l:List (Nd))(p:Nd->Bool)(hF:∀x∈l,PC fF ([.agg (BJ x)]++caps) (vb (p x)))(hl:l.length<9223372036854775807) :
  PC 187 [sl BJ l,.clo fF caps] (vi (FS p l 0)):=by
 refine Ps Ej Tryz.func187 rfl (Nz rfl) (Xi {i:Nat // i<=l.length/\∀j (hj:j<l.length),j<i->p l[j]=false} (Xi (fun i=>⟨[(0,sl BJ l),(1,.clo fF caps),(7,vi (l.map BJ).length),(8,vi i.1)],[],Ag⟩) (Xi (fun i=>l.length-i.1) (Yi (Xi ⟨0,by simp⟩ ?_) ?_))))
 .exact⟨⟨Zr,⟨rfl,hs.ids _⟩,Zr,Zr,Tv⟩,Tv,Fh,Tv⟩
 .intro⟨i,h1,h2⟩;refine Yi ?_ ?_
  .intro h;have h:i<l.length:=by simpa using h
   have hg:l[i]?=some l[i]:=Ge h;refine Xi (BJ l[i]) (Yi (Yi (Nn i) (by simp[hg])) (Yi rfl (yN ?_)));have Ck:∀h,PC fF ([.agg (BJ l[i])]++caps.map (str0 h)) (vb (p l[i])):=fun h=>by rw[hs.map];exact hF l[i] (Ao _)
   cases hp:p l[i]with
   |true=>
    rw[hp]at Ck;refine Xi .pure (Xi (vb true) (Yi (Ck _) ?_));rw[H2 h (fun j hj I6=>h2 j hj I6) hp,EF];exact .refl _
   |false=>
    rw[hp]at Ck;refine Xi .pure (Xi (vb false) (Yi (Ck _) (Yi (Ii i ch) (Xi ⟨i+1,by omega,fun j hj I6=>?_⟩ ?_))))
    .by_cases e:j=i
     .subst e;exact hp
     .exact h2 j hj ch
    .exact⟨Dl l.length i ch,⟨Zr,⟨rfl,hs.ids _⟩,Zr,Zr,Tv⟩,Tv,Fh,Tv⟩
  .intro h;have h:¬i<l.length:=by simpa using h
   rw[F9 fun j hj=>h2 j hj ch];exact .refl _
theorem Aat(hs:CU caps)(l:List (Cd))(p:Cd->Bool)(hF:∀x∈l,PC fF ([.agg (AY x)]++caps) (vb (p x)))(hl:B8 l) :
  PC 302 [sl AY l,.clo fF caps] (vb (l.any p)):=by
 refine Ps Ej Tryz.func302 rfl (Nz rfl) ?_;have hi:=AeS hs l p hF (by unfold B8 at hl;omega);have Ck:∀h,PC 339 [sl AY l,.clo fF (caps.map (str0 h))] (vi (FS p l 0)):=fun h=>by rw[hs.map];exact hi
 refine Xi .pure (Xi _ (Yi (Ck _) ?_));have ha:=HW (p:=p) l 0 (Bs 0);refine Yi ?_ ?_
 .intro h;rw[<-ha,Ak h];exact .refl _
 .intro h;rw[<-ha,Ae h];exact .refl _
theorem Aaw(l:List Cd)(hl:B8 l):A9 Tryz.prog 192 [sl AY l] (As [] Ag) fun r h'=>r=.slice (.id 2000 10) (l.map AY)/\h'=As [(2000,.tok 10 (l.map AY).length)] Ag:=by
 refine Cz (No (plT 10)) [(2,2000)] rfl C3 hm rfl Tryz.func192 Wk rfl (Nz rfl) Wk rfl ?_;have HG:Cr 10 (l.map AY)/\([]:List (List AV)).length=0/\(([]:List (List AV)).length+(l.map AY).length)*128<=140737488355328/\([]:List (List AV)).length+(l.map AY).length<=9223372036854775807:=by
  refine⟨D5 (enc:=AY) (n:=10) (fun _=>rfl) l,rfl,?_,?_⟩<;>simp only[Au,Lm]<;>unfold B8 at hl<;>omega
 have e2:HO.tok 10 (([]:List (List AV)).length+(l.map AY).length)=.tok 10 (l.map AY).length:=by rw[Au,Bb]
 have e3:AV.slice (.id 2000 10) ([]++l.map AY)=.slice (.id 2000 10) (l.map AY):=rfl;have full:∀st:St,(∃s:LS,St.le (No (plT 10)) st s/\True)->True:=fun _ _=>trivial;refine Xi 0 (Xi 0 (Yi ?_ ?_))
 .intro _;refine cU [(0,sl AY l)] [] Z1 Tv (Xi 2 (Yi HG ?_));exact Xi _ (Yi (.refl _) (Yi e3 (Aa (fun o=>As [(2000,o)] Ag) e2)))
 .intro h;refine Yi ?_ ?_
  .refine Xi ⟨[],[],Ag⟩ (Yi ⟨trivial,trivial,fun _=>.inl rfl,BV Wk⟩ ?_);refine Xi 0 ?_;exact Xi _ (Yi (.refl _) (Yi (show AV.slice (.id 2000 10) []=_ by rw[h]) (show As [(2000,HO.tok 10 0)] Ag=_ by rw[h];rfl)))
  .refine cU [(0,sl AY l)] [] Z1 Tv (Xi 2 (Yi HG ?_));exact Xi _ (Yi (.refl _) (Yi e3 (Aa (fun o=>As [(2000,o)] Ag) e2)))
theorem TU:∀{l:List Nf} {k:Nat} {kx:Value} {a:AV},(kx,a)∈F0 k l↔∃j i,l[j]?=some i/\kx=MZ i/\a=vi ((k+j:Nat):Int)
 | [],k,kx,a=>by simp[F0]
 |y::l,k,kx,a=>by
  unfold F0;rw[Ay,TU];constructor
  .rintro(h|⟨j,i,h1,h2,h3⟩)
   .cases h;exact⟨0,y,rfl,rfl,rfl⟩
   .exact⟨j+1,i,h1,h2,by rw[h3,show k+1+j=k+(j+1) by omega]⟩
  .rintro⟨j,i,h1,h2,h3⟩
   cases j with
   |zero=>cases h1;exact .inl (by rw[h2,h3];rfl)
   |succ j=>exact .inr ⟨j,i,h1,h2,by rw[h3,show k+1+j=k+(j+1) by omega]⟩
theorem XR{a b:Nf}(h:MZ a=MZ b):a=b:=by
 obtain⟨a1,a2,a3,a4,a5,a6⟩:=a;obtain⟨b1,b2,b3,b4,b5,b6⟩:=b;unfold MZ at h;simp at h;obtain⟨rfl,rfl,rfl,rfl,rfl,rfl⟩:=h
 rfl
theorem zN(h:M8 i 0 l=some k):(MZ i,vi (k:Nat))∈F0 0 l:=by
 obtain⟨j,e,hj⟩:=Of h;exact TU.2 ⟨j,i,hj,rfl,by rw[e]⟩
theorem rn(hn:l.Nodup)(h:M8 i 0 l=some k):∀b,(MZ i,b)∈F0 0 l->b=vi (k:Nat):=fun b hb=>by
 obtain⟨j,e,hj⟩:=Of h;obtain⟨j',i',h1,h2,h3⟩:=TU.1 hb
 have:=XR h2
 subst this;obtain⟨a1,a2⟩:=Aw.1 hj;obtain⟨b1,b2⟩:=Aw.1 h1
 have:j'=j:=(List.getElem_inj hn).1 (b2.trans a2.symm)
 subst this;rw[h3,e]
theorem tB(h:M8 i 0 l=none):∀a,(MZ i,a)∉F0 0 l:=fun a ha=>by
 obtain⟨j,i',h1,h2,_⟩:=TU.1 ha
 have:=XR h2
 subst this;exact RY h (Az h1)
theorem gH:∀(l:List Nf) (k:Nat) (i:Nf),F0 k (l++[i])=F0 k l++[(MZ i,vi ((k+l.length:Nat):Int))]
 | [],k,i=>by simp[F0]
 |y::l,k,i=>by
  show(MZ y,_)::F0 (k+1) (l++[i])=_;rw[gH l (k+1) i];simp[F0,show k+1+l.length=k+(l.length+1) by omega]
theorem vS(h:M8 i 0 l=none):E2 (F0 0 l) (MZ i) (vi ((l.map DB).length:Int))=F0 0 (l++[i]):=by
 rw[NF (tB h),gH,Lm,Bb]
theorem ao{s:SS}{l:List Tm}(h:M8 i 0 s.infs=some k):Er s i l=(k,s):=by unfold Er;rw[h]
theorem Xf{s:SS}{l:List Tm}(h:M8 i 0 s.infs=none)(hf:65536<=s.infs.length):Er s i l=(s.infs.length-1,⟨s.infs,s.drv,true⟩):=by unfold Er;rw[h];exact Ap hf
theorem aj{s:SS}{l:List Tm}(h:M8 i 0 s.infs=none)(hf:¬65536<=s.infs.length):Er s i l=(s.infs.length,⟨s.infs++[i],s.drv++[l],s.full⟩):=by unfold Er;rw[h];exact Aj hf
section
variable {roots:List Rq}{C A:List (Value×AV)}{s s' : SS}{dec:List Cd}{st:List (List Sk)}{i:Nf}{l:List Tm}
theorem lD{z:Int}(e:Er s i l=(k,s'))(hz:z=k):vi z=vi ((Er s i l).1:Nat)/\As (Kh roots C A s' dec st) Ag=As (Kh roots C A (Er s i l).2 dec st) Ag:=by rw[e,hz];exact Zr
theorem xV(h:M8 i 0 s.infs=none):As [(1000,.cells [sl AW roots,.cmap Cu C,.cmap Cu A,.slice (.id 1001 6) (s.infs.map DB++[DB i]),.slice (.id 1002 1) (s.drv.map Dn++[Dn l]),.mref 1003,vb s.full,sl AY dec,sl Aq (AS dec),.msl 1004 st.length]),
      (1001,.tok 6 ((s.infs.map DB).length+[DB i].length)),(1002,.tok 1 ((s.drv.map Dn).length+[Dn l].length)),(1003,.map FU (E2 (F0 0 s.infs) (MZ i) (vi ((s.infs.map DB).length:Int)))),(1004,.arr 1 (st.map Bp))] Ag=As (Kh roots C A ⟨s.infs++[i],s.drv++[l],s.full⟩ dec st) Ag:=by
  have e1:s.infs.map DB++[DB i]=(s.infs++[i]).map DB:=by simp
  have e2:s.drv.map Dn++[Dn l]=(s.drv++[l]).map Dn:=by simp
  have e3:(s.infs.map DB).length+[DB i].length=(s.infs++[i]).length:=by simp
  have e4:(s.drv.map Dn).length+[Dn l].length=(s.drv++[l]).length:=by simp
  rw[e1,e2,e3,e4,vS h]
end
theorem Aau(p:ByteArray):PC 303 [.agg (AY c),.cptr [vs p]] (vb (decide (c.rel.path=p))):=by
 refine Ps (pC [2] []) Tryz.func303 rfl (Nz rfl) (Yi (fun h1=>?_) (fun h1=>?_))
 .exact .of_eq (show vb true=vb (decide (c.rel.path=p)) by rw[Ak h1])
 exact .of_eq (show vb false=vb (decide (c.rel.path=p)) by rw[Ae h1])
theorem Aar(t:Tm)(p:ByteArray):PC 260 [.agg (AO t),.cptr [vs p]] (vb (decide (t.path=p))):=by
 refine Ps (pC [2] []) Tryz.func260 rfl (Nz rfl) (Yi (fun h1=>?_) (fun h1=>?_))
 .exact .of_eq (show vb true=vb (decide (t.path=p)) by rw[Ak h1])
 exact .of_eq (show vb false=vb (decide (t.path=p)) by rw[Ae h1])
theorem qd(l:List Tm)(p:ByteArray)(hl:B8 l):PC 193 [sl AO l,vs p] (vb (Ee l p)):=by
 refine Ps (pC [3] []) Tryz.func193 rfl (Nz rfl) (BX (Bt (Ee l p)) (fun h1=>?_) (fun h1=>?_))
 .refine Xi .pure (Xi _ (Yi (cb h1 (show PC 259 [sl AO l,.clo 260 [.cptr [vs p]]] (vb (Ee l p))from ux (fF:=260) (caps:=[.cptr [vs p]]) (fun c hc=>by obtain rfl:=Ar.1 hc;intro h;rfl) l (fun t=>decide (t.path=p)) (fun t _=>Aar t p) hl)) ?_));exact .of_eq (show vb true=vb (Ee l p) by rw[h1])
 refine Xi .pure (Xi _ (Yi (cb h1 (show PC 259 [sl AO l,.clo 260 [.cptr [vs p]]] (vb (Ee l p))from ux (fF:=260) (caps:=[.cptr [vs p]]) (fun c hc=>by obtain rfl:=Ar.1 hc;intro h;rfl) l (fun t=>decide (t.path=p)) (fun t _=>Aar t p) hl)) ?_));exact .of_eq (show vb false=vb (Ee l p) by rw[h1])
theorem Aaq(p:ByteArray)(hl:B8 dec):A9 Tryz.prog 254 [.ref 1000 0,vs p] (As (Kh roots C A s dec st) Ag) fun r h'=>r=vb (Dt dec p)/\h'=As (Kh roots C A s dec st) Ag:=by
 refine Cz (No (pC [3] [])) [(1000,1000),(1001,1001),(1002,1002),(1003,1003),(1004,1004)] rfl C3 hm rfl Tryz.func254 Wk rfl (Nz rfl) Wk rfl (BX (Bt (Dt dec p)) (fun h1=>?_) (fun h1=>?_))
 .refine Xi .pure (Xi _ (Yi (cb h1 (show PC 302 [sl AY dec,.clo 303 [.cptr [vs p]]] (vb (Dt dec p))from Aat (fF:=303) (caps:=[.cptr [vs p]]) (fun c hc=>by obtain rfl:=Ar.1 hc;intro h;rfl) dec (fun c=>decide (c.rel.path=p)) (fun c _=>Aau c p) hl)) ?_));exact Xi _ (Yi (.refl _) (Yi (show vb true=vb (Dt dec p) by rw[h1]) rfl))
 refine Xi .pure (Xi _ (Yi (cb h1 (show PC 302 [sl AY dec,.clo 303 [.cptr [vs p]]] (vb (Dt dec p))from Aat (fF:=303) (caps:=[.cptr [vs p]]) (fun c hc=>by obtain rfl:=Ar.1 hc;intro h;rfl) dec (fun c=>decide (c.rel.path=p)) (fun c _=>Aau c p) hl)) ?_));exact Xi _ (Yi (.refl _) (Yi (show vb false=vb (Dt dec p) by rw[h1]) rfl))
theorem sb(i:Nf)(l:List Tm)(k:Nat)(hk:M8 i 0 s.infs=some k)(TC:s.infs.Nodup):A9 Tryz.prog 255 [.ref 1000 0,.agg (DB i),sl AO l] (As (Kh roots C A s dec st) Ag) fun r h'=>r=vi ((Er s i l).1:Nat)/\h'=As (Kh roots C A (Er s i l).2 dec st) Ag:=by
 refine Cz (No (pC [4] [])) [(1000,1000),(1001,1001),(1002,1002),(1003,1003),(1004,1004)] rfl C3 hm rfl Tryz.func255 Wk rfl (Nz rfl) Wk rfl (yN ?_);refine Or.inl (Xi (vi (k:Nat)) (Yi (Yi (zN hk) (rn TC hk)) ?_));refine Yi Wk ?_;exact Xi _ (Yi (.refl _) (lD (ao hk) rfl))
theorem sa(i:Nf)(l:List Tm)(hk:M8 i 0 s.infs=none)(hn:s.infs.length<=65536)(hdl:s.drv.length=s.infs.length):A9 Tryz.prog 255 [.ref 1000 0,.agg (DB i),sl AO l] (As (Kh roots C A s dec st) Ag) fun r h'=>r=vi ((Er s i l).1:Nat)/\h'=As (Kh roots C A (Er s i l).2 dec st) Ag:=by
 have hdn:s.drv.length<=65536:=by omega
 have hml:(s.infs.map DB).length=s.infs.length:=Lm _;refine Cz (No (pC [4] [])) [(1000,1000),(1001,1001),(1002,1002),(1003,1003),(1004,1004)] rfl C3 hm rfl Tryz.func255 Wk rfl (Nz rfl) Wk rfl (yN ?_);refine Or.inr (Yi (tB hk) ?_);refine Yi Wk (Yi (fun h1=>?_) (fun h1=>?_))
 .refine yN (Yi (by show Bc (((s.infs.map DB).length:Int)-(1:Int));unfold Bc;omega) ?_);exact Xi _ (Yi (.refl _) (lD (Xf hk (by have q:=h1;rw[Lm]at q;omega)) (by have q:=h1;rw[Lm]at q⊢;omega)))
 refine yN (Yi Wk (yN (Yi (lj rfl ch Cl) (yN (Yi Wk (Yi (lj rfl ch Cl) (yN ?_)))))));have hq:=lD (roots:=roots) (C:=C) (A:=A) (dec:=dec) (st:=st) (z:=((s.infs.map DB).length:Int)) (aj (l:=l) hk (by have q:=h1;rw[Lm]at q;omega)) (by rw[Lm]);exact Xi _ (Yi (.refl _) (Yi hq.1 ((xV hk).trans hq.2)))
structure Mh(x:List Rl)(roots:List Rq)(s:SS):Prop where
 der:FO x roots s
 nodup:s.infs.Nodup
abbrev tY(o:Nat×SS)(r:AV)(h' : Nat->HO):Prop:=r=vi (o.1:Nat)/\h'=As (Kh roots C A o.2 dec st) Ag
theorem r9(i:Nf)(l:List Tm)(hn:s.infs.length<=65536)(hdl:s.drv.length=s.infs.length)(TC:s.infs.Nodup) :
  A9 Tryz.prog 255 [.ref 1000 0,.agg (DB i),sl AO l] (As (Kh roots C A s dec st) Ag) (tY roots C A dec st (Er s i l)):=by
 cases hk:M8 i 0 s.infs with
 |some k=>exact sb roots C A s dec st i l k hk TC
 |none=>exact sa roots C A s dec st i l hk hn hdl
abbrev db:J6:=[(1000,1000),(1001,1001),(1002,1002),(1003,1003),(1004,1004)]
theorem yC{h2:Nat->HO}{cs:List AV}{o1 o2 o3 o4:HO}(e0:h2 1000=.cells cs)(e1:h2 1001=o1)(e2:h2 1002=o2)(e3:h2 1003=o3)(e4:h2 1004=o4) :
  F1 db h2=As [(1000,.cells (cs.map (ren1 (CI db) h2))),(1001,o1.ren (CI db) h2),(1002,o2.ren (CI db) h2),(1003,o3.ren (CI db) h2),(1004,o4.ren (CI db) h2)] Ag:=by
 unfold F1;simp only[ZB];rw[e0,e1,e2,e3,e4];rfl
theorem jN{s:SS}{n:Nd}(h:n.path=mt):Er s ⟨0,mt,0,n.number,0,0⟩ (KN n.rq)=BS s n:=by unfold BS Om II;rw[Ap h,Ap h]
theorem nB{s:SS}{n:Nd}(h:¬n.path=mt):Er s ⟨1,n.path,n.place,n.number,0,0⟩ (EH n.path n.place n.rq)=BS s n:=by unfold BS Om II;rw[Aj h,Aj h]
abbrev YU(d:List (List Tm))(S:List Sl):AV:=.tup [vi (((Pb d S).getD 0:Nat):Int),vb (Pb d S).isSome]
theorem aO{S:List Sl}:∀{l:List (List Tm)} {b i:Nat} {t:List Tm},l[i]?=some t->Dh t S=true->(∀j u,j<i->l[j]?=some u->Dh u S=false)->Qg S b l=some (b+i)
 | [],_,_,_,h,_,_=>by simp at h
 |u::l,b,0,t,h,he,_=>by cases h;unfold Qg;rw[Ap he];rfl
 |u::l,b,i+1,t,h,he,hn=>by
  unfold Qg;rw[Aj (by rw[hn 0 u ch rfl];decide),aO (i:=i) (by simpa using h) he (fun j v hj hv=>hn (j+1) v ch (by simpa using hv))]
  congr 1;omega
theorem aP{S:List Sl}:∀{l:List (List Tm)} {b:Nat},(∀t∈l,Dh t S=false)->Qg S b l=none
 | [],_,_=>rfl
 |u::l,b,h=>by
  unfold Qg;rw[Aj (by rw[h u (Ab ..)];decide)];exact aP fun t ht=>h t (Ah _ ht)
theorem s88(hn:s.infs.length<=65536)(hdl:s.drv.length=s.infs.length)(TC:s.infs.Nodup)(hq:B8 n.rq.set)(hp:Bc (n.place+1)):A9 Tryz.prog 189 [.ref 1000 0,.agg (BJ n)] (As (Kh roots C A s dec st) Ag) fun r h'=>tY roots C A dec st (BS s n) r h':=by
 refine Cz (No ⟨[3],[],[],[],[],[],[],[],[(15,5),(31,5)],[],[]⟩) [(1000,1000),(1001,1001),(1002,1002),(1003,1003),(1004,1004)] rfl C3 hm rfl Tryz.func189 Wk rfl (Nz rfl) Wk rfl (Yi (fun h1=>?_) (fun h1=>?_))
 .refine yN (Xi _ (Yi (Acl n.rq hq) (Xi db (Xi [(1000,.cells (srM roots C A s dec 1004 st.length)),(1001,.tok 6 s.infs.length),(1002,.tok 1 s.drv.length),(1003,.map FU (F0 0 s.infs)),(1004,.arr 1 (st.map Bp))] (Xi (Kh roots C A (Er s ⟨0,mt,0,n.number,0,0⟩ (KN n.rq)).2 dec st) (Xi [.ref 1000 0,.agg [vi 0,vs ⟨#[]⟩,vi 0,vi n.number,vi 0,vi 0],sl AO (KN n.rq)] (Xi (vi (((Er s ⟨0,mt,0,n.number,0,0⟩ (KN n.rq)).1:Nat):Int):AV) (Yi (fun h2 hh=>Yi ((yC (show h2 1000=.cells (srM roots C A s dec 1004 st.length)from hh 1000 Cl) (show h2 1001=.tok 6 s.infs.length from hh 1001 Cl) (show h2 1002=.tok 1 s.drv.length from hh 1002 Cl) (show h2 1003=.map FU (F0 0 s.infs)from hh 1003 Cl) (show h2 1004=.arr 1 (st.map Bp)from hh 1004 Cl)).trans rfl) rfl) (Yi Wk (Yi (r9 roots C A s dec st ⟨0,mt,0,n.number,0,0⟩ (KN n.rq) hn hdl TC) (Yi Wk ?_)))))))))));have ei:=jN (s:=s) h1;exact Xi _ (Yi (.refl _) (Yi (show vi (((Er s ⟨0,mt,0,n.number,0,0⟩ (KN n.rq)).1:Nat):Int)=vi (((BS s n).1:Nat):Int) by rw[ei]) (show As (Kh roots C A (Er s ⟨0,mt,0,n.number,0,0⟩ (KN n.rq)).2 dec st) Ag=As (Kh roots C A (BS s n).2 dec st) Ag by rw[ei])))
 refine yN (Xi _ (Yi (Acm n.path n.place n.rq hp hq) (Xi db (Xi [(1000,.cells (srM roots C A s dec 1004 st.length)),(1001,.tok 6 s.infs.length),(1002,.tok 1 s.drv.length),(1003,.map FU (F0 0 s.infs)),(1004,.arr 1 (st.map Bp))] (Xi (Kh roots C A (Er s ⟨1,n.path,n.place,n.number,0,0⟩ (EH n.path n.place n.rq)).2 dec st) (Xi [.ref 1000 0,.agg [vi 1,vs n.path,vi n.place,vi n.number,vi 0,vi 0],sl AO (EH n.path n.place n.rq)] (Xi (vi (((Er s ⟨1,n.path,n.place,n.number,0,0⟩ (EH n.path n.place n.rq)).1:Nat):Int):AV) (Yi (fun h2 hh=>Yi ((yC (show h2 1000=.cells (srM roots C A s dec 1004 st.length)from hh 1000 Cl) (show h2 1001=.tok 6 s.infs.length from hh 1001 Cl) (show h2 1002=.tok 1 s.drv.length from hh 1002 Cl) (show h2 1003=.map FU (F0 0 s.infs)from hh 1003 Cl) (show h2 1004=.arr 1 (st.map Bp)from hh 1004 Cl)).trans rfl) rfl) (Yi Wk (Yi (r9 roots C A s dec st ⟨1,n.path,n.place,n.number,0,0⟩ (EH n.path n.place n.rq) hn hdl TC) (Yi Wk ?_)))))))))));have ei:=nB (s:=s) h1;exact Xi _ (Yi (.refl _) (Yi (show vi (((Er s ⟨1,n.path,n.place,n.number,0,0⟩ (EH n.path n.place n.rq)).1:Nat):Int)=vi (((BS s n).1:Nat):Int) by rw[ei]) (show As (Kh roots C A (Er s ⟨1,n.path,n.place,n.number,0,0⟩ (EH n.path n.place n.rq)).2 dec st) Ag=As (Kh roots C A (BS s n).2 dec st) Ag by rw[ei])))
theorem s89(hd:s.drv.length<=65536)(ht:∀t∈s.drv,lz t)(hS:B8 S):A9 Tryz.prog 190 [.ref 1000 0,sl Aq S] (As (Kh roots C A s dec st) Ag) fun r h'=>r=YU s.drv S/\h'=As (Kh roots C A s dec st) Ag:=by
 refine Cz (No Ej) [(1000,1000),(1001,1001),(1002,1002),(1003,1003),(1004,1004)] rfl C3 hm rfl Tryz.func190 Wk rfl (Nz rfl) Wk rfl (Xi {i:Nat // i<=s.drv.length/\∀j u,j<i->s.drv[j]?=some u->Dh u S=false} (Xi (fun q=>⟨[(1,sl Aq S),(11,.slice (.id 1002 1) (s.drv.map Dn)),(12,vi (s.drv.map Dn).length),(13,vi q.1)],[(1000,.cells (srM roots C A s dec 1004 st.length)),(1001,.tok 6 s.infs.length),(1002,.tok 1 s.drv.length),(1003,.map FU (F0 0 s.infs)),(1004,.arr 1 (st.map Bp))],Ag⟩) (Xi (fun q=>s.drv.length-q.1) (Yi (Xi ⟨0,AB _,fun j u h=>absurd h (Iw j)⟩ ?_) ?_))))
 .exact⟨Z4,Z5,Fh,BV Wk⟩
 intro⟨i,i1,i2⟩;refine Yi (fun h1=>?_) (fun h1=>?_)
 .have h1:(i:Int)<((s.drv.map Dn).length:Int):=h1;have n1:=FJ h1;refine Xi (Dn s.drv[i]) (Yi (Lv n1) (Yi rfl (BX (Bt (Dh s.drv[i] S)) (fun h2=>?_) (fun h2=>?_))))
  .refine Xi .pure (Xi _ (Yi (cb h2 (c91 s.drv[i] S (ht _ (Ao _)) hS)) ?_));have eE:Pb s.drv S=some i:=by unfold Pb;rw[aO (Ge n1) h2 i2,Bb]
   exact Xi _ (Yi (.refl _) (Yi (show AV.tup [vi (i:Int),vb true]=YU s.drv S by unfold YU;rw[eE];rfl) rfl))
  have h2:(Dh s.drv[i] S)=false:=h2;refine Xi .pure (Xi _ (Yi (cb h2 (c91 s.drv[i] S (ht _ (Ao _)) hS)) (Yi (Ii i ch) ?_)));refine Xi ⟨i+1,by omega,fun j u hj hu=>by
    by_cases e:j=i
    .subst e;rw[Ge n1]at hu;cases hu;exact h2
    .exact i2 j u ch hu⟩ ?_
  exact⟨Dl s.drv.length i ch,Z4,Z5,Fh,BV Wk⟩
 have h1:¬((i:Int)<((s.drv.map Dn).length:Int)):=h1;have n1:=DP h1;have eE:Pb s.drv S=none:=aP fun t ht=>by
  obtain⟨j,hj⟩:=Ct.1 ht
  have:=(Aw.1 hj).1
  exact i2 j t (by have q:=h1;rw[Lm]at q;omega) hj
 exact Xi _ (Yi (.refl _) (Yi (show AV.tup [vi 0,vb false]=YU s.drv S by unfold YU;rw[eE];rfl) rfl))
def XV(l:List Cd)(q:Rq):Bool:=l.any fun d=>decide (d.rel.path=q.path)&&!has q.set d.place
theorem XE{f:Rq->Nat->Nd}{P:Nd->Bool}:∀{l:List Rq} {b i:Nat} {q:Rq},l[i]?=some q->P (f q (b+i))=true->(∀k u,k<i->l[k]?=some u->P (f u (b+k))=false)->(NH f b l).find? P=some (f q (b+i))
 | [],_,_,_,h,_,_=>by simp at h
 |u::l,b,0,q,h,he,_=>by
  cases h
  unfold NH;rw[Fj,show P (f u b)=true from he];rfl
 |u::l,b,i+1,q,h,he,hn=>by
  unfold NH;have h0:P (f u b)=false:=hn 0 u ch rfl;rw[Fj,h0]
  have:=XE (f:=f) (P:=P) (l:=l) (b:=b+1) (i:=i) (q:=q) (by simpa using h) (by rw[show b+1+i=b+(i+1) by omega];exact he) (fun k v hk hv=>by
   rw[show b+1+k=b+(k+1) by omega];exact hn (k+1) v ch (by simpa using hv))
  rw[show b+1+i=b+(i+1) by omega]at this;exact this
theorem Qq{f:Rq->Nat->Nd}{P:Nd->Bool}:∀{l:List Rq} {b:Nat},(∀k u,l[k]?=some u->P (f u (b+k))=false)->(NH f b l).find? P=none
 | [],_,_=>rfl
 |u::l,b,h=>by
  unfold NH;have h0:P (f u b)=false:=h 0 u rfl;rw[Fj,h0];exact Qq fun k v hv=>by rw[show b+1+k=b+(k+1) by omega];exact h (k+1) v (by simpa using hv)
def zNd:AV:=.agg [vs ⟨#[]⟩,nzA,vs ⟨#[]⟩,vi 0,vi 0]
def uK(o:Option Nd):AV:=match o with|some n=>.tup [.agg (BJ n),vb true]|none=>.tup [zNd,vb false]
section
variable {dec:List Cd}{c:Cd}{i:Nat}
theorem md(hi:i<c.rel.reqs.length)(hn:∀k q,k<i->c.rel.reqs[k]?=some q->XV (dec++[c]) q=false){j:Nat}(hj:j<(dec++[c]).length)(h1:(dec++[c])[j].rel.path=c.rel.reqs[i].path)(h2:has c.rel.reqs[i].set (dec++[c])[j].place=false) :
  En dec c=some ⟨c.rel.reqs[i],c.rel.path,c.place,(i:Nat)⟩:=by
 have:=XE (f:=fun q i=>⟨q,c.rel.path,c.place,(i:Nat)⟩) (P:=gO (dec++[c])) (l:=c.rel.reqs) (b:=0) (i:=i) (q:=c.rel.reqs[i]) (Ge hi)
  (Ba.2 ⟨_,Ao hj,by rw[Ak h1,h2];rfl⟩) (fun k u hk hu=>hn k u hk hu)
 unfold En Sb;rw[this,Bb]
theorem me(hn:∀(k:Nat) (q:Rq),c.rel.reqs[k]?=some q->XV (dec++[c]) q=false):En dec c=none:=by
 unfold En Sb;exact Qq fun k u hu=>hn k u hu
theorem nP{q:Rq}(h:∀(m:Nat) (d:Cd),(dec++[c])[m]?=some d->(decide (d.rel.path=q.path)&&!has q.set d.place)=false):XV (dec++[c]) q=false:=by
 unfold XV;rw[FP];intro d hd;obtain⟨m,hm⟩:=Ct.1 hd;rw[h m d hm];decide
end
theorem s87(hq:B8 n.rq.set):PC 188 [.agg (BJ n),.cptr (AY c)] (vb (!has n.rq.set c.place)):=by
 refine Ps (pC [2] []) Tryz.func188 rfl (Nz rfl) (BX (Bt (has n.rq.set c.place)) (fun h1=>?_) (fun h1=>?_))
 .refine Xi .pure (Xi _ (Yi (cb h1 (lZ n.rq.set c.place hq)) ?_));exact .of_eq (show vb false=vb (!has n.rq.set c.place) by rw[h1];rfl)
 refine Xi .pure (Xi _ (Yi (cb h1 (lZ n.rq.set c.place hq)) ?_));exact .of_eq (show vb true=vb (!has n.rq.set c.place) by rw[h1];rfl)
theorem s69(hd:dec.length<=1073741823)(hr:c.rel.reqs.length<=1073741824)(hq:∀q∈c.rel.reqs,B8 q.set):A9 Tryz.prog 191 [.ref 1000 0,.agg (AY c)] (As (Kh roots C A s dec st) Ag) fun r h'=>r=uK (En dec c)/\h'=As (Kh roots C A s dec st) Ag:=by
 have hdl:(dec++[c]).length=dec.length+1:=by simp
 refine Cz (No ⟨[3],[],[],[],[],[],[],[],[(23,3)],[],[]⟩) [(1000,1000),(1001,1001),(1002,1002),(1003,1003),(1004,1004)] rfl C3 hm rfl Tryz.func191 Wk rfl (Nz rfl) Wk rfl (Xi {i:Nat // i<=c.rel.reqs.length/\∀k q,k<i->c.rel.reqs[k]?=some q->XV (dec++[c]) q=false} (Xi (fun q=>⟨[(0,.ref 1000 0),(3,.ref 3 0),(4,.ref 4 0),(12,sl AW c.rel.reqs),(13,vi (c.rel.reqs.map AW).length),(14,vi q.1)],[(3,.ro (AY c)),(4,.cells [vs ⟨#[]⟩,nzA,vs ⟨#[]⟩,vi 0,vi 0]),(1000,.cells (srM roots C A s dec 1004 st.length)),(1001,.tok 6 s.infs.length),(1002,.tok 1 s.drv.length),(1003,.map FU (F0 0 s.infs)),(1004,.arr 1 (st.map Bp))],Ag⟩) (Xi (fun q=>c.rel.reqs.length-q.1) (Yi (Xi ⟨0,AB _,fun k q h=>absurd h (Iw k)⟩ ?_) ?_))))
 .exact⟨Z6,Z7,Fh,BV Wk⟩
 intro⟨i,i1,i2⟩;refine Yi (fun h1=>?_) (fun h1=>?_)
 .have h1:(i:Int)<((c.rel.reqs.map AW).length:Int):=h1;have n1:=FJ h1;refine Xi (AW c.rel.reqs[i]) (Yi (Lv n1) (Yi rfl (yN (yN (Xi _ (Xi _ (Yi Wk (Yi (Aaw dec (AK hd Cl)) (yN ?_)))))))));have b2:Cr 10 [(AY c)]/\(dec.map AY).length=(dec.map AY).length/\((dec.map AY).length+([(AY c)]:List (List AV)).length)*128<=140737488355328/\(dec.map AY).length+([(AY c)]:List (List AV)).length<=9223372036854775807:=⟨⟨rfl,trivial⟩,rfl,(by simp only[Lm,Al,Au];omega),(by simp only[Lm,Al,Au];omega)⟩;refine Yi b2 (Yi Wk (Xi {j:Nat // j<=(dec++[c]).length/\∀m d,m<j->(dec++[c])[m]?=some d->(decide (d.rel.path=c.rel.reqs[i].path)&&!has c.rel.reqs[i].set d.place)=false} (Xi (fun q=>⟨[(0,.ref 1000 0),(3,.ref 3 0),(4,.ref 4 0),(6,vi i),(7,.ref 7 0),(12,sl AW c.rel.reqs),(13,vi (c.rel.reqs.map AW).length),(14,vi i),(26,.slice (.id 12300 10) ((dec++[c]).map AY)),(27,vi ((dec++[c]).map AY).length),(28,vi q.1)],[(3,.ro (AY c)),(4,.cells [vs ⟨#[]⟩,nzA,vs ⟨#[]⟩,vi 0,vi 0]),(7,.cells (AW c.rel.reqs[i])),(1000,.cells (srM roots C A s dec 1004 st.length)),(1001,.tok 6 s.infs.length),(1002,.tok 1 s.drv.length),(1003,.map FU (F0 0 s.infs)),(1004,.arr 1 (st.map Bp)),(12300,.tok 10 ((dec++[c]).map AY).length)],Ag⟩) (Xi (fun q=>(dec++[c]).length-q.1) (Yi (Xi ⟨0,AB _,fun k q h=>absurd h (Iw k)⟩ ?_) ?_)))))
  .exact⟨⟨Zr,Zr,Zr,Zr,Zr,Zr,Zr,Zr,⟨tkA,rfl⟩,⟨(show vi ((dec.map AY++[AY c]:List (List AV)).length:Int)=vi (((dec++[c]).map AY).length:Int) by rw[At];rfl),rfl⟩,Zr,Tv⟩,⟨Zr,Zr,Zr,Zr,Zr,Zr,Zr,Zr,⟨(show HO.tok 10 ((dec.map AY).length+[AY c].length)=.tok 10 ((dec++[c]).map AY).length by simp),rfl⟩,Tv⟩,Fh,BV Wk⟩
  intro⟨j,j1,j2⟩;refine Yi (fun h3=>?_) (fun h3=>?_)
  .have h3:(j:Int)<(((dec++[c]).map AY).length:Int):=h3;have n3:=FJ h3;refine Xi (AY ((dec++[c])[j])) (Yi (Lv n3) (Yi rfl (yN (yN (Yi (fun h4=>?_) (fun h4=>?_))))))
   .have h4:(((dec++[c])[j]).rel.path:ByteArray)=c.rel.reqs[i].path:=h4;refine BX (Bt (has c.rel.reqs[i].set (dec++[c])[j].place)) (fun h5=>?_) (fun h5=>?_)
    .have h5:(has c.rel.reqs[i].set (dec++[c])[j].place)=true:=h5;refine Xi .pure (Xi _ (Yi (cb h5 (lZ c.rel.reqs[i].set (dec++[c])[j].place (hq _ (Ao _)))) (Yi (Ii j ch) ?_)));refine Xi ⟨j+1,by omega,fun m d hm hd=>by
       by_cases e:m=j
       .subst e;rw[Ge n3]at hd;cases hd;exact by rw[h5];simp
       .exact j2 m d ch hd⟩ ?_
     exact⟨by show(dec++[c]).length-(j+1)<(dec++[c]).length-j;omega,Z11,Z9,Fh,BV Wk⟩
    have h5:(has c.rel.reqs[i].set (dec++[c])[j].place)=false:=h5;refine Xi .pure (Xi _ (Yi (cb h5 (lZ c.rel.reqs[i].set (dec++[c])[j].place (hq _ (Ao _)))) (yN (yN (yN ?_)))));have eC:=md (dec:=dec) (c:=c) n1 i2 n3 h4 h5;exact Xi _ (Yi (.refl _) (Yi (show AV.tup [.agg (BJ ⟨c.rel.reqs[i],c.rel.path,c.place,(i:Nat)⟩),vb true]=uK (En dec c) by rw[eC];rfl) rfl))
   have h4:¬(((dec++[c])[j]).rel.path:ByteArray)=c.rel.reqs[i].path:=h4;refine Yi (Ii j ch) ?_;refine Xi ⟨j+1,by omega,fun m d hm hd=>by
     by_cases e:m=j
     .subst e;rw[Ge n3]at hd;cases hd;exact by rw[Ae h4];rfl
     .exact j2 m d ch hd⟩ ?_
   exact⟨by show(dec++[c]).length-(j+1)<(dec++[c]).length-j;omega,Z11,Z9,Fh,BV Wk⟩
  have h3:¬((j:Int)<(((dec++[c]).map AY).length:Int)):=h3;have n3:=DP h3;refine Yi (Ii i ch) ?_;have hmq:XV (dec++[c]) c.rel.reqs[i]=false:=nP fun m d hd=>j2 m d (by have:=(Aw.1 hd).1;have q:=h3;rw[Lm]at q;omega) hd;refine Xi ⟨i+1,by omega,fun k q hk hq0=>by
    by_cases e:k=i
    .subst e;rw[Ge n1]at hq0;cases hq0;exact hmq
    .exact i2 k q ch hq0⟩ ?_
  exact⟨Dl c.rel.reqs.length i ch,Z6,Z7,Fh,BV Wk⟩
 have h1:¬((i:Int)<((c.rel.reqs.map AW).length:Int)):=h1;have n1:=DP h1;refine yN (yN ?_);have eC:=me (dec:=dec) (c:=c) fun k q hk=>i2 k q (by have:=(Aw.1 hk).1;have q:=h1;rw[Lm]at q;omega) hk;exact Xi _ (Yi (.refl _) (Yi (show AV.tup [zNd,vb false]=uK (En dec c) by rw[eC];rfl) rfl))
end Go.Eng
