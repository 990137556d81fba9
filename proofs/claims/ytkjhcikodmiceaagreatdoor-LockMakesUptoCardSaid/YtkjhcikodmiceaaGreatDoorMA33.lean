/- Lemmas 33. -/
import Derived.Test.YtkjhcikodmiceaaGreatDoorMA32
set_option maxHeartbeats 8000000
namespace Go.Eng
open Go.Proofs Go.Shelf Go.RowKit Go.Lib Go.Sort
variable (ss:List CS)(zs:List (List UInt8))(s:CS)
abbrev gx:List UInt8:=s.data.toList
abbrev qt(l:List UInt8):CS:=⟨l.toArray⟩
theorem qY:qt (gx s)=s:=by cases s;simp
theorem NA:((zs.map qt).map Dr).flatten=(zs.map Go.Proofs.encStr).map AV.v:=by
 induction zs with
 |nil=>rfl
 |cons z zs ih=>rw[Bo,Bo,Cs,ih];rfl
theorem Yl:(ss.map gx).map qt=ss:=by
 rw[BH,show qt ∘ gx=id from funext qY,Ks]
theorem AfP(t:List CS)(hl:BF ss)(ER:ss≠[])(hp:t.Perm ss)(ht:(t.map gx).Pairwise fun a b=>a<=b) :
  A6 Tryz.prog 77 [.msl 1000 ss.length] (Ai [(1000,.arr 1 (ss.map Dr))] Af) fun r h'=>r=.tup []/\h'=Ai [(1000,.arr 1 (t.map Dr))] Af:=by
 have hE:Gt Tryz.prog 77:=jG 77 Tryz.func77 aa4 rfl;obtain⟨zs,hz⟩:∃zs,zs=ss.map gx:=⟨_,rfl⟩;have FW:ss=zs.map qt:=by rw[hz,Yl]
 have Jx:=Re (P:=Tryz.prog) (f:=77) (es:=ss.map Dr) (sz:=1) (rest:=[]) (Q:=fun FX=>FX=t.map Dr) hE ?_ ?_
 .rw[Lm]at Jx;refine⟨hE,fun g w vals q1 q2 q3=>(Jx.2 g w vals q1 q2 q3).mono fun _ _ ⟨v,r,h',g',e1,⟨e2,FX,p1,p3⟩,rest⟩=>⟨v,r,h',g',e1,⟨e2,by rw[p3,p1]⟩,rest⟩⟩
 .intro e;exact absurd (FQ.1 e) ER
 .intro g w b cap F hr hF hH hb;have hFl:F.toList=zs.map Go.Proofs.encStr:=L6 (by rw[<-NA,<-FW];exact hr);have ut:F=zs.toArray.map Go.Proofs.encStr:=TP.1 (by rw[hFl];simp);have ZL:zs.length=ss.length:=by rw[hz,Lm]
  have zR:Holds Go.Proofs.encStr w b 0 zs.toArray:=fun j hj=>by
   have:=hH j (by rw[ut];simpa using hj)
   refine⟨this.1.trans ?_,this.2⟩;rw[ut,OS _ j (by simpa using hj),OS _ j hj];simp
  have hc:=Any.slices_Sort_string Tryz.laySortStr b 0 cap zs w zR hb Wk;have htz:(zs.mergeSort fun x y=>decide (x<=y))=t.map gx:=by
   have Jz:(zs.mergeSort fun x y=>decide (x<=y)).Perm zs:=List.mergeSort_perm _ _;have AaQ:=List.pairwise_mergeSort (le:=fun x y:List UInt8=>decide (x<=y)) (fun a b c h1 h2=>by simp only[A4]at *;exact List.le_trans h1 h2) (fun a b=>by simp only[Ib,A4];exact List.le_total a b) zs;refine List.Perm.eq_of_pairwise (le:=fun a b=>a<=b) (fun a b _ _ h k=>List.le_antisymm h k) (AaQ.imp fun h=>Db h) ht (Jz.trans ?_);rw[hz];exact(hp.map gx).symm
  rw[htz,ZL]at hc;rw[Lm];refine hc.mono ?_
  rintro e w' ⟨rfl,n,os,rfl⟩
  have E4:t.length=ss.length:=hp.length_eq;refine⟨rfl,(t.map gx).toArray.map Go.Proofs.encStr,t.map Dr,n,os,?_,rfl,by simp[E4],fun cs hcs=>?_,fun g w _=>?_,by rw[RO]⟩
  .rw[ut];simp[E4,ZL]
  .obtain⟨x,_,rfl⟩:=Ar.1 hcs;rfl
  .have e1:t.map Dr=((t.map gx).map qt).map Dr:=by rw[Yl]
   rw[e1,NA];have e:(((t.map gx).toArray.map Go.Proofs.encStr).toList)=(t.map gx).map Go.Proofs.encStr:=aa1
   rw[e];exact NW _ _ _ _ fun x hx=>by
    obtain⟨z,_,rfl⟩:=Ar.1 hx;rfl
def Cj:List CS:=(Lib.compact (ss.map gx)).map qt
theorem Ss:(Lib.compact zs).length<=zs.length:=by
 unfold Lib.compact Lib.compactUpTo;rw[Lm];exact Bd (Er _ _) (by rw[List.length_range];exact Ao _)
theorem AfQ(hl:BF ss)(ER:ss≠[]) :
  A6 Tryz.prog 79 [.msl 1000 ss.length] (Ai [(1000,.arr 1 (ss.map Dr))] Af) fun r h'=>r=.msl 2000 (Cj ss).length/\h'=Ai [(1000,.dead),(2000,.arr 1 ((Cj ss).map Dr))] Af:=by
 have hE:Gt Tryz.prog 79:=jG 79 Tryz.func79 aa4 rfl;obtain⟨zs,hz⟩:∃zs,zs=ss.map gx:=⟨_,rfl⟩;have FW:ss=zs.map qt:=by rw[hz,Yl]
 have ZL:zs.length=ss.length:=by rw[hz,Lm]
 have hcl:=Ss zs;have Jx:=WI (P:=Tryz.prog) (f:=79) (es:=ss.map Dr) (sz:=1) (rest:=[]) (n':=(Lib.compact zs).length) (Q:=fun FX=>FX=((Lib.compact zs++List.replicate (zs.length-(Lib.compact zs).length) []).map qt).map Dr) hE (fun e=>ER (FQ.1 e)) (by rw[Lm];omega) ?_
 .rw[Lm]at Jx;have ez:Cj ss=(Lib.compact zs).map qt:=by unfold Cj;rw[hz]
  refine⟨hE,fun g w vals q1 q2 q3=>(Jx.2 g w vals q1 q2 q3).mono fun _ _ ⟨x,r,h',g',e1,⟨e2,FX,p1,p2⟩,rest⟩=>⟨x,r,h',g',e1,⟨by rw[e2,ez,Lm],by
   rw[p2,p1,ez,Bl,Bl,List.take_append_of_le_length (by rw[Lm,Lm];exact Ao _),A3 (by rw[Lm,Lm];exact Ao _)]⟩,rest⟩⟩
 .intro g w b cap F hr hF hH hb hc;rw[Lm]at hF hc⊢;have hFl:F.toList=zs.map Go.Proofs.encStr:=L6 (by rw[<-NA,<-FW];exact hr);have ut:F=zs.toArray.map Go.Proofs.encStr:=TP.1 (by rw[hFl];simp);have zR:Holds Go.Proofs.encStr w b 0 zs.toArray:=fun j hj=>by
   have:=hH j (by rw[ut];simpa using hj)
   refine⟨this.1.trans ?_,this.2⟩;rw[ut,OS _ j (by simpa using hj),OS _ j hj];simp
  have hcon:=Any.slices_Compact_string Tryz.layCompactStr b 0 cap zs w zR Wk Wk;rw[ZL]at hcon;refine hcon.mono ?_
  rintro e w' ⟨rfl,q,rfl⟩
  refine⟨rfl,(Lib.compact zs++List.replicate (zs.length-(Lib.compact zs).length) []).toArray.map Go.Proofs.encStr,_,q,#[],?_,rfl,?_,fun cs hcs=>?_,fun g w _=>?_,?_⟩
  .rw[ut];simp;omega
  .simp;omega
  .obtain⟨x,_,rfl⟩:=Ar.1 hcs;rfl
  .rw[NA];have e:((Lib.compact zs++List.replicate (zs.length-(Lib.compact zs).length) []).toArray.map Go.Proofs.encStr).toList=(Lib.compact zs++List.replicate (zs.length-(Lib.compact zs).length) []).map Go.Proofs.encStr:=aa1
   rw[e];exact NW _ _ _ _ fun x hx=>by
    obtain⟨z,_,rfl⟩:=Ar.1 hx;rfl
  .rw[RO,grow_empty,ZL]
end Go.Eng
namespace Go.Eng
open Go.Proofs Go.Proofs.Tryz
variable {i:Nat}(l:List Sl)(p:CS)(m:List Sl)
structure Mv where
 path:CS
 a:Int
 b:Int
abbrev GA(m:Mv):List AV:=[vs m.path,G m.a,G m.b]
abbrev plP(s:Sl):Value×AV:=(.string s.path,G (place s.ver))
abbrev LB:List (Value×AV):=l.map plP
def TL:Int:=match AE l p with | some s=>place s.ver | none=>-1
def Zg(p:CS):Option Mv:=if TL l p≠TL m p then some ⟨p,TL l p,TL m p⟩else none
abbrev Pg(ps:List CS):List Mv:=ps.filterMap (Zg l m)
structure MG(l:List Sl):Prop where
 few:BF l
 val:∀s∈l,Bv s.ver=true
 inc:l.Pairwise ltP
theorem MG.step{l:List Sl}(h:MG l)(hi:i<l.length)(h0:0<i):Ek (l[i-1]' Wk).path l[i].path=true:=(Cy.1 h.inc) (i-1) i Wk hi Wk
theorem xr{l:List Sl}(h:MG l)(hi:i<l.length):∀b,(Value.string l[i].path,b)∉LB (l.take i):=fun b hb=>by
 obtain⟨s,hs,e⟩:=Ar.1 hb;obtain⟨j,hj,rfl⟩:=CG.1 hs;rw[List.getElem_take]at e;rw[BX]at hj;have q:=(Cy.1 h.inc) j i Wk hi Wk
 grind [Dd]
theorem xt{l:List Sl}(h:MG l){p:CS}{a:AV}(ha:(Value.string p,a)∈LB l):a=G (TL l p):=by
 grind [TL,OM,kw,ocP,MG.inc]
theorem xu{l:List Sl}{p:CS}(h:∀a,(Value.string p,a)∉LB l):TL l p=-1:=by
 unfold TL;rw[show AE l p=none from List.find?_eq_none.2 fun s hs e=>h _ (Ar.2 ⟨s,hs,by rw[<-Db e]⟩)]
theorem ir{l m:List Sl}{ps:List CS}{k:Nat}(h:k<ps.length):Pg l m (ps.take (k+1))=Pg l m (ps.take k)++(Zg l m ps[k]).toList:=by
 grind [N1]
theorem Ab9(hl:MG l):A6 prog 75 [sl Ae l] (Ai [] Af) fun r h'=>r=.tup [.mref 2000,I true]/\h'=Ai [(2000,.map Ca (LB l))] Af:=by
 have hfl:l.length<=1073741824:=hl.few;refine Bi (IU Dc) [(9,2000)] rfl BA hm rfl func75 aa4 rfl C4 aa4 rfl (Z {q:Nat // q<=l.length} (Z (fun q=>⟨[(0,sl Ae l),(4,.mref 9),(10,sl Ae l),(11,G (l.map Ae).length),(12,G q.1)],[(9,.map Ca (LB (l.take q.1)))],Af⟩) (Z (fun q=>l.length-q.1) (J (Z ⟨0,Ak _⟩ ?_) ?_))))
 .exact⟨Z5,Z1,Fh,A2 aa4⟩
 intro⟨i,i1⟩;refine J (fun h1=>?_) (fun h1=>?_)
 .have h1:(i:Int)<((l.map Ae).length:Int):=h1;have n1:=FY h1;refine Z (Ae l[i]) (J (Ht n1) (J rfl (yN (yN (yN (C1 (U (by have q:=wa l[i].ver;rw[A1 (hl.val _ (Ag n1)),A1 (hl.val _ (Ag n1))]at q;exact q) ?_)))))));refine J (fun h=>absurd h aa3) (fun _=>?_);refine J (fun h2=>?_) (fun h2=>?_)
  .have h2:(0:Int)<(i:Int):=h2;refine J (by grind [Au]) ?_;have hi0:0<i:=Wk
   refine Z (Ae (l[i-1])) (J (J (show(0:Int)<=(i:Int)-1 by omega) (by rw[show((i:Int)-1).toNat=i-1 by omega];grind)) (J rfl ?_));refine J (fun h3=>?_) (fun h3=>?_)
   .have h3:Ek (l[i-1]).path l[i].path=false:=(DZ _ _).trans h3;exact absurd (hl.step n1 hi0) aa0
   refine J aa4 (J (by grind [Au]) (Z ⟨i+1,n1⟩ ?_));exact⟨by grind,Z5,⟨⟨(show HO.map Ca (Fc (LB (l.take i)) (.string l[i].path) (G (place l[i].ver)))=.map Ca (LB (l.take (i+1))) by grind [Lh,xr,N1]),rfl⟩,W⟩,Fh,A2 aa4⟩
  refine J aa4 (J (by grind [Au]) (Z ⟨i+1,n1⟩ ?_));exact⟨by grind,Z5,⟨⟨(show HO.map Ca (Fc (LB (l.take i)) (.string l[i].path) (G (place l[i].ver)))=.map Ca (LB (l.take (i+1))) by grind [Lh,N1]),rfl⟩,W⟩,Fh,A2 aa4⟩
 have h1:¬((i:Int)<((l.map Ae).length:Int)):=h1;have n1:=El h1;have ei:l.take i=l:=A3 Wk;exact U (.refl _) ⟨rfl,show Ai [(2000,HO.map Ca (LB (l.take i)))] Af=Ai [(2000,.map Ca (LB l))] Af by rw[ei]⟩
theorem Aba(hl:MG l):PC 78 [.cmap Ca (LB l),vs p] (G (TL l p)):=by
 refine Ps Dc func78 rfl C4 (J (fun a ha=>?_) (fun Qq=>?_))
 .have ea:=xt hl ha;subst ea;exact .refl _
 exact .of_eq (show G (-1)=G (TL l p) by rw[xu Qq])
theorem o75(t:List CS)(hl:MG l)(hm2:MG m)(hfs:l.length+m.length<=1073741824)(ER:l++m≠[])(hp:t.Perm ((l++m).map (·.path)))(ht:(t.map gx).Pairwise fun a b=>a<=b):PC 34 [sl Ae l,sl Ae m] (.tup [sl GA (Pg l m (Cj t)),G 0]):=by
 obtain⟨LM,hLM⟩:∃LM,LM=l++m:=⟨_,rfl⟩;have hm:=hm2;rw[<-hLM]at hp;have hLl:LM.length=l.length+m.length:=aa0
 refine Ff (dO ⟨[],[(14,3)],[(10,1)],[(34,[12000,12500])],[],[],[],[],[],[],[6,7,8,9,11,13,14,15,16,17,18,19,21]⟩) rfl BA Go.Eng.hm rfl func34 aa4 rfl C4 aa4 (Z (.gen [] 1) (J rfl (A6.to2 (Ab9 l hl) ?_)));refine Z (.gen [] 1) (J rfl (A6.to2 (Ab9 m hm) ?_));refine cU [(0,sl Ae l),(1,sl Ae m),(6,.mref 12000),(8,.mref 12500),(10,.msl 10 0)] [(10,.arr 1 []),(12000,.map Ca (LB l)),(12500,.map Ca (LB m))] Z5 Z3 (Z (.gen [] 1) (J rfl (A6.to2 (v8 l hl.few) ?_)));have b4:A7 4 (m.map Ae)/\(l.map Ae).length=(l.map Ae).length/\((l.map Ae).length+(m.map Ae).length)*40<=140737488355328/\(l.map Ae).length+(m.map Ae).length<=9223372036854775807:=⟨(B8 (enc:=Ae) (n:=4) (fun _=>rfl) m),rfl,aa2,aa2⟩;refine J b4 (Z {q:Nat×List CS // q.1<=LM.length/\q.2=(LM.take q.1).map (·.path)} (Z (fun q=>⟨[(6,.mref 12000),(8,.mref 12500),(10,.msl 10 q.1.2.length),(37,.slice (.id 13500 4) (LM.map Ae)),(38,G (LM.length:Nat)),(39,G q.1.1)],[(10,.arr 1 (q.1.2.map Dr)),(12000,.rom Ca (LB l)),(12500,.rom Ca (LB m)),(13500,.tok 4 LM.length)],Af⟩) (Z (fun q=>LM.length-q.1.1) (J (Z ⟨(0,[]),Ak _,rfl⟩ ?_) ?_))))
 .exact⟨⟨X,X,X,⟨(show AV.slice (.id 13500 4) (l.map Ae++m.map Ae)=.slice (.id 13500 4) (LM.map Ae) by simp_all),rfl⟩,⟨(show G ((l.map Ae++m.map Ae:C0).length:Int)=G ((LM.length:Nat):Int) by simp_all),rfl⟩,X,W⟩,⟨X,X,X,⟨(show HO.tok 4 ((l.map Ae).length+(m.map Ae).length)=.tok 4 LM.length by simp_all),rfl⟩,W⟩,Fh,W⟩
 intro⟨⟨i,P⟩,i1,i2⟩;have i2:P=(LM.take i).map (·.path):=i2;have i3:P.length<=i:=aa0
 refine cU [(6,.mref 12000),(8,.mref 12500),(10,.msl 10 P.length),(37,.slice (.id 13500 4) (LM.map Ae)),(38,G (LM.length:Nat)),(39,G i)] [(10,.arr 1 (P.map Dr)),(12000,.rom Ca (LB l)),(12500,.rom Ca (LB m)),(13500,.tok 4 LM.length)] Z6 Z4 (J (fun h5=>?_) (fun h5=>?_))
 .have n5:i<LM.length:=Wk
  refine cU [(6,.mref 12000),(8,.mref 12500),(10,.msl 10 P.length),(37,.slice (.id 13500 4) (LM.map Ae)),(38,G (LM.length:Nat)),(39,G i)] [(10,.arr 1 (P.map Dr)),(12000,.rom Ca (LB l)),(12500,.rom Ca (LB m)),(13500,.tok 4 LM.length)] Z6 Z4 (Z (Ae LM[i]) (J (Ht n5) (J rfl (yN (yN (cU [(6,.mref 12000),(8,.mref 12500),(10,.msl 10 P.length),(12,.ref 12 0),(37,.slice (.id 13500 4) (LM.map Ae)),(38,G (LM.length:Nat)),(39,G i)] [(10,.arr 1 (P.map Dr)),(12,.cells (Ae LM[i])),(12000,.rom Ca (LB l)),(12500,.rom Ca (LB m)),(13500,.tok 4 LM.length)] Z7 Z5 ?_))))))
  have b6:A7 1 [[vs LM[i].path]]/\(P.map Dr).length=P.length/\((P.map Dr).length+([[vs LM[i].path]]:C0).length)*16<=140737488355328/\(P.map Dr).length+([[vs LM[i].path]]:C0).length<=9223372036854775807:=⟨⟨rfl,trivial⟩,aa0,aa2,aa2⟩;refine J b6 (J (by grind [Au]) (Z ⟨(i+1,P++[LM[i].path]),n5,by show P++[LM[i].path]=_;rw[N1 n5,Bl,i2];rfl⟩ ?_));exact⟨Dl LM.length i Wk,⟨X,X,⟨(show AV.msl 10 ((P.map Dr).length+([[vs LM[i].path]]:C0).length)=.msl 10 (P++[LM[i].path]).length by simp_all),rfl⟩,X,X,X,W⟩,⟨⟨(show HO.arr 1 (P.map Dr++[[vs LM[i].path]])=.arr 1 ((P++[LM[i].path]).map Dr) by simp_all),rfl⟩,X,X,X,W⟩,Fh,W⟩
 have hPe:P=LM.map (·.path):=aa2
 have hPf:BF P:=Wk
 have hPn:P≠[]:=fun e=>by grind
 have hPt:t.length=P.length:=by rw[hPe];exact hp.length_eq
 have yx:t.length<=1073741824:=Wk
 have htn:t≠[]:=fun e=>hPn (Az aa0);have hcl:(Cj t).length<=t.length:=by unfold Cj;rw[Lm];exact Bd (Ss _) aa2
 refine cU [(6,.mref 12000),(8,.mref 12500),(10,.msl 10 P.length)] [(10,.arr 1 (P.map Dr)),(12000,.rom Ca (LB l)),(12500,.rom Ca (LB m))] Z3 Z3 (Z (.gen [(10,1000)] 0) (J rfl (A6.to2 (AfP P t hPf hPn aa2 ht) ?_)));refine cU [(6,.mref 12000),(8,.mref 12500),(10,.msl 10 P.length),(13,.v (.func (.func 78) #[] #[]))] [(10,.arr 1 (t.map Dr)),(12000,.rom Ca (LB l)),(12500,.rom Ca (LB m))] Z4 Z3 (cU [(6,.mref 12000),(8,.mref 12500),(10,.msl 10 t.length),(13,.v (.func (.func 78) #[] #[])),(14,.slice (.id 14 3) [])] [(10,.arr 1 (t.map Dr)),(14,.tok 3 0),(12000,.rom Ca (LB l)),(12500,.rom Ca (LB m))] ⟨X,X,⟨(Aa (AV.msl 10) hPt.symm),rfl⟩,X,X,W⟩ Z4 (Z (.gen [(10,1000)] 1) (J rfl (A6.to2 (AfQ t Wk htn) ?_))));refine Z {q:Nat×List Mv // q.1<=(Cj t).length/\q.2=Pg l m ((Cj t).take q.1)} (Z (fun q=>⟨[(6,.mref 12000),(8,.mref 12500),(13,.v (.func (.func 78) #[] #[])),(14,.slice (.id 14 3) (q.1.2.map GA)),(52,.msl 15200 (Cj t).length),(53,G (Cj t).length),(54,G q.1.1)],[(14,.tok 3 q.1.2.length),(12000,.rom Ca (LB l)),(12500,.rom Ca (LB m)),(15200,.arr 1 ((Cj t).map Dr))],Af⟩) (Z (fun q=>(Cj t).length-q.1.1) (J (Z ⟨(0,[]),Ak _,rfl⟩ ?_) ?_)))
 .exact⟨Z7,Z4,Fh,W⟩
 intro⟨⟨k,O⟩,k1,k2⟩;have k2:O=Pg l m ((Cj t).take k):=k2;have k3:O.length<=k:=aa2
 refine cU [(6,.mref 12000),(8,.mref 12500),(13,.v (.func (.func 78) #[] #[])),(14,.slice (.id 14 3) (O.map GA)),(52,.msl 15200 (Cj t).length),(53,G (Cj t).length),(54,G k)] [(14,.tok 3 O.length),(12000,.rom Ca (LB l)),(12500,.rom Ca (LB m)),(15200,.arr 1 ((Cj t).map Dr))] Z7 Z4 (J (fun JN=>?_) (fun JN=>?_))
 .have nb:k<(Cj t).length:=Wk
  have n10:=nb;have gb:(Cj t)[k]?=some (Cj t)[k]:=Ge nb;refine cU [(6,.mref 12000),(8,.mref 12500),(13,.v (.func (.func 78) #[] #[])),(14,.slice (.id 14 3) (O.map GA)),(52,.msl 15200 (Cj t).length),(53,G (Cj t).length),(54,G k)] [(14,.tok 3 O.length),(12000,.rom Ca (LB l)),(12500,.rom Ca (LB m)),(15200,.arr 1 ((Cj t).map Dr))] Z7 Z4 (J Wk (J (show(Cj t).length=((Cj t).map Dr).length by grind) (Z (Dr ((Cj t)[k])) (J (Br gb) (cU [(6,.mref 12000),(8,.mref 12500),(13,.v (.func (.func 78) #[] #[])),(14,.slice (.id 14 3) (O.map GA)),(16,vs ((Cj t)[k])),(52,.msl 15200 (Cj t).length),(53,G (Cj t).length),(54,G k)] [(14,.tok 3 O.length),(12000,.rom Ca (LB l)),(12500,.rom Ca (LB m)),(15200,.arr 1 ((Cj t).map Dr))] Z8 Z4 (C1 (U (Aba l (Cj t)[k] hl) (C1 (U (Aba m (Cj t)[k] hm) (yN (cU [(6,.mref 12000),(8,.mref 12500),(13,.v (.func (.func 78) #[] #[])),(14,.slice (.id 14 3) (O.map GA)),(17,.ref 17 0),(52,.msl 15200 (Cj t).length),(53,G (Cj t).length),(54,G k)] [(14,.tok 3 O.length),(17,.cells [vs ((Cj t)[k]),G (TL l (Cj t)[k]),G (TL m (Cj t)[k])]),(12000,.rom Ca (LB l)),(12500,.rom Ca (LB m)),(15200,.arr 1 ((Cj t).map Dr))] Z8 Z5 (J (fun F4=>?_) (fun F4=>?_)))))))))))))
  .refine cU [(6,.mref 12000),(8,.mref 12500),(13,.v (.func (.func 78) #[] #[])),(14,.slice (.id 14 3) (O.map GA)),(17,.ref 17 0),(52,.msl 15200 (Cj t).length),(53,G (Cj t).length),(54,G k)] [(14,.tok 3 O.length),(17,.cells [vs ((Cj t)[k]),G (TL l (Cj t)[k]),G (TL m (Cj t)[k])]),(12000,.rom Ca (LB l)),(12500,.rom Ca (LB m)),(15200,.arr 1 ((Cj t).map Dr))] Z8 Z5 (yN (J (Yh rfl Wk aa3) (J (Ii k Wk) ?_)));have eO:=ir (l:=l) (m:=m) n10;have eM:Zg l m (Cj t)[k]=some ⟨(Cj t)[k],(TL l (Cj t)[k]),(TL m (Cj t)[k])⟩:=A1 F4;rw[eM]at eO;refine Z ⟨(k+1,(O++[(⟨(Cj t)[k],(TL l (Cj t)[k]),(TL m (Cj t)[k])⟩:Mv)])),n10,by grind⟩ ?_;exact⟨by show(Cj t).length-(k+1)<(Cj t).length-k;omega,⟨X,X,X,⟨(show AV.slice (.id 14 3) (O.map GA++[[vs (Cj t)[k],G (TL l (Cj t)[k]),G (TL m (Cj t)[k])]])=.slice (.id 14 3) ((O++[(⟨(Cj t)[k],(TL l (Cj t)[k]),(TL m (Cj t)[k])⟩:Mv)]).map GA) by grind),rfl⟩,X,X,X,W⟩,⟨⟨hkA,rfl⟩,X,X,X,W⟩,Fh,W⟩
  have F4:((TL l (Cj t)[k]):Int)=((TL m (Cj t)[k]):Int):=As F4;refine J (Ii k Wk) ?_;have eO:=ir (l:=l) (m:=m) n10;have eM:Zg l m (Cj t)[k]=none:=AL (fun c=>c F4);rw[eM]at eO;rw[show(none:Option Mv).toList=[]from rfl,Ey]at eO;refine Z ⟨(k+1,O),n10,by grind⟩ ?_;exact⟨by grind,Z7,Z4,Fh,W⟩
 refine cU [(14,.slice (.id 14 3) (O.map GA))] [(14,.tok 3 O.length)] Z1 Z1 ?_
 have ek:(Cj t).take k=Cj t:=A3 Wk;have eO:O=Pg l m (Cj t):=aa2
 exact E (fun z=>AV.tup [sl GA z,G 0]) eO
instance:DecidableEq Mv:=fun x y=>decidable_of_iff (x.path=y.path/\x.a=y.a/\x.b=y.b) ⟨fun⟨h1,h2,h3⟩=>by cases x;cases y;simp_all,fun h=>by subst h;exact⟨rfl,rfl,rfl⟩⟩
theorem Ab5{a b:Mv}(h:a.path=b.path/\a.a=b.a/\a.b=b.b/\True):a=b:=by cases a;cases b;simp_all
theorem Ab6{a b:Mv}(h:¬(a.path=b.path/\a.a=b.a/\a.b=b.b/\True)):a≠b:=fun e=>h (by subst e;exact⟨rfl,rfl,rfl,trivial⟩)
theorem o35(a b:List Mv)(ha:BF a):PC 35 [sl GA a,sl GA b] (I (decide (a=b))):=by
 have yh:a.length<=1073741824:=ha;refine Ps Dc func35 rfl C4 (J (fun h1=>?_) (fun h1=>?_))
 .exact .of_eq (show I false=I (decide (a=b)) by rw[At (fun e=>absurd (Aa (fun z=>((z.map GA).length:Int)) e) h1)])
 have h1:((a.map GA).length:Int)=((b.map GA).length:Int):=As h1;have hl:a.length=b.length:=by have q:=h1;rw[Lm,Lm]at q;omega
 refine Z {q:Nat // q<=a.length/\∀j (hj:j<a.length),j<q->a[j]=b[j]'(hl▸hj)} (Z (fun q=>⟨[(0,sl GA a),(1,sl GA b),(12,G (a.map GA).length),(13,G q.1)],[],Af⟩) (Z (fun q=>a.length-q.1) (J (Z ⟨0,Ak _,fun _ _ h=>absurd h (Ch _)⟩ ?_) ?_)))
 .exact⟨Z4,W,Fh,W⟩
 intro⟨i,i1,i2⟩;refine J (fun h3=>?_) (fun h3=>?_)
 .have h3:(i:Int)<((a.map GA).length:Int):=h3;have n3:=FY h3;have nT:i<b.length:=by have q:=h3;rw[Lm]at q;omega
  refine Z (GA a[i]) (J (Ht n3) (J rfl (yN (Z (GA b[i]) (J (Ht nT) (J rfl (yN (J (fun h4=>?_) (fun h4=>?_)))))))))
  .refine J aa4 (J (Ii i Wk) ?_);refine Z ⟨i+1,n3,fun j hj F6=>if e:j<i then i2 j hj e else by
     have e:j=i:=Wk
     subst e;exact Ab5 h4⟩ ?_
   exact⟨Dl a.length i Wk,Z4,W,Fh,W⟩
  refine J aa4 ?_;exact .of_eq (show I false=I (decide (a=b)) by rw[At (mn (i:=i) (ha:=n3) (hb:=nT) (Ab6 h4))])
 have h3:¬((i:Int)<((a.map GA).length:Int)):=h3;have n3:=El h3;exact .of_eq (show I true=I (decide (a=b)) by rw[Ax (ik hl fun j hj=>i2 j hj (by have q:=h3;rw[Lm]at q;omega))])
abbrev pa:CS:=⟨#[97,47,118,49]⟩
abbrev pb:CS:=⟨#[98,47,118,49]⟩
abbrev tX(m:Int):Ver:=⟨1,m,0⟩
abbrev lw(m:Int)(q:List Rq)(y:Bool):Rl:=⟨p,tX m,q,R,R,R,y⟩
abbrev q40:List Rq:=[⟨pb,[(1000,1000000)]⟩]
abbrev Ra:List Rl:=[lw pa 0 q40 false,lw pb 0 [] false,lw pb 1 [] false,lw pb 2 [] true]
abbrev QP:List Rq:=[⟨pa,[(0,1000000)]⟩]
abbrev a40:List Sl:=[⟨pa,tX 0⟩,⟨pb,tX 1⟩]
theorem zD:∀r∈Ra,Eo r:=
 By.2 ⟨⟨by decide,by decide⟩,By.2 ⟨⟨by decide,by decide⟩,By.2 ⟨⟨by decide,by decide⟩,By.2 ⟨⟨by decide,by decide⟩,CR _⟩⟩⟩⟩
abbrev oW:AV:=BY
abbrev iK(b:Int)(y:Bool):List AV:=[vs p,G 1,G b,G 0,oW,vs R,vs R,vs R,I y]
abbrev xU:List AV:=[.slice .none [V (lw pa 0 q40 false),iK pb 0 false,iK pb 1 false,iK pb 2 true],oW]
theorem iZ:CD (.agg xU) (GM Ra []):=
 have h (p:CS) (b:Int) (y:Bool):Ms (iK p b y) (V (lw p b [] y)):=⟨.refl _,.refl _,.refl _,.refl _,.nil,.refl _,.refl _,.refl _,.refl _,trivial⟩
 CD.agg ⟨CD.slice ⟨.refl _,h pb 0 false,h pb 1 false,h pb 2 true,trivial⟩,.nil,trivial⟩
theorem tD(m:Int)(h:m=1\/m=2):MG [⟨pa,tX 0⟩,⟨pb,tX m⟩]:=by
 rcases h with rfl | rfl
 .exact⟨by decide,By.2 ⟨by decide,By.2 ⟨by decide,CR _⟩⟩,.cons (By.2 ⟨by show Ek pa pb=true;kernel_rfl,CR _⟩) (.cons (CR _) .nil)⟩
 .exact⟨by decide,By.2 ⟨by decide,By.2 ⟨by decide,CR _⟩⟩,.cons (By.2 ⟨by show Ek pa pb=true;kernel_rfl,CR _⟩) (.cons (CR _) .nil)⟩
end Go.Eng
namespace Go.Eng
/-! The empty workspace, and a workspace twice. -/
/-! What is merged. -/
/-! What a workspace makes of an index. -/
/-! What the solver selects. -/
section
variable {x:List Rl}{roots:List Rq}
def Py(x:List Rl)(roots:List Rq):Prop:=∃s,lS x roots s
theorem Zz(hv:Cn x roots=true)(hx:x.length<=16):HN x roots=0:=by
 unfold HN;rw[A1 hv,G2 hx];rfl
theorem Ma(hv:Cn x roots=true)(hx:x.length<=16):Cq x roots=PH x roots:=by
 unfold Cq;rw[A1 ⟨hv,G2 hx⟩]
theorem OQ(hv:Cn x roots=true)(hx:x.length<=16):(Cq x roots).found=true↔Py x roots:=by
 obtain⟨h0,h1⟩:=HB hv;have hR:=IR h0 h1;have hf:=G2 (roots:=roots) hx;rw[Ma hv hx];unfold PH;generalize Ep x roots=o at *
 constructor
 .intro h
  by_cases OW:o.found=true
  .obtain⟨_,t,sl,y2,y3,y4,y5⟩:=hR.yes OW;have hm:o.dec∈Cp x roots (x.length+1) []:=List.mem_of_head? y5;exact⟨_,(JT (.nil x) (.nil roots) _ hm).sol h0⟩
  .rw[AL OW]at h;cases h
 .rintro⟨s,hs⟩
  by_cases OW:o.found=true
  .rw[A1 OW]
  .have OW:o.found=false:=by simpa using OW
   obtain⟨n4,n5⟩:=(hR.no OW).2.2 hf;have kd:Ei o.ss o.res=[]:=by
    cases h:Ei o.ss o.res with
    |nil=>rfl
    |cons u l=>
     rw[h]at n5
     have:=(JL.1 n5).2 u (Ah ..)
     cases this
   have YQ:Ei o.ss o.res∈o.ss.drv:=AA (ES n4)
   have:=Im hs (fun _ h=>by cases h) hR.der.der _ YQ
   rw[kd]at this;cases this
theorem cE(hv:Cn x roots=true)(hx:x.length<=16):(Jo x roots=0↔Py x roots)/\(Jo x roots=17↔¬Py x roots):=by
 unfold Jo;rw[Zz hv hx,AL (fun h=>h rfl),<-OQ hv hx]
 by_cases h:(Cq x roots).found=true
 .rw[A1 h];simp[h]
 .rw[AL h];simp[h]
theorem Oo(hv:Cn x roots=true)(hx:x.length<=16):Cp x roots (x.length+1) []≠[]↔Py x roots:=by
 obtain⟨h0,h1⟩:=HB hv;constructor
 .intro h;cases hl:Cp x roots (x.length+1) []with
  |nil=>exact absurd hl h
  |cons d L=>
   have hm:d∈Cp x roots (x.length+1) []:=by rw[hl];exact Ah ..
   exact⟨_,(JT (.nil x) (.nil roots) _ hm).sol h0⟩
 .intro h e;have hf:=(OQ hv hx).2 h;have hR:=IR h0 h1;rw[Ma hv hx]at hf;unfold PH at hf
  by_cases OW:(Ep x roots).found=true
  .obtain⟨_,t,sl,y2,y3,y4,y5⟩:=hR.yes OW;have hm:=List.mem_of_head? y5;rw[e]at hm;cases hm
  .rw[AL OW]at hf;cases hf
theorem lB(hv:Cn x roots=true)(hx:x.length<=16){d:List Cd}{l:List (List Cd)}(h:Cp x roots (x.length+1) []=d::l):Jo x roots=0/\VR x roots=DK (Q d):=by
 obtain⟨h0,h1⟩:=HB hv;have hF:Py x roots:=(Oo hv hx).1 (by rw[h];exact List.cons_ne_nil _ _);have hE:=(cE hv hx).1.2 hF;refine⟨hE,?_⟩;have hf:=(OQ hv hx).2 hF;have hR:=IR h0 h1;unfold VR;rw[hE,A1 rfl,Ma hv hx];rw[Ma hv hx]at hf;unfold PH at hf⊢
 by_cases OW:(Ep x roots).found=true
 .rw[A1 OW];obtain⟨_,t,sl,y2,y3,y4,y5⟩:=hR.yes OW;rw[h]at y5;cases y5;rfl
 .rw[AL OW]at hf;cases hf
theorem pV(h:Cn x roots=false):Jo x roots≠0/\VR x roots=[]:=by
 have h2:HN x roots=1:=by unfold HN;rw[h];rfl
 have h3:Jo x roots=1:=by unfold Jo;rw[h2];rfl
 exact⟨by rw[h3];decide,by unfold VR;rw[h3];rfl⟩
end
/-! Releases whose names satisfy p get Yanked. -/
section
variable {x:List Rl}{roots:List Rq}{p:Sl->Bool}
theorem fV(hv:Cn x roots=true)(hx:x.length<=16):Jo x roots=17↔Cp x roots (x.length+1) []=[]:=by
 rw[(cE hv hx).2,<-Oo hv hx];exact BV
end
end Go.Eng
namespace Go.Eng
open Go.Proofs
variable {p:CS}{L M:List (List Cd)}{N:List Nd}{i:Nat}{α:Type}(s:List Sl)(x:List Rl)(ifs:C0)(roots:List Rq)(f:Rl->List (List Cd))(l:List Sl)(q:Rq)(n:Nat)(F:List (List Sl))(m k:Nat)(dec:List Cd)
theorem No:∀cs∈s.map Ae,cs.length=4:=fun cs h=>by
 grind
abbrev Oy:C0:=((s.map Ae).take (((s.map Ae).length:Nat):Int).toNat).drop ((k:Nat):Int).toNat
abbrev eG:C0:=((s.map Ae).take ((k:Nat):Int).toNat).drop ((0:Int)).toNat
theorem pN:Oy s k=(s.drop k).map Ae:=by
 grind [List.take_of_length_le,List.map_drop]
theorem r5:eG s k=(s.take k).map Ae:=by
 grind [List.map_take]
theorem ui(x:Sl)(k:Nat)(h:s.length<=1073741824):A7 4 (Oy s k)/\[Ae x].length=1/\([Ae x].length+(Oy s k).length)*40<=140737488355328/\[Ae x].length+(Oy s k).length<=9223372036854775807:=by
 grind [HR]
theorem uj(x:Sl)(k:Nat)(hk:k<=s.length)(h:s.length<=1073741824):A7 4 ([Ae x]++Oy s k)/\(eG s k).length=((k:Nat):Int).toNat-((0:Int)).toNat/\((eG s k).length+([Ae x]++Oy s k).length)*40<=140737488355328/\(eG s k).length+([Ae x]++Oy s k).length<=9223372036854775807:=by
 grind [HR,No]
theorem uO(x:Sl)(k:Nat):eG s k++([Ae x]++Oy s k)=(s.take k++([x]++s.drop k)).map Ae:=by
 grind [pN,r5]
theorem bz{s:List Sl}{x:Sl}{k:Nat}(hs:Pz s)(hn:∀y∈s,y.path≠x.path)(h1:∀j (hj:j<s.length),k<=j->Ek x.path s[j].path=true)(h2:k=0\/∃h:k-1<s.length,Ek x.path s[k-1].path=false)(hk:k<=s.length) :
  Pz (s.take k++([x]++s.drop k)):=by
 have eU : s.Pairwise fun a b=>Ek a.path b.path=true:=hs;have ht:∀y∈s.take k,Ek y.path x.path=true:=fun y hy=>by
  grind [List.mem_iff_getElem,Ik,D2,List.pairwise_iff_getElem]
 have hd:∀y∈s.drop k,Ek x.path y.path=true:=fun y hy=>by
  obtain⟨j,hj,rfl⟩:=CG.1 hy;simp_all
 show(s.take k++([x]++s.drop k)).Pairwise _;rw[List.pairwise_append];refine⟨eU.sublist (List.take_sublist _ _),?_,fun a ha b hb=>?_⟩
 all_goals grind [D2]
theorem fe(x:Sl)(k:Nat):(s.take k++([x]++s.drop k)).Perm (x::s):=by
 grind [List.take_append_drop]
def MJ(r:Rl)(l:List Sl):Bool:=r.reqs.any fun q=>l.any fun y=>decide (y.path=q.path)&&!has q.set (place y.ver)
theorem uX{l s:List Sl}(hn:(l.map (·.path)).Nodup)(hp:s.Perm (l.take i))(hi:i<l.length):∀y∈s,y.path≠l[i].path:=fun y hy e=>by
 grind [List.mem_iff_getElem,List.pairwise_iff_getElem]
theorem s74(hl:BF l)(hn:(l.map (·.path)).Nodup):PC 160 [sl Ae l] (sl Ae (DK l)):=by
 refine Ps (pT [] [(3,0)] []) Tryz.func160 rfl C4 (Z {q:Nat×List Sl // q.1<=l.length/\q.2.Perm (l.take q.1)/\Pz q.2} (Z (fun q=>⟨[(0,sl Ae l),(3,sl Ae q.1.2),(4,G q.1.1)],[],Af⟩) (Z (fun q=>l.length-q.1.1) (J (Z ⟨(0,[]),Ak _,.refl _,.nil⟩ ?_) ?_))))
 .exact⟨Z3,W,Fh,W⟩
 intro⟨⟨i,s⟩,i1,i2,i3⟩;have Xk:s.length<=l.length:=by grind [List.length_take,List.Perm.length_eq]
 refine J (fun h1=>?_) (fun h1=>?_)
 .have h1:(i:Int)<((l.map Ae).length:Int):=h1;have n1:=FY h1;refine Z {q:Nat // q<=s.length/\∀j (hj:j<s.length),q<=j->Ek l[i].path s[j].path=true} (Z (fun q=>⟨[(0,sl Ae l),(3,sl Ae s),(4,G i),(5,G q.1)],[],Af⟩) (Z (fun q=>q.1) (J (Z ⟨s.length,Ao _,fun j hj F6=>by omega⟩ ?_) ?_)))
  .exact⟨⟨X,X,X,⟨(show G ((s.map Ae).length:Int)=G (s.length:Int) by simp_all),rfl⟩,W⟩,W,Fh,W⟩
  intro⟨k,k1,k2⟩;refine J (fun h2=>?_) (fun h2=>?_)
  .have h2:(0:Int)<(k:Int):=h2;refine J (by grind [Au]) ?_;have hk1:k-1<s.length:=Wk
   refine Z (Ae (s[k-1])) (J (J (show(0:Int)<=(k:Int)-1 by omega) aa0) (J rfl ?_));refine Z (Ae l[i]) (J (Ht n1) (J rfl (J (fun h3=>?_) (fun h3=>?_))))
   .have h3:Ek l[i].path (s[k-1]).path=true:=(DZ _ _).trans h3;refine J aa4 (J (by grind [Au]) ?_);refine Z ⟨k-1,by omega,fun j hj F6=>by
      grind⟩ ?_
    exact⟨by grind,⟨X,X,X,⟨(show G ((k:Int)-1)=G ((k-1:Nat):Int)from Aa G Wk),rfl⟩,W⟩,W,Fh,W⟩
   have h3:Ek l[i].path (s[k-1]).path=false:=(DZ _ _).trans (BC.2 h3);have SD:k=0\/∃h:k-1<s.length,Ek l[i].path s[k-1].path=false:=.inr ⟨hk1,h3⟩;refine J aa4 (J (show(0:Int)<=0/\(0:Int)<=k/\(k:Int)=k/\(k:Int)<=((s.map Ae).length:Nat) by simp_all) (J (No s) (Z (Ae l[i]) (J (Ht n1) (J rfl (yN (J (show(0:Int)<=k/\(k:Int)<=((s.map Ae).length:Nat)/\(((s.map Ae).length:Nat):Int)<=((s.map Ae).length:Nat) by simp_all) (J (No s) ?_))))))));refine J (ui s l[i] k Wk) (J (uj s l[i] k k1 Wk) (J aa4 (J (by grind [Au]) ?_)));have si:l.take (i+1)=l.take i++[l[i]]:=Da n1;have cZ:∀y∈s,y.path≠l[i].path:=uX hn i2 n1;refine Z ⟨(i+1,s.take k++([l[i]]++s.drop k)),n1,by grind [fe],bz i3 cZ k2 SD k1⟩ ?_;exact⟨Dl l.length i Wk,⟨X,⟨(show AV.slice .none (eG s k++([Ae l[i]]++Oy s k))=sl Ae (s.take k++([l[i]]++s.drop k))from Aa (AV.slice .none) (uO s l[i] k)),rfl⟩,X,W⟩,W,Fh,W⟩
  have h2:¬((0:Int)<(k:Int)):=h2;have SD:k=0\/∃h:k-1<s.length,Ek l[i].path s[k-1].path=false:=.inl Wk;refine J aa4 (J (show(0:Int)<=0/\(0:Int)<=k/\(k:Int)=k/\(k:Int)<=((s.map Ae).length:Nat) by omega) (J (No s) (Z (Ae l[i]) (J (Ht n1) (J rfl (yN (J (show(0:Int)<=k/\(k:Int)<=((s.map Ae).length:Nat)/\(((s.map Ae).length:Nat):Int)<=((s.map Ae).length:Nat) by omega) (J (No s) ?_))))))));refine J (ui s l[i] k Wk) (J (uj s l[i] k k1 Wk) (J aa4 (J (by grind [Au]) ?_)));have si:l.take (i+1)=l.take i++[l[i]]:=Da n1;have cZ:∀y∈s,y.path≠l[i].path:=uX hn i2 n1;refine Z ⟨(i+1,s.take k++([l[i]]++s.drop k)),n1,by grind,bz i3 cZ k2 SD k1⟩ ?_;exact⟨Dl l.length i Wk,⟨X,⟨(show AV.slice .none (eG s k++([Ae l[i]]++Oy s k))=sl Ae (s.take k++([l[i]]++s.drop k))from Aa (AV.slice .none) (uO s l[i] k)),rfl⟩,X,W⟩,W,Fh,W⟩
 have h1:¬((i:Int)<((l.map Ae).length:Int)):=h1;have n1:=El h1;have hi:l.take i=l:=A3 Wk;exact E (fun z=>sl Ae z) (OA i3 (N0 hn) fun y=>by grind [FU])
def Xz(y:Sl):Bool:=decide (y.path=q.path)&&!has q.set (place y.ver)
def uV:Bool:=l.any (Xz q)
theorem sC{l:List Sl}{l0:List Sl}{y:Sl}(h:l=l0++[y]):(0:Int)<=((l.map Ae).length:Int)-1/\(l.map Ae)[(((l.map Ae).length:Int)-1).toNat]?=some (Ae y):=by
 simp_all
theorem s77(l0:List Sl)(y:Sl)(r:Rl)(hx:∀r∈x,Eo r)(Mu:BF x)(hl:l.length<=100000)(hly:l=l0++[y])(hr:AW x ⟨y.path,y.ver⟩=some r)(hv:∀y∈l,Bv y.ver=true)(hq:∀q∈r.reqs,BF q.set)(hrl:r.reqs.length<=100000) :
  PC 163 [GM x ifs,sl Ae l] (I (MJ r l)):=by
 have hml:(l.map Ae).length=l.length:=Lm _;have zJ:=x9 x ifs y.path y.ver hx Mu;rw[hr]at zJ;refine Ps (pC [2] []) Tryz.func163 rfl C4 (J (by grind [Au]) (Z (Ae y) (J (sC hly) (J rfl (yN (yN (yN (yN (C1 (U zJ (yN (Z {q:Nat // q<=r.reqs.length/\∀j (hj:j<r.reqs.length),j<q->uV l r.reqs[j]=false} (Z (fun q=>⟨[(1,sl Ae l),(6,.ref 6 0),(8,G q.1)],[(6,.cells (V r))],Af⟩) (Z (fun q=>r.reqs.length-q.1) (J (Z ⟨0,Ak _,fun _ _ h=>absurd h (Ch _)⟩ ?_) ?_)))))))))))))))
 .exact⟨Z3,Z1,Fh,W⟩
 intro⟨i,i1,i2⟩;refine J (fun h1=>?_) (fun h1=>?_)
 .have h1:(i:Int)<((r.reqs.map Ac).length:Int):=h1;have n1:=FY h1;refine Z {q:Nat // q<=l.length/\∀j (hj:j<l.length),j<q->Xz r.reqs[i] l[j]=false} (Z (fun q=>⟨[(1,sl Ae l),(6,.ref 6 0),(8,G i),(9,G q.1)],[(6,.cells (V r))],Af⟩) (Z (fun q=>l.length-q.1) (J (Z ⟨0,Ak _,fun _ _ h=>absurd h (Ch _)⟩ ?_) ?_)))
  .exact⟨Z4,Z1,Fh,W⟩
  intro⟨k,k1,k2⟩;refine J (fun h2=>?_) (fun h2=>?_)
  .have n2:=FY h2;refine Z (Ae l[k]) (J (Ht n2) (J rfl (Z (Ac r.reqs[i]) (J (Ht n1) (J rfl (J (fun h3=>?_) (fun h3=>?_)))))))
   .refine Z (Ac r.reqs[i]) (J (Ht n1) (J rfl (Z (Ae l[k]) (J (Ht n2) (J rfl (yN (U (qu l[k].ver (hv _ (Ag n2))) (Ay (Bt (has r.reqs[i].set (place l[k].ver))) (fun h4=>?_) (fun h4=>?_)))))))))
    .refine U (cb h4 (ah r.reqs[i].set (place l[k].ver) (hq _ (Ag n1)))) (J aa4 (J (by grind [Au]) ?_));have hmk:Xz r.reqs[i] l[k]=false:=by grind [Xz]
     refine Z ⟨k+1,n2,fun j hj F6=>if e:j<k then k2 j hj e else by
       grind⟩ ?_
     exact⟨by grind,Z4,Z1,Fh,W⟩
    refine U (cb h4 (ah r.reqs[i].set (place l[k].ver) (hq _ (Ag n1)))) (J aa4 ?_);exact E I (show true=MJ r l from(Bs.2 ⟨r.reqs[i],Ag n1,Bs.2 ⟨l[k],Ag n2,by simp_all⟩⟩).symm)
   refine J aa4 (J (by grind [Au]) ?_);have hmk:Xz r.reqs[i] l[k]=false:=by grind [Xz]
   refine Z ⟨k+1,n2,fun j hj F6=>if e:j<k then k2 j hj e else by
     grind⟩ ?_
   exact⟨by grind,Z4,Z1,Fh,W⟩
  have n2:=El h2;refine J (by grind [Au]) ?_;refine Z ⟨i+1,n1,fun j hj F6=>if e:j<i then i2 j hj e else by
    have e:j=i:=Wk
    subst e;exact IC.2 fun y hy=>by
     grind [List.mem_iff_getElem]⟩ ?_
  exact⟨Dl r.reqs.length i Wk,Z3,Z1,Fh,W⟩
 have n1:=El h1;have hcf:MJ r l=false:=IC.2 fun q hq=>by
  obtain⟨m,hm,rfl⟩:=CG.1 hq;show ¬uV l r.reqs[m]=true
  grind
 exact E I hcf.symm
def tk(L:List (List Cd))(m:Nat):List (List Sl):=F++(lfS L).take (m-F.length)
theorem qe:tk F [] m=F:=by grind [tk]
theorem ge{F:List (List Sl)}{m:Nat}(h:(tk F L m).length<m):tk F (L++M) m=tk (tk F L m) M m:=by
 grind [tk,List.take_append]
theorem iU{F:List (List Sl)}{m:Nat}(h:m<=(tk F L m).length)(hF:F.length<=m):tk F (L++M) m=tk F L m:=by
 grind [tk]
def Mx(N:List Nd)(p:CS)(r:Rl):List (List Cd):=if r.path=p/\r.yanked=false then lvC x roots n dec N ⟨plc r.ver,r⟩else []
def ZC(x:List Rl)(i:Nat):List (List Cd):=((x.take i).map f).flatten
theorem cP(x:List Rl):ZC f x 0=[]:=rfl
theorem QZ{f:Rl->List (List Cd)}{x:List Rl}(h:i<x.length):ZC f x (i+1)=ZC f x i++f x[i]:=by
 grind [ZC,List.take_succ_eq_append_getElem]
theorem Jr{f:Rl->List (List Cd)}{x:List Rl}(h:i<x.length)(hf:f x[i]=[]):ZC f x (i+1)=ZC f x i:=by grind [QZ]
theorem XV(x:List Rl)(i:Nat):ZC f x x.length=ZC f x i++((x.drop i).map f).flatten:=by
 grind [ZC,List.take_append_drop]
theorem dD(p:CS)(g:Cd->List α):((Bk x p).map g).flatten=(x.map fun r=>if r.path=p/\r.yanked=false then g ⟨plc r.ver,r⟩else []).flatten:=by
 induction x<;>grind [Bk]
theorem ft{x:List Rl}{roots:List Rq}{n:Nat}{dec:List Cd}{n0:Nd}{l:List Nd}(h:(D4 roots dec).2=n0::l) :
  Cp x roots (n+1) dec=ZC (Mx x roots n dec (n0::l) (D4 roots dec).1) x x.length:=by
 unfold Cp ZC;rw[h,Hu];exact dD x _ _
section
variable {x:List Rl}{roots:List Rq}{dec:List Cd}
theorem bX(hx:Aw x=0)(hd:Df x dec):B3 x roots (Q dec)=EO roots dec:=by
 unfold B3 EO
 congr 2
 rw[BH];refine Cg fun c hc=>?_;have h:=G9 hx (hd.cand c hc).1
 grind [Hq,Cr]
theorem Qb{N:List Nd}(hN:V8 roots dec p N)(k:Int):HS (EO roots dec) p k=false↔∀n∈N,has n.rq.set k=true:=by
 unfold HS;rw[IC,<-IJ]
 grind [V8.mem]
theorem Ud(hx:Aw x=0){c:Cd}(hd:Df x (dec++[c])):MJ c.rel (Q (dec++[c]))=(CX dec c).isSome:=by
 have qA:∀d∈dec++[c],d.place=place d.rel.ver:=fun d h=>by
  have h1:=hd.cand d h;rw[h1.2.2,((Bp hx).1 _ h1.1).plc]
 have hm:∀n:Nd,Vj (dec++[c]) n=(Q (dec++[c])).any fun y=>decide (y.path=n.rq.path)&&!has n.rq.set (place y.ver):=fun n=>by
  grind [Vj,List.any_map]
 unfold CX;rw[List.isSome_find?];unfold MJ QQ;have key:∀(l:List Rq) (i:Nat),((Lj (fun q i=>(⟨q,c.rel.path,c.place,i⟩:Nd)) i l).any (Vj (dec++[c])))=l.any fun q=>(Q (dec++[c])).any fun y=>decide (y.path=q.path)&&!has q.set (place y.ver):=fun l=>by
  induction l<;>grind [Lj]
 grind
end
def BT:Prop:=∀(F:List (List Sl)) (m:Nat),F.length<m->m<=1024 ->
 A6 Tryz.prog 88 [GM x ifs,sl Ac roots,sl Ae (Q dec),.slice (.id 1000 1) (F.map FR),G (m:Nat)] (Ai [(1000,.tok 1 F.length)] Af) fun r h'=>
  r=.slice (.id 1000 1) ((tk F (Cp x roots n dec) m).map FR)/\h'=Ai [(1000,.tok 1 (tk F (Cp x roots n dec) m).length)] Af
def RN(o:List (List Sl))(r:AV)(h' : Nat->HO):Prop:=match o with
 | []=>r=BY/\h'=Ai [] Af
 |y::ys=>r=.slice (.id 2000 1) ((y::ys).map FR)/\h'=Ai [(2000,.tok 1 (y::ys).length)] Af
def BN:Prop:=∀(m:Nat),0<m->m<=1024 ->
 A6 Tryz.prog 88 [GM x ifs,sl Ac roots,sl Ae (Q dec),BY,G (m:Nat)] (Ai [] Af) (RN (tk [] (Cp x roots n dec) m))
structure LvB(x:List Rl)(ifs:C0)(roots:List Rq)(n:Nat)(dec:List Cd)(p:CS)(n0:Nd)(l:List Nd):Prop where
 hE0:Aw x=0
 hx:∀r∈x,Eo r
 hxf:BF x
 hr:∀q∈roots,G5 q
 hrn:roots.length<=1000
 hdl:dec.length<=1000
 hv:∀r∈x,Bv r.ver=true
 hplc:∀r∈x,plc r.ver=place r.ver
 hrl:∀r∈x,r.reqs.length<=100000
 hneeds:B3 x roots (Q dec)=EO roots dec
 hNx:V8 roots dec p (n0::l)
 hDec:∀c∈Bk x p,Df x (dec++[c])
 hval:∀c∈Bk x p,∀y∈Q (dec++[c]),Bv y.ver=true
 ihT:∀c∈Bk x p,BT x ifs roots n (dec++[c])
 ihN:∀c∈Bk x p,BN x ifs roots n (dec++[c])
theorem Zd{x:List Rl}{roots:List Rq}{n:Nat}{dec:List Cd}{r:Rl}(hN:V8 roots dec p N)(hp:plc r.ver=place r.ver)(h:HS (EO roots dec) p (place r.ver)=true):Mx x roots n dec N p r=[]:=by
 grind [Mx,Qb,I0]
theorem oF{x:List Rl}{roots:List Rq}{n:Nat}{dec:List Cd}{r:Rl}(h:(CX dec ⟨plc r.ver,r⟩).isSome=true):Mx x roots n dec N p r=[]:=by
 grind [Mx,I0]
theorem Y0{dec:List Cd}{r:Rl}(h:r.path=p):(Q dec).map Ae++[[vs p,G r.ver.a,G r.ver.b,G r.ver.c]]=(Q (dec++[(⟨plc r.ver,r⟩:Cd)])).map Ae:=by
 simp_all
theorem Zi(o:List α):o=[]\/∃y ys,o=y::ys:=by cases o<;>simp_all
theorem AgK(p:CS)(n0:Nd)(l:List Nd)(m:Nat)(F:List (List Sl))(hF:F.length<m)(hL:LvB x ifs roots n dec p n0 l)(Af4:Cp x roots (n+1) dec=ZC (Mx x roots n dec (n0::l) p) x x.length)(bf:m<=1024) :
  A6 Tryz.prog 88 [.agg (Ic x ifs),sl Ac roots,sl Ae (Q dec),.slice (.id 1000 1) (F.map FR),G (m:Nat)] (Ai [(1000,.tok 1 F.length)] Af) (fun r h'=>r=.slice (.id 1000 1) ((tk F (Cp x roots (n+1) dec) m).map FR)/\h'=Ai [(1000,.tok 1 (tk F (Cp x roots (n+1) dec) m).length)] Af):=by
 obtain⟨hE0,hx,hxf,hr,hrn,hdl,hv,hplc,hrl,hneeds,hNx,hDec,hval,ihT,ihN⟩:=hL;have LQ:=x7 x ifs roots (Q dec) hx hxf Wk aa2;rw[hneeds]at LQ;unfold Vn at LQ;rw[hNx.next]at LQ
 have d9:∀(q:CS) (k:Int),PC 161 [GM x ifs,sl Ac roots,sl Ae (Q dec),vs q,G k] (I (HS (EO roots dec) q k)):=fun q k=>by
  grind [vJ]
 refine Bi (IU (pC [5,14] [10])) [(1000,1000)] rfl BA hm rfl Tryz.func88 aa4 rfl C4 aa4 rfl (yN (C1 (U LQ (Z {q:Nat×List (List Sl) // q.1<=x.length/\q.2=tk F (ZC (Mx x roots n dec (n0::l) p) x q.1) m} (Z (fun q=>⟨[(1,sl Ac roots),(2,sl Ae (Q dec)),(3,.slice (.id 1000 1) (q.1.2.map FR)),(4,G (m:Nat)),(5,.ref 5 0),(11,vs p),(13,G q.1.1)],[(5,.ro (Ic x ifs)),(1000,.tok 1 q.1.2.length)],Af⟩) (Z (fun q=>x.length-q.1.1) (J (Z ⟨(0,F),Ak _,by rw[cP,qe]⟩ ?_) ?_)))))))
 .exact⟨Z7,Z2,Fh,A2 aa4⟩
 intro⟨⟨i,o⟩,i1,i2⟩;have i2:o=tk F (ZC (Mx x roots n dec (n0::l) p) x i) m:=i2;refine J (fun h1=>?_) (fun h1=>?_)
 .have h1:(i:Int)<((x.map V).length:Int):=h1;have n1:=FY h1;refine J (fun h2=>?_) (fun h2=>?_)
  .have h2:((o.map FR).length:Int)<((m:Nat):Int):=h2;have hom:o.length<m:=aa0
   refine Z (V x[i]) (J (Ht n1) (J rfl (yN (yN (J (fun h4=>?_) (fun h4=>?_))))))
   .refine J aa4 (J (by grind [Au]) ?_);have Rw:(Mx x roots n dec (n0::l) p) x[i]=[]:=by grind [Mx]
    refine Z ⟨(i+1,o),n1,by grind [Jr]⟩ ?_;exact⟨by grind,Z7,Z2,Fh,A2 aa4⟩
   have h4:(x[i].path:CS)=p:=As h4;refine J (fun h6=>?_) (fun h6=>?_)
   .refine J aa4 (J (by grind [Au]) ?_);have Rw:(Mx x roots n dec (n0::l) p) x[i]=[]:=by grind [Mx]
    refine Z ⟨(i+1,o),n1,by grind [Jr]⟩ ?_;exact⟨by grind,Z7,Z2,Fh,A2 aa4⟩
   refine yN (yN (U (qu x[i].ver (hv _ (Ag n1))) (Ay (Bt (HS (EO roots dec) p (place x[i].ver))) (fun h8=>?_) (fun h8=>?_))))
   .refine U (cb h8 (d9 p (place x[i].ver))) (J aa4 (J (by grind [Au]) ?_));have Rw:(Mx x roots n dec (n0::l) p) x[i]=[]:=Zd hNx (hplc _ (Ag n1)) h8;refine Z ⟨(i+1,o),n1,by grind [Jr]⟩ ?_;exact⟨by grind,Z7,Z2,Fh,A2 aa4⟩
   refine U (cb h8 (d9 p (place x[i].ver))) (J aa4 ?_);have Wa:A7 4 ((Q dec).map Ae)/\([]:C0).length=0/\(([]:C0).length+((Q dec).map Ae).length)*40<=140737488355328/\([]:C0).length+((Q dec).map Ae).length<=9223372036854775807:=⟨(B8 (enc:=Ae) (n:=4) (fun _=>rfl) (Q dec)),aa0,aa2,aa2⟩;refine J Wa (yN ?_);have mo:A7 4 [[vs p,G x[i].ver.a,G x[i].ver.b,G x[i].ver.c]]/\(([]++((Q dec).map Ae)):C0).length=(([]:C0).length+((Q dec).map Ae).length)/\((([]++((Q dec).map Ae)):C0).length+([[vs p,G x[i].ver.a,G x[i].ver.b,G x[i].ver.c]]:C0).length)*40<=140737488355328/\(([]++((Q dec).map Ae)):C0).length+([[vs p,G x[i].ver.a,G x[i].ver.b,G x[i].ver.c]]:C0).length<=9223372036854775807:=⟨⟨rfl,trivial⟩,aa0,aa2,aa2⟩;refine J mo (J aa4 ?_);have YU:x[i].path=p:=h4;have Xh:(⟨plc x[i].ver,x[i]⟩:Cd)∈Bk x p:=HG.2 ⟨x[i],Ag n1,YU,h6,rfl⟩;have hD:=hDec (⟨plc x[i].ver,x[i]⟩:Cd) Xh;refine cU [(1,sl Ac roots),(2,sl Ae (Q dec)),(3,.slice (.id 1000 1) (o.map FR)),(4,G (m:Nat)),(5,.ref 5 0),(11,vs p),(13,G i),(15,.slice (.id 66 4) ((Q (dec++[(⟨plc x[i].ver,x[i]⟩:Cd)])).map Ae))] [(5,.ro (Ic x ifs)),(66,.tok 4 ((Q (dec++[(⟨plc x[i].ver,x[i]⟩:Cd)])).map Ae).length),(1000,.tok 1 o.length)] ⟨X,X,X,X,X,X,X,⟨(show(.slice (.id 66 4) (([]++((Q dec).map Ae))++[[vs p,G x[i].ver.a,G x[i].ver.b,G x[i].ver.c]]):AV)=.slice (.id 66 4) ((Q (dec++[(⟨plc x[i].ver,x[i]⟩:Cd)])).map Ae)from Aa (AV.slice (.id 66 4)) (Y0 YU)),rfl⟩,W⟩ ⟨X,⟨(show(.tok 4 ((([]++((Q dec).map Ae)):C0).length+([[vs p,G x[i].ver.a,G x[i].ver.b,G x[i].ver.c]]:C0).length):HO)=.tok 4 ((Q (dec++[(⟨plc x[i].ver,x[i]⟩:Cd)])).map Ae).length by simp_all),rfl⟩,X,W⟩ ?_
   refine yN ?_;have UP:=s77 x ifs (Q (dec++[(⟨plc x[i].ver,x[i]⟩:Cd)])) (Q dec) (Ob (⟨plc x[i].ver,x[i]⟩:Cd)) x[i] hx hxf aa2 aa0 (G9 hE0 (Ag n1)) (fun y hy=>hval (⟨plc x[i].ver,x[i]⟩:Cd) Xh y hy) (fun q hq=>((hx _ (Ag n1)).2 q hq).1) (hrl _ (Ag n1));have hcl:MJ x[i] (Q (dec++[(⟨plc x[i].ver,x[i]⟩:Cd)]))=(CX dec (⟨plc x[i].ver,x[i]⟩:Cd)).isSome:=Ud hE0 hD;rw[hcl]at UP;refine Ay (Bt (CX dec (⟨plc x[i].ver,x[i]⟩:Cd)).isSome) (fun GH=>?_) (fun GH=>?_)
   .have GH:(CX dec (⟨plc x[i].ver,x[i]⟩:Cd)).isSome=true:=GH;refine C1 (U (cb GH UP) (J (Ii i Wk) ?_));have Rw:(Mx x roots n dec (n0::l) p) x[i]=[]:=oF GH;refine Z ⟨(i+1,o),n1,by rw[i2,Jr n1 Rw]⟩ ?_;exact⟨by grind,Z7,Z2,Fh,A2 aa4⟩
   have GH:(CX dec (⟨plc x[i].ver,x[i]⟩:Cd)).isSome=false:=GH;refine C1 (U (cb GH UP) (yN ?_));have GJ:cn dec (n0::l) (⟨plc x[i].ver,x[i]⟩:Cd)=true:=I0.2 ⟨fun m hm=>by have q:=(Qb hNx (place x[i].ver)).1 h8 m hm;simp_all,by simp_all⟩;have Rw:(Mx x roots n dec (n0::l) p) x[i]=(Cp x roots n (dec++[(⟨plc x[i].ver,x[i]⟩:Cd)])):=by unfold Mx lvC;simp_all
   have ZK:=ihT (⟨plc x[i].ver,x[i]⟩:Cd) Xh o m hom bf;refine Z (.gen [(1000,1000)] 0) (J rfl (A6.imp ZK ?_));intro v14 g14 q14;have xy:=q14.1;have xz:=q14.2;subst xy;subst xz;refine J (Ii i Wk) (Z ⟨(i+1,(tk o (Cp x roots n (dec++[(⟨plc x[i].ver,x[i]⟩:Cd)])) m)),n1,by rw[QZ n1,Rw,ge aa0,<-i2]⟩ ?_);exact⟨Dl x.length i Wk,Z7,Z2,Fh,A2 aa4⟩
  have h2:¬(((o.map FR).length:Int)<((m:Nat):Int)):=h2;have eo:o=tk F (Cp x roots (n+1) dec) m:=by
   grind [XV,iU]
  rw[<-eo];exact U (.refl _) X
 have h1:¬((i:Int)<((x.map V).length:Int)):=h1;have n1:=El h1;have eo:o=tk F (Cp x roots (n+1) dec) m:=by
  grind
 rw[<-eo];exact U (.refl _) X
end Go.Eng
