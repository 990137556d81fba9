/- Lemmas 27. -/
import Derived.Test.YteaiieomnhbmgaaGreatDoorAA26
import Derived.Lib.AppendIntMem
import Derived.Lib.ItoaLen
import Derived.Shelf.Spec.SlicesGrow
import Derived.Shelf.SlGeneric
import Derived.Ground.Names8Prog
set_option maxHeartbeats 4000000
namespace Go.Eng
open Go.Proofs
open Go.Sort Go.Lib
variable {p:CS}{j i:Nat}{b:AV}(l m:List Sl)(mv:List CS)
theorem Abw(x y:SlA):ltOf cfBt x y=Dq x.1 y.1:=by
 rw[DZ];unfold ltOf cfBt;cases h:Op.bytesLess x.1.toList y.1.toList with
 |true=>rfl
 |false=>rfl
theorem oC{BU:List (Value×AV)}{k k' : Value}{a:AV}:(k',b)∈EV BU k a↔(k'=k/\b=a)\/(k'≠k/\(k',b)∈BU):=by
 by_cases h:∃a',(k,a')∈BU
 .obtain⟨a',ha⟩:=h;rw[Nh ha,Ay];constructor
  .rintro⟨p,hp,e⟩
   by_cases hk:p.1=k
   .rw[Ax hk]at e;cases e;exact .inl Zr
   .rw[AA hk]at e;subst e;exact .inr ⟨hk,hp⟩
  .rintro(⟨rfl,rfl⟩ | ⟨hk,hp⟩)
   .exact⟨_,ha,Ax rfl⟩
   .exact⟨_,hp,AA hk⟩
 .have h2:∀a',(k,a')∉BU:=fun a' e=>h ⟨a',e⟩;rw[Im h2,Bh,AQ];constructor
  .rintro(hp | e)
   .exact .inr ⟨fun e=>h2 b (e▸hp),hp⟩
   .cases e;exact .inl Zr
  .rintro(⟨rfl,rfl⟩ | ⟨hk,hp⟩)
   .exact .inr rfl
   .exact .inl hp
def CV(p:CS):Bool:=mv.any fun q=>decide (q=p)
noncomputable def mL:List (Value×AV):=mv.foldl (fun m p=>EV m (.string p) (vb true)) []
theorem rF{mv:List CS}(h:i<mv.length):EV (mL (mv.take i)) (.string mv[i]) (vb true)=mL (mv.take (i+1)):=by
 rw[A6 h,mL,mL,List.foldl_append];rfl
theorem PJ{mv:List CS}:CV mv p=true↔p∈mv:=by
 unfold CV;rw[Ce];exact⟨fun⟨q,hq,e⟩=>AT e▸hq,fun h=>⟨p,h,AB rfl⟩⟩
theorem QH:(Value.string p,b)∈mL mv↔CV mv p=true/\b=vb true:=by
 have go:∀(l:List CS) (m:List (Value×AV)),(Value.string p,b)∈l.foldl (fun m p=>EV m (.string p) (vb true)) m↔(p∈l/\b=vb true)\/(p∉l/\(Value.string p,b)∈m):=fun l=>by
  induction l with
  |nil=>intro m;simp
  |cons a l ih=>
   intro m;rw[Gt,ih,oC]
   by_cases h1:p∈l
   .simp[h1]
   .by_cases h2:p=a
    .subst h2;simp[h1]
    .have h3:Value.string p≠Value.string a:=fun e=>h2 (by injection e);simp[h1,h2,h3]
 rw[PJ];have q:=go mv [];unfold mL;rw[q];simp
def OG:List Sl:=l.filter (fun s=>!CV mv s.path)++m.filter (fun s=>CV mv s.path)
theorem Sa{l:List Sl}(h:l.Pairwise Qu)(p:Sl->Bool):((l.filter p).map (·.path)).Nodup:=by
 have q:=List.Pairwise.filter p h;rw[List.nodup_iff_pairwise_ne,KE];exact q.imp fun {a b} r7 e=>by
  have r7:Dq a.path b.path=true:=r7;rw[e,Cm]at r7;cases r7
theorem OW{l m:List Sl}(hl:l.Pairwise Qu)(hm:m.Pairwise Qu)(mv:List CS):((OG l m mv).map (·.path)).Nodup:=by
 rw[OG,Ar,List.nodup_append];refine⟨Sa hl _,Sa hm _,fun a ha b hb e=>?_⟩;obtain⟨s,hs,rfl⟩:=Ay.1 ha;obtain⟨t,ht,e2⟩:=Ay.1 hb;have h1:=(CY.1 hs).2;have h2:=(CY.1 ht).2;rw[show t.path=s.path from e2.trans e.symm]at h2;rw[h2]at h1;cases h1
def RH(j:Nat):List Sl:=(l.take j).filter fun s=>!CV mv s.path
def Nx(k:Nat):List Sl:=RH l mv l.length++(m.take k).filter fun s=>CV mv s.path
theorem rQ{p:Sl->Bool}{l:List Sl}(h:i<l.length):(l.take (i+1)).filter p=(l.take i).filter p++if p l[i]=true then [l[i]]else []:=by
 rw[A6 h,List.filter_append,List.filter_cons];rfl
theorem AdR{l:List Sl}{mv:List CS}(h:j<l.length)(k:CV mv l[j].path=false):RH l mv (j+1)=RH l mv j++[l[j]]:=by rw[RH,rQ h,Ax (by rw[k];rfl)];rfl
theorem AdQ{l:List Sl}{mv:List CS}(h:j<l.length)(k:CV mv l[j].path=true):RH l mv (j+1)=RH l mv j:=by rw[RH,rQ h,AA (by rw[k];decide),Bg];rfl
theorem AdT{l m:List Sl}{mv:List CS}(h:j<m.length)(k:CV mv m[j].path=true):Nx l m mv (j+1)=Nx l m mv j++[m[j]]:=by rw[Nx,rQ h,Ax (by rw[k]),<-BT];rfl
theorem AdS{l m:List Sl}{mv:List CS}(h:j<m.length)(k:CV mv m[j].path=false):Nx l m mv (j+1)=Nx l m mv j:=by rw[Nx,rQ h,AA (by rw[k];decide),Bg];rfl
theorem l5(j:Nat):(RH l mv j).length<=l.length:=Av (Em _ _) (by rw[AF];omega)
theorem l6(j:Nat):(Nx l m mv j).length<=l.length+m.length:=by
 rw[Nx,Ac];exact Nat.add_le_add (l5 _ _ _) (Av (Em _ _) (by rw[AF];omega))
theorem XU:Nx l m mv m.length=OG l m mv:=by rw[Nx,RH,Cf,Cf];rfl
theorem vw(x:List Rl)(l m:List Sl)(mv:List CS)(hl:FU l)(Kg:FU m)(hbt:BD (OG l m mv))(Pz:BD mv):PC 77 [.cptr [.cmap BW (Ch x l),.cmap BW (Ch x m),sl Ab l,sl Ab m,sl Af (D2 l m)],sl Af mv] (sl Ab (Dx (OG l m mv))):=by
 have hll:l.length<=1073741824:=hl.few;have hml:m.length<=1073741824:=Kg.few;have hvl:mv.length<=1073741824:=Pz;refine Ps ⟨[],[],[(8,4)],[],[],[],[],[],[],[(200021,8)],[7,21]⟩ Tryz.func77 rfl (Nz rfl) (Xi {q:Nat // q<=mv.length} (Xi (fun q=>⟨[(0,.cptr [.cmap BW (Ch x l),.cmap BW (Ch x m),sl Ab l,sl Ab m,sl Af (D2 l m)]),(5,.mref 13),(14,sl Af mv),(15,vi (mv.map Af).length),(16,vi q.1)],[(13,.map BW (mL (mv.take q.1)))],Ae⟩) (Xi (fun q=>mv.length-q.1) (Yi (Xi ⟨0,Aj _⟩ ?_) ?_))))
 .exact⟨Z5,Z1,Fh,Tv⟩
 intro⟨i,i1⟩;refine Yi (fun h1=>?_) (fun h1=>?_)
 .have h1:(i:Int)<((mv.map Af).length:Int):=h1;have n1:=Dh h1;refine Xi (Af mv[i]) (Yi (DC n1) (Yi rfl (Yi (Ii i ch) (Xi ⟨i+1,n1⟩ ?_))));exact⟨Dl mv.length i ch,Z5,⟨⟨(Aa (HO.map BW) (rF n1)),rfl⟩,Tv⟩,Fh,Tv⟩
 have n1:=BB h1;have ei:mv.take i=mv:=As (AE (BB h1));refine cU [(0,.cptr [.cmap BW (Ch x l),.cmap BW (Ch x m),sl Ab l,sl Ab m,sl Af (D2 l m)]),(5,.mref 13)] [(13,.map BW (mL mv))] Z2 ⟨⟨(Aa (fun z=>HO.map BW (mL z)) ei),rfl⟩,Tv⟩ (Xi {q:Nat // q<=l.length} (Xi (fun q=>⟨[(0,.cptr [.cmap BW (Ch x l),.cmap BW (Ch x m),sl Ab l,sl Ab m,sl Af (D2 l m)]),(5,.mref 13),(8,.msl 8 ((RH l mv q.1)).length),(26,sl Ab l),(27,vi (l.map Ab).length),(28,vi q.1)],[(8,.arr 4 ((RH l mv q.1).map Ab)),(13,.map BW (mL mv))],Ae⟩) (Xi (fun q=>l.length-q.1) (Yi (Xi ⟨0,Aj _⟩ ?_) ?_))))
 .exact⟨Z6,Z2,Fh,Tv⟩
 intro⟨j,j1⟩;refine Yi (fun h3=>?_) (fun h3=>?_)
 .have h3:(j:Int)<((l.map Ab).length:Int):=h3;have n3:=Dh h3;have hA:=l5 l mv j;refine Xi (Ab l[j]) (Yi (DC n3) (Yi rfl (yN (yN (Yi (fun a ha=>?_) (fun Qs=>?_))))))
  .have ea:=((QH mv).1 ha).2;have h4:CV mv l[j].path=true:=((QH mv).1 ha).1;subst ea;refine Yi (Ii j ch) ?_;have ew:=AdQ (mv:=mv) n3 h4;refine Xi ⟨j+1,n3⟩ ?_;exact⟨Dl l.length j ch,⟨Zr,Zr,⟨(show AV.msl 8 ((RH l mv j)).length=.msl 8 (RH l mv (j+1)).length by rw[ew]),rfl⟩,Zr,Zr,Zr,Tv⟩,⟨⟨(show HO.arr 4 ((RH l mv j).map Ab)=.arr 4 ((RH l mv (j+1)).map Ab) by rw[ew]),rfl⟩,Zr,Tv⟩,Fh,Tv⟩
  have h4:CV mv l[j].path=false:=by rw[BY];exact fun e=>Qs _ ((QH mv).2 ⟨e,rfl⟩)
  refine yN ?_;have b6:Bi 4 [(Ab l[j])]/\((RH l mv j).map Ab).length=((RH l mv j)).length/\(((RH l mv j).map Ab).length+([(Ab l[j])]:C0).length)*40<=140737488355328/\((RH l mv j).map Ab).length+([(Ab l[j])]:C0).length<=9223372036854775807:=⟨⟨rfl,trivial⟩,(by first | (simp;done) | (rw[Lm];assumption)),(by simp only[Lm,Ap,AC];omega),(by simp only[Lm,Ap,AC];omega)⟩
  refine Yi b6 (Yi (Ii j ch) ?_);have ew:=AdR (mv:=mv) n3 h4;refine Xi ⟨j+1,n3⟩ ?_;exact⟨Dl l.length j ch,⟨Zr,Zr,⟨(show AV.msl 8 (((RH l mv j).map Ab).length+([(Ab l[j])]:C0).length)=.msl 8 (RH l mv (j+1)).length by rw[ew];simp),rfl⟩,Zr,Zr,Zr,Tv⟩,⟨⟨(show HO.arr 4 (((RH l mv j).map Ab)++[(Ab l[j])])=.arr 4 ((RH l mv (j+1)).map Ab) by rw[ew,Ar];rfl),rfl⟩,Zr,Tv⟩,Fh,Tv⟩
 have h3:¬((j:Int)<((l.map Ab).length:Int)):=h3;have n3:=BB h3;have ej:j=l.length:=by have q:=BB h3;omega
 have eb:RH l mv j=Nx l m mv 0:=by rw[ej,Nx,List.take_zero,List.filter_nil,Bg]
 refine Xi {q:Nat // q<=m.length} (Xi (fun q=>⟨[(5,.mref 13),(8,.msl 8 ((Nx l m mv q.1)).length),(45,sl Ab m),(46,vi (m.map Ab).length),(47,vi q.1)],[(8,.arr 4 ((Nx l m mv q.1).map Ab)),(13,.map BW (mL mv))],Ae⟩) (Xi (fun q=>m.length-q.1) (Yi (Xi ⟨0,Aj _⟩ ?_) ?_)))
 .exact⟨⟨Zr,⟨(show AV.msl 8 (RH l mv j).length=.msl 8 (Nx l m mv 0).length by rw[eb]),rfl⟩,Zr,Zr,Zr,Tv⟩,⟨⟨(show HO.arr 4 ((RH l mv j).map Ab)=.arr 4 ((Nx l m mv 0).map Ab) by rw[eb]),rfl⟩,Zr,Tv⟩,Fh,Tv⟩
 intro⟨k,k1⟩;have k1:k<=m.length:=k1;refine Yi (fun h8=>?_) (fun h8=>?_)
 .have h8:(k:Int)<((m.map Ab).length:Int):=h8;have n8:=Dh h8;have hB:=l6 l m mv k;refine Xi (Ab m[k]) (Yi (DC n8) (Yi rfl (yN (yN (Yi (fun a ha=>?_) (fun Qs=>?_))))))
  .have ea:=((QH mv).1 ha).2;have h9:CV mv m[k].path=true:=((QH mv).1 ha).1;subst ea;refine yN ?_;have Wi:Bi 4 [(Ab m[k])]/\((Nx l m mv k).map Ab).length=((Nx l m mv k)).length/\(((Nx l m mv k).map Ab).length+([(Ab m[k])]:C0).length)*40<=140737488355328/\((Nx l m mv k).map Ab).length+([(Ab m[k])]:C0).length<=9223372036854775807:=⟨⟨rfl,trivial⟩,(by first | (simp;done) | (rw[Lm];assumption)),(by simp only[Lm,Ap,AC];omega),(by simp only[Lm,Ap,AC];omega)⟩
   refine Yi Wi (Yi (Ii k ch) ?_);have ew:=AdT (mv:=mv) (l:=l) n8 h9;refine Xi ⟨k+1,n8⟩ ?_;exact⟨Dl m.length k ch,⟨Zr,⟨(show AV.msl 8 (((Nx l m mv k).map Ab).length+([(Ab m[k])]:C0).length)=.msl 8 (Nx l m mv (k+1)).length by rw[ew];simp),rfl⟩,Zr,Zr,Zr,Tv⟩,⟨⟨(show HO.arr 4 (((Nx l m mv k).map Ab)++[(Ab m[k])])=.arr 4 ((Nx l m mv (k+1)).map Ab) by rw[ew,Ar];rfl),rfl⟩,Zr,Tv⟩,Fh,Tv⟩
  have h9:CV mv m[k].path=false:=by rw[BY];exact fun e=>Qs _ ((QH mv).2 ⟨e,rfl⟩)
  refine Yi (Ii k ch) ?_;have ew:=AdS (mv:=mv) (l:=l) n8 h9;refine Xi ⟨k+1,n8⟩ ?_;exact⟨Dl m.length k ch,⟨Zr,⟨(show AV.msl 8 ((Nx l m mv k)).length=.msl 8 (Nx l m mv (k+1)).length by rw[ew]),rfl⟩,Zr,Zr,Zr,Tv⟩,⟨⟨(show HO.arr 4 ((Nx l m mv k).map Ab)=.arr 4 ((Nx l m mv (k+1)).map Ab) by rw[ew]),rfl⟩,Zr,Tv⟩,Fh,Tv⟩
 have h8:¬((k:Int)<((m.map Ab).length:Int)):=h8;have n8:=BB h8;have ek:k=m.length:=by have q:=BB h8;omega
 have hs:=Acf Abw 134 Tryz.closure134 (enters_of Tryz.func134 aa1 rfl) (OG l m mv) hbt (OW hl.inc Kg.inc mv);rw[show OG l m mv=(Nx l m mv k)from by rw[ek,XU]]at hs;refine Xi (.gen [(8,1000)] 0) (Yi rfl (AU.to2 hs ?_));refine Yi (show((Nx l m mv k)).length=((Dx ((Nx l m mv k))).map Ab).length by rw[Lm,(Ip _).length_eq]) ?_;refine cU [(8,sl Ab (Dx ((Nx l m mv k))))] [] Z1 Tv ?_
 exact BC.of_eq (show sl Ab (Dx ((Nx l m mv k)))=sl Ab (Dx (OG l m mv)) by rw[ek,XU])
end Go.Eng
namespace Go.Eng
open Go.Proofs Go.Proofs.Tryz
variable {i k:Nat}(x:List Rl)(ifs:C0)(l m:List Sl)(p mv:List CS)(Al:List (List CS))
theorem ux(l m:List (CS))(hl:BD l):PC 100 [sl Af l,sl Af m] (vb (decide (l=m))):=by
 refine Ps CQ func100 rfl (Nz rfl) (Yi ?_ ?_)
 .intro h
  have:l≠m:=fun e=>h (by rw[e])
  rw[Aw this];exact .refl _
 .intro h;have Dr:l.length=m.length:=by simp at h;omega
  refine Xi {i:Nat // i<=l.length/\l.take i=m.take i} (Xi (fun i=>⟨[(0,sl Af l),(1,sl Af m),(12,vi (l.map Af).length),(13,vi i.1)],[],Ae⟩) (Xi (fun i=>l.length-i.1) (Yi (Xi ⟨0,by simp⟩ ?_) ?_)))
  .exact⟨Z4,Tv,Fh,Tv⟩
  .intro⟨i,h1,h2⟩;refine Yi ?_ ?_
   .intro h;have h:i<l.length:=by simpa using h
    have h' : i<m.length:=ch
    have hg:l[i]?=some l[i]:=Ge h;have ly : m[i]?=some m[i]:=Ge h';refine Xi (Af l[i]) (Yi (Yi (Nn i) (by simp[hg])) (Yi rfl ?_));refine Xi (Af m[i]) (Yi (Yi (Nn i) (by simp[ly])) (Yi rfl ?_));refine Yi ?_ ?_
    .intro h5;refine Yi aa1 ?_
     have:l≠m:=fun e=>h5 (by subst e;rfl)
     rw[Aw this];exact .refl _
    .intro h5;have e:l[i]=m[i]:=CI.1 h5;refine Yi aa1 (Yi (by show Az ((i:Int)+1);unfold BD at hl;unfold Az;omega) (Xi ⟨i+1,by omega,?_⟩ ?_))
     .rw[DI,DI,h2,hg,ly,e]
     .exact⟨Dl l.length i ch,Z4,Tv,Fh,Tv⟩
   .intro h;have h:¬i<l.length:=by simpa using h
    have e:l=m:=by
     rw[<-As (l:=l) (i:=i) ch,h2,As ch]
    rw[AB e];exact .refl _
def wIx(l:List CS)(p:CS):Int:=I7 (fun q=>decide (q=p)) l 0
theorem yo{l:List CS}{p:CS}:(∀q∈l,q≠p)->∀k:Int,I7 (fun q=>decide (q=p)) l k=-1:=by
 induction l with
 |nil=>intro _ _;rfl
 |cons a l ih=>intro h k;rw[I7,AA (by rw[decide_eq_true_iff];exact h a (Ah ..))];exact ih (fun q hq=>h q (Am _ hq)) _
theorem Acy(l:List CS)(p:CS)(hl:BD l):PC 132 [sl Af l,vs p] (vi (wIx l p)):=by
 refine Ps CQ func132 rfl (Nz rfl) (Xi {q:Nat // q<=l.length/\∀j (hj:j<l.length),j<q->l[j]≠p} (Xi (fun q=>⟨[(0,sl Af l),(1,vs p),(7,vi (l.map Af).length),(8,vi q.1)],[],Ae⟩) (Xi (fun q=>l.length-q.1) (Yi (Xi ⟨0,Aj _,fun j hj h=>absurd h ch⟩ ?_) ?_))))
 .exact⟨Z4,Tv,Fh,Tv⟩
 intro⟨i,i1,i2⟩;refine Yi (fun h1=>?_) (fun h1=>?_)
 .have h1:(i:Int)<((l.map Af).length:Int):=h1;have n1:=Dh h1;refine Xi (Af l[i]) (Yi (DC n1) (Yi rfl (Yi (fun h2=>?_) (fun h2=>?_))))
  .exact BC.of_eq (Aa vi (show(i:Int)=wIx l p by rw[wIx,Hl (p:=fun q=>decide (q=p)) (k:=0) n1 (fun j hj h=>Aw (i2 j hj h)) (AB (h2).symm)];omega))
  refine Yi (Ii i ch) (Xi ⟨i+1,n1,fun j hj h=>by rcases Db j i with hg | hg;exact i2 j hj hg;have e:j=i:=ch;subst e;exact fun e=>h2 e.symm⟩ ?_);exact⟨Dl l.length i ch,Z4,Tv,Fh,Tv⟩
 have n1:=BB h1;exact BC.of_eq (Aa vi (show -1=wIx l p from(yo (fun q hq=>by obtain⟨j,hj,rfl⟩:=DS.1 hq;exact i2 j hj (Bm hj (AE (BB h1)))) 0).symm))
theorem vA(l:List CS)(p:CS)(hl:BD l):PC 76 [sl Af l,vs p] (vb (CV l p)):=by
 refine Ps CQ func76 rfl (Nz rfl) (C1 (C2 (Acy l p hl) (Yi (fun h1=>?_) (fun h1=>?_))))
 .exact BC.of_eq (Aa vb (show true=CV l p by rw[CV,<-Hg (p:=fun q=>decide (q=p)) l 0 (Bs 0)];exact(AB h1).symm))
 exact BC.of_eq (Aa vb (show false=CV l p by rw[CV,<-Hg (p:=fun q=>decide (q=p)) l 0 (Bs 0)];exact(Aw h1).symm))
theorem qd(p:CS)(hl:BD (D2 l m)):PC 75 [vs p,.cptr [.cptr [.cmap BW (Ch x l),.cmap BW (Ch x m),sl Ab l,sl Ab m,sl Af (D2 l m)]]] (vb (!CV (D2 l m) p)):=by
 refine Ps CQ func75 rfl (Nz rfl) (A1 (Bt (CV (D2 l m) p)) (fun h1=>?_) (fun h1=>?_))
 .refine C1 (C2 (cb h1 (vA (D2 l m) p hl)) ?_);exact BC.of_eq (Aa vb (show false=!CV (D2 l m) p by rw[h1];rfl))
 refine C1 (C2 (cb h1 (vA (D2 l m) p hl)) ?_);exact BC.of_eq (Aa vb (show true=!CV (D2 l m) p by rw[h1];rfl))
def KJ:Int:=if Ix x l m=0 then if mv.any (fun p=>!CV (D2 l m) p)=true then 6 else 0 else Ix x l m
def J4:AV:=if KJ x l m mv=0 then .tup [sl Ab (Dx (OG l m mv)),vi 0]else .tup [nzA,vi (KJ x l m mv)]
theorem If{x:List Rl}{l m:List Sl}(h:Ix x l m=0):J0 x l=0/\J0 x m=0:=by
 unfold Ix at h;split at h
 .rename_i h1;exact⟨M4 h1,M4 h⟩
 .rename_i h1;exact absurd h h1
theorem XV:(OG l m mv).length<=l.length+m.length:=by rw[<-XU];exact l6 _ _ _ _
theorem gC{x:List Rl}{l m:List Sl}(hl:BD l)(hm:BD m)(h:Ix x l m=0):(D2 l m).length<=l.length+m.length:=by
 rw[D2,Lm];exact YS l m (D8 (If h).1 hl) (D8 (If h).2 hm)
theorem yq(hx:∀r∈x,CX r)(Ei:l.length<=16)(Dd:m.length<=16)(Pz:BD mv)(c0:¬Ix x l m=0):PC 35 [.agg (Ic x ifs),sl Ab l,sl Ab m,sl Af mv] (J4 x l m mv):=by
 have hl:BD l:=Av Ei Wk;have Kg:BD m:=Av Dd Wk;have hq:mv.length<=1073741824:=Pz;refine Ps (pC [4,10] []) func35 rfl (Nz rfl) (yN (C1 (C2 (by have q:=qr x ifs l m hx hl Kg Ei Dd;rw[fc,AA c0]at q;exact q) ?_)));refine yN (Yi (fun h1=>?_) (fun h1=>?_))
 .exact BC.of_eq (show AV.tup [nzA,vi (Ix x l m)]=J4 x l m mv by rw[J4,KJ,AA c0,AA c0])
 have h1:((Ix x l m):Int)=(0:Int):=Aq h1;exact absurd h1 c0
theorem yr(hx:∀r∈x,CX r)(Ei:l.length<=16)(Dd:m.length<=16)(Pz:BD mv)(c0:Ix x l m=0):PC 35 [.agg (Ic x ifs),sl Ab l,sl Ab m,sl Af mv] (J4 x l m mv):=by
 have hl:BD l:=Av Ei Wk;have Kg:BD m:=Av Dd Wk;have hq:mv.length<=1073741824:=Pz;refine Ps (pC [4,10] []) func35 rfl (Nz rfl) (yN (C1 (C2 (by have q:=qr x ifs l m hx hl Kg Ei Dd;rw[fc,Ax c0]at q;exact q) ?_)));refine yN (Yi (fun h=>absurd h Wk) (fun _=>?_));refine A1 (Bt (mv.any fun p=>!CV (D2 l m) p)) (fun h1=>?_) (fun h1=>?_)
 .refine C1 (C2 (cb h1 (z74 (fF:=75) (Cc.ptr _) mv (fun p=>!CV (D2 l m) p) (fun p hp=>qd x l m p (show(D2 l m).length<=1073741824 by have q:=gC hl Kg c0;omega)) Pz)) ?_);exact BC.of_eq (show AV.tup [nzA,vi 6]=J4 x l m mv by unfold J4 KJ;rw[Ax c0,h1];rfl)
 refine C1 (C2 (cb h1 (z74 (fF:=75) (Cc.ptr _) mv (fun p=>!CV (D2 l m) p) (fun p hp=>qd x l m p (show(D2 l m).length<=1073741824 by have q:=gC hl Kg c0;omega)) Pz)) (C1 (C2 (vw x l m mv (D8 (If c0).1 hl) (D8 (If c0).2 Kg) (show(OG l m mv).length<=1073741824 by have q:=XV l m mv;omega) Pz) ?_)));exact BC.of_eq (show AV.tup [sl Ab (Dx (OG l m mv)),vi 0]=J4 x l m mv by unfold J4 KJ;rw[Ax c0,h1];rfl)
theorem vu(hx:∀r∈x,CX r)(Ei:l.length<=16)(Dd:m.length<=16)(Pz:BD mv):PC 35 [HZ x ifs,sl Ab l,sl Ab m,sl Af mv] (J4 x l m mv):=by
 by_cases h:Ix x l m=0
 .exact yr x ifs l m mv hx Ei Dd Pz h
 .exact yq x ifs l m mv hx Ei Dd Pz h
theorem qi(a b:CS):PC 159 [vs a,vs b] (vb (Dq a b)):=by
 refine Ps CQ func159 rfl (Nz rfl) (C1 (C2 (wj a) (Yi (fun h1=>?_) (fun h1=>?_))))
 .have h1:Dq a b=true:=(DZ _ _).trans h1;exact BC.of_eq (Aa vb h1.symm)
 have h1:Dq a b=false:=(DZ _ _).trans (BY.2 h1);exact BC.of_eq (Aa vb h1.symm)
def Fx:List CS->Bool
 |a::b::r=>!Dq b a&&Fx (b::r)
 |_=>true
theorem eX(l:List CS):Fx (l.drop (l.length-1))=true:=by
 cases h:l.drop (l.length-1)with
 |nil=>rfl
 |cons a r=>
  have q:=Aa List.length h;rw[G1,Ap]at q;have e:r=[]:=FB.1 ch;subst e;rfl
theorem MX{l:List CS}(h:i+1<l.length):Fx (l.drop i)=(!Dq l[i+1] l[i]&&Fx (l.drop (i+1))):=by
 rw[AD (show i<l.length by omega),AD h];rfl
theorem Vg{l:List CS}:∀{i:Nat},Fx (l.drop i)=false->Fx l=false
 |0,h=>h
 |i+1,h=>by
  refine Vg (i:=i) ?_
  by_cases hi:i+1<l.length
  .rw[MX hi,h,Eo]
  .rw[AN ch]at h;cases h
theorem cj(l:List CS)(hl:BD l):PC 98 [sl Af l] (vb (Fx l)):=by
 have hl:l.length<=1073741824:=hl;have hml:(l.map Af).length=l.length:=Lm ..;refine Ps CQ func98 rfl (Nz rfl) (Yi (by show Az (((l.map Af).length:Int)-(1:Int));unfold Az;omega) ?_);refine Xi {q:Nat // q<=l.length/\Fx (l.drop (q-1))=true} (Xi (fun q=>⟨[(0,sl Af l),(3,vi ((q.1:Int)-1))],[],Ae⟩) (Xi (fun q=>q.1) (Yi (Xi ⟨l.length,Ao _,eX l⟩ ?_) ?_)))
 .exact⟨⟨Zr,⟨(Aa vi (show(((l.map Af).length:Nat):Int)-1=(l.length:Int)-1 by rw[Lm])),rfl⟩,Tv⟩,Tv,Fh,Tv⟩
 intro⟨q_,i1,i2⟩;have i1:q_<=l.length:=i1;have i2:Fx (l.drop (q_-1))=true:=i2;refine Yi (fun h1=>?_) (fun h1=>?_)
 .have h1:(0:Int)<((q_:Int)-1:Int):=h1;refine Xi (Af (l[q_-1]' ch)) (Yi (Yi (show(0:Int)<=(q_:Int)-1 by omega) (by rw[show((q_:Int)-1:Int).toNat=q_-1 by omega];exact El (Ge ch))) (Yi rfl ?_));refine Yi (by show Az (((q_:Int)-1:Int)-(1:Int));unfold Az;omega) ?_;refine Xi (Af (l[q_-2]' ch)) (Yi (Yi (show(0:Int)<=((q_:Int)-1)-1 by omega) (by rw[show(((q_:Int)-1)-1:Int).toNat=q_-2 by omega];exact El (Ge ch))) (Yi rfl ?_));refine A1 (Bt (Dq (l[q_-1]' ch) (l[q_-2]' ch))) (fun h2=>?_) (fun h2=>?_)
  .have h2:(Dq (l[q_-1]' ch) (l[q_-2]' ch))=true:=h2;refine C2 (cb h2 (qi (l[q_-1]' ch) (l[q_-2]' ch))) (Yi aa1 ?_);exact BC.of_eq (Aa vb (show false=Fx l from(Vg (i:=q_-2) (by rw[MX (l:=l) (i:=q_-2) ch];simp only[show q_-2+1=q_-1 by omega,h2];rfl)).symm))
  have h2:(Dq (l[q_-1]' ch) (l[q_-2]' ch))=false:=h2;refine C2 (cb h2 (qi (l[q_-1]' ch) (l[q_-2]' ch))) (Yi aa1 (Yi (by show Az (((q_:Int)-1:Int)-(1:Int));unfold Az;omega) ?_));refine Xi ⟨q_-1,by omega,by rw[show q_-1-1=q_-2 by omega,MX (l:=l) (i:=q_-2) ch];simp only[show q_-2+1=q_-1 by omega,i2,h2];rfl⟩ ?_;exact⟨by show(q_-1:Nat)<q_;omega,⟨Zr,⟨(Aa vi (show(q_:Int)-1-1=((q_-1:Nat):Int)-1 by omega)),rfl⟩,Tv⟩,Tv,Fh,Tv⟩
 have h1:¬((0:Int)<((q_:Int)-1:Int)):=h1;exact BC.of_eq (Aa vb (show true=Fx l by rw[show q_-1=0 by omega]at i2;exact i2.symm))
abbrev Bd:List AV:=[sl Af p]
def Iq:List CS:=((p.map Ks).mergeSort fun a b=>decide (a<=b)).map Sr
theorem HA:(Iq p).Perm p/\((Iq p).map Ks).Pairwise fun a b=>a<=b:=by
 have e:∀q:CS,Sr (Ks q)=q:=fun q=>by cases q;simp
 have e2:∀q:List UInt8,Ks (Sr q)=q:=fun q=>by simp
 refine⟨?_,?_⟩
 .have h:=(NG (p.map Ks) fun a b=>decide (a<=b)).map Sr
  rwa [Bw,show(Sr ∘ Ks)=id from funext e,Hp]at h
 .rw[Iq,Bw,show(Ks ∘ Sr)=id from funext e2,Hp];have h:=Tf (le:=fun a b:List UInt8=>decide (a<=b)) (fun a b c h1 h2=>AB (List.le_trans (AT h1) (AT h2))) (fun a b=>by rcases List.le_total a b with h | h<;>simp[h]) (p.map Ks)
  exact h.imp fun h=>AT h
def VO:Bool:=!p.isEmpty&&Fx p
def qv(i:Nat):Bool:=decide (Dp x (Dx (OG l m (Al.take (i+1)).flatten))=0)
def fj:Bool:=(List.range Al.length).all (qv x l m Al)
def Fm:Int:=
 if Ix x l m=0 then if Al.all VO=true then if Iq Al.flatten=D2 l m then if fj x l m Al=true then 0 else 17 else 1 else 1 else Ix x l m
theorem Ht{Al:List (List CS)}(h:i<Al.length):(Al.take (i+1)).flatten=(Al.take i).flatten++Al[i]:=by
 rw[A6 h,Ci];simp
theorem SM{Al:List (List CS)}{B:Nat}(h:∀p∈Al,p.length<=B):∀i,(Al.take i).flatten.length<=i*B
 |0=>by simp
 |i+1=>by
  rw[Nat.succ_mul]
  by_cases hi:i<Al.length
  .rw[Ht hi,Ac];exact Nat.add_le_add (SM h i) (h _ (Ai hi))
  .have e:Al.take (i+1)=Al.take i:=by rw[As (l:=Al) (i:=i+1) ch,As (l:=Al) (i:=i) ch]
   rw[e];exact Av (SM h i) (Nat.le_add_right _ _)
theorem o5{Al:List (List CS)}(h:i<Al.length)(k:VO Al[i]=false):¬Al.all VO=true:=fun e=>by
 have q:=AS.1 e _ (Ai h);rw[k]at q;cases q
theorem xL{Al:List (List CS)}(h:∀j (hj:j<Al.length),j<i->VO Al[j]=true)(hi:Al.length<=i):Al.all VO=true:=by
 rw[AS];intro p hp;obtain⟨j,hj,rfl⟩:=DS.1 hp;exact h j hj ch
theorem rP{Al:List (List CS)}(Ef:Al≠[])(h:Al.all VO=true):Al.flatten≠[]:=fun e=>by
 cases Al with
 |nil=>exact Ef rfl
 |cons p r=>
  have q:=AS.1 h p (Ah ..);rw[BZ]at e;rw[(List.append_eq_nil_iff.1 e).1]at q;cases q
theorem yQ{x:List Rl}{l m:List Sl}{Al:List (List CS)}(h:k<Al.length)(e:qv x l m Al k=false):¬fj x l m Al=true:=fun c=>by
 have q:=AS.1 c k (G3.2 h);rw[e]at q;cases q
theorem yP{x:List Rl}{l m:List Sl}{Al:List (List CS)}(h:∀j,j<k->qv x l m Al j=true)(hk:Al.length<=k):fj x l m Al=true:=
 AS.2 fun j hj=>h j (by have:=G3.1 hj;omega)
theorem yy(hx:∀r∈x,CX r)(Ei:l.length<=16)(Dd:m.length<=16)(_hpl:Al.length<=100000)(_hpe:∀p∈Al,p.length<=100000)(c0:¬Ix x l m=0):PC 58 [.agg (Ic x ifs),sl Ab l,sl Ab m,sl Bd Al] (vi (Fm x l m Al)):=by
 have hl:BD l:=Av Ei Wk;have Kg:BD m:=Av Dd Wk;refine Ps (pC [4] []) func58 rfl (Nz rfl) (yN (C1 (C2 (by have q:=qr x ifs l m hx hl Kg Ei Dd;rw[fc,AA c0]at q;exact q) ?_)));refine Yi (fun h1=>?_) (fun h1=>?_)
 .exact BC.of_eq (Aa vi (show(Ix x l m)=Fm x l m Al by rw[Fm,AA c0]))
 have h1:((Ix x l m):Int)=(0:Int):=Aq h1;exact absurd h1 c0
theorem yz(hx:∀r∈x,CX r)(Ei:l.length<=16)(Dd:m.length<=16)(dE:Al.length<=1000)(Mg:∀p∈Al,p.length<=100000)(Yq:∀i,(Al.take i).flatten.length<=1073741824)(Ef:Al≠[])(c0:Ix x l m=0):PC 58 [.agg (Ic x ifs),sl Ab l,sl Ab m,sl Bd Al] (vi (Fm x l m Al)):=by
 have hl:BD l:=Av Ei Wk;have Kg:BD m:=Av Dd Wk;have Yp:BD Al.flatten:=by have q:=Yq Al.length;rw[Cf]at q;exact q
 have VH:∀i,BD (Iq (Al.take i).flatten):=fun i=>by show(Iq _).length<=_;rw[(HA _).1.length_eq];exact Yq i
 refine Ps ⟨[4],[(14,1)],[(11,1)],[],[],[],[],[],[],[(200013,11)],[5,11,13,20]⟩ func58 rfl (Nz rfl) (yN (C1 (C2 (by have q:=qr x ifs l m hx hl Kg Ei Dd;rw[fc,Ax c0]at q;exact q) ?_)));refine Yi (fun h=>absurd h Wk) (fun _=>?_);refine cU [(3,sl Bd Al),(4,.ref 4 0),(9,.cptr [.cmap BW (Ch x l),.cmap BW (Ch x m),sl Ab l,sl Ab m,sl Af (D2 l m)]),(11,.msl 11 0)] [(4,.ro (Ic x ifs)),(11,.arr 1 [])] Z4 Z2 (Xi {q:Nat // q<=Al.length/\∀j (hj:j<Al.length),j<q->VO Al[j]=true} (Xi (fun q=>⟨[(3,sl Bd Al),(4,.ref 4 0),(9,.cptr [.cmap BW (Ch x l),.cmap BW (Ch x m),sl Ab l,sl Ab m,sl Af (D2 l m)]),(11,.msl 11 ((Al.take q.1).flatten).length),(27,sl Bd Al),(28,vi (Al.map Bd).length),(29,vi q.1)],[(4,.ro (Ic x ifs)),(11,.arr 1 (((Al.take q.1).flatten).map Af))],Ae⟩) (Xi (fun q=>Al.length-q.1) (Yi (Xi ⟨0,Aj _,fun j hj h=>absurd h ch⟩ ?_) ?_))))
 .exact⟨Z7,Z2,Fh,Tv⟩
 intro⟨i,i1,i2⟩;refine Yi (fun h1=>?_) (fun h1=>?_)
 .have h1:(i:Int)<((Al.map Bd).length:Int):=h1;have n1:=Dh h1;have Aka:(Al.take i).flatten.length<=1073741824:=Yq i;have hpi:=Mg _ (Ai n1);refine Xi (Bd Al[i]) (Yi (DC n1) (Yi rfl (Yi (fun h2=>?_) (fun h2=>?_))))
  .exact BC.of_eq (Aa vi (show 1=Fm x l m Al by rw[Fm,Ax c0,AA (o5 n1 (by rw[VO,FB.1 (show Al[i].length=0 by have q:=h2;rw[Lm]at q;omega)];rfl))]))
  refine A1 (Bt (Fx Al[i])) (fun h4=>?_) (fun h4=>?_)
  .refine C1 (C2 (cb h4 (cj Al[i] (Av (Mg _ (Ai n1)) Wk))) ?_);have b5:Bi 1 (Al[i].map Af)/\(((Al.take i).flatten).map Af).length=((Al.take i).flatten).length/\((((Al.take i).flatten).map Af).length+(Al[i].map Af).length)*16<=140737488355328/\(((Al.take i).flatten).map Af).length+(Al[i].map Af).length<=9223372036854775807:=⟨(BV (enc:=Af) (n:=1) (fun _=>rfl) Al[i]),(by rw[Lm]),(by simp only[Lm];omega),(by simp only[Lm];omega)⟩;refine Yi b5 (cU [(3,sl Bd Al),(4,.ref 4 0),(9,.cptr [.cmap BW (Ch x l),.cmap BW (Ch x m),sl Ab l,sl Ab m,sl Af (D2 l m)]),(11,.msl 11 ((((Al.take i).flatten).map Af).length+(Al[i].map Af).length)),(27,sl Bd Al),(28,vi (Al.map Bd).length),(29,vi i)] [(4,.ro (Ic x ifs)),(11,.arr 1 ((((Al.take i).flatten).map Af)++(Al[i].map Af)))] Z7 Z2 (Yi (Ii i ch) ?_));have GX:VO Al[i]=true:=by rw[VO,h4,Bool.and_true];cases e:Al[i]with | nil=>exact absurd (by rw[e];rfl) h2 | cons a r=>rfl
   have ew:(((Al.take i).flatten).map Af++(Al[i]).map Af)=((Al.take (i+1)).flatten).map Af:=by rw[Ht n1,Ar]
   refine Xi ⟨i+1,n1,fun j hj h=>by rcases Db j i with hg | hg;exact i2 j hj hg;have e:j=i:=ch;subst e;exact GX⟩ ?_;exact⟨Dl Al.length i ch,⟨Zr,Zr,Zr,⟨(show AV.msl 11 ((((Al.take i).flatten).map Af).length+(Al[i].map Af).length)=.msl 11 ((Al.take (i+1)).flatten).length by rw[Ht n1,Ac,Lm,Lm]),rfl⟩,Zr,Zr,Zr,Tv⟩,⟨Zr,⟨(show HO.arr 1 ((((Al.take i).flatten).map Af)++(Al[i].map Af))=.arr 1 (((Al.take (i+1)).flatten).map Af)from Aa (HO.arr 1) ew),rfl⟩,Tv⟩,Fh,Tv⟩
  refine C1 (C2 (cb h4 (cj Al[i] (Av (Mg _ (Ai n1)) Wk))) ?_);exact BC.of_eq (Aa vi (show 1=Fm x l m Al by rw[Fm,Ax c0,AA (o5 n1 (by rw[VO,h4,Eo]))]))
 have h1:¬((i:Int)<((Al.map Bd).length:Int)):=h1;have n1:=BB h1;have Gl:Al.all VO=true:=xL i2 (AE (BB h1));have ef:(Al.take i).flatten=Al.flatten:=by rw[As (AE (BB h1))]
 have hs:=AbB Al.flatten (Iq Al.flatten) Yp (rP Ef Gl) (HA _).1 (HA _).2;rw[<-ef]at hs;refine Xi (.gen [(11,1000)] 0) (Yi rfl (AU.to2 hs ?_));refine Yi (show((Al.take i).flatten).length=((Iq ((Al.take i).flatten)).map Af).length by rw[Lm,(HA _).1.length_eq]) ?_;refine cU [(3,sl Bd Al),(4,.ref 4 0),(9,.cptr [.cmap BW (Ch x l),.cmap BW (Ch x m),sl Ab l,sl Ab m,sl Af (D2 l m)]),(11,sl Af (Iq ((Al.take i).flatten)))] [(4,.ro (Ic x ifs))] Z4 Z1 (A1 (Bt (decide (Iq ((Al.take i).flatten)=D2 l m))) (fun h8=>?_) (fun h8=>?_))
 .have h8:(decide (Iq ((Al.take i).flatten)=D2 l m))=true:=h8;have heq:Iq Al.flatten=D2 l m:=by rw[<-ef];exact AT h8
  refine C1 (C2 (cb h8 (ux (Iq ((Al.take i).flatten)) (D2 l m) (VH i))) (Xi {q:Nat // q<=Al.length/\∀j,j<q->qv x l m Al j=true} (Xi (fun q=>⟨[(4,.ref 4 0),(9,.cptr [.cmap BW (Ch x l),.cmap BW (Ch x m),sl Ab l,sl Ab m,sl Af (D2 l m)]),(14,.slice (.id 14 1) (((Al.take q.1).flatten).map Af)),(54,sl Bd Al),(55,vi (Al.map Bd).length),(56,vi q.1)],[(4,.ro (Ic x ifs)),(14,.tok 1 (((Al.take q.1).flatten).map Af).length)],Ae⟩) (Xi (fun q=>Al.length-q.1) (Yi (Xi ⟨0,Aj _,fun j h=>absurd h ch⟩ ?_) ?_)))))
  .exact⟨Z6,Z2,Fh,Tv⟩
  intro⟨k,k1,k2⟩;have k1:k<=Al.length:=k1;have k2:∀j,j<k->qv x l m Al j=true:=k2;refine Yi (fun h9=>?_) (fun h9=>?_)
  .have h9:(k:Int)<((Al.map Bd).length:Int):=h9;have n9:=Dh h9;have hfk:BD (Al.take (k+1)).flatten:=Yq _;have Akc:(Al.take k).flatten.length<=1073741824:=Yq k;have dD:=Mg _ (Ai n9);refine Xi (Bd Al[k]) (Yi (DC n9) (Yi rfl ?_));have Wi:Bi 1 (Al[k].map Af)/\(((Al.take k).flatten).map Af).length=(((Al.take k).flatten).map Af).length/\((((Al.take k).flatten).map Af).length+(Al[k].map Af).length)*16<=140737488355328/\(((Al.take k).flatten).map Af).length+(Al[k].map Af).length<=9223372036854775807:=⟨(BV (enc:=Af) (n:=1) (fun _=>rfl) Al[k]),rfl,(by simp only[Lm];omega),(by simp only[Lm];omega)⟩;refine Yi Wi ?_;have ew:(((Al.take k).flatten).map Af++(Al[k]).map Af)=((Al.take (k+1)).flatten).map Af:=by rw[Ht n9,Ar]
   refine cU [(4,.ref 4 0),(9,.cptr [.cmap BW (Ch x l),.cmap BW (Ch x m),sl Ab l,sl Ab m,sl Af (D2 l m)]),(14,.slice (.id 14 1) (((Al.take (k+1)).flatten).map Af)),(54,sl Bd Al),(55,vi (Al.map Bd).length),(56,vi k)] [(4,.ro (Ic x ifs)),(14,.tok 1 (((Al.take (k+1)).flatten).map Af).length)] ⟨Zr,Zr,⟨(Aa (AV.slice (.id 14 1)) ew),rfl⟩,Zr,Zr,Zr,Tv⟩ ⟨Zr,⟨(show HO.tok 1 ((((Al.take k).flatten).map Af).length+(Al[k].map Af).length)=.tok 1 (((Al.take (k+1)).flatten).map Af).length from Aa (HO.tok 1) (Ac.symm.trans (Aa List.length ew))),rfl⟩,Tv⟩ (yN (C2 (vw x l m ((Al.take (k+1)).flatten) (D8 (If c0).1 hl) (D8 (If c0).2 Kg) (show(OG l m ((Al.take (k+1)).flatten)).length<=1073741824 by have q:=XV l m ((Al.take (k+1)).flatten);omega) hfk) ?_));refine C2 (yt x ifs (Dx (OG l m ((Al.take (k+1)).flatten))) hx (show(Dx (OG l m ((Al.take (k+1)).flatten))).length<=1073741824 by rw[(Ip _).length_eq];have q:=XV l m ((Al.take (k+1)).flatten);omega)) ?_;refine Yi (fun IM=>?_) (fun IM=>?_)
   .have IM:((Dp x (Dx (OG l m ((Al.take (k+1)).flatten)))):Int)≠(0:Int):=IM;refine Yi aa1 ?_;exact BC.of_eq (Aa vi (show 17=Fm x l m Al by rw[Fm,Ax c0,Ax Gl,Ax heq,AA (yQ n9 (Aw IM))]))
   have IM:((Dp x (Dx (OG l m ((Al.take (k+1)).flatten)))):Int)=(0:Int):=Aq IM;refine Yi aa1 (Yi (Ii k ch) (Xi ⟨k+1,n9,fun j h=>by rcases Db j k with hg | hg;exact k2 j hg;have e:j=k:=ch;subst e;exact AB IM⟩ ?_));exact⟨Dl Al.length k ch,Z6,Z2,Fh,Tv⟩
  have h9:¬((k:Int)<((Al.map Bd).length:Int)):=h9;have n9:=BB h9;exact BC.of_eq (Aa vi (show 0=Fm x l m Al by rw[Fm,Ax c0,Ax Gl,Ax heq,Ax (yP k2 (AE (BB h9)))]))
 have h8:(decide (Iq ((Al.take i).flatten)=D2 l m))=false:=h8;refine C1 (C2 (cb h8 (ux (Iq ((Al.take i).flatten)) (D2 l m) (VH i))) ?_);exact BC.of_eq (Aa vi (show 1=Fm x l m Al by rw[Fm,Ax c0,Ax Gl,AA (by rw[<-ef];exact PT h8)]))
theorem pP:Iq []=[]:=FB.1 (by rw[(HA _).1.length_eq];rfl)
theorem fH{x:List Rl}{l m:List Sl}(c0:Ix x l m=0):Fm x l m []=if([]:List CS)=D2 l m then 0 else 1:=by
 rw[Fm,Ax c0,Ax (show([]:List (List CS)).all VO=true from rfl),show([]:List (List CS)).flatten=[]from rfl,pP,Ax (show fj x l m []=true from rfl)]
theorem yA(hx:∀r∈x,CX r)(Ei:l.length<=16)(Dd:m.length<=16)(lim:Int)(hb:PC 161 [.v (.int .u64 (IntKind.u64.wrap (0:Int)))] (vi lim))(c0:Ix x l m=0):PC 58 [.agg (Ic x ifs),sl Ab l,sl Ab m,sl Bd ([]:List (List CS))] (vi (Fm x l m [])):=by
 have hl:BD l:=Av Ei Wk;have Kg:BD m:=Av Dd Wk;refine Ps (pC [4] []) func58 rfl (Nz rfl) (yN (C1 (C2 (by have q:=qr x ifs l m hx hl Kg Ei Dd;rw[fc,Ax c0]at q;exact q) ?_)));refine Yi (fun h=>absurd h Wk) (fun _=>?_);refine Xi {q:Nat // q=0} (Xi (fun q=>⟨[(3,sl Bd ([]:List (List CS))),(4,.ref 4 0),(9,.cptr [.cmap BW (Ch x l),.cmap BW (Ch x m),sl Ab l,sl Ab m,sl Af (D2 l m)]),(11,nzA),(27,sl Bd ([]:List (List CS))),(28,vi (([]:List (List CS)).map Bd).length),(29,vi q.1)],[(4,.ro (Ic x ifs))],Ae⟩) (Xi (fun q=>q.1) (Yi (Xi ⟨0,rfl⟩ ?_) ?_)))
 .exact⟨Z7,Z1,Fh,Tv⟩
 intro⟨i,i1⟩;have i1:i=0:=i1;refine Yi (fun h1=>?_) (fun h1=>?_)
 .have h1:(i:Int)<((([]:List (List CS)).map Bd).length:Int):=h1;have n1:=Dh h1;exact absurd (Dh h1) (DX _)
 have h1:¬((i:Int)<((([]:List (List CS)).map Bd).length:Int)):=h1;have n1:=BB h1;refine C1 (C2 (AcV lim hb) (A1 (Bt (decide (([]:List CS)=D2 l m))) (fun h2=>?_) (fun h2=>?_)))
 .have h2:(decide (([]:List CS)=D2 l m))=true:=h2;refine C1 (C2 (cb h2 ((ux ([]:List CS) (D2 l m) Wk).args ⟨.nil,.refl _,trivial⟩)) (Xi {q:Nat // q=0} (Xi (fun q=>⟨[(4,.ref 4 0),(9,.cptr [.cmap BW (Ch x l),.cmap BW (Ch x m),sl Ab l,sl Ab m,sl Af (D2 l m)]),(14,nzA),(54,sl Bd ([]:List (List CS))),(55,vi (([]:List (List CS)).map Bd).length),(56,vi q.1)],[(4,.ro (Ic x ifs))],Ae⟩) (Xi (fun q=>q.1) (Yi (Xi ⟨0,rfl⟩ ?_) ?_)))))
  .exact⟨Z6,Z1,Fh,Tv⟩
  intro⟨k,k1⟩;have k1:k=0:=k1;refine Yi (fun h3=>?_) (fun h3=>?_)
  .have h3:(k:Int)<((([]:List (List CS)).map Bd).length:Int):=h3;have n3:=Dh h3;exact absurd (Dh h3) (DX _)
  have h3:¬((k:Int)<((([]:List (List CS)).map Bd).length:Int)):=h3;have n3:=BB h3;exact BC.of_eq (Aa vi (show 0=Fm x l m [] by rw[fH c0,Ax (AT h2)]))
 have h2:(decide (([]:List CS)=D2 l m))=false:=h2;refine C1 (C2 (cb h2 ((ux ([]:List CS) (D2 l m) Wk).args ⟨.nil,.refl _,trivial⟩)) ?_);exact BC.of_eq (Aa vi (show 1=Fm x l m [] by rw[fH c0,AA (PT h2)]))
structure Wv where
 paths:List CS
 stages:List Vt
abbrev Es(v:Wv):List AV:=[sl Af v.paths,sl CG v.stages]
structure Ro where
 name:CS
 waves:List Wv
variable (r:Ro)
abbrev CR:List AV:=[vs r.name,sl Es r.waves]
theorem Acs(hx:∀r∈x,CX r)(Ei:l.length<=16)(Dd:m.length<=16)(dE:Al.length<=1000)(Mg:∀p∈Al,p.length<=1000):PC 58 [HZ x ifs,sl Ab l,sl Ab m,sl Bd Al] (vi (Fm x l m Al)):=by
 by_cases c0:Ix x l m=0
 .by_cases Ef:Al=[]
  .subst Ef;obtain⟨lim,_,hb⟩:=md 0 (Aj _);exact yA x ifs l m hx Ei Dd lim hb c0
  .refine yz x ifs l m Al hx Ei Dd dE (fun p hp=>Av (Mg p hp) Wk) (fun i=>?_) Ef c0;have q:=SM Mg Al.length;have q2:(Al.take i).flatten.length<=Al.flatten.length:=by
    conv=>rhs;rw[<-LQ i Al,Ci,Ac]
    omega
   rw[Cf]at q;have q3:=Bl 1000 dE;omega
 .exact yy x ifs l m Al hx Ei Dd ch (fun p hp=>Av (Mg p hp) Wk) c0
theorem bX{α:Type}(f:α->List AV)(l:List α)(n:Nat):((l.map f).take ((n:Nat):Int).toNat).drop (0:Int).toNat=(l.take n).map f:=by
 rw[E0,So];rfl
theorem Y7(n:Nat)(hn:n<=r.waves.length)(hl:BD r.waves):PC 56 [.agg (CR r),vi (n:Nat)] (sl Bd ((r.waves.take n).map (·.paths))):=by
 have hl:r.waves.length<=1073741824:=hl;have hrn:(r.waves.take n).length<=n:=by rw[AF];omega
 refine Ps (pT [2] [(5,1)] []) func56 rfl (Nz rfl) (Yi (show(0:Int)<=0/\(0:Int)<=(n:Nat)/\((n:Nat):Int)<=((r.waves.map Es).length:Nat) by rw[Lm];omega) (Yi (rJ (enc:=Es) (n:=2) (fun _=>rfl) r.waves) (Xi {q:Nat // q<=(r.waves.take n).length} (Xi (fun q=>⟨[(5,.slice (.id 5 1) ((((r.waves.take n).take q.1).map (·.paths)).map Bd)),(11,sl Es (r.waves.take n)),(12,vi ((r.waves.take n).map Es).length),(13,vi q.1)],[(5,.tok 1 ((((r.waves.take n).take q.1).map (·.paths)).map Bd).length)],Ae⟩) (Xi (fun q=>(r.waves.take n).length-q.1) (Yi (Xi ⟨0,Aj _⟩ ?_) ?_))))))
 .exact⟨⟨Zr,⟨(Aa (AV.slice .none) (bX Es r.waves n)),rfl⟩,⟨(Aa (fun z:C0=>vi (z.length:Nat)) (bX Es r.waves n)),rfl⟩,Zr,Tv⟩,Z1,Fh,Tv⟩
 intro⟨i,i1⟩;have i1:i<=(r.waves.take n).length:=i1;refine Yi (fun h1=>?_) (fun h1=>?_)
 .have h1:(i:Int)<(((r.waves.take n).map Es).length:Int):=h1;have n1:=Dh h1;have hq:((r.waves.take n).take i).length<=1073741824:=by rw[AF];omega
  refine Xi (Es ((r.waves.take n)[i])) (Yi (DC n1) (Yi rfl (yN (yN ?_))));have b2:Bi 1 [[sl Af ((r.waves.take n)[i]).paths]]/\((((r.waves.take n).take i).map (·.paths)).map Bd).length=((((r.waves.take n).take i).map (·.paths)).map Bd).length/\(((((r.waves.take n).take i).map (·.paths)).map Bd).length+([[sl Af ((r.waves.take n)[i]).paths]]:C0).length)*24<=140737488355328/\((((r.waves.take n).take i).map (·.paths)).map Bd).length+([[sl Af ((r.waves.take n)[i]).paths]]:C0).length<=9223372036854775807:=⟨⟨rfl,trivial⟩,rfl,(by simp only[Lm,Ap,AC];omega),(by simp only[Lm,Ap,AC];omega)⟩;refine Yi b2 (Yi (Ii i ch) ?_);have ew:((((r.waves.take n).take i).map (·.paths)).map Bd++[[sl Af ((r.waves.take n)[i]).paths]])=((((r.waves.take n).take (i+1)).map (·.paths)).map Bd):=by rw[DV n1,Ar,Ar];rfl
  refine Xi ⟨i+1,n1⟩ ?_;exact⟨by show(r.waves.take n).length-(i+1)<(r.waves.take n).length-i;omega,⟨⟨(Aa (AV.slice (.id 5 1)) ew),rfl⟩,Zr,Zr,Zr,Tv⟩,⟨⟨(show HO.tok 1 (((((r.waves.take n).take i).map (·.paths)).map Bd).length+([[sl Af ((r.waves.take n)[i]).paths]]:C0).length)=.tok 1 ((((r.waves.take n).take (i+1)).map (·.paths)).map Bd).length from Aa (HO.tok 1) (Ac.symm.trans (Aa List.length ew))),rfl⟩,Tv⟩,Fh,Tv⟩
 have h1:¬((i:Int)<(((r.waves.take n).map Es).length:Int)):=h1;have n1:=BB h1;exact BC.of_eq (show sl Bd (((r.waves.take n).take i).map (·.paths))=sl Bd ((r.waves.take n).map (·.paths)) by rw[As (l:=r.waves.take n) (i:=i) (AE (BB h1))])
def Ha:List Wv->Int
 | []=>0
 |v::r=>if BA v.stages=0 then Ha r else BA v.stages
def L3:List (List CS):=r.waves.map (·.paths)
def Iv:Int:=if Fm x l m (L3 r)=0 then if 65536<r.name.size then 7 else Ha r.waves else Fm x l m (L3 r)
theorem Acj{l:List Wv}(h:i<l.length)(k:BA l[i].stages=0):Ha (l.drop i)=Ha (l.drop (i+1)):=by rw[AD h,Ha,Ax k]
theorem Aci{l:List Wv}(h:i<l.length)(k:¬BA l[i].stages=0):Ha (l.drop i)=BA l[i].stages:=by rw[AD h,Ha,AA k]
structure IC(r:Ro):Prop where
 wv:r.waves.length<=1000
 st:∀v∈r.waves,v.stages.length<=1073741824
 pt:∀v∈r.waves,v.paths.length<=1000
theorem Y8(hx:∀r∈x,CX r)(Ei:l.length<=16)(Dd:m.length<=16)(hr:IC r):PC 23 [.agg (Ic x ifs),sl Ab l,sl Ab m,.agg (CR r)] (vi (Iv x l m r)):=by
 have u7:r.waves.length<=1000:=hr.wv;refine Ps (pC [4,7] [4]) func23 rfl (Nz rfl) (yN (yN (C2 (by have q:=Y7 r r.waves.length (Ao _) (Av hr.wv Wk);rw[Cf]at q;exact show PC 56 [.agg (CR r),vi ((r.waves.map Es).length:Nat)] (sl Bd (L3 r)) by rw[Lm];exact q) ?_)));refine C2 (Acs x ifs l m (L3 r) hx Ei Dd (by rw[L3,Lm];exact hr.wv) (fun p hp=>by obtain⟨v,hv,rfl⟩:=Ay.1 hp;exact hr.pt v hv)) ?_;refine Yi aa1 (Yi (fun h1=>?_) (fun h1=>?_))
 .have h1:((Fm x l m (L3 r)):Int)≠(0:Int):=h1;exact BC.of_eq (Aa vi (show(Fm x l m (L3 r))=Iv x l m r by rw[Iv,AA h1]))
 have h1:((Fm x l m (L3 r)):Int)=(0:Int):=Aq h1;refine cU [(7,.ref 7 0)] [(7,.ro (CR r))] Z1 Z1 (Yi (fun h3=>?_) (fun h3=>?_))
 .have h3:(65536:Int)<(r.name.size:Int):=h3;exact BC.of_eq (Aa vi (show 7=Iv x l m r by rw[Iv,Ax h1,Ax ch]))
 have h3:¬((65536:Int)<(r.name.size:Int)):=h3;refine Xi {q:Nat // q<=r.waves.length/\Ha (r.waves.drop q)=Ha r.waves} (Xi (fun q=>⟨[(30,sl Es r.waves),(31,vi (r.waves.map Es).length),(32,vi q.1)],[],Ae⟩) (Xi (fun q=>r.waves.length-q.1) (Yi (Xi ⟨0,Aj _,rfl⟩ ?_) ?_)))
 .exact⟨Z3,Tv,Fh,Tv⟩
 intro⟨i,i1,i2⟩;have i1:i<=r.waves.length:=i1;have i2:Ha (r.waves.drop i)=Ha r.waves:=i2;refine Yi (fun h5=>?_) (fun h5=>?_)
 .have h5:(i:Int)<((r.waves.map Es).length:Int):=h5;have n5:=Dh h5;refine Xi (Es r.waves[i]) (Yi (DC n5) (Yi rfl (yN (yN (C1 (C2 (Vn r.waves[i].stages (hr.st _ (Ai n5))) (Yi (fun h6=>?_) (fun h6=>?_))))))))
  .have h6:((BA r.waves[i].stages):Int)≠(0:Int):=h6;exact BC.of_eq (Aa vi (show(BA r.waves[i].stages)=Iv x l m r by rw[Iv,Ax h1,AA ch,<-i2,Aci n5 h6]))
  have h6:((BA r.waves[i].stages):Int)=(0:Int):=Aq h6;refine Yi (Ii i ch) (Xi ⟨i+1,n5,by rw[<-i2,Acj n5 h6]⟩ ?_);exact⟨Dl r.waves.length i ch,Z3,Tv,Fh,Tv⟩
 have h5:¬((i:Int)<((r.waves.map Es).length:Int)):=h5;have n5:=BB h5;exact BC.of_eq (Aa vi (show 0=Iv x l m r by rw[Iv,Ax h1,AA ch,<-i2,AN (AE (BB h5))];rfl))
end Go.Eng
namespace Go.Eng
open Go.Proofs
open Go.RowKit
variable (x:List Rl)(r:Ro)(user:CS)(AK:Int)(i:Nat)
theorem kH : Tryz.prog.globalNamed "internal/strconv.uint64pow10" = some 1:=by decide +kernel
theorem yg {w : World} (h : ∀ x ∈ m9, w.cell? ⟨x.1, x.2.1, none⟩ = x.2.2) : Go.Lib.TabIs Tryz.prog w "internal/strconv.uint64pow10" .u64 Go.Lib.pow10Tab:=by
 unfold Go.Lib.TabIs World.var?;rw[kH];simp only[Option.bind_some];have np:=h (1,20,none) (Ah ..);have hi:∀i,i<20->w.cell? ⟨1,i,none⟩=some (.int .u64 ((10 ^ i:Nat):Int)):=fun i hi=>h (1,i,some (.int .u64 ((10 ^ i:Nat):Int))) (Am _ (Ay.2 ⟨i,G3.2 hi,rfl⟩));have h0:=hi 0 Wk;unfold World.cell? at h0 np hi;cases e:w.heap[1]? with
 |none=>rw[e]at h0;cases h0
 |some o=>
  cases o with
  |cells cs E fr=>
   simp only[e,Option.isSome_none,OJ,if_false]at np hi;have hs:cs.size=20:=by
    have h19:=hi 19 Wk
    have:=(Co.1 h19).1
    have:=Array.getElem?_eq_none_iff.1 np
    omega
   show some cs=_
   congr 1
   apply Array.ext
   .simp[hs,Go.Lib.pow10Tab]
   .intro i h1 h2
    have:=hi i ch
    rw[B9 h1]at this;rw[DY this];simp[Go.Lib.pow10Tab]
  |_=>rw[e]at h0;simp at h0
theorem yH(n:Int)(h:Az n):PC 53 [vi n] (vs (Qt n)):=by
 unfold Az at h;refine MQ [.int .i64 n] (.string (Qt n)) (ZX 53 Tryz.func53 aa1 rfl) rfl (fun g w=>.v _ _) fun w _ ht=>?_;refine(Any.strconv_Itoa Tryz.layItoa n h.1 ch w (yg ht)).mono ?_
 rintro e w' ⟨rfl,k,os,rfl⟩
 exact⟨rfl,Go.Lib.below_grow _ _ (Ao _) _ _⟩
theorem JH{n:Int}(h0:-9223372036854775808<=n)(h1:n<=9223372036854775807):(Qt n).size<=21:=by
 unfold Qt;rw[show ∀l:List UInt8,(vf l).size=l.length from fun l=>by simp[ByteArray.size]];exact Go.Lib.itoa_length_le n h0 h1
def UQ(v:Wv):Bool:=decide (HH v.stages AK<=X4 ((r.name++⟨#[47]⟩)++Qt (i:Int)) user)
def NE(r:Ro)(user:CS)(AK:Int):Nat->List Wv->Nat
 |i,[]=>i
 |i,v::l=>if UQ r user AK i v=true then i else NE r user AK (i+1) l
def Lc:Nat:=NE r user AK 0 r.waves
theorem uL{r:Ro}{user:CS}{AK:Int}{i:Nat}(h:i<r.waves.length)(k:UQ r user AK i r.waves[i]=false):NE r user AK i (r.waves.drop i)=NE r user AK (i+1) (r.waves.drop (i+1)):=by
 rw[AD h,NE,AA (by rw[k];decide)]
theorem ne{r:Ro}{user:CS}{AK:Int}{i:Nat}(h:i<r.waves.length)(k:UQ r user AK i r.waves[i]=true):NE r user AK i (r.waves.drop i)=i:=by
 rw[AD h,NE,Ax k]
theorem vB(hi:i<r.waves.length)(hw:r.waves.length<=1000)(KP:BD r.waves[i].stages)(hn:r.name.size<=10000000)(hu:user.size<=100000000):PC 52 [vi i,.cptr (CR r),.cptr [vs user],.cptr [vi AK]] (vb (UQ r user AK i r.waves[i])):=by
 refine Ps CQ Tryz.func52 rfl (Nz rfl) (Yi (show(((r.name:CS).size+(⟨#[47]⟩:CS).size:Nat):Int)<=9223372036854775807 by have q:=JH (n:=(i:Int)) ch ch;have q2:(⟨#[47]⟩:CS).size=1:=rfl;omega) ?_);refine C2 (yH (i:Int) (by unfold Az;omega)) (Yi (show(((r.name++⟨#[47]⟩:CS).size+((Qt (i:Int)):CS).size:Nat):Int)<=9223372036854775807 by have q:=JH (n:=(i:Int)) ch ch;have q2:(⟨#[47]⟩:CS).size=1:=rfl;simp only[A2];omega) ?_);refine C2 (Acv ((r.name++(⟨#[47]⟩:CS))++Qt (i:Int)) user (by have q:=JH (n:=(i:Int)) ch ch;simp only[A2];have q2:(⟨#[47]⟩:CS).size=1:=rfl;omega) hu) ?_;refine Xi (Es r.waves[i]) (Yi (DC hi) (Yi rfl (C2 (vC r.waves[i].stages AK KP) (Yi (fun h1=>?_) (fun h1=>?_)))))
 .have h1:((HH r.waves[i].stages AK):Int)<=((X4 ((r.name++(⟨#[47]⟩:CS))++Qt (i:Int)) user):Int):=h1;refine Yi aa1 ?_;exact BC.of_eq (Aa vb (show true=UQ r user AK i r.waves[i]from(AB h1).symm))
 have h1:¬(((HH r.waves[i].stages AK):Int)<=((X4 ((r.name++(⟨#[47]⟩:CS))++Qt (i:Int)) user):Int)):=h1;refine Yi aa1 ?_;exact BC.of_eq (Aa vb (show false=UQ r user AK i r.waves[i]from(Aw h1).symm))
def S0(l m:List Sl)(r:Ro)(user:CS)(AK:Int):AV:=if Iv x l m r=0 then .tup [vi (Lc r user AK:Nat),vi 0]else .tup [vi 0,vi (Iv x l m r)]
theorem iy(ifs:C0)(l m:List Sl)(r:Ro)(user:CS)(AK:Int)(hx:∀r∈x,CX r)(Ei:l.length<=16)(Dd:m.length<=16)(hr:IC r)(hn:r.name.size<=10000000)(hu:user.size<=100000000):PC 19 [.agg (Ic x ifs),sl Ab l,sl Ab m,.agg (CR r),vs user,vi AK] (S0 x l m r user AK):=by
 have u7:r.waves.length<=1000:=hr.wv;refine Ps (pC [6,9,10,11] [4]) Tryz.func19 rfl (Nz rfl) (yN (yN (C1 (C2 (Y8 x ifs l m r hx Ei Dd hr) (Yi (fun h1=>?_) (fun h1=>?_))))))
 .have h1:((Iv x l m r):Int)≠(0:Int):=h1;exact BC.of_eq (show AV.tup [vi 0,vi (Iv x l m r)]=S0 x l m r user AK by rw[S0,AA h1])
 have h1:((Iv x l m r):Int)=(0:Int):=Aq h1;refine cU [(9,.ref 9 0),(10,.ref 10 0),(11,.ref 11 0)] [(9,.ro (CR r)),(10,.ro [vs user]),(11,.ro [vi AK])] Z3 Z3 (Xi {q:Nat // q<=r.waves.length/\NE r user AK q (r.waves.drop q)=Lc r user AK} (Xi (fun q=>⟨[(9,.ref 9 0),(15,.clo 52 [.cptr (CR r),.cptr [vs user],.cptr [vi AK]]),(28,vi (r.waves.map Es).length),(29,vi q.1)],[(9,.ro (CR r))],Ae⟩) (Xi (fun q=>r.waves.length-q.1) (Yi (Xi ⟨0,Aj _,rfl⟩ ?_) ?_))))
 .exact⟨Z4,Z1,Fh,Tv⟩
 intro⟨i,i1,i2⟩;have i1:i<=r.waves.length:=i1;have i2:NE r user AK i (r.waves.drop i)=Lc r user AK:=i2;refine Yi (fun h3=>?_) (fun h3=>?_)
 .have h3:(i:Int)<((r.waves.map Es).length:Int):=h3;have n3:=Dh h3;refine A1 (Bt (UQ r user AK i r.waves[i])) (fun h4=>?_) (fun h4=>?_)
  .have h4:(UQ r user AK i r.waves[i])=true:=h4;refine C1 (C2 (cb h4 (vB r user AK i n3 hr.wv (hr.st _ (Ai n3)) hn hu)) ?_);exact BC.of_eq (show AV.tup [vi i,vi 0]=S0 x l m r user AK by rw[S0,Ax h1,<-i2,ne n3 h4])
  have h4:(UQ r user AK i r.waves[i])=false:=h4;refine C1 (C2 (cb h4 (vB r user AK i n3 hr.wv (hr.st _ (Ai n3)) hn hu)) (Yi (Ii i ch) (Xi ⟨i+1,n3,by rw[<-i2,uL n3 h4]⟩ ?_)));exact⟨Dl r.waves.length i ch,Z4,Z1,Fh,Tv⟩
 have h3:¬((i:Int)<((r.waves.map Es).length:Int)):=h3;have n3:=BB h3;exact BC.of_eq (show AV.tup [vi (r.waves.map Es).length,vi 0]=S0 x l m r user AK by rw[S0,Ax h1,<-i2,AN (AE (BB h3)),Lm,show i=r.waves.length by have q:=BB h3;omega];rfl)
end Go.Eng
namespace Go.Proofs
open Go.Proofs.Tryz
open Go.Shelf
def Tryz.layGrow_ren:Go.Shelf.Ren:=⟨fun | 4=>94 | n=>n,fun | 22=>52 | 25=>9 | 3=>3 | 4=>4 | 9=>9 | 20=>20 | 0=>0 | n=>n,fun | n=>n⟩
theorem Tryz.layGrow:Go.Proofs.Lays8.n4 Tryz.prog Tryz.layGrow_ren:={
 mixed:=by kernel_rfl
 f4:=⟨Tryz.f94.name,by decide,Go.Eng.A0a func94⟩
 t0:=underlying0
 a0:=isAgg0
 z0:=sizeOf0
 v0:=zeroValue0
 t3:=underlying3
 a3:=isAgg3
 z3:=sizeOf3
 v3:=zeroValue3
 t4:=underlying4
 a4:=isAgg4
 z4:=sizeOf4
 v4:=zeroValue4
 t9:=underlying9
 a9:=isAgg9
 z9:=sizeOf9
 v9:=zeroValue9
 t20:=underlying20
 a20:=isAgg20
 z20:=sizeOf20
 v20:=zeroValue20
 t22:=underlying52
 a22:=isAgg52
 z22:=sizeOf52
 v22:=zeroValue52 }
end Go.Proofs
