/- Lemmas 31. -/
import Derived.Test.YteaiieomnhbmgaaGreatDoorFA30
import Derived.Lib.AppendIntMem
import Derived.Lib.ItoaLen
import Derived.Shelf.Spec.SlicesGrow
import Derived.Shelf.SlGeneric
import Derived.Ground.Names8Prog
set_option maxHeartbeats 4000000
namespace Go.Eng
open Go.Proofs
open Go.Sort Go.Lib
variable {p:ByteArray}{j i:Nat}{b:AV}(l m:List Sl)(mv:List ByteArray)
theorem zR(x y:SlA):ltOf cfBt x y=Ed x.1 y.1:=by
 rw[Gs];unfold ltOf cfBt;cases h:Op.bytesLess x.1.toList y.1.toList with
 |true=>rfl
 |false=>rfl
theorem nS{Ch:List (Value×AV)}{k k' : Value}{a:AV}:(k',b)∈E2 Ch k a↔(k'=k/\b=a)\/(k'≠k/\(k',b)∈Ch):=by
 by_cases h:∃a',(k,a')∈Ch
 .obtain⟨a',ha⟩:=h;rw[N7 ha,Ai];constructor
  .rintro⟨p,hp,e⟩
   by_cases hk:p.1=k
   .rw[Ap hk]at e;cases e;exact .inl Zr
   .rw[Aj hk]at e;subst e;exact .inr ⟨hk,hp⟩
  .rintro(⟨rfl,rfl⟩|⟨hk,hp⟩)
   .exact⟨_,ha,Ap rfl⟩
   .exact⟨_,hp,Aj hk⟩
 .have h2:∀a',(k,a')∉Ch:=fun a' e=>h ⟨a',e⟩;rw[Jc h2,AN,Ar];constructor
  .rintro(hp|e)
   .exact .inr ⟨fun e=>h2 b (e▸hp),hp⟩
   .cases e;exact .inl Zr
  .rintro(⟨rfl,rfl⟩|⟨hk,hp⟩)
   .exact .inr rfl
   .exact .inl hp
def Hu(p:ByteArray):Bool:=mv.any fun q=>decide (q=p)
noncomputable def mr:List (Value×AV):=mv.foldl (fun m p=>E2 m (.string p) (vb true)) []
theorem qJ{mv:List ByteArray}(h:i<mv.length):E2 (mr (mv.take i)) (.string mv[i]) (vb true)=mr (mv.take (i+1)):=by
 rw[BN h,mr,mr,Et];rfl
theorem Vu{mv:List ByteArray}:Hu mv p=true↔p∈mv:=by
 unfold Hu;rw[Ba];exact⟨fun⟨q,hq,e⟩=>AP e▸hq,fun h=>⟨p,h,Ak rfl⟩⟩
theorem RC:(Value.string p,b)∈mr mv↔Hu mv p=true/\b=vb true:=by
 have go:∀(l:List ByteArray) (m:List (Value×AV)),(Value.string p,b)∈l.foldl (fun m p=>E2 m (.string p) (vb true)) m↔(p∈l/\b=vb true)\/(p∉l/\(Value.string p,b)∈m):=fun l=>by
  induction l with
  |nil=>intro m;simp
  |cons a l ih=>
   intro m;rw[Fk,ih,nS]
   by_cases h1:p∈l
   .simp[h1]
   .by_cases h2:p=a
    .subst h2;simp[h1]
    .have h3:Value.string p≠Value.string a:=fun e=>h2 (by injection e);simp[h1,h2,h3]
 rw[Vu];have q:=go mv [];unfold mr;rw[q];simp
def Tx:List Sl:=l.filter (fun s=>!Hu mv s.path)++m.filter (fun s=>Hu mv s.path)
theorem Te{l:List Sl}(h:l.Pairwise Vr)(p:Sl->Bool):((l.filter p).map (·.path)).Nodup:=by
 have q:=List.Pairwise.filter p h;rw[List.nodup_iff_pairwise_ne,LK];exact q.imp fun {a b} dW e=>by
  have dW:Ed a.path b.path=true:=dW;rw[e,Dm]at dW;cases dW
theorem Uv{l m:List Sl}(hl:l.Pairwise Vr)(hm:m.Pairwise Vr)(mv:List ByteArray):((Tx l m mv).map (·.path)).Nodup:=by
 rw[Tx,At,FQ];refine⟨Te hl _,Te hm _,fun a ha b hb e=>?_⟩;obtain⟨s,hs,rfl⟩:=Ai.1 ha;obtain⟨t,ht,e2⟩:=Ai.1 hb;have h1:=(Br.1 hs).2;have h2:=(Br.1 ht).2;rw[show t.path=s.path from e2.trans e.symm]at h2;rw[h2]at h1;cases h1
def SF(j:Nat):List Sl:=(l.take j).filter fun s=>!Hu mv s.path
def Oj(k:Nat):List Sl:=SF l mv l.length++(m.take k).filter fun s=>Hu mv s.path
theorem qO{p:Sl->Bool}{l:List Sl}(h:i<l.length):(l.take (i+1)).filter p=(l.take i).filter p++if p l[i]=true then [l[i]]else []:=by
 rw[BN h,EL,Dx];rfl
theorem AbY{l:List Sl}{mv:List ByteArray}(h:j<l.length)(k:Hu mv l[j].path=false):SF l mv (j+1)=SF l mv j++[l[j]]:=by rw[SF,qO h,Ap (by rw[k];rfl)];rfl
theorem AbX{l:List Sl}{mv:List ByteArray}(h:j<l.length)(k:Hu mv l[j].path=true):SF l mv (j+1)=SF l mv j:=by rw[SF,qO h,Aj (by rw[k];decide),BQ];rfl
theorem Ac0{l m:List Sl}{mv:List ByteArray}(h:j<m.length)(k:Hu mv m[j].path=true):Oj l m mv (j+1)=Oj l m mv j++[m[j]]:=by rw[Oj,qO h,Ap (by rw[k]),<-BD];rfl
theorem AbZ{l m:List Sl}{mv:List ByteArray}(h:j<m.length)(k:Hu mv m[j].path=false):Oj l m mv (j+1)=Oj l m mv j:=by rw[Oj,qO h,Aj (by rw[k];decide),BQ];rfl
theorem lU(j:Nat):(SF l mv j).length<=l.length:=AK (Bx _ _) (by rw[Ax];omega)
theorem lV(j:Nat):(Oj l m mv j).length<=l.length+m.length:=by
 rw[Oj,Ac];exact Nat.add_le_add (lU _ _ _) (AK (Bx _ _) (by rw[Ax];omega))
theorem YI:Oj l m mv m.length=Tx l m mv:=by rw[Oj,SF,Ce,Ce];rfl
theorem tK(x:List Rl)(l m:List Sl)(mv:List ByteArray)(hl:Iz l)(SN:Iz m)(hbt:B8 (Tx l m mv))(d5:B8 mv):PC 77 [.cptr [.cmap Cu (CP x l),.cmap Cu (CP x m),sl Aq l,sl Aq m,sl AF (J0 l m)],sl AF mv] (sl Aq (DZ (Tx l m mv))):=by
 have hll:l.length<=1073741824:=hl.few;have hml:m.length<=1073741824:=SN.few;have hvl:mv.length<=1073741824:=d5;refine Ps ⟨[],[],[(8,4)],[],[],[],[],[],[],[(200021,8)],[7,21]⟩ Tryz.func77 rfl (Nz rfl) (Xi {q:Nat // q<=mv.length} (Xi (fun q=>⟨[(0,.cptr [.cmap Cu (CP x l),.cmap Cu (CP x m),sl Aq l,sl Aq m,sl AF (J0 l m)]),(5,.mref 13),(14,sl AF mv),(15,vi (mv.map AF).length),(16,vi q.1)],[(13,.map Cu (mr (mv.take q.1)))],Ag⟩) (Xi (fun q=>mv.length-q.1) (Yi (Xi ⟨0,AB _⟩ ?_) ?_))))
 .exact⟨Z5,Z1,Fh,Tv⟩
 intro⟨i,i1⟩;refine Yi (fun h1=>?_) (fun h1=>?_)
 .have h1:(i:Int)<((mv.map AF).length:Int):=h1;have n1:=FJ h1;refine Xi (AF mv[i]) (Yi (Lv n1) (Yi rfl (Yi (Ii i ch) (Xi ⟨i+1,n1⟩ ?_))));exact⟨Dl mv.length i ch,Z5,⟨⟨(Aa (HO.map Cu) (qJ n1)),rfl⟩,Tv⟩,Fh,Tv⟩
 have n1:=DP h1;have ei:mv.take i=mv:=Av (Bl (DP h1));refine cU [(0,.cptr [.cmap Cu (CP x l),.cmap Cu (CP x m),sl Aq l,sl Aq m,sl AF (J0 l m)]),(5,.mref 13)] [(13,.map Cu (mr mv))] Z2 ⟨⟨(Aa (fun z=>HO.map Cu (mr z)) ei),rfl⟩,Tv⟩ (Xi {q:Nat // q<=l.length} (Xi (fun q=>⟨[(0,.cptr [.cmap Cu (CP x l),.cmap Cu (CP x m),sl Aq l,sl Aq m,sl AF (J0 l m)]),(5,.mref 13),(8,.msl 8 ((SF l mv q.1)).length),(26,sl Aq l),(27,vi (l.map Aq).length),(28,vi q.1)],[(8,.arr 4 ((SF l mv q.1).map Aq)),(13,.map Cu (mr mv))],Ag⟩) (Xi (fun q=>l.length-q.1) (Yi (Xi ⟨0,AB _⟩ ?_) ?_))))
 .exact⟨Z6,Z2,Fh,Tv⟩
 intro⟨j,j1⟩;refine Yi (fun h3=>?_) (fun h3=>?_)
 .have h3:(j:Int)<((l.map Aq).length:Int):=h3;have n3:=FJ h3;have hA:=lU l mv j;refine Xi (Aq l[j]) (Yi (Lv n3) (Yi rfl (yN (yN (Yi (fun a ha=>?_) (fun Ok=>?_))))))
  .have ea:=((RC mv).1 ha).2;have h4:Hu mv l[j].path=true:=((RC mv).1 ha).1;subst ea;refine Yi (Ii j ch) ?_;have ew:=AbX (mv:=mv) n3 h4;refine Xi ⟨j+1,n3⟩ ?_;exact⟨Dl l.length j ch,⟨Zr,Zr,⟨(show AV.msl 8 ((SF l mv j)).length=.msl 8 (SF l mv (j+1)).length by rw[ew]),rfl⟩,Zr,Zr,Zr,Tv⟩,⟨⟨(show HO.arr 4 ((SF l mv j).map Aq)=.arr 4 ((SF l mv (j+1)).map Aq) by rw[ew]),rfl⟩,Zr,Tv⟩,Fh,Tv⟩
  have h4:Hu mv l[j].path=false:=by rw[AM];exact fun e=>Ok _ ((RC mv).2 ⟨e,rfl⟩)
  refine yN ?_;have b6:Cr 4 [(Aq l[j])]/\((SF l mv j).map Aq).length=((SF l mv j)).length/\(((SF l mv j).map Aq).length+([(Aq l[j])]:List (List AV)).length)*40<=140737488355328/\((SF l mv j).map Aq).length+([(Aq l[j])]:List (List AV)).length<=9223372036854775807:=⟨⟨rfl,trivial⟩,(by first|(simp;done)|(rw[Lm];assumption)),(by simp only[Lm,Al,Au];omega),(by simp only[Lm,Al,Au];omega)⟩
  refine Yi b6 (Yi (Ii j ch) ?_);have ew:=AbY (mv:=mv) n3 h4;refine Xi ⟨j+1,n3⟩ ?_;exact⟨Dl l.length j ch,⟨Zr,Zr,⟨(show AV.msl 8 (((SF l mv j).map Aq).length+([(Aq l[j])]:List (List AV)).length)=.msl 8 (SF l mv (j+1)).length by rw[ew];simp),rfl⟩,Zr,Zr,Zr,Tv⟩,⟨⟨(show HO.arr 4 (((SF l mv j).map Aq)++[(Aq l[j])])=.arr 4 ((SF l mv (j+1)).map Aq) by rw[ew,At];rfl),rfl⟩,Zr,Tv⟩,Fh,Tv⟩
 have h3:¬((j:Int)<((l.map Aq).length:Int)):=h3;have n3:=DP h3;have ej:j=l.length:=by have q:=DP h3;omega
 have eb:SF l mv j=Oj l m mv 0:=by rw[ej,Oj,List.take_zero,List.filter_nil,BQ]
 refine Xi {q:Nat // q<=m.length} (Xi (fun q=>⟨[(5,.mref 13),(8,.msl 8 ((Oj l m mv q.1)).length),(45,sl Aq m),(46,vi (m.map Aq).length),(47,vi q.1)],[(8,.arr 4 ((Oj l m mv q.1).map Aq)),(13,.map Cu (mr mv))],Ag⟩) (Xi (fun q=>m.length-q.1) (Yi (Xi ⟨0,AB _⟩ ?_) ?_)))
 .exact⟨⟨Zr,⟨(show AV.msl 8 (SF l mv j).length=.msl 8 (Oj l m mv 0).length by rw[eb]),rfl⟩,Zr,Zr,Zr,Tv⟩,⟨⟨(show HO.arr 4 ((SF l mv j).map Aq)=.arr 4 ((Oj l m mv 0).map Aq) by rw[eb]),rfl⟩,Zr,Tv⟩,Fh,Tv⟩
 intro⟨k,k1⟩;have k1:k<=m.length:=k1;refine Yi (fun h8=>?_) (fun h8=>?_)
 .have h8:(k:Int)<((m.map Aq).length:Int):=h8;have n8:=FJ h8;have hB:=lV l m mv k;refine Xi (Aq m[k]) (Yi (Lv n8) (Yi rfl (yN (yN (Yi (fun a ha=>?_) (fun Ok=>?_))))))
  .have ea:=((RC mv).1 ha).2;have h9:Hu mv m[k].path=true:=((RC mv).1 ha).1;subst ea;refine yN ?_;have Xo:Cr 4 [(Aq m[k])]/\((Oj l m mv k).map Aq).length=((Oj l m mv k)).length/\(((Oj l m mv k).map Aq).length+([(Aq m[k])]:List (List AV)).length)*40<=140737488355328/\((Oj l m mv k).map Aq).length+([(Aq m[k])]:List (List AV)).length<=9223372036854775807:=⟨⟨rfl,trivial⟩,(by first|(simp;done)|(rw[Lm];assumption)),(by simp only[Lm,Al,Au];omega),(by simp only[Lm,Al,Au];omega)⟩
   refine Yi Xo (Yi (Ii k ch) ?_);have ew:=Ac0 (mv:=mv) (l:=l) n8 h9;refine Xi ⟨k+1,n8⟩ ?_;exact⟨Dl m.length k ch,⟨Zr,⟨(show AV.msl 8 (((Oj l m mv k).map Aq).length+([(Aq m[k])]:List (List AV)).length)=.msl 8 (Oj l m mv (k+1)).length by rw[ew];simp),rfl⟩,Zr,Zr,Zr,Tv⟩,⟨⟨(show HO.arr 4 (((Oj l m mv k).map Aq)++[(Aq m[k])])=.arr 4 ((Oj l m mv (k+1)).map Aq) by rw[ew,At];rfl),rfl⟩,Zr,Tv⟩,Fh,Tv⟩
  have h9:Hu mv m[k].path=false:=by rw[AM];exact fun e=>Ok _ ((RC mv).2 ⟨e,rfl⟩)
  refine Yi (Ii k ch) ?_;have ew:=AbZ (mv:=mv) (l:=l) n8 h9;refine Xi ⟨k+1,n8⟩ ?_;exact⟨Dl m.length k ch,⟨Zr,⟨(show AV.msl 8 ((Oj l m mv k)).length=.msl 8 (Oj l m mv (k+1)).length by rw[ew]),rfl⟩,Zr,Zr,Zr,Tv⟩,⟨⟨(show HO.arr 4 ((Oj l m mv k).map Aq)=.arr 4 ((Oj l m mv (k+1)).map Aq) by rw[ew]),rfl⟩,Zr,Tv⟩,Fh,Tv⟩
 have h8:¬((k:Int)<((m.map Aq).length:Int)):=h8;have n8:=DP h8;have ek:k=m.length:=by have q:=DP h8;omega
 have hs:=Aav zR 134 Tryz.closure134 (enters_of Tryz.func134 Wk rfl) (Tx l m mv) hbt (Uv hl.inc SN.inc mv);rw[show Tx l m mv=(Oj l m mv k)from by rw[ek,YI]]at hs;refine Xi (.gen [(8,1000)] 0) (Yi rfl (A9.to2 hs ?_));refine Yi (show((Oj l m mv k)).length=((DZ ((Oj l m mv k))).map Aq).length by rw[Lm,(KP _).length_eq]) ?_;refine cU [(8,sl Aq (DZ ((Oj l m mv k))))] [] Z1 Tv ?_
 exact CX.of_eq (show sl Aq (DZ ((Oj l m mv k)))=sl Aq (DZ (Tx l m mv)) by rw[ek,YI])
end Go.Eng
namespace Go.Eng
open Go.Proofs
variable {i k:Nat}(x:List Rl)(ifs:List (List AV))(l m:List Sl)(p mv:List ByteArray)(Bn:List (List ByteArray))
theorem sQ(l m:List (ByteArray))(hl:B8 l):PC 100 [sl AF l,sl AF m] (vb (decide (l=m))):=by
 refine Ps Ej Tryz.func100 rfl (Nz rfl) (Yi ?_ ?_)
 .intro h
  have:l≠m:=fun e=>h (by rw[e])
  rw[Ae this];exact .refl _
 .intro h;have CH:l.length=m.length:=by simp at h;omega
  refine Xi {i:Nat // i<=l.length/\l.take i=m.take i} (Xi (fun i=>⟨[(0,sl AF l),(1,sl AF m),(12,vi (l.map AF).length),(13,vi i.1)],[],Ag⟩) (Xi (fun i=>l.length-i.1) (Yi (Xi ⟨0,by simp⟩ ?_) ?_)))
  .exact⟨Z4,Tv,Fh,Tv⟩
  .intro⟨i,h1,h2⟩;refine Yi ?_ ?_
   .intro h;have h:i<l.length:=by simpa using h
    have h' : i<m.length:=by omega
    have hg:l[i]?=some l[i]:=Ge h;have TS:m[i]?=some m[i]:=Ge h';refine Xi (AF l[i]) (Yi (Yi (Nn i) (by simp[hg])) (Yi rfl ?_));refine Xi (AF m[i]) (Yi (Yi (Nn i) (by simp[TS])) (Yi rfl ?_));refine Yi ?_ ?_
    .intro h5;refine Yi Wk ?_
     have:l≠m:=fun e=>h5 (by subst e;rfl)
     rw[Ae this];exact .refl _
    .intro h5;have e:l[i]=m[i]:=BT.1 h5;refine Yi Wk (Yi (by show Bc ((i:Int)+1);unfold B8 at hl;unfold Bc;omega) (Xi ⟨i+1,by omega,?_⟩ ?_))
     .rw[Bh,Bh,h2,hg,TS,e]
     .exact⟨Dl l.length i ch,Z4,Tv,Fh,Tv⟩
   .intro h;have h:¬i<l.length:=by simpa using h
    have e:l=m:=by
     rw[<-Av (l:=l) (i:=i) ch,h2,Av ch]
    rw[Ak e];exact .refl _
def wIx(l:List ByteArray)(p:ByteArray):Int:=FS (fun q=>decide (q=p)) l 0
theorem wH{l:List ByteArray}{p:ByteArray}:(∀q∈l,q≠p)->∀k:Int,FS (fun q=>decide (q=p)) l k=-1:=by
 induction l with
 |nil=>intro _ _;rfl
 |cons a l ih=>intro h k;rw[FS,Aj (by rw[decide_eq_true_iff];exact h a (Ab ..))];exact ih (fun q hq=>h q (Ah _ hq)) _
theorem AaP(l:List ByteArray)(p:ByteArray)(hl:B8 l):PC 132 [sl AF l,vs p] (vi (wIx l p)):=by
 refine Ps Ej Tryz.func132 rfl (Nz rfl) (Xi {q:Nat // q<=l.length/\∀j (hj:j<l.length),j<q->l[j]≠p} (Xi (fun q=>⟨[(0,sl AF l),(1,vs p),(7,vi (l.map AF).length),(8,vi q.1)],[],Ag⟩) (Xi (fun q=>l.length-q.1) (Yi (Xi ⟨0,AB _,fun j hj h=>absurd h ch⟩ ?_) ?_))))
 .exact⟨Z4,Tv,Fh,Tv⟩
 intro⟨i,i1,i2⟩;refine Yi (fun h1=>?_) (fun h1=>?_)
 .have h1:(i:Int)<((l.map AF).length:Int):=h1;have n1:=FJ h1;refine Xi (AF l[i]) (Yi (Lv n1) (Yi rfl (Yi (fun h2=>?_) (fun h2=>?_))))
  .exact CX.of_eq (Aa vi (show(i:Int)=wIx l p by rw[wIx,H2 (p:=fun q=>decide (q=p)) (k:=0) n1 (fun j hj h=>Ae (i2 j hj h)) (Ak (h2).symm)];omega))
  refine Yi (Ii i ch) (Xi ⟨i+1,n1,fun j hj h=>by rcases CR j i with hg|hg;exact i2 j hj hg;have e:j=i:=ch;subst e;exact fun e=>h2 e.symm⟩ ?_);exact⟨Dl l.length i ch,Z4,Tv,Fh,Tv⟩
 have n1:=DP h1;exact CX.of_eq (Aa vi (show -1=wIx l p from(wH (fun q hq=>by obtain⟨j,hj,rfl⟩:=Cc.1 hq;exact i2 j hj (BC hj (Bl (DP h1)))) 0).symm))
theorem tN(l:List ByteArray)(p:ByteArray)(hl:B8 l):PC 76 [sl AF l,vs p] (vb (Hu l p)):=by
 refine Ps Ej Tryz.func76 rfl (Nz rfl) (Xi .pure (Xi _ (Yi (AaP l p hl) (Yi (fun h1=>?_) (fun h1=>?_)))))
 .exact CX.of_eq (Aa vb (show true=Hu l p by rw[Hu,<-HW (p:=fun q=>decide (q=p)) l 0 (Bs 0)];exact(Ak h1).symm))
 exact CX.of_eq (Aa vb (show false=Hu l p by rw[Hu,<-HW (p:=fun q=>decide (q=p)) l 0 (Bs 0)];exact(Ae h1).symm))
theorem pA(p:ByteArray)(hl:B8 (J0 l m)):PC 75 [vs p,.cptr [.cptr [.cmap Cu (CP x l),.cmap Cu (CP x m),sl Aq l,sl Aq m,sl AF (J0 l m)]]] (vb (!Hu (J0 l m) p)):=by
 refine Ps Ej Tryz.func75 rfl (Nz rfl) (BX (Bt (Hu (J0 l m) p)) (fun h1=>?_) (fun h1=>?_))
 .refine Xi .pure (Xi _ (Yi (cb h1 (tN (J0 l m) p hl)) ?_));exact CX.of_eq (Aa vb (show false=!Hu (J0 l m) p by rw[h1];rfl))
 refine Xi .pure (Xi _ (Yi (cb h1 (tN (J0 l m) p hl)) ?_));exact CX.of_eq (Aa vb (show true=!Hu (J0 l m) p by rw[h1];rfl))
def PW:Int:=if Sq x l m=0 then if mv.any (fun p=>!Hu (J0 l m) p)=true then 6 else 0 else Sq x l m
def Uw:AV:=if PW x l m mv=0 then .tup [sl Aq (DZ (Tx l m mv)),vi 0]else .tup [nzA,vi (PW x l m mv)]
theorem OS{x:List Rl}{l m:List Sl}(h:Sq x l m=0):OL x l=0/\OL x m=0:=by
 unfold Sq at h;split at h
 .rename_i h1;exact⟨NZ h1,NZ h⟩
 .rename_i h1;exact absurd h h1
theorem YJ:(Tx l m mv).length<=l.length+m.length:=by rw[<-YI];exact lV _ _ _ _
theorem gP{x:List Rl}{l m:List Sl}(hl:B8 l)(hm:B8 m)(h:Sq x l m=0):(J0 l m).length<=l.length+m.length:=by
 rw[J0,Lm];exact oT l m (GW (OS h).1 hl) (GW (OS h).2 hm)
theorem wI(hx:∀r∈x,Ey r)(GQ:l.length<=16)(F7:m.length<=16)(d5:B8 mv)(c0:¬Sq x l m=0):PC 35 [.agg (Ic x ifs),sl Aq l,sl Aq m,sl AF mv] (Uw x l m mv):=by
 have hl:B8 l:=AK GQ Cl;have SN:B8 m:=AK F7 Cl;have hq:mv.length<=1073741824:=d5;refine Ps (pC [4,10] []) Tryz.func35 rfl (Nz rfl) (yN (Xi .pure (Xi _ (Yi (by have q:=pN x ifs l m hx hl SN GQ F7;rw[fI,Aj c0]at q;exact q) ?_))));refine yN (Yi (fun h1=>?_) (fun h1=>?_))
 .exact CX.of_eq (show AV.tup [nzA,vi (Sq x l m)]=Uw x l m mv by rw[Uw,PW,Aj c0,Aj c0])
 have h1:((Sq x l m):Int)=(0:Int):=AH h1;exact absurd h1 c0
theorem wJ(hx:∀r∈x,Ey r)(GQ:l.length<=16)(F7:m.length<=16)(d5:B8 mv)(c0:Sq x l m=0):PC 35 [.agg (Ic x ifs),sl Aq l,sl Aq m,sl AF mv] (Uw x l m mv):=by
 have hl:B8 l:=AK GQ Cl;have SN:B8 m:=AK F7 Cl;have hq:mv.length<=1073741824:=d5;refine Ps (pC [4,10] []) Tryz.func35 rfl (Nz rfl) (yN (Xi .pure (Xi _ (Yi (by have q:=pN x ifs l m hx hl SN GQ F7;rw[fI,Ap c0]at q;exact q) ?_))));refine yN (Yi (fun h=>absurd h Cl) (fun _=>?_));refine BX (Bt (mv.any fun p=>!Hu (J0 l m) p)) (fun h1=>?_) (fun h1=>?_)
 .refine Xi .pure (Xi _ (Yi (cb h1 (z74 (fF:=75) (CU.ptr _) mv (fun p=>!Hu (J0 l m) p) (fun p hp=>pA x l m p (show(J0 l m).length<=1073741824 by have q:=gP hl SN c0;omega)) d5)) ?_));exact CX.of_eq (show AV.tup [nzA,vi 6]=Uw x l m mv by unfold Uw PW;rw[Ap c0,h1];rfl)
 refine Xi .pure (Xi _ (Yi (cb h1 (z74 (fF:=75) (CU.ptr _) mv (fun p=>!Hu (J0 l m) p) (fun p hp=>pA x l m p (show(J0 l m).length<=1073741824 by have q:=gP hl SN c0;omega)) d5)) (Xi .pure (Xi _ (Yi (tK x l m mv (GW (OS c0).1 hl) (GW (OS c0).2 SN) (show(Tx l m mv).length<=1073741824 by have q:=YJ l m mv;omega) d5) ?_)))));exact CX.of_eq (show AV.tup [sl Aq (DZ (Tx l m mv)),vi 0]=Uw x l m mv by unfold Uw PW;rw[Ap c0,h1];rfl)
theorem tH(hx:∀r∈x,Ey r)(GQ:l.length<=16)(F7:m.length<=16)(d5:B8 mv):PC 35 [Iu x ifs,sl Aq l,sl Aq m,sl AF mv] (Uw x l m mv):=by
 by_cases h:Sq x l m=0
 .exact wJ x ifs l m mv hx GQ F7 d5 h
 .exact wI x ifs l m mv hx GQ F7 d5 h
theorem pF(a b:ByteArray):PC 159 [vs a,vs b] (vb (Ed a b)):=by
 refine Ps Ej Tryz.func159 rfl (Nz rfl) (Xi .pure (Xi _ (Yi (uA a) (Yi (fun h1=>?_) (fun h1=>?_)))))
 .have h1:Ed a b=true:=(Gs _ _).trans h1;exact CX.of_eq (Aa vb h1.symm)
 have h1:Ed a b=false:=(Gs _ _).trans (AM.2 h1);exact CX.of_eq (Aa vb h1.symm)
def Hk:List ByteArray->Bool
 |a::b::r=>!Ed b a&&Hk (b::r)
 |_=>true
theorem fD(l:List ByteArray):Hk (l.drop (l.length-1))=true:=by
 cases h:l.drop (l.length-1)with
 |nil=>rfl
 |cons a r=>
  have q:=Aa List.length h;rw[Di,Al]at q;have e:r=[]:=EP.1 ch;subst e;rfl
theorem NQ{l:List ByteArray}(h:i+1<l.length):Hk (l.drop i)=(!Ed l[i+1] l[i]&&Hk (l.drop (i+1))):=by
 rw[AI (show i<l.length by omega),AI h];rfl
theorem Wc{l:List ByteArray}:∀{i:Nat},Hk (l.drop i)=false->Hk l=false
 |0,h=>h
 |i+1,h=>by
  refine Wc (i:=i) ?_
  by_cases hi:i+1<l.length
  .rw[NQ hi,h,Cp]
  .rw[CA ch]at h;cases h
theorem cW(l:List ByteArray)(hl:B8 l):PC 98 [sl AF l] (vb (Hk l)):=by
 have hl:l.length<=1073741824:=hl;have hml:(l.map AF).length=l.length:=Lm ..;refine Ps Ej Tryz.func98 rfl (Nz rfl) (Yi (by show Bc (((l.map AF).length:Int)-(1:Int));unfold Bc;omega) ?_);refine Xi {q:Nat // q<=l.length/\Hk (l.drop (q-1))=true} (Xi (fun q=>⟨[(0,sl AF l),(3,vi ((q.1:Int)-1))],[],Ag⟩) (Xi (fun q=>q.1) (Yi (Xi ⟨l.length,Am _,fD l⟩ ?_) ?_)))
 .exact⟨⟨Zr,⟨(Aa vi (show(((l.map AF).length:Nat):Int)-1=(l.length:Int)-1 by rw[Lm])),rfl⟩,Tv⟩,Tv,Fh,Tv⟩
 intro⟨q_,i1,i2⟩;have i1:q_<=l.length:=i1;have i2:Hk (l.drop (q_-1))=true:=i2;refine Yi (fun h1=>?_) (fun h1=>?_)
 .have h1:(0:Int)<((q_:Int)-1:Int):=h1;refine Xi (AF (l[q_-1]' ch)) (Yi (Yi (show(0:Int)<=(q_:Int)-1 by omega) (by rw[show((q_:Int)-1:Int).toNat=q_-1 by omega];exact Ek (Ge ch))) (Yi rfl ?_));refine Yi (by show Bc (((q_:Int)-1:Int)-(1:Int));unfold Bc;omega) ?_;refine Xi (AF (l[q_-2]' ch)) (Yi (Yi (show(0:Int)<=((q_:Int)-1)-1 by omega) (by rw[show(((q_:Int)-1)-1:Int).toNat=q_-2 by omega];exact Ek (Ge ch))) (Yi rfl ?_));refine BX (Bt (Ed (l[q_-1]' ch) (l[q_-2]' ch))) (fun h2=>?_) (fun h2=>?_)
  .have h2:(Ed (l[q_-1]' ch) (l[q_-2]' ch))=true:=h2;refine Xi _ (Yi (cb h2 (pF (l[q_-1]' ch) (l[q_-2]' ch))) (Yi Wk ?_));exact CX.of_eq (Aa vb (show false=Hk l from(Wc (i:=q_-2) (by rw[NQ (l:=l) (i:=q_-2) ch];simp only[show q_-2+1=q_-1 by omega,h2];rfl)).symm))
  have h2:(Ed (l[q_-1]' ch) (l[q_-2]' ch))=false:=h2;refine Xi _ (Yi (cb h2 (pF (l[q_-1]' ch) (l[q_-2]' ch))) (Yi Wk (Yi (by show Bc (((q_:Int)-1:Int)-(1:Int));unfold Bc;omega) ?_)));refine Xi ⟨q_-1,by omega,by rw[show q_-1-1=q_-2 by omega,NQ (l:=l) (i:=q_-2) ch];simp only[show q_-2+1=q_-1 by omega,i2,h2];rfl⟩ ?_;exact⟨by show(q_-1:Nat)<q_;omega,⟨Zr,⟨(Aa vi (show(q_:Int)-1-1=((q_-1:Nat):Int)-1 by omega)),rfl⟩,Tv⟩,Tv,Fh,Tv⟩
 have h1:¬((0:Int)<((q_:Int)-1:Int)):=h1;exact CX.of_eq (Aa vb (show true=Hk l by rw[show q_-1=0 by omega]at i2;exact i2.symm))
abbrev CN:List AV:=[sl AF p]
def MN:List ByteArray:=((p.map K8).mergeSort fun a b=>decide (a<=b)).map SG
theorem Kr:(MN p).Perm p/\((MN p).map K8).Pairwise fun a b=>a<=b:=by
 have e:∀q:ByteArray,SG (K8 q)=q:=fun q=>by cases q;simp
 have e2:∀q:List UInt8,K8 (SG q)=q:=fun q=>by simp
 refine⟨?_,?_⟩
 .have h:=(Oq (p.map K8) fun a b=>decide (a<=b)).map SG
  rwa [Bq,show(SG ∘ K8)=id from funext e,Gj]at h
 .rw[MN,Bq,show(K8 ∘ SG)=id from funext e2,Gj];have h:=K6 (le:=fun a b:List UInt8=>decide (a<=b)) (fun a b c h1 h2=>Ak (List.le_trans (AP h1) (AP h2))) (fun a b=>by rcases List.le_total a b with h|h<;>simp[h]) (p.map K8)
  exact h.imp fun h=>AP h
def gZ:Bool:=!p.isEmpty&&Hk p
def wvI(i:Nat):Bool:=decide (Fo x (DZ (Tx l m (Bn.take (i+1)).flatten))=0)
def fN:Bool:=(List.range Bn.length).all (wvI x l m Bn)
def HH:Int:=
 if Sq x l m=0 then if Bn.all gZ=true then if MN Bn.flatten=J0 l m then if fN x l m Bn=true then 0 else 17 else 1 else 1 else Sq x l m
theorem Ib{Bn:List (List ByteArray)}(h:i<Bn.length):(Bn.take (i+1)).flatten=(Bn.take i).flatten++Bn[i]:=by
 rw[BN h,Cm];simp
theorem TO{Bn:List (List ByteArray)}{B:Nat}(h:∀p∈Bn,p.length<=B):∀i,(Bn.take i).flatten.length<=i*B
 |0=>by simp
 |i+1=>by
  rw[Ec]
  by_cases hi:i<Bn.length
  .rw[Ib hi,Ac];exact Nat.add_le_add (TO h i) (h _ (Ao hi))
  .have e:Bn.take (i+1)=Bn.take i:=by rw[Av (l:=Bn) (i:=i+1) ch,Av (l:=Bn) (i:=i) ch]
   rw[e];exact AK (TO h i) (Nat.le_add_right _ _)
theorem ox{Bn:List (List ByteArray)}(h:i<Bn.length)(k:gZ Bn[i]=false):¬Bn.all gZ=true:=fun e=>by
 have q:=A1.1 e _ (Ao h);rw[k]at q;cases q
theorem wd{Bn:List (List ByteArray)}(h:∀j (hj:j<Bn.length),j<i->gZ Bn[j]=true)(hi:Bn.length<=i):Bn.all gZ=true:=by
 rw[A1];intro p hp;obtain⟨j,hj,rfl⟩:=Cc.1 hp;exact h j hj ch
theorem qN{Bn:List (List ByteArray)}(DJ:Bn≠[])(h:Bn.all gZ=true):Bn.flatten≠[]:=fun e=>by
 cases Bn with
 |nil=>exact DJ rfl
 |cons p r=>
  have q:=A1.1 h p (Ab ..);rw[BE]at e;rw[(List.append_eq_nil_iff.1 e).1]at q;cases q
theorem xc{x:List Rl}{l m:List Sl}{Bn:List (List ByteArray)}(h:k<Bn.length)(e:wvI x l m Bn k=false):¬fN x l m Bn=true:=fun c=>by
 have q:=A1.1 c k (Gx.2 h);rw[e]at q;cases q
theorem xb{x:List Rl}{l m:List Sl}{Bn:List (List ByteArray)}(h:∀j,j<k->wvI x l m Bn j=true)(hk:Bn.length<=k):fN x l m Bn=true:=
 A1.2 fun j hj=>h j (by have:=Gx.1 hj;omega)
theorem wO(hx:∀r∈x,Ey r)(GQ:l.length<=16)(F7:m.length<=16)(_hpl:Bn.length<=100000)(_hpe:∀p∈Bn,p.length<=100000)(c0:¬Sq x l m=0):PC 58 [.agg (Ic x ifs),sl Aq l,sl Aq m,sl CN Bn] (vi (HH x l m Bn)):=by
 have hl:B8 l:=AK GQ Cl;have SN:B8 m:=AK F7 Cl;refine Ps (pC [4] []) Tryz.func58 rfl (Nz rfl) (yN (Xi .pure (Xi _ (Yi (by have q:=pN x ifs l m hx hl SN GQ F7;rw[fI,Aj c0]at q;exact q) ?_))));refine Yi (fun h1=>?_) (fun h1=>?_)
 .exact CX.of_eq (Aa vi (show(Sq x l m)=HH x l m Bn by rw[HH,Aj c0]))
 have h1:((Sq x l m):Int)=(0:Int):=AH h1;exact absurd h1 c0
theorem wP(hx:∀r∈x,Ey r)(GQ:l.length<=16)(F7:m.length<=16)(ra:Bn.length<=1000)(RM:∀p∈Bn,p.length<=100000)(TR:∀i,(Bn.take i).flatten.length<=1073741824)(DJ:Bn≠[])(c0:Sq x l m=0):PC 58 [.agg (Ic x ifs),sl Aq l,sl Aq m,sl CN Bn] (vi (HH x l m Bn)):=by
 have hl:B8 l:=AK GQ Cl;have SN:B8 m:=AK F7 Cl;have Zd:B8 Bn.flatten:=by have q:=TR Bn.length;rw[Ce]at q;exact q
 have OF:∀i,B8 (MN (Bn.take i).flatten):=fun i=>by show(MN _).length<=_;rw[(Kr _).1.length_eq];exact TR i
 refine Ps ⟨[4],[(14,1)],[(11,1)],[],[],[],[],[],[],[(200013,11)],[5,11,13,20]⟩ Tryz.func58 rfl (Nz rfl) (yN (Xi .pure (Xi _ (Yi (by have q:=pN x ifs l m hx hl SN GQ F7;rw[fI,Ap c0]at q;exact q) ?_))));refine Yi (fun h=>absurd h Cl) (fun _=>?_);refine cU [(3,sl CN Bn),(4,.ref 4 0),(9,.cptr [.cmap Cu (CP x l),.cmap Cu (CP x m),sl Aq l,sl Aq m,sl AF (J0 l m)]),(11,.msl 11 0)] [(4,.ro (Ic x ifs)),(11,.arr 1 [])] Z4 Z2 (Xi {q:Nat // q<=Bn.length/\∀j (hj:j<Bn.length),j<q->gZ Bn[j]=true} (Xi (fun q=>⟨[(3,sl CN Bn),(4,.ref 4 0),(9,.cptr [.cmap Cu (CP x l),.cmap Cu (CP x m),sl Aq l,sl Aq m,sl AF (J0 l m)]),(11,.msl 11 ((Bn.take q.1).flatten).length),(27,sl CN Bn),(28,vi (Bn.map CN).length),(29,vi q.1)],[(4,.ro (Ic x ifs)),(11,.arr 1 (((Bn.take q.1).flatten).map AF))],Ag⟩) (Xi (fun q=>Bn.length-q.1) (Yi (Xi ⟨0,AB _,fun j hj h=>absurd h ch⟩ ?_) ?_))))
 .exact⟨Z7,Z2,Fh,Tv⟩
 intro⟨i,i1,i2⟩;refine Yi (fun h1=>?_) (fun h1=>?_)
 .have h1:(i:Int)<((Bn.map CN).length:Int):=h1;have n1:=FJ h1;have AhH:(Bn.take i).flatten.length<=1073741824:=TR i;have hpi:=RM _ (Ao n1);refine Xi (CN Bn[i]) (Yi (Lv n1) (Yi rfl (Yi (fun h2=>?_) (fun h2=>?_))))
  .exact CX.of_eq (Aa vi (show 1=HH x l m Bn by rw[HH,Ap c0,Aj (ox n1 (by rw[gZ,EP.1 (show Bn[i].length=0 by have q:=h2;rw[Lm]at q;omega)];rfl))]))
  refine BX (Bt (Hk Bn[i])) (fun h4=>?_) (fun h4=>?_)
  .refine Xi .pure (Xi _ (Yi (cb h4 (cW Bn[i] (AK (RM _ (Ao n1)) Cl))) ?_));have b5:Cr 1 (Bn[i].map AF)/\(((Bn.take i).flatten).map AF).length=((Bn.take i).flatten).length/\((((Bn.take i).flatten).map AF).length+(Bn[i].map AF).length)*16<=140737488355328/\(((Bn.take i).flatten).map AF).length+(Bn[i].map AF).length<=9223372036854775807:=⟨(D5 (enc:=AF) (n:=1) (fun _=>rfl) Bn[i]),(by rw[Lm]),(by simp only[Lm];omega),(by simp only[Lm];omega)⟩;refine Yi b5 (cU [(3,sl CN Bn),(4,.ref 4 0),(9,.cptr [.cmap Cu (CP x l),.cmap Cu (CP x m),sl Aq l,sl Aq m,sl AF (J0 l m)]),(11,.msl 11 ((((Bn.take i).flatten).map AF).length+(Bn[i].map AF).length)),(27,sl CN Bn),(28,vi (Bn.map CN).length),(29,vi i)] [(4,.ro (Ic x ifs)),(11,.arr 1 ((((Bn.take i).flatten).map AF)++(Bn[i].map AF)))] Z7 Z2 (Yi (Ii i ch) ?_));have G1:gZ Bn[i]=true:=by rw[gZ,h4,Bool.and_true];cases e:Bn[i]with|nil=>exact absurd (by rw[e];rfl) h2|cons a r=>rfl
   have ew:(((Bn.take i).flatten).map AF++(Bn[i]).map AF)=((Bn.take (i+1)).flatten).map AF:=by rw[Ib n1,At]
   refine Xi ⟨i+1,n1,fun j hj h=>by rcases CR j i with hg|hg;exact i2 j hj hg;have e:j=i:=ch;subst e;exact G1⟩ ?_;exact⟨Dl Bn.length i ch,⟨Zr,Zr,Zr,⟨(show AV.msl 11 ((((Bn.take i).flatten).map AF).length+(Bn[i].map AF).length)=.msl 11 ((Bn.take (i+1)).flatten).length by rw[Ib n1,Ac,Lm,Lm]),rfl⟩,Zr,Zr,Zr,Tv⟩,⟨Zr,⟨(show HO.arr 1 ((((Bn.take i).flatten).map AF)++(Bn[i].map AF))=.arr 1 (((Bn.take (i+1)).flatten).map AF)from Aa (HO.arr 1) ew),rfl⟩,Tv⟩,Fh,Tv⟩
  refine Xi .pure (Xi _ (Yi (cb h4 (cW Bn[i] (AK (RM _ (Ao n1)) Cl))) ?_));exact CX.of_eq (Aa vi (show 1=HH x l m Bn by rw[HH,Ap c0,Aj (ox n1 (by rw[gZ,h4,Cp]))]))
 have h1:¬((i:Int)<((Bn.map CN).length:Int)):=h1;have n1:=DP h1;have GJ:Bn.all gZ=true:=wd i2 (Bl (DP h1));have ef:(Bn.take i).flatten=Bn.flatten:=by rw[Av (Bl (DP h1))]
 have hs:=zX Bn.flatten (MN Bn.flatten) Zd (qN DJ GJ) (Kr _).1 (Kr _).2;rw[<-ef]at hs;refine Xi (.gen [(11,1000)] 0) (Yi rfl (A9.to2 hs ?_));refine Yi (show((Bn.take i).flatten).length=((MN ((Bn.take i).flatten)).map AF).length by rw[Lm,(Kr _).1.length_eq]) ?_;refine cU [(3,sl CN Bn),(4,.ref 4 0),(9,.cptr [.cmap Cu (CP x l),.cmap Cu (CP x m),sl Aq l,sl Aq m,sl AF (J0 l m)]),(11,sl AF (MN ((Bn.take i).flatten)))] [(4,.ro (Ic x ifs))] Z4 Z1 (BX (Bt (decide (MN ((Bn.take i).flatten)=J0 l m))) (fun h8=>?_) (fun h8=>?_))
 .have h8:(decide (MN ((Bn.take i).flatten)=J0 l m))=true:=h8;have heq:MN Bn.flatten=J0 l m:=by rw[<-ef];exact AP h8
  refine Xi .pure (Xi _ (Yi (cb h8 (sQ (MN ((Bn.take i).flatten)) (J0 l m) (OF i))) (Xi {q:Nat // q<=Bn.length/\∀j,j<q->wvI x l m Bn j=true} (Xi (fun q=>⟨[(4,.ref 4 0),(9,.cptr [.cmap Cu (CP x l),.cmap Cu (CP x m),sl Aq l,sl Aq m,sl AF (J0 l m)]),(14,.slice (.id 14 1) (((Bn.take q.1).flatten).map AF)),(54,sl CN Bn),(55,vi (Bn.map CN).length),(56,vi q.1)],[(4,.ro (Ic x ifs)),(14,.tok 1 (((Bn.take q.1).flatten).map AF).length)],Ag⟩) (Xi (fun q=>Bn.length-q.1) (Yi (Xi ⟨0,AB _,fun j h=>absurd h ch⟩ ?_) ?_))))))
  .exact⟨Z6,Z2,Fh,Tv⟩
  intro⟨k,k1,k2⟩;have k1:k<=Bn.length:=k1;have k2:∀j,j<k->wvI x l m Bn j=true:=k2;refine Yi (fun h9=>?_) (fun h9=>?_)
  .have h9:(k:Int)<((Bn.map CN).length:Int):=h9;have n9:=FJ h9;have hfk:B8 (Bn.take (k+1)).flatten:=TR _;have AhI:(Bn.take k).flatten.length<=1073741824:=TR k;have WL:=RM _ (Ao n9);refine Xi (CN Bn[k]) (Yi (Lv n9) (Yi rfl ?_));have Xo:Cr 1 (Bn[k].map AF)/\(((Bn.take k).flatten).map AF).length=(((Bn.take k).flatten).map AF).length/\((((Bn.take k).flatten).map AF).length+(Bn[k].map AF).length)*16<=140737488355328/\(((Bn.take k).flatten).map AF).length+(Bn[k].map AF).length<=9223372036854775807:=⟨(D5 (enc:=AF) (n:=1) (fun _=>rfl) Bn[k]),rfl,(by simp only[Lm];omega),(by simp only[Lm];omega)⟩;refine Yi Xo ?_;have ew:(((Bn.take k).flatten).map AF++(Bn[k]).map AF)=((Bn.take (k+1)).flatten).map AF:=by rw[Ib n9,At]
   refine cU [(4,.ref 4 0),(9,.cptr [.cmap Cu (CP x l),.cmap Cu (CP x m),sl Aq l,sl Aq m,sl AF (J0 l m)]),(14,.slice (.id 14 1) (((Bn.take (k+1)).flatten).map AF)),(54,sl CN Bn),(55,vi (Bn.map CN).length),(56,vi k)] [(4,.ro (Ic x ifs)),(14,.tok 1 (((Bn.take (k+1)).flatten).map AF).length)] ⟨Zr,Zr,⟨(Aa (AV.slice (.id 14 1)) ew),rfl⟩,Zr,Zr,Zr,Tv⟩ ⟨Zr,⟨(show HO.tok 1 ((((Bn.take k).flatten).map AF).length+(Bn[k].map AF).length)=.tok 1 (((Bn.take (k+1)).flatten).map AF).length from Aa (HO.tok 1) (Ac.symm.trans (Aa List.length ew))),rfl⟩,Tv⟩ (yN (Xi _ (Yi (tK x l m ((Bn.take (k+1)).flatten) (GW (OS c0).1 hl) (GW (OS c0).2 SN) (show(Tx l m ((Bn.take (k+1)).flatten)).length<=1073741824 by have q:=YJ l m ((Bn.take (k+1)).flatten);omega) hfk) ?_)));refine Xi _ (Yi (wK x ifs (DZ (Tx l m ((Bn.take (k+1)).flatten))) hx (show(DZ (Tx l m ((Bn.take (k+1)).flatten))).length<=1073741824 by rw[(KP _).length_eq];have q:=YJ l m ((Bn.take (k+1)).flatten);omega)) ?_);refine Yi (fun Kz=>?_) (fun Kz=>?_)
   .have Kz:((Fo x (DZ (Tx l m ((Bn.take (k+1)).flatten)))):Int)≠(0:Int):=Kz;refine Yi Wk ?_;exact CX.of_eq (Aa vi (show 17=HH x l m Bn by rw[HH,Ap c0,Ap GJ,Ap heq,Aj (xc n9 (Ae Kz))]))
   have Kz:((Fo x (DZ (Tx l m ((Bn.take (k+1)).flatten)))):Int)=(0:Int):=AH Kz;refine Yi Wk (Yi (Ii k ch) (Xi ⟨k+1,n9,fun j h=>by rcases CR j k with hg|hg;exact k2 j hg;have e:j=k:=ch;subst e;exact Ak Kz⟩ ?_));exact⟨Dl Bn.length k ch,Z6,Z2,Fh,Tv⟩
  have h9:¬((k:Int)<((Bn.map CN).length:Int)):=h9;have n9:=DP h9;exact CX.of_eq (Aa vi (show 0=HH x l m Bn by rw[HH,Ap c0,Ap GJ,Ap heq,Ap (xb k2 (Bl (DP h9)))]))
 have h8:(decide (MN ((Bn.take i).flatten)=J0 l m))=false:=h8;refine Xi .pure (Xi _ (Yi (cb h8 (sQ (MN ((Bn.take i).flatten)) (J0 l m) (OF i))) ?_));exact CX.of_eq (Aa vi (show 1=HH x l m Bn by rw[HH,Ap c0,Ap GJ,Aj (by rw[<-ef];exact QT h8)]))
theorem pe:MN []=[]:=EP.1 (by rw[(Kr _).1.length_eq];rfl)
theorem fZ{x:List Rl}{l m:List Sl}(c0:Sq x l m=0):HH x l m []=if([]:List ByteArray)=J0 l m then 0 else 1:=by
 rw[HH,Ap c0,Ap (show([]:List (List ByteArray)).all gZ=true from rfl),show([]:List (List ByteArray)).flatten=[]from rfl,pe,Ap (show fN x l m []=true from rfl)]
theorem wQ(hx:∀r∈x,Ey r)(GQ:l.length<=16)(F7:m.length<=16)(lim:Int)(hb:PC 161 [.v (.int .u64 (IntKind.u64.wrap (0:Int)))] (vi lim))(c0:Sq x l m=0):PC 58 [.agg (Ic x ifs),sl Aq l,sl Aq m,sl CN ([]:List (List ByteArray))] (vi (HH x l m [])):=by
 have hl:B8 l:=AK GQ Cl;have SN:B8 m:=AK F7 Cl;refine Ps (pC [4] []) Tryz.func58 rfl (Nz rfl) (yN (Xi .pure (Xi _ (Yi (by have q:=pN x ifs l m hx hl SN GQ F7;rw[fI,Ap c0]at q;exact q) ?_))));refine Yi (fun h=>absurd h Cl) (fun _=>?_);refine Xi {q:Nat // q=0} (Xi (fun q=>⟨[(3,sl CN ([]:List (List ByteArray))),(4,.ref 4 0),(9,.cptr [.cmap Cu (CP x l),.cmap Cu (CP x m),sl Aq l,sl Aq m,sl AF (J0 l m)]),(11,nzA),(27,sl CN ([]:List (List ByteArray))),(28,vi (([]:List (List ByteArray)).map CN).length),(29,vi q.1)],[(4,.ro (Ic x ifs))],Ag⟩) (Xi (fun q=>q.1) (Yi (Xi ⟨0,rfl⟩ ?_) ?_)))
 .exact⟨Z7,Z1,Fh,Tv⟩
 intro⟨i,i1⟩;have i1:i=0:=i1;refine Yi (fun h1=>?_) (fun h1=>?_)
 .have h1:(i:Int)<((([]:List (List ByteArray)).map CN).length:Int):=h1;have n1:=FJ h1;exact absurd (FJ h1) (Iw _)
 have h1:¬((i:Int)<((([]:List (List ByteArray)).map CN).length:Int)):=h1;have n1:=DP h1;refine Xi .pure (Xi _ (Yi (Ab1 lim hb) (BX (Bt (decide (([]:List ByteArray)=J0 l m))) (fun h2=>?_) (fun h2=>?_))))
 .have h2:(decide (([]:List ByteArray)=J0 l m))=true:=h2;refine Xi .pure (Xi _ (Yi (cb h2 ((sQ ([]:List ByteArray) (J0 l m) Cl).args ⟨.nil,.refl _,trivial⟩)) (Xi {q:Nat // q=0} (Xi (fun q=>⟨[(4,.ref 4 0),(9,.cptr [.cmap Cu (CP x l),.cmap Cu (CP x m),sl Aq l,sl Aq m,sl AF (J0 l m)]),(14,nzA),(54,sl CN ([]:List (List ByteArray))),(55,vi (([]:List (List ByteArray)).map CN).length),(56,vi q.1)],[(4,.ro (Ic x ifs))],Ag⟩) (Xi (fun q=>q.1) (Yi (Xi ⟨0,rfl⟩ ?_) ?_))))))
  .exact⟨Z6,Z1,Fh,Tv⟩
  intro⟨k,k1⟩;have k1:k=0:=k1;refine Yi (fun h3=>?_) (fun h3=>?_)
  .have h3:(k:Int)<((([]:List (List ByteArray)).map CN).length:Int):=h3;have n3:=FJ h3;exact absurd (FJ h3) (Iw _)
  have h3:¬((k:Int)<((([]:List (List ByteArray)).map CN).length:Int)):=h3;have n3:=DP h3;exact CX.of_eq (Aa vi (show 0=HH x l m [] by rw[fZ c0,Ap (AP h2)]))
 have h2:(decide (([]:List ByteArray)=J0 l m))=false:=h2;refine Xi .pure (Xi _ (Yi (cb h2 ((sQ ([]:List ByteArray) (J0 l m) Cl).args ⟨.nil,.refl _,trivial⟩)) ?_));exact CX.of_eq (Aa vi (show 1=HH x l m [] by rw[fZ c0,Aj (QT h2)]))
structure Wv where
 paths:List ByteArray
 stages:List cY
abbrev GY(v:Wv):List AV:=[sl AF v.paths,sl GI v.stages]
structure Ro where
 name:ByteArray
 waves:List Wv
variable (r:Ro)
abbrev Jv:List AV:=[vs r.name,sl GY r.waves]
theorem AaK(hx:∀r∈x,Ey r)(GQ:l.length<=16)(F7:m.length<=16)(ra:Bn.length<=1000)(RM:∀p∈Bn,p.length<=1000):PC 58 [Iu x ifs,sl Aq l,sl Aq m,sl CN Bn] (vi (HH x l m Bn)):=by
 by_cases c0:Sq x l m=0
 .by_cases DJ:Bn=[]
  .subst DJ;obtain⟨lim,_,hb⟩:=lW 0 (AB _);exact wQ x ifs l m hx GQ F7 lim hb c0
  .refine wP x ifs l m Bn hx GQ F7 ra (fun p hp=>AK (RM p hp) Cl) (fun i=>?_) DJ c0;have q:=TO RM Bn.length;have q2:(Bn.take i).flatten.length<=Bn.flatten.length:=by
    conv=>rhs;rw[<-GD i Bn,Cm,Ac]
    omega
   rw[Ce]at q;have q3:=Bf 1000 ra;omega
 .exact wO x ifs l m Bn hx GQ F7 ch (fun p hp=>AK (RM p hp) Cl) c0
theorem cO{α:Type}(f:α->List AV)(l:List α)(n:Nat):((l.map f).take ((n:Nat):Int).toNat).drop (0:Int).toNat=(l.take n).map f:=by
 rw[Cb,Ts];rfl
theorem ZP(n:Nat)(hn:n<=r.waves.length)(hl:B8 r.waves):PC 56 [.agg (Jv r),vi (n:Nat)] (sl CN ((r.waves.take n).map (·.paths))):=by
 have hl:r.waves.length<=1073741824:=hl;have hrn:(r.waves.take n).length<=n:=by rw[Ax];omega
 refine Ps (pT [2] [(5,1)] []) Tryz.func56 rfl (Nz rfl) (Yi (show(0:Int)<=0/\(0:Int)<=(n:Nat)/\((n:Nat):Int)<=((r.waves.map GY).length:Nat) by rw[Lm];omega) (Yi (qK (enc:=GY) (n:=2) (fun _=>rfl) r.waves) (Xi {q:Nat // q<=(r.waves.take n).length} (Xi (fun q=>⟨[(5,.slice (.id 5 1) ((((r.waves.take n).take q.1).map (·.paths)).map CN)),(11,sl GY (r.waves.take n)),(12,vi ((r.waves.take n).map GY).length),(13,vi q.1)],[(5,.tok 1 ((((r.waves.take n).take q.1).map (·.paths)).map CN).length)],Ag⟩) (Xi (fun q=>(r.waves.take n).length-q.1) (Yi (Xi ⟨0,AB _⟩ ?_) ?_))))))
 .exact⟨⟨Zr,⟨(Aa (AV.slice .none) (cO GY r.waves n)),rfl⟩,⟨(Aa (fun z:List (List AV)=>vi (z.length:Nat)) (cO GY r.waves n)),rfl⟩,Zr,Tv⟩,Z1,Fh,Tv⟩
 intro⟨i,i1⟩;have i1:i<=(r.waves.take n).length:=i1;refine Yi (fun h1=>?_) (fun h1=>?_)
 .have h1:(i:Int)<(((r.waves.take n).map GY).length:Int):=h1;have n1:=FJ h1;have hq:((r.waves.take n).take i).length<=1073741824:=by rw[Ax];omega
  refine Xi (GY ((r.waves.take n)[i])) (Yi (Lv n1) (Yi rfl (yN (yN ?_))));have b2:Cr 1 [[sl AF ((r.waves.take n)[i]).paths]]/\((((r.waves.take n).take i).map (·.paths)).map CN).length=((((r.waves.take n).take i).map (·.paths)).map CN).length/\(((((r.waves.take n).take i).map (·.paths)).map CN).length+([[sl AF ((r.waves.take n)[i]).paths]]:List (List AV)).length)*24<=140737488355328/\((((r.waves.take n).take i).map (·.paths)).map CN).length+([[sl AF ((r.waves.take n)[i]).paths]]:List (List AV)).length<=9223372036854775807:=⟨⟨rfl,trivial⟩,rfl,(by simp only[Lm,Al,Au];omega),(by simp only[Lm,Al,Au];omega)⟩;refine Yi b2 (Yi (Ii i ch) ?_);have ew:((((r.waves.take n).take i).map (·.paths)).map CN++[[sl AF ((r.waves.take n)[i]).paths]])=((((r.waves.take n).take (i+1)).map (·.paths)).map CN):=by rw[Ep n1,At,At];rfl
  refine Xi ⟨i+1,n1⟩ ?_;exact⟨by show(r.waves.take n).length-(i+1)<(r.waves.take n).length-i;omega,⟨⟨(Aa (AV.slice (.id 5 1)) ew),rfl⟩,Zr,Zr,Zr,Tv⟩,⟨⟨(show HO.tok 1 (((((r.waves.take n).take i).map (·.paths)).map CN).length+([[sl AF ((r.waves.take n)[i]).paths]]:List (List AV)).length)=.tok 1 ((((r.waves.take n).take (i+1)).map (·.paths)).map CN).length from Aa (HO.tok 1) (Ac.symm.trans (Aa List.length ew))),rfl⟩,Tv⟩,Fh,Tv⟩
 have h1:¬((i:Int)<(((r.waves.take n).map GY).length:Int)):=h1;have n1:=DP h1;exact CX.of_eq (show sl CN (((r.waves.take n).take i).map (·.paths))=sl CN ((r.waves.take n).map (·.paths)) by rw[Av (l:=r.waves.take n) (i:=i) (Bl (DP h1))])
def KQ:List Wv->Int
 | []=>0
 |v::r=>if DT v.stages=0 then KQ r else DT v.stages
def ZY:List (List ByteArray):=r.waves.map (·.paths)
def Pw:Int:=if HH x l m (ZY r)=0 then if 65536<r.name.size then 7 else KQ r.waves else HH x l m (ZY r)
theorem AaA{l:List Wv}(h:i<l.length)(k:DT l[i].stages=0):KQ (l.drop i)=KQ (l.drop (i+1)):=by rw[AI h,KQ,Ap k]
theorem Aaz{l:List Wv}(h:i<l.length)(k:¬DT l[i].stages=0):KQ (l.drop i)=DT l[i].stages:=by rw[AI h,KQ,Aj k]
structure Ui(r:Ro):Prop where
 wv:r.waves.length<=1000
 st:∀v∈r.waves,v.stages.length<=1073741824
 pt:∀v∈r.waves,v.paths.length<=1000
theorem iF(hx:∀r∈x,Ey r)(GQ:l.length<=16)(F7:m.length<=16)(hr:Ui r):PC 23 [.agg (Ic x ifs),sl Aq l,sl Aq m,.agg (Jv r)] (vi (Pw x l m r)):=by
 have hwl:r.waves.length<=1000:=hr.wv;refine Ps (pC [4,7] [4]) Tryz.func23 rfl (Nz rfl) (yN (yN (Xi _ (Yi (by have q:=ZP r r.waves.length (Am _) (AK hr.wv Cl);rw[Ce]at q;exact show PC 56 [.agg (Jv r),vi ((r.waves.map GY).length:Nat)] (sl CN (ZY r)) by rw[Lm];exact q) ?_))));refine Xi _ (Yi (AaK x ifs l m (ZY r) hx GQ F7 (by rw[ZY,Lm];exact hr.wv) (fun p hp=>by obtain⟨v,hv,rfl⟩:=Ai.1 hp;exact hr.pt v hv)) ?_);refine Yi Wk (Yi (fun h1=>?_) (fun h1=>?_))
 .have h1:((HH x l m (ZY r)):Int)≠(0:Int):=h1;exact CX.of_eq (Aa vi (show(HH x l m (ZY r))=Pw x l m r by rw[Pw,Aj h1]))
 have h1:((HH x l m (ZY r)):Int)=(0:Int):=AH h1;refine cU [(7,.ref 7 0)] [(7,.ro (Jv r))] Z1 Z1 (Yi (fun h3=>?_) (fun h3=>?_))
 .have h3:(65536:Int)<(r.name.size:Int):=h3;exact CX.of_eq (Aa vi (show 7=Pw x l m r by rw[Pw,Ap h1,Ap ch]))
 have h3:¬((65536:Int)<(r.name.size:Int)):=h3;refine Xi {q:Nat // q<=r.waves.length/\KQ (r.waves.drop q)=KQ r.waves} (Xi (fun q=>⟨[(30,sl GY r.waves),(31,vi (r.waves.map GY).length),(32,vi q.1)],[],Ag⟩) (Xi (fun q=>r.waves.length-q.1) (Yi (Xi ⟨0,AB _,rfl⟩ ?_) ?_)))
 .exact⟨Z3,Tv,Fh,Tv⟩
 intro⟨i,i1,i2⟩;have i1:i<=r.waves.length:=i1;have i2:KQ (r.waves.drop i)=KQ r.waves:=i2;refine Yi (fun h5=>?_) (fun h5=>?_)
 .have h5:(i:Int)<((r.waves.map GY).length:Int):=h5;have n5:=FJ h5;refine Xi (GY r.waves[i]) (Yi (Lv n5) (Yi rfl (yN (yN (Xi .pure (Xi _ (Yi (Wm r.waves[i].stages (hr.st _ (Ao n5))) (Yi (fun h6=>?_) (fun h6=>?_)))))))))
  .have h6:((DT r.waves[i].stages):Int)≠(0:Int):=h6;exact CX.of_eq (Aa vi (show(DT r.waves[i].stages)=Pw x l m r by rw[Pw,Ap h1,Aj ch,<-i2,Aaz n5 h6]))
  have h6:((DT r.waves[i].stages):Int)=(0:Int):=AH h6;refine Yi (Ii i ch) (Xi ⟨i+1,n5,by rw[<-i2,AaA n5 h6]⟩ ?_);exact⟨Dl r.waves.length i ch,Z3,Tv,Fh,Tv⟩
 have h5:¬((i:Int)<((r.waves.map GY).length:Int)):=h5;have n5:=DP h5;exact CX.of_eq (Aa vi (show 0=Pw x l m r by rw[Pw,Ap h1,Aj ch,<-i2,CA (Bl (DP h5))];rfl))
end Go.Eng
namespace Go.Eng
open Go.Proofs
open Go.RowKit
variable (x:List Rl)(r:Ro)(user:ByteArray)(BR:Int)(i:Nat)
theorem kE:Tryz.prog.globalNamed "internal/strconv.uint64pow10" = some 1:=by decide +kernel
theorem wB {w:World} (h : ∀ x ∈ mK, w.cell? ⟨x.1, x.2.1, none⟩ = x.2.2):Go.Lib.TabIs Tryz.prog w "internal/strconv.uint64pow10" .u64 Go.Lib.pow10Tab:=by
 unfold Go.Lib.TabIs World.var?;rw[kE];simp only[Option.bind_some];have h20:=h (1,20,none) (Ab ..);have hi:∀i,i<20->w.cell? ⟨1,i,none⟩=some (.int .u64 ((10 ^ i:Nat):Int)):=fun i hi=>h (1,i,some (.int .u64 ((10 ^ i:Nat):Int))) (Ah _ (Ai.2 ⟨i,Gx.2 hi,rfl⟩));have h0:=hi 0 Cl;unfold World.cell? at h0 h20 hi;cases e:w.heap[1]? with
 |none=>rw[e]at h0;cases h0
 |some o=>
  cases o with
  |cells cs E fr=>
   simp only[e,PN,Dr,Gz]at h20 hi;have hs:cs.size=20:=by
    have h19:=hi 19 Cl
    have:=(Bv.1 h19).1
    have:=Array.getElem?_eq_none_iff.1 h20
    omega
   show some cs=_
   congr 1
   apply PE
   .simp[hs,Go.Lib.pow10Tab]
   .intro i h1 h2
    have:=hi i ch
    rw[A6 h1]at this;rw[Cj this];simp[Go.Lib.pow10Tab]
  |_=>rw[e]at h0;simp at h0
theorem wZ(n:Int)(h:Bc n):PC 53 [vi n] (vs (nE n)):=by
 unfold Bc at h;refine NK [.int .i64 n] (.string (nE n)) (aN 53 Tryz.func53 Wk rfl) rfl (fun g w=>.v _ _) fun w _ ht=>?_;refine(Any.strconv_Itoa Tryz.layItoa n h.1 ch w (wB ht)).mono ?_
 rintro e w' ⟨rfl,k,os,rfl⟩
 exact⟨rfl,Go.Lib.below_grow _ _ (Am _) _ _⟩
theorem Vj{n:Int}(h0:-9223372036854775808<=n)(h1:n<=9223372036854775807):(nE n).size<=21:=by
 unfold nE;rw[show ∀l:List UInt8,(mkB l).size=l.length from fun l=>by simp[ByteArray.size]];exact Go.Lib.itoa_length_le n h0 h1
def VG(v:Wv):Bool:=decide (LB v.stages BR<=jk ((r.name++⟨#[47]⟩)++nE (i:Int)) user)
def Rn(r:Ro)(user:ByteArray)(BR:Int):Nat->List Wv->Nat
 |i,[]=>i
 |i,v::l=>if VG r user BR i v=true then i else Rn r user BR (i+1) l
def WX:Nat:=Rn r user BR 0 r.waves
theorem yF{r:Ro}{user:ByteArray}{BR:Int}{i:Nat}(h:i<r.waves.length)(k:VG r user BR i r.waves[i]=false):Rn r user BR i (r.waves.drop i)=Rn r user BR (i+1) (r.waves.drop (i+1)):=by
 rw[AI h,Rn,Aj (by rw[k];decide)]
theorem uS{r:Ro}{user:ByteArray}{BR:Int}{i:Nat}(h:i<r.waves.length)(k:VG r user BR i r.waves[i]=true):Rn r user BR i (r.waves.drop i)=i:=by
 rw[AI h,Rn,Ap k]
theorem tO(hi:i<r.waves.length)(hw:r.waves.length<=1000)(K4:B8 r.waves[i].stages)(hn:r.name.size<=10000000)(hu:user.size<=100000000):PC 52 [vi i,.cptr (Jv r),.cptr [vs user],.cptr [vi BR]] (vb (VG r user BR i r.waves[i])):=by
 refine Ps Ej Tryz.func52 rfl (Nz rfl) (Yi (show(((r.name:ByteArray).size+(⟨#[47]⟩:ByteArray).size:Nat):Int)<=9223372036854775807 by have q:=Vj (n:=(i:Int)) ch ch;have q2:(⟨#[47]⟩:ByteArray).size=1:=rfl;omega) ?_);refine Xi _ (Yi (wZ (i:Int) (by unfold Bc;omega)) (Yi (show(((r.name++⟨#[47]⟩:ByteArray).size+((nE (i:Int)):ByteArray).size:Nat):Int)<=9223372036854775807 by have q:=Vj (n:=(i:Int)) ch ch;have q2:(⟨#[47]⟩:ByteArray).size=1:=rfl;simp only[Da];omega) ?_));refine Xi _ (Yi (AaM ((r.name++(⟨#[47]⟩:ByteArray))++nE (i:Int)) user (by have q:=Vj (n:=(i:Int)) ch ch;simp only[Da];have q2:(⟨#[47]⟩:ByteArray).size=1:=rfl;omega) hu) ?_);refine Xi (GY r.waves[i]) (Yi (Lv hi) (Yi rfl (Xi _ (Yi (tQ r.waves[i].stages BR K4) (Yi (fun h1=>?_) (fun h1=>?_))))))
 .have h1:((LB r.waves[i].stages BR):Int)<=((jk ((r.name++(⟨#[47]⟩:ByteArray))++nE (i:Int)) user):Int):=h1;refine Yi Wk ?_;exact CX.of_eq (Aa vb (show true=VG r user BR i r.waves[i]from(Ak h1).symm))
 have h1:¬(((LB r.waves[i].stages BR):Int)<=((jk ((r.name++(⟨#[47]⟩:ByteArray))++nE (i:Int)) user):Int)):=h1;refine Yi Wk ?_;exact CX.of_eq (Aa vb (show false=VG r user BR i r.waves[i]from(Ae h1).symm))
def qe(l m:List Sl)(r:Ro)(user:ByteArray)(BR:Int):AV:=if Pw x l m r=0 then .tup [vi (WX r user BR:Nat),vi 0]else .tup [vi 0,vi (Pw x l m r)]
theorem pO(ifs:List (List AV))(l m:List Sl)(r:Ro)(user:ByteArray)(BR:Int)(hx:∀r∈x,Ey r)(GQ:l.length<=16)(F7:m.length<=16)(hr:Ui r)(hn:r.name.size<=10000000)(hu:user.size<=100000000):PC 19 [.agg (Ic x ifs),sl Aq l,sl Aq m,.agg (Jv r),vs user,vi BR] (qe x l m r user BR):=by
 have hwl:r.waves.length<=1000:=hr.wv;refine Ps (pC [6,9,10,11] [4]) Tryz.func19 rfl (Nz rfl) (yN (yN (Xi .pure (Xi _ (Yi (iF x ifs l m r hx GQ F7 hr) (Yi (fun h1=>?_) (fun h1=>?_)))))))
 .have h1:((Pw x l m r):Int)≠(0:Int):=h1;exact CX.of_eq (show AV.tup [vi 0,vi (Pw x l m r)]=qe x l m r user BR by rw[qe,Aj h1])
 have h1:((Pw x l m r):Int)=(0:Int):=AH h1;refine cU [(9,.ref 9 0),(10,.ref 10 0),(11,.ref 11 0)] [(9,.ro (Jv r)),(10,.ro [vs user]),(11,.ro [vi BR])] Z3 Z3 (Xi {q:Nat // q<=r.waves.length/\Rn r user BR q (r.waves.drop q)=WX r user BR} (Xi (fun q=>⟨[(9,.ref 9 0),(15,.clo 52 [.cptr (Jv r),.cptr [vs user],.cptr [vi BR]]),(28,vi (r.waves.map GY).length),(29,vi q.1)],[(9,.ro (Jv r))],Ag⟩) (Xi (fun q=>r.waves.length-q.1) (Yi (Xi ⟨0,AB _,rfl⟩ ?_) ?_))))
 .exact⟨Z4,Z1,Fh,Tv⟩
 intro⟨i,i1,i2⟩;have i1:i<=r.waves.length:=i1;have i2:Rn r user BR i (r.waves.drop i)=WX r user BR:=i2;refine Yi (fun h3=>?_) (fun h3=>?_)
 .have h3:(i:Int)<((r.waves.map GY).length:Int):=h3;have n3:=FJ h3;refine BX (Bt (VG r user BR i r.waves[i])) (fun h4=>?_) (fun h4=>?_)
  .have h4:(VG r user BR i r.waves[i])=true:=h4;refine Xi .pure (Xi _ (Yi (cb h4 (tO r user BR i n3 hr.wv (hr.st _ (Ao n3)) hn hu)) ?_));exact CX.of_eq (show AV.tup [vi i,vi 0]=qe x l m r user BR by rw[qe,Ap h1,<-i2,uS n3 h4])
  have h4:(VG r user BR i r.waves[i])=false:=h4;refine Xi .pure (Xi _ (Yi (cb h4 (tO r user BR i n3 hr.wv (hr.st _ (Ao n3)) hn hu)) (Yi (Ii i ch) (Xi ⟨i+1,n3,by rw[<-i2,yF n3 h4]⟩ ?_))));exact⟨Dl r.waves.length i ch,Z4,Z1,Fh,Tv⟩
 have h3:¬((i:Int)<((r.waves.map GY).length:Int)):=h3;have n3:=DP h3;exact CX.of_eq (show AV.tup [vi (r.waves.map GY).length,vi 0]=qe x l m r user BR by rw[qe,Ap h1,<-i2,CA (Bl (DP h3)),Lm,show i=r.waves.length by have q:=DP h3;omega];rfl)
end Go.Eng
namespace Go.Proofs
open Go.Shelf
def Tryz.layGrow_ren:Go.Shelf.Ren:=⟨fun|4=>94|n=>n,fun|22=>52|25=>9|3=>3|4=>4|9=>9|20=>20|0=>0|n=>n,fun|n=>n⟩
theorem Tryz.layGrow:Go.Proofs.Lays8.n4 Tryz.prog Tryz.layGrow_ren:={
 mixed:=by kernel_rfl
 f4:=⟨Tryz.f94.name,by decide,Tryz.func94.trans (congrArg some Go.Eng.Wk)⟩
 t0:=Tryz.underlying0
 a0:=Tryz.isAgg0
 z0:=Tryz.sizeOf0
 v0:=Tryz.zeroValue0
 t3:=Tryz.underlying3
 a3:=Tryz.isAgg3
 z3:=Tryz.sizeOf3
 v3:=Tryz.zeroValue3
 t4:=Tryz.underlying4
 a4:=Tryz.isAgg4
 z4:=Tryz.sizeOf4
 v4:=Tryz.zeroValue4
 t9:=Tryz.underlying9
 a9:=Tryz.isAgg9
 z9:=Tryz.sizeOf9
 v9:=Tryz.zeroValue9
 t20:=Tryz.underlying20
 a20:=Tryz.isAgg20
 z20:=Tryz.sizeOf20
 v20:=Tryz.zeroValue20
 t22:=Tryz.underlying52
 a22:=Tryz.isAgg52
 z22:=Tryz.sizeOf52
 v22:=Tryz.zeroValue52 }
end Go.Proofs
