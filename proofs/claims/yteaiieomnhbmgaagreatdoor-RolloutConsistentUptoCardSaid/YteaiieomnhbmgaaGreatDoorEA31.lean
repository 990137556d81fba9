/- Lemmas 31. -/
import Derived.Test.YteaiieomnhbmgaaGreatDoorEA30
import Derived.Lib.AppendIntMem
import Derived.Lib.ItoaLen
import Derived.Shelf.Spec.SlicesGrow
import Derived.Shelf.SlGeneric
import Derived.Ground.Names8Prog
set_option maxHeartbeats 4000000
namespace Go.Eng
open Go.Proofs
open Go.Sort Go.Lib
variable {p:ByteArray}{j i:Nat}{b:AV}(l m:List Sl)(mv:List ByteArray)
theorem ze(x y:SlA):ltOf cfBt x y=Ef x.1 y.1:=by
 rw[Gk];unfold ltOf cfBt;cases h:Op.bytesLess x.1.toList y.1.toList with
 |true=>rfl
 |false=>rfl
theorem ng{Cc:List (Value×AV)}{k k' : Value}{a:AV}:(k',b)∈E4 Cc k a↔(k'=k/\b=a)\/(k'≠k/\(k',b)∈Cc):=by
 by_cases h:∃a',(k,a')∈Cc
 .obtain⟨a',ha⟩:=h;rw[NX ha,Ai];constructor
  .rintro⟨p,hp,e⟩
   by_cases hk:p.1=k
   .rw[Ao hk]at e;cases e;exact .inl Zr
   .rw[Aj hk]at e;subst e;exact .inr ⟨hk,hp⟩
  .rintro(⟨rfl,rfl⟩ | ⟨hk,hp⟩)
   .exact⟨_,ha,Ao rfl⟩
   .exact⟨_,hp,Aj hk⟩
 .have h2:∀a',(k,a')∉Cc:=fun a' e=>h ⟨a',e⟩;rw[IY h2,AP,Aq];constructor
  .rintro(hp | e)
   .exact .inr ⟨fun e=>h2 b (e▸hp),hp⟩
   .cases e;exact .inl Zr
  .rintro(⟨rfl,rfl⟩ | ⟨hk,hp⟩)
   .exact .inr rfl
   .exact .inl hp
def Hk(p:ByteArray):Bool:=mv.any fun q=>decide (q=p)
noncomputable def lQ:List (Value×AV):=mv.foldl (fun m p=>E4 m (.string p) (vb true)) []
theorem qd{mv:List ByteArray}(h:i<mv.length):E4 (lQ (mv.take i)) (.string mv[i]) (vb true)=lQ (mv.take (i+1)):=by
 rw[BY h,lQ,lQ,Et];rfl
theorem Vl{mv:List ByteArray}:Hk mv p=true↔p∈mv:=by
 unfold Hk;rw[Bd];exact⟨fun⟨q,hq,e⟩=>AK e▸hq,fun h=>⟨p,h,Ar rfl⟩⟩
theorem Rr:(Value.string p,b)∈lQ mv↔Hk mv p=true/\b=vb true:=by
 have go:∀(l:List ByteArray) (m:List (Value×AV)),(Value.string p,b)∈l.foldl (fun m p=>E4 m (.string p) (vb true)) m↔(p∈l/\b=vb true)\/(p∉l/\(Value.string p,b)∈m):=fun l=>by
  induction l with
  |nil=>intro m;simp
  |cons a l ih=>
   intro m;rw[D0,ih,ng]
   by_cases h1:p∈l
   .simp[h1]
   .by_cases h2:p=a
    .subst h2;simp[h1]
    .have h3:Value.string p≠Value.string a:=fun e=>h2 (by injection e);simp[h1,h2,h3]
 rw[Vl];have q:=go mv [];unfold lQ;rw[q];simp
def Ti:List Sl:=l.filter (fun s=>!Hk mv s.path)++m.filter (fun s=>Hk mv s.path)
theorem SX{l:List Sl}(h:l.Pairwise Vi)(p:Sl->Bool):((l.filter p).map (·.path)).Nodup:=by
 have q:=List.Pairwise.filter p h;rw[List.nodup_iff_pairwise_ne,Lu];exact q.imp fun {a b} dh e=>by
  have dh:Ef a.path b.path=true:=dh;rw[e,Dm]at dh;cases dh
theorem Up{l m:List Sl}(hl:l.Pairwise Vi)(hm:m.Pairwise Vi)(mv:List ByteArray):((Ti l m mv).map (·.path)).Nodup:=by
 rw[Ti,As,FQ];refine⟨SX hl _,SX hm _,fun a ha b hb e=>?_⟩;obtain⟨s,hs,rfl⟩:=Ai.1 ha;obtain⟨t,ht,e2⟩:=Ai.1 hb;have h1:=(By.1 hs).2;have h2:=(By.1 ht).2;rw[show t.path=s.path from e2.trans e.symm]at h2;rw[h2]at h1;cases h1
def Su(j:Nat):List Sl:=(l.take j).filter fun s=>!Hk mv s.path
def Oa(k:Nat):List Sl:=Su l mv l.length++(m.take k).filter fun s=>Hk mv s.path
theorem qh{p:Sl->Bool}{l:List Sl}(h:i<l.length):(l.take (i+1)).filter p=(l.take i).filter p++if p l[i]=true then [l[i]]else []:=by
 rw[BY h,EK,El];rfl
theorem Abf{l:List Sl}{mv:List ByteArray}(h:j<l.length)(k:Hk mv l[j].path=false):Su l mv (j+1)=Su l mv j++[l[j]]:=by rw[Su,qh h,Ao (by rw[k];rfl)];rfl
theorem Abe{l:List Sl}{mv:List ByteArray}(h:j<l.length)(k:Hk mv l[j].path=true):Su l mv (j+1)=Su l mv j:=by rw[Su,qh h,Aj (by rw[k];decide),BM];rfl
theorem Abh{l m:List Sl}{mv:List ByteArray}(h:j<m.length)(k:Hk mv m[j].path=true):Oa l m mv (j+1)=Oa l m mv j++[m[j]]:=by rw[Oa,qh h,Ao (by rw[k]),<-BB];rfl
theorem Abg{l m:List Sl}{mv:List ByteArray}(h:j<m.length)(k:Hk mv m[j].path=false):Oa l m mv (j+1)=Oa l m mv j:=by rw[Oa,qh h,Aj (by rw[k];decide),BM];rfl
theorem lp(j:Nat):(Su l mv j).length<=l.length:=AG (Bv _ _) (by rw[Aw];omega)
theorem lq(j:Nat):(Oa l m mv j).length<=l.length+m.length:=by
 rw[Oa,Ac];exact Nat.add_le_add (lp _ _ _) (AG (Bv _ _) (by rw[Aw];omega))
theorem Yq:Oa l m mv m.length=Ti l m mv:=by rw[Oa,Su,B9,B9];rfl
theorem te(x:List Rl)(l m:List Sl)(mv:List ByteArray)(hl:IL l)(SC:IL m)(hbt:B8 (Ti l m mv))(aO:B8 mv):PC 77 [.cptr [.cmap Cr (CN x l),.cmap Cr (CN x m),sl Ae l,sl Ae m,sl Ax (JJ l m)],sl Ax mv] (sl Ae (D5 (Ti l m mv))):=by
 have hll:l.length<=1073741824:=hl.few;have hml:m.length<=1073741824:=SC.few;have hvl:mv.length<=1073741824:=aO;refine Ps ⟨[],[],[(8,4)],[],[],[],[],[],[],[(200021,8)],[7,21]⟩ Tryz.func77 rfl (Nz rfl) (Xi {q:Nat // q<=mv.length} (Xi (fun q=>⟨[(0,.cptr [.cmap Cr (CN x l),.cmap Cr (CN x m),sl Ae l,sl Ae m,sl Ax (JJ l m)]),(5,.mref 13),(14,sl Ax mv),(15,vi (mv.map Ax).length),(16,vi q.1)],[(13,.map Cr (lQ (mv.take q.1)))],Af⟩) (Xi (fun q=>mv.length-q.1) (Yi (Xi ⟨0,AA _⟩ ?_) ?_))))
 .exact⟨Z5,Z1,Fh,Tv⟩
 intro⟨i,i1⟩;refine Yi (fun h1=>?_) (fun h1=>?_)
 .have h1:(i:Int)<((mv.map Ax).length:Int):=h1;have n1:=EE h1;refine Xi (Ax mv[i]) (Yi (IU n1) (Yi rfl (Yi (Ii i ch) (Xi ⟨i+1,n1⟩ ?_))));exact⟨Dl mv.length i ch,Z5,⟨⟨(Aa (HO.map Cr) (qd n1)),rfl⟩,Tv⟩,Fh,Tv⟩
 have n1:=Dd h1;have ei:mv.take i=mv:=At (A3 (Dd h1));refine cU [(0,.cptr [.cmap Cr (CN x l),.cmap Cr (CN x m),sl Ae l,sl Ae m,sl Ax (JJ l m)]),(5,.mref 13)] [(13,.map Cr (lQ mv))] Z2 ⟨⟨(Aa (fun z=>HO.map Cr (lQ z)) ei),rfl⟩,Tv⟩ (Xi {q:Nat // q<=l.length} (Xi (fun q=>⟨[(0,.cptr [.cmap Cr (CN x l),.cmap Cr (CN x m),sl Ae l,sl Ae m,sl Ax (JJ l m)]),(5,.mref 13),(8,.msl 8 ((Su l mv q.1)).length),(26,sl Ae l),(27,vi (l.map Ae).length),(28,vi q.1)],[(8,.arr 4 ((Su l mv q.1).map Ae)),(13,.map Cr (lQ mv))],Af⟩) (Xi (fun q=>l.length-q.1) (Yi (Xi ⟨0,AA _⟩ ?_) ?_))))
 .exact⟨Z6,Z2,Fh,Tv⟩
 intro⟨j,j1⟩;refine Yi (fun h3=>?_) (fun h3=>?_)
 .have h3:(j:Int)<((l.map Ae).length:Int):=h3;have n3:=EE h3;have hA:=lp l mv j;refine Xi (Ae l[j]) (Yi (IU n3) (Yi rfl (yN (yN (Yi (fun a ha=>?_) (fun Ob=>?_))))))
  .have ea:=((Rr mv).1 ha).2;have h4:Hk mv l[j].path=true:=((Rr mv).1 ha).1;subst ea;refine Yi (Ii j ch) ?_;have ew:=Abe (mv:=mv) n3 h4;refine Xi ⟨j+1,n3⟩ ?_;exact⟨Dl l.length j ch,⟨Zr,Zr,⟨(show AV.msl 8 ((Su l mv j)).length=.msl 8 (Su l mv (j+1)).length by rw[ew]),rfl⟩,Zr,Zr,Zr,Tv⟩,⟨⟨(show HO.arr 4 ((Su l mv j).map Ae)=.arr 4 ((Su l mv (j+1)).map Ae) by rw[ew]),rfl⟩,Zr,Tv⟩,Fh,Tv⟩
  have h4:Hk mv l[j].path=false:=by rw[AN];exact fun e=>Ob _ ((Rr mv).2 ⟨e,rfl⟩)
  refine yN ?_;have b6:Cf 4 [(Ae l[j])]/\((Su l mv j).map Ae).length=((Su l mv j)).length/\(((Su l mv j).map Ae).length+([(Ae l[j])]:List (List AV)).length)*40<=140737488355328/\((Su l mv j).map Ae).length+([(Ae l[j])]:List (List AV)).length<=9223372036854775807:=⟨⟨rfl,trivial⟩,(by first | (simp;done) | (rw[Lm];assumption)),(by simp only[Lm,Am,Au];omega),(by simp only[Lm,Am,Au];omega)⟩
  refine Yi b6 (Yi (Ii j ch) ?_);have ew:=Abf (mv:=mv) n3 h4;refine Xi ⟨j+1,n3⟩ ?_;exact⟨Dl l.length j ch,⟨Zr,Zr,⟨(show AV.msl 8 (((Su l mv j).map Ae).length+([(Ae l[j])]:List (List AV)).length)=.msl 8 (Su l mv (j+1)).length by rw[ew];simp),rfl⟩,Zr,Zr,Zr,Tv⟩,⟨⟨(show HO.arr 4 (((Su l mv j).map Ae)++[(Ae l[j])])=.arr 4 ((Su l mv (j+1)).map Ae) by rw[ew,As];rfl),rfl⟩,Zr,Tv⟩,Fh,Tv⟩
 have h3:¬((j:Int)<((l.map Ae).length:Int)):=h3;have n3:=Dd h3;have ej:j=l.length:=by have q:=Dd h3;omega
 have eb:Su l mv j=Oa l m mv 0:=by rw[ej,Oa,PB,List.filter_nil,BM]
 refine Xi {q:Nat // q<=m.length} (Xi (fun q=>⟨[(5,.mref 13),(8,.msl 8 ((Oa l m mv q.1)).length),(45,sl Ae m),(46,vi (m.map Ae).length),(47,vi q.1)],[(8,.arr 4 ((Oa l m mv q.1).map Ae)),(13,.map Cr (lQ mv))],Af⟩) (Xi (fun q=>m.length-q.1) (Yi (Xi ⟨0,AA _⟩ ?_) ?_)))
 .exact⟨⟨Zr,⟨(show AV.msl 8 (Su l mv j).length=.msl 8 (Oa l m mv 0).length by rw[eb]),rfl⟩,Zr,Zr,Zr,Tv⟩,⟨⟨(show HO.arr 4 ((Su l mv j).map Ae)=.arr 4 ((Oa l m mv 0).map Ae) by rw[eb]),rfl⟩,Zr,Tv⟩,Fh,Tv⟩
 intro⟨k,k1⟩;have k1:k<=m.length:=k1;refine Yi (fun h8=>?_) (fun h8=>?_)
 .have h8:(k:Int)<((m.map Ae).length:Int):=h8;have n8:=EE h8;have hB:=lq l m mv k;refine Xi (Ae m[k]) (Yi (IU n8) (Yi rfl (yN (yN (Yi (fun a ha=>?_) (fun Ob=>?_))))))
  .have ea:=((Rr mv).1 ha).2;have h9:Hk mv m[k].path=true:=((Rr mv).1 ha).1;subst ea;refine yN ?_;have WU:Cf 4 [(Ae m[k])]/\((Oa l m mv k).map Ae).length=((Oa l m mv k)).length/\(((Oa l m mv k).map Ae).length+([(Ae m[k])]:List (List AV)).length)*40<=140737488355328/\((Oa l m mv k).map Ae).length+([(Ae m[k])]:List (List AV)).length<=9223372036854775807:=⟨⟨rfl,trivial⟩,(by first | (simp;done) | (rw[Lm];assumption)),(by simp only[Lm,Am,Au];omega),(by simp only[Lm,Am,Au];omega)⟩
   refine Yi WU (Yi (Ii k ch) ?_);have ew:=Abh (mv:=mv) (l:=l) n8 h9;refine Xi ⟨k+1,n8⟩ ?_;exact⟨Dl m.length k ch,⟨Zr,⟨(show AV.msl 8 (((Oa l m mv k).map Ae).length+([(Ae m[k])]:List (List AV)).length)=.msl 8 (Oa l m mv (k+1)).length by rw[ew];simp),rfl⟩,Zr,Zr,Zr,Tv⟩,⟨⟨(show HO.arr 4 (((Oa l m mv k).map Ae)++[(Ae m[k])])=.arr 4 ((Oa l m mv (k+1)).map Ae) by rw[ew,As];rfl),rfl⟩,Zr,Tv⟩,Fh,Tv⟩
  have h9:Hk mv m[k].path=false:=by rw[AN];exact fun e=>Ob _ ((Rr mv).2 ⟨e,rfl⟩)
  refine Yi (Ii k ch) ?_;have ew:=Abg (mv:=mv) (l:=l) n8 h9;refine Xi ⟨k+1,n8⟩ ?_;exact⟨Dl m.length k ch,⟨Zr,⟨(show AV.msl 8 ((Oa l m mv k)).length=.msl 8 (Oa l m mv (k+1)).length by rw[ew]),rfl⟩,Zr,Zr,Zr,Tv⟩,⟨⟨(show HO.arr 4 ((Oa l m mv k).map Ae)=.arr 4 ((Oa l m mv (k+1)).map Ae) by rw[ew]),rfl⟩,Zr,Tv⟩,Fh,Tv⟩
 have h8:¬((k:Int)<((m.map Ae).length:Int)):=h8;have n8:=Dd h8;have ek:k=m.length:=by have q:=Dd h8;omega
 have hs:=zS ze 134 Tryz.closure134 (enters_of Tryz.func134 Wk rfl) (Ti l m mv) hbt (Up hl.inc SC.inc mv);rw[show Ti l m mv=(Oa l m mv k)from by rw[ek,Yq]]at hs;refine Xi (.gen [(8,1000)] 0) (Yi rfl (Bc.to2 hs ?_));refine Yi (show((Oa l m mv k)).length=((D5 ((Oa l m mv k))).map Ae).length by rw[Lm,(HR _).length_eq]) ?_;refine cU [(8,sl Ae (D5 ((Oa l m mv k))))] [] Z1 Tv ?_
 exact CY.of_eq (show sl Ae (D5 ((Oa l m mv k)))=sl Ae (D5 (Ti l m mv)) by rw[ek,Yq])
end Go.Eng
namespace Go.Eng
open Go.Proofs
variable {i k:Nat}(x:List Rl)(ifs:List (List AV))(l m:List Sl)(p mv:List ByteArray)(Bp:List (List ByteArray))
theorem sr(l m:List (ByteArray))(hl:B8 l):PC 100 [sl Ax l,sl Ax m] (vb (decide (l=m))):=by
 refine Ps Ej Tryz.func100 rfl (Nz rfl) (Yi ?_ ?_)
 .intro h
  have:l≠m:=fun e=>h (by rw[e])
  rw[Av this];exact .refl _
 .intro h;have CP:l.length=m.length:=by simp at h;omega
  refine Xi {i:Nat // i<=l.length/\l.take i=m.take i} (Xi (fun i=>⟨[(0,sl Ax l),(1,sl Ax m),(12,vi (l.map Ax).length),(13,vi i.1)],[],Af⟩) (Xi (fun i=>l.length-i.1) (Yi (Xi ⟨0,by simp⟩ ?_) ?_)))
  .exact⟨Z4,Tv,Fh,Tv⟩
  .intro⟨i,h1,h2⟩;refine Yi ?_ ?_
   .intro h;have h:i<l.length:=by simpa using h
    have h' : i<m.length:=by omega
    have hg:l[i]?=some l[i]:=Ge h;have TL : m[i]?=some m[i]:=Ge h';refine Xi (Ax l[i]) (Yi (Yi (Nn i) (by simp[hg])) (Yi rfl ?_));refine Xi (Ax m[i]) (Yi (Yi (Nn i) (by simp[TL])) (Yi rfl ?_));refine Yi ?_ ?_
    .intro h5;refine Yi Wk ?_
     have:l≠m:=fun e=>h5 (by subst e;rfl)
     rw[Av this];exact .refl _
    .intro h5;have e:l[i]=m[i]:=B7.1 h5;refine Yi Wk (Yi (by show Ba ((i:Int)+1);unfold B8 at hl;unfold Ba;omega) (Xi ⟨i+1,by omega,?_⟩ ?_))
     .rw[Bj,Bj,h2,hg,TL,e]
     .exact⟨Dl l.length i ch,Z4,Tv,Fh,Tv⟩
   .intro h;have h:¬i<l.length:=by simpa using h
    have e:l=m:=by
     rw[<-At (l:=l) (i:=i) ch,h2,At ch]
    rw[Ar e];exact .refl _
def wIx(l:List ByteArray)(p:ByteArray):Int:=JI (fun q=>decide (q=p)) l 0
theorem vU{l:List ByteArray}{p:ByteArray}:(∀q∈l,q≠p)->∀k:Int,JI (fun q=>decide (q=p)) l k=-1:=by
 induction l with
 |nil=>intro _ _;rfl
 |cons a l ih=>intro h k;rw[JI,Aj (by rw[decide_eq_true_iff];exact h a (Ab ..))];exact ih (fun q hq=>h q (Ah _ hq)) _
theorem Aa7(l:List ByteArray)(p:ByteArray)(hl:B8 l):PC 132 [sl Ax l,vs p] (vi (wIx l p)):=by
 refine Ps Ej Tryz.func132 rfl (Nz rfl) (Xi {q:Nat // q<=l.length/\∀j (hj:j<l.length),j<q->l[j]≠p} (Xi (fun q=>⟨[(0,sl Ax l),(1,vs p),(7,vi (l.map Ax).length),(8,vi q.1)],[],Af⟩) (Xi (fun q=>l.length-q.1) (Yi (Xi ⟨0,AA _,fun j hj h=>absurd h ch⟩ ?_) ?_))))
 .exact⟨Z4,Tv,Fh,Tv⟩
 intro⟨i,i1,i2⟩;refine Yi (fun h1=>?_) (fun h1=>?_)
 .have h1:(i:Int)<((l.map Ax).length:Int):=h1;have n1:=EE h1;refine Xi (Ax l[i]) (Yi (IU n1) (Yi rfl (Yi (fun h2=>?_) (fun h2=>?_))))
  .exact CY.of_eq (Aa vi (show(i:Int)=wIx l p by rw[wIx,HM (p:=fun q=>decide (q=p)) (k:=0) n1 (fun j hj h=>Av (i2 j hj h)) (Ar (h2).symm)];omega))
  refine Yi (Ii i ch) (Xi ⟨i+1,n1,fun j hj h=>by rcases B4 j i with hg | hg;exact i2 j hj hg;have e:j=i:=ch;subst e;exact fun e=>h2 e.symm⟩ ?_);exact⟨Dl l.length i ch,Z4,Tv,Fh,Tv⟩
 have n1:=Dd h1;exact CY.of_eq (Aa vi (show -1=wIx l p from(vU (fun q hq=>by obtain⟨j,hj,rfl⟩:=BU.1 hq;exact i2 j hj (BA hj (A3 (Dd h1)))) 0).symm))
theorem th(l:List ByteArray)(p:ByteArray)(hl:B8 l):PC 76 [sl Ax l,vs p] (vb (Hk l p)):=by
 refine Ps Ej Tryz.func76 rfl (Nz rfl) (Xi .pure (Xi _ (Yi (Aa7 l p hl) (Yi (fun h1=>?_) (fun h1=>?_)))))
 .exact CY.of_eq (Aa vb (show true=Hk l p by rw[Hk,<-HG (p:=fun q=>decide (q=p)) l 0 (Bn 0)];exact(Ar h1).symm))
 exact CY.of_eq (Aa vb (show false=Hk l p by rw[Hk,<-HG (p:=fun q=>decide (q=p)) l 0 (Bn 0)];exact(Av h1).symm))
theorem oT(p:ByteArray)(hl:B8 (JJ l m)):PC 75 [vs p,.cptr [.cptr [.cmap Cr (CN x l),.cmap Cr (CN x m),sl Ae l,sl Ae m,sl Ax (JJ l m)]]] (vb (!Hk (JJ l m) p)):=by
 refine Ps Ej Tryz.func75 rfl (Nz rfl) (BN (Bt (Hk (JJ l m) p)) (fun h1=>?_) (fun h1=>?_))
 .refine Xi .pure (Xi _ (Yi (cb h1 (th (JJ l m) p hl)) ?_));exact CY.of_eq (Aa vb (show false=!Hk (JJ l m) p by rw[h1];rfl))
 refine Xi .pure (Xi _ (Yi (cb h1 (th (JJ l m) p hl)) ?_));exact CY.of_eq (Aa vb (show true=!Hk (JJ l m) p by rw[h1];rfl))
def PO:Int:=if Q0 x l m=0 then if mv.any (fun p=>!Hk (JJ l m) p)=true then 6 else 0 else Q0 x l m
def Tj:AV:=if PO x l m mv=0 then .tup [sl Ae (D5 (Ti l m mv)),vi 0]else .tup [nzA,vi (PO x l m mv)]
theorem MI{x:List Rl}{l m:List Sl}(h:Q0 x l m=0):OA x l=0/\OA x m=0:=by
 unfold Q0 at h;split at h
 .rename_i h1;exact⟨NN h1,NN h⟩
 .rename_i h1;exact absurd h h1
theorem PN:(Ti l m mv).length<=l.length+m.length:=by rw[<-Yq];exact lq _ _ _ _
theorem gl{x:List Rl}{l m:List Sl}(hl:B8 l)(hm:B8 m)(h:Q0 x l m=0):(JJ l m).length<=l.length+m.length:=by
 rw[JJ,Lm];exact oc l m (GQ (MI h).1 hl) (GQ (MI h).2 hm)
theorem vV(hx:∀r∈x,En r)(JS:l.length<=16)(FK:m.length<=16)(aO:B8 mv)(c0:¬Q0 x l m=0):PC 35 [.agg (Ic x ifs),sl Ae l,sl Ae m,sl Ax mv] (Tj x l m mv):=by
 have hl:B8 l:=AG JS Cl;have SC:B8 m:=AG FK Cl;have hq:mv.length<=1073741824:=aO;refine Ps (pC [4,10] []) Tryz.func35 rfl (Nz rfl) (yN (Xi .pure (Xi _ (Yi (by have q:=o9 x ifs l m hx hl SC JS FK;rw[eH,Aj c0]at q;exact q) ?_))));refine yN (Yi (fun h1=>?_) (fun h1=>?_))
 .exact CY.of_eq (show AV.tup [nzA,vi (Q0 x l m)]=Tj x l m mv by rw[Tj,PO,Aj c0,Aj c0])
 have h1:((Q0 x l m):Int)=(0:Int):=AJ h1;exact absurd h1 c0
theorem vW(hx:∀r∈x,En r)(JS:l.length<=16)(FK:m.length<=16)(aO:B8 mv)(c0:Q0 x l m=0):PC 35 [.agg (Ic x ifs),sl Ae l,sl Ae m,sl Ax mv] (Tj x l m mv):=by
 have hl:B8 l:=AG JS Cl;have SC:B8 m:=AG FK Cl;have hq:mv.length<=1073741824:=aO;refine Ps (pC [4,10] []) Tryz.func35 rfl (Nz rfl) (yN (Xi .pure (Xi _ (Yi (by have q:=o9 x ifs l m hx hl SC JS FK;rw[eH,Ao c0]at q;exact q) ?_))));refine yN (Yi (fun h=>absurd h Cl) (fun _=>?_));refine BN (Bt (mv.any fun p=>!Hk (JJ l m) p)) (fun h1=>?_) (fun h1=>?_)
 .refine Xi .pure (Xi _ (Yi (cb h1 (z74 (fF:=75) (Db.ptr _) mv (fun p=>!Hk (JJ l m) p) (fun p hp=>oT x l m p (show(JJ l m).length<=1073741824 by have q:=gl hl SC c0;omega)) aO)) ?_));exact CY.of_eq (show AV.tup [nzA,vi 6]=Tj x l m mv by unfold Tj PO;rw[Ao c0,h1];rfl)
 refine Xi .pure (Xi _ (Yi (cb h1 (z74 (fF:=75) (Db.ptr _) mv (fun p=>!Hk (JJ l m) p) (fun p hp=>oT x l m p (show(JJ l m).length<=1073741824 by have q:=gl hl SC c0;omega)) aO)) (Xi .pure (Xi _ (Yi (te x l m mv (GQ (MI c0).1 hl) (GQ (MI c0).2 SC) (show(Ti l m mv).length<=1073741824 by have q:=PN l m mv;omega) aO) ?_)))));exact CY.of_eq (show AV.tup [sl Ae (D5 (Ti l m mv)),vi 0]=Tj x l m mv by unfold Tj PO;rw[Ao c0,h1];rfl)
theorem oO(hx:∀r∈x,En r)(JS:l.length<=16)(FK:m.length<=16)(aO:B8 mv):PC 35 [HH x ifs,sl Ae l,sl Ae m,sl Ax mv] (Tj x l m mv):=by
 by_cases h:Q0 x l m=0
 .exact vW x ifs l m mv hx JS FK aO h
 .exact vV x ifs l m mv hx JS FK aO h
theorem oY(a b:ByteArray):PC 159 [vs a,vs b] (vb (Ef a b)):=by
 refine Ps Ej Tryz.func159 rfl (Nz rfl) (Xi .pure (Xi _ (Yi (ua a) (Yi (fun h1=>?_) (fun h1=>?_)))))
 .have h1:Ef a b=true:=(Gk _ _).trans h1;exact CY.of_eq (Aa vb h1.symm)
 have h1:Ef a b=false:=(Gk _ _).trans (AN.2 h1);exact CY.of_eq (Aa vb h1.symm)
def Hd:List ByteArray->Bool
 |a::b::r=>!Ef b a&&Hd (b::r)
 |_=>true
theorem eB(l:List ByteArray):Hd (l.drop (l.length-1))=true:=by
 cases h:l.drop (l.length-1)with
 |nil=>rfl
 |cons a r=>
  have q:=Aa List.length h;rw[Di,Am]at q;have e:r=[]:=FP.1 ch;subst e;rfl
theorem ND{l:List ByteArray}(h:i+1<l.length):Hd (l.drop i)=(!Ef l[i+1] l[i]&&Hd (l.drop (i+1))):=by
 rw[AI (show i<l.length by omega),AI h];rfl
theorem VQ{l:List ByteArray}:∀{i:Nat},Hd (l.drop i)=false->Hd l=false
 |0,h=>h
 |i+1,h=>by
  refine VQ (i:=i) ?_
  by_cases hi:i+1<l.length
  .rw[ND hi,h,Ck]
  .rw[Cv ch]at h;cases h
theorem cd(l:List ByteArray)(hl:B8 l):PC 98 [sl Ax l] (vb (Hd l)):=by
 have hl:l.length<=1073741824:=hl;have hml:(l.map Ax).length=l.length:=Lm ..;refine Ps Ej Tryz.func98 rfl (Nz rfl) (Yi (by show Ba (((l.map Ax).length:Int)-(1:Int));unfold Ba;omega) ?_);refine Xi {q:Nat // q<=l.length/\Hd (l.drop (q-1))=true} (Xi (fun q=>⟨[(0,sl Ax l),(3,vi ((q.1:Int)-1))],[],Af⟩) (Xi (fun q=>q.1) (Yi (Xi ⟨l.length,Ak _,eB l⟩ ?_) ?_)))
 .exact⟨⟨Zr,⟨(Aa vi (show(((l.map Ax).length:Nat):Int)-1=(l.length:Int)-1 by rw[Lm])),rfl⟩,Tv⟩,Tv,Fh,Tv⟩
 intro⟨q_,i1,i2⟩;have i1:q_<=l.length:=i1;have i2:Hd (l.drop (q_-1))=true:=i2;refine Yi (fun h1=>?_) (fun h1=>?_)
 .have h1:(0:Int)<((q_:Int)-1:Int):=h1;refine Xi (Ax (l[q_-1]' ch)) (Yi (Yi (show(0:Int)<=(q_:Int)-1 by omega) (by rw[show((q_:Int)-1:Int).toNat=q_-1 by omega];exact Ed (Ge ch))) (Yi rfl ?_));refine Yi (by show Ba (((q_:Int)-1:Int)-(1:Int));unfold Ba;omega) ?_;refine Xi (Ax (l[q_-2]' ch)) (Yi (Yi (show(0:Int)<=((q_:Int)-1)-1 by omega) (by rw[show(((q_:Int)-1)-1:Int).toNat=q_-2 by omega];exact Ed (Ge ch))) (Yi rfl ?_));refine BN (Bt (Ef (l[q_-1]' ch) (l[q_-2]' ch))) (fun h2=>?_) (fun h2=>?_)
  .have h2:(Ef (l[q_-1]' ch) (l[q_-2]' ch))=true:=h2;refine Xi _ (Yi (cb h2 (oY (l[q_-1]' ch) (l[q_-2]' ch))) (Yi Wk ?_));exact CY.of_eq (Aa vb (show false=Hd l from(VQ (i:=q_-2) (by rw[ND (l:=l) (i:=q_-2) ch];simp only[show q_-2+1=q_-1 by omega,h2];rfl)).symm))
  have h2:(Ef (l[q_-1]' ch) (l[q_-2]' ch))=false:=h2;refine Xi _ (Yi (cb h2 (oY (l[q_-1]' ch) (l[q_-2]' ch))) (Yi Wk (Yi (by show Ba (((q_:Int)-1:Int)-(1:Int));unfold Ba;omega) ?_)));refine Xi ⟨q_-1,by omega,by rw[show q_-1-1=q_-2 by omega,ND (l:=l) (i:=q_-2) ch];simp only[show q_-2+1=q_-1 by omega,i2,h2];rfl⟩ ?_;exact⟨by show(q_-1:Nat)<q_;omega,⟨Zr,⟨(Aa vi (show(q_:Int)-1-1=((q_-1:Nat):Int)-1 by omega)),rfl⟩,Tv⟩,Tv,Fh,Tv⟩
 have h1:¬((0:Int)<((q_:Int)-1:Int)):=h1;exact CY.of_eq (Aa vb (show true=Hd l by rw[show q_-1=0 by omega]at i2;exact i2.symm))
abbrev BZ:List AV:=[sl Ax p]
def Mr:List ByteArray:=((p.map KJ).mergeSort fun a b=>decide (a<=b)).map Sv
theorem J6:(Mr p).Perm p/\((Mr p).map KJ).Pairwise fun a b=>a<=b:=by
 have e:∀q:ByteArray,Sv (KJ q)=q:=fun q=>by cases q;simp
 have e2:∀q:List UInt8,KJ (Sv q)=q:=fun q=>by simp
 refine⟨?_,?_⟩
 .have h:=(Og (p.map KJ) fun a b=>decide (a<=b)).map Sv
  rwa [Br,show(Sv ∘ KJ)=id from funext e,Gc]at h
 .rw[Mr,Br,show(KJ ∘ Sv)=id from funext e2,Gc];have h:=KG (le:=fun a b:List UInt8=>decide (a<=b)) (fun a b c h1 h2=>Ar (List.le_trans (AK h1) (AK h2))) (fun a b=>by rcases List.le_total a b with h | h<;>simp[h]) (p.map KJ)
  exact h.imp fun h=>AK h
def gy:Bool:=!p.isEmpty&&Hd p
def wvI(i:Nat):Bool:=decide (ER x (D5 (Ti l m (Bp.take (i+1)).flatten))=0)
def eQ:Bool:=(List.range Bp.length).all (wvI x l m Bp)
def Hx:Int:=
 if Q0 x l m=0 then if Bp.all gy=true then if Mr Bp.flatten=JJ l m then if eQ x l m Bp=true then 0 else 17 else 1 else 1 else Q0 x l m
theorem Gz{Bp:List (List ByteArray)}(h:i<Bp.length):(Bp.take (i+1)).flatten=(Bp.take i).flatten++Bp[i]:=by
 rw[BY h,Ci];simp
theorem TE{Bp:List (List ByteArray)}{B:Nat}(h:∀p∈Bp,p.length<=B):∀i,(Bp.take i).flatten.length<=i*B
 |0=>by simp
 |i+1=>by
  rw[Ea]
  by_cases hi:i<Bp.length
  .rw[Gz hi,Ac];exact Nat.add_le_add (TE h i) (h _ (Al hi))
  .have e:Bp.take (i+1)=Bp.take i:=by rw[At (l:=Bp) (i:=i+1) ch,At (l:=Bp) (i:=i) ch]
   rw[e];exact AG (TE h i) (Nat.le_add_right _ _)
theorem nJ{Bp:List (List ByteArray)}(h:i<Bp.length)(k:gy Bp[i]=false):¬Bp.all gy=true:=fun e=>by
 have q:=AZ.1 e _ (Al h);rw[k]at q;cases q
theorem vv{Bp:List (List ByteArray)}(h:∀j (hj:j<Bp.length),j<i->gy Bp[j]=true)(hi:Bp.length<=i):Bp.all gy=true:=by
 rw[AZ];intro p hp;obtain⟨j,hj,rfl⟩:=BU.1 hp;exact h j hj ch
theorem qg{Bp:List (List ByteArray)}(DD:Bp≠[])(h:Bp.all gy=true):Bp.flatten≠[]:=fun e=>by
 cases Bp with
 |nil=>exact DD rfl
 |cons p r=>
  have q:=AZ.1 h p (Ab ..);rw[BC]at e;rw[(List.append_eq_nil_iff.1 e).1]at q;cases q
theorem wy{x:List Rl}{l m:List Sl}{Bp:List (List ByteArray)}(h:k<Bp.length)(e:wvI x l m Bp k=false):¬eQ x l m Bp=true:=fun c=>by
 have q:=AZ.1 c k (FC.2 h);rw[e]at q;cases q
theorem wx{x:List Rl}{l m:List Sl}{Bp:List (List ByteArray)}(h:∀j,j<k->wvI x l m Bp j=true)(hk:Bp.length<=k):eQ x l m Bp=true:=
 AZ.2 fun j hj=>h j (by have:=FC.1 hj;omega)
theorem v8(hx:∀r∈x,En r)(JS:l.length<=16)(FK:m.length<=16)(_hpl:Bp.length<=100000)(_hpe:∀p∈Bp,p.length<=100000)(c0:¬Q0 x l m=0):PC 58 [.agg (Ic x ifs),sl Ae l,sl Ae m,sl BZ Bp] (vi (Hx x l m Bp)):=by
 have hl:B8 l:=AG JS Cl;have SC:B8 m:=AG FK Cl;refine Ps (pC [4] []) Tryz.func58 rfl (Nz rfl) (yN (Xi .pure (Xi _ (Yi (by have q:=o9 x ifs l m hx hl SC JS FK;rw[eH,Aj c0]at q;exact q) ?_))));refine Yi (fun h1=>?_) (fun h1=>?_)
 .exact CY.of_eq (Aa vi (show(Q0 x l m)=Hx x l m Bp by rw[Hx,Aj c0]))
 have h1:((Q0 x l m):Int)=(0:Int):=AJ h1;exact absurd h1 c0
theorem wa(hx:∀r∈x,En r)(JS:l.length<=16)(FK:m.length<=16)(ci:Bp.length<=1000)(RA:∀p∈Bp,p.length<=100000)(TK:∀i,(Bp.take i).flatten.length<=1073741824)(DD:Bp≠[])(c0:Q0 x l m=0):PC 58 [.agg (Ic x ifs),sl Ae l,sl Ae m,sl BZ Bp] (vi (Hx x l m Bp)):=by
 have hl:B8 l:=AG JS Cl;have SC:B8 m:=AG FK Cl;have YU:B8 Bp.flatten:=by have q:=TK Bp.length;rw[B9]at q;exact q
 have SH:∀i,B8 (Mr (Bp.take i).flatten):=fun i=>by show(Mr _).length<=_;rw[(J6 _).1.length_eq];exact TK i
 refine Ps ⟨[4],[(14,1)],[(11,1)],[],[],[],[],[],[],[(200013,11)],[5,11,13,20]⟩ Tryz.func58 rfl (Nz rfl) (yN (Xi .pure (Xi _ (Yi (by have q:=o9 x ifs l m hx hl SC JS FK;rw[eH,Ao c0]at q;exact q) ?_))));refine Yi (fun h=>absurd h Cl) (fun _=>?_);refine cU [(3,sl BZ Bp),(4,.ref 4 0),(9,.cptr [.cmap Cr (CN x l),.cmap Cr (CN x m),sl Ae l,sl Ae m,sl Ax (JJ l m)]),(11,.msl 11 0)] [(4,.ro (Ic x ifs)),(11,.arr 1 [])] Z4 Z2 (Xi {q:Nat // q<=Bp.length/\∀j (hj:j<Bp.length),j<q->gy Bp[j]=true} (Xi (fun q=>⟨[(3,sl BZ Bp),(4,.ref 4 0),(9,.cptr [.cmap Cr (CN x l),.cmap Cr (CN x m),sl Ae l,sl Ae m,sl Ax (JJ l m)]),(11,.msl 11 ((Bp.take q.1).flatten).length),(27,sl BZ Bp),(28,vi (Bp.map BZ).length),(29,vi q.1)],[(4,.ro (Ic x ifs)),(11,.arr 1 (((Bp.take q.1).flatten).map Ax))],Af⟩) (Xi (fun q=>Bp.length-q.1) (Yi (Xi ⟨0,AA _,fun j hj h=>absurd h ch⟩ ?_) ?_))))
 .exact⟨Z7,Z2,Fh,Tv⟩
 intro⟨i,i1,i2⟩;refine Yi (fun h1=>?_) (fun h1=>?_)
 .have h1:(i:Int)<((Bp.map BZ).length:Int):=h1;have n1:=EE h1;have Ahe:(Bp.take i).flatten.length<=1073741824:=TK i;have hpi:=RA _ (Al n1);refine Xi (BZ Bp[i]) (Yi (IU n1) (Yi rfl (Yi (fun h2=>?_) (fun h2=>?_))))
  .exact CY.of_eq (Aa vi (show 1=Hx x l m Bp by rw[Hx,Ao c0,Aj (nJ n1 (by rw[gy,FP.1 (show Bp[i].length=0 by have q:=h2;rw[Lm]at q;omega)];rfl))]))
  refine BN (Bt (Hd Bp[i])) (fun h4=>?_) (fun h4=>?_)
  .refine Xi .pure (Xi _ (Yi (cb h4 (cd Bp[i] (AG (RA _ (Al n1)) Cl))) ?_));have b5:Cf 1 (Bp[i].map Ax)/\(((Bp.take i).flatten).map Ax).length=((Bp.take i).flatten).length/\((((Bp.take i).flatten).map Ax).length+(Bp[i].map Ax).length)*16<=140737488355328/\(((Bp.take i).flatten).map Ax).length+(Bp[i].map Ax).length<=9223372036854775807:=⟨(DK (enc:=Ax) (n:=1) (fun _=>rfl) Bp[i]),(by rw[Lm]),(by simp only[Lm];omega),(by simp only[Lm];omega)⟩;refine Yi b5 (cU [(3,sl BZ Bp),(4,.ref 4 0),(9,.cptr [.cmap Cr (CN x l),.cmap Cr (CN x m),sl Ae l,sl Ae m,sl Ax (JJ l m)]),(11,.msl 11 ((((Bp.take i).flatten).map Ax).length+(Bp[i].map Ax).length)),(27,sl BZ Bp),(28,vi (Bp.map BZ).length),(29,vi i)] [(4,.ro (Ic x ifs)),(11,.arr 1 ((((Bp.take i).flatten).map Ax)++(Bp[i].map Ax)))] Z7 Z2 (Yi (Ii i ch) ?_));have GU:gy Bp[i]=true:=by rw[gy,h4,Bool.and_true];cases e:Bp[i]with | nil=>exact absurd (by rw[e];rfl) h2 | cons a r=>rfl
   have ew:(((Bp.take i).flatten).map Ax++(Bp[i]).map Ax)=((Bp.take (i+1)).flatten).map Ax:=by rw[Gz n1,As]
   refine Xi ⟨i+1,n1,fun j hj h=>by rcases B4 j i with hg | hg;exact i2 j hj hg;have e:j=i:=ch;subst e;exact GU⟩ ?_;exact⟨Dl Bp.length i ch,⟨Zr,Zr,Zr,⟨(show AV.msl 11 ((((Bp.take i).flatten).map Ax).length+(Bp[i].map Ax).length)=.msl 11 ((Bp.take (i+1)).flatten).length by rw[Gz n1,Ac,Lm,Lm]),rfl⟩,Zr,Zr,Zr,Tv⟩,⟨Zr,⟨(show HO.arr 1 ((((Bp.take i).flatten).map Ax)++(Bp[i].map Ax))=.arr 1 (((Bp.take (i+1)).flatten).map Ax)from Aa (HO.arr 1) ew),rfl⟩,Tv⟩,Fh,Tv⟩
  refine Xi .pure (Xi _ (Yi (cb h4 (cd Bp[i] (AG (RA _ (Al n1)) Cl))) ?_));exact CY.of_eq (Aa vi (show 1=Hx x l m Bp by rw[Hx,Ao c0,Aj (nJ n1 (by rw[gy,h4,Ck]))]))
 have h1:¬((i:Int)<((Bp.map BZ).length:Int)):=h1;have n1:=Dd h1;have GE:Bp.all gy=true:=vv i2 (A3 (Dd h1));have ef:(Bp.take i).flatten=Bp.flatten:=by rw[At (A3 (Dd h1))]
 have hs:=zj Bp.flatten (Mr Bp.flatten) YU (qg DD GE) (J6 _).1 (J6 _).2;rw[<-ef]at hs;refine Xi (.gen [(11,1000)] 0) (Yi rfl (Bc.to2 hs ?_));refine Yi (show((Bp.take i).flatten).length=((Mr ((Bp.take i).flatten)).map Ax).length by rw[Lm,(J6 _).1.length_eq]) ?_;refine cU [(3,sl BZ Bp),(4,.ref 4 0),(9,.cptr [.cmap Cr (CN x l),.cmap Cr (CN x m),sl Ae l,sl Ae m,sl Ax (JJ l m)]),(11,sl Ax (Mr ((Bp.take i).flatten)))] [(4,.ro (Ic x ifs))] Z4 Z1 (BN (Bt (decide (Mr ((Bp.take i).flatten)=JJ l m))) (fun h8=>?_) (fun h8=>?_))
 .have h8:(decide (Mr ((Bp.take i).flatten)=JJ l m))=true:=h8;have heq:Mr Bp.flatten=JJ l m:=by rw[<-ef];exact AK h8
  refine Xi .pure (Xi _ (Yi (cb h8 (sr (Mr ((Bp.take i).flatten)) (JJ l m) (SH i))) (Xi {q:Nat // q<=Bp.length/\∀j,j<q->wvI x l m Bp j=true} (Xi (fun q=>⟨[(4,.ref 4 0),(9,.cptr [.cmap Cr (CN x l),.cmap Cr (CN x m),sl Ae l,sl Ae m,sl Ax (JJ l m)]),(14,.slice (.id 14 1) (((Bp.take q.1).flatten).map Ax)),(54,sl BZ Bp),(55,vi (Bp.map BZ).length),(56,vi q.1)],[(4,.ro (Ic x ifs)),(14,.tok 1 (((Bp.take q.1).flatten).map Ax).length)],Af⟩) (Xi (fun q=>Bp.length-q.1) (Yi (Xi ⟨0,AA _,fun j h=>absurd h ch⟩ ?_) ?_))))))
  .exact⟨Z6,Z2,Fh,Tv⟩
  intro⟨k,k1,k2⟩;have k1:k<=Bp.length:=k1;have k2:∀j,j<k->wvI x l m Bp j=true:=k2;refine Yi (fun h9=>?_) (fun h9=>?_)
  .have h9:(k:Int)<((Bp.map BZ).length:Int):=h9;have n9:=EE h9;have hfk:B8 (Bp.take (k+1)).flatten:=TK _;have Ahf:(Bp.take k).flatten.length<=1073741824:=TK k;have Xs:=RA _ (Al n9);refine Xi (BZ Bp[k]) (Yi (IU n9) (Yi rfl ?_));have WU:Cf 1 (Bp[k].map Ax)/\(((Bp.take k).flatten).map Ax).length=(((Bp.take k).flatten).map Ax).length/\((((Bp.take k).flatten).map Ax).length+(Bp[k].map Ax).length)*16<=140737488355328/\(((Bp.take k).flatten).map Ax).length+(Bp[k].map Ax).length<=9223372036854775807:=⟨(DK (enc:=Ax) (n:=1) (fun _=>rfl) Bp[k]),rfl,(by simp only[Lm];omega),(by simp only[Lm];omega)⟩;refine Yi WU ?_;have ew:(((Bp.take k).flatten).map Ax++(Bp[k]).map Ax)=((Bp.take (k+1)).flatten).map Ax:=by rw[Gz n9,As]
   refine cU [(4,.ref 4 0),(9,.cptr [.cmap Cr (CN x l),.cmap Cr (CN x m),sl Ae l,sl Ae m,sl Ax (JJ l m)]),(14,.slice (.id 14 1) (((Bp.take (k+1)).flatten).map Ax)),(54,sl BZ Bp),(55,vi (Bp.map BZ).length),(56,vi k)] [(4,.ro (Ic x ifs)),(14,.tok 1 (((Bp.take (k+1)).flatten).map Ax).length)] ⟨Zr,Zr,⟨(Aa (AV.slice (.id 14 1)) ew),rfl⟩,Zr,Zr,Zr,Tv⟩ ⟨Zr,⟨(show HO.tok 1 ((((Bp.take k).flatten).map Ax).length+(Bp[k].map Ax).length)=.tok 1 (((Bp.take (k+1)).flatten).map Ax).length from Aa (HO.tok 1) (Ac.symm.trans (Aa List.length ew))),rfl⟩,Tv⟩ (yN (Xi _ (Yi (te x l m ((Bp.take (k+1)).flatten) (GQ (MI c0).1 hl) (GQ (MI c0).2 SC) (show(Ti l m ((Bp.take (k+1)).flatten)).length<=1073741824 by have q:=PN l m ((Bp.take (k+1)).flatten);omega) hfk) ?_)));refine Xi _ (Yi (oP x ifs (D5 (Ti l m ((Bp.take (k+1)).flatten))) hx (show(D5 (Ti l m ((Bp.take (k+1)).flatten))).length<=1073741824 by rw[(HR _).length_eq];have q:=PN l m ((Bp.take (k+1)).flatten);omega)) ?_);refine Yi (fun MB=>?_) (fun MB=>?_)
   .have MB:((ER x (D5 (Ti l m ((Bp.take (k+1)).flatten)))):Int)≠(0:Int):=MB;refine Yi Wk ?_;exact CY.of_eq (Aa vi (show 17=Hx x l m Bp by rw[Hx,Ao c0,Ao GE,Ao heq,Aj (wy n9 (Av MB))]))
   have MB:((ER x (D5 (Ti l m ((Bp.take (k+1)).flatten)))):Int)=(0:Int):=AJ MB;refine Yi Wk (Yi (Ii k ch) (Xi ⟨k+1,n9,fun j h=>by rcases B4 j k with hg | hg;exact k2 j hg;have e:j=k:=ch;subst e;exact Ar MB⟩ ?_));exact⟨Dl Bp.length k ch,Z6,Z2,Fh,Tv⟩
  have h9:¬((k:Int)<((Bp.map BZ).length:Int)):=h9;have n9:=Dd h9;exact CY.of_eq (Aa vi (show 0=Hx x l m Bp by rw[Hx,Ao c0,Ao GE,Ao heq,Ao (wx k2 (A3 (Dd h9)))]))
 have h8:(decide (Mr ((Bp.take i).flatten)=JJ l m))=false:=h8;refine Xi .pure (Xi _ (Yi (cb h8 (sr (Mr ((Bp.take i).flatten)) (JJ l m) (SH i))) ?_));exact CY.of_eq (Aa vi (show 1=Hx x l m Bp by rw[Hx,Ao c0,Ao GE,Aj (by rw[<-ef];exact QG h8)]))
theorem ox:Mr []=[]:=FP.1 (by rw[(J6 _).1.length_eq];rfl)
theorem fq{x:List Rl}{l m:List Sl}(c0:Q0 x l m=0):Hx x l m []=if([]:List ByteArray)=JJ l m then 0 else 1:=by
 rw[Hx,Ao c0,Ao (show([]:List (List ByteArray)).all gy=true from rfl),show([]:List (List ByteArray)).flatten=[]from rfl,ox,Ao (show eQ x l m []=true from rfl)]
theorem wb(hx:∀r∈x,En r)(JS:l.length<=16)(FK:m.length<=16)(lim:Int)(hb:PC 161 [.v (.int .u64 (IntKind.u64.wrap (0:Int)))] (vi lim))(c0:Q0 x l m=0):PC 58 [.agg (Ic x ifs),sl Ae l,sl Ae m,sl BZ ([]:List (List ByteArray))] (vi (Hx x l m [])):=by
 have hl:B8 l:=AG JS Cl;have SC:B8 m:=AG FK Cl;refine Ps (pC [4] []) Tryz.func58 rfl (Nz rfl) (yN (Xi .pure (Xi _ (Yi (by have q:=o9 x ifs l m hx hl SC JS FK;rw[eH,Ao c0]at q;exact q) ?_))));refine Yi (fun h=>absurd h Cl) (fun _=>?_);refine Xi {q:Nat // q=0} (Xi (fun q=>⟨[(3,sl BZ ([]:List (List ByteArray))),(4,.ref 4 0),(9,.cptr [.cmap Cr (CN x l),.cmap Cr (CN x m),sl Ae l,sl Ae m,sl Ax (JJ l m)]),(11,nzA),(27,sl BZ ([]:List (List ByteArray))),(28,vi (([]:List (List ByteArray)).map BZ).length),(29,vi q.1)],[(4,.ro (Ic x ifs))],Af⟩) (Xi (fun q=>q.1) (Yi (Xi ⟨0,rfl⟩ ?_) ?_)))
 .exact⟨Z7,Z1,Fh,Tv⟩
 intro⟨i,i1⟩;have i1:i=0:=i1;refine Yi (fun h1=>?_) (fun h1=>?_)
 .have h1:(i:Int)<((([]:List (List ByteArray)).map BZ).length:Int):=h1;have n1:=EE h1;exact absurd (EE h1) (Fi _)
 have h1:¬((i:Int)<((([]:List (List ByteArray)).map BZ).length:Int)):=h1;have n1:=Dd h1;refine Xi .pure (Xi _ (Yi (Aai lim hb) (BN (Bt (decide (([]:List ByteArray)=JJ l m))) (fun h2=>?_) (fun h2=>?_))))
 .have h2:(decide (([]:List ByteArray)=JJ l m))=true:=h2;refine Xi .pure (Xi _ (Yi (cb h2 ((sr ([]:List ByteArray) (JJ l m) Cl).args ⟨.nil,.refl _,trivial⟩)) (Xi {q:Nat // q=0} (Xi (fun q=>⟨[(4,.ref 4 0),(9,.cptr [.cmap Cr (CN x l),.cmap Cr (CN x m),sl Ae l,sl Ae m,sl Ax (JJ l m)]),(14,nzA),(54,sl BZ ([]:List (List ByteArray))),(55,vi (([]:List (List ByteArray)).map BZ).length),(56,vi q.1)],[(4,.ro (Ic x ifs))],Af⟩) (Xi (fun q=>q.1) (Yi (Xi ⟨0,rfl⟩ ?_) ?_))))))
  .exact⟨Z6,Z1,Fh,Tv⟩
  intro⟨k,k1⟩;have k1:k=0:=k1;refine Yi (fun h3=>?_) (fun h3=>?_)
  .have h3:(k:Int)<((([]:List (List ByteArray)).map BZ).length:Int):=h3;have n3:=EE h3;exact absurd (EE h3) (Fi _)
  have h3:¬((k:Int)<((([]:List (List ByteArray)).map BZ).length:Int)):=h3;have n3:=Dd h3;exact CY.of_eq (Aa vi (show 0=Hx x l m [] by rw[fq c0,Ao (AK h2)]))
 have h2:(decide (([]:List ByteArray)=JJ l m))=false:=h2;refine Xi .pure (Xi _ (Yi (cb h2 ((sr ([]:List ByteArray) (JJ l m) Cl).args ⟨.nil,.refl _,trivial⟩)) ?_));exact CY.of_eq (Aa vi (show 1=Hx x l m [] by rw[fq c0,Aj (QG h2)]))
structure Wv where
 paths:List ByteArray
 stages:List Uc
abbrev Bs(v:Wv):List AV:=[sl Ax v.paths,sl Eh v.stages]
structure Ro where
 name:ByteArray
 waves:List Wv
variable (r:Ro)
abbrev Ce:List AV:=[vs r.name,sl Bs r.waves]
theorem Aa3(hx:∀r∈x,En r)(JS:l.length<=16)(FK:m.length<=16)(ci:Bp.length<=1000)(RA:∀p∈Bp,p.length<=1000):PC 58 [HH x ifs,sl Ae l,sl Ae m,sl BZ Bp] (vi (Hx x l m Bp)):=by
 by_cases c0:Q0 x l m=0
 .by_cases DD:Bp=[]
  .subst DD;obtain⟨lim,_,hb⟩:=lr 0 (AA _);exact wb x ifs l m hx JS FK lim hb c0
  .refine wa x ifs l m Bp hx JS FK ci (fun p hp=>AG (RA p hp) Cl) (fun i=>?_) DD c0;have q:=TE RA Bp.length;have q2:(Bp.take i).flatten.length<=Bp.flatten.length:=by
    conv=>rhs;rw[<-Gx i Bp,Ci,Ac]
    omega
   rw[B9]at q;have q3:=Bh 1000 ci;omega
 .exact v8 x ifs l m Bp hx JS FK ch (fun p hp=>AG (RA p hp) Cl) c0
theorem LW{α:Type}(f:α->List AV)(l:List α)(n:Nat):((l.map f).take ((n:Nat):Int).toNat).drop (0:Int).toNat=(l.take n).map f:=by
 rw[Ch,Tg];rfl
theorem Zp(n:Nat)(hn:n<=r.waves.length)(hl:B8 r.waves):PC 56 [.agg (Ce r),vi (n:Nat)] (sl BZ ((r.waves.take n).map (·.paths))):=by
 have hl:r.waves.length<=1073741824:=hl;have hrn:(r.waves.take n).length<=n:=by rw[Aw];omega
 refine Ps (pT [2] [(5,1)] []) Tryz.func56 rfl (Nz rfl) (Yi (show(0:Int)<=0/\(0:Int)<=(n:Nat)/\((n:Nat):Int)<=((r.waves.map Bs).length:Nat) by rw[Lm];omega) (Yi (YC (enc:=Bs) (n:=2) (fun _=>rfl) r.waves) (Xi {q:Nat // q<=(r.waves.take n).length} (Xi (fun q=>⟨[(5,.slice (.id 5 1) ((((r.waves.take n).take q.1).map (·.paths)).map BZ)),(11,sl Bs (r.waves.take n)),(12,vi ((r.waves.take n).map Bs).length),(13,vi q.1)],[(5,.tok 1 ((((r.waves.take n).take q.1).map (·.paths)).map BZ).length)],Af⟩) (Xi (fun q=>(r.waves.take n).length-q.1) (Yi (Xi ⟨0,AA _⟩ ?_) ?_))))))
 .exact⟨⟨Zr,⟨(Aa (AV.slice .none) (LW Bs r.waves n)),rfl⟩,⟨(Aa (fun z:List (List AV)=>vi (z.length:Nat)) (LW Bs r.waves n)),rfl⟩,Zr,Tv⟩,Z1,Fh,Tv⟩
 intro⟨i,i1⟩;have i1:i<=(r.waves.take n).length:=i1;refine Yi (fun h1=>?_) (fun h1=>?_)
 .have h1:(i:Int)<(((r.waves.take n).map Bs).length:Int):=h1;have n1:=EE h1;have hq:((r.waves.take n).take i).length<=1073741824:=by rw[Aw];omega
  refine Xi (Bs ((r.waves.take n)[i])) (Yi (IU n1) (Yi rfl (yN (yN ?_))));have b2:Cf 1 [[sl Ax ((r.waves.take n)[i]).paths]]/\((((r.waves.take n).take i).map (·.paths)).map BZ).length=((((r.waves.take n).take i).map (·.paths)).map BZ).length/\(((((r.waves.take n).take i).map (·.paths)).map BZ).length+([[sl Ax ((r.waves.take n)[i]).paths]]:List (List AV)).length)*24<=140737488355328/\((((r.waves.take n).take i).map (·.paths)).map BZ).length+([[sl Ax ((r.waves.take n)[i]).paths]]:List (List AV)).length<=9223372036854775807:=⟨⟨rfl,trivial⟩,rfl,(by simp only[Lm,Am,Au];omega),(by simp only[Lm,Am,Au];omega)⟩;refine Yi b2 (Yi (Ii i ch) ?_);have ew:((((r.waves.take n).take i).map (·.paths)).map BZ++[[sl Ax ((r.waves.take n)[i]).paths]])=((((r.waves.take n).take (i+1)).map (·.paths)).map BZ):=by rw[Ek n1,As,As];rfl
  refine Xi ⟨i+1,n1⟩ ?_;exact⟨by show(r.waves.take n).length-(i+1)<(r.waves.take n).length-i;omega,⟨⟨(Aa (AV.slice (.id 5 1)) ew),rfl⟩,Zr,Zr,Zr,Tv⟩,⟨⟨(show HO.tok 1 (((((r.waves.take n).take i).map (·.paths)).map BZ).length+([[sl Ax ((r.waves.take n)[i]).paths]]:List (List AV)).length)=.tok 1 ((((r.waves.take n).take (i+1)).map (·.paths)).map BZ).length from Aa (HO.tok 1) (Ac.symm.trans (Aa List.length ew))),rfl⟩,Tv⟩,Fh,Tv⟩
 have h1:¬((i:Int)<(((r.waves.take n).map Bs).length:Int)):=h1;have n1:=Dd h1;exact CY.of_eq (show sl BZ (((r.waves.take n).take i).map (·.paths))=sl BZ ((r.waves.take n).map (·.paths)) by rw[At (l:=r.waves.take n) (i:=i) (A3 (Dd h1))])
def Kx:List Wv->Int
 | []=>0
 |v::r=>if Dr v.stages=0 then Kx r else Dr v.stages
def MS:List (List ByteArray):=r.waves.map (·.paths)
def KV:Int:=if Hx x l m (MS r)=0 then if 65536<r.name.size then 7 else Kx r.waves else Hx x l m (MS r)
theorem zX{l:List Wv}(h:i<l.length)(k:Dr l[i].stages=0):Kx (l.drop i)=Kx (l.drop (i+1)):=by rw[AI h,Kx,Ao k]
theorem zW{l:List Wv}(h:i<l.length)(k:¬Dr l[i].stages=0):Kx (l.drop i)=Dr l[i].stages:=by rw[AI h,Kx,Aj k]
structure MV(r:Ro):Prop where
 wv:r.waves.length<=1000
 st:∀v∈r.waves,v.stages.length<=1073741824
 pt:∀v∈r.waves,v.paths.length<=1000
theorem Zq(hx:∀r∈x,En r)(JS:l.length<=16)(FK:m.length<=16)(hr:MV r):PC 23 [.agg (Ic x ifs),sl Ae l,sl Ae m,.agg (Ce r)] (vi (KV x l m r)):=by
 have hwl:r.waves.length<=1000:=hr.wv;refine Ps (pC [4,7] [4]) Tryz.func23 rfl (Nz rfl) (yN (yN (Xi _ (Yi (by have q:=Zp r r.waves.length (Ak _) (AG hr.wv Cl);rw[B9]at q;exact show PC 56 [.agg (Ce r),vi ((r.waves.map Bs).length:Nat)] (sl BZ (MS r)) by rw[Lm];exact q) ?_))));refine Xi _ (Yi (Aa3 x ifs l m (MS r) hx JS FK (by rw[MS,Lm];exact hr.wv) (fun p hp=>by obtain⟨v,hv,rfl⟩:=Ai.1 hp;exact hr.pt v hv)) ?_);refine Yi Wk (Yi (fun h1=>?_) (fun h1=>?_))
 .have h1:((Hx x l m (MS r)):Int)≠(0:Int):=h1;exact CY.of_eq (Aa vi (show(Hx x l m (MS r))=KV x l m r by rw[KV,Aj h1]))
 have h1:((Hx x l m (MS r)):Int)=(0:Int):=AJ h1;refine cU [(7,.ref 7 0)] [(7,.ro (Ce r))] Z1 Z1 (Yi (fun h3=>?_) (fun h3=>?_))
 .have h3:(65536:Int)<(r.name.size:Int):=h3;exact CY.of_eq (Aa vi (show 7=KV x l m r by rw[KV,Ao h1,Ao ch]))
 have h3:¬((65536:Int)<(r.name.size:Int)):=h3;refine Xi {q:Nat // q<=r.waves.length/\Kx (r.waves.drop q)=Kx r.waves} (Xi (fun q=>⟨[(30,sl Bs r.waves),(31,vi (r.waves.map Bs).length),(32,vi q.1)],[],Af⟩) (Xi (fun q=>r.waves.length-q.1) (Yi (Xi ⟨0,AA _,rfl⟩ ?_) ?_)))
 .exact⟨Z3,Tv,Fh,Tv⟩
 intro⟨i,i1,i2⟩;have i1:i<=r.waves.length:=i1;have i2:Kx (r.waves.drop i)=Kx r.waves:=i2;refine Yi (fun h5=>?_) (fun h5=>?_)
 .have h5:(i:Int)<((r.waves.map Bs).length:Int):=h5;have n5:=EE h5;refine Xi (Bs r.waves[i]) (Yi (IU n5) (Yi rfl (yN (yN (Xi .pure (Xi _ (Yi (VX r.waves[i].stages (hr.st _ (Al n5))) (Yi (fun h6=>?_) (fun h6=>?_)))))))))
  .have h6:((Dr r.waves[i].stages):Int)≠(0:Int):=h6;exact CY.of_eq (Aa vi (show(Dr r.waves[i].stages)=KV x l m r by rw[KV,Ao h1,Aj ch,<-i2,zW n5 h6]))
  have h6:((Dr r.waves[i].stages):Int)=(0:Int):=AJ h6;refine Yi (Ii i ch) (Xi ⟨i+1,n5,by rw[<-i2,zX n5 h6]⟩ ?_);exact⟨Dl r.waves.length i ch,Z3,Tv,Fh,Tv⟩
 have h5:¬((i:Int)<((r.waves.map Bs).length:Int)):=h5;have n5:=Dd h5;exact CY.of_eq (Aa vi (show 0=KV x l m r by rw[KV,Ao h1,Aj ch,<-i2,Cv (A3 (Dd h5))];rfl))
end Go.Eng
namespace Go.Eng
open Go.Proofs
open Go.RowKit
variable (x:List Rl)(r:Ro)(user:ByteArray)(AR:Int)(i:Nat)
theorem j7 : Tryz.prog.globalNamed "internal/strconv.uint64pow10" = some 1 := by decide +kernel
theorem vO {w : World} (h : ∀ x ∈ me, w.cell? ⟨x.1, x.2.1, none⟩ = x.2.2) : Go.Lib.TabIs Tryz.prog w "internal/strconv.uint64pow10" .u64 Go.Lib.pow10Tab := by
 unfold Go.Lib.TabIs World.var?;rw[j7];simp only[Option.bind_some];have h20:=h (1,20,none) (Ab ..);have hi:∀i,i<20->w.cell? ⟨1,i,none⟩=some (.int .u64 ((10 ^ i:Nat):Int)):=fun i hi=>h (1,i,some (.int .u64 ((10 ^ i:Nat):Int))) (Ah _ (Ai.2 ⟨i,FC.2 hi,rfl⟩));have h0:=hi 0 Cl;unfold World.cell? at h0 h20 hi;cases e:w.heap[1]? with
 |none=>rw[e]at h0;cases h0
 |some o=>
  cases o with
  |cells cs E fr=>
   simp only[e,PD,Do,Gu]at h20 hi;have hs:cs.size=20:=by
    have fI:=hi 19 Cl
    have:=(Bu.1 fI).1
    have:=Array.getElem?_eq_none_iff.1 h20
    omega
   show some cs=_
   congr 1
   apply Pr
   .simp[hs,Go.Lib.pow10Tab]
   .intro i h1 h2
    have:=hi i ch
    rw[A7 h1]at this;rw[Cq this];simp[Go.Lib.pow10Tab]
  |_=>rw[e]at h0;simp at h0
theorem wk(n:Int)(h:Ba n):PC 53 [vi n] (vs (mV n)):=by
 unfold Ba at h;refine Nu [.int .i64 n] (.string (mV n)) (ah 53 Tryz.func53 Wk rfl) rfl (fun g w=>.v _ _) fun w _ ht=>?_;refine(Any.strconv_Itoa Tryz.layItoa n h.1 ch w (vO ht)).mono ?_
 rintro e w' ⟨rfl,k,os,rfl⟩
 exact⟨rfl,Go.Lib.below_grow _ _ (Ak _) _ _⟩
theorem Vb{n:Int}(h0:-9223372036854775808<=n)(h1:n<=9223372036854775807):(mV n).size<=21:=by
 unfold mV;rw[show ∀l:List UInt8,(mkB l).size=l.length from fun l=>by simp[ByteArray.size]];exact Go.Lib.itoa_length_le n h0 h1
def Tw(v:Wv):Bool:=decide (GK v.stages AR<=iJ ((r.name++⟨#[47]⟩)++mV (i:Int)) user)
def LY(r:Ro)(user:ByteArray)(AR:Int):Nat->List Wv->Nat
 |i,[]=>i
 |i,v::l=>if Tw r user AR i v=true then i else LY r user AR (i+1) l
def TZ:Nat:=LY r user AR 0 r.waves
theorem xQ{r:Ro}{user:ByteArray}{AR:Int}{i:Nat}(h:i<r.waves.length)(k:Tw r user AR i r.waves[i]=false):LY r user AR i (r.waves.drop i)=LY r user AR (i+1) (r.waves.drop (i+1)):=by
 rw[AI h,LY,Aj (by rw[k];decide)]
theorem uu{r:Ro}{user:ByteArray}{AR:Int}{i:Nat}(h:i<r.waves.length)(k:Tw r user AR i r.waves[i]=true):LY r user AR i (r.waves.drop i)=i:=by
 rw[AI h,LY,Ao k]
theorem ti(hi:i<r.waves.length)(hw:r.waves.length<=1000)(Kh:B8 r.waves[i].stages)(hn:r.name.size<=10000000)(hu:user.size<=100000000):PC 52 [vi i,.cptr (Ce r),.cptr [vs user],.cptr [vi AR]] (vb (Tw r user AR i r.waves[i])):=by
 refine Ps Ej Tryz.func52 rfl (Nz rfl) (Yi (show(((r.name:ByteArray).size+(⟨#[47]⟩:ByteArray).size:Nat):Int)<=9223372036854775807 by have q:=Vb (n:=(i:Int)) ch ch;have q2:(⟨#[47]⟩:ByteArray).size=1:=rfl;omega) ?_);refine Xi _ (Yi (wk (i:Int) (by unfold Ba;omega)) (Yi (show(((r.name++⟨#[47]⟩:ByteArray).size+((mV (i:Int)):ByteArray).size:Nat):Int)<=9223372036854775807 by have q:=Vb (n:=(i:Int)) ch ch;have q2:(⟨#[47]⟩:ByteArray).size=1:=rfl;simp only[CX];omega) ?_));refine Xi _ (Yi (Aa5 ((r.name++(⟨#[47]⟩:ByteArray))++mV (i:Int)) user (by have q:=Vb (n:=(i:Int)) ch ch;simp only[CX];have q2:(⟨#[47]⟩:ByteArray).size=1:=rfl;omega) hu) ?_);refine Xi (Bs r.waves[i]) (Yi (IU hi) (Yi rfl (Xi _ (Yi (tj r.waves[i].stages AR Kh) (Yi (fun h1=>?_) (fun h1=>?_))))))
 .have h1:((GK r.waves[i].stages AR):Int)<=((iJ ((r.name++(⟨#[47]⟩:ByteArray))++mV (i:Int)) user):Int):=h1;refine Yi Wk ?_;exact CY.of_eq (Aa vb (show true=Tw r user AR i r.waves[i]from(Ar h1).symm))
 have h1:¬(((GK r.waves[i].stages AR):Int)<=((iJ ((r.name++(⟨#[47]⟩:ByteArray))++mV (i:Int)) user):Int)):=h1;refine Yi Wk ?_;exact CY.of_eq (Aa vb (show false=Tw r user AR i r.waves[i]from(Av h1).symm))
def kP(l m:List Sl)(r:Ro)(user:ByteArray)(AR:Int):AV:=if KV x l m r=0 then .tup [vi (TZ r user AR:Nat),vi 0]else .tup [vi 0,vi (KV x l m r)]
theorem g8(ifs:List (List AV))(l m:List Sl)(r:Ro)(user:ByteArray)(AR:Int)(hx:∀r∈x,En r)(JS:l.length<=16)(FK:m.length<=16)(hr:MV r)(hn:r.name.size<=10000000)(hu:user.size<=100000000):PC 19 [.agg (Ic x ifs),sl Ae l,sl Ae m,.agg (Ce r),vs user,vi AR] (kP x l m r user AR):=by
 have hwl:r.waves.length<=1000:=hr.wv;refine Ps (pC [6,9,10,11] [4]) Tryz.func19 rfl (Nz rfl) (yN (yN (Xi .pure (Xi _ (Yi (Zq x ifs l m r hx JS FK hr) (Yi (fun h1=>?_) (fun h1=>?_)))))))
 .have h1:((KV x l m r):Int)≠(0:Int):=h1;exact CY.of_eq (show AV.tup [vi 0,vi (KV x l m r)]=kP x l m r user AR by rw[kP,Aj h1])
 have h1:((KV x l m r):Int)=(0:Int):=AJ h1;refine cU [(9,.ref 9 0),(10,.ref 10 0),(11,.ref 11 0)] [(9,.ro (Ce r)),(10,.ro [vs user]),(11,.ro [vi AR])] Z3 Z3 (Xi {q:Nat // q<=r.waves.length/\LY r user AR q (r.waves.drop q)=TZ r user AR} (Xi (fun q=>⟨[(9,.ref 9 0),(15,.clo 52 [.cptr (Ce r),.cptr [vs user],.cptr [vi AR]]),(28,vi (r.waves.map Bs).length),(29,vi q.1)],[(9,.ro (Ce r))],Af⟩) (Xi (fun q=>r.waves.length-q.1) (Yi (Xi ⟨0,AA _,rfl⟩ ?_) ?_))))
 .exact⟨Z4,Z1,Fh,Tv⟩
 intro⟨i,i1,i2⟩;have i1:i<=r.waves.length:=i1;have i2:LY r user AR i (r.waves.drop i)=TZ r user AR:=i2;refine Yi (fun h3=>?_) (fun h3=>?_)
 .have h3:(i:Int)<((r.waves.map Bs).length:Int):=h3;have n3:=EE h3;refine BN (Bt (Tw r user AR i r.waves[i])) (fun h4=>?_) (fun h4=>?_)
  .have h4:(Tw r user AR i r.waves[i])=true:=h4;refine Xi .pure (Xi _ (Yi (cb h4 (ti r user AR i n3 hr.wv (hr.st _ (Al n3)) hn hu)) ?_));exact CY.of_eq (show AV.tup [vi i,vi 0]=kP x l m r user AR by rw[kP,Ao h1,<-i2,uu n3 h4])
  have h4:(Tw r user AR i r.waves[i])=false:=h4;refine Xi .pure (Xi _ (Yi (cb h4 (ti r user AR i n3 hr.wv (hr.st _ (Al n3)) hn hu)) (Yi (Ii i ch) (Xi ⟨i+1,n3,by rw[<-i2,xQ n3 h4]⟩ ?_))));exact⟨Dl r.waves.length i ch,Z4,Z1,Fh,Tv⟩
 have h3:¬((i:Int)<((r.waves.map Bs).length:Int)):=h3;have n3:=Dd h3;exact CY.of_eq (show AV.tup [vi (r.waves.map Bs).length,vi 0]=kP x l m r user AR by rw[kP,Ao h1,<-i2,Cv (A3 (Dd h3)),Lm,show i=r.waves.length by have q:=Dd h3;omega];rfl)
end Go.Eng
namespace Go.Proofs
open Go.Shelf
def Tryz.layGrow_ren:Go.Shelf.Ren:=⟨fun | 4=>94 | n=>n,fun | 22=>52 | 25=>9 | 3=>3 | 4=>4 | 9=>9 | 20=>20 | 0=>0 | n=>n,fun | n=>n⟩
theorem Tryz.layGrow:Go.Proofs.Lays8.n4 Tryz.prog Tryz.layGrow_ren:={
 mixed:=by kernel_rfl
 f4:=⟨Tryz.f94.name,by decide,Tryz.func94.trans (congrArg some Go.Eng.Wk)⟩
 t0:=Tryz.underlying0
 a0:=Tryz.isAgg0
 z0:=Tryz.sizeOf0
 v0:=Tryz.zeroValue0
 t3:=Tryz.underlying3
 a3:=Tryz.isAgg3
 z3:=Tryz.sizeOf3
 v3:=Tryz.zeroValue3
 t4:=Tryz.underlying4
 a4:=Tryz.isAgg4
 z4:=Tryz.sizeOf4
 v4:=Tryz.zeroValue4
 t9:=Tryz.underlying9
 a9:=Tryz.isAgg9
 z9:=Tryz.sizeOf9
 v9:=Tryz.zeroValue9
 t20:=Tryz.underlying20
 a20:=Tryz.isAgg20
 z20:=Tryz.sizeOf20
 v20:=Tryz.zeroValue20
 t22:=Tryz.underlying52
 a22:=Tryz.isAgg52
 z22:=Tryz.sizeOf52
 v22:=Tryz.zeroValue52 }
end Go.Proofs
