/- Lemmas 31. -/
import Derived.Test.YteaiieomnhbmgaaGreatDoorAA30
import Derived.Lib.AppendIntMem
import Derived.Lib.ItoaLen
import Derived.Shelf.Spec.SlicesGrow
import Derived.Shelf.SlGeneric
import Derived.Ground.Names8Prog
set_option maxHeartbeats 4000000
namespace Go.Eng
open Go.Proofs
open Go.Sort Go.Lib
variable {p:ByteArray}{j i:Nat}{b:AV}(l m:List Sl)(mv:List ByteArray)
theorem zk(x y:SlA):ltOf cfBt x y=Ek x.1 y.1:=by
 rw[Gr];unfold ltOf cfBt;cases h:Op.bytesLess x.1.toList y.1.toList with
 |true=>rfl
 |false=>rfl
theorem nl{Cc:List (Value×AV)}{k k' : Value}{a:AV}:(k',b)∈Fa Cc k a↔(k'=k/\b=a)\/(k'≠k/\(k',b)∈Cc):=by
 by_cases h:∃a',(k,a')∈Cc
 .obtain⟨a',ha⟩:=h;rw[NY ha,Ai];constructor
  .rintro⟨p,hp,e⟩
   by_cases hk:p.1=k
   .rw[Al hk]at e;cases e;exact .inl Zr
   .rw[Aj hk]at e;subst e;exact .inr ⟨hk,hp⟩
  .rintro(⟨rfl,rfl⟩ | ⟨hk,hp⟩)
   .exact⟨_,ha,Al rfl⟩
   .exact⟨_,hp,Aj hk⟩
 .have h2:∀a',(k,a')∉Cc:=fun a' e=>h ⟨a',e⟩;rw[I0 h2,AO,Ar];constructor
  .rintro(hp | e)
   .exact .inr ⟨fun e=>h2 b (e▸hp),hp⟩
   .cases e;exact .inl Zr
  .rintro(⟨rfl,rfl⟩ | ⟨hk,hp⟩)
   .exact .inr rfl
   .exact .inl hp
def Hs(p:ByteArray):Bool:=mv.any fun q=>decide (q=p)
noncomputable def lS:List (Value×AV):=mv.foldl (fun m p=>Fa m (.string p) (vb true)) []
theorem qi{mv:List ByteArray}(h:i<mv.length):Fa (lS (mv.take i)) (.string mv[i]) (vb true)=lS (mv.take (i+1)):=by
 rw[BM h,lS,lS,Ef];rfl
theorem Vo{mv:List ByteArray}:Hs mv p=true↔p∈mv:=by
 unfold Hs;rw[Be];exact⟨fun⟨q,hq,e⟩=>AU e▸hq,fun h=>⟨p,h,Ay rfl⟩⟩
theorem Rw:(Value.string p,b)∈lS mv↔Hs mv p=true/\b=vb true:=by
 have go:∀(l:List ByteArray) (m:List (Value×AV)),(Value.string p,b)∈l.foldl (fun m p=>Fa m (.string p) (vb true)) m↔(p∈l/\b=vb true)\/(p∉l/\(Value.string p,b)∈m):=fun l=>by
  induction l with
  |nil=>intro m;simp
  |cons a l ih=>
   intro m;rw[Fq,ih,nl]
   by_cases h1:p∈l
   .simp[h1]
   .by_cases h2:p=a
    .subst h2;simp[h1]
    .have h3:Value.string p≠Value.string a:=fun e=>h2 (by injection e);simp[h1,h2,h3]
 rw[Vo];have q:=go mv [];unfold lS;rw[q];simp
def Tp:List Sl:=l.filter (fun s=>!Hs mv s.path)++m.filter (fun s=>Hs mv s.path)
theorem Tb{l:List Sl}(h:l.Pairwise Vl)(p:Sl->Bool):((l.filter p).map (·.path)).Nodup:=by
 have q:=List.Pairwise.filter p h;rw[List.nodup_iff_pairwise_ne,Lx];exact q.imp fun {a b} dy e=>by
  have dy:Ek a.path b.path=true:=dy;rw[e,Dn]at dy;cases dy
theorem Uq{l m:List Sl}(hl:l.Pairwise Vl)(hm:m.Pairwise Vl)(mv:List ByteArray):((Tp l m mv).map (·.path)).Nodup:=by
 rw[Tp,As,FW];refine⟨Tb hl _,Tb hm _,fun a ha b hb e=>?_⟩;obtain⟨s,hs,rfl⟩:=Ai.1 ha;obtain⟨t,ht,e2⟩:=Ai.1 hb;have h1:=(Bz.1 hs).2;have h2:=(Bz.1 ht).2;rw[show t.path=s.path from e2.trans e.symm]at h2;rw[h2]at h1;cases h1
def SA(j:Nat):List Sl:=(l.take j).filter fun s=>!Hs mv s.path
def Oc(k:Nat):List Sl:=SA l mv l.length++(m.take k).filter fun s=>Hs mv s.path
theorem qo{p:Sl->Bool}{l:List Sl}(h:i<l.length):(l.take (i+1)).filter p=(l.take i).filter p++if p l[i]=true then [l[i]]else []:=by
 rw[BM h,EP,Ep];rfl
theorem Abp{l:List Sl}{mv:List ByteArray}(h:j<l.length)(k:Hs mv l[j].path=false):SA l mv (j+1)=SA l mv j++[l[j]]:=by rw[SA,qo h,Al (by rw[k];rfl)];rfl
theorem Abo{l:List Sl}{mv:List ByteArray}(h:j<l.length)(k:Hs mv l[j].path=true):SA l mv (j+1)=SA l mv j:=by rw[SA,qo h,Aj (by rw[k];decide),BP];rfl
theorem Abr{l m:List Sl}{mv:List ByteArray}(h:j<m.length)(k:Hs mv m[j].path=true):Oc l m mv (j+1)=Oc l m mv j++[m[j]]:=by rw[Oc,qo h,Al (by rw[k]),<-BA];rfl
theorem Abq{l m:List Sl}{mv:List ByteArray}(h:j<m.length)(k:Hs mv m[j].path=false):Oc l m mv (j+1)=Oc l m mv j:=by rw[Oc,qo h,Aj (by rw[k];decide),BP];rfl
theorem lr(j:Nat):(SA l mv j).length<=l.length:=AI (Bw _ _) (by rw[Au];omega)
theorem lu(j:Nat):(Oc l m mv j).length<=l.length+m.length:=by
 rw[Oc,Ac];exact Nat.add_le_add (lr _ _ _) (AI (Bw _ _) (by rw[Au];omega))
theorem Yy:Oc l m mv m.length=Tp l m mv:=by rw[Oc,SA,B7,B7];rfl
theorem tc(x:List Rl)(l m:List Sl)(mv:List ByteArray)(hl:IP l)(SJ:IP m)(hbt:Cb (Tp l m mv))(dE:Cb mv):PC 77 [.cptr [.cmap Cq (CM x l),.cmap Cq (CM x m),sl Am l,sl Am m,sl AB (JM l m)],sl AB mv] (sl Am (Ec (Tp l m mv))):=by
 have hll:l.length<=1073741824:=hl.few;have hml:m.length<=1073741824:=SJ.few;have hvl:mv.length<=1073741824:=dE;refine Ps ⟨[],[],[(8,4)],[],[],[],[],[],[],[(200021,8)],[7,21]⟩ Tryz.func77 rfl (Nz rfl) (Xi {q:Nat // q<=mv.length} (Xi (fun q=>⟨[(0,.cptr [.cmap Cq (CM x l),.cmap Cq (CM x m),sl Am l,sl Am m,sl AB (JM l m)]),(5,.mref 13),(14,sl AB mv),(15,vi (mv.map AB).length),(16,vi q.1)],[(13,.map Cq (lS (mv.take q.1)))],Ae⟩) (Xi (fun q=>mv.length-q.1) (Yi (Xi ⟨0,Ax _⟩ ?_) ?_))))
 .exact⟨Z5,Z1,Fh,Tv⟩
 intro⟨i,i1⟩;refine Yi (fun h1=>?_) (fun h1=>?_)
 .have h1:(i:Int)<((mv.map AB).length:Int):=h1;have n1:=FO h1;refine Xi (AB mv[i]) (Yi (JL n1) (Yi rfl (Yi (Ii i ch) (Xi ⟨i+1,n1⟩ ?_))));exact⟨Dl mv.length i ch,Z5,⟨⟨(Aa (HO.map Cq) (qi n1)),rfl⟩,Tv⟩,Fh,Tv⟩
 have n1:=DP h1;have ei:mv.take i=mv:=At (Bm (DP h1));refine cU [(0,.cptr [.cmap Cq (CM x l),.cmap Cq (CM x m),sl Am l,sl Am m,sl AB (JM l m)]),(5,.mref 13)] [(13,.map Cq (lS mv))] Z2 ⟨⟨(Aa (fun z=>HO.map Cq (lS z)) ei),rfl⟩,Tv⟩ (Xi {q:Nat // q<=l.length} (Xi (fun q=>⟨[(0,.cptr [.cmap Cq (CM x l),.cmap Cq (CM x m),sl Am l,sl Am m,sl AB (JM l m)]),(5,.mref 13),(8,.msl 8 ((SA l mv q.1)).length),(26,sl Am l),(27,vi (l.map Am).length),(28,vi q.1)],[(8,.arr 4 ((SA l mv q.1).map Am)),(13,.map Cq (lS mv))],Ae⟩) (Xi (fun q=>l.length-q.1) (Yi (Xi ⟨0,Ax _⟩ ?_) ?_))))
 .exact⟨Z6,Z2,Fh,Tv⟩
 intro⟨j,j1⟩;refine Yi (fun h3=>?_) (fun h3=>?_)
 .have h3:(j:Int)<((l.map Am).length:Int):=h3;have n3:=FO h3;have hA:=lr l mv j;refine Xi (Am l[j]) (Yi (JL n3) (Yi rfl (yN (yN (Yi (fun a ha=>?_) (fun Od=>?_))))))
  .have ea:=((Rw mv).1 ha).2;have h4:Hs mv l[j].path=true:=((Rw mv).1 ha).1;subst ea;refine Yi (Ii j ch) ?_;have ew:=Abo (mv:=mv) n3 h4;refine Xi ⟨j+1,n3⟩ ?_;exact⟨Dl l.length j ch,⟨Zr,Zr,⟨(show AV.msl 8 ((SA l mv j)).length=.msl 8 (SA l mv (j+1)).length by rw[ew]),rfl⟩,Zr,Zr,Zr,Tv⟩,⟨⟨(show HO.arr 4 ((SA l mv j).map Am)=.arr 4 ((SA l mv (j+1)).map Am) by rw[ew]),rfl⟩,Zr,Tv⟩,Fh,Tv⟩
  have h4:Hs mv l[j].path=false:=by rw[AM];exact fun e=>Od _ ((Rw mv).2 ⟨e,rfl⟩)
  refine yN ?_;have b6:B5 4 [(Am l[j])]/\((SA l mv j).map Am).length=((SA l mv j)).length/\(((SA l mv j).map Am).length+([(Am l[j])]:List (List AV)).length)*40<=140737488355328/\((SA l mv j).map Am).length+([(Am l[j])]:List (List AV)).length<=9223372036854775807:=⟨⟨rfl,trivial⟩,(by first | (simp;done) | (rw[Lm];assumption)),(by simp only[Lm,Ag,Ao];omega),(by simp only[Lm,Ag,Ao];omega)⟩
  refine Yi b6 (Yi (Ii j ch) ?_);have ew:=Abp (mv:=mv) n3 h4;refine Xi ⟨j+1,n3⟩ ?_;exact⟨Dl l.length j ch,⟨Zr,Zr,⟨(show AV.msl 8 (((SA l mv j).map Am).length+([(Am l[j])]:List (List AV)).length)=.msl 8 (SA l mv (j+1)).length by rw[ew];simp),rfl⟩,Zr,Zr,Zr,Tv⟩,⟨⟨(show HO.arr 4 (((SA l mv j).map Am)++[(Am l[j])])=.arr 4 ((SA l mv (j+1)).map Am) by rw[ew,As];rfl),rfl⟩,Zr,Tv⟩,Fh,Tv⟩
 have h3:¬((j:Int)<((l.map Am).length:Int)):=h3;have n3:=DP h3;have ej:j=l.length:=by have q:=DP h3;omega
 have eb:SA l mv j=Oc l m mv 0:=by rw[ej,Oc,List.take_zero,List.filter_nil,BP]
 refine Xi {q:Nat // q<=m.length} (Xi (fun q=>⟨[(5,.mref 13),(8,.msl 8 ((Oc l m mv q.1)).length),(45,sl Am m),(46,vi (m.map Am).length),(47,vi q.1)],[(8,.arr 4 ((Oc l m mv q.1).map Am)),(13,.map Cq (lS mv))],Ae⟩) (Xi (fun q=>m.length-q.1) (Yi (Xi ⟨0,Ax _⟩ ?_) ?_)))
 .exact⟨⟨Zr,⟨(show AV.msl 8 (SA l mv j).length=.msl 8 (Oc l m mv 0).length by rw[eb]),rfl⟩,Zr,Zr,Zr,Tv⟩,⟨⟨(show HO.arr 4 ((SA l mv j).map Am)=.arr 4 ((Oc l m mv 0).map Am) by rw[eb]),rfl⟩,Zr,Tv⟩,Fh,Tv⟩
 intro⟨k,k1⟩;have k1:k<=m.length:=k1;refine Yi (fun h8=>?_) (fun h8=>?_)
 .have h8:(k:Int)<((m.map Am).length:Int):=h8;have n8:=FO h8;have hB:=lu l m mv k;refine Xi (Am m[k]) (Yi (JL n8) (Yi rfl (yN (yN (Yi (fun a ha=>?_) (fun Od=>?_))))))
  .have ea:=((Rw mv).1 ha).2;have h9:Hs mv m[k].path=true:=((Rw mv).1 ha).1;subst ea;refine yN ?_;have Xe:B5 4 [(Am m[k])]/\((Oc l m mv k).map Am).length=((Oc l m mv k)).length/\(((Oc l m mv k).map Am).length+([(Am m[k])]:List (List AV)).length)*40<=140737488355328/\((Oc l m mv k).map Am).length+([(Am m[k])]:List (List AV)).length<=9223372036854775807:=⟨⟨rfl,trivial⟩,(by first | (simp;done) | (rw[Lm];assumption)),(by simp only[Lm,Ag,Ao];omega),(by simp only[Lm,Ag,Ao];omega)⟩
   refine Yi Xe (Yi (Ii k ch) ?_);have ew:=Abr (mv:=mv) (l:=l) n8 h9;refine Xi ⟨k+1,n8⟩ ?_;exact⟨Dl m.length k ch,⟨Zr,⟨(show AV.msl 8 (((Oc l m mv k).map Am).length+([(Am m[k])]:List (List AV)).length)=.msl 8 (Oc l m mv (k+1)).length by rw[ew];simp),rfl⟩,Zr,Zr,Zr,Tv⟩,⟨⟨(show HO.arr 4 (((Oc l m mv k).map Am)++[(Am m[k])])=.arr 4 ((Oc l m mv (k+1)).map Am) by rw[ew,As];rfl),rfl⟩,Zr,Tv⟩,Fh,Tv⟩
  have h9:Hs mv m[k].path=false:=by rw[AM];exact fun e=>Od _ ((Rw mv).2 ⟨e,rfl⟩)
  refine Yi (Ii k ch) ?_;have ew:=Abq (mv:=mv) (l:=l) n8 h9;refine Xi ⟨k+1,n8⟩ ?_;exact⟨Dl m.length k ch,⟨Zr,⟨(show AV.msl 8 ((Oc l m mv k)).length=.msl 8 (Oc l m mv (k+1)).length by rw[ew]),rfl⟩,Zr,Zr,Zr,Tv⟩,⟨⟨(show HO.arr 4 ((Oc l m mv k).map Am)=.arr 4 ((Oc l m mv (k+1)).map Am) by rw[ew]),rfl⟩,Zr,Tv⟩,Fh,Tv⟩
 have h8:¬((k:Int)<((m.map Am).length:Int)):=h8;have n8:=DP h8;have ek:k=m.length:=by have q:=DP h8;omega
 have hs:=z7 zk 134 Tryz.closure134 (enters_of Tryz.func134 Wk rfl) (Tp l m mv) hbt (Uq hl.inc SJ.inc mv);rw[show Tp l m mv=(Oc l m mv k)from by rw[ek,Yy]]at hs;refine Xi (.gen [(8,1000)] 0) (Yi rfl (Ba.to2 hs ?_));refine Yi (show((Oc l m mv k)).length=((Ec ((Oc l m mv k))).map Am).length by rw[Lm,(Kz _).length_eq]) ?_;refine cU [(8,sl Am (Ec ((Oc l m mv k))))] [] Z1 Tv ?_
 exact CV.of_eq (show sl Am (Ec ((Oc l m mv k)))=sl Am (Ec (Tp l m mv)) by rw[ek,Yy])
end Go.Eng
namespace Go.Eng
open Go.Proofs
variable {i k:Nat}(x:List Rl)(ifs:List (List AV))(l m:List Sl)(p mv:List ByteArray)(Bp:List (List ByteArray))
theorem sj(l m:List (ByteArray))(hl:Cb l):PC 100 [sl AB l,sl AB m] (vb (decide (l=m))):=by
 refine Ps El Tryz.func100 rfl (Nz rfl) (Yi ?_ ?_)
 .intro h
  have:l≠m:=fun e=>h (by rw[e])
  rw[AD this];exact .refl _
 .intro h;have CQ:l.length=m.length:=by simp at h;omega
  refine Xi {i:Nat // i<=l.length/\l.take i=m.take i} (Xi (fun i=>⟨[(0,sl AB l),(1,sl AB m),(12,vi (l.map AB).length),(13,vi i.1)],[],Ae⟩) (Xi (fun i=>l.length-i.1) (Yi (Xi ⟨0,by simp⟩ ?_) ?_)))
  .exact⟨Z4,Tv,Fh,Tv⟩
  .intro⟨i,h1,h2⟩;refine Yi ?_ ?_
   .intro h;have h:i<l.length:=by simpa using h
    have h' : i<m.length:=by omega
    have hg:l[i]?=some l[i]:=Ge h;have TL : m[i]?=some m[i]:=Ge h';refine Xi (AB l[i]) (Yi (Yi (Nn i) (by simp[hg])) (Yi rfl ?_));refine Xi (AB m[i]) (Yi (Yi (Nn i) (by simp[TL])) (Yi rfl ?_));refine Yi ?_ ?_
    .intro h5;refine Yi Wk ?_
     have:l≠m:=fun e=>h5 (by subst e;rfl)
     rw[AD this];exact .refl _
    .intro h5;have e:l[i]=m[i]:=B6.1 h5;refine Yi Wk (Yi (by show AX ((i:Int)+1);unfold Cb at hl;unfold AX;omega) (Xi ⟨i+1,by omega,?_⟩ ?_))
     .rw[Bj,Bj,h2,hg,TL,e]
     .exact⟨Dl l.length i ch,Z4,Tv,Fh,Tv⟩
   .intro h;have h:¬i<l.length:=by simpa using h
    have e:l=m:=by
     rw[<-At (l:=l) (i:=i) ch,h2,At ch]
    rw[Ay e];exact .refl _
def wIx(l:List ByteArray)(p:ByteArray):Int:=JK (fun q=>decide (q=p)) l 0
theorem vT{l:List ByteArray}{p:ByteArray}:(∀q∈l,q≠p)->∀k:Int,JK (fun q=>decide (q=p)) l k=-1:=by
 induction l with
 |nil=>intro _ _;rfl
 |cons a l ih=>intro h k;rw[JK,Aj (by rw[decide_eq_true_iff];exact h a (Ab ..))];exact ih (fun q hq=>h q (Ah _ hq)) _
theorem Aaf(l:List ByteArray)(p:ByteArray)(hl:Cb l):PC 132 [sl AB l,vs p] (vi (wIx l p)):=by
 refine Ps El Tryz.func132 rfl (Nz rfl) (Xi {q:Nat // q<=l.length/\∀j (hj:j<l.length),j<q->l[j]≠p} (Xi (fun q=>⟨[(0,sl AB l),(1,vs p),(7,vi (l.map AB).length),(8,vi q.1)],[],Ae⟩) (Xi (fun q=>l.length-q.1) (Yi (Xi ⟨0,Ax _,fun j hj h=>absurd h ch⟩ ?_) ?_))))
 .exact⟨Z4,Tv,Fh,Tv⟩
 intro⟨i,i1,i2⟩;refine Yi (fun h1=>?_) (fun h1=>?_)
 .have h1:(i:Int)<((l.map AB).length:Int):=h1;have n1:=FO h1;refine Xi (AB l[i]) (Yi (JL n1) (Yi rfl (Yi (fun h2=>?_) (fun h2=>?_))))
  .exact CV.of_eq (Aa vi (show(i:Int)=wIx l p by rw[wIx,HT (p:=fun q=>decide (q=p)) (k:=0) n1 (fun j hj h=>AD (i2 j hj h)) (Ay (h2).symm)];omega))
  refine Yi (Ii i ch) (Xi ⟨i+1,n1,fun j hj h=>by rcases D1 j i with hg | hg;exact i2 j hj hg;have e:j=i:=ch;subst e;exact fun e=>h2 e.symm⟩ ?_);exact⟨Dl l.length i ch,Z4,Tv,Fh,Tv⟩
 have n1:=DP h1;exact CV.of_eq (Aa vi (show -1=wIx l p from(vT (fun q hq=>by obtain⟨j,hj,rfl⟩:=Ck.1 hq;exact i2 j hj (BC hj (Bm (DP h1)))) 0).symm))
theorem te(l:List ByteArray)(p:ByteArray)(hl:Cb l):PC 76 [sl AB l,vs p] (vb (Hs l p)):=by
 refine Ps El Tryz.func76 rfl (Nz rfl) (Xi .pure (Xi _ (Yi (Aaf l p hl) (Yi (fun h1=>?_) (fun h1=>?_)))))
 .exact CV.of_eq (Aa vb (show true=Hs l p by rw[Hs,<-HN (p:=fun q=>decide (q=p)) l 0 (Bu 0)];exact(Ay h1).symm))
 exact CV.of_eq (Aa vb (show false=Hs l p by rw[Hs,<-HN (p:=fun q=>decide (q=p)) l 0 (Bu 0)];exact(AD h1).symm))
theorem oT(p:ByteArray)(hl:Cb (JM l m)):PC 75 [vs p,.cptr [.cptr [.cmap Cq (CM x l),.cmap Cq (CM x m),sl Am l,sl Am m,sl AB (JM l m)]]] (vb (!Hs (JM l m) p)):=by
 refine Ps El Tryz.func75 rfl (Nz rfl) (Cf (Bt (Hs (JM l m) p)) (fun h1=>?_) (fun h1=>?_))
 .refine Xi .pure (Xi _ (Yi (cb h1 (te (JM l m) p hl)) ?_));exact CV.of_eq (Aa vb (show false=!Hs (JM l m) p by rw[h1];rfl))
 refine Xi .pure (Xi _ (Yi (cb h1 (te (JM l m) p hl)) ?_));exact CV.of_eq (Aa vb (show true=!Hs (JM l m) p by rw[h1];rfl))
def PO:Int:=if Sj x l m=0 then if mv.any (fun p=>!Hs (JM l m) p)=true then 6 else 0 else Sj x l m
def Ur:AV:=if PO x l m mv=0 then .tup [sl Am (Ec (Tp l m mv)),vi 0]else .tup [nzA,vi (PO x l m mv)]
theorem OK{x:List Rl}{l m:List Sl}(h:Sj x l m=0):OD x l=0/\OD x m=0:=by
 unfold Sj at h;split at h
 .rename_i h1;exact⟨NP h1,NP h⟩
 .rename_i h1;exact absurd h h1
theorem Yz:(Tp l m mv).length<=l.length+m.length:=by rw[<-Yy];exact lu _ _ _ _
theorem gj{x:List Rl}{l m:List Sl}(hl:Cb l)(hm:Cb m)(h:Sj x l m=0):(JM l m).length<=l.length+m.length:=by
 rw[JM,Lm];exact og l m (GY (OK h).1 hl) (GY (OK h).2 hm)
theorem vU(hx:∀r∈x,EG r)(Jn:l.length<=16)(F9:m.length<=16)(dE:Cb mv)(c0:¬Sj x l m=0):PC 35 [.agg (Ic x ifs),sl Am l,sl Am m,sl AB mv] (Ur x l m mv):=by
 have hl:Cb l:=AI Jn Cl;have SJ:Cb m:=AI F9 Cl;have hq:mv.length<=1073741824:=dE;refine Ps (pC [4,10] []) Tryz.func35 rfl (Nz rfl) (yN (Xi .pure (Xi _ (Yi (by have q:=pc x ifs l m hx hl SJ Jn F9;rw[eT,Aj c0]at q;exact q) ?_))));refine yN (Yi (fun h1=>?_) (fun h1=>?_))
 .exact CV.of_eq (show AV.tup [nzA,vi (Sj x l m)]=Ur x l m mv by rw[Ur,PO,Aj c0,Aj c0])
 have h1:((Sj x l m):Int)=(0:Int):=AJ h1;exact absurd h1 c0
theorem vV(hx:∀r∈x,EG r)(Jn:l.length<=16)(F9:m.length<=16)(dE:Cb mv)(c0:Sj x l m=0):PC 35 [.agg (Ic x ifs),sl Am l,sl Am m,sl AB mv] (Ur x l m mv):=by
 have hl:Cb l:=AI Jn Cl;have SJ:Cb m:=AI F9 Cl;have hq:mv.length<=1073741824:=dE;refine Ps (pC [4,10] []) Tryz.func35 rfl (Nz rfl) (yN (Xi .pure (Xi _ (Yi (by have q:=pc x ifs l m hx hl SJ Jn F9;rw[eT,Al c0]at q;exact q) ?_))));refine yN (Yi (fun h=>absurd h Cl) (fun _=>?_));refine Cf (Bt (mv.any fun p=>!Hs (JM l m) p)) (fun h1=>?_) (fun h1=>?_)
 .refine Xi .pure (Xi _ (Yi (cb h1 (z74 (fF:=75) (De.ptr _) mv (fun p=>!Hs (JM l m) p) (fun p hp=>oT x l m p (show(JM l m).length<=1073741824 by have q:=gj hl SJ c0;omega)) dE)) ?_));exact CV.of_eq (show AV.tup [nzA,vi 6]=Ur x l m mv by unfold Ur PO;rw[Al c0,h1];rfl)
 refine Xi .pure (Xi _ (Yi (cb h1 (z74 (fF:=75) (De.ptr _) mv (fun p=>!Hs (JM l m) p) (fun p hp=>oT x l m p (show(JM l m).length<=1073741824 by have q:=gj hl SJ c0;omega)) dE)) (Xi .pure (Xi _ (Yi (tc x l m mv (GY (OK c0).1 hl) (GY (OK c0).2 SJ) (show(Tp l m mv).length<=1073741824 by have q:=Yz l m mv;omega) dE) ?_)))));exact CV.of_eq (show AV.tup [sl Am (Ec (Tp l m mv)),vi 0]=Ur x l m mv by unfold Ur PO;rw[Al c0,h1];rfl)
theorem tb(hx:∀r∈x,EG r)(Jn:l.length<=16)(F9:m.length<=16)(dE:Cb mv):PC 35 [MU x ifs,sl Am l,sl Am m,sl AB mv] (Ur x l m mv):=by
 by_cases h:Sj x l m=0
 .exact vV x ifs l m mv hx Jn F9 dE h
 .exact vU x ifs l m mv hx Jn F9 dE h
theorem oZ(a b:ByteArray):PC 159 [vs a,vs b] (vb (Ek a b)):=by
 refine Ps El Tryz.func159 rfl (Nz rfl) (Xi .pure (Xi _ (Yi (t6 a) (Yi (fun h1=>?_) (fun h1=>?_)))))
 .have h1:Ek a b=true:=(Gr _ _).trans h1;exact CV.of_eq (Aa vb h1.symm)
 have h1:Ek a b=false:=(Gr _ _).trans (AM.2 h1);exact CV.of_eq (Aa vb h1.symm)
def Hk:List ByteArray->Bool
 |a::b::r=>!Ek b a&&Hk (b::r)
 |_=>true
theorem eK(l:List ByteArray):Hk (l.drop (l.length-1))=true:=by
 cases h:l.drop (l.length-1)with
 |nil=>rfl
 |cons a r=>
  have q:=Aa List.length h;rw[CK,Ag]at q;have e:r=[]:=FV.1 ch;subst e;rfl
theorem NE{l:List ByteArray}(h:i+1<l.length):Hk (l.drop i)=(!Ek l[i+1] l[i]&&Hk (l.drop (i+1))):=by
 rw[AH (show i<l.length by omega),AH h];rfl
theorem VW{l:List ByteArray}:∀{i:Nat},Hk (l.drop i)=false->Hk l=false
 |0,h=>h
 |i+1,h=>by
  refine VW (i:=i) ?_
  by_cases hi:i+1<l.length
  .rw[NE hi,h,Dw]
  .rw[Ce ch]at h;cases h
theorem co(l:List ByteArray)(hl:Cb l):PC 98 [sl AB l] (vb (Hk l)):=by
 have hl:l.length<=1073741824:=hl;have hml:(l.map AB).length=l.length:=Lm ..;refine Ps El Tryz.func98 rfl (Nz rfl) (Yi (by show AX (((l.map AB).length:Int)-(1:Int));unfold AX;omega) ?_);refine Xi {q:Nat // q<=l.length/\Hk (l.drop (q-1))=true} (Xi (fun q=>⟨[(0,sl AB l),(3,vi ((q.1:Int)-1))],[],Ae⟩) (Xi (fun q=>q.1) (Yi (Xi ⟨l.length,Ak _,eK l⟩ ?_) ?_)))
 .exact⟨⟨Zr,⟨(Aa vi (show(((l.map AB).length:Nat):Int)-1=(l.length:Int)-1 by rw[Lm])),rfl⟩,Tv⟩,Tv,Fh,Tv⟩
 intro⟨q_,i1,i2⟩;have i1:q_<=l.length:=i1;have i2:Hk (l.drop (q_-1))=true:=i2;refine Yi (fun h1=>?_) (fun h1=>?_)
 .have h1:(0:Int)<((q_:Int)-1:Int):=h1;refine Xi (AB (l[q_-1]' ch)) (Yi (Yi (show(0:Int)<=(q_:Int)-1 by omega) (by rw[show((q_:Int)-1:Int).toNat=q_-1 by omega];exact Eo (Ge ch))) (Yi rfl ?_));refine Yi (by show AX (((q_:Int)-1:Int)-(1:Int));unfold AX;omega) ?_;refine Xi (AB (l[q_-2]' ch)) (Yi (Yi (show(0:Int)<=((q_:Int)-1)-1 by omega) (by rw[show(((q_:Int)-1)-1:Int).toNat=q_-2 by omega];exact Eo (Ge ch))) (Yi rfl ?_));refine Cf (Bt (Ek (l[q_-1]' ch) (l[q_-2]' ch))) (fun h2=>?_) (fun h2=>?_)
  .have h2:(Ek (l[q_-1]' ch) (l[q_-2]' ch))=true:=h2;refine Xi _ (Yi (cb h2 (oZ (l[q_-1]' ch) (l[q_-2]' ch))) (Yi Wk ?_));exact CV.of_eq (Aa vb (show false=Hk l from(VW (i:=q_-2) (by rw[NE (l:=l) (i:=q_-2) ch];simp only[show q_-2+1=q_-1 by omega,h2];rfl)).symm))
  have h2:(Ek (l[q_-1]' ch) (l[q_-2]' ch))=false:=h2;refine Xi _ (Yi (cb h2 (oZ (l[q_-1]' ch) (l[q_-2]' ch))) (Yi Wk (Yi (by show AX (((q_:Int)-1:Int)-(1:Int));unfold AX;omega) ?_)));refine Xi ⟨q_-1,by omega,by rw[show q_-1-1=q_-2 by omega,NE (l:=l) (i:=q_-2) ch];simp only[show q_-2+1=q_-1 by omega,i2,h2];rfl⟩ ?_;exact⟨by show(q_-1:Nat)<q_;omega,⟨Zr,⟨(Aa vi (show(q_:Int)-1-1=((q_-1:Nat):Int)-1 by omega)),rfl⟩,Tv⟩,Tv,Fh,Tv⟩
 have h1:¬((0:Int)<((q_:Int)-1:Int)):=h1;exact CV.of_eq (Aa vb (show true=Hk l by rw[show q_-1=0 by omega]at i2;exact i2.symm))
abbrev CJ:List AV:=[sl AB p]
def Mz:List ByteArray:=((p.map KP).mergeSort fun a b=>decide (a<=b)).map SB
theorem Kc:(Mz p).Perm p/\((Mz p).map KP).Pairwise fun a b=>a<=b:=by
 have e:∀q:ByteArray,SB (KP q)=q:=fun q=>by cases q;simp
 have e2:∀q:List UInt8,KP (SB q)=q:=fun q=>by simp
 refine⟨?_,?_⟩
 .have h:=(Ok (p.map KP) fun a b=>decide (a<=b)).map SB
  rwa [Bs,show(SB ∘ KP)=id from funext e,Gk]at h
 .rw[Mz,Bs,show(KP ∘ SB)=id from funext e2,Gk];have h:=KN (le:=fun a b:List UInt8=>decide (a<=b)) (fun a b c h1 h2=>Ay (List.le_trans (AU h1) (AU h2))) (fun a b=>by rcases List.le_total a b with h | h<;>simp[h]) (p.map KP)
  exact h.imp fun h=>AU h
def gx:Bool:=!p.isEmpty&&Hk p
def wvI(i:Nat):Bool:=decide (Fs x (Ec (Tp l m (Bp.take (i+1)).flatten))=0)
def eY:Bool:=(List.range Bp.length).all (wvI x l m Bp)
def HD:Int:=
 if Sj x l m=0 then if Bp.all gx=true then if Mz Bp.flatten=JM l m then if eY x l m Bp=true then 0 else 17 else 1 else 1 else Sj x l m
theorem H7{Bp:List (List ByteArray)}(h:i<Bp.length):(Bp.take (i+1)).flatten=(Bp.take i).flatten++Bp[i]:=by
 rw[BM h,Ch];simp
theorem TG{Bp:List (List ByteArray)}{B:Nat}(h:∀p∈Bp,p.length<=B):∀i,(Bp.take i).flatten.length<=i*B
 |0=>by simp
 |i+1=>by
  rw[Eg]
  by_cases hi:i<Bp.length
  .rw[H7 hi,Ac];exact Nat.add_le_add (TG h i) (h _ (Aq hi))
  .have e:Bp.take (i+1)=Bp.take i:=by rw[At (l:=Bp) (i:=i+1) ch,At (l:=Bp) (i:=i) ch]
   rw[e];exact AI (TG h i) (Nat.le_add_right _ _)
theorem nN{Bp:List (List ByteArray)}(h:i<Bp.length)(k:gx Bp[i]=false):¬Bp.all gx=true:=fun e=>by
 have q:=Bd.1 e _ (Aq h);rw[k]at q;cases q
theorem vq{Bp:List (List ByteArray)}(h:∀j (hj:j<Bp.length),j<i->gx Bp[j]=true)(hi:Bp.length<=i):Bp.all gx=true:=by
 rw[Bd];intro p hp;obtain⟨j,hj,rfl⟩:=Ck.1 hp;exact h j hj ch
theorem qn{Bp:List (List ByteArray)}(DH:Bp≠[])(h:Bp.all gx=true):Bp.flatten≠[]:=fun e=>by
 cases Bp with
 |nil=>exact DH rfl
 |cons p r=>
  have q:=Bd.1 h p (Ab ..);rw[BD]at e;rw[(List.append_eq_nil_iff.1 e).1]at q;cases q
theorem wx{x:List Rl}{l m:List Sl}{Bp:List (List ByteArray)}(h:k<Bp.length)(e:wvI x l m Bp k=false):¬eY x l m Bp=true:=fun c=>by
 have q:=Bd.1 c k (Gy.2 h);rw[e]at q;cases q
theorem ww{x:List Rl}{l m:List Sl}{Bp:List (List ByteArray)}(h:∀j,j<k->wvI x l m Bp j=true)(hk:Bp.length<=k):eY x l m Bp=true:=
 Bd.2 fun j hj=>h j (by have:=Gy.1 hj;omega)
theorem v8(hx:∀r∈x,EG r)(Jn:l.length<=16)(F9:m.length<=16)(_hpl:Bp.length<=100000)(_hpe:∀p∈Bp,p.length<=100000)(c0:¬Sj x l m=0):PC 58 [.agg (Ic x ifs),sl Am l,sl Am m,sl CJ Bp] (vi (HD x l m Bp)):=by
 have hl:Cb l:=AI Jn Cl;have SJ:Cb m:=AI F9 Cl;refine Ps (pC [4] []) Tryz.func58 rfl (Nz rfl) (yN (Xi .pure (Xi _ (Yi (by have q:=pc x ifs l m hx hl SJ Jn F9;rw[eT,Aj c0]at q;exact q) ?_))));refine Yi (fun h1=>?_) (fun h1=>?_)
 .exact CV.of_eq (Aa vi (show(Sj x l m)=HD x l m Bp by rw[HD,Aj c0]))
 have h1:((Sj x l m):Int)=(0:Int):=AJ h1;exact absurd h1 c0
theorem wa(hx:∀r∈x,EG r)(Jn:l.length<=16)(F9:m.length<=16)(pA:Bp.length<=1000)(RF:∀p∈Bp,p.length<=100000)(TK:∀i,(Bp.take i).flatten.length<=1073741824)(DH:Bp≠[])(c0:Sj x l m=0):PC 58 [.agg (Ic x ifs),sl Am l,sl Am m,sl CJ Bp] (vi (HD x l m Bp)):=by
 have hl:Cb l:=AI Jn Cl;have SJ:Cb m:=AI F9 Cl;have Y0:Cb Bp.flatten:=by have q:=TK Bp.length;rw[B7]at q;exact q
 have SN:∀i,Cb (Mz (Bp.take i).flatten):=fun i=>by show(Mz _).length<=_;rw[(Kc _).1.length_eq];exact TK i
 refine Ps ⟨[4],[(14,1)],[(11,1)],[],[],[],[],[],[],[(200013,11)],[5,11,13,20]⟩ Tryz.func58 rfl (Nz rfl) (yN (Xi .pure (Xi _ (Yi (by have q:=pc x ifs l m hx hl SJ Jn F9;rw[eT,Al c0]at q;exact q) ?_))));refine Yi (fun h=>absurd h Cl) (fun _=>?_);refine cU [(3,sl CJ Bp),(4,.ref 4 0),(9,.cptr [.cmap Cq (CM x l),.cmap Cq (CM x m),sl Am l,sl Am m,sl AB (JM l m)]),(11,.msl 11 0)] [(4,.ro (Ic x ifs)),(11,.arr 1 [])] Z4 Z2 (Xi {q:Nat // q<=Bp.length/\∀j (hj:j<Bp.length),j<q->gx Bp[j]=true} (Xi (fun q=>⟨[(3,sl CJ Bp),(4,.ref 4 0),(9,.cptr [.cmap Cq (CM x l),.cmap Cq (CM x m),sl Am l,sl Am m,sl AB (JM l m)]),(11,.msl 11 ((Bp.take q.1).flatten).length),(27,sl CJ Bp),(28,vi (Bp.map CJ).length),(29,vi q.1)],[(4,.ro (Ic x ifs)),(11,.arr 1 (((Bp.take q.1).flatten).map AB))],Ae⟩) (Xi (fun q=>Bp.length-q.1) (Yi (Xi ⟨0,Ax _,fun j hj h=>absurd h ch⟩ ?_) ?_))))
 .exact⟨Z7,Z2,Fh,Tv⟩
 intro⟨i,i1,i2⟩;refine Yi (fun h1=>?_) (fun h1=>?_)
 .have h1:(i:Int)<((Bp.map CJ).length:Int):=h1;have n1:=FO h1;have Ah7:(Bp.take i).flatten.length<=1073741824:=TK i;have hpi:=RF _ (Aq n1);refine Xi (CJ Bp[i]) (Yi (JL n1) (Yi rfl (Yi (fun h2=>?_) (fun h2=>?_))))
  .exact CV.of_eq (Aa vi (show 1=HD x l m Bp by rw[HD,Al c0,Aj (nN n1 (by rw[gx,FV.1 (show Bp[i].length=0 by have q:=h2;rw[Lm]at q;omega)];rfl))]))
  refine Cf (Bt (Hk Bp[i])) (fun h4=>?_) (fun h4=>?_)
  .refine Xi .pure (Xi _ (Yi (cb h4 (co Bp[i] (AI (RF _ (Aq n1)) Cl))) ?_));have b5:B5 1 (Bp[i].map AB)/\(((Bp.take i).flatten).map AB).length=((Bp.take i).flatten).length/\((((Bp.take i).flatten).map AB).length+(Bp[i].map AB).length)*16<=140737488355328/\(((Bp.take i).flatten).map AB).length+(Bp[i].map AB).length<=9223372036854775807:=⟨(Ea (enc:=AB) (n:=1) (fun _=>rfl) Bp[i]),(by rw[Lm]),(by simp only[Lm];omega),(by simp only[Lm];omega)⟩;refine Yi b5 (cU [(3,sl CJ Bp),(4,.ref 4 0),(9,.cptr [.cmap Cq (CM x l),.cmap Cq (CM x m),sl Am l,sl Am m,sl AB (JM l m)]),(11,.msl 11 ((((Bp.take i).flatten).map AB).length+(Bp[i].map AB).length)),(27,sl CJ Bp),(28,vi (Bp.map CJ).length),(29,vi i)] [(4,.ro (Ic x ifs)),(11,.arr 1 ((((Bp.take i).flatten).map AB)++(Bp[i].map AB)))] Z7 Z2 (Yi (Ii i ch) ?_));have GM:gx Bp[i]=true:=by rw[gx,h4,Bool.and_true];cases e:Bp[i]with | nil=>exact absurd (by rw[e];rfl) h2 | cons a r=>rfl
   have ew:(((Bp.take i).flatten).map AB++(Bp[i]).map AB)=((Bp.take (i+1)).flatten).map AB:=by rw[H7 n1,As]
   refine Xi ⟨i+1,n1,fun j hj h=>by rcases D1 j i with hg | hg;exact i2 j hj hg;have e:j=i:=ch;subst e;exact GM⟩ ?_;exact⟨Dl Bp.length i ch,⟨Zr,Zr,Zr,⟨(show AV.msl 11 ((((Bp.take i).flatten).map AB).length+(Bp[i].map AB).length)=.msl 11 ((Bp.take (i+1)).flatten).length by rw[H7 n1,Ac,Lm,Lm]),rfl⟩,Zr,Zr,Zr,Tv⟩,⟨Zr,⟨(show HO.arr 1 ((((Bp.take i).flatten).map AB)++(Bp[i].map AB))=.arr 1 (((Bp.take (i+1)).flatten).map AB)from Aa (HO.arr 1) ew),rfl⟩,Tv⟩,Fh,Tv⟩
  refine Xi .pure (Xi _ (Yi (cb h4 (co Bp[i] (AI (RF _ (Aq n1)) Cl))) ?_));exact CV.of_eq (Aa vi (show 1=HD x l m Bp by rw[HD,Al c0,Aj (nN n1 (by rw[gx,h4,Dw]))]))
 have h1:¬((i:Int)<((Bp.map CJ).length:Int)):=h1;have n1:=DP h1;have GL:Bp.all gx=true:=vq i2 (Bm (DP h1));have ef:(Bp.take i).flatten=Bp.flatten:=by rw[At (Bm (DP h1))]
 have hs:=zp Bp.flatten (Mz Bp.flatten) Y0 (qn DH GL) (Kc _).1 (Kc _).2;rw[<-ef]at hs;refine Xi (.gen [(11,1000)] 0) (Yi rfl (Ba.to2 hs ?_));refine Yi (show((Bp.take i).flatten).length=((Mz ((Bp.take i).flatten)).map AB).length by rw[Lm,(Kc _).1.length_eq]) ?_;refine cU [(3,sl CJ Bp),(4,.ref 4 0),(9,.cptr [.cmap Cq (CM x l),.cmap Cq (CM x m),sl Am l,sl Am m,sl AB (JM l m)]),(11,sl AB (Mz ((Bp.take i).flatten)))] [(4,.ro (Ic x ifs))] Z4 Z1 (Cf (Bt (decide (Mz ((Bp.take i).flatten)=JM l m))) (fun h8=>?_) (fun h8=>?_))
 .have h8:(decide (Mz ((Bp.take i).flatten)=JM l m))=true:=h8;have heq:Mz Bp.flatten=JM l m:=by rw[<-ef];exact AU h8
  refine Xi .pure (Xi _ (Yi (cb h8 (sj (Mz ((Bp.take i).flatten)) (JM l m) (SN i))) (Xi {q:Nat // q<=Bp.length/\∀j,j<q->wvI x l m Bp j=true} (Xi (fun q=>⟨[(4,.ref 4 0),(9,.cptr [.cmap Cq (CM x l),.cmap Cq (CM x m),sl Am l,sl Am m,sl AB (JM l m)]),(14,.slice (.id 14 1) (((Bp.take q.1).flatten).map AB)),(54,sl CJ Bp),(55,vi (Bp.map CJ).length),(56,vi q.1)],[(4,.ro (Ic x ifs)),(14,.tok 1 (((Bp.take q.1).flatten).map AB).length)],Ae⟩) (Xi (fun q=>Bp.length-q.1) (Yi (Xi ⟨0,Ax _,fun j h=>absurd h ch⟩ ?_) ?_))))))
  .exact⟨Z6,Z2,Fh,Tv⟩
  intro⟨k,k1,k2⟩;have k1:k<=Bp.length:=k1;have k2:∀j,j<k->wvI x l m Bp j=true:=k2;refine Yi (fun h9=>?_) (fun h9=>?_)
  .have h9:(k:Int)<((Bp.map CJ).length:Int):=h9;have n9:=FO h9;have hfk:Cb (Bp.take (k+1)).flatten:=TK _;have Ah8:(Bp.take k).flatten.length<=1073741824:=TK k;have ZD:=RF _ (Aq n9);refine Xi (CJ Bp[k]) (Yi (JL n9) (Yi rfl ?_));have Xe:B5 1 (Bp[k].map AB)/\(((Bp.take k).flatten).map AB).length=(((Bp.take k).flatten).map AB).length/\((((Bp.take k).flatten).map AB).length+(Bp[k].map AB).length)*16<=140737488355328/\(((Bp.take k).flatten).map AB).length+(Bp[k].map AB).length<=9223372036854775807:=⟨(Ea (enc:=AB) (n:=1) (fun _=>rfl) Bp[k]),rfl,(by simp only[Lm];omega),(by simp only[Lm];omega)⟩;refine Yi Xe ?_;have ew:(((Bp.take k).flatten).map AB++(Bp[k]).map AB)=((Bp.take (k+1)).flatten).map AB:=by rw[H7 n9,As]
   refine cU [(4,.ref 4 0),(9,.cptr [.cmap Cq (CM x l),.cmap Cq (CM x m),sl Am l,sl Am m,sl AB (JM l m)]),(14,.slice (.id 14 1) (((Bp.take (k+1)).flatten).map AB)),(54,sl CJ Bp),(55,vi (Bp.map CJ).length),(56,vi k)] [(4,.ro (Ic x ifs)),(14,.tok 1 (((Bp.take (k+1)).flatten).map AB).length)] ⟨Zr,Zr,⟨(Aa (AV.slice (.id 14 1)) ew),rfl⟩,Zr,Zr,Zr,Tv⟩ ⟨Zr,⟨(show HO.tok 1 ((((Bp.take k).flatten).map AB).length+(Bp[k].map AB).length)=.tok 1 (((Bp.take (k+1)).flatten).map AB).length from Aa (HO.tok 1) (Ac.symm.trans (Aa List.length ew))),rfl⟩,Tv⟩ (yN (Xi _ (Yi (tc x l m ((Bp.take (k+1)).flatten) (GY (OK c0).1 hl) (GY (OK c0).2 SJ) (show(Tp l m ((Bp.take (k+1)).flatten)).length<=1073741824 by have q:=Yz l m ((Bp.take (k+1)).flatten);omega) hfk) ?_)));refine Xi _ (Yi (vW x ifs (Ec (Tp l m ((Bp.take (k+1)).flatten))) hx (show(Ec (Tp l m ((Bp.take (k+1)).flatten))).length<=1073741824 by rw[(Kz _).length_eq];have q:=Yz l m ((Bp.take (k+1)).flatten);omega)) ?_);refine Yi (fun KV=>?_) (fun KV=>?_)
   .have KV:((Fs x (Ec (Tp l m ((Bp.take (k+1)).flatten)))):Int)≠(0:Int):=KV;refine Yi Wk ?_;exact CV.of_eq (Aa vi (show 17=HD x l m Bp by rw[HD,Al c0,Al GL,Al heq,Aj (wx n9 (AD KV))]))
   have KV:((Fs x (Ec (Tp l m ((Bp.take (k+1)).flatten)))):Int)=(0:Int):=AJ KV;refine Yi Wk (Yi (Ii k ch) (Xi ⟨k+1,n9,fun j h=>by rcases D1 j k with hg | hg;exact k2 j hg;have e:j=k:=ch;subst e;exact Ay KV⟩ ?_));exact⟨Dl Bp.length k ch,Z6,Z2,Fh,Tv⟩
  have h9:¬((k:Int)<((Bp.map CJ).length:Int)):=h9;have n9:=DP h9;exact CV.of_eq (Aa vi (show 0=HD x l m Bp by rw[HD,Al c0,Al GL,Al heq,Al (ww k2 (Bm (DP h9)))]))
 have h8:(decide (Mz ((Bp.take i).flatten)=JM l m))=false:=h8;refine Xi .pure (Xi _ (Yi (cb h8 (sj (Mz ((Bp.take i).flatten)) (JM l m) (SN i))) ?_));exact CV.of_eq (Aa vi (show 1=HD x l m Bp by rw[HD,Al c0,Al GL,Aj (by rw[<-ef];exact QK h8)]))
theorem oC:Mz []=[]:=FV.1 (by rw[(Kc _).1.length_eq];rfl)
theorem ft{x:List Rl}{l m:List Sl}(c0:Sj x l m=0):HD x l m []=if([]:List ByteArray)=JM l m then 0 else 1:=by
 rw[HD,Al c0,Al (show([]:List (List ByteArray)).all gx=true from rfl),show([]:List (List ByteArray)).flatten=[]from rfl,oC,Al (show eY x l m []=true from rfl)]
theorem wb(hx:∀r∈x,EG r)(Jn:l.length<=16)(F9:m.length<=16)(lim:Int)(hb:PC 161 [.v (.int .u64 (IntKind.u64.wrap (0:Int)))] (vi lim))(c0:Sj x l m=0):PC 58 [.agg (Ic x ifs),sl Am l,sl Am m,sl CJ ([]:List (List ByteArray))] (vi (HD x l m [])):=by
 have hl:Cb l:=AI Jn Cl;have SJ:Cb m:=AI F9 Cl;refine Ps (pC [4] []) Tryz.func58 rfl (Nz rfl) (yN (Xi .pure (Xi _ (Yi (by have q:=pc x ifs l m hx hl SJ Jn F9;rw[eT,Al c0]at q;exact q) ?_))));refine Yi (fun h=>absurd h Cl) (fun _=>?_);refine Xi {q:Nat // q=0} (Xi (fun q=>⟨[(3,sl CJ ([]:List (List ByteArray))),(4,.ref 4 0),(9,.cptr [.cmap Cq (CM x l),.cmap Cq (CM x m),sl Am l,sl Am m,sl AB (JM l m)]),(11,nzA),(27,sl CJ ([]:List (List ByteArray))),(28,vi (([]:List (List ByteArray)).map CJ).length),(29,vi q.1)],[(4,.ro (Ic x ifs))],Ae⟩) (Xi (fun q=>q.1) (Yi (Xi ⟨0,rfl⟩ ?_) ?_)))
 .exact⟨Z7,Z1,Fh,Tv⟩
 intro⟨i,i1⟩;have i1:i=0:=i1;refine Yi (fun h1=>?_) (fun h1=>?_)
 .have h1:(i:Int)<((([]:List (List ByteArray)).map CJ).length:Int):=h1;have n1:=FO h1;exact absurd (FO h1) (Ob _)
 have h1:¬((i:Int)<((([]:List (List ByteArray)).map CJ).length:Int)):=h1;have n1:=DP h1;refine Xi .pure (Xi _ (Yi (Aat lim hb) (Cf (Bt (decide (([]:List ByteArray)=JM l m))) (fun h2=>?_) (fun h2=>?_))))
 .have h2:(decide (([]:List ByteArray)=JM l m))=true:=h2;refine Xi .pure (Xi _ (Yi (cb h2 ((sj ([]:List ByteArray) (JM l m) Cl).args ⟨.nil,.refl _,trivial⟩)) (Xi {q:Nat // q=0} (Xi (fun q=>⟨[(4,.ref 4 0),(9,.cptr [.cmap Cq (CM x l),.cmap Cq (CM x m),sl Am l,sl Am m,sl AB (JM l m)]),(14,nzA),(54,sl CJ ([]:List (List ByteArray))),(55,vi (([]:List (List ByteArray)).map CJ).length),(56,vi q.1)],[(4,.ro (Ic x ifs))],Ae⟩) (Xi (fun q=>q.1) (Yi (Xi ⟨0,rfl⟩ ?_) ?_))))))
  .exact⟨Z6,Z1,Fh,Tv⟩
  intro⟨k,k1⟩;have k1:k=0:=k1;refine Yi (fun h3=>?_) (fun h3=>?_)
  .have h3:(k:Int)<((([]:List (List ByteArray)).map CJ).length:Int):=h3;have n3:=FO h3;exact absurd (FO h3) (Ob _)
  have h3:¬((k:Int)<((([]:List (List ByteArray)).map CJ).length:Int)):=h3;have n3:=DP h3;exact CV.of_eq (Aa vi (show 0=HD x l m [] by rw[ft c0,Al (AU h2)]))
 have h2:(decide (([]:List ByteArray)=JM l m))=false:=h2;refine Xi .pure (Xi _ (Yi (cb h2 ((sj ([]:List ByteArray) (JM l m) Cl).args ⟨.nil,.refl _,trivial⟩)) ?_));exact CV.of_eq (Aa vi (show 1=HD x l m [] by rw[ft c0,Aj (QK h2)]))
structure Wv where
 paths:List ByteArray
 stages:List Ud
abbrev G0(v:Wv):List AV:=[sl AB v.paths,sl Cr v.stages]
structure Ro where
 name:ByteArray
 waves:List Wv
variable (r:Ro)
abbrev Ji:List AV:=[vs r.name,sl G0 r.waves]
theorem Aac(hx:∀r∈x,EG r)(Jn:l.length<=16)(F9:m.length<=16)(pA:Bp.length<=1000)(RF:∀p∈Bp,p.length<=1000):PC 58 [MU x ifs,sl Am l,sl Am m,sl CJ Bp] (vi (HD x l m Bp)):=by
 by_cases c0:Sj x l m=0
 .by_cases DH:Bp=[]
  .subst DH;obtain⟨lim,_,hb⟩:=lw 0 (Ax _);exact wb x ifs l m hx Jn F9 lim hb c0
  .refine wa x ifs l m Bp hx Jn F9 pA (fun p hp=>AI (RF p hp) Cl) (fun i=>?_) DH c0;have q:=TG RF Bp.length;have q2:(Bp.take i).flatten.length<=Bp.flatten.length:=by
    conv=>rhs;rw[<-GF i Bp,Ch,Ac]
    omega
   rw[B7]at q;have q3:=A9 1000 pA;omega
 .exact v8 x ifs l m Bp hx Jn F9 ch (fun p hp=>AI (RF p hp) Cl) c0
theorem cc{α:Type}(f:α->List AV)(l:List α)(n:Nat):((l.map f).take ((n:Nat):Int).toNat).drop (0:Int).toNat=(l.take n).map f:=by
 rw[BL,Tl];rfl
theorem Zy(n:Nat)(hn:n<=r.waves.length)(hl:Cb r.waves):PC 56 [.agg (Ji r),vi (n:Nat)] (sl CJ ((r.waves.take n).map (·.paths))):=by
 have hl:r.waves.length<=1073741824:=hl;have hrn:(r.waves.take n).length<=n:=by rw[Au];omega
 refine Ps (pT [2] [(5,1)] []) Tryz.func56 rfl (Nz rfl) (Yi (show(0:Int)<=0/\(0:Int)<=(n:Nat)/\((n:Nat):Int)<=((r.waves.map G0).length:Nat) by rw[Lm];omega) (Yi (qj (enc:=G0) (n:=2) (fun _=>rfl) r.waves) (Xi {q:Nat // q<=(r.waves.take n).length} (Xi (fun q=>⟨[(5,.slice (.id 5 1) ((((r.waves.take n).take q.1).map (·.paths)).map CJ)),(11,sl G0 (r.waves.take n)),(12,vi ((r.waves.take n).map G0).length),(13,vi q.1)],[(5,.tok 1 ((((r.waves.take n).take q.1).map (·.paths)).map CJ).length)],Ae⟩) (Xi (fun q=>(r.waves.take n).length-q.1) (Yi (Xi ⟨0,Ax _⟩ ?_) ?_))))))
 .exact⟨⟨Zr,⟨(Aa (AV.slice .none) (cc G0 r.waves n)),rfl⟩,⟨(Aa (fun z:List (List AV)=>vi (z.length:Nat)) (cc G0 r.waves n)),rfl⟩,Zr,Tv⟩,Z1,Fh,Tv⟩
 intro⟨i,i1⟩;have i1:i<=(r.waves.take n).length:=i1;refine Yi (fun h1=>?_) (fun h1=>?_)
 .have h1:(i:Int)<(((r.waves.take n).map G0).length:Int):=h1;have n1:=FO h1;have hq:((r.waves.take n).take i).length<=1073741824:=by rw[Au];omega
  refine Xi (G0 ((r.waves.take n)[i])) (Yi (JL n1) (Yi rfl (yN (yN ?_))));have b2:B5 1 [[sl AB ((r.waves.take n)[i]).paths]]/\((((r.waves.take n).take i).map (·.paths)).map CJ).length=((((r.waves.take n).take i).map (·.paths)).map CJ).length/\(((((r.waves.take n).take i).map (·.paths)).map CJ).length+([[sl AB ((r.waves.take n)[i]).paths]]:List (List AV)).length)*24<=140737488355328/\((((r.waves.take n).take i).map (·.paths)).map CJ).length+([[sl AB ((r.waves.take n)[i]).paths]]:List (List AV)).length<=9223372036854775807:=⟨⟨rfl,trivial⟩,rfl,(by simp only[Lm,Ag,Ao];omega),(by simp only[Lm,Ag,Ao];omega)⟩;refine Yi b2 (Yi (Ii i ch) ?_);have ew:((((r.waves.take n).take i).map (·.paths)).map CJ++[[sl AB ((r.waves.take n)[i]).paths]])=((((r.waves.take n).take (i+1)).map (·.paths)).map CJ):=by rw[Ew n1,As,As];rfl
  refine Xi ⟨i+1,n1⟩ ?_;exact⟨by show(r.waves.take n).length-(i+1)<(r.waves.take n).length-i;omega,⟨⟨(Aa (AV.slice (.id 5 1)) ew),rfl⟩,Zr,Zr,Zr,Tv⟩,⟨⟨(show HO.tok 1 (((((r.waves.take n).take i).map (·.paths)).map CJ).length+([[sl AB ((r.waves.take n)[i]).paths]]:List (List AV)).length)=.tok 1 ((((r.waves.take n).take (i+1)).map (·.paths)).map CJ).length from Aa (HO.tok 1) (Ac.symm.trans (Aa List.length ew))),rfl⟩,Tv⟩,Fh,Tv⟩
 have h1:¬((i:Int)<(((r.waves.take n).map G0).length:Int)):=h1;have n1:=DP h1;exact CV.of_eq (show sl CJ (((r.waves.take n).take i).map (·.paths))=sl CJ ((r.waves.take n).map (·.paths)) by rw[At (l:=r.waves.take n) (i:=i) (Bm (DP h1))])
def KA:List Wv->Int
 | []=>0
 |v::r=>if BI v.stages=0 then KA r else BI v.stages
def ZI:List (List ByteArray):=r.waves.map (·.paths)
def Po:Int:=if HD x l m (ZI r)=0 then if 65536<r.name.size then 7 else KA r.waves else HD x l m (ZI r)
theorem Aa2{l:List Wv}(h:i<l.length)(k:BI l[i].stages=0):KA (l.drop i)=KA (l.drop (i+1)):=by rw[AH h,KA,Al k]
theorem Aa1{l:List Wv}(h:i<l.length)(k:¬BI l[i].stages=0):KA (l.drop i)=BI l[i].stages:=by rw[AH h,KA,Aj k]
structure Uc(r:Ro):Prop where
 wv:r.waves.length<=1000
 st:∀v∈r.waves,v.stages.length<=1073741824
 pt:∀v∈r.waves,v.paths.length<=1000
theorem gW(hx:∀r∈x,EG r)(Jn:l.length<=16)(F9:m.length<=16)(hr:Uc r):PC 23 [.agg (Ic x ifs),sl Am l,sl Am m,.agg (Ji r)] (vi (Po x l m r)):=by
 have hwl:r.waves.length<=1000:=hr.wv;refine Ps (pC [4,7] [4]) Tryz.func23 rfl (Nz rfl) (yN (yN (Xi _ (Yi (by have q:=Zy r r.waves.length (Ak _) (AI hr.wv Cl);rw[B7]at q;exact show PC 56 [.agg (Ji r),vi ((r.waves.map G0).length:Nat)] (sl CJ (ZI r)) by rw[Lm];exact q) ?_))));refine Xi _ (Yi (Aac x ifs l m (ZI r) hx Jn F9 (by rw[ZI,Lm];exact hr.wv) (fun p hp=>by obtain⟨v,hv,rfl⟩:=Ai.1 hp;exact hr.pt v hv)) ?_);refine Yi Wk (Yi (fun h1=>?_) (fun h1=>?_))
 .have h1:((HD x l m (ZI r)):Int)≠(0:Int):=h1;exact CV.of_eq (Aa vi (show(HD x l m (ZI r))=Po x l m r by rw[Po,Aj h1]))
 have h1:((HD x l m (ZI r)):Int)=(0:Int):=AJ h1;refine cU [(7,.ref 7 0)] [(7,.ro (Ji r))] Z1 Z1 (Yi (fun h3=>?_) (fun h3=>?_))
 .have h3:(65536:Int)<(r.name.size:Int):=h3;exact CV.of_eq (Aa vi (show 7=Po x l m r by rw[Po,Al h1,Al ch]))
 have h3:¬((65536:Int)<(r.name.size:Int)):=h3;refine Xi {q:Nat // q<=r.waves.length/\KA (r.waves.drop q)=KA r.waves} (Xi (fun q=>⟨[(30,sl G0 r.waves),(31,vi (r.waves.map G0).length),(32,vi q.1)],[],Ae⟩) (Xi (fun q=>r.waves.length-q.1) (Yi (Xi ⟨0,Ax _,rfl⟩ ?_) ?_)))
 .exact⟨Z3,Tv,Fh,Tv⟩
 intro⟨i,i1,i2⟩;have i1:i<=r.waves.length:=i1;have i2:KA (r.waves.drop i)=KA r.waves:=i2;refine Yi (fun h5=>?_) (fun h5=>?_)
 .have h5:(i:Int)<((r.waves.map G0).length:Int):=h5;have n5:=FO h5;refine Xi (G0 r.waves[i]) (Yi (JL n5) (Yi rfl (yN (yN (Xi .pure (Xi _ (Yi (NF r.waves[i].stages (hr.st _ (Aq n5))) (Yi (fun h6=>?_) (fun h6=>?_)))))))))
  .have h6:((BI r.waves[i].stages):Int)≠(0:Int):=h6;exact CV.of_eq (Aa vi (show(BI r.waves[i].stages)=Po x l m r by rw[Po,Al h1,Aj ch,<-i2,Aa1 n5 h6]))
  have h6:((BI r.waves[i].stages):Int)=(0:Int):=AJ h6;refine Yi (Ii i ch) (Xi ⟨i+1,n5,by rw[<-i2,Aa2 n5 h6]⟩ ?_);exact⟨Dl r.waves.length i ch,Z3,Tv,Fh,Tv⟩
 have h5:¬((i:Int)<((r.waves.map G0).length:Int)):=h5;have n5:=DP h5;exact CV.of_eq (Aa vi (show 0=Po x l m r by rw[Po,Al h1,Aj ch,<-i2,Ce (Bm (DP h5))];rfl))
end Go.Eng
namespace Go.Eng
open Go.Proofs
open Go.RowKit
variable (x:List Rl)(r:Ro)(user:ByteArray)(Bn:Int)(i:Nat)
theorem jZ : Tryz.prog.globalNamed "internal/strconv.uint64pow10" = some 1 := by decide +kernel
theorem vN {w : World} (h : ∀ x ∈ me, w.cell? ⟨x.1, x.2.1, none⟩ = x.2.2) : Go.Lib.TabIs Tryz.prog w "internal/strconv.uint64pow10" .u64 Go.Lib.pow10Tab := by
 unfold Go.Lib.TabIs World.var?;rw[jZ];simp only[Option.bind_some];have mn:=h (1,20,none) (Ab ..);have hi:∀i,i<20->w.cell? ⟨1,i,none⟩=some (.int .u64 ((10 ^ i:Nat):Int)):=fun i hi=>h (1,i,some (.int .u64 ((10 ^ i:Nat):Int))) (Ah _ (Ai.2 ⟨i,Gy.2 hi,rfl⟩));have h0:=hi 0 Cl;unfold World.cell? at h0 mn hi;cases e:w.heap[1]? with
 |none=>rw[e]at h0;cases h0
 |some o=>
  cases o with
  |cells cs E fr=>
   simp only[e,PF,Dp,GB]at mn hi;have hs:cs.size=20:=by
    have sA:=hi 19 Cl
    have:=(Bv.1 sA).1
    have:=Array.getElem?_eq_none_iff.1 mn
    omega
   show some cs=_
   congr 1
   apply Py
   .simp[hs,Go.Lib.pow10Tab]
   .intro i h1 h2
    have:=hi i ch
    rw[A6 h1]at this;rw[CO this];simp[Go.Lib.pow10Tab]
  |_=>rw[e]at h0;simp at h0
theorem wk(n:Int)(h:AX n):PC 53 [vi n] (vs (mX n)):=by
 unfold AX at h;refine Nx [.int .i64 n] (.string (mX n)) (au 53 Tryz.func53 Wk rfl) rfl (fun g w=>.v _ _) fun w _ ht=>?_;refine(Any.strconv_Itoa Tryz.layItoa n h.1 ch w (vN ht)).mono ?_
 rintro e w' ⟨rfl,k,os,rfl⟩
 exact⟨rfl,Go.Lib.below_grow _ _ (Ak _) _ _⟩
theorem Ve{n:Int}(h0:-9223372036854775808<=n)(h1:n<=9223372036854775807):(mX n).size<=21:=by
 unfold mX;rw[show ∀l:List UInt8,(mkB l).size=l.length from fun l=>by simp[ByteArray.size]];exact Go.Lib.itoa_length_le n h0 h1
def VC(v:Wv):Bool:=decide (I3 v.stages Bn<=OW ((r.name++⟨#[47]⟩)++mX (i:Int)) user)
def Rg(r:Ro)(user:ByteArray)(Bn:Int):Nat->List Wv->Nat
 |i,[]=>i
 |i,v::l=>if VC r user Bn i v=true then i else Rg r user Bn (i+1) l
def WQ:Nat:=Rg r user Bn 0 r.waves
theorem xU{r:Ro}{user:ByteArray}{Bn:Int}{i:Nat}(h:i<r.waves.length)(k:VC r user Bn i r.waves[i]=false):Rg r user Bn i (r.waves.drop i)=Rg r user Bn (i+1) (r.waves.drop (i+1)):=by
 rw[AH h,Rg,Aj (by rw[k];decide)]
theorem uq{r:Ro}{user:ByteArray}{Bn:Int}{i:Nat}(h:i<r.waves.length)(k:VC r user Bn i r.waves[i]=true):Rg r user Bn i (r.waves.drop i)=i:=by
 rw[AH h,Rg,Al k]
theorem tf(hi:i<r.waves.length)(hw:r.waves.length<=1000)(KL:Cb r.waves[i].stages)(hn:r.name.size<=10000000)(hu:user.size<=100000000):PC 52 [vi i,.cptr (Ji r),.cptr [vs user],.cptr [vi Bn]] (vb (VC r user Bn i r.waves[i])):=by
 refine Ps El Tryz.func52 rfl (Nz rfl) (Yi (show(((r.name:ByteArray).size+(⟨#[47]⟩:ByteArray).size:Nat):Int)<=9223372036854775807 by have q:=Ve (n:=(i:Int)) ch ch;have q2:(⟨#[47]⟩:ByteArray).size=1:=rfl;omega) ?_);refine Xi _ (Yi (wk (i:Int) (by unfold AX;omega)) (Yi (show(((r.name++⟨#[47]⟩:ByteArray).size+((mX (i:Int)):ByteArray).size:Nat):Int)<=9223372036854775807 by have q:=Ve (n:=(i:Int)) ch ch;have q2:(⟨#[47]⟩:ByteArray).size=1:=rfl;simp only[A2];omega) ?_));refine Xi _ (Yi (oW ((r.name++(⟨#[47]⟩:ByteArray))++mX (i:Int)) user (by have q:=Ve (n:=(i:Int)) ch ch;simp only[A2];have q2:(⟨#[47]⟩:ByteArray).size=1:=rfl;omega) hu) ?_);refine Xi (G0 r.waves[i]) (Yi (JL hi) (Yi rfl (Xi _ (Yi (tg r.waves[i].stages Bn KL) (Yi (fun h1=>?_) (fun h1=>?_))))))
 .have h1:((I3 r.waves[i].stages Bn):Int)<=((OW ((r.name++(⟨#[47]⟩:ByteArray))++mX (i:Int)) user):Int):=h1;refine Yi Wk ?_;exact CV.of_eq (Aa vb (show true=VC r user Bn i r.waves[i]from(Ay h1).symm))
 have h1:¬(((I3 r.waves[i].stages Bn):Int)<=((OW ((r.name++(⟨#[47]⟩:ByteArray))++mX (i:Int)) user):Int)):=h1;refine Yi Wk ?_;exact CV.of_eq (Aa vb (show false=VC r user Bn i r.waves[i]from(AD h1).symm))
def pI(l m:List Sl)(r:Ro)(user:ByteArray)(Bn:Int):AV:=if Po x l m r=0 then .tup [vi (WQ r user Bn:Nat),vi 0]else .tup [vi 0,vi (Po x l m r)]
theorem pd(ifs:List (List AV))(l m:List Sl)(r:Ro)(user:ByteArray)(Bn:Int)(hx:∀r∈x,EG r)(Jn:l.length<=16)(F9:m.length<=16)(hr:Uc r)(hn:r.name.size<=10000000)(hu:user.size<=100000000):PC 19 [.agg (Ic x ifs),sl Am l,sl Am m,.agg (Ji r),vs user,vi Bn] (pI x l m r user Bn):=by
 have hwl:r.waves.length<=1000:=hr.wv;refine Ps (pC [6,9,10,11] [4]) Tryz.func19 rfl (Nz rfl) (yN (yN (Xi .pure (Xi _ (Yi (gW x ifs l m r hx Jn F9 hr) (Yi (fun h1=>?_) (fun h1=>?_)))))))
 .have h1:((Po x l m r):Int)≠(0:Int):=h1;exact CV.of_eq (show AV.tup [vi 0,vi (Po x l m r)]=pI x l m r user Bn by rw[pI,Aj h1])
 have h1:((Po x l m r):Int)=(0:Int):=AJ h1;refine cU [(9,.ref 9 0),(10,.ref 10 0),(11,.ref 11 0)] [(9,.ro (Ji r)),(10,.ro [vs user]),(11,.ro [vi Bn])] Z3 Z3 (Xi {q:Nat // q<=r.waves.length/\Rg r user Bn q (r.waves.drop q)=WQ r user Bn} (Xi (fun q=>⟨[(9,.ref 9 0),(15,.clo 52 [.cptr (Ji r),.cptr [vs user],.cptr [vi Bn]]),(28,vi (r.waves.map G0).length),(29,vi q.1)],[(9,.ro (Ji r))],Ae⟩) (Xi (fun q=>r.waves.length-q.1) (Yi (Xi ⟨0,Ax _,rfl⟩ ?_) ?_))))
 .exact⟨Z4,Z1,Fh,Tv⟩
 intro⟨i,i1,i2⟩;have i1:i<=r.waves.length:=i1;have i2:Rg r user Bn i (r.waves.drop i)=WQ r user Bn:=i2;refine Yi (fun h3=>?_) (fun h3=>?_)
 .have h3:(i:Int)<((r.waves.map G0).length:Int):=h3;have n3:=FO h3;refine Cf (Bt (VC r user Bn i r.waves[i])) (fun h4=>?_) (fun h4=>?_)
  .have h4:(VC r user Bn i r.waves[i])=true:=h4;refine Xi .pure (Xi _ (Yi (cb h4 (tf r user Bn i n3 hr.wv (hr.st _ (Aq n3)) hn hu)) ?_));exact CV.of_eq (show AV.tup [vi i,vi 0]=pI x l m r user Bn by rw[pI,Al h1,<-i2,uq n3 h4])
  have h4:(VC r user Bn i r.waves[i])=false:=h4;refine Xi .pure (Xi _ (Yi (cb h4 (tf r user Bn i n3 hr.wv (hr.st _ (Aq n3)) hn hu)) (Yi (Ii i ch) (Xi ⟨i+1,n3,by rw[<-i2,xU n3 h4]⟩ ?_))));exact⟨Dl r.waves.length i ch,Z4,Z1,Fh,Tv⟩
 have h3:¬((i:Int)<((r.waves.map G0).length:Int)):=h3;have n3:=DP h3;exact CV.of_eq (show AV.tup [vi (r.waves.map G0).length,vi 0]=pI x l m r user Bn by rw[pI,Al h1,<-i2,Ce (Bm (DP h3)),Lm,show i=r.waves.length by have q:=DP h3;omega];rfl)
end Go.Eng
namespace Go.Proofs
open Go.Shelf
def Tryz.layGrow_ren:Go.Shelf.Ren:=⟨fun | 4=>94 | n=>n,fun | 22=>52 | 25=>9 | 3=>3 | 4=>4 | 9=>9 | 20=>20 | 0=>0 | n=>n,fun | n=>n⟩
theorem Tryz.layGrow:Go.Proofs.Lays8.n4 Tryz.prog Tryz.layGrow_ren:={
 mixed:=by kernel_rfl
 f4:=⟨Tryz.f94.name,by decide,Tryz.func94.trans (congrArg some Go.Eng.Wk)⟩
 t0:=Tryz.underlying0
 a0:=Tryz.isAgg0
 z0:=Tryz.sizeOf0
 v0:=Tryz.zeroValue0
 t3:=Tryz.underlying3
 a3:=Tryz.isAgg3
 z3:=Tryz.sizeOf3
 v3:=Tryz.zeroValue3
 t4:=Tryz.underlying4
 a4:=Tryz.isAgg4
 z4:=Tryz.sizeOf4
 v4:=Tryz.zeroValue4
 t9:=Tryz.underlying9
 a9:=Tryz.isAgg9
 z9:=Tryz.sizeOf9
 v9:=Tryz.zeroValue9
 t20:=Tryz.underlying20
 a20:=Tryz.isAgg20
 z20:=Tryz.sizeOf20
 v20:=Tryz.zeroValue20
 t22:=Tryz.underlying52
 a22:=Tryz.isAgg52
 z22:=Tryz.sizeOf52
 v22:=Tryz.zeroValue52 }
end Go.Proofs
