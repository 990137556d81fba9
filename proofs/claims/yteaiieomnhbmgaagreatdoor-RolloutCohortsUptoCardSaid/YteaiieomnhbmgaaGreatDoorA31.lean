/- Lemmas for the claims of this seat, without a condition: part 31 (W14, W15, W16, W17, W18, W19, W20, LayGrow). -/
import Derived.Test.YteaiieomnhbmgaaGreatDoorA30
import Derived.Lib.AppendIntMem
import Derived.Lib.ItoaLen
import Derived.Shelf.Spec.SlicesGrow
import Derived.Shelf.SlGeneric
import Derived.Ground.Names8Prog
set_option maxHeartbeats 4000000
namespace Go.Eng
open Go.Proofs
open Go.Sort Go.Lib
variable {p:ByteArray}{j i:Nat}{b:AV}(l m:List Sl)(mv:List ByteArray)
theorem xV(x y:SlA):ltOf cfBt x y=Ea x.1 y.1:=by
 rw[F9];unfold ltOf cfBt;cases h:Op.bytesLess x.1.toList y.1.toList with
 |true=>rfl
 |false=>rfl
theorem mf{B7:List (Value×AV)}{k k' : Value}{a:AV}:(k',b)∈EX B7 k a↔(k'=k/\b=a)\/(k'≠k/\(k',b)∈B7):=by
 by_cases h:∃a',(k,a')∈B7
 .obtain⟨a',ha⟩:=h;rw[Ny ha,Ag];constructor
  .rintro⟨p,hp,e⟩
   by_cases hk:p.1=k
   .rw[Al hk]at e;cases e;exact .inl Zr
   .rw[Ai hk]at e;subst e;exact .inr ⟨hk,hp⟩
  .rintro(⟨rfl,rfl⟩ | ⟨hk,hp⟩)
   .exact⟨_,ha,Al rfl⟩
   .exact⟨_,hp,Ai hk⟩
 .have h2:∀a',(k,a')∉B7:=fun a' e=>h ⟨a',e⟩;rw[IL h2,AO,Ap];constructor
  .rintro(hp | e)
   .exact .inr ⟨fun e=>h2 b (e▸hp),hp⟩
   .cases e;exact .inl Zr
  .rintro(⟨rfl,rfl⟩ | ⟨hk,hp⟩)
   .exact .inr rfl
   .exact .inl hp
def Hc(p:ByteArray):Bool:=mv.any fun q=>decide (q=p)
noncomputable def kM:List (Value×AV):=mv.foldl (fun m p=>EX m (.string p) (vb true)) []
theorem o9{mv:List ByteArray}(h:i<mv.length):EX (kM (mv.take i)) (.string mv[i]) (vb true)=kM (mv.take (i+1)):=by
 rw[BW h,kM,kM,Em];rfl
theorem UN{mv:List ByteArray}:Hc mv p=true↔p∈mv:=by
 unfold Hc;rw[Bd];exact⟨fun⟨q,hq,e⟩=>AU e▸hq,fun h=>⟨p,h,Ax rfl⟩⟩
theorem QN:(Value.string p,b)∈kM mv↔Hc mv p=true/\b=vb true:=by
 have go:∀(l:List ByteArray) (m:List (Value×AV)),(Value.string p,b)∈l.foldl (fun m p=>EX m (.string p) (vb true)) m↔(p∈l/\b=vb true)\/(p∉l/\(Value.string p,b)∈m):=fun l=>by
  induction l with
  |nil=>intro m;simp
  |cons a l ih =>
   intro m;rw[E9,ih,mf]
   by_cases h1:p∈l
   .simp[h1]
   .by_cases h2:p=a
    .subst h2;simp[h1]
    .have h3:Value.string p≠Value.string a:=fun e=>h2 (by injection e);simp[h1,h2,h3]
 rw[UN];have q:=go mv [];unfold kM;rw[q];simp
def SD:List Sl:=l.filter (fun s=>!Hc mv s.path)++m.filter (fun s=>Hc mv s.path)
theorem Sp{l:List Sl}(h:l.Pairwise UK)(p:Sl->Bool):((l.filter p).map (·.path)).Nodup:=by
 have q:=List.Pairwise.filter p h;rw[List.nodup_iff_pairwise_ne,Lc];exact q.imp fun {a b} cw e=>by
  have cw:Ea a.path b.path=true:=cw;rw[e,Df]at cw;cases cw
theorem TS{l m:List Sl}(hl:l.Pairwise UK)(hm:m.Pairwise UK)(mv:List ByteArray):((SD l m mv).map (·.path)).Nodup:=by
 rw[SD,Ar,FG];refine⟨Sp hl _,Sp hm _,fun a ha b hb e=>?_⟩;obtain⟨s,hs,rfl⟩:=Ag.1 ha;obtain⟨t,ht,e2⟩:=Ag.1 hb;have h1:=(Bv.1 hs).2;have h2:=(Bv.1 ht).2;rw[show t.path=s.path from e2.trans e.symm]at h2;rw[h2]at h1;cases h1
def RO(j:Nat):List Sl:=(l.take j).filter fun s=>!Hc mv s.path
def NN(k:Nat):List Sl:=RO l mv l.length++(m.take k).filter fun s=>Hc mv s.path
theorem pg{p:Sl->Bool}{l:List Sl}(h:i<l.length):(l.take (i+1)).filter p=(l.take i).filter p++if p l[i]=true then [l[i]]else []:=by
 rw[BW h,EE,Ef];rfl
theorem Aae{l:List Sl}{mv:List ByteArray}(h:j<l.length)(k:Hc mv l[j].path=false):RO l mv (j+1)=RO l mv j++[l[j]]:=by rw[RO,pg h,Al (by rw[k];rfl)];rfl
theorem Aad{l:List Sl}{mv:List ByteArray}(h:j<l.length)(k:Hc mv l[j].path=true):RO l mv (j+1)=RO l mv j:=by rw[RO,pg h,Ai (by rw[k];decide),BP];rfl
theorem Aag{l m:List Sl}{mv:List ByteArray}(h:j<m.length)(k:Hc mv m[j].path=true):NN l m mv (j+1)=NN l m mv j++[m[j]]:=by rw[NN,pg h,Al (by rw[k]),<-BA];rfl
theorem Aaf{l m:List Sl}{mv:List ByteArray}(h:j<m.length)(k:Hc mv m[j].path=false):NN l m mv (j+1)=NN l m mv j:=by rw[NN,pg h,Ai (by rw[k];decide),BP];rfl
theorem kh(j:Nat):(RO l mv j).length<=l.length:=AJ (Bq _ _) (by rw[Av];omega)
theorem ki(j:Nat):(NN l m mv j).length<=l.length+m.length:=by
 rw[NN,Ac];exact Nat.add_le_add (kh _ _ _) (AJ (Bq _ _) (by rw[Av];omega))
theorem XS:NN l m mv m.length=SD l m mv:=by rw[NN,RO,B4,B4];rfl
theorem rV(x:List Rl)(l m:List Sl)(mv:List ByteArray)(hl:Iz l)(RW:Iz m)(hbt:B9 (SD l m mv))(cD:B9 mv):PC 77 [.cptr [.cmap Cm (CI x l),.cmap Cm (CI x m),sl Am l,sl Am m,sl AD (I8 l m)],sl AD mv] (sl Am (D1 (SD l m mv))):=by
 have hll:l.length<=1073741824:=hl.few;have zJ:m.length<=1073741824:=RW.few;have hvl:mv.length<=1073741824:=cD;refine Ps ⟨[],[],[(8,4)],[],[],[],[],[],[],[(200021,8)],[7,21]⟩ Tryz.func77 rfl (Nz rfl) (Xi {q:Nat // q<=mv.length} (Xi (fun q=>⟨[(0,.cptr [.cmap Cm (CI x l),.cmap Cm (CI x m),sl Am l,sl Am m,sl AD (I8 l m)]),(5,.mref 13),(14,sl AD mv),(15,vi (mv.map AD).length),(16,vi q.1)],[(13,.map Cm (kM (mv.take q.1)))],Af⟩) (Xi (fun q=>mv.length-q.1) (Yi (Xi ⟨0,AE _⟩ ?_) ?_))))
 .exact⟨Z5,Z1,Fh,Tv⟩
 intro⟨i,i1⟩;refine Yi (fun h1=>?_) (fun h1=>?_)
 .have h1:(i:Int)<((mv.map AD).length:Int):=h1;have n1:=FW h1;refine Xi (AD mv[i]) (Yi (LH n1) (Yi rfl (Yi (Ii i ch) (Xi ⟨i+1,n1⟩ ?_))));exact⟨Dl mv.length i ch,Z5,⟨⟨(Aa (HO.map Cm) (o9 n1)),rfl⟩,Tv⟩,Fh,Tv⟩
 have n1:=DT h1;have ei:mv.take i=mv:=As (Bz (DT h1));refine cU [(0,.cptr [.cmap Cm (CI x l),.cmap Cm (CI x m),sl Am l,sl Am m,sl AD (I8 l m)]),(5,.mref 13)] [(13,.map Cm (kM mv))] Z2 ⟨⟨(Aa (fun z=>HO.map Cm (kM z)) ei),rfl⟩,Tv⟩ (Xi {q:Nat // q<=l.length} (Xi (fun q=>⟨[(0,.cptr [.cmap Cm (CI x l),.cmap Cm (CI x m),sl Am l,sl Am m,sl AD (I8 l m)]),(5,.mref 13),(8,.msl 8 ((RO l mv q.1)).length),(26,sl Am l),(27,vi (l.map Am).length),(28,vi q.1)],[(8,.arr 4 ((RO l mv q.1).map Am)),(13,.map Cm (kM mv))],Af⟩) (Xi (fun q=>l.length-q.1) (Yi (Xi ⟨0,AE _⟩ ?_) ?_))))
 .exact⟨Z6,Z2,Fh,Tv⟩
 intro⟨j,j1⟩;refine Yi (fun h3=>?_) (fun h3=>?_)
 .have h3:(j:Int)<((l.map Am).length:Int):=h3;have n3:=FW h3;have hA:=kh l mv j;refine Xi (Am l[j]) (Yi (LH n3) (Yi rfl (yN (yN (Yi (fun a ha=>?_) (fun NO=>?_))))))
  .have ea:=((QN mv).1 ha).2;have h4:Hc mv l[j].path=true:=((QN mv).1 ha).1;subst ea;refine Yi (Ii j ch) ?_;have ew:=Aad (mv:=mv) n3 h4;refine Xi ⟨j+1,n3⟩ ?_;exact⟨Dl l.length j ch,⟨Zr,Zr,⟨(show AV.msl 8 ((RO l mv j)).length=.msl 8 (RO l mv (j+1)).length by rw[ew]),rfl⟩,Zr,Zr,Zr,Tv⟩,⟨⟨(show HO.arr 4 ((RO l mv j).map Am)=.arr 4 ((RO l mv (j+1)).map Am) by rw[ew]),rfl⟩,Zr,Tv⟩,Fh,Tv⟩
  have h4:Hc mv l[j].path=false:=by rw[AM];exact fun e=>NO _ ((QN mv).2 ⟨e,rfl⟩)
  refine yN ?_;have b6:Cn 4 [(Am l[j])]/\((RO l mv j).map Am).length=((RO l mv j)).length/\(((RO l mv j).map Am).length+([(Am l[j])]:List (List AV)).length)*40<=140737488355328/\((RO l mv j).map Am).length+([(Am l[j])]:List (List AV)).length<=9223372036854775807:=⟨⟨rfl,trivial⟩,(by first | (simp;done) | (rw[Lm];assumption)),(by simp only[Lm,Ak,At];omega),(by simp only[Lm,Ak,At];omega)⟩
  refine Yi b6 (Yi (Ii j ch) ?_);have ew:=Aae (mv:=mv) n3 h4;refine Xi ⟨j+1,n3⟩ ?_;exact⟨Dl l.length j ch,⟨Zr,Zr,⟨(show AV.msl 8 (((RO l mv j).map Am).length+([(Am l[j])]:List (List AV)).length)=.msl 8 (RO l mv (j+1)).length by rw[ew];simp),rfl⟩,Zr,Zr,Zr,Tv⟩,⟨⟨(show HO.arr 4 (((RO l mv j).map Am)++[(Am l[j])])=.arr 4 ((RO l mv (j+1)).map Am) by rw[ew,Ar];rfl),rfl⟩,Zr,Tv⟩,Fh,Tv⟩
 have h3:¬((j:Int)<((l.map Am).length:Int)):=h3;have n3:=DT h3;have ej:j=l.length:=by have q:=DT h3;omega
 have eb:RO l mv j=NN l m mv 0:=by rw[ej,NN,List.take_zero,List.filter_nil,BP]
 refine Xi {q:Nat // q<=m.length} (Xi (fun q=>⟨[(5,.mref 13),(8,.msl 8 ((NN l m mv q.1)).length),(45,sl Am m),(46,vi (m.map Am).length),(47,vi q.1)],[(8,.arr 4 ((NN l m mv q.1).map Am)),(13,.map Cm (kM mv))],Af⟩) (Xi (fun q=>m.length-q.1) (Yi (Xi ⟨0,AE _⟩ ?_) ?_)))
 .exact⟨⟨Zr,⟨(show AV.msl 8 (RO l mv j).length=.msl 8 (NN l m mv 0).length by rw[eb]),rfl⟩,Zr,Zr,Zr,Tv⟩,⟨⟨(show HO.arr 4 ((RO l mv j).map Am)=.arr 4 ((NN l m mv 0).map Am) by rw[eb]),rfl⟩,Zr,Tv⟩,Fh,Tv⟩
 intro⟨k,k1⟩;have k1:k<=m.length:=k1;refine Yi (fun h8=>?_) (fun h8=>?_)
 .have h8:(k:Int)<((m.map Am).length:Int):=h8;have n8:=FW h8;have hB:=ki l m mv k;refine Xi (Am m[k]) (Yi (LH n8) (Yi rfl (yN (yN (Yi (fun a ha=>?_) (fun NO=>?_))))))
  .have ea:=((QN mv).1 ha).2;have h9:Hc mv m[k].path=true:=((QN mv).1 ha).1;subst ea;refine yN ?_;have Wp:Cn 4 [(Am m[k])]/\((NN l m mv k).map Am).length=((NN l m mv k)).length/\(((NN l m mv k).map Am).length+([(Am m[k])]:List (List AV)).length)*40<=140737488355328/\((NN l m mv k).map Am).length+([(Am m[k])]:List (List AV)).length<=9223372036854775807:=⟨⟨rfl,trivial⟩,(by first | (simp;done) | (rw[Lm];assumption)),(by simp only[Lm,Ak,At];omega),(by simp only[Lm,Ak,At];omega)⟩
   refine Yi Wp (Yi (Ii k ch) ?_);have ew:=Aag (mv:=mv) (l:=l) n8 h9;refine Xi ⟨k+1,n8⟩ ?_;exact⟨Dl m.length k ch,⟨Zr,⟨(show AV.msl 8 (((NN l m mv k).map Am).length+([(Am m[k])]:List (List AV)).length)=.msl 8 (NN l m mv (k+1)).length by rw[ew];simp),rfl⟩,Zr,Zr,Zr,Tv⟩,⟨⟨(show HO.arr 4 (((NN l m mv k).map Am)++[(Am m[k])])=.arr 4 ((NN l m mv (k+1)).map Am) by rw[ew,Ar];rfl),rfl⟩,Zr,Tv⟩,Fh,Tv⟩
  have h9:Hc mv m[k].path=false:=by rw[AM];exact fun e=>NO _ ((QN mv).2 ⟨e,rfl⟩)
  refine Yi (Ii k ch) ?_;have ew:=Aaf (mv:=mv) (l:=l) n8 h9;refine Xi ⟨k+1,n8⟩ ?_;exact⟨Dl m.length k ch,⟨Zr,⟨(show AV.msl 8 ((NN l m mv k)).length=.msl 8 (NN l m mv (k+1)).length by rw[ew]),rfl⟩,Zr,Zr,Zr,Tv⟩,⟨⟨(show HO.arr 4 ((NN l m mv k).map Am)=.arr 4 ((NN l m mv (k+1)).map Am) by rw[ew]),rfl⟩,Zr,Tv⟩,Fh,Tv⟩
 have h8:¬((k:Int)<((m.map Am).length:Int)):=h8;have n8:=DT h8;have ek:k=m.length:=by have q:=DT h8;omega
 have hs:=yI xV 134 Tryz.closure134 (enters_of Tryz.func134 Wk rfl) (SD l m mv) hbt (TS hl.inc RW.inc mv);rw[show SD l m mv=(NN l m mv k)from by rw[ek,XS]]at hs;refine Xi (.gen [(8,1000)] 0) (Yi rfl (A9.to2 hs ?_));refine Yi (show((NN l m mv k)).length=((D1 ((NN l m mv k))).map Am).length by rw[Lm,(Kl _).length_eq]) ?_;refine cU [(8,sl Am (D1 ((NN l m mv k))))] [] Z1 Tv ?_
 exact CZ.of_eq (show sl Am (D1 ((NN l m mv k)))=sl Am (D1 (SD l m mv)) by rw[ek,XS])
end Go.Eng
namespace Go.Eng
open Go.Proofs
variable {i k:Nat}(x:List Rl)(ifs:List (List AV))(l m:List Sl)(p mv:List ByteArray)(Bm:List (List ByteArray))
theorem rc(l m:List (ByteArray))(hl:B9 l):PC 100 [sl AD l,sl AD m] (vb (decide (l=m))):=by
 refine Ps Ee Tryz.func100 rfl (Nz rfl) (Yi ?_ ?_)
 .intro h
  have:l≠m:=fun e=>h (by rw[e])
  rw[AB this];exact .refl _
 .intro h;have CL:l.length=m.length:=by simp at h;omega
  refine Xi {i:Nat // i<=l.length/\l.take i=m.take i} (Xi (fun i=>⟨[(0,sl AD l),(1,sl AD m),(12,vi (l.map AD).length),(13,vi i.1)],[],Af⟩) (Xi (fun i=>l.length-i.1) (Yi (Xi ⟨0,by simp⟩ ?_) ?_)))
  .exact⟨Z4,Tv,Fh,Tv⟩
  .intro⟨i,h1,h2⟩;refine Yi ?_ ?_
   .intro h;have h:i<l.length:=by simpa using h
    have h' : i<m.length:=by omega
    have hg:l[i]?=some l[i]:=Ge h;have Ta : m[i]?=some m[i]:=Ge h';refine Xi (AD l[i]) (Yi (Yi (Nn i) (by simp[hg])) (Yi rfl ?_));refine Xi (AD m[i]) (Yi (Yi (Nn i) (by simp[Ta])) (Yi rfl ?_));refine Yi ?_ ?_
    .intro h5;refine Yi Wk ?_
     have:l≠m:=fun e=>h5 (by subst e;rfl)
     rw[AB this];exact .refl _
    .intro h5;have e:l[i]=m[i]:=B3.1 h5;refine Yi Wk (Yi (by show A7 ((i:Int)+1);unfold B9 at hl;unfold A7;omega) (Xi ⟨i+1,by omega,?_⟩ ?_))
     .rw[Bi,Bi,h2,hg,Ta,e]
     .exact⟨Dl l.length i ch,Z4,Tv,Fh,Tv⟩
   .intro h;have h:¬i<l.length:=by simpa using h
    have e:l=m:=by
     rw[<-As (l:=l) (i:=i) ch,h2,As ch]
    rw[Ax e];exact .refl _
def wIx(l:List ByteArray)(p:ByteArray):Int:=Jv (fun q=>decide (q=p)) l 0
theorem uC{l:List ByteArray}{p:ByteArray}:(∀q∈l,q≠p)->∀k:Int,Jv (fun q=>decide (q=p)) l k=-1:=by
 induction l with
 |nil=>intro _ _;rfl
 |cons a l ih=>intro h k;rw[Jv,Ai (by rw[decide_eq_true_iff];exact h a (Ab ..))];exact ih (fun q hq=>h q (Ah _ hq)) _
theorem y6(l:List ByteArray)(p:ByteArray)(hl:B9 l):PC 132 [sl AD l,vs p] (vi (wIx l p)):=by
 refine Ps Ee Tryz.func132 rfl (Nz rfl) (Xi {q:Nat // q<=l.length/\∀j (hj:j<l.length),j<q->l[j]≠p} (Xi (fun q=>⟨[(0,sl AD l),(1,vs p),(7,vi (l.map AD).length),(8,vi q.1)],[],Af⟩) (Xi (fun q=>l.length-q.1) (Yi (Xi ⟨0,AE _,fun j hj h=>absurd h ch⟩ ?_) ?_))))
 .exact⟨Z4,Tv,Fh,Tv⟩
 intro⟨i,i1,i2⟩;refine Yi (fun h1=>?_) (fun h1=>?_)
 .have h1:(i:Int)<((l.map AD).length:Int):=h1;have n1:=FW h1;refine Xi (AD l[i]) (Yi (LH n1) (Yi rfl (Yi (fun h2=>?_) (fun h2=>?_))))
  .exact CZ.of_eq (Aa vi (show(i:Int)=wIx l p by rw[wIx,HC (p:=fun q=>decide (q=p)) (k:=0) n1 (fun j hj h=>AB (i2 j hj h)) (Ax (h2).symm)];omega))
  refine Yi (Ii i ch) (Xi ⟨i+1,n1,fun j hj h=>by rcases DQ j i with hg | hg;exact i2 j hj hg;have e:j=i:=ch;subst e;exact fun e=>h2 e.symm⟩ ?_);exact⟨Dl l.length i ch,Z4,Tv,Fh,Tv⟩
 have n1:=DT h1;exact CZ.of_eq (Aa vi (show -1=wIx l p from(uC (fun q hq=>by obtain⟨j,hj,rfl⟩:=Cf.1 hq;exact i2 j hj (By hj (Bz (DT h1)))) 0).symm))
theorem rX(l:List ByteArray)(p:ByteArray)(hl:B9 l):PC 76 [sl AD l,vs p] (vb (Hc l p)):=by
 refine Ps Ee Tryz.func76 rfl (Nz rfl) (Xi .pure (Xi _ (Yi (y6 l p hl) (Yi (fun h1=>?_) (fun h1=>?_)))))
 .exact CZ.of_eq (Aa vb (show true=Hc l p by rw[Hc,<-Hy (p:=fun q=>decide (q=p)) l 0 (Bs 0)];exact(Ax h1).symm))
 exact CZ.of_eq (Aa vb (show false=Hc l p by rw[Hc,<-Hy (p:=fun q=>decide (q=p)) l 0 (Bs 0)];exact(AB h1).symm))
theorem nG(p:ByteArray)(hl:B9 (I8 l m)):PC 75 [vs p,.cptr [.cptr [.cmap Cm (CI x l),.cmap Cm (CI x m),sl Am l,sl Am m,sl AD (I8 l m)]]] (vb (!Hc (I8 l m) p)):=by
 refine Ps Ee Tryz.func75 rfl (Nz rfl) (B8 (Bt (Hc (I8 l m) p)) (fun h1=>?_) (fun h1=>?_))
 .refine Xi .pure (Xi _ (Yi (cb h1 (rX (I8 l m) p hl)) ?_));exact CZ.of_eq (Aa vb (show false=!Hc (I8 l m) p by rw[h1];rfl))
 refine Xi .pure (Xi _ (Yi (cb h1 (rX (I8 l m) p hl)) ?_));exact CZ.of_eq (Aa vb (show true=!Hc (I8 l m) p by rw[h1];rfl))
def Ph:Int:=if QC x l m=0 then if mv.any (fun p=>!Hc (I8 l m) p)=true then 6 else 0 else QC x l m
def TT:AV:=if Ph x l m mv=0 then .tup [sl Am (D1 (SD l m mv)),vi 0]else .tup [nzA,vi (Ph x l m mv)]
theorem Of{x:List Rl}{l m:List Sl}(h:QC x l m=0):N8 x l=0/\N8 x m=0:=by
 unfold QC at h;split at h
 .rename_i h1;exact⟨Np h1,Np h⟩
 .rename_i h1;exact absurd h h1
theorem XT:(SD l m mv).length<=l.length+m.length:=by rw[<-XS];exact ki _ _ _ _
theorem fe{x:List Rl}{l m:List Sl}(hl:B9 l)(hm:B9 m)(h:QC x l m=0):(I8 l m).length<=l.length+m.length:=by
 rw[I8,Lm];exact mZ l m (GH (Of h).1 hl) (GH (Of h).2 hm)
theorem uD(hx:∀r∈x,Eu r)(J0:l.length<=16)(FU:m.length<=16)(cD:B9 mv)(c0:¬QC x l m=0):PC 35 [.agg (Ic x ifs),sl Am l,sl Am m,sl AD mv] (TT x l m mv):=by
 have hl:B9 l:=AJ J0 Cl;have RW:B9 m:=AJ FU Cl;have hq:mv.length<=1073741824:=cD;refine Ps (pC [4,10] []) Tryz.func35 rfl (Nz rfl) (yN (Xi .pure (Xi _ (Yi (by have q:=nT x ifs l m hx hl RW J0 FU;rw[dD,Ai c0]at q;exact q) ?_))));refine yN (Yi (fun h1=>?_) (fun h1=>?_))
 .exact CZ.of_eq (show AV.tup [nzA,vi (QC x l m)]=TT x l m mv by rw[TT,Ph,Ai c0,Ai c0])
 have h1:((QC x l m):Int)=(0:Int):=AL h1;exact absurd h1 c0
theorem uE(hx:∀r∈x,Eu r)(J0:l.length<=16)(FU:m.length<=16)(cD:B9 mv)(c0:QC x l m=0):PC 35 [.agg (Ic x ifs),sl Am l,sl Am m,sl AD mv] (TT x l m mv):=by
 have hl:B9 l:=AJ J0 Cl;have RW:B9 m:=AJ FU Cl;have hq:mv.length<=1073741824:=cD;refine Ps (pC [4,10] []) Tryz.func35 rfl (Nz rfl) (yN (Xi .pure (Xi _ (Yi (by have q:=nT x ifs l m hx hl RW J0 FU;rw[dD,Al c0]at q;exact q) ?_))));refine yN (Yi (fun h=>absurd h Cl) (fun _=>?_));refine B8 (Bt (mv.any fun p=>!Hc (I8 l m) p)) (fun h1=>?_) (fun h1=>?_)
 .refine Xi .pure (Xi _ (Yi (cb h1 (z74 (fF:=75) (CV.ptr _) mv (fun p=>!Hc (I8 l m) p) (fun p hp=>nG x l m p (show(I8 l m).length<=1073741824 by have q:=fe hl RW c0;omega)) cD)) ?_));exact CZ.of_eq (show AV.tup [nzA,vi 6]=TT x l m mv by unfold TT Ph;rw[Al c0,h1];rfl)
 refine Xi .pure (Xi _ (Yi (cb h1 (z74 (fF:=75) (CV.ptr _) mv (fun p=>!Hc (I8 l m) p) (fun p hp=>nG x l m p (show(I8 l m).length<=1073741824 by have q:=fe hl RW c0;omega)) cD)) (Xi .pure (Xi _ (Yi (rV x l m mv (GH (Of c0).1 hl) (GH (Of c0).2 RW) (show(SD l m mv).length<=1073741824 by have q:=XT l m mv;omega) cD) ?_)))));exact CZ.of_eq (show AV.tup [sl Am (D1 (SD l m mv)),vi 0]=TT x l m mv by unfold TT Ph;rw[Al c0,h1];rfl)
theorem rT(hx:∀r∈x,Eu r)(J0:l.length<=16)(FU:m.length<=16)(cD:B9 mv):PC 35 [Mo x ifs,sl Am l,sl Am m,sl AD mv] (TT x l m mv):=by
 by_cases h:QC x l m=0
 .exact uE x ifs l m mv hx J0 FU cD h
 .exact uD x ifs l m mv hx J0 FU cD h
theorem nM(a b:ByteArray):PC 159 [vs a,vs b] (vb (Ea a b)):=by
 refine Ps Ee Tryz.func159 rfl (Nz rfl) (Xi .pure (Xi _ (Yi (sM a) (Yi (fun h1=>?_) (fun h1=>?_)))))
 .have h1:Ea a b=true:=(F9 _ _).trans h1;exact CZ.of_eq (Aa vb h1.symm)
 have h1:Ea a b=false:=(F9 _ _).trans (AM.2 h1);exact CZ.of_eq (Aa vb h1.symm)
def G5:List ByteArray->Bool
 |a::b::r=>!Ea b a&&G5 (b::r)
 |_=>true
theorem dz(l:List ByteArray):G5 (l.drop (l.length-1))=true:=by
 cases h:l.drop (l.length-1)with
 |nil=>rfl
 |cons a r =>
  have q:=Aa List.length h;rw[Dc,Ak]at q;have e:r=[]:=FF.1 ch;subst e;rfl
theorem Nb{l:List ByteArray}(h:i+1<l.length):G5 (l.drop i)=(!Ea l[i+1] l[i]&&G5 (l.drop (i+1))):=by
 rw[AH (show i<l.length by omega),AH h];rfl
theorem Vk{l:List ByteArray}:∀{i:Nat},G5 (l.drop i)=false->G5 l=false
 |0,h=>h
 |i+1,h=>by
  refine Vk (i:=i) ?_
  by_cases hi:i+1<l.length
  .rw[Nb hi,h,Dn]
  .rw[Cr ch]at h;cases h
theorem bq(l:List ByteArray)(hl:B9 l):PC 98 [sl AD l] (vb (G5 l)):=by
 have hl:l.length<=1073741824:=hl;have zJ:(l.map AD).length=l.length:=Lm ..;refine Ps Ee Tryz.func98 rfl (Nz rfl) (Yi (by show A7 (((l.map AD).length:Int)-(1:Int));unfold A7;omega) ?_);refine Xi {q:Nat // q<=l.length/\G5 (l.drop (q-1))=true} (Xi (fun q=>⟨[(0,sl AD l),(3,vi ((q.1:Int)-1))],[],Af⟩) (Xi (fun q=>q.1) (Yi (Xi ⟨l.length,Aj _,dz l⟩ ?_) ?_)))
 .exact⟨⟨Zr,⟨(Aa vi (show(((l.map AD).length:Nat):Int)-1=(l.length:Int)-1 by rw[Lm])),rfl⟩,Tv⟩,Tv,Fh,Tv⟩
 intro⟨q_,i1,i2⟩;have i1:q_<=l.length:=i1;have i2:G5 (l.drop (q_-1))=true:=i2;refine Yi (fun h1=>?_) (fun h1=>?_)
 .have h1:(0:Int)<((q_:Int)-1:Int):=h1;refine Xi (AD (l[q_-1]' ch)) (Yi (Yi (show(0:Int)<=(q_:Int)-1 by omega) (by rw[show((q_:Int)-1:Int).toNat=q_-1 by omega];exact Ed (Ge ch))) (Yi rfl ?_));refine Yi (by show A7 (((q_:Int)-1:Int)-(1:Int));unfold A7;omega) ?_;refine Xi (AD (l[q_-2]' ch)) (Yi (Yi (show(0:Int)<=((q_:Int)-1)-1 by omega) (by rw[show(((q_:Int)-1)-1:Int).toNat=q_-2 by omega];exact Ed (Ge ch))) (Yi rfl ?_));refine B8 (Bt (Ea (l[q_-1]' ch) (l[q_-2]' ch))) (fun h2=>?_) (fun h2=>?_)
  .have h2:(Ea (l[q_-1]' ch) (l[q_-2]' ch))=true:=h2;refine Xi _ (Yi (cb h2 (nM (l[q_-1]' ch) (l[q_-2]' ch))) (Yi Wk ?_));exact CZ.of_eq (Aa vb (show false=G5 l from(Vk (i:=q_-2) (by rw[Nb (l:=l) (i:=q_-2) ch];simp only[show q_-2+1=q_-1 by omega,h2];rfl)).symm))
  have h2:(Ea (l[q_-1]' ch) (l[q_-2]' ch))=false:=h2;refine Xi _ (Yi (cb h2 (nM (l[q_-1]' ch) (l[q_-2]' ch))) (Yi Wk (Yi (by show A7 (((q_:Int)-1:Int)-(1:Int));unfold A7;omega) ?_)));refine Xi ⟨q_-1,by omega,by rw[show q_-1-1=q_-2 by omega,Nb (l:=l) (i:=q_-2) ch];simp only[show q_-2+1=q_-1 by omega,i2,h2];rfl⟩ ?_;exact⟨by show(q_-1:Nat)<q_;omega,⟨Zr,⟨(Aa vi (show(q_:Int)-1-1=((q_-1:Nat):Int)-1 by omega)),rfl⟩,Tv⟩,Tv,Fh,Tv⟩
 have h1:¬((0:Int)<((q_:Int)-1:Int)):=h1;exact CZ.of_eq (Aa vb (show true=G5 l by rw[show q_-1=0 by omega]at i2;exact i2.symm))
abbrev CG:List AV:=[sl AD p]
def Kx:List ByteArray:=((p.map Kr).mergeSort fun a b=>decide (a<=b)).map QJ
theorem JS:(Kx p).Perm p/\((Kx p).map Kr).Pairwise fun a b=>a<=b:=by
 have e:∀q:ByteArray,QJ (Kr q)=q:=fun q=>by cases q;simp
 have e2:∀q:List UInt8,Kr (QJ q)=q:=fun q=>by simp
 refine⟨?_,?_⟩
 .have h:=(NT (p.map Kr) fun a b=>decide (a<=b)).map QJ
  rwa [Bo,show(QJ ∘ Kr)=id from funext e,F3]at h
 .rw[Kx,Bo,show(Kr ∘ QJ)=id from funext e2,F3];have h:=Ky (le:=fun a b:List UInt8=>decide (a<=b)) (fun a b c h1 h2=>Ax (List.le_trans (AU h1) (AU h2))) (fun a b=>by rcases List.le_total a b with h | h<;>simp[h]) (p.map Kr)
  exact h.imp fun h=>AU h
def cZ:Bool:=!p.isEmpty&&G5 p
def zg(i:Nat):Bool:=decide (Fb x (D1 (SD l m (Bm.take (i+1)).flatten))=0)
def bu:Bool:=(List.range Bm.length).all (zg x l m Bm)
def GY:Int :=
 if QC x l m=0 then if Bm.all cZ=true then if Kx Bm.flatten=I8 l m then if bu x l m Bm=true then 0 else 17 else 1 else 1 else QC x l m
theorem HP{Bm:List (List ByteArray)}(h:i<Bm.length):(Bm.take (i+1)).flatten=(Bm.take i).flatten++Bm[i]:=by
 rw[BW h,Cc];simp
theorem SY{Bm:List (List ByteArray)}{B:Nat}(h:∀p∈Bm,p.length<=B):∀i,(Bm.take i).flatten.length<=i*B
 |0=>by simp
 |i+1=>by
  rw[D5]
  by_cases hi:i<Bm.length
  .rw[HP hi,Ac];exact Nat.add_le_add (SY h i) (h _ (Aq hi))
  .have e:Bm.take (i+1)=Bm.take i:=by rw[As (l:=Bm) (i:=i+1) ch,As (l:=Bm) (i:=i) ch]
   rw[e];exact AJ (SY h i) (Nat.le_add_right _ _)
theorem mI{Bm:List (List ByteArray)}(h:i<Bm.length)(k:cZ Bm[i]=false):¬Bm.all cZ=true:=fun e=>by
 have q:=Bc.1 e _ (Aq h);rw[k]at q;cases q
theorem ud{Bm:List (List ByteArray)}(h:∀j (hj:j<Bm.length),j<i->cZ Bm[j]=true)(hi:Bm.length<=i):Bm.all cZ=true:=by
 rw[Bc];intro p hp;obtain⟨j,hj,rfl⟩:=Cf.1 hp;exact h j hj ch
theorem pf{Bm:List (List ByteArray)}(Dy:Bm≠[])(h:Bm.all cZ=true):Bm.flatten≠[]:=fun e=>by
 cases Bm with
 |nil=>exact Dy rfl
 |cons p r =>
  have q:=Bc.1 h p (Ab ..);rw[BB]at e;rw[(List.append_eq_nil_iff.1 e).1]at q;cases q
theorem u5{x:List Rl}{l m:List Sl}{Bm:List (List ByteArray)}(h:k<Bm.length)(e:zg x l m Bm k=false):¬bu x l m Bm=true:=fun c=>by
 have q:=Bc.1 c k (Gi.2 h);rw[e]at q;cases q
theorem uZ{x:List Rl}{l m:List Sl}{Bm:List (List ByteArray)}(h:∀j,j<k->zg x l m Bm j=true)(hk:Bm.length<=k):bu x l m Bm=true :=
 Bc.2 fun j hj=>h j (by have:=Gi.1 hj;omega)
theorem uJ(hx:∀r∈x,Eu r)(J0:l.length<=16)(FU:m.length<=16)(_hpl:Bm.length<=100000)(_hpe:∀p∈Bm,p.length<=100000)(c0:¬QC x l m=0):PC 58 [.agg (Ic x ifs),sl Am l,sl Am m,sl CG Bm] (vi (GY x l m Bm)):=by
 have hl:B9 l:=AJ J0 Cl;have RW:B9 m:=AJ FU Cl;refine Ps (pC [4] []) Tryz.func58 rfl (Nz rfl) (yN (Xi .pure (Xi _ (Yi (by have q:=nT x ifs l m hx hl RW J0 FU;rw[dD,Ai c0]at q;exact q) ?_))));refine Yi (fun h1=>?_) (fun h1=>?_)
 .exact CZ.of_eq (Aa vi (show(QC x l m)=GY x l m Bm by rw[GY,Ai c0]))
 have h1:((QC x l m):Int)=(0:Int):=AL h1;exact absurd h1 c0
theorem uK(hx:∀r∈x,Eu r)(J0:l.length<=16)(FU:m.length<=16)(pz:Bm.length<=1000)(QW:∀p∈Bm,p.length<=100000)(S7:∀i,(Bm.take i).flatten.length<=1073741824)(Dy:Bm≠[])(c0:QC x l m=0):PC 58 [.agg (Ic x ifs),sl Am l,sl Am m,sl CG Bm] (vi (GY x l m Bm)):=by
 have hl:B9 l:=AJ J0 Cl;have RW:B9 m:=AJ FU Cl;have Ym:B9 Bm.flatten:=by have q:=S7 Bm.length;rw[B4]at q;exact q
 have Sa:∀i,B9 (Kx (Bm.take i).flatten):=fun i=>by show(Kx _).length<=_;rw[(JS _).1.length_eq];exact S7 i
 refine Ps ⟨[4],[(14,1)],[(11,1)],[],[],[],[],[],[],[(200013,11)],[5,11,13,20]⟩ Tryz.func58 rfl (Nz rfl) (yN (Xi .pure (Xi _ (Yi (by have q:=nT x ifs l m hx hl RW J0 FU;rw[dD,Al c0]at q;exact q) ?_))));refine Yi (fun h=>absurd h Cl) (fun _=>?_);refine cU [(3,sl CG Bm),(4,.ref 4 0),(9,.cptr [.cmap Cm (CI x l),.cmap Cm (CI x m),sl Am l,sl Am m,sl AD (I8 l m)]),(11,.msl 11 0)] [(4,.ro (Ic x ifs)),(11,.arr 1 [])] Z4 Z2 (Xi {q:Nat // q<=Bm.length/\∀j (hj:j<Bm.length),j<q->cZ Bm[j]=true} (Xi (fun q=>⟨[(3,sl CG Bm),(4,.ref 4 0),(9,.cptr [.cmap Cm (CI x l),.cmap Cm (CI x m),sl Am l,sl Am m,sl AD (I8 l m)]),(11,.msl 11 ((Bm.take q.1).flatten).length),(27,sl CG Bm),(28,vi (Bm.map CG).length),(29,vi q.1)],[(4,.ro (Ic x ifs)),(11,.arr 1 (((Bm.take q.1).flatten).map AD))],Af⟩) (Xi (fun q=>Bm.length-q.1) (Yi (Xi ⟨0,AE _,fun j hj h=>absurd h ch⟩ ?_) ?_))))
 .exact⟨Z7,Z2,Fh,Tv⟩
 intro⟨i,i1,i2⟩;refine Yi (fun h1=>?_) (fun h1=>?_)
 .have h1:(i:Int)<((Bm.map CG).length:Int):=h1;have n1:=FW h1;have AfZ:(Bm.take i).flatten.length<=1073741824:=S7 i;have hpi:=QW _ (Aq n1);refine Xi (CG Bm[i]) (Yi (LH n1) (Yi rfl (Yi (fun h2=>?_) (fun h2=>?_))))
  .exact CZ.of_eq (Aa vi (show 1=GY x l m Bm by rw[GY,Al c0,Ai (mI n1 (by rw[cZ,FF.1 (show Bm[i].length=0 by have q:=h2;rw[Lm]at q;omega)];rfl))]))
  refine B8 (Bt (G5 Bm[i])) (fun h4=>?_) (fun h4=>?_)
  .refine Xi .pure (Xi _ (Yi (cb h4 (bq Bm[i] (AJ (QW _ (Aq n1)) Cl))) ?_));have b5:Cn 1 (Bm[i].map AD)/\(((Bm.take i).flatten).map AD).length=((Bm.take i).flatten).length/\((((Bm.take i).flatten).map AD).length+(Bm[i].map AD).length)*16<=140737488355328/\(((Bm.take i).flatten).map AD).length+(Bm[i].map AD).length<=9223372036854775807:=⟨(DZ (enc:=AD) (n:=1) (fun _=>rfl) Bm[i]),(by rw[Lm]),(by simp only[Lm];omega),(by simp only[Lm];omega)⟩;refine Yi b5 (cU [(3,sl CG Bm),(4,.ref 4 0),(9,.cptr [.cmap Cm (CI x l),.cmap Cm (CI x m),sl Am l,sl Am m,sl AD (I8 l m)]),(11,.msl 11 ((((Bm.take i).flatten).map AD).length+(Bm[i].map AD).length)),(27,sl CG Bm),(28,vi (Bm.map CG).length),(29,vi i)] [(4,.ro (Ic x ifs)),(11,.arr 1 ((((Bm.take i).flatten).map AD)++(Bm[i].map AD)))] Z7 Z2 (Yi (Ii i ch) ?_));have GM:cZ Bm[i]=true:=by rw[cZ,h4,Bool.and_true];cases e:Bm[i]with | nil=>exact absurd (by rw[e];rfl) h2 | cons a r=>rfl
   have ew:(((Bm.take i).flatten).map AD++(Bm[i]).map AD)=((Bm.take (i+1)).flatten).map AD:=by rw[HP n1,Ar]
   refine Xi ⟨i+1,n1,fun j hj h=>by rcases DQ j i with hg | hg;exact i2 j hj hg;have e:j=i:=ch;subst e;exact GM⟩ ?_;exact⟨Dl Bm.length i ch,⟨Zr,Zr,Zr,⟨(show AV.msl 11 ((((Bm.take i).flatten).map AD).length+(Bm[i].map AD).length)=.msl 11 ((Bm.take (i+1)).flatten).length by rw[HP n1,Ac,Lm,Lm]),rfl⟩,Zr,Zr,Zr,Tv⟩,⟨Zr,⟨(show HO.arr 1 ((((Bm.take i).flatten).map AD)++(Bm[i].map AD))=.arr 1 (((Bm.take (i+1)).flatten).map AD)from Aa (HO.arr 1) ew),rfl⟩,Tv⟩,Fh,Tv⟩
  refine Xi .pure (Xi _ (Yi (cb h4 (bq Bm[i] (AJ (QW _ (Aq n1)) Cl))) ?_));exact CZ.of_eq (Aa vi (show 1=GY x l m Bm by rw[GY,Al c0,Ai (mI n1 (by rw[cZ,h4,Dn]))]))
 have h1:¬((i:Int)<((Bm.map CG).length:Int)):=h1;have n1:=DT h1;have Gw:Bm.all cZ=true:=ud i2 (Bz (DT h1));have ef:(Bm.take i).flatten=Bm.flatten:=by rw[As (Bz (DT h1))]
 have hs:=x5 Bm.flatten (Kx Bm.flatten) Ym (pf Dy Gw) (JS _).1 (JS _).2;rw[<-ef]at hs;refine Xi (.gen [(11,1000)] 0) (Yi rfl (A9.to2 hs ?_));refine Yi (show((Bm.take i).flatten).length=((Kx ((Bm.take i).flatten)).map AD).length by rw[Lm,(JS _).1.length_eq]) ?_;refine cU [(3,sl CG Bm),(4,.ref 4 0),(9,.cptr [.cmap Cm (CI x l),.cmap Cm (CI x m),sl Am l,sl Am m,sl AD (I8 l m)]),(11,sl AD (Kx ((Bm.take i).flatten)))] [(4,.ro (Ic x ifs))] Z4 Z1 (B8 (Bt (decide (Kx ((Bm.take i).flatten)=I8 l m))) (fun h8=>?_) (fun h8=>?_))
 .have h8:(decide (Kx ((Bm.take i).flatten)=I8 l m))=true:=h8;have zA:Kx Bm.flatten=I8 l m:=by rw[<-ef];exact AU h8
  refine Xi .pure (Xi _ (Yi (cb h8 (rc (Kx ((Bm.take i).flatten)) (I8 l m) (Sa i))) (Xi {q:Nat // q<=Bm.length/\∀j,j<q->zg x l m Bm j=true} (Xi (fun q=>⟨[(4,.ref 4 0),(9,.cptr [.cmap Cm (CI x l),.cmap Cm (CI x m),sl Am l,sl Am m,sl AD (I8 l m)]),(14,.slice (.id 14 1) (((Bm.take q.1).flatten).map AD)),(54,sl CG Bm),(55,vi (Bm.map CG).length),(56,vi q.1)],[(4,.ro (Ic x ifs)),(14,.tok 1 (((Bm.take q.1).flatten).map AD).length)],Af⟩) (Xi (fun q=>Bm.length-q.1) (Yi (Xi ⟨0,AE _,fun j h=>absurd h ch⟩ ?_) ?_))))))
  .exact⟨Z6,Z2,Fh,Tv⟩
  intro⟨k,k1,k2⟩;have k1:k<=Bm.length:=k1;have k2:∀j,j<k->zg x l m Bm j=true:=k2;refine Yi (fun h9=>?_) (fun h9=>?_)
  .have h9:(k:Int)<((Bm.map CG).length:Int):=h9;have n9:=FW h9;have hfk:B9 (Bm.take (k+1)).flatten:=S7 _;have Ag0:(Bm.take k).flatten.length<=1073741824:=S7 k;have YX:=QW _ (Aq n9);refine Xi (CG Bm[k]) (Yi (LH n9) (Yi rfl ?_));have Wp:Cn 1 (Bm[k].map AD)/\(((Bm.take k).flatten).map AD).length=(((Bm.take k).flatten).map AD).length/\((((Bm.take k).flatten).map AD).length+(Bm[k].map AD).length)*16<=140737488355328/\(((Bm.take k).flatten).map AD).length+(Bm[k].map AD).length<=9223372036854775807:=⟨(DZ (enc:=AD) (n:=1) (fun _=>rfl) Bm[k]),rfl,(by simp only[Lm];omega),(by simp only[Lm];omega)⟩;refine Yi Wp ?_;have ew:(((Bm.take k).flatten).map AD++(Bm[k]).map AD)=((Bm.take (k+1)).flatten).map AD:=by rw[HP n9,Ar]
   refine cU [(4,.ref 4 0),(9,.cptr [.cmap Cm (CI x l),.cmap Cm (CI x m),sl Am l,sl Am m,sl AD (I8 l m)]),(14,.slice (.id 14 1) (((Bm.take (k+1)).flatten).map AD)),(54,sl CG Bm),(55,vi (Bm.map CG).length),(56,vi k)] [(4,.ro (Ic x ifs)),(14,.tok 1 (((Bm.take (k+1)).flatten).map AD).length)] ⟨Zr,Zr,⟨(Aa (AV.slice (.id 14 1)) ew),rfl⟩,Zr,Zr,Zr,Tv⟩ ⟨Zr,⟨(show HO.tok 1 ((((Bm.take k).flatten).map AD).length+(Bm[k].map AD).length)=.tok 1 (((Bm.take (k+1)).flatten).map AD).length from Aa (HO.tok 1) (Ac.symm.trans (Aa List.length ew))),rfl⟩,Tv⟩ (yN (Xi _ (Yi (rV x l m ((Bm.take (k+1)).flatten) (GH (Of c0).1 hl) (GH (Of c0).2 RW) (show(SD l m ((Bm.take (k+1)).flatten)).length<=1073741824 by have q:=XT l m ((Bm.take (k+1)).flatten);omega) hfk) ?_)));refine Xi _ (Yi (uF x ifs (D1 (SD l m ((Bm.take (k+1)).flatten))) hx (show(D1 (SD l m ((Bm.take (k+1)).flatten))).length<=1073741824 by rw[(Kl _).length_eq];have q:=XT l m ((Bm.take (k+1)).flatten);omega)) ?_);refine Yi (fun Mk=>?_) (fun Mk=>?_)
   .have Mk:((Fb x (D1 (SD l m ((Bm.take (k+1)).flatten)))):Int)≠(0:Int):=Mk;refine Yi Wk ?_;exact CZ.of_eq (Aa vi (show 17=GY x l m Bm by rw[GY,Al c0,Al Gw,Al zA,Ai (u5 n9 (AB Mk))]))
   have Mk:((Fb x (D1 (SD l m ((Bm.take (k+1)).flatten)))):Int)=(0:Int):=AL Mk;refine Yi Wk (Yi (Ii k ch) (Xi ⟨k+1,n9,fun j h=>by rcases DQ j k with hg | hg;exact k2 j hg;have e:j=k:=ch;subst e;exact Ax Mk⟩ ?_));exact⟨Dl Bm.length k ch,Z6,Z2,Fh,Tv⟩
  have h9:¬((k:Int)<((Bm.map CG).length:Int)):=h9;have n9:=DT h9;exact CZ.of_eq (Aa vi (show 0=GY x l m Bm by rw[GY,Al c0,Al Gw,Al zA,Al (uZ k2 (Bz (DT h9)))]))
 have h8:(decide (Kx ((Bm.take i).flatten)=I8 l m))=false:=h8;refine Xi .pure (Xi _ (Yi (cb h8 (rc (Kx ((Bm.take i).flatten)) (I8 l m) (Sa i))) ?_));exact CZ.of_eq (Aa vi (show 1=GY x l m Bm by rw[GY,Al c0,Al Gw,Ai (by rw[<-ef];exact Qd h8)]))
theorem nl:Kx []=[]:=FF.1 (by rw[(JS _).1.length_eq];rfl)
theorem dU{x:List Rl}{l m:List Sl}(c0:QC x l m=0):GY x l m []=if([]:List ByteArray)=I8 l m then 0 else 1:=by
 rw[GY,Al c0,Al (show([]:List (List ByteArray)).all cZ=true from rfl),show([]:List (List ByteArray)).flatten=[]from rfl,nl,Al (show bu x l m []=true from rfl)]
theorem uL(hx:∀r∈x,Eu r)(J0:l.length<=16)(FU:m.length<=16)(lim:Int)(hb:PC 161 [.v (.int .u64 (IntKind.u64.wrap (0:Int)))] (vi lim))(c0:QC x l m=0):PC 58 [.agg (Ic x ifs),sl Am l,sl Am m,sl CG ([]:List (List ByteArray))] (vi (GY x l m [])):=by
 have hl:B9 l:=AJ J0 Cl;have RW:B9 m:=AJ FU Cl;refine Ps (pC [4] []) Tryz.func58 rfl (Nz rfl) (yN (Xi .pure (Xi _ (Yi (by have q:=nT x ifs l m hx hl RW J0 FU;rw[dD,Al c0]at q;exact q) ?_))));refine Yi (fun h=>absurd h Cl) (fun _=>?_);refine Xi {q:Nat // q=0} (Xi (fun q=>⟨[(3,sl CG ([]:List (List ByteArray))),(4,.ref 4 0),(9,.cptr [.cmap Cm (CI x l),.cmap Cm (CI x m),sl Am l,sl Am m,sl AD (I8 l m)]),(11,nzA),(27,sl CG ([]:List (List ByteArray))),(28,vi (([]:List (List ByteArray)).map CG).length),(29,vi q.1)],[(4,.ro (Ic x ifs))],Af⟩) (Xi (fun q=>q.1) (Yi (Xi ⟨0,rfl⟩ ?_) ?_)))
 .exact⟨Z7,Z1,Fh,Tv⟩
 intro⟨i,i1⟩;have i1:i=0:=i1;refine Yi (fun h1=>?_) (fun h1=>?_)
 .have h1:(i:Int)<((([]:List (List ByteArray)).map CG).length:Int):=h1;have n1:=FW h1;exact absurd (FW h1) (NM _)
 have h1:¬((i:Int)<((([]:List (List ByteArray)).map CG).length:Int)):=h1;have n1:=DT h1;refine Xi .pure (Xi _ (Yi (zj lim hb) (B8 (Bt (decide (([]:List ByteArray)=I8 l m))) (fun h2=>?_) (fun h2=>?_))))
 .have h2:(decide (([]:List ByteArray)=I8 l m))=true:=h2;refine Xi .pure (Xi _ (Yi (cb h2 ((rc ([]:List ByteArray) (I8 l m) Cl).args ⟨.nil,.refl _,trivial⟩)) (Xi {q:Nat // q=0} (Xi (fun q=>⟨[(4,.ref 4 0),(9,.cptr [.cmap Cm (CI x l),.cmap Cm (CI x m),sl Am l,sl Am m,sl AD (I8 l m)]),(14,nzA),(54,sl CG ([]:List (List ByteArray))),(55,vi (([]:List (List ByteArray)).map CG).length),(56,vi q.1)],[(4,.ro (Ic x ifs))],Af⟩) (Xi (fun q=>q.1) (Yi (Xi ⟨0,rfl⟩ ?_) ?_))))))
  .exact⟨Z6,Z1,Fh,Tv⟩
  intro⟨k,k1⟩;have k1:k=0:=k1;refine Yi (fun h3=>?_) (fun h3=>?_)
  .have h3:(k:Int)<((([]:List (List ByteArray)).map CG).length:Int):=h3;have n3:=FW h3;exact absurd (FW h3) (NM _)
  have h3:¬((k:Int)<((([]:List (List ByteArray)).map CG).length:Int)):=h3;have n3:=DT h3;exact CZ.of_eq (Aa vi (show 0=GY x l m [] by rw[dU c0,Al (AU h2)]))
 have h2:(decide (([]:List ByteArray)=I8 l m))=false:=h2;refine Xi .pure (Xi _ (Yi (cb h2 ((rc ([]:List ByteArray) (I8 l m) Cl).args ⟨.nil,.refl _,trivial⟩)) ?_));exact CZ.of_eq (Aa vi (show 1=GY x l m [] by rw[dU c0,Ai (Qd h2)]))
structure Wv where
 paths:List ByteArray
 stages:List Y8
abbrev GJ(v:Wv):List AV:=[sl AD v.paths,sl Gv v.stages]
structure Ro where
 name:ByteArray
 waves:List Wv
variable (r:Ro)
abbrev Ia:List AV:=[vs r.name,sl GJ r.waves]
theorem yY(hx:∀r∈x,Eu r)(J0:l.length<=16)(FU:m.length<=16)(pz:Bm.length<=1000)(QW:∀p∈Bm,p.length<=1000):PC 58 [Mo x ifs,sl Am l,sl Am m,sl CG Bm] (vi (GY x l m Bm)):=by
 by_cases c0:QC x l m=0
 .by_cases Dy:Bm=[]
  .subst Dy;obtain⟨lim,_,hb⟩:=kj 0 (AE _);exact uL x ifs l m hx J0 FU lim hb c0
  .refine uK x ifs l m Bm hx J0 FU pz (fun p hp=>AJ (QW p hp) Cl) (fun i=>?_) Dy c0;have q:=SY QW Bm.length;have q2:(Bm.take i).flatten.length<=Bm.flatten.length:=by
    conv=>rhs;rw[<-Gp i Bm,Cc,Ac]
    omega
   rw[B4]at q;have q3:=Bg 1000 pz;omega
 .exact uJ x ifs l m Bm hx J0 FU ch (fun p hp=>AJ (QW p hp) Cl) c0
theorem bi{α:Type}(f:α->List AV)(l:List α)(n:Nat):((l.map f).take ((n:Nat):Int).toNat).drop (0:Int).toNat=(l.take n).map f:=by
 rw[Cb,SA];rfl
theorem YS(n:Nat)(hn:n<=r.waves.length)(hl:B9 r.waves):PC 56 [.agg (Ia r),vi (n:Nat)] (sl CG ((r.waves.take n).map (·.paths))):=by
 have hl:r.waves.length<=1073741824:=hl;have hrn:(r.waves.take n).length<=n:=by rw[Av];omega
 refine Ps (pT [2] [(5,1)] []) Tryz.func56 rfl (Nz rfl) (Yi (show(0:Int)<=0/\(0:Int)<=(n:Nat)/\((n:Nat):Int)<=((r.waves.map GJ).length:Nat) by rw[Lm];omega) (Yi (pc (enc:=GJ) (n:=2) (fun _=>rfl) r.waves) (Xi {q:Nat // q<=(r.waves.take n).length} (Xi (fun q=>⟨[(5,.slice (.id 5 1) ((((r.waves.take n).take q.1).map (·.paths)).map CG)),(11,sl GJ (r.waves.take n)),(12,vi ((r.waves.take n).map GJ).length),(13,vi q.1)],[(5,.tok 1 ((((r.waves.take n).take q.1).map (·.paths)).map CG).length)],Af⟩) (Xi (fun q=>(r.waves.take n).length-q.1) (Yi (Xi ⟨0,AE _⟩ ?_) ?_))))))
 .exact⟨⟨Zr,⟨(Aa (AV.slice .none) (bi GJ r.waves n)),rfl⟩,⟨(Aa (fun z:List (List AV)=>vi (z.length:Nat)) (bi GJ r.waves n)),rfl⟩,Zr,Tv⟩,Z1,Fh,Tv⟩
 intro⟨i,i1⟩;have i1:i<=(r.waves.take n).length:=i1;refine Yi (fun h1=>?_) (fun h1=>?_)
 .have h1:(i:Int)<(((r.waves.take n).map GJ).length:Int):=h1;have n1:=FW h1;have hq:((r.waves.take n).take i).length<=1073741824:=by rw[Av];omega
  refine Xi (GJ ((r.waves.take n)[i])) (Yi (LH n1) (Yi rfl (yN (yN ?_))));have b2:Cn 1 [[sl AD ((r.waves.take n)[i]).paths]]/\((((r.waves.take n).take i).map (·.paths)).map CG).length=((((r.waves.take n).take i).map (·.paths)).map CG).length/\(((((r.waves.take n).take i).map (·.paths)).map CG).length+([[sl AD ((r.waves.take n)[i]).paths]]:List (List AV)).length)*24<=140737488355328/\((((r.waves.take n).take i).map (·.paths)).map CG).length+([[sl AD ((r.waves.take n)[i]).paths]]:List (List AV)).length<=9223372036854775807:=⟨⟨rfl,trivial⟩,rfl,(by simp only[Lm,Ak,At];omega),(by simp only[Lm,Ak,At];omega)⟩;refine Yi b2 (Yi (Ii i ch) ?_);have ew:((((r.waves.take n).take i).map (·.paths)).map CG++[[sl AD ((r.waves.take n)[i]).paths]])=((((r.waves.take n).take (i+1)).map (·.paths)).map CG):=by rw[Ej n1,Ar,Ar];rfl
  refine Xi ⟨i+1,n1⟩ ?_;exact⟨by show(r.waves.take n).length-(i+1)<(r.waves.take n).length-i;omega,⟨⟨(Aa (AV.slice (.id 5 1)) ew),rfl⟩,Zr,Zr,Zr,Tv⟩,⟨⟨(show HO.tok 1 (((((r.waves.take n).take i).map (·.paths)).map CG).length+([[sl AD ((r.waves.take n)[i]).paths]]:List (List AV)).length)=.tok 1 ((((r.waves.take n).take (i+1)).map (·.paths)).map CG).length from Aa (HO.tok 1) (Ac.symm.trans (Aa List.length ew))),rfl⟩,Tv⟩,Fh,Tv⟩
 have h1:¬((i:Int)<(((r.waves.take n).map GJ).length:Int)):=h1;have n1:=DT h1;exact CZ.of_eq (show sl CG (((r.waves.take n).take i).map (·.paths))=sl CG ((r.waves.take n).map (·.paths)) by rw[As (l:=r.waves.take n) (i:=i) (Bz (DT h1))])
def IC:List Wv->Int
 | []=>0
 |v::r=>if Dw v.stages=0 then IC r else Dw v.stages
def Vy:List (List ByteArray):=r.waves.map (·.paths)
def NR:Int:=if GY x l m (Vy r)=0 then if 65536<r.name.size then 7 else IC r.waves else GY x l m (Vy r)
theorem yM{l:List Wv}(h:i<l.length)(k:Dw l[i].stages=0):IC (l.drop i)=IC (l.drop (i+1)):=by rw[AH h,IC,Al k]
theorem yL{l:List Wv}(h:i<l.length)(k:¬Dw l[i].stages=0):IC (l.drop i)=Dw l[i].stages:=by rw[AH h,IC,Ai k]
structure TE(r:Ro):Prop where
 wv:r.waves.length<=1000
 st:∀v∈r.waves,v.stages.length<=1073741824
 pt:∀v∈r.waves,v.paths.length<=1000
theorem fW(hx:∀r∈x,Eu r)(J0:l.length<=16)(FU:m.length<=16)(hr:TE r):PC 23 [.agg (Ic x ifs),sl Am l,sl Am m,.agg (Ia r)] (vi (NR x l m r)):=by
 have hwl:r.waves.length<=1000:=hr.wv;refine Ps (pC [4,7] [4]) Tryz.func23 rfl (Nz rfl) (yN (yN (Xi _ (Yi (by have q:=YS r r.waves.length (Aj _) (AJ hr.wv Cl);rw[B4]at q;exact show PC 56 [.agg (Ia r),vi ((r.waves.map GJ).length:Nat)] (sl CG (Vy r)) by rw[Lm];exact q) ?_))));refine Xi _ (Yi (yY x ifs l m (Vy r) hx J0 FU (by rw[Vy,Lm];exact hr.wv) (fun p hp=>by obtain⟨v,hv,rfl⟩:=Ag.1 hp;exact hr.pt v hv)) ?_);refine Yi Wk (Yi (fun h1=>?_) (fun h1=>?_))
 .have h1:((GY x l m (Vy r)):Int)≠(0:Int):=h1;exact CZ.of_eq (Aa vi (show(GY x l m (Vy r))=NR x l m r by rw[NR,Ai h1]))
 have h1:((GY x l m (Vy r)):Int)=(0:Int):=AL h1;refine cU [(7,.ref 7 0)] [(7,.ro (Ia r))] Z1 Z1 (Yi (fun h3=>?_) (fun h3=>?_))
 .have h3:(65536:Int)<(r.name.size:Int):=h3;exact CZ.of_eq (Aa vi (show 7=NR x l m r by rw[NR,Al h1,Al ch]))
 have h3:¬((65536:Int)<(r.name.size:Int)):=h3;refine Xi {q:Nat // q<=r.waves.length/\IC (r.waves.drop q)=IC r.waves} (Xi (fun q=>⟨[(30,sl GJ r.waves),(31,vi (r.waves.map GJ).length),(32,vi q.1)],[],Af⟩) (Xi (fun q=>r.waves.length-q.1) (Yi (Xi ⟨0,AE _,rfl⟩ ?_) ?_)))
 .exact⟨Z3,Tv,Fh,Tv⟩
 intro⟨i,i1,i2⟩;have i1:i<=r.waves.length:=i1;have i2:IC (r.waves.drop i)=IC r.waves:=i2;refine Yi (fun h5=>?_) (fun h5=>?_)
 .have h5:(i:Int)<((r.waves.map GJ).length:Int):=h5;have n5:=FW h5;refine Xi (GJ r.waves[i]) (Yi (LH n5) (Yi rfl (yN (yN (Xi .pure (Xi _ (Yi (Vr r.waves[i].stages (hr.st _ (Aq n5))) (Yi (fun h6=>?_) (fun h6=>?_)))))))))
  .have h6:((Dw r.waves[i].stages):Int)≠(0:Int):=h6;exact CZ.of_eq (Aa vi (show(Dw r.waves[i].stages)=NR x l m r by rw[NR,Al h1,Ai ch,<-i2,yL n5 h6]))
  have h6:((Dw r.waves[i].stages):Int)=(0:Int):=AL h6;refine Yi (Ii i ch) (Xi ⟨i+1,n5,by rw[<-i2,yM n5 h6]⟩ ?_);exact⟨Dl r.waves.length i ch,Z3,Tv,Fh,Tv⟩
 have h5:¬((i:Int)<((r.waves.map GJ).length:Int)):=h5;have n5:=DT h5;exact CZ.of_eq (Aa vi (show 0=NR x l m r by rw[NR,Al h1,Ai ch,<-i2,Cr (Bz (DT h5))];rfl))
end Go.Eng
namespace Go.Eng
open Go.Proofs
open Go.RowKit
variable (x:List Rl)(r:Ro)(user:ByteArray)(BK:Int)(i:Nat)
theorem jg : Tryz.prog.globalNamed "internal/strconv.uint64pow10" = some 1 := by decide +kernel
theorem uw {w : World} (h : ∀ x ∈ lc, w.cell? ⟨x.1, x.2.1, none⟩ = x.2.2) : Go.Lib.TabIs Tryz.prog w "internal/strconv.uint64pow10" .u64 Go.Lib.pow10Tab := by
 unfold Go.Lib.TabIs World.var?;rw[jg];simp only[Option.bind_some];have h20:=h (1,20,none) (Ab ..);have hi:∀i,i<20->w.cell? ⟨1,i,none⟩=some (.int .u64 ((10 ^ i:Nat):Int)):=fun i hi=>h (1,i,some (.int .u64 ((10 ^ i:Nat):Int))) (Ah _ (Ag.2 ⟨i,Gi.2 hi,rfl⟩));have h0:=hi 0 Cl;unfold World.cell? at h0 h20 hi;cases e:w.heap[1]? with
 |none=>rw[e]at h0;cases h0
 |some o =>
  cases o with
  |cells cs E fr =>
   simp only[e,OZ,Dh,Gl]at h20 hi;have hs:cs.size=20:=by
    have tc:=hi 19 Cl
    have:=(Bp.1 tc).1
    have:=Array.getElem?_eq_none_iff.1 h20
    omega
   show some cs=_
   congr 1
   apply OS
   .simp[hs,Go.Lib.pow10Tab]
   .intro i h1 h2
    have:=hi i ch
    rw[A5 h1]at this;rw[CK this];simp[Go.Lib.pow10Tab]
  |_=>rw[e]at h0;simp at h0
theorem uS(n:Int)(h:A7 n):PC 53 [vi n] (vs (eJ n)):=by
 unfold A7 at h;refine M6 [.int .i64 n] (.string (eJ n)) (Zy 53 Tryz.func53 Wk rfl) rfl (fun g w=>.v _ _) fun w _ ht=>?_;refine(Any.strconv_Itoa Tryz.layItoa n h.1 ch w (uw ht)).mono ?_
 rintro e w' ⟨rfl,k,os,rfl⟩
 exact⟨rfl,Go.Lib.below_grow _ _ (Aj _) _ _⟩
theorem UD{n:Int}(h0:-9223372036854775808<=n)(h1:n<=9223372036854775807):(eJ n).size<=21:=by
 unfold eJ;rw[show ∀l:List UInt8,(mkB l).size=l.length from fun l=>by simp[ByteArray.size]];exact Go.Lib.itoa_length_le n h0 h1
def SN(v:Wv):Bool:=decide (Kd v.stages BK<=Hp ((r.name++⟨#[47]⟩)++eJ (i:Int)) user)
def MA(r:Ro)(user:ByteArray)(BK:Int):Nat->List Wv->Nat
 |i,[]=>i
 |i,v::l=>if SN r user BK i v=true then i else MA r user BK (i+1) l
def Vz:Nat:=MA r user BK 0 r.waves
theorem wI{r:Ro}{user:ByteArray}{BK:Int}{i:Nat}(h:i<r.waves.length)(k:SN r user BK i r.waves[i]=false):MA r user BK i (r.waves.drop i)=MA r user BK (i+1) (r.waves.drop (i+1)):=by
 rw[AH h,MA,Ai (by rw[k];decide)]
theorem tb{r:Ro}{user:ByteArray}{BK:Int}{i:Nat}(h:i<r.waves.length)(k:SN r user BK i r.waves[i]=true):MA r user BK i (r.waves.drop i)=i:=by
 rw[AH h,MA,Al k]
theorem rY(hi:i<r.waves.length)(hw:r.waves.length<=1000)(Ku:B9 r.waves[i].stages)(hn:r.name.size<=10000000)(hu:user.size<=100000000):PC 52 [vi i,.cptr (Ia r),.cptr [vs user],.cptr [vi BK]] (vb (SN r user BK i r.waves[i])):=by
 refine Ps Ee Tryz.func52 rfl (Nz rfl) (Yi (show(((r.name:ByteArray).size+(⟨#[47]⟩:ByteArray).size:Nat):Int)<=9223372036854775807 by have q:=UD (n:=(i:Int)) ch ch;have q2:(⟨#[47]⟩:ByteArray).size=1:=rfl;omega) ?_);refine Xi _ (Yi (uS (i:Int) (by unfold A7;omega)) (Yi (show(((r.name++⟨#[47]⟩:ByteArray).size+((eJ (i:Int)):ByteArray).size:Nat):Int)<=9223372036854775807 by have q:=UD (n:=(i:Int)) ch ch;have q2:(⟨#[47]⟩:ByteArray).size=1:=rfl;simp only[Cj];omega) ?_));refine Xi _ (Yi (nJ ((r.name++(⟨#[47]⟩:ByteArray))++eJ (i:Int)) user (by have q:=UD (n:=(i:Int)) ch ch;simp only[Cj];have q2:(⟨#[47]⟩:ByteArray).size=1:=rfl;omega) hu) ?_);refine Xi (GJ r.waves[i]) (Yi (LH hi) (Yi rfl (Xi _ (Yi (rZ r.waves[i].stages BK Ku) (Yi (fun h1=>?_) (fun h1=>?_))))))
 .have h1:((Kd r.waves[i].stages BK):Int)<=((Hp ((r.name++(⟨#[47]⟩:ByteArray))++eJ (i:Int)) user):Int):=h1;refine Yi Wk ?_;exact CZ.of_eq (Aa vb (show true=SN r user BK i r.waves[i]from(Ax h1).symm))
 have h1:¬(((Kd r.waves[i].stages BK):Int)<=((Hp ((r.name++(⟨#[47]⟩:ByteArray))++eJ (i:Int)) user):Int)):=h1;refine Yi Wk ?_;exact CZ.of_eq (Aa vb (show false=SN r user BK i r.waves[i]from(AB h1).symm))
def jQ(l m:List Sl)(r:Ro)(user:ByteArray)(BK:Int):AV:=if NR x l m r=0 then .tup [vi (Vz r user BK:Nat),vi 0]else .tup [vi 0,vi (NR x l m r)]
theorem br(ifs:List (List AV))(l m:List Sl)(r:Ro)(user:ByteArray)(BK:Int)(hx:∀r∈x,Eu r)(J0:l.length<=16)(FU:m.length<=16)(hr:TE r)(hn:r.name.size<=10000000)(hu:user.size<=100000000):PC 19 [.agg (Ic x ifs),sl Am l,sl Am m,.agg (Ia r),vs user,vi BK] (jQ x l m r user BK):=by
 have hwl:r.waves.length<=1000:=hr.wv;refine Ps (pC [6,9,10,11] [4]) Tryz.func19 rfl (Nz rfl) (yN (yN (Xi .pure (Xi _ (Yi (fW x ifs l m r hx J0 FU hr) (Yi (fun h1=>?_) (fun h1=>?_)))))))
 .have h1:((NR x l m r):Int)≠(0:Int):=h1;exact CZ.of_eq (show AV.tup [vi 0,vi (NR x l m r)]=jQ x l m r user BK by rw[jQ,Ai h1])
 have h1:((NR x l m r):Int)=(0:Int):=AL h1;refine cU [(9,.ref 9 0),(10,.ref 10 0),(11,.ref 11 0)] [(9,.ro (Ia r)),(10,.ro [vs user]),(11,.ro [vi BK])] Z3 Z3 (Xi {q:Nat // q<=r.waves.length/\MA r user BK q (r.waves.drop q)=Vz r user BK} (Xi (fun q=>⟨[(9,.ref 9 0),(15,.clo 52 [.cptr (Ia r),.cptr [vs user],.cptr [vi BK]]),(28,vi (r.waves.map GJ).length),(29,vi q.1)],[(9,.ro (Ia r))],Af⟩) (Xi (fun q=>r.waves.length-q.1) (Yi (Xi ⟨0,AE _,rfl⟩ ?_) ?_))))
 .exact⟨Z4,Z1,Fh,Tv⟩
 intro⟨i,i1,i2⟩;have i1:i<=r.waves.length:=i1;have i2:MA r user BK i (r.waves.drop i)=Vz r user BK:=i2;refine Yi (fun h3=>?_) (fun h3=>?_)
 .have h3:(i:Int)<((r.waves.map GJ).length:Int):=h3;have n3:=FW h3;refine B8 (Bt (SN r user BK i r.waves[i])) (fun h4=>?_) (fun h4=>?_)
  .have h4:(SN r user BK i r.waves[i])=true:=h4;refine Xi .pure (Xi _ (Yi (cb h4 (rY r user BK i n3 hr.wv (hr.st _ (Aq n3)) hn hu)) ?_));exact CZ.of_eq (show AV.tup [vi i,vi 0]=jQ x l m r user BK by rw[jQ,Al h1,<-i2,tb n3 h4])
  have h4:(SN r user BK i r.waves[i])=false:=h4;refine Xi .pure (Xi _ (Yi (cb h4 (rY r user BK i n3 hr.wv (hr.st _ (Aq n3)) hn hu)) (Yi (Ii i ch) (Xi ⟨i+1,n3,by rw[<-i2,wI n3 h4]⟩ ?_))));exact⟨Dl r.waves.length i ch,Z4,Z1,Fh,Tv⟩
 have h3:¬((i:Int)<((r.waves.map GJ).length:Int)):=h3;have n3:=DT h3;exact CZ.of_eq (show AV.tup [vi (r.waves.map GJ).length,vi 0]=jQ x l m r user BK by rw[jQ,Al h1,<-i2,Cr (Bz (DT h3)),Lm,show i=r.waves.length by have q:=DT h3;omega];rfl)
end Go.Eng
namespace Go.Proofs
open Go.Shelf
def Tryz.layGrow_ren:Go.Shelf.Ren:=⟨fun | 4=>94 | n=>n,fun | 22=>52 | 25=>9 | 3=>3 | 4=>4 | 9=>9 | 20=>20 | 0=>0 | n=>n,fun | n=>n⟩
theorem Tryz.layGrow:Go.Proofs.Lays8.n4 Tryz.prog Tryz.layGrow_ren:={
 mixed:=by kernel_rfl
 f4:=⟨Tryz.f94.name,by decide,Tryz.func94.trans (congrArg some Go.Eng.Wk)⟩
 t0:=Tryz.underlying0
 a0:=Tryz.isAgg0
 z0:=Tryz.sizeOf0
 v0:=Tryz.zeroValue0
 t3:=Tryz.underlying3
 a3:=Tryz.isAgg3
 z3:=Tryz.sizeOf3
 v3:=Tryz.zeroValue3
 t4:=Tryz.underlying4
 a4:=Tryz.isAgg4
 z4:=Tryz.sizeOf4
 v4:=Tryz.zeroValue4
 t9:=Tryz.underlying9
 a9:=Tryz.isAgg9
 z9:=Tryz.sizeOf9
 v9:=Tryz.zeroValue9
 t20:=Tryz.underlying20
 a20:=Tryz.isAgg20
 z20:=Tryz.sizeOf20
 v20:=Tryz.zeroValue20
 t22:=Tryz.underlying52
 a22:=Tryz.isAgg52
 z22:=Tryz.sizeOf52
 v22:=Tryz.zeroValue52 }
end Go.Proofs
