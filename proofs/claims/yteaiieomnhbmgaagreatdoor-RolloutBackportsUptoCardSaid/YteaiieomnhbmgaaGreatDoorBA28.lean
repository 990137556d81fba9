/- Lemmas 28. -/
import Derived.Test.YteaiieomnhbmgaaGreatDoorBA27
import Derived.Lib.AppendIntMem
import Derived.Lib.ItoaLen
import Derived.Shelf.Spec.SlicesGrow
import Derived.Shelf.SlGeneric
import Derived.Ground.Names8Prog
set_option maxHeartbeats 4000000
namespace Go.Eng
open Go.Proofs
open Go.Sort Go.Lib
variable {p:CS}{j i:Nat}{b:AV}(l m:List Sl)(mv:List CS)
theorem AaW(x y:SlA):ltOf cfBt x y=Dz x.1 y.1:=by
 rw[Ec];unfold ltOf cfBt;cases h:Op.bytesLess x.1.toList y.1.toList with
 |true=>rfl
 |false=>rfl
theorem oz{B1:List (Value×AV)}{k k' : Value}{a:AV}:(k',b)∈EM B1 k a↔(k'=k/\b=a)\/(k'≠k/\(k',b)∈B1):=by
 by_cases h:∃a',(k,a')∈B1
 .obtain⟨a',ha⟩:=h;rw[Nv ha,Ax];constructor
  .rintro⟨p,hp,e⟩
   by_cases hk:p.1=k
   .rw[Ay hk]at e;cases e;exact .inl Zr
   .rw[Az hk]at e;subst e;exact .inr ⟨hk,hp⟩
  .rintro(⟨rfl,rfl⟩ | ⟨hk,hp⟩)
   .exact⟨_,ha,Ay rfl⟩
   .exact⟨_,hp,Az hk⟩
 .have h2:∀a',(k,a')∉B1:=fun a' e=>h ⟨a',e⟩;rw[Ir h2,Bh,AK];constructor
  .rintro(hp | e)
   .exact .inr ⟨fun e=>h2 b (e▸hp),hp⟩
   .cases e;exact .inl Zr
  .rintro(⟨rfl,rfl⟩ | ⟨hk,hp⟩)
   .exact .inr rfl
   .exact .inl hp
def HC(p:CS):Bool:=mv.any fun q=>decide (q=p)
noncomputable def mK:List (Value×AV):=mv.foldl (fun m p=>EM m (.string p) (vb true)) []
theorem rD{mv:List CS}(h:i<mv.length):EM (mK (mv.take i)) (.string mv[i]) (vb true)=mK (mv.take (i+1)):=by
 rw[By h,mK,mK,RJ];rfl
theorem UX{mv:List CS}:HC mv p=true↔p∈mv:=by
 unfold HC;rw[BC];exact⟨fun⟨q,hq,e⟩=>AW e▸hq,fun h=>⟨p,h,At rfl⟩⟩
theorem QL:(Value.string p,b)∈mK mv↔HC mv p=true/\b=vb true:=by
 have go:∀(l:List CS) (m:List (Value×AV)),(Value.string p,b)∈l.foldl (fun m p=>EM m (.string p) (vb true)) m↔(p∈l/\b=vb true)\/(p∉l/\(Value.string p,b)∈m):=fun l=>by
  induction l with
  |nil=>intro m;simp
  |cons a l ih=>
   intro m;rw[Gm,ih,oz]
   by_cases h1:p∈l
   .simp[h1]
   .by_cases h2:p=a
    .subst h2;simp[h1]
    .have h3:Value.string p≠Value.string a:=fun e=>h2 (by injection e);simp[h1,h2,h3]
 rw[UX];have q:=go mv [];unfold mK;rw[q];simp
def SE:List Sl:=l.filter (fun s=>!HC mv s.path)++m.filter (fun s=>HC mv s.path)
theorem Sq{l:List Sl}(h:l.Pairwise Xp)(p:Sl->Bool):((l.filter p).map (·.path)).Nodup:=by
 have q:=List.Pairwise.filter p h;rw[List.nodup_iff_pairwise_ne,RL];exact q.imp fun {a b} wD e=>by
  have wD:Dz a.path b.path=true:=wD;rw[e,Dk]at wD;cases wD
theorem TM{l m:List Sl}(hl:l.Pairwise Xp)(hm:m.Pairwise Xp)(mv:List CS):((SE l m mv).map (·.path)).Nodup:=by
 rw[SE,AF,List.nodup_append];refine⟨Sq hl _,Sq hm _,fun a ha b hb e=>?_⟩;obtain⟨s,hs,rfl⟩:=Ax.1 ha;obtain⟨t,ht,e2⟩:=Ax.1 hb;have h1:=(Dm.1 hs).2;have h2:=(Dm.1 ht).2;rw[show t.path=s.path from e2.trans e.symm]at h2;rw[h2]at h1;cases h1
def RS(j:Nat):List Sl:=(l.take j).filter fun s=>!HC mv s.path
def NL(k:Nat):List Sl:=RS l mv l.length++(m.take k).filter fun s=>HC mv s.path
theorem rH{p:Sl->Bool}{l:List Sl}(h:i<l.length):(l.take (i+1)).filter p=(l.take i).filter p++if p l[i]=true then [l[i]]else []:=by
 rw[By h,List.filter_append,Mg];rfl
theorem Adq{l:List Sl}{mv:List CS}(h:j<l.length)(k:HC mv l[j].path=false):RS l mv (j+1)=RS l mv j++[l[j]]:=by rw[RS,rH h,Ay (by rw[k];rfl)];rfl
theorem Adp{l:List Sl}{mv:List CS}(h:j<l.length)(k:HC mv l[j].path=true):RS l mv (j+1)=RS l mv j:=by rw[RS,rH h,Az (by rw[k];decide),BG];rfl
theorem Ads{l m:List Sl}{mv:List CS}(h:j<m.length)(k:HC mv m[j].path=true):NL l m mv (j+1)=NL l m mv j++[m[j]]:=by rw[NL,rH h,Ay (by rw[k]),<-ER];rfl
theorem Adr{l m:List Sl}{mv:List CS}(h:j<m.length)(k:HC mv m[j].path=false):NL l m mv (j+1)=NL l m mv j:=by rw[NL,rH h,Az (by rw[k];decide),BG];rfl
theorem l6(j:Nat):(RS l mv j).length<=l.length:=AH (DI _ _) (by rw[AD];omega)
theorem l7(j:Nat):(NL l m mv j).length<=l.length+m.length:=by
 rw[NL,Ak];exact Nat.add_le_add (l6 _ _ _) (AH (DI _ _) (by rw[AD];omega))
theorem Yl:NL l m mv m.length=SE l m mv:=by rw[NL,RS,CA,CA];rfl
theorem vl(x:List Rl)(l m:List Sl)(mv:List CS)(hl:Ho l)(Sb:Ho m)(hbt:BJ (SE l m mv))(dN:BJ mv):PC 77 [.cptr [.cmap B4 (Co x l),.cmap B4 (Co x m),sl Ab l,sl Ab m,sl Ar (Jt l m)],sl Ar mv] (sl Ab (CP (SE l m mv))):=by
 have hll:l.length<=1073741824:=hl.few;have hml:m.length<=1073741824:=Sb.few;have hvl:mv.length<=1073741824:=dN;refine Ps ⟨[],[],[(8,4)],[],[],[],[],[],[],[(200021,8)],[7,21]⟩ Tryz.func77 rfl (Nz rfl) (Xi {q:Nat // q<=mv.length} (Xi (fun q=>⟨[(0,.cptr [.cmap B4 (Co x l),.cmap B4 (Co x m),sl Ab l,sl Ab m,sl Ar (Jt l m)]),(5,.mref 13),(14,sl Ar mv),(15,vi (mv.map Ar).length),(16,vi q.1)],[(13,.map B4 (mK (mv.take q.1)))],Ac⟩) (Xi (fun q=>mv.length-q.1) (Yi (Xi ⟨0,Al _⟩ ?_) ?_))))
 .exact⟨Z5,Z1,Fh,Tv⟩
 intro⟨i,i1⟩;refine Yi (fun h1=>?_) (fun h1=>?_)
 .have h1:(i:Int)<((mv.map Ar).length:Int):=h1;have n1:=DK h1;refine Xi (Ar mv[i]) (Yi (FJ n1) (Yi rfl (Yi (Ii i ch) (Xi ⟨i+1,n1⟩ ?_))));exact⟨Dl mv.length i ch,Z5,⟨⟨(Aa (HO.map B4) (rD n1)),rfl⟩,Tv⟩,Fh,Tv⟩
 have n1:=B5 h1;have ei:mv.take i=mv:=Au (AO (B5 h1));refine cU [(0,.cptr [.cmap B4 (Co x l),.cmap B4 (Co x m),sl Ab l,sl Ab m,sl Ar (Jt l m)]),(5,.mref 13)] [(13,.map B4 (mK mv))] Z2 ⟨⟨(Aa (fun z=>HO.map B4 (mK z)) ei),rfl⟩,Tv⟩ (Xi {q:Nat // q<=l.length} (Xi (fun q=>⟨[(0,.cptr [.cmap B4 (Co x l),.cmap B4 (Co x m),sl Ab l,sl Ab m,sl Ar (Jt l m)]),(5,.mref 13),(8,.msl 8 ((RS l mv q.1)).length),(26,sl Ab l),(27,vi (l.map Ab).length),(28,vi q.1)],[(8,.arr 4 ((RS l mv q.1).map Ab)),(13,.map B4 (mK mv))],Ac⟩) (Xi (fun q=>l.length-q.1) (Yi (Xi ⟨0,Al _⟩ ?_) ?_))))
 .exact⟨Z6,Z2,Fh,Tv⟩
 intro⟨j,j1⟩;refine Yi (fun h3=>?_) (fun h3=>?_)
 .have h3:(j:Int)<((l.map Ab).length:Int):=h3;have n3:=DK h3;have hA:=l6 l mv j;refine Xi (Ab l[j]) (Yi (FJ n3) (Yi rfl (yN (yN (Yi (fun a ha=>?_) (fun OX=>?_))))))
  .have ea:=((QL mv).1 ha).2;have h4:HC mv l[j].path=true:=((QL mv).1 ha).1;subst ea;refine Yi (Ii j ch) ?_;have ew:=Adp (mv:=mv) n3 h4;refine Xi ⟨j+1,n3⟩ ?_;exact⟨Dl l.length j ch,⟨Zr,Zr,⟨(show AV.msl 8 ((RS l mv j)).length=.msl 8 (RS l mv (j+1)).length by rw[ew]),rfl⟩,Zr,Zr,Zr,Tv⟩,⟨⟨(show HO.arr 4 ((RS l mv j).map Ab)=.arr 4 ((RS l mv (j+1)).map Ab) by rw[ew]),rfl⟩,Zr,Tv⟩,Fh,Tv⟩
  have h4:HC mv l[j].path=false:=by rw[Bb];exact fun e=>OX _ ((QL mv).2 ⟨e,rfl⟩)
  refine yN ?_;have b6:Bi 4 [(Ab l[j])]/\((RS l mv j).map Ab).length=((RS l mv j)).length/\(((RS l mv j).map Ab).length+([(Ab l[j])]:C0).length)*40<=140737488355328/\((RS l mv j).map Ab).length+([(Ab l[j])]:C0).length<=9223372036854775807:=⟨⟨rfl,trivial⟩,(by first | (simp;done) | (rw[Lm];assumption)),(by simp only[Lm,AA,AE];omega),(by simp only[Lm,AA,AE];omega)⟩
  refine Yi b6 (Yi (Ii j ch) ?_);have ew:=Adq (mv:=mv) n3 h4;refine Xi ⟨j+1,n3⟩ ?_;exact⟨Dl l.length j ch,⟨Zr,Zr,⟨(show AV.msl 8 (((RS l mv j).map Ab).length+([(Ab l[j])]:C0).length)=.msl 8 (RS l mv (j+1)).length by rw[ew];simp),rfl⟩,Zr,Zr,Zr,Tv⟩,⟨⟨(show HO.arr 4 (((RS l mv j).map Ab)++[(Ab l[j])])=.arr 4 ((RS l mv (j+1)).map Ab) by rw[ew,AF];rfl),rfl⟩,Zr,Tv⟩,Fh,Tv⟩
 have h3:¬((j:Int)<((l.map Ab).length:Int)):=h3;have n3:=B5 h3;have ej:j=l.length:=by have q:=B5 h3;omega
 have eb:RS l mv j=NL l m mv 0:=by rw[ej,NL,List.take_zero,List.filter_nil,BG]
 refine Xi {q:Nat // q<=m.length} (Xi (fun q=>⟨[(5,.mref 13),(8,.msl 8 ((NL l m mv q.1)).length),(45,sl Ab m),(46,vi (m.map Ab).length),(47,vi q.1)],[(8,.arr 4 ((NL l m mv q.1).map Ab)),(13,.map B4 (mK mv))],Ac⟩) (Xi (fun q=>m.length-q.1) (Yi (Xi ⟨0,Al _⟩ ?_) ?_)))
 .exact⟨⟨Zr,⟨(show AV.msl 8 (RS l mv j).length=.msl 8 (NL l m mv 0).length by rw[eb]),rfl⟩,Zr,Zr,Zr,Tv⟩,⟨⟨(show HO.arr 4 ((RS l mv j).map Ab)=.arr 4 ((NL l m mv 0).map Ab) by rw[eb]),rfl⟩,Zr,Tv⟩,Fh,Tv⟩
 intro⟨k,k1⟩;have k1:k<=m.length:=k1;refine Yi (fun h8=>?_) (fun h8=>?_)
 .have h8:(k:Int)<((m.map Ab).length:Int):=h8;have n8:=DK h8;have hB:=l7 l m mv k;refine Xi (Ab m[k]) (Yi (FJ n8) (Yi rfl (yN (yN (Yi (fun a ha=>?_) (fun OX=>?_))))))
  .have ea:=((QL mv).1 ha).2;have h9:HC mv m[k].path=true:=((QL mv).1 ha).1;subst ea;refine yN ?_;have VQ:Bi 4 [(Ab m[k])]/\((NL l m mv k).map Ab).length=((NL l m mv k)).length/\(((NL l m mv k).map Ab).length+([(Ab m[k])]:C0).length)*40<=140737488355328/\((NL l m mv k).map Ab).length+([(Ab m[k])]:C0).length<=9223372036854775807:=⟨⟨rfl,trivial⟩,(by first | (simp;done) | (rw[Lm];assumption)),(by simp only[Lm,AA,AE];omega),(by simp only[Lm,AA,AE];omega)⟩
   refine Yi VQ (Yi (Ii k ch) ?_);have ew:=Ads (mv:=mv) (l:=l) n8 h9;refine Xi ⟨k+1,n8⟩ ?_;exact⟨Dl m.length k ch,⟨Zr,⟨(show AV.msl 8 (((NL l m mv k).map Ab).length+([(Ab m[k])]:C0).length)=.msl 8 (NL l m mv (k+1)).length by rw[ew];simp),rfl⟩,Zr,Zr,Zr,Tv⟩,⟨⟨(show HO.arr 4 (((NL l m mv k).map Ab)++[(Ab m[k])])=.arr 4 ((NL l m mv (k+1)).map Ab) by rw[ew,AF];rfl),rfl⟩,Zr,Tv⟩,Fh,Tv⟩
  have h9:HC mv m[k].path=false:=by rw[Bb];exact fun e=>OX _ ((QL mv).2 ⟨e,rfl⟩)
  refine Yi (Ii k ch) ?_;have ew:=Adr (mv:=mv) (l:=l) n8 h9;refine Xi ⟨k+1,n8⟩ ?_;exact⟨Dl m.length k ch,⟨Zr,⟨(show AV.msl 8 ((NL l m mv k)).length=.msl 8 (NL l m mv (k+1)).length by rw[ew]),rfl⟩,Zr,Zr,Zr,Tv⟩,⟨⟨(show HO.arr 4 ((NL l m mv k).map Ab)=.arr 4 ((NL l m mv (k+1)).map Ab) by rw[ew]),rfl⟩,Zr,Tv⟩,Fh,Tv⟩
 have h8:¬((k:Int)<((m.map Ab).length:Int)):=h8;have n8:=B5 h8;have ek:k=m.length:=by have q:=B5 h8;omega
 have hs:=AbI AaW 134 Tryz.closure134 (enters_of Tryz.func134 Wk rfl) (SE l m mv) hbt (TM hl.inc Sb.inc mv);rw[show SE l m mv=(NL l m mv k)from by rw[ek,Yl]]at hs;refine Xi (.gen [(8,1000)] 0) (Yi rfl (AP.to2 hs ?_));refine Yi (show((NL l m mv k)).length=((CP ((NL l m mv k))).map Ab).length by rw[Lm,(J6 _).length_eq]) ?_;refine cU [(8,sl Ab (CP ((NL l m mv k))))] [] Z1 Tv ?_
 exact BM.of_eq (show sl Ab (CP ((NL l m mv k)))=sl Ab (CP (SE l m mv)) by rw[ek,Yl])
end Go.Eng
namespace Go.Eng
open Go.Proofs Go.Proofs.Tryz
variable {i k:Nat}(x:List Rl)(ifs:C0)(l m:List Sl)(p mv:List CS)(A7:List (List CS))
theorem uj(l m:List (CS))(hl:BJ l):PC 100 [sl Ar l,sl Ar m] (vb (decide (l=m))):=by
 refine Ps C3 func100 rfl (Nz rfl) (Yi ?_ ?_)
 .intro h
  have:l≠m:=fun e=>h (by rw[e])
  rw[Aj this];exact .refl _
 .intro h;have Dd:l.length=m.length:=by simp at h;omega
  refine Xi {i:Nat // i<=l.length/\l.take i=m.take i} (Xi (fun i=>⟨[(0,sl Ar l),(1,sl Ar m),(12,vi (l.map Ar).length),(13,vi i.1)],[],Ac⟩) (Xi (fun i=>l.length-i.1) (Yi (Xi ⟨0,by simp⟩ ?_) ?_)))
  .exact⟨Z4,Tv,Fh,Tv⟩
  .intro⟨i,h1,h2⟩;refine Yi ?_ ?_
   .intro h;have h:i<l.length:=by simpa using h
    have h' : i<m.length:=by omega
    have hg:l[i]?=some l[i]:=Ge h;have nD : m[i]?=some m[i]:=Ge h';refine Xi (Ar l[i]) (Yi (Yi (Nn i) (by simp[hg])) (Yi rfl ?_));refine Xi (Ar m[i]) (Yi (Yi (Nn i) (by simp[nD])) (Yi rfl ?_));refine Yi ?_ ?_
    .intro h5;refine Yi Wk ?_
     have:l≠m:=fun e=>h5 (by subst e;rfl)
     rw[Aj this];exact .refl _
    .intro h5;have e:l[i]=m[i]:=B8.1 h5;refine Yi Wk (Yi (by show Av ((i:Int)+1);unfold BJ at hl;unfold Av;omega) (Xi ⟨i+1,by omega,?_⟩ ?_))
     .rw[Dr,Dr,h2,hg,nD,e]
     .exact⟨Dl l.length i ch,Z4,Tv,Fh,Tv⟩
   .intro h;have h:¬i<l.length:=by simpa using h
    have e:l=m:=by
     rw[<-Au (l:=l) (i:=i) ch,h2,Au ch]
    rw[At e];exact .refl _
def wIx(l:List CS)(p:CS):Int:=Je (fun q=>decide (q=p)) l 0
theorem xY{l:List CS}{p:CS}:(∀q∈l,q≠p)->∀k:Int,Je (fun q=>decide (q=p)) l k=-1:=by
 induction l with
 |nil=>intro _ _;rfl
 |cons a l ih=>intro h k;rw[Je,Az (by rw[decide_eq_true_iff];exact h a (Af ..))];exact ih (fun q hq=>h q (Ao _ hq)) _
theorem Ac2(l:List CS)(p:CS)(hl:BJ l):PC 132 [sl Ar l,vs p] (vi (wIx l p)):=by
 refine Ps C3 func132 rfl (Nz rfl) (Xi {q:Nat // q<=l.length/\∀j (hj:j<l.length),j<q->l[j]≠p} (Xi (fun q=>⟨[(0,sl Ar l),(1,vs p),(7,vi (l.map Ar).length),(8,vi q.1)],[],Ac⟩) (Xi (fun q=>l.length-q.1) (Yi (Xi ⟨0,Al _,fun j hj h=>absurd h ch⟩ ?_) ?_))))
 .exact⟨Z4,Tv,Fh,Tv⟩
 intro⟨i,i1,i2⟩;refine Yi (fun h1=>?_) (fun h1=>?_)
 .have h1:(i:Int)<((l.map Ar).length:Int):=h1;have n1:=DK h1;refine Xi (Ar l[i]) (Yi (FJ n1) (Yi rfl (Yi (fun h2=>?_) (fun h2=>?_))))
  .exact BM.of_eq (Aa vi (show(i:Int)=wIx l p by rw[wIx,Hh (p:=fun q=>decide (q=p)) (k:=0) n1 (fun j hj h=>Aj (i2 j hj h)) (At (h2).symm)];omega))
  refine Yi (Ii i ch) (Xi ⟨i+1,n1,fun j hj h=>by rcases B2 j i with hg | hg;exact i2 j hj hg;have e:j=i:=ch;subst e;exact fun e=>h2 e.symm⟩ ?_);exact⟨Dl l.length i ch,Z4,Tv,Fh,Tv⟩
 have n1:=B5 h1;exact BM.of_eq (Aa vi (show -1=wIx l p from(xY (fun q hq=>by obtain⟨j,hj,rfl⟩:=Cw.1 hq;exact i2 j hj (BY hj (AO (B5 h1)))) 0).symm))
theorem vq(l:List CS)(p:CS)(hl:BJ l):PC 76 [sl Ar l,vs p] (vb (HC l p)):=by
 refine Ps C3 func76 rfl (Nz rfl) (C1 (C2 (Ac2 l p hl) (Yi (fun h1=>?_) (fun h1=>?_))))
 .exact BM.of_eq (Aa vb (show true=HC l p by rw[HC,<-Hc (p:=fun q=>decide (q=p)) l 0 (Bv 0)];exact(At h1).symm))
 exact BM.of_eq (Aa vb (show false=HC l p by rw[HC,<-Hc (p:=fun q=>decide (q=p)) l 0 (Bv 0)];exact(Aj h1).symm))
theorem qa(p:CS)(hl:BJ (Jt l m)):PC 75 [vs p,.cptr [.cptr [.cmap B4 (Co x l),.cmap B4 (Co x m),sl Ab l,sl Ab m,sl Ar (Jt l m)]]] (vb (!HC (Jt l m) p)):=by
 refine Ps C3 func75 rfl (Nz rfl) (AN (Bt (HC (Jt l m) p)) (fun h1=>?_) (fun h1=>?_))
 .refine C1 (C2 (cb h1 (vq (Jt l m) p hl)) ?_);exact BM.of_eq (Aa vb (show false=!HC (Jt l m) p by rw[h1];rfl))
 refine C1 (C2 (cb h1 (vq (Jt l m) p hl)) ?_);exact BM.of_eq (Aa vb (show true=!HC (Jt l m) p by rw[h1];rfl))
def QE:Int:=if RD x l m=0 then if mv.any (fun p=>!HC (Jt l m) p)=true then 6 else 0 else RD x l m
def TN:AV:=if QE x l m mv=0 then .tup [sl Ab (CP (SE l m mv)),vi 0]else .tup [BE,vi (QE x l m mv)]
theorem Ob{x:List Rl}{l m:List Sl}(h:RD x l m=0):N4 x l=0/\N4 x m=0:=by
 unfold RD at h;split at h
 .rename_i h1;exact⟨Nm h1,Nm h⟩
 .rename_i h1;exact absurd h h1
theorem Ym:(SE l m mv).length<=l.length+m.length:=by rw[<-Yl];exact l7 _ _ _ _
theorem gO{x:List Rl}{l m:List Sl}(hl:BJ l)(hm:BJ m)(h:RD x l m=0):(Jt l m).length<=l.length+m.length:=by
 rw[Jt,Lm];exact pq l m (Gq (Ob h).1 hl) (Gq (Ob h).2 hm)
theorem xZ(hx:∀r∈x,CT r)(Ha:l.length<=16)(FC:m.length<=16)(dN:BJ mv)(c0:¬RD x l m=0):PC 35 [.agg (Ic x ifs),sl Ab l,sl Ab m,sl Ar mv] (TN x l m mv):=by
 have hl:BJ l:=AH Ha Cl;have Sb:BJ m:=AH FC Cl;have hq:mv.length<=1073741824:=dN;refine Ps (pC [4,10] []) func35 rfl (Nz rfl) (yN (C1 (C2 (by have q:=qm x ifs l m hx hl Sb Ha FC;rw[fG,Az c0]at q;exact q) ?_)));refine yN (Yi (fun h1=>?_) (fun h1=>?_))
 .exact BM.of_eq (show AV.tup [BE,vi (RD x l m)]=TN x l m mv by rw[TN,QE,Az c0,Az c0])
 have h1:((RD x l m):Int)=(0:Int):=Aq h1;exact absurd h1 c0
theorem x5(hx:∀r∈x,CT r)(Ha:l.length<=16)(FC:m.length<=16)(dN:BJ mv)(c0:RD x l m=0):PC 35 [.agg (Ic x ifs),sl Ab l,sl Ab m,sl Ar mv] (TN x l m mv):=by
 have hl:BJ l:=AH Ha Cl;have Sb:BJ m:=AH FC Cl;have hq:mv.length<=1073741824:=dN;refine Ps (pC [4,10] []) func35 rfl (Nz rfl) (yN (C1 (C2 (by have q:=qm x ifs l m hx hl Sb Ha FC;rw[fG,Ay c0]at q;exact q) ?_)));refine yN (Yi (fun h=>absurd h Cl) (fun _=>?_));refine AN (Bt (mv.any fun p=>!HC (Jt l m) p)) (fun h1=>?_) (fun h1=>?_)
 .refine C1 (C2 (cb h1 (z74 (fF:=75) (Ch.ptr _) mv (fun p=>!HC (Jt l m) p) (fun p hp=>qa x l m p (show(Jt l m).length<=1073741824 by have q:=gO hl Sb c0;omega)) dN)) ?_);exact BM.of_eq (show AV.tup [BE,vi 6]=TN x l m mv by unfold TN QE;rw[Ay c0,h1];rfl)
 refine C1 (C2 (cb h1 (z74 (fF:=75) (Ch.ptr _) mv (fun p=>!HC (Jt l m) p) (fun p hp=>qa x l m p (show(Jt l m).length<=1073741824 by have q:=gO hl Sb c0;omega)) dN)) (C1 (C2 (vl x l m mv (Gq (Ob c0).1 hl) (Gq (Ob c0).2 Sb) (show(SE l m mv).length<=1073741824 by have q:=Ym l m mv;omega) dN) ?_)));exact BM.of_eq (show AV.tup [sl Ab (CP (SE l m mv)),vi 0]=TN x l m mv by unfold TN QE;rw[Ay c0,h1];rfl)
theorem vg(hx:∀r∈x,CT r)(Ha:l.length<=16)(FC:m.length<=16)(dN:BJ mv):PC 35 [Fr x ifs,sl Ab l,sl Ab m,sl Ar mv] (TN x l m mv):=by
 by_cases h:RD x l m=0
 .exact x5 x ifs l m mv hx Ha FC dN h
 .exact xZ x ifs l m mv hx Ha FC dN h
theorem qf(a b:CS):PC 159 [vs a,vs b] (vb (Dz a b)):=by
 refine Ps C3 func159 rfl (Nz rfl) (C1 (C2 (vZ a) (Yi (fun h1=>?_) (fun h1=>?_))))
 .have h1:Dz a b=true:=(Ec _ _).trans h1;exact BM.of_eq (Aa vb h1.symm)
 have h1:Dz a b=false:=(Ec _ _).trans (Bb.2 h1);exact BM.of_eq (Aa vb h1.symm)
def GP:List CS->Bool
 |a::b::r=>!Dz b a&&GP (b::r)
 |_=>true
theorem fy(l:List CS):GP (l.drop (l.length-1))=true:=by
 cases h:l.drop (l.length-1)with
 |nil=>rfl
 |cons a r=>
  have q:=Aa List.length h;rw[DE,AA]at q;have e:r=[]:=Fm.1 ch;subst e;rfl
theorem Nc{l:List CS}(h:i+1<l.length):GP (l.drop i)=(!Dz l[i+1] l[i]&&GP (l.drop (i+1))):=by
 rw[A2 (show i<l.length by omega),A2 h];rfl
theorem VD{l:List CS}:∀{i:Nat},GP (l.drop i)=false->GP l=false
 |0,h=>h
 |i+1,h=>by
  refine VD (i:=i) ?_
  by_cases hi:i+1<l.length
  .rw[Nc hi,h,Eg]
  .rw[Bq ch]at h;cases h
theorem cD(l:List CS)(hl:BJ l):PC 98 [sl Ar l] (vb (GP l)):=by
 have hl:l.length<=1073741824:=hl;have hml:(l.map Ar).length=l.length:=Lm ..;refine Ps C3 func98 rfl (Nz rfl) (Yi (by show Av (((l.map Ar).length:Int)-(1:Int));unfold Av;omega) ?_);refine Xi {q:Nat // q<=l.length/\GP (l.drop (q-1))=true} (Xi (fun q=>⟨[(0,sl Ar l),(3,vi ((q.1:Int)-1))],[],Ac⟩) (Xi (fun q=>q.1) (Yi (Xi ⟨l.length,Ap _,fy l⟩ ?_) ?_)))
 .exact⟨⟨Zr,⟨(Aa vi (show(((l.map Ar).length:Nat):Int)-1=(l.length:Int)-1 by rw[Lm])),rfl⟩,Tv⟩,Tv,Fh,Tv⟩
 intro⟨q_,i1,i2⟩;have i1:q_<=l.length:=i1;have i2:GP (l.drop (q_-1))=true:=i2;refine Yi (fun h1=>?_) (fun h1=>?_)
 .have h1:(0:Int)<((q_:Int)-1:Int):=h1;refine Xi (Ar (l[q_-1]' ch)) (Yi (Yi (show(0:Int)<=(q_:Int)-1 by omega) (by rw[show((q_:Int)-1:Int).toNat=q_-1 by omega];exact Ed (Ge ch))) (Yi rfl ?_));refine Yi (by show Av (((q_:Int)-1:Int)-(1:Int));unfold Av;omega) ?_;refine Xi (Ar (l[q_-2]' ch)) (Yi (Yi (show(0:Int)<=((q_:Int)-1)-1 by omega) (by rw[show(((q_:Int)-1)-1:Int).toNat=q_-2 by omega];exact Ed (Ge ch))) (Yi rfl ?_));refine AN (Bt (Dz (l[q_-1]' ch) (l[q_-2]' ch))) (fun h2=>?_) (fun h2=>?_)
  .have h2:(Dz (l[q_-1]' ch) (l[q_-2]' ch))=true:=h2;refine C2 (cb h2 (qf (l[q_-1]' ch) (l[q_-2]' ch))) (Yi Wk ?_);exact BM.of_eq (Aa vb (show false=GP l from(VD (i:=q_-2) (by rw[Nc (l:=l) (i:=q_-2) ch];simp only[show q_-2+1=q_-1 by omega,h2];rfl)).symm))
  have h2:(Dz (l[q_-1]' ch) (l[q_-2]' ch))=false:=h2;refine C2 (cb h2 (qf (l[q_-1]' ch) (l[q_-2]' ch))) (Yi Wk (Yi (by show Av (((q_:Int)-1:Int)-(1:Int));unfold Av;omega) ?_));refine Xi ⟨q_-1,by omega,by rw[show q_-1-1=q_-2 by omega,Nc (l:=l) (i:=q_-2) ch];simp only[show q_-2+1=q_-1 by omega,i2,h2];rfl⟩ ?_;exact⟨by show(q_-1:Nat)<q_;omega,⟨Zr,⟨(Aa vi (show(q_:Int)-1-1=((q_-1:Nat):Int)-1 by omega)),rfl⟩,Tv⟩,Tv,Fh,Tv⟩
 have h1:¬((0:Int)<((q_:Int)-1:Int)):=h1;exact BM.of_eq (Aa vb (show true=GP l by rw[show q_-1=0 by omega]at i2;exact i2.symm))
abbrev Cm:List AV:=[sl Ar p]
def L1:List CS:=((p.map K4).mergeSort fun a b=>decide (a<=b)).map SF
theorem JF:(L1 p).Perm p/\((L1 p).map K4).Pairwise fun a b=>a<=b:=by
 have e:∀q:CS,SF (K4 q)=q:=fun q=>by cases q;simp
 have e2:∀q:List UInt8,K4 (SF q)=q:=fun q=>by simp
 refine⟨?_,?_⟩
 .have h:=(NO (p.map K4) fun a b=>decide (a<=b)).map SF
  rwa [Br,show(SF ∘ K4)=id from funext e,Hl]at h
 .rw[L1,Br,show(K4 ∘ SF)=id from funext e2,Hl];have h:=Ty (le:=fun a b:List UInt8=>decide (a<=b)) (fun a b c h1 h2=>At (List.le_trans (AW h1) (AW h2))) (fun a b=>by rcases List.le_total a b with h | h<;>simp[h]) (p.map K4)
  exact h.imp fun h=>AW h
def gY:Bool:=!p.isEmpty&&GP p
def wvI(i:Nat):Bool:=decide (E0 x (CP (SE l m (A7.take (i+1)).flatten))=0)
def fN:Bool:=(List.range A7.length).all (wvI x l m A7)
def G3:Int:=
 if RD x l m=0 then if A7.all gY=true then if L1 A7.flatten=Jt l m then if fN x l m A7=true then 0 else 17 else 1 else 1 else RD x l m
theorem Hr{A7:List (List CS)}(h:i<A7.length):(A7.take (i+1)).flatten=(A7.take i).flatten++A7[i]:=by
 rw[By h,CR];simp
theorem Ta{A7:List (List CS)}{B:Nat}(h:∀p∈A7,p.length<=B):∀i,(A7.take i).flatten.length<=i*B
 |0=>by simp
 |i+1=>by
  rw[Nat.succ_mul]
  by_cases hi:i<A7.length
  .rw[Hr hi,Ak];exact Nat.add_le_add (Ta h i) (h _ (Ae hi))
  .have e:A7.take (i+1)=A7.take i:=by rw[Au (l:=A7) (i:=i+1) ch,Au (l:=A7) (i:=i) ch]
   rw[e];exact AH (Ta h i) (Nat.le_add_right _ _)
theorem oW{A7:List (List CS)}(h:i<A7.length)(k:gY A7[i]=false):¬A7.all gY=true:=fun e=>by
 have q:=A3.1 e _ (Ae h);rw[k]at q;cases q
theorem xt{A7:List (List CS)}(h:∀j (hj:j<A7.length),j<i->gY A7[j]=true)(hi:A7.length<=i):A7.all gY=true:=by
 rw[A3];intro p hp;obtain⟨j,hj,rfl⟩:=Cw.1 hp;exact h j hj ch
theorem rG{A7:List (List CS)}(Ek:A7≠[])(h:A7.all gY=true):A7.flatten≠[]:=fun e=>by
 cases A7 with
 |nil=>exact Ek rfl
 |cons p r=>
  have q:=A3.1 h p (Af ..);rw[Cz]at e;rw[(List.append_eq_nil_iff.1 e).1]at q;cases q
theorem yw{x:List Rl}{l m:List Sl}{A7:List (List CS)}(h:k<A7.length)(e:wvI x l m A7 k=false):¬fN x l m A7=true:=fun c=>by
 have q:=A3.1 c k (KX.2 h);rw[e]at q;cases q
theorem yv{x:List Rl}{l m:List Sl}{A7:List (List CS)}(h:∀j,j<k->wvI x l m A7 j=true)(hk:A7.length<=k):fN x l m A7=true:=
 A3.2 fun j hj=>h j (by have:=KX.1 hj;omega)
theorem ya(hx:∀r∈x,CT r)(Ha:l.length<=16)(FC:m.length<=16)(_hpl:A7.length<=100000)(_hpe:∀p∈A7,p.length<=100000)(c0:¬RD x l m=0):PC 58 [.agg (Ic x ifs),sl Ab l,sl Ab m,sl Cm A7] (vi (G3 x l m A7)):=by
 have hl:BJ l:=AH Ha Cl;have Sb:BJ m:=AH FC Cl;refine Ps (pC [4] []) func58 rfl (Nz rfl) (yN (C1 (C2 (by have q:=qm x ifs l m hx hl Sb Ha FC;rw[fG,Az c0]at q;exact q) ?_)));refine Yi (fun h1=>?_) (fun h1=>?_)
 .exact BM.of_eq (Aa vi (show(RD x l m)=G3 x l m A7 by rw[G3,Az c0]))
 have h1:((RD x l m):Int)=(0:Int):=Aq h1;exact absurd h1 c0
theorem yc(hx:∀r∈x,CT r)(Ha:l.length<=16)(FC:m.length<=16)(nI:A7.length<=1000)(QS:∀p∈A7,p.length<=100000)(YM:∀i,(A7.take i).flatten.length<=1073741824)(Ek:A7≠[])(c0:RD x l m=0):PC 58 [.agg (Ic x ifs),sl Ab l,sl Ab m,sl Cm A7] (vi (G3 x l m A7)):=by
 have hl:BJ l:=AH Ha Cl;have Sb:BJ m:=AH FC Cl;have YL:BJ A7.flatten:=by have q:=YM A7.length;rw[CA]at q;exact q
 have Ou:∀i,BJ (L1 (A7.take i).flatten):=fun i=>by show(L1 _).length<=_;rw[(JF _).1.length_eq];exact YM i
 refine Ps ⟨[4],[(14,1)],[(11,1)],[],[],[],[],[],[],[(200013,11)],[5,11,13,20]⟩ func58 rfl (Nz rfl) (yN (C1 (C2 (by have q:=qm x ifs l m hx hl Sb Ha FC;rw[fG,Ay c0]at q;exact q) ?_)));refine Yi (fun h=>absurd h Cl) (fun _=>?_);refine cU [(3,sl Cm A7),(4,.ref 4 0),(9,.cptr [.cmap B4 (Co x l),.cmap B4 (Co x m),sl Ab l,sl Ab m,sl Ar (Jt l m)]),(11,.msl 11 0)] [(4,.ro (Ic x ifs)),(11,.arr 1 [])] Z4 Z2 (Xi {q:Nat // q<=A7.length/\∀j (hj:j<A7.length),j<q->gY A7[j]=true} (Xi (fun q=>⟨[(3,sl Cm A7),(4,.ref 4 0),(9,.cptr [.cmap B4 (Co x l),.cmap B4 (Co x m),sl Ab l,sl Ab m,sl Ar (Jt l m)]),(11,.msl 11 ((A7.take q.1).flatten).length),(27,sl Cm A7),(28,vi (A7.map Cm).length),(29,vi q.1)],[(4,.ro (Ic x ifs)),(11,.arr 1 (((A7.take q.1).flatten).map Ar))],Ac⟩) (Xi (fun q=>A7.length-q.1) (Yi (Xi ⟨0,Al _,fun j hj h=>absurd h ch⟩ ?_) ?_))))
 .exact⟨Z7,Z2,Fh,Tv⟩
 intro⟨i,i1,i2⟩;refine Yi (fun h1=>?_) (fun h1=>?_)
 .have h1:(i:Int)<((A7.map Cm).length:Int):=h1;have n1:=DK h1;have AjZ:(A7.take i).flatten.length<=1073741824:=YM i;have hpi:=QS _ (Ae n1);refine Xi (Cm A7[i]) (Yi (FJ n1) (Yi rfl (Yi (fun h2=>?_) (fun h2=>?_))))
  .exact BM.of_eq (Aa vi (show 1=G3 x l m A7 by rw[G3,Ay c0,Az (oW n1 (by rw[gY,Fm.1 (show A7[i].length=0 by have q:=h2;rw[Lm]at q;omega)];rfl))]))
  refine AN (Bt (GP A7[i])) (fun h4=>?_) (fun h4=>?_)
  .refine C1 (C2 (cb h4 (cD A7[i] (AH (QS _ (Ae n1)) Cl))) ?_);have b5:Bi 1 (A7[i].map Ar)/\(((A7.take i).flatten).map Ar).length=((A7.take i).flatten).length/\((((A7.take i).flatten).map Ar).length+(A7[i].map Ar).length)*16<=140737488355328/\(((A7.take i).flatten).map Ar).length+(A7[i].map Ar).length<=9223372036854775807:=⟨(CJ (enc:=Ar) (n:=1) (fun _=>rfl) A7[i]),(by rw[Lm]),(by simp only[Lm];omega),(by simp only[Lm];omega)⟩;refine Yi b5 (cU [(3,sl Cm A7),(4,.ref 4 0),(9,.cptr [.cmap B4 (Co x l),.cmap B4 (Co x m),sl Ab l,sl Ab m,sl Ar (Jt l m)]),(11,.msl 11 ((((A7.take i).flatten).map Ar).length+(A7[i].map Ar).length)),(27,sl Cm A7),(28,vi (A7.map Cm).length),(29,vi i)] [(4,.ro (Ic x ifs)),(11,.arr 1 ((((A7.take i).flatten).map Ar)++(A7[i].map Ar)))] Z7 Z2 (Yi (Ii i ch) ?_));have GG:gY A7[i]=true:=by rw[gY,h4,Bool.and_true];cases e:A7[i]with | nil=>exact absurd (by rw[e];rfl) h2 | cons a r=>rfl
   have ew:(((A7.take i).flatten).map Ar++(A7[i]).map Ar)=((A7.take (i+1)).flatten).map Ar:=by rw[Hr n1,AF]
   refine Xi ⟨i+1,n1,fun j hj h=>by rcases B2 j i with hg | hg;exact i2 j hj hg;have e:j=i:=ch;subst e;exact GG⟩ ?_;exact⟨Dl A7.length i ch,⟨Zr,Zr,Zr,⟨(show AV.msl 11 ((((A7.take i).flatten).map Ar).length+(A7[i].map Ar).length)=.msl 11 ((A7.take (i+1)).flatten).length by rw[Hr n1,Ak,Lm,Lm]),rfl⟩,Zr,Zr,Zr,Tv⟩,⟨Zr,⟨(show HO.arr 1 ((((A7.take i).flatten).map Ar)++(A7[i].map Ar))=.arr 1 (((A7.take (i+1)).flatten).map Ar)from Aa (HO.arr 1) ew),rfl⟩,Tv⟩,Fh,Tv⟩
  refine C1 (C2 (cb h4 (cD A7[i] (AH (QS _ (Ae n1)) Cl))) ?_);exact BM.of_eq (Aa vi (show 1=G3 x l m A7 by rw[G3,Ay c0,Az (oW n1 (by rw[gY,h4,Eg]))]))
 have h1:¬((i:Int)<((A7.map Cm).length:Int)):=h1;have n1:=B5 h1;have Gd:A7.all gY=true:=xt i2 (AO (B5 h1));have ef:(A7.take i).flatten=A7.flatten:=by rw[Au (AO (B5 h1))]
 have hs:=Ab3 A7.flatten (L1 A7.flatten) YL (rG Ek Gd) (JF _).1 (JF _).2;rw[<-ef]at hs;refine Xi (.gen [(11,1000)] 0) (Yi rfl (AP.to2 hs ?_));refine Yi (show((A7.take i).flatten).length=((L1 ((A7.take i).flatten)).map Ar).length by rw[Lm,(JF _).1.length_eq]) ?_;refine cU [(3,sl Cm A7),(4,.ref 4 0),(9,.cptr [.cmap B4 (Co x l),.cmap B4 (Co x m),sl Ab l,sl Ab m,sl Ar (Jt l m)]),(11,sl Ar (L1 ((A7.take i).flatten)))] [(4,.ro (Ic x ifs))] Z4 Z1 (AN (Bt (decide (L1 ((A7.take i).flatten)=Jt l m))) (fun h8=>?_) (fun h8=>?_))
 .have h8:(decide (L1 ((A7.take i).flatten)=Jt l m))=true:=h8;have heq:L1 A7.flatten=Jt l m:=by rw[<-ef];exact AW h8
  refine C1 (C2 (cb h8 (uj (L1 ((A7.take i).flatten)) (Jt l m) (Ou i))) (Xi {q:Nat // q<=A7.length/\∀j,j<q->wvI x l m A7 j=true} (Xi (fun q=>⟨[(4,.ref 4 0),(9,.cptr [.cmap B4 (Co x l),.cmap B4 (Co x m),sl Ab l,sl Ab m,sl Ar (Jt l m)]),(14,.slice (.id 14 1) (((A7.take q.1).flatten).map Ar)),(54,sl Cm A7),(55,vi (A7.map Cm).length),(56,vi q.1)],[(4,.ro (Ic x ifs)),(14,.tok 1 (((A7.take q.1).flatten).map Ar).length)],Ac⟩) (Xi (fun q=>A7.length-q.1) (Yi (Xi ⟨0,Al _,fun j h=>absurd h ch⟩ ?_) ?_)))))
  .exact⟨Z6,Z2,Fh,Tv⟩
  intro⟨k,k1,k2⟩;have k1:k<=A7.length:=k1;have k2:∀j,j<k->wvI x l m A7 j=true:=k2;refine Yi (fun h9=>?_) (fun h9=>?_)
  .have h9:(k:Int)<((A7.map Cm).length:Int):=h9;have n9:=DK h9;have hfk:BJ (A7.take (k+1)).flatten:=YM _;have Ak1:(A7.take k).flatten.length<=1073741824:=YM k;have dQ:=QS _ (Ae n9);refine Xi (Cm A7[k]) (Yi (FJ n9) (Yi rfl ?_));have VQ:Bi 1 (A7[k].map Ar)/\(((A7.take k).flatten).map Ar).length=(((A7.take k).flatten).map Ar).length/\((((A7.take k).flatten).map Ar).length+(A7[k].map Ar).length)*16<=140737488355328/\(((A7.take k).flatten).map Ar).length+(A7[k].map Ar).length<=9223372036854775807:=⟨(CJ (enc:=Ar) (n:=1) (fun _=>rfl) A7[k]),rfl,(by simp only[Lm];omega),(by simp only[Lm];omega)⟩;refine Yi VQ ?_;have ew:(((A7.take k).flatten).map Ar++(A7[k]).map Ar)=((A7.take (k+1)).flatten).map Ar:=by rw[Hr n9,AF]
   refine cU [(4,.ref 4 0),(9,.cptr [.cmap B4 (Co x l),.cmap B4 (Co x m),sl Ab l,sl Ab m,sl Ar (Jt l m)]),(14,.slice (.id 14 1) (((A7.take (k+1)).flatten).map Ar)),(54,sl Cm A7),(55,vi (A7.map Cm).length),(56,vi k)] [(4,.ro (Ic x ifs)),(14,.tok 1 (((A7.take (k+1)).flatten).map Ar).length)] ⟨Zr,Zr,⟨(Aa (AV.slice (.id 14 1)) ew),rfl⟩,Zr,Zr,Zr,Tv⟩ ⟨Zr,⟨(show HO.tok 1 ((((A7.take k).flatten).map Ar).length+(A7[k].map Ar).length)=.tok 1 (((A7.take (k+1)).flatten).map Ar).length from Aa (HO.tok 1) (Ak.symm.trans (Aa List.length ew))),rfl⟩,Tv⟩ (yN (C2 (vl x l m ((A7.take (k+1)).flatten) (Gq (Ob c0).1 hl) (Gq (Ob c0).2 Sb) (show(SE l m ((A7.take (k+1)).flatten)).length<=1073741824 by have q:=Ym l m ((A7.take (k+1)).flatten);omega) hfk) ?_));refine C2 (x6 x ifs (CP (SE l m ((A7.take (k+1)).flatten))) hx (show(CP (SE l m ((A7.take (k+1)).flatten))).length<=1073741824 by rw[(J6 _).length_eq];have q:=Ym l m ((A7.take (k+1)).flatten);omega)) ?_;refine Yi (fun FH=>?_) (fun FH=>?_)
   .have FH:((E0 x (CP (SE l m ((A7.take (k+1)).flatten)))):Int)≠(0:Int):=FH;refine Yi Wk ?_;exact BM.of_eq (Aa vi (show 17=G3 x l m A7 by rw[G3,Ay c0,Ay Gd,Ay heq,Az (yw n9 (Aj FH))]))
   have FH:((E0 x (CP (SE l m ((A7.take (k+1)).flatten)))):Int)=(0:Int):=Aq FH;refine Yi Wk (Yi (Ii k ch) (Xi ⟨k+1,n9,fun j h=>by rcases B2 j k with hg | hg;exact k2 j hg;have e:j=k:=ch;subst e;exact At FH⟩ ?_));exact⟨Dl A7.length k ch,Z6,Z2,Fh,Tv⟩
  have h9:¬((k:Int)<((A7.map Cm).length:Int)):=h9;have n9:=B5 h9;exact BM.of_eq (Aa vi (show 0=G3 x l m A7 by rw[G3,Ay c0,Ay Gd,Ay heq,Ay (yv k2 (AO (B5 h9)))]))
 have h8:(decide (L1 ((A7.take i).flatten)=Jt l m))=false:=h8;refine C1 (C2 (cb h8 (uj (L1 ((A7.take i).flatten)) (Jt l m) (Ou i))) ?_);exact BM.of_eq (Aa vi (show 1=G3 x l m A7 by rw[G3,Ay c0,Ay Gd,Az (by rw[<-ef];exact Km h8)]))
theorem pP:L1 []=[]:=Fm.1 (by rw[(JF _).1.length_eq];rfl)
theorem fW{x:List Rl}{l m:List Sl}(c0:RD x l m=0):G3 x l m []=if([]:List CS)=Jt l m then 0 else 1:=by
 rw[G3,Ay c0,Ay (show([]:List (List CS)).all gY=true from rfl),show([]:List (List CS)).flatten=[]from rfl,pP,Ay (show fN x l m []=true from rfl)]
theorem yd(hx:∀r∈x,CT r)(Ha:l.length<=16)(FC:m.length<=16)(lim:Int)(hb:PC 161 [.v (.int .u64 (IntKind.u64.wrap (0:Int)))] (vi lim))(c0:RD x l m=0):PC 58 [.agg (Ic x ifs),sl Ab l,sl Ab m,sl Cm ([]:List (List CS))] (vi (G3 x l m [])):=by
 have hl:BJ l:=AH Ha Cl;have Sb:BJ m:=AH FC Cl;refine Ps (pC [4] []) func58 rfl (Nz rfl) (yN (C1 (C2 (by have q:=qm x ifs l m hx hl Sb Ha FC;rw[fG,Ay c0]at q;exact q) ?_)));refine Yi (fun h=>absurd h Cl) (fun _=>?_);refine Xi {q:Nat // q=0} (Xi (fun q=>⟨[(3,sl Cm ([]:List (List CS))),(4,.ref 4 0),(9,.cptr [.cmap B4 (Co x l),.cmap B4 (Co x m),sl Ab l,sl Ab m,sl Ar (Jt l m)]),(11,BE),(27,sl Cm ([]:List (List CS))),(28,vi (([]:List (List CS)).map Cm).length),(29,vi q.1)],[(4,.ro (Ic x ifs))],Ac⟩) (Xi (fun q=>q.1) (Yi (Xi ⟨0,rfl⟩ ?_) ?_)))
 .exact⟨Z7,Z1,Fh,Tv⟩
 intro⟨i,i1⟩;have i1:i=0:=i1;refine Yi (fun h1=>?_) (fun h1=>?_)
 .have h1:(i:Int)<((([]:List (List CS)).map Cm).length:Int):=h1;have n1:=DK h1;exact absurd (DK h1) (DB _)
 have h1:¬((i:Int)<((([]:List (List CS)).map Cm).length:Int)):=h1;have n1:=B5 h1;refine C1 (C2 (Acn lim hb) (AN (Bt (decide (([]:List CS)=Jt l m))) (fun h2=>?_) (fun h2=>?_)))
 .have h2:(decide (([]:List CS)=Jt l m))=true:=h2;refine C1 (C2 (cb h2 ((uj ([]:List CS) (Jt l m) Cl).args ⟨.nil,.refl _,trivial⟩)) (Xi {q:Nat // q=0} (Xi (fun q=>⟨[(4,.ref 4 0),(9,.cptr [.cmap B4 (Co x l),.cmap B4 (Co x m),sl Ab l,sl Ab m,sl Ar (Jt l m)]),(14,BE),(54,sl Cm ([]:List (List CS))),(55,vi (([]:List (List CS)).map Cm).length),(56,vi q.1)],[(4,.ro (Ic x ifs))],Ac⟩) (Xi (fun q=>q.1) (Yi (Xi ⟨0,rfl⟩ ?_) ?_)))))
  .exact⟨Z6,Z1,Fh,Tv⟩
  intro⟨k,k1⟩;have k1:k=0:=k1;refine Yi (fun h3=>?_) (fun h3=>?_)
  .have h3:(k:Int)<((([]:List (List CS)).map Cm).length:Int):=h3;have n3:=DK h3;exact absurd (DK h3) (DB _)
  have h3:¬((k:Int)<((([]:List (List CS)).map Cm).length:Int)):=h3;have n3:=B5 h3;exact BM.of_eq (Aa vi (show 0=G3 x l m [] by rw[fW c0,Ay (AW h2)]))
 have h2:(decide (([]:List CS)=Jt l m))=false:=h2;refine C1 (C2 (cb h2 ((uj ([]:List CS) (Jt l m) Cl).args ⟨.nil,.refl _,trivial⟩)) ?_);exact BM.of_eq (Aa vi (show 1=G3 x l m [] by rw[fW c0,Az (Km h2)]))
structure Wv where
 paths:List CS
 stages:List cH
abbrev Gu(v:Wv):List AV:=[sl Ar v.paths,sl Gc v.stages]
structure Ro where
 name:CS
 waves:List Wv
variable (r:Ro)
abbrev IK:List AV:=[vs r.name,sl Gu r.waves]
theorem AbY(hx:∀r∈x,CT r)(Ha:l.length<=16)(FC:m.length<=16)(nI:A7.length<=1000)(QS:∀p∈A7,p.length<=1000):PC 58 [Fr x ifs,sl Ab l,sl Ab m,sl Cm A7] (vi (G3 x l m A7)):=by
 by_cases c0:RD x l m=0
 .by_cases Ek:A7=[]
  .subst Ek;obtain⟨lim,_,hb⟩:=mc 0 (Al _);exact yd x ifs l m hx Ha FC lim hb c0
  .refine yc x ifs l m A7 hx Ha FC nI (fun p hp=>AH (QS p hp) Cl) (fun i=>?_) Ek c0;have q:=Ta QS A7.length;have q2:(A7.take i).flatten.length<=A7.flatten.length:=by
    conv=>rhs;rw[<-Ia i A7,CR,Ak]
    omega
   rw[CA]at q;have q3:=Bn 1000 nI;omega
 .exact ya x ifs l m A7 hx Ha FC ch (fun p hp=>AH (QS p hp) Cl) c0
theorem cr{α:Type}(f:α->List AV)(l:List α)(n:Nat):((l.map f).take ((n:Nat):Int).toNat).drop (0:Int).toNat=(l.take n).map f:=by
 rw[Dq,Mr];rfl
theorem Zx(n:Nat)(hn:n<=r.waves.length)(hl:BJ r.waves):PC 56 [.agg (IK r),vi (n:Nat)] (sl Cm ((r.waves.take n).map (·.paths))):=by
 have hl:r.waves.length<=1073741824:=hl;have hrn:(r.waves.take n).length<=n:=by rw[AD];omega
 refine Ps (pT [2] [(5,1)] []) func56 rfl (Nz rfl) (Yi (show(0:Int)<=0/\(0:Int)<=(n:Nat)/\((n:Nat):Int)<=((r.waves.map Gu).length:Nat) by rw[Lm];omega) (Yi (LD (enc:=Gu) (n:=2) (fun _=>rfl) r.waves) (Xi {q:Nat // q<=(r.waves.take n).length} (Xi (fun q=>⟨[(5,.slice (.id 5 1) ((((r.waves.take n).take q.1).map (·.paths)).map Cm)),(11,sl Gu (r.waves.take n)),(12,vi ((r.waves.take n).map Gu).length),(13,vi q.1)],[(5,.tok 1 ((((r.waves.take n).take q.1).map (·.paths)).map Cm).length)],Ac⟩) (Xi (fun q=>(r.waves.take n).length-q.1) (Yi (Xi ⟨0,Al _⟩ ?_) ?_))))))
 .exact⟨⟨Zr,⟨(Aa (AV.slice .none) (cr Gu r.waves n)),rfl⟩,⟨(Aa (fun z:C0=>vi (z.length:Nat)) (cr Gu r.waves n)),rfl⟩,Zr,Tv⟩,Z1,Fh,Tv⟩
 intro⟨i,i1⟩;have i1:i<=(r.waves.take n).length:=i1;refine Yi (fun h1=>?_) (fun h1=>?_)
 .have h1:(i:Int)<(((r.waves.take n).map Gu).length:Int):=h1;have n1:=DK h1;have hq:((r.waves.take n).take i).length<=1073741824:=by rw[AD];omega
  refine Xi (Gu ((r.waves.take n)[i])) (Yi (FJ n1) (Yi rfl (yN (yN ?_))));have b2:Bi 1 [[sl Ar ((r.waves.take n)[i]).paths]]/\((((r.waves.take n).take i).map (·.paths)).map Cm).length=((((r.waves.take n).take i).map (·.paths)).map Cm).length/\(((((r.waves.take n).take i).map (·.paths)).map Cm).length+([[sl Ar ((r.waves.take n)[i]).paths]]:C0).length)*24<=140737488355328/\((((r.waves.take n).take i).map (·.paths)).map Cm).length+([[sl Ar ((r.waves.take n)[i]).paths]]:C0).length<=9223372036854775807:=⟨⟨rfl,trivial⟩,rfl,(by simp only[Lm,AA,AE];omega),(by simp only[Lm,AA,AE];omega)⟩;refine Yi b2 (Yi (Ii i ch) ?_);have ew:((((r.waves.take n).take i).map (·.paths)).map Cm++[[sl Ar ((r.waves.take n)[i]).paths]])=((((r.waves.take n).take (i+1)).map (·.paths)).map Cm):=by rw[DU n1,AF,AF];rfl
  refine Xi ⟨i+1,n1⟩ ?_;exact⟨by show(r.waves.take n).length-(i+1)<(r.waves.take n).length-i;omega,⟨⟨(Aa (AV.slice (.id 5 1)) ew),rfl⟩,Zr,Zr,Zr,Tv⟩,⟨⟨(show HO.tok 1 (((((r.waves.take n).take i).map (·.paths)).map Cm).length+([[sl Ar ((r.waves.take n)[i]).paths]]:C0).length)=.tok 1 ((((r.waves.take n).take (i+1)).map (·.paths)).map Cm).length from Aa (HO.tok 1) (Ak.symm.trans (Aa List.length ew))),rfl⟩,Tv⟩,Fh,Tv⟩
 have h1:¬((i:Int)<(((r.waves.take n).map Gu).length:Int)):=h1;have n1:=B5 h1;exact BM.of_eq (show sl Cm (((r.waves.take n).take i).map (·.paths))=sl Cm ((r.waves.take n).map (·.paths)) by rw[Au (l:=r.waves.take n) (i:=i) (AO (B5 h1))])
def J7:List Wv->Int
 | []=>0
 |v::r=>if Do v.stages=0 then J7 r else Do v.stages
def ZG:List (List CS):=r.waves.map (·.paths)
def OL:Int:=if G3 x l m (ZG r)=0 then if 65536<r.name.size then 7 else J7 r.waves else G3 x l m (ZG r)
theorem AbO{l:List Wv}(h:i<l.length)(k:Do l[i].stages=0):J7 (l.drop i)=J7 (l.drop (i+1)):=by rw[A2 h,J7,Ay k]
theorem AbN{l:List Wv}(h:i<l.length)(k:¬Do l[i].stages=0):J7 (l.drop i)=Do l[i].stages:=by rw[A2 h,J7,Az k]
structure TA(r:Ro):Prop where
 wv:r.waves.length<=1000
 st:∀v∈r.waves,v.stages.length<=1073741824
 pt:∀v∈r.waves,v.paths.length<=1000
theorem iG(hx:∀r∈x,CT r)(Ha:l.length<=16)(FC:m.length<=16)(hr:TA r):PC 23 [.agg (Ic x ifs),sl Ab l,sl Ab m,.agg (IK r)] (vi (OL x l m r)):=by
 have hwl:r.waves.length<=1000:=hr.wv;refine Ps (pC [4,7] [4]) func23 rfl (Nz rfl) (yN (yN (C2 (by have q:=Zx r r.waves.length (Ap _) (AH hr.wv Cl);rw[CA]at q;exact show PC 56 [.agg (IK r),vi ((r.waves.map Gu).length:Nat)] (sl Cm (ZG r)) by rw[Lm];exact q) ?_)));refine C2 (AbY x ifs l m (ZG r) hx Ha FC (by rw[ZG,Lm];exact hr.wv) (fun p hp=>by obtain⟨v,hv,rfl⟩:=Ax.1 hp;exact hr.pt v hv)) ?_;refine Yi Wk (Yi (fun h1=>?_) (fun h1=>?_))
 .have h1:((G3 x l m (ZG r)):Int)≠(0:Int):=h1;exact BM.of_eq (Aa vi (show(G3 x l m (ZG r))=OL x l m r by rw[OL,Az h1]))
 have h1:((G3 x l m (ZG r)):Int)=(0:Int):=Aq h1;refine cU [(7,.ref 7 0)] [(7,.ro (IK r))] Z1 Z1 (Yi (fun h3=>?_) (fun h3=>?_))
 .have h3:(65536:Int)<(r.name.size:Int):=h3;exact BM.of_eq (Aa vi (show 7=OL x l m r by rw[OL,Ay h1,Ay ch]))
 have h3:¬((65536:Int)<(r.name.size:Int)):=h3;refine Xi {q:Nat // q<=r.waves.length/\J7 (r.waves.drop q)=J7 r.waves} (Xi (fun q=>⟨[(30,sl Gu r.waves),(31,vi (r.waves.map Gu).length),(32,vi q.1)],[],Ac⟩) (Xi (fun q=>r.waves.length-q.1) (Yi (Xi ⟨0,Al _,rfl⟩ ?_) ?_)))
 .exact⟨Z3,Tv,Fh,Tv⟩
 intro⟨i,i1,i2⟩;have i1:i<=r.waves.length:=i1;have i2:J7 (r.waves.drop i)=J7 r.waves:=i2;refine Yi (fun h5=>?_) (fun h5=>?_)
 .have h5:(i:Int)<((r.waves.map Gu).length:Int):=h5;have n5:=DK h5;refine Xi (Gu r.waves[i]) (Yi (FJ n5) (Yi rfl (yN (yN (C1 (C2 (VK r.waves[i].stages (hr.st _ (Ae n5))) (Yi (fun h6=>?_) (fun h6=>?_))))))))
  .have h6:((Do r.waves[i].stages):Int)≠(0:Int):=h6;exact BM.of_eq (Aa vi (show(Do r.waves[i].stages)=OL x l m r by rw[OL,Ay h1,Az ch,<-i2,AbN n5 h6]))
  have h6:((Do r.waves[i].stages):Int)=(0:Int):=Aq h6;refine Yi (Ii i ch) (Xi ⟨i+1,n5,by rw[<-i2,AbO n5 h6]⟩ ?_);exact⟨Dl r.waves.length i ch,Z3,Tv,Fh,Tv⟩
 have h5:¬((i:Int)<((r.waves.map Gu).length:Int)):=h5;have n5:=B5 h5;exact BM.of_eq (Aa vi (show 0=OL x l m r by rw[OL,Ay h1,Az ch,<-i2,Bq (AO (B5 h5))];rfl))
end Go.Eng
namespace Go.Eng
open Go.Proofs
open Go.RowKit
variable (x:List Rl)(r:Ro)(user:CS)(Bp:Int)(i:Nat)
theorem kP : Tryz.prog.globalNamed "internal/strconv.uint64pow10" = some 1 := by decide +kernel
theorem xR {w : World} (h : ∀ x ∈ m6, w.cell? ⟨x.1, x.2.1, none⟩ = x.2.2) : Go.Lib.TabIs Tryz.prog w "internal/strconv.uint64pow10" .u64 Go.Lib.pow10Tab := by
 unfold Go.Lib.TabIs World.var?;rw[kP];simp only[Option.bind_some];have zZ:=h (1,20,none) (Af ..);have hi:∀i,i<20->w.cell? ⟨1,i,none⟩=some (.int .u64 ((10 ^ i:Nat):Int)):=fun i hi=>h (1,i,some (.int .u64 ((10 ^ i:Nat):Int))) (Ao _ (Ax.2 ⟨i,KX.2 hi,rfl⟩));have h0:=hi 0 Cl;unfold World.cell? at h0 zZ hi;cases e:w.heap[1]? with
 |none=>rw[e]at h0;cases h0
 |some o=>
  cases o with
  |cells cs E fr=>
   simp only[e,Option.isSome_none,Kh,if_false]at zZ hi;have hs:cs.size=20:=by
    have zY:=hi 19 Cl
    have:=(Cu.1 zY).1
    have:=Array.getElem?_eq_none_iff.1 zZ
    omega
   show some cs=_
   congr 1
   apply Array.ext
   .simp[hs,Go.Lib.pow10Tab]
   .intro i h1 h2
    have:=hi i ch
    rw[Cg h1]at this;rw[DW this];simp[Go.Lib.pow10Tab]
  |_=>rw[e]at h0;simp at h0
theorem ym(n:Int)(h:Av n):PC 53 [vi n] (vs (nY n)):=by
 unfold Av at h;refine M5 [.int .i64 n] (.string (nY n)) (aq 53 Tryz.func53 Wk rfl) rfl (fun g w=>.v _ _) fun w _ ht=>?_;refine(Any.strconv_Itoa Tryz.layItoa n h.1 ch w (xR ht)).mono ?_
 rintro e w' ⟨rfl,k,os,rfl⟩
 exact⟨rfl,Go.Lib.below_grow _ _ (Ap _) _ _⟩
theorem UK{n:Int}(h0:-9223372036854775808<=n)(h1:n<=9223372036854775807):(nY n).size<=21:=by
 unfold nY;rw[show ∀l:List UInt8,(mkB l).size=l.length from fun l=>by simp[ByteArray.size]];exact Go.Lib.itoa_length_le n h0 h1
def Vb(v:Wv):Bool:=decide (KP v.stages Bp<=jn ((r.name++⟨#[47]⟩)++nY (i:Int)) user)
def Qw(r:Ro)(user:CS)(Bp:Int):Nat->List Wv->Nat
 |i,[]=>i
 |i,v::l=>if Vb r user Bp i v=true then i else Qw r user Bp (i+1) l
def Wq:Nat:=Qw r user Bp 0 r.waves
theorem zV{r:Ro}{user:CS}{Bp:Int}{i:Nat}(h:i<r.waves.length)(k:Vb r user Bp i r.waves[i]=false):Qw r user Bp i (r.waves.drop i)=Qw r user Bp (i+1) (r.waves.drop (i+1)):=by
 rw[A2 h,Qw,Az (by rw[k];decide)]
theorem wx{r:Ro}{user:CS}{Bp:Int}{i:Nat}(h:i<r.waves.length)(k:Vb r user Bp i r.waves[i]=true):Qw r user Bp i (r.waves.drop i)=i:=by
 rw[A2 h,Qw,Ay k]
theorem vr(hi:i<r.waves.length)(hw:r.waves.length<=1000)(KR:BJ r.waves[i].stages)(hn:r.name.size<=10000000)(hu:user.size<=100000000):PC 52 [vi i,.cptr (IK r),.cptr [vs user],.cptr [vi Bp]] (vb (Vb r user Bp i r.waves[i])):=by
 refine Ps C3 Tryz.func52 rfl (Nz rfl) (Yi (show(((r.name:CS).size+(⟨#[47]⟩:CS).size:Nat):Int)<=9223372036854775807 by have q:=UK (n:=(i:Int)) ch ch;have q2:(⟨#[47]⟩:CS).size=1:=rfl;omega) ?_);refine C2 (ym (i:Int) (by unfold Av;omega)) (Yi (show(((r.name++⟨#[47]⟩:CS).size+((nY (i:Int)):CS).size:Nat):Int)<=9223372036854775807 by have q:=UK (n:=(i:Int)) ch ch;have q2:(⟨#[47]⟩:CS).size=1:=rfl;simp only[CD];omega) ?_);refine C2 (Ac0 ((r.name++(⟨#[47]⟩:CS))++nY (i:Int)) user (by have q:=UK (n:=(i:Int)) ch ch;simp only[CD];have q2:(⟨#[47]⟩:CS).size=1:=rfl;omega) hu) ?_;refine Xi (Gu r.waves[i]) (Yi (FJ hi) (Yi rfl (C2 (vt r.waves[i].stages Bp KR) (Yi (fun h1=>?_) (fun h1=>?_)))))
 .have h1:((KP r.waves[i].stages Bp):Int)<=((jn ((r.name++(⟨#[47]⟩:CS))++nY (i:Int)) user):Int):=h1;refine Yi Wk ?_;exact BM.of_eq (Aa vb (show true=Vb r user Bp i r.waves[i]from(At h1).symm))
 have h1:¬(((KP r.waves[i].stages Bp):Int)<=((jn ((r.name++(⟨#[47]⟩:CS))++nY (i:Int)) user):Int)):=h1;refine Yi Wk ?_;exact BM.of_eq (Aa vb (show false=Vb r user Bp i r.waves[i]from(Aj h1).symm))
def qO(l m:List Sl)(r:Ro)(user:CS)(Bp:Int):AV:=if OL x l m r=0 then .tup [vi (Wq r user Bp:Nat),vi 0]else .tup [vi 0,vi (OL x l m r)]
theorem qn(ifs:C0)(l m:List Sl)(r:Ro)(user:CS)(Bp:Int)(hx:∀r∈x,CT r)(Ha:l.length<=16)(FC:m.length<=16)(hr:TA r)(hn:r.name.size<=10000000)(hu:user.size<=100000000):PC 19 [.agg (Ic x ifs),sl Ab l,sl Ab m,.agg (IK r),vs user,vi Bp] (qO x l m r user Bp):=by
 have hwl:r.waves.length<=1000:=hr.wv;refine Ps (pC [6,9,10,11] [4]) Tryz.func19 rfl (Nz rfl) (yN (yN (C1 (C2 (iG x ifs l m r hx Ha FC hr) (Yi (fun h1=>?_) (fun h1=>?_))))))
 .have h1:((OL x l m r):Int)≠(0:Int):=h1;exact BM.of_eq (show AV.tup [vi 0,vi (OL x l m r)]=qO x l m r user Bp by rw[qO,Az h1])
 have h1:((OL x l m r):Int)=(0:Int):=Aq h1;refine cU [(9,.ref 9 0),(10,.ref 10 0),(11,.ref 11 0)] [(9,.ro (IK r)),(10,.ro [vs user]),(11,.ro [vi Bp])] Z3 Z3 (Xi {q:Nat // q<=r.waves.length/\Qw r user Bp q (r.waves.drop q)=Wq r user Bp} (Xi (fun q=>⟨[(9,.ref 9 0),(15,.clo 52 [.cptr (IK r),.cptr [vs user],.cptr [vi Bp]]),(28,vi (r.waves.map Gu).length),(29,vi q.1)],[(9,.ro (IK r))],Ac⟩) (Xi (fun q=>r.waves.length-q.1) (Yi (Xi ⟨0,Al _,rfl⟩ ?_) ?_))))
 .exact⟨Z4,Z1,Fh,Tv⟩
 intro⟨i,i1,i2⟩;have i1:i<=r.waves.length:=i1;have i2:Qw r user Bp i (r.waves.drop i)=Wq r user Bp:=i2;refine Yi (fun h3=>?_) (fun h3=>?_)
 .have h3:(i:Int)<((r.waves.map Gu).length:Int):=h3;have n3:=DK h3;refine AN (Bt (Vb r user Bp i r.waves[i])) (fun h4=>?_) (fun h4=>?_)
  .have h4:(Vb r user Bp i r.waves[i])=true:=h4;refine C1 (C2 (cb h4 (vr r user Bp i n3 hr.wv (hr.st _ (Ae n3)) hn hu)) ?_);exact BM.of_eq (show AV.tup [vi i,vi 0]=qO x l m r user Bp by rw[qO,Ay h1,<-i2,wx n3 h4])
  have h4:(Vb r user Bp i r.waves[i])=false:=h4;refine C1 (C2 (cb h4 (vr r user Bp i n3 hr.wv (hr.st _ (Ae n3)) hn hu)) (Yi (Ii i ch) (Xi ⟨i+1,n3,by rw[<-i2,zV n3 h4]⟩ ?_)));exact⟨Dl r.waves.length i ch,Z4,Z1,Fh,Tv⟩
 have h3:¬((i:Int)<((r.waves.map Gu).length:Int)):=h3;have n3:=B5 h3;exact BM.of_eq (show AV.tup [vi (r.waves.map Gu).length,vi 0]=qO x l m r user Bp by rw[qO,Ay h1,<-i2,Bq (AO (B5 h3)),Lm,show i=r.waves.length by have q:=B5 h3;omega];rfl)
end Go.Eng
namespace Go.Proofs
open Go.Proofs.Tryz
open Go.Shelf
def Tryz.layGrow_ren:Go.Shelf.Ren:=⟨fun | 4=>94 | n=>n,fun | 22=>52 | 25=>9 | 3=>3 | 4=>4 | 9=>9 | 20=>20 | 0=>0 | n=>n,fun | n=>n⟩
theorem Tryz.layGrow:Go.Proofs.Lays8.n4 Tryz.prog Tryz.layGrow_ren:={
 mixed:=by kernel_rfl
 f4:=⟨Tryz.f94.name,by decide,Go.Eng.A0a func94⟩
 t0:=underlying0
 a0:=isAgg0
 z0:=sizeOf0
 v0:=zeroValue0
 t3:=underlying3
 a3:=isAgg3
 z3:=sizeOf3
 v3:=zeroValue3
 t4:=underlying4
 a4:=isAgg4
 z4:=sizeOf4
 v4:=zeroValue4
 t9:=underlying9
 a9:=isAgg9
 z9:=sizeOf9
 v9:=zeroValue9
 t20:=underlying20
 a20:=isAgg20
 z20:=sizeOf20
 v20:=zeroValue20
 t22:=underlying52
 a22:=isAgg52
 z22:=sizeOf52
 v22:=zeroValue52 }
end Go.Proofs
