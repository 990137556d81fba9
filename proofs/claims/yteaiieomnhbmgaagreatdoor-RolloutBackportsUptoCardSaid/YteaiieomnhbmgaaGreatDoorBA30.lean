/- Lemmas 30. -/
import Derived.Test.YteaiieomnhbmgaaGreatDoorBA29
set_option maxHeartbeats 4000000
namespace Go.Eng
open Go.Proofs Go.Proofs.Tryz
variable {caps:List AV}{q:List Rq}{i fF n k:Nat}(x sx:List Rl)(ifs:C0)(a:Ad)(v:Ver)(cl:List (List Rq))(w:Wd)
abbrev Xx(p:CS):List Rl:=x.filter fun r=>decide (r.path=p)
def IE(l:List Rl):List Ver:=l.map (·.ver)
theorem tO{l:List Rl}(h:i<l.length):IE (l.take (i+1))=IE (l.take i)++[l[i].ver]:=by
 rw[By h,IE,AF];rfl
theorem yu(p:CS)(L:List Rl)(lz:L=Xx x p)(hx:∀r∈x,CT r)(h0:AC x=0)(Ha:x.length<=16)(Ek:∃r∈x,r.path=p):PC 66 [.agg (Ic x ifs),vs p] (sl CC (IE L)):=by
 have nk:PC 82 [Fr x ifs] (.tup [.agg [.cmap ZH (x.map Xn),.cmap B4 ((AS x []).map (uY x))],vi 0]):=by have q:=c84 x ifs hx;unfold ul tH at q;rw[Ay h0]at q;exact q
 have hLl:L.length<=16:=by have q:=DI (fun r:Rl=>decide (r.path=p)) x;rw[lz];exact AH q Ha
 refine Ps (pT [2] [(7,3)] [2,7]) func66 rfl (Nz rfl) (yN (C1 (C2 nk (yN (cU [(1,vs p),(5,.ref 5 0)] [(5,.cells [.cmap ZH (x.map Xn),.cmap B4 ((AS x []).map (uY x))])] Z2 Z1 (Yi (fun a ha=>?_) (fun OX=>absurd (Ax.2 ⟨p,(Gz x [] p).2 (.inr Ek),rfl⟩) (OX _))))))));have ea:a=sl Ah L:=by rw[lz];exact sw ha
 subst ea;refine Xi {q:Nat // q<=L.length} (Xi (fun q=>⟨[(7,.slice (.id 7 3) ((IE (L.take q.1)).map CC)),(18,sl Ah L),(19,vi (L.map Ah).length),(20,vi q.1)],[(7,.tok 3 ((IE (L.take q.1)).map CC).length)],Ac⟩) (Xi (fun q=>L.length-q.1) (Yi (Xi ⟨0,Al _⟩ ?_) ?_)))
 .exact⟨Z4,Z1,Fh,Tv⟩
 intro⟨i,i1⟩;have i1:i<=L.length:=i1;have hq:(IE (L.take i)).length<=1073741824:=by rw[IE,Lm,AD];omega
 refine Yi (fun h1=>?_) (fun h1=>?_)
 .have h1:(i:Int)<((L.map Ah).length:Int):=h1;have n1:=DK h1;refine Xi (Ah L[i]) (Yi (FJ n1) (Yi rfl (yN (yN (yN ?_)))));have b2:Bi 3 [[vi L[i].ver.a,vi L[i].ver.b,vi L[i].ver.c]]/\((IE (L.take i)).map CC).length=((IE (L.take i)).map CC).length/\(((IE (L.take i)).map CC).length+([[vi L[i].ver.a,vi L[i].ver.b,vi L[i].ver.c]]:C0).length)*24<=140737488355328/\((IE (L.take i)).map CC).length+([[vi L[i].ver.a,vi L[i].ver.b,vi L[i].ver.c]]:C0).length<=9223372036854775807:=⟨⟨rfl,trivial⟩,rfl,(by simp only[Lm,AA,AE];omega),(by simp only[Lm,AA,AE];omega)⟩;refine Yi b2 (cU [(7,.slice (.id 7 3) (((IE (L.take i)).map CC)++[[vi L[i].ver.a,vi L[i].ver.b,vi L[i].ver.c]])),(18,sl Ah L),(19,vi (L.map Ah).length),(20,vi i)] [(7,.tok 3 (((IE (L.take i)).map CC).length+([[vi L[i].ver.a,vi L[i].ver.b,vi L[i].ver.c]]:C0).length))] Z4 Z1 (Yi (Ii i ch) ?_));have ew:(((IE (L.take i)).map CC)++[[vi L[i].ver.a,vi L[i].ver.b,vi L[i].ver.c]])=((IE (L.take (i+1))).map CC):=by rw[tO n1,AF];rfl
  refine Xi ⟨i+1,n1⟩ ?_;exact⟨Dl L.length i ch,⟨⟨(Aa (AV.slice (.id 7 3)) ew),rfl⟩,Zr,Zr,Zr,Tv⟩,⟨⟨(show HO.tok 3 (((IE (L.take i)).map CC).length+([[vi L[i].ver.a,vi L[i].ver.b,vi L[i].ver.c]]:C0).length)=.tok 3 ((IE (L.take (i+1))).map CC).length from Aa (HO.tok 3) (Ak.symm.trans (Aa List.length ew))),rfl⟩,Tv⟩,Fh,Tv⟩
 have h1:¬((i:Int)<((L.map Ah).length:Int)):=h1;have n1:=B5 h1;exact BM.of_eq (show sl CC (IE (L.take i))=sl CC (IE L) by rw[Au (l:=L) (i:=i) (AO (B5 h1))])
theorem AbX(q:List Rq)(hq:∀z∈q,FA z):PC 63 [sl As q] (vb (!decide (AR q=0))):=by
 refine Ps C3 func63 rfl (Nz rfl) (C1 (C2 (c65 VY q hq) (Yi (fun h1=>?_) (fun h1=>?_))))
 .have h1:((AR q):Int)≠(0:Int):=h1;exact BM.of_eq (Aa vb (show true=!decide (AR q=0) by rw[Aj h1];rfl))
 have h1:((AR q):Int)=(0:Int):=Aq h1;exact BM.of_eq (Aa vb (show false=!decide (AR q=0) by rw[At h1];rfl))
theorem z61(hs:Ch caps)(l:List (List Rq))(p:List Rq->Bool)(hF:∀x∈l,PC fF ([sl As x]++caps) (vb (p x)))(hl:l.length<9223372036854775807) :
  PC 61 [sl BD l,.clo fF caps] (vi (Je p l 0)):=by
 refine Ps C3 func61 rfl (Nz rfl) (Xi {i:Nat // i<=l.length/\∀j (hj:j<l.length),j<i->p l[j]=false} (Xi (fun i=>⟨[(0,sl BD l),(1,.clo fF caps),(7,vi (l.map BD).length),(8,vi i.1)],[],Ac⟩) (Xi (fun i=>l.length-i.1) (Yi (Xi ⟨0,by simp⟩ ?_) ?_))))
 .exact⟨⟨Zr,⟨rfl,hs.ids _⟩,Zr,Zr,Tv⟩,Tv,Fh,Tv⟩
 .intro⟨i,h1,h2⟩;refine Yi ?_ ?_
  .intro h;have h:(i:Int)<(l.map BD).length:=h;have h:i<l.length:=by simpa using h
   have hg:l[i]?=some l[i]:=Ge h;refine Xi (BD l[i]) (Yi (Yi (Nn i) (by simp[hg])) (Yi rfl ?_));have BV:∀h,PC fF ([sl As l[i]]++caps.map (str0 h)) (vb (p l[i])):=fun h=>by rw[hs.map];exact hF l[i] (Ae _)
   cases hp:p l[i]with
   |true=>
    rw[hp]at BV;refine Xi .pure (Xi (vb true) (Yi (BV _) ?_));rw[Hh h (fun j hj FI=>h2 j hj FI) hp,Em];exact .refl _
   |false=>
    rw[hp]at BV;refine Xi .pure (Xi (vb false) (Yi (BV _) (Yi (Ii i ch) (Xi ⟨i+1,by omega,fun j hj FI=>?_⟩ ?_))))
    .by_cases e:j=i
     .subst e;exact hp
     .exact h2 j hj ch
    .exact⟨Dl l.length i ch,⟨Zr,⟨rfl,hs.ids _⟩,Zr,Zr,Tv⟩,Tv,Fh,Tv⟩
  .intro h;have h:¬(i:Int)<(l.map BD).length:=h;have h:¬i<l.length:=by simpa using h
   rw[F3 fun j hj=>h2 j hj ch];exact .refl _
theorem z28(hs:Ch caps)(l:List (List Rq))(p:List Rq->Bool)(hF:∀x∈l,PC fF ([sl As x]++caps) (vb (p x)))(hl:BJ l) :
  PC 28 [sl BD l,.clo fF caps] (vb (l.any p)):=by
 refine Ps C3 func28 rfl (Nz rfl) ?_;have hi:=z61 hs l p hF (by unfold BJ at hl;omega);have BV:∀h,PC 61 [sl BD l,.clo fF (caps.map (str0 h))] (vi (Je p l 0)):=fun h=>by rw[hs.map];exact hi
 refine C1 (C2 (BV _) ?_);have ha:=Hc (p:=p) l 0 (Bv 0);refine Yi ?_ ?_
 .intro h;have h:(0:Int)<=Je p l 0:=h;rw[<-ha,At h];exact .refl _
 .intro h;have h:¬(0:Int)<=Je p l 0:=h;rw[<-ha,Aj h];exact .refl _
theorem fK(hl:BJ cl)(h:∀q∈cl,∀z∈q,FA z):PC 28 [sl BD cl,.v (.func (.func 63) #[] #[])] (vb (cl.any fun q=>!decide (AR q=0))):=
 (z28 (fF:=63) Ch.nil cl (fun q=>!decide (AR q=0)) (fun q hq=>AbX q (h q hq)) hl).args ⟨.refl _,.fn _,trivial⟩
theorem uc(hx:x.length<=19)(hc:∀r∈x,PC 83 [.agg (Ah r)] (.agg (Ah r)))(hk:AP Tryz.prog 86 [.agg [.msl 1000 ((Dp BU x.length x).map Ah).length,BE]] (Ai [(1000,.arr 9 ((Dp BU x.length x).map Ah))] Ac) fun r h'=>r=vi 0/\h'=Ai [(1000,.arr 9 ((Dp BU x.length x).map Ah))] Ac):PC 43 [sl Ah x] (.tup [sl Ah (Dp BU x.length x),vi 0]):=by
 refine Ps ⟨[],[],[(4,9)],[],[],[],[],[],[],[(200011,4)],[7,8,11]⟩ func43 rfl (Nz rfl) (Xi {q:Nat // q<=x.length} (Xi (fun q=>⟨[(4,.msl 4 (x.take q.1).length),(8,sl Ah x),(9,vi (x.map Ah).length),(10,vi q.1)],[(4,.arr 9 ((x.take q.1).map Ah))],Ac⟩) (Xi (fun q=>x.length-q.1) (Yi (Xi ⟨0,Al _⟩ ?_) ?_))))
 .exact⟨Z4,Z1,Fh,Tv⟩
 intro⟨i,i1⟩;have i1:i<=x.length:=i1;refine Yi (fun h1=>?_) (fun h1=>?_)
 .have h1:(i:Int)<((x.map Ah).length:Int):=h1;have n1:=DK h1;refine Xi (Ah x[i]) (Yi (FJ n1) (Yi rfl (yN (yN (yN (C1 (C2 (hc x[i] (Ae n1)) ?_)))))));have b2:Bi 9 [(Ah x[i])]/\((x.take i).map Ah).length=(x.take i).length/\(((x.take i).map Ah).length+([(Ah x[i])]:C0).length)*120<=140737488355328/\((x.take i).map Ah).length+([(Ah x[i])]:C0).length<=9223372036854775807:=⟨⟨rfl,trivial⟩,(by rw[Lm]),(by simp only[Lm,AA,AE,AD];omega),(by simp only[Lm,AA,AE,AD];omega)⟩;refine Yi b2 (Yi (Ii i ch) (Xi ⟨i+1,n1⟩ ?_));exact⟨Dl x.length i ch,⟨⟨(show AV.msl 4 (((x.take i).map Ah).length+([Ah x[i]]:C0).length)=.msl 4 (x.take (i+1)).length by rw[DU n1,Ak,Lm];rfl),rfl⟩,Zr,Zr,Zr,Tv⟩,⟨⟨(show HO.arr 9 ((x.take i).map Ah++[Ah x[i]])=.arr 9 ((x.take (i+1)).map Ah) by rw[DU n1,AF];rfl),rfl⟩,Tv⟩,Fh,Tv⟩
 have h1:¬((i:Int)<((x.map Ah).length:Int)):=h1;have n1:=B5 h1;have ei:x.take i=x:=Au ch;refine cU [(4,.msl 4 x.length)] [(4,.arr 9 (x.map Ah))] ⟨⟨(show AV.msl 4 (x.take i).length=.msl 4 x.length by rw[ei]),rfl⟩,Tv⟩ ⟨⟨(show HO.arr 9 ((x.take i).map Ah)=.arr 9 (x.map Ah) by rw[ei]),rfl⟩,Tv⟩ ?_
 refine Xi (.gen [(4,1000)] 0) (Yi rfl (AP.to2 (v105 x hx) ?_));refine cU [(4,.msl 4 ((Dp BU x.length x).map Ah).length)] [(4,.arr 9 ((Dp BU x.length x).map Ah))] ⟨⟨(show AV.msl 4 x.length=.msl 4 ((Dp BU x.length x).map Ah).length by rw[Lm,JR]),rfl⟩,Tv⟩ Z1 ?_
 refine Xi (.gen [(4,1000)] 0) (Yi rfl (AP.to2 hk ?_));refine Yi (fun h=>absurd h Cl) (fun _=>?_);refine Yi rfl (cU [(4,sl Ah (Dp BU x.length x))] [] Z1 Tv ?_)
 exact .refl _
theorem qk{x:List Rl}(h:x.length<=19)(hf:∀r∈x,CT r)(hr:∀r∈x,r.reqs.length<=1000)(hc:AC (Dp BU x.length x)=0):PC 43 [sl Ah x] (.tup [sl Ah (Dp BU x.length x),vi 0]):=by
 have hk:=IG.lend (sz:=9) (es:=(Dp BU x.length x).map Ah) (vs:=[.slice none 0 0]) (yz (x:=Dp BU x.length x) fun r hr=>hf r (La BU _ _ r hr));rw[hc]at hk;exact uc x h (fun r hm=>c98 r (hr r hm) fun q hq=>((hf r hm).2 q hq).1) hk
theorem lq{x:List Rl}(h:x.length<=19)(hf:∀r∈x,CT r)(hr:∀r∈x,r.reqs.length<=1000)(hc:AC (Dp BU x.length x)≠0):PC 43 [sl Ah x] (.tup [BE,vi (AC (Dp BU x.length x))]):=by
 have hk:=IG.lend (sz:=9) (es:=(Dp BU x.length x).map Ah) (vs:=[.slice none 0 0]) (yz (x:=Dp BU x.length x) fun r hr=>hf r (La BU _ _ r hr));exact Ah5 x h (fun r hm=>c98 r (hr r hm) fun q hq=>((hf r hm).2 q hq).1) _ hc hk
def GZ:List Rl:=if AC (Dp BU x.length x)=0 then Dp BU x.length x else []
theorem ub{x:List Rl}(h:x.length<=19)(hf:∀r∈x,CT r)(hr:∀r∈x,r.reqs.length<=1000):PC 43 [sl Ah x] (.tup [sl Ah (GZ x),vi (AC (Dp BU x.length x))]):=by
 by_cases hc:AC (Dp BU x.length x)=0
 .have q:=qk h hf hr hc;rw[GZ,Ay hc,hc];exact q
 .have q:=lq h hf hr hc;rw[GZ,Az hc];exact AP.mono q fun _ _ ⟨e1,e2⟩=>⟨_,e1▸BM.tup (show Il [BE,vi _] [sl Ah [],vi _]from⟨BM.nil,BM.refl _,trivial⟩),rfl,e2⟩
theorem qc(l:List Rl)(hl:l.length<=256)(Ek:l≠[]):AP Tryz.prog 44 [sl Ah l] Ac fun r h'=>r=.slice (.id 2000 9) (l.map Ah)/\h'=Ai [(2000,.tok 9 (l.map Ah).length)] Ac:=by
 show AP Tryz.prog _ _ (Ai [] Ac) _;refine BO (LB C3) [(5,2000)] rfl Ck hm rfl func44 Wk rfl (Nz rfl) Wk rfl ?_;have FZ:Bi 9 (l.map Ah)/\([]:C0).length=0/\(([]:C0).length+(l.map Ah).length)*120<=140737488355328/\([]:C0).length+(l.map Ah).length<=9223372036854775807:=by
  refine⟨CJ (enc:=Ah) (n:=9) (fun _=>rfl) l,rfl,?_,?_⟩<;>simp only[AE,Lm]<;>omega
 refine Yi ?_ ?_
 .intro _;refine Yi FZ ?_;exact C2 (.refl _) ⟨rfl,Eq.trans (b:=Ai [(2000,.tok 9 (([]:C0).length+(l.map Ah).length))] Ac) rfl (by rw[AE,ET])⟩
 .intro h;have h:l.map Ah=[]:=h;exact absurd (D6.1 h) Ek
structure Bk where
 client:Nat
 ver:Ver
 enough:Bool
abbrev A9(b:Bk):List AV:=[vi ((b.client:Nat):Int),vi b.ver.a,vi b.ver.b,vi b.ver.c,vb b.enough]
def cN(b:Int)(c:Int)(v:Ver):Int:=if v.b=b then max c v.c else c
def FU(L:List Rl)(v:Ver)(n:Nat):Int:=((IE L).take n).foldl (cN v.b) v.c
def Xt:Int:=(IE (Xx x a.path)).foldl (cN v.b) v.c
def Kg:Ver:=⟨v.a,v.b,Xt x a v+1⟩
def sL:Rl:=⟨a.path,Kg x a w.rel.ver,w.rel.reqs,⟨#[]⟩,⟨#[]⟩,⟨#[]⟩,false⟩
def bB:List Rl:=GZ (sx++[sL x a w])
def Fq:Bk:=⟨w.client,Kg x a w.rel.ver,decide (DD (bB x sx a w) (cl.getD w.client [])=0)&&!has a.set (plc (Kg x a w.rel.ver))⟩
def Pi(x:List Rl)(a:Ad):List Wd->Int
 | []=>0
 |w::r=>if 999<Xt x a w.rel.ver+1 then 2 else Pi x a r
theorem l5{x:List Rl}{a:Ad}{l:List Wd}(h:i<l.length)(k:¬999<Xt x a l[i].rel.ver+1):Pi x a (l.drop i)=Pi x a (l.drop (i+1)):=by grind [List.drop_eq_getElem_cons,Pi]
theorem zp{x:List Rl}{a:Ad}{l:List Wd}(h:i<l.length)(k:999<Xt x a l[i].rel.ver+1):Pi x a (l.drop i)=2:=by grind [List.drop_eq_getElem_cons,Pi]
theorem gQ{L:List Rl}{v:Ver}(h:n<(IE L).length):FU L v (n+1)=cN v.b (FU L v n) (IE L)[n]:=by
 grind [FU,List.take_succ_eq_append_getElem]
theorem Y6{L:List Rl}{v:Ver}(h:(IE L).length<=n):FU L v n=(IE L).foldl (cN v.b) v.c:=by rw[FU,Au h]
theorem az{x sx:List Rl}{a:Ad}{w:Wd}:∀{l:List (List Rq)} {i:Nat},w∈Oj x sx a l i->i<=w.client/\w.client<i+l.length/\Ji x sx a (l.getD (w.client-i) [])=true/\w.rel=CH x a (l.getD (w.client-i) [])
 | [],i,h=>by cases h
 |q::l,i,h=>by
  have tail:w∈Oj x sx a l (i+1)->i<=w.client/\w.client<i+(q::l).length/\Ji x sx a ((q::l).getD (w.client-i) [])=true/\w.rel=CH x a ((q::l).getD (w.client-i) []):=fun h=>by
   obtain⟨h1,h2,h3,h4⟩:=az h<;>grind
  grind [Oj]
theorem ig{x:List Rl}{a:Ad}(h:DD x q=0)(hc:(Cf x q).any (Hg a)=true):CH x a q∈x/\(CH x a q).path=a.path/\AC x=0:=by
 obtain⟨k,hk,h1,h2⟩:=VL h hc;have h0:=(Lp h).2.2;rw[BQ,Az ch]at h2;have hm:=BA h2;have hp:=DV h2;have hp:=AW hp;refine⟨hm,?_,h0⟩;have e1:(CH x a q).path=(Cf x q)[k].path:=Aa Sl.path hp;rw[e1];have hi:Je (fg a) (Cf x q) 0=((k:Nat):Int):=h1;have E3:(Cf x q).findIdx (fg a)<(Cf x q).length:=by
  obtain⟨y,hy,hb⟩:=BC.1 hc;simp only[Hg,Am]at hb;exact List.findIdx_lt_length_of_exists ⟨y,hy,hb.1.2⟩
 grind [fg,Hh]
theorem zQ{x sx:List Rl}{a:Ad}{cl:List (List Rq)}{w:Wd}(h:w∈F2 x sx a cl):w.client<cl.length/\w.rel∈x/\w.rel.path=a.path/\AC x=0:=by
 obtain⟨_,h2,h3,h4⟩:=az h<;>grind [Ji,ig]
theorem zS{cl:List (List Rq)}(h:k<cl.length):(cl.map BD)[k]?=some (BD (cl.getD k [])):=by rw[BH,Ge h];simp[List.getD,h]
theorem ww{cl:List (List Rq)}(h:k<cl.length):cl.getD k []∈cl:=by
 have e:cl.getD k []=cl[k]:=by simp[List.getD,h]
 rw[e];exact Ae h
theorem UZ{sx:List Rl}{p:CS}{v:Ver}(h:∀r∈sx,CT r)(hp:ED p)(hq:∀z∈q,FA z):∀r∈sx++[(⟨p,v,q,⟨#[]⟩,⟨#[]⟩,⟨#[]⟩,false⟩:Rl)],CT r:=fun r hr=>by
 rcases Bh.1 hr with k | k
 .exact h r k
 .rw[AK.1 k];exact⟨hp,hq⟩
theorem sJ{sx:List Rl}{p:CS}{v:Ver}(h:∀r∈sx,r.reqs.length<=1000)(hq:q.length<=1000):∀r∈sx++[(⟨p,v,q,⟨#[]⟩,⟨#[]⟩,⟨#[]⟩,false⟩:Rl)],r.reqs.length<=1000:=fun r hr=>by
 rcases Bh.1 hr with k | k
 .exact h r k
 .rw[AK.1 k];exact hq
theorem iq{x:List Rl}(h:∀r∈x,CT r):∀r∈GZ x,CT r:=fun r hr=>by
 rw[GZ]at hr;split at hr
 .exact h r (La BU _ _ r hr)
 .cases hr
theorem xK{r:Rl}(h:CI r=0):0<=r.ver.c/\r.ver.c<=999:=by
 unfold CI at h;split at h
 .cases h
 .by_cases hv:Be r.ver=true
  .rw[Be]at hv;simp only[Am,Bd]at hv;exact hv.2
  .rw[Bool.not_eq_true]at hv;rw[hv]at h;exact absurd (show(2:Int)=0 from h) Cl
theorem Uk{b:Int}:∀(l:List Ver) (c:Int),(∀v∈l,0<=v.c/\v.c<=999)->0<=c/\c<=999->0<=l.foldl (cN b) c/\l.foldl (cN b) c<=999
 | [],c,_,h=>h
 |v::l,c,hl,h=>Uk l (cN b c v) (fun u hu=>hl u (Ao _ hu)) (by have q:=hl v (Af ..);unfold cN;split<;>omega)
theorem Ah9(WD:List Wd)(L:List Rl)(lz:L=Xx x a.path)(hx:G1 x)(lC:G1 sx)(hrs:∀r∈sx,r.reqs.length<=1000)(hrx:∀r∈x,r.reqs.length<=1000)(ha:FL a)(hl:BJ cl)(hcl:∀q∈cl,∀z∈q,FA z)(Ou:sx.length=x.length)(hW:∀w∈WD,w.client<cl.length/\w.rel∈x/\w.rel.path=a.path/\AC x=0)(hWl:BJ WD)(c1:(cl.any fun q=>!decide (AR q=0))=false)(lx:PC 62 [Fr x ifs,sl AM [a]] (.tup [Fr sx ifs,vi 0]))(h65:PC 65 [Fr x ifs,Fr sx ifs,.agg (AM a),sl BD cl] (sl Ca WD)):PC 31 [.agg (Ic x ifs),.agg (AM a),sl BD cl] (.tup [sl A9 (if Pi x a WD=0 then WD.map (Fq x sx a cl)else []),vi (Pi x a WD)]):=by
 have HX:x.length<=16:=hx.len;have KM:sx.length<=16:=lC.len;have AeG:L.length<=16:=by have q:=DI (fun r:Rl=>decide (r.path=a.path)) x;rw[lz];exact AH q HX
 have AkC:(IE L).length<=16:=by rw[IE,Lm];exact AeG
 have qD:∀w∈WD,∀j,FU L w.rel.ver j<=999/\0<=FU L w.rel.ver j:=fun w hw j=>by
  have h0:=(Hp.1 (hW w hw).2.2.2).2.1;have q:=Uk (b:=w.rel.ver.b) ((IE L).take j) w.rel.ver.c (fun v hv=>by obtain⟨r,hr,rfl⟩:=Ax.1 (Db hv);exact xK (h0 r (Dm.1 (lz▸hr)).1)) (xK (h0 _ (hW w hw).2.1));exact⟨q.2,q.1⟩
 refine Ps ⟨[3,4],[(10,5)],[],[],[],[],[],[],[(87,3)],[],[2,6,11,15,16,20,23,25,26,27]⟩ func31 rfl (Nz rfl) (yN (yN (C1 (C2 lx (yN (cU [(2,sl BD cl),(3,.ref 3 0),(4,.ref 4 0),(8,.ref 8 0),(9,vi 0)] [(3,.ro (Ic x ifs)),(4,.ro (AM a)),(8,.cells (Ic sx ifs))] Z5 Z3 (Yi (fun h=>absurd h Cl) (fun _=>?_))))))));refine AN (Bt (cl.any fun q=>!decide (AR q=0))) (fun h1=>?_) (fun h1=>?_)
 .refine C1 (C2 (cb h1 (fK cl hl hcl)) ?_);exact absurd (h1.symm.trans c1) Cl
 refine C1 (C2 (cb h1 (fK cl hl hcl)) (cU [(2,sl BD cl),(3,.ref 3 0),(4,.ref 4 0),(8,.ref 8 0)] [(3,.ro (Ic x ifs)),(4,.ro (AM a)),(8,.cells (Ic sx ifs))] Z4 Z3 (yN (yN (yN (C1 (C2 h65 (Xi {q:Nat // q<=WD.length/\Pi x a (WD.drop q)=Pi x a WD} (Xi (fun q=>⟨[(2,sl BD cl),(3,.ref 3 0),(4,.ref 4 0),(8,.ref 8 0),(10,.slice (.id 10 5) (((WD.take q.1).map (Fq x sx a cl)).map A9)),(37,sl Ca WD),(38,vi (WD.map Ca).length),(39,vi q.1)],[(3,.ro (Ic x ifs)),(4,.ro (AM a)),(8,.cells (Ic sx ifs)),(10,.tok 5 (((WD.take q.1).map (Fq x sx a cl)).map A9).length)],Ac⟩) (Xi (fun q=>WD.length-q.1) (Yi (Xi ⟨0,Al _,rfl⟩ ?_) ?_)))))))))))
 .exact⟨Z8,Z4,Fh,Tv⟩
 intro⟨i,i1,i2⟩;refine Yi (fun h3=>?_) (fun h3=>?_)
 .have h3:(i:Int)<((WD.map Ca).length:Int):=h3;have n3:=DK h3;refine Xi (Ca WD[i]) (Yi (FJ n3) (Yi rfl (yN (yN (yN (yN (cU [(2,sl BD cl),(3,.ref 3 0),(4,.ref 4 0),(8,.ref 8 0),(10,.slice (.id 10 5) (((WD.take i).map (Fq x sx a cl)).map A9)),(12,.ref 12 0),(13,.ref 13 0),(37,sl Ca WD),(38,vi (WD.map Ca).length),(39,vi i)] [(3,.ro (Ic x ifs)),(4,.ro (AM a)),(8,.cells (Ic sx ifs)),(10,.tok 5 (((WD.take i).map (Fq x sx a cl)).map A9).length),(12,.cells (Ca WD[i])),(13,.cells [vi WD[i].rel.ver.a,vi WD[i].rel.ver.b,vi WD[i].rel.ver.c])] Z10 Z6 (yN (C1 (C2 (yu x ifs a.path L lz hx.few (hW _ (Ae n3)).2.2.2 hx.len ⟨_,(hW _ (Ae n3)).2.1,(hW _ (Ae n3)).2.2.1⟩) (Xi {q:Nat // q<=(IE L).length} (Xi (fun q=>⟨[(2,sl BD cl),(3,.ref 3 0),(4,.ref 4 0),(8,.ref 8 0),(10,.slice (.id 10 5) (((WD.take i).map (Fq x sx a cl)).map A9)),(12,.ref 12 0),(13,.ref 13 0),(37,sl Ca WD),(38,vi (WD.map Ca).length),(39,vi i),(49,sl CC (IE L)),(50,vi ((IE L).map CC).length),(51,vi q.1)],[(3,.ro (Ic x ifs)),(4,.ro (AM a)),(8,.cells (Ic sx ifs)),(10,.tok 5 (((WD.take i).map (Fq x sx a cl)).map A9).length),(12,.cells (Ca WD[i])),(13,.cells [vi WD[i].rel.ver.a,vi WD[i].rel.ver.b,vi (FU L WD[i].rel.ver q.1)])],Ac⟩) (Xi (fun q=>(IE L).length-q.1) (Yi (Xi ⟨0,Al _⟩ ?_) ?_))))))))))))))
  .exact⟨Z13,Z6,Fh,Tv⟩
  intro⟨j,j1⟩;have j1:j<=(IE L).length:=j1;have jm:=qD WD[i] (Ae ch) j;refine Yi (fun h4=>?_) (fun h4=>?_)
  .have h4:(j:Int)<(((IE L).map CC).length:Int):=h4;have n4:=DK h4;refine Xi (CC ((IE L)[j])) (Yi (FJ n4) (Yi rfl (yN (yN (Yi (fun h5=>?_) (fun h5=>?_))))))
   .have h5:(((IE L)[j]).b:Int)=(WD[i].rel.ver.b:Int):=h5;refine cU [(2,sl BD cl),(3,.ref 3 0),(4,.ref 4 0),(8,.ref 8 0),(10,.slice (.id 10 5) (((WD.take i).map (Fq x sx a cl)).map A9)),(12,.ref 12 0),(13,.ref 13 0),(15,.ref 15 0),(37,sl Ca WD),(38,vi (WD.map Ca).length),(39,vi i),(49,sl CC (IE L)),(50,vi ((IE L).map CC).length),(51,vi j)] [(3,.ro (Ic x ifs)),(4,.ro (AM a)),(8,.cells (Ic sx ifs)),(10,.tok 5 (((WD.take i).map (Fq x sx a cl)).map A9).length),(12,.cells (Ca WD[i])),(13,.cells [vi WD[i].rel.ver.a,vi WD[i].rel.ver.b,vi (FU L WD[i].rel.ver j)]),(15,.cells (CC ((IE L)[j])))] ⟨Zr,Zr,Zr,Zr,Zr,Zr,Zr,Zr,Zr,Zr,Zr,Zr,Zr,Zr,Tv⟩ Z7 (yN (cU [(2,sl BD cl),(3,.ref 3 0),(4,.ref 4 0),(8,.ref 8 0),(10,.slice (.id 10 5) (((WD.take i).map (Fq x sx a cl)).map A9)),(12,.ref 12 0),(13,.ref 13 0),(37,sl Ca WD),(38,vi (WD.map Ca).length),(39,vi i),(49,sl CC (IE L)),(50,vi ((IE L).map CC).length),(51,vi j)] [(3,.ro (Ic x ifs)),(4,.ro (AM a)),(8,.cells (Ic sx ifs)),(10,.tok 5 (((WD.take i).map (Fq x sx a cl)).map A9).length),(12,.cells (Ca WD[i])),(13,.cells [vi WD[i].rel.ver.a,vi WD[i].rel.ver.b,vi (max (FU L WD[i].rel.ver j) ((IE L)[j]).c)])] Z13 Z6 (Yi (Ii j ch) (Xi ⟨j+1,n4⟩ ?_))));exact⟨by show(IE L).length-(j+1)<(IE L).length-j;omega,Z13,⟨Zr,Zr,Zr,Zr,Zr,⟨(show HO.cells [vi WD[i].rel.ver.a,vi WD[i].rel.ver.b,vi (max (FU L WD[i].rel.ver j) ((IE L)[j]).c)]=.cells [vi WD[i].rel.ver.a,vi WD[i].rel.ver.b,vi (FU L WD[i].rel.ver (j+1))] by rw[gQ n4,cN,Ay h5]),rfl⟩,Tv⟩,Fh,Tv⟩
   have h5:¬((((IE L)[j]).b:Int)=(WD[i].rel.ver.b:Int)):=h5;refine cU [(2,sl BD cl),(3,.ref 3 0),(4,.ref 4 0),(8,.ref 8 0),(10,.slice (.id 10 5) (((WD.take i).map (Fq x sx a cl)).map A9)),(12,.ref 12 0),(13,.ref 13 0),(37,sl Ca WD),(38,vi (WD.map Ca).length),(39,vi i),(49,sl CC (IE L)),(50,vi ((IE L).map CC).length),(51,vi j)] [(3,.ro (Ic x ifs)),(4,.ro (AM a)),(8,.cells (Ic sx ifs)),(10,.tok 5 (((WD.take i).map (Fq x sx a cl)).map A9).length),(12,.cells (Ca WD[i])),(13,.cells [vi WD[i].rel.ver.a,vi WD[i].rel.ver.b,vi (FU L WD[i].rel.ver j)])] Z13 Z6 (Yi (Ii j ch) (Xi ⟨j+1,n4⟩ ?_));exact⟨by show(IE L).length-(j+1)<(IE L).length-j;omega,Z13,⟨Zr,Zr,Zr,Zr,Zr,⟨(show HO.cells [vi WD[i].rel.ver.a,vi WD[i].rel.ver.b,vi (FU L WD[i].rel.ver j)]=.cells [vi WD[i].rel.ver.a,vi WD[i].rel.ver.b,vi (FU L WD[i].rel.ver (j+1))] by rw[gQ n4,cN,Az h5]),rfl⟩,Tv⟩,Fh,Tv⟩
  have h4:¬((j:Int)<(((IE L).map CC).length:Int)):=h4;have n4:=B5 h4;refine Yi (fun h8=>?_) (fun h8=>?_)
  .have h8:(256:Int)<=((x.map Ah).length:Int):=h8;exact absurd h8 (by rw[Lm];omega)
  have h8:¬((256:Int)<=((x.map Ah).length:Int)):=h8;refine Yi (by show Av (((FU L WD[i].rel.ver j):Int)+(1:Int));unfold Av;omega) ?_;refine yN (cU [(2,sl BD cl),(3,.ref 3 0),(4,.ref 4 0),(8,.ref 8 0),(10,.slice (.id 10 5) (((WD.take i).map (Fq x sx a cl)).map A9)),(12,.ref 12 0),(13,.ref 13 0),(37,sl Ca WD),(38,vi (WD.map Ca).length),(39,vi i)] [(3,.ro (Ic x ifs)),(4,.ro (AM a)),(8,.cells (Ic sx ifs)),(10,.tok 5 (((WD.take i).map (Fq x sx a cl)).map A9).length),(12,.cells (Ca WD[i])),(13,.cells [vi WD[i].rel.ver.a,vi WD[i].rel.ver.b,vi ((FU L WD[i].rel.ver j)+1)])] Z10 Z6 (Yi (fun gt=>?_) (fun gt=>?_)))
  .have gt:(999:Int)<((FU L WD[i].rel.ver j)+1:Int):=gt;have em:FU L WD[i].rel.ver j=Xt x a WD[i].rel.ver:=by rw[Xt,<-lz,Y6 (AO (B5 h4))]
   have eb:Pi x a WD=2:=by rw[<-i2,zp n3 ch]
   exact BM.trans (show BM _ (.tup [sl A9 [],vi 2])from BM.tup (show Il [BE,vi 2] [sl A9 [],vi 2]from⟨BM.nil,BM.refl _,trivial⟩)) (BM.of_eq (by rw[eb];rfl))
  have gt:¬((999:Int)<((FU L WD[i].rel.ver j)+1:Int)):=gt;refine yN (C1 (C2 (yA (⟨WD[i].rel.ver.a,WD[i].rel.ver.b,FU L WD[i].rel.ver j+1⟩:Ver)) (cU [(2,sl BD cl),(3,.ref 3 0),(4,.ref 4 0),(8,.ref 8 0),(10,.slice (.id 10 5) (((WD.take i).map (Fq x sx a cl)).map A9)),(12,.ref 12 0),(13,.ref 13 0),(16,vi (plc (⟨WD[i].rel.ver.a,WD[i].rel.ver.b,FU L WD[i].rel.ver j+1⟩:Ver))),(37,sl Ca WD),(38,vi (WD.map Ca).length),(39,vi i)] [(3,.ro (Ic x ifs)),(4,.ro (AM a)),(8,.cells (Ic sx ifs)),(10,.tok 5 (((WD.take i).map (Fq x sx a cl)).map A9).length),(12,.cells (Ca WD[i])),(13,.cells [vi WD[i].rel.ver.a,vi WD[i].rel.ver.b,vi ((FU L WD[i].rel.ver j)+1)])] Z11 Z6 (yN (yN (Xi _ (C2 Wk (Yi (qc sx (AH KM Cl) (fun e=>by have q:=List.length_pos_of_mem (hW _ (Ae n3)).2.1;rw[e]at Ou;exact absurd Ou (Nat.ne_of_lt q))) (yN ?_)))))))));have qx:Bi 9 [[vs a.path,vi WD[i].rel.ver.a,vi WD[i].rel.ver.b,vi ((FU L WD[i].rel.ver j)+1),sl As WD[i].rel.reqs,vs ⟨#[]⟩,vs ⟨#[]⟩,vs ⟨#[]⟩,vb false]]/\(sx.map Ah).length=(sx.map Ah).length/\((sx.map Ah).length+([[vs a.path,vi WD[i].rel.ver.a,vi WD[i].rel.ver.b,vi ((FU L WD[i].rel.ver j)+1),sl As WD[i].rel.reqs,vs ⟨#[]⟩,vs ⟨#[]⟩,vs ⟨#[]⟩,vb false]]:C0).length)*120<=140737488355328/\(sx.map Ah).length+([[vs a.path,vi WD[i].rel.ver.a,vi WD[i].rel.ver.b,vi ((FU L WD[i].rel.ver j)+1),sl As WD[i].rel.reqs,vs ⟨#[]⟩,vs ⟨#[]⟩,vs ⟨#[]⟩,vb false]]:C0).length<=9223372036854775807:=⟨⟨rfl,trivial⟩,rfl,(by simp only[Lm,AA,AE];omega),(by simp only[Lm,AA,AE];omega)⟩;refine Yi qx (C2 (show PC 43 [.slice .none ((sx.map Ah)++[[vs a.path,vi WD[i].rel.ver.a,vi WD[i].rel.ver.b,vi ((FU L WD[i].rel.ver j)+1),sl As WD[i].rel.reqs,vs ⟨#[]⟩,vs ⟨#[]⟩,vs ⟨#[]⟩,vb false]])] (.tup [sl Ah (GZ (sx++[(⟨a.path,(⟨WD[i].rel.ver.a,WD[i].rel.ver.b,FU L WD[i].rel.ver j+1⟩:Ver),WD[i].rel.reqs,⟨#[]⟩,⟨#[]⟩,⟨#[]⟩,false⟩:Rl)])),vi (AC (Dp BU ((sx++[(⟨a.path,(⟨WD[i].rel.ver.a,WD[i].rel.ver.b,FU L WD[i].rel.ver j+1⟩:Ver),WD[i].rel.reqs,⟨#[]⟩,⟨#[]⟩,⟨#[]⟩,false⟩:Rl)])).length ((sx++[(⟨a.path,(⟨WD[i].rel.ver.a,WD[i].rel.ver.b,FU L WD[i].rel.ver j+1⟩:Ver),WD[i].rel.reqs,⟨#[]⟩,⟨#[]⟩,⟨#[]⟩,false⟩:Rl)]))))]) by rw[<-show sl Ah ((sx++[(⟨a.path,(⟨WD[i].rel.ver.a,WD[i].rel.ver.b,FU L WD[i].rel.ver j+1⟩:Ver),WD[i].rel.reqs,⟨#[]⟩,⟨#[]⟩,⟨#[]⟩,false⟩:Rl)]))=.slice .none ((sx.map Ah)++[[vs a.path,vi WD[i].rel.ver.a,vi WD[i].rel.ver.b,vi ((FU L WD[i].rel.ver j)+1),sl As WD[i].rel.reqs,vs ⟨#[]⟩,vs ⟨#[]⟩,vs ⟨#[]⟩,vb false]])from(show AV.slice .none (List.map Ah ((sx++[(⟨a.path,(⟨WD[i].rel.ver.a,WD[i].rel.ver.b,FU L WD[i].rel.ver j+1⟩:Ver),WD[i].rel.reqs,⟨#[]⟩,⟨#[]⟩,⟨#[]⟩,false⟩:Rl)])))=_ by rw[AF];rfl)];exact ub (x:=(sx++[(⟨a.path,(⟨WD[i].rel.ver.a,WD[i].rel.ver.b,FU L WD[i].rel.ver j+1⟩:Ver),WD[i].rel.reqs,⟨#[]⟩,⟨#[]⟩,⟨#[]⟩,false⟩:Rl)])) (by rw[Ak];show sx.length+1<=19;omega) (UZ lC.few ha.path (hx.few _ (hW _ (Ae n3)).2.1).2) (sJ hrs (hrx _ (hW _ (Ae n3)).2.1))) ?_);refine yN (Yi Wk (cU [(2,sl BD cl),(3,.ref 3 0),(4,.ref 4 0),(8,.ref 8 0),(10,.slice (.id 10 5) (((WD.take i).map (Fq x sx a cl)).map A9)),(12,.ref 12 0),(13,.ref 13 0),(16,vi (plc (⟨WD[i].rel.ver.a,WD[i].rel.ver.b,FU L WD[i].rel.ver j+1⟩:Ver))),(18,.ref 18 0),(37,sl Ca WD),(38,vi (WD.map Ca).length),(39,vi i)] [(3,.ro (Ic x ifs)),(4,.ro (AM a)),(8,.cells (Ic sx ifs)),(10,.tok 5 (((WD.take i).map (Fq x sx a cl)).map A9).length),(12,.cells (Ca WD[i])),(13,.cells [vi WD[i].rel.ver.a,vi WD[i].rel.ver.b,vi ((FU L WD[i].rel.ver j)+1)]),(18,.cells [sl Ah (GZ (sx++[(⟨a.path,(⟨WD[i].rel.ver.a,WD[i].rel.ver.b,FU L WD[i].rel.ver j+1⟩:Ver),WD[i].rel.reqs,⟨#[]⟩,⟨#[]⟩,⟨#[]⟩,false⟩:Rl)])),.slice .none ifs])] Z12 Z7 (yN (Xi (BD (cl.getD WD[i].client [])) (Yi (Yi (OZ _) (zS (hW _ (Ae n3)).1)) (Yi rfl (C2 (s16 (GZ (sx++[(⟨a.path,(⟨WD[i].rel.ver.a,WD[i].rel.ver.b,FU L WD[i].rel.ver j+1⟩:Ver),WD[i].rel.reqs,⟨#[]⟩,⟨#[]⟩,⟨#[]⟩,false⟩:Rl)])) ifs (cl.getD WD[i].client []) (iq (UZ lC.few ha.path (hx.few _ (hW _ (Ae n3)).2.1).2)) (hcl _ (ww (hW _ (Ae n3)).1))) (Yi Wk (cU [(2,sl BD cl),(3,.ref 3 0),(4,.ref 4 0),(8,.ref 8 0),(10,.slice (.id 10 5) (((WD.take i).map (Fq x sx a cl)).map A9)),(12,.ref 12 0),(13,.ref 13 0),(16,vi (plc (⟨WD[i].rel.ver.a,WD[i].rel.ver.b,FU L WD[i].rel.ver j+1⟩:Ver))),(20,vi (DD (GZ (sx++[(⟨a.path,(⟨WD[i].rel.ver.a,WD[i].rel.ver.b,FU L WD[i].rel.ver j+1⟩:Ver),WD[i].rel.reqs,⟨#[]⟩,⟨#[]⟩,⟨#[]⟩,false⟩:Rl)])) (cl.getD WD[i].client []))),(37,sl Ca WD),(38,vi (WD.map Ca).length),(39,vi i)] [(3,.ro (Ic x ifs)),(4,.ro (AM a)),(8,.cells (Ic sx ifs)),(10,.tok 5 (((WD.take i).map (Fq x sx a cl)).map A9).length),(12,.cells (Ca WD[i])),(13,.cells [vi WD[i].rel.ver.a,vi WD[i].rel.ver.b,vi ((FU L WD[i].rel.ver j)+1)])] Z12 Z6 (yN (Yi (fun K9=>?_) (fun K9=>?_))))))))))))
  .have K9:((DD (GZ (sx++[(⟨a.path,(⟨WD[i].rel.ver.a,WD[i].rel.ver.b,FU L WD[i].rel.ver j+1⟩:Ver),WD[i].rel.reqs,⟨#[]⟩,⟨#[]⟩,⟨#[]⟩,false⟩:Rl)])) (cl.getD WD[i].client [])):Int)=(0:Int):=K9;refine AN (Bt (has a.set (plc (⟨WD[i].rel.ver.a,WD[i].rel.ver.b,FU L WD[i].rel.ver j+1⟩:Ver)))) (fun Sa=>?_) (fun Sa=>?_)
   .have Sa:(has a.set (plc (⟨WD[i].rel.ver.a,WD[i].rel.ver.b,FU L WD[i].rel.ver j+1⟩:Ver)))=true:=Sa;refine C2 (cb Sa (mg a.set (plc (⟨WD[i].rel.ver.a,WD[i].rel.ver.b,FU L WD[i].rel.ver j+1⟩:Ver)) ha.set)) ?_;have b15:Bi 5 [[vi ((WD[i].client:Nat):Int),vi WD[i].rel.ver.a,vi WD[i].rel.ver.b,vi ((FU L WD[i].rel.ver j)+1),vb false]]/\(((WD.take i).map (Fq x sx a cl)).map A9).length=(((WD.take i).map (Fq x sx a cl)).map A9).length/\((((WD.take i).map (Fq x sx a cl)).map A9).length+([[vi ((WD[i].client:Nat):Int),vi WD[i].rel.ver.a,vi WD[i].rel.ver.b,vi ((FU L WD[i].rel.ver j)+1),vb false]]:C0).length)*40<=140737488355328/\(((WD.take i).map (Fq x sx a cl)).map A9).length+([[vi ((WD[i].client:Nat):Int),vi WD[i].rel.ver.a,vi WD[i].rel.ver.b,vi ((FU L WD[i].rel.ver j)+1),vb false]]:C0).length<=9223372036854775807:=⟨⟨rfl,trivial⟩,rfl,(by simp only[Lm,AA,AE,AD];omega),(by simp only[Lm,AA,AE,AD];omega)⟩;refine Yi b15 (Yi Wk (cU [(2,sl BD cl),(3,.ref 3 0),(4,.ref 4 0),(8,.ref 8 0),(10,.slice (.id 10 5) ((((WD.take i).map (Fq x sx a cl)).map A9)++[[vi ((WD[i].client:Nat):Int),vi WD[i].rel.ver.a,vi WD[i].rel.ver.b,vi ((FU L WD[i].rel.ver j)+1),vb false]])),(37,sl Ca WD),(38,vi (WD.map Ca).length),(39,vi i)] [(3,.ro (Ic x ifs)),(4,.ro (AM a)),(8,.cells (Ic sx ifs)),(10,.tok 5 ((((WD.take i).map (Fq x sx a cl)).map A9).length+([[vi ((WD[i].client:Nat):Int),vi WD[i].rel.ver.a,vi WD[i].rel.ver.b,vi ((FU L WD[i].rel.ver j)+1),vb false]]:C0).length))] Z8 Z4 (Yi (Ii i ch) ?_)));have em:(⟨WD[i].rel.ver.a,WD[i].rel.ver.b,FU L WD[i].rel.ver j+1⟩:Ver)=Kg x a WD[i].rel.ver:=by rw[Kg,Xt,<-lz,Y6 (AO (B5 h4))]
    have eb:Fq x sx a cl WD[i]=⟨WD[i].client,⟨WD[i].rel.ver.a,WD[i].rel.ver.b,FU L WD[i].rel.ver j+1⟩,false⟩:=by rw[Fq,bB,sL,<-em];congr 1;rw[At K9,Sa];rfl
    have ew:((((WD.take i).map (Fq x sx a cl)).map A9)++[[vi ((WD[i].client:Nat):Int),vi WD[i].rel.ver.a,vi WD[i].rel.ver.b,vi ((FU L WD[i].rel.ver j)+1),vb false]])=(((WD.take (i+1)).map (Fq x sx a cl)).map A9):=by rw[DU n3,AF,AF];show _=_++[A9 (Fq x sx a cl WD[i])];rw[eb]
    refine Xi ⟨i+1,n3,by rw[<-i2,l5 n3 (by have q:=Aa Ver.c em;have q:FU L WD[i].rel.ver j+1=Xt x a WD[i].rel.ver+1:=q;omega)]⟩ ?_;exact⟨Dl WD.length i ch,⟨Zr,Zr,Zr,Zr,⟨(Aa (AV.slice (.id 10 5)) ew),rfl⟩,Zr,Zr,Zr,Tv⟩,⟨Zr,Zr,Zr,⟨(show HO.tok 5 ((((WD.take i).map (Fq x sx a cl)).map A9).length+([[vi ((WD[i].client:Nat):Int),vi WD[i].rel.ver.a,vi WD[i].rel.ver.b,vi ((FU L WD[i].rel.ver j)+1),vb false]]:C0).length)=.tok 5 (((WD.take (i+1)).map (Fq x sx a cl)).map A9).length from Aa (HO.tok 5) (Ak.symm.trans (Aa List.length ew))),rfl⟩,Tv⟩,Fh,Tv⟩
   have Sa:(has a.set (plc (⟨WD[i].rel.ver.a,WD[i].rel.ver.b,FU L WD[i].rel.ver j+1⟩:Ver)))=false:=Sa;refine C2 (cb Sa (mg a.set (plc (⟨WD[i].rel.ver.a,WD[i].rel.ver.b,FU L WD[i].rel.ver j+1⟩:Ver)) ha.set)) ?_;have b17:Bi 5 [[vi ((WD[i].client:Nat):Int),vi WD[i].rel.ver.a,vi WD[i].rel.ver.b,vi ((FU L WD[i].rel.ver j)+1),vb true]]/\(((WD.take i).map (Fq x sx a cl)).map A9).length=(((WD.take i).map (Fq x sx a cl)).map A9).length/\((((WD.take i).map (Fq x sx a cl)).map A9).length+([[vi ((WD[i].client:Nat):Int),vi WD[i].rel.ver.a,vi WD[i].rel.ver.b,vi ((FU L WD[i].rel.ver j)+1),vb true]]:C0).length)*40<=140737488355328/\(((WD.take i).map (Fq x sx a cl)).map A9).length+([[vi ((WD[i].client:Nat):Int),vi WD[i].rel.ver.a,vi WD[i].rel.ver.b,vi ((FU L WD[i].rel.ver j)+1),vb true]]:C0).length<=9223372036854775807:=⟨⟨rfl,trivial⟩,rfl,(by simp only[Lm,AA,AE,AD];omega),(by simp only[Lm,AA,AE,AD];omega)⟩;refine Yi b17 (Yi Wk (cU [(2,sl BD cl),(3,.ref 3 0),(4,.ref 4 0),(8,.ref 8 0),(10,.slice (.id 10 5) ((((WD.take i).map (Fq x sx a cl)).map A9)++[[vi ((WD[i].client:Nat):Int),vi WD[i].rel.ver.a,vi WD[i].rel.ver.b,vi ((FU L WD[i].rel.ver j)+1),vb true]])),(37,sl Ca WD),(38,vi (WD.map Ca).length),(39,vi i)] [(3,.ro (Ic x ifs)),(4,.ro (AM a)),(8,.cells (Ic sx ifs)),(10,.tok 5 ((((WD.take i).map (Fq x sx a cl)).map A9).length+([[vi ((WD[i].client:Nat):Int),vi WD[i].rel.ver.a,vi WD[i].rel.ver.b,vi ((FU L WD[i].rel.ver j)+1),vb true]]:C0).length))] Z8 Z4 (Yi (Ii i ch) ?_)));have em:(⟨WD[i].rel.ver.a,WD[i].rel.ver.b,FU L WD[i].rel.ver j+1⟩:Ver)=Kg x a WD[i].rel.ver:=by rw[Kg,Xt,<-lz,Y6 (AO (B5 h4))]
   have eb:Fq x sx a cl WD[i]=⟨WD[i].client,⟨WD[i].rel.ver.a,WD[i].rel.ver.b,FU L WD[i].rel.ver j+1⟩,true⟩:=by rw[Fq,bB,sL,<-em];congr 1;rw[At K9,Sa];rfl
   have ew:((((WD.take i).map (Fq x sx a cl)).map A9)++[[vi ((WD[i].client:Nat):Int),vi WD[i].rel.ver.a,vi WD[i].rel.ver.b,vi ((FU L WD[i].rel.ver j)+1),vb true]])=(((WD.take (i+1)).map (Fq x sx a cl)).map A9):=by rw[DU n3,AF,AF];show _=_++[A9 (Fq x sx a cl WD[i])];rw[eb]
   refine Xi ⟨i+1,n3,by rw[<-i2,l5 n3 (by have q:=Aa Ver.c em;have q:FU L WD[i].rel.ver j+1=Xt x a WD[i].rel.ver+1:=q;omega)]⟩ ?_;exact⟨Dl WD.length i ch,⟨Zr,Zr,Zr,Zr,⟨(Aa (AV.slice (.id 10 5)) ew),rfl⟩,Zr,Zr,Zr,Tv⟩,⟨Zr,Zr,Zr,⟨(show HO.tok 5 ((((WD.take i).map (Fq x sx a cl)).map A9).length+([[vi ((WD[i].client:Nat):Int),vi WD[i].rel.ver.a,vi WD[i].rel.ver.b,vi ((FU L WD[i].rel.ver j)+1),vb true]]:C0).length)=.tok 5 (((WD.take (i+1)).map (Fq x sx a cl)).map A9).length from Aa (HO.tok 5) (Ak.symm.trans (Aa List.length ew))),rfl⟩,Tv⟩,Fh,Tv⟩
  have K9:¬(((DD (GZ (sx++[(⟨a.path,(⟨WD[i].rel.ver.a,WD[i].rel.ver.b,FU L WD[i].rel.ver j+1⟩:Ver),WD[i].rel.reqs,⟨#[]⟩,⟨#[]⟩,⟨#[]⟩,false⟩:Rl)])) (cl.getD WD[i].client [])):Int)=(0:Int)):=K9;have b19:Bi 5 [[vi ((WD[i].client:Nat):Int),vi WD[i].rel.ver.a,vi WD[i].rel.ver.b,vi ((FU L WD[i].rel.ver j)+1),vb false]]/\(((WD.take i).map (Fq x sx a cl)).map A9).length=(((WD.take i).map (Fq x sx a cl)).map A9).length/\((((WD.take i).map (Fq x sx a cl)).map A9).length+([[vi ((WD[i].client:Nat):Int),vi WD[i].rel.ver.a,vi WD[i].rel.ver.b,vi ((FU L WD[i].rel.ver j)+1),vb false]]:C0).length)*40<=140737488355328/\(((WD.take i).map (Fq x sx a cl)).map A9).length+([[vi ((WD[i].client:Nat):Int),vi WD[i].rel.ver.a,vi WD[i].rel.ver.b,vi ((FU L WD[i].rel.ver j)+1),vb false]]:C0).length<=9223372036854775807:=⟨⟨rfl,trivial⟩,rfl,(by simp only[Lm,AA,AE,AD];omega),(by simp only[Lm,AA,AE,AD];omega)⟩;refine Yi b19 (Yi Wk (cU [(2,sl BD cl),(3,.ref 3 0),(4,.ref 4 0),(8,.ref 8 0),(10,.slice (.id 10 5) ((((WD.take i).map (Fq x sx a cl)).map A9)++[[vi ((WD[i].client:Nat):Int),vi WD[i].rel.ver.a,vi WD[i].rel.ver.b,vi ((FU L WD[i].rel.ver j)+1),vb false]])),(37,sl Ca WD),(38,vi (WD.map Ca).length),(39,vi i)] [(3,.ro (Ic x ifs)),(4,.ro (AM a)),(8,.cells (Ic sx ifs)),(10,.tok 5 ((((WD.take i).map (Fq x sx a cl)).map A9).length+([[vi ((WD[i].client:Nat):Int),vi WD[i].rel.ver.a,vi WD[i].rel.ver.b,vi ((FU L WD[i].rel.ver j)+1),vb false]]:C0).length))] Z8 Z4 (Yi (Ii i ch) ?_)));have em:(⟨WD[i].rel.ver.a,WD[i].rel.ver.b,FU L WD[i].rel.ver j+1⟩:Ver)=Kg x a WD[i].rel.ver:=by rw[Kg,Xt,<-lz,Y6 (AO (B5 h4))]
  have eb:Fq x sx a cl WD[i]=⟨WD[i].client,⟨WD[i].rel.ver.a,WD[i].rel.ver.b,FU L WD[i].rel.ver j+1⟩,false⟩:=by rw[Fq,bB,sL,<-em];congr 1;rw[Aj K9];rfl
  have ew:((((WD.take i).map (Fq x sx a cl)).map A9)++[[vi ((WD[i].client:Nat):Int),vi WD[i].rel.ver.a,vi WD[i].rel.ver.b,vi ((FU L WD[i].rel.ver j)+1),vb false]])=(((WD.take (i+1)).map (Fq x sx a cl)).map A9):=by rw[DU n3,AF,AF];show _=_++[A9 (Fq x sx a cl WD[i])];rw[eb]
  refine Xi ⟨i+1,n3,by rw[<-i2,l5 n3 (by have q:=Aa Ver.c em;have q:FU L WD[i].rel.ver j+1=Xt x a WD[i].rel.ver+1:=q;omega)]⟩ ?_;exact⟨Dl WD.length i ch,⟨Zr,Zr,Zr,Zr,⟨(Aa (AV.slice (.id 10 5)) ew),rfl⟩,Zr,Zr,Zr,Tv⟩,⟨Zr,Zr,Zr,⟨(show HO.tok 5 ((((WD.take i).map (Fq x sx a cl)).map A9).length+([[vi ((WD[i].client:Nat):Int),vi WD[i].rel.ver.a,vi WD[i].rel.ver.b,vi ((FU L WD[i].rel.ver j)+1),vb false]]:C0).length)=.tok 5 (((WD.take (i+1)).map (Fq x sx a cl)).map A9).length from Aa (HO.tok 5) (Ak.symm.trans (Aa List.length ew))),rfl⟩,Tv⟩,Fh,Tv⟩
 have h3:¬((i:Int)<((WD.map Ca).length:Int)):=h3;have n3:=B5 h3;have eb:Pi x a WD=0:=by rw[<-i2,Bq (AO (B5 h3))];rfl
 exact BM.of_eq (show AV.tup [sl A9 ((WD.take i).map (Fq x sx a cl)),vi 0]=_ by rw[eb,Ay rfl,Au (AO (B5 h3))])
theorem AbW(c0:¬NH x [a]=0)(lx:PC 62 [Fr x ifs,sl AM [a]] (.tup [.agg [BE,BE],vi (NH x [a])])):PC 31 [.agg (Ic x ifs),.agg (AM a),sl BD cl] (.tup [sl A9 [],vi (NH x [a])]):=by
 refine Ps (pT [3,4] [(10,5)] [2,6,11,15,16,20,23,25,26,27]) func31 rfl (Nz rfl) (yN (yN (C1 (C2 lx (yN (cU [(2,sl BD cl),(3,.ref 3 0),(4,.ref 4 0),(8,.ref 8 0),(9,vi (NH x [a]))] [(3,.ro (Ic x ifs)),(4,.ro (AM a)),(8,.cells [BE,BE])] Z5 Z3 (Yi (fun h1=>?_) (fun h1=>?_))))))))
 .have h1:((NH x [a]):Int)≠(0:Int):=h1;exact BM.tup (show Il [BE,vi (NH x [a])] [sl A9 [],vi (NH x [a])]from⟨BM.nil,BM.refl _,trivial⟩)
 have h1:((NH x [a]):Int)=(0:Int):=Aq h1;exact absurd h1 c0
theorem x9(hl:BJ cl)(hcl:∀q∈cl,∀z∈q,FA z)(c1:(cl.any fun q=>!decide (AR q=0))=true)(lx:PC 62 [Fr x ifs,sl AM [a]] (.tup [Fr sx ifs,vi 0])):PC 31 [.agg (Ic x ifs),.agg (AM a),sl BD cl] (.tup [sl A9 [],vi 1]):=by
 refine Ps (pT [3,4] [(10,5)] [2,6,11,15,16,20,23,25,26,27]) func31 rfl (Nz rfl) (yN (yN (C1 (C2 lx (yN (cU [(2,sl BD cl),(3,.ref 3 0),(4,.ref 4 0),(8,.ref 8 0),(9,vi 0)] [(3,.ro (Ic x ifs)),(4,.ro (AM a)),(8,.cells (Ic sx ifs))] Z5 Z3 (Yi (fun h=>absurd h Cl) (fun _=>?_))))))));refine C1 (C2 (c1▸fK cl hl hcl) ?_);exact BM.tup (show Il [BE,vi 1] [sl A9 [],vi 1]from⟨BM.nil,BM.refl _,trivial⟩)
abbrev ip:List Rl:=yk true (IT [a]) x
def cJ:Int:=if NH x [a]=0 then if(cl.any fun q=>!decide (AR q=0))=true then 1 else Pi x a (F2 x (ip x a) a cl)else NH x [a]
def fU:List Bk:=if cJ x a cl=0 then(F2 x (ip x a) a cl).map (Fq x (ip x a) a cl)else []
theorem Aco{y:Bool}{p:Sl->Bool}{x:List Rl}(h:∀r∈x,r.reqs.length<=n):∀r∈yk y p x,r.reqs.length<=n:=qw fun r hr=>⟨h r hr,h r hr⟩
theorem p9(hx:G1 x)(hrx:∀r∈x,r.reqs.length<=1000)(ha:FL a)(hl:BJ cl)(hcl:∀q∈cl,∀z∈q,FA z)(uF:PC 103 [.slice .none ifs] (.slice .none ifs)) :
  PC 31 [Fr x ifs,.agg (AM a),sl BD cl] (.tup [sl A9 (fU x a cl),vi (cJ x a cl)]):=by
 have lx:=yo x ifs [a] hx.to19 hrx (show [a].length<=1073741824 from(Nz rfl)) (fun b hb=>by rw[AK.1 hb];exact ha) uF;rw[pG]at lx
 by_cases c0:NH x [a]=0
 .rw[Ay c0]at lx;have lC:G1 (ip x a):=⟨by rw[RH];exact hx.len,iN hx.few⟩;cases c1:cl.any fun q=>!decide (AR q=0)with
  |true=>
   have q:=x9 x (ip x a) ifs a cl hl hcl c1 lx;have e:cJ x a cl=1:=by rw[cJ,Ay c0,Ay c1]
   rw[fU,e];exact q
  |false=>
   have q:=Ah9 x (ip x a) ifs a cl (F2 x (ip x a) a cl) _ rfl hx lC (Aco hrx) hrx ha hl hcl RH (fun w hw=>zQ hw) (AH (ML ..) hl) c1 lx (yh x (ip x a) ifs a cl hx.few lC.few hx.len ha.set hl hcl);have e:cJ x a cl=Pi x a (F2 x (ip x a) a cl):=by rw[cJ,Ay c0,Az (by rw[c1];exact B7)]
   rw[fU,e];exact q
 .rw[Az c0]at lx;have q:=AbW x ifs a cl c0 lx;have e:cJ x a cl=NH x [a]:=by rw[cJ,Az c0]
  rw[fU,e,Az c0];exact q
deriving instance DecidableEq for Bk
theorem uz{x y:Bk}:qy (A9 x) (A9 y)↔x=y:=by
 obtain⟨c,⟨a1,a2,a3⟩,e⟩:=x;obtain⟨c',⟨b1,b2,b3⟩,e'⟩:=y;constructor
 .intro h;have h:((c:Nat):Int)=(c' : Nat)/\a1=b1/\a2=b2/\a3=b3/\e=e'/\True:=h;obtain⟨h1,h2,h3,h4,h5,_⟩:=h;rw[Int.natCast_inj.1 h1,h2,h3,h4,h5]
 .intro h;cases h;exact⟨rfl,rfl,rfl,rfl,rfl,trivial⟩
theorem z33(l m:List (Bk))(hl:BJ l):PC 33 [sl A9 l,sl A9 m] (vb (decide (l=m))):=by
 refine Ps C3 func33 rfl (Nz rfl) (Yi ?_ ?_)
 .intro h;have h:¬((l.map A9).length:Int)=(m.map A9).length:=h
  have:l≠m:=fun e=>h (by rw[e])
  rw[Aj this];exact .refl _
 .intro h;have h:¬((l.map A9).length:Int)≠(m.map A9).length:=h;have Dd:l.length=m.length:=by simp at h;omega
  refine Xi {i:Nat // i<=l.length/\l.take i=m.take i} (Xi (fun i=>⟨[(0,sl A9 l),(1,sl A9 m),(12,vi (l.map A9).length),(13,vi i.1)],[],Ac⟩) (Xi (fun i=>l.length-i.1) (Yi (Xi ⟨0,by simp⟩ ?_) ?_)))
  .exact⟨Z4,Tv,Fh,Tv⟩
  .intro⟨i,h1,h2⟩;refine Yi ?_ ?_
   .intro h;have h:(i:Int)<(l.map A9).length:=h;have h:i<l.length:=by simpa using h
    have h' : i<m.length:=by omega
    have hg:l[i]?=some l[i]:=Ge h;have nD : m[i]?=some m[i]:=Ge h';refine Xi (A9 l[i]) (Yi (Yi (Nn i) (by simp[hg])) (Yi rfl (yN ?_)));refine Xi (A9 m[i]) (Yi (Yi (Nn i) (by simp[nD])) (Yi rfl (yN ?_)));refine Yi ?_ ?_
    .intro h5;have e:l[i]=m[i]:=uz.1 h5;refine Yi Wk (Yi (by show Av ((i:Int)+1);unfold BJ at hl;unfold Av;omega) (Xi ⟨i+1,by omega,?_⟩ ?_))
     .rw[Dr,Dr,h2,hg,nD,e]
     .exact⟨Dl l.length i ch,Z4,Tv,Fh,Tv⟩
    .intro h5;refine Yi Wk ?_
     have:l≠m:=fun e=>h5 (uz.2 (by subst e;rfl))
     rw[Aj this];exact .refl _
   .intro h;have h:¬(i:Int)<(l.map A9).length:=h;have h:¬i<l.length:=by simpa using h
    have e:l=m:=by
     rw[<-Au (l:=l) (i:=i) ch,h2,Au ch]
    rw[At e];exact .refl _
def Mk:Bool:=!(decide (100<a.id.size)||(decide (100<a.path.size)||(decide (8<a.set.length)||((decide (12<a.syms.length)&&decide (a.syms.length<=1024))||(decide (100<a.note.size)&&decide (a.note.size<=65536))))))
def Ij(l:List Ad):Bool:=l.all Mk&&decide (l.length<=5)
theorem tU(l:List Ad)(hl:BJ l)(_hal:∀a∈l,FL a):PC 27 [sl AM l] (vb (Ij l)):=by
 refine Ps (pC [4] [3,6]) func27 rfl (Nz rfl) (Xi {q:Nat // q<=l.length/\∀j (hj:j<l.length),j<q->Mk l[j]=true} (Xi (fun q=>⟨[(0,sl AM l),(3,vi q.1)],[],Ac⟩) (Xi (fun q=>l.length-q.1) (Yi (Xi ⟨0,Al _,fun _ _ h=>absurd h (DB _)⟩ ?_) ?_))))
 .exact⟨Z2,Tv,Fh,Tv⟩
 intro⟨i,i1,i2⟩;refine Yi (fun h1=>?_) (fun h1=>?_)
 .have h1:(i:Int)<((l.map AM).length:Int):=h1;have n1:=DK h1;refine Xi (AM l[i]) (Yi (FJ n1) (Yi rfl (yN (yN (Yi (fun h2=>?_) (fun h2=>?_))))))
  .have h2:(100:Int)<(l[i].id.size:Int):=h2;refine cU [] [] Tv Tv ?_
   exact BM.of_eq (Aa vb (show false=Ij l by rw[Ij,TC n1 (show Mk l[i]=false by rw[Mk,At (p:=100<l[i].id.size) (by have q:=h2;omega)];simp),KT]))
  have h2:¬((100:Int)<(l[i].id.size:Int)):=h2;refine Yi (fun h4=>?_) (fun h4=>?_)
  .have h4:(100:Int)<(l[i].path.size:Int):=h4;refine cU [] [] Tv Tv ?_
   exact BM.of_eq (Aa vb (show false=Ij l by rw[Ij,TC n1 (show Mk l[i]=false by rw[Mk,Aj (p:=100<l[i].id.size) (by have q:=h2;omega),At (p:=100<l[i].path.size) (by have q:=h4;omega)];simp),KT]))
  have h4:¬((100:Int)<(l[i].path.size:Int)):=h4;refine Yi (fun h6=>?_) (fun h6=>?_)
  .have h6:(8:Int)<((l[i].set.map Ag).length:Int):=h6;have n6:8<l[i].set.length:=by have q:=h6;rw[Lm]at q;omega
   refine cU [] [] Tv Tv ?_
   exact BM.of_eq (Aa vb (show false=Ij l by rw[Ij,TC n1 (show Mk l[i]=false by rw[Mk,Aj (p:=100<l[i].id.size) (by have q:=h2;omega),Aj (p:=100<l[i].path.size) (by have q:=h4;omega),At (p:=8<l[i].set.length) (by have q:=h6;rw[Lm]at q;omega)];simp),KT]))
  have h6:¬((8:Int)<((l[i].set.map Ag).length:Int)):=h6;have n6:¬8<l[i].set.length:=by have q:=h6;rw[Lm]at q;omega
  refine Yi (fun h8=>?_) (fun h8=>?_)
  .have h8:(12:Int)<((l[i].syms.map Ar).length:Int):=h8;have n8:12<l[i].syms.length:=by have q:=h8;rw[Lm]at q;omega
   refine Yi (fun h9=>?_) (fun h9=>?_)
   .have h9:((l[i].syms.map Ar).length:Int)<=(1024:Int):=h9;refine cU [] [] Tv Tv ?_
    exact BM.of_eq (Aa vb (show false=Ij l by rw[Ij,TC n1 (show Mk l[i]=false by rw[Mk,Aj (p:=100<l[i].id.size) (by have q:=h2;omega),Aj (p:=100<l[i].path.size) (by have q:=h4;omega),Aj (p:=8<l[i].set.length) (by have q:=h6;rw[Lm]at q;omega),At (p:=12<l[i].syms.length) (by have q:=h8;rw[Lm]at q;omega),At (p:=l[i].syms.length<=1024) (by have q:=h9;rw[Lm]at q;omega)];simp),KT]))
   have h9:¬(((l[i].syms.map Ar).length:Int)<=(1024:Int)):=h9;refine Yi (fun FH=>?_) (fun FH=>?_)
   .have FH:(100:Int)<(l[i].note.size:Int):=FH;refine Yi (fun WX=>?_) (fun WX=>?_)
    .have WX:(l[i].note.size:Int)<=(65536:Int):=WX;refine cU [] [] Tv Tv ?_
     exact BM.of_eq (Aa vb (show false=Ij l by rw[Ij,TC n1 (show Mk l[i]=false by rw[Mk,Aj (p:=100<l[i].id.size) (by have q:=h2;omega),Aj (p:=100<l[i].path.size) (by have q:=h4;omega),Aj (p:=8<l[i].set.length) (by have q:=h6;rw[Lm]at q;omega),At (p:=12<l[i].syms.length) (by have q:=h8;rw[Lm]at q;omega),Aj (p:=l[i].syms.length<=1024) (by have q:=h9;rw[Lm]at q;omega),At (p:=100<l[i].note.size) (by have q:=FH;omega),At (p:=l[i].note.size<=65536) (by have q:=WX;omega)];simp),KT]))
    have WX:¬((l[i].note.size:Int)<=(65536:Int)):=WX;refine cU [(0,sl AM l),(3,vi i)] [] Z2 Tv (Yi (Ii i ch) ?_);refine Xi ⟨i+1,n1,fun j hj FI=>by
      rcases B2 j i with e | e
      .exact i2 j hj e
      .have e:j=i:=by omega
       subst e;rw[Mk,Aj (p:=100<l[j].id.size) (by have q:=h2;omega),Aj (p:=100<l[j].path.size) (by have q:=h4;omega),Aj (p:=8<l[j].set.length) (by have q:=h6;rw[Lm]at q;omega),At (p:=12<l[j].syms.length) (by have q:=h8;rw[Lm]at q;omega),Aj (p:=l[j].syms.length<=1024) (by have q:=h9;rw[Lm]at q;omega),At (p:=100<l[j].note.size) (by have q:=FH;omega),Aj (p:=l[j].note.size<=65536) (by have q:=WX;omega)];simp⟩ ?_
    exact⟨Dl l.length i ch,Z2,Tv,Fh,Tv⟩
   have FH:¬((100:Int)<(l[i].note.size:Int)):=FH;refine cU [(0,sl AM l),(3,vi i)] [] Z2 Tv (Yi (Ii i ch) ?_);refine Xi ⟨i+1,n1,fun j hj FI=>by
     rcases B2 j i with e | e
     .exact i2 j hj e
     .have e:j=i:=by omega
      subst e;rw[Mk,Aj (p:=100<l[j].id.size) (by have q:=h2;omega),Aj (p:=100<l[j].path.size) (by have q:=h4;omega),Aj (p:=8<l[j].set.length) (by have q:=h6;rw[Lm]at q;omega),At (p:=12<l[j].syms.length) (by have q:=h8;rw[Lm]at q;omega),Aj (p:=l[j].syms.length<=1024) (by have q:=h9;rw[Lm]at q;omega),Aj (p:=100<l[j].note.size) (by have q:=FH;omega)];simp⟩ ?_
   exact⟨Dl l.length i ch,Z2,Tv,Fh,Tv⟩
  have h8:¬((12:Int)<((l[i].syms.map Ar).length:Int)):=h8;have n8:¬12<l[i].syms.length:=by have q:=h8;rw[Lm]at q;omega
  refine Yi (fun Ha=>?_) (fun Ha=>?_)
  .have Ha:(100:Int)<(l[i].note.size:Int):=Ha;refine Yi (fun rM=>?_) (fun rM=>?_)
   .have rM:(l[i].note.size:Int)<=(65536:Int):=rM;refine cU [] [] Tv Tv ?_
    exact BM.of_eq (Aa vb (show false=Ij l by rw[Ij,TC n1 (show Mk l[i]=false by rw[Mk,Aj (p:=100<l[i].id.size) (by have q:=h2;omega),Aj (p:=100<l[i].path.size) (by have q:=h4;omega),Aj (p:=8<l[i].set.length) (by have q:=h6;rw[Lm]at q;omega),Aj (p:=12<l[i].syms.length) (by have q:=h8;rw[Lm]at q;omega),At (p:=100<l[i].note.size) (by have q:=Ha;omega),At (p:=l[i].note.size<=65536) (by have q:=rM;omega)];simp),KT]))
   have rM:¬((l[i].note.size:Int)<=(65536:Int)):=rM;refine cU [(0,sl AM l),(3,vi i)] [] Z2 Tv (Yi (Ii i ch) ?_);refine Xi ⟨i+1,n1,fun j hj FI=>by
     rcases B2 j i with e | e
     .exact i2 j hj e
     .have e:j=i:=by omega
      subst e;rw[Mk,Aj (p:=100<l[j].id.size) (by have q:=h2;omega),Aj (p:=100<l[j].path.size) (by have q:=h4;omega),Aj (p:=8<l[j].set.length) (by have q:=h6;rw[Lm]at q;omega),Aj (p:=12<l[j].syms.length) (by have q:=h8;rw[Lm]at q;omega),At (p:=100<l[j].note.size) (by have q:=Ha;omega),Aj (p:=l[j].note.size<=65536) (by have q:=rM;omega)];simp⟩ ?_
   exact⟨Dl l.length i ch,Z2,Tv,Fh,Tv⟩
  have Ha:¬((100:Int)<(l[i].note.size:Int)):=Ha;refine cU [(0,sl AM l),(3,vi i)] [] Z2 Tv (Yi (Ii i ch) ?_);refine Xi ⟨i+1,n1,fun j hj FI=>by
    rcases B2 j i with e | e
    .exact i2 j hj e
    .have e:j=i:=by omega
     subst e;rw[Mk,Aj (p:=100<l[j].id.size) (by have q:=h2;omega),Aj (p:=100<l[j].path.size) (by have q:=h4;omega),Aj (p:=8<l[j].set.length) (by have q:=h6;rw[Lm]at q;omega),Aj (p:=12<l[j].syms.length) (by have q:=h8;rw[Lm]at q;omega),Aj (p:=100<l[j].note.size) (by have q:=Ha;omega)];simp⟩ ?_
  exact⟨Dl l.length i ch,Z2,Tv,Fh,Tv⟩
 have h1:¬((i:Int)<((l.map AM).length:Int)):=h1;have n1:=B5 h1;refine Yi (fun cK=>?_) (fun cK=>?_)
 .have cK:((l.map AM).length:Int)<=(5:Int):=cK;exact BM.of_eq (Aa vb (show true=Ij l by rw[Ij,da i2 (AO (B5 h1)),At (by have q:=cK;rw[Lm]at q;omega)];rfl))
 have cK:¬(((l.map AM).length:Int)<=(5:Int)):=cK;exact BM.of_eq (Aa vb (show false=Ij l by rw[Ij,da i2 (AO (B5 h1)),Aj (by have q:=cK;rw[Lm]at q;omega)];rfl))
theorem Ac6(q:List Rq)(hq:BJ q):PC 29 [sl As q] (vb (!Et q)):=by
 refine Ps C3 func29 rfl (Nz rfl) (AN (Bt (Et q)) (fun h1=>?_) (fun h1=>?_))
 .refine C1 (C2 (cb h1 (c35 q hq)) ?_);exact BM.of_eq (Aa vb (show false=!Et q by rw[h1];rfl))
 refine C1 (C2 (cb h1 (c35 q hq)) ?_);exact BM.of_eq (Aa vb (show true=!Et q by rw[h1];rfl))
theorem x8(hl:BJ cl)(h:∀q∈cl,BJ q):PC 28 [sl BD cl,.v (.func (.func 29) #[] #[])] (vb (cl.any fun q=>!Et q)):=
 (z28 (fF:=29) Ch.nil cl (fun q=>!Et q) (fun q hq=>Ac6 q (h q hq)) hl).args ⟨.refl _,BM.fn 29,trivial⟩
theorem z39(hs:Ch caps)(l:List (Bk))(p:Bk->Bool)(hF:∀x∈l,PC fF ([.agg (A9 x)]++caps) (vb (p x)))(hl:l.length<9223372036854775807) :
  PC 39 [sl A9 l,.clo fF caps] (vi (Je p l 0)):=by
 refine Ps C3 func39 rfl (Nz rfl) (Xi {i:Nat // i<=l.length/\∀j (hj:j<l.length),j<i->p l[j]=false} (Xi (fun i=>⟨[(0,sl A9 l),(1,.clo fF caps),(7,vi (l.map A9).length),(8,vi i.1)],[],Ac⟩) (Xi (fun i=>l.length-i.1) (Yi (Xi ⟨0,by simp⟩ ?_) ?_))))
 .exact⟨⟨Zr,⟨rfl,hs.ids _⟩,Zr,Zr,Tv⟩,Tv,Fh,Tv⟩
 .intro⟨i,h1,h2⟩;refine Yi ?_ ?_
  .intro h;have h:i<l.length:=by simpa using h
   have hg:l[i]?=some l[i]:=Ge h;refine Xi (A9 l[i]) (Yi (Yi (Nn i) (by simp[hg])) (Yi rfl (yN ?_)));have BV:∀h,PC fF ([.agg (A9 l[i])]++caps.map (str0 h)) (vb (p l[i])):=fun h=>by rw[hs.map];exact hF l[i] (Ae _)
   cases hp:p l[i]with
   |true=>
    rw[hp]at BV;refine Xi .pure (Xi (vb true) (Yi (BV _) ?_));rw[Hh h (fun j hj FI=>h2 j hj FI) hp,Em];exact .refl _
   |false=>
    rw[hp]at BV;refine Xi .pure (Xi (vb false) (Yi (BV _) (Yi (Ii i ch) (Xi ⟨i+1,by omega,fun j hj FI=>?_⟩ ?_))))
    .by_cases e:j=i
     .subst e;exact hp
     .exact h2 j hj ch
    .exact⟨Dl l.length i ch,⟨Zr,⟨rfl,hs.ids _⟩,Zr,Zr,Tv⟩,Tv,Fh,Tv⟩
  .intro h;have h:¬i<l.length:=by simpa using h
   rw[F3 fun j hj=>h2 j hj ch];exact .refl _
end Go.Eng
