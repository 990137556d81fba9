/- Lemmas 20. -/
import Derived.Test.YtjhkbdgingfbaaaGreatDoorGA19
import Derived.Shelf.Strings.Cut
import Derived.Shelf.Strconv.AtoiAll
import Derived.Shelf.Small.Strs
import Derived.Shelf.GgClosure.StringsIndexFuncTop
import Derived.Shelf.Strings.Builder1
import Derived.Room.Shelf.Join48
import Derived.Ground.NamesProg
import Derived.Ground.GgwProg
import Derived.Lib.SmallJoins
import Derived.Lib.AppendIntMem
import Derived.Lib.ItoaLen
import Derived.Lib.ItoaMem
set_option maxHeartbeats 4000000
namespace Go.Eng
open Go.Proofs
variable {cs:List AV}{fF:Nat}(l a b:List Sl)(p:Sl->Bool)
theorem qC(hF:∀x∈l,PC fF [.agg (Ag x),.cptr cs] (vb (p x)))(hl:CC l):BL Tryz.prog 151 [.msl 1000 l.length,.clo fF [.cptr cs]] (AC [(1000,.arr 4 (l.map Ag))] Ao) fun r h'=>r=vi (Hw p l 0)/\h'=AC [(1000,HO.arr 4 (l.map Ag))] Ao:=by
 have hl:l.length<=1073741824:=hl;refine DK (Wd Dj) [(1000,1000)] rfl DZ hm rfl Tryz.func151 sT rfl (Nz rfl) sT rfl (Xi {q:Nat // q<=l.length/\∀j (hj:j<l.length),j<q->p l[j]=false} (Xi (fun q=>⟨[(0,.msl 1000 l.length),(1,.clo fF [.cptr cs]),(7,vi l.length),(8,vi q.1)],[(1000,.arr 4 (l.map Ag))],Ao⟩) (Xi (fun q=>l.length-q.1) (Yi (Xi ⟨0,Ar _,fun _ _ h=>absurd h (Dr _)⟩ ?_) ?_))))
 .exact⟨Z4,Z1,Fh,ED sT⟩
 intro⟨i,i1,i2⟩;have i1:i<=l.length:=i1;have i2:∀j (hj:j<l.length),j<i->p l[j]=false:=i2;refine Yi (fun h1=>?_) (fun h1=>?_)
 .have h1:(i:Int)<(l.length:Int):=h1;have n1:i<l.length:=by omega
  have g1:l[i]?=some l[i]:=Ge n1;refine Yi (by show(0:Int)<=i/\(i:Int)<(l.length:Nat);omega) (Yi (show l.length=(l.map Ag).length by rw[Lm]) (Xi (Ag l[i]) (Yi (CQ g1) (yN (Bn (Bt (p l[i])) (fun h2=>?_) (fun h2=>?_))))))
  .have h2:(p l[i])=true:=h2;refine Xi .pure (Xi _ (Yi (cb h2 (hF l[i] (Af n1))) ?_));exact Xi _ (Yi (.refl _) ⟨show vi i=vi (Hw p l 0) by rw[Ip n1 (fun j hj Gn=>i2 j hj Gn) h2,Gr],rfl⟩)
  have h2:(p l[i])=false:=h2;refine Xi .pure (Xi _ (Yi (cb h2 (hF l[i] (Af n1))) (Yi (Ii i sP) ?_)));refine Xi ⟨i+1,n1,fun j hj Gn=>if e:j<i then i2 j hj e else by
    have e:j=i:=by omega
    subst e;exact h2⟩ ?_
  exact⟨Dl l.length i sP,Z4,Z1,Fh,ED sT⟩
 have h1:¬((i:Int)<(l.length:Int)):=h1;have n1:¬i<l.length:=by omega
 exact Xi _ (Yi (.refl _) ⟨show vi (-1)=vi (Hw p l 0) by rw[FJ fun j hj=>i2 j hj sP],rfl⟩)
theorem qA(ix:BL Tryz.prog 151 [.msl 1000 l.length,.clo fF [.cptr cs]] (AC [(1000,.arr 4 (l.map Ag))] Ao) fun r h'=>r=vi (-1)/\h'=AC [(1000,HO.arr 4 (l.map Ag))] Ao)(EM:∀j (hj:j<l.length),p l[j]=false):BL Tryz.prog 88 [.msl 1000 l.length,.clo fF [.cptr cs]] (AC [(1000,.arr 4 (l.map Ag))] Ao) fun r h'=>r=.msl 2000 (kept p l).length/\h'=AC [(1000,.dead),(2000,.arr 4 ((kept p l).map Ag))] Ao:=by
 refine DK (Wd ⟨[],[],[],[],[],[],[],[],[],[(200003,41000)],[3,6,9]⟩) [(1000,1000),(41,2000)] rfl DZ hm rfl Tryz.func88 sT rfl (Nz rfl) sT rfl (Xi (.gen [(1000,1000)] 0) (Yi rfl (BL.to2 (ix) ?_)));refine Yi (fun _=>?_) (fun h=>absurd sR h);refine Yi (show l.length=(l.map Ag).length by rw[Lm]) (cU [(0,.msl 41 l.length)] [(41,.arr 4 (l.map Ag)),(1000,.dead)] Z1 Z2 ?_)
 exact Xi _ (Yi (.refl _) ⟨show AV.msl 2000 l.length=.msl 2000 (kept p l).length by rw[LW EM],show AC [(1000,HO.dead),(2000,.arr 4 (l.map Ag))] Ao=AC [(1000,.dead),(2000,.arr 4 ((kept p l).map Ag))] Ao by rw[LW EM]⟩)
theorem qB(hF:∀x∈l,PC fF [.agg (Ag x),.cptr cs] (vb (p x)))(hl:CC l)(i0:Nat)(kb:i0<l.length)(l8:p l[i0]=true)(hb:∀j (hj:j<l.length),j<i0->p l[j]=false)(ix:BL Tryz.prog 151 [.msl 1000 l.length,.clo fF [.cptr cs]] (AC [(1000,.arr 4 (l.map Ag))] Ao) fun r h'=>r=vi (i0:Nat)/\h'=AC [(1000,HO.arr 4 (l.map Ag))] Ao):BL Tryz.prog 88 [.msl 1000 l.length,.clo fF [.cptr cs]] (AC [(1000,.arr 4 (l.map Ag))] Ao) fun r h'=>r=.msl 2000 (kept p l).length/\h'=AC [(1000,.dead),(2000,.arr 4 ((kept p l).map Ag))] Ao:=by
 have hl:l.length<=1073741824:=hl;refine DK (Wd (pT [] [(41,4)] [6,9])) [(1000,1000),(41,2000)] rfl DZ hm rfl Tryz.func88 sT rfl (Nz rfl) sT rfl (Xi (.gen [(1000,1000)] 0) (Yi rfl (BL.to2 (ix) ?_)));refine Yi (fun h1=>?_) (fun h1=>?_)
 .have h1:(i0:Int)=((-1):Int):=h1;exact absurd h1 sP
 have h1:¬((i0:Int)=((-1):Int)):=h1;refine Yi (Ii i0 sP) (Xi {q:Nat×Nat×List Sl // i0<q.1/\q.1<=l.length/\q.2.1=(kept p (l.take q.1)).length/\q.2.2.length=l.length/\q.2.2.take q.2.1=kept p (l.take q.1)/\q.2.2.drop q.1=l.drop q.1} (Xi (fun q=>⟨[(0,.msl 1000 l.length),(1,.clo fF [.cptr cs]),(5,vi q.1.2.1),(6,vi q.1.1)],[(1000,.arr 4 (q.1.2.2.map Ag))],Ao⟩) (Xi (fun q=>l.length-q.1.1) (Yi (Xi ⟨(i0+1,i0,l),En _,kb,by show i0=(kept p (l.take (i0+1))).length;rw[Oc kb hb l8,Al];omega,rfl,by show l.take i0=kept p (l.take (i0+1));rw[Oc kb hb l8],rfl⟩ ?_) ?_))))
 .exact⟨Z4,Z1,Fh,ED sT⟩
 intro⟨⟨j,i,N⟩,k0,k1,k2,k3,k4,k5⟩;have k0:i0<j:=k0;have k1:j<=l.length:=k1;have k2:i=(kept p (l.take j)).length:=k2;have k3:N.length=l.length:=k3;have k4:N.take i=kept p (l.take j):=k4;have k5:N.drop j=l.drop j:=k5;have k6:i<=j:=by rw[k2];exact AP (Hi _ _) (by rw[Al];omega)
 refine Yi (fun h2=>?_) (fun h2=>?_)
 .have h2:(j:Int)<(l.length:Int):=h2;have n2:j<l.length:=by omega
  have g2:l[j]?=some l[j]:=Ge n2;have nj:j<N.length:=by omega
  have gj:N[j]?=some N[j]:=Ge nj;refine Yi (by show(0:Int)<=j/\(j:Int)<(l.length:Nat);omega) (Yi (show l.length=(N.map Ag).length by rw[Lm];exact k3.symm) (Xi (Ag N[j]) (Yi (CQ gj) (yN (yN (yN (Bn (Bt (p N[j])) (fun h3=>?_) (fun h3=>?_))))))))
  .have h3:(p N[j])=true:=h3;refine Xi .pure (Xi _ (Yi (cb h3 (hF N[j] (by have q:N[j]=l[j]:=(by have q:=Aa (fun z=>z[0]?) k5;simp only[BW,CJ]at q;rw[Ge nj,Ge n2]at q;exact Bv q);rw[q];exact Af _))) ?_));refine cU [(0,.msl 1000 l.length),(1,.clo fF [.cptr cs]),(5,vi i),(6,vi j)] [(1000,.arr 4 (N.map Ag))] Z4 Z1 (Yi (Ii j sP) ?_);have eN:N[j]=l[j]:=by have q:=Aa (fun z=>z[0]?) k5;simp only[BW,CJ]at q;rw[Ge nj,Ge n2]at q;exact Bv q
   have kn:kept p (l.take (j+1))=kept p (l.take j):=by rw[LV n2,Av (by rw[<-eN];exact h3),BR]
   refine Xi ⟨(j+1,i,N),Nat.lt_succ_of_lt k0,n2,by rw[kn];exact k2,k3,by rw[kn];exact k4,by show N.drop (j+1)=l.drop (j+1);rw[<-E3,<-E3,k5]⟩ ?_;exact⟨Dl l.length j sP,Z4,Z1,Fh,ED sT⟩
  have h3:(p N[j])=false:=h3;have ni:i<N.length:=by omega
  have gi:N[i]?=some N[i]:=Ge ni;refine Xi .pure (Xi _ (Yi (cb h3 (hF N[j] (by have q:N[j]=l[j]:=(by have q:=Aa (fun z=>z[0]?) k5;simp only[BW,CJ]at q;rw[Ge nj,Ge n2]at q;exact Bv q);rw[q];exact Af _))) ?_));refine cU [(0,.msl 1000 l.length),(1,.clo fF [.cptr cs]),(5,vi i),(6,vi j),(7,.ref 7 0)] [(7,.cells (Ag N[j])),(1000,.arr 4 (N.map Ag))] Z5 Z2 (yN (Yi (by show(0:Int)<=i/\(i:Int)<(l.length:Nat);omega) (Yi (show l.length=(N.map Ag).length by rw[Lm];exact k3.symm) (Xi (Ag N[i]) (Yi (CQ gi) (yN (Yi (Ii i sP) (cU [(0,.msl 1000 l.length),(1,.clo fF [.cptr cs]),(5,vi (i+1)),(6,vi j)] [(1000,.arr 4 ((N.map Ag).set i (Ag N[j])))] Z4 Z1 (Yi (Ii j sP) ?_)))))))));have eN:N[j]=l[j]:=by have q:=Aa (fun z=>z[0]?) k5;simp only[BW,CJ]at q;rw[Ge nj,Ge n2]at q;exact Bv q
  have kn:kept p (l.take (j+1))=kept p (l.take j)++[l[j]]:=by rw[LV n2,Aj (by rw[<-eN,h3];decide)]
  have ki:i<N.length:=by omega
  refine Xi ⟨(j+1,i+1,N.set i N[j]),Nat.lt_succ_of_lt k0,n2,by show i+1=(kept p (l.take (j+1))).length;rw[kn,Ac,<-k2];rfl,by show(N.set i N[j]).length=_;rw[Bg];exact k3,by show(N.set i N[j]).take (i+1)=kept p (l.take (j+1));rw[kn,A2,List.take_set_of_le (Ad _),k4,List.getElem?_set_self ki,eN];rfl,by show(N.set i N[j]).drop (j+1)=l.drop (j+1);rw[List.drop_set_of_lt sP,<-E3,<-E3,k5]⟩ ?_;exact⟨Dl l.length j sP,Z4,⟨⟨(show HO.arr 4 ((N.map Ag).set i (Ag N[j]))=.arr 4 ((N.set i N[j]).map Ag) by rw[DX]),rfl⟩,Tv⟩,Fh,ED sT⟩
 have h2:¬((j:Int)<(l.length:Int)):=h2;have n2:¬j<l.length:=by omega
 refine Yi (show l.length=(N.map Ag).length/\(0:Int)<=i/\(i:Int)<=((N.map Ag).length:Nat)from⟨by rw[Lm];exact k3.symm,by omega,by rw[Lm];omega⟩) (Yi (show l.length=(((N.map Ag).take i++List.replicate ((N.map Ag).length-i) [vs ⟨#[]⟩,vi 0,vi 0,vi 0]):List (List AV)).length/\(0:Int)<=i/\(i:Int)<=((((N.map Ag).take i++List.replicate ((N.map Ag).length-i) [vs ⟨#[]⟩,vi 0,vi 0,vi 0]):List (List AV)).length:Nat)from⟨by rw[Ac,Al,A7,Lm];omega,by omega,by rw[Ac,Al,A7,Lm];omega⟩) ?_);have ej:j=l.length:=by omega
 have e1:kept p l=kept p (l.take j):=by rw[ej,DS]
 have e2:i=(kept p l).length:=by rw[e1];exact k2
 have e3:((N.map Ag).take i++List.replicate ((N.map Ag).length-i) [vs ⟨#[]⟩,vi 0,vi 0,vi 0]).take i=(kept p l).map Ag:=by
  rw[List.take_append_of_le_length (by rw[Al,Lm];omega),HG,Nat.min_self,<-MH,k4,e1]
 exact Xi _ (Yi (.refl _) ⟨show AV.msl 2000 i=.msl 2000 (kept p l).length from Aa (AV.msl 2000) e2,show AC [(1000,HO.dead),(2000,.arr 4 (((N.map Ag).take i++List.replicate ((N.map Ag).length-i) [vs ⟨#[]⟩,vi 0,vi 0,vi 0]).take i))] Ao=_ from Aa (fun z=>AC [(1000,HO.dead),(2000,.arr 4 z)] Ao) e3⟩)
theorem bd(hF:∀x∈l,PC fF [.agg (Ag x),.cptr cs] (vb (p x)))(hl:CC l):BL Tryz.prog 88 [.msl 1000 l.length,.clo fF [.cptr cs]] (AC [(1000,.arr 4 (l.map Ag))] Ao) fun r h'=>r=.msl 2000 (kept p l).length/\h'=AC [(1000,.dead),(2000,.arr 4 ((kept p l).map Ag))] Ao:=by
 have ix:=qC l p hF hl;rcases Ut p l with ⟨e,h⟩ | ⟨i,hi,e,hp,hb⟩
 .rw[e]at ix;exact qA l p ix h
 .rw[e]at ix;exact qB l p hF hl i hi hp hb ix
theorem bx(hl:CC l)(Dn:l≠[]):BL Tryz.prog 89 [sl Ag l] (AC [] Ao) fun r h'=>r=.msl 2000 l.length/\h'=AC [(2000,.arr 4 (l.map Ag))] Ao:=by
 refine DK (Wd ⟨[],[],[(5,4)],[],[],[],[],[],[],[],[]⟩) [(5,2000)] rfl DZ hm rfl Tryz.func89 sT rfl (Nz rfl) sT rfl ?_;have Hd:Cn 4 (l.map Ag)/\([]:List (List AV)).length=0/\(([]:List (List AV)).length+(l.map Ag).length)*40<=140737488355328/\([]:List (List AV)).length+(l.map Ag).length<=9223372036854775807:=by
  refine⟨GW (enc:=Ag) (n:=4) (fun _=>rfl) l,rfl,?_,?_⟩<;>simp only[Aw,Lm]<;>unfold CC at hl<;>omega
 refine Yi ?_ ?_
 .intro _;refine Yi Hd ?_;have e1:AV.msl 2000 (([]:List (List AV)).length+(l.map Ag).length)=.msl 2000 l.length:=by simp
  refine Xi (.msl 2000 (([]:List (List AV)).length+(l.map Ag).length)) (Yi (.refl _) (Yi e1 ?_))
  rfl
 .intro h;exact absurd (List.map_eq_nil_iff.1 h) Dn
theorem mB(s:Sl)(b:List Sl)(hb:CC b):PC 90 [.agg (Ag s),.cptr [sl Ag b]] (vb (decide (s∈b))):=by
 refine Ps Dj Tryz.func90 rfl (Nz rfl) (yN (Bn (Bt (decide (s∈b))) (fun h1=>?_) (fun h1=>?_)))
 .have h1:(decide (s∈b))=true:=h1;refine Xi .pure (Xi _ (Yi (cb h1 (iU b s hb)) ?_));exact D7.of_eq (Aa vb h1.symm)
 have h1:(decide (s∈b))=false:=h1;refine Xi .pure (Xi _ (Yi (cb h1 (iU b s hb)) ?_));exact D7.of_eq (Aa vb h1.symm)
theorem eX:PC 88 [sl Ag ([]:List Sl),.clo fF [.cptr cs]] (sl Ag ([]:List Sl)):=by
 refine Ps Dj Tryz.func88 rfl (Nz rfl) (Xi .pure (Xi _ (Yi (lK (DY.ptr cs) [] (fun _=>false) (fun x hx=>absurd hx Gs) sR) (Yi (fun _=>?_) (fun h=>absurd sR h)))));exact .refl _
theorem Ye:PC 50 [sl Ag ([]:List Sl),sl Ag b] (sl Ag ([]:List Sl)):=by
 refine Ps (pC [3] []) Tryz.func50 rfl (Nz rfl) (Xi .pure (Xi _ (Yi (qG [] (Ar _)) (Xi .pure (Xi _ (Yi eX ?_))))));exact .refl _
theorem Yf(ha:CC a)(hb:CC b)(Dn:a≠[]):PC 50 [sl Ag a,sl Ag b] (sl Ag (kept (fun s=>decide (s∈b)) a)):=by
 refine Ps ⟨[3],[],[],[],[],[],[],[],[],[(4,8)],[]⟩ Tryz.func50 rfl (Nz rfl) (Xi (.gen [] 1) (Yi rfl (BL.to2 (bx a ha Dn) ?_)));refine Xi (.gen [(10600,1000)] 1) (Yi rfl (BL.to2 (bd (fF:=90) (cs:=[sl Ag b]) a (fun s=>decide (s∈b)) (fun s _=>mB s b hb) ha) ?_));refine Yi (show(kept (fun s=>decide (s∈b)) a).length=((kept (fun s=>decide (s∈b)) a).map Ag).length by rw[Lm]) ?_;exact .refl _
theorem UV(ha:CC a)(hb:CC b):PC 50 [sl Ag a,sl Ag b] (sl Ag (kept (fun s=>decide (s∈b)) a)):=by
 by_cases h:a=[]
 .subst h;exact Ye b
 .exact Yf a b ha hb h
abbrev AT:List Sl:=kept (fun s=>decide (s∈b)) a
theorem Td{a:List Sl}(h:CC a):CC (AT a b):=AP (Hi _ _) h
def GP(l:List Cp)(s:List Sl):List Sl×List Sl×Int:=
 if CD l≠0 then([],[],CD l)else if Bw s=true then(AT s (l.map A6),AT (l.map A6) s,0)else([],[],1)
abbrev lQ(p:List Sl×List Sl×Int):AV:=.tup [sl Ag p.1,sl Ag p.2.1,vi p.2.2]
theorem I0{l:List Cp}(hl:CC l):CC (l.map A6):=by unfold CC;rw[Lm];exact hl
theorem QP(l:List Cp)(s:List Sl)(hl:CC l)(hs:CC s)(hp:∀c∈l,CT c.path):PC 18 [sl Aq l,sl Ag s] (lQ (GP l s)):=by
 refine Ps Dj Tryz.func18 rfl (Nz rfl) (Xi .pure (Xi _ (Yi (GI l hl hp) (Yi (fun h1=>?_) (fun h1=>?_)))))
 .have h1:((CD l):Int)≠(0:Int):=h1;have e:GP l s=([],[],CD l):=by rw[GP,Av h1]
  rw[e];exact .tup ⟨.nil,.nil,.refl _,trivial⟩
 have h1:((CD l):Int)=(0:Int):=Ax h1;refine Bn (Bt (Bw s)) (fun h3=>?_) (fun h3=>?_)
 .have h3:(Bw s)=true:=h3;refine Xi .pure (Xi _ (Yi (cb h3 (PD s hs)) (Xi .pure (Xi _ (Yi (QQ l hl) (Xi .pure (Xi _ (Yi (UV s (l.map A6) hs (I0 hl)) (Xi .pure (Xi _ (Yi (UV (l.map A6) s (I0 hl) hs) ?_)))))))))));exact D7.of_eq (show AV.tup [sl Ag (AT s (l.map A6)),sl Ag (AT (l.map A6) s),vi 0]=lQ (GP l s) by rw[GP,Aj (fun c=>c h1),Av h3])
 have h3:(Bw s)=false:=h3;refine Xi .pure (Xi _ (Yi (cb h3 (PD s hs)) ?_));have e:GP l s=([],[],1):=by rw[GP,Aj (fun c=>c h1),Aj (by rw[h3];decide)]
 rw[e];exact .tup ⟨.nil,.nil,.refl _,trivial⟩
end Go.Eng
namespace Go.Proofs
open Go.Shelf
def Tryz.layCut2_ren:Go.Shelf.Ren:=⟨fun | 145=>65 | 220=>103 | 219=>162 | 217=>212 | 225=>213 | 224=>214 | 267=>215 | 266=>263 | 314=>264 | n=>n,fun | 9=>9 | 4=>4 | 59=>117 | 3=>3 | 5=>5 | 46=>127 | 146=>285 | 51=>155 | n=>n,fun | 1=>0 | n=>n⟩
theorem Tryz.layCut2:Go.Proofs.Lays.n145 Tryz.prog Tryz.layCut2_ren:={
 mixed:=by kernel_rfl
 f145:=Tryz.func65.trans (congrArg some Go.Eng.sT)
 f217:=Tryz.func212.trans (congrArg some Go.Eng.sT)
 f219:=Tryz.func162.trans (congrArg some Go.Eng.sT)
 f220:=Tryz.func103.trans (congrArg some Go.Eng.sT)
 f224:=Tryz.func214.trans (congrArg some Go.Eng.sT)
 f225:=Tryz.func213.trans (congrArg some Go.Eng.sT)
 f266:=Tryz.func263.trans (congrArg some Go.Eng.sT)
 f267:=Tryz.func215.trans (congrArg some Go.Eng.sT)
 f314:=Tryz.func264.trans (congrArg some Go.Eng.sT)
 t3:=Tryz.underlying3
 a3:=Tryz.isAgg3
 z3:=Tryz.sizeOf3
 v3:=Tryz.zeroValue3
 t4:=Tryz.underlying4
 a4:=Tryz.isAgg4
 z4:=Tryz.sizeOf4
 v4:=Tryz.zeroValue4
 t5:=Tryz.underlying5
 a5:=Tryz.isAgg5
 z5:=Tryz.sizeOf5
 v5:=Tryz.zeroValue5
 t9:=Tryz.underlying9
 a9:=Tryz.isAgg9
 z9:=Tryz.sizeOf9
 v9:=Tryz.zeroValue9
 t46:=Tryz.underlying127
 a46:=Tryz.isAgg127
 z46:=Tryz.sizeOf127
 v46:=Tryz.zeroValue127
 t51:=Tryz.underlying155
 a51:=Tryz.isAgg155
 z51:=Tryz.sizeOf155
 v51:=Tryz.zeroValue155
 t59:=Tryz.underlying117
 a59:=Tryz.isAgg117
 z59:=Tryz.sizeOf117
 v59:=Tryz.zeroValue117
 t146:=Tryz.underlying285
 a146:=Tryz.isAgg285
 z146:=Tryz.sizeOf285
 v146:=Tryz.zeroValue285
 g1:=by kernel_rfl }
def Tryz.layAtoi_ren:Go.Shelf.Ren:=⟨fun | 172=>166 | 244=>220 | 245=>221 | 247=>269 | 279=>270 | 280=>271 | 281=>272 | 282=>273 | 287=>300 | 316=>172 | 171=>101 | 205=>301 | 321=>327 | 322=>328 | 243=>161 | 246=>211 | 283=>259 | 284=>260 | 285=>261 | 286=>262 | 129=>121 | 317=>295 | 318=>296 | 319=>297 | 320=>298 | 337=>325 | 338=>326 | n=>n,fun | 9=>9 | 3=>3 | 75=>106 | 76=>107 | 4=>4 | 5=>5 | 167=>324 | 37=>68 | 0=>0 | 85=>325 | 2=>2 | 168=>327 | 53=>177 | 175=>347 | 46=>127 | 210=>350 | 127=>170 | 145=>374 | 143=>372 | 21=>21 | 171=>317 | 173=>319 | 212=>345 | 51=>155 | 20=>20 | 213=>346 | 232=>382 | 233=>383 | 80=>112 | n=>n,fun | 15=>2 | 16=>3 | 17=>1 | 18=>6 | 19=>7 | n=>n⟩
theorem Tryz.layAtoi:Go.Proofs.LaysC.n172 Tryz.prog Tryz.layAtoi_ren:={
 mixed:=by kernel_rfl
 f129:=Tryz.func121.trans (congrArg some Go.Eng.sT)
 f171:=Tryz.func101.trans (congrArg some Go.Eng.sT)
 f172:=Tryz.func166.trans (congrArg some Go.Eng.sT)
 f205:=Tryz.func301.trans (congrArg some Go.Eng.sT)
 f243:=Tryz.func161.trans (congrArg some Go.Eng.sT)
 f244:=Tryz.func220.trans (congrArg some Go.Eng.sT)
 f245:=Tryz.func221.trans (congrArg some Go.Eng.sT)
 f246:=Tryz.func211.trans (congrArg some Go.Eng.sT)
 f247:=Tryz.func269.trans (congrArg some Go.Eng.sT)
 f279:=Tryz.func270.trans (congrArg some Go.Eng.sT)
 f280:=Tryz.func271.trans (congrArg some Go.Eng.sT)
 f281:=Tryz.func272.trans (congrArg some Go.Eng.sT)
 f282:=Tryz.func273.trans (congrArg some Go.Eng.sT)
 f283:=Tryz.func259.trans (congrArg some Go.Eng.sT)
 f284:=Tryz.func260.trans (congrArg some Go.Eng.sT)
 f285:=Tryz.func261.trans (congrArg some Go.Eng.sT)
 f286:=Tryz.func262.trans (congrArg some Go.Eng.sT)
 f287:=Tryz.func300.trans (congrArg some Go.Eng.sT)
 f316:=Tryz.func172.trans (congrArg some Go.Eng.sT)
 f317:=Tryz.func295.trans (congrArg some Go.Eng.sT)
 f318:=Tryz.func296.trans (congrArg some Go.Eng.sT)
 f319:=Tryz.func297.trans (congrArg some Go.Eng.sT)
 f320:=Tryz.func298.trans (congrArg some Go.Eng.sT)
 f321:=Tryz.func327.trans (congrArg some Go.Eng.sT)
 f322:=Tryz.func328.trans (congrArg some Go.Eng.sT)
 f337:=Tryz.func325.trans (congrArg some Go.Eng.sT)
 f338:=Tryz.func326.trans (congrArg some Go.Eng.sT)
 t0:=Tryz.underlying0
 a0:=Tryz.isAgg0
 z0:=Tryz.sizeOf0
 v0:=Tryz.zeroValue0
 t2:=Tryz.underlying2
 a2:=Tryz.isAgg2
 z2:=Tryz.sizeOf2
 v2:=Tryz.zeroValue2
 t3:=Tryz.underlying3
 a3:=Tryz.isAgg3
 z3:=Tryz.sizeOf3
 v3:=Tryz.zeroValue3
 t4:=Tryz.underlying4
 a4:=Tryz.isAgg4
 z4:=Tryz.sizeOf4
 v4:=Tryz.zeroValue4
 t5:=Tryz.underlying5
 a5:=Tryz.isAgg5
 z5:=Tryz.sizeOf5
 v5:=Tryz.zeroValue5
 t9:=Tryz.underlying9
 a9:=Tryz.isAgg9
 z9:=Tryz.sizeOf9
 v9:=Tryz.zeroValue9
 t20:=Tryz.underlying20
 a20:=Tryz.isAgg20
 z20:=Tryz.sizeOf20
 v20:=Tryz.zeroValue20
 t21:=Tryz.underlying21
 a21:=Tryz.isAgg21
 z21:=Tryz.sizeOf21
 v21:=Tryz.zeroValue21
 t37:=Tryz.underlying68
 a37:=Tryz.isAgg68
 z37:=Tryz.sizeOf68
 v37:=Tryz.zeroValue68
 t46:=Tryz.underlying127
 a46:=Tryz.isAgg127
 z46:=Tryz.sizeOf127
 v46:=Tryz.zeroValue127
 t51:=Tryz.underlying155
 a51:=Tryz.isAgg155
 z51:=Tryz.sizeOf155
 v51:=Tryz.zeroValue155
 t53:=Tryz.underlying177
 a53:=Tryz.isAgg177
 z53:=Tryz.sizeOf177
 v53:=Tryz.zeroValue177
 t75:=Tryz.underlying106
 a75:=Tryz.isAgg106
 z75:=Tryz.sizeOf106
 v75:=Tryz.zeroValue106
 t76:=Tryz.underlying107
 a76:=Tryz.isAgg107
 z76:=Tryz.sizeOf107
 v76:=Tryz.zeroValue107
 t85:=Tryz.underlying325
 a85:=Tryz.isAgg325
 z85:=Tryz.sizeOf325
 v85:=Tryz.zeroValue325
 t127:=Tryz.underlying170
 a127:=Tryz.isAgg170
 z127:=Tryz.sizeOf170
 v127:=Tryz.zeroValue170
 t143:=Tryz.underlying372
 a143:=Tryz.isAgg372
 z143:=Tryz.sizeOf372
 v143:=Tryz.zeroValue372
 t145:=Tryz.underlying374
 a145:=Tryz.isAgg374
 z145:=Tryz.sizeOf374
 v145:=Tryz.zeroValue374
 t167:=Tryz.underlying324
 a167:=Tryz.isAgg324
 z167:=Tryz.sizeOf324
 v167:=Tryz.zeroValue324
 t168:=Tryz.underlying327
 a168:=Tryz.isAgg327
 z168:=Tryz.sizeOf327
 v168:=Tryz.zeroValue327
 t171:=Tryz.underlying317
 a171:=Tryz.isAgg317
 z171:=Tryz.sizeOf317
 v171:=Tryz.zeroValue317
 t173:=Tryz.underlying319
 a173:=Tryz.isAgg319
 z173:=Tryz.sizeOf319
 v173:=Tryz.zeroValue319
 t175:=Tryz.underlying347
 a175:=Tryz.isAgg347
 z175:=Tryz.sizeOf347
 v175:=Tryz.zeroValue347
 t210:=Tryz.underlying350
 a210:=Tryz.isAgg350
 z210:=Tryz.sizeOf350
 v210:=Tryz.zeroValue350
 t212:=Tryz.underlying345
 a212:=Tryz.isAgg345
 z212:=Tryz.sizeOf345
 v212:=Tryz.zeroValue345
 t213:=Tryz.underlying346
 a213:=Tryz.isAgg346
 z213:=Tryz.sizeOf346
 t232:=Tryz.underlying382
 a232:=Tryz.isAgg382
 z232:=Tryz.sizeOf382
 v232:=Tryz.zeroValue382
 t233:=Tryz.underlying383
 a233:=Tryz.isAgg383
 z233:=Tryz.sizeOf383
 v233:=Tryz.zeroValue383
 g15:=by kernel_rfl
 g16:=by kernel_rfl
 g17:=by kernel_rfl
 g18:=by kernel_rfl
 g19:=by kernel_rfl
 t80:=Tryz.underlying112
 a80:=Tryz.isAgg112
 z80:=Tryz.sizeOf112
 v80:=Tryz.zeroValue112
 i0:=by kernel_rfl
 i2:=by kernel_rfl
 i3:=by kernel_rfl
 i4:=by kernel_rfl
 i5:=by kernel_rfl
 i9:=by kernel_rfl
 i20:=by kernel_rfl
 i21:=by kernel_rfl
 i37:=by kernel_rfl
 i46:=by kernel_rfl
 i51:=by kernel_rfl
 i53:=by kernel_rfl
 i75:=by kernel_rfl
 i76:=by kernel_rfl
 i80:=by kernel_rfl
 i85:=by kernel_rfl
 i127:=by kernel_rfl
 i143:=by kernel_rfl
 i145:=by kernel_rfl
 i167:=by kernel_rfl
 i168:=by kernel_rfl
 i171:=by kernel_rfl
 i173:=by kernel_rfl
 i175:=by kernel_rfl
 i210:=by kernel_rfl
 i212:=by kernel_rfl
 i232:=by kernel_rfl
 i233:=by kernel_rfl
 m15:=by kernel_rfl
 m16:=by kernel_rfl
 m17:=by kernel_rfl
 m18:=by kernel_rfl
 m19:=by kernel_rfl
 c0:=by kernel_rfl
 c2:=by kernel_rfl
 c3:=by kernel_rfl
 c4:=by kernel_rfl
 c5:=by kernel_rfl
 c9:=by kernel_rfl
 c20:=by kernel_rfl
 c21:=by kernel_rfl
 c37:=by kernel_rfl
 c46:=by kernel_rfl
 c51:=by kernel_rfl
 c53:=by kernel_rfl
 c75:=by kernel_rfl
 c76:=by kernel_rfl
 c80:=by kernel_rfl
 c85:=by kernel_rfl
 c127:=by kernel_rfl
 c143:=by kernel_rfl
 c145:=by kernel_rfl
 c167:=by kernel_rfl
 c168:=by kernel_rfl
 c171:=by kernel_rfl
 c173:=by kernel_rfl
 c175:=by kernel_rfl
 c210:=by kernel_rfl
 c212:=by kernel_rfl
 c213:=by kernel_rfl
 c232:=by kernel_rfl
 c233:=by kernel_rfl }
def Tryz.layIxB_ren:Go.Shelf.Ren:=⟨fun | 137=>167 | 217=>212 | 266=>263 | n=>n,fun | 9=>9 | 5=>5 | 3=>3 | n=>n,fun | n=>n⟩
theorem Tryz.layIxB:Go.Proofs.Lays.n137 Tryz.prog Tryz.layIxB_ren:={
 mixed:=by kernel_rfl
 f137:=Tryz.func167.trans (congrArg some Go.Eng.sT)
 f217:=Tryz.func212.trans (congrArg some Go.Eng.sT)
 f266:=Tryz.func263.trans (congrArg some Go.Eng.sT)
 t3:=Tryz.underlying3
 a3:=Tryz.isAgg3
 z3:=Tryz.sizeOf3
 v3:=Tryz.zeroValue3
 t5:=Tryz.underlying5
 a5:=Tryz.isAgg5
 z5:=Tryz.sizeOf5
 v5:=Tryz.zeroValue5
 t9:=Tryz.underlying9
 a9:=Tryz.isAgg9
 z9:=Tryz.sizeOf9
 v9:=Tryz.zeroValue9 }
def Tryz.layCF_ren:Go.Shelf.Ren:=⟨fun | 17=>164 | 15=>219 | 20=>268 | n=>n,fun | 9=>9 | 23=>239 | 4=>4 | 3=>3 | 0=>0 | 21=>21 | n=>n,fun | n=>n⟩
theorem Tryz.layCF:Go.Proofs.LaysGw.n17 Tryz.prog Tryz.layCF_ren:={
 mixed:=by kernel_rfl
 f15:=Tryz.func219.trans (congrArg some Go.Eng.sT)
 f17:=Tryz.func164.trans (congrArg some Go.Eng.sT)
 f20:=Tryz.func268.trans (congrArg some Go.Eng.sT)
 t0:=Tryz.underlying0
 a0:=Tryz.isAgg0
 z0:=Tryz.sizeOf0
 v0:=Tryz.zeroValue0
 i0:=by kernel_rfl
 t3:=Tryz.underlying3
 a3:=Tryz.isAgg3
 z3:=Tryz.sizeOf3
 v3:=Tryz.zeroValue3
 i3:=by kernel_rfl
 t4:=Tryz.underlying4
 a4:=Tryz.isAgg4
 z4:=Tryz.sizeOf4
 v4:=Tryz.zeroValue4
 i4:=by kernel_rfl
 t9:=Tryz.underlying9
 a9:=Tryz.isAgg9
 z9:=Tryz.sizeOf9
 v9:=Tryz.zeroValue9
 i9:=by kernel_rfl
 t21:=Tryz.underlying21
 a21:=Tryz.isAgg21
 z21:=Tryz.sizeOf21
 v21:=Tryz.zeroValue21
 i21:=by kernel_rfl
 t23:=Tryz.underlying239
 a23:=Tryz.isAgg239
 z23:=Tryz.sizeOf239
 v23:=Tryz.zeroValue239
 i23:=by kernel_rfl }
def Tryz.layJoin_ren:Go.Shelf.Ren:=⟨fun | 156=>58 | 165=>99 | 166=>57 | 169=>61 | 240=>98 | 241=>160 | 276=>159 | 277=>210 | n=>n,fun | 31=>27 | 9=>9 | 3=>3 | 4=>4 | 0=>0 | 20=>20 | 72=>104 | 76=>107 | 70=>102 | 37=>68 | 75=>106 | 127=>170 | 164=>235 | 5=>5 | 80=>112 | n=>n,fun | n=>n⟩
theorem Tryz.layJoin:Go.Proofs.Lays.n156 Tryz.prog Tryz.layJoin_ren:={
 mixed:=by kernel_rfl
 f156:=Tryz.func58.trans (congrArg some Go.Eng.sT)
 f165:=Tryz.func99.trans (congrArg some Go.Eng.sT)
 f166:=Tryz.func57.trans (congrArg some Go.Eng.sT)
 f169:=Tryz.func61.trans (congrArg some Go.Eng.sT)
 f240:=Tryz.func98.trans (congrArg some Go.Eng.sT)
 f241:=Tryz.func160.trans (congrArg some Go.Eng.sT)
 f276:=Tryz.func159.trans (congrArg some Go.Eng.sT)
 f277:=Tryz.func210.trans (congrArg some Go.Eng.sT)
 t0:=Tryz.underlying0
 a0:=Tryz.isAgg0
 z0:=Tryz.sizeOf0
 v0:=Tryz.zeroValue0
 t3:=Tryz.underlying3
 a3:=Tryz.isAgg3
 z3:=Tryz.sizeOf3
 v3:=Tryz.zeroValue3
 t4:=Tryz.underlying4
 a4:=Tryz.isAgg4
 z4:=Tryz.sizeOf4
 v4:=Tryz.zeroValue4
 t9:=Tryz.underlying9
 a9:=Tryz.isAgg9
 z9:=Tryz.sizeOf9
 v9:=Tryz.zeroValue9
 t20:=Tryz.underlying20
 a20:=Tryz.isAgg20
 z20:=Tryz.sizeOf20
 v20:=Tryz.zeroValue20
 t31:=Tryz.underlying27
 a31:=Tryz.isAgg27
 z31:=Tryz.sizeOf27
 v31:=Tryz.zeroValue27
 t37:=Tryz.underlying68
 a37:=Tryz.isAgg68
 z37:=Tryz.sizeOf68
 v37:=Tryz.zeroValue68
 t70:=Tryz.underlying102
 a70:=Tryz.isAgg102
 z70:=Tryz.sizeOf102
 v70:=Tryz.zeroValue102
 t72:=Tryz.underlying104
 a72:=Tryz.isAgg104
 z72:=Tryz.sizeOf104
 v72:=Tryz.zeroValue104
 t75:=Tryz.underlying106
 a75:=Tryz.isAgg106
 z75:=Tryz.sizeOf106
 v75:=Tryz.zeroValue106
 t76:=Tryz.underlying107
 a76:=Tryz.isAgg107
 z76:=Tryz.sizeOf107
 v76:=Tryz.zeroValue107
 t127:=Tryz.underlying170
 a127:=Tryz.isAgg170
 z127:=Tryz.sizeOf170
 v127:=Tryz.zeroValue170
 t164:=Tryz.underlying235
 a164:=Tryz.isAgg235
 z164:=Tryz.sizeOf235
 v164:=Tryz.zeroValue235 }
theorem Tryz.layJoinX:Builder.Extra Tryz.prog Tryz.layJoin_ren:={
 sizeBuilder:=by kernel_rfl
 liesBuilder:=by kernel_rfl
 t5:=Tryz.underlying5
 a5:=Tryz.isAgg5
 z5:=Tryz.sizeOf5
 v5:=Tryz.zeroValue5
 infoByte:=by kernel_rfl
 cellsByte:=by kernel_rfl
 sizeByte:=by kernel_rfl
 neB5:=by decide }
def Tryz.layBStr_ren:Go.Shelf.Ren:=⟨fun | 169=>61 | n=>n,fun | 70=>102 | 9=>9 | 0=>0 | 72=>104 | 37=>68 | 127=>170 | 3=>3 | 5=>5 | n=>n,fun | n=>n⟩
theorem Tryz.layBStr:Go.Proofs.Lays.n169 Tryz.prog Tryz.layBStr_ren:={
 mixed:=by kernel_rfl
 f169:=Tryz.func61.trans (congrArg some Go.Eng.sT)
 t0:=Tryz.underlying0
 a0:=Tryz.isAgg0
 z0:=Tryz.sizeOf0
 v0:=Tryz.zeroValue0
 t3:=Tryz.underlying3
 a3:=Tryz.isAgg3
 z3:=Tryz.sizeOf3
 v3:=Tryz.zeroValue3
 t9:=Tryz.underlying9
 a9:=Tryz.isAgg9
 z9:=Tryz.sizeOf9
 v9:=Tryz.zeroValue9
 t37:=Tryz.underlying68
 a37:=Tryz.isAgg68
 z37:=Tryz.sizeOf68
 v37:=Tryz.zeroValue68
 t70:=Tryz.underlying102
 a70:=Tryz.isAgg102
 z70:=Tryz.sizeOf102
 v70:=Tryz.zeroValue102
 t72:=Tryz.underlying104
 a72:=Tryz.isAgg104
 z72:=Tryz.sizeOf104
 v72:=Tryz.zeroValue104
 t127:=Tryz.underlying170
 a127:=Tryz.isAgg170
 z127:=Tryz.sizeOf170
 v127:=Tryz.zeroValue170 }
theorem Tryz.layBStrX:Builder.Extra Tryz.prog Tryz.layBStr_ren:={
 sizeBuilder:=by kernel_rfl
 liesBuilder:=by kernel_rfl
 t5:=Tryz.underlying5
 a5:=Tryz.isAgg5
 z5:=Tryz.sizeOf5
 v5:=Tryz.zeroValue5
 infoByte:=by kernel_rfl
 cellsByte:=by kernel_rfl
 sizeByte:=by kernel_rfl
 neB5:=by decide }
end Go.Proofs
namespace Go.Eng
open Go.Proofs
open Go.RowKit
variable {w:World}(s:ByteArray)(v:Ver)(OW:ByteArray)(n:Nat)(l:List ByteArray)(i:Nat)
theorem Xj : Tryz.prog.globalNamed "internal/strconv.uint64pow10" = some 1 := by decide +kernel
theorem g7 (h : ∀ x ∈ YS, w.cell? ⟨x.1, x.2.1, none⟩ = x.2.2) : Go.Lib.TabIs Tryz.prog w "internal/strconv.uint64pow10" .u64 Go.Lib.pow10Tab := by
 unfold Go.Lib.TabIs World.var?;rw[Xj];simp only[Option.bind_some];have U9:=h (1,20,none) (Ab ..);have hi:∀i,i<20->w.cell? ⟨1,i,none⟩=some (.int .u64 ((10 ^ i:Nat):Int)):=fun i hi=>h (1,i,some (.int .u64 ((10 ^ i:Nat):Int))) (Ai _ (AA.2 ⟨i,KJ.2 hi,rfl⟩));have h0:=hi 0 sR;unfold World.cell? at h0 U9 hi;cases e:w.heap[1]? with
 |none=>rw[e]at h0;cases h0
 |some o=>
  cases o with
  |cells cs E fr=>
   simp only[e,KK,Cg,FK]at U9 hi;have hs:cs.size=20:=by
    have dO:=hi 19 sR
    have:=(BN.1 dO).1
    have:=Array.getElem?_eq_none_iff.1 U9
    omega
   show some cs=_
   congr 1
   apply Array.ext
   .simp[hs,Go.Lib.pow10Tab]
   .intro i h1 h2
    have:=hi i sP
    rw[AY h1]at this;rw[Bv this];simp[Go.Lib.pow10Tab]
  |_=>rw[e]at h0;simp at h0
theorem ie(n:Int)(h:AE n):PC 101 [vi n] (vs (F6 n)):=by
 unfold AE at h;refine Fq [.int .i64 n] (.string (F6 n)) (Q0 101 Tryz.func101 sT rfl) rfl (fun g w=>.v _ _) fun w _ ht=>?_;refine(Any.strconv_Itoa Tryz.layItoa n h.1 sP w (g7 ht)).mono ?_
 rintro e w' ⟨rfl,k,os,rfl⟩
 exact⟨rfl,Go.Lib.below_grow _ _ (Ad _) _ _⟩
theorem VY{g:Gh}{w':World}{x:Value}(hI:Do w g Ao Ao g w)(q:Below w.heap.size w w') :
  ∃v r h' g',Ending.returned x=.returned v/\(r=.v x/\h'=Ao)/\Bo g' w' (AD h') r v/\Do w g Ao h' g' w'/\Le Ao g w h' g' w':=by
 have hK:DO g w g w':=fun b o hb=>by
  have Dc:=hI.slt b o hb;exact⟨hb,by simp only[World.cell?,q.block b Dc],fun es ck he=>(q.block b Dc).trans he⟩
 exact⟨x,.v x,Ao,g,rfl,Zr,.v _ _,⟨q.os,q.tape,q.output,q.size,fun b hb _=>q.block b hb,fun b o hs=>CL (hI.slt b o hs) q.size,fun _=>Tv,fun _ _ _ h=>h.elim,fun _ _ h=>h.elim,fun b o hs=>.inl hs,hI.glob.keep hK⟩,⟨.refl _ _,fun _ h=>h,hK⟩⟩
abbrev PV:Nat:=(Et OW l).data.toList.length
theorem Yb(OW:ByteArray)(hl:l.length<=1073741824)(hj:PV OW l<=281474976710656):PC 58 [sl encStr l,vs OW] (vs (Et OW l)):=by
 refine⟨Q0 58 Tryz.func58 sT rfl,fun g w us hs hv hI=>?_⟩
 match us,hs,hv with
 | ⟨[v0,v1]⟩,_,hv=>
  have r0:Bo g w (AD Ao) (.slice .none (l.map encStr)) v0:=hv 0 _ v0 rfl rfl;have r1:=(hv 1 _ v1 rfl rfl).v_eq;subst r1;have hj:(Go.Lib.join (l.map (·.data.toList)) OW.data.toList).length<=281474976710656:=by simpa[PV,Et]using hj
  generalize hes:l.map encStr=es at r0;have fin:∀{e:Ending} {w' : World},e=.returned (.string (Et OW l))/\Below w.heap.size w w'->∃v r h' g',e=.returned v/\(r=vs (Et OW l)/\h'=Ao)/\Bo g' w' (AD h') r v/\Do w g Ao h' g' w'/\Le Ao g w h' g' w':=by
   rintro e w' ⟨rfl,q⟩
   exact VY hI q
  cases r0 with
  |snil _ a cap=>
   have:l=[]:=by simpa using hes
   subst this;refine(Any.strings_Join_none Tryz.layJoin Tryz.layJoinX a cap OW w).mono fun e w' ⟨h1,h2⟩=>fin ⟨h1,?_⟩;subst h2;exact .refl _ _
  |slice _ _ b off sz cap val hc Dm Cm Dd=>
   subst hes;cases l with
   |nil=>exact(Any.strings_Join_none Tryz.layJoin Tryz.layJoinX (some ⟨b,off,none⟩) cap OW w).mono fun e w' ⟨h1,h2⟩=>fin ⟨h1,h2▸.refl _ _⟩
   |cons x r=>
    have h1:sz=1:=(Dm 0 (encStr x) rfl).symm;subst h1;have Io:∀(j:Nat) y,(x::r)[j]?=some y->g.S b (off+j)/\w.cell? ⟨b,off+j,none⟩=some (.string y):=fun j y hy=>by
     have e1:((x::r).map encStr)[j]?=some (encStr y):=by rw[Ap,hy];rfl
     obtain⟨q1,q2,_⟩:=Cm j _ 0 (vs y) e1 rfl
     have:=(Dd j _ 0 (vs y) e1 rfl).v_eq
     rw[this]at q2;simp only[Gc,CJ]at q1 q2;exact⟨q1,q2⟩
    have hb:b<w.heap.size:=hI.slt b _ (Io 0 x rfl).1
    have:=Any.strings_Join_48 Tryz.layJoin Tryz.layJoinX b off cap (x::r) OW w (fun j y hy=>(Io j y hy).2) hb sP (by simpa using hc) hj
    rw[Lm];exact this.mono fun e w' h=>fin h
theorem jh(p:ByteArray)(hs:s.size<4294967281):PC 65 [vs s,vs p] (.tup [vs ⟨(Go.Lib.cut s.data.toList p.data.toList).1.toArray⟩,vs ⟨(Go.Lib.cut s.data.toList p.data.toList).2.1.toArray⟩,vb (Go.Lib.cut s.data.toList p.data.toList).2.2]):=by
 refine Fq [.string s,.string p] _ (Q0 65 Tryz.func65 sT rfl) rfl (fun g w=>OA [.string ⟨(Go.Lib.cut s.data.toList p.data.toList).1.toArray⟩,.string ⟨(Go.Lib.cut s.data.toList p.data.toList).2.1.toArray⟩,.bool (Go.Lib.cut s.data.toList p.data.toList).2.2]) fun w hm _=>?_;obtain⟨m,hm⟩:=hm;refine(Any.strings_Cut Tryz.layCut2 s p m w hs hm).mono ?_
 rintro e w' ⟨rfl,n,rfl⟩
 exact⟨rfl,Go.Joins.below_draws _ _ _⟩
theorem XZ(v:Int)(hs:s.size<=9223372036854775806)(h:Go.Lib.atoiAll s.data.toList=.ok v):PC 166 [vs s] (.tup [vi v,.v .nilIface]):=by
 refine Fq [.string s] _ (Q0 166 Tryz.func166 sT rfl) rfl (fun g w=>OA [.int .i64 v,.nilIface]) fun w _ _=>?_;refine(Any.strconv_Atoi_ok Tryz.layAtoi s hs v h w).mono ?_
 rintro e w' ⟨rfl,rfl | ⟨t,rfl⟩⟩
 .exact⟨rfl,RowKit.Below.refl _ _⟩
 .exact⟨rfl,Go.Joins.below_bytesWorld _ _ _ _ (Ad _)⟩
theorem jl(c:Int):PC 167 [vs s,.v (.int .u8 c)] (vi (Go.Lib.indexByte s.data.toList c.toNat.toUInt8)):=
 G4 [.string s,.int .u8 c] (.int .i64 (Go.Lib.indexByte s.data.toList c.toNat.toUInt8)) (Q0 167 Tryz.func167 sT rfl) rfl (fun g w=>.v _ _) fun w _=>Any.strings_IndexByte Tryz.layIxB s c w
abbrev Rs(x:Nat):Bool:=decide (x<48)||decide (57<x)
theorem WV(W:World)(x:Nat):Calls Tryz.prog 165 #[.int .i32 x] W fun e w'=>e=.returned (.bool (Rs x))/\w'=W:=by
 go_enter Tryz.func165,Tryz.ntmps165
 by_cases h1:(x:Int)<48
 .go_wp2
  go_ret
  exact⟨by simp[Rs,show x<48 by omega],rfl⟩
 .by_cases h2:(57:Int)<x
  .go_wp2
   go_ret
   exact⟨by simp[Rs,show 57<x by omega],rfl⟩
  .go_wp2
   go_ret
   exact⟨by simp[Rs,show ¬x<48 by omega,show ¬57<x by omega],rfl⟩
theorem jm:PC 164 [vs s,.v (.func (.func 165) #[] #[])] (vb (decide (0<=Go.Lib.idxFunc Rs true s))):=by
 refine Fq [.string s,.func (.func 165) #[] #[]] (.bool (decide (0<=Go.Lib.idxFunc Rs true s))) (Q0 164 Tryz.func164 sT rfl) rfl (fun g w=>.v _ _) fun W _ _=>?_;exact Any.strings_ContainsFunc Tryz.layCF 165 #[] (enters_of Tryz.func165 sT rfl) Rs s W fun W' x _=>(WV W' x).mono fun e w' h=>⟨h.1,0,h.2⟩
def MJ:List UInt8:=if n<10 then [UInt8.ofNat (48+n)]else if n<100 then [UInt8.ofNat (48+n / 10),UInt8.ofNat (48+n % 10)]else [UInt8.ofNat (48+n / 100),UInt8.ofNat (48+n / 10 % 10),UInt8.ofNat (48+n % 10)]
theorem bO{n:Nat}(h:n<1000):Go.Lib.decDigits n=MJ n:=by
 unfold MJ
 by_cases h1:n<10
 .rw[Av h1,Go.Lib.decDigits_one h1]
 .by_cases h2:n<100
  .rw[Aj h1,Av h2,Go.Lib.decDigits_two h1 h2]
  .rw[Aj h1,Aj h2,Go.Lib.decDigits,dif_neg h1,Go.Lib.decDigits_two sP sP];simp only[De,JH];rw[show n / 10 / 10=n / 100 by omega]
def jC:Bool:=decide ((MJ n).length<=3)&&decide (1<=(MJ n).length)&&(decide ((MJ n).length=1)||decide (((MJ n)[0]?.getD 0).toNat≠48))&&decide (¬0<=Go.Lib.idxFunc Rs true ⟨(MJ n).toArray⟩)&&(MJ n).all fun c=>decide (48<=c.toNat/\c.toNat<=57)
theorem Yv:∀n,n<1000->jC n=true:=by decide +kernel
structure eH(s:ByteArray):Prop where
 le:s.size<=3
 ge:1<=s.size
 lead:¬s.size=1->(Bl s 0).toNat≠48
 odd:decide (0<=Go.Lib.idxFunc Rs true s)=false
 dig:∀c∈s.data.toList,48<=c.toNat/\c.toNat<=57
theorem Rh(h:n<1000):F6 (n:Int)=⟨(MJ n).toArray⟩:=by
 unfold F6;rw[Go.Lib.itoa_nonneg,bO h]
theorem cA{n:Int}(h0:0<=n)(h1:n<=999):eH (F6 n)/\Go.Lib.atoiAll (F6 n).data.toList=.ok n:=by
 obtain⟨k,rfl⟩:∃k:Nat,n=k:=⟨n.toNat,by omega⟩;have hk:k<1000:=by omega
 have q:=Yv k hk;unfold jC at q;simp only[Ak,CO,A3,AJ]at q;obtain⟨⟨⟨⟨q1,q2⟩,q3⟩,q4⟩,q5⟩:=q;have e:=Rh k hk;refine⟨⟨?_,?_,?_,?_,?_⟩,?_⟩
 .rw[e];simpa[ByteArray.size]using q1
 .rw[e];simpa[ByteArray.size]using q2
 .rw[e];intro h;rcases q3 with q3 | q3
  .exact absurd (by simpa[ByteArray.size]using q3) h
  .unfold Bl;simpa using q3
 .rw[e];exact Ae q4
 .rw[e];simpa using q5
 .unfold F6;rw[Go.Lib.itoa_nonneg];show Go.Lib.atoiAll (iT (Go.Lib.decDigits k)).data.toList=_;rw[show(iT (Go.Lib.decDigits k)).data.toList=Go.Lib.decDigits k by simp];exact XT sP
theorem S6:∀{m l:List ByteArray},m.map (·.data.toList)=l.map (·.data.toList)->m=l
 | [],[],_=>rfl
 | [],_::_,h=>by cases h
 |_::_,[],h=>by cases h
 |a::m,b::l,h=>by
  rw[Bq,Bq,Ea]at h;rw[S6 h.2,show a=b from DW (IF.1 h.1)]
theorem Xs{s:ByteArray}{c:UInt8}{l:List ByteArray}(h:BC c s.data.toList=l.map (·.data.toList)):Go.Lib.splitB ⟨#[c]⟩ 0 (Go.Lib.countB s ⟨#[c]⟩) s=l:=
 S6 ((Qt s c).trans h)
theorem UX(c:UInt8)(l:List ByteArray)(hs:CT s)(hl:BC c s.data.toList=l.map (·.data.toList)):PC 104 [vs s,vs ⟨#[c]⟩] (sl encStr l):=by
 unfold CT at hs;have e:=Xs hl;have h:=Qi (P:=Tryz.prog) (f:=104) (args:=[vs s,vs ⟨#[c]⟩]) [.string s,.string ⟨#[c]⟩] (l.map Value.string) 9 (Q0 104 Tryz.func104 sT rfl) rfl (fun x hx=>by
  obtain⟨y,_,rfl⟩:=AA.1 hx;rfl) (fun w hm=>by
  obtain⟨m,hm⟩:=hm;have hl:l.length=Go.Lib.countB s ⟨#[c]⟩+1:=by rw[<-e];exact Go.Lib.splitB_all ⟨#[c]⟩ (Ad 1) 0 _ s rfl
  refine(Any.strings_Split Tryz.laySplit sT s ⟨#[c]⟩ m w sP hm (Ad 1)).mono ?_
  rintro e' w' ⟨rfl,rfl⟩
  rw[e];exact⟨by rw[Lm,hl],rfl⟩)
 rw[Cw]at h;exact h
theorem UL{c:UInt8}:∀{a:List UInt8},c∉a->BC c a=[a]
 | [],_=>rfl
 |b::a,h=>by
  rw[BC,Aj (fun e=>h (by rw[e];exact Ab ..)),UL (fun hm=>h (Ai _ hm))]
theorem OM{c:UInt8}{b:List UInt8}:∀{a:List UInt8},c∉a->BC c (a++c::b)=a::BC c b
 | [],_=>by show BC c (c::b)=_;rw[BC,Av rfl]
 |x::a,h=>by
  show BC c (x::(a++c::b))=_;rw[BC,Aj (fun e=>h (by rw[e];exact Ab ..)),OM (fun hm=>h (Ai _ hm))]
abbrev wv:List ByteArray:=(List.range i).map fun j=>F6 (part v j)
theorem OR{v:Ver}(h:Cy v=true):∀i,i<3->0<=part v i/\part v i<=999
 |0,_=>by have:=Ft h;exact⟨this.1,this.2.1⟩
 |1,_=>by have:=Ft h;exact⟨this.2.2.1,this.2.2.2.1⟩
 |2,_=>by have:=Ft h;exact⟨this.2.2.2.2.1,this.2.2.2.2.2⟩
 |_+3,h=>by omega
theorem Wt(h:i<3)(K:AV->Prop):HQ (([vi v.a,vi v.b,vi v.c]).drop ((i:Int).toNat*1)) K=K (vi (part v i)):=by
 match i,h with
 |0,_=>rfl
 |1,_=>rfl
 |2,_=>rfl
 |_+3,h=>omega
theorem dv:wv v (i+1)=wv v i++[F6 (part v i)]:=by unfold wv;rw[List.range_succ,AK];rfl
theorem VL:Et RZ (wv v 3)=Gm v.a v.b v.c:=XE v.a v.b v.c
theorem aR(h:Cy v=true):PV RZ (wv v 3)<=281474976710656:=by
 unfold PV;rw[VL]
 have:=Ft h
 have:=Mg (a:=v.a) (b:=v.b) (c:=v.c) sP sP sP
 have e:(Gm v.a v.b v.c).data.toList.length=(Gm v.a v.b v.c).size:=rfl;omega
def XB:Int:=if Cy v then 0 else 2
abbrev lz:AV:=.tup [vs (XC v),vi (XB v)]
theorem jj:PC 59 [.agg (Dy v)] (lz v):=by
 refine Ps (pT [] [(4,1)] []) Tryz.func59 rfl (Nz rfl) (yN (Bn (Bt (Cy v)) (fun h1=>?_) (fun h1=>?_)))
 .have h1:(Cy v)=true:=h1;refine Xi .pure (Xi _ (Yi (cb h1 (Yq v)) (yN (Xi .pure (Xi _ (Yi (bE v) (Xi {i:Nat // i<=3} (Xi (fun q=>⟨[(4,.slice (.id 4 1) ((wv v q.1).map encStr)),(11,.agg [vi v.a,vi v.b,vi v.c]),(12,vi q.1)],[(4,.tok 1 q.1)],Ao⟩) (Xi (fun q=>3-q.1) (Yi (Xi ⟨0,by decide⟩ ?_) ?_))))))))))
  .exact⟨Z3,Z1,Fh,Tv⟩
  intro⟨i,i1⟩;have i1:i<=3:=i1;have WA:(List.range i).length=i:=FZ;refine Yi (fun h2=>?_) (fun h2=>?_)
  .have h2:(i:Int)<(3:Int):=h2;have XI:i<3:=by omega
   refine Yi ⟨by show(0:Int)<=i;omega,by show(i:Int)<3;omega⟩ ?_;refine(Wt v i XI _).mpr (Xi .pure (Xi _ (Yi (ie (part v i) (by have q:=OR h1 i XI;unfold AE;omega)) ?_)));have b3:Cn 1 [[vs (F6 (part v i))]]/\((wv v i).map encStr).length=i/\(((wv v i).map encStr).length+([[vs (F6 (part v i))]]:List (List AV)).length)*16<=140737488355328/\((wv v i).map encStr).length+([[vs (F6 (part v i))]]:List (List AV)).length<=9223372036854775807:=⟨⟨rfl,trivial⟩,(by first | (simp;done) | (rw[Lm];assumption)),(by simp only[Lm,Am,Aw];omega),(by simp only[Lm,Am,Aw];omega)⟩
   refine Yi b3 (Yi (Ii i sP) (Xi ⟨i+1,by omega⟩ ?_));exact⟨Dl 3 i sP,⟨⟨(show AV.slice (.id 4 1) ((wv v i).map encStr++[[vs (F6 (part v i))]])=.slice (.id 4 1) ((wv v (i+1)).map encStr) by rw[dv,AK];rfl),rfl⟩,Zr,Zr,Tv⟩,⟨⟨(show HO.tok 1 (((wv v i).map encStr).length+([[vs (F6 (part v i))]]:List (List AV)).length)=.tok 1 (i+1) by simp),rfl⟩,Tv⟩,Fh,Tv⟩
  have h2:¬((i:Int)<(3:Int)):=h2;have XI:i=3:=by omega
  have jK:=Yb (wv v 3) RZ (by show(3:Nat)<=_;decide) (aR v h1);rw[<-XI]at jK;refine Xi .pure (Xi _ (Yi jK ?_));exact .of_eq (show AV.tup [vs (Et RZ (wv v i)),vi 0]=.tup [vs (XC v),vi (XB v)] by rw[XI,VL];unfold XC XB;rw[h1];rfl)
 have h1:(Cy v)=false:=h1;refine Xi .pure (Xi _ (Yi (cb h1 (Yq v)) ?_));exact .of_eq (show AV.tup [vs ⟨#[]⟩,vi 2]=.tup [vs (XC v),vi (XB v)] by unfold XC XB;rw[h1];rfl)
end Go.Eng
namespace Go.Eng
open Go.Proofs
variable {c:UInt8}(D:List UInt8)(v:Ver)(d:ByteArray)(i:Nat)
def pV:List AV:=[vi (if 0<i then v.a else 0),vi (if 1<i then v.b else 0),vi (if 2<i then v.c else 0)]
theorem Vw{i:Nat}(h:i<3){m:Nat}(e:m=i):over (pV v i) m [vi (part v i)]=pV v (i+1):=by
 subst e
 match m,h with
 |0,_=>rfl
 |1,_=>rfl
 |2,_=>rfl
theorem ik{i:Nat}(h:i<3):(wv v 3)[i]?=some (F6 (part v i)):=by
 unfold wv;rw[Ap,List.getElem?_range h];rfl
theorem LR{n:Int}(h:eH (F6 n))(hc:c.toNat<48):c∉(F6 n).data.toList:=fun hm=>by have:=h.dig c hm;omega
theorem OV{v:Ver}(h:Cy v=true){i:Nat}(hi:i<3):eH (F6 (part v i))/\Go.Lib.atoiAll (F6 (part v i)).data.toList=.ok (part v i):=by
 have q:=OR h i hi;exact cA q.1 q.2
theorem PF(a b:ByteArray):(a++b).data.toList=a.data.toList++b.data.toList:=by rw[FV,Array.toList_append]
theorem UQ{v:Ver}(h:Cy v=true):BC 46 (Gm v.a v.b v.c).data.toList=(wv v 3).map (·.data.toList):=by
 have d:=fun i hi=>(OV h (i:=i) hi).1;have e:(Gm v.a v.b v.c).data.toList=(F6 v.a).data.toList++46::((F6 v.b).data.toList++46::(F6 v.c).data.toList):=by
  unfold Gm;simp only[PF,B2];rfl
 rw[e,OM (show(46:UInt8)∉(F6 v.a).data.toList from LR (d 0 sR) sR),OM (show(46:UInt8)∉(F6 v.b).data.toList from LR (d 1 sR) sR),UL (show(46:UInt8)∉(F6 v.c).data.toList from LR (d 2 sR) sR)];rfl
theorem VI{v:Ver}(h:Cy v=true)(hc:c.toNat<46):c∉(Gm v.a v.b v.c).data.toList:=by
 have d:=fun i hi=>(OV h (i:=i) hi).1;have e:(Gm v.a v.b v.c).data.toList=(F6 v.a).data.toList++46::((F6 v.b).data.toList++46::(F6 v.c).data.toList):=by
  unfold Gm;simp only[PF,B2];rfl
 rw[e];intro hm;have pL:∀{x:UInt8},x=46->x.toNat<46->False:=fun e h=>by subst e;exact absurd h sR
 rcases By.1 hm with hm | hm
 .exact LR (d 0 sR) sP hm
 .rcases AS.1 hm with hm | hm
  .exact pL hm hc
  .rcases By.1 hm with hm | hm
   .exact LR (d 1 sR) sP hm
   .rcases AS.1 hm with hm | hm
    .exact pL hm hc
    .exact LR (d 2 sR) sP hm
theorem Yj(hv:Cy v=true):PC 105 [vs (Gm v.a v.b v.c)] (.tup [.agg [vi v.a,vi v.b,vi v.c],vi 0]):=by
 refine Ps (pC [] [13]) Tryz.func105 rfl (Nz rfl) (Xi .pure (Xi _ (Yi (UX (Gm v.a v.b v.c) 46 (wv v 3) (by unfold CT;have q:=Ft hv;have:=Mg (a:=v.a) (b:=v.b) (c:=v.c) sP sP sP;omega) (UQ hv)) (Yi (fun hf=>absurd (show(((wv v 3).map encStr).length:Int)=3 from rfl) hf) (fun _=>?_)))));refine Xi {q:Nat // q<=3} (Xi (fun q=>⟨[(2,.ref 2 0),(5,.ref 5 0),(15,sl encStr (wv v 3)),(16,vi ((wv v 3).map encStr).length),(17,vi q.1)],[(2,.cells [vi 0,vi 0,vi 0]),(5,.cells (pV v q.1))],Ao⟩) (Xi (fun q=>3-q.1) (Yi (Xi ⟨0,Ar _⟩ ?_) ?_)))
 .exact⟨Z5,Z2,Fh,Tv⟩
 intro⟨i,i1⟩;have i1:i<=3:=i1;refine Yi (fun h1=>?_) (fun h1=>?_)
 .have h1:(i:Int)<(((wv v 3).map encStr).length:Int):=h1;have n1:=FL h1;have XI:i<3:=n1;have hd:=(OV hv XI).1;have Fc:=hd.le;have fS:=hd.ge;refine Xi (encStr (F6 (part v i))) (Yi (Yi (Nn i) (CQ (ik v XI))) (Yi rfl (Xi .pure (Xi _ (Yi (show PC 164 [vs (F6 (part v i)),.v (.func (.func 165) #[] #[])] (vb false)from by have q:=jm (F6 (part v i));rw[hd.odd]at q;exact q) (Yi (fun h2=>?_) (fun h2=>?_)))))))
  .have h2:((F6 (part v i)):ByteArray)=⟨#[]⟩:=h2;exact absurd (Aa ByteArray.size h2) (by show ¬_=0;omega)
  have h2:¬((F6 (part v i)):ByteArray)=⟨#[]⟩:=h2;refine Yi (fun h3=>?_) (fun h3=>?_)
  .have h3:(3:Int)<((F6 (part v i)).size:Int):=h3;exact absurd h3 sP
  have h3:¬((3:Int)<((F6 (part v i)).size:Int)):=h3;refine Yi (fun h4=>?_) (fun h4=>?_)
  .have h4:(1:Int)<((F6 (part v i)).size:Int):=h4;refine Xi (Bl (F6 (part v i)) 0) (Yi (FG (s:=(F6 (part v i))) (z:=(0:Int)) (n:=0) sP rfl) (Yi (fun h5=>?_) (fun h5=>?_)))
   .have h5:(((Bl (F6 (part v i)) 0).toNat:Int):Int)=(48:Int):=h5;exact absurd h5 (fun e=>hd.lead sP sP)
   have h5:¬((((Bl (F6 (part v i)) 0).toNat:Int):Int)=(48:Int)):=h5;refine Xi .pure (Xi _ (Yi (XZ (F6 (part v i)) (part v i) sP (OV hv XI).2) (Yi (show(0:Int)<=i/\(i:Int)<(3:Nat)from by omega) (Yi (show(0+(i:Int).toNat*1)+1<=(pV v i).length from by show(0+(i:Int).toNat*1)+1<=3;omega) (Yi (Ii i sP) (Xi ⟨i+1,by omega⟩ ?_))))));exact⟨Dl 3 i sP,Z5,⟨Zr,⟨(show HO.cells (over (pV v i) (0+(i:Int).toNat*1) [vi (part v i)])=.cells (pV v (i+1))from Aa HO.cells (Vw v XI (show(0+(i:Int).toNat*1)=i by omega))),rfl⟩,Tv⟩,Fh,Tv⟩
  have h4:¬((1:Int)<((F6 (part v i)).size:Int)):=h4;refine Xi .pure (Xi _ (Yi (XZ (F6 (part v i)) (part v i) sP (OV hv XI).2) (Yi (show(0:Int)<=i/\(i:Int)<(3:Nat)from by omega) (Yi (show(0+(i:Int).toNat*1)+1<=(pV v i).length from by show(0+(i:Int).toNat*1)+1<=3;omega) (Yi (Ii i sP) (Xi ⟨i+1,by omega⟩ ?_))))));exact⟨Dl 3 i sP,Z5,⟨Zr,⟨(show HO.cells (over (pV v i) (0+(i:Int).toNat*1) [vi (part v i)])=.cells (pV v (i+1))from Aa HO.cells (Vw v XI (show(0+(i:Int).toNat*1)=i by omega))),rfl⟩,Tv⟩,Fh,Tv⟩
 have h1:¬((i:Int)<(((wv v 3).map encStr).length:Int)):=h1;have n1:=DC h1;refine cU [(2,.ref 2 0),(5,.ref 5 0)] [(2,.cells [vi 0,vi 0,vi 0]),(5,.cells [vi v.a,vi v.b,vi v.c])] Z2 ⟨Zr,⟨(Aa HO.cells (show pV v i=[vi v.a,vi v.b,vi v.c]from by rw[show i=3 by have q:=DC h1;rw[show(wv v 3).length=3 from rfl]at q;omega];rfl)),rfl⟩,Tv⟩ ?_
 refine Yi ⟨by decide,by decide⟩ ?_;refine Yi ⟨by decide,by decide⟩ ?_;refine Yi ⟨by decide,by decide⟩ ?_;refine yN (yN ?_);exact .refl _
def MV:Nat:=if i % 2=0 then(D[i / 2]?.getD 0).toNat / 16 else(D[i / 2]?.getD 0).toNat % 16
theorem gP:MV D i<16:=by
 unfold MV
 have:=(D[i / 2]?.getD 0).toNat_lt
 split<;>omega
theorem Sy:∀(D:List UInt8) (i:Nat),i<2*D.length->(Fz D)[i]?=some (Bl LK (MV D i))
 | [],i,h=>by simp at h
 |c::D,0,_=>rfl
 |c::D,1,_=>rfl
 |c::D,i+2,h=>by
  show(Fz D)[i]?=_;rw[Sy D i (by rw[Am]at h;omega)];have e1:(i+2) / 2=i / 2+1:=by omega
  have e2:(i+2) % 2=i % 2:=by omega
  unfold MV;rw[e1,e2];rfl
theorem Vf{d:ByteArray}{i:Nat}(h:i<2*d.size):Bl (GZ d) i=Bl LK (MV d.data.toList i):=by
 unfold Bl GZ;rw[<-Az];show((Fz d.data.toList)[i]?).getD 0=_;rw[Sy _ _ h];rfl
theorem Wu:(GZ d).size=2*d.size:=by
 show(Fz d.data.toList).toArray.size=_;rw[CF,NX];rfl
theorem bS:∀n,n<16->Go.Lib.indexByte LK.data.toList (((Bl LK n).toNat:Int)).toNat.toUInt8=(n:Int):=by decide +kernel
theorem ZV:∀a,a<16->∀b,b<16->BV .or .u8 (B0 .shl .u8 (a:Nat) 4) (IntKind.wrap .u8 ((b:Nat):Int))=((a*16+b:Nat):Int):=by decide +kernel
def pB(k:Nat):UInt8:=if 2*k+1<i then D[k]?.getD 0 else if 2*k<i then UInt8.ofNat ((D[k]?.getD 0).toNat / 16)else 0
def Ry:List UInt8:=(List.range 32).map (pB D i)
theorem Hl:(Ry D i).length=32:=by unfold Ry;rw[Lm,FZ]
theorem JB{k:Nat}(h:k<32):(Ry D i)[k]?=some (pB D i k):=by unfold Ry;rw[Ap,List.getElem?_range h];rfl
theorem cX:BV .or .u8 (B0 .shl .u8 ((pB D i (i / 2)).toNat:Int) 4) (IntKind.wrap .u8 ((MV D i:Nat):Int))=((pB D (i+1) (i / 2)).toNat:Int):=by
 have hl:=(D[i / 2]?.getD 0).toNat_lt;unfold MV pB
 by_cases h:i % 2=0
 .rw[Av h,Aj sP,Aj sP,Aj sP,Av sP];have q:=ZV 0 sR ((D[i / 2]?.getD 0).toNat / 16) sP;rw[Gt,Bf]at q;refine Eq.trans q ?_;rw[UInt8.toNat_ofNat_of_lt' (by show _<256;omega)]
 .rw[Aj h,Aj sP,Av sP,Av sP];have q:=ZV ((D[i / 2]?.getD 0).toNat / 16) sP ((D[i / 2]?.getD 0).toNat % 16) sP;rw[UInt8.toNat_ofNat_of_lt' (by show _<256;omega)];refine q.trans ?_
  congr 1;omega
theorem ZX{i:Nat}:(Ry D i).set (i / 2) (pB D (i+1) (i / 2))=Ry D (i+1):=by
 apply Cc;intro k;rw[List.getElem?_set]
 by_cases hk:k<32
 .by_cases e:i / 2=k
  .subst e;rw[Av rfl,Av (by rw[Hl];exact hk),JB _ _ hk]
  .rw[Aj e,JB _ _ hk,JB _ _ hk];unfold pB
   congr 1
   by_cases h1:2*k+1<i
   .rw[Av h1,Av sP]
   .rw[Aj h1,Aj (show ¬2*k+1<i+1 by omega)]
    by_cases h2:2*k<i
    .rw[Av h2,Av sP]
    .rw[Aj h2,Aj sP]
 .rw[AN (by rw[Hl];omega),AN (by rw[Hl];omega)];split<;>simp[Hl];omega
theorem cW{D:List UInt8}(h:D.length=32):Ry D 64=D:=by
 apply Cc;intro k
 by_cases hk:k<32
 .rw[JB _ _ hk,pB,Av sP,Ge sP];rfl
 .rw[AN (by rw[Hl];omega),AN sP]
theorem Ya(hd:d.size=32):PC 106 [vs (GZ d)] (.tup [vs d,vi 0]):=by
 have Dm:=Wu d;have Y4:d.data.toList.length=32:=hd;refine Ps ⟨[],[],[(10,1)],[],[],[],[],[],[],[(200012,4)],[12]⟩ Tryz.func106 rfl (Nz rfl) (Yi (fun h1=>?_) (fun h1=>?_))
 .have h1:((GZ d).size:Int)≠(64:Int):=h1;exact absurd (show((GZ d).size:Int)=64 by omega) h1
 have h1:((GZ d).size:Int)=(64:Int):=Ax h1;refine Yi (show(0:Int)<=32/\(32:Int)<=32/\(32:Int)*1<=140737488355328/\(32:Int)<=9223372036854775807 by omega) (Xi {q:Nat // q<=64} (Xi (fun q=>⟨[(0,vs (GZ d)),(4,.msl 10 32),(12,vi (GZ d).size),(13,vi q.1)],[(10,.arr 1 ((Ry d.data.toList q.1).map Bj))],Ao⟩) (Xi (fun q=>64-q.1) (Yi (Xi ⟨0,Ar _⟩ ?_) ?_))))
 .exact⟨Z4,⟨⟨(show HO.arr 1 (List.replicate (32:Int).toNat [AV.v (.int .u8 0)])=.arr 1 ((Ry d.data.toList 0).map Bj)from rfl),rfl⟩,Tv⟩,Fh,Tv⟩
 intro⟨i,i1⟩;have i1:i<=64:=i1;refine Yi (fun h2=>?_) (fun h2=>?_)
 .have h2:(i:Int)<((GZ d).size:Int):=h2;have rp:i<64:=by have q:=h2;omega
  have ov:=gP d.data.toList i;refine Xi (Bl (GZ d) i) (Yi (FG (s:=GZ d) (z:=(i:Int)) (show i<(GZ d).size by omega) rfl) (Xi .pure (Xi _ (Yi (show PC 167 [vs LK,.v (.int .u8 ((Bl (GZ d) i).toNat:Int))] (vi ((MV d.data.toList i:Nat):Int))from by have q:=jl LK ((Bl (GZ d) i).toNat:Int);rw[Vf sP,bS _ ov,<-Vf sP]at q;exact q) ?_))));refine Yi (fun h3=>?_) (fun h3=>?_)
  .have h3:(((MV d.data.toList i:Nat):Int):Int)<(0:Int):=h3;exact absurd h3 sP
  have h3:¬((((MV d.data.toList i:Nat):Int):Int)<(0:Int)):=h3;refine Yi ⟨by omega,by omega,(by show AE (i);unfold AE;omega)⟩ ?_;refine Yi ⟨by omega,by omega,(by show AE (i);unfold AE;omega)⟩ ?_;refine Yi (by show(0:Int)<=i / 2/\(i / 2:Int)<(32:Nat);omega) (Yi (show 32=((Ry d.data.toList i).map Bj).length by rw[Lm,Hl]) (Xi (Bj (pB d.data.toList i (i / 2))) (Yi (CQ (by rw[show((i:Int) / 2).toNat=i / 2 by omega];exact JB d.data.toList i sP)) ?_)));refine Yi sR (Yi (by show(0:Int)<=i / 2/\(i / 2:Int)<(32:Nat);omega) (Yi (show 32=((Ry d.data.toList i).map Bj).length by rw[Lm,Hl]) (Xi (Bj (pB d.data.toList i (i / 2))) (Yi (CQ (by rw[show((i:Int) / 2).toNat=i / 2 by omega];exact JB d.data.toList i sP)) (yN ?_)))));refine Yi (Ii i sP) ?_;have ew:(((Ry d.data.toList i).map Bj).set (i / 2:Int).toNat [.v (.int .u8 (BV .or .u8 (B0 .shl .u8 ((pB d.data.toList i (i / 2)).toNat:Int) 4) (IntKind.wrap .u8 ((MV d.data.toList i:Nat):Int))))])=(Ry d.data.toList (i+1)).map Bj:=by rw[cX,<-ZX (i:=i) d.data.toList,DX];exact Aa (fun z=>(List.map Bj (Ry d.data.toList i)).set z (Bj (pB d.data.toList (i+1) (i / 2)))) sP
  refine Xi ⟨i+1,by omega⟩ ?_;exact⟨Dl 64 i sP,Z4,⟨⟨(show HO.arr 1 (((Ry d.data.toList i).map Bj).set (i / 2:Int).toNat [.v (.int .u8 (BV .or .u8 (B0 .shl .u8 ((pB d.data.toList i (i / 2)).toNat:Int) 4) (IntKind.wrap .u8 ((MV d.data.toList i:Nat):Int))))])=.arr 1 ((Ry d.data.toList (i+1)).map Bj)from Aa (HO.arr 1) ew),rfl⟩,Tv⟩,Fh,Tv⟩
 have h2:¬((i:Int)<((GZ d).size:Int)):=h2;refine Yi (show 32=((Ry d.data.toList i).map Bj).length by rw[Lm,Hl]) (cU [(4,sl Bj (Ry d.data.toList i))] [] Z1 Tv (Xi d.data.toList (Yi (show(Ry d.data.toList i).map Bj=d.data.toList.map Bj by rw[show i=64 by omega,cW Y4]) ?_)));exact .refl _
end Go.Eng
