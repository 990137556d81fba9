/- Lemmas 22. -/
import Derived.Test.YtkjhcikodmiceaaGreatDoorMA21
namespace Go.Eng
open Go.Proofs Go.Proofs.Tryz
variable (A:List Tm)(x:List Rl)(ifs:C0)(p:CS)(s:AN)(r:Rl)(k:Nat)
abbrev qK:Prop:=∀l:List Tm,BF l->(∀t∈l,BF t.set)->PC 307 [sl M l] (IG l)
theorem vG(d4:qK)(l:List Tm)(hl:BF l)(hs:∀t∈l,BF t.set):PC 302 [sl M l] (sl M (H l)):=by
 have hc:=d4 l hl hs;refine Ps Dc func302 rfl C4 (C1 (U (hc) ?_));exact .refl _
theorem Uh:BF (BW s):=by grind [K6]
theorem c69(d4:qK)(q:Rq)(hq:BF q.set):PC 243 [.agg (Ac q)] (sl M (H [⟨q.path,true,BW q.set⟩])):=by
 have h1:=yW q hq;have h2:=vG d4 [⟨q.path,true,BW q.set⟩] aa0 (fun t ht=>by grind [Uh]);refine Ps Dc func243 rfl C4 (yN (C1 (U (h1) (C1 (U (h2) ?_)))));exact .refl _
theorem c72(d4:qK)(p:CS)(s:AN)(hs:BF s):PC 246 [vs p,sl Y s] (sl M (H [⟨p,false,BW s⟩])):=by
 have h1:=mv s hs;have h2:=vG d4 [⟨p,false,BW s⟩] aa0 (fun t ht=>by grind [Uh]);refine Ps Dc func246 rfl C4 (C1 (U (h1) (C1 (U (h2) ?_))));exact .refl _
theorem PN:BF (canon s):=by grind [Fb,BE]
abbrev Z0(n:Int):AN:=if n<0\/1000000<=n then []else Vi (canon [(n,1000000)]) (canon [(n+1,1000000)])
abbrev AfX:Ns:=(pT [] [(7,2)] [])
theorem c71(d4:qK)(p:CS)(n:Int)(hn:-4611686018427387904<=n/\n<=4611686018427387904)(q:Rq)(hq:BF q.set):PC 245 [vs p,G n,.agg (Ac q)] (sl M (H [⟨p,false,Z0 n⟩,⟨q.path,true,BW q.set⟩])):=by
 have h1:=yX n;have h2:=yX (n+1);have h3:=Adf (canon [(n,1000000)]) (canon [(n+1,1000000)]) (PN _) (PN _);have h4:=yW q hq;have hmi:BF (Vi (canon [(n,1000000)]) (canon [(n+1,1000000)])):=by
  have:=Fb (Jc (canon [(n,1000000)]) (BW (canon [(n+1,1000000)])))
  show(GC _ _).length<=_;omega
 have OU:BF (Z0 n):=by
  grind
 have h5:=vG d4 [⟨p,false,Z0 n⟩,⟨q.path,true,BW q.set⟩] aa0 (fun t ht=>by
  grind [Uh])
 obtain⟨N,hN⟩:∃N,N=H [⟨p,false,Z0 n⟩,⟨q.path,true,BW q.set⟩]:=⟨_,rfl⟩;rw[<-hN]at h5⊢;refine Ps AfX func245 rfl C4 (C1 (U (h1) (J (show Au (n+1) by unfold Au;omega) (C1 (U (h2) (C1 (U (h3) (J (fun ha=>?_) (fun ha=>?_)))))))))
 .have ha:n<0:=ha;have e:Z0 n=[]:=A1 (.inl ha);rw[e]at h5;refine yN (C1 (U (h4) (C1 (U (h5) ?_))));exact .refl _
 have ha:¬n<0:=ha;refine J (fun hb=>?_) (fun hb=>?_)
 .have hb:1000000<=n:=hb;have e:Z0 n=[]:=A1 (.inr hb);rw[e]at h5;refine yN (C1 (U (h4) (C1 (U (h5) ?_))));exact .refl _
 have hb:¬1000000<=n:=hb;have e:Z0 n=Vi (canon [(n,1000000)]) (canon [(n+1,1000000)]):=AL (fun h=>h.elim ha hb);rw[e]at h5;refine yN (C1 (U (h4) (C1 (U (h5) ?_))));exact .refl _
def Jw:Bool:=decide (r.path=p)&&!r.yanked
def Lw:Int×Int:=(plc r.ver,plc r.ver+1)
theorem WP{x:List Rl}{p:CS}(h:Aw x=0):Ba x p=canon ((x.filter (Jw p)).map Lw):=by
 unfold Ba IL;rw[AL (MC h),List.filter_filter]
 congr 3
 grind [Jw]
theorem jn{x:List Rl}{p:CS}(h:Aw x≠0):Ba x p=canon []:=by
 grind [Ba,IL]
theorem Ae4(hs:∀r∈x,Eo r)(h:Aw x≠0):PC 247 [GM x ifs,vs p] (sl Y (Ba x p)):=by
 have h1:=ul x ifs hs;have h2:=dC [] aa0;rw[jn h];refine Ps (DJ [8]) func247 rfl C4 (Z {i:Nat // i=0} (Z (fun i=>⟨[(1,vs p),(2,.ref 2 0),(5,Kk 8 []),(6,G i.1)],[(2,.cells (Ic x ifs)),(8,.tok 2 0)],Af⟩) (Z (fun i=>i.1) (J (Z ⟨0,rfl⟩ ?_) ?_))))
 .exact⟨Z4,Z2,Fh,W⟩
 intro⟨i,hi⟩;refine J (fun h3=>?_) (fun h3=>?_)
 .refine yN (C1 (U (h1) (J (fun h4=>absurd h4 h) (fun _=>?_))));refine cU [(5,Kk 8 [])] [(8,.tok 2 0)] Z1 Z1 (C1 (U (h2) ?_));exact .refl _
 .refine cU [(5,Kk 8 [])] [(8,.tok 2 0)] Z1 Z1 (C1 (U (h2) ?_));exact .refl _
theorem Ae5(hs:∀r∈x,Eo r)(h0:Aw x=0):PC 247 [GM x ifs,vs p] (sl Y (Ba x p)):=by
 have h1:=ul x ifs hs;rw[h0]at h1;have hx:=(Fi h0).1;have hv:∀r∈x,Bv r.ver=true:=fun r hr=>((Bp h0).1 r hr).val;have h2:=dC ((x.filter (Jw p)).map Lw) (by
  grind)
 rw[WP h0];refine Ps (DJ [4,6,8]) func247 rfl C4 (Z {q:Nat×AN // q.1<=x.length/\q.2=((x.take q.1).filter (Jw p)).map Lw} (Z (fun q=>⟨[(1,vs p),(2,.ref 2 0),(5,Kk 8 q.1.2),(6,G q.1.1)],[(2,.cells (Ic x ifs)),(8,.tok 2 q.1.2.length)],Af⟩) (Z (fun q=>x.length-q.1.1) (J (Z ⟨(0,[]),Ak _,rfl⟩ ?_) ?_))))
 .exact⟨Z4,Z2,Fh,W⟩
 intro⟨⟨i,A⟩,i1,i2⟩;have i1:i<=x.length:=i1;have i2:A=((x.take i).filter (Jw p)).map Lw:=i2;have hA:A.length<=i:=by
  grind
 refine J (fun h=>?_) (fun h=>?_)
 .skip
  have h:(i:Int)<(x.map V).length:=h;have h:i<x.length:=aa0
  have hg:x[i]?=some x[i]:=Ge h;have etk:((x.take (i+1)).filter (Jw p)).map Lw=A++([x[i]].filter (Jw p)).map Lw:=by grind [List.take_add_one]
  refine yN (C1 (U (h1) (J (fun _=>?_) (fun h9=>absurd rfl h9))));refine Z (V x[i]) (J (J Wk aa0) (J rfl ?_));refine J C4 (yN (cU [(1,vs p),(2,.ref 2 0),(5,Kk 8 A),(6,G i),(7,.ref 7 0)] [(2,.cells (Ic x ifs)),(7,.cells (V x[i])),(8,.tok 2 A.length)] Z5 Z3 ?_))
  have hvx:=hv x[i] (Ag h);have qA:plc x[i].ver=place x[i].ver:=A1 hvx;have hpr:=TM x[i].ver;have h5:=qu x[i].ver hvx;rw[<-qA]at h5;refine J (fun h3=>?_) (fun h3=>?_)
  .have h3:x[i].path=p:=h3;refine J (fun hy=>?_) (fun hy=>?_)
   .have hy:x[i].yanked=true:=hy;have hgd:Jw p x[i]=false:=by grind [Jw]
    refine cU [(1,vs p),(2,.ref 2 0),(5,Kk 8 A),(6,G i)] [(2,.cells (Ic x ifs)),(8,.tok 2 A.length)] Z4 Z2 (J (Ii i Wk) (Z ⟨(i+1,A),by omega,by simp_all⟩ ?_));exact⟨Dl x.length i Wk,Z4,Z2,Fh,W⟩
   have hy:x[i].yanked=false:=hy;have hgd:Jw p x[i]=true:=by unfold Jw;simp_all
   refine yN (U (h5) (yN (U (h5) (J (show Au (plc x[i].ver+1) by grind [Au]) ?_))));have De:A7 2 [Y (Lw x[i])]/\(A.map Y).length=A.length/\((A.map Y).length+[Y (Lw x[i])].length)*16<=140737488355328/\(A.map Y).length+[Y (Lw x[i])].length<=9223372036854775807:=
    ⟨⟨rfl,trivial⟩,by simp_all,by grind,by grind⟩
   refine J De (J aa4 (Al (show ∃B,B=A++[Lw x[i]]from⟨_,rfl⟩) (fun B hB=>?_)));have e1:AV.slice (.id 8 2) (A.map Y++[Y (Lw x[i])])=Kk 8 B:=aa0
   have e2:HO.tok 2 ((A.map Y).length+[Y (Lw x[i])].length)=.tok 2 B.length:=aa0
   refine cU [(1,vs p),(2,.ref 2 0),(5,Kk 8 B),(6,G i)] [(2,.cells (Ic x ifs)),(8,.tok 2 B.length)] ⟨X,X,⟨e1,rfl⟩,X,W⟩ ⟨X,⟨e2,rfl⟩,W⟩ (J (Ii i Wk) (Z ⟨(i+1,B),by omega,by simp_all⟩ ?_));exact⟨Dl x.length i Wk,Z4,Z2,Fh,W⟩
  have h3:¬x[i].path=p:=h3;have hgd:Jw p x[i]=false:=by grind [Jw]
  refine cU [(1,vs p),(2,.ref 2 0),(5,Kk 8 A),(6,G i)] [(2,.cells (Ic x ifs)),(8,.tok 2 A.length)] Z4 Z2 (J (Ii i Wk) (Z ⟨(i+1,A),by omega,by simp_all⟩ ?_));exact⟨Dl x.length i Wk,Z4,Z2,Fh,W⟩
 .skip
  have h:¬(i:Int)<(x.map V).length:=h;have h:¬i<x.length:=aa0
  have eA:A=(x.filter (Jw p)).map Lw:=aa2
  rw[<-eA]at h2;rw[<-eA];refine cU [(5,Kk 8 A)] [(8,.tok 2 A.length)] Z1 Z1 (C1 (U (h2) ?_));exact .refl _
theorem c73(hs:∀r∈x,Eo r):PC 247 [GM x ifs,vs p] (sl Y (Ba x p)):=by
 grind [Ae5,Ae4]
theorem IV{α:Type}{enc:α->List AV}{n:Nat}(h:∀x,(enc x).length=n)(l:List α):∀cs∈l.map enc,cs.length=n:=fun cs hc=>by
 grind
abbrev Ni:C0:=((A.map M).take (((A.map M).length:Nat):Int).toNat).drop ((k:Nat):Int).toNat
theorem tx:Ni A k=(A.drop k).map M:=by
 grind [List.take_of_length_le,List.map_drop]
abbrev lW:C0:=((A.map M).take ((k:Nat):Int).toNat).drop ((0:Int)).toNat
theorem wE:lW A k=(A.take k).map M:=by
 grind [List.map_take]
theorem Yj(x:Tm)(k:Nat)(h:A.length<=1073741824):A7 3 (Ni A k)/\[M x].length=1/\([M x].length+(Ni A k).length)*48<=140737488355328/\[M x].length+(Ni A k).length<=9223372036854775807:=by
 grind [HR]
theorem Yk(x:Tm)(k:Nat)(h:A.length<=1073741824):A7 3 ([M x]++Ni A k)/\0<([M x]++Ni A k).length/\((lW A k).length+([M x]++Ni A k).length)*48<=140737488355328/\(lW A k).length+([M x]++Ni A k).length<=9223372036854775807:=by
 grind [HR,List.length_singleton]
theorem ie(x:Tm)(k:Nat):lW A k++([M x]++Ni A k)=(A.take k++([x]++A.drop k)).map M:=by
 grind [tx,wE]
theorem Nj{l:C0}{k:Nat}{c x:List AV}(h:l[k]?=some x):(l.set k c)[k]?=some c:=List.getElem?_set_self (Bg.1 h).1
theorem tE(t:Tm)(c:List AV):((A.map M).set k c).set k (M t)=(A.set k t).map M:=aa0
theorem NF(a b:AN):GC a (canon b)=GC a b:=bA (fun _=>rfl) (EA b)
theorem RG(t:Tm):F7 t=(!t.absent&&decide (t.set=[])):=by
 grind [F7]
theorem mf{q:Tm->Bool}{l:List Tm}(h:∀j (hj:j<l.length),q l[j]=false):l.any q=false:=by
 grind [List.getElem_of_mem]
set_option maxHeartbeats 4000000 in
theorem OI(l:List Tm)(hl:BF l)(hs:∀t∈l,BF t.set):PC 307 [sl M l] (IG l):=by
 have hc:∀s:AN,BF s->PC 116 [sl Y s] (sl Y (canon s)):=dC;have rM:∀(u t:Tm),ED u.set->PC 354 [.slice .none [[sl Y u.set],[sl Y (canon t.set)]]] (sl Y (GC u.set (canon t.set))):=fun u t hu=>y7 [u.set,canon t.set] aa0 (fun s hs=>by
  grind [IX,PN]) (by
  grind [K6])
 refine Ps ⟨[],[],[(10,3),(93,3),(100,3)],[],[],[],[],[],[],[(200004,10004),(200012,4)],[4,6,12]⟩ func307 rfl C4 (Z {q:Nat×List Tm // q.1<=l.length/\q.2=Ds (l.take q.1)} (Z (fun q=>⟨[(0,sl M l),(4,.msl 10 q.1.2.length),(5,G q.1.1)],[(10,.arr 3 (q.1.2.map M))],Af⟩) (Z (fun q=>l.length-q.1.1) (J (Z ⟨(0,[]),Ak _,rfl⟩ ?_) ?_))))
 .exact⟨Z3,Z1,Fh,W⟩
 intro⟨⟨i,A⟩,i1,i2⟩;have hA:A.length<=i:=by grind [Vh]
 have yd:∀t∈A,ED t.set:=fun t ht=>by grind [DT,BL.canon]
 refine J (fun h1=>?_) (fun h1=>?_)
 .have h1:(i:Int)<((l.map M).length:Int):=h1;have n1:i<l.length:=aa0
  have g1:l[i]?=some l[i]:=Ge n1;refine Z (M l[i]) (J (J (Nn i) (Br g1)) (J rfl (Z (M l[i]) (J (J (Nn i) (Br g1)) (J rfl (J (fun h2=>?_) (fun h2=>?_)))))))
  .have h2:l[i].absent=true:=h2;refine Z (M l[i]) (J (J (Nn i) (Br g1)) (J rfl (U (hc (l[i].set) (hs _ (Ag n1))) (yN (J aa4 (cU [(0,sl M l),(4,.msl 10 A.length),(5,G i),(6,.ref 6 0)] [(6,.cells [vs l[i].path,I l[i].absent,sl Y (canon l[i].set)]),(10,.arr 3 (A.map M))] Z4 ⟨⟨(show HO.cells [vs l[i].path,I true,sl Y (canon l[i].set)]=.cells [vs l[i].path,I l[i].absent,sl Y (canon l[i].set)] by simp_all),rfl⟩,X,W⟩ ?_))))))
   refine Z {k:Nat // k<=A.length/\∀j (h:j<A.length),j<k->Ek A[j].path l[i].path=true} (Z (fun q=>⟨[(0,sl M l),(4,.msl 10 A.length),(5,G i),(6,.ref 6 0),(7,G q.1)],[(6,.cells [vs l[i].path,I l[i].absent,sl Y (canon l[i].set)]),(10,.arr 3 (A.map M))],Af⟩) (Z (fun q=>A.length-q.1) (J (Z ⟨0,Ak _,fun j _ h=>by omega⟩ ?_) ?_)))
   .exact⟨Z5,Z2,Fh,W⟩
   intro⟨k,k1,k2⟩;refine J (fun h3=>?_) (fun h3=>?_)
   .have h3:(k:Int)<(A.length:Int):=h3;have n3:k<A.length:=Wk
    have g3:A[k]?=some A[k]:=Ge n3;refine J Wk (J (show A.length=(A.map M).length by simp) (Z (M A[k]) (J (Br g3) (J (fun h4=>?_) (fun h4=>?_)))))
    .have h4:Ek A[k].path l[i].path=true:=(DZ _ _).trans h4;refine J aa4 (J (by grind [Au]) (Z ⟨k+1,by omega,fun j hj F6=>(B9 j k).elim (k2 j hj) (fun z=>by grind)⟩ ?_));exact⟨by grind,Z5,Z2,Fh,W⟩
    have h4:Ek A[k].path l[i].path=false:=(DZ _ _).trans (BC.2 h4);refine J aa4 (J (fun _=>?_) (fun hf=>absurd h3 hf));refine J Wk (J (show A.length=(A.map M).length by simp) (Z (M A[k]) (J (Br g3) (J (fun h6=>?_) (fun h6=>?_)))))
    .have h6:(A[k].path:CS)=l[i].path:=h6;refine J aa4 (J Wk (J (show A.length=(A.map M).length by simp) (Z (M A[k]) (J (Br g3) (J (fun h7=>?_) (fun h7=>?_))))))
     .have h7:A[k].absent=true:=h7;refine J (fun _=>?_) (fun hf=>absurd (hf.symm.trans (h2:l[i].absent=true)) aa3);refine J Wk (J (show A.length=(A.map M).length by simp) (Z (M A[k]) (J (Br g3) (yN (J Wk (J (show A.length=(((A.map M).set k [vs A[k].path,I true,sl Y A[k].set]):C0).length by simp) (Z [vs A[k].path,I true,sl Y A[k].set] (J (Nj (Br g3)) ?_))))))));refine U (rM A[k] l[i] (yd _ (Ag n3))) (J Wk (J (show A.length=(((A.map M).set k [vs A[k].path,I true,sl Y A[k].set]):C0).length by simp) (Z [vs A[k].path,I true,sl Y A[k].set] (J (Nj (Br g3)) (yN ?_)))));refine J aa4 ?_;have hB:HJ l[i] A=A.set k (ET A[k] l[i]):=Tx l[i] A k n3 k2 h6;refine Al (show ∃B,B=A.set k (ET A[k] l[i])from⟨_,rfl⟩) (fun B YL=>?_);have YM:B=Ds (l.take (i+1)):=by grind [FC]
      have W6:HO.arr 3 (((A.map M).set k [vs A[k].path,I true,sl Y A[k].set]).set k [vs A[k].path,I true,sl Y (GC A[k].set (canon l[i].set))])=.arr 3 (B.map M):=by
       rw[NF,YL];exact Aa (HO.arr 3) ((Aa (fun b=>((A.map M).set k _).set k [vs A[k].path,I b,sl Y (GC A[k].set l[i].set)]) (show true=(A[k].absent&&l[i].absent) by simp_all)).trans (tE A k (ET A[k] l[i]) _))
      have e4:AV.msl 10 A.length=.msl 10 B.length:=aa0
      refine cU [(0,sl M l),(4,.msl 10 B.length),(5,G i)] [(10,.arr 3 (B.map M))] ⟨X,⟨e4,rfl⟩,X,W⟩ ⟨⟨W6,rfl⟩,W⟩ (J (Ii i Wk) (Z ⟨(i+1,B),by omega,YM⟩ ?_));exact⟨by grind,Z3,Z1,Fh,W⟩
     have h7:A[k].absent=false:=h7;refine J Wk (J (show A.length=(A.map M).length by simp) (Z (M A[k]) (J (Br g3) (yN (J Wk (J (show A.length=(((A.map M).set k [vs A[k].path,I false,sl Y A[k].set]):C0).length by simp) (Z [vs A[k].path,I false,sl Y A[k].set] (J (Nj (Br g3)) ?_))))))));refine U (rM A[k] l[i] (yd _ (Ag n3))) (J Wk (J (show A.length=(((A.map M).set k [vs A[k].path,I false,sl Y A[k].set]):C0).length by simp) (Z [vs A[k].path,I false,sl Y A[k].set] (J (Nj (Br g3)) (yN ?_)))));refine J aa4 ?_;have hB:HJ l[i] A=A.set k (ET A[k] l[i]):=Tx l[i] A k n3 k2 h6;refine Al (show ∃B,B=A.set k (ET A[k] l[i])from⟨_,rfl⟩) (fun B YL=>?_);have YM:B=Ds (l.take (i+1)):=by grind [FC]
     have W6:HO.arr 3 (((A.map M).set k [vs A[k].path,I false,sl Y A[k].set]).set k [vs A[k].path,I false,sl Y (GC A[k].set (canon l[i].set))])=.arr 3 (B.map M):=by
      rw[NF,YL];exact Aa (HO.arr 3) ((Aa (fun b=>((A.map M).set k _).set k [vs A[k].path,I b,sl Y (GC A[k].set l[i].set)]) (show false=(A[k].absent&&l[i].absent) by simp_all)).trans (tE A k (ET A[k] l[i]) _))
     have e4:AV.msl 10 A.length=.msl 10 B.length:=aa0
     refine cU [(0,sl M l),(4,.msl 10 B.length),(5,G i)] [(10,.arr 3 (B.map M))] ⟨X,⟨e4,rfl⟩,X,W⟩ ⟨⟨W6,rfl⟩,W⟩ (J (Ii i Wk) (Z ⟨(i+1,B),by omega,YM⟩ ?_));exact⟨by grind,Z3,Z1,Fh,W⟩
    have h6:¬(A[k].path:CS)=l[i].path:=h6;refine J aa4 (J aa0 ?_);refine cU [(0,sl M l),(4,sl M A),(5,G i),(6,.ref 6 0),(7,G k)] [(6,.cells [vs l[i].path,I l[i].absent,sl Y (canon l[i].set)])] Z5 Z1 (J (show(0:Int)<=0/\(0:Int)<=k/\(k:Int)=k/\(k:Int)<=((A.map M).length:Nat) by grind) (J (IV (enc:=M) (n:=3) (fun _=>rfl) A) (yN (J (show(0:Int)<=k/\(k:Int)<=((A.map M).length:Nat)/\(((A.map M).length:Nat):Int)<=((A.map M).length:Nat) by grind) (J (IV (enc:=M) (n:=3) (fun _=>rfl) A) ?_)))));refine J (Yj A (Dp l[i]) k Wk) (J (Yk A (Dp l[i]) k Wk) (J aa4 ?_));have hB:HJ l[i] A=(A.take k++([Dp l[i]]++A.drop k)):=Qu l[i] A k k1 k2 (fun h=>⟨h4,h6⟩);have YM:(A.take k++([Dp l[i]]++A.drop k))=Ds (l.take (i+1)):=by grind [FC]
    refine J rfl (Al (show ∃B,B=(A.take k++([Dp l[i]]++A.drop k))from⟨_,rfl⟩) (fun B YL=>?_));rw[<-YL]at YM;have W6:HO.arr 3 (lW A k++([M (Dp l[i])]++Ni A k))=.arr 3 (B.map M):=by rw[ie,YL]
    have e4:AV.msl 10 (lW A k++([M (Dp l[i])]++Ni A k)).length=.msl 10 B.length:=aa0
    refine cU [(0,sl M l),(4,.msl 10 B.length),(5,G i)] [(10,.arr 3 (B.map M))] ⟨X,⟨e4,rfl⟩,X,W⟩ ⟨⟨W6,rfl⟩,W⟩ (J (Ii i Wk) (Z ⟨(i+1,B),by omega,YM⟩ ?_));exact⟨by grind,Z3,Z1,Fh,W⟩
   have h3:¬((k:Int)<(A.length:Int)):=h3;have n3:¬k<A.length:=Wk
   refine J aa4 (J (fun hf=>absurd hf h3) (fun _=>?_));refine J aa4 (J aa0 ?_);refine cU [(0,sl M l),(4,sl M A),(5,G i),(6,.ref 6 0),(7,G k)] [(6,.cells [vs l[i].path,I l[i].absent,sl Y (canon l[i].set)])] Z5 Z1 (J (show(0:Int)<=0/\(0:Int)<=k/\(k:Int)=k/\(k:Int)<=((A.map M).length:Nat) by grind) (J (IV (enc:=M) (n:=3) (fun _=>rfl) A) (yN (J (show(0:Int)<=k/\(k:Int)<=((A.map M).length:Nat)/\(((A.map M).length:Nat):Int)<=((A.map M).length:Nat) by grind) (J (IV (enc:=M) (n:=3) (fun _=>rfl) A) ?_)))));refine J (Yj A (Dp l[i]) k Wk) (J (Yk A (Dp l[i]) k Wk) (J aa4 ?_));have hB:HJ l[i] A=(A.take k++([Dp l[i]]++A.drop k)):=Qu l[i] A k k1 k2 (fun h=>absurd h Wk);have YM:(A.take k++([Dp l[i]]++A.drop k))=Ds (l.take (i+1)):=by grind [FC]
   refine J rfl (Al (show ∃B,B=(A.take k++([Dp l[i]]++A.drop k))from⟨_,rfl⟩) (fun B YL=>?_));rw[<-YL]at YM;have W6:HO.arr 3 (lW A k++([M (Dp l[i])]++Ni A k))=.arr 3 (B.map M):=by rw[ie,YL]
   have e4:AV.msl 10 (lW A k++([M (Dp l[i])]++Ni A k)).length=.msl 10 B.length:=aa0
   refine cU [(0,sl M l),(4,.msl 10 B.length),(5,G i)] [(10,.arr 3 (B.map M))] ⟨X,⟨e4,rfl⟩,X,W⟩ ⟨⟨W6,rfl⟩,W⟩ (J (Ii i Wk) (Z ⟨(i+1,B),by omega,YM⟩ ?_));exact⟨by grind,Z3,Z1,Fh,W⟩
  have h2:l[i].absent=false:=h2;refine Z (M l[i]) (J (J (Nn i) (Br g1)) (J rfl (U (hc (l[i].set) (hs _ (Ag n1))) (yN (J aa4 (cU [(0,sl M l),(4,.msl 10 A.length),(5,G i),(6,.ref 6 0)] [(6,.cells [vs l[i].path,I l[i].absent,sl Y (canon l[i].set)]),(10,.arr 3 (A.map M))] Z4 ⟨⟨(show HO.cells [vs l[i].path,I false,sl Y (canon l[i].set)]=.cells [vs l[i].path,I l[i].absent,sl Y (canon l[i].set)] by simp_all),rfl⟩,X,W⟩ ?_))))))
  refine Z {k:Nat // k<=A.length/\∀j (h:j<A.length),j<k->Ek A[j].path l[i].path=true} (Z (fun q=>⟨[(0,sl M l),(4,.msl 10 A.length),(5,G i),(6,.ref 6 0),(7,G q.1)],[(6,.cells [vs l[i].path,I l[i].absent,sl Y (canon l[i].set)]),(10,.arr 3 (A.map M))],Af⟩) (Z (fun q=>A.length-q.1) (J (Z ⟨0,Ak _,fun j _ h=>by omega⟩ ?_) ?_)))
  .exact⟨Z5,Z2,Fh,W⟩
  intro⟨k,k1,k2⟩;refine J (fun GH=>?_) (fun GH=>?_)
  .have GH:(k:Int)<(A.length:Int):=GH;have n12:k<A.length:=Wk
   have g12:A[k]?=some A[k]:=Ge n12;refine J Wk (J (show A.length=(A.map M).length by simp) (Z (M A[k]) (J (Br g12) (J (fun MB=>?_) (fun MB=>?_)))))
   .have MB:Ek A[k].path l[i].path=true:=(DZ _ _).trans MB;refine J aa4 (J (by grind [Au]) (Z ⟨k+1,by omega,fun j hj F6=>(B9 j k).elim (k2 j hj) (fun z=>by grind)⟩ ?_));exact⟨by grind,Z5,Z2,Fh,W⟩
   have MB:Ek A[k].path l[i].path=false:=(DZ _ _).trans (BC.2 MB);refine J aa4 (J (fun _=>?_) (fun hf=>absurd GH hf));refine J Wk (J (show A.length=(A.map M).length by simp) (Z (M A[k]) (J (Br g12) (J (fun Jb=>?_) (fun Jb=>?_)))))
   .have Jb:(A[k].path:CS)=l[i].path:=Jb;refine J aa4 (J Wk (J (show A.length=(A.map M).length by simp) (Z (M A[k]) (J (Br g12) (J (fun MQ=>?_) (fun MQ=>?_))))))
    .have MQ:A[k].absent=true:=MQ;refine J (fun hf=>absurd (hf.symm.trans (h2:l[i].absent=false)) aa3) (fun _=>?_);refine J Wk (J (show A.length=(A.map M).length by simp) (Z (M A[k]) (J (Br g12) (yN (J Wk (J (show A.length=(((A.map M).set k [vs A[k].path,I false,sl Y A[k].set]):C0).length by simp) (Z [vs A[k].path,I false,sl Y A[k].set] (J (Nj (Br g12)) ?_))))))));refine U (rM A[k] l[i] (yd _ (Ag n12))) (J Wk (J (show A.length=(((A.map M).set k [vs A[k].path,I false,sl Y A[k].set]):C0).length by simp) (Z [vs A[k].path,I false,sl Y A[k].set] (J (Nj (Br g12)) (yN ?_)))));refine J aa4 ?_;have hB:HJ l[i] A=A.set k (ET A[k] l[i]):=Tx l[i] A k n12 k2 Jb;refine Al (show ∃B,B=A.set k (ET A[k] l[i])from⟨_,rfl⟩) (fun B YL=>?_);have YM:B=Ds (l.take (i+1)):=by grind [FC]
     have W6:HO.arr 3 (((A.map M).set k [vs A[k].path,I false,sl Y A[k].set]).set k [vs A[k].path,I false,sl Y (GC A[k].set (canon l[i].set))])=.arr 3 (B.map M):=by
      rw[NF,YL];exact Aa (HO.arr 3) ((Aa (fun b=>((A.map M).set k _).set k [vs A[k].path,I b,sl Y (GC A[k].set l[i].set)]) (show false=(A[k].absent&&l[i].absent) by simp_all)).trans (tE A k (ET A[k] l[i]) _))
     have e4:AV.msl 10 A.length=.msl 10 B.length:=aa0
     refine cU [(0,sl M l),(4,.msl 10 B.length),(5,G i)] [(10,.arr 3 (B.map M))] ⟨X,⟨e4,rfl⟩,X,W⟩ ⟨⟨W6,rfl⟩,W⟩ (J (Ii i Wk) (Z ⟨(i+1,B),by omega,YM⟩ ?_));exact⟨by grind,Z3,Z1,Fh,W⟩
    have MQ:A[k].absent=false:=MQ;refine J Wk (J (show A.length=(A.map M).length by simp) (Z (M A[k]) (J (Br g12) (yN (J Wk (J (show A.length=(((A.map M).set k [vs A[k].path,I false,sl Y A[k].set]):C0).length by simp) (Z [vs A[k].path,I false,sl Y A[k].set] (J (Nj (Br g12)) ?_))))))));refine U (rM A[k] l[i] (yd _ (Ag n12))) (J Wk (J (show A.length=(((A.map M).set k [vs A[k].path,I false,sl Y A[k].set]):C0).length by simp) (Z [vs A[k].path,I false,sl Y A[k].set] (J (Nj (Br g12)) (yN ?_)))));refine J aa4 ?_;have hB:HJ l[i] A=A.set k (ET A[k] l[i]):=Tx l[i] A k n12 k2 Jb;refine Al (show ∃B,B=A.set k (ET A[k] l[i])from⟨_,rfl⟩) (fun B YL=>?_);have YM:B=Ds (l.take (i+1)):=by grind [FC]
    have W6:HO.arr 3 (((A.map M).set k [vs A[k].path,I false,sl Y A[k].set]).set k [vs A[k].path,I false,sl Y (GC A[k].set (canon l[i].set))])=.arr 3 (B.map M):=by
     rw[NF,YL];exact Aa (HO.arr 3) ((Aa (fun b=>((A.map M).set k _).set k [vs A[k].path,I b,sl Y (GC A[k].set l[i].set)]) (show false=(A[k].absent&&l[i].absent) by simp_all)).trans (tE A k (ET A[k] l[i]) _))
    have e4:AV.msl 10 A.length=.msl 10 B.length:=aa0
    refine cU [(0,sl M l),(4,.msl 10 B.length),(5,G i)] [(10,.arr 3 (B.map M))] ⟨X,⟨e4,rfl⟩,X,W⟩ ⟨⟨W6,rfl⟩,W⟩ (J (Ii i Wk) (Z ⟨(i+1,B),by omega,YM⟩ ?_));exact⟨by grind,Z3,Z1,Fh,W⟩
   have Jb:¬(A[k].path:CS)=l[i].path:=Jb;refine J aa4 (J aa0 ?_);refine cU [(0,sl M l),(4,sl M A),(5,G i),(6,.ref 6 0),(7,G k)] [(6,.cells [vs l[i].path,I l[i].absent,sl Y (canon l[i].set)])] Z5 Z1 (J (show(0:Int)<=0/\(0:Int)<=k/\(k:Int)=k/\(k:Int)<=((A.map M).length:Nat) by grind) (J (IV (enc:=M) (n:=3) (fun _=>rfl) A) (yN (J (show(0:Int)<=k/\(k:Int)<=((A.map M).length:Nat)/\(((A.map M).length:Nat):Int)<=((A.map M).length:Nat) by grind) (J (IV (enc:=M) (n:=3) (fun _=>rfl) A) ?_)))));refine J (Yj A (Dp l[i]) k Wk) (J (Yk A (Dp l[i]) k Wk) (J aa4 ?_));have hB:HJ l[i] A=(A.take k++([Dp l[i]]++A.drop k)):=Qu l[i] A k k1 k2 (fun h=>⟨MB,Jb⟩);have YM:(A.take k++([Dp l[i]]++A.drop k))=Ds (l.take (i+1)):=by grind [FC]
   refine J rfl (Al (show ∃B,B=(A.take k++([Dp l[i]]++A.drop k))from⟨_,rfl⟩) (fun B YL=>?_));rw[<-YL]at YM;have W6:HO.arr 3 (lW A k++([M (Dp l[i])]++Ni A k))=.arr 3 (B.map M):=by rw[ie,YL]
   have e4:AV.msl 10 (lW A k++([M (Dp l[i])]++Ni A k)).length=.msl 10 B.length:=aa0
   refine cU [(0,sl M l),(4,.msl 10 B.length),(5,G i)] [(10,.arr 3 (B.map M))] ⟨X,⟨e4,rfl⟩,X,W⟩ ⟨⟨W6,rfl⟩,W⟩ (J (Ii i Wk) (Z ⟨(i+1,B),by omega,YM⟩ ?_));exact⟨by grind,Z3,Z1,Fh,W⟩
  have GH:¬((k:Int)<(A.length:Int)):=GH;have n12:¬k<A.length:=Wk
  refine J aa4 (J (fun hf=>absurd hf GH) (fun _=>?_));refine J aa4 (J aa0 ?_);refine cU [(0,sl M l),(4,sl M A),(5,G i),(6,.ref 6 0),(7,G k)] [(6,.cells [vs l[i].path,I l[i].absent,sl Y (canon l[i].set)])] Z5 Z1 (J (show(0:Int)<=0/\(0:Int)<=k/\(k:Int)=k/\(k:Int)<=((A.map M).length:Nat) by grind) (J (IV (enc:=M) (n:=3) (fun _=>rfl) A) (yN (J (show(0:Int)<=k/\(k:Int)<=((A.map M).length:Nat)/\(((A.map M).length:Nat):Int)<=((A.map M).length:Nat) by grind) (J (IV (enc:=M) (n:=3) (fun _=>rfl) A) ?_)))));refine J (Yj A (Dp l[i]) k Wk) (J (Yk A (Dp l[i]) k Wk) (J aa4 ?_));have hB:HJ l[i] A=(A.take k++([Dp l[i]]++A.drop k)):=Qu l[i] A k k1 k2 (fun h=>absurd h Wk);have YM:(A.take k++([Dp l[i]]++A.drop k))=Ds (l.take (i+1)):=by grind [FC]
  refine J rfl (Al (show ∃B,B=(A.take k++([Dp l[i]]++A.drop k))from⟨_,rfl⟩) (fun B YL=>?_));rw[<-YL]at YM;have W6:HO.arr 3 (lW A k++([M (Dp l[i])]++Ni A k))=.arr 3 (B.map M):=by rw[ie,YL]
  have e4:AV.msl 10 (lW A k++([M (Dp l[i])]++Ni A k)).length=.msl 10 B.length:=aa0
  refine cU [(0,sl M l),(4,.msl 10 B.length),(5,G i)] [(10,.arr 3 (B.map M))] ⟨X,⟨e4,rfl⟩,X,W⟩ ⟨⟨W6,rfl⟩,W⟩ (J (Ii i Wk) (Z ⟨(i+1,B),by omega,YM⟩ ?_));exact⟨by grind,Z3,Z1,Fh,W⟩
 have h1:¬((i:Int)<((l.map M).length:Int)):=h1;have n1:¬i<l.length:=aa0
 have hAl:A=Ds l:=aa2
 refine Z {q:Nat×List Tm // q.1<=A.length/\(∀j (h:j<A.length),j<q.1->F7 A[j]=false)/\q.2=(A.take q.1).filter fun t=>!Fx t} (Z (fun q=>⟨[(4,.msl 10 A.length),(8,.slice (.id 101 3) (q.1.2.map M)),(9,G q.1.1)],[(10,.arr 3 (A.map M)),(101,.tok 3 q.1.2.length)],Af⟩) (Z (fun q=>A.length-q.1.1) (J (Z ⟨(0,[]),Ak _,fun j _ h=>by omega,rfl⟩ ?_) ?_)))
 .exact⟨Z3,Z2,Fh,W⟩
 intro⟨⟨j,O⟩,j1,j2,j3⟩;have j1:j<=A.length:=j1;have j2:∀m (h:m<A.length),m<j->F7 A[m]=false:=j2;have j3:O=(A.take j).filter (fun t=>!Fx t):=j3;have hO:O.length<=j:=by
  grind
 refine J (fun YK=>?_) (fun YK=>?_)
 .have YK:(j:Int)<(A.length:Int):=YK;have n21:j<A.length:=Wk
  have g21:A[j]?=some A[j]:=Ge n21;refine J Wk (J (show A.length=(A.map M).length by simp) (Z (M A[j]) (J (Br g21) (yN (Ay (Bt (!A[j].absent&&decide (A[j].set=[]))) (fun N9=>?_) (fun N9=>?_))))))
  .have N9:(!A[j].absent&&decide (A[j].set=[]))=true:=N9;have nF:=y8 A[j];rw[show(!A[j].absent&&decide (A[j].set=[]))=true from N9]at nF;refine C1 (U nF ?_);have hcn:Bj l=none:=by grind [Bj,RG]
   exact(show CD (.tup [BY,I false]) (.tup [.slice .none [],I false])from CD.tup ⟨.nil,.refl _,trivial⟩).trans (.of_eq (show AV.tup [.slice .none [],I false]=IG l by grind [H]))
  have N9:(!A[j].absent&&decide (A[j].set=[]))=false:=N9;have Aa6:=y8 A[j];rw[show(!A[j].absent&&decide (A[j].set=[]))=false from N9]at Aa6;refine C1 (U Aa6 (J Wk (J (show A.length=(A.map M).length by simp) (Z (M A[j]) (J (Br g21) (yN (Ay (Bt (A[j].absent&&decide (A[j].set=[(0,1000000)]))) (fun Wc=>?_) (fun Wc=>?_))))))))
  .have Wc:(A[j].absent&&decide (A[j].set=[(0,1000000)]))=true:=Wc;have Aa8:=y9 A[j] (IX (yd _ (Ag n21)));rw[show(A[j].absent&&decide (A[j].set=[(0,1000000)]))=true from Wc]at Aa8;refine C1 (U Aa8 (J (by grind [Au]) (Z ⟨(j+1,O),by omega,fun m hm hmj=>(B9 m j).elim (j2 m hm) (fun z=>by grind [RG]),by show O=(A.take (j+1)).filter _;rw[Dv,Ge n21,H5,<-j3];grind [Fx]⟩ ?_)));exact⟨Dl A.length j Wk,Z3,Z2,Fh,W⟩
  have Wc:(A[j].absent&&decide (A[j].set=[(0,1000000)]))=false:=Wc;have Aa9:=y9 A[j] (IX (yd _ (Ag n21)));rw[show(A[j].absent&&decide (A[j].set=[(0,1000000)]))=false from Wc]at Aa9;refine C1 (U Aa9 (J Wk (J (show A.length=(A.map M).length by simp) (Z (M A[j]) (J (Br g21) (yN ?_))))));have b30:A7 3 [(M A[j])]/\(O.map M).length=O.length/\((O.map M).length+([(M A[j])]:C0).length)*48<=140737488355328/\(O.map M).length+([(M A[j])]:C0).length<=9223372036854775807:=⟨⟨rfl,trivial⟩,aa1,aa2,aa2⟩;refine J b30 (J (by grind [Au]) (Z ⟨(j+1,(O++[A[j]])),by omega,fun m hm hmj=>(B9 m j).elim (j2 m hm) (fun z=>by grind [RG]),by show(O++[A[j]])=(A.take (j+1)).filter _;rw[Dv,Ge n21,H5,<-j3];show _=O++[A[j]].filter _;rw[List.filter_cons,A1 (by grind [Fx])];simp⟩ ?_));exact⟨Dl A.length j Wk,⟨X,⟨(show AV.slice (.id 101 3) (O.map M++[M A[j]])=.slice (.id 101 3) ((O++[A[j]]).map M) by simp),rfl⟩,X,W⟩,⟨X,⟨(show HO.tok 3 ((O.map M).length+[M A[j]].length)=.tok 3 (O++[A[j]]).length by simp),rfl⟩,W⟩,Fh,W⟩
 have YK:¬((j:Int)<(A.length:Int)):=YK;have n21:¬j<A.length:=Wk
 have ej:A.take j=A:=A3 Wk;rw[ej]at j3;have hcn:Bj l=some O:=by grind [Bj,mf]
 exact .of_eq (show AV.tup [sl M O,I true]=IG l by grind [H])
end Go.Eng
