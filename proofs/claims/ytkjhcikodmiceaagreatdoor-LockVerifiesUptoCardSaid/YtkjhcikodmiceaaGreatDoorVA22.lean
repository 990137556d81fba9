/- Lemmas 22. -/
import Derived.Test.YtkjhcikodmiceaaGreatDoorVA21
namespace Go.Eng
open Go.Proofs Go.Proofs.Tryz
variable (A:List Tm)(x:List Rl)(ifs:C0)(p:CS)(s:AL)(r:Rl)(k:Nat)
abbrev o0:Prop:=∀l:List Tm,BO l->(∀t∈l,BO t.set)->PC 307 [sl Ac l] (Io l)
theorem tx(cH:o0)(l:List Tm)(hl:BO l)(hs:∀t∈l,BO t.set):PC 302 [sl Ac l] (sl Ac (BU l)):=by
 have hc:=cH l hl hs;refine Ps CX func302 rfl (Nz rfl) (C1 (C2 (hc) ?_));exact .refl _
theorem TA:BO (BV s):=by grind [KG]
theorem c69(cH:o0)(q:Rq)(hq:BO q.set):PC 243 [.agg (Ad q)] (sl Ac (BU [⟨q.path,true,BV q.set⟩])):=by
 have h1:=wY q hq;have h2:=tx cH [⟨q.path,true,BV q.set⟩] (by simp_all) (fun t ht=>by grind [TA]);refine Ps CX func243 rfl (Nz rfl) (yN (C1 (C2 (h1) (C1 (C2 (h2) ?_)))));exact .refl _
theorem c72(cH:o0)(p:CS)(s:AL)(hs:BO s):PC 246 [vs p,sl Ab s] (sl Ac (BU [⟨p,false,BV s⟩])):=by
 have h1:=kM s hs;have h2:=tx cH [⟨p,false,BV s⟩] (by simp_all) (fun t ht=>by grind [TA]);refine Ps CX func246 rfl (Nz rfl) (C1 (C2 (h1) (C1 (C2 (h2) ?_))));exact .refl _
theorem Pg:BO (canon s):=by grind [E6,BG]
abbrev YW(n:Int):AL:=if n<0\/1000000<=n then []else UF (canon [(n,1000000)]) (canon [(n+1,1000000)])
abbrev AdU:M5:=(pT [] [(7,2)] [])
theorem c71(cH:o0)(p:CS)(n:Int)(hn:-4611686018427387904<=n/\n<=4611686018427387904)(q:Rq)(hq:BO q.set):PC 245 [vs p,vi n,.agg (Ad q)] (sl Ac (BU [⟨p,false,YW n⟩,⟨q.path,true,BV q.set⟩])):=by
 have h1:=wZ n;have h2:=wZ (n+1);have h3:=Ab7 (canon [(n,1000000)]) (canon [(n+1,1000000)]) (Pg _) (Pg _);have h4:=wY q hq;have hmi:BO (UF (canon [(n,1000000)]) (canon [(n+1,1000000)])):=by
  have:=E6 (IN (canon [(n,1000000)]) (BV (canon [(n+1,1000000)])))
  show(Gw _ _).length<=_;omega
 have Oo:BO (YW n):=by
  grind
 have h5:=tx cH [⟨p,false,YW n⟩,⟨q.path,true,BV q.set⟩] (by simp_all) (fun t ht=>by
  grind [TA])
 obtain⟨N,hN⟩:∃N,N=BU [⟨p,false,YW n⟩,⟨q.path,true,BV q.set⟩]:=⟨_,rfl⟩;rw[<-hN]at h5⊢;refine Ps AdU func245 rfl (Nz rfl) (C1 (C2 (h1) (Yi (show Au (n+1) by unfold Au;omega) (C1 (C2 (h2) (C1 (C2 (h3) (Yi (fun ha=>?_) (fun ha=>?_)))))))))
 .have ha:n<0:=ha;have e:YW n=[]:=A3 (.inl ha);rw[e]at h5;refine yN (C1 (C2 (h4) (C1 (C2 (h5) ?_))));exact .refl _
 have ha:¬n<0:=ha;refine Yi (fun hb=>?_) (fun hb=>?_)
 .have hb:1000000<=n:=hb;have e:YW n=[]:=A3 (.inr hb);rw[e]at h5;refine yN (C1 (C2 (h4) (C1 (C2 (h5) ?_))));exact .refl _
 have hb:¬1000000<=n:=hb;have e:YW n=UF (canon [(n,1000000)]) (canon [(n+1,1000000)]):=AN (fun h=>h.elim ha hb);rw[e]at h5;refine yN (C1 (C2 (h4) (C1 (C2 (h5) ?_))));exact .refl _
def Jb:Bool:=decide (r.path=p)&&!r.yanked
def KZ:Int×Int:=(plc r.ver,plc r.ver+1)
theorem Wa{x:List Rl}{p:CS}(h:At x=0):A9 x p=canon ((x.filter (Jb p)).map KZ):=by
 unfold A9 It;rw[AN (Mg h),List.filter_filter]
 congr 3
 grind [Jb]
theorem gL{x:List Rl}{p:CS}(h:At x≠0):A9 x p=canon []:=by
 grind [A9,It]
theorem AbZ(hs:∀r∈x,Fk r)(h:At x≠0):PC 247 [Jf x ifs,vs p] (sl Ab (A9 x p)):=by
 have h1:=tY x ifs hs;have h2:=ca [] (by simp_all);rw[gL h];refine Ps (DB [8]) func247 rfl (Nz rfl) (Xi {i:Nat // i=0} (Xi (fun i=>⟨[(1,vs p),(2,.ref 2 0),(5,JX 8 []),(6,vi i.1)],[(2,.cells (Ic x ifs)),(8,.tok 2 0)],Af⟩) (Xi (fun i=>i.1) (Yi (Xi ⟨0,rfl⟩ ?_) ?_))))
 .exact⟨Z4,Z2,Fh,Tv⟩
 intro⟨i,hi⟩;refine Yi (fun h3=>?_) (fun h3=>?_)
 .refine yN (C1 (C2 (h1) (Yi (fun h4=>absurd h4 h) (fun _=>?_))));refine cU [(5,JX 8 [])] [(8,.tok 2 0)] Z1 Z1 (C1 (C2 (h2) ?_));exact .refl _
 .refine cU [(5,JX 8 [])] [(8,.tok 2 0)] Z1 Z1 (C1 (C2 (h2) ?_));exact .refl _
theorem Ac0(hs:∀r∈x,Fk r)(h0:At x=0):PC 247 [Jf x ifs,vs p] (sl Ab (A9 x p)):=by
 have h1:=tY x ifs hs;rw[h0]at h1;have hx:=(Fs h0).1;have hv:∀r∈x,By r.ver=true:=fun r hr=>((BB h0).1 r hr).val;have h2:=ca ((x.filter (Jb p)).map KZ) (by
  grind)
 rw[Wa h0];refine Ps (DB [4,6,8]) func247 rfl (Nz rfl) (Xi {q:Nat×AL // q.1<=x.length/\q.2=((x.take q.1).filter (Jb p)).map KZ} (Xi (fun q=>⟨[(1,vs p),(2,.ref 2 0),(5,JX 8 q.1.2),(6,vi q.1.1)],[(2,.cells (Ic x ifs)),(8,.tok 2 q.1.2.length)],Af⟩) (Xi (fun q=>x.length-q.1.1) (Yi (Xi ⟨(0,[]),Al _,rfl⟩ ?_) ?_))))
 .exact⟨Z4,Z2,Fh,Tv⟩
 intro⟨⟨i,A⟩,i1,i2⟩;have i1:i<=x.length:=i1;have i2:A=((x.take i).filter (Jb p)).map KZ:=i2;have hA:A.length<=i:=by
  grind
 refine Yi (fun h=>?_) (fun h=>?_)
 .skip
  have h:(i:Int)<(x.map Am).length:=h;have h:i<x.length:=by simp_all
  have hg:x[i]?=some x[i]:=Ge h;have etk:((x.take (i+1)).filter (Jb p)).map KZ=A++([x[i]].filter (Jb p)).map KZ:=by grind [List.take_add_one]
  refine yN (C1 (C2 (h1) (Yi (fun _=>?_) (fun h9=>absurd rfl h9))));refine Xi (Am x[i]) (Yi (Yi Wk (by simp_all)) (Yi rfl ?_));refine Yi (Nz rfl) (yN (cU [(1,vs p),(2,.ref 2 0),(5,JX 8 A),(6,vi i),(7,.ref 7 0)] [(2,.cells (Ic x ifs)),(7,.cells (Am x[i])),(8,.tok 2 A.length)] Z5 Z3 ?_))
  have hvx:=hv x[i] (Ah h);have qw:plc x[i].ver=place x[i].ver:=A3 hvx;have hpr:=S0 x[i].ver;have h5:=wb x[i].ver hvx;rw[<-qw]at h5;refine Yi (fun h3=>?_) (fun h3=>?_)
  .have h3:x[i].path=p:=h3;refine Yi (fun hy=>?_) (fun hy=>?_)
   .have hy:x[i].yanked=true:=hy;have hgd:Jb p x[i]=false:=by grind [Jb]
    refine cU [(1,vs p),(2,.ref 2 0),(5,JX 8 A),(6,vi i)] [(2,.cells (Ic x ifs)),(8,.tok 2 A.length)] Z4 Z2 (Yi (Ii i Wk) (Xi ⟨(i+1,A),by omega,by simp_all⟩ ?_));exact⟨Dl x.length i Wk,Z4,Z2,Fh,Tv⟩
   have hy:x[i].yanked=false:=hy;have hgd:Jb p x[i]=true:=by unfold Jb;simp_all
   refine yN (C2 (h5) (yN (C2 (h5) (Yi (show Au (plc x[i].ver+1) by grind [Au]) ?_))));have CY:Bh 2 [Ab (KZ x[i])]/\(A.map Ab).length=A.length/\((A.map Ab).length+[Ab (KZ x[i])].length)*16<=140737488355328/\(A.map Ab).length+[Ab (KZ x[i])].length<=9223372036854775807:=
    ⟨⟨rfl,trivial⟩,by simp_all,by grind,by grind⟩
   refine Yi CY (Yi aa2 (Ao (show ∃B,B=A++[KZ x[i]]from⟨_,rfl⟩) (fun B hB=>?_)));have e1:AV.slice (.id 8 2) (A.map Ab++[Ab (KZ x[i])])=JX 8 B:=by simp_all
   have e2:HO.tok 2 ((A.map Ab).length+[Ab (KZ x[i])].length)=.tok 2 B.length:=by simp_all
   refine cU [(1,vs p),(2,.ref 2 0),(5,JX 8 B),(6,vi i)] [(2,.cells (Ic x ifs)),(8,.tok 2 B.length)] ⟨Zr,Zr,⟨e1,rfl⟩,Zr,Tv⟩ ⟨Zr,⟨e2,rfl⟩,Tv⟩ (Yi (Ii i Wk) (Xi ⟨(i+1,B),by omega,by simp_all⟩ ?_));exact⟨Dl x.length i Wk,Z4,Z2,Fh,Tv⟩
  have h3:¬x[i].path=p:=h3;have hgd:Jb p x[i]=false:=by grind [Jb]
  refine cU [(1,vs p),(2,.ref 2 0),(5,JX 8 A),(6,vi i)] [(2,.cells (Ic x ifs)),(8,.tok 2 A.length)] Z4 Z2 (Yi (Ii i Wk) (Xi ⟨(i+1,A),by omega,by simp_all⟩ ?_));exact⟨Dl x.length i Wk,Z4,Z2,Fh,Tv⟩
 .skip
  have h:¬(i:Int)<(x.map Am).length:=h;have h:¬i<x.length:=by simp_all
  have eA:A=(x.filter (Jb p)).map KZ:=by grind
  rw[<-eA]at h2;rw[<-eA];refine cU [(5,JX 8 A)] [(8,.tok 2 A.length)] Z1 Z1 (C1 (C2 (h2) ?_));exact .refl _
theorem c73(hs:∀r∈x,Fk r):PC 247 [Jf x ifs,vs p] (sl Ab (A9 x p)):=by
 grind [Ac0,AbZ]
theorem Iz{α:Type}{enc:α->List AV}{n:Nat}(h:∀x,(enc x).length=n)(l:List α):∀cs∈l.map enc,cs.length=n:=fun cs hc=>by
 grind
abbrev MY:C0:=((A.map Ac).take (((A.map Ac).length:Nat):Int).toNat).drop ((k:Nat):Int).toNat
theorem rD:MY A k=(A.drop k).map Ac:=by
 grind [List.take_of_length_le,List.map_drop]
abbrev kh:C0:=((A.map Ac).take ((k:Nat):Int).toNat).drop ((0:Int)).toNat
theorem ut:kh A k=(A.take k).map Ac:=by
 grind [List.map_take]
theorem Xz(x:Tm)(k:Nat)(h:A.length<=1073741824):Bh 3 (MY A k)/\[Ac x].length=1/\([Ac x].length+(MY A k).length)*48<=140737488355328/\[Ac x].length+(MY A k).length<=9223372036854775807:=by
 grind [Jv]
theorem XA(x:Tm)(k:Nat)(h:A.length<=1073741824):Bh 3 ([Ac x]++MY A k)/\0<([Ac x]++MY A k).length/\((kh A k).length+([Ac x]++MY A k).length)*48<=140737488355328/\(kh A k).length+([Ac x]++MY A k).length<=9223372036854775807:=by
 grind [Jv,List.length_singleton]
theorem fB(x:Tm)(k:Nat):kh A k++([Ac x]++MY A k)=(A.take k++([x]++A.drop k)).map Ac:=by
 grind [rD,ut]
theorem MZ{l:C0}{k:Nat}{c x:List AV}(h:l[k]?=some x):(l.set k c)[k]?=some c:=List.getElem?_set_self (Bf.1 h).1
theorem rI(t:Tm)(c:List AV):((A.map Ac).set k c).set k (Ac t)=(A.set k t).map Ac:=by simp_all
theorem Nk(a b:AL):Gw a (canon b)=Gw a b:=ah (fun _=>rfl) (Ek b)
theorem Q0(t:Tm):F4 t=(!t.absent&&decide (t.set=[])):=by
 grind [F4]
theorem kD{q:Tm->Bool}{l:List Tm}(h:∀j (hj:j<l.length),q l[j]=false):l.any q=false:=by
 grind [List.getElem_of_mem]
set_option maxHeartbeats 4000000 in
theorem Od(l:List Tm)(hl:BO l)(hs:∀t∈l,BO t.set):PC 307 [sl Ac l] (Io l):=by
 have hl:l.length<=1073741824:=hl;have hc:∀s:AL,BO s->PC 116 [sl Ab s] (sl Ab (canon s)):=ca;have p5:∀(u t:Tm),Eo u.set->PC 354 [.slice .none [[sl Ab u.set],[sl Ab (canon t.set)]]] (sl Ab (Gw u.set (canon t.set))):=fun u t hu=>xa [u.set,canon t.set] (by simp_all) (fun s hs=>by
  grind [IB,Pg]) (by
  grind [KG])
 refine Ps ⟨[],[],[(10,3),(93,3),(100,3)],[],[],[],[],[],[],[(200004,10004),(200012,4)],[4,6,12]⟩ func307 rfl (Nz rfl) (Xi {q:Nat×List Tm // q.1<=l.length/\q.2=Db (l.take q.1)} (Xi (fun q=>⟨[(0,sl Ac l),(4,.msl 10 q.1.2.length),(5,vi q.1.1)],[(10,.arr 3 (q.1.2.map Ac))],Af⟩) (Xi (fun q=>l.length-q.1.1) (Yi (Xi ⟨(0,[]),Al _,rfl⟩ ?_) ?_))))
 .exact⟨Z3,Z1,Fh,Tv⟩
 intro⟨⟨i,A⟩,i1,i2⟩;have i1:i<=l.length:=i1;have i2:A=Db (l.take i):=i2;have hA:A.length<=i:=by grind [UE]
 have wh:∀t∈A,Eo t.set:=fun t ht=>by grind [DL,BN.canon]
 refine Yi (fun h1=>?_) (fun h1=>?_)
 .have h1:(i:Int)<((l.map Ac).length:Int):=h1;have n1:i<l.length:=by simp_all
  have g1:l[i]?=some l[i]:=Ge n1;refine Xi (Ac l[i]) (Yi (Yi (Nn i) (Bq g1)) (Yi rfl (Xi (Ac l[i]) (Yi (Yi (Nn i) (Bq g1)) (Yi rfl (Yi (fun h2=>?_) (fun h2=>?_)))))))
  .have h2:l[i].absent=true:=h2;refine Xi (Ac l[i]) (Yi (Yi (Nn i) (Bq g1)) (Yi rfl (C2 (hc (l[i].set) (hs _ (Ah n1))) (yN (Yi aa2 (cU [(0,sl Ac l),(4,.msl 10 A.length),(5,vi i),(6,.ref 6 0)] [(6,.cells [vs l[i].path,vb l[i].absent,sl Ab (canon l[i].set)]),(10,.arr 3 (A.map Ac))] Z4 ⟨⟨(show HO.cells [vs l[i].path,vb true,sl Ab (canon l[i].set)]=.cells [vs l[i].path,vb l[i].absent,sl Ab (canon l[i].set)] by simp_all),rfl⟩,Zr,Tv⟩ ?_))))))
   refine Xi {k:Nat // k<=A.length/\∀j (h:j<A.length),j<k->Ez A[j].path l[i].path=true} (Xi (fun q=>⟨[(0,sl Ac l),(4,.msl 10 A.length),(5,vi i),(6,.ref 6 0),(7,vi q.1)],[(6,.cells [vs l[i].path,vb l[i].absent,sl Ab (canon l[i].set)]),(10,.arr 3 (A.map Ac))],Af⟩) (Xi (fun q=>A.length-q.1) (Yi (Xi ⟨0,Al _,fun j _ h=>by omega⟩ ?_) ?_)))
   .exact⟨Z5,Z2,Fh,Tv⟩
   intro⟨k,k1,k2⟩;refine Yi (fun h3=>?_) (fun h3=>?_)
   .have h3:(k:Int)<(A.length:Int):=h3;have n3:k<A.length:=by omega
    have g3:A[k]?=some A[k]:=Ge n3;refine Yi Wk (Yi (show A.length=(A.map Ac).length by simp) (Xi (Ac A[k]) (Yi (Bq g3) (Yi (fun h4=>?_) (fun h4=>?_)))))
    .have h4:Ez A[k].path l[i].path=true:=(D1 _ _).trans h4;refine Yi aa2 (Yi (by grind [Au]) (Xi ⟨k+1,by omega,fun j hj GC=>(BR j k).elim (k2 j hj) (fun z=>by grind)⟩ ?_));exact⟨by grind,Z5,Z2,Fh,Tv⟩
    have h4:Ez A[k].path l[i].path=false:=(D1 _ _).trans (A8.2 h4);refine Yi aa2 (Yi (fun _=>?_) (fun hf=>absurd h3 hf));refine Yi Wk (Yi (show A.length=(A.map Ac).length by simp) (Xi (Ac A[k]) (Yi (Bq g3) (Yi (fun h6=>?_) (fun h6=>?_)))))
    .have h6:(A[k].path:CS)=l[i].path:=h6;refine Yi aa2 (Yi Wk (Yi (show A.length=(A.map Ac).length by simp) (Xi (Ac A[k]) (Yi (Bq g3) (Yi (fun h7=>?_) (fun h7=>?_))))))
     .have h7:A[k].absent=true:=h7;refine Yi (fun _=>?_) (fun hf=>absurd (hf.symm.trans (h2:l[i].absent=true)) aa1);refine Yi Wk (Yi (show A.length=(A.map Ac).length by simp) (Xi (Ac A[k]) (Yi (Bq g3) (yN (Yi Wk (Yi (show A.length=(((A.map Ac).set k [vs A[k].path,vb true,sl Ab A[k].set]):C0).length by simp) (Xi [vs A[k].path,vb true,sl Ab A[k].set] (Yi (MZ (Bq g3)) ?_))))))));refine C2 (p5 A[k] l[i] (wh _ (Ah n3))) (Yi Wk (Yi (show A.length=(((A.map Ac).set k [vs A[k].path,vb true,sl Ab A[k].set]):C0).length by simp) (Xi [vs A[k].path,vb true,sl Ab A[k].set] (Yi (MZ (Bq g3)) (yN ?_)))));refine Yi aa2 ?_;have hB:Hw l[i] A=A.set k (EH A[k] l[i]):=SL l[i] A k n3 k2 h6;refine Ao (show ∃B,B=A.set k (EH A[k] l[i])from⟨_,rfl⟩) (fun B X0=>?_);have X1:B=Db (l.take (i+1)):=by grind [FB]
      have Wr:HO.arr 3 (((A.map Ac).set k [vs A[k].path,vb true,sl Ab A[k].set]).set k [vs A[k].path,vb true,sl Ab (Gw A[k].set (canon l[i].set))])=.arr 3 (B.map Ac):=by
       rw[Nk,X0];exact Aa (HO.arr 3) ((Aa (fun b=>((A.map Ac).set k _).set k [vs A[k].path,vb b,sl Ab (Gw A[k].set l[i].set)]) (show true=(A[k].absent&&l[i].absent) by simp_all)).trans (rI A k (EH A[k] l[i]) _))
      have e4:AV.msl 10 A.length=.msl 10 B.length:=by simp_all
      refine cU [(0,sl Ac l),(4,.msl 10 B.length),(5,vi i)] [(10,.arr 3 (B.map Ac))] ⟨Zr,⟨e4,rfl⟩,Zr,Tv⟩ ⟨⟨Wr,rfl⟩,Tv⟩ (Yi (Ii i Wk) (Xi ⟨(i+1,B),by omega,X1⟩ ?_));exact⟨by grind,Z3,Z1,Fh,Tv⟩
     have h7:A[k].absent=false:=h7;refine Yi Wk (Yi (show A.length=(A.map Ac).length by simp) (Xi (Ac A[k]) (Yi (Bq g3) (yN (Yi Wk (Yi (show A.length=(((A.map Ac).set k [vs A[k].path,vb false,sl Ab A[k].set]):C0).length by simp) (Xi [vs A[k].path,vb false,sl Ab A[k].set] (Yi (MZ (Bq g3)) ?_))))))));refine C2 (p5 A[k] l[i] (wh _ (Ah n3))) (Yi Wk (Yi (show A.length=(((A.map Ac).set k [vs A[k].path,vb false,sl Ab A[k].set]):C0).length by simp) (Xi [vs A[k].path,vb false,sl Ab A[k].set] (Yi (MZ (Bq g3)) (yN ?_)))));refine Yi aa2 ?_;have hB:Hw l[i] A=A.set k (EH A[k] l[i]):=SL l[i] A k n3 k2 h6;refine Ao (show ∃B,B=A.set k (EH A[k] l[i])from⟨_,rfl⟩) (fun B X0=>?_);have X1:B=Db (l.take (i+1)):=by grind [FB]
     have Wr:HO.arr 3 (((A.map Ac).set k [vs A[k].path,vb false,sl Ab A[k].set]).set k [vs A[k].path,vb false,sl Ab (Gw A[k].set (canon l[i].set))])=.arr 3 (B.map Ac):=by
      rw[Nk,X0];exact Aa (HO.arr 3) ((Aa (fun b=>((A.map Ac).set k _).set k [vs A[k].path,vb b,sl Ab (Gw A[k].set l[i].set)]) (show false=(A[k].absent&&l[i].absent) by simp_all)).trans (rI A k (EH A[k] l[i]) _))
     have e4:AV.msl 10 A.length=.msl 10 B.length:=by simp_all
     refine cU [(0,sl Ac l),(4,.msl 10 B.length),(5,vi i)] [(10,.arr 3 (B.map Ac))] ⟨Zr,⟨e4,rfl⟩,Zr,Tv⟩ ⟨⟨Wr,rfl⟩,Tv⟩ (Yi (Ii i Wk) (Xi ⟨(i+1,B),by omega,X1⟩ ?_));exact⟨by grind,Z3,Z1,Fh,Tv⟩
    have h6:¬(A[k].path:CS)=l[i].path:=h6;refine Yi aa2 (Yi (by simp_all) ?_);refine cU [(0,sl Ac l),(4,sl Ac A),(5,vi i),(6,.ref 6 0),(7,vi k)] [(6,.cells [vs l[i].path,vb l[i].absent,sl Ab (canon l[i].set)])] Z5 Z1 (Yi (show(0:Int)<=0/\(0:Int)<=k/\(k:Int)=k/\(k:Int)<=((A.map Ac).length:Nat) by grind) (Yi (Iz (enc:=Ac) (n:=3) (fun _=>rfl) A) (yN (Yi (show(0:Int)<=k/\(k:Int)<=((A.map Ac).length:Nat)/\(((A.map Ac).length:Nat):Int)<=((A.map Ac).length:Nat) by grind) (Yi (Iz (enc:=Ac) (n:=3) (fun _=>rfl) A) ?_)))));refine Yi (Xz A (Df l[i]) k Wk) (Yi (XA A (Df l[i]) k Wk) (Yi aa2 ?_));have hB:Hw l[i] A=(A.take k++([Df l[i]]++A.drop k)):=PP l[i] A k k1 k2 (fun h=>⟨h4,h6⟩);have X1:(A.take k++([Df l[i]]++A.drop k))=Db (l.take (i+1)):=by grind [FB]
    refine Yi rfl (Ao (show ∃B,B=(A.take k++([Df l[i]]++A.drop k))from⟨_,rfl⟩) (fun B X0=>?_));rw[<-X0]at X1;have Wr:HO.arr 3 (kh A k++([Ac (Df l[i])]++MY A k))=.arr 3 (B.map Ac):=by rw[fB,X0]
    have e4:AV.msl 10 (kh A k++([Ac (Df l[i])]++MY A k)).length=.msl 10 B.length:=by simp_all
    refine cU [(0,sl Ac l),(4,.msl 10 B.length),(5,vi i)] [(10,.arr 3 (B.map Ac))] ⟨Zr,⟨e4,rfl⟩,Zr,Tv⟩ ⟨⟨Wr,rfl⟩,Tv⟩ (Yi (Ii i Wk) (Xi ⟨(i+1,B),by omega,X1⟩ ?_));exact⟨by grind,Z3,Z1,Fh,Tv⟩
   have h3:¬((k:Int)<(A.length:Int)):=h3;have n3:¬k<A.length:=by omega
   refine Yi aa2 (Yi (fun hf=>absurd hf h3) (fun _=>?_));refine Yi aa2 (Yi (by simp_all) ?_);refine cU [(0,sl Ac l),(4,sl Ac A),(5,vi i),(6,.ref 6 0),(7,vi k)] [(6,.cells [vs l[i].path,vb l[i].absent,sl Ab (canon l[i].set)])] Z5 Z1 (Yi (show(0:Int)<=0/\(0:Int)<=k/\(k:Int)=k/\(k:Int)<=((A.map Ac).length:Nat) by grind) (Yi (Iz (enc:=Ac) (n:=3) (fun _=>rfl) A) (yN (Yi (show(0:Int)<=k/\(k:Int)<=((A.map Ac).length:Nat)/\(((A.map Ac).length:Nat):Int)<=((A.map Ac).length:Nat) by grind) (Yi (Iz (enc:=Ac) (n:=3) (fun _=>rfl) A) ?_)))));refine Yi (Xz A (Df l[i]) k Wk) (Yi (XA A (Df l[i]) k Wk) (Yi aa2 ?_));have hB:Hw l[i] A=(A.take k++([Df l[i]]++A.drop k)):=PP l[i] A k k1 k2 (fun h=>absurd h Wk);have X1:(A.take k++([Df l[i]]++A.drop k))=Db (l.take (i+1)):=by grind [FB]
   refine Yi rfl (Ao (show ∃B,B=(A.take k++([Df l[i]]++A.drop k))from⟨_,rfl⟩) (fun B X0=>?_));rw[<-X0]at X1;have Wr:HO.arr 3 (kh A k++([Ac (Df l[i])]++MY A k))=.arr 3 (B.map Ac):=by rw[fB,X0]
   have e4:AV.msl 10 (kh A k++([Ac (Df l[i])]++MY A k)).length=.msl 10 B.length:=by simp_all
   refine cU [(0,sl Ac l),(4,.msl 10 B.length),(5,vi i)] [(10,.arr 3 (B.map Ac))] ⟨Zr,⟨e4,rfl⟩,Zr,Tv⟩ ⟨⟨Wr,rfl⟩,Tv⟩ (Yi (Ii i Wk) (Xi ⟨(i+1,B),by omega,X1⟩ ?_));exact⟨by grind,Z3,Z1,Fh,Tv⟩
  have h2:l[i].absent=false:=h2;refine Xi (Ac l[i]) (Yi (Yi (Nn i) (Bq g1)) (Yi rfl (C2 (hc (l[i].set) (hs _ (Ah n1))) (yN (Yi aa2 (cU [(0,sl Ac l),(4,.msl 10 A.length),(5,vi i),(6,.ref 6 0)] [(6,.cells [vs l[i].path,vb l[i].absent,sl Ab (canon l[i].set)]),(10,.arr 3 (A.map Ac))] Z4 ⟨⟨(show HO.cells [vs l[i].path,vb false,sl Ab (canon l[i].set)]=.cells [vs l[i].path,vb l[i].absent,sl Ab (canon l[i].set)] by simp_all),rfl⟩,Zr,Tv⟩ ?_))))))
  refine Xi {k:Nat // k<=A.length/\∀j (h:j<A.length),j<k->Ez A[j].path l[i].path=true} (Xi (fun q=>⟨[(0,sl Ac l),(4,.msl 10 A.length),(5,vi i),(6,.ref 6 0),(7,vi q.1)],[(6,.cells [vs l[i].path,vb l[i].absent,sl Ab (canon l[i].set)]),(10,.arr 3 (A.map Ac))],Af⟩) (Xi (fun q=>A.length-q.1) (Yi (Xi ⟨0,Al _,fun j _ h=>by omega⟩ ?_) ?_)))
  .exact⟨Z5,Z2,Fh,Tv⟩
  intro⟨k,k1,k2⟩;refine Yi (fun Hr=>?_) (fun Hr=>?_)
  .have Hr:(k:Int)<(A.length:Int):=Hr;have n12:k<A.length:=by omega
   have g12:A[k]?=some A[k]:=Ge n12;refine Yi Wk (Yi (show A.length=(A.map Ac).length by simp) (Xi (Ac A[k]) (Yi (Bq g12) (Yi (fun Lr=>?_) (fun Lr=>?_)))))
   .have Lr:Ez A[k].path l[i].path=true:=(D1 _ _).trans Lr;refine Yi aa2 (Yi (by grind [Au]) (Xi ⟨k+1,by omega,fun j hj GC=>(BR j k).elim (k2 j hj) (fun z=>by grind)⟩ ?_));exact⟨by grind,Z5,Z2,Fh,Tv⟩
   have Lr:Ez A[k].path l[i].path=false:=(D1 _ _).trans (A8.2 Lr);refine Yi aa2 (Yi (fun _=>?_) (fun hf=>absurd Hr hf));refine Yi Wk (Yi (show A.length=(A.map Ac).length by simp) (Xi (Ac A[k]) (Yi (Bq g12) (Yi (fun Hi=>?_) (fun Hi=>?_)))))
   .have Hi:(A[k].path:CS)=l[i].path:=Hi;refine Yi aa2 (Yi Wk (Yi (show A.length=(A.map Ac).length by simp) (Xi (Ac A[k]) (Yi (Bq g12) (Yi (fun Mx=>?_) (fun Mx=>?_))))))
    .have Mx:A[k].absent=true:=Mx;refine Yi (fun hf=>absurd (hf.symm.trans (h2:l[i].absent=false)) aa1) (fun _=>?_);refine Yi Wk (Yi (show A.length=(A.map Ac).length by simp) (Xi (Ac A[k]) (Yi (Bq g12) (yN (Yi Wk (Yi (show A.length=(((A.map Ac).set k [vs A[k].path,vb false,sl Ab A[k].set]):C0).length by simp) (Xi [vs A[k].path,vb false,sl Ab A[k].set] (Yi (MZ (Bq g12)) ?_))))))));refine C2 (p5 A[k] l[i] (wh _ (Ah n12))) (Yi Wk (Yi (show A.length=(((A.map Ac).set k [vs A[k].path,vb false,sl Ab A[k].set]):C0).length by simp) (Xi [vs A[k].path,vb false,sl Ab A[k].set] (Yi (MZ (Bq g12)) (yN ?_)))));refine Yi aa2 ?_;have hB:Hw l[i] A=A.set k (EH A[k] l[i]):=SL l[i] A k n12 k2 Hi;refine Ao (show ∃B,B=A.set k (EH A[k] l[i])from⟨_,rfl⟩) (fun B X0=>?_);have X1:B=Db (l.take (i+1)):=by grind [FB]
     have Wr:HO.arr 3 (((A.map Ac).set k [vs A[k].path,vb false,sl Ab A[k].set]).set k [vs A[k].path,vb false,sl Ab (Gw A[k].set (canon l[i].set))])=.arr 3 (B.map Ac):=by
      rw[Nk,X0];exact Aa (HO.arr 3) ((Aa (fun b=>((A.map Ac).set k _).set k [vs A[k].path,vb b,sl Ab (Gw A[k].set l[i].set)]) (show false=(A[k].absent&&l[i].absent) by simp_all)).trans (rI A k (EH A[k] l[i]) _))
     have e4:AV.msl 10 A.length=.msl 10 B.length:=by simp_all
     refine cU [(0,sl Ac l),(4,.msl 10 B.length),(5,vi i)] [(10,.arr 3 (B.map Ac))] ⟨Zr,⟨e4,rfl⟩,Zr,Tv⟩ ⟨⟨Wr,rfl⟩,Tv⟩ (Yi (Ii i Wk) (Xi ⟨(i+1,B),by omega,X1⟩ ?_));exact⟨by grind,Z3,Z1,Fh,Tv⟩
    have Mx:A[k].absent=false:=Mx;refine Yi Wk (Yi (show A.length=(A.map Ac).length by simp) (Xi (Ac A[k]) (Yi (Bq g12) (yN (Yi Wk (Yi (show A.length=(((A.map Ac).set k [vs A[k].path,vb false,sl Ab A[k].set]):C0).length by simp) (Xi [vs A[k].path,vb false,sl Ab A[k].set] (Yi (MZ (Bq g12)) ?_))))))));refine C2 (p5 A[k] l[i] (wh _ (Ah n12))) (Yi Wk (Yi (show A.length=(((A.map Ac).set k [vs A[k].path,vb false,sl Ab A[k].set]):C0).length by simp) (Xi [vs A[k].path,vb false,sl Ab A[k].set] (Yi (MZ (Bq g12)) (yN ?_)))));refine Yi aa2 ?_;have hB:Hw l[i] A=A.set k (EH A[k] l[i]):=SL l[i] A k n12 k2 Hi;refine Ao (show ∃B,B=A.set k (EH A[k] l[i])from⟨_,rfl⟩) (fun B X0=>?_);have X1:B=Db (l.take (i+1)):=by grind [FB]
    have Wr:HO.arr 3 (((A.map Ac).set k [vs A[k].path,vb false,sl Ab A[k].set]).set k [vs A[k].path,vb false,sl Ab (Gw A[k].set (canon l[i].set))])=.arr 3 (B.map Ac):=by
     rw[Nk,X0];exact Aa (HO.arr 3) ((Aa (fun b=>((A.map Ac).set k _).set k [vs A[k].path,vb b,sl Ab (Gw A[k].set l[i].set)]) (show false=(A[k].absent&&l[i].absent) by simp_all)).trans (rI A k (EH A[k] l[i]) _))
    have e4:AV.msl 10 A.length=.msl 10 B.length:=by simp_all
    refine cU [(0,sl Ac l),(4,.msl 10 B.length),(5,vi i)] [(10,.arr 3 (B.map Ac))] ⟨Zr,⟨e4,rfl⟩,Zr,Tv⟩ ⟨⟨Wr,rfl⟩,Tv⟩ (Yi (Ii i Wk) (Xi ⟨(i+1,B),by omega,X1⟩ ?_));exact⟨by grind,Z3,Z1,Fh,Tv⟩
   have Hi:¬(A[k].path:CS)=l[i].path:=Hi;refine Yi aa2 (Yi (by simp_all) ?_);refine cU [(0,sl Ac l),(4,sl Ac A),(5,vi i),(6,.ref 6 0),(7,vi k)] [(6,.cells [vs l[i].path,vb l[i].absent,sl Ab (canon l[i].set)])] Z5 Z1 (Yi (show(0:Int)<=0/\(0:Int)<=k/\(k:Int)=k/\(k:Int)<=((A.map Ac).length:Nat) by grind) (Yi (Iz (enc:=Ac) (n:=3) (fun _=>rfl) A) (yN (Yi (show(0:Int)<=k/\(k:Int)<=((A.map Ac).length:Nat)/\(((A.map Ac).length:Nat):Int)<=((A.map Ac).length:Nat) by grind) (Yi (Iz (enc:=Ac) (n:=3) (fun _=>rfl) A) ?_)))));refine Yi (Xz A (Df l[i]) k Wk) (Yi (XA A (Df l[i]) k Wk) (Yi aa2 ?_));have hB:Hw l[i] A=(A.take k++([Df l[i]]++A.drop k)):=PP l[i] A k k1 k2 (fun h=>⟨Lr,Hi⟩);have X1:(A.take k++([Df l[i]]++A.drop k))=Db (l.take (i+1)):=by grind [FB]
   refine Yi rfl (Ao (show ∃B,B=(A.take k++([Df l[i]]++A.drop k))from⟨_,rfl⟩) (fun B X0=>?_));rw[<-X0]at X1;have Wr:HO.arr 3 (kh A k++([Ac (Df l[i])]++MY A k))=.arr 3 (B.map Ac):=by rw[fB,X0]
   have e4:AV.msl 10 (kh A k++([Ac (Df l[i])]++MY A k)).length=.msl 10 B.length:=by simp_all
   refine cU [(0,sl Ac l),(4,.msl 10 B.length),(5,vi i)] [(10,.arr 3 (B.map Ac))] ⟨Zr,⟨e4,rfl⟩,Zr,Tv⟩ ⟨⟨Wr,rfl⟩,Tv⟩ (Yi (Ii i Wk) (Xi ⟨(i+1,B),by omega,X1⟩ ?_));exact⟨by grind,Z3,Z1,Fh,Tv⟩
  have Hr:¬((k:Int)<(A.length:Int)):=Hr;have n12:¬k<A.length:=by omega
  refine Yi aa2 (Yi (fun hf=>absurd hf Hr) (fun _=>?_));refine Yi aa2 (Yi (by simp_all) ?_);refine cU [(0,sl Ac l),(4,sl Ac A),(5,vi i),(6,.ref 6 0),(7,vi k)] [(6,.cells [vs l[i].path,vb l[i].absent,sl Ab (canon l[i].set)])] Z5 Z1 (Yi (show(0:Int)<=0/\(0:Int)<=k/\(k:Int)=k/\(k:Int)<=((A.map Ac).length:Nat) by grind) (Yi (Iz (enc:=Ac) (n:=3) (fun _=>rfl) A) (yN (Yi (show(0:Int)<=k/\(k:Int)<=((A.map Ac).length:Nat)/\(((A.map Ac).length:Nat):Int)<=((A.map Ac).length:Nat) by grind) (Yi (Iz (enc:=Ac) (n:=3) (fun _=>rfl) A) ?_)))));refine Yi (Xz A (Df l[i]) k Wk) (Yi (XA A (Df l[i]) k Wk) (Yi aa2 ?_));have hB:Hw l[i] A=(A.take k++([Df l[i]]++A.drop k)):=PP l[i] A k k1 k2 (fun h=>absurd h Wk);have X1:(A.take k++([Df l[i]]++A.drop k))=Db (l.take (i+1)):=by grind [FB]
  refine Yi rfl (Ao (show ∃B,B=(A.take k++([Df l[i]]++A.drop k))from⟨_,rfl⟩) (fun B X0=>?_));rw[<-X0]at X1;have Wr:HO.arr 3 (kh A k++([Ac (Df l[i])]++MY A k))=.arr 3 (B.map Ac):=by rw[fB,X0]
  have e4:AV.msl 10 (kh A k++([Ac (Df l[i])]++MY A k)).length=.msl 10 B.length:=by simp_all
  refine cU [(0,sl Ac l),(4,.msl 10 B.length),(5,vi i)] [(10,.arr 3 (B.map Ac))] ⟨Zr,⟨e4,rfl⟩,Zr,Tv⟩ ⟨⟨Wr,rfl⟩,Tv⟩ (Yi (Ii i Wk) (Xi ⟨(i+1,B),by omega,X1⟩ ?_));exact⟨by grind,Z3,Z1,Fh,Tv⟩
 have h1:¬((i:Int)<((l.map Ac).length:Int)):=h1;have n1:¬i<l.length:=by simp_all
 have hAl:A=Db l:=by grind
 refine Xi {q:Nat×List Tm // q.1<=A.length/\(∀j (h:j<A.length),j<q.1->F4 A[j]=false)/\q.2=(A.take q.1).filter fun t=>!Fx t} (Xi (fun q=>⟨[(4,.msl 10 A.length),(8,.slice (.id 101 3) (q.1.2.map Ac)),(9,vi q.1.1)],[(10,.arr 3 (A.map Ac)),(101,.tok 3 q.1.2.length)],Af⟩) (Xi (fun q=>A.length-q.1.1) (Yi (Xi ⟨(0,[]),Al _,fun j _ h=>by omega,rfl⟩ ?_) ?_)))
 .exact⟨Z3,Z2,Fh,Tv⟩
 intro⟨⟨j,O⟩,j1,j2,j3⟩;have j1:j<=A.length:=j1;have j2:∀m (h:m<A.length),m<j->F4 A[m]=false:=j2;have j3:O=(A.take j).filter (fun t=>!Fx t):=j3;have hO:O.length<=j:=by
  grind
 refine Yi (fun XY=>?_) (fun XY=>?_)
 .have XY:(j:Int)<(A.length:Int):=XY;have n21:j<A.length:=by omega
  have g21:A[j]?=some A[j]:=Ge n21;refine Yi Wk (Yi (show A.length=(A.map Ac).length by simp) (Xi (Ac A[j]) (Yi (Bq g21) (yN (Ax (Bt (!A[j].absent&&decide (A[j].set=[]))) (fun Qw=>?_) (fun Qw=>?_))))))
  .have Qw:(!A[j].absent&&decide (A[j].set=[]))=true:=Qw;have lX:=xb A[j];rw[show(!A[j].absent&&decide (A[j].set=[]))=true from Qw]at lX;refine C1 (C2 lX ?_);have hcn:A7 l=none:=by grind [A7,Q0]
   exact(show Cj (.tup [nzA,vb false]) (.tup [.slice .none [],vb false])from Cj.tup ⟨.nil,.refl _,trivial⟩).trans (.of_eq (show AV.tup [.slice .none [],vb false]=Io l by grind [BU]))
  have Qw:(!A[j].absent&&decide (A[j].set=[]))=false:=Qw;have ye:=xb A[j];rw[show(!A[j].absent&&decide (A[j].set=[]))=false from Qw]at ye;refine C1 (C2 ye (Yi Wk (Yi (show A.length=(A.map Ac).length by simp) (Xi (Ac A[j]) (Yi (Bq g21) (yN (Ax (Bt (A[j].absent&&decide (A[j].set=[(0,1000000)]))) (fun bC=>?_) (fun bC=>?_))))))))
  .have bC:(A[j].absent&&decide (A[j].set=[(0,1000000)]))=true:=bC;have yg:=xc A[j] (IB (wh _ (Ah n21)));rw[show(A[j].absent&&decide (A[j].set=[(0,1000000)]))=true from bC]at yg;refine C1 (C2 yg (Yi (by grind [Au]) (Xi ⟨(j+1,O),by omega,fun m hm hmj=>(BR m j).elim (j2 m hm) (fun z=>by grind [Q0]),by show O=(A.take (j+1)).filter _;rw[Dm,Ge n21,HL,<-j3];grind [Fx]⟩ ?_)));exact⟨Dl A.length j Wk,Z3,Z2,Fh,Tv⟩
  have bC:(A[j].absent&&decide (A[j].set=[(0,1000000)]))=false:=bC;have yh:=xc A[j] (IB (wh _ (Ah n21)));rw[show(A[j].absent&&decide (A[j].set=[(0,1000000)]))=false from bC]at yh;refine C1 (C2 yh (Yi Wk (Yi (show A.length=(A.map Ac).length by simp) (Xi (Ac A[j]) (Yi (Bq g21) (yN ?_))))));have b30:Bh 3 [(Ac A[j])]/\(O.map Ac).length=O.length/\((O.map Ac).length+([(Ac A[j])]:C0).length)*48<=140737488355328/\(O.map Ac).length+([(Ac A[j])]:C0).length<=9223372036854775807:=⟨⟨rfl,trivial⟩,aa0,(by grind),(by grind)⟩;refine Yi b30 (Yi (by grind [Au]) (Xi ⟨(j+1,(O++[A[j]])),by omega,fun m hm hmj=>(BR m j).elim (j2 m hm) (fun z=>by grind [Q0]),by show(O++[A[j]])=(A.take (j+1)).filter _;rw[Dm,Ge n21,HL,<-j3];show _=O++[A[j]].filter _;rw[List.filter_cons,A3 (by grind [Fx])];simp⟩ ?_));exact⟨Dl A.length j Wk,⟨Zr,⟨(show AV.slice (.id 101 3) (O.map Ac++[Ac A[j]])=.slice (.id 101 3) ((O++[A[j]]).map Ac) by simp),rfl⟩,Zr,Tv⟩,⟨Zr,⟨(show HO.tok 3 ((O.map Ac).length+[Ac A[j]].length)=.tok 3 (O++[A[j]]).length by simp),rfl⟩,Tv⟩,Fh,Tv⟩
 have XY:¬((j:Int)<(A.length:Int)):=XY;have n21:¬j<A.length:=by omega
 have ej:A.take j=A:=A5 Wk;rw[ej]at j3;have hcn:A7 l=some O:=by grind [A7,kD]
 exact .of_eq (show AV.tup [sl Ac O,vb true]=Io l by grind [BU])
end Go.Eng
