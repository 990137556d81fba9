/- Lemmas 26. -/
import Derived.Test.YtkmnnpmneamgoaaGreatDoorPA25
namespace Go.Eng
open Go.Proofs
variable {x:List Rl}(A l:List Tm)(s:AH)(k:Nat)(t:Tm)
abbrev rf(d:Nat)(A:List Tm):AV:=.slice (.id d 3) (A.map Ad)
theorem sx(hl:BL l)(p:ByteArray):PC 208 [sl Ad l,vs p] (sl Ad (l.filter fun t=>!decide (t.path=p))):=by
 have hl:l.length<=1073741824:=hl;refine Ps (Dw [4]) Tryz.func208 rfl (Nz rfl) (Xi {q:Nat×List Tm // q.1<=l.length/\q.2=(l.take q.1).filter fun t=>!decide (t.path=p)} (Xi (fun q=>⟨[(0,sl Ad l),(1,vs p),(5,rf 7 q.1.2),(6,vi q.1.1)],[(7,.tok 3 q.1.2.length)],Ae⟩) (Xi (fun q=>l.length-q.1.1) (Yi (Xi ⟨(0,[]),Ap _,rfl⟩ ?_) ?_))))
 .exact⟨Z4,Z1,Fh,Tv⟩
 intro⟨⟨i,A⟩,i1,i2⟩;have i1:i<=l.length:=i1;have i2:A=(l.take i).filter fun t=>!decide (t.path=p):=i2;have hA:A.length<=i:=by
  grind
 refine Yi (fun h=>?_) (fun h=>?_)
 .skip
  have h:(i:Int)<(l.map Ad).length:=h;have h:i<l.length:=by simp_all
  have hg:l[i]?=some l[i]:=Ge h;refine Xi (Ad l[i]) (Yi (Yi aa0 (by simp_all)) (Yi rfl ?_));have etk:(l.take (i+1)).filter (fun t=>!decide (t.path=p))=A++[l[i]].filter (fun t=>!decide (t.path=p)):=by grind [List.take_add_one]
  refine Yi (fun h3=>?_) (fun h3=>?_)
  .have h3:l[i].path≠p:=h3;refine Xi (Ad l[i]) (Yi (Yi aa0 (by simp_all)) (Yi rfl ?_));refine yN ?_;have CO:A7 3 [Ad l[i]]/\(A.map Ad).length=A.length/\((A.map Ad).length+[Ad l[i]].length)*48<=140737488355328/\(A.map Ad).length+[Ad l[i]].length<=9223372036854775807:=
    ⟨⟨rfl,trivial⟩,by simp_all,by grind,by grind⟩
   refine Yi CO (Al (show ∃B,B=A++[l[i]]from⟨_,rfl⟩) (fun B hB=>?_));have e1:AV.slice (.id 7 3) (A.map Ad++[Ad l[i]])=rf 7 B:=by simp_all
   have e2:HO.tok 3 ((A.map Ad).length+[Ad l[i]].length)=.tok 3 B.length:=by simp_all
   refine cU [(0,sl Ad l),(1,vs p),(5,rf 7 B),(6,vi i)] [(7,.tok 3 B.length)] ⟨Zr,Zr,⟨e1,rfl⟩,Zr,Tv⟩ ⟨⟨e2,rfl⟩,Tv⟩ (Yi (Ii i aa0) (Xi ⟨(i+1,B),by omega,by simp_all⟩ ?_));exact⟨Dl l.length i aa0,Z4,Z1,Fh,Tv⟩
  have h3:¬l[i].path≠p:=h3;refine cU [(0,sl Ad l),(1,vs p),(5,rf 7 A),(6,vi i)] [(7,.tok 3 A.length)] Z4 Z1 (Yi (Ii i aa0) (Xi ⟨(i+1,A),by omega,by simp_all⟩ ?_));exact⟨Dl l.length i aa0,Z4,Z1,Fh,Tv⟩
 .skip
  have h:¬(i:Int)<(l.map Ad).length:=h;have h:¬i<l.length:=by simp_all
  exact .of_eq (Aa (sl Ad) (show A=_ by grind))
abbrev ox:Prop:=∀l:List Tm,BL l->(∀t∈l,BL t.set)->PC 205 [sl Ad l] (Ih l)
theorem sw(bF:ox)(l:List Tm)(hl:BL l)(hs:∀t∈l,BL t.set):PC 200 [sl Ad l] (sl Ad (BT l)):=by
 have hc:=bF l hl hs;refine Ps De Tryz.func200 rfl (Nz rfl) (Xi .pure (Xi _ (Yi (hc) ?_)));exact .refl _
theorem S0:BL (BU s):=by grind [KA]
theorem c69(bF:ox)(q:Rq)(hq:BL q.set):PC 154 [.agg (Ac q)] (sl Ad (BT [⟨q.path,true,BU q.set⟩])):=by
 have h1:=vY q hq;have h2:=sw bF [⟨q.path,true,BU q.set⟩] (by simp_all) (fun t ht=>by grind [S0]);refine Ps De Tryz.func154 rfl (Nz rfl) (yN (Xi .pure (Xi _ (Yi (h1) (Xi .pure (Xi _ (Yi (h2) ?_)))))));exact .refl _
theorem c72(bF:ox)(p:ByteArray)(s:AH)(hs:BL s):PC 157 [vs p,sl Ab s] (sl Ad (BT [⟨p,false,BU s⟩])):=by
 have h1:=jV s hs;have h2:=sw bF [⟨p,false,BU s⟩] (by simp_all) (fun t ht=>by grind [S0]);refine Ps De Tryz.func157 rfl (Nz rfl) (Xi .pure (Xi _ (Yi (h1) (Xi .pure (Xi _ (Yi (h2) ?_))))));exact .refl _
theorem OT:BL (canon s):=by grind [E6,BG]
abbrev Yk(n:Int):AH:=if n<0\/1000000<=n then []else Uc (canon [(n,1000000)]) (canon [(n+1,1000000)])
abbrev Ad2:Md:=(pT [] [(7,2)] [])
theorem c71(bF:ox)(p:ByteArray)(n:Int)(hn:-4611686018427387904<=n/\n<=4611686018427387904)(q:Rq)(hq:BL q.set):PC 156 [vs p,vi n,.agg (Ac q)] (sl Ad (BT [⟨p,false,Yk n⟩,⟨q.path,true,BU q.set⟩])):=by
 have h1:=vZ n;have h2:=vZ (n+1);have h3:=Aa8 (canon [(n,1000000)]) (canon [(n+1,1000000)]) (OT _) (OT _);have h4:=vY q hq;have hmi:BL (Uc (canon [(n,1000000)]) (canon [(n+1,1000000)])):=by
  have:=E6 (IG (canon [(n,1000000)]) (BU (canon [(n+1,1000000)])))
  show(GD _ _).length<=_;omega
 have Oa:BL (Yk n):=by
  grind
 have h5:=sw bF [⟨p,false,Yk n⟩,⟨q.path,true,BU q.set⟩] (by simp_all) (fun t ht=>by
  grind [S0])
 obtain⟨N,hN⟩:∃N,N=BT [⟨p,false,Yk n⟩,⟨q.path,true,BU q.set⟩]:=⟨_,rfl⟩;rw[<-hN]at h5⊢;refine Ps Ad2 Tryz.func156 rfl (Nz rfl) (Xi .pure (Xi _ (Yi (h1) (Yi (show As (n+1) by unfold As;omega) (Xi .pure (Xi _ (Yi (h2) (Xi .pure (Xi _ (Yi (h3) (Yi (fun ha=>?_) (fun ha=>?_))))))))))))
 .have ha:n<0:=ha;have e:Yk n=[]:=AX (.inl ha);rw[e]at h5;refine yN (Xi .pure (Xi _ (Yi (h4) (Xi .pure (Xi _ (Yi (h5) ?_))))));exact .refl _
 have ha:¬n<0:=ha;refine Yi (fun hb=>?_) (fun hb=>?_)
 .have hb:1000000<=n:=hb;have e:Yk n=[]:=AX (.inr hb);rw[e]at h5;refine yN (Xi .pure (Xi _ (Yi (h4) (Xi .pure (Xi _ (Yi (h5) ?_))))));exact .refl _
 have hb:¬1000000<=n:=hb;have e:Yk n=Uc (canon [(n,1000000)]) (canon [(n+1,1000000)]):=AI (fun h=>h.elim ha hb);rw[e]at h5;refine yN (Xi .pure (Xi _ (Yi (h4) (Xi .pure (Xi _ (Yi (h5) ?_))))));exact .refl _
def IZ(p:ByteArray)(r:Rl):Bool:=decide (r.path=p)&&!r.yanked
def KZ(r:Rl):Int×Int:=(plc r.ver,plc r.ver+1)
theorem VF{p:ByteArray}(h:Av x=0):A4 x p=canon ((x.filter (IZ p)).map KZ):=by
 unfold A4 Io;rw[AI (Mf h),List.filter_filter]
 congr 3
 grind [IZ]
theorem fJ{p:ByteArray}(h:Av x≠0):A4 x p=canon []:=by
 grind [A4,Io]
theorem aX(h0:Av x=0){p:ByteArray}(h:p∉AK (yR x) []):A4 x p=[]:=by
 rw[VF h0]
 have:x.filter (IZ p)=[]:=by
  grind [List.filter_eq_nil_iff,IZ,HB]
 rw[this];rfl
theorem kz{roots:List Rq}(hx:∀r∈x,E4 r)(hr:∀q∈roots,HP q)(h0:Av x=0)(h1:AL roots=0){l:List ByteArray}(hl:l.Perm (AK (yR x) [])):sa x roots (mC x) (l.map (kA x)) where
 hx:=h0
 hr:=h1
 fx:=hx
 fr:=hr
 c1:=yj x
 c2:=yk x
 c3:=ym x
 av p:=by
  by_cases hp:p∈l
  .exact⟨sl Ab (A4 x p),fun a ha=>(bY.1 ha).2,fun hn=>(hn _ (bY.2 ⟨hp,rfl⟩)).elim,fun h=>sK p (A4 x p) (NY x p)⟩
  .refine⟨nzA,fun a ha=>(hp (bY.1 ha).1).elim,fun _=>rfl,fun h=>?_⟩;have e:=aX h0 (fun hc=>hp (hl.mem_iff.2 hc));have hc:=sK p (A4 x p) (NY x p);rw[e]at hc⊢;exact LM.args hc ⟨.refl _,.nil,trivial⟩
theorem Ab4(x:List Rl)(ifs:List (List AV))(p:ByteArray)(hs:∀r∈x,E4 r)(h:Av x≠0):PC 158 [Il x ifs,vs p] (sl Ab (A4 x p)):=by
 have h1:=uV x ifs hs;have h2:=bc [] (by simp_all);rw[fJ h];refine Ps (Dw [8]) Tryz.func158 rfl (Nz rfl) (Xi {i:Nat // i=0} (Xi (fun i=>⟨[(1,vs p),(2,.ref 2 0),(5,JI 8 []),(6,vi i.1)],[(2,.cells (Ic x ifs)),(8,.tok 2 0)],Ae⟩) (Xi (fun i=>i.1) (Yi (Xi ⟨0,rfl⟩ ?_) ?_))))
 .exact⟨Z4,Z2,Fh,Tv⟩
 intro⟨i,hi⟩;refine Yi (fun h3=>?_) (fun h3=>?_)
 .refine yN (Xi .pure (Xi _ (Yi (h1) (Yi (fun h4=>absurd h4 h) (fun _=>?_)))));refine cU [(5,JI 8 [])] [(8,.tok 2 0)] Z1 Z1 (Xi .pure (Xi _ (Yi (h2) ?_)));exact .refl _
 .refine cU [(5,JI 8 [])] [(8,.tok 2 0)] Z1 Z1 (Xi .pure (Xi _ (Yi (h2) ?_)));exact .refl _
theorem Ab5(x:List Rl)(ifs:List (List AV))(p:ByteArray)(hs:∀r∈x,E4 r)(h0:Av x=0):PC 158 [Il x ifs,vs p] (sl Ab (A4 x p)):=by
 have h1:=uV x ifs hs;rw[h0]at h1;have hx:=(Fb h0).1;have hv:∀r∈x,BK r.ver=true:=fun r hr=>((BC h0).1 r hr).val;have h2:=bc ((x.filter (IZ p)).map KZ) (by
  grind)
 rw[VF h0];refine Ps (Dw [4,6,8]) Tryz.func158 rfl (Nz rfl) (Xi {q:Nat×AH // q.1<=x.length/\q.2=((x.take q.1).filter (IZ p)).map KZ} (Xi (fun q=>⟨[(1,vs p),(2,.ref 2 0),(5,JI 8 q.1.2),(6,vi q.1.1)],[(2,.cells (Ic x ifs)),(8,.tok 2 q.1.2.length)],Ae⟩) (Xi (fun q=>x.length-q.1.1) (Yi (Xi ⟨(0,[]),Ap _,rfl⟩ ?_) ?_))))
 .exact⟨Z4,Z2,Fh,Tv⟩
 intro⟨⟨i,A⟩,i1,i2⟩;have i1:i<=x.length:=i1;have i2:A=((x.take i).filter (IZ p)).map KZ:=i2;have hA:A.length<=i:=by
  grind
 refine Yi (fun h=>?_) (fun h=>?_)
 .skip
  have h:(i:Int)<(x.map Am).length:=h;have h:i<x.length:=by simp_all
  have hg:x[i]?=some x[i]:=Ge h;have etk:((x.take (i+1)).filter (IZ p)).map KZ=A++([x[i]].filter (IZ p)).map KZ:=by grind [List.take_add_one]
  refine yN (Xi .pure (Xi _ (Yi (h1) (Yi (fun _=>?_) (fun h9=>absurd rfl h9)))));refine Xi (Am x[i]) (Yi (Yi aa0 (by simp_all)) (Yi rfl ?_));refine Yi (Nz rfl) (yN (cU [(1,vs p),(2,.ref 2 0),(5,JI 8 A),(6,vi i),(7,.ref 7 0)] [(2,.cells (Ic x ifs)),(7,.cells (Am x[i])),(8,.tok 2 A.length)] Z5 Z3 ?_))
  have hvx:=hv x[i] (Ak h);have oa:plc x[i].ver=place x[i].ver:=AX hvx;have hpr:=Sw x[i].ver;have h5:=uX x[i].ver hvx;rw[<-oa]at h5;refine Yi (fun h3=>?_) (fun h3=>?_)
  .have h3:x[i].path=p:=h3;refine Yi (fun hy=>?_) (fun hy=>?_)
   .have hy:x[i].yanked=true:=hy;have zy:IZ p x[i]=false:=by grind [IZ]
    refine cU [(1,vs p),(2,.ref 2 0),(5,JI 8 A),(6,vi i)] [(2,.cells (Ic x ifs)),(8,.tok 2 A.length)] Z4 Z2 (Yi (Ii i aa0) (Xi ⟨(i+1,A),by omega,by simp_all⟩ ?_));exact⟨Dl x.length i aa0,Z4,Z2,Fh,Tv⟩
   have hy:x[i].yanked=false:=hy;have zy:IZ p x[i]=true:=by unfold IZ;simp_all
   refine yN (Xi _ (Yi (h5) (yN (Xi _ (Yi (h5) (Yi (show As (plc x[i].ver+1) by grind [As]) ?_))))));have CO:A7 2 [Ab (KZ x[i])]/\(A.map Ab).length=A.length/\((A.map Ab).length+[Ab (KZ x[i])].length)*16<=140737488355328/\(A.map Ab).length+[Ab (KZ x[i])].length<=9223372036854775807:=
    ⟨⟨rfl,trivial⟩,by simp_all,by grind,by grind⟩
   refine Yi CO (Yi aa3 (Al (show ∃B,B=A++[KZ x[i]]from⟨_,rfl⟩) (fun B hB=>?_)));have e1:AV.slice (.id 8 2) (A.map Ab++[Ab (KZ x[i])])=JI 8 B:=by simp_all
   have e2:HO.tok 2 ((A.map Ab).length+[Ab (KZ x[i])].length)=.tok 2 B.length:=by simp_all
   refine cU [(1,vs p),(2,.ref 2 0),(5,JI 8 B),(6,vi i)] [(2,.cells (Ic x ifs)),(8,.tok 2 B.length)] ⟨Zr,Zr,⟨e1,rfl⟩,Zr,Tv⟩ ⟨Zr,⟨e2,rfl⟩,Tv⟩ (Yi (Ii i aa0) (Xi ⟨(i+1,B),by omega,by simp_all⟩ ?_));exact⟨Dl x.length i aa0,Z4,Z2,Fh,Tv⟩
  have h3:¬x[i].path=p:=h3;have zy:IZ p x[i]=false:=by grind [IZ]
  refine cU [(1,vs p),(2,.ref 2 0),(5,JI 8 A),(6,vi i)] [(2,.cells (Ic x ifs)),(8,.tok 2 A.length)] Z4 Z2 (Yi (Ii i aa0) (Xi ⟨(i+1,A),by omega,by simp_all⟩ ?_));exact⟨Dl x.length i aa0,Z4,Z2,Fh,Tv⟩
 .skip
  have h:¬(i:Int)<(x.map Am).length:=h;have h:¬i<x.length:=by simp_all
  have eA:A=(x.filter (IZ p)).map KZ:=by grind
  rw[<-eA]at h2;rw[<-eA];refine cU [(5,JI 8 A)] [(8,.tok 2 A.length)] Z1 Z1 (Xi .pure (Xi _ (Yi (h2) ?_)));exact .refl _
theorem c73(x:List Rl)(ifs:List (List AV))(p:ByteArray)(hs:∀r∈x,E4 r):PC 158 [Il x ifs,vs p] (sl Ab (A4 x p)):=by
 grind [Ab5,Ab4]
theorem Ir{α:Type}{enc:α->List AV}{n:Nat}(h:∀x,(enc x).length=n)(l:List α):∀cs∈l.map enc,cs.length=n:=fun cs hc=>by
 grind
abbrev MQ:List (List AV):=((A.map Ad).take (((A.map Ad).length:Nat):Int).toNat).drop ((k:Nat):Int).toNat
theorem qU:MQ A k=(A.drop k).map Ad:=by
 grind [List.take_of_length_le,List.map_drop]
abbrev jw:List (List AV):=((A.map Ad).take ((k:Nat):Int).toNat).drop ((0:Int)).toNat
theorem tq:jw A k=(A.take k).map Ad:=by
 grind [List.map_take]
theorem W4(x:Tm)(k:Nat)(h:A.length<=1073741824):A7 3 (MQ A k)/\[Ad x].length=1/\([Ad x].length+(MQ A k).length)*48<=140737488355328/\[Ad x].length+(MQ A k).length<=9223372036854775807:=by
 grind [Je]
theorem W5(x:Tm)(k:Nat)(h:A.length<=1073741824):A7 3 ([Ad x]++MQ A k)/\0<([Ad x]++MQ A k).length/\((jw A k).length+([Ad x]++MQ A k).length)*48<=140737488355328/\(jw A k).length+([Ad x]++MQ A k).length<=9223372036854775807:=by
 grind [Je,List.length_singleton]
theorem dV(x:Tm)(k:Nat):jw A k++([Ad x]++MQ A k)=(A.take k++([x]++A.drop k)).map Ad:=by
 grind [qU,tq]
theorem MR{l:List (List AV)}{k:Nat}{c x:List AV}(h:l[k]?=some x):(l.set k c)[k]?=some c:=List.getElem?_set_self (Bb.1 h).1
theorem qX(c:List AV):((A.map Ad).set k c).set k (Ad t)=(A.set k t).map Ad:=by simp_all
theorem M6(a b:AH):GD a (canon b)=GD a b:=Zp (fun _=>rfl) (En b)
theorem QB:F4 t=(!t.absent&&decide (t.set=[])):=by
 grind [F4]
theorem jM{q:Tm->Bool}{l:List Tm}(h:∀j (hj:j<l.length),q l[j]=false):l.any q=false:=by
 grind [List.getElem_of_mem]
set_option maxHeartbeats 4000000 in
theorem NZ(hl:BL l)(hs:∀t∈l,BL t.set):PC 205 [sl Ad l] (Ih l):=by
 have hl:l.length<=1073741824:=hl;have hc:∀s:AH,BL s->PC 125 [sl Ab s] (sl Ab (canon s)):=bc;have pt:∀(u t:Tm),Er u.set->PC 236 [.slice .none [[sl Ab u.set],[sl Ab (canon t.set)]]] (sl Ab (GD u.set (canon t.set))):=fun u t hu=>we [u.set,canon t.set] (by simp_all) (fun s hs=>by
  grind [Is,OT]) (by
  grind [KA])
 refine Ps ⟨[],[],[(10,3),(93,3),(100,3)],[],[],[],[],[],[],[(200004,10004),(200012,4)],[4,6,12]⟩ Tryz.func205 rfl (Nz rfl) (Xi {q:Nat×List Tm // q.1<=l.length/\q.2=CX (l.take q.1)} (Xi (fun q=>⟨[(0,sl Ad l),(4,.msl 10 q.1.2.length),(5,vi q.1.1)],[(10,.arr 3 (q.1.2.map Ad))],Ae⟩) (Xi (fun q=>l.length-q.1.1) (Yi (Xi ⟨(0,[]),Ap _,rfl⟩ ?_) ?_))))
 .exact⟨Z3,Z1,Fh,Tv⟩
 intro⟨⟨i,A⟩,i1,i2⟩;have i1:i<=l.length:=i1;have i2:A=CX (l.take i):=i2;have hA:A.length<=i:=by grind [Ub]
 have u7:∀t∈A,Er t.set:=fun t ht=>by grind [DE,BM.canon]
 refine Yi (fun h1=>?_) (fun h1=>?_)
 .have h1:(i:Int)<((l.map Ad).length:Int):=h1;have n1:i<l.length:=by simp_all
  have g1:l[i]?=some l[i]:=Ge n1;refine Xi (Ad l[i]) (Yi (Yi (Nn i) (Bk g1)) (Yi rfl (Xi (Ad l[i]) (Yi (Yi (Nn i) (Bk g1)) (Yi rfl (Yi (fun h2=>?_) (fun h2=>?_)))))))
  .have h2:l[i].absent=true:=h2;refine Xi (Ad l[i]) (Yi (Yi (Nn i) (Bk g1)) (Yi rfl (Xi _ (Yi (hc (l[i].set) (hs _ (Ak n1))) (yN (Yi aa3 (cU [(0,sl Ad l),(4,.msl 10 A.length),(5,vi i),(6,.ref 6 0)] [(6,.cells [vs l[i].path,vb l[i].absent,sl Ab (canon l[i].set)]),(10,.arr 3 (A.map Ad))] Z4 ⟨⟨(show HO.cells [vs l[i].path,vb true,sl Ab (canon l[i].set)]=.cells [vs l[i].path,vb l[i].absent,sl Ab (canon l[i].set)] by simp_all),rfl⟩,Zr,Tv⟩ ?_)))))))
   refine Xi {k:Nat // k<=A.length/\∀j (h:j<A.length),j<k->Fp A[j].path l[i].path=true} (Xi (fun q=>⟨[(0,sl Ad l),(4,.msl 10 A.length),(5,vi i),(6,.ref 6 0),(7,vi q.1)],[(6,.cells [vs l[i].path,vb l[i].absent,sl Ab (canon l[i].set)]),(10,.arr 3 (A.map Ad))],Ae⟩) (Xi (fun q=>A.length-q.1) (Yi (Xi ⟨0,Ap _,fun j _ h=>by omega⟩ ?_) ?_)))
   .exact⟨Z5,Z2,Fh,Tv⟩
   intro⟨k,k1,k2⟩;refine Yi (fun h3=>?_) (fun h3=>?_)
   .have h3:(k:Int)<(A.length:Int):=h3;have n3:k<A.length:=by omega
    have g3:A[k]?=some A[k]:=Ge n3;refine Yi aa0 (Yi (show A.length=(A.map Ad).length by simp) (Xi (Ad A[k]) (Yi (Bk g3) (Yi (fun h4=>?_) (fun h4=>?_)))))
    .have h4:Fp A[k].path l[i].path=true:=(Ew _ _).trans h4;refine Yi aa3 (Yi (by grind [As]) (Xi ⟨k+1,by omega,fun j hj Hg=>(El j k).elim (k2 j hj) (fun z=>by grind)⟩ ?_));exact⟨by grind,Z5,Z2,Fh,Tv⟩
    have h4:Fp A[k].path l[i].path=false:=(Ew _ _).trans (A2.2 h4);refine Yi aa3 (Yi (fun _=>?_) (fun hf=>absurd h3 hf));refine Yi aa0 (Yi (show A.length=(A.map Ad).length by simp) (Xi (Ad A[k]) (Yi (Bk g3) (Yi (fun h6=>?_) (fun h6=>?_)))))
    .have h6:(A[k].path:ByteArray)=l[i].path:=h6;refine Yi aa3 (Yi aa0 (Yi (show A.length=(A.map Ad).length by simp) (Xi (Ad A[k]) (Yi (Bk g3) (Yi (fun h7=>?_) (fun h7=>?_))))))
     .have h7:A[k].absent=true:=h7;refine Yi (fun _=>?_) (fun hf=>absurd (hf.symm.trans (h2:l[i].absent=true)) aa2);refine Yi aa0 (Yi (show A.length=(A.map Ad).length by simp) (Xi (Ad A[k]) (Yi (Bk g3) (yN (Yi aa0 (Yi (show A.length=(((A.map Ad).set k [vs A[k].path,vb true,sl Ab A[k].set]):List (List AV)).length by simp) (Xi [vs A[k].path,vb true,sl Ab A[k].set] (Yi (MR (Bk g3)) ?_))))))));refine Xi _ (Yi (pt A[k] l[i] (u7 _ (Ak n3))) (Yi aa0 (Yi (show A.length=(((A.map Ad).set k [vs A[k].path,vb true,sl Ab A[k].set]):List (List AV)).length by simp) (Xi [vs A[k].path,vb true,sl Ab A[k].set] (Yi (MR (Bk g3)) (yN ?_))))));refine Yi aa3 ?_;have hB:Hs l[i] A=A.set k (EB A[k] l[i]):=Sj l[i] A k n3 k2 h6;refine Al (show ∃B,B=A.set k (EB A[k] l[i])from⟨_,rfl⟩) (fun B Xr=>?_);have Xs:B=CX (l.take (i+1)):=by grind [FF]
      have VU:HO.arr 3 (((A.map Ad).set k [vs A[k].path,vb true,sl Ab A[k].set]).set k [vs A[k].path,vb true,sl Ab (GD A[k].set (canon l[i].set))])=.arr 3 (B.map Ad):=by
       rw[M6,Xr];exact Aa (HO.arr 3) ((Aa (fun b=>((A.map Ad).set k _).set k [vs A[k].path,vb b,sl Ab (GD A[k].set l[i].set)]) (show true=(A[k].absent&&l[i].absent) by simp_all)).trans (qX A k (EB A[k] l[i]) _))
      have e4:AV.msl 10 A.length=.msl 10 B.length:=by simp_all
      refine cU [(0,sl Ad l),(4,.msl 10 B.length),(5,vi i)] [(10,.arr 3 (B.map Ad))] ⟨Zr,⟨e4,rfl⟩,Zr,Tv⟩ ⟨⟨VU,rfl⟩,Tv⟩ (Yi (Ii i aa0) (Xi ⟨(i+1,B),by omega,Xs⟩ ?_));exact⟨by grind,Z3,Z1,Fh,Tv⟩
     have h7:A[k].absent=false:=h7;refine Yi aa0 (Yi (show A.length=(A.map Ad).length by simp) (Xi (Ad A[k]) (Yi (Bk g3) (yN (Yi aa0 (Yi (show A.length=(((A.map Ad).set k [vs A[k].path,vb false,sl Ab A[k].set]):List (List AV)).length by simp) (Xi [vs A[k].path,vb false,sl Ab A[k].set] (Yi (MR (Bk g3)) ?_))))))));refine Xi _ (Yi (pt A[k] l[i] (u7 _ (Ak n3))) (Yi aa0 (Yi (show A.length=(((A.map Ad).set k [vs A[k].path,vb false,sl Ab A[k].set]):List (List AV)).length by simp) (Xi [vs A[k].path,vb false,sl Ab A[k].set] (Yi (MR (Bk g3)) (yN ?_))))));refine Yi aa3 ?_;have hB:Hs l[i] A=A.set k (EB A[k] l[i]):=Sj l[i] A k n3 k2 h6;refine Al (show ∃B,B=A.set k (EB A[k] l[i])from⟨_,rfl⟩) (fun B Xr=>?_);have Xs:B=CX (l.take (i+1)):=by grind [FF]
     have VU:HO.arr 3 (((A.map Ad).set k [vs A[k].path,vb false,sl Ab A[k].set]).set k [vs A[k].path,vb false,sl Ab (GD A[k].set (canon l[i].set))])=.arr 3 (B.map Ad):=by
      rw[M6,Xr];exact Aa (HO.arr 3) ((Aa (fun b=>((A.map Ad).set k _).set k [vs A[k].path,vb b,sl Ab (GD A[k].set l[i].set)]) (show false=(A[k].absent&&l[i].absent) by simp_all)).trans (qX A k (EB A[k] l[i]) _))
     have e4:AV.msl 10 A.length=.msl 10 B.length:=by simp_all
     refine cU [(0,sl Ad l),(4,.msl 10 B.length),(5,vi i)] [(10,.arr 3 (B.map Ad))] ⟨Zr,⟨e4,rfl⟩,Zr,Tv⟩ ⟨⟨VU,rfl⟩,Tv⟩ (Yi (Ii i aa0) (Xi ⟨(i+1,B),by omega,Xs⟩ ?_));exact⟨by grind,Z3,Z1,Fh,Tv⟩
    have h6:¬(A[k].path:ByteArray)=l[i].path:=h6;refine Yi aa3 (Yi (by simp_all) ?_);refine cU [(0,sl Ad l),(4,sl Ad A),(5,vi i),(6,.ref 6 0),(7,vi k)] [(6,.cells [vs l[i].path,vb l[i].absent,sl Ab (canon l[i].set)])] Z5 Z1 (Yi (show(0:Int)<=0/\(0:Int)<=k/\(k:Int)=k/\(k:Int)<=((A.map Ad).length:Nat) by grind) (Yi (Ir (enc:=Ad) (n:=3) (fun _=>rfl) A) (yN (Yi (show(0:Int)<=k/\(k:Int)<=((A.map Ad).length:Nat)/\(((A.map Ad).length:Nat):Int)<=((A.map Ad).length:Nat) by grind) (Yi (Ir (enc:=Ad) (n:=3) (fun _=>rfl) A) ?_)))));refine Yi (W4 A (Dc l[i]) k aa0) (Yi (W5 A (Dc l[i]) k aa0) (Yi aa3 ?_));have hB:Hs l[i] A=(A.take k++([Dc l[i]]++A.drop k)):=Pm l[i] A k k1 k2 (fun h=>⟨h4,h6⟩);have Xs:(A.take k++([Dc l[i]]++A.drop k))=CX (l.take (i+1)):=by grind [FF]
    refine Yi rfl (Al (show ∃B,B=(A.take k++([Dc l[i]]++A.drop k))from⟨_,rfl⟩) (fun B Xr=>?_));rw[<-Xr]at Xs;have VU:HO.arr 3 (jw A k++([Ad (Dc l[i])]++MQ A k))=.arr 3 (B.map Ad):=by rw[dV,Xr]
    have e4:AV.msl 10 (jw A k++([Ad (Dc l[i])]++MQ A k)).length=.msl 10 B.length:=by simp_all
    refine cU [(0,sl Ad l),(4,.msl 10 B.length),(5,vi i)] [(10,.arr 3 (B.map Ad))] ⟨Zr,⟨e4,rfl⟩,Zr,Tv⟩ ⟨⟨VU,rfl⟩,Tv⟩ (Yi (Ii i aa0) (Xi ⟨(i+1,B),by omega,Xs⟩ ?_));exact⟨by grind,Z3,Z1,Fh,Tv⟩
   have h3:¬((k:Int)<(A.length:Int)):=h3;have n3:¬k<A.length:=by omega
   refine Yi aa3 (Yi (fun hf=>absurd hf h3) (fun _=>?_));refine Yi aa3 (Yi (by simp_all) ?_);refine cU [(0,sl Ad l),(4,sl Ad A),(5,vi i),(6,.ref 6 0),(7,vi k)] [(6,.cells [vs l[i].path,vb l[i].absent,sl Ab (canon l[i].set)])] Z5 Z1 (Yi (show(0:Int)<=0/\(0:Int)<=k/\(k:Int)=k/\(k:Int)<=((A.map Ad).length:Nat) by grind) (Yi (Ir (enc:=Ad) (n:=3) (fun _=>rfl) A) (yN (Yi (show(0:Int)<=k/\(k:Int)<=((A.map Ad).length:Nat)/\(((A.map Ad).length:Nat):Int)<=((A.map Ad).length:Nat) by grind) (Yi (Ir (enc:=Ad) (n:=3) (fun _=>rfl) A) ?_)))));refine Yi (W4 A (Dc l[i]) k aa0) (Yi (W5 A (Dc l[i]) k aa0) (Yi aa3 ?_));have hB:Hs l[i] A=(A.take k++([Dc l[i]]++A.drop k)):=Pm l[i] A k k1 k2 (fun h=>absurd h aa0);have Xs:(A.take k++([Dc l[i]]++A.drop k))=CX (l.take (i+1)):=by grind [FF]
   refine Yi rfl (Al (show ∃B,B=(A.take k++([Dc l[i]]++A.drop k))from⟨_,rfl⟩) (fun B Xr=>?_));rw[<-Xr]at Xs;have VU:HO.arr 3 (jw A k++([Ad (Dc l[i])]++MQ A k))=.arr 3 (B.map Ad):=by rw[dV,Xr]
   have e4:AV.msl 10 (jw A k++([Ad (Dc l[i])]++MQ A k)).length=.msl 10 B.length:=by simp_all
   refine cU [(0,sl Ad l),(4,.msl 10 B.length),(5,vi i)] [(10,.arr 3 (B.map Ad))] ⟨Zr,⟨e4,rfl⟩,Zr,Tv⟩ ⟨⟨VU,rfl⟩,Tv⟩ (Yi (Ii i aa0) (Xi ⟨(i+1,B),by omega,Xs⟩ ?_));exact⟨by grind,Z3,Z1,Fh,Tv⟩
  have h2:l[i].absent=false:=h2;refine Xi (Ad l[i]) (Yi (Yi (Nn i) (Bk g1)) (Yi rfl (Xi _ (Yi (hc (l[i].set) (hs _ (Ak n1))) (yN (Yi aa3 (cU [(0,sl Ad l),(4,.msl 10 A.length),(5,vi i),(6,.ref 6 0)] [(6,.cells [vs l[i].path,vb l[i].absent,sl Ab (canon l[i].set)]),(10,.arr 3 (A.map Ad))] Z4 ⟨⟨(show HO.cells [vs l[i].path,vb false,sl Ab (canon l[i].set)]=.cells [vs l[i].path,vb l[i].absent,sl Ab (canon l[i].set)] by simp_all),rfl⟩,Zr,Tv⟩ ?_)))))))
  refine Xi {k:Nat // k<=A.length/\∀j (h:j<A.length),j<k->Fp A[j].path l[i].path=true} (Xi (fun q=>⟨[(0,sl Ad l),(4,.msl 10 A.length),(5,vi i),(6,.ref 6 0),(7,vi q.1)],[(6,.cells [vs l[i].path,vb l[i].absent,sl Ab (canon l[i].set)]),(10,.arr 3 (A.map Ad))],Ae⟩) (Xi (fun q=>A.length-q.1) (Yi (Xi ⟨0,Ap _,fun j _ h=>by omega⟩ ?_) ?_)))
  .exact⟨Z5,Z2,Fh,Tv⟩
  intro⟨k,k1,k2⟩;refine Yi (fun N7=>?_) (fun N7=>?_)
  .have N7:(k:Int)<(A.length:Int):=N7;have n12:k<A.length:=by omega
   have g12:A[k]?=some A[k]:=Ge n12;refine Yi aa0 (Yi (show A.length=(A.map Ad).length by simp) (Xi (Ad A[k]) (Yi (Bk g12) (Yi (fun Nx=>?_) (fun Nx=>?_)))))
   .have Nx:Fp A[k].path l[i].path=true:=(Ew _ _).trans Nx;refine Yi aa3 (Yi (by grind [As]) (Xi ⟨k+1,by omega,fun j hj Hg=>(El j k).elim (k2 j hj) (fun z=>by grind)⟩ ?_));exact⟨by grind,Z5,Z2,Fh,Tv⟩
   have Nx:Fp A[k].path l[i].path=false:=(Ew _ _).trans (A2.2 Nx);refine Yi aa3 (Yi (fun _=>?_) (fun hf=>absurd N7 hf));refine Yi aa0 (Yi (show A.length=(A.map Ad).length by simp) (Xi (Ad A[k]) (Yi (Bk g12) (Yi (fun L7=>?_) (fun L7=>?_)))))
   .have L7:(A[k].path:ByteArray)=l[i].path:=L7;refine Yi aa3 (Yi aa0 (Yi (show A.length=(A.map Ad).length by simp) (Xi (Ad A[k]) (Yi (Bk g12) (Yi (fun Sg=>?_) (fun Sg=>?_))))))
    .have Sg:A[k].absent=true:=Sg;refine Yi (fun hf=>absurd (hf.symm.trans (h2:l[i].absent=false)) aa2) (fun _=>?_);refine Yi aa0 (Yi (show A.length=(A.map Ad).length by simp) (Xi (Ad A[k]) (Yi (Bk g12) (yN (Yi aa0 (Yi (show A.length=(((A.map Ad).set k [vs A[k].path,vb false,sl Ab A[k].set]):List (List AV)).length by simp) (Xi [vs A[k].path,vb false,sl Ab A[k].set] (Yi (MR (Bk g12)) ?_))))))));refine Xi _ (Yi (pt A[k] l[i] (u7 _ (Ak n12))) (Yi aa0 (Yi (show A.length=(((A.map Ad).set k [vs A[k].path,vb false,sl Ab A[k].set]):List (List AV)).length by simp) (Xi [vs A[k].path,vb false,sl Ab A[k].set] (Yi (MR (Bk g12)) (yN ?_))))));refine Yi aa3 ?_;have hB:Hs l[i] A=A.set k (EB A[k] l[i]):=Sj l[i] A k n12 k2 L7;refine Al (show ∃B,B=A.set k (EB A[k] l[i])from⟨_,rfl⟩) (fun B Xr=>?_);have Xs:B=CX (l.take (i+1)):=by grind [FF]
     have VU:HO.arr 3 (((A.map Ad).set k [vs A[k].path,vb false,sl Ab A[k].set]).set k [vs A[k].path,vb false,sl Ab (GD A[k].set (canon l[i].set))])=.arr 3 (B.map Ad):=by
      rw[M6,Xr];exact Aa (HO.arr 3) ((Aa (fun b=>((A.map Ad).set k _).set k [vs A[k].path,vb b,sl Ab (GD A[k].set l[i].set)]) (show false=(A[k].absent&&l[i].absent) by simp_all)).trans (qX A k (EB A[k] l[i]) _))
     have e4:AV.msl 10 A.length=.msl 10 B.length:=by simp_all
     refine cU [(0,sl Ad l),(4,.msl 10 B.length),(5,vi i)] [(10,.arr 3 (B.map Ad))] ⟨Zr,⟨e4,rfl⟩,Zr,Tv⟩ ⟨⟨VU,rfl⟩,Tv⟩ (Yi (Ii i aa0) (Xi ⟨(i+1,B),by omega,Xs⟩ ?_));exact⟨by grind,Z3,Z1,Fh,Tv⟩
    have Sg:A[k].absent=false:=Sg;refine Yi aa0 (Yi (show A.length=(A.map Ad).length by simp) (Xi (Ad A[k]) (Yi (Bk g12) (yN (Yi aa0 (Yi (show A.length=(((A.map Ad).set k [vs A[k].path,vb false,sl Ab A[k].set]):List (List AV)).length by simp) (Xi [vs A[k].path,vb false,sl Ab A[k].set] (Yi (MR (Bk g12)) ?_))))))));refine Xi _ (Yi (pt A[k] l[i] (u7 _ (Ak n12))) (Yi aa0 (Yi (show A.length=(((A.map Ad).set k [vs A[k].path,vb false,sl Ab A[k].set]):List (List AV)).length by simp) (Xi [vs A[k].path,vb false,sl Ab A[k].set] (Yi (MR (Bk g12)) (yN ?_))))));refine Yi aa3 ?_;have hB:Hs l[i] A=A.set k (EB A[k] l[i]):=Sj l[i] A k n12 k2 L7;refine Al (show ∃B,B=A.set k (EB A[k] l[i])from⟨_,rfl⟩) (fun B Xr=>?_);have Xs:B=CX (l.take (i+1)):=by grind [FF]
    have VU:HO.arr 3 (((A.map Ad).set k [vs A[k].path,vb false,sl Ab A[k].set]).set k [vs A[k].path,vb false,sl Ab (GD A[k].set (canon l[i].set))])=.arr 3 (B.map Ad):=by
     rw[M6,Xr];exact Aa (HO.arr 3) ((Aa (fun b=>((A.map Ad).set k _).set k [vs A[k].path,vb b,sl Ab (GD A[k].set l[i].set)]) (show false=(A[k].absent&&l[i].absent) by simp_all)).trans (qX A k (EB A[k] l[i]) _))
    have e4:AV.msl 10 A.length=.msl 10 B.length:=by simp_all
    refine cU [(0,sl Ad l),(4,.msl 10 B.length),(5,vi i)] [(10,.arr 3 (B.map Ad))] ⟨Zr,⟨e4,rfl⟩,Zr,Tv⟩ ⟨⟨VU,rfl⟩,Tv⟩ (Yi (Ii i aa0) (Xi ⟨(i+1,B),by omega,Xs⟩ ?_));exact⟨by grind,Z3,Z1,Fh,Tv⟩
   have L7:¬(A[k].path:ByteArray)=l[i].path:=L7;refine Yi aa3 (Yi (by simp_all) ?_);refine cU [(0,sl Ad l),(4,sl Ad A),(5,vi i),(6,.ref 6 0),(7,vi k)] [(6,.cells [vs l[i].path,vb l[i].absent,sl Ab (canon l[i].set)])] Z5 Z1 (Yi (show(0:Int)<=0/\(0:Int)<=k/\(k:Int)=k/\(k:Int)<=((A.map Ad).length:Nat) by grind) (Yi (Ir (enc:=Ad) (n:=3) (fun _=>rfl) A) (yN (Yi (show(0:Int)<=k/\(k:Int)<=((A.map Ad).length:Nat)/\(((A.map Ad).length:Nat):Int)<=((A.map Ad).length:Nat) by grind) (Yi (Ir (enc:=Ad) (n:=3) (fun _=>rfl) A) ?_)))));refine Yi (W4 A (Dc l[i]) k aa0) (Yi (W5 A (Dc l[i]) k aa0) (Yi aa3 ?_));have hB:Hs l[i] A=(A.take k++([Dc l[i]]++A.drop k)):=Pm l[i] A k k1 k2 (fun h=>⟨Nx,L7⟩);have Xs:(A.take k++([Dc l[i]]++A.drop k))=CX (l.take (i+1)):=by grind [FF]
   refine Yi rfl (Al (show ∃B,B=(A.take k++([Dc l[i]]++A.drop k))from⟨_,rfl⟩) (fun B Xr=>?_));rw[<-Xr]at Xs;have VU:HO.arr 3 (jw A k++([Ad (Dc l[i])]++MQ A k))=.arr 3 (B.map Ad):=by rw[dV,Xr]
   have e4:AV.msl 10 (jw A k++([Ad (Dc l[i])]++MQ A k)).length=.msl 10 B.length:=by simp_all
   refine cU [(0,sl Ad l),(4,.msl 10 B.length),(5,vi i)] [(10,.arr 3 (B.map Ad))] ⟨Zr,⟨e4,rfl⟩,Zr,Tv⟩ ⟨⟨VU,rfl⟩,Tv⟩ (Yi (Ii i aa0) (Xi ⟨(i+1,B),by omega,Xs⟩ ?_));exact⟨by grind,Z3,Z1,Fh,Tv⟩
  have N7:¬((k:Int)<(A.length:Int)):=N7;have n12:¬k<A.length:=by omega
  refine Yi aa3 (Yi (fun hf=>absurd hf N7) (fun _=>?_));refine Yi aa3 (Yi (by simp_all) ?_);refine cU [(0,sl Ad l),(4,sl Ad A),(5,vi i),(6,.ref 6 0),(7,vi k)] [(6,.cells [vs l[i].path,vb l[i].absent,sl Ab (canon l[i].set)])] Z5 Z1 (Yi (show(0:Int)<=0/\(0:Int)<=k/\(k:Int)=k/\(k:Int)<=((A.map Ad).length:Nat) by grind) (Yi (Ir (enc:=Ad) (n:=3) (fun _=>rfl) A) (yN (Yi (show(0:Int)<=k/\(k:Int)<=((A.map Ad).length:Nat)/\(((A.map Ad).length:Nat):Int)<=((A.map Ad).length:Nat) by grind) (Yi (Ir (enc:=Ad) (n:=3) (fun _=>rfl) A) ?_)))));refine Yi (W4 A (Dc l[i]) k aa0) (Yi (W5 A (Dc l[i]) k aa0) (Yi aa3 ?_));have hB:Hs l[i] A=(A.take k++([Dc l[i]]++A.drop k)):=Pm l[i] A k k1 k2 (fun h=>absurd h aa0);have Xs:(A.take k++([Dc l[i]]++A.drop k))=CX (l.take (i+1)):=by grind [FF]
  refine Yi rfl (Al (show ∃B,B=(A.take k++([Dc l[i]]++A.drop k))from⟨_,rfl⟩) (fun B Xr=>?_));rw[<-Xr]at Xs;have VU:HO.arr 3 (jw A k++([Ad (Dc l[i])]++MQ A k))=.arr 3 (B.map Ad):=by rw[dV,Xr]
  have e4:AV.msl 10 (jw A k++([Ad (Dc l[i])]++MQ A k)).length=.msl 10 B.length:=by simp_all
  refine cU [(0,sl Ad l),(4,.msl 10 B.length),(5,vi i)] [(10,.arr 3 (B.map Ad))] ⟨Zr,⟨e4,rfl⟩,Zr,Tv⟩ ⟨⟨VU,rfl⟩,Tv⟩ (Yi (Ii i aa0) (Xi ⟨(i+1,B),by omega,Xs⟩ ?_));exact⟨by grind,Z3,Z1,Fh,Tv⟩
 have h1:¬((i:Int)<((l.map Ad).length:Int)):=h1;have n1:¬i<l.length:=by simp_all
 have hAl:A=CX l:=by grind
 refine Xi {q:Nat×List Tm // q.1<=A.length/\(∀j (h:j<A.length),j<q.1->F4 A[j]=false)/\q.2=(A.take q.1).filter fun t=>!FB t} (Xi (fun q=>⟨[(4,.msl 10 A.length),(8,.slice (.id 101 3) (q.1.2.map Ad)),(9,vi q.1.1)],[(10,.arr 3 (A.map Ad)),(101,.tok 3 q.1.2.length)],Ae⟩) (Xi (fun q=>A.length-q.1.1) (Yi (Xi ⟨(0,[]),Ap _,fun j _ h=>by omega,rfl⟩ ?_) ?_)))
 .exact⟨Z3,Z2,Fh,Tv⟩
 intro⟨⟨j,O⟩,j1,j2,j3⟩;have j1:j<=A.length:=j1;have j2:∀m (h:m<A.length),m<j->F4 A[m]=false:=j2;have j3:O=(A.take j).filter (fun t=>!FB t):=j3;have hO:O.length<=j:=by
  grind
 refine Yi (fun OG=>?_) (fun OG=>?_)
 .have OG:(j:Int)<(A.length:Int):=OG;have n21:j<A.length:=by omega
  have g21:A[j]?=some A[j]:=Ge n21;refine Yi aa0 (Yi (show A.length=(A.map Ad).length by simp) (Xi (Ad A[j]) (Yi (Bk g21) (yN (AA (Bt (!A[j].absent&&decide (A[j].set=[]))) (fun Vf=>?_) (fun Vf=>?_))))))
  .have Vf:(!A[j].absent&&decide (A[j].set=[]))=true:=Vf;have lh:=wg A[j];rw[show(!A[j].absent&&decide (A[j].set=[]))=true from Vf]at lh;refine Xi .pure (Xi _ (Yi lh ?_));have zu:A3 l=none:=by grind [A3,QB]
   exact(show Ea (.tup [nzA,vb false]) (.tup [.slice .none [],vb false])from Ea.tup ⟨.nil,.refl _,trivial⟩).trans (.of_eq (show AV.tup [.slice .none [],vb false]=Ih l by grind [BT]))
  have Vf:(!A[j].absent&&decide (A[j].set=[]))=false:=Vf;have xl:=wg A[j];rw[show(!A[j].absent&&decide (A[j].set=[]))=false from Vf]at xl;refine Xi .pure (Xi _ (Yi xl (Yi aa0 (Yi (show A.length=(A.map Ad).length by simp) (Xi (Ad A[j]) (Yi (Bk g21) (yN (AA (Bt (A[j].absent&&decide (A[j].set=[(0,1000000)]))) (fun s9=>?_) (fun s9=>?_)))))))))
  .have s9:(A[j].absent&&decide (A[j].set=[(0,1000000)]))=true:=s9;have xn:=wh A[j] (Is (u7 _ (Ak n21)));rw[show(A[j].absent&&decide (A[j].set=[(0,1000000)]))=true from s9]at xn;refine Xi .pure (Xi _ (Yi xn (Yi (by grind [As]) (Xi ⟨(j+1,O),by omega,fun m hm hmj=>(El m j).elim (j2 m hm) (fun z=>by grind [QB]),by show O=(A.take (j+1)).filter _;rw[Ck,Ge n21,HG,<-j3];grind [FB]⟩ ?_))));exact⟨Dl A.length j aa0,Z3,Z2,Fh,Tv⟩
  have s9:(A[j].absent&&decide (A[j].set=[(0,1000000)]))=false:=s9;have xo:=wh A[j] (Is (u7 _ (Ak n21)));rw[show(A[j].absent&&decide (A[j].set=[(0,1000000)]))=false from s9]at xo;refine Xi .pure (Xi _ (Yi xo (Yi aa0 (Yi (show A.length=(A.map Ad).length by simp) (Xi (Ad A[j]) (Yi (Bk g21) (yN ?_)))))));have b30:A7 3 [(Ad A[j])]/\(O.map Ad).length=O.length/\((O.map Ad).length+([(Ad A[j])]:List (List AV)).length)*48<=140737488355328/\(O.map Ad).length+([(Ad A[j])]:List (List AV)).length<=9223372036854775807:=⟨⟨rfl,trivial⟩,aa1,(by grind),(by grind)⟩;refine Yi b30 (Yi (by grind [As]) (Xi ⟨(j+1,(O++[A[j]])),by omega,fun m hm hmj=>(El m j).elim (j2 m hm) (fun z=>by grind [QB]),by show(O++[A[j]])=(A.take (j+1)).filter _;rw[Ck,Ge n21,HG,<-j3];show _=O++[A[j]].filter _;rw[List.filter_cons,AX (by grind [FB])];simp⟩ ?_));exact⟨Dl A.length j aa0,⟨Zr,⟨(show AV.slice (.id 101 3) (O.map Ad++[Ad A[j]])=.slice (.id 101 3) ((O++[A[j]]).map Ad) by simp),rfl⟩,Zr,Tv⟩,⟨Zr,⟨(show HO.tok 3 ((O.map Ad).length+[Ad A[j]].length)=.tok 3 (O++[A[j]]).length by simp),rfl⟩,Tv⟩,Fh,Tv⟩
 have OG:¬((j:Int)<(A.length:Int)):=OG;have n21:¬j<A.length:=by omega
 have ej:A.take j=A:=Bd aa0;rw[ej]at j3;have zu:A3 l=some O:=by grind [A3,jM]
 exact .of_eq (show AV.tup [sl Ad O,vb true]=Ih l by grind [BT])
end Go.Eng
