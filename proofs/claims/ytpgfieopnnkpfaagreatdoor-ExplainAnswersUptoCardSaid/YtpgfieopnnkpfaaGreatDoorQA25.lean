/- Lemmas 25. -/
import Derived.Test.YtpgfieopnnkpfaaGreatDoorQA24
namespace Go.Eng
open Go.Proofs
variable {m:Int}{j:Nat}{A:AF}(s:AF)(x:List Rl)(a:Ver)(l:List AF)(v:Ver)(d:Nat)(t:Tm)(n:Int)(r:Rl)(ifs:List (List AV))(p:ByteArray)(b:Ver)(i k:Nat)
abbrev fC:Int:=match A8 p with | none=>-1 | some m=>m
abbrev sW:Prop:=∀p:ByteArray,Ew p->PC 238 [vs p] (vi (fC p))
abbrev sX:Prop:=∀s:AF,BB s->PC 104 [sl Ab s] (sl Ab (canon s))
theorem oF{r:List UInt8}(h:r.all BZ=true):0<=Dy r:=by
 have:∀(l:List UInt8) (n:Int),0<=n->(∀c∈l,BZ c=true)->0<=l.foldl (fun n c=>10*n+((c.toNat:Int)-48)) n:=by
  intro l
  induction l<;>grind [IW]
 exact this r 0 (Cg _) (fun c hc=>BI.1 h c hc)
theorem ph{s:List UInt8}{n:Int}(h:Fz s=some n):0<=n:=by
 unfold Fz at h;split at h
 .split at h
  .split at h
   .cases h
   .rename_i r _ hc;cases h;refine oF ?_;simp_all
  simp_all
 simp_all
theorem kA{p:ByteArray}(h:A8 p=some m):0<=m:=by
 unfold A8 NJ at h;split at h
 .cases h
 .rename_i n e;split at h
  .cases h
  .split at h
   .cases h;exact ph e
   simp_all
theorem YK:fC p<0↔(A8 p).isNone=true:=by
 unfold fC;cases h:A8 p with
 |none=>simp
 |some m=>have:=kA h;simp_all
theorem c68(jq:sW)(ny:sX)(l:List Rq)(hs:∀q∈l,Lw q):PC 171 [sl Ad l] (vi (Ba l)):=by
 refine Ps (Dc []) Tryz.func171 rfl (Nz rfl) (Yi ?_ ?_)
 .intro h;exact .of_eq (Aa vi (show(7:Int)=Ba l by grind [Ba]))
 intro h;have hl:l.length<=16:=by grind
 have M8:Ba l=Ej none l:=by grind [Ba]
 refine Xi {i:Nat // i<=l.length/\Ej none l=Ej (I5 l i) (l.drop i)} (Xi (fun i=>⟨[(0,sl Ad l),(3,vi i.1)],[],Af⟩) (Xi (fun i=>l.length-i.1) (Yi (Xi ⟨0,Ao _,rfl⟩ ?_) ?_)))
 .exact⟨Z2,Tv,Fh,Tv⟩
 intro⟨i,h1,h2⟩;refine Yi ?_ ?_
 .intro h;have h:i<l.length:=by simp_all
  have hg:l[i]?=some l[i]:=Ge h;have hd:l.drop i=l[i]::l.drop (i+1):=Bd h;have hq:=hs l[i] (Ah h);have Ja:Ej none l=if GY (I5 l i) l[i]=0 then Ej (some l[i].path) (l.drop (i+1))else GY (I5 l i) l[i]:=by rw[h2,hd];rfl
  have fail:∀e:Int,GY (I5 l i) l[i]=e->e≠0->e=Ba l:=fun e he hz=>by omega
  have Xf:I5 l (i+1)=some l[i].path:=XH h;refine Xi (Ad l[i]) (Yi (Yi aa0 (by grind)) (Yi rfl (Xi .pure (Xi _ (Yi (jq l[i].path hq.2) (Yi ?_ ?_))))))
  .intro h3;exact .of_eq (Aa vi (fail 4 (by grind [GY,YK]) aa2))
  intro h3;have hmj:(A8 l[i].path).isNone=false:=by
   grind
  have er:GY (I5 l i) l[i]=if(l[i].set.isEmpty||!decide (l[i].set=canon l[i].set)||(match I5 l i with | some b=>!G1 b l[i].path | none=>false))=true then 1 else 0:=by unfold GY;grind
  refine Xi (Ad l[i]) (Yi (Yi aa0 (by grind)) (Yi rfl (Yi ?_ ?_)))
  .intro h4;have h5:l[i].set.isEmpty=true:=by
    rw[Lm]at h4;rw[Ll];exact Az aa0
   refine Yi aa3 ?_;exact .of_eq (Aa vi (fail 1 (by grind) aa2))
  intro h4;have h5:l[i].set.isEmpty=false:=by
   grind
  have he:=c75 l[i].set (canon l[i].set) hq.1;refine Xi (Ad l[i]) (Yi (Yi aa0 (by grind)) (Yi rfl (Xi (Ad l[i]) (Yi (Yi aa0 (by grind)) (Yi rfl (Xi _ (Yi (ny l[i].set hq.1) (AG (Bt (decide (l[i].set=canon l[i].set))) (fun e=>?_) (fun e=>?_)))))))))
  rotate_left
  .rw[e]at he;refine Xi _ (Yi (he) (Yi aa3 ?_));exact .of_eq (Aa vi (fail 1 (by grind) aa2))
  rw[e]at he;refine Xi _ (Yi (he) (Yi aa3 (Yi ?_ ?_)))
  .intro h6;have h6:(0:Int)<i:=h6;have h7:i-1<l.length:=by omega
   have hb:I5 l i=some l[i-1].path:=by
    grind
   refine Xi (Ad l[i]) (Yi (Yi aa0 (by grind)) (Yi rfl (Yi (by grind [Al]) (Xi (Ad l[i-1]) (Yi (Yi aa0 (by rw[show((i:Int)-1).toNat=i-1 by omega];grind)) (Yi rfl ?_))))));refine Yi ?_ ?_
   .intro h8;refine Yi aa3 ?_;exact .of_eq (Aa vi (fail 1 (by grind [Ed]) aa2))
   .intro h8;have h8:¬Op.bytesLess l[i-1].path.toList l[i].path.toList=false:=h8;have h8:Op.bytesLess l[i-1].path.toList l[i].path.toList=true:=by grind
    refine Yi aa3 (Yi (by grind [Al]) (Xi ⟨i+1,by omega,by grind [Ed]⟩ ?_));exact⟨Dl l.length i aa0,Z2,Tv,Fh,Tv⟩
  .intro h6;have h6:¬(0:Int)<i:=h6;have h7:i=0:=by omega
   refine Yi aa3 (Yi (by show Al ((i:Int)+1);grind [Al]) (Xi ⟨i+1,by omega,by grind⟩ ?_));exact⟨Dl l.length i aa0,Z2,Tv,Fh,Tv⟩
 .intro h;have h:¬(i:Int)<(l.map Ad).length:=h;have h:¬i<l.length:=by simp_all
  have e:(0:Int)=Ba l:=by rw[M8,h2,Hj aa0];rfl
  exact .of_eq (Aa vi e)
theorem aW(hk:k<p.data.toList.length)(h1:p.data.toList[k]=47)(h2:∀j (hj:j<p.data.toList.length),k<j->p.data.toList[j]≠47):Go.Lib.lastIndex p.data.toList [47]=k:=by
 have hoc:∀i (hi:i<p.data.toList.length),Go.Lib.occAt p.data.toList [47] i=true↔p.data.toList[i]=47:=fun i hi=>by
  grind [Go.Lib.occAt,List.drop_eq_getElem_cons]
 grind [Go.Lib.lastIndex,Go.Lib.lastOcc_spec]
theorem gx{p:ByteArray}(h:A8 p=some m):(47:UInt8)∈p.data.toList:=by
 grind [NW,A8,NJ]
theorem tr(hp:Ew p):PC 102 [vs p] (OL PH p):=by
 have hc:=tC p hp;have hi:=x7 p hp;have FM:p.size=p.data.toList.length:=by simp
 unfold OL;cases h:A8 p with
 |none=>
  rw[h]at hi;refine Ps Cu Tryz.func102 rfl (Nz rfl) (Xi .pure (Xi _ (Yi (hi) ?_)));exact .refl _
 |some n=>
  have Xj:=gx h;rw[h]at hc hi;unfold Ew at hp;refine Am (show ∃q,∃hq:q<p.data.toList.length,p.data.toList[q]=47 from Ev Xj) (fun q hq=>?_);refine Am hq (fun hq eq=>?_);refine Ps Cu Tryz.func102 rfl (Nz rfl) (Xi .pure (Xi _ (Yi (hi) (Xi .pure (Xi _ (Yi (hc) (Yi (fun h=>absurd rfl h) (fun _=>?_))))))));refine Yi (show Al (((p.size:Nat):Int)-1) by grind [Al]) ?_;refine Xi {k:Nat // k<p.data.toList.length/\∀j (hj:j<p.data.toList.length),k<j->p.data.toList[j]≠47} (Xi (fun k=>⟨[(0,vs p),(5,vi n),(7,vi k.1)],[],Af⟩) (Xi (fun k=>k.1) (Yi (Xi ⟨p.data.toList.length-1,by omega,fun j hj He=>by omega⟩ ?_) ?_)))
  .have e1:vi (((p.size:Nat):Int)-1)=vi ((p.data.toList.length-1:Nat):Int):=Aa vi aa0;exact⟨⟨Zr,Zr,⟨e1,rfl⟩,Tv⟩,Tv,Fh,Tv⟩
  intro⟨k,k1,k2⟩;have Mu:(0:Int)<=k/\p.data[((k:Nat):Int).toNat]?=some p.data.toList[k]:=⟨by omega,by grind⟩;refine Xi p.data.toList[k] (Yi Mu (Yi (fun h2=>?_) (fun h2=>?_)))
  .have h2:p.data.toList[k]≠47:=fun e=>h2 (by rw[e];rfl);have hqk:q<=k:=by
    grind
   have ZB:q≠k:=fun e=>by grind
   refine Yi (show Al ((k:Int)-1) by grind [Al]) ?_;have e1:vi ((k:Int)-1)=vi ((k-1:Nat):Int):=Aa vi aa0;refine Xi ⟨k-1,by omega,fun j hj He=>?_⟩ ?_
   .grind
   .exact⟨by grind,⟨Zr,Zr,⟨e1,rfl⟩,Tv⟩,Tv,Fh,Tv⟩
  .have h2:p.data.toList[k]=47:=Hr.1 (by grind);have el:=aW p k k1 h2 k2;refine Yi ⟨Cg _,by grind,by grind⟩ ?_;have e3:p.extract 0 ((k:Nat):Int).toNat=PH p:=by grind
   exact .of_eq (show AV.tup [vs (p.extract 0 ((k:Nat):Int).toNat),vi n,vi 0]=_ by rw[e3])
theorem xu(hp:Ew p):PC 238 [vs p] (vi (fC p)):=by
 have hc:=tr p hp;unfold OL at hc;unfold fC;cases h:A8 p with
 |none=>
  rw[h]at hc;refine Ps Cu Tryz.func238 rfl (Nz rfl) (Xi .pure (Xi _ (Yi (hc) (Yi (fun _=>?_) (fun h=>absurd (show(4:Int)≠0 by decide) h)))));exact .refl _
 |some m=>
  rw[h]at hc;refine Ps Cu Tryz.func238 rfl (Nz rfl) (Xi .pure (Xi _ (Yi (hc) (Yi (fun h=>absurd rfl h) (fun _=>?_)))));exact .refl _
theorem jq:sW:=xu
abbrev vR:Nm:=⟨[],[(3,0)],[(63,2)],[],[],[],[],[],[],[(112,7)],[4,6,10,11,14,16,17,18]⟩
theorem Mj:∀cs∈s.map Ab,cs.length=2:=fun cs h=>by
 grind
theorem IT{n:Nat}:∀{l:List (List AV)},(∀c∈l,c.length=n)->AZ n l
 | [],_=>trivial
 |c::_,h=>⟨h c (Ai ..),IT fun d hd=>h d (At _ hd)⟩
abbrev Ng:List (List AV):=((s.map Ab).take (((s.map Ab).length:Nat):Int).toNat).drop ((k:Nat):Int).toNat
theorem lu:Ng s k=(s.drop k).map Ab:=by
 grind [List.take_of_length_le,List.map_drop]
theorem pr(x:Int×Int)(k:Nat)(h:s.length<=1073741824):AZ 2 (Ng s k)/\[Ab x].length=1/\([Ab x].length+(Ng s k).length)*16<=140737488355328/\[Ab x].length+(Ng s k).length<=9223372036854775807:=by
 grind [IT]
abbrev Sx:List (List AV):=((s.map Ab).take ((k:Nat):Int).toNat).drop ((0:Int)).toNat
theorem jO:Sx s k=(s.take k).map Ab:=by
 grind [List.map_take]
theorem Uv(x:Int×Int)(k:Nat)(hk:k<=s.length)(h:s.length<=1073741824):AZ 2 ([Ab x]++Ng s k)/\(Sx s k).length=((k:Nat):Int).toNat-((0:Int)).toNat/\((Sx s k).length+([Ab x]++Ng s k).length)*16<=140737488355328/\(Sx s k).length+([Ab x]++Ng s k).length<=9223372036854775807:=by
 grind [IT]
theorem Aao(x:Int×Int)(k:Nat):Sx s k++([Ab x]++Ng s k)=(s.take k++([x]++s.drop k)).map Ab:=by
 grind [lu,jO]
theorem fo{s:AF}(h:j<s.length)(hA:A=(BA (s.take j)).reverse){y:Int×Int}(hy:A[A.length-1]?=some y)(HB:s[j].1<=y.2):A.set (A.length-1) (y.1,max y.2 s[j].2)=(BA (s.take (j+1))).reverse:=by
 rw[Fb s j h];cases hr:BA (s.take j)with
 |nil=>simp_all
 |cons z t=>
  have eA:A=t.reverse++[z]:=by simp_all
  have eL:A.length-1=t.reverse.length:=by simp_all
  rw[eL,eA,B7 (Aq _),Io]at hy;have ez:z=y:=DY hy;have e2:Jk (z::t) s[j]=(z.1,max z.2 s[j].2)::t:=by show(if s[j].1<=z.2 then _ else _)=_;simp_all
  simp_all
theorem Yz{s:AF}(h:j<s.length)(hA:A=(BA (s.take j)).reverse)(hn:∀y,A[A.length-1]?=some y->¬s[j].1<=y.2):A++[s[j]]=(BA (s.take (j+1))).reverse:=by
 rw[Fb s j h];cases hr:BA (s.take j)with
 |nil=>rw[hA,hr];rfl
 |cons z t=>
  have eA:A=t.reverse++[z]:=by simp_all
  have eL:A.length-1=t.reverse.length:=by simp_all
  have:=hn z (by simp_all)
  have e2:Jk (z::t) s[j]=s[j]::z::t:=by show(if s[j].1<=z.2 then _ else _)=_;simp_all
  simp_all
set_option maxHeartbeats 4000000 in
theorem XM(l:AF)(hl:BB l):PC 104 [sl Ab l] (sl Ab (canon l)):=by
 refine Ps vR Tryz.func104 rfl (Nz rfl) (Xi {p:Nat×AF // p.1<=l.length/\p.2.Perm (DG (l.take p.1))/\p.2.Pairwise fun a b=>a.1<=b.1} (Xi (fun p=>⟨[(0,sl Ab l),(3,sl Ab p.1.2),(4,vi p.1.1)],[],Af⟩) (Xi (fun p=>l.length-p.1.1) (Yi (Xi ⟨(0,[]),Ao _,.refl _,.nil⟩ ?_) ?_))))
 .exact⟨Z3,Tv,Fh,Tv⟩
 intro⟨⟨i,s⟩,i1,i2,i3⟩;have cB:s.length<=i:=by grind [RP,List.Perm.length_eq]
 refine Yi (fun h=>?_) (fun h=>?_)
 .skip
  have h:i<l.length:=by simp_all
  have hg:l[i]?=some l[i]:=Ge h;refine Xi (Ab l[i]) (Yi (Yi aa0 (by simp_all)) (Yi rfl ?_));refine Xi (Ab l[i]) (Yi (Yi aa0 (by simp_all)) (Yi rfl ?_));refine yN (Yi aa3 (Xi ⟨[(0,sl Ab l),(3,sl Ab s),(4,vi i),(5,.ref 5 0)],[(5,.cells (Ab (GP l[i])))],Af⟩ (Yi ?_ ?_)))
  .have e0:HO.cells [vi (max 0 l[i].1),vi (min 1000000 l[i].2)]=.cells (Ab (GP l[i])):=by
    rw[Int.max_comm,Int.min_comm];rfl
   exact⟨Z4,⟨⟨e0,rfl⟩,Tv⟩,Fh,Tv⟩
  refine Yi (fun h3=>?_) (fun h3=>?_)
  .refine cU [(0,sl Ab l),(3,sl Ab s),(4,vi i)] [] Z3 Tv (Yi (by grind [Al]) ?_);have e:=RO h (show ¬(GP l[i]).1<(GP l[i]).2 by omega);refine Xi ⟨(i+1,s),by omega,by simp_all,i3⟩ ?_;exact⟨by grind,Z3,Tv,Fh,Tv⟩
  have e:=Pq h (show(GP l[i]).1<(GP l[i]).2 by omega);refine Xi {k:Nat // k<=s.length/\∀j (hj:j<s.length),k<=j->(GP l[i]).1<s[j].1} (Xi (fun k=>⟨[(0,sl Ab l),(3,sl Ab s),(4,vi i),(5,.ref 5 0),(6,vi k.1)],[(5,.cells (Ab (GP l[i])))],Af⟩) (Xi (fun k=>k.1) (Yi (Xi ⟨s.length,Aq _,fun j hj He=>by omega⟩ ?_) ?_)))
  .have e1:vi ((s.map Ab).length:Int)=vi (s.length:Int):=by simp_all
   exact⟨⟨Zr,Zr,Zr,Zr,⟨e1,rfl⟩,Tv⟩,Z1,Fh,Tv⟩
  intro⟨k,k1,k2⟩;refine Yi (fun h4=>?_) (fun h4=>?_)
  .have h4:(0:Int)<k:=h4;refine Yi (show Al ((k:Int)-1) by grind [Al]) ?_;have hk:k-1<s.length:=by omega
   have hg:s[k-1]?=some s[k-1]:=Ge hk;have hn:((k:Int)-1).toNat=k-1:=by omega
   refine Xi (Ab s[k-1]) (Yi (Yi aa0 (by simp_all)) (Yi rfl ?_));refine Yi (fun h5=>?_) (fun h5=>?_)
   .refine Yi aa3 (Yi (show Al ((k:Int)-1) by grind [Al]) ?_);have e1:vi ((k:Int)-1)=vi ((k-1:Nat):Int):=Aa vi aa0;refine Xi ⟨k-1,by omega,fun j hj He=>?_⟩ ?_
    .grind
    .exact⟨by grind,⟨Zr,Zr,Zr,Zr,⟨e1,rfl⟩,Tv⟩,Z1,Fh,Tv⟩
   have N1:k=0\/∃h:k-1<s.length,s[k-1].1<=(GP l[i]).1:=.inr ⟨hk,by omega⟩;refine Yi aa3 (cU [(0,sl Ab l),(3,sl Ab s),(4,vi i),(5,.ref 5 0),(6,vi k)] [(5,.cells (Ab (GP l[i])))] Z5 Z1 (Yi (show(0:Int)<=0/\(0:Int)<=k/\(k:Int)=k/\(k:Int)<=((s.map Ab).length:Nat) by simp_all) (Yi (Mj s) (yN (Yi (show(0:Int)<=k/\(k:Int)<=((s.map Ab).length:Nat)/\(((s.map Ab).length:Nat):Int)<=((s.map Ab).length:Nat) by simp_all) (Yi (Mj s) ?_))))));refine Yi (pr s (GP l[i]) k aa0) (Yi (Uv s (GP l[i]) k k1 aa0) (Yi aa3 (Am (show ∃t,t=s.take k++([GP l[i]]++s.drop k)from⟨_,rfl⟩) (fun t ht=>?_))));refine Xi ⟨[(0,sl Ab l),(3,sl Ab t),(4,vi i)],[],Af⟩ (Yi ?_ ?_)
   .have e3:AV.slice .none (Sx s k++([Ab (GP l[i])]++Ng s k))=sl Ab t:=by grind [Aao]
    exact⟨⟨Zr,⟨e3,rfl⟩,Zr,Tv⟩,Tv,Fh,Tv⟩
   refine Yi (by grind [Al]) (Xi ⟨(i+1,t),by omega,by grind [ki],by grind [SO]⟩ ?_);exact⟨Dl l.length i aa0,Z3,Tv,Fh,Tv⟩
  .have h4:¬(0:Int)<k:=h4;have N1:k=0\/∃h:k-1<s.length,s[k-1].1<=(GP l[i]).1:=.inl aa0;refine Yi aa3 (cU [(0,sl Ab l),(3,sl Ab s),(4,vi i),(5,.ref 5 0),(6,vi k)] [(5,.cells (Ab (GP l[i])))] Z5 Z1 (Yi (show(0:Int)<=0/\(0:Int)<=k/\(k:Int)=k/\(k:Int)<=((s.map Ab).length:Nat) by omega) (Yi (Mj s) (yN (Yi (show(0:Int)<=k/\(k:Int)<=((s.map Ab).length:Nat)/\(((s.map Ab).length:Nat):Int)<=((s.map Ab).length:Nat) by omega) (Yi (Mj s) ?_))))));refine Yi (pr s (GP l[i]) k aa0) (Yi (Uv s (GP l[i]) k k1 aa0) (Yi aa3 (Am (show ∃t,t=s.take k++([GP l[i]]++s.drop k)from⟨_,rfl⟩) (fun t ht=>?_))));refine Xi ⟨[(0,sl Ab l),(3,sl Ab t),(4,vi i)],[],Af⟩ (Yi ?_ ?_)
   .have e3:AV.slice .none (Sx s k++([Ab (GP l[i])]++Ng s k))=sl Ab t:=by grind
    exact⟨⟨Zr,⟨e3,rfl⟩,Zr,Tv⟩,Tv,Fh,Tv⟩
   refine Yi (Ii i aa0) (Xi ⟨(i+1,t),by omega,by grind,by show t.Pairwise _;rw[ht];exact SO s _ k i3 k2 N1⟩ ?_);exact⟨Dl l.length i aa0,Z3,Tv,Fh,Tv⟩
 .skip
  have h:¬i<l.length:=by simp_all
  have fin:(BA s).reverse=canon l:=K8 (by grind) i3;refine cU [(3,sl Ab s)] [] Z1 Tv (Xi {p:Nat×AF // p.1<=s.length/\p.2=(BA (s.take p.1)).reverse} (Xi (fun p=>⟨[(3,sl Ab s),(7,.msl 63 p.1.2.length),(8,vi p.1.1)],[(63,GK p.1.2)],Af⟩) (Xi (fun p=>s.length-p.1.1) (Yi (Xi ⟨(0,[]),Ao _,rfl⟩ ?_) ?_))))
  .exact⟨Z3,Z1,Fh,Tv⟩
  intro⟨⟨j,A⟩,j1,hA⟩;have j1:j<=s.length:=j1;have hA:A=(BA (s.take j)).reverse:=hA;have uq:A.length<=j:=by grind [NL]
  refine Yi (fun h2=>?_) (fun h2=>?_)
  .have h2:(j:Int)<((s.map Ab).length:Int):=h2;have h2:j<s.length:=by simp_all
   have hgj:s[j]?=some s[j]:=Ge h2;refine cU [(3,sl Ab s),(7,.msl 63 A.length),(8,vi j),(9,vi A.length)] [(63,GK A)] Z4 Z1 (Yi (fun h3=>?_) (fun h3=>?_))
   .have h3:(0:Int)<A.length:=h3;have qX:Al ((A.length:Int)-1):=by grind [Al]
    have hn:((A.length:Int)-1).toNat=A.length-1:=by omega
    have Pf:(0:Int)<=(A.length:Int)-1/\(A.length:Int)-1<(A.length:Int):=by omega
    have Fp:A.length-1<A.length:=by omega
    have hg:A[A.length-1]?=some A[A.length-1]:=Ge Fp;have sI:(A.map Ab)[((A.length:Int)-1).toNat]?=some (Ab A[A.length-1]):=by rw[hn];grind
    have zV:A.length=(A.map Ab).length:=by simp_all
    have vB:(0:Int)<=j/\(s.map Ab)[((j:Nat):Int).toNat]?=some (Ab s[j]):=⟨by omega,by simp_all⟩;refine Xi (Ab s[j]) (Yi vB (Yi rfl (Yi qX (Yi Pf (Yi zV (Xi (Ab A[A.length-1]) (Yi sI (Yi (fun h4=>?_) (fun h4=>?_)))))))))
    .have h4:s[j].1<=A[A.length-1].2:=h4;refine Yi aa3 (cU [(3,sl Ab s),(7,.msl 63 A.length),(8,vi j),(9,vi A.length)] [(63,GK A)] Z4 Z1 (Yi qX (Yi qX (Yi Pf (Yi zV (Xi (Ab A[A.length-1]) (Yi sI (Xi (Ab s[j]) (Yi vB (Yi rfl (Yi Pf (Yi zV (Xi (Ab A[A.length-1]) (Yi sI (yN (Yi aa3 (Am (show ∃B,B=A.set (A.length-1) (A[A.length-1].1,max A[A.length-1].2 s[j].2)from⟨_,rfl⟩) (fun B hB=>?_))))))))))))))))));have e2:HO.arr 2 ((A.map Ab).set ((A.length:Int)-1).toNat [vi A[A.length-1].1,vi (max A[A.length-1].2 s[j].2)])=GK B:=by simp_all
     have e1:AV.msl 63 A.length=.msl 63 B.length:=by simp_all
     refine cU [(3,sl Ab s),(7,.msl 63 B.length),(8,vi j)] [(63,GK B)] ⟨Zr,⟨e1,rfl⟩,Zr,Tv⟩ ⟨⟨e2,rfl⟩,Tv⟩ (Yi (Ii j aa0) (Xi ⟨(j+1,B),by omega,by rw[hB];exact fo h2 hA hg h4⟩ ?_));exact⟨by grind,Z3,Z1,Fh,Tv⟩
    have h4:¬s[j].1<=A[A.length-1].2:=h4;have hjn:A++[s[j]]=(BA (s.take (j+1))).reverse:=Yz h2 hA fun y hy=>by
     simp_all
    refine Yi aa3 (cU [(3,sl Ab s),(7,.msl 63 A.length),(8,vi j),(9,vi A.length)] [(63,GK A)] Z4 Z1 (Xi (Ab s[j]) (Yi vB (Yi rfl (yN ?_)))));have CM:AZ 2 [Ab s[j]]/\(A.map Ab).length=A.length/\((A.map Ab).length+[Ab s[j]].length)*16<=140737488355328/\(A.map Ab).length+[Ab s[j]].length<=9223372036854775807:=
     ⟨⟨rfl,trivial⟩,by omega,by rw[Lm,AS];omega,by rw[Lm,AS];omega⟩
    refine Yi CM (Am (show ∃B,B=A++[s[j]]from⟨_,rfl⟩) (fun B hB=>?_));have e1:AV.msl 63 ((A.map Ab).length+[Ab s[j]].length)=.msl 63 B.length:=by rw[hB];simp
    have e2:HO.arr 2 (A.map Ab++[Ab s[j]])=GK B:=by rw[hB];simp
    refine cU [(3,sl Ab s),(7,.msl 63 B.length),(8,vi j)] [(63,GK B)] ⟨Zr,⟨e1,rfl⟩,Zr,Tv⟩ ⟨⟨e2,rfl⟩,Tv⟩ (Yi (Ii j aa0) (Xi ⟨(j+1,B),by omega,by simp_all⟩ ?_));exact⟨by grind,Z3,Z1,Fh,Tv⟩
   .have h3:¬(0:Int)<A.length:=h3;have vB:(0:Int)<=j/\(s.map Ab)[((j:Nat):Int).toNat]?=some (Ab s[j]):=⟨by omega,by simp_all⟩;have hjn:A++[s[j]]=(BA (s.take (j+1))).reverse:=Yz h2 hA fun y hy=>by
     simp_all
    refine Yi aa3 (cU [(3,sl Ab s),(7,.msl 63 A.length),(8,vi j),(9,vi A.length)] [(63,GK A)] Z4 Z1 (Xi (Ab s[j]) (Yi vB (Yi rfl (yN ?_)))));have CM:AZ 2 [Ab s[j]]/\(A.map Ab).length=A.length/\((A.map Ab).length+[Ab s[j]].length)*16<=140737488355328/\(A.map Ab).length+[Ab s[j]].length<=9223372036854775807:=
     ⟨⟨rfl,trivial⟩,by simp_all,by simp_all,by simp_all⟩
    refine Yi CM (Am (show ∃B,B=A++[s[j]]from⟨_,rfl⟩) (fun B hB=>?_));have e1:AV.msl 63 ((A.map Ab).length+[Ab s[j]].length)=.msl 63 B.length:=by grind
    have e2:HO.arr 2 (A.map Ab++[Ab s[j]])=GK B:=by grind
    refine cU [(3,sl Ab s),(7,.msl 63 B.length),(8,vi j)] [(63,GK B)] ⟨Zr,⟨e1,rfl⟩,Zr,Tv⟩ ⟨⟨e2,rfl⟩,Tv⟩ (Yi (Ii j aa0) (Xi ⟨(j+1,B),by omega,by grind⟩ ?_));exact⟨by grind,Z3,Z1,Fh,Tv⟩
  .have h2:¬(j:Int)<((s.map Ab).length:Int):=h2;have h2:¬j<s.length:=by simp_all
   refine Yi (by simp_all) ?_;exact .of_eq (Aa (sl Ab) (show A=canon l by grind))
theorem ny:sX:=XM
abbrev Jo(A:AF):AV:=.slice (.id d 2) (A.map Ab)
theorem dM(hs:BB s):PC 48 [sl Ab s] (sl Ab (BJ s)):=by
 have hc:=XM s hs;have hC:BJ s=Gu 0 (canon s):=rfl;have hn:(canon s).length<=1000000:=CK (Bc s);obtain⟨C,eC⟩:∃C,C=canon s:=⟨_,rfl⟩;rw[<-eC]at hc hC hn;refine Ps (Dc [2,6,9,12]) Tryz.func48 rfl (Nz rfl) (Xi .pure (Xi _ (Yi (hc) (cU [(3,sl Ab C)] [] Z1 Tv (Xi {p:Nat×Int×AF // p.1<=C.length/\p.2.2.length<=p.1/\p.2.2++Gu p.2.1 (C.drop p.1)=Gu 0 C} (Xi (fun p=>⟨[(3,sl Ab C),(4,Jo 9 p.1.2.2),(5,vi p.1.2.1),(6,vi p.1.1)],[(9,.tok 2 p.1.2.2.length)],Af⟩) (Xi (fun p=>C.length-p.1.1) (Yi (Xi ⟨(0,0,[]),Ao _,Ao _,rfl⟩ ?_) ?_))))))))
 .exact⟨Z4,Z1,Fh,Tv⟩
 intro⟨⟨i,z,A⟩,i1,i2,i3⟩;have i1:i<=C.length:=i1;have i2:A.length<=i:=i2;have i3:A++Gu z (C.drop i)=Gu 0 C:=i3;refine Yi (fun h=>?_) (fun h=>?_)
 .skip
  have h:(i:Int)<(C.map Ab).length:=h;have h:i<C.length:=by simp_all
  have hg:C[i]?=some C[i]:=Ge h;refine Xi (Ab C[i]) (Yi (Yi aa0 (by simp_all)) (Yi rfl ?_));rw[Bd h]at i3;refine Yi (fun h2=>?_) (fun h2=>?_)
  .have h2:z<C[i].1:=h2;refine Xi (Ab C[i]) (Yi (Yi aa0 (by simp_all)) (Yi rfl ?_));have CM:AZ 2 [Ab (z,C[i].1)]/\(A.map Ab).length=A.length/\((A.map Ab).length+[Ab (z,C[i].1)].length)*16<=140737488355328/\(A.map Ab).length+[Ab (z,C[i].1)].length<=9223372036854775807:=
    ⟨⟨rfl,trivial⟩,by simp_all,by grind,by grind⟩
   refine Yi CM (Am (show ∃B,B=A++[(z,C[i].1)]from⟨_,rfl⟩) (fun B hB=>?_));have e1:AV.slice (.id 9 2) (A.map Ab++[Ab (z,C[i].1)])=Jo 9 B:=by simp_all
   have e2:HO.tok 2 ((A.map Ab).length+[Ab (z,C[i].1)].length)=.tok 2 B.length:=by simp_all
   refine cU [(3,sl Ab C),(4,Jo 9 B),(5,vi z),(6,vi i)] [(9,.tok 2 B.length)] ⟨Zr,⟨e1,rfl⟩,Zr,Zr,Tv⟩ ⟨⟨e2,rfl⟩,Tv⟩ (Xi (Ab C[i]) (Yi (Yi aa0 (by simp_all)) (Yi rfl ?_)));refine cU [(3,sl Ab C),(4,Jo 9 B),(5,vi C[i].2),(6,vi i)] [(9,.tok 2 B.length)] Z4 Z1 (Yi (by grind [Al]) (Xi ⟨(i+1,C[i].2,B),by omega,by simp_all,by grind [Gu]⟩ ?_));exact⟨Dl C.length i aa0,Z4,Z1,Fh,Tv⟩
  have h2:¬z<C[i].1:=h2;refine cU [(3,sl Ab C),(4,Jo 9 A),(5,vi z),(6,vi i)] [(9,.tok 2 A.length)] Z4 Z1 (Xi (Ab C[i]) (Yi (Yi aa0 (by simp_all)) (Yi rfl ?_)));refine cU [(3,sl Ab C),(4,Jo 9 A),(5,vi C[i].2),(6,vi i)] [(9,.tok 2 A.length)] Z4 Z1 (Yi (by grind [Al]) (Xi ⟨(i+1,C[i].2,A),by omega,by grind,by grind [Gu]⟩ ?_));exact⟨Dl C.length i aa0,Z4,Z1,Fh,Tv⟩
 .skip
  have h:¬(i:Int)<(C.map Ab).length:=h;have h:¬i<C.length:=by simp_all
  rw[Fw aa0,Gu]at i3;refine Yi (fun h2=>?_) (fun h2=>?_)
  .have h2:z<1000000:=h2;have CM:AZ 2 [Ab (z,1000000)]/\(A.map Ab).length=A.length/\((A.map Ab).length+[Ab (z,1000000)].length)*16<=140737488355328/\(A.map Ab).length+[Ab (z,1000000)].length<=9223372036854775807:=
    ⟨⟨rfl,trivial⟩,by simp_all,by grind,by grind⟩
   refine Yi CM (Am (show ∃B,B=A++[(z,(1000000:Int))]from⟨_,rfl⟩) (fun B hB=>?_));have e1:AV.slice (.id 9 2) (A.map Ab++[Ab (z,1000000)])=Jo 9 B:=by grind
   have e2:HO.tok 2 ((A.map Ab).length+[Ab (z,1000000)].length)=.tok 2 B.length:=by grind
   refine cU [(4,Jo 9 B)] [(9,.tok 2 B.length)] ⟨⟨e1,rfl⟩,Tv⟩ ⟨⟨e2,rfl⟩,Tv⟩ ?_
   exact .of_eq (show sl Ab B=sl Ab (BJ s) by simp_all)
  .have h2:¬z<1000000:=h2;refine cU [(4,Jo 9 A)] [(9,.tok 2 A.length)] Z1 Z1 ?_
   exact .of_eq (show sl Ab A=sl Ab (BJ s) by simp_all)
theorem eI(h:i<l.length):(l.take (i+1)).flatten=(l.take i).flatten++l[i]/\((l.take i).flatten++l[i]).length<=l.flatten.length:=by
 grind [List.take_add_one,List.take_append_drop]
theorem mI(hl:BB l)(hf:BB l.flatten):PC 168 [sl CC l] (sl Ab (Jq l)):=by
 have hc:=XM l.flatten hf;have hl:l.length<=1073741824:=hl;have hf:l.flatten.length<=1073741824:=hf;refine Ps (Dc [4,6]) Tryz.func168 rfl (Nz rfl) (Xi {p:Nat×AF // p.1<=l.length/\p.2=(l.take p.1).flatten} (Xi (fun p=>⟨[(0,sl CC l),(3,Jo 5 p.1.2),(4,vi p.1.1)],[(5,.tok 2 p.1.2.length)],Af⟩) (Xi (fun p=>l.length-p.1.1) (Yi (Xi ⟨(0,[]),Ao _,rfl⟩ ?_) ?_))))
 .exact⟨Z3,Z1,Fh,Tv⟩
 intro⟨⟨i,A⟩,i1,i2⟩;have i1:i<=l.length:=i1;have i2:A=(l.take i).flatten:=i2;refine Yi (fun h=>?_) (fun h=>?_)
 .skip
  have h:(i:Int)<(l.map CC).length:=h;have h:i<l.length:=by simp_all
  have hg:l[i]?=some l[i]:=Ge h;refine Xi (CC l[i]) (Yi (Yi aa0 (by simp_all)) (Yi rfl ?_));have ht:=eI l i h;rw[<-i2]at ht;have ma:=ht.2;rw[As]at ma;have CM:AZ 2 (l[i].map Ab)/\(A.map Ab).length=A.length/\((A.map Ab).length+(l[i].map Ab).length)*16<=140737488355328/\(A.map Ab).length+(l[i].map Ab).length<=9223372036854775807:=
   ⟨IT (Mj _),by grind,by grind,by grind⟩
  refine Yi CM (Am (show ∃B,B=A++l[i]from⟨_,rfl⟩) (fun B hB=>?_));have e1:AV.slice (.id 5 2) (A.map Ab++l[i].map Ab)=Jo 5 B:=by simp_all
  have e2:HO.tok 2 ((A.map Ab).length+(l[i].map Ab).length)=.tok 2 B.length:=by simp_all
  refine cU [(0,sl CC l),(3,Jo 5 B),(4,vi i)] [(5,.tok 2 B.length)] ⟨Zr,⟨e1,rfl⟩,Zr,Tv⟩ ⟨⟨e2,rfl⟩,Tv⟩ (Yi (Ii i aa0) (Xi ⟨(i+1,B),by omega,by simp_all⟩ ?_));exact⟨by grind,Z3,Z1,Fh,Tv⟩
 .skip
  have h:¬(i:Int)<(l.map CC).length:=h;have h:¬i<l.length:=by simp_all
  have eA:A=l.flatten:=by grind
  rw[<-eA]at hc;refine cU [(3,Jo 5 A)] [(5,.tok 2 A.length)] Z1 Z1 (Xi .pure (Xi _ (Yi (hc) ?_)));exact .of_eq (show sl Ab (canon A)=sl Ab (Jq l) by rw[eA];rfl)
theorem x8:PC 169 [] (sl Ab [(0,1000000)]):=by
 refine Ps Cu Tryz.func169 rfl (Nz rfl) ?_;exact .refl _
theorem tj:PC 242 [vi n] (sl Ab (canon [(n,1000000)])):=by
 have hc:=XM [(n,1000000)] (by simp_all);refine Ps Cu Tryz.func242 rfl (Nz rfl) (Xi .pure (Xi _ (Yi (hc) ?_)));exact .refl _
abbrev pb(A:List AF):AV:=.slice (.id d 1) (A.map CC)
theorem tu(hl:BB l)(hs:∀s∈l,BB s)(hf:BB (l.map BJ).flatten):PC 108 [sl CC l] (sl Ab (LW l)):=by
 have hc:=mI (l.map BJ) (by simp_all) hf;have hu:BB (Jq (l.map BJ)):=by
  grind [CK,K5]
 have hd:=dM (Jq (l.map BJ)) hu;have hl:l.length<=1073741824:=hl;refine Ps (Dc [4,6]) Tryz.func108 rfl (Nz rfl) (Xi {p:Nat×List AF // p.1<=l.length/\p.2=(l.take p.1).map BJ} (Xi (fun p=>⟨[(0,sl CC l),(3,pb 5 p.1.2),(4,vi p.1.1)],[(5,.tok 1 p.1.2.length)],Af⟩) (Xi (fun p=>l.length-p.1.1) (Yi (Xi ⟨(0,[]),Ao _,rfl⟩ ?_) ?_))))
 .exact⟨Z3,Z1,Fh,Tv⟩
 intro⟨⟨i,A⟩,i1,i2⟩;have i1:i<=l.length:=i1;have i2:A=(l.take i).map BJ:=i2;have hA:A.length<=i:=by simp_all
 refine Yi (fun h=>?_) (fun h=>?_)
 .skip
  have h:(i:Int)<(l.map CC).length:=h;have h:i<l.length:=by simp_all
  have hg:l[i]?=some l[i]:=Ge h;refine Xi (CC l[i]) (Yi (Yi aa0 (by simp_all)) (Yi rfl ?_));refine Xi .pure (Xi _ (Yi (dM l[i] (hs _ (Ah h))) ?_));have CM:AZ 1 [CC (BJ l[i])]/\(A.map CC).length=A.length/\((A.map CC).length+[CC (BJ l[i])].length)*24<=140737488355328/\(A.map CC).length+[CC (BJ l[i])].length<=9223372036854775807:=
   ⟨⟨rfl,trivial⟩,by simp_all,by grind,by grind⟩
  refine Yi CM (Am (show ∃B,B=A++[BJ l[i]]from⟨_,rfl⟩) (fun B hB=>?_));have e1:AV.slice (.id 5 1) (A.map CC++[CC (BJ l[i])])=pb 5 B:=by simp_all
  have e2:HO.tok 1 ((A.map CC).length+[CC (BJ l[i])].length)=.tok 1 B.length:=by simp_all
  refine cU [(0,sl CC l),(3,pb 5 B),(4,vi i)] [(5,.tok 1 B.length)] ⟨Zr,⟨e1,rfl⟩,Zr,Tv⟩ ⟨⟨e2,rfl⟩,Tv⟩ (Yi (by grind [Al]) (Xi ⟨(i+1,B),by omega,by grind [List.take_add_one]⟩ ?_));exact⟨Dl l.length i aa0,Z3,Z1,Fh,Tv⟩
 .skip
  have h:¬(i:Int)<(l.map CC).length:=h;have h:¬i<l.length:=by simp_all
  have eA:A=l.map BJ:=by grind
  rw[<-eA]at hc hd;refine cU [(3,pb 5 A)] [(5,.tok 1 A.length)] Z1 Z1 (Xi .pure (Xi _ (Yi (hc) (Xi .pure (Xi _ (Yi (hd) ?_))))));exact .of_eq (show sl Ab (BJ (Jq A))=sl Ab (LW l) by
   rw[eA];exact Aa (sl Ab) (V4 _))
theorem Kb:(BJ s).length<=1000000:=CK (E0 s)
theorem xv(a b:AF)(ha:BB a)(hb:BB b):PC 241 [sl Ab a,sl Ab b] (sl Ab (S8 a b)):=by
 have h1:=dM b hb;have h2:=Kb b;have h3:=Kb a;have h4:=Kb (BJ b);have hc:=tu [a,BJ b] (by simp_all) (fun s hs=>by
  grind) (by
  grind)
 refine Ps Cu Tryz.func241 rfl (Nz rfl) (Xi .pure (Xi _ (Yi (h1) (Xi .pure (Xi _ (Yi (hc) ?_))))));exact .refl _
theorem qn(s:ByteArray):PC 299 [vs s] (vb (DU s)):=by
 refine Ps Cu Tryz.func299 rfl (Nz rfl) (Yi (fun h=>?_) (fun h=>?_))
 .exact .of_eq (Aa vb (show true=DU s by grind [DU]))
 refine Yi (fun h2=>?_) (fun h2=>?_)
 .exact .of_eq (Aa vb (show true=DU s by grind [DU]))
 exact .of_eq (Aa vb (show false=DU s by grind [DU]))
def L6:Nat->Int
 |0=>v.a
 |1=>v.b
 |_=>v.c
abbrev bE:List (List AV):=[[vi v.a],[vi v.b],[vi v.c]]
theorem O7(h:i<3):(bE v)[((i:Nat):Int).toNat]?=some [vi (L6 v i)]:=by
 rw[Cj]
 match i,h with
 |0,_=>rfl
 |1,_=>rfl
 |2,_=>rfl
theorem iI(hi:i<3)(h:∀j,j<i->L6 a j=L6 b j)(hl:L6 a i<L6 b i):IL a b=-1:=by
 match i,hi,h,hl with
 |0,_,h,hl=>
  have hl:a.a<b.a:=hl
  grind [IL,FU]
 |1,_,h,hl=>
  have hl:a.b<b.b:=hl;have h0:a.a=b.a:=h 0 aa0
  grind [IL,FU]
 |2,_,h,hl=>
  have hl:a.c<b.c:=hl;have h0:a.a=b.a:=h 0 aa0;have h1:a.b=b.b:=h 1 aa0
  grind [IL,FU]
theorem iH(hi:i<3)(h:∀j,j<i->L6 a j=L6 b j)(hl:L6 b i<L6 a i):IL a b=1:=by
 match i,hi,h,hl with
 |0,_,h,hl=>
  have hl:b.a<a.a:=hl
  grind [IL,FU]
 |1,_,h,hl=>
  have hl:b.b<a.b:=hl;have hn:¬a.b<b.b:=by omega
  have h0:a.a=b.a:=h 0 aa0
  grind [IL,FU]
 |2,_,h,hl=>
  have hl:b.c<a.c:=hl;have hn:¬a.c<b.c:=by omega
  have h0:a.a=b.a:=h 0 aa0;have h1:a.b=b.b:=h 1 aa0
  grind [IL,FU]
theorem iG(h:∀j,j<3->L6 a j=L6 b j):IL a b=0:=by
 have h0:a.a=b.a:=h 0 aa0;have h1:a.b=b.b:=h 1 aa0;have h2:a.c=b.c:=h 2 aa0
 grind [IL,FU]
theorem xP:PC 300 [.agg (Dt a),.agg (Dt b)] (vi (IL a b)):=by
 refine Ps (Dc []) Tryz.func300 rfl (Nz rfl) (Xi {i:Nat // i<=3/\∀j,j<i->L6 a j=L6 b j} (Xi (fun i=>⟨[(5,.slice (.id 14 1) (bE a)),(6,.slice (.id 21 1) (bE b)),(7,vi i.1)],[(14,.tok 1 3),(21,.tok 1 3)],Af⟩) (Xi (fun i=>3-i.1) (Yi (Xi ⟨0,Ao _,fun j h=>by omega⟩ ?_) ?_))))
 .exact⟨Z3,Z2,Fh,Tv⟩
 intro⟨i,i1,i2⟩;refine Yi (fun h=>?_) (fun h=>?_)
 .have h:(i:Int)<3:=h;have h:i<3:=by omega
  refine Xi [vi (L6 a i)] (Yi (Yi aa0 (O7 a i h)) (Yi rfl (Xi [vi (L6 b i)] (Yi (Yi aa0 (O7 b i h)) (Yi rfl (Yi (fun h2=>?_) (fun h2=>?_)))))))
  .refine Yi aa3 ?_;exact .of_eq (Aa vi (iI a b i h i2 h2).symm)
  refine Yi aa3 (Xi [vi (L6 a i)] (Yi (Yi aa0 (O7 a i h)) (Yi rfl (Xi [vi (L6 b i)] (Yi (Yi aa0 (O7 b i h)) (Yi rfl (Yi (fun h3=>?_) (fun h3=>?_))))))))
  .refine Yi aa3 ?_;exact .of_eq (Aa vi (iH a b i h i2 h3).symm)
  refine Yi aa3 (Yi (by grind [Al]) (Xi ⟨i+1,by omega,fun j hj=>?_⟩ ?_))
  .grind
  exact⟨by grind,Z3,Z2,Fh,Tv⟩
 .have h:¬(i:Int)<3:=h;exact .of_eq (Aa vi (iG a b fun j hj=>i2 j aa0).symm)
theorem xt(a b:Rl):PC 237 [.agg (Ak a),.agg (Ak b)] (vi (If a b)):=by
 have hc:=xP a.ver b.ver;refine Ps Cu Tryz.func237 rfl (Nz rfl) (Yi (fun h=>?_) (fun h=>?_))
 .exact .of_eq (Aa vi (show(-1:Int)=If a b by grind [If,KD,Ed]))
 refine Yi (fun h2=>?_) (fun h2=>?_)
 .exact .of_eq (Aa vi (show(1:Int)=If a b by grind [If,KD,Ed]))
 refine Yi (Nz rfl) (yN (Xi .pure (Xi _ (Yi (hc) ?_))));exact .of_eq (Aa vi (show IL a.ver b.ver=If a b by grind [If,KD,Ed]))
theorem xr(hr:F3 r):PC 236 [.agg (Ak r)] (vi (Cz r)):=by
 have h1:=jq r.path hr.1;have h2:=qm r.ver;have h3:=c68 jq ny r.reqs hr.2;have h4:=qn r.arch;have h5:=qn r.ifc;have h6:=qn r.cert;obtain⟨N,hN⟩:∃N,N=Cz r:=⟨_,rfl⟩;rw[<-hN];refine Ps Cu Tryz.func236 rfl (Nz rfl) (Xi .pure (Xi _ (Yi (h1) (Yi (fun h=>?_) (fun h=>?_)))))
 .exact .of_eq (Aa vi (show(4:Int)=N by
   grind [YK,Cz]))
 refine Am (show ∃m,A8 r.path=some m by
  grind) (fun m hp=>?_)
 have em:fC r.path=m:=by grind
 have hN:N=if !Bo r.ver||!decide (r.ver.a=m)then 2 else if Ba r.reqs≠0 then Ba r.reqs else if DU r.arch&&DU r.ifc&&DU r.cert then 0 else 1:=by
  grind [Cz]
 refine yN (AG (Bt (Bo r.ver)).symm (fun e=>?_) (fun e=>?_))
 .rw[e]at h2;refine Xi .pure (Xi _ (Yi (h2) ?_));exact .of_eq (Aa vi (show(2:Int)=N by simp_all))
 rw[e]at h2;refine Xi .pure (Xi _ (Yi (h2) (Yi (fun h7=>?_) (fun h7=>?_))))
 .exact .of_eq (Aa vi (show(2:Int)=N by simp_all))
 have hN:N=if Ba r.reqs≠0 then Ba r.reqs else if DU r.arch&&DU r.ifc&&DU r.cert then 0 else 1:=by
  simp_all
 refine Xi .pure (Xi _ (Yi (h3) (Yi (fun h8=>?_) (fun h8=>?_))))
 .exact .of_eq (Aa vi (show Ba r.reqs=N by omega))
 have hN:N=if DU r.arch&&DU r.ifc&&DU r.cert then 0 else 1:=by omega
 refine AG (Bt (DU r.arch)).symm (fun e1=>?_) (fun e1=>?_)
 .rw[e1]at h4;refine Xi .pure (Xi _ (Yi (h4) ?_));exact .of_eq (Aa vi (show(1:Int)=N by simp_all))
 rw[e1]at h4;refine Xi .pure (Xi _ (Yi (h4) (AG (Bt (DU r.ifc)).symm (fun e2=>?_) (fun e2=>?_))))
 .rw[e2]at h5;refine Xi .pure (Xi _ (Yi (h5) ?_));exact .of_eq (Aa vi (show(1:Int)=N by simp_all))
 rw[e2]at h5;refine Xi .pure (Xi _ (Yi (h5) (AG (Bt (DU r.cert)).symm (fun e3=>?_) (fun e3=>?_))))
 .rw[e3]at h6;refine Xi .pure (Xi _ (Yi (h6) ?_));exact .of_eq (Aa vi (show(1:Int)=N by simp_all))
 rw[e3]at h6;refine Xi .pure (Xi _ (Yi (h6) ?_));exact .of_eq (Aa vi (show(0:Int)=N by simp_all))
theorem XS{a b:Rl}(h:Cn a=Cn b):If a b=0:=by
 grind [UZ,If,KD,IL,FU,FF]
theorem sq(hs:∀r∈x,F3 r):PC 170 [Jx x ifs] (vi (AD x)):=by
 refine Ps (Dc []) Tryz.func170 rfl (Nz rfl) (Am (show ∃N,N=AD x from⟨_,rfl⟩) (fun N hN=>?_));refine Yi (fun h=>?_) (fun h=>?_)
 .exact .of_eq (Aa vi (show(7:Int)=AD x by grind [AD]))
 have hl:x.length<=256:=by grind
 have M8:AD x=BS none x:=by grind [AD]
 refine Xi {i:Nat // i<=x.length/\BS none x=BS (VY x i) (x.drop i)} (Xi (fun i=>⟨[(3,sl Ak x),(4,vi i.1)],[],Af⟩) (Xi (fun i=>x.length-i.1) (Yi (Xi ⟨0,Ao _,rfl⟩ ?_) ?_)))
 .exact⟨Z2,Tv,Fh,Tv⟩
 intro⟨i,h1,h2⟩;refine Yi (fun h=>?_) (fun h=>?_)
 .skip
  have h:i<x.length:=by simp_all
  have hg:x[i]?=some x[i]:=Ge h;have hd:x.drop i=x[i]::x.drop (i+1):=Bd h;have hc:=xr x[i] (hs x[i] (Ah h));have Ja:BS none x=if Cz x[i]≠0 then Cz x[i]else match VY x i with
   |none=>BS (some x[i]) (x.drop (i+1))
   |some b=>if Cn b=Cn x[i]then 5 else if 0<If b x[i]then 1 else BS (some x[i]) (x.drop (i+1)):=by rw[h2,hd];rfl
  have pI:VY x (i+1)=some x[i]:=Ge h;refine Xi (Ak x[i]) (Yi (Yi aa0 (by grind)) (Yi rfl (yN (Xi .pure (Xi _ (Yi (hc) (Yi (fun h3=>?_) (fun h3=>?_))))))))
  .exact .of_eq (Aa vi (show Cz x[i]=AD x by omega))
  rw[Aw h3]at Ja;refine Yi (fun h4=>?_) (fun h4=>?_)
  .have h4:(0:Int)<i:=h4;have hk:i-1<x.length:=by omega
   have jQ:x[i-1]?=some x[i-1]:=Ge hk;have hn:((i:Int)-1).toNat=i-1:=by omega
   have hb:VY x i=some x[i-1]:=by
    grind
   rw[hb]at Ja;have Ja:BS none x=if Cn x[i-1]=Cn x[i]then 5 else if 0<If x[i-1] x[i]then 1 else BS (some x[i]) (x.drop (i+1)):=Ja
   have hcm:=xt x[i-1] x[i];have Mu:(0:Int)<=(i:Int)-1/\(x.map Ak)[((i:Int)-1).toNat]?=some (Ak x[i-1]):=⟨by omega,by rw[hn];grind⟩;refine Yi (show Al ((i:Int)-1) by unfold Al;omega) (Xi (Ak x[i-1]) (Yi Mu (Yi rfl (yN (Xi (Ak x[i]) (Yi (Yi aa0 (by simp[hg])) (Yi rfl ?_)))))));refine yN (Xi _ (Yi (hcm) (Yi (fun h5=>?_) (fun h5=>?_))))
   .have h5:If x[i-1] x[i]=0:=h5;refine Yi aa3 ?_;exact .of_eq (Aa vi (show(5:Int)=AD x by rw[M8,Ja,AE (UB h5)]))
   have h5:¬If x[i-1] x[i]=0:=h5;refine Yi aa3 (Yi (fun _=>?_) (fun h9=>absurd h4 h9));refine Yi (show Al ((i:Int)-1) by unfold Al;omega) (Xi (Ak x[i-1]) (Yi Mu (Yi rfl (yN (Xi (Ak x[i]) (Yi (Yi aa0 (by simp[hg])) (Yi rfl ?_)))))));refine yN (Xi _ (Yi (hcm) (Yi (fun h6=>?_) (fun h6=>?_))))
   .have h6:0<If x[i-1] x[i]:=h6;refine Yi aa3 ?_;exact .of_eq (Aa vi (show(1:Int)=AD x by rw[M8,Ja,Aw (fun e=>h5 (XS e)),AE h6]))
   have h6:¬0<If x[i-1] x[i]:=h6;refine Yi aa3 (Yi (Ii i aa0) (Xi ⟨i+1,by omega,by rw[Ja,Aw (fun e=>h5 (XS e)),Aw h6,pI]⟩ ?_));exact⟨Dl x.length i aa0,Z2,Tv,Fh,Tv⟩
  have h4:¬(0:Int)<i:=h4;have hb:VY x i=none:=by
   grind
  rw[hb]at Ja;have Ja:BS none x=BS (some x[i]) (x.drop (i+1)):=Ja;refine Yi aa3 (Yi (fun h9=>absurd h9 h4) (fun _=>?_));refine Yi aa3 (Yi (by grind [Al]) (Xi ⟨i+1,by omega,by grind⟩ ?_));exact⟨by grind,Z2,Tv,Fh,Tv⟩
 .skip
  have h:¬(i:Int)<(x.map Ak).length:=h;have h:¬i<x.length:=by simp_all
  have e:(0:Int)=AD x:=by rw[M8,h2,Hj aa0];rfl
  exact .of_eq (Aa vi e)
theorem wB(roots:List Rq)(hs:∀r∈x,F3 r)(hq:∀q∈roots,Lw q):PC 113 [Jx x ifs,sl Ad roots] (vb (decide (AD x=0)&&decide (Ba roots=0))):=by
 have h1:=sq x ifs hs;have h2:=c68 jq ny roots hq;refine Ps Cu Tryz.func113 rfl (Nz rfl) (yN (Xi .pure (Xi _ (Yi (h1) (Yi (fun h=>?_) (fun h=>?_))))))
 .have h:AD x=0:=h;refine Xi .pure (Xi _ (Yi (h2) (Yi (fun h3=>?_) (fun h3=>?_))))
  .have h3:Ba roots=0:=h3;exact .of_eq (Aa vb (show true=_ by simp_all))
  .have h3:¬Ba roots=0:=h3;exact .of_eq (Aa vb (show false=_ by simp_all))
 .have h:¬AD x=0:=h;exact .of_eq (Aa vb (show false=_ by simp_all))
theorem tv:PC 109 [.agg (Ac t)] (vb (!t.absent&&decide (t.set=[]))):=by
 refine Ps Cu Tryz.func109 rfl (Nz rfl) (Yi (fun h=>?_) (fun h=>?_))
 .have h:t.absent=true:=h;exact .of_eq (Aa vb (show false=_ by simp_all))
 have h:t.absent=false:=h;refine Yi (fun h2=>?_) (fun h2=>?_)
 .have h2:((t.set.map Ab).length:Int)=0:=h2;have h2:t.set=[]:=Az (by simp_all);exact .of_eq (Aa vb (show true=_ by simp_all))
 .have h2:¬((t.set.map Ab).length:Int)=0:=h2;have h2:¬t.set=[]:=fun e=>h2 (by simp_all);exact .of_eq (Aa vb (show false=_ by simp_all))
theorem tw(ht:BB t.set):PC 110 [.agg (Ac t)] (vb (t.absent&&decide (t.set=[(0,1000000)]))):=by
 have hc:=c75 t.set [(0,1000000)] ht;refine Ps Cu Tryz.func110 rfl (Nz rfl) (Yi (fun h=>?_) (fun h=>?_))
 .have h:t.absent=true:=h;refine Xi _ (Yi (x8) (Xi _ (Yi (hc) (Yi aa3 ?_))));exact .of_eq (Aa vb (show decide (t.set=[(0,1000000)])=_ by simp_all))
 .have h:t.absent=false:=h;refine Yi aa3 ?_;exact .of_eq (Aa vb (show false=_ by simp_all))
theorem ti(q:Rq)(hq:BB q.set):PC 240 [.agg (Ad q)] (.agg (Ac ⟨q.path,true,BJ q.set⟩)):=by
 have hc:=dM q.set hq;refine Ps Cu Tryz.func240 rfl (Nz rfl) (Xi _ (Yi (hc) (yN (Yi aa3 (yN ?_)))));exact .refl _
theorem IK(l:List Tm)(hl:BB l)(p:ByteArray):PC 243 [sl Ac l,vs p] (match l.find? (fun t=>decide (t.path=p))with | some t=>.tup [.agg (Ac t),vb true] | none=>.tup [.agg [vs ⟨#[]⟩,vb false,nzA],vb false]):=by
 have hl:l.length<=1073741824:=hl;obtain⟨R,hR⟩:∃R,R=(match l.find? (fun t=>decide (t.path=p))with | some t=>AV.tup [.agg (Ac t),vb true] | none=>.tup [.agg [vs ⟨#[]⟩,vb false,nzA],vb false]):=⟨_,rfl⟩;rw[<-hR];refine Ps Cu Tryz.func243 rfl (Nz rfl) (Xi {i:Nat // i<=l.length/\∀j (hj:j<l.length),j<i->l[j].path≠p} (Xi (fun i=>⟨[(0,sl Ac l),(1,vs p),(4,.ref 4 0),(6,vi i.1)],[(4,.cells [vs ⟨#[]⟩,vb false,nzA])],Af⟩) (Xi (fun i=>l.length-i.1) (Yi (Xi ⟨0,Ao _,fun j _ h=>by omega⟩ ?_) ?_))))
 .exact⟨Z4,Z1,Fh,Tv⟩
 intro⟨i,h1,h2⟩;refine Yi (fun h=>?_) (fun h=>?_)
 .skip
  have h:(i:Int)<(l.map Ac).length:=h;have h:i<l.length:=by simp_all
  have hg:l[i]?=some l[i]:=Ge h;refine Xi (Ac l[i]) (Yi (Yi aa0 (by simp_all)) (Yi rfl ?_));refine Yi (fun h3=>?_) (fun h3=>?_)
  .have h3:l[i].path=p:=h3;refine Xi (Ac l[i]) (Yi (Yi aa0 (by simp_all)) (Yi rfl ?_));refine Yi (Nz rfl) (yN ?_);have ef:l.find? (fun t=>decide (t.path=p))=some l[i]:=by
    grind [List.find?_eq_some_iff_getElem]
   refine yN ?_;exact .of_eq (show AV.tup [.agg (Ac l[i]),vb true]=R by simp_all)
  have h3:¬l[i].path=p:=h3;refine Yi (by grind [Al]) (Xi ⟨i+1,by omega,fun j hj He=>?_⟩ ?_)
  .grind
  exact⟨by grind,Z4,Z1,Fh,Tv⟩
 .skip
  have h:¬(i:Int)<(l.map Ac).length:=h;have h:¬i<l.length:=by simp_all
  have ef:l.find? (fun t=>decide (t.path=p))=none:=by
   grind [List.getElem_of_mem]
  refine yN (yN ?_);exact .of_eq (show AV.tup [.agg [vs ⟨#[]⟩,vb false,nzA],vb false]=R by simp_all)
abbrev pc(A:List Tm):AV:=.slice (.id d 3) (A.map Ac)
theorem qg(l:List Tm)(hl:BB l)(p:ByteArray):PC 244 [sl Ac l,vs p] (sl Ac (l.filter fun t=>!decide (t.path=p))):=by
 have hl:l.length<=1073741824:=hl;refine Ps (Dc [4]) Tryz.func244 rfl (Nz rfl) (Xi {q:Nat×List Tm // q.1<=l.length/\q.2=(l.take q.1).filter fun t=>!decide (t.path=p)} (Xi (fun q=>⟨[(0,sl Ac l),(1,vs p),(5,pc 7 q.1.2),(6,vi q.1.1)],[(7,.tok 3 q.1.2.length)],Af⟩) (Xi (fun q=>l.length-q.1.1) (Yi (Xi ⟨(0,[]),Ao _,rfl⟩ ?_) ?_))))
 .exact⟨Z4,Z1,Fh,Tv⟩
 intro⟨⟨i,A⟩,i1,i2⟩;have i1:i<=l.length:=i1;have i2:A=(l.take i).filter fun t=>!decide (t.path=p):=i2;have hA:A.length<=i:=by
  grind
 refine Yi (fun h=>?_) (fun h=>?_)
 .skip
  have h:(i:Int)<(l.map Ac).length:=h;have h:i<l.length:=by simp_all
  have hg:l[i]?=some l[i]:=Ge h;refine Xi (Ac l[i]) (Yi (Yi aa0 (by simp_all)) (Yi rfl ?_));have etk:(l.take (i+1)).filter (fun t=>!decide (t.path=p))=A++[l[i]].filter (fun t=>!decide (t.path=p)):=by grind [List.take_add_one]
  refine Yi (fun h3=>?_) (fun h3=>?_)
  .have h3:l[i].path≠p:=h3;refine Xi (Ac l[i]) (Yi (Yi aa0 (by simp_all)) (Yi rfl ?_));refine yN ?_;have CM:AZ 3 [Ac l[i]]/\(A.map Ac).length=A.length/\((A.map Ac).length+[Ac l[i]].length)*48<=140737488355328/\(A.map Ac).length+[Ac l[i]].length<=9223372036854775807:=
    ⟨⟨rfl,trivial⟩,by simp_all,by grind,by grind⟩
   refine Yi CM (Am (show ∃B,B=A++[l[i]]from⟨_,rfl⟩) (fun B hB=>?_));have e1:AV.slice (.id 7 3) (A.map Ac++[Ac l[i]])=pc 7 B:=by simp_all
   have e2:HO.tok 3 ((A.map Ac).length+[Ac l[i]].length)=.tok 3 B.length:=by simp_all
   refine cU [(0,sl Ac l),(1,vs p),(5,pc 7 B),(6,vi i)] [(7,.tok 3 B.length)] ⟨Zr,Zr,⟨e1,rfl⟩,Zr,Tv⟩ ⟨⟨e2,rfl⟩,Tv⟩ (Yi (Ii i aa0) (Xi ⟨(i+1,B),by omega,by simp_all⟩ ?_));exact⟨Dl l.length i aa0,Z4,Z1,Fh,Tv⟩
  have h3:¬l[i].path≠p:=h3;refine cU [(0,sl Ac l),(1,vs p),(5,pc 7 A),(6,vi i)] [(7,.tok 3 A.length)] Z4 Z1 (Yi (Ii i aa0) (Xi ⟨(i+1,A),by omega,by simp_all⟩ ?_));exact⟨Dl l.length i aa0,Z4,Z1,Fh,Tv⟩
 .skip
  have h:¬(i:Int)<(l.map Ac).length:=h;have h:¬i<l.length:=by simp_all
  exact .of_eq (Aa (sl Ac) (show A=_ by grind))
abbrev mh:Prop:=∀l:List Tm,BB l->(∀t∈l,BB t.set)->PC 50 [sl Ac l] (G4 l)
theorem qf(az:mh)(l:List Tm)(hl:BB l)(hs:∀t∈l,BB t.set):PC 239 [sl Ac l] (sl Ac (BM l)):=by
 have hc:=az l hl hs;refine Ps Cu Tryz.func239 rfl (Nz rfl) (Xi .pure (Xi _ (Yi (hc) ?_)));exact .refl _
theorem RR:BB (BJ s):=by grind [Kb]
theorem c69(az:mh)(q:Rq)(hq:BB q.set):PC 172 [.agg (Ad q)] (sl Ac (BM [⟨q.path,true,BJ q.set⟩])):=by
 have h1:=ti q hq;have h2:=qf az [⟨q.path,true,BJ q.set⟩] (by simp_all) (fun t ht=>by grind [RR]);refine Ps Cu Tryz.func172 rfl (Nz rfl) (yN (Xi .pure (Xi _ (Yi (h1) (Xi .pure (Xi _ (Yi (h2) ?_)))))));exact .refl _
theorem c72(az:mh)(p:ByteArray)(s:AF)(hs:BB s):PC 175 [vs p,sl Ab s] (sl Ac (BM [⟨p,false,BJ s⟩])):=by
 have h1:=dM s hs;have h2:=qf az [⟨p,false,BJ s⟩] (by simp_all) (fun t ht=>by grind [RR]);refine Ps Cu Tryz.func175 rfl (Nz rfl) (Xi .pure (Xi _ (Yi (h1) (Xi .pure (Xi _ (Yi (h2) ?_))))));exact .refl _
theorem Of:BB (canon s):=by grind [CK,Bc]
abbrev XE:AF:=if n<0\/1000000<=n then []else S8 (canon [(n,1000000)]) (canon [(n+1,1000000)])
abbrev Aax:Nm:=(pT [] [(7,2)] [])
theorem c71(az:mh)(p:ByteArray)(n:Int)(hn:-4611686018427387904<=n/\n<=4611686018427387904)(q:Rq)(hq:BB q.set):PC 174 [vs p,vi n,.agg (Ad q)] (sl Ac (BM [⟨p,false,XE n⟩,⟨q.path,true,BJ q.set⟩])):=by
 have h1:=tj n;have h2:=tj (n+1);have h3:=xv (canon [(n,1000000)]) (canon [(n+1,1000000)]) (Of _) (Of _);have h4:=ti q hq;have hmi:BB (S8 (canon [(n,1000000)]) (canon [(n+1,1000000)])):=by
  have:=CK (Ik (canon [(n,1000000)]) (BJ (canon [(n+1,1000000)])))
  show(Gd _ _).length<=_;omega
 have Mu:BB (XE n):=by
  grind
 have h5:=qf az [⟨p,false,XE n⟩,⟨q.path,true,BJ q.set⟩] (by simp_all) (fun t ht=>by
  grind [RR])
 obtain⟨N,hN⟩:∃N,N=BM [⟨p,false,XE n⟩,⟨q.path,true,BJ q.set⟩]:=⟨_,rfl⟩;rw[<-hN]at h5⊢;refine Ps Aax Tryz.func174 rfl (Nz rfl) (Xi .pure (Xi _ (Yi (h1) (Yi (show Al (n+1) by unfold Al;omega) (Xi .pure (Xi _ (Yi (h2) (Xi .pure (Xi _ (Yi (h3) (Yi (fun ha=>?_) (fun ha=>?_))))))))))))
 .have ha:n<0:=ha;have e:XE n=[]:=AE (.inl ha);rw[e]at h5;refine yN (Xi .pure (Xi _ (Yi (h4) (Xi .pure (Xi _ (Yi (h5) ?_))))));exact .refl _
 have ha:¬n<0:=ha;refine Yi (fun hb=>?_) (fun hb=>?_)
 .have hb:1000000<=n:=hb;have e:XE n=[]:=AE (.inr hb);rw[e]at h5;refine yN (Xi .pure (Xi _ (Yi (h4) (Xi .pure (Xi _ (Yi (h5) ?_))))));exact .refl _
 have hb:¬1000000<=n:=hb;have e:XE n=S8 (canon [(n,1000000)]) (canon [(n+1,1000000)]):=Aw (fun h=>h.elim ha hb);rw[e]at h5;refine yN (Xi .pure (Xi _ (Yi (h4) (Xi .pure (Xi _ (Yi (h5) ?_))))));exact .refl _
def JG(r:Rl):Bool:=decide (r.path=p)&&!r.yanked
def Kx:Int×Int:=(plc r.ver,plc r.ver+1)
theorem dD{x:List Rl}{p:ByteArray}(h:AD x=0):B3 x p=canon ((x.filter (JG p)).map Kx):=by
 unfold B3 Jf;rw[Aw (Lu h),List.filter_filter]
 congr 3
 grind [JG]
theorem dC{x:List Rl}{p:ByteArray}(h:AD x≠0):B3 x p=canon []:=by
 grind [B3,Jf]
theorem yE(hs:∀r∈x,F3 r)(h:AD x≠0):PC 176 [Jx x ifs,vs p] (sl Ab (B3 x p)):=by
 have h1:=sq x ifs hs;have h2:=XM [] (by simp_all);rw[dC h];refine Ps (Dc [8]) Tryz.func176 rfl (Nz rfl) (Xi {i:Nat // i=0} (Xi (fun i=>⟨[(1,vs p),(2,.ref 2 0),(5,Jo 8 []),(6,vi i.1)],[(2,.cells (Ic x ifs)),(8,.tok 2 0)],Af⟩) (Xi (fun i=>i.1) (Yi (Xi ⟨0,rfl⟩ ?_) ?_))))
 .exact⟨Z4,Z2,Fh,Tv⟩
 intro⟨i,hi⟩;refine Yi (fun h3=>?_) (fun h3=>?_)
 .refine yN (Xi .pure (Xi _ (Yi (h1) (Yi (fun h4=>absurd h4 h) (fun _=>?_)))));refine cU [(5,Jo 8 [])] [(8,.tok 2 0)] Z1 Z1 (Xi .pure (Xi _ (Yi (h2) ?_)));exact .refl _
 .refine cU [(5,Jo 8 [])] [(8,.tok 2 0)] Z1 Z1 (Xi .pure (Xi _ (Yi (h2) ?_)));exact .refl _
theorem yF(hs:∀r∈x,F3 r)(h0:AD x=0):PC 176 [Jx x ifs,vs p] (sl Ab (B3 x p)):=by
 have h1:=sq x ifs hs;rw[h0]at h1;have hx:=(Fs h0).1;have hv:∀r∈x,Bo r.ver=true:=fun r hr=>((D0 h0).1 r hr).val;have h2:=XM ((x.filter (JG p)).map Kx) (by
  grind)
 rw[dD h0];refine Ps (Dc [4,6,8]) Tryz.func176 rfl (Nz rfl) (Xi {q:Nat×AF // q.1<=x.length/\q.2=((x.take q.1).filter (JG p)).map Kx} (Xi (fun q=>⟨[(1,vs p),(2,.ref 2 0),(5,Jo 8 q.1.2),(6,vi q.1.1)],[(2,.cells (Ic x ifs)),(8,.tok 2 q.1.2.length)],Af⟩) (Xi (fun q=>x.length-q.1.1) (Yi (Xi ⟨(0,[]),Ao _,rfl⟩ ?_) ?_))))
 .exact⟨Z4,Z2,Fh,Tv⟩
 intro⟨⟨i,A⟩,i1,i2⟩;have i1:i<=x.length:=i1;have i2:A=((x.take i).filter (JG p)).map Kx:=i2;have hA:A.length<=i:=by
  grind
 refine Yi (fun h=>?_) (fun h=>?_)
 .skip
  have h:(i:Int)<(x.map Ak).length:=h;have h:i<x.length:=by simp_all
  have hg:x[i]?=some x[i]:=Ge h;have etk:((x.take (i+1)).filter (JG p)).map Kx=A++([x[i]].filter (JG p)).map Kx:=by grind [List.take_add_one]
  refine yN (Xi .pure (Xi _ (Yi (h1) (Yi (fun _=>?_) (fun h9=>absurd rfl h9)))));refine Xi (Ak x[i]) (Yi (Yi aa0 (by simp_all)) (Yi rfl ?_));refine Yi (Nz rfl) (yN (cU [(1,vs p),(2,.ref 2 0),(5,Jo 8 A),(6,vi i),(7,.ref 7 0)] [(2,.cells (Ic x ifs)),(7,.cells (Ak x[i])),(8,.tok 2 A.length)] Z5 Z3 ?_))
  have hvx:=hv x[i] (Ah h);have cA:plc x[i].ver=place x[i].ver:=AE hvx;have hpr:=Rn x[i].ver;have h5:=qz x[i].ver hvx;rw[<-cA]at h5;refine Yi (fun h3=>?_) (fun h3=>?_)
  .have h3:x[i].path=p:=h3;refine Yi (fun hy=>?_) (fun hy=>?_)
   .have hy:x[i].yanked=true:=hy;have wQ:JG p x[i]=false:=by grind [JG]
    refine cU [(1,vs p),(2,.ref 2 0),(5,Jo 8 A),(6,vi i)] [(2,.cells (Ic x ifs)),(8,.tok 2 A.length)] Z4 Z2 (Yi (Ii i aa0) (Xi ⟨(i+1,A),by omega,by simp_all⟩ ?_));exact⟨Dl x.length i aa0,Z4,Z2,Fh,Tv⟩
   have hy:x[i].yanked=false:=hy;have wQ:JG p x[i]=true:=by unfold JG;simp_all
   refine yN (Xi _ (Yi (h5) (yN (Xi _ (Yi (h5) (Yi (show Al (plc x[i].ver+1) by grind [Al]) ?_))))));have CM:AZ 2 [Ab (Kx x[i])]/\(A.map Ab).length=A.length/\((A.map Ab).length+[Ab (Kx x[i])].length)*16<=140737488355328/\(A.map Ab).length+[Ab (Kx x[i])].length<=9223372036854775807:=
    ⟨⟨rfl,trivial⟩,by simp_all,by grind,by grind⟩
   refine Yi CM (Yi aa3 (Am (show ∃B,B=A++[Kx x[i]]from⟨_,rfl⟩) (fun B hB=>?_)));have e1:AV.slice (.id 8 2) (A.map Ab++[Ab (Kx x[i])])=Jo 8 B:=by simp_all
   have e2:HO.tok 2 ((A.map Ab).length+[Ab (Kx x[i])].length)=.tok 2 B.length:=by simp_all
   refine cU [(1,vs p),(2,.ref 2 0),(5,Jo 8 B),(6,vi i)] [(2,.cells (Ic x ifs)),(8,.tok 2 B.length)] ⟨Zr,Zr,⟨e1,rfl⟩,Zr,Tv⟩ ⟨Zr,⟨e2,rfl⟩,Tv⟩ (Yi (Ii i aa0) (Xi ⟨(i+1,B),by omega,by simp_all⟩ ?_));exact⟨Dl x.length i aa0,Z4,Z2,Fh,Tv⟩
  have h3:¬x[i].path=p:=h3;have wQ:JG p x[i]=false:=by grind [JG]
  refine cU [(1,vs p),(2,.ref 2 0),(5,Jo 8 A),(6,vi i)] [(2,.cells (Ic x ifs)),(8,.tok 2 A.length)] Z4 Z2 (Yi (Ii i aa0) (Xi ⟨(i+1,A),by omega,by simp_all⟩ ?_));exact⟨Dl x.length i aa0,Z4,Z2,Fh,Tv⟩
 .skip
  have h:¬(i:Int)<(x.map Ak).length:=h;have h:¬i<x.length:=by simp_all
  have eA:A=(x.filter (JG p)).map Kx:=by grind
  rw[<-eA]at h2;rw[<-eA];refine cU [(5,Jo 8 A)] [(8,.tok 2 A.length)] Z1 Z1 (Xi .pure (Xi _ (Yi (h2) ?_)));exact .refl _
theorem c73(hs:∀r∈x,F3 r):PC 176 [Jx x ifs,vs p] (sl Ab (B3 x p)):=by
 grind [yF,yE]
end Go.Eng
