/- Lemmas 25. -/
import Derived.Test.YtkmnnpmneamgoaaGreatDoorPA24
import Derived.Test.YtkmnnpmneamgoaaGreatDoorPA21
namespace Go.Eng
open Go.Proofs
variable {n m:Int}{j:Nat}{A:AH}(s:AH)(a:Ver)(l:List AH)(q:Rq)(x:Int×Int)(v:Ver)(d:Nat)(t:Tm)(p:ByteArray)(b:Ver)(i k:Nat)
theorem az{s:List UInt8}(h:Gz s=some n):0<=n:=by
 cases s with
 |nil=>grind [Gz]
 |cons c r=>
  have h:(if c=118 then(if(r.isEmpty||decide (3<r.length)||(decide (1<r.length)&&decide (r.headD 0=48))||!r.all Co)=true then none else some (DX r))else none)=some n:=h
  by_cases hc:c=118
  .rw[AX hc]at h
   by_cases hb:(r.isEmpty||decide (3<r.length)||(decide (1<r.length)&&decide (r.headD 0=48))||!r.all Co)=true
   .grind
   .rw[AI hb]at h;have ha:r.all Co=true:=by
     simp_all
    rw[<-EY h]
    suffices hh:∀i,i<=r.length->0<=DX (r.take i) by
     grind [List.take_length]
    intro i
    induction i with
    |zero=>intro _;exact Ce _
    |succ i ih=>
     grind [Jf,KT]
  simp_all
theorem mM{l:List UInt8}{x:ByteArray}(h:(aF l)[(aF l).length-1]?=some x):(CA 47 l).getLastD []=x.data.toList:=by
 rw[Lm,BA,<-List.getLast?_eq_getElem?]at h;obtain⟨y,hy,e⟩:=B3.1 h;rw[List.getLastD_eq_getLast?,hy,<-e];rfl
theorem wt(hp:F1 p):PC 220 [vs p] (Qu (Bj p)):=by
 have FG:p.size=p.data.toList.length:=by simp
 have hc:=AaK p hp;unfold F1 at hp;obtain⟨A,hA⟩:∃A,A=aF p.data.toList:=⟨_,rfl⟩;rw[<-hA]at hc;have hAl:A.length=(CA 47 p.data.toList).length:=by grind
 have oa:=UT 47 p.data.toList;have oc:0<A.length:=by grind [K3]
 have lE:∀x∈A,x.data.toList.length<4611686018427387904:=fun x hx=>by
  obtain⟨y,hy,e⟩:=Ar.1 (hA▸hx:x∈aF p.data.toList);have h5:=LI 47 _ y hy;rw[<-e];show y.length<_;omega
 have GI:(CA 47 p.data.toList).all HD=A.all fun x=>HD x.data.toList:=by rw[hA,List.all_map];rfl
 have E1:A.length-1<A.length:=by omega
 have hg:A[A.length-1]?=some A[A.length-1]:=Ge E1;have dR:(CA 47 p.data.toList).getLastD []=A[A.length-1].data.toList:=by
  grind [mM]
 have em:Bj p=match Gz A[A.length-1].data.toList with
  |none=>none
  |some n=>if(decide (64<p.data.toList.length)||decide (A.length<2))=true then none else if(A.all fun x=>HD x.data.toList)=true then some n else none:=by
  grind [Bj,Qw]
 clear GI dR
 have hv:=AaM A[A.length-1] (lE _ (Ak E1));obtain⟨o,ho⟩:∃o,o=Gz A[A.length-1].data.toList:=⟨_,rfl⟩;rw[<-ho]at hv em;have hz:∀n,o=some n->0<=n:=fun n e=>by
  rw[e]at ho;exact az ho.symm
 refine Ps (Dw [4,9,10]) Tryz.func220 rfl (Nz rfl) (Yi (fun h=>?_) (fun h=>?_))
 .exact .of_eq (Aa Qu (show(none:Option Int)=Bj p by grind))
 have d1:decide (64<p.data.toList.length)=false:=AP aa0;refine Xi .pure (Xi _ (Yi (hc) (cU [(4,sl GR A)] [] Z1 Tv (Xi {i:Nat // i<=A.length/\∀j (hj:j<A.length),j<i->HD (A[j]).data.toList=true} (Xi (fun i=>⟨[(4,sl GR A),(5,vi i.1)],[],Ae⟩) (Xi (fun i=>A.length-i.1) (Yi (Xi ⟨0,Ap _,fun j _ h=>by omega⟩ ?_) ?_)))))))
 .exact⟨Z2,Tv,Fh,Tv⟩
 intro⟨i,i1,i2⟩;refine Yi (fun h2=>?_) (fun h2=>?_)
 .have h2:i<A.length:=by grind
  have hg:A[i]?=some A[i]:=Ge h2;refine Xi (GR A[i]) (Yi (Yi aa0 (by grind)) (Yi rfl ?_));have hn:=AaL A[i] (lE _ (Ak h2));refine AA (Bt (HD A[i].data.toList)).symm (fun e1=>?_) (fun e1=>?_)
  .rw[e1]at hn;refine Xi .pure (Xi _ (Yi (hn) ?_));have e2:(A.all fun x=>HD x.data.toList)=false:=by
    grind
   exact .of_eq (Aa Qu (show(none:Option Int)=Bj p by
    grind))
  rw[e1]at hn;refine Xi .pure (Xi _ (Yi (hn) (Yi (by grind [As]) (Xi ⟨i+1,by omega,fun j hj Hg=>?_⟩ ?_))))
  .grind
  .exact⟨by grind,Z2,Tv,Fh,Tv⟩
 have h2:¬i<A.length:=by grind
 have e2:(A.all fun x=>HD x.data.toList)=true:=BO.2 fun x hx=>by
  grind [List.getElem_of_mem]
 have em:Bj p=match(generalizing:=false) o with
  |none=>none
  |some n=>if decide (A.length<2)=true then none else some n:=by
  grind
 refine cU [(4,sl GR A)] [] Z1 Tv ?_
 have Y2:(((A.map GR).length:Int)-1).toNat=A.length-1:=by grind
 refine Yi (by grind [As]) (Xi (GR A[A.length-1]) (Yi (Yi (by grind) (by rw[Y2];grind)) (Yi rfl ?_)));refine Xi .pure (Xi _ (Yi (hv) ?_));refine Al (show ∃z:Int,Vu o=vi z/\(z<0↔o=none)/\∀n,o=some n->z=n by
  grind) (fun z hz2=>?_)
 refine cU [(4,sl GR A),(6,vi z)] [] ⟨Zr,⟨hz2.1,rfl⟩,Tv⟩ Tv (Yi (fun h3=>?_) (fun h3=>?_))
 .rw[Lm]at h3;exact .of_eq (Aa Qu (show(none:Option Int)=Bj p by grind))
 rw[Lm]at h3;refine Yi (fun h4=>?_) (fun h4=>?_)
 .exact .of_eq (Aa Qu (show(none:Option Int)=Bj p by grind))
 refine Al (show ∃n,o=some n by
  grind) (fun n hn=>?_)
 exact .of_eq (show AV.tup [vi z,vi 0]=Qu (Bj p) by grind)
theorem AaB(hp:F1 p):PC 219 [vs p] (vb (Bj p).isSome):=by
 have hc:=wt p hp;cases h:Bj p with
 |none=>
  rw[h]at hc;refine Ps De Tryz.func219 rfl (Nz rfl) (Xi .pure (Xi _ (Yi (hc) (Yi ?_ ?_))))
  .intro h;exact absurd (show(4:Int)=0 from h) aa2
  .intro _;exact .refl _
 |some n=>
  rw[h]at hc;refine Ps De Tryz.func219 rfl (Nz rfl) (Xi .pure (Xi _ (Yi (hc) (Yi ?_ ?_))))
  .intro _;exact .refl _
  .intro h;exact absurd rfl h
theorem zi(x:List Rl)(ifs:List (List AV))(p:ByteArray)(pl:Int)(hx:BL x)(hv:∀r∈x,BK r.ver=true):PC 155 [Il x ifs,vs p,vi pl] (H4 (Di x p pl)):=by
 unfold BL at hx;refine Ps (Dw [5]) Tryz.func155 rfl (Nz rfl) (Xi {i:Nat // i<=x.length/\∀j (hj:j<x.length),j<i->(decide (x[j].path=p)&&decide (plc x[j].ver=pl))=false} (Xi (fun i=>⟨[(1,vs p),(2,vi pl),(3,.ref 3 0),(6,.ref 6 0),(8,vi i.1)],[(3,.cells (Ic x ifs)),(6,.cells X6)],Ae⟩) (Xi (fun i=>x.length-i.1) (Yi (Xi ⟨0,Ap _,fun j _ h=>by omega⟩ ?_) ?_))))
 .exact⟨Z5,Z2,Fh,Tv⟩
 intro⟨i,h1,h2⟩;refine Yi ?_ ?_
 .intro h;have h:(i:Int)<(x.map Am).length:=h;have h:i<x.length:=by simp_all
  have hg:x[i]?=some x[i]:=Ge h;refine Xi (Am x[i]) (Yi (Yi aa0 (by simp_all)) (Yi rfl ?_));have oa:place x[i].ver=plc x[i].ver:=by grind [plc]
  refine Yi (Nz rfl) (yN (cU [(1,vs p),(2,vi pl),(3,.ref 3 0),(6,.ref 6 0),(8,vi i),(9,.ref 9 0)] [(3,.cells (Ic x ifs)),(6,.cells X6),(9,.cells (Am x[i]))] Z6 Z3 ?_))
  have next:(decide (x[i].path=p)&&decide (plc x[i].ver=pl))=false->∀j (hj:j<x.length),j<i+1->(decide (x[j].path=p)&&decide (plc x[j].ver=pl))=false:=fun hf j hj Hg=>by
   grind
  refine Yi ?_ ?_
  .intro hp;have hp:x[i].path=p:=hp;refine yN (Xi .pure (Xi _ (Yi (uX x[i].ver (hv _ (Ak h))) (Yi ?_ ?_))))
   .intro hq;have hq:place x[i].ver=pl:=hq;have hr:Di x p pl=some x[i]:=Tr h (fun j hj Hg=>h2 j hj Hg) (by simp_all);refine Yi (Nz rfl) (Yi (Nz rfl) (yN ?_));exact .of_eq (show AV.tup [.agg (Am x[i]),vb true]=H4 (Di x p pl) by rw[hr])
   .intro hq;have hq:¬place x[i].ver=pl:=hq;refine Yi (by grind [As]) (Xi ⟨i+1,by omega,next (by simp_all)⟩ ?_)
    exact⟨Dl x.length i aa0,Z5,Z2,Fh,Tv⟩
  .intro hp;have hp:¬x[i].path=p:=hp;refine Yi (by grind [As]) (Xi ⟨i+1,by omega,next (by simp_all)⟩ ?_)
   exact⟨by grind,Z5,Z2,Fh,Tv⟩
 .intro h;have h:¬(i:Int)<(x.map Am).length:=h;have h:¬i<x.length:=by simp_all
  have hr:Di x p pl=none:=Qn fun j hj=>h2 j hj aa0;refine Yi (Nz rfl) (yN ?_);exact .of_eq (show AV.tup [.agg X6,vb false]=H4 (Di x p pl) by rw[hr])
theorem zj(s:List Sl)(hs:BL s):PC 104 [sl Ag s] (vb (Bp s)):=by
 unfold BL at hs;refine Ps De Tryz.func104 rfl (Nz rfl) ?_;refine Xi {i:Nat // 1<=i/\(s=[]\/i<=s.length)/\Bp s=(match s[i-1]? with | none=>true | some y=>KK (some y.path) (s.drop i))} (Xi (fun i=>⟨[(0,sl Ag s),(3,vi i.1)],[],Ae⟩) (Xi (fun i=>s.length-i.1) (Yi (Xi ⟨1,Ao _,by grind,by cases s<;>rfl⟩ ?_) ?_)))
 .exact⟨Z2,Tv,Fh,Tv⟩
 intro⟨i,h1,h2,h3⟩;refine Yi ?_ ?_
 .intro h;have h:i<s.length:=by simp_all
  have hg:s[i]?=some s[i]:=Ge h;have h' : i-1<s.length:=by omega
  have lA : s[i-1]?=some s[i-1]:=Ge h';have e1:((i:Int)-1).toNat=i-1:=by omega
  have lP:Bp s=(Fp s[i-1].path s[i].path&&KK (some s[i].path) (s.drop (i+1))):=by
   grind [Zi]
  refine Xi (Ag s[i]) (Yi (Yi aa0 (by simp_all)) (Yi rfl ?_));refine Yi (by grind [As]) (Xi (Ag s[i-1]) (Yi (Yi (by grind) (by simp_all)) (Yi rfl ?_)));refine Yi ?_ ?_
  .intro h4;rw[<-Ew]at h4;refine Yi aa3 ?_;exact .of_eq (Aa vb (show false=Bp s by simp_all))
  .intro h4;rw[<-Ew,Rc]at h4;refine Yi aa3 (Yi (by grind [As]) (Xi ⟨i+1,by omega,.inr aa0,by simp_all⟩ ?_));exact⟨Dl s.length i aa0,Z2,Tv,Fh,Tv⟩
 .intro h;have h:¬i<s.length:=by simp_all
  have xH:Bp s=true:=by
   rcases h2 with h2 | h2
   .grind
   .have e:i=s.length:=by omega
    rw[h3,e,List.drop_length];cases s[s.length-1]?<;>rfl
  exact .of_eq (Aa vb xH.symm)
abbrev RZ(s:List Sl):Bool:=s.any fun y=>decide (y.path=q.path)&&has q.set (place y.ver)
theorem c92(s:List Sl)(hq:BL q.set)(hs:BL s)(hv:∀y∈s,BK y.ver=true):PC 106 [.agg (Ac q),sl Ag s] (vb (RZ q s)):=by
 unfold BL at hs;refine Ps De Tryz.func106 rfl (Nz rfl) (Xi {i:Nat // i<=s.length/\∀j (hj:j<s.length),j<i->(decide (s[j].path=q.path)&&has q.set (place s[j].ver))=false} (Xi (fun i=>⟨[(1,sl Ag s),(2,.ref 2 0),(5,vi i.1)],[(2,.cells (Ac q))],Ae⟩) (Xi (fun i=>s.length-i.1) (Yi (Xi ⟨0,Ap _,fun j _ h=>by omega⟩ ?_) ?_))))
 .exact⟨Z3,Z1,Fh,Tv⟩
 intro⟨i,h1,h2⟩;refine Yi ?_ ?_
 .intro h;have h:(i:Int)<(s.map Ag).length:=h;have h:i<s.length:=by simp_all
  have hg:s[i]?=some s[i]:=Ge h;have next:(decide (s[i].path=q.path)&&has q.set (place s[i].ver))=false->∀j (hj:j<s.length),j<i+1->(decide (s[j].path=q.path)&&has q.set (place s[j].ver))=false:=fun hf j hj Hg=>by
   grind
  have hc:=fQ q.set (place s[i].ver) hq;refine Xi (Ag s[i]) (Yi (Yi aa0 (by simp_all)) (Yi rfl ?_));refine Yi ?_ ?_
  .intro hp;have hp:s[i].path=q.path:=hp;refine Xi (Ag s[i]) (Yi (Yi aa0 (by simp_all)) (Yi rfl ?_));refine yN (Xi _ (Yi (uX s[i].ver (hv _ (Ak h))) (AA (Bt (has q.set (place s[i].ver))) (fun e=>?_) (fun e=>?_))))
   .rw[e]at hc;refine Xi _ (Yi (hc) (Yi aa3 ?_));exact .of_eq (Aa vb (show true=RZ q s from(Bu.2 ⟨s[i],Ak h,by simp_all⟩).symm))
   .rw[e]at hc;refine Xi _ (Yi (hc) (Yi aa3 (Yi (by grind [As]) (Xi ⟨i+1,by omega,next (by simp_all)⟩ ?_))))
    exact⟨by grind,Z3,Z1,Fh,Tv⟩
  .intro hp;have hp:¬s[i].path=q.path:=hp;refine Yi aa3 (Yi (by grind [As]) (Xi ⟨i+1,by omega,next (by simp_all)⟩ ?_))
   exact⟨by grind,Z3,Z1,Fh,Tv⟩
 .intro h;have h:¬(i:Int)<(s.map Ag).length:=h;have h:¬i<s.length:=by simp_all
  have e:RZ q s=false:=by
   grind [List.getElem_of_mem]
  exact .of_eq (Aa vb e.symm)
abbrev il:Int:=match Bj p with | none=>-1 | some m=>m
abbrev vJ:Prop:=∀p:ByteArray,F1 p->PC 123 [vs p] (vi (il p))
abbrev vK:Prop:=∀s:AH,BL s->PC 125 [sl Ab s] (sl Ab (canon s))
theorem qy{r:List UInt8}(h:r.all Co=true):0<=DX r:=by
 have:∀(l:List UInt8) (n:Int),0<=n->(∀c∈l,Co c=true)->0<=l.foldl (fun n c=>10*n+((c.toNat:Int)-48)) n:=by
  intro l
  induction l<;>grind [Jf]
 exact this r 0 (Ce _) (fun c hc=>BO.1 h c hc)
theorem rk{s:List UInt8}(h:Gz s=some n):0<=n:=by
 unfold Gz at h;split at h
 .split at h
  .split at h
   .cases h
   .rename_i r _ hc;cases h;refine qy ?_;simp_all
  simp_all
 simp_all
theorem me{p:ByteArray}(h:Bj p=some m):0<=m:=by
 unfold Bj Qw at h;split at h
 .cases h
 .rename_i n e;split at h
  .cases h
  .split at h
   .cases h;exact rk e
   simp_all
theorem ZB:il p<0↔(Bj p).isNone=true:=by
 unfold il;cases h:Bj p with
 |none=>simp
 |some m=>have:=me h;simp_all
theorem c68(kS:vJ)(pp:vK)(l:List Rq)(hs:∀q∈l,HP q):PC 72 [sl Ac l] (vi (AL l)):=by
 refine Ps (Dw []) Tryz.func72 rfl (Nz rfl) (Yi ?_ ?_)
 .intro h;exact .of_eq (Aa vi (show(7:Int)=AL l by grind [AL]))
 intro h;have hl:l.length<=16:=by grind
 have TM:AL l=D2 none l:=by grind [AL]
 refine Xi {i:Nat // i<=l.length/\D2 none l=D2 (Jo l i) (l.drop i)} (Xi (fun i=>⟨[(0,sl Ac l),(3,vi i.1)],[],Ae⟩) (Xi (fun i=>l.length-i.1) (Yi (Xi ⟨0,Ap _,rfl⟩ ?_) ?_)))
 .exact⟨Z2,Tv,Fh,Tv⟩
 intro⟨i,h1,h2⟩;refine Yi ?_ ?_
 .intro h;have h:i<l.length:=by simp_all
  have hg:l[i]?=some l[i]:=Ge h;have hd:l.drop i=l[i]::l.drop (i+1):=Ba h;have hq:=hs l[i] (Ak h);have IE:D2 none l=if Hd (Jo l i) l[i]=0 then D2 (some l[i].path) (l.drop (i+1))else Hd (Jo l i) l[i]:=by rw[h2,hd];rfl
  have fail:∀e:Int,Hd (Jo l i) l[i]=e->e≠0->e=AL l:=fun e he hz=>by omega
  have jz:Jo l (i+1)=some l[i].path:=Yl h;refine Xi (Ac l[i]) (Yi (Yi aa0 (by grind)) (Yi rfl (Xi .pure (Xi _ (Yi (kS l[i].path hq.2) (Yi ?_ ?_))))))
  .intro h3;exact .of_eq (Aa vi (fail 4 (by grind [Hd,ZB]) aa2))
  intro h3;have hmj:(Bj l[i].path).isNone=false:=by
   grind
  have er:Hd (Jo l i) l[i]=if(l[i].set.isEmpty||!decide (l[i].set=canon l[i].set)||(match Jo l i with | some b=>!Fp b l[i].path | none=>false))=true then 1 else 0:=by unfold Hd;grind
  refine Xi (Ac l[i]) (Yi (Yi aa0 (by grind)) (Yi rfl (Yi ?_ ?_)))
  .intro h4;have h5:l[i].set.isEmpty=true:=by
    rw[Lm]at h4;rw[L0];exact Aw aa0
   refine Yi aa3 ?_;exact .of_eq (Aa vi (fail 1 (by grind) aa2))
  intro h4;have h5:l[i].set.isEmpty=false:=by
   grind
  have he:=c75 l[i].set (canon l[i].set) hq.1;refine Xi (Ac l[i]) (Yi (Yi aa0 (by grind)) (Yi rfl (Xi (Ac l[i]) (Yi (Yi aa0 (by grind)) (Yi rfl (Xi _ (Yi (pp l[i].set hq.1) (AA (Bt (decide (l[i].set=canon l[i].set))) (fun e=>?_) (fun e=>?_)))))))))
  rotate_left
  .rw[e]at he;refine Xi _ (Yi (he) (Yi aa3 ?_));exact .of_eq (Aa vi (fail 1 (by grind) aa2))
  rw[e]at he;refine Xi _ (Yi (he) (Yi aa3 (Yi ?_ ?_)))
  .intro h6;have h6:(0:Int)<i:=h6;have h7:i-1<l.length:=by omega
   have hb:Jo l i=some l[i-1].path:=by
    grind
   refine Xi (Ac l[i]) (Yi (Yi aa0 (by grind)) (Yi rfl (Yi (by grind [As]) (Xi (Ac l[i-1]) (Yi (Yi aa0 (by rw[show((i:Int)-1).toNat=i-1 by omega];grind)) (Yi rfl ?_))))));refine Yi ?_ ?_
   .intro h8;refine Yi aa3 ?_;exact .of_eq (Aa vi (fail 1 (by grind [Ew]) aa2))
   .intro h8;have h8:¬Op.bytesLess l[i-1].path.toList l[i].path.toList=false:=h8;have h8:Op.bytesLess l[i-1].path.toList l[i].path.toList=true:=by grind
    refine Yi aa3 (Yi (by grind [As]) (Xi ⟨i+1,by omega,by grind [Ew]⟩ ?_));exact⟨Dl l.length i aa0,Z2,Tv,Fh,Tv⟩
  .intro h6;have h6:¬(0:Int)<i:=h6;have h7:i=0:=by omega
   refine Yi aa3 (Yi (by show As ((i:Int)+1);grind [As]) (Xi ⟨i+1,by omega,by grind⟩ ?_));exact⟨Dl l.length i aa0,Z2,Tv,Fh,Tv⟩
 .intro h;have h:¬(i:Int)<(l.map Ac).length:=h;have h:¬i<l.length:=by simp_all
  have e:(0:Int)=AL l:=by rw[TM,h2,HF aa0];rfl
  exact .of_eq (Aa vi e)
theorem cc(hk:k<p.data.toList.length)(h1:p.data.toList[k]=47)(h2:∀j (hj:j<p.data.toList.length),k<j->p.data.toList[j]≠47):Go.Lib.lastIndex p.data.toList [47]=k:=by
 have hoc:∀i (hi:i<p.data.toList.length),Go.Lib.occAt p.data.toList [47] i=true↔p.data.toList[i]=47:=fun i hi=>by
  grind [Go.Lib.occAt,List.drop_eq_getElem_cons]
 grind [Go.Lib.lastIndex,Go.Lib.lastOcc_spec]
theorem jb{p:ByteArray}(h:Bj p=some m):(47:UInt8)∈p.data.toList:=by
 grind [OC,Bj,Qw]
theorem Aat(hp:F1 p):PC 177 [vs p] (Zz cf p):=by
 have hc:=wt p hp;have hi:=AaB p hp;have FG:p.size=p.data.toList.length:=by simp
 unfold Zz;cases h:Bj p with
 |none=>
  rw[h]at hi;refine Ps De Tryz.func177 rfl (Nz rfl) (Xi .pure (Xi _ (Yi (hi) ?_)));exact .refl _
 |some n=>
  have gN:=jb h;rw[h]at hc hi;unfold F1 at hp;refine Al (show ∃q,∃hq:q<p.data.toList.length,p.data.toList[q]=47 from He gN) (fun q hq=>?_);refine Al hq (fun hq eq=>?_);refine Ps De Tryz.func177 rfl (Nz rfl) (Xi .pure (Xi _ (Yi (hi) (Xi .pure (Xi _ (Yi (hc) (Yi (fun h=>absurd rfl h) (fun _=>?_))))))));refine Yi (show As (((p.size:Nat):Int)-1) by grind [As]) ?_;refine Xi {k:Nat // k<p.data.toList.length/\∀j (hj:j<p.data.toList.length),k<j->p.data.toList[j]≠47} (Xi (fun k=>⟨[(0,vs p),(5,vi n),(7,vi k.1)],[],Ae⟩) (Xi (fun k=>k.1) (Yi (Xi ⟨p.data.toList.length-1,by omega,fun j hj Hg=>by omega⟩ ?_) ?_)))
  .have e1:vi (((p.size:Nat):Int)-1)=vi ((p.data.toList.length-1:Nat):Int):=Aa vi aa0;exact⟨⟨Zr,Zr,⟨e1,rfl⟩,Tv⟩,Tv,Fh,Tv⟩
  intro⟨k,k1,k2⟩;have Oa:(0:Int)<=k/\p.data[((k:Nat):Int).toNat]?=some p.data.toList[k]:=⟨by omega,by grind⟩;refine Xi p.data.toList[k] (Yi Oa (Yi (fun h2=>?_) (fun h2=>?_)))
  .have h2:p.data.toList[k]≠47:=fun e=>h2 (by rw[e];rfl);have hqk:q<=k:=by
    grind
   have V1:q≠k:=fun e=>by grind
   refine Yi (show As ((k:Int)-1) by grind [As]) ?_;have e1:vi ((k:Int)-1)=vi ((k-1:Nat):Int):=Aa vi aa0;refine Xi ⟨k-1,by omega,fun j hj Hg=>?_⟩ ?_
   .grind
   .exact⟨by grind,⟨Zr,Zr,⟨e1,rfl⟩,Tv⟩,Tv,Fh,Tv⟩
  .have h2:p.data.toList[k]=47:=HS.1 (by grind);have el:=cc p k k1 h2 k2;refine Yi ⟨Ce _,by grind,by grind⟩ ?_;have e3:p.extract 0 ((k:Nat):Int).toNat=cf p:=by grind
   exact .of_eq (show AV.tup [vs (p.extract 0 ((k:Nat):Int).toNat),vi n,vi 0]=_ by rw[e3])
theorem Aa7(hp:F1 p):PC 123 [vs p] (vi (il p)):=by
 have hc:=Aat p hp;unfold Zz at hc;unfold il;cases h:Bj p with
 |none=>
  rw[h]at hc;refine Ps De Tryz.func123 rfl (Nz rfl) (Xi .pure (Xi _ (Yi (hc) (Yi (fun _=>?_) (fun h=>absurd (show(4:Int)≠0 by decide) h)))));exact .refl _
 |some m=>
  rw[h]at hc;refine Ps De Tryz.func123 rfl (Nz rfl) (Xi .pure (Xi _ (Yi (hc) (Yi (fun h=>absurd rfl h) (fun _=>?_)))));exact .refl _
theorem kS:vJ:=Aa7
abbrev yt:Md:=⟨[],[(3,0)],[(63,2)],[],[],[],[],[],[],[(112,7)],[4,6,10,11,14,16,17,18]⟩
theorem MW:∀cs∈s.map Ab,cs.length=2:=fun cs h=>by
 grind
theorem Je{n:Nat}:∀{l:List (List AV)},(∀c∈l,c.length=n)->A7 n l
 | [],_=>trivial
 |c::_,h=>⟨h c (Ah ..),Je fun d hd=>h d (Ai _ hd)⟩
abbrev NS:List (List AV):=((s.map Ab).take (((s.map Ab).length:Nat):Int).toNat).drop ((k:Nat):Int).toNat
theorem ng:NS s k=(s.drop k).map Ab:=by
 grind [List.take_of_length_le,List.map_drop]
theorem rv(h:s.length<=1073741824):A7 2 (NS s k)/\[Ab x].length=1/\([Ab x].length+(NS s k).length)*16<=140737488355328/\[Ab x].length+(NS s k).length<=9223372036854775807:=by
 grind [Je]
abbrev TN:List (List AV):=((s.map Ab).take ((k:Nat):Int).toNat).drop ((0:Int)).toNat
theorem lz:TN s k=(s.take k).map Ab:=by
 grind [List.map_take]
theorem dj(hk:k<=s.length)(h:s.length<=1073741824):A7 2 ([Ab x]++NS s k)/\(TN s k).length=((k:Nat):Int).toNat-((0:Int)).toNat/\((TN s k).length+([Ab x]++NS s k).length)*16<=140737488355328/\(TN s k).length+([Ab x]++NS s k).length<=9223372036854775807:=by
 grind [Je]
theorem AcT:TN s k++([Ab x]++NS s k)=(s.take k++([x]++s.drop k)).map Ab:=by
 grind [ng,lz]
theorem gX{s:AH}(h:j<s.length)(hA:A=(BE (s.take j)).reverse){y:Int×Int}(hy:A[A.length-1]?=some y)(IF:s[j].1<=y.2):A.set (A.length-1) (y.1,max y.2 s[j].2)=(BE (s.take (j+1))).reverse:=by
 rw[FE s j h];cases hr:BE (s.take j)with
 |nil=>simp_all
 |cons z t=>
  have eA:A=t.reverse++[z]:=by simp_all
  have eL:A.length-1=t.reverse.length:=by simp_all
  rw[eL,eA,BQ (Ao _),IN]at hy;have ez:z=y:=EY hy;have e2:JG (z::t) s[j]=(z.1,max z.2 s[j].2)::t:=by show(if s[j].1<=z.2 then _ else _)=_;simp_all
  simp_all
theorem Zs{s:AH}(h:j<s.length)(hA:A=(BE (s.take j)).reverse)(hn:∀y,A[A.length-1]?=some y->¬s[j].1<=y.2):A++[s[j]]=(BE (s.take (j+1))).reverse:=by
 rw[FE s j h];cases hr:BE (s.take j)with
 |nil=>rw[hA,hr];rfl
 |cons z t=>
  have eA:A=t.reverse++[z]:=by simp_all
  have eL:A.length-1=t.reverse.length:=by simp_all
  have:=hn z (by simp_all)
  have e2:JG (z::t) s[j]=s[j]::z::t:=by show(if s[j].1<=z.2 then _ else _)=_;simp_all
  simp_all
set_option maxHeartbeats 4000000 in
theorem bc(l:AH)(hl:BL l):PC 125 [sl Ab l] (sl Ab (canon l)):=by
 refine Ps yt Tryz.func125 rfl (Nz rfl) (Xi {p:Nat×AH // p.1<=l.length/\p.2.Perm (DZ (l.take p.1))/\p.2.Pairwise fun a b=>a.1<=b.1} (Xi (fun p=>⟨[(0,sl Ab l),(3,sl Ab p.1.2),(4,vi p.1.1)],[],Ae⟩) (Xi (fun p=>l.length-p.1.1) (Yi (Xi ⟨(0,[]),Ap _,.refl _,.nil⟩ ?_) ?_))))
 .exact⟨Z3,Tv,Fh,Tv⟩
 intro⟨⟨i,s⟩,i1,i2,i3⟩;have Zc:s.length<=i:=by grind [SY,List.Perm.length_eq]
 refine Yi (fun h=>?_) (fun h=>?_)
 .skip
  have h:i<l.length:=by simp_all
  have hg:l[i]?=some l[i]:=Ge h;refine Xi (Ab l[i]) (Yi (Yi aa0 (by simp_all)) (Yi rfl ?_));refine Xi (Ab l[i]) (Yi (Yi aa0 (by simp_all)) (Yi rfl ?_));refine yN (Yi aa3 (Xi ⟨[(0,sl Ab l),(3,sl Ab s),(4,vi i),(5,.ref 5 0)],[(5,.cells (Ab (Ha l[i])))],Ae⟩ (Yi ?_ ?_)))
  .have e0:HO.cells [vi (max 0 l[i].1),vi (min 1000000 l[i].2)]=.cells (Ab (Ha l[i])):=by
    rw[Int.max_comm,Int.min_comm];rfl
   exact⟨Z4,⟨⟨e0,rfl⟩,Tv⟩,Fh,Tv⟩
  refine Yi (fun h3=>?_) (fun h3=>?_)
  .refine cU [(0,sl Ab l),(3,sl Ab s),(4,vi i)] [] Z3 Tv (Yi (by grind [As]) ?_);have e:=SX h (show ¬(Ha l[i]).1<(Ha l[i]).2 by omega);refine Xi ⟨(i+1,s),by omega,by simp_all,i3⟩ ?_;exact⟨by grind,Z3,Tv,Fh,Tv⟩
  have e:=Qg h (show(Ha l[i]).1<(Ha l[i]).2 by omega);refine Xi {k:Nat // k<=s.length/\∀j (hj:j<s.length),k<=j->(Ha l[i]).1<s[j].1} (Xi (fun k=>⟨[(0,sl Ab l),(3,sl Ab s),(4,vi i),(5,.ref 5 0),(6,vi k.1)],[(5,.cells (Ab (Ha l[i])))],Ae⟩) (Xi (fun k=>k.1) (Yi (Xi ⟨s.length,Ao _,fun j hj Hg=>by omega⟩ ?_) ?_)))
  .have e1:vi ((s.map Ab).length:Int)=vi (s.length:Int):=by simp_all
   exact⟨⟨Zr,Zr,Zr,Zr,⟨e1,rfl⟩,Tv⟩,Z1,Fh,Tv⟩
  intro⟨k,k1,k2⟩;refine Yi (fun h4=>?_) (fun h4=>?_)
  .have h4:(0:Int)<k:=h4;refine Yi (show As ((k:Int)-1) by grind [As]) ?_;have hk:k-1<s.length:=by omega
   have hg:s[k-1]?=some s[k-1]:=Ge hk;have hn:((k:Int)-1).toNat=k-1:=by omega
   refine Xi (Ab s[k-1]) (Yi (Yi aa0 (by simp_all)) (Yi rfl ?_));refine Yi (fun h5=>?_) (fun h5=>?_)
   .refine Yi aa3 (Yi (show As ((k:Int)-1) by grind [As]) ?_);have e1:vi ((k:Int)-1)=vi ((k-1:Nat):Int):=Aa vi aa0;refine Xi ⟨k-1,by omega,fun j hj Hg=>?_⟩ ?_
    .grind
    .exact⟨by grind,⟨Zr,Zr,Zr,Zr,⟨e1,rfl⟩,Tv⟩,Z1,Fh,Tv⟩
   have U2:k=0\/∃h:k-1<s.length,s[k-1].1<=(Ha l[i]).1:=.inr ⟨hk,by omega⟩;refine Yi aa3 (cU [(0,sl Ab l),(3,sl Ab s),(4,vi i),(5,.ref 5 0),(6,vi k)] [(5,.cells (Ab (Ha l[i])))] Z5 Z1 (Yi (show(0:Int)<=0/\(0:Int)<=k/\(k:Int)=k/\(k:Int)<=((s.map Ab).length:Nat) by simp_all) (Yi (MW s) (yN (Yi (show(0:Int)<=k/\(k:Int)<=((s.map Ab).length:Nat)/\(((s.map Ab).length:Nat):Int)<=((s.map Ab).length:Nat) by simp_all) (Yi (MW s) ?_))))));refine Yi (rv s (Ha l[i]) k aa0) (Yi (dj s (Ha l[i]) k k1 aa0) (Yi aa3 (Al (show ∃t,t=s.take k++([Ha l[i]]++s.drop k)from⟨_,rfl⟩) (fun t ht=>?_))));refine Xi ⟨[(0,sl Ab l),(3,sl Ab t),(4,vi i)],[],Ae⟩ (Yi ?_ ?_)
   .have e3:AV.slice .none (TN s k++([Ab (Ha l[i])]++NS s k))=sl Ab t:=by grind [AcT]
    exact⟨⟨Zr,⟨e3,rfl⟩,Zr,Tv⟩,Tv,Fh,Tv⟩
   refine Yi (by grind [As]) (Xi ⟨(i+1,t),by omega,by grind [lZ],by grind [TY]⟩ ?_);exact⟨Dl l.length i aa0,Z3,Tv,Fh,Tv⟩
  .have h4:¬(0:Int)<k:=h4;have U2:k=0\/∃h:k-1<s.length,s[k-1].1<=(Ha l[i]).1:=.inl aa0;refine Yi aa3 (cU [(0,sl Ab l),(3,sl Ab s),(4,vi i),(5,.ref 5 0),(6,vi k)] [(5,.cells (Ab (Ha l[i])))] Z5 Z1 (Yi (show(0:Int)<=0/\(0:Int)<=k/\(k:Int)=k/\(k:Int)<=((s.map Ab).length:Nat) by omega) (Yi (MW s) (yN (Yi (show(0:Int)<=k/\(k:Int)<=((s.map Ab).length:Nat)/\(((s.map Ab).length:Nat):Int)<=((s.map Ab).length:Nat) by omega) (Yi (MW s) ?_))))));refine Yi (rv s (Ha l[i]) k aa0) (Yi (dj s (Ha l[i]) k k1 aa0) (Yi aa3 (Al (show ∃t,t=s.take k++([Ha l[i]]++s.drop k)from⟨_,rfl⟩) (fun t ht=>?_))));refine Xi ⟨[(0,sl Ab l),(3,sl Ab t),(4,vi i)],[],Ae⟩ (Yi ?_ ?_)
   .have e3:AV.slice .none (TN s k++([Ab (Ha l[i])]++NS s k))=sl Ab t:=by grind
    exact⟨⟨Zr,⟨e3,rfl⟩,Zr,Tv⟩,Tv,Fh,Tv⟩
   refine Yi (Ii i aa0) (Xi ⟨(i+1,t),by omega,by grind,by show t.Pairwise _;rw[ht];exact TY s _ k i3 k2 U2⟩ ?_);exact⟨Dl l.length i aa0,Z3,Tv,Fh,Tv⟩
 .skip
  have h:¬i<l.length:=by simp_all
  have fin:(BE s).reverse=canon l:=LN (by grind) i3;refine cU [(3,sl Ab s)] [] Z1 Tv (Xi {p:Nat×AH // p.1<=s.length/\p.2=(BE (s.take p.1)).reverse} (Xi (fun p=>⟨[(3,sl Ab s),(7,.msl 63 p.1.2.length),(8,vi p.1.1)],[(63,G7 p.1.2)],Ae⟩) (Xi (fun p=>s.length-p.1.1) (Yi (Xi ⟨(0,[]),Ap _,rfl⟩ ?_) ?_))))
  .exact⟨Z3,Z1,Fh,Tv⟩
  intro⟨⟨j,A⟩,j1,hA⟩;have j1:j<=s.length:=j1;have hA:A=(BE (s.take j)).reverse:=hA;have hAl:A.length<=j:=by grind [On]
  refine Yi (fun h2=>?_) (fun h2=>?_)
  .have h2:(j:Int)<((s.map Ab).length:Int):=h2;have h2:j<s.length:=by simp_all
   have hgj:s[j]?=some s[j]:=Ge h2;refine cU [(3,sl Ab s),(7,.msl 63 A.length),(8,vi j),(9,vi A.length)] [(63,G7 A)] Z4 Z1 (Yi (fun h3=>?_) (fun h3=>?_))
   .have h3:(0:Int)<A.length:=h3;have tx:As ((A.length:Int)-1):=by grind [As]
    have hn:((A.length:Int)-1).toNat=A.length-1:=by omega
    have Y2:(0:Int)<=(A.length:Int)-1/\(A.length:Int)-1<(A.length:Int):=by omega
    have E1:A.length-1<A.length:=by omega
    have hg:A[A.length-1]?=some A[A.length-1]:=Ge E1;have vo:(A.map Ab)[((A.length:Int)-1).toNat]?=some (Ab A[A.length-1]):=by rw[hn];grind
    have hln:A.length=(A.map Ab).length:=by simp_all
    have ya:(0:Int)<=j/\(s.map Ab)[((j:Nat):Int).toNat]?=some (Ab s[j]):=⟨by omega,by simp_all⟩;refine Xi (Ab s[j]) (Yi ya (Yi rfl (Yi tx (Yi Y2 (Yi hln (Xi (Ab A[A.length-1]) (Yi vo (Yi (fun h4=>?_) (fun h4=>?_)))))))))
    .have h4:s[j].1<=A[A.length-1].2:=h4;refine Yi aa3 (cU [(3,sl Ab s),(7,.msl 63 A.length),(8,vi j),(9,vi A.length)] [(63,G7 A)] Z4 Z1 (Yi tx (Yi tx (Yi Y2 (Yi hln (Xi (Ab A[A.length-1]) (Yi vo (Xi (Ab s[j]) (Yi ya (Yi rfl (Yi Y2 (Yi hln (Xi (Ab A[A.length-1]) (Yi vo (yN (Yi aa3 (Al (show ∃B,B=A.set (A.length-1) (A[A.length-1].1,max A[A.length-1].2 s[j].2)from⟨_,rfl⟩) (fun B hB=>?_))))))))))))))))));have e2:HO.arr 2 ((A.map Ab).set ((A.length:Int)-1).toNat [vi A[A.length-1].1,vi (max A[A.length-1].2 s[j].2)])=G7 B:=by simp_all
     have e1:AV.msl 63 A.length=.msl 63 B.length:=by simp_all
     refine cU [(3,sl Ab s),(7,.msl 63 B.length),(8,vi j)] [(63,G7 B)] ⟨Zr,⟨e1,rfl⟩,Zr,Tv⟩ ⟨⟨e2,rfl⟩,Tv⟩ (Yi (Ii j aa0) (Xi ⟨(j+1,B),by omega,by rw[hB];exact gX h2 hA hg h4⟩ ?_));exact⟨by grind,Z3,Z1,Fh,Tv⟩
    have h4:¬s[j].1<=A[A.length-1].2:=h4;have hjn:A++[s[j]]=(BE (s.take (j+1))).reverse:=Zs h2 hA fun y hy=>by
     simp_all
    refine Yi aa3 (cU [(3,sl Ab s),(7,.msl 63 A.length),(8,vi j),(9,vi A.length)] [(63,G7 A)] Z4 Z1 (Xi (Ab s[j]) (Yi ya (Yi rfl (yN ?_)))));have CO:A7 2 [Ab s[j]]/\(A.map Ab).length=A.length/\((A.map Ab).length+[Ab s[j]].length)*16<=140737488355328/\(A.map Ab).length+[Ab s[j]].length<=9223372036854775807:=
     ⟨⟨rfl,trivial⟩,by omega,by rw[Lm,AO];omega,by rw[Lm,AO];omega⟩
    refine Yi CO (Al (show ∃B,B=A++[s[j]]from⟨_,rfl⟩) (fun B hB=>?_));have e1:AV.msl 63 ((A.map Ab).length+[Ab s[j]].length)=.msl 63 B.length:=by rw[hB];simp
    have e2:HO.arr 2 (A.map Ab++[Ab s[j]])=G7 B:=by rw[hB];simp
    refine cU [(3,sl Ab s),(7,.msl 63 B.length),(8,vi j)] [(63,G7 B)] ⟨Zr,⟨e1,rfl⟩,Zr,Tv⟩ ⟨⟨e2,rfl⟩,Tv⟩ (Yi (Ii j aa0) (Xi ⟨(j+1,B),by omega,by simp_all⟩ ?_));exact⟨by grind,Z3,Z1,Fh,Tv⟩
   .have h3:¬(0:Int)<A.length:=h3;have ya:(0:Int)<=j/\(s.map Ab)[((j:Nat):Int).toNat]?=some (Ab s[j]):=⟨by omega,by simp_all⟩;have hjn:A++[s[j]]=(BE (s.take (j+1))).reverse:=Zs h2 hA fun y hy=>by
     simp_all
    refine Yi aa3 (cU [(3,sl Ab s),(7,.msl 63 A.length),(8,vi j),(9,vi A.length)] [(63,G7 A)] Z4 Z1 (Xi (Ab s[j]) (Yi ya (Yi rfl (yN ?_)))));have CO:A7 2 [Ab s[j]]/\(A.map Ab).length=A.length/\((A.map Ab).length+[Ab s[j]].length)*16<=140737488355328/\(A.map Ab).length+[Ab s[j]].length<=9223372036854775807:=
     ⟨⟨rfl,trivial⟩,by simp_all,by simp_all,by simp_all⟩
    refine Yi CO (Al (show ∃B,B=A++[s[j]]from⟨_,rfl⟩) (fun B hB=>?_));have e1:AV.msl 63 ((A.map Ab).length+[Ab s[j]].length)=.msl 63 B.length:=by grind
    have e2:HO.arr 2 (A.map Ab++[Ab s[j]])=G7 B:=by grind
    refine cU [(3,sl Ab s),(7,.msl 63 B.length),(8,vi j)] [(63,G7 B)] ⟨Zr,⟨e1,rfl⟩,Zr,Tv⟩ ⟨⟨e2,rfl⟩,Tv⟩ (Yi (Ii j aa0) (Xi ⟨(j+1,B),by omega,by grind⟩ ?_));exact⟨by grind,Z3,Z1,Fh,Tv⟩
  .have h2:¬(j:Int)<((s.map Ab).length:Int):=h2;have h2:¬j<s.length:=by simp_all
   refine Yi (by simp_all) ?_;exact .of_eq (Aa (sl Ab) (show A=canon l by grind))
theorem pp:vK:=bc
abbrev JI(A:AH):AV:=.slice (.id d 2) (A.map Ab)
theorem jV(hs:BL s):PC 204 [sl Ab s] (sl Ab (BU s)):=by
 have hc:=bc s hs;have hC:BU s=GO 0 (canon s):=rfl;have hn:(canon s).length<=1000000:=E6 (BG s);obtain⟨C,eC⟩:∃C,C=canon s:=⟨_,rfl⟩;rw[<-eC]at hc hC hn;refine Ps (Dw [2,6,9,12]) Tryz.func204 rfl (Nz rfl) (Xi .pure (Xi _ (Yi (hc) (cU [(3,sl Ab C)] [] Z1 Tv (Xi {p:Nat×Int×AH // p.1<=C.length/\p.2.2.length<=p.1/\p.2.2++GO p.2.1 (C.drop p.1)=GO 0 C} (Xi (fun p=>⟨[(3,sl Ab C),(4,JI 9 p.1.2.2),(5,vi p.1.2.1),(6,vi p.1.1)],[(9,.tok 2 p.1.2.2.length)],Ae⟩) (Xi (fun p=>C.length-p.1.1) (Yi (Xi ⟨(0,0,[]),Ap _,Ap _,rfl⟩ ?_) ?_))))))))
 .exact⟨Z4,Z1,Fh,Tv⟩
 intro⟨⟨i,z,A⟩,i1,i2,i3⟩;have i1:i<=C.length:=i1;have i2:A.length<=i:=i2;have i3:A++GO z (C.drop i)=GO 0 C:=i3;refine Yi (fun h=>?_) (fun h=>?_)
 .skip
  have h:(i:Int)<(C.map Ab).length:=h;have h:i<C.length:=by simp_all
  have hg:C[i]?=some C[i]:=Ge h;refine Xi (Ab C[i]) (Yi (Yi aa0 (by simp_all)) (Yi rfl ?_));rw[Ba h]at i3;refine Yi (fun h2=>?_) (fun h2=>?_)
  .have h2:z<C[i].1:=h2;refine Xi (Ab C[i]) (Yi (Yi aa0 (by simp_all)) (Yi rfl ?_));have CO:A7 2 [Ab (z,C[i].1)]/\(A.map Ab).length=A.length/\((A.map Ab).length+[Ab (z,C[i].1)].length)*16<=140737488355328/\(A.map Ab).length+[Ab (z,C[i].1)].length<=9223372036854775807:=
    ⟨⟨rfl,trivial⟩,by simp_all,by grind,by grind⟩
   refine Yi CO (Al (show ∃B,B=A++[(z,C[i].1)]from⟨_,rfl⟩) (fun B hB=>?_));have e1:AV.slice (.id 9 2) (A.map Ab++[Ab (z,C[i].1)])=JI 9 B:=by simp_all
   have e2:HO.tok 2 ((A.map Ab).length+[Ab (z,C[i].1)].length)=.tok 2 B.length:=by simp_all
   refine cU [(3,sl Ab C),(4,JI 9 B),(5,vi z),(6,vi i)] [(9,.tok 2 B.length)] ⟨Zr,⟨e1,rfl⟩,Zr,Zr,Tv⟩ ⟨⟨e2,rfl⟩,Tv⟩ (Xi (Ab C[i]) (Yi (Yi aa0 (by simp_all)) (Yi rfl ?_)));refine cU [(3,sl Ab C),(4,JI 9 B),(5,vi C[i].2),(6,vi i)] [(9,.tok 2 B.length)] Z4 Z1 (Yi (by grind [As]) (Xi ⟨(i+1,C[i].2,B),by omega,by simp_all,by grind [GO]⟩ ?_));exact⟨Dl C.length i aa0,Z4,Z1,Fh,Tv⟩
  have h2:¬z<C[i].1:=h2;refine cU [(3,sl Ab C),(4,JI 9 A),(5,vi z),(6,vi i)] [(9,.tok 2 A.length)] Z4 Z1 (Xi (Ab C[i]) (Yi (Yi aa0 (by simp_all)) (Yi rfl ?_)));refine cU [(3,sl Ab C),(4,JI 9 A),(5,vi C[i].2),(6,vi i)] [(9,.tok 2 A.length)] Z4 Z1 (Yi (by grind [As]) (Xi ⟨(i+1,C[i].2,A),by omega,by grind,by grind [GO]⟩ ?_));exact⟨Dl C.length i aa0,Z4,Z1,Fh,Tv⟩
 .skip
  have h:¬(i:Int)<(C.map Ab).length:=h;have h:¬i<C.length:=by simp_all
  rw[D0 aa0,GO]at i3;refine Yi (fun h2=>?_) (fun h2=>?_)
  .have h2:z<1000000:=h2;have CO:A7 2 [Ab (z,1000000)]/\(A.map Ab).length=A.length/\((A.map Ab).length+[Ab (z,1000000)].length)*16<=140737488355328/\(A.map Ab).length+[Ab (z,1000000)].length<=9223372036854775807:=
    ⟨⟨rfl,trivial⟩,by simp_all,by grind,by grind⟩
   refine Yi CO (Al (show ∃B,B=A++[(z,(1000000:Int))]from⟨_,rfl⟩) (fun B hB=>?_));have e1:AV.slice (.id 9 2) (A.map Ab++[Ab (z,1000000)])=JI 9 B:=by grind
   have e2:HO.tok 2 ((A.map Ab).length+[Ab (z,1000000)].length)=.tok 2 B.length:=by grind
   refine cU [(4,JI 9 B)] [(9,.tok 2 B.length)] ⟨⟨e1,rfl⟩,Tv⟩ ⟨⟨e2,rfl⟩,Tv⟩ ?_
   exact .of_eq (show sl Ab B=sl Ab (BU s) by simp_all)
  .have h2:¬z<1000000:=h2;refine cU [(4,JI 9 A)] [(9,.tok 2 A.length)] Z1 Z1 ?_
   exact .of_eq (show sl Ab A=sl Ab (BU s) by simp_all)
theorem gq(h:i<l.length):(l.take (i+1)).flatten=(l.take i).flatten++l[i]/\((l.take i).flatten++l[i]).length<=l.flatten.length:=by
 grind [List.take_add_one,List.take_append_drop]
theorem oK(hl:BL l)(hf:BL l.flatten):PC 207 [sl CP l] (sl Ab (JK l)):=by
 have hc:=bc l.flatten hf;have hl:l.length<=1073741824:=hl;have hf:l.flatten.length<=1073741824:=hf;refine Ps (Dw [4,6]) Tryz.func207 rfl (Nz rfl) (Xi {p:Nat×AH // p.1<=l.length/\p.2=(l.take p.1).flatten} (Xi (fun p=>⟨[(0,sl CP l),(3,JI 5 p.1.2),(4,vi p.1.1)],[(5,.tok 2 p.1.2.length)],Ae⟩) (Xi (fun p=>l.length-p.1.1) (Yi (Xi ⟨(0,[]),Ap _,rfl⟩ ?_) ?_))))
 .exact⟨Z3,Z1,Fh,Tv⟩
 intro⟨⟨i,A⟩,i1,i2⟩;have i1:i<=l.length:=i1;have i2:A=(l.take i).flatten:=i2;refine Yi (fun h=>?_) (fun h=>?_)
 .skip
  have h:(i:Int)<(l.map CP).length:=h;have h:i<l.length:=by simp_all
  have hg:l[i]?=some l[i]:=Ge h;refine Xi (CP l[i]) (Yi (Yi aa0 (by simp_all)) (Yi rfl ?_));have ht:=gq l i h;rw[<-i2]at ht;have yb:=ht.2;rw[Ay]at yb;have CO:A7 2 (l[i].map Ab)/\(A.map Ab).length=A.length/\((A.map Ab).length+(l[i].map Ab).length)*16<=140737488355328/\(A.map Ab).length+(l[i].map Ab).length<=9223372036854775807:=
   ⟨Je (MW _),by grind,by grind,by grind⟩
  refine Yi CO (Al (show ∃B,B=A++l[i]from⟨_,rfl⟩) (fun B hB=>?_));have e1:AV.slice (.id 5 2) (A.map Ab++l[i].map Ab)=JI 5 B:=by simp_all
  have e2:HO.tok 2 ((A.map Ab).length+(l[i].map Ab).length)=.tok 2 B.length:=by simp_all
  refine cU [(0,sl CP l),(3,JI 5 B),(4,vi i)] [(5,.tok 2 B.length)] ⟨Zr,⟨e1,rfl⟩,Zr,Tv⟩ ⟨⟨e2,rfl⟩,Tv⟩ (Yi (Ii i aa0) (Xi ⟨(i+1,B),by omega,by simp_all⟩ ?_));exact⟨by grind,Z3,Z1,Fh,Tv⟩
 .skip
  have h:¬(i:Int)<(l.map CP).length:=h;have h:¬i<l.length:=by simp_all
  have eA:A=l.flatten:=by grind
  rw[<-eA]at hc;refine cU [(3,JI 5 A)] [(5,.tok 2 A.length)] Z1 Z1 (Xi .pure (Xi _ (Yi (hc) ?_)));exact .of_eq (show sl Ab (canon A)=sl Ab (JK l) by rw[eA];rfl)
theorem AaE:PC 265 [] (sl Ab [(0,1000000)]):=by
 refine Ps De Tryz.func265 rfl (Nz rfl) ?_;exact .refl _
theorem vZ(n:Int):PC 203 [vi n] (sl Ab (canon [(n,1000000)])):=by
 have hc:=bc [(n,1000000)] (by simp_all);refine Ps De Tryz.func203 rfl (Nz rfl) (Xi .pure (Xi _ (Yi (hc) ?_)));exact .refl _
abbrev re(A:List AH):AV:=.slice (.id d 1) (A.map CP)
theorem we(hl:BL l)(hs:∀s∈l,BL s)(hf:BL (l.map BU).flatten):PC 236 [sl CP l] (sl Ab (MC l)):=by
 have hc:=oK (l.map BU) (by simp_all) hf;have hu:BL (JK (l.map BU)):=by
  grind [E6,LK]
 have hd:=jV (JK (l.map BU)) hu;have hl:l.length<=1073741824:=hl;refine Ps (Dw [4,6]) Tryz.func236 rfl (Nz rfl) (Xi {p:Nat×List AH // p.1<=l.length/\p.2=(l.take p.1).map BU} (Xi (fun p=>⟨[(0,sl CP l),(3,re 5 p.1.2),(4,vi p.1.1)],[(5,.tok 1 p.1.2.length)],Ae⟩) (Xi (fun p=>l.length-p.1.1) (Yi (Xi ⟨(0,[]),Ap _,rfl⟩ ?_) ?_))))
 .exact⟨Z3,Z1,Fh,Tv⟩
 intro⟨⟨i,A⟩,i1,i2⟩;have i1:i<=l.length:=i1;have i2:A=(l.take i).map BU:=i2;have hA:A.length<=i:=by simp_all
 refine Yi (fun h=>?_) (fun h=>?_)
 .skip
  have h:(i:Int)<(l.map CP).length:=h;have h:i<l.length:=by simp_all
  have hg:l[i]?=some l[i]:=Ge h;refine Xi (CP l[i]) (Yi (Yi aa0 (by simp_all)) (Yi rfl ?_));refine Xi .pure (Xi _ (Yi (jV l[i] (hs _ (Ak h))) ?_));have CO:A7 1 [CP (BU l[i])]/\(A.map CP).length=A.length/\((A.map CP).length+[CP (BU l[i])].length)*24<=140737488355328/\(A.map CP).length+[CP (BU l[i])].length<=9223372036854775807:=
   ⟨⟨rfl,trivial⟩,by simp_all,by grind,by grind⟩
  refine Yi CO (Al (show ∃B,B=A++[BU l[i]]from⟨_,rfl⟩) (fun B hB=>?_));have e1:AV.slice (.id 5 1) (A.map CP++[CP (BU l[i])])=re 5 B:=by simp_all
  have e2:HO.tok 1 ((A.map CP).length+[CP (BU l[i])].length)=.tok 1 B.length:=by simp_all
  refine cU [(0,sl CP l),(3,re 5 B),(4,vi i)] [(5,.tok 1 B.length)] ⟨Zr,⟨e1,rfl⟩,Zr,Tv⟩ ⟨⟨e2,rfl⟩,Tv⟩ (Yi (by grind [As]) (Xi ⟨(i+1,B),by omega,by grind [List.take_add_one]⟩ ?_));exact⟨Dl l.length i aa0,Z3,Z1,Fh,Tv⟩
 .skip
  have h:¬(i:Int)<(l.map CP).length:=h;have h:¬i<l.length:=by simp_all
  have eA:A=l.map BU:=by grind
  rw[<-eA]at hc hd;refine cU [(3,re 5 A)] [(5,.tok 1 A.length)] Z1 Z1 (Xi .pure (Xi _ (Yi (hc) (Xi .pure (Xi _ (Yi (hd) ?_))))));exact .of_eq (show sl Ab (BU (JK A))=sl Ab (MC l) by
   rw[eA];exact Aa (sl Ab) (Xb _))
theorem KA:(BU s).length<=1000000:=E6 (GP s)
theorem Aa8(a b:AH)(ha:BL a)(hb:BL b):PC 202 [sl Ab a,sl Ab b] (sl Ab (Uc a b)):=by
 have h1:=jV b hb;have h2:=KA b;have h3:=KA a;have h4:=KA (BU b);have hc:=we [a,BU b] (by simp_all) (fun s hs=>by
  grind) (by
  grind)
 refine Ps De Tryz.func202 rfl (Nz rfl) (Xi .pure (Xi _ (Yi (h1) (Xi .pure (Xi _ (Yi (hc) ?_))))));exact .refl _
theorem sI(s:ByteArray):PC 175 [vs s] (vb (Ei s)):=by
 refine Ps De Tryz.func175 rfl (Nz rfl) (Yi (fun h=>?_) (fun h=>?_))
 .exact .of_eq (Aa vb (show true=Ei s by grind [Ei]))
 refine Yi (fun h2=>?_) (fun h2=>?_)
 .exact .of_eq (Aa vb (show true=Ei s by grind [Ei]))
 exact .of_eq (Aa vb (show false=Ei s by grind [Ei]))
def MH:Nat->Int
 |0=>v.a
 |1=>v.b
 |_=>v.c
abbrev cV:List (List AV):=[[vi v.a],[vi v.b],[vi v.c]]
theorem PN(h:i<3):(cV v)[((i:Nat):Int).toNat]?=some [vi (MH v i)]:=by
 rw[FI]
 match i,h with
 |0,_=>rfl
 |1,_=>rfl
 |2,_=>rfl
theorem ki(hi:i<3)(h:∀j,j<i->MH a j=MH b j)(hl:MH a i<MH b i):I6 a b=-1:=by
 match i,hi,h,hl with
 |0,_,h,hl=>
  have hl:a.a<b.a:=hl
  grind [I6,Gd]
 |1,_,h,hl=>
  have hl:a.b<b.b:=hl;have h0:a.a=b.a:=h 0 aa0
  grind [I6,Gd]
 |2,_,h,hl=>
  have hl:a.c<b.c:=hl;have h0:a.a=b.a:=h 0 aa0;have h1:a.b=b.b:=h 1 aa0
  grind [I6,Gd]
theorem kh(hi:i<3)(h:∀j,j<i->MH a j=MH b j)(hl:MH b i<MH a i):I6 a b=1:=by
 match i,hi,h,hl with
 |0,_,h,hl=>
  have hl:b.a<a.a:=hl
  grind [I6,Gd]
 |1,_,h,hl=>
  have hl:b.b<a.b:=hl;have hn:¬a.b<b.b:=by omega
  have h0:a.a=b.a:=h 0 aa0
  grind [I6,Gd]
 |2,_,h,hl=>
  have hl:b.c<a.c:=hl;have hn:¬a.c<b.c:=by omega
  have h0:a.a=b.a:=h 0 aa0;have h1:a.b=b.b:=h 1 aa0
  grind [I6,Gd]
theorem kg(h:∀j,j<3->MH a j=MH b j):I6 a b=0:=by
 have h0:a.a=b.a:=h 0 aa0;have h1:a.b=b.b:=h 1 aa0;have h2:a.c=b.c:=h 2 aa0
 grind [I6,Gd]
theorem Aas:PC 176 [.agg (ES a),.agg (ES b)] (vi (I6 a b)):=by
 refine Ps (Dw []) Tryz.func176 rfl (Nz rfl) (Xi {i:Nat // i<=3/\∀j,j<i->MH a j=MH b j} (Xi (fun i=>⟨[(5,.slice (.id 14 1) (cV a)),(6,.slice (.id 21 1) (cV b)),(7,vi i.1)],[(14,.tok 1 3),(21,.tok 1 3)],Ae⟩) (Xi (fun i=>3-i.1) (Yi (Xi ⟨0,Ap _,fun j h=>by omega⟩ ?_) ?_))))
 .exact⟨Z3,Z2,Fh,Tv⟩
 intro⟨i,i1,i2⟩;refine Yi (fun h=>?_) (fun h=>?_)
 .have h:(i:Int)<3:=h;have h:i<3:=by omega
  refine Xi [vi (MH a i)] (Yi (Yi aa0 (PN a i h)) (Yi rfl (Xi [vi (MH b i)] (Yi (Yi aa0 (PN b i h)) (Yi rfl (Yi (fun h2=>?_) (fun h2=>?_)))))))
  .refine Yi aa3 ?_;exact .of_eq (Aa vi (ki a b i h i2 h2).symm)
  refine Yi aa3 (Xi [vi (MH a i)] (Yi (Yi aa0 (PN a i h)) (Yi rfl (Xi [vi (MH b i)] (Yi (Yi aa0 (PN b i h)) (Yi rfl (Yi (fun h3=>?_) (fun h3=>?_))))))))
  .refine Yi aa3 ?_;exact .of_eq (Aa vi (kh a b i h i2 h3).symm)
  refine Yi aa3 (Yi (by grind [As]) (Xi ⟨i+1,by omega,fun j hj=>?_⟩ ?_))
  .grind
  exact⟨by grind,Z3,Z2,Fh,Tv⟩
 .have h:¬(i:Int)<3:=h;exact .of_eq (Aa vi (kg a b fun j hj=>i2 j aa0).symm)
theorem Aa6(a b:Rl):PC 122 [.agg (Am a),.agg (Am b)] (vi (IA a b)):=by
 have hc:=Aas a.ver b.ver;refine Ps De Tryz.func122 rfl (Nz rfl) (Yi (fun h=>?_) (fun h=>?_))
 .exact .of_eq (Aa vi (show(-1:Int)=IA a b by grind [IA,Lc,Ew]))
 refine Yi (fun h2=>?_) (fun h2=>?_)
 .exact .of_eq (Aa vi (show(1:Int)=IA a b by grind [IA,Lc,Ew]))
 refine Yi (Nz rfl) (yN (Xi .pure (Xi _ (Yi (hc) ?_))));exact .of_eq (Aa vi (show I6 a.ver b.ver=IA a b by grind [IA,Lc,Ew]))
theorem Aa5(r:Rl)(hr:E4 r):PC 121 [.agg (Am r)] (vi (CL r)):=by
 have h1:=kS r.path hr.1;have h2:=wd r.ver;have h3:=c68 kS pp r.reqs hr.2;have h4:=sI r.arch;have h5:=sI r.ifc;have h6:=sI r.cert;obtain⟨N,hN⟩:∃N,N=CL r:=⟨_,rfl⟩;rw[<-hN];refine Ps De Tryz.func121 rfl (Nz rfl) (Xi .pure (Xi _ (Yi (h1) (Yi (fun h=>?_) (fun h=>?_)))))
 .exact .of_eq (Aa vi (show(4:Int)=N by
   grind [ZB,CL]))
 refine Al (show ∃m,Bj r.path=some m by
  grind) (fun m hp=>?_)
 have em:il r.path=m:=by grind
 have hN:N=if !BK r.ver||!decide (r.ver.a=m)then 2 else if AL r.reqs≠0 then AL r.reqs else if Ei r.arch&&Ei r.ifc&&Ei r.cert then 0 else 1:=by
  grind [CL]
 refine yN (AA (Bt (BK r.ver)).symm (fun e=>?_) (fun e=>?_))
 .rw[e]at h2;refine Xi .pure (Xi _ (Yi (h2) ?_));exact .of_eq (Aa vi (show(2:Int)=N by simp_all))
 rw[e]at h2;refine Xi .pure (Xi _ (Yi (h2) (Yi (fun h7=>?_) (fun h7=>?_))))
 .exact .of_eq (Aa vi (show(2:Int)=N by simp_all))
 have hN:N=if AL r.reqs≠0 then AL r.reqs else if Ei r.arch&&Ei r.ifc&&Ei r.cert then 0 else 1:=by
  simp_all
 refine Xi .pure (Xi _ (Yi (h3) (Yi (fun h8=>?_) (fun h8=>?_))))
 .exact .of_eq (Aa vi (show AL r.reqs=N by omega))
 have hN:N=if Ei r.arch&&Ei r.ifc&&Ei r.cert then 0 else 1:=by omega
 refine AA (Bt (Ei r.arch)).symm (fun e1=>?_) (fun e1=>?_)
 .rw[e1]at h4;refine Xi .pure (Xi _ (Yi (h4) ?_));exact .of_eq (Aa vi (show(1:Int)=N by simp_all))
 rw[e1]at h4;refine Xi .pure (Xi _ (Yi (h4) (AA (Bt (Ei r.ifc)).symm (fun e2=>?_) (fun e2=>?_))))
 .rw[e2]at h5;refine Xi .pure (Xi _ (Yi (h5) ?_));exact .of_eq (Aa vi (show(1:Int)=N by simp_all))
 rw[e2]at h5;refine Xi .pure (Xi _ (Yi (h5) (AA (Bt (Ei r.cert)).symm (fun e3=>?_) (fun e3=>?_))))
 .rw[e3]at h6;refine Xi .pure (Xi _ (Yi (h6) ?_));exact .of_eq (Aa vi (show(1:Int)=N by simp_all))
 rw[e3]at h6;refine Xi .pure (Xi _ (Yi (h6) ?_));exact .of_eq (Aa vi (show(0:Int)=N by simp_all))
theorem Yu{a b:Rl}(h:Cq a=Cq b):IA a b=0:=by
 grind [Wa,IA,Lc,I6,Gd,DQ]
theorem uV(x:List Rl)(ifs:List (List AV))(hs:∀r∈x,E4 r):PC 71 [Il x ifs] (vi (Av x)):=by
 refine Ps (Dw []) Tryz.func71 rfl (Nz rfl) (Al (show ∃N,N=Av x from⟨_,rfl⟩) (fun N hN=>?_));refine Yi (fun h=>?_) (fun h=>?_)
 .exact .of_eq (Aa vi (show(7:Int)=Av x by grind [Av]))
 have hl:x.length<=256:=by grind
 have TM:Av x=B5 none x:=by grind [Av]
 refine Xi {i:Nat // i<=x.length/\B5 none x=B5 (W3 x i) (x.drop i)} (Xi (fun i=>⟨[(3,sl Am x),(4,vi i.1)],[],Ae⟩) (Xi (fun i=>x.length-i.1) (Yi (Xi ⟨0,Ap _,rfl⟩ ?_) ?_)))
 .exact⟨Z2,Tv,Fh,Tv⟩
 intro⟨i,h1,h2⟩;refine Yi (fun h=>?_) (fun h=>?_)
 .skip
  have h:i<x.length:=by simp_all
  have hg:x[i]?=some x[i]:=Ge h;have hd:x.drop i=x[i]::x.drop (i+1):=Ba h;have hc:=Aa5 x[i] (hs x[i] (Ak h));have IE:B5 none x=if CL x[i]≠0 then CL x[i]else match W3 x i with
   |none=>B5 (some x[i]) (x.drop (i+1))
   |some b=>if Cq b=Cq x[i]then 5 else if 0<IA b x[i]then 1 else B5 (some x[i]) (x.drop (i+1)):=by rw[h2,hd];rfl
  have rQ:W3 x (i+1)=some x[i]:=Ge h;refine Xi (Am x[i]) (Yi (Yi aa0 (by grind)) (Yi rfl (yN (Xi .pure (Xi _ (Yi (hc) (Yi (fun h3=>?_) (fun h3=>?_))))))))
  .exact .of_eq (Aa vi (show CL x[i]=Av x by omega))
  rw[AI h3]at IE;refine Yi (fun h4=>?_) (fun h4=>?_)
  .have h4:(0:Int)<i:=h4;have hk:i-1<x.length:=by omega
   have dQ:x[i-1]?=some x[i-1]:=Ge hk;have hn:((i:Int)-1).toNat=i-1:=by omega
   have hb:W3 x i=some x[i-1]:=by
    grind
   rw[hb]at IE;have IE:B5 none x=if Cq x[i-1]=Cq x[i]then 5 else if 0<IA x[i-1] x[i]then 1 else B5 (some x[i]) (x.drop (i+1)):=IE
   have rG:=Aa6 x[i-1] x[i];have Oa:(0:Int)<=(i:Int)-1/\(x.map Am)[((i:Int)-1).toNat]?=some (Am x[i-1]):=⟨by omega,by rw[hn];grind⟩;refine Yi (show As ((i:Int)-1) by unfold As;omega) (Xi (Am x[i-1]) (Yi Oa (Yi rfl (yN (Xi (Am x[i]) (Yi (Yi aa0 (by simp[hg])) (Yi rfl ?_)))))));refine yN (Xi _ (Yi (rG) (Yi (fun h5=>?_) (fun h5=>?_))))
   .have h5:IA x[i-1] x[i]=0:=h5;refine Yi aa3 ?_;exact .of_eq (Aa vi (show(5:Int)=Av x by rw[TM,IE,AX (VP h5)]))
   have h5:¬IA x[i-1] x[i]=0:=h5;refine Yi aa3 (Yi (fun _=>?_) (fun h9=>absurd h4 h9));refine Yi (show As ((i:Int)-1) by unfold As;omega) (Xi (Am x[i-1]) (Yi Oa (Yi rfl (yN (Xi (Am x[i]) (Yi (Yi aa0 (by simp[hg])) (Yi rfl ?_)))))));refine yN (Xi _ (Yi (rG) (Yi (fun h6=>?_) (fun h6=>?_))))
   .have h6:0<IA x[i-1] x[i]:=h6;refine Yi aa3 ?_;exact .of_eq (Aa vi (show(1:Int)=Av x by rw[TM,IE,AI (fun e=>h5 (Yu e)),AX h6]))
   have h6:¬0<IA x[i-1] x[i]:=h6;refine Yi aa3 (Yi (Ii i aa0) (Xi ⟨i+1,by omega,by rw[IE,AI (fun e=>h5 (Yu e)),AI h6,rQ]⟩ ?_));exact⟨Dl x.length i aa0,Z2,Tv,Fh,Tv⟩
  have h4:¬(0:Int)<i:=h4;have hb:W3 x i=none:=by
   grind
  rw[hb]at IE;have IE:B5 none x=B5 (some x[i]) (x.drop (i+1)):=IE;refine Yi aa3 (Yi (fun h9=>absurd h9 h4) (fun _=>?_));refine Yi aa3 (Yi (by grind [As]) (Xi ⟨i+1,by omega,by grind⟩ ?_));exact⟨by grind,Z2,Tv,Fh,Tv⟩
 .skip
  have h:¬(i:Int)<(x.map Am).length:=h;have h:¬i<x.length:=by simp_all
  have e:(0:Int)=Av x:=by rw[TM,h2,HF aa0];rfl
  exact .of_eq (Aa vi e)
theorem zg(x:List Rl)(ifs:List (List AV))(roots:List Rq)(hs:∀r∈x,E4 r)(hq:∀q∈roots,HP q):PC 102 [Il x ifs,sl Ac roots] (vb (decide (Av x=0)&&decide (AL roots=0))):=by
 have h1:=uV x ifs hs;have h2:=c68 kS pp roots hq;refine Ps De Tryz.func102 rfl (Nz rfl) (yN (Xi .pure (Xi _ (Yi (h1) (Yi (fun h=>?_) (fun h=>?_))))))
 .have h:Av x=0:=h;refine Xi .pure (Xi _ (Yi (h2) (Yi (fun h3=>?_) (fun h3=>?_))))
  .have h3:AL roots=0:=h3;exact .of_eq (Aa vb (show true=_ by simp_all))
  .have h3:¬AL roots=0:=h3;exact .of_eq (Aa vb (show false=_ by simp_all))
 .have h:¬Av x=0:=h;exact .of_eq (Aa vb (show false=_ by simp_all))
theorem wg:PC 237 [.agg (Ad t)] (vb (!t.absent&&decide (t.set=[]))):=by
 refine Ps De Tryz.func237 rfl (Nz rfl) (Yi (fun h=>?_) (fun h=>?_))
 .have h:t.absent=true:=h;exact .of_eq (Aa vb (show false=_ by simp_all))
 have h:t.absent=false:=h;refine Yi (fun h2=>?_) (fun h2=>?_)
 .have h2:((t.set.map Ab).length:Int)=0:=h2;have h2:t.set=[]:=Aw (by simp_all);exact .of_eq (Aa vb (show true=_ by simp_all))
 .have h2:¬((t.set.map Ab).length:Int)=0:=h2;have h2:¬t.set=[]:=fun e=>h2 (by simp_all);exact .of_eq (Aa vb (show false=_ by simp_all))
theorem wh(ht:BL t.set):PC 238 [.agg (Ad t)] (vb (t.absent&&decide (t.set=[(0,1000000)]))):=by
 have hc:=c75 t.set [(0,1000000)] ht;refine Ps De Tryz.func238 rfl (Nz rfl) (Yi (fun h=>?_) (fun h=>?_))
 .have h:t.absent=true:=h;refine Xi _ (Yi (AaE) (Xi _ (Yi (hc) (Yi aa3 ?_))));exact .of_eq (Aa vb (show decide (t.set=[(0,1000000)])=_ by simp_all))
 .have h:t.absent=false:=h;refine Yi aa3 ?_;exact .of_eq (Aa vb (show false=_ by simp_all))
theorem vY(hq:BL q.set):PC 201 [.agg (Ac q)] (.agg (Ad ⟨q.path,true,BU q.set⟩)):=by
 have hc:=jV q.set hq;refine Ps De Tryz.func201 rfl (Nz rfl) (Xi _ (Yi (hc) (yN (Yi aa3 (yN ?_)))));exact .refl _
theorem I5(l:List Tm)(hl:BL l)(p:ByteArray):PC 206 [sl Ad l,vs p] (match l.find? (fun t=>decide (t.path=p))with | some t=>.tup [.agg (Ad t),vb true] | none=>.tup [.agg [vs ⟨#[]⟩,vb false,nzA],vb false]):=by
 have hl:l.length<=1073741824:=hl;obtain⟨R,hR⟩:∃R,R=(match l.find? (fun t=>decide (t.path=p))with | some t=>AV.tup [.agg (Ad t),vb true] | none=>.tup [.agg [vs ⟨#[]⟩,vb false,nzA],vb false]):=⟨_,rfl⟩;rw[<-hR];refine Ps De Tryz.func206 rfl (Nz rfl) (Xi {i:Nat // i<=l.length/\∀j (hj:j<l.length),j<i->l[j].path≠p} (Xi (fun i=>⟨[(0,sl Ad l),(1,vs p),(4,.ref 4 0),(6,vi i.1)],[(4,.cells [vs ⟨#[]⟩,vb false,nzA])],Ae⟩) (Xi (fun i=>l.length-i.1) (Yi (Xi ⟨0,Ap _,fun j _ h=>by omega⟩ ?_) ?_))))
 .exact⟨Z4,Z1,Fh,Tv⟩
 intro⟨i,h1,h2⟩;refine Yi (fun h=>?_) (fun h=>?_)
 .skip
  have h:(i:Int)<(l.map Ad).length:=h;have h:i<l.length:=by simp_all
  have hg:l[i]?=some l[i]:=Ge h;refine Xi (Ad l[i]) (Yi (Yi aa0 (by simp_all)) (Yi rfl ?_));refine Yi (fun h3=>?_) (fun h3=>?_)
  .have h3:l[i].path=p:=h3;refine Xi (Ad l[i]) (Yi (Yi aa0 (by simp_all)) (Yi rfl ?_));refine Yi (Nz rfl) (yN ?_);have ef:l.find? (fun t=>decide (t.path=p))=some l[i]:=by
    grind [List.find?_eq_some_iff_getElem]
   refine yN ?_;exact .of_eq (show AV.tup [.agg (Ad l[i]),vb true]=R by simp_all)
  have h3:¬l[i].path=p:=h3;refine Yi (by grind [As]) (Xi ⟨i+1,by omega,fun j hj Hg=>?_⟩ ?_)
  .grind
  exact⟨by grind,Z4,Z1,Fh,Tv⟩
 .skip
  have h:¬(i:Int)<(l.map Ad).length:=h;have h:¬i<l.length:=by simp_all
  have ef:l.find? (fun t=>decide (t.path=p))=none:=by
   grind [List.getElem_of_mem]
  refine yN (yN ?_);exact .of_eq (show AV.tup [.agg [vs ⟨#[]⟩,vb false,nzA],vb false]=R by simp_all)
end Go.Eng
