/- Lemmas 21. -/
import Derived.Test.YtkjhcikodmiceaaGreatDoorMA20
namespace Go.Eng
open Go.Proofs Go.Proofs.Tryz
variable {n m:Int}{j:Nat}{A:AN}(s:AN)(a:Ver)(l:List AN)(q:Rq)(x:Int×Int)(v:Ver)(d:Nat)(t:Tm)(p:CS)(b:Ver)(i k:Nat)
theorem cR{s:List UInt8}(h:Gx s=some n):0<=n:=by
 cases s with
 |nil=>grind [Gx]
 |cons c r=>
  have h:(if c=118 then(if(r.isEmpty||decide (3<r.length)||(decide (1<r.length)&&decide (r.headD 0=48))||!r.all Cu)=true then none else some (D7 r))else none)=some n:=h
  by_cases hc:c=118
  .rw[A1 hc]at h
   by_cases hb:(r.isEmpty||decide (3<r.length)||(decide (1<r.length)&&decide (r.headD 0=48))||!r.all Cu)=true
   .grind
   .rw[AL hb]at h;have ha:r.all Cu=true:=by
     simp_all
    rw[<-D5 h]
    suffices hh:∀i,i<=r.length->0<=D7 (r.take i) by
     grind [List.take_length]
    intro i
    induction i with
    |zero=>intro _;exact B4 _
    |succ i ih=>
     grind [JR,Ll]
  simp_all
theorem pj{l:List UInt8}{x:CS}(h:(c9 l)[(c9 l).length-1]?=some x):(CJ 47 l).getLastD []=x.data.toList:=by
 rw[Lm,Ct,<-List.getLast?_eq_getElem?]at h;obtain⟨y,hy,e⟩:=B6.1 h;rw[List.getLastD_eq_getLast?,hy,<-e];rfl
theorem zi(hp:Fp p):PC 118 [vs p] (RC (AP p)):=by
 have FW:p.size=p.data.toList.length:=aa1
 have hc:=AdM p hp;unfold Fp at hp;obtain⟨A,hA⟩:∃A,A=c9 p.data.toList:=⟨_,rfl⟩;rw[<-hA]at hc;have hAl:A.length=(CJ 47 p.data.toList).length:=aa2
 have qA:=V4 47 p.data.toList;have YU:0<A.length:=by grind [Lx]
 have YQ:∀x∈A,x.data.toList.length<4611686018427387904:=fun x hx=>by
  obtain⟨y,hy,e⟩:=Ar.1 (hA▸hx:x∈c9 p.data.toList);have h5:=Mb 47 _ y hy;rw[<-e];show y.length<_;omega
 have GI:(CJ 47 p.data.toList).all H2=A.all fun x=>H2 x.data.toList:=by rw[hA,List.all_map];rfl
 have E4:A.length-1<A.length:=Wk
 have hg:A[A.length-1]?=some A[A.length-1]:=Ge E4;have gZ:(CJ 47 p.data.toList).getLastD []=A[A.length-1].data.toList:=by
  grind [pj]
 have em:AP p=match Gx A[A.length-1].data.toList with
  |none=>none
  |some n=>if(decide (64<p.data.toList.length)||decide (A.length<2))=true then none else if(A.all fun x=>H2 x.data.toList)=true then some n else none:=by
  grind [AP,Pd]
 clear GI gZ
 have hv:=AdO A[A.length-1] (YQ _ (Ag E4));obtain⟨o,ho⟩:∃o,o=Gx A[A.length-1].data.toList:=⟨_,rfl⟩;rw[<-ho]at hv em;have hz:∀n,o=some n->0<=n:=fun n e=>by
  rw[e]at ho;exact cR ho.symm
 refine Ps (DJ [4,9,10]) func118 rfl C4 (J (fun h=>?_) (fun h=>?_))
 .exact E RC (show(none:Option Int)=AP p by grind)
 have d1:decide (64<p.data.toList.length)=false:=At Wk;refine C1 (U (hc) (cU [(4,sl GV A)] [] Z1 W (Z {i:Nat // i<=A.length/\∀j (hj:j<A.length),j<i->H2 (A[j]).data.toList=true} (Z (fun i=>⟨[(4,sl GV A),(5,G i.1)],[],Af⟩) (Z (fun i=>A.length-i.1) (J (Z ⟨0,Ak _,fun j _ h=>by omega⟩ ?_) ?_))))))
 .exact⟨Z2,W,Fh,W⟩
 intro⟨i,i1,i2⟩;refine J (fun h2=>?_) (fun h2=>?_)
 .have h2:i<A.length:=aa2
  have hg:A[i]?=some A[i]:=Ge h2;refine Z (GV A[i]) (J (J Wk aa2) (J rfl ?_));have hn:=AdN A[i] (YQ _ (Ag h2));refine Ay (Bt (H2 A[i].data.toList)).symm (fun e1=>?_) (fun e1=>?_)
  .rw[e1]at hn;refine C1 (U (hn) ?_);have e2:(A.all fun x=>H2 x.data.toList)=false:=by
    grind
   exact E RC (show(none:Option Int)=AP p by
    grind)
  rw[e1]at hn;refine C1 (U (hn) (J (by grind [Au]) (Z ⟨i+1,by omega,fun j hj F6=>?_⟩ ?_)))
  .grind
  .exact⟨by grind,Z2,W,Fh,W⟩
 have h2:¬i<A.length:=aa2
 have e2:(A.all fun x=>H2 x.data.toList)=true:=AS.2 fun x hx=>by
  grind [List.getElem_of_mem]
 have em:AP p=match(generalizing:=false) o with
  |none=>none
  |some n=>if decide (A.length<2)=true then none else some n:=by
  grind
 refine cU [(4,sl GV A)] [] Z1 W ?_
 have aY:(((A.map GV).length:Int)-1).toNat=A.length-1:=aa2
 refine J (by grind [Au]) (Z (GV A[A.length-1]) (J (J aa2 (by rw[aY];grind)) (J rfl ?_)));refine C1 (U (hv) ?_);refine Al (show ∃z:Int,WE o=G z/\(z<0↔o=none)/\∀n,o=some n->z=n by
  grind) (fun z hz2=>?_)
 refine cU [(4,sl GV A),(6,G z)] [] ⟨X,⟨hz2.1,rfl⟩,W⟩ W (J (fun h3=>?_) (fun h3=>?_))
 .rw[Lm]at h3;exact E RC (show(none:Option Int)=AP p by grind)
 rw[Lm]at h3;refine J (fun h4=>?_) (fun h4=>?_)
 .exact E RC (show(none:Option Int)=AP p by grind)
 refine Al (show ∃n,o=some n by
  grind) (fun n hn=>?_)
 exact .of_eq (show AV.tup [G z,G 0]=RC (AP p) by grind)
theorem AdF(hp:Fp p):PC 117 [vs p] (I (AP p).isSome):=by
 have hc:=zi p hp;cases h:AP p with
 |none=>
  rw[h]at hc;refine Ps Dc func117 rfl C4 (C1 (U (hc) (J ?_ ?_)))
  .intro h;exact absurd (show(4:Int)=0 from h) aa3
  .intro _;exact .refl _
 |some n=>
  rw[h]at hc;refine Ps Dc func117 rfl C4 (C1 (U (hc) (J ?_ ?_)))
  .intro _;exact .refl _
  .intro h;exact absurd rfl h
theorem c70(x:List Rl)(ifs:C0)(p:CS)(pl:Int)(hx:BF x)(hv:∀r∈x,Bv r.ver=true):PC 244 [GM x ifs,vs p,G pl] (Hi (Dt x p pl)):=by
 unfold BF at hx;refine Ps (DJ [5]) func244 rfl C4 (Z {i:Nat // i<=x.length/\∀j (hj:j<x.length),j<i->(decide (x[j].path=p)&&decide (plc x[j].ver=pl))=false} (Z (fun i=>⟨[(1,vs p),(2,G pl),(3,.ref 3 0),(6,.ref 6 0),(8,G i.1)],[(3,.cells (Ic x ifs)),(6,.cells ZM)],Af⟩) (Z (fun i=>x.length-i.1) (J (Z ⟨0,Ak _,fun j _ h=>by omega⟩ ?_) ?_))))
 .exact⟨Z5,Z2,Fh,W⟩
 intro⟨i,h1,h2⟩;refine J ?_ ?_
 .intro h;have h:(i:Int)<(x.map V).length:=h;have h:i<x.length:=aa0
  have hg:x[i]?=some x[i]:=Ge h;refine Z (V x[i]) (J (J Wk aa0) (J rfl ?_));have qA:place x[i].ver=plc x[i].ver:=by grind [plc]
  refine J C4 (yN (cU [(1,vs p),(2,G pl),(3,.ref 3 0),(6,.ref 6 0),(8,G i),(9,.ref 9 0)] [(3,.cells (Ic x ifs)),(6,.cells ZM),(9,.cells (V x[i]))] Z6 Z3 ?_))
  have next:(decide (x[i].path=p)&&decide (plc x[i].ver=pl))=false->∀j (hj:j<x.length),j<i+1->(decide (x[j].path=p)&&decide (plc x[j].ver=pl))=false:=fun hf j hj F6=>by
   grind
  refine J ?_ ?_
  .intro hp;have hp:x[i].path=p:=hp;refine yN (C1 (U (qu x[i].ver (hv _ (Ag h))) (J ?_ ?_)))
   .intro hq;have hq:place x[i].ver=pl:=hq;have hr:Dt x p pl=some x[i]:=Uy h (fun j hj F6=>h2 j hj F6) aa0;refine J C4 (J C4 (yN ?_));exact .of_eq (show AV.tup [.agg (V x[i]),I true]=Hi (Dt x p pl) by rw[hr])
   .intro hq;have hq:¬place x[i].ver=pl:=hq;refine J (by grind [Au]) (Z ⟨i+1,by omega,next aa0⟩ ?_)
    exact⟨Dl x.length i Wk,Z5,Z2,Fh,W⟩
  .intro hp;have hp:¬x[i].path=p:=hp;refine J (by grind [Au]) (Z ⟨i+1,by omega,next aa0⟩ ?_)
   exact⟨by grind,Z5,Z2,Fh,W⟩
 .intro h;have h:¬(i:Int)<(x.map V).length:=h;have h:¬i<x.length:=aa0
  have hr:Dt x p pl=none:=Ru fun j hj=>h2 j hj Wk;refine J C4 (yN ?_);exact .of_eq (show AV.tup [.agg ZM,I false]=Hi (Dt x p pl) by rw[hr])
theorem x6(s:List Sl)(hs:BF s):PC 59 [sl Ae s] (I (Be s)):=by
 unfold BF at hs;refine Ps Dc func59 rfl C4 ?_;refine Z {i:Nat // 1<=i/\(s=[]\/i<=s.length)/\Be s=(match s[i-1]? with | none=>true | some y=>La (some y.path) (s.drop i))} (Z (fun i=>⟨[(0,sl Ae s),(3,G i.1)],[],Af⟩) (Z (fun i=>s.length-i.1) (J (Z ⟨1,Ao _,by grind,by cases s<;>rfl⟩ ?_) ?_)))
 .exact⟨Z2,W,Fh,W⟩
 intro⟨i,h1,h2,h3⟩;refine J ?_ ?_
 .intro h;have h:i<s.length:=aa0
  have hg:s[i]?=some s[i]:=Ge h;have h' : i-1<s.length:=Wk
  have hg' : s[i-1]?=some s[i-1]:=Ge h';have e1:((i:Int)-1).toNat=i-1:=Wk
  have ia:Be s=(Ek s[i-1].path s[i].path&&La (some s[i].path) (s.drop (i+1))):=by
   grind [bq]
  refine Z (Ae s[i]) (J (J Wk aa0) (J rfl ?_));refine J (by grind [Au]) (Z (Ae s[i-1]) (J (J aa2 aa0) (J rfl ?_)));refine J ?_ ?_
  .intro h4;rw[<-DZ]at h4;refine J aa4 ?_;exact E I (show false=Be s by simp_all)
  .intro h4;rw[<-DZ,Sh]at h4;refine J aa4 (J (by grind [Au]) (Z ⟨i+1,by omega,.inr Wk,by simp_all⟩ ?_));exact⟨Dl s.length i Wk,Z2,W,Fh,W⟩
 .intro h;have h:¬i<s.length:=aa0
  have Aar:Be s=true:=by
   rcases h2 with h2 | h2
   .grind
   .have e:i=s.length:=Wk
    rw[h3,e,List.drop_length];cases s[s.length-1]?<;>rfl
  exact E I Aar.symm
abbrev WB(s:List Sl):Bool:=s.any fun y=>decide (y.path=q.path)&&has q.set (place y.ver)
theorem c92(s:List Sl)(hq:BF q.set)(hs:BF s)(hv:∀y∈s,Bv y.ver=true):PC 168 [.agg (Ac q),sl Ae s] (I (WB q s)):=by
 unfold BF at hs;refine Ps Dc func168 rfl C4 (Z {i:Nat // i<=s.length/\∀j (hj:j<s.length),j<i->(decide (s[j].path=q.path)&&has q.set (place s[j].ver))=false} (Z (fun i=>⟨[(1,sl Ae s),(2,.ref 2 0),(5,G i.1)],[(2,.cells (Ac q))],Af⟩) (Z (fun i=>s.length-i.1) (J (Z ⟨0,Ak _,fun j _ h=>by omega⟩ ?_) ?_))))
 .exact⟨Z3,Z1,Fh,W⟩
 intro⟨i,h1,h2⟩;refine J ?_ ?_
 .intro h;have h:(i:Int)<(s.map Ae).length:=h;have h:i<s.length:=aa0
  have hg:s[i]?=some s[i]:=Ge h;have next:(decide (s[i].path=q.path)&&has q.set (place s[i].ver))=false->∀j (hj:j<s.length),j<i+1->(decide (s[j].path=q.path)&&has q.set (place s[j].ver))=false:=fun hf j hj F6=>by
   grind
  have hc:=ah q.set (place s[i].ver) hq;refine Z (Ae s[i]) (J (J Wk aa0) (J rfl ?_));refine J ?_ ?_
  .intro hp;have hp:s[i].path=q.path:=hp;refine Z (Ae s[i]) (J (J Wk aa0) (J rfl ?_));refine yN (U (qu s[i].ver (hv _ (Ag h))) (Ay (Bt (has q.set (place s[i].ver))) (fun e=>?_) (fun e=>?_)))
   .rw[e]at hc;refine U (hc) (J aa4 ?_);exact E I (show true=WB q s from(Bs.2 ⟨s[i],Ag h,by simp_all⟩).symm)
   .rw[e]at hc;refine U (hc) (J aa4 (J (by grind [Au]) (Z ⟨i+1,by omega,next aa0⟩ ?_)))
    exact⟨by grind,Z3,Z1,Fh,W⟩
  .intro hp;have hp:¬s[i].path=q.path:=hp;refine J aa4 (J (by grind [Au]) (Z ⟨i+1,by omega,next aa0⟩ ?_))
   exact⟨by grind,Z3,Z1,Fh,W⟩
 .intro h;have h:¬(i:Int)<(s.map Ae).length:=h;have h:¬i<s.length:=aa0
  have e:WB q s=false:=by
   grind [List.getElem_of_mem]
  exact E I e.symm
abbrev kJ:Int:=match AP p with | none=>-1 | some m=>m
abbrev yH:Prop:=∀p:CS,Fp p->PC 115 [vs p] (G (kJ p))
abbrev yI:Prop:=∀s:AN,BF s->PC 116 [sl Y s] (sl Y (canon s))
theorem sT{r:List UInt8}(h:r.all Cu=true):0<=D7 r:=by
 have:∀(l:List UInt8) (n:Int),0<=n->(∀c∈l,Cu c=true)->0<=l.foldl (fun n c=>10*n+((c.toNat:Int)-48)) n:=by
  intro l
  induction l<;>grind [JR]
 exact this r 0 (B4 _) (fun c hc=>AS.1 h c hc)
theorem tZ{s:List UInt8}(h:Gx s=some n):0<=n:=by
 unfold Gx at h;split at h
 .split at h
  .split at h
   .cases h
   .rename_i r _ hc;cases h;refine sT ?_;simp_all
  simp_all
 simp_all
theorem oH{p:CS}(h:AP p=some m):0<=m:=by
 unfold AP Pd at h;split at h
 .cases h
 .rename_i n e;split at h
  .cases h
  .split at h
   .cases h;exact tZ e
   simp_all
theorem bK:kJ p<0↔(AP p).isNone=true:=by
 unfold kJ;cases h:AP p with
 |none=>simp
 |some m=>have:=oH h;simp_all
theorem c68(dZ:yH)(jU:yI)(l:List Rq)(hs:∀q∈l,G5 q):PC 58 [sl Ac l] (G (AK l)):=by
 refine Ps (DJ []) func58 rfl C4 (J ?_ ?_)
 .intro h;exact E G (show(7:Int)=AK l by grind [AK])
 intro h;have hl:l.length<=16:=aa2
 have UQ:AK l=DL none l:=by grind [AK]
 refine Z {i:Nat // i<=l.length/\DL none l=DL (J3 l i) (l.drop i)} (Z (fun i=>⟨[(0,sl Ac l),(3,G i.1)],[],Af⟩) (Z (fun i=>l.length-i.1) (J (Z ⟨0,Ak _,rfl⟩ ?_) ?_)))
 .exact⟨Z2,W,Fh,W⟩
 intro⟨i,h1,h2⟩;refine J ?_ ?_
 .intro h;have h:i<l.length:=aa0
  have hg:l[i]?=some l[i]:=Ge h;have hd:l.drop i=l[i]::l.drop (i+1):=Bf h;have hq:=hs l[i] (Ag h);have J7:DL none l=if Hd (J3 l i) l[i]=0 then DL (some l[i].path) (l.drop (i+1))else Hd (J3 l i) l[i]:=by rw[h2,hd];rfl
  have fail:∀e:Int,Hd (J3 l i) l[i]=e->e≠0->e=AK l:=fun e he hz=>by omega
  have cZ:J3 l (i+1)=some l[i].path:=aa h;refine Z (Ac l[i]) (J (J Wk aa2) (J rfl (C1 (U (dZ l[i].path hq.2) (J ?_ ?_)))))
  .intro h3;exact E G (fail 4 (by grind [Hd,bK]) aa3)
  intro h3;have hmj:(AP l[i].path).isNone=false:=by
   grind
  have er:Hd (J3 l i) l[i]=if(l[i].set.isEmpty||!decide (l[i].set=canon l[i].set)||(match J3 l i with | some b=>!Ek b l[i].path | none=>false))=true then 1 else 0:=by unfold Hd;grind
  refine Z (Ac l[i]) (J (J Wk aa2) (J rfl (J ?_ ?_)))
  .intro h4;have h5:l[i].set.isEmpty=true:=by
    rw[Lm]at h4;rw[Jh];exact Az Wk
   refine J aa4 ?_;exact E G (fail 1 aa2 aa3)
  intro h4;have h5:l[i].set.isEmpty=false:=by
   grind
  have he:=c75 l[i].set (canon l[i].set) hq.1;refine Z (Ac l[i]) (J (J Wk aa2) (J rfl (Z (Ac l[i]) (J (J Wk aa2) (J rfl (U (jU l[i].set hq.1) (Ay (Bt (decide (l[i].set=canon l[i].set))) (fun e=>?_) (fun e=>?_))))))))
  rotate_left
  .rw[e]at he;refine U (he) (J aa4 ?_);exact E G (fail 1 aa2 aa3)
  rw[e]at he;refine U (he) (J aa4 (J ?_ ?_))
  .intro h6;have h6:(0:Int)<i:=h6;have h7:i-1<l.length:=Wk
   have hb:J3 l i=some l[i-1].path:=by
    grind
   refine Z (Ac l[i]) (J (J Wk aa2) (J rfl (J (by grind [Au]) (Z (Ac l[i-1]) (J (J Wk (by rw[show((i:Int)-1).toNat=i-1 by omega];grind)) (J rfl ?_))))));refine J ?_ ?_
   .intro h8;refine J aa4 ?_;exact E G (fail 1 (by grind [DZ]) aa3)
   .intro h8;have h8:¬Op.bytesLess l[i-1].path.toList l[i].path.toList=false:=h8;have h8:Op.bytesLess l[i-1].path.toList l[i].path.toList=true:=aa2
    refine J aa4 (J (by grind [Au]) (Z ⟨i+1,by omega,by grind [DZ]⟩ ?_));exact⟨Dl l.length i Wk,Z2,W,Fh,W⟩
  .intro h6;have h6:¬(0:Int)<i:=h6;have h7:i=0:=Wk
   refine J aa4 (J (by show Au ((i:Int)+1);grind [Au]) (Z ⟨i+1,by omega,by grind⟩ ?_));exact⟨Dl l.length i Wk,Z2,W,Fh,W⟩
 .intro h;have h:¬(i:Int)<(l.map Ac).length:=h;have h:¬i<l.length:=aa0
  have e:(0:Int)=AK l:=by rw[UQ,h2,H4 Wk];rfl
  exact E G e
theorem fo(hk:k<p.data.toList.length)(h1:p.data.toList[k]=47)(h2:∀j (hj:j<p.data.toList.length),k<j->p.data.toList[j]≠47):Go.Lib.lastIndex p.data.toList [47]=k:=by
 have hoc:∀i (hi:i<p.data.toList.length),Go.Lib.occAt p.data.toList [47] i=true↔p.data.toList[i]=47:=fun i hi=>by
  grind [Go.Lib.occAt,List.drop_eq_getElem_cons]
 grind [Go.Lib.lastIndex,Go.Lib.lastOcc_spec]
theorem lD{p:CS}(h:AP p=some m):(47:UInt8)∈p.data.toList:=by
 grind [Pt,AP,Pd]
theorem y6(hp:Fp p):PC 60 [vs p] (Xv Ve p):=by
 have hc:=zi p hp;have hi:=AdF p hp;have FW:p.size=p.data.toList.length:=aa1
 unfold Xv;cases h:AP p with
 |none=>
  rw[h]at hi;refine Ps Dc func60 rfl C4 (C1 (U (hi) ?_));exact .refl _
 |some n=>
  have se:=lD h;rw[h]at hc hi;unfold Fp at hp;refine Al (show ∃q,∃hq:q<p.data.toList.length,p.data.toList[q]=47 from Hr se) (fun q hq=>?_);refine Al hq (fun hq eq=>?_);refine Ps Dc func60 rfl C4 (C1 (U (hi) (C1 (U (hc) (J (fun h=>absurd rfl h) (fun _=>?_))))));refine J (show Au (((p.size:Nat):Int)-1) by grind [Au]) ?_;refine Z {k:Nat // k<p.data.toList.length/\∀j (hj:j<p.data.toList.length),k<j->p.data.toList[j]≠47} (Z (fun k=>⟨[(0,vs p),(5,G n),(7,G k.1)],[],Af⟩) (Z (fun k=>k.1) (J (Z ⟨p.data.toList.length-1,by omega,fun j hj F6=>by omega⟩ ?_) ?_)))
  .have e1:G (((p.size:Nat):Int)-1)=G ((p.data.toList.length-1:Nat):Int):=Aa G Wk;exact⟨⟨X,X,⟨e1,rfl⟩,W⟩,W,Fh,W⟩
  intro⟨k,k1,k2⟩;have OU:(0:Int)<=k/\p.data[((k:Nat):Int).toNat]?=some p.data.toList[k]:=⟨by omega,by grind⟩;refine Z p.data.toList[k] (J OU (J (fun h2=>?_) (fun h2=>?_)))
  .have h2:p.data.toList[k]≠47:=fun e=>h2 (by rw[e];rfl);have hqk:q<=k:=by
    grind
   have Xj:q≠k:=fun e=>by grind
   refine J (show Au ((k:Int)-1) by grind [Au]) ?_;have e1:G ((k:Int)-1)=G ((k-1:Nat):Int):=Aa G Wk;refine Z ⟨k-1,by omega,fun j hj F6=>?_⟩ ?_
   .grind
   .exact⟨by grind,⟨X,X,⟨e1,rfl⟩,W⟩,W,Fh,W⟩
  .have h2:p.data.toList[k]=47:=Ih.1 aa2;have el:=fo p k k1 h2 k2;refine J ⟨B4 _,by grind,by grind⟩ ?_;have e3:p.extract 0 ((k:Nat):Int).toNat=Ve p:=aa2
   exact .of_eq (show AV.tup [vs (p.extract 0 ((k:Nat):Int).toNat),G n,G 0]=_ by rw[e3])
theorem Ade(hp:Fp p):PC 115 [vs p] (G (kJ p)):=by
 have hc:=y6 p hp;unfold Xv at hc;unfold kJ;cases h:AP p with
 |none=>
  rw[h]at hc;refine Ps Dc func115 rfl C4 (C1 (U (hc) (J (fun _=>?_) (fun h=>absurd (show(4:Int)≠0 by decide) h))));exact .refl _
 |some m=>
  rw[h]at hc;refine Ps Dc func115 rfl C4 (C1 (U (hc) (J (fun h=>absurd rfl h) (fun _=>?_))));exact .refl _
theorem dZ:yH:=Ade
abbrev Abc:Ns:=⟨[],[(3,0)],[(63,2)],[],[],[],[],[],[],[(112,7)],[4,6,10,11,14,16,17,18]⟩
theorem Nq:∀cs∈s.map Y,cs.length=2:=fun cs h=>by
 grind
theorem HR{n:Nat}:∀{l:C0},(∀c∈l,c.length=n)->A7 n l
 | [],_=>trivial
 |c::_,h=>⟨h c (Ah ..),HR fun d hd=>h d (Aj _ hd)⟩
abbrev Ox:C0:=((s.map Y).take (((s.map Y).length:Nat):Int).toNat).drop ((k:Nat):Int).toNat
theorem pJ:Ox s k=(s.drop k).map Y:=by
 grind [List.take_of_length_le,List.map_drop]
theorem uk(h:s.length<=1073741824):A7 2 (Ox s k)/\[Y x].length=1/\([Y x].length+(Ox s k).length)*16<=140737488355328/\[Y x].length+(Ox s k).length<=9223372036854775807:=by
 grind [HR]
abbrev UR:C0:=((s.map Y).take ((k:Nat):Int).toNat).drop ((0:Int)).toNat
theorem nR:UR s k=(s.take k).map Y:=by
 grind [List.map_take]
theorem gw(hk:k<=s.length)(h:s.length<=1073741824):A7 2 ([Y x]++Ox s k)/\(UR s k).length=((k:Nat):Int).toNat-((0:Int)).toNat/\((UR s k).length+([Y x]++Ox s k).length)*16<=140737488355328/\(UR s k).length+([Y x]++Ox s k).length<=9223372036854775807:=by
 grind [HR]
theorem AfH:UR s k++([Y x]++Ox s k)=(s.take k++([x]++s.drop k)).map Y:=by
 grind [pJ,nR]
theorem kq{s:AN}(h:j<s.length)(hA:A=(BD (s.take j)).reverse){y:Int×Int}(hy:A[A.length-1]?=some y)(JP:s[j].1<=y.2):A.set (A.length-1) (y.1,max y.2 s[j].2)=(BD (s.take (j+1))).reverse:=by
 rw[FB s j h];cases hr:BD (s.take j)with
 |nil=>simp_all
 |cons z t=>
  have eA:A=t.reverse++[z]:=aa0
  have eL:A.length-1=t.reverse.length:=aa0
  rw[eL,eA,BO (Ao _),Jj]at hy;have ez:z=y:=D5 hy;have e2:Ki (z::t) s[j]=(z.1,max z.2 s[j].2)::t:=by show(if s[j].1<=z.2 then _ else _)=_;simp_all
  simp_all
theorem bC{s:AN}(h:j<s.length)(hA:A=(BD (s.take j)).reverse)(hn:∀y,A[A.length-1]?=some y->¬s[j].1<=y.2):A++[s[j]]=(BD (s.take (j+1))).reverse:=by
 rw[FB s j h];cases hr:BD (s.take j)with
 |nil=>rw[hA,hr];rfl
 |cons z t=>
  have eA:A=t.reverse++[z]:=aa0
  have eL:A.length-1=t.reverse.length:=aa0
  have:=hn z aa0
  have e2:Ki (z::t) s[j]=s[j]::z::t:=by show(if s[j].1<=z.2 then _ else _)=_;simp_all
  simp_all
set_option maxHeartbeats 4000000 in
theorem dC(l:AN)(hl:BF l):PC 116 [sl Y l] (sl Y (canon l)):=by
 refine Ps Abc func116 rfl C4 (Z {p:Nat×AN // p.1<=l.length/\p.2.Perm (D8 (l.take p.1))/\p.2.Pairwise fun a b=>a.1<=b.1} (Z (fun p=>⟨[(0,sl Y l),(3,sl Y p.1.2),(4,G p.1.1)],[],Af⟩) (Z (fun p=>l.length-p.1.1) (J (Z ⟨(0,[]),Ak _,.refl _,.nil⟩ ?_) ?_))))
 .exact⟨Z3,W,Fh,W⟩
 intro⟨⟨i,s⟩,i1,i2,i3⟩;have Xk:s.length<=i:=by grind [Uf,List.Perm.length_eq]
 refine J (fun h=>?_) (fun h=>?_)
 .skip
  have h:i<l.length:=aa0
  have hg:l[i]?=some l[i]:=Ge h;refine Z (Y l[i]) (J (J Wk aa0) (J rfl ?_));refine Z (Y l[i]) (J (J Wk aa0) (J rfl ?_));refine yN (J aa4 (Z ⟨[(0,sl Y l),(3,sl Y s),(4,G i),(5,.ref 5 0)],[(5,.cells (Y (Hm l[i])))],Af⟩ (J ?_ ?_)))
  .have e0:HO.cells [G (max 0 l[i].1),G (min 1000000 l[i].2)]=.cells (Y (Hm l[i])):=by
    rw[Int.max_comm,Int.min_comm];rfl
   exact⟨Z4,⟨⟨e0,rfl⟩,W⟩,Fh,W⟩
  refine J (fun h3=>?_) (fun h3=>?_)
  .refine cU [(0,sl Y l),(3,sl Y s),(4,G i)] [] Z3 W (J (by grind [Au]) ?_);have e:=Ue h (show ¬(Hm l[i]).1<(Hm l[i]).2 by omega);refine Z ⟨(i+1,s),by omega,by simp_all,i3⟩ ?_;exact⟨by grind,Z3,W,Fh,W⟩
  have e:=Rn h (show(Hm l[i]).1<(Hm l[i]).2 by omega);refine Z {k:Nat // k<=s.length/\∀j (hj:j<s.length),k<=j->(Hm l[i]).1<s[j].1} (Z (fun k=>⟨[(0,sl Y l),(3,sl Y s),(4,G i),(5,.ref 5 0),(6,G k.1)],[(5,.cells (Y (Hm l[i])))],Af⟩) (Z (fun k=>k.1) (J (Z ⟨s.length,Ao _,fun j hj F6=>by omega⟩ ?_) ?_)))
  .have e1:G ((s.map Y).length:Int)=G (s.length:Int):=aa0
   exact⟨⟨X,X,X,X,⟨e1,rfl⟩,W⟩,Z1,Fh,W⟩
  intro⟨k,k1,k2⟩;refine J (fun h4=>?_) (fun h4=>?_)
  .have h4:(0:Int)<k:=h4;refine J (show Au ((k:Int)-1) by grind [Au]) ?_;have hk:k-1<s.length:=Wk
   have hg:s[k-1]?=some s[k-1]:=Ge hk;have hn:((k:Int)-1).toNat=k-1:=Wk
   refine Z (Y s[k-1]) (J (J Wk aa0) (J rfl ?_));refine J (fun h5=>?_) (fun h5=>?_)
   .refine J aa4 (J (show Au ((k:Int)-1) by grind [Au]) ?_);have e1:G ((k:Int)-1)=G ((k-1:Nat):Int):=Aa G Wk;refine Z ⟨k-1,by omega,fun j hj F6=>?_⟩ ?_
    .grind
    .exact⟨by grind,⟨X,X,X,X,⟨e1,rfl⟩,W⟩,Z1,Fh,W⟩
   have SD:k=0\/∃h:k-1<s.length,s[k-1].1<=(Hm l[i]).1:=.inr ⟨hk,by omega⟩;refine J aa4 (cU [(0,sl Y l),(3,sl Y s),(4,G i),(5,.ref 5 0),(6,G k)] [(5,.cells (Y (Hm l[i])))] Z5 Z1 (J (show(0:Int)<=0/\(0:Int)<=k/\(k:Int)=k/\(k:Int)<=((s.map Y).length:Nat) by simp_all) (J (Nq s) (yN (J (show(0:Int)<=k/\(k:Int)<=((s.map Y).length:Nat)/\(((s.map Y).length:Nat):Int)<=((s.map Y).length:Nat) by simp_all) (J (Nq s) ?_))))));refine J (uk s (Hm l[i]) k Wk) (J (gw s (Hm l[i]) k k1 Wk) (J aa4 (Al (show ∃t,t=s.take k++([Hm l[i]]++s.drop k)from⟨_,rfl⟩) (fun t ht=>?_))));refine Z ⟨[(0,sl Y l),(3,sl Y t),(4,G i)],[],Af⟩ (J ?_ ?_)
   .have e3:AV.slice .none (UR s k++([Y (Hm l[i])]++Ox s k))=sl Y t:=by grind [AfH]
    exact⟨⟨X,⟨e3,rfl⟩,X,W⟩,W,Fh,W⟩
   refine J (by grind [Au]) (Z ⟨(i+1,t),by omega,by grind [ov],by grind [U5]⟩ ?_);exact⟨Dl l.length i Wk,Z3,W,Fh,W⟩
  .have h4:¬(0:Int)<k:=h4;have SD:k=0\/∃h:k-1<s.length,s[k-1].1<=(Hm l[i]).1:=.inl Wk;refine J aa4 (cU [(0,sl Y l),(3,sl Y s),(4,G i),(5,.ref 5 0),(6,G k)] [(5,.cells (Y (Hm l[i])))] Z5 Z1 (J (show(0:Int)<=0/\(0:Int)<=k/\(k:Int)=k/\(k:Int)<=((s.map Y).length:Nat) by omega) (J (Nq s) (yN (J (show(0:Int)<=k/\(k:Int)<=((s.map Y).length:Nat)/\(((s.map Y).length:Nat):Int)<=((s.map Y).length:Nat) by omega) (J (Nq s) ?_))))));refine J (uk s (Hm l[i]) k Wk) (J (gw s (Hm l[i]) k k1 Wk) (J aa4 (Al (show ∃t,t=s.take k++([Hm l[i]]++s.drop k)from⟨_,rfl⟩) (fun t ht=>?_))));refine Z ⟨[(0,sl Y l),(3,sl Y t),(4,G i)],[],Af⟩ (J ?_ ?_)
   .have e3:AV.slice .none (UR s k++([Y (Hm l[i])]++Ox s k))=sl Y t:=aa2
    exact⟨⟨X,⟨e3,rfl⟩,X,W⟩,W,Fh,W⟩
   refine J (Ii i Wk) (Z ⟨(i+1,t),by omega,by grind,by show t.Pairwise _;rw[ht];exact U5 s _ k i3 k2 SD⟩ ?_);exact⟨Dl l.length i Wk,Z3,W,Fh,W⟩
 .skip
  have h:¬i<l.length:=aa0
  have fin:(BD s).reverse=canon l:=Mf aa2 i3;refine cU [(3,sl Y s)] [] Z1 W (Z {p:Nat×AN // p.1<=s.length/\p.2=(BD (s.take p.1)).reverse} (Z (fun p=>⟨[(3,sl Y s),(7,.msl 63 p.1.2.length),(8,G p.1.1)],[(63,Hg p.1.2)],Af⟩) (Z (fun p=>s.length-p.1.1) (J (Z ⟨(0,[]),Ak _,rfl⟩ ?_) ?_))))
  .exact⟨Z3,Z1,Fh,W⟩
  intro⟨⟨j,A⟩,j1,hA⟩;have j1:j<=s.length:=j1;have hA:A=(BD (s.take j)).reverse:=hA;have hAl:A.length<=j:=by grind [Pf]
  refine J (fun h2=>?_) (fun h2=>?_)
  .have h2:(j:Int)<((s.map Y).length:Int):=h2;have h2:j<s.length:=aa0
   have hgj:s[j]?=some s[j]:=Ge h2;refine cU [(3,sl Y s),(7,.msl 63 A.length),(8,G j),(9,G A.length)] [(63,Hg A)] Z4 Z1 (J (fun h3=>?_) (fun h3=>?_))
   .have h3:(0:Int)<A.length:=h3;have wJ:Au ((A.length:Int)-1):=by grind [Au]
    have hn:((A.length:Int)-1).toNat=A.length-1:=Wk
    have aY:(0:Int)<=(A.length:Int)-1/\(A.length:Int)-1<(A.length:Int):=Wk
    have E4:A.length-1<A.length:=Wk
    have hg:A[A.length-1]?=some A[A.length-1]:=Ge E4;have yo:(A.map Y)[((A.length:Int)-1).toNat]?=some (Y A[A.length-1]):=by rw[hn];grind
    have hln:A.length=(A.map Y).length:=aa0
    have hsj:(0:Int)<=j/\(s.map Y)[((j:Nat):Int).toNat]?=some (Y s[j]):=⟨by omega,by simp_all⟩;refine Z (Y s[j]) (J hsj (J rfl (J wJ (J aY (J hln (Z (Y A[A.length-1]) (J yo (J (fun h4=>?_) (fun h4=>?_)))))))))
    .have h4:s[j].1<=A[A.length-1].2:=h4;refine J aa4 (cU [(3,sl Y s),(7,.msl 63 A.length),(8,G j),(9,G A.length)] [(63,Hg A)] Z4 Z1 (J wJ (J wJ (J aY (J hln (Z (Y A[A.length-1]) (J yo (Z (Y s[j]) (J hsj (J rfl (J aY (J hln (Z (Y A[A.length-1]) (J yo (yN (J aa4 (Al (show ∃B,B=A.set (A.length-1) (A[A.length-1].1,max A[A.length-1].2 s[j].2)from⟨_,rfl⟩) (fun B hB=>?_))))))))))))))))));have e2:HO.arr 2 ((A.map Y).set ((A.length:Int)-1).toNat [G A[A.length-1].1,G (max A[A.length-1].2 s[j].2)])=Hg B:=aa0
     have e1:AV.msl 63 A.length=.msl 63 B.length:=aa0
     refine cU [(3,sl Y s),(7,.msl 63 B.length),(8,G j)] [(63,Hg B)] ⟨X,⟨e1,rfl⟩,X,W⟩ ⟨⟨e2,rfl⟩,W⟩ (J (Ii j Wk) (Z ⟨(j+1,B),by omega,by rw[hB];exact kq h2 hA hg h4⟩ ?_));exact⟨by grind,Z3,Z1,Fh,W⟩
    have h4:¬s[j].1<=A[A.length-1].2:=h4;have hjn:A++[s[j]]=(BD (s.take (j+1))).reverse:=bC h2 hA fun y hy=>by
     simp_all
    refine J aa4 (cU [(3,sl Y s),(7,.msl 63 A.length),(8,G j),(9,G A.length)] [(63,Hg A)] Z4 Z1 (Z (Y s[j]) (J hsj (J rfl (yN ?_)))));have De:A7 2 [Y s[j]]/\(A.map Y).length=A.length/\((A.map Y).length+[Y s[j]].length)*16<=140737488355328/\(A.map Y).length+[Y s[j]].length<=9223372036854775807:=
     ⟨⟨rfl,trivial⟩,by omega,by rw[Lm,A8];omega,by rw[Lm,A8];omega⟩
    refine J De (Al (show ∃B,B=A++[s[j]]from⟨_,rfl⟩) (fun B hB=>?_));have e1:AV.msl 63 ((A.map Y).length+[Y s[j]].length)=.msl 63 B.length:=by rw[hB];simp
    have e2:HO.arr 2 (A.map Y++[Y s[j]])=Hg B:=by rw[hB];simp
    refine cU [(3,sl Y s),(7,.msl 63 B.length),(8,G j)] [(63,Hg B)] ⟨X,⟨e1,rfl⟩,X,W⟩ ⟨⟨e2,rfl⟩,W⟩ (J (Ii j Wk) (Z ⟨(j+1,B),by omega,by simp_all⟩ ?_));exact⟨by grind,Z3,Z1,Fh,W⟩
   .have h3:¬(0:Int)<A.length:=h3;have hsj:(0:Int)<=j/\(s.map Y)[((j:Nat):Int).toNat]?=some (Y s[j]):=⟨by omega,by simp_all⟩;have hjn:A++[s[j]]=(BD (s.take (j+1))).reverse:=bC h2 hA fun y hy=>by
     simp_all
    refine J aa4 (cU [(3,sl Y s),(7,.msl 63 A.length),(8,G j),(9,G A.length)] [(63,Hg A)] Z4 Z1 (Z (Y s[j]) (J hsj (J rfl (yN ?_)))));have De:A7 2 [Y s[j]]/\(A.map Y).length=A.length/\((A.map Y).length+[Y s[j]].length)*16<=140737488355328/\(A.map Y).length+[Y s[j]].length<=9223372036854775807:=
     ⟨⟨rfl,trivial⟩,by simp_all,by simp_all,by simp_all⟩
    refine J De (Al (show ∃B,B=A++[s[j]]from⟨_,rfl⟩) (fun B hB=>?_));have e1:AV.msl 63 ((A.map Y).length+[Y s[j]].length)=.msl 63 B.length:=aa2
    have e2:HO.arr 2 (A.map Y++[Y s[j]])=Hg B:=aa2
    refine cU [(3,sl Y s),(7,.msl 63 B.length),(8,G j)] [(63,Hg B)] ⟨X,⟨e1,rfl⟩,X,W⟩ ⟨⟨e2,rfl⟩,W⟩ (J (Ii j Wk) (Z ⟨(j+1,B),by omega,by grind⟩ ?_));exact⟨by grind,Z3,Z1,Fh,W⟩
  .have h2:¬(j:Int)<((s.map Y).length:Int):=h2;have h2:¬j<s.length:=aa0
   refine J aa0 ?_;exact E (sl Y) (show A=canon l by grind)
theorem jU:yI:=dC
abbrev Kk(A:AN):AV:=.slice (.id d 2) (A.map Y)
theorem mv(hs:BF s):PC 306 [sl Y s] (sl Y (BW s)):=by
 have hc:=dC s hs;have hC:BW s=GS 0 (canon s):=rfl;have hn:(canon s).length<=1000000:=Fb (BE s);obtain⟨C,eC⟩:∃C,C=canon s:=⟨_,rfl⟩;rw[<-eC]at hc hC hn;refine Ps (DJ [2,6,9,12]) func306 rfl C4 (C1 (U (hc) (cU [(3,sl Y C)] [] Z1 W (Z {p:Nat×Int×AN // p.1<=C.length/\p.2.2.length<=p.1/\p.2.2++GS p.2.1 (C.drop p.1)=GS 0 C} (Z (fun p=>⟨[(3,sl Y C),(4,Kk 9 p.1.2.2),(5,G p.1.2.1),(6,G p.1.1)],[(9,.tok 2 p.1.2.2.length)],Af⟩) (Z (fun p=>C.length-p.1.1) (J (Z ⟨(0,0,[]),Ak _,Ak _,rfl⟩ ?_) ?_)))))))
 .exact⟨Z4,Z1,Fh,W⟩
 intro⟨⟨i,z,A⟩,i1,i2,i3⟩;have i1:i<=C.length:=i1;have i2:A.length<=i:=i2;have i3:A++GS z (C.drop i)=GS 0 C:=i3;refine J (fun h=>?_) (fun h=>?_)
 .skip
  have h:(i:Int)<(C.map Y).length:=h;have h:i<C.length:=aa0
  have hg:C[i]?=some C[i]:=Ge h;refine Z (Y C[i]) (J (J Wk aa0) (J rfl ?_));rw[Bf h]at i3;refine J (fun h2=>?_) (fun h2=>?_)
  .have h2:z<C[i].1:=h2;refine Z (Y C[i]) (J (J Wk aa0) (J rfl ?_));have De:A7 2 [Y (z,C[i].1)]/\(A.map Y).length=A.length/\((A.map Y).length+[Y (z,C[i].1)].length)*16<=140737488355328/\(A.map Y).length+[Y (z,C[i].1)].length<=9223372036854775807:=
    ⟨⟨rfl,trivial⟩,by simp_all,by grind,by grind⟩
   refine J De (Al (show ∃B,B=A++[(z,C[i].1)]from⟨_,rfl⟩) (fun B hB=>?_));have e1:AV.slice (.id 9 2) (A.map Y++[Y (z,C[i].1)])=Kk 9 B:=aa0
   have e2:HO.tok 2 ((A.map Y).length+[Y (z,C[i].1)].length)=.tok 2 B.length:=aa0
   refine cU [(3,sl Y C),(4,Kk 9 B),(5,G z),(6,G i)] [(9,.tok 2 B.length)] ⟨X,⟨e1,rfl⟩,X,X,W⟩ ⟨⟨e2,rfl⟩,W⟩ (Z (Y C[i]) (J (J Wk aa0) (J rfl ?_)));refine cU [(3,sl Y C),(4,Kk 9 B),(5,G C[i].2),(6,G i)] [(9,.tok 2 B.length)] Z4 Z1 (J (by grind [Au]) (Z ⟨(i+1,C[i].2,B),by omega,by simp_all,by grind [GS]⟩ ?_));exact⟨Dl C.length i Wk,Z4,Z1,Fh,W⟩
  have h2:¬z<C[i].1:=h2;refine cU [(3,sl Y C),(4,Kk 9 A),(5,G z),(6,G i)] [(9,.tok 2 A.length)] Z4 Z1 (Z (Y C[i]) (J (J Wk aa0) (J rfl ?_)));refine cU [(3,sl Y C),(4,Kk 9 A),(5,G C[i].2),(6,G i)] [(9,.tok 2 A.length)] Z4 Z1 (J (by grind [Au]) (Z ⟨(i+1,C[i].2,A),by omega,by grind,by grind [GS]⟩ ?_));exact⟨Dl C.length i Wk,Z4,Z1,Fh,W⟩
 .skip
  have h:¬(i:Int)<(C.map Y).length:=h;have h:¬i<C.length:=aa0
  rw[Eb Wk,GS]at i3;refine J (fun h2=>?_) (fun h2=>?_)
  .have h2:z<1000000:=h2;have De:A7 2 [Y (z,1000000)]/\(A.map Y).length=A.length/\((A.map Y).length+[Y (z,1000000)].length)*16<=140737488355328/\(A.map Y).length+[Y (z,1000000)].length<=9223372036854775807:=
    ⟨⟨rfl,trivial⟩,by simp_all,by grind,by grind⟩
   refine J De (Al (show ∃B,B=A++[(z,(1000000:Int))]from⟨_,rfl⟩) (fun B hB=>?_));have e1:AV.slice (.id 9 2) (A.map Y++[Y (z,1000000)])=Kk 9 B:=aa2
   have e2:HO.tok 2 ((A.map Y).length+[Y (z,1000000)].length)=.tok 2 B.length:=aa2
   refine cU [(4,Kk 9 B)] [(9,.tok 2 B.length)] ⟨⟨e1,rfl⟩,W⟩ ⟨⟨e2,rfl⟩,W⟩ ?_
   exact .of_eq (show sl Y B=sl Y (BW s) by simp_all)
  .have h2:¬z<1000000:=h2;refine cU [(4,Kk 9 A)] [(9,.tok 2 A.length)] Z1 Z1 ?_
   exact .of_eq (show sl Y A=sl Y (BW s) by simp_all)
theorem jM(h:i<l.length):(l.take (i+1)).flatten=(l.take i).flatten++l[i]/\((l.take i).flatten++l[i]).length<=l.flatten.length:=by
 grind [List.take_add_one,List.take_append_drop]
theorem ra(hl:BF l)(hf:BF l.flatten):PC 309 [sl CY l] (sl Y (Km l)):=by
 have hc:=dC l.flatten hf;have hl:l.length<=1073741824:=hl;have hf:l.flatten.length<=1073741824:=hf;refine Ps (DJ [4,6]) func309 rfl C4 (Z {p:Nat×AN // p.1<=l.length/\p.2=(l.take p.1).flatten} (Z (fun p=>⟨[(0,sl CY l),(3,Kk 5 p.1.2),(4,G p.1.1)],[(5,.tok 2 p.1.2.length)],Af⟩) (Z (fun p=>l.length-p.1.1) (J (Z ⟨(0,[]),Ak _,rfl⟩ ?_) ?_))))
 .exact⟨Z3,Z1,Fh,W⟩
 intro⟨⟨i,A⟩,i1,i2⟩;have i1:i<=l.length:=i1;have i2:A=(l.take i).flatten:=i2;refine J (fun h=>?_) (fun h=>?_)
 .skip
  have h:(i:Int)<(l.map CY).length:=h;have h:i<l.length:=aa0
  have hg:l[i]?=some l[i]:=Ge h;refine Z (CY l[i]) (J (J Wk aa0) (J rfl ?_));have ht:=jM l i h;rw[<-i2]at ht;have yx:=ht.2;rw[AD]at yx;have De:A7 2 (l[i].map Y)/\(A.map Y).length=A.length/\((A.map Y).length+(l[i].map Y).length)*16<=140737488355328/\(A.map Y).length+(l[i].map Y).length<=9223372036854775807:=
   ⟨HR (Nq _),by grind,by grind,by grind⟩
  refine J De (Al (show ∃B,B=A++l[i]from⟨_,rfl⟩) (fun B hB=>?_));have e1:AV.slice (.id 5 2) (A.map Y++l[i].map Y)=Kk 5 B:=aa0
  have e2:HO.tok 2 ((A.map Y).length+(l[i].map Y).length)=.tok 2 B.length:=aa0
  refine cU [(0,sl CY l),(3,Kk 5 B),(4,G i)] [(5,.tok 2 B.length)] ⟨X,⟨e1,rfl⟩,X,W⟩ ⟨⟨e2,rfl⟩,W⟩ (J (Ii i Wk) (Z ⟨(i+1,B),by omega,by simp_all⟩ ?_));exact⟨by grind,Z3,Z1,Fh,W⟩
 .skip
  have h:¬(i:Int)<(l.map CY).length:=h;have h:¬i<l.length:=aa0
  have eA:A=l.flatten:=aa2
  rw[<-eA]at hc;refine cU [(3,Kk 5 A)] [(5,.tok 2 A.length)] Z1 Z1 (C1 (U (hc) ?_));exact .of_eq (show sl Y (canon A)=sl Y (Km l) by rw[eA];rfl)
theorem AdG:PC 379 [] (sl Y [(0,1000000)]):=by
 refine Ps Dc func379 rfl C4 ?_;exact .refl _
theorem yX(n:Int):PC 305 [G n] (sl Y (canon [(n,1000000)])):=by
 have hc:=dC [(n,1000000)] aa0;refine Ps Dc func305 rfl C4 (C1 (U (hc) ?_));exact .refl _
abbrev tT(A:List AN):AV:=.slice (.id d 1) (A.map CY)
theorem y7(hl:BF l)(hs:∀s∈l,BF s)(hf:BF (l.map BW).flatten):PC 354 [sl CY l] (sl Y (MZ l)):=by
 have hc:=ra (l.map BW) aa0 hf;have hu:BF (Km (l.map BW)):=by
  grind [Fb,Md]
 have hd:=mv (Km (l.map BW)) hu;have hl:l.length<=1073741824:=hl;refine Ps (DJ [4,6]) func354 rfl C4 (Z {p:Nat×List AN // p.1<=l.length/\p.2=(l.take p.1).map BW} (Z (fun p=>⟨[(0,sl CY l),(3,tT 5 p.1.2),(4,G p.1.1)],[(5,.tok 1 p.1.2.length)],Af⟩) (Z (fun p=>l.length-p.1.1) (J (Z ⟨(0,[]),Ak _,rfl⟩ ?_) ?_))))
 .exact⟨Z3,Z1,Fh,W⟩
 intro⟨⟨i,A⟩,i1,i2⟩;have i1:i<=l.length:=i1;have i2:A=(l.take i).map BW:=i2;have hA:A.length<=i:=aa0
 refine J (fun h=>?_) (fun h=>?_)
 .skip
  have h:(i:Int)<(l.map CY).length:=h;have h:i<l.length:=aa0
  have hg:l[i]?=some l[i]:=Ge h;refine Z (CY l[i]) (J (J Wk aa0) (J rfl ?_));refine C1 (U (mv l[i] (hs _ (Ag h))) ?_);have De:A7 1 [CY (BW l[i])]/\(A.map CY).length=A.length/\((A.map CY).length+[CY (BW l[i])].length)*24<=140737488355328/\(A.map CY).length+[CY (BW l[i])].length<=9223372036854775807:=
   ⟨⟨rfl,trivial⟩,by simp_all,by grind,by grind⟩
  refine J De (Al (show ∃B,B=A++[BW l[i]]from⟨_,rfl⟩) (fun B hB=>?_));have e1:AV.slice (.id 5 1) (A.map CY++[CY (BW l[i])])=tT 5 B:=aa0
  have e2:HO.tok 1 ((A.map CY).length+[CY (BW l[i])].length)=.tok 1 B.length:=aa0
  refine cU [(0,sl CY l),(3,tT 5 B),(4,G i)] [(5,.tok 1 B.length)] ⟨X,⟨e1,rfl⟩,X,W⟩ ⟨⟨e2,rfl⟩,W⟩ (J (by grind [Au]) (Z ⟨(i+1,B),by omega,by grind [List.take_add_one]⟩ ?_));exact⟨Dl l.length i Wk,Z3,Z1,Fh,W⟩
 .skip
  have h:¬(i:Int)<(l.map CY).length:=h;have h:¬i<l.length:=aa0
  have eA:A=l.map BW:=aa2
  rw[<-eA]at hc hd;refine cU [(3,tT 5 A)] [(5,.tok 1 A.length)] Z1 Z1 (C1 (U (hc) (C1 (U (hd) ?_))));exact .of_eq (show sl Y (BW (Km A))=sl Y (MZ l) by
   rw[eA];exact Aa (sl Y) (Ys _))
theorem K6:(BW s).length<=1000000:=Fb (GT s)
theorem Adf(a b:AN)(ha:BF a)(hb:BF b):PC 304 [sl Y a,sl Y b] (sl Y (Vi a b)):=by
 have h1:=mv b hb;have h2:=K6 b;have h3:=K6 a;have h4:=K6 (BW b);have hc:=y7 [a,BW b] aa0 (fun s hs=>by
  grind) (by
  grind)
 refine Ps Dc func304 rfl C4 (C1 (U (h1) (C1 (U (hc) ?_))));exact .refl _
theorem vQ(s:CS):PC 164 [vs s] (I (CK s)):=by
 refine Ps Dc func164 rfl C4 (J (fun h=>?_) (fun h=>?_))
 .exact E I (show true=CK s by grind [CK])
 refine J (fun h2=>?_) (fun h2=>?_)
 .exact E I (show true=CK s by grind [CK])
 exact E I (show false=CK s by grind [CK])
def M6:Nat->Int
 |0=>v.a
 |1=>v.b
 |_=>v.c
abbrev fZ:C0:=[[G v.a],[G v.b],[G v.c]]
theorem QX(h:i<3):(fZ v)[((i:Nat):Int).toNat]?=some [G (M6 v i)]:=by
 rw[GO]
 match i,h with
 |0,_=>rfl
 |1,_=>rfl
 |2,_=>rfl
theorem mN(hi:i<3)(h:∀j,j<i->M6 a j=M6 b j)(hl:M6 a i<M6 b i):JI a b=-1:=by
 match i,hi,h,hl with
 |0,_,h,hl=>
  have hl:a.a<b.a:=hl
  grind [JI,Gk]
 |1,_,h,hl=>
  have hl:a.b<b.b:=hl;have h0:a.a=b.a:=h 0 Wk
  grind [JI,Gk]
 |2,_,h,hl=>
  have hl:a.c<b.c:=hl;have h0:a.a=b.a:=h 0 Wk;have h1:a.b=b.b:=h 1 Wk
  grind [JI,Gk]
theorem mM(hi:i<3)(h:∀j,j<i->M6 a j=M6 b j)(hl:M6 b i<M6 a i):JI a b=1:=by
 match i,hi,h,hl with
 |0,_,h,hl=>
  have hl:b.a<a.a:=hl
  grind [JI,Gk]
 |1,_,h,hl=>
  have hl:b.b<a.b:=hl;have hn:¬a.b<b.b:=Wk
  have h0:a.a=b.a:=h 0 Wk
  grind [JI,Gk]
 |2,_,h,hl=>
  have hl:b.c<a.c:=hl;have hn:¬a.c<b.c:=Wk
  have h0:a.a=b.a:=h 0 Wk;have h1:a.b=b.b:=h 1 Wk
  grind [JI,Gk]
theorem mL(h:∀j,j<3->M6 a j=M6 b j):JI a b=0:=by
 have h0:a.a=b.a:=h 0 Wk;have h1:a.b=b.b:=h 1 Wk;have h2:a.c=b.c:=h 2 Wk
 grind [JI,Gk]
theorem Adx:PC 165 [.agg (Ez a),.agg (Ez b)] (G (JI a b)):=by
 refine Ps (DJ []) func165 rfl C4 (Z {i:Nat // i<=3/\∀j,j<i->M6 a j=M6 b j} (Z (fun i=>⟨[(5,.slice (.id 14 1) (fZ a)),(6,.slice (.id 21 1) (fZ b)),(7,G i.1)],[(14,.tok 1 3),(21,.tok 1 3)],Af⟩) (Z (fun i=>3-i.1) (J (Z ⟨0,Ak _,fun j h=>by omega⟩ ?_) ?_))))
 .exact⟨Z3,Z2,Fh,W⟩
 intro⟨i,i1,i2⟩;refine J (fun h=>?_) (fun h=>?_)
 .have h:(i:Int)<3:=h;have h:i<3:=Wk
  refine Z [G (M6 a i)] (J (J Wk (QX a i h)) (J rfl (Z [G (M6 b i)] (J (J Wk (QX b i h)) (J rfl (J (fun h2=>?_) (fun h2=>?_)))))))
  .refine J aa4 ?_;exact E G (mN a b i h i2 h2).symm
  refine J aa4 (Z [G (M6 a i)] (J (J Wk (QX a i h)) (J rfl (Z [G (M6 b i)] (J (J Wk (QX b i h)) (J rfl (J (fun h3=>?_) (fun h3=>?_))))))))
  .refine J aa4 ?_;exact E G (mM a b i h i2 h3).symm
  refine J aa4 (J (by grind [Au]) (Z ⟨i+1,by omega,fun j hj=>?_⟩ ?_))
  .grind
  exact⟨by grind,Z3,Z2,Fh,W⟩
 .have h:¬(i:Int)<3:=h;exact E G (mL a b fun j hj=>i2 j Wk).symm
theorem Adc(a b:Rl):PC 91 [.agg (V a),.agg (V b)] (G (I7 a b)):=by
 have hc:=Adx a.ver b.ver;refine Ps Dc func91 rfl C4 (J (fun h=>?_) (fun h=>?_))
 .exact E G (show(-1:Int)=I7 a b by grind [I7,JH,DZ])
 refine J (fun h2=>?_) (fun h2=>?_)
 .exact E G (show(1:Int)=I7 a b by grind [I7,JH,DZ])
 refine J C4 (yN (C1 (U (hc) ?_)));exact E G (show JI a.ver b.ver=I7 a b by grind [I7,JH,DZ])
theorem Adb(r:Rl)(hr:Eo r):PC 90 [.agg (V r)] (G (CE r)):=by
 have h1:=dZ r.path hr.1;have h2:=rb r.ver;have h3:=c68 dZ jU r.reqs hr.2;have h4:=vQ r.arch;have h5:=vQ r.ifc;have h6:=vQ r.cert;obtain⟨N,hN⟩:∃N,N=CE r:=⟨_,rfl⟩;rw[<-hN];refine Ps Dc func90 rfl C4 (C1 (U (h1) (J (fun h=>?_) (fun h=>?_))))
 .exact E G (show(4:Int)=N by
   grind [bK,CE])
 refine Al (show ∃m,AP r.path=some m by
  grind) (fun m hp=>?_)
 have em:kJ r.path=m:=aa2
 have hN:N=if !Bv r.ver||!decide (r.ver.a=m)then 2 else if AK r.reqs≠0 then AK r.reqs else if CK r.arch&&CK r.ifc&&CK r.cert then 0 else 1:=by
  grind [CE]
 refine yN (Ay (Bt (Bv r.ver)).symm (fun e=>?_) (fun e=>?_))
 .rw[e]at h2;refine C1 (U (h2) ?_);exact E G (show(2:Int)=N by simp_all)
 rw[e]at h2;refine C1 (U (h2) (J (fun h7=>?_) (fun h7=>?_)))
 .exact E G (show(2:Int)=N by simp_all)
 have hN:N=if AK r.reqs≠0 then AK r.reqs else if CK r.arch&&CK r.ifc&&CK r.cert then 0 else 1:=by
  simp_all
 refine C1 (U (h3) (J (fun h8=>?_) (fun h8=>?_)))
 .exact E G (show AK r.reqs=N by omega)
 have hN:N=if CK r.arch&&CK r.ifc&&CK r.cert then 0 else 1:=Wk
 refine Ay (Bt (CK r.arch)).symm (fun e1=>?_) (fun e1=>?_)
 .rw[e1]at h4;refine C1 (U (h4) ?_);exact E G (show(1:Int)=N by simp_all)
 rw[e1]at h4;refine C1 (U (h4) (Ay (Bt (CK r.ifc)).symm (fun e2=>?_) (fun e2=>?_)))
 .rw[e2]at h5;refine C1 (U (h5) ?_);exact E G (show(1:Int)=N by simp_all)
 rw[e2]at h5;refine C1 (U (h5) (Ay (Bt (CK r.cert)).symm (fun e3=>?_) (fun e3=>?_)))
 .rw[e3]at h6;refine C1 (U (h6) ?_);exact E G (show(1:Int)=N by simp_all)
 rw[e3]at h6;refine C1 (U (h6) ?_);exact E G (show(0:Int)=N by simp_all)
theorem ap{a b:Rl}(h:Cr a=Cr b):I7 a b=0:=by
 grind [Xs,I7,JH,JI,Gk,Dd]
theorem ul(x:List Rl)(ifs:C0)(hs:∀r∈x,Eo r):PC 44 [GM x ifs] (G (Aw x)):=by
 refine Ps (DJ []) func44 rfl C4 (Al (show ∃N,N=Aw x from⟨_,rfl⟩) (fun N hN=>?_));refine J (fun h=>?_) (fun h=>?_)
 .exact E G (show(7:Int)=Aw x by grind [Aw])
 have hl:x.length<=256:=aa2
 have UQ:Aw x=BR none x:=by grind [Aw]
 refine Z {i:Nat // i<=x.length/\BR none x=BR (Yg x i) (x.drop i)} (Z (fun i=>⟨[(3,sl V x),(4,G i.1)],[],Af⟩) (Z (fun i=>x.length-i.1) (J (Z ⟨0,Ak _,rfl⟩ ?_) ?_)))
 .exact⟨Z2,W,Fh,W⟩
 intro⟨i,h1,h2⟩;refine J (fun h=>?_) (fun h=>?_)
 .skip
  have h:i<x.length:=aa0
  have hg:x[i]?=some x[i]:=Ge h;have hd:x.drop i=x[i]::x.drop (i+1):=Bf h;have hc:=Adb x[i] (hs x[i] (Ag h));have J7:BR none x=if CE x[i]≠0 then CE x[i]else match Yg x i with
   |none=>BR (some x[i]) (x.drop (i+1))
   |some b=>if Cr b=Cr x[i]then 5 else if 0<I7 b x[i]then 1 else BR (some x[i]) (x.drop (i+1)):=by rw[h2,hd];rfl
  have uI:Yg x (i+1)=some x[i]:=Ge h;refine Z (V x[i]) (J (J Wk aa2) (J rfl (yN (C1 (U (hc) (J (fun h3=>?_) (fun h3=>?_)))))))
  .exact E G (show CE x[i]=Aw x by omega)
  rw[AL h3]at J7;refine J (fun h4=>?_) (fun h4=>?_)
  .have h4:(0:Int)<i:=h4;have hk:i-1<x.length:=Wk
   have gX:x[i-1]?=some x[i-1]:=Ge hk;have hn:((i:Int)-1).toNat=i-1:=Wk
   have hb:Yg x i=some x[i-1]:=by
    grind
   rw[hb]at J7;have J7:BR none x=if Cr x[i-1]=Cr x[i]then 5 else if 0<I7 x[i-1] x[i]then 1 else BR (some x[i]) (x.drop (i+1)):=J7
   have Xh:=Adc x[i-1] x[i];have OU:(0:Int)<=(i:Int)-1/\(x.map V)[((i:Int)-1).toNat]?=some (V x[i-1]):=⟨by omega,by rw[hn];grind⟩;refine J (show Au ((i:Int)-1) by unfold Au;omega) (Z (V x[i-1]) (J OU (J rfl (yN (Z (V x[i]) (J (J Wk (by simp[hg])) (J rfl ?_)))))));refine yN (U (Xh) (J (fun h5=>?_) (fun h5=>?_)))
   .have h5:I7 x[i-1] x[i]=0:=h5;refine J aa4 ?_;exact E G (show(5:Int)=Aw x by rw[UQ,J7,A1 (W3 h5)])
   have h5:¬I7 x[i-1] x[i]=0:=h5;refine J aa4 (J (fun _=>?_) (fun h9=>absurd h4 h9));refine J (show Au ((i:Int)-1) by unfold Au;omega) (Z (V x[i-1]) (J OU (J rfl (yN (Z (V x[i]) (J (J Wk (by simp[hg])) (J rfl ?_)))))));refine yN (U (Xh) (J (fun h6=>?_) (fun h6=>?_)))
   .have h6:0<I7 x[i-1] x[i]:=h6;refine J aa4 ?_;exact E G (show(1:Int)=Aw x by rw[UQ,J7,AL (fun e=>h5 (ap e)),A1 h6])
   have h6:¬0<I7 x[i-1] x[i]:=h6;refine J aa4 (J (Ii i Wk) (Z ⟨i+1,by omega,by rw[J7,AL (fun e=>h5 (ap e)),AL h6,uI]⟩ ?_));exact⟨Dl x.length i Wk,Z2,W,Fh,W⟩
  have h4:¬(0:Int)<i:=h4;have hb:Yg x i=none:=by
   grind
  rw[hb]at J7;have J7:BR none x=BR (some x[i]) (x.drop (i+1)):=J7;refine J aa4 (J (fun h9=>absurd h9 h4) (fun _=>?_));refine J aa4 (J (by grind [Au]) (Z ⟨i+1,by omega,by grind⟩ ?_));exact⟨by grind,Z2,W,Fh,W⟩
 .skip
  have h:¬(i:Int)<(x.map V).length:=h;have h:¬i<x.length:=aa0
  have e:(0:Int)=Aw x:=by rw[UQ,h2,H4 Wk];rfl
  exact E G e
theorem c37(x:List Rl)(ifs:C0)(roots:List Rq)(hs:∀r∈x,Eo r)(hq:∀q∈roots,G5 q):PC 166 [GM x ifs,sl Ac roots] (I (decide (Aw x=0)&&decide (AK roots=0))):=by
 have h1:=ul x ifs hs;have h2:=c68 dZ jU roots hq;refine Ps Dc func166 rfl C4 (yN (C1 (U (h1) (J (fun h=>?_) (fun h=>?_)))))
 .refine C1 (U (h2) (J (fun h3=>?_) (fun h3=>?_)))
  .exact E I (show true=_ by simp_all)
  .exact E I (show false=_ by simp_all)
 .exact E I (show false=_ by simp_all)
theorem y8:PC 355 [.agg (M t)] (I (!t.absent&&decide (t.set=[]))):=by
 refine Ps Dc func355 rfl C4 (J (fun h=>?_) (fun h=>?_))
 .exact E I (show false=_ by simp_all)
 refine J (fun h2=>?_) (fun h2=>?_)
 .have h2:t.set=[]:=Az aa0;exact E I (show true=_ by simp_all)
 .have h2:¬t.set=[]:=fun e=>h2 aa0;exact E I (show false=_ by simp_all)
theorem y9(ht:BF t.set):PC 356 [.agg (M t)] (I (t.absent&&decide (t.set=[(0,1000000)]))):=by
 have hc:=c75 t.set [(0,1000000)] ht;refine Ps Dc func356 rfl C4 (J (fun h=>?_) (fun h=>?_))
 .refine U (AdG) (U (hc) (J aa4 ?_));exact E I (show decide (t.set=[(0,1000000)])=_ by simp_all)
 .refine J aa4 ?_;exact E I (show false=_ by simp_all)
theorem yW(hq:BF q.set):PC 303 [.agg (Ac q)] (.agg (M ⟨q.path,true,BW q.set⟩)):=by
 have hc:=mv q.set hq;refine Ps Dc func303 rfl C4 (U (hc) (yN (J aa4 (yN ?_))));exact .refl _
theorem JG(l:List Tm)(hl:BF l)(p:CS):PC 308 [sl M l,vs p] (match l.find? (fun t=>decide (t.path=p))with | some t=>.tup [.agg (M t),I true] | none=>.tup [.agg [vs ⟨#[]⟩,I false,BY],I false]):=by
 have hl:l.length<=1073741824:=hl;obtain⟨R,hR⟩:∃R,R=(match l.find? (fun t=>decide (t.path=p))with | some t=>AV.tup [.agg (M t),I true] | none=>.tup [.agg [vs ⟨#[]⟩,I false,BY],I false]):=⟨_,rfl⟩;rw[<-hR];refine Ps Dc func308 rfl C4 (Z {i:Nat // i<=l.length/\∀j (hj:j<l.length),j<i->l[j].path≠p} (Z (fun i=>⟨[(0,sl M l),(1,vs p),(4,.ref 4 0),(6,G i.1)],[(4,.cells [vs ⟨#[]⟩,I false,BY])],Af⟩) (Z (fun i=>l.length-i.1) (J (Z ⟨0,Ak _,fun j _ h=>by omega⟩ ?_) ?_))))
 .exact⟨Z4,Z1,Fh,W⟩
 intro⟨i,h1,h2⟩;refine J (fun h=>?_) (fun h=>?_)
 .skip
  have h:(i:Int)<(l.map M).length:=h;have h:i<l.length:=aa0
  have hg:l[i]?=some l[i]:=Ge h;refine Z (M l[i]) (J (J Wk aa0) (J rfl ?_));refine J (fun h3=>?_) (fun h3=>?_)
  .have h3:l[i].path=p:=h3;refine Z (M l[i]) (J (J Wk aa0) (J rfl ?_));refine J C4 (yN ?_);have ef:l.find? (fun t=>decide (t.path=p))=some l[i]:=by
    grind [List.find?_eq_some_iff_getElem]
   refine yN ?_;exact .of_eq (show AV.tup [.agg (M l[i]),I true]=R by simp_all)
  have h3:¬l[i].path=p:=h3;refine J (by grind [Au]) (Z ⟨i+1,by omega,fun j hj F6=>?_⟩ ?_)
  .grind
  exact⟨by grind,Z4,Z1,Fh,W⟩
 .skip
  have h:¬(i:Int)<(l.map M).length:=h;have h:¬i<l.length:=aa0
  have ef:l.find? (fun t=>decide (t.path=p))=none:=by
   grind [List.getElem_of_mem]
  refine yN (yN ?_);exact .of_eq (show AV.tup [.agg [vs ⟨#[]⟩,I false,BY],I false]=R by simp_all)
abbrev tU(A:List Tm):AV:=.slice (.id d 3) (A.map M)
theorem vH(l:List Tm)(hl:BF l)(p:CS):PC 310 [sl M l,vs p] (sl M (l.filter fun t=>!decide (t.path=p))):=by
 have hl:l.length<=1073741824:=hl;refine Ps (DJ [4]) func310 rfl C4 (Z {q:Nat×List Tm // q.1<=l.length/\q.2=(l.take q.1).filter fun t=>!decide (t.path=p)} (Z (fun q=>⟨[(0,sl M l),(1,vs p),(5,tU 7 q.1.2),(6,G q.1.1)],[(7,.tok 3 q.1.2.length)],Af⟩) (Z (fun q=>l.length-q.1.1) (J (Z ⟨(0,[]),Ak _,rfl⟩ ?_) ?_))))
 .exact⟨Z4,Z1,Fh,W⟩
 intro⟨⟨i,A⟩,i1,i2⟩;have i1:i<=l.length:=i1;have i2:A=(l.take i).filter fun t=>!decide (t.path=p):=i2;have hA:A.length<=i:=by
  grind
 refine J (fun h=>?_) (fun h=>?_)
 .skip
  have h:(i:Int)<(l.map M).length:=h;have h:i<l.length:=aa0
  have hg:l[i]?=some l[i]:=Ge h;refine Z (M l[i]) (J (J Wk aa0) (J rfl ?_));have etk:(l.take (i+1)).filter (fun t=>!decide (t.path=p))=A++[l[i]].filter (fun t=>!decide (t.path=p)):=by grind [List.take_add_one]
  refine J (fun h3=>?_) (fun h3=>?_)
  .have h3:l[i].path≠p:=h3;refine Z (M l[i]) (J (J Wk aa0) (J rfl ?_));refine yN ?_;have De:A7 3 [M l[i]]/\(A.map M).length=A.length/\((A.map M).length+[M l[i]].length)*48<=140737488355328/\(A.map M).length+[M l[i]].length<=9223372036854775807:=
    ⟨⟨rfl,trivial⟩,by simp_all,by grind,by grind⟩
   refine J De (Al (show ∃B,B=A++[l[i]]from⟨_,rfl⟩) (fun B hB=>?_));have e1:AV.slice (.id 7 3) (A.map M++[M l[i]])=tU 7 B:=aa0
   have e2:HO.tok 3 ((A.map M).length+[M l[i]].length)=.tok 3 B.length:=aa0
   refine cU [(0,sl M l),(1,vs p),(5,tU 7 B),(6,G i)] [(7,.tok 3 B.length)] ⟨X,X,⟨e1,rfl⟩,X,W⟩ ⟨⟨e2,rfl⟩,W⟩ (J (Ii i Wk) (Z ⟨(i+1,B),by omega,by simp_all⟩ ?_));exact⟨Dl l.length i Wk,Z4,Z1,Fh,W⟩
  have h3:¬l[i].path≠p:=h3;refine cU [(0,sl M l),(1,vs p),(5,tU 7 A),(6,G i)] [(7,.tok 3 A.length)] Z4 Z1 (J (Ii i Wk) (Z ⟨(i+1,A),by omega,by simp_all⟩ ?_));exact⟨Dl l.length i Wk,Z4,Z1,Fh,W⟩
 .skip
  have h:¬(i:Int)<(l.map M).length:=h;have h:¬i<l.length:=aa0
  exact E (sl M) (show A=_ by grind)
end Go.Eng
