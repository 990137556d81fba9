/- Lemmas 21. -/
import Derived.Test.YtkjhcikodmiceaaGreatDoorVA20
namespace Go.Eng
open Go.Proofs Go.Proofs.Tryz
variable {n m:Int}{j:Nat}{A:AL}(s:AL)(a:Ver)(l:List AL)(q:Rq)(x:Int×Int)(v:Ver)(d:Nat)(t:Tm)(p:CS)(b:Ver)(i k:Nat)
theorem bz{s:List UInt8}(h:Gr s=some n):0<=n:=by
 cases s with
 |nil=>grind [Gr]
 |cons c r=>
  have h:(if c=118 then(if(r.isEmpty||decide (3<r.length)||(decide (1<r.length)&&decide (r.headD 0=48))||!r.all Cn)=true then none else some (DW r))else none)=some n:=h
  by_cases hc:c=118
  .rw[A3 hc]at h
   by_cases hb:(r.isEmpty||decide (3<r.length)||(decide (1<r.length)&&decide (r.headD 0=48))||!r.all Cn)=true
   .grind
   .rw[AN hb]at h;have ha:r.all Cn=true:=by
     simp_all
    rw[<-DU h]
    suffices hh:∀i,i<=r.length->0<=DW (r.take i) by
     grind [List.take_length]
    intro i
    induction i with
    |zero=>intro _;exact Cb _
    |succ i ih=>
     grind [Jw,KT]
  simp_all
theorem ny{l:List UInt8}{x:CS}(h:(bG l)[(bG l).length-1]?=some x):(CD 47 l).getLastD []=x.data.toList:=by
 rw[Lm,BK,<-List.getLast?_eq_getElem?]at h;obtain⟨y,hy,e⟩:=B3.1 h;rw[List.getLastD_eq_getLast?,hy,<-e];rfl
theorem xk(hp:Fl p):PC 118 [vs p] (QV (AT p)):=by
 have FI:p.size=p.data.toList.length:=by simp
 have hc:=AbF p hp;unfold Fl at hp;obtain⟨A,hA⟩:∃A,A=bG p.data.toList:=⟨_,rfl⟩;rw[<-hA]at hc;have hAl:A.length=(CD 47 p.data.toList).length:=by grind
 have qw:=Vm 47 p.data.toList;have oQ:0<A.length:=by grind [K3]
 have ml:∀x∈A,x.data.toList.length<4611686018427387904:=fun x hx=>by
  obtain⟨y,hy,e⟩:=Ar.1 (hA▸hx:x∈bG p.data.toList);have h5:=LO 47 _ y hy;rw[<-e];show y.length<_;omega
 have GB:(CD 47 p.data.toList).all HH=A.all fun x=>HH x.data.toList:=by rw[hA,List.all_map];rfl
 have ET:A.length-1<A.length:=by omega
 have hg:A[A.length-1]?=some A[A.length-1]:=Ge ET;have ft:(CD 47 p.data.toList).getLastD []=A[A.length-1].data.toList:=by
  grind [ny]
 have em:AT p=match Gr A[A.length-1].data.toList with
  |none=>none
  |some n=>if(decide (64<p.data.toList.length)||decide (A.length<2))=true then none else if(A.all fun x=>HH x.data.toList)=true then some n else none:=by
  grind [AT,QW]
 clear GB ft
 have hv:=AbH A[A.length-1] (ml _ (Ah ET));obtain⟨o,ho⟩:∃o,o=Gr A[A.length-1].data.toList:=⟨_,rfl⟩;rw[<-ho]at hv em;have hz:∀n,o=some n->0<=n:=fun n e=>by
  rw[e]at ho;exact bz ho.symm
 refine Ps (DB [4,9,10]) func118 rfl (Nz rfl) (Yi (fun h=>?_) (fun h=>?_))
 .exact .of_eq (Aa QV (show(none:Option Int)=AT p by grind))
 have d1:decide (64<p.data.toList.length)=false:=Aq Wk;refine C1 (C2 (hc) (cU [(4,sl GN A)] [] Z1 Tv (Xi {i:Nat // i<=A.length/\∀j (hj:j<A.length),j<i->HH (A[j]).data.toList=true} (Xi (fun i=>⟨[(4,sl GN A),(5,vi i.1)],[],Af⟩) (Xi (fun i=>A.length-i.1) (Yi (Xi ⟨0,Al _,fun j _ h=>by omega⟩ ?_) ?_))))))
 .exact⟨Z2,Tv,Fh,Tv⟩
 intro⟨i,i1,i2⟩;refine Yi (fun h2=>?_) (fun h2=>?_)
 .have h2:i<A.length:=by grind
  have hg:A[i]?=some A[i]:=Ge h2;refine Xi (GN A[i]) (Yi (Yi Wk (by grind)) (Yi rfl ?_));have hn:=AbG A[i] (ml _ (Ah h2));refine Ax (Bt (HH A[i].data.toList)).symm (fun e1=>?_) (fun e1=>?_)
  .rw[e1]at hn;refine C1 (C2 (hn) ?_);have e2:(A.all fun x=>HH x.data.toList)=false:=by
    grind
   exact .of_eq (Aa QV (show(none:Option Int)=AT p by
    grind))
  rw[e1]at hn;refine C1 (C2 (hn) (Yi (by grind [Au]) (Xi ⟨i+1,by omega,fun j hj GC=>?_⟩ ?_)))
  .grind
  .exact⟨by grind,Z2,Tv,Fh,Tv⟩
 have h2:¬i<A.length:=by grind
 have e2:(A.all fun x=>HH x.data.toList)=true:=A0.2 fun x hx=>by
  grind [List.getElem_of_mem]
 have em:AT p=match(generalizing:=false) o with
  |none=>none
  |some n=>if decide (A.length<2)=true then none else some n:=by
  grind
 refine cU [(4,sl GN A)] [] Z1 Tv ?_
 have ZO:(((A.map GN).length:Int)-1).toNat=A.length-1:=by grind
 refine Yi (by grind [Au]) (Xi (GN A[A.length-1]) (Yi (Yi (by grind) (by rw[ZO];grind)) (Yi rfl ?_)));refine C1 (C2 (hv) ?_);refine Ao (show ∃z:Int,VU o=vi z/\(z<0↔o=none)/\∀n,o=some n->z=n by
  grind) (fun z hz2=>?_)
 refine cU [(4,sl GN A),(6,vi z)] [] ⟨Zr,⟨hz2.1,rfl⟩,Tv⟩ Tv (Yi (fun h3=>?_) (fun h3=>?_))
 .rw[Lm]at h3;exact .of_eq (Aa QV (show(none:Option Int)=AT p by grind))
 rw[Lm]at h3;refine Yi (fun h4=>?_) (fun h4=>?_)
 .exact .of_eq (Aa QV (show(none:Option Int)=AT p by grind))
 refine Ao (show ∃n,o=some n by
  grind) (fun n hn=>?_)
 exact .of_eq (show AV.tup [vi z,vi 0]=QV (AT p) by grind)
theorem Aby(hp:Fl p):PC 117 [vs p] (vb (AT p).isSome):=by
 have hc:=xk p hp;cases h:AT p with
 |none=>
  rw[h]at hc;refine Ps CX func117 rfl (Nz rfl) (C1 (C2 (hc) (Yi ?_ ?_)))
  .intro h;exact absurd (show(4:Int)=0 from h) aa1
  .intro _;exact .refl _
 |some n=>
  rw[h]at hc;refine Ps CX func117 rfl (Nz rfl) (C1 (C2 (hc) (Yi ?_ ?_)))
  .intro _;exact .refl _
  .intro h;exact absurd rfl h
theorem c70(x:List Rl)(ifs:C0)(p:CS)(pl:Int)(hx:BO x)(hv:∀r∈x,By r.ver=true):PC 244 [Jf x ifs,vs p,vi pl] (G5 (Dj x p pl)):=by
 unfold BO at hx;refine Ps (DB [5]) func244 rfl (Nz rfl) (Xi {i:Nat // i<=x.length/\∀j (hj:j<x.length),j<i->(decide (x[j].path=p)&&decide (plc x[j].ver=pl))=false} (Xi (fun i=>⟨[(1,vs p),(2,vi pl),(3,.ref 3 0),(6,.ref 6 0),(8,vi i.1)],[(3,.cells (Ic x ifs)),(6,.cells YI)],Af⟩) (Xi (fun i=>x.length-i.1) (Yi (Xi ⟨0,Al _,fun j _ h=>by omega⟩ ?_) ?_))))
 .exact⟨Z5,Z2,Fh,Tv⟩
 intro⟨i,h1,h2⟩;refine Yi ?_ ?_
 .intro h;have h:(i:Int)<(x.map Am).length:=h;have h:i<x.length:=by simp_all
  have hg:x[i]?=some x[i]:=Ge h;refine Xi (Am x[i]) (Yi (Yi Wk (by simp_all)) (Yi rfl ?_));have qw:place x[i].ver=plc x[i].ver:=by grind [plc]
  refine Yi (Nz rfl) (yN (cU [(1,vs p),(2,vi pl),(3,.ref 3 0),(6,.ref 6 0),(8,vi i),(9,.ref 9 0)] [(3,.cells (Ic x ifs)),(6,.cells YI),(9,.cells (Am x[i]))] Z6 Z3 ?_))
  have next:(decide (x[i].path=p)&&decide (plc x[i].ver=pl))=false->∀j (hj:j<x.length),j<i+1->(decide (x[j].path=p)&&decide (plc x[j].ver=pl))=false:=fun hf j hj GC=>by
   grind
  refine Yi ?_ ?_
  .intro hp;have hp:x[i].path=p:=hp;refine yN (C1 (C2 (wb x[i].ver (hv _ (Ah h))) (Yi ?_ ?_)))
   .intro hq;have hq:place x[i].ver=pl:=hq;have hr:Dj x p pl=some x[i]:=TS h (fun j hj GC=>h2 j hj GC) (by simp_all);refine Yi (Nz rfl) (Yi (Nz rfl) (yN ?_));exact .of_eq (show AV.tup [.agg (Am x[i]),vb true]=G5 (Dj x p pl) by rw[hr])
   .intro hq;have hq:¬place x[i].ver=pl:=hq;refine Yi (by grind [Au]) (Xi ⟨i+1,by omega,next (by simp_all)⟩ ?_)
    exact⟨Dl x.length i Wk,Z5,Z2,Fh,Tv⟩
  .intro hp;have hp:¬x[i].path=p:=hp;refine Yi (by grind [Au]) (Xi ⟨i+1,by omega,next (by simp_all)⟩ ?_)
   exact⟨by grind,Z5,Z2,Fh,Tv⟩
 .intro h;have h:¬(i:Int)<(x.map Am).length:=h;have h:¬i<x.length:=by simp_all
  have hr:Dj x p pl=none:=QP fun j hj=>h2 j hj Wk;refine Yi (Nz rfl) (yN ?_);exact .of_eq (show AV.tup [.agg YI,vb false]=G5 (Dj x p pl) by rw[hr])
theorem v8(s:List Sl)(hs:BO s):PC 59 [sl Ae s] (vb (Bb s)):=by
 unfold BO at hs;refine Ps CX func59 rfl (Nz rfl) ?_;refine Xi {i:Nat // 1<=i/\(s=[]\/i<=s.length)/\Bb s=(match s[i-1]? with | none=>true | some y=>KL (some y.path) (s.drop i))} (Xi (fun i=>⟨[(0,sl Ae s),(3,vi i.1)],[],Af⟩) (Xi (fun i=>s.length-i.1) (Yi (Xi ⟨1,Ap _,by grind,by cases s<;>rfl⟩ ?_) ?_)))
 .exact⟨Z2,Tv,Fh,Tv⟩
 intro⟨i,h1,h2,h3⟩;refine Yi ?_ ?_
 .intro h;have h:i<s.length:=by simp_all
  have hg:s[i]?=some s[i]:=Ge h;have h' : i-1<s.length:=by omega
  have yx : s[i-1]?=some s[i-1]:=Ge h';have e1:((i:Int)-1).toNat=i-1:=by omega
  have mz:Bb s=(Ez s[i-1].path s[i].path&&KL (some s[i].path) (s.drop (i+1))):=by
   grind [ZZ]
  refine Xi (Ae s[i]) (Yi (Yi Wk (by simp_all)) (Yi rfl ?_));refine Yi (by grind [Au]) (Xi (Ae s[i-1]) (Yi (Yi (by grind) (by simp_all)) (Yi rfl ?_)));refine Yi ?_ ?_
  .intro h4;rw[<-D1]at h4;refine Yi aa2 ?_;exact .of_eq (Aa vb (show false=Bb s by simp_all))
  .intro h4;rw[<-D1,RC]at h4;refine Yi aa2 (Yi (by grind [Au]) (Xi ⟨i+1,by omega,.inr Wk,by simp_all⟩ ?_));exact⟨Dl s.length i Wk,Z2,Tv,Fh,Tv⟩
 .intro h;have h:¬i<s.length:=by simp_all
  have yB:Bb s=true:=by
   rcases h2 with h2 | h2
   .grind
   .have e:i=s.length:=by omega
    rw[h3,e,List.drop_length];cases s[s.length-1]?<;>rfl
  exact .of_eq (Aa vb yB.symm)
abbrev SB(s:List Sl):Bool:=s.any fun y=>decide (y.path=q.path)&&has q.set (place y.ver)
theorem c92(s:List Sl)(hq:BO q.set)(hs:BO s)(hv:∀y∈s,By y.ver=true):PC 168 [.agg (Ad q),sl Ae s] (vb (SB q s)):=by
 unfold BO at hs;refine Ps CX func168 rfl (Nz rfl) (Xi {i:Nat // i<=s.length/\∀j (hj:j<s.length),j<i->(decide (s[j].path=q.path)&&has q.set (place s[j].ver))=false} (Xi (fun i=>⟨[(1,sl Ae s),(2,.ref 2 0),(5,vi i.1)],[(2,.cells (Ad q))],Af⟩) (Xi (fun i=>s.length-i.1) (Yi (Xi ⟨0,Al _,fun j _ h=>by omega⟩ ?_) ?_))))
 .exact⟨Z3,Z1,Fh,Tv⟩
 intro⟨i,h1,h2⟩;refine Yi ?_ ?_
 .intro h;have h:(i:Int)<(s.map Ae).length:=h;have h:i<s.length:=by simp_all
  have hg:s[i]?=some s[i]:=Ge h;have next:(decide (s[i].path=q.path)&&has q.set (place s[i].ver))=false->∀j (hj:j<s.length),j<i+1->(decide (s[j].path=q.path)&&has q.set (place s[j].ver))=false:=fun hf j hj GC=>by
   grind
  have hc:=gS q.set (place s[i].ver) hq;refine Xi (Ae s[i]) (Yi (Yi Wk (by simp_all)) (Yi rfl ?_));refine Yi ?_ ?_
  .intro hp;have hp:s[i].path=q.path:=hp;refine Xi (Ae s[i]) (Yi (Yi Wk (by simp_all)) (Yi rfl ?_));refine yN (C2 (wb s[i].ver (hv _ (Ah h))) (Ax (Bt (has q.set (place s[i].ver))) (fun e=>?_) (fun e=>?_)))
   .rw[e]at hc;refine C2 (hc) (Yi aa2 ?_);exact .of_eq (Aa vb (show true=SB q s from(BC.2 ⟨s[i],Ah h,by simp_all⟩).symm))
   .rw[e]at hc;refine C2 (hc) (Yi aa2 (Yi (by grind [Au]) (Xi ⟨i+1,by omega,next (by simp_all)⟩ ?_)))
    exact⟨by grind,Z3,Z1,Fh,Tv⟩
  .intro hp;have hp:¬s[i].path=q.path:=hp;refine Yi aa2 (Yi (by grind [Au]) (Xi ⟨i+1,by omega,next (by simp_all)⟩ ?_))
   exact⟨by grind,Z3,Z1,Fh,Tv⟩
 .intro h;have h:¬(i:Int)<(s.map Ae).length:=h;have h:¬i<s.length:=by simp_all
  have e:SB q s=false:=by
   grind [List.getElem_of_mem]
  exact .of_eq (Aa vb e.symm)
abbrev jf:Int:=match AT p with | none=>-1 | some m=>m
abbrev wK:Prop:=∀p:CS,Fl p->PC 115 [vs p] (vi (jf p))
abbrev wL:Prop:=∀s:AL,BO s->PC 116 [sl Ab s] (sl Ab (canon s))
theorem qY{r:List UInt8}(h:r.all Cn=true):0<=DW r:=by
 have:∀(l:List UInt8) (n:Int),0<=n->(∀c∈l,Cn c=true)->0<=l.foldl (fun n c=>10*n+((c.toNat:Int)-48)) n:=by
  intro l
  induction l<;>grind [Jw]
 exact this r 0 (Cb _) (fun c hc=>A0.1 h c hc)
theorem rW{s:List UInt8}(h:Gr s=some n):0<=n:=by
 unfold Gr at h;split at h
 .split at h
  .split at h
   .cases h
   .rename_i r _ hc;cases h;refine qY ?_;simp_all
  simp_all
 simp_all
theorem mT{p:CS}(h:AT p=some m):0<=m:=by
 unfold AT QW at h;split at h
 .cases h
 .rename_i n e;split at h
  .cases h
  .split at h
   .cases h;exact rW e
   simp_all
theorem ax:jf p<0↔(AT p).isNone=true:=by
 unfold jf;cases h:AT p with
 |none=>simp
 |some m=>have:=mT h;simp_all
theorem c68(iy:wK)(lN:wL)(l:List Rq)(hs:∀q∈l,IE q):PC 58 [sl Ad l] (vi (AH l)):=by
 refine Ps (DB []) func58 rfl (Nz rfl) (Yi ?_ ?_)
 .intro h;exact .of_eq (Aa vi (show(7:Int)=AH l by grind [AH]))
 intro h;have hl:l.length<=16:=by grind
 have Uc:AH l=D2 none l:=by grind [AH]
 refine Xi {i:Nat // i<=l.length/\D2 none l=D2 (JH l i) (l.drop i)} (Xi (fun i=>⟨[(0,sl Ad l),(3,vi i.1)],[],Af⟩) (Xi (fun i=>l.length-i.1) (Yi (Xi ⟨0,Al _,rfl⟩ ?_) ?_)))
 .exact⟨Z2,Tv,Fh,Tv⟩
 intro⟨i,h1,h2⟩;refine Yi ?_ ?_
 .intro h;have h:i<l.length:=by simp_all
  have hg:l[i]?=some l[i]:=Ge h;have hd:l.drop i=l[i]::l.drop (i+1):=Be h;have hq:=hs l[i] (Ah h);have JL:D2 none l=if Hd (JH l i) l[i]=0 then D2 (some l[i].path) (l.drop (i+1))else Hd (JH l i) l[i]:=by rw[h2,hd];rfl
  have fail:∀e:Int,Hd (JH l i) l[i]=e->e≠0->e=AH l:=fun e he hz=>by omega
  have kk:JH l (i+1)=some l[i].path:=YX h;refine Xi (Ad l[i]) (Yi (Yi Wk (by grind)) (Yi rfl (C1 (C2 (iy l[i].path hq.2) (Yi ?_ ?_)))))
  .intro h3;exact .of_eq (Aa vi (fail 4 (by grind [Hd,ax]) aa1))
  intro h3;have hmj:(AT l[i].path).isNone=false:=by
   grind
  have er:Hd (JH l i) l[i]=if(l[i].set.isEmpty||!decide (l[i].set=canon l[i].set)||(match JH l i with | some b=>!Ez b l[i].path | none=>false))=true then 1 else 0:=by unfold Hd;grind
  refine Xi (Ad l[i]) (Yi (Yi Wk (by grind)) (Yi rfl (Yi ?_ ?_)))
  .intro h4;have h5:l[i].set.isEmpty=true:=by
    rw[Lm]at h4;rw[IU];exact Ay Wk
   refine Yi aa2 ?_;exact .of_eq (Aa vi (fail 1 (by grind) aa1))
  intro h4;have h5:l[i].set.isEmpty=false:=by
   grind
  have he:=c75 l[i].set (canon l[i].set) hq.1;refine Xi (Ad l[i]) (Yi (Yi Wk (by grind)) (Yi rfl (Xi (Ad l[i]) (Yi (Yi Wk (by grind)) (Yi rfl (C2 (lN l[i].set hq.1) (Ax (Bt (decide (l[i].set=canon l[i].set))) (fun e=>?_) (fun e=>?_))))))))
  rotate_left
  .rw[e]at he;refine C2 (he) (Yi aa2 ?_);exact .of_eq (Aa vi (fail 1 (by grind) aa1))
  rw[e]at he;refine C2 (he) (Yi aa2 (Yi ?_ ?_))
  .intro h6;have h6:(0:Int)<i:=h6;have h7:i-1<l.length:=by omega
   have hb:JH l i=some l[i-1].path:=by
    grind
   refine Xi (Ad l[i]) (Yi (Yi Wk (by grind)) (Yi rfl (Yi (by grind [Au]) (Xi (Ad l[i-1]) (Yi (Yi Wk (by rw[show((i:Int)-1).toNat=i-1 by omega];grind)) (Yi rfl ?_))))));refine Yi ?_ ?_
   .intro h8;refine Yi aa2 ?_;exact .of_eq (Aa vi (fail 1 (by grind [D1]) aa1))
   .intro h8;have h8:¬Op.bytesLess l[i-1].path.toList l[i].path.toList=false:=h8;have h8:Op.bytesLess l[i-1].path.toList l[i].path.toList=true:=by grind
    refine Yi aa2 (Yi (by grind [Au]) (Xi ⟨i+1,by omega,by grind [D1]⟩ ?_));exact⟨Dl l.length i Wk,Z2,Tv,Fh,Tv⟩
  .intro h6;have h6:¬(0:Int)<i:=h6;have h7:i=0:=by omega
   refine Yi aa2 (Yi (by show Au ((i:Int)+1);grind [Au]) (Xi ⟨i+1,by omega,by grind⟩ ?_));exact⟨Dl l.length i Wk,Z2,Tv,Fh,Tv⟩
 .intro h;have h:¬(i:Int)<(l.map Ad).length:=h;have h:¬i<l.length:=by simp_all
  have e:(0:Int)=AH l:=by rw[Uc,h2,HJ Wk];rfl
  exact .of_eq (Aa vi e)
theorem df(hk:k<p.data.toList.length)(h1:p.data.toList[k]=47)(h2:∀j (hj:j<p.data.toList.length),k<j->p.data.toList[j]≠47):Go.Lib.lastIndex p.data.toList [47]=k:=by
 have hoc:∀i (hi:i<p.data.toList.length),Go.Lib.occAt p.data.toList [47] i=true↔p.data.toList[i]=47:=fun i hi=>by
  grind [Go.Lib.occAt,List.drop_eq_getElem_cons]
 grind [Go.Lib.lastIndex,Go.Lib.lastOcc_spec]
theorem jQ{p:CS}(h:AT p=some m):(47:UInt8)∈p.data.toList:=by
 grind [OR,AT,QW]
theorem w9(hp:Fl p):PC 60 [vs p] (WN UA p):=by
 have hc:=xk p hp;have hi:=Aby p hp;have FI:p.size=p.data.toList.length:=by simp
 unfold WN;cases h:AT p with
 |none=>
  rw[h]at hi;refine Ps CX func60 rfl (Nz rfl) (C1 (C2 (hi) ?_));exact .refl _
 |some n=>
  have qy:=jQ h;rw[h]at hc hi;unfold Fl at hp;refine Ao (show ∃q,∃hq:q<p.data.toList.length,p.data.toList[q]=47 from He qy) (fun q hq=>?_);refine Ao hq (fun hq eq=>?_);refine Ps CX func60 rfl (Nz rfl) (C1 (C2 (hi) (C1 (C2 (hc) (Yi (fun h=>absurd rfl h) (fun _=>?_))))));refine Yi (show Au (((p.size:Nat):Int)-1) by grind [Au]) ?_;refine Xi {k:Nat // k<p.data.toList.length/\∀j (hj:j<p.data.toList.length),k<j->p.data.toList[j]≠47} (Xi (fun k=>⟨[(0,vs p),(5,vi n),(7,vi k.1)],[],Af⟩) (Xi (fun k=>k.1) (Yi (Xi ⟨p.data.toList.length-1,by omega,fun j hj GC=>by omega⟩ ?_) ?_)))
  .have e1:vi (((p.size:Nat):Int)-1)=vi ((p.data.toList.length-1:Nat):Int):=Aa vi Wk;exact⟨⟨Zr,Zr,⟨e1,rfl⟩,Tv⟩,Tv,Fh,Tv⟩
  intro⟨k,k1,k2⟩;have Oo:(0:Int)<=k/\p.data[((k:Nat):Int).toNat]?=some p.data.toList[k]:=⟨by omega,by grind⟩;refine Xi p.data.toList[k] (Yi Oo (Yi (fun h2=>?_) (fun h2=>?_)))
  .have h2:p.data.toList[k]≠47:=fun e=>h2 (by rw[e];rfl);have hqk:q<=k:=by
    grind
   have WB:q≠k:=fun e=>by grind
   refine Yi (show Au ((k:Int)-1) by grind [Au]) ?_;have e1:vi ((k:Int)-1)=vi ((k-1:Nat):Int):=Aa vi Wk;refine Xi ⟨k-1,by omega,fun j hj GC=>?_⟩ ?_
   .grind
   .exact⟨by grind,⟨Zr,Zr,⟨e1,rfl⟩,Tv⟩,Tv,Fh,Tv⟩
  .have h2:p.data.toList[k]=47:=H1.1 (by grind);have el:=df p k k1 h2 k2;refine Yi ⟨Cb _,by grind,by grind⟩ ?_;have e3:p.extract 0 ((k:Nat):Int).toNat=UA p:=by grind
   exact .of_eq (show AV.tup [vs (p.extract 0 ((k:Nat):Int).toNat),vi n,vi 0]=_ by rw[e3])
theorem Ab6(hp:Fl p):PC 115 [vs p] (vi (jf p)):=by
 have hc:=w9 p hp;unfold WN at hc;unfold jf;cases h:AT p with
 |none=>
  rw[h]at hc;refine Ps CX func115 rfl (Nz rfl) (C1 (C2 (hc) (Yi (fun _=>?_) (fun h=>absurd (show(4:Int)≠0 by decide) h))));exact .refl _
 |some m=>
  rw[h]at hc;refine Ps CX func115 rfl (Nz rfl) (C1 (C2 (hc) (Yi (fun h=>absurd rfl h) (fun _=>?_))));exact .refl _
theorem iy:wK:=Ab6
abbrev zo:M5:=⟨[],[(3,0)],[(63,2)],[],[],[],[],[],[],[(112,7)],[4,6,10,11,14,16,17,18]⟩
theorem M3:∀cs∈s.map Ab,cs.length=2:=fun cs h=>by
 grind
theorem Jv{n:Nat}:∀{l:C0},(∀c∈l,c.length=n)->Bh n l
 | [],_=>trivial
 |c::_,h=>⟨h c (Ag ..),Jv fun d hd=>h d (Aj _ hd)⟩
abbrev N6:C0:=((s.map Ab).take (((s.map Ab).length:Nat):Int).toNat).drop ((k:Nat):Int).toNat
theorem nT:N6 s k=(s.drop k).map Ab:=by
 grind [List.take_of_length_le,List.map_drop]
theorem sb(h:s.length<=1073741824):Bh 2 (N6 s k)/\[Ab x].length=1/\([Ab x].length+(N6 s k).length)*16<=140737488355328/\[Ab x].length+(N6 s k).length<=9223372036854775807:=by
 grind [Jv]
abbrev Ud:C0:=((s.map Ab).take ((k:Nat):Int).toNat).drop ((0:Int)).toNat
theorem mf:Ud s k=(s.take k).map Ab:=by
 grind [List.map_take]
theorem d5(hk:k<=s.length)(h:s.length<=1073741824):Bh 2 ([Ab x]++N6 s k)/\(Ud s k).length=((k:Nat):Int).toNat-((0:Int)).toNat/\((Ud s k).length+([Ab x]++N6 s k).length)*16<=140737488355328/\(Ud s k).length+([Ab x]++N6 s k).length<=9223372036854775807:=by
 grind [Jv]
theorem AdG:Ud s k++([Ab x]++N6 s k)=(s.take k++([x]++s.drop k)).map Ab:=by
 grind [nT,mf]
theorem iU{s:AL}(h:j<s.length)(hA:A=(BE (s.take j)).reverse){y:Int×Int}(hy:A[A.length-1]?=some y)(Js:s[j].1<=y.2):A.set (A.length-1) (y.1,max y.2 s[j].2)=(BE (s.take (j+1))).reverse:=by
 rw[FA s j h];cases hr:BE (s.take j)with
 |nil=>simp_all
 |cons z t=>
  have eA:A=t.reverse++[z]:=by simp_all
  have eL:A.length-1=t.reverse.length:=by simp_all
  rw[eL,eA,BQ (Ap _),IX]at hy;have ez:z=y:=DU hy;have e2:JV (z::t) s[j]=(z.1,max z.2 s[j].2)::t:=by show(if s[j].1<=z.2 then _ else _)=_;simp_all
  simp_all
theorem aj{s:AL}(h:j<s.length)(hA:A=(BE (s.take j)).reverse)(hn:∀y,A[A.length-1]?=some y->¬s[j].1<=y.2):A++[s[j]]=(BE (s.take (j+1))).reverse:=by
 rw[FA s j h];cases hr:BE (s.take j)with
 |nil=>rw[hA,hr];rfl
 |cons z t=>
  have eA:A=t.reverse++[z]:=by simp_all
  have eL:A.length-1=t.reverse.length:=by simp_all
  have:=hn z (by simp_all)
  have e2:JV (z::t) s[j]=s[j]::z::t:=by show(if s[j].1<=z.2 then _ else _)=_;simp_all
  simp_all
set_option maxHeartbeats 4000000 in
theorem ca(l:AL)(hl:BO l):PC 116 [sl Ab l] (sl Ab (canon l)):=by
 refine Ps zo func116 rfl (Nz rfl) (Xi {p:Nat×AL // p.1<=l.length/\p.2.Perm (DX (l.take p.1))/\p.2.Pairwise fun a b=>a.1<=b.1} (Xi (fun p=>⟨[(0,sl Ab l),(3,sl Ab p.1.2),(4,vi p.1.1)],[],Af⟩) (Xi (fun p=>l.length-p.1.1) (Yi (Xi ⟨(0,[]),Al _,.refl _,.nil⟩ ?_) ?_))))
 .exact⟨Z3,Tv,Fh,Tv⟩
 intro⟨⟨i,s⟩,i1,i2,i3⟩;have Uh:s.length<=i:=by grind [Ty,List.Perm.length_eq]
 refine Yi (fun h=>?_) (fun h=>?_)
 .skip
  have h:i<l.length:=by simp_all
  have hg:l[i]?=some l[i]:=Ge h;refine Xi (Ab l[i]) (Yi (Yi Wk (by simp_all)) (Yi rfl ?_));refine Xi (Ab l[i]) (Yi (Yi Wk (by simp_all)) (Yi rfl ?_));refine yN (Yi aa2 (Xi ⟨[(0,sl Ab l),(3,sl Ab s),(4,vi i),(5,.ref 5 0)],[(5,.cells (Ab (G8 l[i])))],Af⟩ (Yi ?_ ?_)))
  .have e0:HO.cells [vi (max 0 l[i].1),vi (min 1000000 l[i].2)]=.cells (Ab (G8 l[i])):=by
    rw[Int.max_comm,Int.min_comm];rfl
   exact⟨Z4,⟨⟨e0,rfl⟩,Tv⟩,Fh,Tv⟩
  refine Yi (fun h3=>?_) (fun h3=>?_)
  .refine cU [(0,sl Ab l),(3,sl Ab s),(4,vi i)] [] Z3 Tv (Yi (by grind [Au]) ?_);have e:=Tx h (show ¬(G8 l[i]).1<(G8 l[i]).2 by omega);refine Xi ⟨(i+1,s),by omega,by simp_all,i3⟩ ?_;exact⟨by grind,Z3,Tv,Fh,Tv⟩
  have e:=QJ h (show(G8 l[i]).1<(G8 l[i]).2 by omega);refine Xi {k:Nat // k<=s.length/\∀j (hj:j<s.length),k<=j->(G8 l[i]).1<s[j].1} (Xi (fun k=>⟨[(0,sl Ab l),(3,sl Ab s),(4,vi i),(5,.ref 5 0),(6,vi k.1)],[(5,.cells (Ab (G8 l[i])))],Af⟩) (Xi (fun k=>k.1) (Yi (Xi ⟨s.length,Ap _,fun j hj GC=>by omega⟩ ?_) ?_)))
  .have e1:vi ((s.map Ab).length:Int)=vi (s.length:Int):=by simp_all
   exact⟨⟨Zr,Zr,Zr,Zr,⟨e1,rfl⟩,Tv⟩,Z1,Fh,Tv⟩
  intro⟨k,k1,k2⟩;refine Yi (fun h4=>?_) (fun h4=>?_)
  .have h4:(0:Int)<k:=h4;refine Yi (show Au ((k:Int)-1) by grind [Au]) ?_;have hk:k-1<s.length:=by omega
   have hg:s[k-1]?=some s[k-1]:=Ge hk;have hn:((k:Int)-1).toNat=k-1:=by omega
   refine Xi (Ab s[k-1]) (Yi (Yi Wk (by simp_all)) (Yi rfl ?_));refine Yi (fun h5=>?_) (fun h5=>?_)
   .refine Yi aa2 (Yi (show Au ((k:Int)-1) by grind [Au]) ?_);have e1:vi ((k:Int)-1)=vi ((k-1:Nat):Int):=Aa vi Wk;refine Xi ⟨k-1,by omega,fun j hj GC=>?_⟩ ?_
    .grind
    .exact⟨by grind,⟨Zr,Zr,Zr,Zr,⟨e1,rfl⟩,Tv⟩,Z1,Fh,Tv⟩
   have Vt:k=0\/∃h:k-1<s.length,s[k-1].1<=(G8 l[i]).1:=.inr ⟨hk,by omega⟩;refine Yi aa2 (cU [(0,sl Ab l),(3,sl Ab s),(4,vi i),(5,.ref 5 0),(6,vi k)] [(5,.cells (Ab (G8 l[i])))] Z5 Z1 (Yi (show(0:Int)<=0/\(0:Int)<=k/\(k:Int)=k/\(k:Int)<=((s.map Ab).length:Nat) by simp_all) (Yi (M3 s) (yN (Yi (show(0:Int)<=k/\(k:Int)<=((s.map Ab).length:Nat)/\(((s.map Ab).length:Nat):Int)<=((s.map Ab).length:Nat) by simp_all) (Yi (M3 s) ?_))))));refine Yi (sb s (G8 l[i]) k Wk) (Yi (d5 s (G8 l[i]) k k1 Wk) (Yi aa2 (Ao (show ∃t,t=s.take k++([G8 l[i]]++s.drop k)from⟨_,rfl⟩) (fun t ht=>?_))));refine Xi ⟨[(0,sl Ab l),(3,sl Ab t),(4,vi i)],[],Af⟩ (Yi ?_ ?_)
   .have e3:AV.slice .none (Ud s k++([Ab (G8 l[i])]++N6 s k))=sl Ab t:=by grind [AdG]
    exact⟨⟨Zr,⟨e3,rfl⟩,Zr,Tv⟩,Tv,Fh,Tv⟩
   refine Yi (by grind [Au]) (Xi ⟨(i+1,t),by omega,by grind [mL],by grind [Ur]⟩ ?_);exact⟨Dl l.length i Wk,Z3,Tv,Fh,Tv⟩
  .have h4:¬(0:Int)<k:=h4;have Vt:k=0\/∃h:k-1<s.length,s[k-1].1<=(G8 l[i]).1:=.inl Wk;refine Yi aa2 (cU [(0,sl Ab l),(3,sl Ab s),(4,vi i),(5,.ref 5 0),(6,vi k)] [(5,.cells (Ab (G8 l[i])))] Z5 Z1 (Yi (show(0:Int)<=0/\(0:Int)<=k/\(k:Int)=k/\(k:Int)<=((s.map Ab).length:Nat) by omega) (Yi (M3 s) (yN (Yi (show(0:Int)<=k/\(k:Int)<=((s.map Ab).length:Nat)/\(((s.map Ab).length:Nat):Int)<=((s.map Ab).length:Nat) by omega) (Yi (M3 s) ?_))))));refine Yi (sb s (G8 l[i]) k Wk) (Yi (d5 s (G8 l[i]) k k1 Wk) (Yi aa2 (Ao (show ∃t,t=s.take k++([G8 l[i]]++s.drop k)from⟨_,rfl⟩) (fun t ht=>?_))));refine Xi ⟨[(0,sl Ab l),(3,sl Ab t),(4,vi i)],[],Af⟩ (Yi ?_ ?_)
   .have e3:AV.slice .none (Ud s k++([Ab (G8 l[i])]++N6 s k))=sl Ab t:=by grind
    exact⟨⟨Zr,⟨e3,rfl⟩,Zr,Tv⟩,Tv,Fh,Tv⟩
   refine Yi (Ii i Wk) (Xi ⟨(i+1,t),by omega,by grind,by show t.Pairwise _;rw[ht];exact Ur s _ k i3 k2 Vt⟩ ?_);exact⟨Dl l.length i Wk,Z3,Tv,Fh,Tv⟩
 .skip
  have h:¬i<l.length:=by simp_all
  have fin:(BE s).reverse=canon l:=LV (by grind) i3;refine cU [(3,sl Ab s)] [] Z1 Tv (Xi {p:Nat×AL // p.1<=s.length/\p.2=(BE (s.take p.1)).reverse} (Xi (fun p=>⟨[(3,sl Ab s),(7,.msl 63 p.1.2.length),(8,vi p.1.1)],[(63,G3 p.1.2)],Af⟩) (Xi (fun p=>s.length-p.1.1) (Yi (Xi ⟨(0,[]),Al _,rfl⟩ ?_) ?_))))
  .exact⟨Z3,Z1,Fh,Tv⟩
  intro⟨⟨j,A⟩,j1,hA⟩;have j1:j<=s.length:=j1;have hA:A=(BE (s.take j)).reverse:=hA;have hAl:A.length<=j:=by grind [OB]
  refine Yi (fun h2=>?_) (fun h2=>?_)
  .have h2:(j:Int)<((s.map Ab).length:Int):=h2;have h2:j<s.length:=by simp_all
   have hgj:s[j]?=some s[j]:=Ge h2;refine cU [(3,sl Ab s),(7,.msl 63 A.length),(8,vi j),(9,vi A.length)] [(63,G3 A)] Z4 Z1 (Yi (fun h3=>?_) (fun h3=>?_))
   .have h3:(0:Int)<A.length:=h3;have uy:Au ((A.length:Int)-1):=by grind [Au]
    have hn:((A.length:Int)-1).toNat=A.length-1:=by omega
    have ZO:(0:Int)<=(A.length:Int)-1/\(A.length:Int)-1<(A.length:Int):=by omega
    have ET:A.length-1<A.length:=by omega
    have hg:A[A.length-1]?=some A[A.length-1]:=Ge ET;have wt:(A.map Ab)[((A.length:Int)-1).toNat]?=some (Ab A[A.length-1]):=by rw[hn];grind
    have hln:A.length=(A.map Ab).length:=by simp_all
    have y6:(0:Int)<=j/\(s.map Ab)[((j:Nat):Int).toNat]?=some (Ab s[j]):=⟨by omega,by simp_all⟩;refine Xi (Ab s[j]) (Yi y6 (Yi rfl (Yi uy (Yi ZO (Yi hln (Xi (Ab A[A.length-1]) (Yi wt (Yi (fun h4=>?_) (fun h4=>?_)))))))))
    .have h4:s[j].1<=A[A.length-1].2:=h4;refine Yi aa2 (cU [(3,sl Ab s),(7,.msl 63 A.length),(8,vi j),(9,vi A.length)] [(63,G3 A)] Z4 Z1 (Yi uy (Yi uy (Yi ZO (Yi hln (Xi (Ab A[A.length-1]) (Yi wt (Xi (Ab s[j]) (Yi y6 (Yi rfl (Yi ZO (Yi hln (Xi (Ab A[A.length-1]) (Yi wt (yN (Yi aa2 (Ao (show ∃B,B=A.set (A.length-1) (A[A.length-1].1,max A[A.length-1].2 s[j].2)from⟨_,rfl⟩) (fun B hB=>?_))))))))))))))))));have e2:HO.arr 2 ((A.map Ab).set ((A.length:Int)-1).toNat [vi A[A.length-1].1,vi (max A[A.length-1].2 s[j].2)])=G3 B:=by simp_all
     have e1:AV.msl 63 A.length=.msl 63 B.length:=by simp_all
     refine cU [(3,sl Ab s),(7,.msl 63 B.length),(8,vi j)] [(63,G3 B)] ⟨Zr,⟨e1,rfl⟩,Zr,Tv⟩ ⟨⟨e2,rfl⟩,Tv⟩ (Yi (Ii j Wk) (Xi ⟨(j+1,B),by omega,by rw[hB];exact iU h2 hA hg h4⟩ ?_));exact⟨by grind,Z3,Z1,Fh,Tv⟩
    have h4:¬s[j].1<=A[A.length-1].2:=h4;have hjn:A++[s[j]]=(BE (s.take (j+1))).reverse:=aj h2 hA fun y hy=>by
     simp_all
    refine Yi aa2 (cU [(3,sl Ab s),(7,.msl 63 A.length),(8,vi j),(9,vi A.length)] [(63,G3 A)] Z4 Z1 (Xi (Ab s[j]) (Yi y6 (Yi rfl (yN ?_)))));have CY:Bh 2 [Ab s[j]]/\(A.map Ab).length=A.length/\((A.map Ab).length+[Ab s[j]].length)*16<=140737488355328/\(A.map Ab).length+[Ab s[j]].length<=9223372036854775807:=
     ⟨⟨rfl,trivial⟩,by omega,by rw[Lm,A6];omega,by rw[Lm,A6];omega⟩
    refine Yi CY (Ao (show ∃B,B=A++[s[j]]from⟨_,rfl⟩) (fun B hB=>?_));have e1:AV.msl 63 ((A.map Ab).length+[Ab s[j]].length)=.msl 63 B.length:=by rw[hB];simp
    have e2:HO.arr 2 (A.map Ab++[Ab s[j]])=G3 B:=by rw[hB];simp
    refine cU [(3,sl Ab s),(7,.msl 63 B.length),(8,vi j)] [(63,G3 B)] ⟨Zr,⟨e1,rfl⟩,Zr,Tv⟩ ⟨⟨e2,rfl⟩,Tv⟩ (Yi (Ii j Wk) (Xi ⟨(j+1,B),by omega,by simp_all⟩ ?_));exact⟨by grind,Z3,Z1,Fh,Tv⟩
   .have h3:¬(0:Int)<A.length:=h3;have y6:(0:Int)<=j/\(s.map Ab)[((j:Nat):Int).toNat]?=some (Ab s[j]):=⟨by omega,by simp_all⟩;have hjn:A++[s[j]]=(BE (s.take (j+1))).reverse:=aj h2 hA fun y hy=>by
     simp_all
    refine Yi aa2 (cU [(3,sl Ab s),(7,.msl 63 A.length),(8,vi j),(9,vi A.length)] [(63,G3 A)] Z4 Z1 (Xi (Ab s[j]) (Yi y6 (Yi rfl (yN ?_)))));have CY:Bh 2 [Ab s[j]]/\(A.map Ab).length=A.length/\((A.map Ab).length+[Ab s[j]].length)*16<=140737488355328/\(A.map Ab).length+[Ab s[j]].length<=9223372036854775807:=
     ⟨⟨rfl,trivial⟩,by simp_all,by simp_all,by simp_all⟩
    refine Yi CY (Ao (show ∃B,B=A++[s[j]]from⟨_,rfl⟩) (fun B hB=>?_));have e1:AV.msl 63 ((A.map Ab).length+[Ab s[j]].length)=.msl 63 B.length:=by grind
    have e2:HO.arr 2 (A.map Ab++[Ab s[j]])=G3 B:=by grind
    refine cU [(3,sl Ab s),(7,.msl 63 B.length),(8,vi j)] [(63,G3 B)] ⟨Zr,⟨e1,rfl⟩,Zr,Tv⟩ ⟨⟨e2,rfl⟩,Tv⟩ (Yi (Ii j Wk) (Xi ⟨(j+1,B),by omega,by grind⟩ ?_));exact⟨by grind,Z3,Z1,Fh,Tv⟩
  .have h2:¬(j:Int)<((s.map Ab).length:Int):=h2;have h2:¬j<s.length:=by simp_all
   refine Yi (by simp_all) ?_;exact .of_eq (Aa (sl Ab) (show A=canon l by grind))
theorem lN:wL:=ca
abbrev JX(A:AL):AV:=.slice (.id d 2) (A.map Ab)
theorem kM(hs:BO s):PC 306 [sl Ab s] (sl Ab (BV s)):=by
 have hc:=ca s hs;have hC:BV s=GK 0 (canon s):=rfl;have hn:(canon s).length<=1000000:=E6 (BG s);obtain⟨C,eC⟩:∃C,C=canon s:=⟨_,rfl⟩;rw[<-eC]at hc hC hn;refine Ps (DB [2,6,9,12]) func306 rfl (Nz rfl) (C1 (C2 (hc) (cU [(3,sl Ab C)] [] Z1 Tv (Xi {p:Nat×Int×AL // p.1<=C.length/\p.2.2.length<=p.1/\p.2.2++GK p.2.1 (C.drop p.1)=GK 0 C} (Xi (fun p=>⟨[(3,sl Ab C),(4,JX 9 p.1.2.2),(5,vi p.1.2.1),(6,vi p.1.1)],[(9,.tok 2 p.1.2.2.length)],Af⟩) (Xi (fun p=>C.length-p.1.1) (Yi (Xi ⟨(0,0,[]),Al _,Al _,rfl⟩ ?_) ?_)))))))
 .exact⟨Z4,Z1,Fh,Tv⟩
 intro⟨⟨i,z,A⟩,i1,i2,i3⟩;have i1:i<=C.length:=i1;have i2:A.length<=i:=i2;have i3:A++GK z (C.drop i)=GK 0 C:=i3;refine Yi (fun h=>?_) (fun h=>?_)
 .skip
  have h:(i:Int)<(C.map Ab).length:=h;have h:i<C.length:=by simp_all
  have hg:C[i]?=some C[i]:=Ge h;refine Xi (Ab C[i]) (Yi (Yi Wk (by simp_all)) (Yi rfl ?_));rw[Be h]at i3;refine Yi (fun h2=>?_) (fun h2=>?_)
  .have h2:z<C[i].1:=h2;refine Xi (Ab C[i]) (Yi (Yi Wk (by simp_all)) (Yi rfl ?_));have CY:Bh 2 [Ab (z,C[i].1)]/\(A.map Ab).length=A.length/\((A.map Ab).length+[Ab (z,C[i].1)].length)*16<=140737488355328/\(A.map Ab).length+[Ab (z,C[i].1)].length<=9223372036854775807:=
    ⟨⟨rfl,trivial⟩,by simp_all,by grind,by grind⟩
   refine Yi CY (Ao (show ∃B,B=A++[(z,C[i].1)]from⟨_,rfl⟩) (fun B hB=>?_));have e1:AV.slice (.id 9 2) (A.map Ab++[Ab (z,C[i].1)])=JX 9 B:=by simp_all
   have e2:HO.tok 2 ((A.map Ab).length+[Ab (z,C[i].1)].length)=.tok 2 B.length:=by simp_all
   refine cU [(3,sl Ab C),(4,JX 9 B),(5,vi z),(6,vi i)] [(9,.tok 2 B.length)] ⟨Zr,⟨e1,rfl⟩,Zr,Zr,Tv⟩ ⟨⟨e2,rfl⟩,Tv⟩ (Xi (Ab C[i]) (Yi (Yi Wk (by simp_all)) (Yi rfl ?_)));refine cU [(3,sl Ab C),(4,JX 9 B),(5,vi C[i].2),(6,vi i)] [(9,.tok 2 B.length)] Z4 Z1 (Yi (by grind [Au]) (Xi ⟨(i+1,C[i].2,B),by omega,by simp_all,by grind [GK]⟩ ?_));exact⟨Dl C.length i Wk,Z4,Z1,Fh,Tv⟩
  have h2:¬z<C[i].1:=h2;refine cU [(3,sl Ab C),(4,JX 9 A),(5,vi z),(6,vi i)] [(9,.tok 2 A.length)] Z4 Z1 (Xi (Ab C[i]) (Yi (Yi Wk (by simp_all)) (Yi rfl ?_)));refine cU [(3,sl Ab C),(4,JX 9 A),(5,vi C[i].2),(6,vi i)] [(9,.tok 2 A.length)] Z4 Z1 (Yi (by grind [Au]) (Xi ⟨(i+1,C[i].2,A),by omega,by grind,by grind [GK]⟩ ?_));exact⟨Dl C.length i Wk,Z4,Z1,Fh,Tv⟩
 .skip
  have h:¬(i:Int)<(C.map Ab).length:=h;have h:¬i<C.length:=by simp_all
  rw[DY Wk,GK]at i3;refine Yi (fun h2=>?_) (fun h2=>?_)
  .have h2:z<1000000:=h2;have CY:Bh 2 [Ab (z,1000000)]/\(A.map Ab).length=A.length/\((A.map Ab).length+[Ab (z,1000000)].length)*16<=140737488355328/\(A.map Ab).length+[Ab (z,1000000)].length<=9223372036854775807:=
    ⟨⟨rfl,trivial⟩,by simp_all,by grind,by grind⟩
   refine Yi CY (Ao (show ∃B,B=A++[(z,(1000000:Int))]from⟨_,rfl⟩) (fun B hB=>?_));have e1:AV.slice (.id 9 2) (A.map Ab++[Ab (z,1000000)])=JX 9 B:=by grind
   have e2:HO.tok 2 ((A.map Ab).length+[Ab (z,1000000)].length)=.tok 2 B.length:=by grind
   refine cU [(4,JX 9 B)] [(9,.tok 2 B.length)] ⟨⟨e1,rfl⟩,Tv⟩ ⟨⟨e2,rfl⟩,Tv⟩ ?_
   exact .of_eq (show sl Ab B=sl Ab (BV s) by simp_all)
  .have h2:¬z<1000000:=h2;refine cU [(4,JX 9 A)] [(9,.tok 2 A.length)] Z1 Z1 ?_
   exact .of_eq (show sl Ab A=sl Ab (BV s) by simp_all)
theorem io(h:i<l.length):(l.take (i+1)).flatten=(l.take i).flatten++l[i]/\((l.take i).flatten++l[i]).length<=l.flatten.length:=by
 grind [List.take_add_one,List.take_append_drop]
theorem pp(hl:BO l)(hf:BO l.flatten):PC 309 [sl CR l] (sl Ab (JZ l)):=by
 have hc:=ca l.flatten hf;have hl:l.length<=1073741824:=hl;have hf:l.flatten.length<=1073741824:=hf;refine Ps (DB [4,6]) func309 rfl (Nz rfl) (Xi {p:Nat×AL // p.1<=l.length/\p.2=(l.take p.1).flatten} (Xi (fun p=>⟨[(0,sl CR l),(3,JX 5 p.1.2),(4,vi p.1.1)],[(5,.tok 2 p.1.2.length)],Af⟩) (Xi (fun p=>l.length-p.1.1) (Yi (Xi ⟨(0,[]),Al _,rfl⟩ ?_) ?_))))
 .exact⟨Z3,Z1,Fh,Tv⟩
 intro⟨⟨i,A⟩,i1,i2⟩;have i1:i<=l.length:=i1;have i2:A=(l.take i).flatten:=i2;refine Yi (fun h=>?_) (fun h=>?_)
 .skip
  have h:(i:Int)<(l.map CR).length:=h;have h:i<l.length:=by simp_all
  have hg:l[i]?=some l[i]:=Ge h;refine Xi (CR l[i]) (Yi (Yi Wk (by simp_all)) (Yi rfl ?_));have ht:=io l i h;rw[<-i2]at ht;have wB:=ht.2;rw[AD]at wB;have CY:Bh 2 (l[i].map Ab)/\(A.map Ab).length=A.length/\((A.map Ab).length+(l[i].map Ab).length)*16<=140737488355328/\(A.map Ab).length+(l[i].map Ab).length<=9223372036854775807:=
   ⟨Jv (M3 _),by grind,by grind,by grind⟩
  refine Yi CY (Ao (show ∃B,B=A++l[i]from⟨_,rfl⟩) (fun B hB=>?_));have e1:AV.slice (.id 5 2) (A.map Ab++l[i].map Ab)=JX 5 B:=by simp_all
  have e2:HO.tok 2 ((A.map Ab).length+(l[i].map Ab).length)=.tok 2 B.length:=by simp_all
  refine cU [(0,sl CR l),(3,JX 5 B),(4,vi i)] [(5,.tok 2 B.length)] ⟨Zr,⟨e1,rfl⟩,Zr,Tv⟩ ⟨⟨e2,rfl⟩,Tv⟩ (Yi (Ii i Wk) (Xi ⟨(i+1,B),by omega,by simp_all⟩ ?_));exact⟨by grind,Z3,Z1,Fh,Tv⟩
 .skip
  have h:¬(i:Int)<(l.map CR).length:=h;have h:¬i<l.length:=by simp_all
  have eA:A=l.flatten:=by grind
  rw[<-eA]at hc;refine cU [(3,JX 5 A)] [(5,.tok 2 A.length)] Z1 Z1 (C1 (C2 (hc) ?_));exact .of_eq (show sl Ab (canon A)=sl Ab (JZ l) by rw[eA];rfl)
theorem Abz:PC 379 [] (sl Ab [(0,1000000)]):=by
 refine Ps CX func379 rfl (Nz rfl) ?_;exact .refl _
theorem wZ(n:Int):PC 305 [vi n] (sl Ab (canon [(n,1000000)])):=by
 have hc:=ca [(n,1000000)] (by simp_all);refine Ps CX func305 rfl (Nz rfl) (C1 (C2 (hc) ?_));exact .refl _
abbrev rQ(A:List AL):AV:=.slice (.id d 1) (A.map CR)
theorem xa(hl:BO l)(hs:∀s∈l,BO s)(hf:BO (l.map BV).flatten):PC 354 [sl CR l] (sl Ab (MG l)):=by
 have hc:=pp (l.map BV) (by simp_all) hf;have hu:BO (JZ (l.map BV)):=by
  grind [E6,LQ]
 have hd:=kM (JZ (l.map BV)) hu;have hl:l.length<=1073741824:=hl;refine Ps (DB [4,6]) func354 rfl (Nz rfl) (Xi {p:Nat×List AL // p.1<=l.length/\p.2=(l.take p.1).map BV} (Xi (fun p=>⟨[(0,sl CR l),(3,rQ 5 p.1.2),(4,vi p.1.1)],[(5,.tok 1 p.1.2.length)],Af⟩) (Xi (fun p=>l.length-p.1.1) (Yi (Xi ⟨(0,[]),Al _,rfl⟩ ?_) ?_))))
 .exact⟨Z3,Z1,Fh,Tv⟩
 intro⟨⟨i,A⟩,i1,i2⟩;have i1:i<=l.length:=i1;have i2:A=(l.take i).map BV:=i2;have hA:A.length<=i:=by simp_all
 refine Yi (fun h=>?_) (fun h=>?_)
 .skip
  have h:(i:Int)<(l.map CR).length:=h;have h:i<l.length:=by simp_all
  have hg:l[i]?=some l[i]:=Ge h;refine Xi (CR l[i]) (Yi (Yi Wk (by simp_all)) (Yi rfl ?_));refine C1 (C2 (kM l[i] (hs _ (Ah h))) ?_);have CY:Bh 1 [CR (BV l[i])]/\(A.map CR).length=A.length/\((A.map CR).length+[CR (BV l[i])].length)*24<=140737488355328/\(A.map CR).length+[CR (BV l[i])].length<=9223372036854775807:=
   ⟨⟨rfl,trivial⟩,by simp_all,by grind,by grind⟩
  refine Yi CY (Ao (show ∃B,B=A++[BV l[i]]from⟨_,rfl⟩) (fun B hB=>?_));have e1:AV.slice (.id 5 1) (A.map CR++[CR (BV l[i])])=rQ 5 B:=by simp_all
  have e2:HO.tok 1 ((A.map CR).length+[CR (BV l[i])].length)=.tok 1 B.length:=by simp_all
  refine cU [(0,sl CR l),(3,rQ 5 B),(4,vi i)] [(5,.tok 1 B.length)] ⟨Zr,⟨e1,rfl⟩,Zr,Tv⟩ ⟨⟨e2,rfl⟩,Tv⟩ (Yi (by grind [Au]) (Xi ⟨(i+1,B),by omega,by grind [List.take_add_one]⟩ ?_));exact⟨Dl l.length i Wk,Z3,Z1,Fh,Tv⟩
 .skip
  have h:¬(i:Int)<(l.map CR).length:=h;have h:¬i<l.length:=by simp_all
  have eA:A=l.map BV:=by grind
  rw[<-eA]at hc hd;refine cU [(3,rQ 5 A)] [(5,.tok 1 A.length)] Z1 Z1 (C1 (C2 (hc) (C1 (C2 (hd) ?_))));exact .of_eq (show sl Ab (BV (JZ A))=sl Ab (MG l) by
   rw[eA];exact Aa (sl Ab) (XI _))
theorem KG:(BV s).length<=1000000:=E6 (GL s)
theorem Ab7(a b:AL)(ha:BO a)(hb:BO b):PC 304 [sl Ab a,sl Ab b] (sl Ab (UF a b)):=by
 have h1:=kM b hb;have h2:=KG b;have h3:=KG a;have h4:=KG (BV b);have hc:=xa [a,BV b] (by simp_all) (fun s hs=>by
  grind) (by
  grind)
 refine Ps CX func304 rfl (Nz rfl) (C1 (C2 (h1) (C1 (C2 (hc) ?_))));exact .refl _
theorem tK(s:CS):PC 164 [vs s] (vb (CI s)):=by
 refine Ps CX func164 rfl (Nz rfl) (Yi (fun h=>?_) (fun h=>?_))
 .exact .of_eq (Aa vb (show true=CI s by grind [CI]))
 refine Yi (fun h2=>?_) (fun h2=>?_)
 .exact .of_eq (Aa vb (show true=CI s by grind [CI]))
 exact .of_eq (Aa vb (show false=CI s by grind [CI]))
def MM:Nat->Int
 |0=>v.a
 |1=>v.b
 |_=>v.c
abbrev dO:C0:=[[vi v.a],[vi v.b],[vi v.c]]
theorem Qr(h:i<3):(dO v)[((i:Nat):Int).toNat]?=some [vi (MM v i)]:=by
 rw[GG]
 match i,h with
 |0,_=>rfl
 |1,_=>rfl
 |2,_=>rfl
theorem lf(hi:i<3)(h:∀j,j<i->MM a j=MM b j)(hl:MM a i<MM b i):Jn a b=-1:=by
 match i,hi,h,hl with
 |0,_,h,hl=>
  have hl:a.a<b.a:=hl
  grind [Jn,Gc]
 |1,_,h,hl=>
  have hl:a.b<b.b:=hl;have h0:a.a=b.a:=h 0 Wk
  grind [Jn,Gc]
 |2,_,h,hl=>
  have hl:a.c<b.c:=hl;have h0:a.a=b.a:=h 0 Wk;have h1:a.b=b.b:=h 1 Wk
  grind [Jn,Gc]
theorem ld(hi:i<3)(h:∀j,j<i->MM a j=MM b j)(hl:MM b i<MM a i):Jn a b=1:=by
 match i,hi,h,hl with
 |0,_,h,hl=>
  have hl:b.a<a.a:=hl
  grind [Jn,Gc]
 |1,_,h,hl=>
  have hl:b.b<a.b:=hl;have hn:¬a.b<b.b:=by omega
  have h0:a.a=b.a:=h 0 Wk
  grind [Jn,Gc]
 |2,_,h,hl=>
  have hl:b.c<a.c:=hl;have hn:¬a.c<b.c:=by omega
  have h0:a.a=b.a:=h 0 Wk;have h1:a.b=b.b:=h 1 Wk
  grind [Jn,Gc]
theorem lc(h:∀j,j<3->MM a j=MM b j):Jn a b=0:=by
 have h0:a.a=b.a:=h 0 Wk;have h1:a.b=b.b:=h 1 Wk;have h2:a.c=b.c:=h 2 Wk
 grind [Jn,Gc]
theorem Abq:PC 165 [.agg (Ej a),.agg (Ej b)] (vi (Jn a b)):=by
 refine Ps (DB []) func165 rfl (Nz rfl) (Xi {i:Nat // i<=3/\∀j,j<i->MM a j=MM b j} (Xi (fun i=>⟨[(5,.slice (.id 14 1) (dO a)),(6,.slice (.id 21 1) (dO b)),(7,vi i.1)],[(14,.tok 1 3),(21,.tok 1 3)],Af⟩) (Xi (fun i=>3-i.1) (Yi (Xi ⟨0,Al _,fun j h=>by omega⟩ ?_) ?_))))
 .exact⟨Z3,Z2,Fh,Tv⟩
 intro⟨i,i1,i2⟩;refine Yi (fun h=>?_) (fun h=>?_)
 .have h:(i:Int)<3:=h;have h:i<3:=by omega
  refine Xi [vi (MM a i)] (Yi (Yi Wk (Qr a i h)) (Yi rfl (Xi [vi (MM b i)] (Yi (Yi Wk (Qr b i h)) (Yi rfl (Yi (fun h2=>?_) (fun h2=>?_)))))))
  .refine Yi aa2 ?_;exact .of_eq (Aa vi (lf a b i h i2 h2).symm)
  refine Yi aa2 (Xi [vi (MM a i)] (Yi (Yi Wk (Qr a i h)) (Yi rfl (Xi [vi (MM b i)] (Yi (Yi Wk (Qr b i h)) (Yi rfl (Yi (fun h3=>?_) (fun h3=>?_))))))))
  .refine Yi aa2 ?_;exact .of_eq (Aa vi (ld a b i h i2 h3).symm)
  refine Yi aa2 (Yi (by grind [Au]) (Xi ⟨i+1,by omega,fun j hj=>?_⟩ ?_))
  .grind
  exact⟨by grind,Z3,Z2,Fh,Tv⟩
 .have h:¬(i:Int)<3:=h;exact .of_eq (Aa vi (lc a b fun j hj=>i2 j Wk).symm)
theorem Ab5(a b:Rl):PC 91 [.agg (Am a),.agg (Am b)] (vi (IJ a b)):=by
 have hc:=Abq a.ver b.ver;refine Ps CX func91 rfl (Nz rfl) (Yi (fun h=>?_) (fun h=>?_))
 .exact .of_eq (Aa vi (show(-1:Int)=IJ a b by grind [IJ,Jm,D1]))
 refine Yi (fun h2=>?_) (fun h2=>?_)
 .exact .of_eq (Aa vi (show(1:Int)=IJ a b by grind [IJ,Jm,D1]))
 refine Yi (Nz rfl) (yN (C1 (C2 (hc) ?_)));exact .of_eq (Aa vi (show Jn a.ver b.ver=IJ a b by grind [IJ,Jm,D1]))
theorem Ab4(r:Rl)(hr:Fk r):PC 90 [.agg (Am r)] (vi (CP r)):=by
 have h1:=iy r.path hr.1;have h2:=pq r.ver;have h3:=c68 iy lN r.reqs hr.2;have h4:=tK r.arch;have h5:=tK r.ifc;have h6:=tK r.cert;obtain⟨N,hN⟩:∃N,N=CP r:=⟨_,rfl⟩;rw[<-hN];refine Ps CX func90 rfl (Nz rfl) (C1 (C2 (h1) (Yi (fun h=>?_) (fun h=>?_))))
 .exact .of_eq (Aa vi (show(4:Int)=N by
   grind [ax,CP]))
 refine Ao (show ∃m,AT r.path=some m by
  grind) (fun m hp=>?_)
 have em:jf r.path=m:=by grind
 have hN:N=if !By r.ver||!decide (r.ver.a=m)then 2 else if AH r.reqs≠0 then AH r.reqs else if CI r.arch&&CI r.ifc&&CI r.cert then 0 else 1:=by
  grind [CP]
 refine yN (Ax (Bt (By r.ver)).symm (fun e=>?_) (fun e=>?_))
 .rw[e]at h2;refine C1 (C2 (h2) ?_);exact .of_eq (Aa vi (show(2:Int)=N by simp_all))
 rw[e]at h2;refine C1 (C2 (h2) (Yi (fun h7=>?_) (fun h7=>?_)))
 .exact .of_eq (Aa vi (show(2:Int)=N by simp_all))
 have hN:N=if AH r.reqs≠0 then AH r.reqs else if CI r.arch&&CI r.ifc&&CI r.cert then 0 else 1:=by
  simp_all
 refine C1 (C2 (h3) (Yi (fun h8=>?_) (fun h8=>?_)))
 .exact .of_eq (Aa vi (show AH r.reqs=N by omega))
 have hN:N=if CI r.arch&&CI r.ifc&&CI r.cert then 0 else 1:=by omega
 refine Ax (Bt (CI r.arch)).symm (fun e1=>?_) (fun e1=>?_)
 .rw[e1]at h4;refine C1 (C2 (h4) ?_);exact .of_eq (Aa vi (show(1:Int)=N by simp_all))
 rw[e1]at h4;refine C1 (C2 (h4) (Ax (Bt (CI r.ifc)).symm (fun e2=>?_) (fun e2=>?_)))
 .rw[e2]at h5;refine C1 (C2 (h5) ?_);exact .of_eq (Aa vi (show(1:Int)=N by simp_all))
 rw[e2]at h5;refine C1 (C2 (h5) (Ax (Bt (CI r.cert)).symm (fun e3=>?_) (fun e3=>?_)))
 .rw[e3]at h6;refine C1 (C2 (h6) ?_);exact .of_eq (Aa vi (show(1:Int)=N by simp_all))
 rw[e3]at h6;refine C1 (C2 (h6) ?_);exact .of_eq (Aa vi (show(0:Int)=N by simp_all))
theorem Zf{a b:Rl}(h:Cp a=Cp b):IJ a b=0:=by
 grind [WJ,IJ,Jm,Jn,Gc,Dg]
theorem tY(x:List Rl)(ifs:C0)(hs:∀r∈x,Fk r):PC 44 [Jf x ifs] (vi (At x)):=by
 refine Ps (DB []) func44 rfl (Nz rfl) (Ao (show ∃N,N=At x from⟨_,rfl⟩) (fun N hN=>?_));refine Yi (fun h=>?_) (fun h=>?_)
 .exact .of_eq (Aa vi (show(7:Int)=At x by grind [At]))
 have hl:x.length<=256:=by grind
 have Uc:At x=B5 none x:=by grind [At]
 refine Xi {i:Nat // i<=x.length/\B5 none x=B5 (Xy x i) (x.drop i)} (Xi (fun i=>⟨[(3,sl Am x),(4,vi i.1)],[],Af⟩) (Xi (fun i=>x.length-i.1) (Yi (Xi ⟨0,Al _,rfl⟩ ?_) ?_)))
 .exact⟨Z2,Tv,Fh,Tv⟩
 intro⟨i,h1,h2⟩;refine Yi (fun h=>?_) (fun h=>?_)
 .skip
  have h:i<x.length:=by simp_all
  have hg:x[i]?=some x[i]:=Ge h;have hd:x.drop i=x[i]::x.drop (i+1):=Be h;have hc:=Ab4 x[i] (hs x[i] (Ah h));have JL:B5 none x=if CP x[i]≠0 then CP x[i]else match Xy x i with
   |none=>B5 (some x[i]) (x.drop (i+1))
   |some b=>if Cp b=Cp x[i]then 5 else if 0<IJ b x[i]then 1 else B5 (some x[i]) (x.drop (i+1)):=by rw[h2,hd];rfl
  have sF:Xy x (i+1)=some x[i]:=Ge h;refine Xi (Am x[i]) (Yi (Yi Wk (by grind)) (Yi rfl (yN (C1 (C2 (hc) (Yi (fun h3=>?_) (fun h3=>?_)))))))
  .exact .of_eq (Aa vi (show CP x[i]=At x by omega))
  rw[AN h3]at JL;refine Yi (fun h4=>?_) (fun h4=>?_)
  .have h4:(0:Int)<i:=h4;have hk:i-1<x.length:=by omega
   have fp:x[i-1]?=some x[i-1]:=Ge hk;have hn:((i:Int)-1).toNat=i-1:=by omega
   have hb:Xy x i=some x[i-1]:=by
    grind
   rw[hb]at JL;have JL:B5 none x=if Cp x[i-1]=Cp x[i]then 5 else if 0<IJ x[i-1] x[i]then 1 else B5 (some x[i]) (x.drop (i+1)):=JL
   have sr:=Ab5 x[i-1] x[i];have Oo:(0:Int)<=(i:Int)-1/\(x.map Am)[((i:Int)-1).toNat]?=some (Am x[i-1]):=⟨by omega,by rw[hn];grind⟩;refine Yi (show Au ((i:Int)-1) by unfold Au;omega) (Xi (Am x[i-1]) (Yi Oo (Yi rfl (yN (Xi (Am x[i]) (Yi (Yi Wk (by simp[hg])) (Yi rfl ?_)))))));refine yN (C2 (sr) (Yi (fun h5=>?_) (fun h5=>?_)))
   .have h5:IJ x[i-1] x[i]=0:=h5;refine Yi aa2 ?_;exact .of_eq (Aa vi (show(5:Int)=At x by rw[Uc,JL,A3 (Wo h5)]))
   have h5:¬IJ x[i-1] x[i]=0:=h5;refine Yi aa2 (Yi (fun _=>?_) (fun h9=>absurd h4 h9));refine Yi (show Au ((i:Int)-1) by unfold Au;omega) (Xi (Am x[i-1]) (Yi Oo (Yi rfl (yN (Xi (Am x[i]) (Yi (Yi Wk (by simp[hg])) (Yi rfl ?_)))))));refine yN (C2 (sr) (Yi (fun h6=>?_) (fun h6=>?_)))
   .have h6:0<IJ x[i-1] x[i]:=h6;refine Yi aa2 ?_;exact .of_eq (Aa vi (show(1:Int)=At x by rw[Uc,JL,AN (fun e=>h5 (Zf e)),A3 h6]))
   have h6:¬0<IJ x[i-1] x[i]:=h6;refine Yi aa2 (Yi (Ii i Wk) (Xi ⟨i+1,by omega,by rw[JL,AN (fun e=>h5 (Zf e)),AN h6,sF]⟩ ?_));exact⟨Dl x.length i Wk,Z2,Tv,Fh,Tv⟩
  have h4:¬(0:Int)<i:=h4;have hb:Xy x i=none:=by
   grind
  rw[hb]at JL;have JL:B5 none x=B5 (some x[i]) (x.drop (i+1)):=JL;refine Yi aa2 (Yi (fun h9=>absurd h9 h4) (fun _=>?_));refine Yi aa2 (Yi (by grind [Au]) (Xi ⟨i+1,by omega,by grind⟩ ?_));exact⟨by grind,Z2,Tv,Fh,Tv⟩
 .skip
  have h:¬(i:Int)<(x.map Am).length:=h;have h:¬i<x.length:=by simp_all
  have e:(0:Int)=At x:=by rw[Uc,h2,HJ Wk];rfl
  exact .of_eq (Aa vi e)
theorem c37(x:List Rl)(ifs:C0)(roots:List Rq)(hs:∀r∈x,Fk r)(hq:∀q∈roots,IE q):PC 166 [Jf x ifs,sl Ad roots] (vb (decide (At x=0)&&decide (AH roots=0))):=by
 have h1:=tY x ifs hs;have h2:=c68 iy lN roots hq;refine Ps CX func166 rfl (Nz rfl) (yN (C1 (C2 (h1) (Yi (fun h=>?_) (fun h=>?_)))))
 .have h:At x=0:=h;refine C1 (C2 (h2) (Yi (fun h3=>?_) (fun h3=>?_)))
  .have h3:AH roots=0:=h3;exact .of_eq (Aa vb (show true=_ by simp_all))
  .have h3:¬AH roots=0:=h3;exact .of_eq (Aa vb (show false=_ by simp_all))
 .have h:¬At x=0:=h;exact .of_eq (Aa vb (show false=_ by simp_all))
theorem xb:PC 355 [.agg (Ac t)] (vb (!t.absent&&decide (t.set=[]))):=by
 refine Ps CX func355 rfl (Nz rfl) (Yi (fun h=>?_) (fun h=>?_))
 .have h:t.absent=true:=h;exact .of_eq (Aa vb (show false=_ by simp_all))
 have h:t.absent=false:=h;refine Yi (fun h2=>?_) (fun h2=>?_)
 .have h2:((t.set.map Ab).length:Int)=0:=h2;have h2:t.set=[]:=Ay (by simp_all);exact .of_eq (Aa vb (show true=_ by simp_all))
 .have h2:¬((t.set.map Ab).length:Int)=0:=h2;have h2:¬t.set=[]:=fun e=>h2 (by simp_all);exact .of_eq (Aa vb (show false=_ by simp_all))
theorem xc(ht:BO t.set):PC 356 [.agg (Ac t)] (vb (t.absent&&decide (t.set=[(0,1000000)]))):=by
 have hc:=c75 t.set [(0,1000000)] ht;refine Ps CX func356 rfl (Nz rfl) (Yi (fun h=>?_) (fun h=>?_))
 .have h:t.absent=true:=h;refine C2 (Abz) (C2 (hc) (Yi aa2 ?_));exact .of_eq (Aa vb (show decide (t.set=[(0,1000000)])=_ by simp_all))
 .have h:t.absent=false:=h;refine Yi aa2 ?_;exact .of_eq (Aa vb (show false=_ by simp_all))
theorem wY(hq:BO q.set):PC 303 [.agg (Ad q)] (.agg (Ac ⟨q.path,true,BV q.set⟩)):=by
 have hc:=kM q.set hq;refine Ps CX func303 rfl (Nz rfl) (C2 (hc) (yN (Yi aa2 (yN ?_))));exact .refl _
theorem Jl(l:List Tm)(hl:BO l)(p:CS):PC 308 [sl Ac l,vs p] (match l.find? (fun t=>decide (t.path=p))with | some t=>.tup [.agg (Ac t),vb true] | none=>.tup [.agg [vs ⟨#[]⟩,vb false,nzA],vb false]):=by
 have hl:l.length<=1073741824:=hl;obtain⟨R,hR⟩:∃R,R=(match l.find? (fun t=>decide (t.path=p))with | some t=>AV.tup [.agg (Ac t),vb true] | none=>.tup [.agg [vs ⟨#[]⟩,vb false,nzA],vb false]):=⟨_,rfl⟩;rw[<-hR];refine Ps CX func308 rfl (Nz rfl) (Xi {i:Nat // i<=l.length/\∀j (hj:j<l.length),j<i->l[j].path≠p} (Xi (fun i=>⟨[(0,sl Ac l),(1,vs p),(4,.ref 4 0),(6,vi i.1)],[(4,.cells [vs ⟨#[]⟩,vb false,nzA])],Af⟩) (Xi (fun i=>l.length-i.1) (Yi (Xi ⟨0,Al _,fun j _ h=>by omega⟩ ?_) ?_))))
 .exact⟨Z4,Z1,Fh,Tv⟩
 intro⟨i,h1,h2⟩;refine Yi (fun h=>?_) (fun h=>?_)
 .skip
  have h:(i:Int)<(l.map Ac).length:=h;have h:i<l.length:=by simp_all
  have hg:l[i]?=some l[i]:=Ge h;refine Xi (Ac l[i]) (Yi (Yi Wk (by simp_all)) (Yi rfl ?_));refine Yi (fun h3=>?_) (fun h3=>?_)
  .have h3:l[i].path=p:=h3;refine Xi (Ac l[i]) (Yi (Yi Wk (by simp_all)) (Yi rfl ?_));refine Yi (Nz rfl) (yN ?_);have ef:l.find? (fun t=>decide (t.path=p))=some l[i]:=by
    grind [List.find?_eq_some_iff_getElem]
   refine yN ?_;exact .of_eq (show AV.tup [.agg (Ac l[i]),vb true]=R by simp_all)
  have h3:¬l[i].path=p:=h3;refine Yi (by grind [Au]) (Xi ⟨i+1,by omega,fun j hj GC=>?_⟩ ?_)
  .grind
  exact⟨by grind,Z4,Z1,Fh,Tv⟩
 .skip
  have h:¬(i:Int)<(l.map Ac).length:=h;have h:¬i<l.length:=by simp_all
  have ef:l.find? (fun t=>decide (t.path=p))=none:=by
   grind [List.getElem_of_mem]
  refine yN (yN ?_);exact .of_eq (show AV.tup [.agg [vs ⟨#[]⟩,vb false,nzA],vb false]=R by simp_all)
abbrev rR(A:List Tm):AV:=.slice (.id d 3) (A.map Ac)
theorem tA(l:List Tm)(hl:BO l)(p:CS):PC 310 [sl Ac l,vs p] (sl Ac (l.filter fun t=>!decide (t.path=p))):=by
 have hl:l.length<=1073741824:=hl;refine Ps (DB [4]) func310 rfl (Nz rfl) (Xi {q:Nat×List Tm // q.1<=l.length/\q.2=(l.take q.1).filter fun t=>!decide (t.path=p)} (Xi (fun q=>⟨[(0,sl Ac l),(1,vs p),(5,rR 7 q.1.2),(6,vi q.1.1)],[(7,.tok 3 q.1.2.length)],Af⟩) (Xi (fun q=>l.length-q.1.1) (Yi (Xi ⟨(0,[]),Al _,rfl⟩ ?_) ?_))))
 .exact⟨Z4,Z1,Fh,Tv⟩
 intro⟨⟨i,A⟩,i1,i2⟩;have i1:i<=l.length:=i1;have i2:A=(l.take i).filter fun t=>!decide (t.path=p):=i2;have hA:A.length<=i:=by
  grind
 refine Yi (fun h=>?_) (fun h=>?_)
 .skip
  have h:(i:Int)<(l.map Ac).length:=h;have h:i<l.length:=by simp_all
  have hg:l[i]?=some l[i]:=Ge h;refine Xi (Ac l[i]) (Yi (Yi Wk (by simp_all)) (Yi rfl ?_));have etk:(l.take (i+1)).filter (fun t=>!decide (t.path=p))=A++[l[i]].filter (fun t=>!decide (t.path=p)):=by grind [List.take_add_one]
  refine Yi (fun h3=>?_) (fun h3=>?_)
  .have h3:l[i].path≠p:=h3;refine Xi (Ac l[i]) (Yi (Yi Wk (by simp_all)) (Yi rfl ?_));refine yN ?_;have CY:Bh 3 [Ac l[i]]/\(A.map Ac).length=A.length/\((A.map Ac).length+[Ac l[i]].length)*48<=140737488355328/\(A.map Ac).length+[Ac l[i]].length<=9223372036854775807:=
    ⟨⟨rfl,trivial⟩,by simp_all,by grind,by grind⟩
   refine Yi CY (Ao (show ∃B,B=A++[l[i]]from⟨_,rfl⟩) (fun B hB=>?_));have e1:AV.slice (.id 7 3) (A.map Ac++[Ac l[i]])=rR 7 B:=by simp_all
   have e2:HO.tok 3 ((A.map Ac).length+[Ac l[i]].length)=.tok 3 B.length:=by simp_all
   refine cU [(0,sl Ac l),(1,vs p),(5,rR 7 B),(6,vi i)] [(7,.tok 3 B.length)] ⟨Zr,Zr,⟨e1,rfl⟩,Zr,Tv⟩ ⟨⟨e2,rfl⟩,Tv⟩ (Yi (Ii i Wk) (Xi ⟨(i+1,B),by omega,by simp_all⟩ ?_));exact⟨Dl l.length i Wk,Z4,Z1,Fh,Tv⟩
  have h3:¬l[i].path≠p:=h3;refine cU [(0,sl Ac l),(1,vs p),(5,rR 7 A),(6,vi i)] [(7,.tok 3 A.length)] Z4 Z1 (Yi (Ii i Wk) (Xi ⟨(i+1,A),by omega,by simp_all⟩ ?_));exact⟨Dl l.length i Wk,Z4,Z1,Fh,Tv⟩
 .skip
  have h:¬(i:Int)<(l.map Ac).length:=h;have h:¬i<l.length:=by simp_all
  exact .of_eq (Aa (sl Ac) (show A=_ by grind))
end Go.Eng
