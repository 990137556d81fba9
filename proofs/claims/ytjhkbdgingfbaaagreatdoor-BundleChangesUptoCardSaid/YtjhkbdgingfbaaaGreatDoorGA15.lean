/- Lemmas 15. -/
import Derived.Test.YtjhkbdgingfbaaaGreatDoorGA14
import Derived.Shelf.Strings.SplitShaped
import Derived.Shelf.Strings.LastIndexAll
import Derived.Shelf.Strings.Search3
import Derived.Shelf.Small.Wraps
import Derived.Ground.NamesProg
namespace Go.Eng
open Go.Proofs
variable {nm:ByteArray->ByteArray}{p:ByteArray}{k:Nat}(a:Ver)(s:ByteArray)(r:Rl)(c:UInt8)(l:List Rq)(b:Ver)(i:Nat)
theorem jz:PC 196 [vs s] (vb false):=by
 refine Ps Dj Tryz.func196 rfl (Nz rfl) (Yi ?_ ?_)
 .intro h;exact absurd rfl (show s≠s from h)
 .intro _;exact .refl _
theorem jB(z:Int):PC 251 [vi z] (vb false):=by
 refine Ps Dj Tryz.func251 rfl (Nz rfl) (Yi ?_ ?_)
 .intro h;exact absurd rfl (show z≠z from h)
 .intro _;exact .refl _
theorem mO(a b:ByteArray):PC 140 [vs a,vs b] (vi (II a b)):=by
 refine Ps Dj Tryz.func140 rfl (Nz rfl) (Xi .pure (Xi _ (Yi (jz a) (Xi .pure (Xi _ (Yi (jz b) (Yi ?_ ?_)))))))
 .intro h;exact .of_eq (Aa vi (show(-1:Int)=II a b by unfold II;rw[Av (by rw[Ed];exact h)]))
 .intro h;refine Yi ?_ ?_
  .intro h2;exact .of_eq (Aa vi (show(1:Int)=II a b by unfold II;rw[Aj (by rw[Ed];exact h),Av (by rw[Ed];exact h2)]))
  .intro h2;exact .of_eq (Aa vi (show(0:Int)=II a b by unfold II;rw[Aj (by rw[Ed];exact h),Aj (by rw[Ed];exact h2)]))
theorem ff(a b:Int):PC 197 [vi a,vi b] (vi (cmpI a b)):=by
 refine Ps Dj Tryz.func197 rfl (Nz rfl) (Xi .pure (Xi _ (Yi (jB a) (Xi .pure (Xi _ (Yi (jB b) (Yi ?_ ?_)))))))
 .intro h;exact .of_eq (Aa vi (show(-1:Int)=cmpI a b by unfold cmpI;rw[Av h]))
 .intro h;refine Yi ?_ ?_
  .intro h2;exact .of_eq (Aa vi (show(1:Int)=cmpI a b by unfold cmpI;rw[Aj h,Av h2]))
  .intro h2;exact .of_eq (Aa vi (show(0:Int)=cmpI a b by unfold cmpI;rw[Aj h,Aj h2]))
theorem mN(a b:Int):PC 139 [.slice .none [[vi a],[vi b]]] (vi (if a≠0 then a else b)):=by
 refine Ps Dj Tryz.func139 rfl (Nz rfl) (Xi {i:Nat // i<=2/\(0<i->a=0)/\(1<i->b=0)} (Xi (fun i=>⟨[(3,vi 0),(6,.slice .none [[vi a],[vi b]]),(7,vi 2),(8,vi i.1)],[],Ao⟩) (Xi (fun i=>2-i.1) (Yi (Xi ⟨0,by omega,by omega,by omega⟩ ?_) ?_))))
 .exact⟨Z4,Tv,Fh,Tv⟩
 intro⟨i,h1,h2,h3⟩;refine Yi ?_ ?_
 .intro h;have h:(i:Int)<2:=h
  match i,h1,h2,h3,h with
  |0,h1,h2,h3,h=>
   refine Xi [vi a] (Yi (Yi (CR _) rfl) (Yi rfl (Yi ?_ ?_)))
   .intro h4;exact .of_eq (Aa vi (Av h4).symm)
   .intro h4;refine Yi (Ii 0 sP) (Xi ⟨1,by omega,fun _=>by omega,fun q=>absurd q sR⟩ ?_);exact⟨by show 2-1<2-0;decide,Z4,Tv,Fh,Tv⟩
  |1,h1,h2,h3,h=>
   have ha:=h2 sR;refine Xi [vi b] (Yi (Yi (by show(0:Int)<=1;decide) rfl) (Yi rfl (Yi ?_ ?_)))
   .intro h4;exact .of_eq (Aa vi (Aj sP).symm)
   .intro h4;refine Yi (Ii 1 sP) (Xi ⟨2,by omega,fun _=>ha,fun q=>by omega⟩ ?_);exact⟨by show 2-2<2-1;decide,Z4,Tv,Fh,Tv⟩
  |i+2,h1,h2,h3,h=>omega
 .intro h;have h:¬(i:Int)<2:=h;have ha:=h2 sP;have hb:=h3 sP;exact .of_eq (Aa vi (show(0:Int)=if a≠0 then a else b by rw[Aj sP,hb]))
theorem ND(hi:i<3)(h:∀j,j<i->cmpI (part a j) (part b j)=0)(hn:cmpI (part a i) (part b i)≠0):GL a b=cmpI (part a i) (part b i):=by
 unfold GL
 match i,hi,h,hn with
 |0,_,_,hn=>exact Av hn
 |1,_,h,hn=>
  have h0:cmpI a.a b.a=0:=h 0 sR;rw[Aj sP];exact Av hn
 |2,_,h,hn=>
  have h0:cmpI a.a b.a=0:=h 0 sR;have h1:cmpI a.b b.b=0:=h 1 sR;rw[Aj sP,Aj sP];rfl
theorem YA(h:∀j,j<3->cmpI (part a j) (part b j)=0):GL a b=0:=by
 unfold GL;have h0:cmpI a.a b.a=0:=h 0 sR;have h1:cmpI a.b b.b=0:=h 1 sR;have h2:cmpI a.c b.c=0:=h 2 sR;rw[Aj sP,Aj sP,h2]
theorem mP:PC 141 [.agg (Dy a),.agg (Dy b)] (vi (GL a b)):=by
 refine Ps Dj Tryz.func141 rfl (Nz rfl) (yN (Xi _ (Yi (bE a) (yN (Xi _ (Yi (bE b) (Yi (Nz rfl) (yN (Yi sT (Xi {i:Nat // i<=3/\∀j,j<i->cmpI (part a j) (part b j)=0} (Xi (fun i=>⟨[(5,.ref 5 0),(6,.ref 6 0),(13,vi i.1)],[(5,.cells (Dy a)),(6,.cells (Dy b))],Ao⟩) (Xi (fun i=>3-i.1) (Yi (Xi ⟨0,by omega,fun j h=>by omega⟩ ?_) ?_)))))))))))))
 .exact⟨Z3,Z2,Fh,Tv⟩
 intro⟨i,h1,h2⟩;refine Yi ?_ ?_
 .intro h;have h:(i:Int)<3:=h;have next:cmpI (part a i) (part b i)=0->∀j,j<i+1->cmpI (part a j) (part b j)=0:=fun hz j hj=>by
   rcases Be j i with q | q
   .exact h2 j q
   .have:j=i:=by omega
    subst this;exact hz
  match i,h1,h2,h,next with
  |0,h1,h2,h,next=>
   refine Yi ⟨by show(0:Int)<=0;decide,by show(0:Int)<3;decide⟩ ?_;refine Yi ⟨by show(0:Int)<=0;decide,by show(0:Int)<3;decide⟩ ?_;refine Xi _ (Yi (ff (part a 0) (part b 0)) (Yi sT (Yi ?_ ?_)))
   .intro h4;exact .of_eq (Aa vi (ND a b 0 sR h2 h4).symm)
   .intro h4;refine Yi (Ii 0 sP) (Xi ⟨1,by omega,next (EI h4)⟩ ?_)
    exact⟨by show 3-1<3-0;decide,Z3,Z2,Fh,Tv⟩
  |1,h1,h2,h,next=>
   refine Yi ⟨by show(0:Int)<=1;decide,by show(1:Int)<3;decide⟩ ?_;refine Yi ⟨by show(0:Int)<=1;decide,by show(1:Int)<3;decide⟩ ?_;refine Xi _ (Yi (ff (part a 1) (part b 1)) (Yi sT (Yi ?_ ?_)))
   .intro h4;exact .of_eq (Aa vi (ND a b 1 sR h2 h4).symm)
   .intro h4;refine Yi (Ii 1 sP) (Xi ⟨2,by omega,next (EI h4)⟩ ?_)
    exact⟨by show 3-2<3-1;decide,Z3,Z2,Fh,Tv⟩
  |2,h1,h2,h,next=>
   refine Yi ⟨by show(0:Int)<=2;decide,by show(2:Int)<3;decide⟩ ?_;refine Yi ⟨by show(0:Int)<=2;decide,by show(2:Int)<3;decide⟩ ?_;refine Xi _ (Yi (ff (part a 2) (part b 2)) (Yi sT (Yi ?_ ?_)))
   .intro h4;exact .of_eq (Aa vi (ND a b 2 sR h2 h4).symm)
   .intro h4;have h4:¬cmpI (part a 2) (part b 2)≠0:=h4;refine Yi (Ii 2 sP) (Xi ⟨3,by omega,next (EI h4)⟩ ?_)
    exact⟨by show 3-3<3-2;decide,Z3,Z2,Fh,Tv⟩
  |i+3,h1,h2,h,next=>omega
 .intro h;have h:¬(i:Int)<3:=h;exact .of_eq (Aa vi (YA a b fun j hj=>h2 j sP).symm)
theorem mF(a b:Rl):PC 81 [.agg (Bb a),.agg (Bb b)] (vi (GK a b)):=by
 refine Ps Dj Tryz.func81 rfl (Nz rfl) (Xi _ (Yi (mO a.path b.path) (Yi (Nz rfl) (yN (Xi _ (Yi (mP a.ver b.ver) (Xi _ (Yi (mN (II a.path b.path) (GL a.ver b.ver)) (Yi sT ?_)))))))));exact .refl _
abbrev CT:Prop:=s.size<=1073741824
abbrev bp(q:Rq):Prop:=CC q.set/\CT q.path
abbrev KF:Prop:=CT r.path/\∀q∈r.reqs,bp q
abbrev La(nm:ByteArray->ByteArray)(p:ByteArray):AV:=match AU p with
 |some m=>.tup [vs (nm p),vi m,vi 0]
 |none=>.tup [vs ⟨#[]⟩,vi 0,vi 4]
abbrev OY(nm:ByteArray->ByteArray):Prop:=∀p:ByteArray,CT p->PC 93 [vs p] (La nm p)
theorem OY.none(h:OY nm)(hp:CT p)(e:AU p=.none):PC 93 [vs p] (.tup [vs ⟨#[]⟩,vi 0,vi 4]):=by
 have:=h p hp;unfold La at this;rw[e]at this;exact this
theorem OY.some(h:OY nm){m:Int}(hp:CT p)(e:AU p=.some m):PC 93 [vs p] (.tup [vs (nm p),vi m,vi 0]):=by
 have:=h p hp;unfold La at this;rw[e]at this;exact this
theorem jv(hL:OY nm)(q:Rq)(hq:CC q.set)(hp:CT q.path):PC 189 [.agg (BU q),.v (.pointer none)] (vi (E9 none q)):=by
 cases hpm:AU q.path with
 |none=>
  have e:(4:Int)=E9 none q:=by unfold E9;rw[hpm];rfl
  have hl:=hL.none hp hpm;refine Ps Dj Tryz.func189 rfl (Nz rfl) (Xi .pure (Xi _ (Yi (hl) (Yi ?_ ?_))))
  .intro _;exact .of_eq (Aa vi e)
  .intro h;exact absurd (show(4:Int)≠0 by decide) h
 |some m=>
  have er:E9 none q=if(q.set.isEmpty||!decide (q.set=canon q.set)||false)=true then 1 else 0:=by unfold E9;rw[hpm];rfl
  have hl:=hL.some hp hpm;have hc:=jt q.set hq;have he:=jx q.set (canon q.set) hq;have LP:∀{n:Int},n=(q.set.map An).length->n=0->q.set.isEmpty=true:=fun h1 h2=>by
   rw[Lm]at h1;rw[List.isEmpty_iff];exact AF sP
  have Zb:¬((q.set.map An).length:Int)=0->q.set.isEmpty=false:=fun h=>by
   cases hqs:q.set with
   |nil=>rw[hqs]at h;exact absurd rfl h
   |cons a l=>rfl
  rcases Bt (decide (q.set=canon q.set))with h2 | h2
  .rw[h2]at he;refine Ps (F0 []) Tryz.func189 rfl (Nz rfl) (Xi .pure (Xi _ (Yi (hl) (Yi ?_ ?_))))
   .intro h;exact absurd rfl h
   intro _;refine Yi ?_ ?_
   .intro h;have e:(1:Int)=E9 none q:=by rw[er,LP rfl h];rfl
    refine Yi sT ?_;exact .of_eq (Aa vi e)
   intro h;have hn:=Zb h;refine Xi _ (Yi (hc) (Xi _ (Yi (he) (Yi sT ?_))));have e:(0:Int)=E9 none q:=by rw[er,hn,h2];rfl
   exact .of_eq (Aa vi e)
  .rw[h2]at he;refine Ps (F0 []) Tryz.func189 rfl (Nz rfl) (Xi .pure (Xi _ (Yi (hl) (Yi ?_ ?_))))
   .intro h;exact absurd rfl h
   intro _;refine Yi ?_ ?_
   .intro h;have e:(1:Int)=E9 none q:=by rw[er,LP rfl h];rfl
    refine Yi sT ?_;exact .of_eq (Aa vi e)
   intro h;have hn:=Zb h;refine Xi _ (Yi (hc) (Xi _ (Yi (he) (Yi sT ?_))));have e:(1:Int)=E9 none q:=by rw[er,hn,h2];rfl
   exact .of_eq (Aa vi e)
theorem jw(hL:OY nm)(q b:Rq)(hq:CC q.set)(hp:CT q.path):PC 189 [.agg (BU q),.cptr (BU b)] (vi (E9 (some b.path) q)):=by
 cases hpm:AU q.path with
 |none=>
  have e:(4:Int)=E9 (some b.path) q:=by unfold E9;rw[hpm];rfl
  have hl:=hL.none hp hpm;refine Ps Dj Tryz.func189 rfl (Nz rfl) (Xi .pure (Xi _ (Yi (hl) (Yi ?_ ?_))))
  .intro _;exact .of_eq (Aa vi e)
  .intro h;exact absurd (show(4:Int)≠0 by decide) h
 |some m=>
  have er:E9 (some b.path) q=if(q.set.isEmpty||!decide (q.set=canon q.set)||!FC b.path q.path)=true then 1 else 0:=by unfold E9;rw[hpm];rfl
  have hl:=hL.some hp hpm;have hc:=jt q.set hq;have he:=jx q.set (canon q.set) hq;have LP:∀{n:Int},n=(q.set.map An).length->n=0->q.set.isEmpty=true:=fun h1 h2=>by
   rw[Lm]at h1;rw[List.isEmpty_iff];exact AF sP
  have Zb:¬((q.set.map An).length:Int)=0->q.set.isEmpty=false:=fun h=>by
   cases hqs:q.set with
   |nil=>rw[hqs]at h;exact absurd rfl h
   |cons a l=>rfl
  rcases Bt (decide (q.set=canon q.set))with h2 | h2
  .rw[h2]at he;refine Ps (F0 []) Tryz.func189 rfl (Nz rfl) (Xi .pure (Xi _ (Yi (hl) (Yi ?_ ?_))))
   .intro h;exact absurd rfl h
   intro _;refine Yi ?_ ?_
   .intro h;have e:(1:Int)=E9 (some b.path) q:=by rw[er,LP rfl h];rfl
    refine Yi sT ?_;exact .of_eq (Aa vi e)
   intro h;have hn:=Zb h;refine Xi _ (Yi (hc) (Xi _ (Yi (he) (Yi ?_ ?_))))
   .intro h3;refine Yi sT ?_;have e:(1:Int)=E9 (some b.path) q:=by rw[er,hn,h2,Ed,h3];rfl
    exact .of_eq (Aa vi e)
   .intro h3;have h3:Op.bytesLess b.path.toList q.path.toList=true:=by simpa using h3
    refine Yi sT ?_;have e:(0:Int)=E9 (some b.path) q:=by rw[er,hn,h2,Ed,h3];rfl
    exact .of_eq (Aa vi e)
  .rw[h2]at he;refine Ps (F0 []) Tryz.func189 rfl (Nz rfl) (Xi .pure (Xi _ (Yi (hl) (Yi ?_ ?_))))
   .intro h;exact absurd rfl h
   intro _;refine Yi ?_ ?_
   .intro h;have e:(1:Int)=E9 (some b.path) q:=by rw[er,LP rfl h];rfl
    refine Yi sT ?_;exact .of_eq (Aa vi e)
   intro h;have hn:=Zb h;refine Xi _ (Yi (hc) (Xi _ (Yi (he) (Yi sT ?_))));have e:(1:Int)=E9 (some b.path) q:=by rw[er,hn,h2];rfl
   exact .of_eq (Aa vi e)
abbrev Jp(k:Nat):List AV:=((l.map BU)[k]?).getD []
abbrev jr:Nat->AV
 |0=>.v (.pointer none)
 |k+1=>.cptr (Jp l k)
abbrev GX:Nat->Option ByteArray
 |0=>none
 |k+1=>(l[k]?).map (·.path)
theorem Kg{l:List Rq}(h:k<l.length):Jp l k=BU l[k]:=by
 unfold Jp;rw[Ap,Ge h];rfl
theorem IV{l:List Rq}(h:k<l.length):GX l (k+1)=some l[k].path:=by
 show(l[k]?).map _=_;rw[Ge h];rfl
theorem qJ(hL:OY nm)(l:List Rq)(hs:∀q∈l,bp q):PC 127 [sl BU l] (vi (B8 l)):=by
 refine Ps (F0 []) Tryz.func127 rfl (Nz rfl) (Yi ?_ ?_)
 .intro h;exact .of_eq (Aa vi (show(7:Int)=B8 l by unfold B8;rw[Av (by rw[Lm]at h;omega)]))
 intro h;have hl:l.length<=16:=by rw[Lm]at h;omega
 have LO:B8 l=Dx none l:=by unfold B8;rw[Aj sP]
 refine Xi {i:Nat // i<=l.length/\Dx none l=Dx (GX l i) (l.drop i)} (Xi (fun i=>⟨[(0,sl BU l),(3,jr l i.1),(10,sl BU l),(11,vi (l.map BU).length),(12,vi i.1)],[],Ao⟩) (Xi (fun i=>l.length-i.1) (Yi (Xi ⟨0,Ar _,rfl⟩ ?_) ?_)))
 .exact⟨Z5,Tv,Fh,Tv⟩
 intro⟨i,h1,h2⟩;refine Yi ?_ ?_
 .intro h;have h:i<l.length:=by simpa using h
  have hg:l[i]?=some l[i]:=Ge h;have hd:l.drop i=l[i]::l.drop (i+1):=AG h;have hq:=hs l[i] (Af h);have hc:PC 189 [.agg (BU l[i]),jr l i] (vi (E9 (GX l i) l[i])):=by
   cases i with
   |zero=>exact jv hL _ hq.1 hq.2
   |succ k=>
    rw[IV (by omega:k<l.length)];show PC 189 [_,.cptr (Jp l k)] _;rw[Kg (by omega:k<l.length)];exact jw hL _ _ hq.1 hq.2
  have FD:Dx none l=if E9 (GX l i) l[i]=0 then Dx (some l[i].path) (l.drop (i+1))else E9 (GX l i) l[i]:=by rw[h2,hd];rfl
  match i,h1,h2,h,hg,hd,hc,FD with
  |0,h1,h2,h,hg,hd,hc,FD=>
   refine Xi (BU l[0]) (Yi (Yi (by show(0:Int)<=((0:Nat):Int);omega) (by simp[hg])) (Yi rfl ?_));refine Yi (Nz rfl) (Yi (Nz rfl) (yN (Xi .pure (Xi _ (Yi (hc) (Yi ?_ ?_))))))
   .intro h4;exact .of_eq (Aa vi (show E9 (GX l (0)) l[0]=B8 l by rw[LO,FD,Aj h4]))
   .intro h4;refine Xi (BU l[0]) (Yi (Yi (by show(0:Int)<=((0:Nat):Int);omega) (by simp[hg])) (Yi rfl ?_));refine Yi (by show AE (((0:Nat):Int)+1);unfold AE;omega) ?_;refine Xi ⟨0+1,by omega,by rw[FD,Av (EI h4),IV h]⟩ ?_;have e1:AV.cptr (BU l[0])=.cptr (Jp l (0)):=by rw[Kg h]
    exact⟨by show l.length-(0+1)<l.length-(0);omega,⟨Zr,⟨e1,rfl⟩,Zr,Zr,Zr,Tv⟩,Tv,Fh,Tv⟩
  |k+1,h1,h2,h,hg,hd,hc,FD=>
   refine Xi (BU l[k+1]) (Yi (Yi (by show(0:Int)<=((k+1:Nat):Int);omega) (by simp[hg])) (Yi rfl ?_));refine Yi (Nz rfl) (Yi (Nz rfl) (yN (Xi .pure (Xi _ (Yi (hc) (Yi ?_ ?_))))))
   .intro h4;exact .of_eq (Aa vi (show E9 (GX l (k+1)) l[k+1]=B8 l by rw[LO,FD,Aj h4]))
   .intro h4;refine Xi (BU l[k+1]) (Yi (Yi (by show(0:Int)<=((k+1:Nat):Int);omega) (by simp[hg])) (Yi rfl ?_));refine Yi (by show AE (((k+1:Nat):Int)+1);unfold AE;omega) ?_;refine Xi ⟨k+1+1,by omega,by rw[FD,Av (EI h4),IV h]⟩ ?_;have e1:AV.cptr (BU l[k+1])=.cptr (Jp l (k+1)):=by rw[Kg h]
    exact⟨by show l.length-(k+1+1)<l.length-(k+1);omega,⟨Zr,⟨e1,rfl⟩,Zr,Zr,Zr,Tv⟩,Tv,Fh,Tv⟩
 .intro h;have h:¬i<l.length:=by simpa using h
  have e:(0:Int)=B8 l:=by rw[LO,h2,Df sP];rfl
  exact .of_eq (Aa vi e)
abbrev YD:Nat->ByteArray
 |0=>r.arch
 |1=>r.ifc
 |_=>r.cert
theorem fA{r:Rl}(h:∀j,j<3->CU (YD r j)=true):(CU r.arch&&CU r.ifc&&CU r.cert)=true:=by
 have h0:CU r.arch=true:=h 0 sR;have h1:CU r.ifc=true:=h 1 sR;have h2:CU r.cert=true:=h 2 sR;rw[h0,h1,h2];rfl
theorem Ua{r:Rl}{i:Nat}(hi:i<3)(h:CU (YD r i)=false):(CU r.arch&&CU r.ifc&&CU r.cert)=false:=by
 match i,hi,h with
 |0,_,h=>have h:CU r.arch=false:=h;rw[h];rfl
 |1,_,h=>have h:CU r.ifc=false:=h;rw[h,CN];rfl
 |2,_,h=>have h:CU r.cert=false:=h;rw[h,CN]
theorem mE(hL:OY nm)(r:Rl)(hr:KF r):PC 79 [.agg (Bb r)] (vi (CG r)):=by
 cases hpm:AU r.path with
 |none=>
  have e:(4:Int)=CG r:=by unfold CG;rw[hpm]
  have hl:=hL.none hr.1 hpm;refine Ps Dj Tryz.func79 rfl (Nz rfl) (Xi .pure (Xi _ (Yi (hl) (Yi ?_ ?_))))
  .intro _;exact .of_eq (Aa vi e)
  .intro h;exact absurd (show(4:Int)≠0 by decide) h
 |some m=>
  have er:CG r=if(!Cy r.ver||!decide (r.ver.a=m))=true then 2 else if B8 r.reqs≠0 then B8 r.reqs else if(CU r.arch&&CU r.ifc&&CU r.cert)=true then 0 else 1:=by unfold CG;rw[hpm]
  have hl:=hL.some hr.1 hpm;have hv:=Yq r.ver;have hc:=qJ hL r.reqs hr.2;rcases Bt (Cy r.ver)with h2 | h2
  .rw[h2]at hv;refine Ps (F0 []) Tryz.func79 rfl (Nz rfl) (Xi .pure (Xi _ (Yi (hl) (Yi ?_ ?_))))
   .intro h;exact absurd rfl h
   intro _;refine yN (Xi .pure (Xi _ (Yi (hv) (Yi ?_ ?_))))
   .intro h;have e:(2:Int)=CG r:=by rw[er,h2,Ae h];rfl
    exact .of_eq (Aa vi e)
   intro h;have h3:r.ver.a=m:=EI h;have jL:CG r=if B8 r.reqs≠0 then B8 r.reqs else if(CU r.arch&&CU r.ifc&&CU r.cert)=true then 0 else 1:=by rw[er,h2,Ah h3];rfl
   refine Xi .pure (Xi _ (Yi (hc) (Yi ?_ ?_)))
   .intro h4;exact .of_eq (Aa vi (show B8 r.reqs=CG r by rw[jL,Av h4]))
   intro h4;have lS:CG r=if(CU r.arch&&CU r.ifc&&CU r.cert)=true then 0 else 1:=by rw[jL,Aj h4]
   refine Xi {i:Nat // i<=3/\∀j,j<i->CU (YD r j)=true} (Xi (fun i=>⟨[(41,.slice (.id 41 1) [[vs r.arch],[vs r.ifc],[vs r.cert]]),(42,vi 3),(43,vi i.1)],[(41,.tok 1 3)],Ao⟩) (Xi (fun i=>3-i.1) (Yi (Xi ⟨0,by omega,fun j h=>by omega⟩ ?_) ?_)))
   .exact⟨Z3,Z1,Fh,Tv⟩
   intro⟨i,i1,i2⟩;refine Yi ?_ ?_
   .intro h;have h:(i:Int)<3:=h;have next:CU (YD r i)=true->∀j,j<i+1->CU (YD r j)=true:=fun hz j hj=>by
     rcases Be j i with q | q
     .exact i2 j q
     .have:j=i:=by omega
      subst this;exact hz
    match i,i1,i2,h,next with
    |0,i1,i2,h,next=>
     refine Xi [vs r.arch] (Yi (Yi (by show(0:Int)<=0;decide) rfl) (Yi rfl (Yi ?_ ?_)))
     .intro h5;refine Yi ?_ ?_
      .intro h6;have e:(1:Int)=CG r:=by rw[lS,Ua (i:=0) sR (show CU r.arch=false by unfold CU;rw[Ae sP,Ae sP];rfl)];rfl
       exact .of_eq (Aa vi e)
      .intro h6;refine Yi (Ii 0 sP) (Xi ⟨1,by omega,next (show CU r.arch=true by unfold CU;rw[Ah (by omega:r.arch.size=32),OX])⟩ ?_)
       exact⟨by show 3-1<3-0;decide,Z3,Z1,Fh,Tv⟩
     .intro h5;refine Yi (Ii 0 sP) (Xi ⟨1,by omega,next (show CU r.arch=true by unfold CU;rw[Ah (by omega:r.arch.size=0)];rfl)⟩ ?_)
      exact⟨by show 3-1<3-0;decide,Z3,Z1,Fh,Tv⟩
    |1,i1,i2,h,next=>
     refine Xi [vs r.ifc] (Yi (Yi (by show(0:Int)<=1;decide) rfl) (Yi rfl (Yi ?_ ?_)))
     .intro h5;have h5:((r.ifc.size:Nat):Int)≠0:=h5;refine Yi ?_ ?_
      .intro h6;have h6:((r.ifc.size:Nat):Int)≠32:=h6;have e:(1:Int)=CG r:=by rw[lS,Ua (i:=1) sR (show CU r.ifc=false by unfold CU;rw[Ae sP,Ae sP];rfl)];rfl
       exact .of_eq (Aa vi e)
      .intro h6;have h6:¬((r.ifc.size:Nat):Int)≠32:=h6;refine Yi (Ii 1 sP) (Xi ⟨2,by omega,next (show CU r.ifc=true by unfold CU;rw[Ah (by omega:r.ifc.size=32),OX])⟩ ?_)
       exact⟨by show 3-2<3-1;decide,Z3,Z1,Fh,Tv⟩
     .intro h5;have h5:¬((r.ifc.size:Nat):Int)≠0:=h5;refine Yi (Ii 1 sP) (Xi ⟨2,by omega,next (show CU r.ifc=true by unfold CU;rw[Ah (by omega:r.ifc.size=0)];rfl)⟩ ?_)
      exact⟨by show 3-2<3-1;decide,Z3,Z1,Fh,Tv⟩
    |2,i1,i2,h,next=>
     refine Xi [vs r.cert] (Yi (Yi (by show(0:Int)<=2;decide) rfl) (Yi rfl (Yi ?_ ?_)))
     .intro h5;have h5:((r.cert.size:Nat):Int)≠0:=h5;refine Yi ?_ ?_
      .intro h6;have h6:((r.cert.size:Nat):Int)≠32:=h6;have e:(1:Int)=CG r:=by rw[lS,Ua (i:=2) sR (show CU r.cert=false by unfold CU;rw[Ae sP,Ae sP];rfl)];rfl
       exact .of_eq (Aa vi e)
      .intro h6;have h6:¬((r.cert.size:Nat):Int)≠32:=h6;refine Yi (Ii 2 sP) (Xi ⟨3,by omega,next (show CU r.cert=true by unfold CU;rw[Ah (by omega:r.cert.size=32),OX])⟩ ?_)
       exact⟨by show 3-3<3-2;decide,Z3,Z1,Fh,Tv⟩
     .intro h5;have h5:¬((r.cert.size:Nat):Int)≠0:=h5;refine Yi (Ii 2 sP) (Xi ⟨3,by omega,next (show CU r.cert=true by unfold CU;rw[Ah (by omega:r.cert.size=0)];rfl)⟩ ?_)
      exact⟨by show 3-3<3-2;decide,Z3,Z1,Fh,Tv⟩
    |i+3,i1,i2,h,next=>omega
   .intro h;have h:¬(i:Int)<3:=h;have e:(0:Int)=CG r:=by rw[lS,Av (fA fun j hj=>i2 j sP)]
    exact .of_eq (Aa vi e)
  .rw[h2]at hv;have e:(2:Int)=CG r:=by rw[er,h2];rfl
   refine Ps (F0 []) Tryz.func79 rfl (Nz rfl) (Xi .pure (Xi _ (Yi (hl) (Yi ?_ ?_))))
   .intro h;exact absurd rfl h
   intro _;refine yN (Xi .pure (Xi _ (Yi (hv) ?_)));exact .of_eq (Aa vi e)
theorem gD{a b:Rl}(h:a.path=b.path/\a.ver.a=b.ver.a/\a.ver.b=b.ver.b/\a.ver.c=b.ver.c):Ej a=Ej b:=by
 unfold Ej;obtain⟨h1,h2,h3,h4⟩:=h
 have:a.ver=b.ver:=by
  cases ha:a.ver;cases hb:b.ver;rw[ha,hb]at h2 h3 h4;simp_all
 rw[h1,this]
theorem PX{a b:Rl}(h:Ej a=Ej b):a.path=b.path/\a.ver.a=b.ver.a/\a.ver.b=b.ver.b/\a.ver.c=b.ver.c:=by
 unfold Ej at h
 injection h with h1 h2
 exact⟨h1,by rw[h2],by rw[h2],by rw[h2]⟩
abbrev QS(x:List Rl):Nat->Option Rl
 |0=>none
 |k+1=>x[k]?
theorem lO(hL:OY nm)(x:List Rl)(ifs:List (List AV))(hs:∀r∈x,KF r):PC 40 [.agg (Ic x ifs)] (vi (BA x)):=by
 refine Ps (F0 []) Tryz.func40 rfl (Nz rfl) (Yi ?_ ?_)
 .intro h;exact .of_eq (Aa vi (show(7:Int)=BA x by unfold BA;rw[Av (by rw[Lm]at h;omega)]))
 intro h;have hl:x.length<=256:=by rw[Lm]at h;omega
 have LO:BA x=Cf none x:=by unfold BA;rw[Aj sP]
 refine Xi {i:Nat // i<=x.length/\Cf none x=Cf (QS x i) (x.drop i)} (Xi (fun i=>⟨[(1,.ref 1 0),(12,sl Bb x),(13,vi (x.map Bb).length),(14,vi i.1)],[(1,.cells (Ic x ifs))],Ao⟩) (Xi (fun i=>x.length-i.1) (Yi (Xi ⟨0,Ar _,rfl⟩ ?_) ?_)))
 .exact⟨Z4,Z1,Fh,Tv⟩
 intro⟨i,h1,h2⟩;refine Yi ?_ ?_
 .intro h;have h:i<x.length:=by simpa using h
  have hg:x[i]?=some x[i]:=Ge h;have hd:x.drop i=x[i]::x.drop (i+1):=AG h;have hc:=mE hL x[i] (hs x[i] (Af h));have FD:Cf none x=if CG x[i]≠0 then CG x[i]else match QS x i with
   |none=>Cf (some x[i]) (x.drop (i+1))
   |some b=>if Ej b=Ej x[i]then 5 else if 0<GK b x[i]then 1 else Cf (some x[i]) (x.drop (i+1)):=by rw[h2,hd];rfl
  have SC:QS x (i+1)=some x[i]:=Ge h;refine Xi (Bb x[i]) (Yi (Yi (Nn i) (by simp[hg])) (Yi rfl ?_));refine Yi (Nz rfl) (Yi (Nz rfl) (yN (Xi .pure (Xi _ (Yi (hc) (Yi ?_ ?_))))))
  .intro h4;exact .of_eq (Aa vi (show CG x[i]=BA x by rw[LO,FD,Av h4]))
  intro h4;refine Yi ?_ ?_
  .intro h5;have h5:(i:Int)=0:=h5;have h6:i=0:=by omega
   refine Yi (Ii i sP) (Xi ⟨i+1,by omega,by rw[FD,Aj h4,SC];subst h6;rfl⟩ ?_);exact⟨Dl x.length i sP,Z4,Z1,Fh,Tv⟩
  intro h5;have h5:¬(i:Int)=0:=h5;have dS:i-1<x.length:=by omega
  have hb:QS x i=some x[i-1]:=by
   obtain⟨k,rfl⟩:∃k,i=k+1:=⟨i-1,by omega⟩;exact Ge sP
  have fT:Cf none x=if Ej x[i-1]=Ej x[i]then 5 else if 0<GK x[i-1] x[i]then 1 else Cf (some x[i]) (x.drop (i+1)):=by rw[FD,Aj h4,hb]
  refine Yi (by show AE ((i:Int)-1);unfold AE;omega) ?_;have PR:(x.map Bb)[((i:Int)-1).toNat]?=some (Bb x[i-1]):=by rw[show((i:Int)-1).toNat=i-1 by omega];exact CQ (Ge dS)
  refine Xi (Bb x[i-1]) (Yi (Yi (by show(0:Int)<=(i:Int)-1;omega) PR) (Yi rfl (Yi (Nz rfl) (yN (yN (Xi _ (Yi (fc x[i-1]) (yN (Xi _ (Yi (fc x[i]) (Yi ?_ ?_)))))))))))
  .intro h6;refine Yi sT ?_;have e:(5:Int)=BA x:=by rw[LO,fT,Av (gD ⟨h6.1,h6.2.1,h6.2.2.1,h6.2.2.2.1⟩)]
   exact .of_eq (Aa vi e)
  intro h6;refine Yi sT ?_;have h7:¬Ej x[i-1]=Ej x[i]:=fun e=>by
   have e:=PX e;exact h6 ⟨e.1,e.2.1,e.2.2.1,e.2.2.2,trivial⟩
  refine Yi (Nz rfl) (yN (Xi .pure (Xi _ (Yi (mF x[i-1] x[i]) (Yi ?_ ?_)))))
  .intro h8;have e:(1:Int)=BA x:=by rw[LO,fT,Aj h7,Av h8]
   exact .of_eq (Aa vi e)
  .intro h8;refine Yi (Ii i sP) (Xi ⟨i+1,by omega,by rw[fT,Aj h7,Aj h8,SC]⟩ ?_);exact⟨Dl x.length i sP,Z4,Z1,Fh,Tv⟩
 .intro h;have h:¬i<x.length:=by simpa using h
  have e:(0:Int)=BA x:=by rw[LO,h2,Df sP];rfl
  exact .of_eq (Aa vi e)
abbrev mn(a:AV):List AV:=[vs r.path,vi r.ver.a,vi r.ver.b,vi r.ver.c,a,vs r.arch,vs r.ifc,vs r.cert,vb r.yanked]
abbrev oZ:VN:=⟨[],[],[],[],[],[],[],[(9,(1,4,900,2))],[],[],[]⟩
theorem qM(hr:r.reqs.length<=1000)(hs:∀q∈r.reqs,CC q.set):PC 83 [.agg (Bb r)] (.agg (Bb r)):=by
 refine Ps oZ Tryz.func83 rfl (Nz rfl) (yN (Xi {i:Nat // i<=r.reqs.length} (Xi (fun i=>⟨[(1,.ref 1 0),(2,.ref 2 0),(9,sl BU r.reqs),(10,vi (r.reqs.map BU).length),(11,vi i.1)],[(1,.cells (mn r (.slice (.id 900 2) ((r.reqs.take i.1).map BU)))),(2,.cells bo),(900,.tok 2 ((r.reqs.take i.1).map BU).length)],Ao⟩) (Xi (fun i=>r.reqs.length-i.1) (Yi (Xi ⟨0,Ar _⟩ ?_) ?_)))))
 .exact⟨Z5,Z3,Fh,Tv⟩
 intro⟨i,h1⟩;refine Yi ?_ ?_
 .intro h;have h:i<r.reqs.length:=by simpa using h
  have hg:r.reqs[i]?=some r.reqs[i]:=Ge h;refine Xi (BU r.reqs[i]) (Yi (Yi (Nn i) (by simp[hg])) (Yi rfl ?_));have hq:=hs r.reqs[i] (Af h);refine Yi (Nz rfl) (yN (Xi .pure (Xi _ (Yi (mL r.reqs[i].set hq) (yN (yN ?_))))));have Hd:Cn 2 [BU r.reqs[i]]/\((r.reqs.take i).map BU).length=((r.reqs.take i).map BU).length/\(((r.reqs.take i).map BU).length+[BU r.reqs[i]].length)*40<=140737488355328/\((r.reqs.take i).map BU).length+[BU r.reqs[i]].length<=9223372036854775807:=
   ⟨⟨rfl,trivial⟩,rfl,by rw[Lm,Al,AI];omega,by rw[Lm,Al,AI];omega⟩
  refine Yi Hd (yN (Yi (Ii i sP) (Xi ⟨i+1,by omega⟩ ?_)));have et:(r.reqs.take (i+1)).map BU=(r.reqs.take i).map BU++[BU r.reqs[i]]:=by rw[A2,hg,AK];rfl
  have e1:HO.cells (mn r (.slice (.id 900 2) ((r.reqs.take i).map BU++[BU r.reqs[i]])))=.cells (mn r (.slice (.id 900 2) ((r.reqs.take (i+1)).map BU))):=by rw[et]
  have e2:HO.tok 2 (((r.reqs.take i).map BU).length+[BU r.reqs[i]].length)=.tok 2 ((r.reqs.take (i+1)).map BU).length:=by rw[et,Ac]
  exact⟨Dl r.reqs.length i sP,Z5,⟨⟨e1,rfl⟩,Zr,⟨e2,rfl⟩,Tv⟩,Fh,Tv⟩
 .intro h;have h:¬i<r.reqs.length:=by simpa using h
  refine Yi (Nz rfl) (Yi (Nz rfl) (yN ?_));have e:AV.agg (mn r (.slice .none ((r.reqs.take i).map BU)))=.agg (Bb r):=by rw[As sP]
  exact .of_eq e
abbrev vc:AV:=.v (.int .u8 c.toNat)
theorem Qx(a:UInt8)(n:Nat)(h:n<256):decide (UInt8.ofNat n<=a)=decide ((n:Int)<=(a.toNat:Int)):=by
 rw[Dp,A3,A3,Ew,show(UInt8.ofNat n).toNat=n by simp;omega];omega
theorem Qw(a:UInt8)(n:Nat)(h:n<256):decide (a<=UInt8.ofNat n)=decide ((a.toNat:Int)<=(n:Int)):=by
 rw[Dp,A3,A3,Ew,show(UInt8.ofNat n).toNat=n by simp;omega];omega
theorem fj:PC 203 [vc c] (vb (Ds c)):=by
 refine Ps Dj Tryz.func203 rfl (Nz rfl) ?_;have e1:decide ((97:UInt8)<=c)=decide ((97:Int)<=(c.toNat:Int)):=Qx c 97 sR;have e2:decide (c<=(122:UInt8))=decide ((c.toNat:Int)<=(122:Int)):=Qw c 122 sR;have es:Ds c=(decide ((97:Int)<=(c.toNat:Int))&&decide ((c.toNat:Int)<=(122:Int))):=by unfold Ds;rw[e1,e2]
 refine Yi ?_ ?_
 .intro h;refine Yi ?_ ?_
  .intro h2;exact .of_eq (Aa vb (show true=Ds c by rw[es,Ah h,Ah h2];rfl))
  .intro h2;exact .of_eq (Aa vb (show false=Ds c by rw[es,Ae h2,CN]))
 .intro h;exact .of_eq (Aa vb (show false=Ds c by rw[es,Ae h];rfl))
theorem fk:PC 204 [vc c] (vb (BT c)):=by
 refine Ps Dj Tryz.func204 rfl (Nz rfl) ?_;have e1:decide ((48:UInt8)<=c)=decide ((48:Int)<=(c.toNat:Int)):=Qx c 48 sR;have e2:decide (c<=(57:UInt8))=decide ((c.toNat:Int)<=(57:Int)):=Qw c 57 sR;have es:BT c=(decide ((48:Int)<=(c.toNat:Int))&&decide ((c.toNat:Int)<=(57:Int))):=by unfold BT;rw[e1,e2]
 refine Yi ?_ ?_
 .intro h;refine Yi ?_ ?_
  .intro h2;exact .of_eq (Aa vb (show true=BT c by rw[es,Ah h,Ah h2];rfl))
  .intro h2;exact .of_eq (Aa vb (show false=BT c by rw[es,Ae h2,CN]))
 .intro h;exact .of_eq (Aa vb (show false=BT c by rw[es,Ae h];rfl))
theorem m8:PC 290 [vc c] (vb (IW c)):=by
 refine Ps Dj Tryz.func290 rfl (Nz rfl) ?_;have e1:decide ((65:UInt8)<=c)=decide ((65:Int)<=(c.toNat:Int)):=Qx c 65 sR;have e2:decide (c<=(90:UInt8))=decide ((c.toNat:Int)<=(90:Int)):=Qw c 90 sR;have es:IW c=(decide ((65:Int)<=(c.toNat:Int))&&decide ((c.toNat:Int)<=(90:Int))):=by unfold IW;rw[e1,e2]
 refine Yi ?_ ?_
 .intro h;refine Yi ?_ ?_
  .intro h2;exact .of_eq (Aa vb (show true=IW c by rw[es,Ah h,Ah h2];rfl))
  .intro h2;exact .of_eq (Aa vb (show false=IW c by rw[es,Ae h2,CN]))
 .intro h;exact .of_eq (Aa vb (show false=IW c by rw[es,Ae h];rfl))
abbrev JP:Bool:=Ds c||BT c
theorem mW:PC 202 [vc c] (vb (JP c)):=by
 have h1:=fj c;have h2:=fk c;rcases Bt (Ds c)with e | e
 .rw[e]at h1;refine Ps Dj Tryz.func202 rfl (Nz rfl) (Xi .pure (Xi _ (Yi (h1) ?_)));exact .of_eq (Aa vb (show true=JP c by unfold JP;rw[e];rfl))
 .rw[e]at h1;refine Ps Dj Tryz.func202 rfl (Nz rfl) (Xi .pure (Xi _ (Yi (h1) (Xi .pure (Xi _ (Yi (h2) ?_))))));exact .of_eq (Aa vb (show BT c=JP c by unfold JP;rw[e];rfl))
theorem m5:PC 253 [vc c] (vb (Ei c)):=by
 have h1:=fj c;have h2:=m8 c;have h3:=fk c;have ew:Ei c=(Ds c||IW c||BT c||decide (c=95)):=rfl;rcases Bt (Ds c)with e | e
 .rw[e]at h1;refine Ps Dj Tryz.func253 rfl (Nz rfl) (Xi .pure (Xi _ (Yi (h1) ?_)));exact .of_eq (Aa vb (show true=Ei c by rw[ew,e];rfl))
 rw[e]at h1;rcases Bt (IW c)with e2 | e2
 .rw[e2]at h2;refine Ps Dj Tryz.func253 rfl (Nz rfl) (Xi .pure (Xi _ (Yi (h1) (Xi .pure (Xi _ (Yi (h2) ?_))))));exact .of_eq (Aa vb (show true=Ei c by rw[ew,e,e2];rfl))
 rw[e2]at h2;rcases Bt (BT c)with e3 | e3
 .rw[e3]at h3;refine Ps Dj Tryz.func253 rfl (Nz rfl) (Xi .pure (Xi _ (Yi (h1) (Xi .pure (Xi _ (Yi (h2) (Xi .pure (Xi _ (Yi (h3) ?_)))))))));exact .of_eq (Aa vb (show true=Ei c by rw[ew,e,e2,e3];rfl))
 rw[e3]at h3;refine Ps Dj Tryz.func253 rfl (Nz rfl) (Xi .pure (Xi _ (Yi (h1) (Xi .pure (Xi _ (Yi (h2) (Xi .pure (Xi _ (Yi (h3) ?_)))))))));have eb:decide (c=95)=decide ((c.toNat:Int)=95):=by
  rw[Dp,A3,A3];constructor
  .intro h;subst h;rfl
  .intro h;exact EH.1 (by show c.toNat=95;omega)
 refine Yi ?_ ?_
 .intro h;exact .of_eq (Aa vb (show true=Ei c by rw[ew,e,e2,e3,eb,Ah h];rfl))
 .intro h;exact .of_eq (Aa vb (show false=Ei c by rw[ew,e,e2,e3,eb,Ae h];rfl))
theorem Jo(h:i<s.data.toList.length):s.data[i]?=some s.data.toList[i]:=by
 rw[<-Az];exact Ge h
theorem fh(f:Nat)(q:UInt8->Bool)(hf:∀c,PC f [vc c] (vb (q c)))(hs:s.data.toList.length<4611686018427387904):PC 201 [vs s,.v (aW f)] (vb (s.data.toList.all q)):=by
 have Dm:s.size=s.data.toList.length:=by simp
 refine Ps Dj Tryz.func201 rfl (Nz rfl) (Xi {i:Nat // i<=s.data.toList.length/\∀j (hj:j<s.data.toList.length),j<i->q s.data.toList[j]=true} (Xi (fun i=>⟨[(0,vs s),(1,.v (aW f)),(7,vi s.size),(8,vi i.1)],[],Ao⟩) (Xi (fun i=>s.data.toList.length-i.1) (Yi (Xi ⟨0,Ar _,fun j _ h=>by omega⟩ ?_) ?_))))
 .exact⟨Z4,Tv,Fh,Tv⟩
 intro⟨i,h1,h2⟩;refine Yi ?_ ?_
 .intro h;have h:(i:Int)<(s.size:Nat):=h;have h:i<s.data.toList.length:=by omega
  refine Xi s.data.toList[i] (Yi ⟨by show(0:Int)<=i;omega,by show s.data[((i:Nat):Int).toNat]?=_;rw[A1];exact Jo s i h⟩ ?_);have hc:=hf s.data.toList[i];refine Bn (Bt (q s.data.toList[i])) (fun e=>?_) (fun e=>?_)
  .rw[e]at hc;refine Xi .pure (Xi _ (Yi (hc) (Yi (Ii i sP) (Xi ⟨i+1,by omega,fun j hj Gn=>?_⟩ ?_))))
   .rcases Be j i with z | z
    .exact h2 j hj z
    .have:j=i:=by omega
     subst this;exact e
   .exact⟨Dl s.data.toList.length i sP,Z4,Tv,Fh,Tv⟩
  .rw[e]at hc;refine Xi .pure (Xi _ (Yi (hc) ?_));have er:s.data.toList.all q=false:=by
    rw[A8];intro ha
    have:=AJ.1 ha _ (Af h)
    rw[e]at this;cases this
   exact .of_eq (Aa vb er.symm)
 .intro h;have h:¬(i:Int)<(s.size:Nat):=h;have er:s.data.toList.all q=true:=AJ.2 fun c hc=>by
   obtain⟨j,hj,rfl⟩:=BB hc;exact h2 j hj sP
  exact .of_eq (Aa vb er.symm)
end Go.Eng
namespace Go.Proofs
open Go.Shelf
def Tryz.laySplit_ren:Go.Shelf.Ren:=⟨fun | 146=>104 | 221=>163 | 268=>216 | 138=>217 | 143=>218 | 195=>265 | 197=>266 | 218=>267 | 219=>162 | 260=>299 | 217=>212 | 225=>213 | 224=>214 | 267=>215 | 266=>263 | 314=>264 | n=>n,fun | 9=>9 | 31=>27 | 3=>3 | 4=>4 | 0=>0 | 105=>321 | 21=>21 | 5=>5 | 46=>127 | 119=>367 | 139=>370 | 138=>369 | 146=>285 | 51=>155 | n=>n,fun | 1=>0 | 3=>4 | 4=>5 | n=>n⟩
theorem Tryz.laySplit:Go.Proofs.Lays.n146 Tryz.prog Tryz.laySplit_ren:={
 mixed:=by kernel_rfl
 f138:=Tryz.func217.trans (congrArg some Go.Eng.sT)
 f143:=Tryz.func218.trans (congrArg some Go.Eng.sT)
 f146:=Tryz.func104.trans (congrArg some Go.Eng.sT)
 f195:=Tryz.func265.trans (congrArg some Go.Eng.sT)
 f197:=Tryz.func266.trans (congrArg some Go.Eng.sT)
 f217:=Tryz.func212.trans (congrArg some Go.Eng.sT)
 f218:=Tryz.func267.trans (congrArg some Go.Eng.sT)
 f219:=Tryz.func162.trans (congrArg some Go.Eng.sT)
 f221:=Tryz.func163.trans (congrArg some Go.Eng.sT)
 f224:=Tryz.func214.trans (congrArg some Go.Eng.sT)
 f225:=Tryz.func213.trans (congrArg some Go.Eng.sT)
 f260:=Tryz.func299.trans (congrArg some Go.Eng.sT)
 f266:=Tryz.func263.trans (congrArg some Go.Eng.sT)
 f267:=Tryz.func215.trans (congrArg some Go.Eng.sT)
 f268:=Tryz.func216.trans (congrArg some Go.Eng.sT)
 f314:=Tryz.func264.trans (congrArg some Go.Eng.sT)
 t0:=Tryz.underlying0
 a0:=Tryz.isAgg0
 z0:=Tryz.sizeOf0
 v0:=Tryz.zeroValue0
 t3:=Tryz.underlying3
 a3:=Tryz.isAgg3
 z3:=Tryz.sizeOf3
 v3:=Tryz.zeroValue3
 t4:=Tryz.underlying4
 a4:=Tryz.isAgg4
 z4:=Tryz.sizeOf4
 v4:=Tryz.zeroValue4
 t5:=Tryz.underlying5
 a5:=Tryz.isAgg5
 z5:=Tryz.sizeOf5
 v5:=Tryz.zeroValue5
 t9:=Tryz.underlying9
 a9:=Tryz.isAgg9
 z9:=Tryz.sizeOf9
 v9:=Tryz.zeroValue9
 t21:=Tryz.underlying21
 a21:=Tryz.isAgg21
 z21:=Tryz.sizeOf21
 v21:=Tryz.zeroValue21
 t31:=Tryz.underlying27
 a31:=Tryz.isAgg27
 z31:=Tryz.sizeOf27
 v31:=Tryz.zeroValue27
 t46:=Tryz.underlying127
 a46:=Tryz.isAgg127
 z46:=Tryz.sizeOf127
 v46:=Tryz.zeroValue127
 t51:=Tryz.underlying155
 a51:=Tryz.isAgg155
 z51:=Tryz.sizeOf155
 v51:=Tryz.zeroValue155
 t105:=Tryz.underlying321
 a105:=Tryz.isAgg321
 z105:=Tryz.sizeOf321
 v105:=Tryz.zeroValue321
 t119:=Tryz.underlying367
 a119:=Tryz.isAgg367
 z119:=Tryz.sizeOf367
 t138:=Tryz.underlying369
 a138:=Tryz.isAgg369
 z138:=Tryz.sizeOf369
 v138:=Tryz.zeroValue369
 t139:=Tryz.underlying370
 a139:=Tryz.isAgg370
 z139:=Tryz.sizeOf370
 v139:=Tryz.zeroValue370
 t146:=Tryz.underlying285
 a146:=Tryz.isAgg285
 z146:=Tryz.sizeOf285
 v146:=Tryz.zeroValue285
 g1:=by kernel_rfl
 g3:=by kernel_rfl
 g4:=by kernel_rfl }
def Tryz.layLast_ren:Go.Shelf.Ren:=⟨fun | 148=>154 | 222=>205 | 223=>206 | 269=>255 | n=>n,fun | 9=>9 | 3=>3 | 4=>4 | 5=>5 | 146=>285 | 51=>155 | 46=>127 | n=>n,fun | n=>n⟩
theorem Tryz.layLast:Go.Proofs.Lays.n148 Tryz.prog Tryz.layLast_ren:={
 mixed:=by kernel_rfl
 f148:=Tryz.func154.trans (congrArg some Go.Eng.sT)
 f222:=Tryz.func205.trans (congrArg some Go.Eng.sT)
 f223:=Tryz.func206.trans (congrArg some Go.Eng.sT)
 f269:=Tryz.func255.trans (congrArg some Go.Eng.sT)
 t3:=Tryz.underlying3
 a3:=Tryz.isAgg3
 z3:=Tryz.sizeOf3
 v3:=Tryz.zeroValue3
 t4:=Tryz.underlying4
 a4:=Tryz.isAgg4
 z4:=Tryz.sizeOf4
 v4:=Tryz.zeroValue4
 t5:=Tryz.underlying5
 a5:=Tryz.isAgg5
 z5:=Tryz.sizeOf5
 v5:=Tryz.zeroValue5
 t9:=Tryz.underlying9
 a9:=Tryz.isAgg9
 z9:=Tryz.sizeOf9
 v9:=Tryz.zeroValue9
 t46:=Tryz.underlying127
 a46:=Tryz.isAgg127
 z46:=Tryz.sizeOf127
 v46:=Tryz.zeroValue127
 t51:=Tryz.underlying155
 a51:=Tryz.isAgg155
 z51:=Tryz.sizeOf155
 v51:=Tryz.zeroValue155
 t146:=Tryz.underlying285
 a146:=Tryz.isAgg285
 z146:=Tryz.sizeOf285
 v146:=Tryz.zeroValue285 }
def Tryz.layCut_ren:Go.Shelf.Ren:=⟨fun | 103=>252 | 210=>289 | 206=>225 | n=>n,fun | 9=>9 | 4=>4 | 24=>90 | 3=>3 | n=>n,fun | n=>n⟩
theorem Tryz.layCut:Go.Proofs.Lays.n103 Tryz.prog Tryz.layCut_ren:={
 mixed:=by kernel_rfl
 f103:=Tryz.func252.trans (congrArg some Go.Eng.sT)
 f206:=Tryz.func225.trans (congrArg some Go.Eng.sT)
 f210:=Tryz.func289.trans (congrArg some Go.Eng.sT)
 t3:=Tryz.underlying3
 a3:=Tryz.isAgg3
 z3:=Tryz.sizeOf3
 v3:=Tryz.zeroValue3
 t4:=Tryz.underlying4
 a4:=Tryz.isAgg4
 z4:=Tryz.sizeOf4
 v4:=Tryz.zeroValue4
 t9:=Tryz.underlying9
 a9:=Tryz.isAgg9
 z9:=Tryz.sizeOf9
 v9:=Tryz.zeroValue9
 t24:=Tryz.underlying90
 a24:=Tryz.isAgg90
 z24:=Tryz.sizeOf90
 v24:=Tryz.zeroValue90 }
def Tryz.layCont_ren:Go.Shelf.Ren:=⟨fun | 144=>291 | 143=>218 | 219=>162 | 217=>212 | 225=>213 | 224=>214 | 267=>215 | 266=>263 | 314=>264 | n=>n,fun | 9=>9 | 4=>4 | 3=>3 | 5=>5 | 46=>127 | 146=>285 | 51=>155 | n=>n,fun | 1=>0 | n=>n⟩
theorem Tryz.layCont:Go.Proofs.Lays.n144 Tryz.prog Tryz.layCont_ren:={
 mixed:=by kernel_rfl
 f143:=Tryz.func218.trans (congrArg some Go.Eng.sT)
 f144:=Tryz.func291.trans (congrArg some Go.Eng.sT)
 f217:=Tryz.func212.trans (congrArg some Go.Eng.sT)
 f219:=Tryz.func162.trans (congrArg some Go.Eng.sT)
 f224:=Tryz.func214.trans (congrArg some Go.Eng.sT)
 f225:=Tryz.func213.trans (congrArg some Go.Eng.sT)
 f266:=Tryz.func263.trans (congrArg some Go.Eng.sT)
 f267:=Tryz.func215.trans (congrArg some Go.Eng.sT)
 f314:=Tryz.func264.trans (congrArg some Go.Eng.sT)
 t3:=Tryz.underlying3
 a3:=Tryz.isAgg3
 z3:=Tryz.sizeOf3
 v3:=Tryz.zeroValue3
 t4:=Tryz.underlying4
 a4:=Tryz.isAgg4
 z4:=Tryz.sizeOf4
 v4:=Tryz.zeroValue4
 t5:=Tryz.underlying5
 a5:=Tryz.isAgg5
 z5:=Tryz.sizeOf5
 v5:=Tryz.zeroValue5
 t9:=Tryz.underlying9
 a9:=Tryz.isAgg9
 z9:=Tryz.sizeOf9
 v9:=Tryz.zeroValue9
 t46:=Tryz.underlying127
 a46:=Tryz.isAgg127
 z46:=Tryz.sizeOf127
 v46:=Tryz.zeroValue127
 t51:=Tryz.underlying155
 a51:=Tryz.isAgg155
 z51:=Tryz.sizeOf155
 v51:=Tryz.zeroValue155
 t146:=Tryz.underlying285
 a146:=Tryz.isAgg285
 z146:=Tryz.sizeOf285
 v146:=Tryz.zeroValue285
 g1:=by kernel_rfl }
end Go.Proofs
namespace Go.Eng
open Go.Proofs
variable (s p:ByteArray)
abbrev T0:ByteArray:=⟨#[47]⟩
abbrev Bx:List ByteArray:=Go.Lib.splitB T0 0 (Go.Lib.countB s T0) s
theorem Ll:(Bx s).map (·.data.toList)=BC 47 s.data.toList:=Qt s 47
abbrev encS:List AV:=[vs s]
theorem c212(hs:CT s):PC 104 [vs s,vs T0] (sl encS (Bx s)):=by
 unfold CT at hs;have h:=Qi (P:=Tryz.prog) (f:=104) (args:=[vs s,vs T0]) [.string s,.string T0] ((Bx s).map Value.string) 9 (Q0 104 Tryz.func104 sT rfl) rfl (fun x hx=>by
  obtain⟨y,_,rfl⟩:=AA.1 hx;rfl) (fun w hm=>by
  obtain⟨m,hm⟩:=hm;have hl:(Bx s).length=Go.Lib.countB s T0+1:=Go.Lib.splitB_all T0 sR 0 _ s rfl;refine(Any.strings_Split Tryz.laySplit sT s T0 m w sP hm sR).mono ?_
  rintro e w' ⟨rfl,rfl⟩
  exact⟨by rw[Lm,hl],rfl⟩)
 rw[Cw]at h;exact h
theorem mT(hs:CT s):PC 154 [vs s,vs p] (vi (Go.Lib.lastIndex s.data.toList p.data.toList)):=by
 unfold CT at hs;exact G4 [.string s,.string p] (.int .i64 (Go.Lib.lastIndex s.data.toList p.data.toList)) (Q0 154 Tryz.func154 sT rfl) rfl (fun g w=>.v _ _) fun w _=>Any.strings_LastIndex Tryz.layLast s p sP w
theorem m0:PC 252 [vs s,vs p] (.tup [vs ⟨(Go.Lib.trimPrefix s.data.toList p.data.toList).toArray⟩,vb (Go.Lib.hasPrefix s.data.toList p.data.toList)]):=by
 exact G4 [.string s,.string p] _ (Q0 252 Tryz.func252 sT rfl) rfl (fun g w=>OA [.string ⟨(Go.Lib.trimPrefix s.data.toList p.data.toList).toArray⟩,.bool (Go.Lib.hasPrefix s.data.toList p.data.toList)]) fun w _=>Any.strings_CutPrefix Tryz.layCut s p w
theorem m9(hs:CT s):PC 291 [vs s,vs p] (vb (Go.Lib.contains s.data.toList p.data.toList)):=by
 unfold CT at hs;exact G4 [.string s,.string p] (.bool (Go.Lib.contains s.data.toList p.data.toList)) (Q0 291 Tryz.func291 sT rfl) rfl (fun g w=>.v _ _) fun w hm=>by
  obtain⟨m,hm⟩:=hm;exact Any.strings_Contains Tryz.layCont s p m w sP hm
theorem VB:∀x y:List UInt8,JO x y=x.isPrefixOf y
 | [],_=>by simp[JO]
 |_::_,[]=>rfl
 |a::x,b::y=>by
  rw[JO,List.isPrefixOf_cons_cons,VB x y]
  rfl
theorem Zm(x:List UInt8):∀y:List UInt8,Zl x y=Go.Lib.contains y x
 | []=>by
  unfold Go.Lib.contains Go.Lib.index;cases x<;>rfl
 |b::y=>by
  rw[Zl,VB,Zm x y];unfold Go.Lib.contains;have hg:=Go.Lib.index_ge y x
  conv=>rhs;unfold Go.Lib.index
  cases h:x.isPrefixOf (b::y)with
  |true=>simp
  |false=>
   simp only[MG,Cg,FK]
   by_cases h0:Go.Lib.index y x=-1
   .rw[h0];rfl
   .have h1:(Go.Lib.index y x == -1)=false:=by simpa using h0
    rw[h1];simp only[Cg,FK];rw[Ah sP,Ah sP]
theorem Ko:∀(l:List UInt8) (h:0<l.length),l.headD 0=l[0]
 | [],h=>by simp at h
 |_::_,_=>rfl
abbrev d4:ByteArray:=⟨⟨Uw⟩⟩
theorem m6(hs:CT s):PC 254 [vs s] (vb (Pl s.data.toList)):=by
 unfold CT at hs;have hc:=m9 d4 ((⟨#[32]⟩++s)++⟨#[32]⟩) (DQ sT);have e:Go.Lib.contains d4.data.toList ((⟨#[32]⟩++s:ByteArray)++⟨#[32]⟩).data.toList=Pl s.data.toList:=by
  unfold Pl;rw[Zm]
  congr 1
 rw[e]at hc;refine Ps Dj Tryz.func254 rfl (Nz rfl) (Yi (by show(((1+s.size:Nat)):Int)<=_;omega) ?_);refine Yi (by show(((⟨#[32]⟩++s:ByteArray).size+1:Nat):Int)<=_;rw[AR];show(((1+s.size)+1:Nat):Int)<=_;omega) ?_;refine Xi .pure (Xi _ (Yi (hc) ?_));exact .refl _
theorem mV(hs:CT s):PC 200 [vs s] (vb (EE s.data.toList)):=by
 have hk:=m6 s hs;have hw:=fh s 253 Ei m5 (by unfold CT at hs;simp;omega);have Dm:s.size=s.data.toList.length:=by simp
 have en:EE s.data.toList=(!s.data.toList.isEmpty&&decide (s.data.toList.length<=32)&&Ds (s.data.toList.headD 0)&&s.data.toList.all Ei&&!Pl s.data.toList):=rfl
 by_cases h0:s=⟨#[]⟩
 .subst h0;refine Ps Dj Tryz.func200 rfl (Nz rfl) (Yi ?_ ?_)
  .intro h;exact absurd rfl (show(⟨#[]⟩:ByteArray)≠⟨#[]⟩from h)
  .intro _;exact .refl _
 have pF : s.data.toList≠[]:=fun e=>h0 (by
  have:s.data=#[]:=by rw[<-IF];exact e
  cases s;simp_all)
 have BQ:0<s.data.toList.length:=GG.2 pF;have LP:s.data.toList.isEmpty=false:=by
  cases hl:s.data.toList with
  |nil=>exact absurd hl pF
  |cons a l=>rfl
 have p5:s.data.toList.headD 0=s.data.toList[0]:=Ko _ BQ;have cu:=fj s.data.toList[0];refine Ps Dj Tryz.func200 rfl (Nz rfl) (Yi ?_ ?_)
 rotate_left
 .intro h;exact absurd h0 h
 intro _;refine Yi ?_ ?_
 rotate_left
 .intro h;exact .of_eq (Aa vb (show false=EE s.data.toList by rw[en,Ae (by omega:¬s.data.toList.length<=32)];simp))
 intro h;refine Xi s.data.toList[0] (Yi ⟨CR _,Jo s 0 BQ⟩ (Bn (Bt (Ds s.data.toList[0])) (fun e1=>?_) (fun e1=>?_)))
 rotate_left
 .rw[e1]at cu;refine Xi .pure (Xi _ (Yi (cu) ?_));exact .of_eq (Aa vb (show false=EE s.data.toList by rw[en,p5,e1];simp))
 rw[e1]at cu;refine Xi .pure (Xi _ (Yi (cu) (Bn (Bt (s.data.toList.all Ei)) (fun e2=>?_) (fun e2=>?_))))
 rotate_left
 .rw[e2]at hw;refine Xi .pure (Xi _ (Yi (hw) ?_));exact .of_eq (Aa vb (show false=EE s.data.toList by rw[en,e2];simp))
 rw[e2]at hw;refine Xi .pure (Xi _ (Yi (hw) ?_));have ef:EE s.data.toList=!Pl s.data.toList:=by rw[en,LP,p5,e1,e2,Ah (by omega:s.data.toList.length<=32)];rfl
 refine Bn (Bt (Pl s.data.toList)) (fun e3=>?_) (fun e3=>?_)
 .rw[e3]at hk;refine Xi .pure (Xi _ (Yi (hk) ?_));exact .of_eq (Aa vb (show false=EE s.data.toList by rw[ef,e3];rfl))
 .rw[e3]at hk;refine Xi .pure (Xi _ (Yi (hk) ?_));exact .of_eq (Aa vb (show true=EE s.data.toList by rw[ef,e3];rfl))
abbrev RD:Option Int->AV
 |some n=>.tup [vi n,vb true]
 |none=>.tup [vi 0,vb false]
theorem Na{z:Int}(h0:0<=z)(h1:z<256):IntKind.u8.wrap z=z:=by
 show z % 256=z;omega
theorem GQ{c:UInt8}(h:BT c=true):48<=c.toNat/\c.toNat<=57:=by
 unfold BT at h;simp only[Ak,A3]at h;exact⟨Ew.1 h.1,Ew.1 h.2⟩
theorem H3(r:List UInt8)(i:Nat)(h:i<r.length):Da (r.take (i+1))=10*Da (r.take i)+((r[i].toNat:Int)-48):=by
 unfold Da;rw[A2,Ge h,List.foldl_append];rfl
theorem c213(hs:CT s):PC 199 [vs s] (RD (EC s.data.toList)):=by
 unfold CT at hs;have hc:=m0 s ⟨#[118]⟩
 by_cases hp:∃r,s.data.toList=118::r
 .obtain⟨r,hr⟩:=hp;have e1:Go.Lib.hasPrefix s.data.toList (⟨#[118]⟩:ByteArray).data.toList=true:=by rw[hr];rfl
  have e2:Go.Lib.trimPrefix s.data.toList (⟨#[118]⟩:ByteArray).data.toList=r:=by unfold Go.Lib.trimPrefix;rw[e1,Av rfl,hr];rfl
  rw[e1,e2]at hc;have hv:EC s.data.toList=if(r.isEmpty||decide (3<r.length)||(decide (1<r.length)&&decide (r.headD 0=48))||!r.all BT)=true then none else some (Da r):=by rw[hr];rfl
  have WA:r.length<s.size:=by
   have:s.size=s.data.toList.length:=by simp
   rw[this,hr];simp
  generalize hB:(⟨r.toArray⟩:ByteArray)=rB at hc;have dP:rB.data.toList=r:=by rw[<-hB]
  have sx:rB.size=r.length:=by rw[<-hB];rfl
  have hw:=fh rB 204 BT fk (by rw[dP];omega);rw[dP]at hw;have no:∀{b:Bool},b=true->(if b=true then none else some (Da r))=(none:Option Int):=fun h=>Av h;refine Ps (F0 []) Tryz.func199 rfl (Nz rfl) (Xi .pure (Xi _ (Yi (hc) (Yi ?_ ?_))))
  .intro h
   have:r=[]:=by rw[<-dP,h]
   exact .of_eq (Aa RD (show(none:Option Int)=EC s.data.toList by rw[hv,this];rfl))
  intro h;have Dn:r≠[]:=fun e=>h (by rw[<-hB,e]);have BQ:0<r.length:=GG.2 Dn;have LP:r.isEmpty=false:=by
   cases hl:r with
   |nil=>exact absurd hl Dn
   |cons a l=>rfl
  refine Yi ?_ ?_
  .intro h2;exact .of_eq (Aa RD (show(none:Option Int)=EC s.data.toList by rw[hv,no];rw[Ah (by omega:3<r.length)];simp))
  intro h2;have rx:r.length<=3:=by omega
  have d3:decide (3<r.length)=false:=Ae sP;refine Yi ?_ ?_
  .intro h3;have YZ:rB.data[(0:Int).toNat]?=some r[0]:=by
    show rB.data[0]?=_;rw[<-Az,dP];exact Ge BQ
   refine Xi r[0] (Yi ⟨CR _,YZ⟩ ?_);have hh:=Ko r BQ;refine Yi ?_ ?_
   .intro h4
    have:r[0]=48:=EH.1 (by show r[0].toNat=48;omega)
    exact .of_eq (Aa RD (show(none:Option Int)=EC s.data.toList by rw[hv,hh,this,Ah (by omega:1<r.length)];simp))
   intro h4;have eo:(decide (1<r.length)&&decide (r.headD 0=48))=false:=by rw[hh,Ae (show ¬r[0]=48 from fun e=>h4 (by rw[e];rfl)),CN]
   have Zi:EC s.data.toList=if(!r.all BT)=true then none else some (Da r):=by rw[hv,LP,d3,eo];rfl
   refine Bn (Bt (r.all BT)) (fun e3=>?_) (fun e3=>?_)
   rotate_left
   .rw[e3]at hw;refine Xi .pure (Xi _ (Yi (hw) ?_));exact .of_eq (Aa RD (show(none:Option Int)=EC s.data.toList by rw[Zi,e3];rfl))
   rw[e3]at hw;refine Xi .pure (Xi _ (Yi (hw) ?_));have oK:EC s.data.toList=some (Da r):=by rw[Zi,e3];rfl
   have z0:Da (r.take 0)=0:=rfl;refine Xi {i:Nat // i<=r.length/\0<=Da (r.take i)/\(i=0->Da (r.take i)<=0)/\(i<=1->Da (r.take i)<=9)/\(i<=2->Da (r.take i)<=99)/\Da (r.take i)<=999} (Xi (fun i=>⟨[(0,vs rB),(5,vi (Da (r.take i.1))),(39,vi rB.size),(40,vi i.1)],[],Ao⟩) (Xi (fun i=>r.length-i.1) (Yi (Xi ⟨0,Ar _,by omega,fun _=>by omega,fun _=>by omega,fun _=>by omega,by omega⟩ ?_) ?_)))
   .exact⟨Z4,Tv,Fh,Tv⟩
   intro⟨i,i1,i2,i3,i4,i5,i6⟩;refine Yi ?_ ?_
   .intro h;have h:(i:Int)<(rB.size:Nat):=h;have h:i<r.length:=by omega
    have j6:BT r[i]=true:=AJ.1 e3 _ (Af h);have oa:=GQ j6;have bc:=H3 r i h;have Ur:IntKind.u8.wrap ((r[i].toNat:Int)-48)=(r[i].toNat:Int)-48:=Na sP sP;have MP:rB.data[((i:Nat):Int).toNat]?=some r[i]:=by rw[A1,<-Az,dP];exact Ge h
    refine Yi (by show AE (10*Da (r.take i));unfold AE;omega) (Xi r[i] (Yi ⟨by show(0:Int)<=i;omega,MP⟩ ?_));refine Yi (by show AE (IntKind.u8.wrap ((r[i].toNat:Int)-48));rw[Ur];unfold AE;omega) ?_;refine Yi (by show AE (10*Da (r.take i)+IntKind.u8.wrap ((r[i].toNat:Int)-48));rw[Ur];unfold AE;omega) ?_;refine Yi (Ii i sP) ?_;have e5:vi (10*Da (r.take i)+IntKind.u8.wrap ((r[i].toNat:Int)-48))=vi (Da (r.take (i+1))):=by rw[Ur,bc]
    refine Xi ⟨i+1,by omega,by omega,fun _=>by omega,fun _=>by omega,fun _=>by omega,by omega⟩ ?_;exact⟨Dl r.length i sP,⟨Zr,⟨e5,rfl⟩,Zr,Zr,Tv⟩,Tv,Fh,Tv⟩
   .intro h;have h:¬(i:Int)<(rB.size:Nat):=h;have e6:AV.tup [vi (Da (r.take i)),vb true]=RD (EC s.data.toList):=by rw[oK,As sP]
    exact .of_eq e6
  .intro h3;have h3:¬(1:Int)<((rB.size:Nat):Int):=h3;have eo:(decide (1<r.length)&&decide (r.headD 0=48))=false:=by rw[Ae (by omega:¬1<r.length)];rfl
   have Zi:EC s.data.toList=if(!r.all BT)=true then none else some (Da r):=by rw[hv,LP,d3,eo];rfl
   refine Bn (Bt (r.all BT)) (fun e3=>?_) (fun e3=>?_)
   rotate_left
   .rw[e3]at hw;refine Xi .pure (Xi _ (Yi (hw) ?_));exact .of_eq (Aa RD (show(none:Option Int)=EC s.data.toList by rw[Zi,e3];rfl))
   rw[e3]at hw;refine Xi .pure (Xi _ (Yi (hw) ?_));have oK:EC s.data.toList=some (Da r):=by rw[Zi,e3];rfl
   have z0:Da (r.take 0)=0:=rfl;refine Xi {i:Nat // i<=r.length/\0<=Da (r.take i)/\(i=0->Da (r.take i)<=0)/\(i<=1->Da (r.take i)<=9)/\(i<=2->Da (r.take i)<=99)/\Da (r.take i)<=999} (Xi (fun i=>⟨[(0,vs rB),(5,vi (Da (r.take i.1))),(39,vi rB.size),(40,vi i.1)],[],Ao⟩) (Xi (fun i=>r.length-i.1) (Yi (Xi ⟨0,Ar _,by omega,fun _=>by omega,fun _=>by omega,fun _=>by omega,by omega⟩ ?_) ?_)))
   .exact⟨Z4,Tv,Fh,Tv⟩
   intro⟨i,i1,i2,i3,i4,i5,i6⟩;refine Yi ?_ ?_
   .intro h;have h:(i:Int)<(rB.size:Nat):=h;have h:i<r.length:=by omega
    have j6:BT r[i]=true:=AJ.1 e3 _ (Af h);have oa:=GQ j6;have bc:=H3 r i h;have Ur:IntKind.u8.wrap ((r[i].toNat:Int)-48)=(r[i].toNat:Int)-48:=Na sP sP;have MP:rB.data[((i:Nat):Int).toNat]?=some r[i]:=by rw[A1,<-Az,dP];exact Ge h
    refine Yi (by show AE (10*Da (r.take i));unfold AE;omega) (Xi r[i] (Yi ⟨by show(0:Int)<=i;omega,MP⟩ ?_));refine Yi (by show AE (IntKind.u8.wrap ((r[i].toNat:Int)-48));rw[Ur];unfold AE;omega) ?_;refine Yi (by show AE (10*Da (r.take i)+IntKind.u8.wrap ((r[i].toNat:Int)-48));rw[Ur];unfold AE;omega) ?_;refine Yi (Ii i sP) ?_;have e5:vi (10*Da (r.take i)+IntKind.u8.wrap ((r[i].toNat:Int)-48))=vi (Da (r.take (i+1))):=by rw[Ur,bc]
    refine Xi ⟨i+1,by omega,by omega,fun _=>by omega,fun _=>by omega,fun _=>by omega,by omega⟩ ?_;exact⟨Dl r.length i sP,⟨Zr,⟨e5,rfl⟩,Zr,Zr,Tv⟩,Tv,Fh,Tv⟩
   .intro h;have h:¬(i:Int)<(rB.size:Nat):=h;have e6:AV.tup [vi (Da (r.take i)),vb true]=RD (EC s.data.toList):=by rw[oK,As sP]
    exact .of_eq e6
 .have e1:Go.Lib.hasPrefix s.data.toList (⟨#[118]⟩:ByteArray).data.toList=false:=by
   cases hl:s.data.toList with
   |nil=>rfl
   |cons a l=>
    have:a≠118:=fun e=>hp ⟨l,by rw[hl,e]⟩
    show(List.isPrefixOf [118] (a::l))=false;rw[List.isPrefixOf_cons_cons]
    have:((118:UInt8) == a)=false:=by rw[GJ];exact fun e=>this e.symm
    rw[this];rfl
  have hv:EC s.data.toList=none:=by
   cases hl:s.data.toList with
   |nil=>rfl
   |cons a l=>
    have:a≠118:=fun e=>hp ⟨l,by rw[hl,e]⟩
    show(if a=118 then _ else none)=none;rw[Aj this]
  rw[e1]at hc;refine Ps Dj Tryz.func199 rfl (Nz rfl) (Xi .pure (Xi _ (Yi (hc) ?_)));exact .of_eq (Aa RD hv.symm)
end Go.Eng
