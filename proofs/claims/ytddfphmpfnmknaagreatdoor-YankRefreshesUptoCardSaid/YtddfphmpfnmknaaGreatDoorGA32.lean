/- Lemmas for the claims of this seat, without a condition: part 32 (V12, V3, V13, V14, V15, J1, J2). -/
import Derived.Test.YtddfphmpfnmknaaGreatDoorGA31
import Derived.Test.YtddfphmpfnmknaaGreatDoorCards
import Derived.Test.YtddfphmpfnmknaaGreatDoorTie
import Derived.ProofKit
import Derived.OpenShut
import Derived.Deep.DeepHandedRow
import Derived.Lib.LaidTab
set_option maxHeartbeats 4000000
namespace Go.Eng
open Go.Proofs
variable (x:List Rl)(ifs:List (List AV))(roots:List Rq)(s:Sl)(l:List Sl)
theorem xB(hl:Cy l)(hx:x.length≤16)(ku:A1 Tryz.prog 72 [sl At x] Af fun r h'=>r=.tup [.msl 2000 x.length,vi 0]∧h'=Ak [(2000,.arr 9 (x.map At))] Af)(hk:PC 37 [EZ x ifs] (vi 0))(hcl:PC 73 [.slice .none ifs] (.slice .none ifs)):PC 50 [.agg (Ic x ifs),.clo 51 [.cptr [sl Ac l]]] (.tup [EZ (yk false (JY l) x) ifs,vi 0]):=by
 refine Ps ⟨[2],[],[],[],[],[],[],[],[],[(200009,6)],[5,6,9]⟩ Tryz.func50 rfl (Nz rfl) (Xi (.gen [] 1) (Yi rfl (A1.to2 ku ?_)));refine Yi (fun h=>absurd h Cl) (fun _=>?_);refine yN (Xi .pure (Xi _ (Yi hk (Yi (fun h=>absurd h Cl) (fun _=>?_)))));refine Xi {q:Nat // q≤x.length} (Xi (fun q=>⟨[(1,.clo 51 [.cptr [sl Ac l]]),(2,.ref 2 0),(4,.ref 4 0),(6,.msl 11200 x.length),(24,vi x.length),(25,vi q.1)],[(2,.ro (Ic x ifs)),(4,.cells [Ce,Ce]),(11200,.arr 9 ((yk false (JY l) (x.take q.1)++x.drop q.1).map At))],Af⟩) (Xi (fun q=>x.length-q.1) (Yi (Xi ⟨0,AA _⟩ ?_) ?_)))
 ·exact⟨Z6,Z3,Fh,Tv⟩
 intro⟨i,i1⟩;have i1:i≤x.length:=i1;refine cU [(1,.clo 51 [.cptr [sl Ac l]]),(2,.ref 2 0),(4,.ref 4 0),(6,.msl 11200 x.length),(24,vi x.length),(25,vi i)] [(2,.ro (Ic x ifs)),(4,.cells [Ce,Ce]),(11200,.arr 9 ((yk false (JY l) (x.take i)++x.drop i).map At))] Z6 Z3 (Yi (fun h1=>?_) (fun h1=>?_))
 ·have h1:(i:Int)<(x.length:Int):=h1;have n1:i<x.length:=by omega
  have g1:x[i]?=some x[i]:=Ge n1;have ni:i<x.length:=by omega
  refine cU [(1,.clo 51 [.cptr [sl Ac l]]),(2,.ref 2 0),(4,.ref 4 0),(6,.msl 11200 x.length),(24,vi x.length),(25,vi i)] [(2,.ro (Ic x ifs)),(4,.cells [Ce,Ce]),(11200,.arr 9 ((yk false (JY l) (x.take i)++x.drop i).map At))] Z6 Z3 (Yi (by show(0:Int)≤i∧(i:Int)<(x.length:Nat);omega) (Xi (.gen [(11200,1000)] 0) (Yi rfl (A1.to2 (by have q:=Acw (yk false (JY l) (x.take i)++x.drop i) i x[i] l hl (mW ni);rw[NW]at q;exact q) ?_))));refine Yi (Ii i ch) (Xi ⟨i+1,ni⟩ ?_);exact⟨Dl x.length i ch,Z6,⟨Zr,Zr,⟨(show HO.arr 9 (((yk false (JY l) (x.take i)++x.drop i).set i (Pk false (JY l) x[i])).map At)=.arr 9 ((yk false (JY l) (x.take (i+1))++x.drop (i+1)).map At) by rw[Pk,YN ni]),rfl⟩,Tv⟩,Fh,Tv⟩
 have h1:¬((i:Int)<(x.length:Int)):=h1;have n1:¬i<x.length:=by omega
 have ei:x.take i=x:=Au ch;have ed:x.drop i=[]:=CK ch;refine Yi (show x.length=((yk false (JY l) (x.take i)++x.drop i).map At).length by rw[Lm,NW]) ?_;refine cU [(2,.ref 2 0),(4,.ref 4 0),(6,sl At (yk false (JY l) (x.take i)++x.drop i))] [(2,.ro (Ic x ifs)),(4,.cells [Ce,Ce])] Z3 Z2 (Xi .pure (Xi _ (Yi hcl (yN (yN ?_)))));exact .of_eq (show AV.tup [.agg [sl At (yk false (JY l) (x.take i)++x.drop i),.slice .none ifs],vi 0]=.tup [EZ (yk false (JY l) x) ifs,vi 0] by rw[ei,ed,BL])
abbrev M9:AV:=.tup [EZ (Is x l) (if Fl x l=0 then ifs else []),vi (Fl x l)]
theorem Ry{x:List Rl}{ifs:List (List AV)}{l:List Sl}(h:GJ x l=false):GF (.tup [.agg [Ce,Ce],vi 1]) (M9 x ifs l):=by
 have h:=of_decide_eq_false h;have e:M9 x ifs l=.tup [EZ [] [],vi 1]:=by unfold M9 Is;rw[Ae h,Ae h,(WY x l).resolve_left h]
 rw[e];exact .tup ⟨.agg ⟨.nil,.nil,trivial⟩,.refl _,trivial⟩
theorem ac{x:List Rl}{ifs:List (List AV)}{l:List Sl}(h:GJ x l=true):M9 x ifs l=.tup [EZ (yk false (JY l) x) ifs,vi 0]:=by
 have h:=A4 h;unfold M9 Is;rw[Al h,Al h,h]
theorem xw(hB:GJ x l=true)(ks:PC 46 [EZ x ifs,sl Ac l] (vb true))(og:PC 50 [EZ x ifs,.clo 51 [.cptr [sl Ac l]]] (.tup [EZ (yk false (JY l) x) ifs,vi 0])):PC 24 [.agg (Ic x ifs),sl Ac l] (M9 x ifs l):=by
 refine Ps (pC [2,3] []) Tryz.func24 rfl (Nz rfl) (yN (Xi .pure (Xi _ (Yi ks (yN (Xi .pure (Xi _ (Yi og (yN (yN ?_))))))))));exact .of_eq (ac hB).symm
theorem xv(hB:GJ x l=false)(ks:PC 46 [EZ x ifs,sl Ac l] (vb false))  : PC 24 [.agg (Ic x ifs),sl Ac l] (M9 x ifs l):=by
 refine Ps (pC [2,3] []) Tryz.func24 rfl (Nz rfl) (yN (Xi .pure (Xi _ (Yi ks (yN (yN ?_))))));exact Ry hB
theorem Acu{x:List Rl}(hl:Cy l)(h:Jc x)(hr:∀r∈x,r.reqs.length≤1000)(hcl:PC 73 [.slice .none ifs] (.slice .none ifs)):PC 24 [EZ x ifs,sl Ac l] (M9 x ifs l):=by
 have hk:=nN VQ x ifs h.few;have ks:=xz x ifs l hl hk;cases hB:GJ x l with
 |false=>rw[hB]at ks;exact xv x ifs l hB ks
 |true =>
  rw[hB]at ks;have h0:=(Qk (A4 hB)).1;rw[h0]at hk;have q:=mS h hr (by rw[HU h0];exact h0);rw[HU h0]at q;exact xw x ifs l hB ks (xB x ifs l hl h.len q hk hcl)
def N5:Int:=if Fl x l≠0 then Fl x l else DT (Is x l) roots
def N4:List Sl:=if Fl x l≠0 then []else Fb (Is x l) roots
theorem Acv(S7:PC 24 [EZ x ifs,sl Ac l] (M9 x ifs l))(kq:PC 17 [EZ (Is x l) (if Fl x l=0 then ifs else []),sl AH roots] (.tup [sl Ac (Fb (Is x l) roots),vi (DT (Is x l) roots)])):PC 26 [.agg (Ic x ifs),sl AH roots,sl Ac l] (.tup [sl Ac (N4 x roots l),vi (N5 x roots l)]):=by
 refine Ps (pC [3,8] []) Tryz.func26 rfl (Nz rfl) (yN (Xi .pure (Xi _ (Yi S7 (yN (Yi (fun h1=>?_) (fun h1=>?_)))))))
 ·have h1:((Fl x l):Int)≠(0:Int):=h1;exact(show GF (.tup [Ce,vi (Fl x l)]) (.tup [.slice .none [],vi (Fl x l)])from .tup ⟨.nil,.refl _,trivial⟩).trans (.of_eq (show AV.tup [sl Ac ([]:List Sl),vi (Fl x l)]=.tup [sl Ac (N4 x roots l),vi (N5 x roots l)] by unfold N4 N5;rw[Al h1,Al h1]))
 have h1:((Fl x l):Int)=(0:Int):=AC h1;refine yN (Xi .pure (Xi _ (Yi kq ?_)));exact .of_eq (show AV.tup [sl Ac (Fb (Is x l) roots),vi (DT (Is x l) roots)]=.tup [sl Ac (N4 x roots l),vi (N5 x roots l)] by unfold N4 N5;rw[Ae (fun q=>q h1),Ae (fun q=>q h1)])
def Gx:Int:=if F5 x s true≠0 then F5 x s true else if DT x roots≠0 then DT x roots else if DT (Fy x s true) roots≠0 then DT (Fy x s true) roots else 0
def G7:List Mv:=if Gx x roots s=0 then rm (Fb x roots) (Fb (Fy x s true) roots)else []
theorem xx(IW:PC 11 [EZ x ifs,.agg (Ac s)] (Kq x ifs s true))(rM:PC 17 [EZ x ifs,sl AH roots] (.tup [sl Ac (Fb x roots),vi (DT x roots)]))(rN:PC 17 [EZ (Fy x s true) (if F5 x s true=0 then ifs else []),sl AH roots] (.tup [sl Ac (Fb (Fy x s true) roots),vi (DT (Fy x s true) roots)]))(tK:F5 x s true=0→DT x roots=0→DT (Fy x s true) roots=0→PC 54 [sl Ac (Fb x roots),sl Ac (Fb (Fy x s true) roots)] (.tup [sl B1 (rm (Fb x roots) (Fb (Fy x s true) roots)),vi 0])):PC 28 [.agg (Ic x ifs),sl AH roots,.agg (Ac s)] (.tup [sl B1 (G7 x roots s),vi (Gx x roots s)]):=by
 refine Ps (pC [3,5,8] []) Tryz.func28 rfl (Nz rfl) (yN (yN (Xi .pure (Xi _ (Yi IW (yN (Yi (fun h1=>?_) (fun h1=>?_))))))))
 ·have h1:((F5 x s true):Int)≠(0:Int):=h1;have eE:Gx x roots s=F5 x s true:=by unfold Gx;rw[Al h1]
  have eA:G7 x roots s=[]:=by unfold G7;rw[eE,Ae h1]
  exact(show GF (.tup [Ce,vi (F5 x s true)]) (.tup [.slice .none [],vi (F5 x s true)])from .tup ⟨.nil,.refl _,trivial⟩).trans (.of_eq (show AV.tup [sl B1 ([]:List Mv),vi (F5 x s true)]=.tup [sl B1 (G7 x roots s),vi (Gx x roots s)] by rw[eA,eE]))
 have h1:((F5 x s true):Int)=(0:Int):=AC h1;refine yN (Xi .pure (Xi _ (Yi rM (Yi (fun h3=>?_) (fun h3=>?_)))))
 ·have h3:((DT x roots):Int)≠(0:Int):=h3;have eE:Gx x roots s=DT x roots:=by unfold Gx;rw[Ae (fun q=>q h1),Al h3]
  have eA:G7 x roots s=[]:=by unfold G7;rw[eE,Ae h3]
  exact(show GF (.tup [Ce,vi (DT x roots)]) (.tup [.slice .none [],vi (DT x roots)])from .tup ⟨.nil,.refl _,trivial⟩).trans (.of_eq (show AV.tup [sl B1 ([]:List Mv),vi (DT x roots)]=.tup [sl B1 (G7 x roots s),vi (Gx x roots s)] by rw[eA,eE]))
 have h3:((DT x roots):Int)=(0:Int):=AC h3;refine yN (Xi .pure (Xi _ (Yi rN (Yi (fun h5=>?_) (fun h5=>?_)))))
 ·have h5:((DT (Fy x s true) roots):Int)≠(0:Int):=h5;have eE:Gx x roots s=DT (Fy x s true) roots:=by unfold Gx;rw[Ae (fun q=>q h1),Ae (fun q=>q h3),Al h5]
  have eA:G7 x roots s=[]:=by unfold G7;rw[eE,Ae h5]
  exact(show GF (.tup [Ce,vi (DT (Fy x s true) roots)]) (.tup [.slice .none [],vi (DT (Fy x s true) roots)])from .tup ⟨.nil,.refl _,trivial⟩).trans (.of_eq (show AV.tup [sl B1 ([]:List Mv),vi (DT (Fy x s true) roots)]=.tup [sl B1 (G7 x roots s),vi (Gx x roots s)] by rw[eA,eE]))
 have h5:((DT (Fy x s true) roots):Int)=(0:Int):=AC h5;refine Xi .pure (Xi _ (Yi (tK h1 h3 h5) ?_));have eE:Gx x roots s=0:=by unfold Gx;rw[Ae (fun q=>q h1),Ae (fun q=>q h3),Ae (fun q=>q h5)]
 have eA:G7 x roots s=rm (Fb x roots) (Fb (Fy x s true) roots):=by unfold G7;rw[eE,Al rfl]
 exact .of_eq (show AV.tup [sl B1 (rm (Fb x roots) (Fb (Fy x s true) roots)),vi 0]=.tup [sl B1 (G7 x roots s),vi (Gx x roots s)] by rw[eA,eE])
end Go.Eng
namespace Go.Eng
variable (here:Int)(x:List Rl)(s:Sl)(r:Rl)
def EO:Int:=if here<plc r.ver then(if r.ver.b=s.ver.b then 3 else 2)else if plc r.ver<here then 1 else 0
def D8(a:Sl×Int)(r:Rl):Sl×Int:=if r.path≠s.path∨r.yanked=true then a else
 if a.2<EO here s r∨EO here s r=1∧a.2=1 then(D2 r,EO here s r)else a
def B4(l:List Rl):Sl×Int:=l.foldl (D8 here s) (xL,0)
def Nl:Int:=if AN x≠0∨Cj s.ver=false then 1 else if(B4 (plc s.ver) s x).2=0 then 6 else 0
def QD:Sl:=if Nl x s=0 then(B4 (plc s.ver) s x).1 else xL
theorem D4{here:Int}{s:Sl}{x:List Rl}{i:Nat}(h:i<x.length):B4 here s (x.take (i+1))=D8 here s (B4 here s (x.take i)) x[i]:=by
 unfold B4;rw[Be,Ge h,FV]
 rfl
theorem lL:0≤EO here s r∧EO here s r≤3:=by
 unfold EO;split
 ·split<;>omega
 ·split<;>omega
end Go.Eng
namespace Go.Eng
open Go.Proofs
variable {x:List Rl}(b:Int)(ifs:List (List AV))(here:Int)(f:Int→Int→Bool)(c:Int)(y:Bool)(s:Sl)
theorem aU(a:Sl×Int)(r:Rl)(h:0≤a.2∧a.2≤3):0≤(D8 here s a r).2∧(D8 here s a r).2≤3:=by
 unfold D8;split
 ·exact h
 ·split
  ·exact lL here s r
  ·exact h
theorem mg(l:List Rl):0≤(B4 here s l).2∧(B4 here s l).2≤3:=by
 have key:∀(l:List Rl) (a:Sl×Int),(0≤a.2∧a.2≤3)→0≤(l.foldl (D8 here s) a).2∧(l.foldl (D8 here s) a).2≤3:=fun l=>by
  induction l with
  |nil=>intro a h;exact h
  |cons r l ih=>intro a h;exact ih _ (aU here s a r h)
 exact key l _ ⟨by decide,by decide⟩
theorem xH(v:Ver):PC 39 [.agg (Fu v)] (.tup [vi (plc v),vi (if Cj v then 0 else 2)]):=uK v
theorem xu(x:List Rl)(ifs:List (List AV))(s:Sl)(hl:Cy x)(k:Int)(QW:k=0)(hv:¬(AN x≠0∨Cj s.ver=false))(hk:PC 37 [EZ x ifs] (vi k))(hV:PC 38 [.agg (Fu s.ver)] (vb true))(od:PC 39 [.agg (Fu s.ver)] (.tup [vi (plc s.ver),vi (if Cj s.ver then 0 else 2)])):PC 14 [.agg (Ic x ifs),.agg (Ac s)] (.tup [.agg (Ac (QD x s)),vi (Nl x s)]):=by
 have hl:x.length≤1073741824:=hl;refine Ps (pC [2,3,11] [17]) Tryz.func14 rfl (Nz rfl) (yN (Xi .pure (Xi _ (Yi hk (Yi (fun h1=>?_) (fun h1=>?_))))))
 ·have h1:(k:Int)≠(0:Int):=h1;exact absurd QW h1
 have h1:(k:Int)=(0:Int):=AC h1;refine yN (Xi .pure (Xi _ (Yi hV (yN (Xi .pure (Xi _ (Yi od (yN (Xi {q:Nat // q≤x.length} (Xi (fun q=>⟨[(3,.ref 3 0),(4,.ref 4 0),(6,vi (plc s.ver)),(8,.ref 8 0),(9,vi (B4 (plc s.ver) s (x.take q.1)).2),(33,sl At x),(34,vi (x.map At).length),(35,vi q.1)],[(3,.ro (Ac s)),(4,.cells [vs ⟨#[]⟩,vi 0,vi 0,vi 0]),(8,.cells (Ac (B4 (plc s.ver) s (x.take q.1)).1))],Af⟩) (Xi (fun q=>x.length-q.1) (Yi (Xi ⟨0,AA _⟩ ?_) ?_))))))))))))
 ·exact⟨Z8,Z3,Fh,Tv⟩
 intro⟨i,i1⟩;have i1:i≤x.length:=i1;have i3:0≤(B4 (plc s.ver) s (x.take i)).2∧(B4 (plc s.ver) s (x.take i)).2≤3:=mg _ _ _;refine Yi (fun h2=>?_) (fun h2=>?_)
 ·have h2:(i:Int)<((x.map At).length:Int):=h2;have n2:=GI h2;refine Xi (At x[i]) (Yi (Hb n2) (Yi rfl (yN (yN (Yi (fun h4=>?_) (fun h4=>?_))))))
  ·have h4:(x[i].path:ByteArray)≠s.path:=h4;refine Yi (Ii i ch) ?_;have eN:=D4 (here:=(plc s.ver)) (s:=s) n2;have eS:D8 (plc s.ver) s (B4 (plc s.ver) s (x.take i)) x[i]=(B4 (plc s.ver) s (x.take i)):=Al (.inl h4);rw[eS]at eN;refine Xi ⟨i+1,n2⟩ ?_;exact⟨Dl x.length i ch,⟨Zr,Zr,Zr,Zr,⟨(show vi (B4 (plc s.ver) s (x.take i)).2=vi (B4 (plc s.ver) s (x.take (i+1))).2 by rw[eN]),rfl⟩,Zr,Zr,Zr,Tv⟩,⟨Zr,Zr,⟨(show HO.cells (Ac (B4 (plc s.ver) s (x.take i)).1)=.cells (Ac (B4 (plc s.ver) s (x.take (i+1))).1) by rw[eN]),rfl⟩,Tv⟩,Fh,Tv⟩
  have h4:(x[i].path:ByteArray)=s.path:=AC h4;refine Yi (fun h6=>?_) (fun h6=>?_)
  ·have h6:x[i].yanked=true:=h6;refine Yi (Ii i ch) ?_;have eN:=D4 (here:=(plc s.ver)) (s:=s) n2;have eS:D8 (plc s.ver) s (B4 (plc s.ver) s (x.take i)) x[i]=(B4 (plc s.ver) s (x.take i)):=Al (.inr h6);rw[eS]at eN;refine Xi ⟨i+1,n2⟩ ?_;exact⟨Dl x.length i ch,⟨Zr,Zr,Zr,Zr,⟨(show vi (B4 (plc s.ver) s (x.take i)).2=vi (B4 (plc s.ver) s (x.take (i+1))).2 by rw[eN]),rfl⟩,Zr,Zr,Zr,Tv⟩,⟨Zr,Zr,⟨(show HO.cells (Ac (B4 (plc s.ver) s (x.take i)).1)=.cells (Ac (B4 (plc s.ver) s (x.take (i+1))).1) by rw[eN]),rfl⟩,Tv⟩,Fh,Tv⟩
  have h6:x[i].yanked=false:=h6;refine yN (Xi .pure (Xi _ (Yi (xH x[i].ver) (Yi (fun h8=>?_) (fun h8=>?_)))))
  ·have h8:((plc s.ver):Int)<((plc x[i].ver):Int):=h8;refine Yi (fun h9=>?_) (fun h9=>?_)
   ·have h9:(x[i].ver.b:Int)=(s.ver.b:Int):=h9;have eW:EO (plc s.ver) s x[i]=3:=by unfold EO;rw[Al ch,Al ch]
    refine cU [(3,.ref 3 0),(4,.ref 4 0),(6,vi (plc s.ver)),(8,.ref 8 0),(9,vi (B4 (plc s.ver) s (x.take i)).2),(11,.ref 11 0),(14,vi (EO (plc s.ver) s x[i])),(33,sl At x),(34,vi (x.map At).length),(35,vi i)] [(3,.ro (Ac s)),(4,.cells [vs ⟨#[]⟩,vi 0,vi 0,vi 0]),(8,.cells (Ac (B4 (plc s.ver) s (x.take i)).1)),(11,.ro (At x[i]))] ⟨Zr,Zr,Zr,Zr,Zr,Zr,⟨(show vi 3=vi (EO (plc s.ver) s x[i]) by rw[eW]),rfl⟩,Zr,Zr,Zr,Tv⟩ Z4 ?_
    refine Yi (fun Pl=>?_) (fun Pl=>?_)
    ·have Pl:((B4 (plc s.ver) s (x.take i)).2:Int)<((EO (plc s.ver) s x[i]):Int):=Pl;refine yN (Xi .pure (Xi _ (Yi (QS x[i]) (yN (Yi (Ii i ch) ?_)))));have eN:=D4 (here:=(plc s.ver)) (s:=s) n2;have e0:¬(x[i].path≠s.path∨x[i].yanked=true):=fun q=>q.elim (fun q=>q h4) (fun q=>by rw[h6]at q;cases q);have eS:D8 (plc s.ver) s (B4 (plc s.ver) s (x.take i)) x[i]=(D2 x[i],EO (plc s.ver) s x[i]):=(Ae e0).trans (Al ch);rw[eS]at eN;refine Xi ⟨i+1,n2⟩ ?_;exact⟨Dl x.length i ch,⟨Zr,Zr,Zr,Zr,⟨(show vi (EO (plc s.ver) s x[i])=vi (B4 (plc s.ver) s (x.take (i+1))).2 by rw[eN]),rfl⟩,Zr,Zr,Zr,Tv⟩,⟨Zr,Zr,⟨(show HO.cells (Ac (D2 x[i]))=.cells (Ac (B4 (plc s.ver) s (x.take (i+1))).1) by rw[eN]),rfl⟩,Tv⟩,Fh,Tv⟩
    have Pl:¬(((B4 (plc s.ver) s (x.take i)).2:Int)<((EO (plc s.ver) s x[i]):Int)):=Pl;refine Yi (fun L3=>?_) (fun L3=>?_)
    ·have L3:((EO (plc s.ver) s x[i]):Int)=(1:Int):=L3;refine Yi (fun QU=>?_) (fun QU=>?_)
     ·have QU:((B4 (plc s.ver) s (x.take i)).2:Int)=(1:Int):=QU;refine yN (Xi .pure (Xi _ (Yi (QS x[i]) (yN (Yi (Ii i ch) ?_)))));have eN:=D4 (here:=(plc s.ver)) (s:=s) n2;have e0:¬(x[i].path≠s.path∨x[i].yanked=true):=fun q=>q.elim (fun q=>q h4) (fun q=>by rw[h6]at q;cases q);have eS:D8 (plc s.ver) s (B4 (plc s.ver) s (x.take i)) x[i]=(D2 x[i],EO (plc s.ver) s x[i]):=(Ae e0).trans (Al ch);rw[eS]at eN;refine Xi ⟨i+1,n2⟩ ?_;exact⟨Dl x.length i ch,⟨Zr,Zr,Zr,Zr,⟨(show vi (EO (plc s.ver) s x[i])=vi (B4 (plc s.ver) s (x.take (i+1))).2 by rw[eN]),rfl⟩,Zr,Zr,Zr,Tv⟩,⟨Zr,Zr,⟨(show HO.cells (Ac (D2 x[i]))=.cells (Ac (B4 (plc s.ver) s (x.take (i+1))).1) by rw[eN]),rfl⟩,Tv⟩,Fh,Tv⟩
     have QU:¬(((B4 (plc s.ver) s (x.take i)).2:Int)=(1:Int)):=QU;refine Yi (Ii i ch) ?_;have eN:=D4 (here:=(plc s.ver)) (s:=s) n2;have e0:¬(x[i].path≠s.path∨x[i].yanked=true):=fun q=>q.elim (fun q=>q h4) (fun q=>by rw[h6]at q;cases q);have eS:D8 (plc s.ver) s (B4 (plc s.ver) s (x.take i)) x[i]=(B4 (plc s.ver) s (x.take i)):=(Ae e0).trans (Ae ch);rw[eS]at eN;refine Xi ⟨i+1,n2⟩ ?_;exact⟨Dl x.length i ch,⟨Zr,Zr,Zr,Zr,⟨(show vi (B4 (plc s.ver) s (x.take i)).2=vi (B4 (plc s.ver) s (x.take (i+1))).2 by rw[eN]),rfl⟩,Zr,Zr,Zr,Tv⟩,⟨Zr,Zr,⟨(show HO.cells (Ac (B4 (plc s.ver) s (x.take i)).1)=.cells (Ac (B4 (plc s.ver) s (x.take (i+1))).1) by rw[eN]),rfl⟩,Tv⟩,Fh,Tv⟩
    have L3:¬(((EO (plc s.ver) s x[i]):Int)=(1:Int)):=L3;refine Yi (Ii i ch) ?_;have eN:=D4 (here:=(plc s.ver)) (s:=s) n2;have e0:¬(x[i].path≠s.path∨x[i].yanked=true):=fun q=>q.elim (fun q=>q h4) (fun q=>by rw[h6]at q;cases q);have eS:D8 (plc s.ver) s (B4 (plc s.ver) s (x.take i)) x[i]=(B4 (plc s.ver) s (x.take i)):=(Ae e0).trans (Ae ch);rw[eS]at eN;refine Xi ⟨i+1,n2⟩ ?_;exact⟨Dl x.length i ch,⟨Zr,Zr,Zr,Zr,⟨(show vi (B4 (plc s.ver) s (x.take i)).2=vi (B4 (plc s.ver) s (x.take (i+1))).2 by rw[eN]),rfl⟩,Zr,Zr,Zr,Tv⟩,⟨Zr,Zr,⟨(show HO.cells (Ac (B4 (plc s.ver) s (x.take i)).1)=.cells (Ac (B4 (plc s.ver) s (x.take (i+1))).1) by rw[eN]),rfl⟩,Tv⟩,Fh,Tv⟩
   have h9:¬((x[i].ver.b:Int)=(s.ver.b:Int)):=h9;refine Yi (fun _=>?_) (fun hf=>absurd h8 hf);have eW:EO (plc s.ver) s x[i]=2:=by unfold EO;rw[Al ch,Ae ch]
   refine cU [(3,.ref 3 0),(4,.ref 4 0),(6,vi (plc s.ver)),(8,.ref 8 0),(9,vi (B4 (plc s.ver) s (x.take i)).2),(11,.ref 11 0),(14,vi (EO (plc s.ver) s x[i])),(33,sl At x),(34,vi (x.map At).length),(35,vi i)] [(3,.ro (Ac s)),(4,.cells [vs ⟨#[]⟩,vi 0,vi 0,vi 0]),(8,.cells (Ac (B4 (plc s.ver) s (x.take i)).1)),(11,.ro (At x[i]))] ⟨Zr,Zr,Zr,Zr,Zr,Zr,⟨(show vi 2=vi (EO (plc s.ver) s x[i]) by rw[eW]),rfl⟩,Zr,Zr,Zr,Tv⟩ Z4 ?_
   refine Yi (fun kq=>?_) (fun kq=>?_)
   ·have kq:((B4 (plc s.ver) s (x.take i)).2:Int)<((EO (plc s.ver) s x[i]):Int):=kq;refine yN (Xi .pure (Xi _ (Yi (QS x[i]) (yN (Yi (Ii i ch) ?_)))));have eN:=D4 (here:=(plc s.ver)) (s:=s) n2;have e0:¬(x[i].path≠s.path∨x[i].yanked=true):=fun q=>q.elim (fun q=>q h4) (fun q=>by rw[h6]at q;cases q);have eS:D8 (plc s.ver) s (B4 (plc s.ver) s (x.take i)) x[i]=(D2 x[i],EO (plc s.ver) s x[i]):=(Ae e0).trans (Al ch);rw[eS]at eN;refine Xi ⟨i+1,n2⟩ ?_;exact⟨Dl x.length i ch,⟨Zr,Zr,Zr,Zr,⟨(show vi (EO (plc s.ver) s x[i])=vi (B4 (plc s.ver) s (x.take (i+1))).2 by rw[eN]),rfl⟩,Zr,Zr,Zr,Tv⟩,⟨Zr,Zr,⟨(show HO.cells (Ac (D2 x[i]))=.cells (Ac (B4 (plc s.ver) s (x.take (i+1))).1) by rw[eN]),rfl⟩,Tv⟩,Fh,Tv⟩
   have kq:¬(((B4 (plc s.ver) s (x.take i)).2:Int)<((EO (plc s.ver) s x[i]):Int)):=kq;refine Yi (fun dI=>?_) (fun dI=>?_)
   ·have dI:((EO (plc s.ver) s x[i]):Int)=(1:Int):=dI;refine Yi (fun VT=>?_) (fun VT=>?_)
    ·have VT:((B4 (plc s.ver) s (x.take i)).2:Int)=(1:Int):=VT;refine yN (Xi .pure (Xi _ (Yi (QS x[i]) (yN (Yi (Ii i ch) ?_)))));have eN:=D4 (here:=(plc s.ver)) (s:=s) n2;have e0:¬(x[i].path≠s.path∨x[i].yanked=true):=fun q=>q.elim (fun q=>q h4) (fun q=>by rw[h6]at q;cases q);have eS:D8 (plc s.ver) s (B4 (plc s.ver) s (x.take i)) x[i]=(D2 x[i],EO (plc s.ver) s x[i]):=(Ae e0).trans (Al ch);rw[eS]at eN;refine Xi ⟨i+1,n2⟩ ?_;exact⟨Dl x.length i ch,⟨Zr,Zr,Zr,Zr,⟨(show vi (EO (plc s.ver) s x[i])=vi (B4 (plc s.ver) s (x.take (i+1))).2 by rw[eN]),rfl⟩,Zr,Zr,Zr,Tv⟩,⟨Zr,Zr,⟨(show HO.cells (Ac (D2 x[i]))=.cells (Ac (B4 (plc s.ver) s (x.take (i+1))).1) by rw[eN]),rfl⟩,Tv⟩,Fh,Tv⟩
    have VT:¬(((B4 (plc s.ver) s (x.take i)).2:Int)=(1:Int)):=VT;refine Yi (Ii i ch) ?_;have eN:=D4 (here:=(plc s.ver)) (s:=s) n2;have e0:¬(x[i].path≠s.path∨x[i].yanked=true):=fun q=>q.elim (fun q=>q h4) (fun q=>by rw[h6]at q;cases q);have eS:D8 (plc s.ver) s (B4 (plc s.ver) s (x.take i)) x[i]=(B4 (plc s.ver) s (x.take i)):=(Ae e0).trans (Ae ch);rw[eS]at eN;refine Xi ⟨i+1,n2⟩ ?_;exact⟨Dl x.length i ch,⟨Zr,Zr,Zr,Zr,⟨(show vi (B4 (plc s.ver) s (x.take i)).2=vi (B4 (plc s.ver) s (x.take (i+1))).2 by rw[eN]),rfl⟩,Zr,Zr,Zr,Tv⟩,⟨Zr,Zr,⟨(show HO.cells (Ac (B4 (plc s.ver) s (x.take i)).1)=.cells (Ac (B4 (plc s.ver) s (x.take (i+1))).1) by rw[eN]),rfl⟩,Tv⟩,Fh,Tv⟩
   have dI:¬(((EO (plc s.ver) s x[i]):Int)=(1:Int)):=dI;refine Yi (Ii i ch) ?_;have eN:=D4 (here:=(plc s.ver)) (s:=s) n2;have e0:¬(x[i].path≠s.path∨x[i].yanked=true):=fun q=>q.elim (fun q=>q h4) (fun q=>by rw[h6]at q;cases q);have eS:D8 (plc s.ver) s (B4 (plc s.ver) s (x.take i)) x[i]=(B4 (plc s.ver) s (x.take i)):=(Ae e0).trans (Ae ch);rw[eS]at eN;refine Xi ⟨i+1,n2⟩ ?_;exact⟨Dl x.length i ch,⟨Zr,Zr,Zr,Zr,⟨(show vi (B4 (plc s.ver) s (x.take i)).2=vi (B4 (plc s.ver) s (x.take (i+1))).2 by rw[eN]),rfl⟩,Zr,Zr,Zr,Tv⟩,⟨Zr,Zr,⟨(show HO.cells (Ac (B4 (plc s.ver) s (x.take i)).1)=.cells (Ac (B4 (plc s.ver) s (x.take (i+1))).1) by rw[eN]),rfl⟩,Tv⟩,Fh,Tv⟩
  have h8:¬(((plc s.ver):Int)<((plc x[i].ver):Int)):=h8;refine Yi (fun hf=>absurd hf h8) (fun _=>?_);refine Yi (fun S7=>?_) (fun S7=>?_)
  ·have S7:((plc x[i].ver):Int)<((plc s.ver):Int):=S7;have eW:EO (plc s.ver) s x[i]=1:=by unfold EO;rw[Ae ch,Al ch]
   refine cU [(3,.ref 3 0),(4,.ref 4 0),(6,vi (plc s.ver)),(8,.ref 8 0),(9,vi (B4 (plc s.ver) s (x.take i)).2),(11,.ref 11 0),(14,vi (EO (plc s.ver) s x[i])),(33,sl At x),(34,vi (x.map At).length),(35,vi i)] [(3,.ro (Ac s)),(4,.cells [vs ⟨#[]⟩,vi 0,vi 0,vi 0]),(8,.cells (Ac (B4 (plc s.ver) s (x.take i)).1)),(11,.ro (At x[i]))] ⟨Zr,Zr,Zr,Zr,Zr,Zr,⟨(show vi 1=vi (EO (plc s.ver) s x[i]) by rw[eW]),rfl⟩,Zr,Zr,Zr,Tv⟩ Z4 ?_
   refine Yi (fun gq=>?_) (fun gq=>?_)
   ·have gq:((B4 (plc s.ver) s (x.take i)).2:Int)<((EO (plc s.ver) s x[i]):Int):=gq;refine yN (Xi .pure (Xi _ (Yi (QS x[i]) (yN (Yi (Ii i ch) ?_)))));have eN:=D4 (here:=(plc s.ver)) (s:=s) n2;have e0:¬(x[i].path≠s.path∨x[i].yanked=true):=fun q=>q.elim (fun q=>q h4) (fun q=>by rw[h6]at q;cases q);have eS:D8 (plc s.ver) s (B4 (plc s.ver) s (x.take i)) x[i]=(D2 x[i],EO (plc s.ver) s x[i]):=(Ae e0).trans (Al ch);rw[eS]at eN;refine Xi ⟨i+1,n2⟩ ?_;exact⟨Dl x.length i ch,⟨Zr,Zr,Zr,Zr,⟨(show vi (EO (plc s.ver) s x[i])=vi (B4 (plc s.ver) s (x.take (i+1))).2 by rw[eN]),rfl⟩,Zr,Zr,Zr,Tv⟩,⟨Zr,Zr,⟨(show HO.cells (Ac (D2 x[i]))=.cells (Ac (B4 (plc s.ver) s (x.take (i+1))).1) by rw[eN]),rfl⟩,Tv⟩,Fh,Tv⟩
   have gq:¬(((B4 (plc s.ver) s (x.take i)).2:Int)<((EO (plc s.ver) s x[i]):Int)):=gq;refine Yi (fun Qd=>?_) (fun Qd=>?_)
   ·have Qd:((EO (plc s.ver) s x[i]):Int)=(1:Int):=Qd;refine Yi (fun qj=>?_) (fun qj=>?_)
    ·have qj:((B4 (plc s.ver) s (x.take i)).2:Int)=(1:Int):=qj;refine yN (Xi .pure (Xi _ (Yi (QS x[i]) (yN (Yi (Ii i ch) ?_)))));have eN:=D4 (here:=(plc s.ver)) (s:=s) n2;have e0:¬(x[i].path≠s.path∨x[i].yanked=true):=fun q=>q.elim (fun q=>q h4) (fun q=>by rw[h6]at q;cases q);have eS:D8 (plc s.ver) s (B4 (plc s.ver) s (x.take i)) x[i]=(D2 x[i],EO (plc s.ver) s x[i]):=(Ae e0).trans (Al ch);rw[eS]at eN;refine Xi ⟨i+1,n2⟩ ?_;exact⟨Dl x.length i ch,⟨Zr,Zr,Zr,Zr,⟨(show vi (EO (plc s.ver) s x[i])=vi (B4 (plc s.ver) s (x.take (i+1))).2 by rw[eN]),rfl⟩,Zr,Zr,Zr,Tv⟩,⟨Zr,Zr,⟨(show HO.cells (Ac (D2 x[i]))=.cells (Ac (B4 (plc s.ver) s (x.take (i+1))).1) by rw[eN]),rfl⟩,Tv⟩,Fh,Tv⟩
    have qj:¬(((B4 (plc s.ver) s (x.take i)).2:Int)=(1:Int)):=qj;refine Yi (Ii i ch) ?_;have eN:=D4 (here:=(plc s.ver)) (s:=s) n2;have e0:¬(x[i].path≠s.path∨x[i].yanked=true):=fun q=>q.elim (fun q=>q h4) (fun q=>by rw[h6]at q;cases q);have eS:D8 (plc s.ver) s (B4 (plc s.ver) s (x.take i)) x[i]=(B4 (plc s.ver) s (x.take i)):=(Ae e0).trans (Ae ch);rw[eS]at eN;refine Xi ⟨i+1,n2⟩ ?_;exact⟨Dl x.length i ch,⟨Zr,Zr,Zr,Zr,⟨(show vi (B4 (plc s.ver) s (x.take i)).2=vi (B4 (plc s.ver) s (x.take (i+1))).2 by rw[eN]),rfl⟩,Zr,Zr,Zr,Tv⟩,⟨Zr,Zr,⟨(show HO.cells (Ac (B4 (plc s.ver) s (x.take i)).1)=.cells (Ac (B4 (plc s.ver) s (x.take (i+1))).1) by rw[eN]),rfl⟩,Tv⟩,Fh,Tv⟩
   have Qd:¬(((EO (plc s.ver) s x[i]):Int)=(1:Int)):=Qd;refine Yi (Ii i ch) ?_;have eN:=D4 (here:=(plc s.ver)) (s:=s) n2;have e0:¬(x[i].path≠s.path∨x[i].yanked=true):=fun q=>q.elim (fun q=>q h4) (fun q=>by rw[h6]at q;cases q);have eS:D8 (plc s.ver) s (B4 (plc s.ver) s (x.take i)) x[i]=(B4 (plc s.ver) s (x.take i)):=(Ae e0).trans (Ae ch);rw[eS]at eN;refine Xi ⟨i+1,n2⟩ ?_;exact⟨Dl x.length i ch,⟨Zr,Zr,Zr,Zr,⟨(show vi (B4 (plc s.ver) s (x.take i)).2=vi (B4 (plc s.ver) s (x.take (i+1))).2 by rw[eN]),rfl⟩,Zr,Zr,Zr,Tv⟩,⟨Zr,Zr,⟨(show HO.cells (Ac (B4 (plc s.ver) s (x.take i)).1)=.cells (Ac (B4 (plc s.ver) s (x.take (i+1))).1) by rw[eN]),rfl⟩,Tv⟩,Fh,Tv⟩
  have S7:¬(((plc x[i].ver):Int)<((plc s.ver):Int)):=S7;have eW:EO (plc s.ver) s x[i]=0:=by unfold EO;rw[Ae ch,Ae ch]
  refine cU [(3,.ref 3 0),(4,.ref 4 0),(6,vi (plc s.ver)),(8,.ref 8 0),(9,vi (B4 (plc s.ver) s (x.take i)).2),(11,.ref 11 0),(14,vi (EO (plc s.ver) s x[i])),(33,sl At x),(34,vi (x.map At).length),(35,vi i)] [(3,.ro (Ac s)),(4,.cells [vs ⟨#[]⟩,vi 0,vi 0,vi 0]),(8,.cells (Ac (B4 (plc s.ver) s (x.take i)).1)),(11,.ro (At x[i]))] ⟨Zr,Zr,Zr,Zr,Zr,Zr,⟨(show vi 0=vi (EO (plc s.ver) s x[i]) by rw[eW]),rfl⟩,Zr,Zr,Zr,Tv⟩ Z4 ?_
  refine Yi (fun iY=>?_) (fun iY=>?_)
  ·have iY:((B4 (plc s.ver) s (x.take i)).2:Int)<((EO (plc s.ver) s x[i]):Int):=iY;refine yN (Xi .pure (Xi _ (Yi (QS x[i]) (yN (Yi (Ii i ch) ?_)))));have eN:=D4 (here:=(plc s.ver)) (s:=s) n2;have e0:¬(x[i].path≠s.path∨x[i].yanked=true):=fun q=>q.elim (fun q=>q h4) (fun q=>by rw[h6]at q;cases q);have eS:D8 (plc s.ver) s (B4 (plc s.ver) s (x.take i)) x[i]=(D2 x[i],EO (plc s.ver) s x[i]):=(Ae e0).trans (Al ch);rw[eS]at eN;refine Xi ⟨i+1,n2⟩ ?_;exact⟨Dl x.length i ch,⟨Zr,Zr,Zr,Zr,⟨(show vi (EO (plc s.ver) s x[i])=vi (B4 (plc s.ver) s (x.take (i+1))).2 by rw[eN]),rfl⟩,Zr,Zr,Zr,Tv⟩,⟨Zr,Zr,⟨(show HO.cells (Ac (D2 x[i]))=.cells (Ac (B4 (plc s.ver) s (x.take (i+1))).1) by rw[eN]),rfl⟩,Tv⟩,Fh,Tv⟩
  have iY:¬(((B4 (plc s.ver) s (x.take i)).2:Int)<((EO (plc s.ver) s x[i]):Int)):=iY;refine Yi (fun gt=>?_) (fun gt=>?_)
  ·have gt:((EO (plc s.ver) s x[i]):Int)=(1:Int):=gt;refine Yi (fun oc=>?_) (fun oc=>?_)
   ·have oc:((B4 (plc s.ver) s (x.take i)).2:Int)=(1:Int):=oc;refine yN (Xi .pure (Xi _ (Yi (QS x[i]) (yN (Yi (Ii i ch) ?_)))));have eN:=D4 (here:=(plc s.ver)) (s:=s) n2;have e0:¬(x[i].path≠s.path∨x[i].yanked=true):=fun q=>q.elim (fun q=>q h4) (fun q=>by rw[h6]at q;cases q);have eS:D8 (plc s.ver) s (B4 (plc s.ver) s (x.take i)) x[i]=(D2 x[i],EO (plc s.ver) s x[i]):=(Ae e0).trans (Al ch);rw[eS]at eN;refine Xi ⟨i+1,n2⟩ ?_;exact⟨Dl x.length i ch,⟨Zr,Zr,Zr,Zr,⟨(show vi (EO (plc s.ver) s x[i])=vi (B4 (plc s.ver) s (x.take (i+1))).2 by rw[eN]),rfl⟩,Zr,Zr,Zr,Tv⟩,⟨Zr,Zr,⟨(show HO.cells (Ac (D2 x[i]))=.cells (Ac (B4 (plc s.ver) s (x.take (i+1))).1) by rw[eN]),rfl⟩,Tv⟩,Fh,Tv⟩
   have oc:¬(((B4 (plc s.ver) s (x.take i)).2:Int)=(1:Int)):=oc;refine Yi (Ii i ch) ?_;have eN:=D4 (here:=(plc s.ver)) (s:=s) n2;have e0:¬(x[i].path≠s.path∨x[i].yanked=true):=fun q=>q.elim (fun q=>q h4) (fun q=>by rw[h6]at q;cases q);have eS:D8 (plc s.ver) s (B4 (plc s.ver) s (x.take i)) x[i]=(B4 (plc s.ver) s (x.take i)):=(Ae e0).trans (Ae ch);rw[eS]at eN;refine Xi ⟨i+1,n2⟩ ?_;exact⟨Dl x.length i ch,⟨Zr,Zr,Zr,Zr,⟨(show vi (B4 (plc s.ver) s (x.take i)).2=vi (B4 (plc s.ver) s (x.take (i+1))).2 by rw[eN]),rfl⟩,Zr,Zr,Zr,Tv⟩,⟨Zr,Zr,⟨(show HO.cells (Ac (B4 (plc s.ver) s (x.take i)).1)=.cells (Ac (B4 (plc s.ver) s (x.take (i+1))).1) by rw[eN]),rfl⟩,Tv⟩,Fh,Tv⟩
  have gt:¬(((EO (plc s.ver) s x[i]):Int)=(1:Int)):=gt;refine Yi (Ii i ch) ?_;have eN:=D4 (here:=(plc s.ver)) (s:=s) n2;have e0:¬(x[i].path≠s.path∨x[i].yanked=true):=fun q=>q.elim (fun q=>q h4) (fun q=>by rw[h6]at q;cases q);have eS:D8 (plc s.ver) s (B4 (plc s.ver) s (x.take i)) x[i]=(B4 (plc s.ver) s (x.take i)):=(Ae e0).trans (Ae ch);rw[eS]at eN;refine Xi ⟨i+1,n2⟩ ?_;exact⟨Dl x.length i ch,⟨Zr,Zr,Zr,Zr,⟨(show vi (B4 (plc s.ver) s (x.take i)).2=vi (B4 (plc s.ver) s (x.take (i+1))).2 by rw[eN]),rfl⟩,Zr,Zr,Zr,Tv⟩,⟨Zr,Zr,⟨(show HO.cells (Ac (B4 (plc s.ver) s (x.take i)).1)=.cells (Ac (B4 (plc s.ver) s (x.take (i+1))).1) by rw[eN]),rfl⟩,Tv⟩,Fh,Tv⟩
 have h2:¬((i:Int)<((x.map At).length:Int)):=h2;have n2:=GH h2;refine Yi (fun od=>?_) (fun od=>?_)
 ·have od:((B4 (plc s.ver) s (x.take i)).2:Int)=(0:Int):=od;refine yN (yN ?_);have ei:x.take i=x:=Au ch;have eE:Nl x s=if(B4 (plc s.ver) s x).2=0 then 6 else 0:=Ae hv
  have hz:=od;rw[ei]at hz;exact .of_eq (show AV.tup [.agg (Ac xL),vi 6]=.tup [.agg (Ac (QD x s)),vi (Nl x s)] by rw[QD,eE,Al hz];rfl)
 have od:¬(((B4 (plc s.ver) s (x.take i)).2:Int)=(0:Int)):=od;refine yN (yN (yN ?_));have ei:x.take i=x:=Au ch;have eE:Nl x s=if(B4 (plc s.ver) s x).2=0 then 6 else 0:=Ae hv
 have hz:=od;rw[ei]at hz;exact .of_eq (show AV.tup [.agg (Ac (B4 (plc s.ver) s (x.take i)).1),vi 0]=.tup [.agg (Ac (QD x s)),vi (Nl x s)] by rw[ei,QD,eE,Ae hz];rfl)
theorem xr(x:List Rl)(ifs:List (List AV))(s:Sl)(hl:Cy x)(k:Int)(QW:k≠0)(hE:Nl x s=1)(hk:PC 37 [EZ x ifs] (vi k)):PC 14 [.agg (Ic x ifs),.agg (Ac s)] (.tup [.agg (Ac (QD x s)),vi (Nl x s)]):=by
 have hl:x.length≤1073741824:=hl;refine Ps (pC [2,3,11] [17]) Tryz.func14 rfl (Nz rfl) (yN (Xi .pure (Xi _ (Yi hk (Yi (fun h1=>?_) (fun h1=>?_))))))
 ·have h1:(k:Int)≠(0:Int):=h1;refine yN (yN ?_);exact .of_eq (show AV.tup [.agg (Ac xL),vi 1]=.tup [.agg (Ac (QD x s)),vi (Nl x s)] by rw[QD,show Nl x s=1 from hE];rfl)
 have h1:(k:Int)=(0:Int):=AC h1;exact absurd h1 QW
theorem xt(x:List Rl)(ifs:List (List AV))(s:Sl)(hl:Cy x)(k:Int)(QW:k=0)(hE:Nl x s=1)(hk:PC 37 [EZ x ifs] (vi k))(hV:PC 38 [.agg (Fu s.ver)] (vb false)):PC 14 [.agg (Ic x ifs),.agg (Ac s)] (.tup [.agg (Ac (QD x s)),vi (Nl x s)]):=by
 have hl:x.length≤1073741824:=hl;refine Ps (pC [2,3,11] [17]) Tryz.func14 rfl (Nz rfl) (yN (Xi .pure (Xi _ (Yi hk (Yi (fun h1=>?_) (fun h1=>?_))))))
 ·have h1:(k:Int)≠(0:Int):=h1;exact absurd QW h1
 have h1:(k:Int)=(0:Int):=AC h1;refine yN (Xi .pure (Xi _ (Yi hV (yN (yN ?_)))));exact .of_eq (show AV.tup [.agg (Ac xL),vi 1]=.tup [.agg (Ac (QD x s)),vi (Nl x s)] by rw[QD,show Nl x s=1 from hE];rfl)
theorem xq(h:Jc x):PC 14 [EZ x ifs,.agg (Ac s)] (.tup [.agg (Ac (QD x s)),vi (Nl x s)]):=by
 have hk:=nN VQ x ifs h.few;have hl:Cy x:=Bf h.len Cl;have hV:=re s.ver
 by_cases h0:AN x=0
 ·cases hv:Cj s.ver with
  |true =>
   rw[hv]at hV;exact xu x ifs s hl _ h0 (fun q=>q.elim (fun q=>q h0) (fun q=>by rw[hv]at q;cases q)) hk hV (xH s.ver)
  |false =>
   rw[hv]at hV;exact xt x ifs s hl _ h0 (Al (.inr hv)) hk hV
 ·exact xr x ifs s hl _ h0 (Al (.inl h0)) hk
abbrev vy:Ver:=⟨1,b,c⟩
abbrev sy:Sl:=⟨pb,vy b c⟩
abbrev ry:Rl:=⟨pb,vy b c,[],mt,mt,mt,y⟩
abbrev Tl:List Rl:=[ry 0 0 false,ry 1 0 false,ry 1 2 true,ry 2 0 false]
abbrev yH:List Rl:=[ry 0 0 false,ry 1 0 false,ry 1 2 false,ry 2 0 false]
abbrev yG:List Rl:=[ry 0 0 false,ry 1 0 true,ry 1 2 true,ry 2 0 false]
abbrev mf:List Rq:=[⟨pb,[(1000,1000000)]⟩]
abbrev m43:List Mv:=[⟨pb,1000,2000⟩]
abbrev aW:List AV:=[vs pb,vi 1,vi b,vi c,Ce,vs mt,vs mt,vs mt,vb y]
abbrev mQ:List AV:=[.slice .none [aW 0 0 false,aW 1 0 false,aW 1 2 true,aW 2 0 false],Ce]
theorem TH:GF (.agg mQ) (EZ Tl []) :=
 have h (b c:Int) (y:Bool):Ra (aW b c y) (At (ry b c y)):=⟨.refl _,.refl _,.refl _,.refl _,.nil,.refl _,.refl _,.refl _,.refl _,trivial⟩
 GF.agg ⟨GF.slice ⟨h 0 0 false,h 1 0 false,h 1 2 true,h 2 0 false,trivial⟩,.nil,trivial⟩
theorem jX:Jc [ry 0 0 (f 0 0),ry 1 0 (f 1 0),ry 1 2 (f 1 2),ry 2 0 (f 2 0)] :=
 have h:Gi pb:=by decide
 ⟨show 4≤16 by decide,Dr.2 ⟨⟨h,CI _⟩,Dr.2 ⟨⟨h,CI _⟩,Dr.2 ⟨⟨h,CI _⟩,Dr.2 ⟨⟨h,CI _⟩,CI _⟩⟩⟩⟩⟩
theorem s5:∀r∈[ry 0 0 (f 0 0),ry 1 0 (f 1 0),ry 1 2 (f 1 2),ry 2 0 (f 2 0)],r.reqs.length≤1000 :=
 Dr.2 ⟨AA _,Dr.2 ⟨AA _,Dr.2 ⟨AA _,Dr.2 ⟨AA _,CI _⟩⟩⟩⟩
theorem TC(h:Cj (vy b 0)=true):Hf [sy b 0]:=⟨show 1≤1073741824 by decide,Dr.2 ⟨h,CI _⟩,.cons (CI _) .nil⟩
theorem VE:PC 31 [vi b,vi c] (.agg (Ac (sy b c))):=by
 refine Ps D3 Tryz.func31 rfl (Nz rfl) (yN (yN ?_));exact .refl _
theorem xy:PC 32 [.agg (Ac s),vb true] (.agg [vs s.path,vi s.ver.a,vi s.ver.b,vi s.ver.c,Ce,vs ⟨#[]⟩,vs ⟨#[]⟩,vs ⟨#[]⟩,vb true]):=by
 refine Ps (pC [2] []) Tryz.func32 rfl (Nz rfl) (yN (yN (yN ?_)));exact .refl _
theorem mT:PC 32 [.agg (Ac s),vb false] (.agg [vs s.path,vi s.ver.a,vi s.ver.b,vi s.ver.c,Ce,vs ⟨#[]⟩,vs ⟨#[]⟩,vs ⟨#[]⟩,vb false]):=by
 refine Ps (pC [2] []) Tryz.func32 rfl (Nz rfl) (yN (yN (yN ?_)));exact .refl _
theorem yk9  : PC 9 [] (vb true):=by
 have hq:∀q∈mf,J8 q:=Dr.2 ⟨⟨by decide,by decide⟩,CI _⟩;have hcl:=yu [] Cl (CI _);have fx:Jc Tl:=jX fun b c=>b == 1&&c == 2;have fz:Jc yH:=jX fun _ _=>false;have rx:∀r∈Tl,r.reqs.length≤1000:=s5 fun b c=>b == 1&&c == 2;have fw:Jc yG:=jX fun b c=>b == 1;have h14:=(xq [] (sy 1 0) fx).args (args':=[.agg mQ,.agg (Ac (sy 1 0))]) ⟨TH,.refl _,trivial⟩;rw[show QD Tl (sy 1 0)=sy 2 0 by kernel_rfl,show Nl Tl (sy 1 0)=0 by kernel_rfl]at h14;have g14:=xq [] (sy 1 0) fz;rw[show QD yH (sy 1 0)=sy 1 2 by kernel_rfl,show Nl yH (sy 1 0)=0 by kernel_rfl]at g14;have L3:=(xp Tl [] (sy 1 2) (qL [] (sy 1 2) fx rx hcl)).args (args':=[.agg mQ,.agg (Ac (sy 1 2))]) ⟨TH,.refl _,trivial⟩;rw[show Kq Tl [] (sy 1 2) false=.tup [EZ yH [],vi 0] by rw[TE (show F5 Tl (sy 1 2) false=0 by kernel_rfl)];kernel_rfl]at L3;have IW:=xo Tl [] (sy 1 0) (qM [] (sy 1 0) fx rx hcl);have so:Fb Tl mf=[sy 1 0]:=by kernel_rfl
 have vF:DT Tl mf=0:=by kernel_rfl
 have hw:Fy Tl (sy 1 0) true=yG:=by kernel_rfl
 have oF:Fb yG mf=[sy 2 0]:=by kernel_rfl
 have dQ:DT yG mf=0:=by kernel_rfl
 have tK:=o75 [sy 1 0] [sy 2 0] [pb,pb] (TC 1 Wk) (TC 2 Wk) Cl Cl (.refl _) Cl;rw[UZ (t:=[pb,pb]) (TC 1 Wk) (TC 2 Wk) (.refl _) Cl]at tK;have qj:=(xx Tl [] mf (sy 1 0) IW (xc Tl [] mf fx.few hq) (xc (Fy Tl (sy 1 0) true) _ mf (by rw[hw];exact fw.few) hq) (fun _ _ _=>by rw[so,hw,oF];exact tK)).args (args':=[.agg mQ,sl AH mf,.agg (Ac (sy 1 0))]) ⟨TH,.refl _,.refl _,trivial⟩;have eE:Gx Tl mf (sy 1 0)=0:=by
  unfold Gx;rw[Ae (fun h=>h (show F5 Tl (sy 1 0) true=0 by kernel_rfl)),Ae (fun h=>h vF),hw,Ae (fun h=>h dQ)]
 have eA:G7 Tl mf (sy 1 0)=m43:=by
  unfold G7;rw[Al eE,so,hw,oF];unfold rm;unfold rm;kernel_rfl
 rw[eA,eE]at qj;have hl:Cy [sy 1 2]:=by decide
 have mY:=(Acs Tl [] [sy 1 2] hl (xz Tl [] _ hl (nN VQ Tl [] fx.few)) (fun z=>c53 Tl [] z.path z.ver (c84 Tl [] fx.few) fx.few)).args (args':=[.agg mQ,sl Ac [sy 1 2]]) ⟨TH,.refl _,trivial⟩;rw[show VD Tl [sy 1 2]=[sy 1 2] by kernel_rfl,show Fl Tl [sy 1 2]=0 by kernel_rfl]at mY;have VF:=o35 m43 m43 Cl;rw[Aq rfl]at VF;refine Ps (pC [3] []) Tryz.func9 rfl (Nz rfl) (Xi .pure (Xi _ (Yi (VE 0 0) (Xi .pure (Xi _ (Yi (mT (sy 0 0)) (Xi .pure (Xi _ (Yi (VE 1 0) (Xi .pure (Xi _ (Yi (mT (sy 1 0)) (Xi .pure (Xi _ (Yi (VE 1 2) (Xi .pure (Xi _ (Yi (xy (sy 1 2)) (Xi .pure (Xi _ (Yi (VE 2 0) (Xi .pure (Xi _ (Yi (mT (sy 2 0)) (yN (yN (Xi _ (Yi (VE 1 0) (Xi _ (Yi h14 (yN (Yi Wk (yN (Xi _ (Yi (VE 1 2) (Xi _ (Yi L3 (yN (Yi Wk (yN (Xi _ (Yi (VE 1 0) (Xi _ (Yi g14 (yN (Yi Wk (yN (Xi _ (Yi (VE 1 0) (Xi _ (Yi qj (Yi Wk (yN (Xi _ (Yi (VE 1 2) (Xi _ (Yi mY (Yi Wk (Yi (fun _=>?_) (fun h=>absurd Cl h))))))))))))))))))))))))))))))))))))))))))))))))))))))))))));refine yN (Xi _ (Yi (VE 2 0) (Yi (fun h1=>?_) (fun h1=>?_))))
 ·have h1:((sy 2 0).path:ByteArray)=(sy 2 0).path∧((sy 2 0).ver.a:Int)=(sy 2 0).ver.a∧((sy 2 0).ver.b:Int)=(sy 2 0).ver.b∧((sy 2 0).ver.c:Int)=(sy 2 0).ver.c∧True:=h1;refine Yi (fun _=>?_) (fun h=>absurd Cl h);refine Yi (fun _=>?_) (fun h=>absurd Cl h);refine yN (Xi _ (Yi (VE 1 2) (Yi (fun h2=>?_) (fun h2=>?_))))
  ·have h2:((sy 1 2).path:ByteArray)=(sy 1 2).path∧((sy 1 2).ver.a:Int)=(sy 1 2).ver.a∧((sy 1 2).ver.b:Int)=(sy 1 2).ver.b∧((sy 1 2).ver.c:Int)=(sy 1 2).ver.c∧True:=h2;refine Yi (fun _=>?_) (fun h=>absurd Cl h);refine Xi _ (Yi VF (Yi (fun _=>?_) (fun h=>absurd Cl h)));refine Yi (fun h3=>?_) (fun h3=>?_)
   ·have h3:(([sy 1 2].map Ac).length:Int)=(1:Int):=h3;refine Yi Wk ?_;exact .refl _
   have h3:¬((([sy 1 2].map Ac).length:Int)=(1:Int)):=h3;refine Yi Wk ?_;exact absurd rfl h3
  have h2:¬(((sy 1 2).path:ByteArray)=(sy 1 2).path∧((sy 1 2).ver.a:Int)=(sy 1 2).ver.a∧((sy 1 2).ver.b:Int)=(sy 1 2).ver.b∧((sy 1 2).ver.c:Int)=(sy 1 2).ver.c∧True):=h2;refine Yi Wk ?_;exact absurd ⟨rfl,rfl,rfl,rfl,trivial⟩ h2
 have h1:¬(((sy 2 0).path:ByteArray)=(sy 2 0).path∧((sy 2 0).ver.a:Int)=(sy 2 0).ver.a∧((sy 2 0).ver.b:Int)=(sy 2 0).ver.b∧((sy 2 0).ver.c:Int)=(sy 2 0).ver.c∧True):=h1;refine Yi Wk ?_;exact absurd ⟨rfl,rfl,rfl,rfl,trivial⟩ h1
theorem Vt(h:FE x 16=true):x.length≤16:=by
 unfold FE at h;simp only[Ai,Az]at h;omega
structure p9(x:List Rl)(ifs:List (List AV)):Prop where
 lim:p8 x []
 fi:Cy ifs
 si:∀c∈ifs,c.length=5
theorem dh(hs:FE x 16=true):∀r∈x,r.reqs.length≤1000:=fun r hr=>by
 unfold FE at hs;simp only[Ai,Az,AZ]at hs;have q:=hs.1 r hr;simp only[JE,Ff,Ai,Az]at q;omega
theorem pO{s:Sl}{y:Bool}(h:Jc x):Jc (Fy x s y):=by
 unfold Fy;split
 ·exact⟨by rw[K9];exact h.len,fp h.few⟩
 ·exact⟨AA _,CI _⟩
theorem AcC(h:Jc x)(hr:∀r∈x,r.reqs.length≤1000)(hf:Cy ifs)(hs:∀c∈ifs,c.length=5):PC 11 [EZ x ifs,.agg (Ac s)] (Kq x ifs s true)∧PC 12 [EZ x ifs,.agg (Ac s)] (Kq x ifs s false) :=
 ⟨xo x ifs s (qM ifs s h hr (yu ifs hf hs)),xp x ifs s (qL ifs s h hr (yu ifs hf hs))⟩
end Go.Eng
namespace Go.Proofs.YtddfphmpfnmknaaGreatDoor.joins
open Go Go.Eng Go.Proofs Go.ChangeShapes Go.WideShapes Go.ChangeAt Go.RowKit
section
variable {H:Type}{enc:TypeId×Value→H}{w:World}
theorem all_le{d:DataW H}{l:List (DataW H)}(h:d∈l):Rows.uptoBulk d≤Rows.uptoBulkAll l:=by
 induction l with
 |nil=>cases h
 |cons x r ih =>
  simp only[Rows.uptoBulkAll]
  cases AF.1 h with
  |inl e=>subst e;omega
  |inr e=>have:=ih e;omega
theorem one_le(d:DataW H):1≤Rows.uptoBulk d:=by
 cases d with
 |lit l=>cases l<;>simp[Rows.uptoBulk]
 |nil=>simp[Rows.uptoBulk]
 |ptr d=>simp[Rows.uptoBulk]
 |slice qh spare=>simp[Rows.uptoBulk]
 |agg parts=>simp[Rows.uptoBulk]
 |iface t d=>simp[Rows.uptoBulk]
 |map entries=>simp[Rows.uptoBulk]
 |held h=>simp[Rows.uptoBulk]
theorem len_le(l:List (DataW H)):l.length≤Rows.uptoBulkAll l:=by
 induction l with
 |nil=>simp[Rows.uptoBulkAll]
 |cons x r ih=>have:=one_le x;simp only[Rows.uptoBulkAll,Av];omega
theorem bulk_ok:XH (H:=H) Rows.uptoBulk where
 slice es sp:=by
  have h1:=len_le es
  refine⟨by simp only[Rows.uptoBulk];omega,fun d hd=>?_⟩
  have:=all_le hd
  simp only[Rows.uptoBulk];omega
 agg ps d hd:=by
  have:=all_le hd
  simp only[Rows.uptoBulk];omega
 str b:=by simp only[Rows.uptoBulk];omega
theorem app_all(l r:List (DataW H)):Rows.uptoBulkAll (l++r)=Rows.uptoBulkAll l+Rows.uptoBulkAll r:=by
 induction l with
 |nil=>simp[Rows.uptoBulkAll]
 |cons x l ih=>simp only[Eg,Rows.uptoBulkAll,ih];omega
abbrev NB:Nat:=1048576
abbrev Op(enc:TypeId×Value→H)(w:World)(t:TypeId){α:Type}(e:α→List AV)(ok:α→Prop):Prop:=KD enc Tryz.prog w Rows.uptoBulk NB t e ok
theorem oI:Op enc w 3 (fun n:Int=>[vi n]) (fun _=>True):=(io Tryz.underlying3).to id (fun _ _=>⟨rfl,trivial⟩)
theorem oB:Op enc w 4 (fun b:Bool=>[vb b]) (fun _=>True):=cO Tryz.underlying4
theorem oS:Op enc w 9 (fun s:ByteArray=>[vs s]) (fun s=>s.size≤NB):=Yx bulk_ok Tryz.underlying9
theorem oVer:Op enc w 27 Fu (fun _=>True) :=
 (Gt bulk_ok Tryz.underlying27 (L:=3) Wk (Cu rfl (n:=1) Wk oI (Cu rfl (n:=1) Wk oI (Cu rfl (n:=1) Wk oI HG)))).to
  (fun p=>(⟨p.1,p.2.1,p.2.2.1⟩:Ver)) (fun _ _=>⟨rfl,trivial⟩)
theorem oSpan:Op enc w 67 Ag (fun _=>True) :=
 (Gt bulk_ok Tryz.underlying67 (L:=2) Wk (Cu rfl (n:=1) Wk oI (Cu rfl (n:=1) Wk oI HG))).to
  (fun p=>(p.1,p.2.1)) (fun _ _=>⟨rfl,trivial⟩)
theorem oSet:Op enc w 69 (fun l:Bb=>[sl Ag l]) (fun l=>l.length≤NB) :=
 (Jq bulk_ok Tryz.underlying69 (m:=1) Wk (fun _=>rfl) oSpan).to id (fun _ h=>⟨rfl,h.1⟩)
abbrev OkRq(q:Rq):Prop:=q.path.size≤NB∧q.set.length≤NB
theorem oRq:Op enc w 71 AH OkRq :=
 (Gt bulk_ok Tryz.underlying71 (L:=2) Wk (Cu rfl (n:=1) Wk oS (Cu rfl (n:=1) Wk oSet HG))).to
  (fun p=>(⟨p.1,p.2.1⟩:Rq)) (fun _ h=>⟨rfl,h.1,h.2.1⟩)
abbrev OkRqs(l:List Rq):Prop:=l.length≤NB∧∀q∈l,OkRq q
theorem oRqs:Op enc w 39 (fun l:List Rq=>[sl AH l]) OkRqs :=
 Jq bulk_ok Tryz.underlying39 (m:=1) Wk (fun _=>rfl) oRq
abbrev OkRl(r:Rl):Prop:=r.path.size≤NB∧OkRqs r.reqs
theorem oRl:Op enc w 41 At OkRl :=
 (Gt bulk_ok Tryz.underlying41 (L:=9) Wk (Cu rfl (n:=1) Wk oS (Cu rfl (n:=3) Wk oVer (Cu rfl (n:=1) Wk oRqs
  (Cu rfl (n:=1) Wk oS (Cu rfl (n:=1) Wk oS (Cu rfl (n:=1) Wk oS (Cu rfl (n:=1) Wk oB HG)))))))).to
  (fun p=>(⟨p.1,p.2.1,p.2.2.1,p.2.2.2.1,p.2.2.2.2.1,p.2.2.2.2.2.1,p.2.2.2.2.2.2.1⟩:Rl)) (fun _ h=>⟨rfl,h.1,h.2.2.1⟩)
theorem oRls:Op enc w 22 (fun l:List Rl=>[sl At l]) (fun l=>l.length≤NB∧∀r∈l,OkRl r) :=
 Jq bulk_ok Tryz.underlying22 (m:=8) Wk (fun _=>rfl) oRl
theorem oIfc:Op enc w 132 (fun s:ByteArray=>[vs s,.junk,.junk,.junk,.junk]) (fun _=>True) :=
 (Gt bulk_ok Tryz.underlying132 (L:=5) Wk (Cu rfl (n:=1) Wk oS (Cu rfl (n:=1) Wk (NP Tryz.underlying127) (Cu rfl (n:=1) Wk (NP Tryz.underlying128)
  (Cu rfl (n:=1) Wk (NP Tryz.underlying129) (Cu rfl (n:=1) Wk (NP Tryz.underlying130) HG)))))).to (fun p=>p.1) (fun _ _=>⟨rfl,trivial⟩)
theorem oIfs:Op enc w 23 (fun l:List ByteArray=>[sl (fun s=>[vs s,.junk,.junk,.junk,.junk]) l]) (fun l=>l.length≤NB) :=
 (Jq bulk_ok Tryz.underlying23 (m:=4) Wk (fun _=>rfl) oIfc).to id (fun _ h=>⟨rfl,h.1⟩)
theorem oIx:Op enc w 25 (fun p:List Rl×List (List AV)=>[sl At p.1,.slice .none p.2]) (fun p=>(p.1.length≤NB∧∀r∈p.1,OkRl r)∧p.2.length≤NB∧∀c∈p.2,c.length=5) :=
 (Gt bulk_ok Tryz.underlying25 (L:=2) Wk (Cu rfl (n:=1) Wk oRls (Cu rfl (n:=1) Wk oIfs HG))).to
  (fun p=>(p.1,p.2.1.map (fun s=>[vs s,.junk,.junk,.junk,.junk]))) (fun _ h=>⟨rfl,h.1,by rw[A8];exact h.2.1,fun c hc=>by obtain⟨s,_,rfl⟩:=Am.1 hc;rfl⟩)
theorem oSl:Op enc w 29 Ac (fun y=>y.path.size≤NB) :=
 (Gt bulk_ok Tryz.underlying29 (L:=4) Wk (Cu rfl (n:=1) Wk oS (Cu rfl (n:=3) Wk oVer HG))).to
  (fun p=>(⟨p.1,p.2.1⟩:Sl)) (fun _ h=>⟨rfl,h.1⟩)
theorem oSls:Op enc w 45 (fun l:List Sl=>[sl Ac l]) (fun l=>l.length≤NB∧∀y∈l,y.path.size≤NB) :=
 Jq bulk_ok Tryz.underlying45 (m:=3) Wk (fun _=>rfl) oSl
theorem few_of{n:Nat}(h:n≤NB):n≤1073741824:=Bf h Cl
theorem lim_of{x:List Rl}{roots:List Rq}(h:x.length≤NB∧∀r∈x,OkRl r)(k:OkRqs roots):p8 x roots where
 ix:=few_of h.1
 rs:=few_of k.1
 rel r hr:=⟨few_of (h.2 r hr).2.1,few_of (h.2 r hr).1,fun q hq=>⟨few_of ((h.2 r hr).2.2 q hq).2,few_of ((h.2 r hr).2.2 q hq).1⟩⟩
 rq q hq:=⟨few_of (k.2 q hq).2,few_of (k.2 q hq).1⟩
theorem lim0_of{x:List Rl}(h:x.length≤NB∧∀r∈x,OkRl r):p8 x []:=lim_of h ⟨AA _,fun q hq=>by cases hq⟩
theorem lim43_of{x:List Rl}{ifs:List (List AV)}(h:(x.length≤NB∧∀r∈x,OkRl r)∧ifs.length≤NB∧∀c∈ifs,c.length=5):p9 x ifs:=⟨lim0_of h.1,few_of h.2.1,h.2.2⟩
end
theorem ok_agg{P:Program}{W:World}{base:Nat}{t:TypeId}{v:Value}{fs:Array Field}(hu:P.underlying t=some (.struct fs))(h:Value.okWide P W .any base t v):∃cs,v=.agg cs:=by
 unfold Value.okWide at h
 rw[hu]at h
 obtain⟨cs,e,_⟩:=h
 exact⟨cs,e⟩
theorem ok_slice{P:Program}{W:World}{base:Nat}{t e:TypeId}{v:Value}(hu:P.underlying t=some (.slice e))(h:Value.okWide P W .any base t v):v.oneCell'=true:=by
 unfold Value.okWide at h
 rw[hu]at h
 unfold Cell.okWide Cell.ok at h
 rw[hu]at h
 cases v<;>first | rfl | simp at h
theorem ok_int{P:Program}{W:World}{base:Nat}{t:TypeId}{k:IntKind}{v:Value}(hu:P.underlying t=some (.int k))(h:Value.okWide P W .any base t v):v.oneCell'=true:=by
 unfold Value.okWide at h
 rw[hu]at h
 unfold Cell.okWide Cell.ok at h
 rw[hu]at h
 cases v<;>first | rfl | simp at h
theorem int_of_shape{P:Program}{w:World}{g:Nat}{t:TypeId}{k:IntKind}{zero:Array Value}(h:w.ShapedOpen P)(hg:g<P.globals.size)
  (h0:((begin P (fun _ _=>0) default).world.heap[g]?).bind Obj.row?=some (zero,t)) (hz:zero.size=1)
  (hb:P.buildable t=true) (hc:P.cellTypes P.depth t=some [t]) (hu:P.underlying t=some (.int k)):∃p,w.cell? ⟨g,0,none⟩=some (.int k p):=by
 obtain⟨cs,hh,hs,hr⟩:=h.1 g zero t hg h0
 obtain⟨ts,hts,_,Gr⟩:=hr hb
 rw[hc]at hts
 cases hts
 have h1:0<cs.size:=by omega
 obtain⟨u,kU,Gs⟩:=Gr 0 cs[0] (by simp[h1])
 have:u=t:=by simpa using kU.symm
 subst this
 have DP:w.cell? ⟨g,0,none⟩=some cs[0]:=by simp[World.cell?,hh,h1]
 rw[DP]
 unfold Cell.ok at Gs
 rw[hu]at Gs
 cases hv:cs[0]<;>rw[hv]at Gs<;>simp at Gs
 obtain⟨rfl,_⟩:=Gs
 exact⟨_,rfl⟩
theorem maxLen_cell{W:World}(h:W.ShapedOpen Tryz.prog):∃m,W.cell? ⟨0,0,none⟩=some (.int .i64 m) :=
 int_of_shape (t:=3) (zero:=#[.int .i64 0]) h (A4 Wk) Wk rfl Wk Wk Tryz.underlying3
def Still(W W' : World):Prop:=W'.os=W.os∧W'.output=W.output∧W.heap.size≤W'.heap.size∧∀b,b<W.heap.size→W'.heap[b]?=W.heap[b]?
theorem run_true{f:Nat}{args:List AV}{vals:Array Value}{W:World}(hc:PC f args (vb true))(hM:∃m,W.cell? ⟨0,0,none⟩=some (.int .i64 m))(hs:vals.size=args.length)
  (hr:∀(i:Nat) (av:AV) (x:Value),args[i]?=some av→vals[i]?=some x→BP (ki W) W FQ av x):Calls Tryz.prog f vals W fun e W'=>e=.returned (.bool true)∧Still W W':=by
 refine(hc.2 (ki W) W vals hs (fun i av x q1 q2=>(hr i av x q1 q2).up _) (wz hM (fun _ h=>by cases h))).mono fun e W' ⟨v,r,h',g',e1,e2,e3,e4,_⟩=>?_
 subst e1
 obtain⟨rfl,rfl⟩:=e2
 obtain rfl:=e3.v_eq
 exact⟨rfl,e4.os,e4.output,e4.size,fun b hb=>e4.frame b hb (fun r h=>h.elim)⟩
theorem Still.kept{W W' : World}(h:Still W W')(may:MemPlace→Prop):W.keptBut W' may:=by
 refine⟨h.1,h.2.1,fun i hi=>?_⟩
 rw[h.2.2.2 i hi]
 cases hh:W.heap[i]? with
 |none=>rfl
 |some o=>cases o<;>simp
theorem Still.same{W W' : World}(h:Still W W'){p:MemPlace}(hp:p.block<W.heap.size):W.sameAt W' p:=by
 cases p with
 |cell b off =>
  show W'.cell? ⟨b,off,none⟩=W.cell? ⟨b,off,none⟩
  unfold World.cell?
  rw[h.2.2.2 b hp]
 |map b=>exact h.2.2.2 b hp
theorem kids:Kids Tryz.prog (· < Tryz.prog.types.size):=kids_rows Wk Wk
theorem full:∀t e,t<Tryz.prog.types.size→Tryz.prog.underlying t=some (.slice e)→0<Tryz.prog.cellsOf e:=slices_full_of Tryz.prog Wk
theorem carry{H:Type}{enc:TypeId×Value→H}{W W' : World}(h:Still W W'):∀{ts:List TypeId} {vs:List Value} {ds:List (DataW H)} {ps:List MemPlace},DataW.TrodAll enc Tryz.prog W 0 (fun _=>true) true ts vs ds ps→DataW.TrodAll enc Tryz.prog W' 0 (fun _=>true) true ts vs ds ps
 | [],[],[],_,e=>e
 |t::ts,v::vs,d::ds,ps,k=>by
  have DJ:=k.lt
  obtain⟨p,q,⟨n,h1⟩,h2,rfl⟩:=k
  exact⟨p,q,⟨n,DataW.trod_carry n _ _ _ h1 (fun x hx=>h.same (DJ x (Bp _ hx)))⟩,carry h h2,rfl⟩
 | [],[],_::_,_,k=>k.elim
 | [],_::_,_,_,k=>k.elim
 |_::_,[],_,_,k=>k.elim
 |_::_,_::_,[],_,k=>k.elim
theorem post_true{H:Type}{enc:TypeId×Value→H}{W W' : World}{f:Func}{s:ChangeSpec}{args:Array Value}{ds:List (DataW H)}{before:List MemPlace}(JU:Still W W')(hv:s.vars=[])
  (hW:DataW.Whole enc Tryz.prog f.params.toList s.vars false W args.toList ds [] before) (hr:f.resultTypes=#[4]) (hT:∀t∈f.params.toList,t<Tryz.prog.types.size) (hs:s.fn H ds={ results:=[.lit (.bool true)],args:=ds }) :
  s.post enc Tryz.prog f false true false false W args (.bool true) W':=by
 have hW0:=hW
 obtain⟨p,q,hA,hV,rfl,hz,_⟩:=hW
 rw[hv]at hV
 have hq:q=[]:=hV
 subst hq
 have DJ:=hW0.lt
 have oF:s.fn H (ds++[])={ results:=[.lit (.bool true)],args:=ds }:=by rw[BL];exact hs
 refine⟨ds,[],p++[],[],p,[],hW0,?_,?_,?_,JU.kept _,fun h=>by cases h⟩
 ·rw[oF,hr]
  exact⟨[],[],⟨1,by rw[show(Value.bool true).cells.toList=[.bool true]from rfl,DataW.trod_step];unfold DataW.trodStep;rw[Tryz.underlying4]⟩,rfl,rfl⟩
 ·rw[oF]
  exact(carry JU hA).respare kids full hT (fun x hx=>by simpa using DJ x (Bp _ hx))
 ·rw[oF,hv];rfl
end Go.Proofs.YtddfphmpfnmknaaGreatDoor.joins
namespace Go.Proofs.YtddfphmpfnmknaaGreatDoor.joins
open Go Go.Eng Go.Proofs Go.ChangeShapes Go.WideShapes Go.ChangeAt Go.RowKit
theorem own:ownKnob Tryz.prog.godebug=none:=by kernel_rfl
def flatD:Nat→DataW Unit→List Value
 |0,_=>[]
 |n+1,.agg l=>l.flatMap (flatD n)
 |_+1,.lit (.int k i)=>[.int k i]
 |_+1,_=>[]
def layIn(d:DataW Unit):Obj→Obj
 |.cells _ t frozen=>.cells (flatD 4 d).toArray t frozen
 |o=>o
noncomputable def laidWorld(os:Os):World :=
 { World.holding Tryz.prog os ⟨#[],#[],[]⟩with heap:=((World.holding Tryz.prog os ⟨#[],#[],[]⟩).heap.modify 1 (layIn Rows.laid_unicode_utf8_first)).modify 2 (layIn Rows.laid_unicode_utf8_acceptRanges) }
abbrev nilV:Value:=.slice none 0 0
theorem arr1{args:Array Value}{a:Value}(h:args.toList=[a]):args=#[a]:=by
 cases args;simp_all
theorem arr2{args:Array Value}{a b:Value}(h:args.toList=[a,b]):args=#[a,b]:=by
 cases args;simp_all
theorem arr3{args:Array Value}{a b c:Value}(h:args.toList=[a,b,c]):args=#[a,b,c]:=by
 cases args;simp_all
theorem arr4{args:Array Value}{a b c d:Value}(h:args.toList=[a,b,c,d]):args=#[a,b,c,d]:=by
 cases args;simp_all
theorem arr5{args:Array Value}{a b c d e:Value}(h:args.toList=[a,b,c,d,e]):args=#[a,b,c,d,e]:=by
 cases args;simp_all
theorem looksOff:false=Tryz.pinned.checked.prog.looks []:=by kernel_rfl
theorem noStand:∀t∈([25,29,39,45,62]:List Nat),Tryz.pinned.checked.prog.wantsStandIn t=false:=by
 intro t ht
 simp only[AF,MD,or_false]at ht
 rcases ht with rfl | rfl | rfl | rfl | rfl<;>exact(show Tryz.prog.wantsStandIn _=false by kernel_rfl)
end Go.Proofs.YtddfphmpfnmknaaGreatDoor.joins
