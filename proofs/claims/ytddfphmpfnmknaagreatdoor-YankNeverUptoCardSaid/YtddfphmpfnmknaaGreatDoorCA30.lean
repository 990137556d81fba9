/- Lemmas for the claims of this seat, without a condition: part 30 (V4, V12, V3, V13). -/
import Derived.Test.YtddfphmpfnmknaaGreatDoorCA29
set_option maxHeartbeats 4000000
namespace Go.Eng
theorem aq:∀{x y:List UInt8},H2 x y=true→x<y
 |x,[],h=>by cases x<;>cases h
 | [],b::y,_=>by simp
 |a::x,b::y,h=>by
  unfold H2 at h;rw[List.cons_lt_cons_iff];rcases Cj _ _▸h with h | h
  ·exact .inl (Bv h)
  ·obtain⟨h1,h2⟩:=Bool.and_eq_true_iff.1 h;exact .inr ⟨Bv h1,aq h2⟩
section
variable {α:Type}[Inhabited α][DecidableEq α]
theorem Oh{R:α→α→Prop}(hR:∀a b c,R a b→R b c→R a c)(xs:List α)(hs:∀i j,(hi:i<xs.length)→(hj:j<xs.length)→i<j→xs[i]=xs[j]∨R xs[i] xs[j]):∀m,m≤xs.length →
  (Lib.compactUpTo xs.toArray m).Pairwise R∧(∀a,a∈Lib.compactUpTo xs.toArray m↔a∈xs.take m)
 |0,_=>by simp[Lib.compactUpTo]
 |m+1,h=>by
  obtain⟨h1,h2⟩:=Oh hR xs hs m (by omega);have hg:xs.toArray[m]! = xs[m]'(by omega):=by simp[show m<xs.length by omega]
  rw[Lib.compactUpTo_succ,hg,Bq,Ge (by omega)]
  by_cases hk:Lib.keeps xs.toArray m=true
  ·rw[Ao hk];refine⟨?_,fun a=>by rw[AU,AU,h2];simp⟩;rw[List.pairwise_append];refine⟨h1,List.pairwise_singleton _ _,fun a ha b hb=>?_⟩;rw[Am.1 hb];have ha:=(h2 a).1 ha;obtain⟨j,hj,rfl⟩:=CW.1 ha;rw[AD]at hj;rw[HS];unfold Lib.keeps at hk;have hk:=Bv hk;rcases hk with hk | hk
   ·omega
   ·have jR : xs.toArray[m-1]! = xs[m-1]'(by omega):=by simp[show m-1<xs.length by omega]
    rw[hg,jR]at hk;have s1:R (xs[m-1]'(by omega)) (xs[m]'(by omega)):=(hs (m-1) m (by omega) (by omega) (by omega)).elim (fun e=>absurd e.symm hk) id
    by_cases e:j=m-1
    ·subst e;exact s1
    ·rcases hs j (m-1) (by omega) (by omega) (by omega)with q | q
     ·rw[q];exact s1
     ·exact hR _ _ _ q s1
  ·rw[Ah hk,BV];refine⟨h1,fun a=>?_⟩;rw[h2,AU];refine⟨.inl,fun q=>q.elim id fun q=>?_⟩;have q:a=xs[m]:=by simpa using q
   subst q;have hk:¬(m=0∨xs.toArray[m]!≠xs.toArray[m-1]!):=fun q=>hk (AA q);have m0:0<m:=Nat.pos_of_ne_zero fun e=>hk (.inl e);have e:xs.toArray[m]! = xs.toArray[m-1]!:=AW fun e=>hk (.inr e);have jR : xs.toArray[m-1]! = xs[m-1]'(by omega):=by simp[show m-1<xs.length by omega]
   rw[hg,jR]at e;rw[e];exact CW.2 ⟨m-1,by rw[AD];omega,by rw[HS]⟩
end
theorem eG{t:List ByteArray}(ht:(t.map Qt).Pairwise fun a b=>a≤b):(BU t).Pairwise (fun a b=>Ew a b=true)∧∀p,p∈BU t↔p∈t:=by
 have hc:=Oh (R:=fun a b=>H2 a b=true) (fun a b c=>NL) (t.map Qt) (fun i j hi hj Pk=>by
  have h:=(AY.1 ht) i j hi hj Pk;cases e:H2 (t.map Qt)[i] (t.map Qt)[j]with
  |true=>exact .inr rfl
  |false =>
   cases e2:H2 (t.map Qt)[j] (t.map Qt)[i]with
   |true=>exact absurd (aq e2) (by simpa using h)
   |false=>exact .inl (Ta e e2)) (t.map Qt).length (Al _)
 rw[DZ]at hc;have e:BU t=(Lib.compactUpTo (t.map Qt).toArray (t.map Qt).length).map ZQ:=rfl;rw[e];refine⟨?_,fun p=>?_⟩
 ·rw[Qo];exact hc.1.imp fun {a b} h=>by show H2 (ZQ a).data.toList (ZQ b).data.toList=true;exact h
 ·rw[Aj];constructor
  ·rintro⟨a,ha,rfl⟩
   obtain⟨q,hq,rfl⟩:=Aj.1 ((hc.2 a).1 ha)
   have:ZQ (Qt q)=q:=by cases q;simp
   rw[this];exact hq
  ·intro hp;exact⟨Qt p,(hc.2 _).2 (List.mem_map_of_mem hp),by cases p;simp⟩
abbrev nX(p:ByteArray)(f t:Int):List Mv:=if f≠t then [⟨p,f,t⟩]else []
def rm:List Sl→List Sl→List Mv
 | [],[]=>[]
 |a::l,[]=>nX a.path (place a.ver) (-1)++rm l []
 | [],b::m=>nX b.path (-1) (place b.ver)++rm [] m
 |a::l,b::m=>if a.path=b.path then nX a.path (place a.ver) (place b.ver)++rm l m else if Ew a.path b.path=true then nX a.path (place a.ver) (-1)++rm l (b::m)else nX b.path (-1) (place b.ver)++rm (a::l) m
termination_by l m=>l.length+m.length
def mp:List Sl→List Sl→List ByteArray
 | [],[]=>[]
 |a::l,[]=>a.path::mp l []
 | [],b::m=>b.path::mp [] m
 |a::l,b::m=>if a.path=b.path then a.path::mp l m else if Ew a.path b.path=true then a.path::mp l (b::m)else b.path::mp (a::l) m
termination_by l m=>l.length+m.length
theorem FY(a:Sl)(l:List Sl)(p:ByteArray):KI (a::l) p=if a.path=p then place a.ver else KI l p:=by
 unfold KI B2;rw[EK]
 by_cases h:a.path=p
 ·simp[h]
 ·simp[h]
theorem HB{l l' m m' : List Sl}{ps:List ByteArray}(h1:∀p∈ps,KI l p=KI l' p)(h2:∀p∈ps,KI m p=KI m' p):HA l m ps=HA l' m' ps :=
 (by
  induction ps with
  |nil=>rfl
  |cons p ps ih =>
   show(p::ps).filterMap _=(p::ps).filterMap _;rw[List.filterMap_cons,List.filterMap_cons,show J9 l m p=J9 l' m' p from by unfold J9;rw[h1 p (Ab ..),h2 p (Ab ..)],show ps.filterMap (J9 l m)=ps.filterMap (J9 l' m')from ih (fun q hq=>h1 q (Ag _ hq)) (fun q hq=>h2 q (Ag _ hq))])
theorem Is(l m:List Sl)(p:ByteArray)(ps:List ByteArray):HA l m (p::ps)=nX p (KI l p) (KI m p)++HA l m ps:=by
 unfold HA nX;rw[List.filterMap_cons];unfold J9
 by_cases h:KI l p=KI m p
 ·simp[h]
 ·simp[h]
theorem aK{l:List Sl}{p:ByteArray}(h:∀s∈l,s.path≠p):KI l p=-1:=by
 unfold KI B2;rw[DQ.2 fun s hs=>by simpa using h s hs]
theorem U5(l m:List Sl)(hl:l.Pairwise nW)(hm:m.Pairwise nW):(mp l m).Pairwise (fun a b=>Ew a b=true)∧(∀p,p∈mp l m↔p∈l.map (·.path)∨p∈m.map (·.path))∧rm l m=HA l m (mp l m):=by
 match l,m with
 | [],[]=>unfold mp rm;simp
 |a::l,[] =>
  obtain⟨a1,a2⟩:=BF.1 hl;obtain⟨h1,h2,h3⟩:=U5 l [] a2 hm;have lt:∀p∈mp l [],Ew a.path p=true:=fun p hp=>by
   have:=(h2 p).1 hp
   rcases this with q | q
   ·obtain⟨s,hs,rfl⟩:=Aj.1 q;exact a1 s hs
   ·cases q
  unfold mp rm;refine⟨BF.2 ⟨lt,h1⟩,fun p=>by simp[h2],?_⟩;rw[Is,h3,FY,Ao rfl]
  congr 1
  exact HB (fun p hp=>by rw[FY,Ah (HX (lt p hp))]) fun _ _=>rfl
 | [],b::m =>
  obtain⟨a1,a2⟩:=BF.1 hm;obtain⟨h1,h2,h3⟩:=U5 [] m hl a2;have lt:∀p∈mp [] m,Ew b.path p=true:=fun p hp=>by
   have:=(h2 p).1 hp
   rcases this with q | q
   ·cases q
   ·obtain⟨s,hs,rfl⟩:=Aj.1 q;exact a1 s hs
  unfold mp rm;refine⟨BF.2 ⟨lt,h1⟩,fun p=>by simp[h2],?_⟩;rw[Is,h3,FY,Ao rfl]
  congr 1
  exact HB (fun _ _=>rfl) fun p hp=>by rw[FY,Ah (HX (lt p hp))]
 |a::l,b::m =>
  obtain⟨a1,a2⟩:=BF.1 hl;obtain⟨b1,b2⟩:=BF.1 hm;unfold mp rm
  by_cases e:a.path=b.path
  ·rw[Ao e,Ao e];obtain⟨h1,h2,h3⟩:=U5 l m a2 b2;have lt:∀p∈mp l m,Ew a.path p=true:=fun p hp=>by
    rcases(h2 p).1 hp with q | q
    ·obtain⟨s,hs,rfl⟩:=Aj.1 q;exact a1 s hs
    ·obtain⟨s,hs,rfl⟩:=Aj.1 q;rw[e];exact b1 s hs
   refine⟨BF.2 ⟨lt,h1⟩,fun p=>?_,?_⟩
   ·simp only[Av,h2,AH,e];constructor
    ·rintro(q | q | q)
     ·exact .inl (.inl q)
     ·exact .inl (.inr q)
     ·exact .inr (.inr q)
    ·rintro((q | q) | (q | q))
     ·exact .inl q
     ·exact .inr (.inl q)
     ·exact .inl q
     ·exact .inr (.inr q)
   ·rw[Is,h3,FY,Ao rfl,FY,Ao e.symm]
    congr 1
    exact HB (fun p hp=>by rw[FY,Ah (HX (lt p hp))]) fun p hp=>by rw[FY,Ah (by rw[←e];exact HX (lt p hp))]
  ·rw[Ah e,Ah e]
   by_cases c:Ew a.path b.path=true
   ·rw[Ao c,Ao c];obtain⟨h1,h2,h3⟩:=U5 l (b::m) a2 hm;have la:∀s∈b::m,Ew a.path s.path=true:=fun s hs=>by
     rcases Av.1 hs with rfl | hs
     ·exact c
     ·exact DR c (b1 s hs)
    have lt:∀p∈mp l (b::m),Ew a.path p=true:=fun p hp=>by
     rcases(h2 p).1 hp with q | q
     ·obtain⟨s,hs,rfl⟩:=Aj.1 q;exact a1 s hs
     ·obtain⟨s,hs,rfl⟩:=Aj.1 q;exact la s hs
    refine⟨BF.2 ⟨lt,h1⟩,fun p=>by rw[Av,h2,AH,Av,AH (l:=l),Av (l:=l.map _),or_assoc],?_⟩;rw[Is,h3,FY,Ao rfl,aK (l:=b::m) fun s hs=>(HX (la s hs)).symm]
    congr 1
    exact HB (fun p hp=>by rw[FY,Ah (HX (lt p hp))]) fun _ _=>rfl
   ·rw[Ah c,Ah c];have c' : Ew b.path a.path=true:=by
     cases q:Ew b.path a.path with
     |true=>rfl
     |false=>exact absurd (Ho (by simpa using c) q) e
    obtain⟨h1,h2,h3⟩:=U5 (a::l) m hl b2;have la:∀s∈a::l,Ew b.path s.path=true:=fun s hs=>by
     rcases Av.1 hs with rfl | hs
     ·exact c'
     ·exact DR c' (a1 s hs)
    have lt:∀p∈mp (a::l) m,Ew b.path p=true:=fun p hp=>by
     rcases(h2 p).1 hp with q | q
     ·obtain⟨s,hs,rfl⟩:=Aj.1 q;exact la s hs
     ·obtain⟨s,hs,rfl⟩:=Aj.1 q;exact b1 s hs
    refine⟨BF.2 ⟨lt,h1⟩,fun p=>?_,?_⟩
    ·rw[Av,h2,AH,AH,Av,Av];constructor
     ·rintro(q | q | q)
      ·exact .inr (.inl q)
      ·exact .inl q
      ·exact .inr (.inr q)
     ·rintro(q | q | q)
      ·exact .inr (.inl q)
      ·exact .inl q
      ·exact .inr (.inr q)
    ·rw[Is,h3,aK (l:=a::l) fun s hs=>(HX (la s hs)).symm,FY b m,Ao rfl]
     congr 1
     exact HB (fun _ _=>rfl) fun p hp=>by rw[FY b m,Ah (HX (lt p hp))]
termination_by l.length+m.length
theorem gv{l m:List Sl}{t:List ByteArray}(hl:LL l)(hm:LL m)(hp:t.Perm ((l++m).map (·.path)))(ht:(t.map Qt).Pairwise fun a b=>a≤b):HA l m (BU t)=rm l m:=by
 obtain⟨h1,h2,h3⟩:=U5 l m hl.inc hm.inc;obtain⟨c1,c2⟩:=eG ht;rw[h3]
 congr 1
 refine List.Perm.eq_of_pairwise (le:=fun a b=>Ew a b=true) (fun a b _ _ x y=>?_) c1 h1 ?_
 ·rw[Mt x]at y;cases y
 ·refine(N5 (c1.imp fun h=>HX h) (h1.imp fun h=>HX h)).2 fun p=>?_;rw[c2,h2,hp.mem_iff,Ax,AU]
end Go.Eng
namespace Go.Eng
open Go.Proofs
def MS(x:List Rl)(roots:List Rq)(s:Sl):Int:=if FV x s true≠0 then FV x s true else if Dx x roots≠0 then Dx x roots else if Dx (En x s true) roots≠0 then Dx (En x s true) roots else 0
def Nu(x:List Rl)(roots:List Rq)(s:Sl):List Mv:=if MS x roots s=0 then rm (DS x roots) (DS (En x s true) roots)else []
theorem xb(x:List Rl)(ifs:List (List AV))(roots:List Rq)(s:Sl)(J4:PC 11 [Hi x ifs,.agg (Ae s)] (KJ x ifs s true))(uh:PC 17 [Hi x ifs,sl AK roots] (.tup [sl Ae (DS x roots),vi (Dx x roots)]))(m6:PC 17 [Hi (En x s true) (if FV x s true=0 then ifs else []),sl AK roots] (.tup [sl Ae (DS (En x s true) roots),vi (Dx (En x s true) roots)]))(sr:FV x s true=0→Dx x roots=0→Dx (En x s true) roots=0→PC 54 [sl Ae (DS x roots),sl Ae (DS (En x s true) roots)] (.tup [sl DW (rm (DS x roots) (DS (En x s true) roots)),vi 0])):PC 28 [.agg (Ic x ifs),sl AK roots,.agg (Ae s)] (.tup [sl DW (Nu x roots s),vi (MS x roots s)]):=by
 refine Ps ⟨[3,5,8],[],[],[],[],[],[],[],[],[],[2,5,8]⟩ Tryz.func28 rfl (Nz rfl) ?_;refine Yi (Nz rfl) ?_;refine Yi (Nz rfl) ?_;refine Xi .pure (Xi _ (Yi J4 ?_));refine Yi (Nz rfl) ?_;refine Xi ⟨[(1,sl AK roots),(3,.ref 3 0),(8,.ref 8 0),(9,vi (FV x s true))],[(3,.ro (Ic x ifs)),(8,.ro [sl Ak (En x s true),.slice .none (if FV x s true=0 then ifs else [])])],Aa⟩ (Yi ⟨Z4,Z2,Fh,Tv⟩ ?_)
 refine Yi (fun h1=>?_) (fun h1=>?_)
 ·have h1:((FV x s true):Int)≠(0:Int):=h1;have eE:MS x roots s=FV x s true:=by unfold MS;rw[Ao h1]
  have eA:Nu x roots s=[]:=by unfold Nu;rw[eE,Ah h1]
  exact(show Hl (.tup [.v (.slice none 0 0),vi (FV x s true)]) (.tup [.slice .none [],vi (FV x s true)])from .tup ⟨.nil,.refl _,trivial⟩).trans (.of_eq (show AV.tup [sl DW ([]:List Mv),vi (FV x s true)]=.tup [sl DW (Nu x roots s),vi (MS x roots s)] by rw[eA,eE]))
 have h1:((FV x s true):Int)=(0:Int):=AW h1;refine Yi (Nz rfl) ?_;refine Xi .pure (Xi _ (Yi uh ?_));refine Xi ⟨[(1,sl AK roots),(8,.ref 8 0),(9,vi (Dx x roots)),(10,sl Ae (DS x roots))],[(8,.ro [sl Ak (En x s true),.slice .none (if FV x s true=0 then ifs else [])])],Aa⟩ (Yi ⟨Z4,Z1,Fh,Tv⟩ ?_)
 refine Yi (fun h3=>?_) (fun h3=>?_)
 ·have h3:((Dx x roots):Int)≠(0:Int):=h3;have eE:MS x roots s=Dx x roots:=by unfold MS;rw[Ah (fun q=>q h1),Ao h3]
  have eA:Nu x roots s=[]:=by unfold Nu;rw[eE,Ah h3]
  exact(show Hl (.tup [.v (.slice none 0 0),vi (Dx x roots)]) (.tup [.slice .none [],vi (Dx x roots)])from .tup ⟨.nil,.refl _,trivial⟩).trans (.of_eq (show AV.tup [sl DW ([]:List Mv),vi (Dx x roots)]=.tup [sl DW (Nu x roots s),vi (MS x roots s)] by rw[eA,eE]))
 have h3:((Dx x roots):Int)=(0:Int):=AW h3;refine Yi (Nz rfl) ?_;refine Xi .pure (Xi _ (Yi m6 ?_));refine Xi ⟨[(9,vi (Dx (En x s true) roots)),(10,sl Ae (DS x roots)),(11,sl Ae (DS (En x s true) roots))],[],Aa⟩ (Yi ⟨Z3,Tv,Fh,Tv⟩ ?_)
 refine Yi (fun h5=>?_) (fun h5=>?_)
 ·have h5:((Dx (En x s true) roots):Int)≠(0:Int):=h5;have eE:MS x roots s=Dx (En x s true) roots:=by unfold MS;rw[Ah (fun q=>q h1),Ah (fun q=>q h3),Ao h5]
  have eA:Nu x roots s=[]:=by unfold Nu;rw[eE,Ah h5]
  exact(show Hl (.tup [.v (.slice none 0 0),vi (Dx (En x s true) roots)]) (.tup [.slice .none [],vi (Dx (En x s true) roots)])from .tup ⟨.nil,.refl _,trivial⟩).trans (.of_eq (show AV.tup [sl DW ([]:List Mv),vi (Dx (En x s true) roots)]=.tup [sl DW (Nu x roots s),vi (MS x roots s)] by rw[eA,eE]))
 have h5:((Dx (En x s true) roots):Int)=(0:Int):=AW h5;refine Xi .pure (Xi _ (Yi (sr h1 h3 h5) ?_));have eE:MS x roots s=0:=by unfold MS;rw[Ah (fun q=>q h1),Ah (fun q=>q h3),Ah (fun q=>q h5)]
 have eA:Nu x roots s=rm (DS x roots) (DS (En x s true) roots):=by unfold Nu;rw[eE,Ao rfl]
 exact .of_eq (show AV.tup [sl DW (rm (DS x roots) (DS (En x s true) roots)),vi 0]=.tup [sl DW (Nu x roots s),vi (MS x roots s)] by rw[eA,eE])
end Go.Eng
namespace Go.Eng
def Ds(here:Int)(s:Sl)(r:Rl):Int:=if here<plc r.ver then(if r.ver.b=s.ver.b then 3 else 2)else if plc r.ver<here then 1 else 0
def DN(here:Int)(s:Sl)(a:Sl×Int)(r:Rl):Sl×Int:=if r.path≠s.path∨r.yanked=true then a else
 if a.2<Ds here s r∨Ds here s r=1∧a.2=1 then(Dm r,Ds here s r)else a
def Bs(here:Int)(s:Sl)(l:List Rl):Sl×Int:=l.foldl (DN here s) (sd,0)
def Mj(x:List Rl)(s:Sl):Int:=if AT x≠0∨Cr s.ver=false then 1 else if(Bs (plc s.ver) s x).2=0 then 6 else 0
def OZ(x:List Rl)(s:Sl):Sl:=if Mj x s=0 then(Bs (plc s.ver) s x).1 else sd
theorem DI{here:Int}{s:Sl}{x:List Rl}{i:Nat}(h:i<x.length):Bs here s (x.take (i+1))=DN here s (Bs here s (x.take i)) x[i]:=by
 unfold Bs;rw[Bq,Ge h,Fp]
 rfl
theorem gI(here:Int)(s:Sl)(r:Rl):0≤Ds here s r∧Ds here s r≤3:=by
 unfold Ds;split
 ·split<;>omega
 ·split<;>omega
end Go.Eng
namespace Go.Eng
open Go.Proofs
theorem Yk(here:Int)(s:Sl)(a:Sl×Int)(r:Rl)(h:0≤a.2∧a.2≤3):0≤(DN here s a r).2∧(DN here s a r).2≤3:=by
 unfold DN;split
 ·exact h
 ·split
  ·exact gI here s r
  ·exact h
theorem ib(here:Int)(s:Sl)(l:List Rl):0≤(Bs here s l).2∧(Bs here s l).2≤3:=by
 have key:∀(l:List Rl) (a:Sl×Int),(0≤a.2∧a.2≤3)→0≤(l.foldl (DN here s) a).2∧(l.foldl (DN here s) a).2≤3:=fun l=>by
  induction l with
  |nil=>intro a h;exact h
  |cons r l ih=>intro a h;exact ih _ (Yk here s a r h)
 exact key l _ ⟨by decide,by decide⟩
theorem sb(v:Ver):PC 39 [.agg (GC v)] (.tup [vi (plc v),vi (if Cr v then 0 else 2)]):=pL v
theorem r5(x:List Rl)(ifs:List (List AV))(s:Sl)(hl:CO x)(k:Int)(PB:k=0)(hv:¬(AT x≠0∨Cr s.ver=false))(hk:PC 37 [Hi x ifs] (vi k))(hV:PC 38 [.agg (GC s.ver)] (vb true))(jH:PC 39 [.agg (GC s.ver)] (.tup [vi (plc s.ver),vi (if Cr s.ver then 0 else 2)])):PC 14 [.agg (Ic x ifs),.agg (Ae s)] (.tup [.agg (Ae (OZ x s)),vi (Mj x s)]):=by
 have hl:x.length≤1073741824:=hl;refine Ps ⟨[2,3,11],[],[],[],[],[],[],[],[],[],[2,3,5,9,12,13,17,18,19]⟩ Tryz.func14 rfl (Nz rfl) ?_;refine Yi (Nz rfl) ?_;refine Xi .pure (Xi _ (Yi hk ?_));refine Yi (fun h1=>?_) (fun h1=>?_)
 ·have h1:(k:Int)≠(0:Int):=h1;exact absurd PB h1
 have h1:(k:Int)=(0:Int):=AW h1;refine Yi (Nz rfl) ?_;refine Xi .pure (Xi _ (Yi hV ?_));refine Xi ⟨[(2,.ref 2 0),(3,.ref 3 0),(4,.ref 4 0)],[(2,.ro (Ic x ifs)),(3,.ro (Ae s)),(4,.cells [vs ⟨#[]⟩,vi 0,vi 0,vi 0])],Aa⟩ (Yi ⟨Z3,Z3,Fh,Tv⟩ ?_)
 refine Yi (Nz rfl) ?_;refine Xi .pure (Xi _ (Yi jH ?_));refine Yi (Nz rfl) ?_;refine Xi ⟨[(2,.ref 2 0),(3,.ref 3 0),(4,.ref 4 0),(6,vi (plc s.ver)),(8,.ref 8 0),(9,vi 0)],[(2,.ro (Ic x ifs)),(3,.ro (Ae s)),(4,.cells [vs ⟨#[]⟩,vi 0,vi 0,vi 0]),(8,.cells [vs ⟨#[]⟩,vi 0,vi 0,vi 0])],Aa⟩ (Yi ⟨Z6,Z4,Fh,Tv⟩ ?_)
 refine Xi {q:Nat // q≤x.length} (Xi (fun q=>⟨[(3,.ref 3 0),(4,.ref 4 0),(6,vi (plc s.ver)),(8,.ref 8 0),(9,vi (Bs (plc s.ver) s (x.take q.1)).2),(33,sl Ak x),(34,vi (x.map Ak).length),(35,vi q.1)],[(3,.ro (Ae s)),(4,.cells [vs ⟨#[]⟩,vi 0,vi 0,vi 0]),(8,.cells (Ae (Bs (plc s.ver) s (x.take q.1)).1))],Aa⟩) (Xi (fun q=>x.length-q.1) (Yi (Xi ⟨0,AL _⟩ ?_) ?_)))
 ·exact⟨Z8,Z3,Fh,Tv⟩
 intro⟨i,i1⟩;have i1:i≤x.length:=i1;have i3:0≤(Bs (plc s.ver) s (x.take i)).2∧(Bs (plc s.ver) s (x.take i)).2≤3:=ib _ _ _;refine Yi (fun h2=>?_) (fun h2=>?_)
 ·have h2:(i:Int)<((x.map Ak).length:Int):=h2;have n2:=Ma h2;refine Xi (Ak x[i]) (Yi (UW n2) (Yi rfl ?_));refine Yi (Nz rfl) ?_;refine Yi (Nz rfl) ?_;refine Yi (fun h4=>?_) (fun h4=>?_)
  ·have h4:(x[i].path:ByteArray)≠s.path:=h4;refine Xi ⟨[(3,.ref 3 0),(4,.ref 4 0),(6,vi (plc s.ver)),(8,.ref 8 0),(9,vi (Bs (plc s.ver) s (x.take i)).2),(33,sl Ak x),(34,vi (x.map Ak).length),(35,vi i)],[(3,.ro (Ae s)),(4,.cells [vs ⟨#[]⟩,vi 0,vi 0,vi 0]),(8,.cells (Ae (Bs (plc s.ver) s (x.take i)).1))],Aa⟩ (Yi ⟨Z8,Z3,Fh,Tv⟩ ?_)
   refine Yi (Ii i (by omega)) ?_;have eN:=DI (here:=(plc s.ver)) (s:=s) n2;have eS:DN (plc s.ver) s (Bs (plc s.ver) s (x.take i)) x[i]=(Bs (plc s.ver) s (x.take i)):=Ao (.inl h4);rw[eS]at eN;refine Xi ⟨i+1,n2⟩ ?_;exact⟨Dl x.length i (by omega),⟨Zr,Zr,Zr,Zr,⟨(show vi (Bs (plc s.ver) s (x.take i)).2=vi (Bs (plc s.ver) s (x.take (i+1))).2 by rw[eN]),rfl⟩,Zr,Zr,Zr,Tv⟩,⟨Zr,Zr,⟨(show HO.cells (Ae (Bs (plc s.ver) s (x.take i)).1)=.cells (Ae (Bs (plc s.ver) s (x.take (i+1))).1) by rw[eN]),rfl⟩,Tv⟩,Fh,Tv⟩
  have h4:(x[i].path:ByteArray)=s.path:=AW h4;refine Yi (fun h6=>?_) (fun h6=>?_)
  ·have h6:x[i].yanked=true:=h6;refine Xi ⟨[(3,.ref 3 0),(4,.ref 4 0),(6,vi (plc s.ver)),(8,.ref 8 0),(9,vi (Bs (plc s.ver) s (x.take i)).2),(33,sl Ak x),(34,vi (x.map Ak).length),(35,vi i)],[(3,.ro (Ae s)),(4,.cells [vs ⟨#[]⟩,vi 0,vi 0,vi 0]),(8,.cells (Ae (Bs (plc s.ver) s (x.take i)).1))],Aa⟩ (Yi ⟨Z8,Z3,Fh,Tv⟩ ?_)
   refine Yi (Ii i (by omega)) ?_;have eN:=DI (here:=(plc s.ver)) (s:=s) n2;have eS:DN (plc s.ver) s (Bs (plc s.ver) s (x.take i)) x[i]=(Bs (plc s.ver) s (x.take i)):=Ao (.inr h6);rw[eS]at eN;refine Xi ⟨i+1,n2⟩ ?_;exact⟨Dl x.length i (by omega),⟨Zr,Zr,Zr,Zr,⟨(show vi (Bs (plc s.ver) s (x.take i)).2=vi (Bs (plc s.ver) s (x.take (i+1))).2 by rw[eN]),rfl⟩,Zr,Zr,Zr,Tv⟩,⟨Zr,Zr,⟨(show HO.cells (Ae (Bs (plc s.ver) s (x.take i)).1)=.cells (Ae (Bs (plc s.ver) s (x.take (i+1))).1) by rw[eN]),rfl⟩,Tv⟩,Fh,Tv⟩
  have h6:x[i].yanked=false:=h6;refine Xi ⟨[(3,.ref 3 0),(4,.ref 4 0),(6,vi (plc s.ver)),(8,.ref 8 0),(9,vi (Bs (plc s.ver) s (x.take i)).2),(11,.ref 11 0),(33,sl Ak x),(34,vi (x.map Ak).length),(35,vi i)],[(3,.ro (Ae s)),(4,.cells [vs ⟨#[]⟩,vi 0,vi 0,vi 0]),(8,.cells (Ae (Bs (plc s.ver) s (x.take i)).1)),(11,.ro (Ak x[i]))],Aa⟩ (Yi ⟨Z9,Z4,Fh,Tv⟩ ?_)
  refine Yi (Nz rfl) ?_;refine Xi .pure (Xi _ (Yi (sb x[i].ver) ?_));refine Yi (fun h8=>?_) (fun h8=>?_)
  ·have h8:((plc s.ver):Int)<((plc x[i].ver):Int):=h8;refine Yi (fun h9=>?_) (fun h9=>?_)
   ·have h9:(x[i].ver.b:Int)=(s.ver.b:Int):=h9;refine Xi ⟨[(3,.ref 3 0),(4,.ref 4 0),(6,vi (plc s.ver)),(8,.ref 8 0),(9,vi (Bs (plc s.ver) s (x.take i)).2),(11,.ref 11 0),(33,sl Ak x),(34,vi (x.map Ak).length),(35,vi i)],[(3,.ro (Ae s)),(4,.cells [vs ⟨#[]⟩,vi 0,vi 0,vi 0]),(8,.cells (Ae (Bs (plc s.ver) s (x.take i)).1)),(11,.ro (Ak x[i]))],Aa⟩ (Yi ⟨Z9,Z4,Fh,Tv⟩ ?_)
    have eW:Ds (plc s.ver) s x[i]=3:=by unfold Ds;rw[Ao (by omega),Ao (by omega)]
    refine Xi ⟨[(3,.ref 3 0),(4,.ref 4 0),(6,vi (plc s.ver)),(8,.ref 8 0),(9,vi (Bs (plc s.ver) s (x.take i)).2),(11,.ref 11 0),(14,vi (Ds (plc s.ver) s x[i])),(33,sl Ak x),(34,vi (x.map Ak).length),(35,vi i)],[(3,.ro (Ae s)),(4,.cells [vs ⟨#[]⟩,vi 0,vi 0,vi 0]),(8,.cells (Ae (Bs (plc s.ver) s (x.take i)).1)),(11,.ro (Ak x[i]))],Aa⟩ (Yi ⟨⟨Zr,Zr,Zr,Zr,Zr,Zr,⟨(show vi 3=vi (Ds (plc s.ver) s x[i]) by rw[eW]),rfl⟩,Zr,Zr,Zr,Tv⟩,Z4,Fh,Tv⟩ ?_)
    refine Yi (fun Sy=>?_) (fun Sy=>?_)
    ·have Sy:((Bs (plc s.ver) s (x.take i)).2:Int)<((Ds (plc s.ver) s x[i]):Int):=Sy;refine Xi ⟨[(3,.ref 3 0),(4,.ref 4 0),(6,vi (plc s.ver)),(8,.ref 8 0),(11,.ref 11 0),(14,vi (Ds (plc s.ver) s x[i])),(33,sl Ak x),(34,vi (x.map Ak).length),(35,vi i)],[(3,.ro (Ae s)),(4,.cells [vs ⟨#[]⟩,vi 0,vi 0,vi 0]),(8,.cells (Ae (Bs (plc s.ver) s (x.take i)).1)),(11,.ro (Ak x[i]))],Aa⟩ (Yi ⟨Z9,Z4,Fh,Tv⟩ ?_)
     refine Yi (Nz rfl) ?_;refine Xi .pure (Xi _ (Yi (Rj x[i]) ?_));refine Yi (Nz rfl) ?_;refine Xi ⟨[(3,.ref 3 0),(4,.ref 4 0),(6,vi (plc s.ver)),(8,.ref 8 0),(9,vi (Ds (plc s.ver) s x[i])),(33,sl Ak x),(34,vi (x.map Ak).length),(35,vi i)],[(3,.ro (Ae s)),(4,.cells [vs ⟨#[]⟩,vi 0,vi 0,vi 0]),(8,.cells (Ae (Dm x[i])))],Aa⟩ (Yi ⟨Z8,Z3,Fh,Tv⟩ ?_)
     refine Yi (Ii i (by omega)) ?_;have eN:=DI (here:=(plc s.ver)) (s:=s) n2;have e0:¬(x[i].path≠s.path∨x[i].yanked=true):=fun q=>q.elim (fun q=>q h4) (fun q=>by rw[h6]at q;cases q);have eS:DN (plc s.ver) s (Bs (plc s.ver) s (x.take i)) x[i]=(Dm x[i],Ds (plc s.ver) s x[i]):=(Ah e0).trans (Ao (by omega));rw[eS]at eN;refine Xi ⟨i+1,n2⟩ ?_;exact⟨Dl x.length i (by omega),⟨Zr,Zr,Zr,Zr,⟨(show vi (Ds (plc s.ver) s x[i])=vi (Bs (plc s.ver) s (x.take (i+1))).2 by rw[eN]),rfl⟩,Zr,Zr,Zr,Tv⟩,⟨Zr,Zr,⟨(show HO.cells (Ae (Dm x[i]))=.cells (Ae (Bs (plc s.ver) s (x.take (i+1))).1) by rw[eN]),rfl⟩,Tv⟩,Fh,Tv⟩
    have Sy:¬(((Bs (plc s.ver) s (x.take i)).2:Int)<((Ds (plc s.ver) s x[i]):Int)):=Sy;refine Yi (fun lx=>?_) (fun lx=>?_)
    ·have lx:((Ds (plc s.ver) s x[i]):Int)=(1:Int):=lx;refine Yi (fun WH=>?_) (fun WH=>?_)
     ·have WH:((Bs (plc s.ver) s (x.take i)).2:Int)=(1:Int):=WH;refine Xi ⟨[(3,.ref 3 0),(4,.ref 4 0),(6,vi (plc s.ver)),(8,.ref 8 0),(11,.ref 11 0),(14,vi (Ds (plc s.ver) s x[i])),(33,sl Ak x),(34,vi (x.map Ak).length),(35,vi i)],[(3,.ro (Ae s)),(4,.cells [vs ⟨#[]⟩,vi 0,vi 0,vi 0]),(8,.cells (Ae (Bs (plc s.ver) s (x.take i)).1)),(11,.ro (Ak x[i]))],Aa⟩ (Yi ⟨Z9,Z4,Fh,Tv⟩ ?_)
      refine Yi (Nz rfl) ?_;refine Xi .pure (Xi _ (Yi (Rj x[i]) ?_));refine Yi (Nz rfl) ?_;refine Xi ⟨[(3,.ref 3 0),(4,.ref 4 0),(6,vi (plc s.ver)),(8,.ref 8 0),(9,vi (Ds (plc s.ver) s x[i])),(33,sl Ak x),(34,vi (x.map Ak).length),(35,vi i)],[(3,.ro (Ae s)),(4,.cells [vs ⟨#[]⟩,vi 0,vi 0,vi 0]),(8,.cells (Ae (Dm x[i])))],Aa⟩ (Yi ⟨Z8,Z3,Fh,Tv⟩ ?_)
      refine Yi (Ii i (by omega)) ?_;have eN:=DI (here:=(plc s.ver)) (s:=s) n2;have e0:¬(x[i].path≠s.path∨x[i].yanked=true):=fun q=>q.elim (fun q=>q h4) (fun q=>by rw[h6]at q;cases q);have eS:DN (plc s.ver) s (Bs (plc s.ver) s (x.take i)) x[i]=(Dm x[i],Ds (plc s.ver) s x[i]):=(Ah e0).trans (Ao (by omega));rw[eS]at eN;refine Xi ⟨i+1,n2⟩ ?_;exact⟨Dl x.length i (by omega),⟨Zr,Zr,Zr,Zr,⟨(show vi (Ds (plc s.ver) s x[i])=vi (Bs (plc s.ver) s (x.take (i+1))).2 by rw[eN]),rfl⟩,Zr,Zr,Zr,Tv⟩,⟨Zr,Zr,⟨(show HO.cells (Ae (Dm x[i]))=.cells (Ae (Bs (plc s.ver) s (x.take (i+1))).1) by rw[eN]),rfl⟩,Tv⟩,Fh,Tv⟩
     have WH:¬(((Bs (plc s.ver) s (x.take i)).2:Int)=(1:Int)):=WH;refine Xi ⟨[(3,.ref 3 0),(4,.ref 4 0),(6,vi (plc s.ver)),(8,.ref 8 0),(9,vi (Bs (plc s.ver) s (x.take i)).2),(33,sl Ak x),(34,vi (x.map Ak).length),(35,vi i)],[(3,.ro (Ae s)),(4,.cells [vs ⟨#[]⟩,vi 0,vi 0,vi 0]),(8,.cells (Ae (Bs (plc s.ver) s (x.take i)).1))],Aa⟩ (Yi ⟨Z8,Z3,Fh,Tv⟩ ?_)
     refine Yi (Ii i (by omega)) ?_;have eN:=DI (here:=(plc s.ver)) (s:=s) n2;have e0:¬(x[i].path≠s.path∨x[i].yanked=true):=fun q=>q.elim (fun q=>q h4) (fun q=>by rw[h6]at q;cases q);have eS:DN (plc s.ver) s (Bs (plc s.ver) s (x.take i)) x[i]=(Bs (plc s.ver) s (x.take i)):=(Ah e0).trans (Ah (by omega));rw[eS]at eN;refine Xi ⟨i+1,n2⟩ ?_;exact⟨Dl x.length i (by omega),⟨Zr,Zr,Zr,Zr,⟨(show vi (Bs (plc s.ver) s (x.take i)).2=vi (Bs (plc s.ver) s (x.take (i+1))).2 by rw[eN]),rfl⟩,Zr,Zr,Zr,Tv⟩,⟨Zr,Zr,⟨(show HO.cells (Ae (Bs (plc s.ver) s (x.take i)).1)=.cells (Ae (Bs (plc s.ver) s (x.take (i+1))).1) by rw[eN]),rfl⟩,Tv⟩,Fh,Tv⟩
    have lx:¬(((Ds (plc s.ver) s x[i]):Int)=(1:Int)):=lx;refine Xi ⟨[(3,.ref 3 0),(4,.ref 4 0),(6,vi (plc s.ver)),(8,.ref 8 0),(9,vi (Bs (plc s.ver) s (x.take i)).2),(33,sl Ak x),(34,vi (x.map Ak).length),(35,vi i)],[(3,.ro (Ae s)),(4,.cells [vs ⟨#[]⟩,vi 0,vi 0,vi 0]),(8,.cells (Ae (Bs (plc s.ver) s (x.take i)).1))],Aa⟩ (Yi ⟨Z8,Z3,Fh,Tv⟩ ?_)
    refine Yi (Ii i (by omega)) ?_;have eN:=DI (here:=(plc s.ver)) (s:=s) n2;have e0:¬(x[i].path≠s.path∨x[i].yanked=true):=fun q=>q.elim (fun q=>q h4) (fun q=>by rw[h6]at q;cases q);have eS:DN (plc s.ver) s (Bs (plc s.ver) s (x.take i)) x[i]=(Bs (plc s.ver) s (x.take i)):=(Ah e0).trans (Ah (by omega));rw[eS]at eN;refine Xi ⟨i+1,n2⟩ ?_;exact⟨Dl x.length i (by omega),⟨Zr,Zr,Zr,Zr,⟨(show vi (Bs (plc s.ver) s (x.take i)).2=vi (Bs (plc s.ver) s (x.take (i+1))).2 by rw[eN]),rfl⟩,Zr,Zr,Zr,Tv⟩,⟨Zr,Zr,⟨(show HO.cells (Ae (Bs (plc s.ver) s (x.take i)).1)=.cells (Ae (Bs (plc s.ver) s (x.take (i+1))).1) by rw[eN]),rfl⟩,Tv⟩,Fh,Tv⟩
   have h9:¬((x[i].ver.b:Int)=(s.ver.b:Int)):=h9;refine Xi ⟨[(3,.ref 3 0),(4,.ref 4 0),(6,vi (plc s.ver)),(8,.ref 8 0),(9,vi (Bs (plc s.ver) s (x.take i)).2),(11,.ref 11 0),(12,vi (plc x[i].ver)),(14,vi 0),(33,sl Ak x),(34,vi (x.map Ak).length),(35,vi i)],[(3,.ro (Ae s)),(4,.cells [vs ⟨#[]⟩,vi 0,vi 0,vi 0]),(8,.cells (Ae (Bs (plc s.ver) s (x.take i)).1)),(11,.ro (Ak x[i]))],Aa⟩ (Yi ⟨Z11,Z4,Fh,Tv⟩ ?_)
   refine Yi (fun _=>?_) (fun hf=>absurd h8 hf);have eW:Ds (plc s.ver) s x[i]=2:=by unfold Ds;rw[Ao (by omega),Ah (by omega)]
   refine Xi ⟨[(3,.ref 3 0),(4,.ref 4 0),(6,vi (plc s.ver)),(8,.ref 8 0),(9,vi (Bs (plc s.ver) s (x.take i)).2),(11,.ref 11 0),(14,vi (Ds (plc s.ver) s x[i])),(33,sl Ak x),(34,vi (x.map Ak).length),(35,vi i)],[(3,.ro (Ae s)),(4,.cells [vs ⟨#[]⟩,vi 0,vi 0,vi 0]),(8,.cells (Ae (Bs (plc s.ver) s (x.take i)).1)),(11,.ro (Ak x[i]))],Aa⟩ (Yi ⟨⟨Zr,Zr,Zr,Zr,Zr,Zr,⟨(show vi 2=vi (Ds (plc s.ver) s x[i]) by rw[eW]),rfl⟩,Zr,Zr,Zr,Tv⟩,Z4,Fh,Tv⟩ ?_)
   refine Yi (fun m5=>?_) (fun m5=>?_)
   ·have m5:((Bs (plc s.ver) s (x.take i)).2:Int)<((Ds (plc s.ver) s x[i]):Int):=m5;refine Xi ⟨[(3,.ref 3 0),(4,.ref 4 0),(6,vi (plc s.ver)),(8,.ref 8 0),(11,.ref 11 0),(14,vi (Ds (plc s.ver) s x[i])),(33,sl Ak x),(34,vi (x.map Ak).length),(35,vi i)],[(3,.ro (Ae s)),(4,.cells [vs ⟨#[]⟩,vi 0,vi 0,vi 0]),(8,.cells (Ae (Bs (plc s.ver) s (x.take i)).1)),(11,.ro (Ak x[i]))],Aa⟩ (Yi ⟨Z9,Z4,Fh,Tv⟩ ?_)
    refine Yi (Nz rfl) ?_;refine Xi .pure (Xi _ (Yi (Rj x[i]) ?_));refine Yi (Nz rfl) ?_;refine Xi ⟨[(3,.ref 3 0),(4,.ref 4 0),(6,vi (plc s.ver)),(8,.ref 8 0),(9,vi (Ds (plc s.ver) s x[i])),(33,sl Ak x),(34,vi (x.map Ak).length),(35,vi i)],[(3,.ro (Ae s)),(4,.cells [vs ⟨#[]⟩,vi 0,vi 0,vi 0]),(8,.cells (Ae (Dm x[i])))],Aa⟩ (Yi ⟨Z8,Z3,Fh,Tv⟩ ?_)
    refine Yi (Ii i (by omega)) ?_;have eN:=DI (here:=(plc s.ver)) (s:=s) n2;have e0:¬(x[i].path≠s.path∨x[i].yanked=true):=fun q=>q.elim (fun q=>q h4) (fun q=>by rw[h6]at q;cases q);have eS:DN (plc s.ver) s (Bs (plc s.ver) s (x.take i)) x[i]=(Dm x[i],Ds (plc s.ver) s x[i]):=(Ah e0).trans (Ao (by omega));rw[eS]at eN;refine Xi ⟨i+1,n2⟩ ?_;exact⟨Dl x.length i (by omega),⟨Zr,Zr,Zr,Zr,⟨(show vi (Ds (plc s.ver) s x[i])=vi (Bs (plc s.ver) s (x.take (i+1))).2 by rw[eN]),rfl⟩,Zr,Zr,Zr,Tv⟩,⟨Zr,Zr,⟨(show HO.cells (Ae (Dm x[i]))=.cells (Ae (Bs (plc s.ver) s (x.take (i+1))).1) by rw[eN]),rfl⟩,Tv⟩,Fh,Tv⟩
   have m5:¬(((Bs (plc s.ver) s (x.take i)).2:Int)<((Ds (plc s.ver) s x[i]):Int)):=m5;refine Yi (fun p5=>?_) (fun p5=>?_)
   ·have p5:((Ds (plc s.ver) s x[i]):Int)=(1:Int):=p5;refine Yi (fun dE=>?_) (fun dE=>?_)
    ·have dE:((Bs (plc s.ver) s (x.take i)).2:Int)=(1:Int):=dE;refine Xi ⟨[(3,.ref 3 0),(4,.ref 4 0),(6,vi (plc s.ver)),(8,.ref 8 0),(11,.ref 11 0),(14,vi (Ds (plc s.ver) s x[i])),(33,sl Ak x),(34,vi (x.map Ak).length),(35,vi i)],[(3,.ro (Ae s)),(4,.cells [vs ⟨#[]⟩,vi 0,vi 0,vi 0]),(8,.cells (Ae (Bs (plc s.ver) s (x.take i)).1)),(11,.ro (Ak x[i]))],Aa⟩ (Yi ⟨Z9,Z4,Fh,Tv⟩ ?_)
     refine Yi (Nz rfl) ?_;refine Xi .pure (Xi _ (Yi (Rj x[i]) ?_));refine Yi (Nz rfl) ?_;refine Xi ⟨[(3,.ref 3 0),(4,.ref 4 0),(6,vi (plc s.ver)),(8,.ref 8 0),(9,vi (Ds (plc s.ver) s x[i])),(33,sl Ak x),(34,vi (x.map Ak).length),(35,vi i)],[(3,.ro (Ae s)),(4,.cells [vs ⟨#[]⟩,vi 0,vi 0,vi 0]),(8,.cells (Ae (Dm x[i])))],Aa⟩ (Yi ⟨Z8,Z3,Fh,Tv⟩ ?_)
     refine Yi (Ii i (by omega)) ?_;have eN:=DI (here:=(plc s.ver)) (s:=s) n2;have e0:¬(x[i].path≠s.path∨x[i].yanked=true):=fun q=>q.elim (fun q=>q h4) (fun q=>by rw[h6]at q;cases q);have eS:DN (plc s.ver) s (Bs (plc s.ver) s (x.take i)) x[i]=(Dm x[i],Ds (plc s.ver) s x[i]):=(Ah e0).trans (Ao (by omega));rw[eS]at eN;refine Xi ⟨i+1,n2⟩ ?_;exact⟨Dl x.length i (by omega),⟨Zr,Zr,Zr,Zr,⟨(show vi (Ds (plc s.ver) s x[i])=vi (Bs (plc s.ver) s (x.take (i+1))).2 by rw[eN]),rfl⟩,Zr,Zr,Zr,Tv⟩,⟨Zr,Zr,⟨(show HO.cells (Ae (Dm x[i]))=.cells (Ae (Bs (plc s.ver) s (x.take (i+1))).1) by rw[eN]),rfl⟩,Tv⟩,Fh,Tv⟩
    have dE:¬(((Bs (plc s.ver) s (x.take i)).2:Int)=(1:Int)):=dE;refine Xi ⟨[(3,.ref 3 0),(4,.ref 4 0),(6,vi (plc s.ver)),(8,.ref 8 0),(9,vi (Bs (plc s.ver) s (x.take i)).2),(33,sl Ak x),(34,vi (x.map Ak).length),(35,vi i)],[(3,.ro (Ae s)),(4,.cells [vs ⟨#[]⟩,vi 0,vi 0,vi 0]),(8,.cells (Ae (Bs (plc s.ver) s (x.take i)).1))],Aa⟩ (Yi ⟨Z8,Z3,Fh,Tv⟩ ?_)
    refine Yi (Ii i (by omega)) ?_;have eN:=DI (here:=(plc s.ver)) (s:=s) n2;have e0:¬(x[i].path≠s.path∨x[i].yanked=true):=fun q=>q.elim (fun q=>q h4) (fun q=>by rw[h6]at q;cases q);have eS:DN (plc s.ver) s (Bs (plc s.ver) s (x.take i)) x[i]=(Bs (plc s.ver) s (x.take i)):=(Ah e0).trans (Ah (by omega));rw[eS]at eN;refine Xi ⟨i+1,n2⟩ ?_;exact⟨Dl x.length i (by omega),⟨Zr,Zr,Zr,Zr,⟨(show vi (Bs (plc s.ver) s (x.take i)).2=vi (Bs (plc s.ver) s (x.take (i+1))).2 by rw[eN]),rfl⟩,Zr,Zr,Zr,Tv⟩,⟨Zr,Zr,⟨(show HO.cells (Ae (Bs (plc s.ver) s (x.take i)).1)=.cells (Ae (Bs (plc s.ver) s (x.take (i+1))).1) by rw[eN]),rfl⟩,Tv⟩,Fh,Tv⟩
   have p5:¬(((Ds (plc s.ver) s x[i]):Int)=(1:Int)):=p5;refine Xi ⟨[(3,.ref 3 0),(4,.ref 4 0),(6,vi (plc s.ver)),(8,.ref 8 0),(9,vi (Bs (plc s.ver) s (x.take i)).2),(33,sl Ak x),(34,vi (x.map Ak).length),(35,vi i)],[(3,.ro (Ae s)),(4,.cells [vs ⟨#[]⟩,vi 0,vi 0,vi 0]),(8,.cells (Ae (Bs (plc s.ver) s (x.take i)).1))],Aa⟩ (Yi ⟨Z8,Z3,Fh,Tv⟩ ?_)
   refine Yi (Ii i (by omega)) ?_;have eN:=DI (here:=(plc s.ver)) (s:=s) n2;have e0:¬(x[i].path≠s.path∨x[i].yanked=true):=fun q=>q.elim (fun q=>q h4) (fun q=>by rw[h6]at q;cases q);have eS:DN (plc s.ver) s (Bs (plc s.ver) s (x.take i)) x[i]=(Bs (plc s.ver) s (x.take i)):=(Ah e0).trans (Ah (by omega));rw[eS]at eN;refine Xi ⟨i+1,n2⟩ ?_;exact⟨Dl x.length i (by omega),⟨Zr,Zr,Zr,Zr,⟨(show vi (Bs (plc s.ver) s (x.take i)).2=vi (Bs (plc s.ver) s (x.take (i+1))).2 by rw[eN]),rfl⟩,Zr,Zr,Zr,Tv⟩,⟨Zr,Zr,⟨(show HO.cells (Ae (Bs (plc s.ver) s (x.take i)).1)=.cells (Ae (Bs (plc s.ver) s (x.take (i+1))).1) by rw[eN]),rfl⟩,Tv⟩,Fh,Tv⟩
  have h8:¬(((plc s.ver):Int)<((plc x[i].ver):Int)):=h8;refine Xi ⟨[(3,.ref 3 0),(4,.ref 4 0),(6,vi (plc s.ver)),(8,.ref 8 0),(9,vi (Bs (plc s.ver) s (x.take i)).2),(11,.ref 11 0),(12,vi (plc x[i].ver)),(14,vi 0),(33,sl Ak x),(34,vi (x.map Ak).length),(35,vi i)],[(3,.ro (Ae s)),(4,.cells [vs ⟨#[]⟩,vi 0,vi 0,vi 0]),(8,.cells (Ae (Bs (plc s.ver) s (x.take i)).1)),(11,.ro (Ak x[i]))],Aa⟩ (Yi ⟨Z11,Z4,Fh,Tv⟩ ?_)
  refine Yi (fun hf=>absurd hf h8) (fun _=>?_);refine Yi (fun p6=>?_) (fun p6=>?_)
  ·have p6:((plc x[i].ver):Int)<((plc s.ver):Int):=p6;have eW:Ds (plc s.ver) s x[i]=1:=by unfold Ds;rw[Ah (by omega),Ao (by omega)]
   refine Xi ⟨[(3,.ref 3 0),(4,.ref 4 0),(6,vi (plc s.ver)),(8,.ref 8 0),(9,vi (Bs (plc s.ver) s (x.take i)).2),(11,.ref 11 0),(14,vi (Ds (plc s.ver) s x[i])),(33,sl Ak x),(34,vi (x.map Ak).length),(35,vi i)],[(3,.ro (Ae s)),(4,.cells [vs ⟨#[]⟩,vi 0,vi 0,vi 0]),(8,.cells (Ae (Bs (plc s.ver) s (x.take i)).1)),(11,.ro (Ak x[i]))],Aa⟩ (Yi ⟨⟨Zr,Zr,Zr,Zr,Zr,Zr,⟨(show vi 1=vi (Ds (plc s.ver) s x[i]) by rw[eW]),rfl⟩,Zr,Zr,Zr,Tv⟩,Z4,Fh,Tv⟩ ?_)
   refine Yi (fun p7=>?_) (fun p7=>?_)
   ·have p7:((Bs (plc s.ver) s (x.take i)).2:Int)<((Ds (plc s.ver) s x[i]):Int):=p7;refine Xi ⟨[(3,.ref 3 0),(4,.ref 4 0),(6,vi (plc s.ver)),(8,.ref 8 0),(11,.ref 11 0),(14,vi (Ds (plc s.ver) s x[i])),(33,sl Ak x),(34,vi (x.map Ak).length),(35,vi i)],[(3,.ro (Ae s)),(4,.cells [vs ⟨#[]⟩,vi 0,vi 0,vi 0]),(8,.cells (Ae (Bs (plc s.ver) s (x.take i)).1)),(11,.ro (Ak x[i]))],Aa⟩ (Yi ⟨Z9,Z4,Fh,Tv⟩ ?_)
    refine Yi (Nz rfl) ?_;refine Xi .pure (Xi _ (Yi (Rj x[i]) ?_));refine Yi (Nz rfl) ?_;refine Xi ⟨[(3,.ref 3 0),(4,.ref 4 0),(6,vi (plc s.ver)),(8,.ref 8 0),(9,vi (Ds (plc s.ver) s x[i])),(33,sl Ak x),(34,vi (x.map Ak).length),(35,vi i)],[(3,.ro (Ae s)),(4,.cells [vs ⟨#[]⟩,vi 0,vi 0,vi 0]),(8,.cells (Ae (Dm x[i])))],Aa⟩ (Yi ⟨Z8,Z3,Fh,Tv⟩ ?_)
    refine Yi (Ii i (by omega)) ?_;have eN:=DI (here:=(plc s.ver)) (s:=s) n2;have e0:¬(x[i].path≠s.path∨x[i].yanked=true):=fun q=>q.elim (fun q=>q h4) (fun q=>by rw[h6]at q;cases q);have eS:DN (plc s.ver) s (Bs (plc s.ver) s (x.take i)) x[i]=(Dm x[i],Ds (plc s.ver) s x[i]):=(Ah e0).trans (Ao (by omega));rw[eS]at eN;refine Xi ⟨i+1,n2⟩ ?_;exact⟨Dl x.length i (by omega),⟨Zr,Zr,Zr,Zr,⟨(show vi (Ds (plc s.ver) s x[i])=vi (Bs (plc s.ver) s (x.take (i+1))).2 by rw[eN]),rfl⟩,Zr,Zr,Zr,Tv⟩,⟨Zr,Zr,⟨(show HO.cells (Ae (Dm x[i]))=.cells (Ae (Bs (plc s.ver) s (x.take (i+1))).1) by rw[eN]),rfl⟩,Tv⟩,Fh,Tv⟩
   have p7:¬(((Bs (plc s.ver) s (x.take i)).2:Int)<((Ds (plc s.ver) s x[i]):Int)):=p7;refine Yi (fun T7=>?_) (fun T7=>?_)
   ·have T7:((Ds (plc s.ver) s x[i]):Int)=(1:Int):=T7;refine Yi (fun ly=>?_) (fun ly=>?_)
    ·have ly:((Bs (plc s.ver) s (x.take i)).2:Int)=(1:Int):=ly;refine Xi ⟨[(3,.ref 3 0),(4,.ref 4 0),(6,vi (plc s.ver)),(8,.ref 8 0),(11,.ref 11 0),(14,vi (Ds (plc s.ver) s x[i])),(33,sl Ak x),(34,vi (x.map Ak).length),(35,vi i)],[(3,.ro (Ae s)),(4,.cells [vs ⟨#[]⟩,vi 0,vi 0,vi 0]),(8,.cells (Ae (Bs (plc s.ver) s (x.take i)).1)),(11,.ro (Ak x[i]))],Aa⟩ (Yi ⟨Z9,Z4,Fh,Tv⟩ ?_)
     refine Yi (Nz rfl) ?_;refine Xi .pure (Xi _ (Yi (Rj x[i]) ?_));refine Yi (Nz rfl) ?_;refine Xi ⟨[(3,.ref 3 0),(4,.ref 4 0),(6,vi (plc s.ver)),(8,.ref 8 0),(9,vi (Ds (plc s.ver) s x[i])),(33,sl Ak x),(34,vi (x.map Ak).length),(35,vi i)],[(3,.ro (Ae s)),(4,.cells [vs ⟨#[]⟩,vi 0,vi 0,vi 0]),(8,.cells (Ae (Dm x[i])))],Aa⟩ (Yi ⟨Z8,Z3,Fh,Tv⟩ ?_)
     refine Yi (Ii i (by omega)) ?_;have eN:=DI (here:=(plc s.ver)) (s:=s) n2;have e0:¬(x[i].path≠s.path∨x[i].yanked=true):=fun q=>q.elim (fun q=>q h4) (fun q=>by rw[h6]at q;cases q);have eS:DN (plc s.ver) s (Bs (plc s.ver) s (x.take i)) x[i]=(Dm x[i],Ds (plc s.ver) s x[i]):=(Ah e0).trans (Ao (by omega));rw[eS]at eN;refine Xi ⟨i+1,n2⟩ ?_;exact⟨Dl x.length i (by omega),⟨Zr,Zr,Zr,Zr,⟨(show vi (Ds (plc s.ver) s x[i])=vi (Bs (plc s.ver) s (x.take (i+1))).2 by rw[eN]),rfl⟩,Zr,Zr,Zr,Tv⟩,⟨Zr,Zr,⟨(show HO.cells (Ae (Dm x[i]))=.cells (Ae (Bs (plc s.ver) s (x.take (i+1))).1) by rw[eN]),rfl⟩,Tv⟩,Fh,Tv⟩
    have ly:¬(((Bs (plc s.ver) s (x.take i)).2:Int)=(1:Int)):=ly;refine Xi ⟨[(3,.ref 3 0),(4,.ref 4 0),(6,vi (plc s.ver)),(8,.ref 8 0),(9,vi (Bs (plc s.ver) s (x.take i)).2),(33,sl Ak x),(34,vi (x.map Ak).length),(35,vi i)],[(3,.ro (Ae s)),(4,.cells [vs ⟨#[]⟩,vi 0,vi 0,vi 0]),(8,.cells (Ae (Bs (plc s.ver) s (x.take i)).1))],Aa⟩ (Yi ⟨Z8,Z3,Fh,Tv⟩ ?_)
    refine Yi (Ii i (by omega)) ?_;have eN:=DI (here:=(plc s.ver)) (s:=s) n2;have e0:¬(x[i].path≠s.path∨x[i].yanked=true):=fun q=>q.elim (fun q=>q h4) (fun q=>by rw[h6]at q;cases q);have eS:DN (plc s.ver) s (Bs (plc s.ver) s (x.take i)) x[i]=(Bs (plc s.ver) s (x.take i)):=(Ah e0).trans (Ah (by omega));rw[eS]at eN;refine Xi ⟨i+1,n2⟩ ?_;exact⟨Dl x.length i (by omega),⟨Zr,Zr,Zr,Zr,⟨(show vi (Bs (plc s.ver) s (x.take i)).2=vi (Bs (plc s.ver) s (x.take (i+1))).2 by rw[eN]),rfl⟩,Zr,Zr,Zr,Tv⟩,⟨Zr,Zr,⟨(show HO.cells (Ae (Bs (plc s.ver) s (x.take i)).1)=.cells (Ae (Bs (plc s.ver) s (x.take (i+1))).1) by rw[eN]),rfl⟩,Tv⟩,Fh,Tv⟩
   have T7:¬(((Ds (plc s.ver) s x[i]):Int)=(1:Int)):=T7;refine Xi ⟨[(3,.ref 3 0),(4,.ref 4 0),(6,vi (plc s.ver)),(8,.ref 8 0),(9,vi (Bs (plc s.ver) s (x.take i)).2),(33,sl Ak x),(34,vi (x.map Ak).length),(35,vi i)],[(3,.ro (Ae s)),(4,.cells [vs ⟨#[]⟩,vi 0,vi 0,vi 0]),(8,.cells (Ae (Bs (plc s.ver) s (x.take i)).1))],Aa⟩ (Yi ⟨Z8,Z3,Fh,Tv⟩ ?_)
   refine Yi (Ii i (by omega)) ?_;have eN:=DI (here:=(plc s.ver)) (s:=s) n2;have e0:¬(x[i].path≠s.path∨x[i].yanked=true):=fun q=>q.elim (fun q=>q h4) (fun q=>by rw[h6]at q;cases q);have eS:DN (plc s.ver) s (Bs (plc s.ver) s (x.take i)) x[i]=(Bs (plc s.ver) s (x.take i)):=(Ah e0).trans (Ah (by omega));rw[eS]at eN;refine Xi ⟨i+1,n2⟩ ?_;exact⟨Dl x.length i (by omega),⟨Zr,Zr,Zr,Zr,⟨(show vi (Bs (plc s.ver) s (x.take i)).2=vi (Bs (plc s.ver) s (x.take (i+1))).2 by rw[eN]),rfl⟩,Zr,Zr,Zr,Tv⟩,⟨Zr,Zr,⟨(show HO.cells (Ae (Bs (plc s.ver) s (x.take i)).1)=.cells (Ae (Bs (plc s.ver) s (x.take (i+1))).1) by rw[eN]),rfl⟩,Tv⟩,Fh,Tv⟩
  have p6:¬(((plc x[i].ver):Int)<((plc s.ver):Int)):=p6;have eW:Ds (plc s.ver) s x[i]=0:=by unfold Ds;rw[Ah (by omega),Ah (by omega)]
  refine Xi ⟨[(3,.ref 3 0),(4,.ref 4 0),(6,vi (plc s.ver)),(8,.ref 8 0),(9,vi (Bs (plc s.ver) s (x.take i)).2),(11,.ref 11 0),(14,vi (Ds (plc s.ver) s x[i])),(33,sl Ak x),(34,vi (x.map Ak).length),(35,vi i)],[(3,.ro (Ae s)),(4,.cells [vs ⟨#[]⟩,vi 0,vi 0,vi 0]),(8,.cells (Ae (Bs (plc s.ver) s (x.take i)).1)),(11,.ro (Ak x[i]))],Aa⟩ (Yi ⟨⟨Zr,Zr,Zr,Zr,Zr,Zr,⟨(show vi 0=vi (Ds (plc s.ver) s x[i]) by rw[eW]),rfl⟩,Zr,Zr,Zr,Tv⟩,Z4,Fh,Tv⟩ ?_)
  refine Yi (fun p8=>?_) (fun p8=>?_)
  ·have p8:((Bs (plc s.ver) s (x.take i)).2:Int)<((Ds (plc s.ver) s x[i]):Int):=p8;refine Xi ⟨[(3,.ref 3 0),(4,.ref 4 0),(6,vi (plc s.ver)),(8,.ref 8 0),(11,.ref 11 0),(14,vi (Ds (plc s.ver) s x[i])),(33,sl Ak x),(34,vi (x.map Ak).length),(35,vi i)],[(3,.ro (Ae s)),(4,.cells [vs ⟨#[]⟩,vi 0,vi 0,vi 0]),(8,.cells (Ae (Bs (plc s.ver) s (x.take i)).1)),(11,.ro (Ak x[i]))],Aa⟩ (Yi ⟨Z9,Z4,Fh,Tv⟩ ?_)
   refine Yi (Nz rfl) ?_;refine Xi .pure (Xi _ (Yi (Rj x[i]) ?_));refine Yi (Nz rfl) ?_;refine Xi ⟨[(3,.ref 3 0),(4,.ref 4 0),(6,vi (plc s.ver)),(8,.ref 8 0),(9,vi (Ds (plc s.ver) s x[i])),(33,sl Ak x),(34,vi (x.map Ak).length),(35,vi i)],[(3,.ro (Ae s)),(4,.cells [vs ⟨#[]⟩,vi 0,vi 0,vi 0]),(8,.cells (Ae (Dm x[i])))],Aa⟩ (Yi ⟨Z8,Z3,Fh,Tv⟩ ?_)
   refine Yi (Ii i (by omega)) ?_;have eN:=DI (here:=(plc s.ver)) (s:=s) n2;have e0:¬(x[i].path≠s.path∨x[i].yanked=true):=fun q=>q.elim (fun q=>q h4) (fun q=>by rw[h6]at q;cases q);have eS:DN (plc s.ver) s (Bs (plc s.ver) s (x.take i)) x[i]=(Dm x[i],Ds (plc s.ver) s x[i]):=(Ah e0).trans (Ao (by omega));rw[eS]at eN;refine Xi ⟨i+1,n2⟩ ?_;exact⟨Dl x.length i (by omega),⟨Zr,Zr,Zr,Zr,⟨(show vi (Ds (plc s.ver) s x[i])=vi (Bs (plc s.ver) s (x.take (i+1))).2 by rw[eN]),rfl⟩,Zr,Zr,Zr,Tv⟩,⟨Zr,Zr,⟨(show HO.cells (Ae (Dm x[i]))=.cells (Ae (Bs (plc s.ver) s (x.take (i+1))).1) by rw[eN]),rfl⟩,Tv⟩,Fh,Tv⟩
  have p8:¬(((Bs (plc s.ver) s (x.take i)).2:Int)<((Ds (plc s.ver) s x[i]):Int)):=p8;refine Yi (fun p9=>?_) (fun p9=>?_)
  ·have p9:((Ds (plc s.ver) s x[i]):Int)=(1:Int):=p9;refine Yi (fun jG=>?_) (fun jG=>?_)
   ·have jG:((Bs (plc s.ver) s (x.take i)).2:Int)=(1:Int):=jG;refine Xi ⟨[(3,.ref 3 0),(4,.ref 4 0),(6,vi (plc s.ver)),(8,.ref 8 0),(11,.ref 11 0),(14,vi (Ds (plc s.ver) s x[i])),(33,sl Ak x),(34,vi (x.map Ak).length),(35,vi i)],[(3,.ro (Ae s)),(4,.cells [vs ⟨#[]⟩,vi 0,vi 0,vi 0]),(8,.cells (Ae (Bs (plc s.ver) s (x.take i)).1)),(11,.ro (Ak x[i]))],Aa⟩ (Yi ⟨Z9,Z4,Fh,Tv⟩ ?_)
    refine Yi (Nz rfl) ?_;refine Xi .pure (Xi _ (Yi (Rj x[i]) ?_));refine Yi (Nz rfl) ?_;refine Xi ⟨[(3,.ref 3 0),(4,.ref 4 0),(6,vi (plc s.ver)),(8,.ref 8 0),(9,vi (Ds (plc s.ver) s x[i])),(33,sl Ak x),(34,vi (x.map Ak).length),(35,vi i)],[(3,.ro (Ae s)),(4,.cells [vs ⟨#[]⟩,vi 0,vi 0,vi 0]),(8,.cells (Ae (Dm x[i])))],Aa⟩ (Yi ⟨Z8,Z3,Fh,Tv⟩ ?_)
    refine Yi (Ii i (by omega)) ?_;have eN:=DI (here:=(plc s.ver)) (s:=s) n2;have e0:¬(x[i].path≠s.path∨x[i].yanked=true):=fun q=>q.elim (fun q=>q h4) (fun q=>by rw[h6]at q;cases q);have eS:DN (plc s.ver) s (Bs (plc s.ver) s (x.take i)) x[i]=(Dm x[i],Ds (plc s.ver) s x[i]):=(Ah e0).trans (Ao (by omega));rw[eS]at eN;refine Xi ⟨i+1,n2⟩ ?_;exact⟨Dl x.length i (by omega),⟨Zr,Zr,Zr,Zr,⟨(show vi (Ds (plc s.ver) s x[i])=vi (Bs (plc s.ver) s (x.take (i+1))).2 by rw[eN]),rfl⟩,Zr,Zr,Zr,Tv⟩,⟨Zr,Zr,⟨(show HO.cells (Ae (Dm x[i]))=.cells (Ae (Bs (plc s.ver) s (x.take (i+1))).1) by rw[eN]),rfl⟩,Tv⟩,Fh,Tv⟩
   have jG:¬(((Bs (plc s.ver) s (x.take i)).2:Int)=(1:Int)):=jG;refine Xi ⟨[(3,.ref 3 0),(4,.ref 4 0),(6,vi (plc s.ver)),(8,.ref 8 0),(9,vi (Bs (plc s.ver) s (x.take i)).2),(33,sl Ak x),(34,vi (x.map Ak).length),(35,vi i)],[(3,.ro (Ae s)),(4,.cells [vs ⟨#[]⟩,vi 0,vi 0,vi 0]),(8,.cells (Ae (Bs (plc s.ver) s (x.take i)).1))],Aa⟩ (Yi ⟨Z8,Z3,Fh,Tv⟩ ?_)
   refine Yi (Ii i (by omega)) ?_;have eN:=DI (here:=(plc s.ver)) (s:=s) n2;have e0:¬(x[i].path≠s.path∨x[i].yanked=true):=fun q=>q.elim (fun q=>q h4) (fun q=>by rw[h6]at q;cases q);have eS:DN (plc s.ver) s (Bs (plc s.ver) s (x.take i)) x[i]=(Bs (plc s.ver) s (x.take i)):=(Ah e0).trans (Ah (by omega));rw[eS]at eN;refine Xi ⟨i+1,n2⟩ ?_;exact⟨Dl x.length i (by omega),⟨Zr,Zr,Zr,Zr,⟨(show vi (Bs (plc s.ver) s (x.take i)).2=vi (Bs (plc s.ver) s (x.take (i+1))).2 by rw[eN]),rfl⟩,Zr,Zr,Zr,Tv⟩,⟨Zr,Zr,⟨(show HO.cells (Ae (Bs (plc s.ver) s (x.take i)).1)=.cells (Ae (Bs (plc s.ver) s (x.take (i+1))).1) by rw[eN]),rfl⟩,Tv⟩,Fh,Tv⟩
  have p9:¬(((Ds (plc s.ver) s x[i]):Int)=(1:Int)):=p9;refine Xi ⟨[(3,.ref 3 0),(4,.ref 4 0),(6,vi (plc s.ver)),(8,.ref 8 0),(9,vi (Bs (plc s.ver) s (x.take i)).2),(33,sl Ak x),(34,vi (x.map Ak).length),(35,vi i)],[(3,.ro (Ae s)),(4,.cells [vs ⟨#[]⟩,vi 0,vi 0,vi 0]),(8,.cells (Ae (Bs (plc s.ver) s (x.take i)).1))],Aa⟩ (Yi ⟨Z8,Z3,Fh,Tv⟩ ?_)
  refine Yi (Ii i (by omega)) ?_;have eN:=DI (here:=(plc s.ver)) (s:=s) n2;have e0:¬(x[i].path≠s.path∨x[i].yanked=true):=fun q=>q.elim (fun q=>q h4) (fun q=>by rw[h6]at q;cases q);have eS:DN (plc s.ver) s (Bs (plc s.ver) s (x.take i)) x[i]=(Bs (plc s.ver) s (x.take i)):=(Ah e0).trans (Ah (by omega));rw[eS]at eN;refine Xi ⟨i+1,n2⟩ ?_;exact⟨Dl x.length i (by omega),⟨Zr,Zr,Zr,Zr,⟨(show vi (Bs (plc s.ver) s (x.take i)).2=vi (Bs (plc s.ver) s (x.take (i+1))).2 by rw[eN]),rfl⟩,Zr,Zr,Zr,Tv⟩,⟨Zr,Zr,⟨(show HO.cells (Ae (Bs (plc s.ver) s (x.take i)).1)=.cells (Ae (Bs (plc s.ver) s (x.take (i+1))).1) by rw[eN]),rfl⟩,Tv⟩,Fh,Tv⟩
 have h2:¬((i:Int)<((x.map Ak).length:Int)):=h2;have n2:=L9 h2;refine Yi (fun jH=>?_) (fun jH=>?_)
 ·have jH:((Bs (plc s.ver) s (x.take i)).2:Int)=(0:Int):=jH;refine Yi (Nz rfl) ?_;refine Yi (Nz rfl) ?_;have ei:x.take i=x:=AG (by omega);have eE:Mj x s=if(Bs (plc s.ver) s x).2=0 then 6 else 0:=Ah hv
  have hz:=jH;rw[ei]at hz;exact .of_eq (show AV.tup [.agg (Ae sd),vi 6]=.tup [.agg (Ae (OZ x s)),vi (Mj x s)] by rw[OZ,eE,Ao hz];rfl)
 have jH:¬(((Bs (plc s.ver) s (x.take i)).2:Int)=(0:Int)):=jH;refine Yi (Nz rfl) ?_;refine Yi (Nz rfl) ?_;refine Yi (Nz rfl) ?_;have ei:x.take i=x:=AG (by omega);have eE:Mj x s=if(Bs (plc s.ver) s x).2=0 then 6 else 0:=Ah hv
 have hz:=jH;rw[ei]at hz;exact .of_eq (show AV.tup [.agg (Ae (Bs (plc s.ver) s (x.take i)).1),vi 0]=.tup [.agg (Ae (OZ x s)),vi (Mj x s)] by rw[ei,OZ,eE,Ah hz];rfl)
theorem rZ(x:List Rl)(ifs:List (List AV))(s:Sl)(hl:CO x)(k:Int)(PB:k≠0)(hE:Mj x s=1)(hk:PC 37 [Hi x ifs] (vi k)):PC 14 [.agg (Ic x ifs),.agg (Ae s)] (.tup [.agg (Ae (OZ x s)),vi (Mj x s)]):=by
 have hl:x.length≤1073741824:=hl;refine Ps ⟨[2,3,11],[],[],[],[],[],[],[],[],[],[2,3,5,9,12,13,17,18,19]⟩ Tryz.func14 rfl (Nz rfl) ?_;refine Yi (Nz rfl) ?_;refine Xi .pure (Xi _ (Yi hk ?_));refine Yi (fun h1=>?_) (fun h1=>?_)
 ·have h1:(k:Int)≠(0:Int):=h1;refine Xi ⟨[(4,.ref 4 0)],[(4,.cells [vs ⟨#[]⟩,vi 0,vi 0,vi 0])],Aa⟩ (Yi ⟨Z1,Z1,Fh,Tv⟩ ?_)
  refine Yi (Nz rfl) ?_;refine Yi (Nz rfl) ?_;exact .of_eq (show AV.tup [.agg (Ae sd),vi 1]=.tup [.agg (Ae (OZ x s)),vi (Mj x s)] by rw[OZ,show Mj x s=1 from hE];rfl)
 have h1:(k:Int)=(0:Int):=AW h1;exact absurd h1 PB
theorem r4(x:List Rl)(ifs:List (List AV))(s:Sl)(hl:CO x)(k:Int)(PB:k=0)(hE:Mj x s=1)(hk:PC 37 [Hi x ifs] (vi k))(hV:PC 38 [.agg (GC s.ver)] (vb false)):PC 14 [.agg (Ic x ifs),.agg (Ae s)] (.tup [.agg (Ae (OZ x s)),vi (Mj x s)]):=by
 have hl:x.length≤1073741824:=hl;refine Ps ⟨[2,3,11],[],[],[],[],[],[],[],[],[],[2,3,5,9,12,13,17,18,19]⟩ Tryz.func14 rfl (Nz rfl) ?_;refine Yi (Nz rfl) ?_;refine Xi .pure (Xi _ (Yi hk ?_));refine Yi (fun h1=>?_) (fun h1=>?_)
 ·have h1:(k:Int)≠(0:Int):=h1;exact absurd PB h1
 have h1:(k:Int)=(0:Int):=AW h1;refine Yi (Nz rfl) ?_;refine Xi .pure (Xi _ (Yi hV ?_));refine Xi ⟨[(4,.ref 4 0)],[(4,.cells [vs ⟨#[]⟩,vi 0,vi 0,vi 0])],Aa⟩ (Yi ⟨Z1,Z1,Fh,Tv⟩ ?_)
 refine Yi (Nz rfl) ?_;refine Yi (Nz rfl) ?_;exact .of_eq (show AV.tup [.agg (Ae sd),vi 1]=.tup [.agg (Ae (OZ x s)),vi (Mj x s)] by rw[OZ,show Mj x s=1 from hE];rfl)
theorem rY{x:List Rl}(ifs:List (List AV))(s:Sl)(h:Ki x):PC 14 [Hi x ifs,.agg (Ae s)] (.tup [.agg (Ae (OZ x s)),vi (Mj x s)]):=by
 have hk:=lr VK x ifs h.few;have hl:CO x:=Br h.len (by decide);have hV:=mD s.ver
 by_cases h0:AT x=0
 ·cases hv:Cr s.ver with
  |true =>
   rw[hv]at hV;exact r5 x ifs s hl _ h0 (fun q=>q.elim (fun q=>q h0) (fun q=>by rw[hv]at q;cases q)) hk hV (sb s.ver)
  |false =>
   rw[hv]at hV;exact r4 x ifs s hl _ h0 (Ao (.inr hv)) hk hV
 ·exact rZ x ifs s hl _ h0 (Ao (.inl h0)) hk
end Go.Eng
