/- Lemmas for the claims of this seat, without a condition: part 30 (V4, V12, V3, V13). -/
import Derived.Test.YtddfphmpfnmknaaGreatDoorFA29
set_option maxHeartbeats 4000000
namespace Go.Eng
theorem aB:∀{x y:List UInt8},H8 x y=true→x<y
 |x,[],h=>by cases x<;>cases h
 | [],b::y,_=>by simp
 |a::x,b::y,h=>by
  unfold H8 at h;rw[List.cons_lt_cons_iff];rcases Cm _ _▸h with h | h
  ·exact .inl (A2 h)
  ·obtain⟨h1,h2⟩:=Bool.and_eq_true_iff.1 h;exact .inr ⟨A2 h1,aB h2⟩
section
variable {α:Type}[Inhabited α][DecidableEq α]
theorem Oj{R:α→α→Prop}(hR:∀a b c,R a b→R b c→R a c)(xs:List α)(hs:∀i j,(hi:i<xs.length)→(hj:j<xs.length)→i<j→xs[i]=xs[j]∨R xs[i] xs[j]):∀m,m≤xs.length →
  (Lib.compactUpTo xs.toArray m).Pairwise R∧(∀a,a∈Lib.compactUpTo xs.toArray m↔a∈xs.take m)
 |0,_=>by simp[Lib.compactUpTo]
 |m+1,h=>by
  obtain⟨h1,h2⟩:=Oj hR xs hs m (by omega);have hg:xs.toArray[m]! = xs[m]'(by omega):=by simp[show m<xs.length by omega]
  rw[Lib.compactUpTo_succ,hg,Bq,Ge (by omega)]
  by_cases hk:Lib.keeps xs.toArray m=true
  ·rw[Ao hk];refine⟨?_,fun a=>by rw[AU,AU,h2];simp⟩;rw[List.pairwise_append];refine⟨h1,List.pairwise_singleton _ _,fun a ha b hb=>?_⟩;rw[Am.1 hb];have ha:=(h2 a).1 ha;obtain⟨j,hj,rfl⟩:=Ca.1 ha;rw[AB]at hj;rw[EC];unfold Lib.keeps at hk;have hk:=A2 hk;rcases hk with hk | hk
   ·omega
   ·have kc : xs.toArray[m-1]! = xs[m-1]'(by omega):=by simp[show m-1<xs.length by omega]
    rw[hg,kc]at hk;have s1:R (xs[m-1]'(by omega)) (xs[m]'(by omega)):=(hs (m-1) m (by omega) (by omega) (by omega)).elim (fun e=>absurd e.symm hk) id
    by_cases e:j=m-1
    ·subst e;exact s1
    ·rcases hs j (m-1) (by omega) (by omega) (by omega)with q | q
     ·rw[q];exact s1
     ·exact hR _ _ _ q s1
  ·rw[Ah hk,BP];refine⟨h1,fun a=>?_⟩;rw[h2,AU];refine⟨.inl,fun q=>q.elim id fun q=>?_⟩;have q:a=xs[m]:=by simpa using q
   subst q;have hk:¬(m=0∨xs.toArray[m]!≠xs.toArray[m-1]!):=fun q=>hk (Ax q);have m0:0<m:=Nat.pos_of_ne_zero fun e=>hk (.inl e);have e:xs.toArray[m]! = xs.toArray[m-1]!:=A4 fun e=>hk (.inr e);have kc : xs.toArray[m-1]! = xs[m-1]'(by omega):=by simp[show m-1<xs.length by omega]
   rw[hg,kc]at e;rw[e];exact Ca.2 ⟨m-1,by rw[AB];omega,by rw[EC]⟩
end
theorem eP{t:List ByteArray}(ht:(t.map QA).Pairwise fun a b=>a≤b):(BW t).Pairwise (fun a b=>Er a b=true)∧∀p,p∈BW t↔p∈t:=by
 have hc:=Oj (R:=fun a b=>H8 a b=true) (fun a b c=>NJ) (t.map QA) (fun i j hi hj Pn=>by
  have h:=(AS.1 ht) i j hi hj Pn;cases e:H8 (t.map QA)[i] (t.map QA)[j]with
  |true=>exact .inr rfl
  |false =>
   cases e2:H8 (t.map QA)[j] (t.map QA)[i]with
   |true=>exact absurd (aB e2) (by simpa using h)
   |false=>exact .inl (Te e e2)) (t.map QA).length (Al _)
 rw[DX]at hc;have e:BW t=(Lib.compactUpTo (t.map QA).toArray (t.map QA).length).map ZZ:=rfl;rw[e];refine⟨?_,fun p=>?_⟩
 ·rw[Qt];exact hc.1.imp fun {a b} h=>by show H8 (ZZ a).data.toList (ZZ b).data.toList=true;exact h
 ·rw[Ak];constructor
  ·rintro⟨a,ha,rfl⟩
   obtain⟨q,hq,rfl⟩:=Ak.1 ((hc.2 a).1 ha)
   have:ZZ (QA q)=q:=by cases q;simp
   rw[this];exact hq
  ·intro hp;exact⟨QA p,(hc.2 _).2 (List.mem_map_of_mem hp),by cases p;simp⟩
abbrev od(p:ByteArray)(f t:Int):List Mv:=if f≠t then [⟨p,f,t⟩]else []
def rm:List Sl→List Sl→List Mv
 | [],[]=>[]
 |a::l,[]=>od a.path (place a.ver) (-1)++rm l []
 | [],b::m=>od b.path (-1) (place b.ver)++rm [] m
 |a::l,b::m=>if a.path=b.path then od a.path (place a.ver) (place b.ver)++rm l m else if Er a.path b.path=true then od a.path (place a.ver) (-1)++rm l (b::m)else od b.path (-1) (place b.ver)++rm (a::l) m
termination_by l m=>l.length+m.length
def mp:List Sl→List Sl→List ByteArray
 | [],[]=>[]
 |a::l,[]=>a.path::mp l []
 | [],b::m=>b.path::mp [] m
 |a::l,b::m=>if a.path=b.path then a.path::mp l m else if Er a.path b.path=true then a.path::mp l (b::m)else b.path::mp (a::l) m
termination_by l m=>l.length+m.length
theorem FX(a:Sl)(l:List Sl)(p:ByteArray):KD (a::l) p=if a.path=p then place a.ver else KD l p:=by
 unfold KD B1;rw[EJ]
 by_cases h:a.path=p
 ·simp[h]
 ·simp[h]
theorem HG{l l' m m' : List Sl}{ps:List ByteArray}(h1:∀p∈ps,KD l p=KD l' p)(h2:∀p∈ps,KD m p=KD m' p):HF l m ps=HF l' m' ps :=
 (by
  induction ps with
  |nil=>rfl
  |cons p ps ih =>
   show(p::ps).filterMap _=(p::ps).filterMap _;rw[List.filterMap_cons,List.filterMap_cons,show J7 l m p=J7 l' m' p from by unfold J7;rw[h1 p (Aa ..),h2 p (Aa ..)],show ps.filterMap (J7 l m)=ps.filterMap (J7 l' m')from ih (fun q hq=>h1 q (Ag _ hq)) (fun q hq=>h2 q (Ag _ hq))])
theorem Iv(l m:List Sl)(p:ByteArray)(ps:List ByteArray):HF l m (p::ps)=od p (KD l p) (KD m p)++HF l m ps:=by
 unfold HF od;rw[List.filterMap_cons];unfold J7
 by_cases h:KD l p=KD m p
 ·simp[h]
 ·simp[h]
theorem aT{l:List Sl}{p:ByteArray}(h:∀s∈l,s.path≠p):KD l p=-1:=by
 unfold KD B1;rw[DP.2 fun s hs=>by simpa using h s hs]
theorem Vb(l m:List Sl)(hl:l.Pairwise mf)(hm:m.Pairwise mf):(mp l m).Pairwise (fun a b=>Er a b=true)∧(∀p,p∈mp l m↔p∈l.map (·.path)∨p∈m.map (·.path))∧rm l m=HF l m (mp l m):=by
 match l,m with
 | [],[]=>unfold mp rm;simp
 |a::l,[] =>
  obtain⟨a1,a2⟩:=BC.1 hl;obtain⟨h1,h2,h3⟩:=Vb l [] a2 hm;have lt:∀p∈mp l [],Er a.path p=true:=fun p hp=>by
   have:=(h2 p).1 hp
   rcases this with q | q
   ·obtain⟨s,hs,rfl⟩:=Ak.1 q;exact a1 s hs
   ·cases q
  unfold mp rm;refine⟨BC.2 ⟨lt,h1⟩,fun p=>by simp[h2],?_⟩;rw[Iv,h3,FX,Ao rfl]
  congr 1
  exact HG (fun p hp=>by rw[FX,Ah (H3 (lt p hp))]) fun _ _=>rfl
 | [],b::m =>
  obtain⟨a1,a2⟩:=BC.1 hm;obtain⟨h1,h2,h3⟩:=Vb [] m hl a2;have lt:∀p∈mp [] m,Er b.path p=true:=fun p hp=>by
   have:=(h2 p).1 hp
   rcases this with q | q
   ·cases q
   ·obtain⟨s,hs,rfl⟩:=Ak.1 q;exact a1 s hs
  unfold mp rm;refine⟨BC.2 ⟨lt,h1⟩,fun p=>by simp[h2],?_⟩;rw[Iv,h3,FX,Ao rfl]
  congr 1
  exact HG (fun _ _=>rfl) fun p hp=>by rw[FX,Ah (H3 (lt p hp))]
 |a::l,b::m =>
  obtain⟨a1,a2⟩:=BC.1 hl;obtain⟨b1,b2⟩:=BC.1 hm;unfold mp rm
  by_cases e:a.path=b.path
  ·rw[Ao e,Ao e];obtain⟨h1,h2,h3⟩:=Vb l m a2 b2;have lt:∀p∈mp l m,Er a.path p=true:=fun p hp=>by
    rcases(h2 p).1 hp with q | q
    ·obtain⟨s,hs,rfl⟩:=Ak.1 q;exact a1 s hs
    ·obtain⟨s,hs,rfl⟩:=Ak.1 q;rw[e];exact b1 s hs
   refine⟨BC.2 ⟨lt,h1⟩,fun p=>?_,?_⟩
   ·simp only[Au,h2,AL,e];constructor
    ·rintro(q | q | q)
     ·exact .inl (.inl q)
     ·exact .inl (.inr q)
     ·exact .inr (.inr q)
    ·rintro((q | q) | (q | q))
     ·exact .inl q
     ·exact .inr (.inl q)
     ·exact .inl q
     ·exact .inr (.inr q)
   ·rw[Iv,h3,FX,Ao rfl,FX,Ao e.symm]
    congr 1
    exact HG (fun p hp=>by rw[FX,Ah (H3 (lt p hp))]) fun p hp=>by rw[FX,Ah (by rw[←e];exact H3 (lt p hp))]
  ·rw[Ah e,Ah e]
   by_cases c:Er a.path b.path=true
   ·rw[Ao c,Ao c];obtain⟨h1,h2,h3⟩:=Vb l (b::m) a2 hm;have la:∀s∈b::m,Er a.path s.path=true:=fun s hs=>by
     rcases Au.1 hs with rfl | hs
     ·exact c
     ·exact DR c (b1 s hs)
    have lt:∀p∈mp l (b::m),Er a.path p=true:=fun p hp=>by
     rcases(h2 p).1 hp with q | q
     ·obtain⟨s,hs,rfl⟩:=Ak.1 q;exact a1 s hs
     ·obtain⟨s,hs,rfl⟩:=Ak.1 q;exact la s hs
    refine⟨BC.2 ⟨lt,h1⟩,fun p=>by rw[Au,h2,AL,Au,AL (l:=l),Au (l:=l.map _),or_assoc],?_⟩;rw[Iv,h3,FX,Ao rfl,aT (l:=b::m) fun s hs=>(H3 (la s hs)).symm]
    congr 1
    exact HG (fun p hp=>by rw[FX,Ah (H3 (lt p hp))]) fun _ _=>rfl
   ·rw[Ah c,Ah c];have c' : Er b.path a.path=true:=by
     cases q:Er b.path a.path with
     |true=>rfl
     |false=>exact absurd (Ht (by simpa using c) q) e
    obtain⟨h1,h2,h3⟩:=Vb (a::l) m hl b2;have la:∀s∈a::l,Er b.path s.path=true:=fun s hs=>by
     rcases Au.1 hs with rfl | hs
     ·exact c'
     ·exact DR c' (a1 s hs)
    have lt:∀p∈mp (a::l) m,Er b.path p=true:=fun p hp=>by
     rcases(h2 p).1 hp with q | q
     ·obtain⟨s,hs,rfl⟩:=Ak.1 q;exact la s hs
     ·obtain⟨s,hs,rfl⟩:=Ak.1 q;exact b1 s hs
    refine⟨BC.2 ⟨lt,h1⟩,fun p=>?_,?_⟩
    ·rw[Au,h2,AL,AL,Au,Au];constructor
     ·rintro(q | q | q)
      ·exact .inr (.inl q)
      ·exact .inl q
      ·exact .inr (.inr q)
     ·rintro(q | q | q)
      ·exact .inr (.inl q)
      ·exact .inl q
      ·exact .inr (.inr q)
    ·rw[Iv,h3,aT (l:=a::l) fun s hs=>(H3 (la s hs)).symm,FX b m,Ao rfl]
     congr 1
     exact HG (fun _ _=>rfl) fun p hp=>by rw[FX b m,Ah (H3 (lt p hp))]
termination_by l.length+m.length
theorem gF{l m:List Sl}{t:List ByteArray}(hl:Lk l)(hm:Lk m)(hp:t.Perm ((l++m).map (·.path)))(ht:(t.map QA).Pairwise fun a b=>a≤b):HF l m (BW t)=rm l m:=by
 obtain⟨h1,h2,h3⟩:=Vb l m hl.inc hm.inc;obtain⟨c1,c2⟩:=eP ht;rw[h3]
 congr 1
 refine List.Perm.eq_of_pairwise (le:=fun a b=>Er a b=true) (fun a b _ _ x y=>?_) c1 h1 ?_
 ·rw[Mp x]at y;cases y
 ·refine(N3 (c1.imp fun h=>H3 h) (h1.imp fun h=>H3 h)).2 fun p=>?_;rw[c2,h2,hp.mem_iff,Ay,AU]
end Go.Eng
namespace Go.Eng
open Go.Proofs
theorem sd(x:List Rl)(ifs:List (List AV))(l:List Sl)(hl:CM l)(hx:x.length≤16)(jW:A3 Tryz.prog 72 [sl Aj x] Ab fun r h'=>r=.tup [.msl 2000 x.length,vi 0]∧h'=Ai [(2000,.arr 9 (x.map Aj))] Ab)(hk:PC 37 [F5 x ifs] (vi 0))(hcl:PC 73 [.slice .none ifs] (.slice .none ifs)):PC 50 [.agg (Ic x ifs),.clo 51 [.cptr [sl Ae l]]] (.tup [F5 (yk false (Rm l) x) ifs,vi 0]):=by
 refine Ps ⟨[2],[],[],[],[],[],[],[],[],[(200009,6)],[3,4,5,6,9]⟩ Tryz.func50 rfl (Nz rfl) ?_;refine Xi (.gen [] 1) (Yi rfl (A3.to2 jW ?_));refine Yi (fun h=>absurd h (by decide)) (fun _=>?_);refine Yi (Nz rfl) ?_;refine Xi .pure (Xi _ (Yi hk ?_));refine Yi (fun h=>absurd h (by decide)) (fun _=>?_);refine Xi ⟨[(1,.clo 51 [.cptr [sl Ae l]]),(2,.ref 2 0),(4,.ref 4 0),(6,.msl 11200 x.length)],[(2,.ro (Ic x ifs)),(4,.cells [.v (.slice none 0 0),.v (.slice none 0 0)]),(11200,.arr 9 (x.map Aj))],Ab⟩ (Yi ⟨Z4,Z3,Fh,Tv⟩ ?_)
 refine Xi {q:Nat // q≤x.length} (Xi (fun q=>⟨[(1,.clo 51 [.cptr [sl Ae l]]),(2,.ref 2 0),(4,.ref 4 0),(6,.msl 11200 x.length),(24,vi x.length),(25,vi q.1)],[(2,.ro (Ic x ifs)),(4,.cells [.v (.slice none 0 0),.v (.slice none 0 0)]),(11200,.arr 9 ((yk false (Rm l) (x.take q.1)++x.drop q.1).map Aj))],Ab⟩) (Xi (fun q=>x.length-q.1) (Yi (Xi ⟨0,AJ _⟩ ?_) ?_)))
 ·exact⟨Z6,Z3,Fh,Tv⟩
 intro⟨i,i1⟩;have i1:i≤x.length:=i1;refine Xi ⟨[(1,.clo 51 [.cptr [sl Ae l]]),(2,.ref 2 0),(4,.ref 4 0),(6,.msl 11200 x.length),(24,vi x.length),(25,vi i)],[(2,.ro (Ic x ifs)),(4,.cells [.v (.slice none 0 0),.v (.slice none 0 0)]),(11200,.arr 9 ((yk false (Rm l) (x.take i)++x.drop i).map Aj))],Ab⟩ (Yi ⟨Z6,Z3,Fh,Tv⟩ ?_)
 refine Yi (fun h1=>?_) (fun h1=>?_)
 ·have h1:(i:Int)<(x.length:Int):=h1;have n1:i<x.length:=by omega
  have g1:x[i]?=some x[i]:=Ge n1;have ni:i<x.length:=by omega
  refine Xi ⟨[(1,.clo 51 [.cptr [sl Ae l]]),(2,.ref 2 0),(4,.ref 4 0),(6,.msl 11200 x.length),(24,vi x.length),(25,vi i)],[(2,.ro (Ic x ifs)),(4,.cells [.v (.slice none 0 0),.v (.slice none 0 0)]),(11200,.arr 9 ((yk false (Rm l) (x.take i)++x.drop i).map Aj))],Ab⟩ (Yi ⟨Z6,Z3,Fh,Tv⟩ ?_)
  refine Yi (by show(0:Int)≤i∧(i:Int)<(x.length:Nat);omega) ?_;refine Xi (.gen [(11200,1000)] 0) (Yi rfl (A3.to2 (by have q:=xo (yk false (Rm l) (x.take i)++x.drop i) i x[i] l hl (i7 ni);rw[MN]at q;exact q) ?_));refine Yi (Ii i (by omega)) ?_;refine Xi ⟨i+1,ni⟩ ?_;exact⟨Dl x.length i (by omega),Z6,⟨Zr,Zr,⟨(show HO.arr 9 (((yk false (Rm l) (x.take i)++x.drop i).set i (NX false (Rm l) x[i])).map Aj)=.arr 9 ((yk false (Rm l) (x.take (i+1))++x.drop (i+1)).map Aj) by rw[NX,WN ni]),rfl⟩,Tv⟩,Fh,Tv⟩
 have h1:¬((i:Int)<(x.length:Int)):=h1;have n1:¬i<x.length:=by omega
 have ei:x.take i=x:=AE (by omega);have ed:x.drop i=[]:=EB (by omega);refine Yi (show x.length=((yk false (Rm l) (x.take i)++x.drop i).map Aj).length by rw[Lm,MN]) ?_;refine Xi ⟨[(2,.ref 2 0),(4,.ref 4 0),(6,sl Aj (yk false (Rm l) (x.take i)++x.drop i))],[(2,.ro (Ic x ifs)),(4,.cells [.v (.slice none 0 0),.v (.slice none 0 0)])],Ab⟩ (Yi ⟨Z3,Z2,Fh,Tv⟩ ?_)
 refine Xi .pure (Xi _ (Yi hcl ?_));refine Yi (Nz rfl) ?_;refine Yi (Nz rfl) ?_;exact .of_eq (show AV.tup [.agg [sl Aj (yk false (Rm l) (x.take i)++x.drop i),.slice .none ifs],vi 0]=.tup [F5 (yk false (Rm l) x) ifs,vi 0] by rw[ei,ed,BP])
abbrev OM(x:List Rl)(ifs:List (List AV))(l:List Sl):AV:=.tup [F5 (Jo x l) (if EW x l=0 then ifs else []),vi (EW x l)]
theorem cy{x:List Rl}{ifs:List (List AV)}{l:List Sl}(h:F4 x l=false):Hk (.tup [.agg [.v (.slice none 0 0),.v (.slice none 0 0)],vi 1]) (OM x ifs l):=by
 have h:=of_decide_eq_false h;have e:OM x ifs l=.tup [F5 [] [],vi 1]:=by unfold OM Jo;rw[Ah h,Ah h,(U5 x l).resolve_left h]
 rw[e];exact .tup ⟨.agg ⟨.nil,.nil,trivial⟩,.refl _,trivial⟩
theorem gu{x:List Rl}{ifs:List (List AV)}{l:List Sl}(h:F4 x l=true):OM x ifs l=.tup [F5 (yk false (Rm l) x) ifs,vi 0]:=by
 have h:=A2 h;unfold OM Jo;rw[Ao h,Ao h,h]
theorem r9(x:List Rl)(ifs:List (List AV))(l:List Sl)(hB:F4 x l=true)(fE:PC 46 [F5 x ifs,sl Ae l] (vb true))(jV:PC 50 [F5 x ifs,.clo 51 [.cptr [sl Ae l]]] (.tup [F5 (yk false (Rm l) x) ifs,vi 0])):PC 24 [.agg (Ic x ifs),sl Ae l] (OM x ifs l):=by
 refine Ps ⟨[2,3],[],[],[],[],[],[],[],[],[],[]⟩ Tryz.func24 rfl (Nz rfl) ?_;refine Yi (Nz rfl) ?_;refine Xi .pure (Xi _ (Yi fE ?_));refine Yi (Nz rfl) ?_;refine Xi .pure (Xi _ (Yi jV ?_));refine Yi (Nz rfl) ?_;refine Yi (Nz rfl) ?_;exact .of_eq (gu hB).symm
theorem r8(x:List Rl)(ifs:List (List AV))(l:List Sl)(hB:F4 x l=false)(fE:PC 46 [F5 x ifs,sl Ae l] (vb false))  : PC 24 [.agg (Ic x ifs),sl Ae l] (OM x ifs l):=by
 refine Ps ⟨[2,3],[],[],[],[],[],[],[],[],[],[]⟩ Tryz.func24 rfl (Nz rfl) ?_;refine Yi (Nz rfl) ?_;refine Xi .pure (Xi _ (Yi fE ?_));refine Yi (Nz rfl) ?_;refine Yi (Nz rfl) ?_;exact cy hB
theorem xl{x:List Rl}(ifs:List (List AV))(l:List Sl)(hl:CM l)(h:IL x)(hr:∀r∈x,r.reqs.length≤1000)(hcl:PC 73 [.slice .none ifs] (.slice .none ifs)):PC 24 [F5 x ifs,sl Ae l] (OM x ifs l):=by
 have hk:=jC Ua x ifs h.few;have fE:=sb x ifs l hl hk;cases hB:F4 x l with
 |false=>rw[hB]at fE;exact r8 x ifs l hB fE
 |true =>
  rw[hB]at fE;have h0:=(SZ (A2 hB)).1;rw[h0]at hk;have q:=iU h hr (by rw[He h0];exact h0);rw[He h0]at q;exact r9 x ifs l hB fE (sd x ifs l hl h.len q hk hcl)
def ZI(x:List Rl)(roots:List Rq)(l:List Sl):Int:=if EW x l≠0 then EW x l else Et (Jo x l) roots
def ZH(x:List Rl)(roots:List Rq)(l:List Sl):List Sl:=if EW x l≠0 then []else E5 (Jo x l) roots
theorem xm(x:List Rl)(ifs:List (List AV))(roots:List Rq)(l:List Sl)(np:PC 24 [F5 x ifs,sl Ae l] (OM x ifs l))(jQ:PC 17 [F5 (Jo x l) (if EW x l=0 then ifs else []),sl AK roots] (.tup [sl Ae (E5 (Jo x l) roots),vi (Et (Jo x l) roots)])):PC 26 [.agg (Ic x ifs),sl AK roots,sl Ae l] (.tup [sl Ae (ZH x roots l),vi (ZI x roots l)]):=by
 refine Ps ⟨[3,8],[],[],[],[],[],[],[],[],[],[2]⟩ Tryz.func26 rfl (Nz rfl) ?_;refine Yi (Nz rfl) ?_;refine Xi .pure (Xi _ (Yi np ?_));refine Yi (Nz rfl) ?_;refine Xi ⟨[(1,sl AK roots),(8,.ref 8 0),(9,vi (EW x l))],[(8,.ro [sl Aj (Jo x l),.slice .none (if EW x l=0 then ifs else [])])],Ab⟩ (Yi ⟨Z3,Z1,Fh,Tv⟩ ?_)
 refine Yi (fun h1=>?_) (fun h1=>?_)
 ·have h1:((EW x l):Int)≠(0:Int):=h1;exact(show Hk (.tup [.v (.slice none 0 0),vi (EW x l)]) (.tup [.slice .none [],vi (EW x l)])from .tup ⟨.nil,.refl _,trivial⟩).trans (.of_eq (show AV.tup [sl Ae ([]:List Sl),vi (EW x l)]=.tup [sl Ae (ZH x roots l),vi (ZI x roots l)] by unfold ZH ZI;rw[Ao h1,Ao h1]))
 have h1:((EW x l):Int)=(0:Int):=A4 h1;refine Yi (Nz rfl) ?_;refine Xi .pure (Xi _ (Yi jQ ?_));exact .of_eq (show AV.tup [sl Ae (E5 (Jo x l) roots),vi (Et (Jo x l) roots)]=.tup [sl Ae (ZH x roots l),vi (ZI x roots l)] by unfold ZH ZI;rw[Ah (fun q=>q h1),Ah (fun q=>q h1)])
def MP(x:List Rl)(roots:List Rq)(s:Sl):Int:=if F8 x s true≠0 then F8 x s true else if Et x roots≠0 then Et x roots else if Et (HQ x s true) roots≠0 then Et (HQ x s true) roots else 0
def Nr(x:List Rl)(roots:List Rq)(s:Sl):List Mv:=if MP x roots s=0 then rm (E5 x roots) (E5 (HQ x s true) roots)else []
theorem xn(x:List Rl)(ifs:List (List AV))(roots:List Rq)(s:Sl)(Ny:PC 11 [F5 x ifs,.agg (Ae s)] (KE x ifs s true))(ut:PC 17 [F5 x ifs,sl AK roots] (.tup [sl Ae (E5 x roots),vi (Et x roots)]))(uu:PC 17 [F5 (HQ x s true) (if F8 x s true=0 then ifs else []),sl AK roots] (.tup [sl Ae (E5 (HQ x s true) roots),vi (Et (HQ x s true) roots)]))(sE:F8 x s true=0→Et x roots=0→Et (HQ x s true) roots=0→PC 54 [sl Ae (E5 x roots),sl Ae (E5 (HQ x s true) roots)] (.tup [sl DV (rm (E5 x roots) (E5 (HQ x s true) roots)),vi 0])):PC 28 [.agg (Ic x ifs),sl AK roots,.agg (Ae s)] (.tup [sl DV (Nr x roots s),vi (MP x roots s)]):=by
 refine Ps ⟨[3,5,8],[],[],[],[],[],[],[],[],[],[2,5,8]⟩ Tryz.func28 rfl (Nz rfl) ?_;refine Yi (Nz rfl) ?_;refine Yi (Nz rfl) ?_;refine Xi .pure (Xi _ (Yi Ny ?_));refine Yi (Nz rfl) ?_;refine Xi ⟨[(1,sl AK roots),(3,.ref 3 0),(8,.ref 8 0),(9,vi (F8 x s true))],[(3,.ro (Ic x ifs)),(8,.ro [sl Aj (HQ x s true),.slice .none (if F8 x s true=0 then ifs else [])])],Ab⟩ (Yi ⟨Z4,Z2,Fh,Tv⟩ ?_)
 refine Yi (fun h1=>?_) (fun h1=>?_)
 ·have h1:((F8 x s true):Int)≠(0:Int):=h1;have eE:MP x roots s=F8 x s true:=by unfold MP;rw[Ao h1]
  have eA:Nr x roots s=[]:=by unfold Nr;rw[eE,Ah h1]
  exact(show Hk (.tup [.v (.slice none 0 0),vi (F8 x s true)]) (.tup [.slice .none [],vi (F8 x s true)])from .tup ⟨.nil,.refl _,trivial⟩).trans (.of_eq (show AV.tup [sl DV ([]:List Mv),vi (F8 x s true)]=.tup [sl DV (Nr x roots s),vi (MP x roots s)] by rw[eA,eE]))
 have h1:((F8 x s true):Int)=(0:Int):=A4 h1;refine Yi (Nz rfl) ?_;refine Xi .pure (Xi _ (Yi ut ?_));refine Xi ⟨[(1,sl AK roots),(8,.ref 8 0),(9,vi (Et x roots)),(10,sl Ae (E5 x roots))],[(8,.ro [sl Aj (HQ x s true),.slice .none (if F8 x s true=0 then ifs else [])])],Ab⟩ (Yi ⟨Z4,Z1,Fh,Tv⟩ ?_)
 refine Yi (fun h3=>?_) (fun h3=>?_)
 ·have h3:((Et x roots):Int)≠(0:Int):=h3;have eE:MP x roots s=Et x roots:=by unfold MP;rw[Ah (fun q=>q h1),Ao h3]
  have eA:Nr x roots s=[]:=by unfold Nr;rw[eE,Ah h3]
  exact(show Hk (.tup [.v (.slice none 0 0),vi (Et x roots)]) (.tup [.slice .none [],vi (Et x roots)])from .tup ⟨.nil,.refl _,trivial⟩).trans (.of_eq (show AV.tup [sl DV ([]:List Mv),vi (Et x roots)]=.tup [sl DV (Nr x roots s),vi (MP x roots s)] by rw[eA,eE]))
 have h3:((Et x roots):Int)=(0:Int):=A4 h3;refine Yi (Nz rfl) ?_;refine Xi .pure (Xi _ (Yi uu ?_));refine Xi ⟨[(9,vi (Et (HQ x s true) roots)),(10,sl Ae (E5 x roots)),(11,sl Ae (E5 (HQ x s true) roots))],[],Ab⟩ (Yi ⟨Z3,Tv,Fh,Tv⟩ ?_)
 refine Yi (fun h5=>?_) (fun h5=>?_)
 ·have h5:((Et (HQ x s true) roots):Int)≠(0:Int):=h5;have eE:MP x roots s=Et (HQ x s true) roots:=by unfold MP;rw[Ah (fun q=>q h1),Ah (fun q=>q h3),Ao h5]
  have eA:Nr x roots s=[]:=by unfold Nr;rw[eE,Ah h5]
  exact(show Hk (.tup [.v (.slice none 0 0),vi (Et (HQ x s true) roots)]) (.tup [.slice .none [],vi (Et (HQ x s true) roots)])from .tup ⟨.nil,.refl _,trivial⟩).trans (.of_eq (show AV.tup [sl DV ([]:List Mv),vi (Et (HQ x s true) roots)]=.tup [sl DV (Nr x roots s),vi (MP x roots s)] by rw[eA,eE]))
 have h5:((Et (HQ x s true) roots):Int)=(0:Int):=A4 h5;refine Xi .pure (Xi _ (Yi (sE h1 h3 h5) ?_));have eE:MP x roots s=0:=by unfold MP;rw[Ah (fun q=>q h1),Ah (fun q=>q h3),Ah (fun q=>q h5)]
 have eA:Nr x roots s=rm (E5 x roots) (E5 (HQ x s true) roots):=by unfold Nr;rw[eE,Ao rfl]
 exact .of_eq (show AV.tup [sl DV (rm (E5 x roots) (E5 (HQ x s true) roots)),vi 0]=.tup [sl DV (Nr x roots s),vi (MP x roots s)] by rw[eA,eE])
end Go.Eng
namespace Go.Eng
def Du(here:Int)(s:Sl)(r:Rl):Int:=if here<plc r.ver then(if r.ver.b=s.ver.b then 3 else 2)else if plc r.ver<here then 1 else 0
def DM(here:Int)(s:Sl)(a:Sl×Int)(r:Rl):Sl×Int:=if r.path≠s.path∨r.yanked=true then a else
 if a.2<Du here s r∨Du here s r=1∧a.2=1 then(CW r,Du here s r)else a
def Bs(here:Int)(s:Sl)(l:List Rl):Sl×Int:=l.foldl (DM here s) (su,0)
def Me(x:List Rl)(s:Sl):Int:=if AQ x≠0∨Cs s.ver=false then 1 else if(Bs (plc s.ver) s x).2=0 then 6 else 0
def Pa(x:List Rl)(s:Sl):Sl:=if Me x s=0 then(Bs (plc s.ver) s x).1 else su
theorem DH{here:Int}{s:Sl}{x:List Rl}{i:Nat}(h:i<x.length):Bs here s (x.take (i+1))=DM here s (Bs here s (x.take i)) x[i]:=by
 unfold Bs;rw[Bq,Ge h,Fr]
 rfl
theorem gP(here:Int)(s:Sl)(r:Rl):0≤Du here s r∧Du here s r≤3:=by
 unfold Du;split
 ·split<;>omega
 ·split<;>omega
end Go.Eng
namespace Go.Eng
open Go.Proofs
theorem Yq(here:Int)(s:Sl)(a:Sl×Int)(r:Rl)(h:0≤a.2∧a.2≤3):0≤(DM here s a r).2∧(DM here s a r).2≤3:=by
 unfold DM;split
 ·exact h
 ·split
  ·exact gP here s r
  ·exact h
theorem im(here:Int)(s:Sl)(l:List Rl):0≤(Bs here s l).2∧(Bs here s l).2≤3:=by
 have key:∀(l:List Rl) (a:Sl×Int),(0≤a.2∧a.2≤3)→0≤(l.foldl (DM here s) a).2∧(l.foldl (DM here s) a).2≤3:=fun l=>by
  induction l with
  |nil=>intro a h;exact h
  |cons r l ih=>intro a h;exact ih _ (Yq here s a r h)
 exact key l _ ⟨by decide,by decide⟩
theorem sq(v:Ver):PC 39 [.agg (GE v)] (.tup [vi (plc v),vi (if Cs v then 0 else 2)]):=pR v
theorem r7(x:List Rl)(ifs:List (List AV))(s:Sl)(hl:CM x)(k:Int)(PF:k=0)(hv:¬(AQ x≠0∨Cs s.ver=false))(hk:PC 37 [F5 x ifs] (vi k))(hV:PC 38 [.agg (GE s.ver)] (vb true))(jT:PC 39 [.agg (GE s.ver)] (.tup [vi (plc s.ver),vi (if Cs s.ver then 0 else 2)])):PC 14 [.agg (Ic x ifs),.agg (Ae s)] (.tup [.agg (Ae (Pa x s)),vi (Me x s)]):=by
 have hl:x.length≤1073741824:=hl;refine Ps ⟨[2,3,11],[],[],[],[],[],[],[],[],[],[2,3,5,9,12,13,17,18,19]⟩ Tryz.func14 rfl (Nz rfl) ?_;refine Yi (Nz rfl) ?_;refine Xi .pure (Xi _ (Yi hk ?_));refine Yi (fun h1=>?_) (fun h1=>?_)
 ·have h1:(k:Int)≠(0:Int):=h1;exact absurd PF h1
 have h1:(k:Int)=(0:Int):=A4 h1;refine Yi (Nz rfl) ?_;refine Xi .pure (Xi _ (Yi hV ?_));refine Xi ⟨[(2,.ref 2 0),(3,.ref 3 0),(4,.ref 4 0)],[(2,.ro (Ic x ifs)),(3,.ro (Ae s)),(4,.cells [vs ⟨#[]⟩,vi 0,vi 0,vi 0])],Ab⟩ (Yi ⟨Z3,Z3,Fh,Tv⟩ ?_)
 refine Yi (Nz rfl) ?_;refine Xi .pure (Xi _ (Yi jT ?_));refine Yi (Nz rfl) ?_;refine Xi ⟨[(2,.ref 2 0),(3,.ref 3 0),(4,.ref 4 0),(6,vi (plc s.ver)),(8,.ref 8 0),(9,vi 0)],[(2,.ro (Ic x ifs)),(3,.ro (Ae s)),(4,.cells [vs ⟨#[]⟩,vi 0,vi 0,vi 0]),(8,.cells [vs ⟨#[]⟩,vi 0,vi 0,vi 0])],Ab⟩ (Yi ⟨Z6,Z4,Fh,Tv⟩ ?_)
 refine Xi {q:Nat // q≤x.length} (Xi (fun q=>⟨[(3,.ref 3 0),(4,.ref 4 0),(6,vi (plc s.ver)),(8,.ref 8 0),(9,vi (Bs (plc s.ver) s (x.take q.1)).2),(33,sl Aj x),(34,vi (x.map Aj).length),(35,vi q.1)],[(3,.ro (Ae s)),(4,.cells [vs ⟨#[]⟩,vi 0,vi 0,vi 0]),(8,.cells (Ae (Bs (plc s.ver) s (x.take q.1)).1))],Ab⟩) (Xi (fun q=>x.length-q.1) (Yi (Xi ⟨0,AJ _⟩ ?_) ?_)))
 ·exact⟨Z8,Z3,Fh,Tv⟩
 intro⟨i,i1⟩;have i1:i≤x.length:=i1;have i3:0≤(Bs (plc s.ver) s (x.take i)).2∧(Bs (plc s.ver) s (x.take i)).2≤3:=im _ _ _;refine Yi (fun h2=>?_) (fun h2=>?_)
 ·have h2:(i:Int)<((x.map Aj).length:Int):=h2;have n2:=LC h2;refine Xi (Aj x[i]) (Yi (Uo n2) (Yi rfl ?_));refine Yi (Nz rfl) ?_;refine Yi (Nz rfl) ?_;refine Yi (fun h4=>?_) (fun h4=>?_)
  ·have h4:(x[i].path:ByteArray)≠s.path:=h4;refine Xi ⟨[(3,.ref 3 0),(4,.ref 4 0),(6,vi (plc s.ver)),(8,.ref 8 0),(9,vi (Bs (plc s.ver) s (x.take i)).2),(33,sl Aj x),(34,vi (x.map Aj).length),(35,vi i)],[(3,.ro (Ae s)),(4,.cells [vs ⟨#[]⟩,vi 0,vi 0,vi 0]),(8,.cells (Ae (Bs (plc s.ver) s (x.take i)).1))],Ab⟩ (Yi ⟨Z8,Z3,Fh,Tv⟩ ?_)
   refine Yi (Ii i (by omega)) ?_;have eN:=DH (here:=(plc s.ver)) (s:=s) n2;have eS:DM (plc s.ver) s (Bs (plc s.ver) s (x.take i)) x[i]=(Bs (plc s.ver) s (x.take i)):=Ao (.inl h4);rw[eS]at eN;refine Xi ⟨i+1,n2⟩ ?_;exact⟨Dl x.length i (by omega),⟨Zr,Zr,Zr,Zr,⟨(show vi (Bs (plc s.ver) s (x.take i)).2=vi (Bs (plc s.ver) s (x.take (i+1))).2 by rw[eN]),rfl⟩,Zr,Zr,Zr,Tv⟩,⟨Zr,Zr,⟨(show HO.cells (Ae (Bs (plc s.ver) s (x.take i)).1)=.cells (Ae (Bs (plc s.ver) s (x.take (i+1))).1) by rw[eN]),rfl⟩,Tv⟩,Fh,Tv⟩
  have h4:(x[i].path:ByteArray)=s.path:=A4 h4;refine Yi (fun h6=>?_) (fun h6=>?_)
  ·have h6:x[i].yanked=true:=h6;refine Xi ⟨[(3,.ref 3 0),(4,.ref 4 0),(6,vi (plc s.ver)),(8,.ref 8 0),(9,vi (Bs (plc s.ver) s (x.take i)).2),(33,sl Aj x),(34,vi (x.map Aj).length),(35,vi i)],[(3,.ro (Ae s)),(4,.cells [vs ⟨#[]⟩,vi 0,vi 0,vi 0]),(8,.cells (Ae (Bs (plc s.ver) s (x.take i)).1))],Ab⟩ (Yi ⟨Z8,Z3,Fh,Tv⟩ ?_)
   refine Yi (Ii i (by omega)) ?_;have eN:=DH (here:=(plc s.ver)) (s:=s) n2;have eS:DM (plc s.ver) s (Bs (plc s.ver) s (x.take i)) x[i]=(Bs (plc s.ver) s (x.take i)):=Ao (.inr h6);rw[eS]at eN;refine Xi ⟨i+1,n2⟩ ?_;exact⟨Dl x.length i (by omega),⟨Zr,Zr,Zr,Zr,⟨(show vi (Bs (plc s.ver) s (x.take i)).2=vi (Bs (plc s.ver) s (x.take (i+1))).2 by rw[eN]),rfl⟩,Zr,Zr,Zr,Tv⟩,⟨Zr,Zr,⟨(show HO.cells (Ae (Bs (plc s.ver) s (x.take i)).1)=.cells (Ae (Bs (plc s.ver) s (x.take (i+1))).1) by rw[eN]),rfl⟩,Tv⟩,Fh,Tv⟩
  have h6:x[i].yanked=false:=h6;refine Xi ⟨[(3,.ref 3 0),(4,.ref 4 0),(6,vi (plc s.ver)),(8,.ref 8 0),(9,vi (Bs (plc s.ver) s (x.take i)).2),(11,.ref 11 0),(33,sl Aj x),(34,vi (x.map Aj).length),(35,vi i)],[(3,.ro (Ae s)),(4,.cells [vs ⟨#[]⟩,vi 0,vi 0,vi 0]),(8,.cells (Ae (Bs (plc s.ver) s (x.take i)).1)),(11,.ro (Aj x[i]))],Ab⟩ (Yi ⟨Z9,Z4,Fh,Tv⟩ ?_)
  refine Yi (Nz rfl) ?_;refine Xi .pure (Xi _ (Yi (sq x[i].ver) ?_));refine Yi (fun h8=>?_) (fun h8=>?_)
  ·have h8:((plc s.ver):Int)<((plc x[i].ver):Int):=h8;refine Yi (fun h9=>?_) (fun h9=>?_)
   ·have h9:(x[i].ver.b:Int)=(s.ver.b:Int):=h9;refine Xi ⟨[(3,.ref 3 0),(4,.ref 4 0),(6,vi (plc s.ver)),(8,.ref 8 0),(9,vi (Bs (plc s.ver) s (x.take i)).2),(11,.ref 11 0),(33,sl Aj x),(34,vi (x.map Aj).length),(35,vi i)],[(3,.ro (Ae s)),(4,.cells [vs ⟨#[]⟩,vi 0,vi 0,vi 0]),(8,.cells (Ae (Bs (plc s.ver) s (x.take i)).1)),(11,.ro (Aj x[i]))],Ab⟩ (Yi ⟨Z9,Z4,Fh,Tv⟩ ?_)
    have eW:Du (plc s.ver) s x[i]=3:=by unfold Du;rw[Ao (by omega),Ao (by omega)]
    refine Xi ⟨[(3,.ref 3 0),(4,.ref 4 0),(6,vi (plc s.ver)),(8,.ref 8 0),(9,vi (Bs (plc s.ver) s (x.take i)).2),(11,.ref 11 0),(14,vi (Du (plc s.ver) s x[i])),(33,sl Aj x),(34,vi (x.map Aj).length),(35,vi i)],[(3,.ro (Ae s)),(4,.cells [vs ⟨#[]⟩,vi 0,vi 0,vi 0]),(8,.cells (Ae (Bs (plc s.ver) s (x.take i)).1)),(11,.ro (Aj x[i]))],Ab⟩ (Yi ⟨⟨Zr,Zr,Zr,Zr,Zr,Zr,⟨(show vi 3=vi (Du (plc s.ver) s x[i]) by rw[eW]),rfl⟩,Zr,Zr,Zr,Tv⟩,Z4,Fh,Tv⟩ ?_)
    refine Yi (fun SC=>?_) (fun SC=>?_)
    ·have SC:((Bs (plc s.ver) s (x.take i)).2:Int)<((Du (plc s.ver) s x[i]):Int):=SC;refine Xi ⟨[(3,.ref 3 0),(4,.ref 4 0),(6,vi (plc s.ver)),(8,.ref 8 0),(11,.ref 11 0),(14,vi (Du (plc s.ver) s x[i])),(33,sl Aj x),(34,vi (x.map Aj).length),(35,vi i)],[(3,.ro (Ae s)),(4,.cells [vs ⟨#[]⟩,vi 0,vi 0,vi 0]),(8,.cells (Ae (Bs (plc s.ver) s (x.take i)).1)),(11,.ro (Aj x[i]))],Ab⟩ (Yi ⟨Z9,Z4,Fh,Tv⟩ ?_)
     refine Yi (Nz rfl) ?_;refine Xi .pure (Xi _ (Yi (Pl x[i]) ?_));refine Yi (Nz rfl) ?_;refine Xi ⟨[(3,.ref 3 0),(4,.ref 4 0),(6,vi (plc s.ver)),(8,.ref 8 0),(9,vi (Du (plc s.ver) s x[i])),(33,sl Aj x),(34,vi (x.map Aj).length),(35,vi i)],[(3,.ro (Ae s)),(4,.cells [vs ⟨#[]⟩,vi 0,vi 0,vi 0]),(8,.cells (Ae (CW x[i])))],Ab⟩ (Yi ⟨Z8,Z3,Fh,Tv⟩ ?_)
     refine Yi (Ii i (by omega)) ?_;have eN:=DH (here:=(plc s.ver)) (s:=s) n2;have e0:¬(x[i].path≠s.path∨x[i].yanked=true):=fun q=>q.elim (fun q=>q h4) (fun q=>by rw[h6]at q;cases q);have eS:DM (plc s.ver) s (Bs (plc s.ver) s (x.take i)) x[i]=(CW x[i],Du (plc s.ver) s x[i]):=(Ah e0).trans (Ao (by omega));rw[eS]at eN;refine Xi ⟨i+1,n2⟩ ?_;exact⟨Dl x.length i (by omega),⟨Zr,Zr,Zr,Zr,⟨(show vi (Du (plc s.ver) s x[i])=vi (Bs (plc s.ver) s (x.take (i+1))).2 by rw[eN]),rfl⟩,Zr,Zr,Zr,Tv⟩,⟨Zr,Zr,⟨(show HO.cells (Ae (CW x[i]))=.cells (Ae (Bs (plc s.ver) s (x.take (i+1))).1) by rw[eN]),rfl⟩,Tv⟩,Fh,Tv⟩
    have SC:¬(((Bs (plc s.ver) s (x.take i)).2:Int)<((Du (plc s.ver) s x[i]):Int)):=SC;refine Yi (fun lJ=>?_) (fun lJ=>?_)
    ·have lJ:((Du (plc s.ver) s x[i]):Int)=(1:Int):=lJ;refine Yi (fun fD=>?_) (fun fD=>?_)
     ·have fD:((Bs (plc s.ver) s (x.take i)).2:Int)=(1:Int):=fD;refine Xi ⟨[(3,.ref 3 0),(4,.ref 4 0),(6,vi (plc s.ver)),(8,.ref 8 0),(11,.ref 11 0),(14,vi (Du (plc s.ver) s x[i])),(33,sl Aj x),(34,vi (x.map Aj).length),(35,vi i)],[(3,.ro (Ae s)),(4,.cells [vs ⟨#[]⟩,vi 0,vi 0,vi 0]),(8,.cells (Ae (Bs (plc s.ver) s (x.take i)).1)),(11,.ro (Aj x[i]))],Ab⟩ (Yi ⟨Z9,Z4,Fh,Tv⟩ ?_)
      refine Yi (Nz rfl) ?_;refine Xi .pure (Xi _ (Yi (Pl x[i]) ?_));refine Yi (Nz rfl) ?_;refine Xi ⟨[(3,.ref 3 0),(4,.ref 4 0),(6,vi (plc s.ver)),(8,.ref 8 0),(9,vi (Du (plc s.ver) s x[i])),(33,sl Aj x),(34,vi (x.map Aj).length),(35,vi i)],[(3,.ro (Ae s)),(4,.cells [vs ⟨#[]⟩,vi 0,vi 0,vi 0]),(8,.cells (Ae (CW x[i])))],Ab⟩ (Yi ⟨Z8,Z3,Fh,Tv⟩ ?_)
      refine Yi (Ii i (by omega)) ?_;have eN:=DH (here:=(plc s.ver)) (s:=s) n2;have e0:¬(x[i].path≠s.path∨x[i].yanked=true):=fun q=>q.elim (fun q=>q h4) (fun q=>by rw[h6]at q;cases q);have eS:DM (plc s.ver) s (Bs (plc s.ver) s (x.take i)) x[i]=(CW x[i],Du (plc s.ver) s x[i]):=(Ah e0).trans (Ao (by omega));rw[eS]at eN;refine Xi ⟨i+1,n2⟩ ?_;exact⟨Dl x.length i (by omega),⟨Zr,Zr,Zr,Zr,⟨(show vi (Du (plc s.ver) s x[i])=vi (Bs (plc s.ver) s (x.take (i+1))).2 by rw[eN]),rfl⟩,Zr,Zr,Zr,Tv⟩,⟨Zr,Zr,⟨(show HO.cells (Ae (CW x[i]))=.cells (Ae (Bs (plc s.ver) s (x.take (i+1))).1) by rw[eN]),rfl⟩,Tv⟩,Fh,Tv⟩
     have fD:¬(((Bs (plc s.ver) s (x.take i)).2:Int)=(1:Int)):=fD;refine Xi ⟨[(3,.ref 3 0),(4,.ref 4 0),(6,vi (plc s.ver)),(8,.ref 8 0),(9,vi (Bs (plc s.ver) s (x.take i)).2),(33,sl Aj x),(34,vi (x.map Aj).length),(35,vi i)],[(3,.ro (Ae s)),(4,.cells [vs ⟨#[]⟩,vi 0,vi 0,vi 0]),(8,.cells (Ae (Bs (plc s.ver) s (x.take i)).1))],Ab⟩ (Yi ⟨Z8,Z3,Fh,Tv⟩ ?_)
     refine Yi (Ii i (by omega)) ?_;have eN:=DH (here:=(plc s.ver)) (s:=s) n2;have e0:¬(x[i].path≠s.path∨x[i].yanked=true):=fun q=>q.elim (fun q=>q h4) (fun q=>by rw[h6]at q;cases q);have eS:DM (plc s.ver) s (Bs (plc s.ver) s (x.take i)) x[i]=(Bs (plc s.ver) s (x.take i)):=(Ah e0).trans (Ah (by omega));rw[eS]at eN;refine Xi ⟨i+1,n2⟩ ?_;exact⟨Dl x.length i (by omega),⟨Zr,Zr,Zr,Zr,⟨(show vi (Bs (plc s.ver) s (x.take i)).2=vi (Bs (plc s.ver) s (x.take (i+1))).2 by rw[eN]),rfl⟩,Zr,Zr,Zr,Tv⟩,⟨Zr,Zr,⟨(show HO.cells (Ae (Bs (plc s.ver) s (x.take i)).1)=.cells (Ae (Bs (plc s.ver) s (x.take (i+1))).1) by rw[eN]),rfl⟩,Tv⟩,Fh,Tv⟩
    have lJ:¬(((Du (plc s.ver) s x[i]):Int)=(1:Int)):=lJ;refine Xi ⟨[(3,.ref 3 0),(4,.ref 4 0),(6,vi (plc s.ver)),(8,.ref 8 0),(9,vi (Bs (plc s.ver) s (x.take i)).2),(33,sl Aj x),(34,vi (x.map Aj).length),(35,vi i)],[(3,.ro (Ae s)),(4,.cells [vs ⟨#[]⟩,vi 0,vi 0,vi 0]),(8,.cells (Ae (Bs (plc s.ver) s (x.take i)).1))],Ab⟩ (Yi ⟨Z8,Z3,Fh,Tv⟩ ?_)
    refine Yi (Ii i (by omega)) ?_;have eN:=DH (here:=(plc s.ver)) (s:=s) n2;have e0:¬(x[i].path≠s.path∨x[i].yanked=true):=fun q=>q.elim (fun q=>q h4) (fun q=>by rw[h6]at q;cases q);have eS:DM (plc s.ver) s (Bs (plc s.ver) s (x.take i)) x[i]=(Bs (plc s.ver) s (x.take i)):=(Ah e0).trans (Ah (by omega));rw[eS]at eN;refine Xi ⟨i+1,n2⟩ ?_;exact⟨Dl x.length i (by omega),⟨Zr,Zr,Zr,Zr,⟨(show vi (Bs (plc s.ver) s (x.take i)).2=vi (Bs (plc s.ver) s (x.take (i+1))).2 by rw[eN]),rfl⟩,Zr,Zr,Zr,Tv⟩,⟨Zr,Zr,⟨(show HO.cells (Ae (Bs (plc s.ver) s (x.take i)).1)=.cells (Ae (Bs (plc s.ver) s (x.take (i+1))).1) by rw[eN]),rfl⟩,Tv⟩,Fh,Tv⟩
   have h9:¬((x[i].ver.b:Int)=(s.ver.b:Int)):=h9;refine Xi ⟨[(3,.ref 3 0),(4,.ref 4 0),(6,vi (plc s.ver)),(8,.ref 8 0),(9,vi (Bs (plc s.ver) s (x.take i)).2),(11,.ref 11 0),(12,vi (plc x[i].ver)),(14,vi 0),(33,sl Aj x),(34,vi (x.map Aj).length),(35,vi i)],[(3,.ro (Ae s)),(4,.cells [vs ⟨#[]⟩,vi 0,vi 0,vi 0]),(8,.cells (Ae (Bs (plc s.ver) s (x.take i)).1)),(11,.ro (Aj x[i]))],Ab⟩ (Yi ⟨Z11,Z4,Fh,Tv⟩ ?_)
   refine Yi (fun _=>?_) (fun hf=>absurd h8 hf);have eW:Du (plc s.ver) s x[i]=2:=by unfold Du;rw[Ao (by omega),Ah (by omega)]
   refine Xi ⟨[(3,.ref 3 0),(4,.ref 4 0),(6,vi (plc s.ver)),(8,.ref 8 0),(9,vi (Bs (plc s.ver) s (x.take i)).2),(11,.ref 11 0),(14,vi (Du (plc s.ver) s x[i])),(33,sl Aj x),(34,vi (x.map Aj).length),(35,vi i)],[(3,.ro (Ae s)),(4,.cells [vs ⟨#[]⟩,vi 0,vi 0,vi 0]),(8,.cells (Ae (Bs (plc s.ver) s (x.take i)).1)),(11,.ro (Aj x[i]))],Ab⟩ (Yi ⟨⟨Zr,Zr,Zr,Zr,Zr,Zr,⟨(show vi 2=vi (Du (plc s.ver) s x[i]) by rw[eW]),rfl⟩,Zr,Zr,Zr,Tv⟩,Z4,Fh,Tv⟩ ?_)
   refine Yi (fun jQ=>?_) (fun jQ=>?_)
   ·have jQ:((Bs (plc s.ver) s (x.take i)).2:Int)<((Du (plc s.ver) s x[i]):Int):=jQ;refine Xi ⟨[(3,.ref 3 0),(4,.ref 4 0),(6,vi (plc s.ver)),(8,.ref 8 0),(11,.ref 11 0),(14,vi (Du (plc s.ver) s x[i])),(33,sl Aj x),(34,vi (x.map Aj).length),(35,vi i)],[(3,.ro (Ae s)),(4,.cells [vs ⟨#[]⟩,vi 0,vi 0,vi 0]),(8,.cells (Ae (Bs (plc s.ver) s (x.take i)).1)),(11,.ro (Aj x[i]))],Ab⟩ (Yi ⟨Z9,Z4,Fh,Tv⟩ ?_)
    refine Yi (Nz rfl) ?_;refine Xi .pure (Xi _ (Yi (Pl x[i]) ?_));refine Yi (Nz rfl) ?_;refine Xi ⟨[(3,.ref 3 0),(4,.ref 4 0),(6,vi (plc s.ver)),(8,.ref 8 0),(9,vi (Du (plc s.ver) s x[i])),(33,sl Aj x),(34,vi (x.map Aj).length),(35,vi i)],[(3,.ro (Ae s)),(4,.cells [vs ⟨#[]⟩,vi 0,vi 0,vi 0]),(8,.cells (Ae (CW x[i])))],Ab⟩ (Yi ⟨Z8,Z3,Fh,Tv⟩ ?_)
    refine Yi (Ii i (by omega)) ?_;have eN:=DH (here:=(plc s.ver)) (s:=s) n2;have e0:¬(x[i].path≠s.path∨x[i].yanked=true):=fun q=>q.elim (fun q=>q h4) (fun q=>by rw[h6]at q;cases q);have eS:DM (plc s.ver) s (Bs (plc s.ver) s (x.take i)) x[i]=(CW x[i],Du (plc s.ver) s x[i]):=(Ah e0).trans (Ao (by omega));rw[eS]at eN;refine Xi ⟨i+1,n2⟩ ?_;exact⟨Dl x.length i (by omega),⟨Zr,Zr,Zr,Zr,⟨(show vi (Du (plc s.ver) s x[i])=vi (Bs (plc s.ver) s (x.take (i+1))).2 by rw[eN]),rfl⟩,Zr,Zr,Zr,Tv⟩,⟨Zr,Zr,⟨(show HO.cells (Ae (CW x[i]))=.cells (Ae (Bs (plc s.ver) s (x.take (i+1))).1) by rw[eN]),rfl⟩,Tv⟩,Fh,Tv⟩
   have jQ:¬(((Bs (plc s.ver) s (x.take i)).2:Int)<((Du (plc s.ver) s x[i]):Int)):=jQ;refine Yi (fun qb=>?_) (fun qb=>?_)
   ·have qb:((Du (plc s.ver) s x[i]):Int)=(1:Int):=qb;refine Yi (fun qc=>?_) (fun qc=>?_)
    ·have qc:((Bs (plc s.ver) s (x.take i)).2:Int)=(1:Int):=qc;refine Xi ⟨[(3,.ref 3 0),(4,.ref 4 0),(6,vi (plc s.ver)),(8,.ref 8 0),(11,.ref 11 0),(14,vi (Du (plc s.ver) s x[i])),(33,sl Aj x),(34,vi (x.map Aj).length),(35,vi i)],[(3,.ro (Ae s)),(4,.cells [vs ⟨#[]⟩,vi 0,vi 0,vi 0]),(8,.cells (Ae (Bs (plc s.ver) s (x.take i)).1)),(11,.ro (Aj x[i]))],Ab⟩ (Yi ⟨Z9,Z4,Fh,Tv⟩ ?_)
     refine Yi (Nz rfl) ?_;refine Xi .pure (Xi _ (Yi (Pl x[i]) ?_));refine Yi (Nz rfl) ?_;refine Xi ⟨[(3,.ref 3 0),(4,.ref 4 0),(6,vi (plc s.ver)),(8,.ref 8 0),(9,vi (Du (plc s.ver) s x[i])),(33,sl Aj x),(34,vi (x.map Aj).length),(35,vi i)],[(3,.ro (Ae s)),(4,.cells [vs ⟨#[]⟩,vi 0,vi 0,vi 0]),(8,.cells (Ae (CW x[i])))],Ab⟩ (Yi ⟨Z8,Z3,Fh,Tv⟩ ?_)
     refine Yi (Ii i (by omega)) ?_;have eN:=DH (here:=(plc s.ver)) (s:=s) n2;have e0:¬(x[i].path≠s.path∨x[i].yanked=true):=fun q=>q.elim (fun q=>q h4) (fun q=>by rw[h6]at q;cases q);have eS:DM (plc s.ver) s (Bs (plc s.ver) s (x.take i)) x[i]=(CW x[i],Du (plc s.ver) s x[i]):=(Ah e0).trans (Ao (by omega));rw[eS]at eN;refine Xi ⟨i+1,n2⟩ ?_;exact⟨Dl x.length i (by omega),⟨Zr,Zr,Zr,Zr,⟨(show vi (Du (plc s.ver) s x[i])=vi (Bs (plc s.ver) s (x.take (i+1))).2 by rw[eN]),rfl⟩,Zr,Zr,Zr,Tv⟩,⟨Zr,Zr,⟨(show HO.cells (Ae (CW x[i]))=.cells (Ae (Bs (plc s.ver) s (x.take (i+1))).1) by rw[eN]),rfl⟩,Tv⟩,Fh,Tv⟩
    have qc:¬(((Bs (plc s.ver) s (x.take i)).2:Int)=(1:Int)):=qc;refine Xi ⟨[(3,.ref 3 0),(4,.ref 4 0),(6,vi (plc s.ver)),(8,.ref 8 0),(9,vi (Bs (plc s.ver) s (x.take i)).2),(33,sl Aj x),(34,vi (x.map Aj).length),(35,vi i)],[(3,.ro (Ae s)),(4,.cells [vs ⟨#[]⟩,vi 0,vi 0,vi 0]),(8,.cells (Ae (Bs (plc s.ver) s (x.take i)).1))],Ab⟩ (Yi ⟨Z8,Z3,Fh,Tv⟩ ?_)
    refine Yi (Ii i (by omega)) ?_;have eN:=DH (here:=(plc s.ver)) (s:=s) n2;have e0:¬(x[i].path≠s.path∨x[i].yanked=true):=fun q=>q.elim (fun q=>q h4) (fun q=>by rw[h6]at q;cases q);have eS:DM (plc s.ver) s (Bs (plc s.ver) s (x.take i)) x[i]=(Bs (plc s.ver) s (x.take i)):=(Ah e0).trans (Ah (by omega));rw[eS]at eN;refine Xi ⟨i+1,n2⟩ ?_;exact⟨Dl x.length i (by omega),⟨Zr,Zr,Zr,Zr,⟨(show vi (Bs (plc s.ver) s (x.take i)).2=vi (Bs (plc s.ver) s (x.take (i+1))).2 by rw[eN]),rfl⟩,Zr,Zr,Zr,Tv⟩,⟨Zr,Zr,⟨(show HO.cells (Ae (Bs (plc s.ver) s (x.take i)).1)=.cells (Ae (Bs (plc s.ver) s (x.take (i+1))).1) by rw[eN]),rfl⟩,Tv⟩,Fh,Tv⟩
   have qb:¬(((Du (plc s.ver) s x[i]):Int)=(1:Int)):=qb;refine Xi ⟨[(3,.ref 3 0),(4,.ref 4 0),(6,vi (plc s.ver)),(8,.ref 8 0),(9,vi (Bs (plc s.ver) s (x.take i)).2),(33,sl Aj x),(34,vi (x.map Aj).length),(35,vi i)],[(3,.ro (Ae s)),(4,.cells [vs ⟨#[]⟩,vi 0,vi 0,vi 0]),(8,.cells (Ae (Bs (plc s.ver) s (x.take i)).1))],Ab⟩ (Yi ⟨Z8,Z3,Fh,Tv⟩ ?_)
   refine Yi (Ii i (by omega)) ?_;have eN:=DH (here:=(plc s.ver)) (s:=s) n2;have e0:¬(x[i].path≠s.path∨x[i].yanked=true):=fun q=>q.elim (fun q=>q h4) (fun q=>by rw[h6]at q;cases q);have eS:DM (plc s.ver) s (Bs (plc s.ver) s (x.take i)) x[i]=(Bs (plc s.ver) s (x.take i)):=(Ah e0).trans (Ah (by omega));rw[eS]at eN;refine Xi ⟨i+1,n2⟩ ?_;exact⟨Dl x.length i (by omega),⟨Zr,Zr,Zr,Zr,⟨(show vi (Bs (plc s.ver) s (x.take i)).2=vi (Bs (plc s.ver) s (x.take (i+1))).2 by rw[eN]),rfl⟩,Zr,Zr,Zr,Tv⟩,⟨Zr,Zr,⟨(show HO.cells (Ae (Bs (plc s.ver) s (x.take i)).1)=.cells (Ae (Bs (plc s.ver) s (x.take (i+1))).1) by rw[eN]),rfl⟩,Tv⟩,Fh,Tv⟩
  have h8:¬(((plc s.ver):Int)<((plc x[i].ver):Int)):=h8;refine Xi ⟨[(3,.ref 3 0),(4,.ref 4 0),(6,vi (plc s.ver)),(8,.ref 8 0),(9,vi (Bs (plc s.ver) s (x.take i)).2),(11,.ref 11 0),(12,vi (plc x[i].ver)),(14,vi 0),(33,sl Aj x),(34,vi (x.map Aj).length),(35,vi i)],[(3,.ro (Ae s)),(4,.cells [vs ⟨#[]⟩,vi 0,vi 0,vi 0]),(8,.cells (Ae (Bs (plc s.ver) s (x.take i)).1)),(11,.ro (Aj x[i]))],Ab⟩ (Yi ⟨Z11,Z4,Fh,Tv⟩ ?_)
  refine Yi (fun hf=>absurd hf h8) (fun _=>?_);refine Yi (fun np=>?_) (fun np=>?_)
  ·have np:((plc x[i].ver):Int)<((plc s.ver):Int):=np;have eW:Du (plc s.ver) s x[i]=1:=by unfold Du;rw[Ah (by omega),Ao (by omega)]
   refine Xi ⟨[(3,.ref 3 0),(4,.ref 4 0),(6,vi (plc s.ver)),(8,.ref 8 0),(9,vi (Bs (plc s.ver) s (x.take i)).2),(11,.ref 11 0),(14,vi (Du (plc s.ver) s x[i])),(33,sl Aj x),(34,vi (x.map Aj).length),(35,vi i)],[(3,.ro (Ae s)),(4,.cells [vs ⟨#[]⟩,vi 0,vi 0,vi 0]),(8,.cells (Ae (Bs (plc s.ver) s (x.take i)).1)),(11,.ro (Aj x[i]))],Ab⟩ (Yi ⟨⟨Zr,Zr,Zr,Zr,Zr,Zr,⟨(show vi 1=vi (Du (plc s.ver) s x[i]) by rw[eW]),rfl⟩,Zr,Zr,Zr,Tv⟩,Z4,Fh,Tv⟩ ?_)
   refine Yi (fun qd=>?_) (fun qd=>?_)
   ·have qd:((Bs (plc s.ver) s (x.take i)).2:Int)<((Du (plc s.ver) s x[i]):Int):=qd;refine Xi ⟨[(3,.ref 3 0),(4,.ref 4 0),(6,vi (plc s.ver)),(8,.ref 8 0),(11,.ref 11 0),(14,vi (Du (plc s.ver) s x[i])),(33,sl Aj x),(34,vi (x.map Aj).length),(35,vi i)],[(3,.ro (Ae s)),(4,.cells [vs ⟨#[]⟩,vi 0,vi 0,vi 0]),(8,.cells (Ae (Bs (plc s.ver) s (x.take i)).1)),(11,.ro (Aj x[i]))],Ab⟩ (Yi ⟨Z9,Z4,Fh,Tv⟩ ?_)
    refine Yi (Nz rfl) ?_;refine Xi .pure (Xi _ (Yi (Pl x[i]) ?_));refine Yi (Nz rfl) ?_;refine Xi ⟨[(3,.ref 3 0),(4,.ref 4 0),(6,vi (plc s.ver)),(8,.ref 8 0),(9,vi (Du (plc s.ver) s x[i])),(33,sl Aj x),(34,vi (x.map Aj).length),(35,vi i)],[(3,.ro (Ae s)),(4,.cells [vs ⟨#[]⟩,vi 0,vi 0,vi 0]),(8,.cells (Ae (CW x[i])))],Ab⟩ (Yi ⟨Z8,Z3,Fh,Tv⟩ ?_)
    refine Yi (Ii i (by omega)) ?_;have eN:=DH (here:=(plc s.ver)) (s:=s) n2;have e0:¬(x[i].path≠s.path∨x[i].yanked=true):=fun q=>q.elim (fun q=>q h4) (fun q=>by rw[h6]at q;cases q);have eS:DM (plc s.ver) s (Bs (plc s.ver) s (x.take i)) x[i]=(CW x[i],Du (plc s.ver) s x[i]):=(Ah e0).trans (Ao (by omega));rw[eS]at eN;refine Xi ⟨i+1,n2⟩ ?_;exact⟨Dl x.length i (by omega),⟨Zr,Zr,Zr,Zr,⟨(show vi (Du (plc s.ver) s x[i])=vi (Bs (plc s.ver) s (x.take (i+1))).2 by rw[eN]),rfl⟩,Zr,Zr,Zr,Tv⟩,⟨Zr,Zr,⟨(show HO.cells (Ae (CW x[i]))=.cells (Ae (Bs (plc s.ver) s (x.take (i+1))).1) by rw[eN]),rfl⟩,Tv⟩,Fh,Tv⟩
   have qd:¬(((Bs (plc s.ver) s (x.take i)).2:Int)<((Du (plc s.ver) s x[i]):Int)):=qd;refine Yi (fun Ue=>?_) (fun Ue=>?_)
   ·have Ue:((Du (plc s.ver) s x[i]):Int)=(1:Int):=Ue;refine Yi (fun lK=>?_) (fun lK=>?_)
    ·have lK:((Bs (plc s.ver) s (x.take i)).2:Int)=(1:Int):=lK;refine Xi ⟨[(3,.ref 3 0),(4,.ref 4 0),(6,vi (plc s.ver)),(8,.ref 8 0),(11,.ref 11 0),(14,vi (Du (plc s.ver) s x[i])),(33,sl Aj x),(34,vi (x.map Aj).length),(35,vi i)],[(3,.ro (Ae s)),(4,.cells [vs ⟨#[]⟩,vi 0,vi 0,vi 0]),(8,.cells (Ae (Bs (plc s.ver) s (x.take i)).1)),(11,.ro (Aj x[i]))],Ab⟩ (Yi ⟨Z9,Z4,Fh,Tv⟩ ?_)
     refine Yi (Nz rfl) ?_;refine Xi .pure (Xi _ (Yi (Pl x[i]) ?_));refine Yi (Nz rfl) ?_;refine Xi ⟨[(3,.ref 3 0),(4,.ref 4 0),(6,vi (plc s.ver)),(8,.ref 8 0),(9,vi (Du (plc s.ver) s x[i])),(33,sl Aj x),(34,vi (x.map Aj).length),(35,vi i)],[(3,.ro (Ae s)),(4,.cells [vs ⟨#[]⟩,vi 0,vi 0,vi 0]),(8,.cells (Ae (CW x[i])))],Ab⟩ (Yi ⟨Z8,Z3,Fh,Tv⟩ ?_)
     refine Yi (Ii i (by omega)) ?_;have eN:=DH (here:=(plc s.ver)) (s:=s) n2;have e0:¬(x[i].path≠s.path∨x[i].yanked=true):=fun q=>q.elim (fun q=>q h4) (fun q=>by rw[h6]at q;cases q);have eS:DM (plc s.ver) s (Bs (plc s.ver) s (x.take i)) x[i]=(CW x[i],Du (plc s.ver) s x[i]):=(Ah e0).trans (Ao (by omega));rw[eS]at eN;refine Xi ⟨i+1,n2⟩ ?_;exact⟨Dl x.length i (by omega),⟨Zr,Zr,Zr,Zr,⟨(show vi (Du (plc s.ver) s x[i])=vi (Bs (plc s.ver) s (x.take (i+1))).2 by rw[eN]),rfl⟩,Zr,Zr,Zr,Tv⟩,⟨Zr,Zr,⟨(show HO.cells (Ae (CW x[i]))=.cells (Ae (Bs (plc s.ver) s (x.take (i+1))).1) by rw[eN]),rfl⟩,Tv⟩,Fh,Tv⟩
    have lK:¬(((Bs (plc s.ver) s (x.take i)).2:Int)=(1:Int)):=lK;refine Xi ⟨[(3,.ref 3 0),(4,.ref 4 0),(6,vi (plc s.ver)),(8,.ref 8 0),(9,vi (Bs (plc s.ver) s (x.take i)).2),(33,sl Aj x),(34,vi (x.map Aj).length),(35,vi i)],[(3,.ro (Ae s)),(4,.cells [vs ⟨#[]⟩,vi 0,vi 0,vi 0]),(8,.cells (Ae (Bs (plc s.ver) s (x.take i)).1))],Ab⟩ (Yi ⟨Z8,Z3,Fh,Tv⟩ ?_)
    refine Yi (Ii i (by omega)) ?_;have eN:=DH (here:=(plc s.ver)) (s:=s) n2;have e0:¬(x[i].path≠s.path∨x[i].yanked=true):=fun q=>q.elim (fun q=>q h4) (fun q=>by rw[h6]at q;cases q);have eS:DM (plc s.ver) s (Bs (plc s.ver) s (x.take i)) x[i]=(Bs (plc s.ver) s (x.take i)):=(Ah e0).trans (Ah (by omega));rw[eS]at eN;refine Xi ⟨i+1,n2⟩ ?_;exact⟨Dl x.length i (by omega),⟨Zr,Zr,Zr,Zr,⟨(show vi (Bs (plc s.ver) s (x.take i)).2=vi (Bs (plc s.ver) s (x.take (i+1))).2 by rw[eN]),rfl⟩,Zr,Zr,Zr,Tv⟩,⟨Zr,Zr,⟨(show HO.cells (Ae (Bs (plc s.ver) s (x.take i)).1)=.cells (Ae (Bs (plc s.ver) s (x.take (i+1))).1) by rw[eN]),rfl⟩,Tv⟩,Fh,Tv⟩
   have Ue:¬(((Du (plc s.ver) s x[i]):Int)=(1:Int)):=Ue;refine Xi ⟨[(3,.ref 3 0),(4,.ref 4 0),(6,vi (plc s.ver)),(8,.ref 8 0),(9,vi (Bs (plc s.ver) s (x.take i)).2),(33,sl Aj x),(34,vi (x.map Aj).length),(35,vi i)],[(3,.ro (Ae s)),(4,.cells [vs ⟨#[]⟩,vi 0,vi 0,vi 0]),(8,.cells (Ae (Bs (plc s.ver) s (x.take i)).1))],Ab⟩ (Yi ⟨Z8,Z3,Fh,Tv⟩ ?_)
   refine Yi (Ii i (by omega)) ?_;have eN:=DH (here:=(plc s.ver)) (s:=s) n2;have e0:¬(x[i].path≠s.path∨x[i].yanked=true):=fun q=>q.elim (fun q=>q h4) (fun q=>by rw[h6]at q;cases q);have eS:DM (plc s.ver) s (Bs (plc s.ver) s (x.take i)) x[i]=(Bs (plc s.ver) s (x.take i)):=(Ah e0).trans (Ah (by omega));rw[eS]at eN;refine Xi ⟨i+1,n2⟩ ?_;exact⟨Dl x.length i (by omega),⟨Zr,Zr,Zr,Zr,⟨(show vi (Bs (plc s.ver) s (x.take i)).2=vi (Bs (plc s.ver) s (x.take (i+1))).2 by rw[eN]),rfl⟩,Zr,Zr,Zr,Tv⟩,⟨Zr,Zr,⟨(show HO.cells (Ae (Bs (plc s.ver) s (x.take i)).1)=.cells (Ae (Bs (plc s.ver) s (x.take (i+1))).1) by rw[eN]),rfl⟩,Tv⟩,Fh,Tv⟩
  have np:¬(((plc x[i].ver):Int)<((plc s.ver):Int)):=np;have eW:Du (plc s.ver) s x[i]=0:=by unfold Du;rw[Ah (by omega),Ah (by omega)]
  refine Xi ⟨[(3,.ref 3 0),(4,.ref 4 0),(6,vi (plc s.ver)),(8,.ref 8 0),(9,vi (Bs (plc s.ver) s (x.take i)).2),(11,.ref 11 0),(14,vi (Du (plc s.ver) s x[i])),(33,sl Aj x),(34,vi (x.map Aj).length),(35,vi i)],[(3,.ro (Ae s)),(4,.cells [vs ⟨#[]⟩,vi 0,vi 0,vi 0]),(8,.cells (Ae (Bs (plc s.ver) s (x.take i)).1)),(11,.ro (Aj x[i]))],Ab⟩ (Yi ⟨⟨Zr,Zr,Zr,Zr,Zr,Zr,⟨(show vi 0=vi (Du (plc s.ver) s x[i]) by rw[eW]),rfl⟩,Zr,Zr,Zr,Tv⟩,Z4,Fh,Tv⟩ ?_)
  refine Yi (fun qe=>?_) (fun qe=>?_)
  ·have qe:((Bs (plc s.ver) s (x.take i)).2:Int)<((Du (plc s.ver) s x[i]):Int):=qe;refine Xi ⟨[(3,.ref 3 0),(4,.ref 4 0),(6,vi (plc s.ver)),(8,.ref 8 0),(11,.ref 11 0),(14,vi (Du (plc s.ver) s x[i])),(33,sl Aj x),(34,vi (x.map Aj).length),(35,vi i)],[(3,.ro (Ae s)),(4,.cells [vs ⟨#[]⟩,vi 0,vi 0,vi 0]),(8,.cells (Ae (Bs (plc s.ver) s (x.take i)).1)),(11,.ro (Aj x[i]))],Ab⟩ (Yi ⟨Z9,Z4,Fh,Tv⟩ ?_)
   refine Yi (Nz rfl) ?_;refine Xi .pure (Xi _ (Yi (Pl x[i]) ?_));refine Yi (Nz rfl) ?_;refine Xi ⟨[(3,.ref 3 0),(4,.ref 4 0),(6,vi (plc s.ver)),(8,.ref 8 0),(9,vi (Du (plc s.ver) s x[i])),(33,sl Aj x),(34,vi (x.map Aj).length),(35,vi i)],[(3,.ro (Ae s)),(4,.cells [vs ⟨#[]⟩,vi 0,vi 0,vi 0]),(8,.cells (Ae (CW x[i])))],Ab⟩ (Yi ⟨Z8,Z3,Fh,Tv⟩ ?_)
   refine Yi (Ii i (by omega)) ?_;have eN:=DH (here:=(plc s.ver)) (s:=s) n2;have e0:¬(x[i].path≠s.path∨x[i].yanked=true):=fun q=>q.elim (fun q=>q h4) (fun q=>by rw[h6]at q;cases q);have eS:DM (plc s.ver) s (Bs (plc s.ver) s (x.take i)) x[i]=(CW x[i],Du (plc s.ver) s x[i]):=(Ah e0).trans (Ao (by omega));rw[eS]at eN;refine Xi ⟨i+1,n2⟩ ?_;exact⟨Dl x.length i (by omega),⟨Zr,Zr,Zr,Zr,⟨(show vi (Du (plc s.ver) s x[i])=vi (Bs (plc s.ver) s (x.take (i+1))).2 by rw[eN]),rfl⟩,Zr,Zr,Zr,Tv⟩,⟨Zr,Zr,⟨(show HO.cells (Ae (CW x[i]))=.cells (Ae (Bs (plc s.ver) s (x.take (i+1))).1) by rw[eN]),rfl⟩,Tv⟩,Fh,Tv⟩
  have qe:¬(((Bs (plc s.ver) s (x.take i)).2:Int)<((Du (plc s.ver) s x[i]):Int)):=qe;refine Yi (fun qf=>?_) (fun qf=>?_)
  ·have qf:((Du (plc s.ver) s x[i]):Int)=(1:Int):=qf;refine Yi (fun jS=>?_) (fun jS=>?_)
   ·have jS:((Bs (plc s.ver) s (x.take i)).2:Int)=(1:Int):=jS;refine Xi ⟨[(3,.ref 3 0),(4,.ref 4 0),(6,vi (plc s.ver)),(8,.ref 8 0),(11,.ref 11 0),(14,vi (Du (plc s.ver) s x[i])),(33,sl Aj x),(34,vi (x.map Aj).length),(35,vi i)],[(3,.ro (Ae s)),(4,.cells [vs ⟨#[]⟩,vi 0,vi 0,vi 0]),(8,.cells (Ae (Bs (plc s.ver) s (x.take i)).1)),(11,.ro (Aj x[i]))],Ab⟩ (Yi ⟨Z9,Z4,Fh,Tv⟩ ?_)
    refine Yi (Nz rfl) ?_;refine Xi .pure (Xi _ (Yi (Pl x[i]) ?_));refine Yi (Nz rfl) ?_;refine Xi ⟨[(3,.ref 3 0),(4,.ref 4 0),(6,vi (plc s.ver)),(8,.ref 8 0),(9,vi (Du (plc s.ver) s x[i])),(33,sl Aj x),(34,vi (x.map Aj).length),(35,vi i)],[(3,.ro (Ae s)),(4,.cells [vs ⟨#[]⟩,vi 0,vi 0,vi 0]),(8,.cells (Ae (CW x[i])))],Ab⟩ (Yi ⟨Z8,Z3,Fh,Tv⟩ ?_)
    refine Yi (Ii i (by omega)) ?_;have eN:=DH (here:=(plc s.ver)) (s:=s) n2;have e0:¬(x[i].path≠s.path∨x[i].yanked=true):=fun q=>q.elim (fun q=>q h4) (fun q=>by rw[h6]at q;cases q);have eS:DM (plc s.ver) s (Bs (plc s.ver) s (x.take i)) x[i]=(CW x[i],Du (plc s.ver) s x[i]):=(Ah e0).trans (Ao (by omega));rw[eS]at eN;refine Xi ⟨i+1,n2⟩ ?_;exact⟨Dl x.length i (by omega),⟨Zr,Zr,Zr,Zr,⟨(show vi (Du (plc s.ver) s x[i])=vi (Bs (plc s.ver) s (x.take (i+1))).2 by rw[eN]),rfl⟩,Zr,Zr,Zr,Tv⟩,⟨Zr,Zr,⟨(show HO.cells (Ae (CW x[i]))=.cells (Ae (Bs (plc s.ver) s (x.take (i+1))).1) by rw[eN]),rfl⟩,Tv⟩,Fh,Tv⟩
   have jS:¬(((Bs (plc s.ver) s (x.take i)).2:Int)=(1:Int)):=jS;refine Xi ⟨[(3,.ref 3 0),(4,.ref 4 0),(6,vi (plc s.ver)),(8,.ref 8 0),(9,vi (Bs (plc s.ver) s (x.take i)).2),(33,sl Aj x),(34,vi (x.map Aj).length),(35,vi i)],[(3,.ro (Ae s)),(4,.cells [vs ⟨#[]⟩,vi 0,vi 0,vi 0]),(8,.cells (Ae (Bs (plc s.ver) s (x.take i)).1))],Ab⟩ (Yi ⟨Z8,Z3,Fh,Tv⟩ ?_)
   refine Yi (Ii i (by omega)) ?_;have eN:=DH (here:=(plc s.ver)) (s:=s) n2;have e0:¬(x[i].path≠s.path∨x[i].yanked=true):=fun q=>q.elim (fun q=>q h4) (fun q=>by rw[h6]at q;cases q);have eS:DM (plc s.ver) s (Bs (plc s.ver) s (x.take i)) x[i]=(Bs (plc s.ver) s (x.take i)):=(Ah e0).trans (Ah (by omega));rw[eS]at eN;refine Xi ⟨i+1,n2⟩ ?_;exact⟨Dl x.length i (by omega),⟨Zr,Zr,Zr,Zr,⟨(show vi (Bs (plc s.ver) s (x.take i)).2=vi (Bs (plc s.ver) s (x.take (i+1))).2 by rw[eN]),rfl⟩,Zr,Zr,Zr,Tv⟩,⟨Zr,Zr,⟨(show HO.cells (Ae (Bs (plc s.ver) s (x.take i)).1)=.cells (Ae (Bs (plc s.ver) s (x.take (i+1))).1) by rw[eN]),rfl⟩,Tv⟩,Fh,Tv⟩
  have qf:¬(((Du (plc s.ver) s x[i]):Int)=(1:Int)):=qf;refine Xi ⟨[(3,.ref 3 0),(4,.ref 4 0),(6,vi (plc s.ver)),(8,.ref 8 0),(9,vi (Bs (plc s.ver) s (x.take i)).2),(33,sl Aj x),(34,vi (x.map Aj).length),(35,vi i)],[(3,.ro (Ae s)),(4,.cells [vs ⟨#[]⟩,vi 0,vi 0,vi 0]),(8,.cells (Ae (Bs (plc s.ver) s (x.take i)).1))],Ab⟩ (Yi ⟨Z8,Z3,Fh,Tv⟩ ?_)
  refine Yi (Ii i (by omega)) ?_;have eN:=DH (here:=(plc s.ver)) (s:=s) n2;have e0:¬(x[i].path≠s.path∨x[i].yanked=true):=fun q=>q.elim (fun q=>q h4) (fun q=>by rw[h6]at q;cases q);have eS:DM (plc s.ver) s (Bs (plc s.ver) s (x.take i)) x[i]=(Bs (plc s.ver) s (x.take i)):=(Ah e0).trans (Ah (by omega));rw[eS]at eN;refine Xi ⟨i+1,n2⟩ ?_;exact⟨Dl x.length i (by omega),⟨Zr,Zr,Zr,Zr,⟨(show vi (Bs (plc s.ver) s (x.take i)).2=vi (Bs (plc s.ver) s (x.take (i+1))).2 by rw[eN]),rfl⟩,Zr,Zr,Zr,Tv⟩,⟨Zr,Zr,⟨(show HO.cells (Ae (Bs (plc s.ver) s (x.take i)).1)=.cells (Ae (Bs (plc s.ver) s (x.take (i+1))).1) by rw[eN]),rfl⟩,Tv⟩,Fh,Tv⟩
 have h2:¬((i:Int)<((x.map Aj).length:Int)):=h2;have n2:=LB h2;refine Yi (fun jT=>?_) (fun jT=>?_)
 ·have jT:((Bs (plc s.ver) s (x.take i)).2:Int)=(0:Int):=jT;refine Yi (Nz rfl) ?_;refine Yi (Nz rfl) ?_;have ei:x.take i=x:=AE (by omega);have eE:Me x s=if(Bs (plc s.ver) s x).2=0 then 6 else 0:=Ah hv
  have hz:=jT;rw[ei]at hz;exact .of_eq (show AV.tup [.agg (Ae su),vi 6]=.tup [.agg (Ae (Pa x s)),vi (Me x s)] by rw[Pa,eE,Ao hz];rfl)
 have jT:¬(((Bs (plc s.ver) s (x.take i)).2:Int)=(0:Int)):=jT;refine Yi (Nz rfl) ?_;refine Yi (Nz rfl) ?_;refine Yi (Nz rfl) ?_;have ei:x.take i=x:=AE (by omega);have eE:Me x s=if(Bs (plc s.ver) s x).2=0 then 6 else 0:=Ah hv
 have hz:=jT;rw[ei]at hz;exact .of_eq (show AV.tup [.agg (Ae (Bs (plc s.ver) s (x.take i)).1),vi 0]=.tup [.agg (Ae (Pa x s)),vi (Me x s)] by rw[ei,Pa,eE,Ah hz];rfl)
theorem r5(x:List Rl)(ifs:List (List AV))(s:Sl)(hl:CM x)(k:Int)(PF:k≠0)(hE:Me x s=1)(hk:PC 37 [F5 x ifs] (vi k)):PC 14 [.agg (Ic x ifs),.agg (Ae s)] (.tup [.agg (Ae (Pa x s)),vi (Me x s)]):=by
 have hl:x.length≤1073741824:=hl;refine Ps ⟨[2,3,11],[],[],[],[],[],[],[],[],[],[2,3,5,9,12,13,17,18,19]⟩ Tryz.func14 rfl (Nz rfl) ?_;refine Yi (Nz rfl) ?_;refine Xi .pure (Xi _ (Yi hk ?_));refine Yi (fun h1=>?_) (fun h1=>?_)
 ·have h1:(k:Int)≠(0:Int):=h1;refine Xi ⟨[(4,.ref 4 0)],[(4,.cells [vs ⟨#[]⟩,vi 0,vi 0,vi 0])],Ab⟩ (Yi ⟨Z1,Z1,Fh,Tv⟩ ?_)
  refine Yi (Nz rfl) ?_;refine Yi (Nz rfl) ?_;exact .of_eq (show AV.tup [.agg (Ae su),vi 1]=.tup [.agg (Ae (Pa x s)),vi (Me x s)] by rw[Pa,show Me x s=1 from hE];rfl)
 have h1:(k:Int)=(0:Int):=A4 h1;exact absurd h1 PF
theorem r6(x:List Rl)(ifs:List (List AV))(s:Sl)(hl:CM x)(k:Int)(PF:k=0)(hE:Me x s=1)(hk:PC 37 [F5 x ifs] (vi k))(hV:PC 38 [.agg (GE s.ver)] (vb false)):PC 14 [.agg (Ic x ifs),.agg (Ae s)] (.tup [.agg (Ae (Pa x s)),vi (Me x s)]):=by
 have hl:x.length≤1073741824:=hl;refine Ps ⟨[2,3,11],[],[],[],[],[],[],[],[],[],[2,3,5,9,12,13,17,18,19]⟩ Tryz.func14 rfl (Nz rfl) ?_;refine Yi (Nz rfl) ?_;refine Xi .pure (Xi _ (Yi hk ?_));refine Yi (fun h1=>?_) (fun h1=>?_)
 ·have h1:(k:Int)≠(0:Int):=h1;exact absurd PF h1
 have h1:(k:Int)=(0:Int):=A4 h1;refine Yi (Nz rfl) ?_;refine Xi .pure (Xi _ (Yi hV ?_));refine Xi ⟨[(4,.ref 4 0)],[(4,.cells [vs ⟨#[]⟩,vi 0,vi 0,vi 0])],Ab⟩ (Yi ⟨Z1,Z1,Fh,Tv⟩ ?_)
 refine Yi (Nz rfl) ?_;refine Yi (Nz rfl) ?_;exact .of_eq (show AV.tup [.agg (Ae su),vi 1]=.tup [.agg (Ae (Pa x s)),vi (Me x s)] by rw[Pa,show Me x s=1 from hE];rfl)
theorem r4{x:List Rl}(ifs:List (List AV))(s:Sl)(h:IL x):PC 14 [F5 x ifs,.agg (Ae s)] (.tup [.agg (Ae (Pa x s)),vi (Me x s)]):=by
 have hk:=jC Ua x ifs h.few;have hl:CM x:=Br h.len (by decide);have hV:=mP s.ver
 by_cases h0:AQ x=0
 ·cases hv:Cs s.ver with
  |true =>
   rw[hv]at hV;exact r7 x ifs s hl _ h0 (fun q=>q.elim (fun q=>q h0) (fun q=>by rw[hv]at q;cases q)) hk hV (sq s.ver)
  |false =>
   rw[hv]at hV;exact r6 x ifs s hl _ h0 (Ao (.inr hv)) hk hV
 ·exact r5 x ifs s hl _ h0 (Ao (.inl h0)) hk
end Go.Eng
