/- Lemmas 30. -/
import Derived.Test.YteaiieomnhbmgaaGreatDoorAA29
import Derived.Test.YteaiieomnhbmgaaGreatDoorAA04
set_option maxHeartbeats 4000000
namespace Go.Eng
variable {t:List ByteArray}{l m:List Sl}
theorem fX:∀{x y:List UInt8},IY x y=true->x<y
 |x,[],h=>by cases x<;>cases h
 | [],b::y,_=>by simp
 |a::x,b::y,h=>by
  unfold IY at h;rw[List.cons_lt_cons_iff];rcases CN _ _▸h with h | h
  .exact .inl (AU h)
  .obtain⟨h1,h2⟩:=Bool.and_eq_true_iff.1 h;exact .inr ⟨AU h1,fX h2⟩
section
variable {α:Type}[Inhabited α][DecidableEq α]
theorem PV{R:α->α->Prop}(hR:∀a b c,R a b->R b c->R a c)(xs:List α)(hs:∀i j,(hi:i<xs.length)->(hj:j<xs.length)->i<j->xs[i]=xs[j]\/R xs[i] xs[j]):∀m,m<=xs.length ->
  (Lib.compactUpTo xs.toArray m).Pairwise R/\(∀a,a∈Lib.compactUpTo xs.toArray m↔a∈xs.take m)
 |0,_=>by simp[Lib.compactUpTo]
 |m+1,h=>by
  obtain⟨h1,h2⟩:=PV hR xs hs m ch;have hg:xs.toArray[m]! = xs[m]' ch:=by simp[show m<xs.length by omega]
  rw[Lib.compactUpTo_succ,hg,Bj,Ge ch]
  by_cases hk:Lib.keeps xs.toArray m=true
  .rw[Al hk];refine⟨?_,fun a=>by rw[AO,AO,h2];simp⟩;rw[List.pairwise_append];refine⟨h1,List.pairwise_singleton _ _,fun a ha b hb=>?_⟩;rw[Ar.1 hb];have ha:=(h2 a).1 ha;obtain⟨j,hj,rfl⟩:=Ck.1 ha;rw[Au]at hj;rw[GU];unfold Lib.keeps at hk;have hk:=AU hk;rcases hk with hk | hk
   .omega
   .have TL : xs.toArray[m-1]! = xs[m-1]' ch:=by simp[show m-1<xs.length by omega]
    rw[hg,TL]at hk;have s1:R (xs[m-1]' ch) (xs[m]' ch):=(hs (m-1) m ch ch ch).elim (fun e=>absurd e.symm hk) id
    by_cases e:j=m-1
    .subst e;exact s1
    .rcases hs j (m-1) ch ch ch with q | q
     .rw[q];exact s1
     .exact hR _ _ _ q s1
  .rw[Aj hk,BP];refine⟨h1,fun a=>?_⟩;rw[h2,AO];refine⟨.inl,fun q=>q.elim id fun q=>?_⟩;have q:a=xs[m]:=by simpa using q
   subst q;have hk:¬(m=0\/xs.toArray[m]!≠xs.toArray[m-1]!):=fun q=>hk (Ay q);have m0:0<m:=Nat.pos_of_ne_zero fun e=>hk (.inl e);have e:xs.toArray[m]! = xs.toArray[m-1]!:=AJ fun e=>hk (.inr e);have TL : xs.toArray[m-1]! = xs[m-1]' ch:=by simp[show m-1<xs.length by omega]
   rw[hg,TL]at e;rw[e];exact Ck.2 ⟨m-1,by rw[Au];omega,by rw[GU]⟩
end
theorem lN(ht:(t.map KP).Pairwise fun a b=>a<=b):(Cm t).Pairwise (fun a b=>Ek a b=true)/\∀p,p∈Cm t↔p∈t:=by
 have hc:=PV (R:=fun a b=>IY a b=true) (fun a b c=>Pf) (t.map KP) (fun i j hi hj Qs=>by
  have h:=(AY.1 ht) i j hi hj Qs;cases e:IY (t.map KP)[i] (t.map KP)[j]with
  |true=>exact .inr rfl
  |false=>
   cases e2:IY (t.map KP)[j] (t.map KP)[i]with
   |true=>exact absurd (fX e2) (by simpa using h)
   |false=>exact .inl (Vk e e2)) (t.map KP).length (Ak _)
 rw[B7]at hc;have e:Cm t=(Lib.compactUpTo (t.map KP).toArray (t.map KP).length).map SB:=rfl;rw[e];refine⟨?_,fun p=>?_⟩
 .rw[Lx];exact hc.1.imp fun {a b} h=>by show IY (SB a).data.toList (SB b).data.toList=true;exact h
 .rw[Ai];constructor
  .rintro⟨a,ha,rfl⟩
   obtain⟨q,hq,rfl⟩:=Ai.1 ((hc.2 a).1 ha)
   have:SB (KP q)=q:=by cases q;simp
   rw[this];exact hq
  .intro hp;exact⟨KP p,(hc.2 _).2 (List.mem_map_of_mem hp),by cases p;simp⟩
abbrev vf(p:ByteArray)(f t:Int):List Mv:=if f≠t then [⟨p,f,t⟩]else []
def rm:List Sl->List Sl->List Mv
 | [],[]=>[]
 |a::l,[]=>vf a.path (place a.ver) (-1)++rm l []
 | [],b::m=>vf b.path (-1) (place b.ver)++rm [] m
 |a::l,b::m=>if a.path=b.path then vf a.path (place a.ver) (place b.ver)++rm l m else if Ek a.path b.path=true then vf a.path (place a.ver) (-1)++rm l (b::m)else vf b.path (-1) (place b.ver)++rm (a::l) m
termination_by l m=>l.length+m.length
def mp:List Sl->List Sl->List ByteArray
 | [],[]=>[]
 |a::l,[]=>a.path::mp l []
 | [],b::m=>b.path::mp [] m
 |a::l,b::m=>if a.path=b.path then a.path::mp l m else if Ek a.path b.path=true then a.path::mp l (b::m)else b.path::mp (a::l) m
termination_by l m=>l.length+m.length
theorem GD(a:Sl)(l:List Sl)(p:ByteArray):Jr (a::l) p=if a.path=p then place a.ver else Jr l p:=by
 unfold Jr B1;rw[Fp]
 by_cases h:a.path=p
 .simp[h]
 .simp[h]
theorem IC{l' m':List Sl}{ps:List ByteArray}(h1:∀p∈ps,Jr l p=Jr l' p)(h2:∀p∈ps,Jr m p=Jr m' p):IB l m ps=IB l' m' ps:=
 (by
  induction ps with
  |nil=>rfl
  |cons p ps ih=>
   show(p::ps).filterMap _=(p::ps).filterMap _;rw[List.filterMap_cons,List.filterMap_cons,show JB l m p=JB l' m' p from by unfold JB;rw[h1 p (Ab ..),h2 p (Ab ..)],show ps.filterMap (JB l m)=ps.filterMap (JB l' m')from ih (fun q hq=>h1 q (Ah _ hq)) (fun q hq=>h2 q (Ah _ hq))])
theorem Jo(l m:List Sl)(p:ByteArray)(ps:List ByteArray):IB l m (p::ps)=vf p (Jr l p) (Jr m p)++IB l m ps:=by
 unfold IB vf;rw[List.filterMap_cons];unfold JB
 by_cases h:Jr l p=Jr m p
 .simp[h]
 .simp[h]
theorem TV{p:ByteArray}(h:∀s∈l,s.path≠p):Jr l p=-1:=by
 unfold Jr B1;rw[DZ.2 fun s hs=>by simpa using h s hs]
theorem Vr(l m:List Sl)(hl:l.Pairwise Vl)(hm:m.Pairwise Vl):(mp l m).Pairwise (fun a b=>Ek a b=true)/\(∀p,p∈mp l m↔p∈l.map (·.path)\/p∈m.map (·.path))/\rm l m=IB l m (mp l m):=by
 match l,m with
 | [],[]=>unfold mp rm;simp
 |a::l,[]=>
  obtain⟨a1,a2⟩:=BR.1 hl;obtain⟨h1,h2,h3⟩:=Vr l [] a2 hm;have lt:∀p∈mp l [],Ek a.path p=true:=fun p hp=>by
   have:=(h2 p).1 hp
   rcases this with q | q
   .obtain⟨s,hs,rfl⟩:=Ai.1 q;exact a1 s hs
   .cases q
  unfold mp rm;refine⟨BR.2 ⟨lt,h1⟩,fun p=>by simp[h2],?_⟩;rw[Jo,h3,GD,Al rfl]
  congr 1
  exact IC (fun p hp=>by rw[GD,Aj (IU (lt p hp))]) fun _ _=>rfl
 | [],b::m=>
  obtain⟨a1,a2⟩:=BR.1 hm;obtain⟨h1,h2,h3⟩:=Vr [] m hl a2;have lt:∀p∈mp [] m,Ek b.path p=true:=fun p hp=>by
   have:=(h2 p).1 hp
   rcases this with q | q
   .cases q
   .obtain⟨s,hs,rfl⟩:=Ai.1 q;exact a1 s hs
  unfold mp rm;refine⟨BR.2 ⟨lt,h1⟩,fun p=>by simp[h2],?_⟩;rw[Jo,h3,GD,Al rfl]
  congr 1
  exact IC (fun _ _=>rfl) fun p hp=>by rw[GD,Aj (IU (lt p hp))]
 |a::l,b::m=>
  obtain⟨a1,a2⟩:=BR.1 hl;obtain⟨b1,b2⟩:=BR.1 hm;unfold mp rm
  by_cases e:a.path=b.path
  .rw[Al e,Al e];obtain⟨h1,h2,h3⟩:=Vr l m a2 b2;have lt:∀p∈mp l m,Ek a.path p=true:=fun p hp=>by
    rcases(h2 p).1 hp with q | q
    .obtain⟨s,hs,rfl⟩:=Ai.1 q;exact a1 s hs
    .obtain⟨s,hs,rfl⟩:=Ai.1 q;rw[e];exact b1 s hs
   refine⟨BR.2 ⟨lt,h1⟩,fun p=>?_,?_⟩
   .simp only[AA,h2,AK,e];constructor
    .rintro(q | q | q)
     .exact .inl (.inl q)
     .exact .inl (.inr q)
     .exact .inr (.inr q)
    .rintro((q | q) | (q | q))
     .exact .inl q
     .exact .inr (.inl q)
     .exact .inl q
     .exact .inr (.inr q)
   .rw[Jo,h3,GD,Al rfl,GD,Al e.symm]
    congr 1
    exact IC (fun p hp=>by rw[GD,Aj (IU (lt p hp))]) fun p hp=>by rw[GD,Aj (by rw[<-e];exact IU (lt p hp))]
  .rw[Aj e,Aj e]
   by_cases c:Ek a.path b.path=true
   .rw[Al c,Al c];obtain⟨h1,h2,h3⟩:=Vr l (b::m) a2 hm;have la:∀s∈b::m,Ek a.path s.path=true:=fun s hs=>by
     rcases AA.1 hs with rfl | hs
     .exact c
     .exact Ed c (b1 s hs)
    have lt:∀p∈mp l (b::m),Ek a.path p=true:=fun p hp=>by
     rcases(h2 p).1 hp with q | q
     .obtain⟨s,hs,rfl⟩:=Ai.1 q;exact a1 s hs
     .obtain⟨s,hs,rfl⟩:=Ai.1 q;exact la s hs
    refine⟨BR.2 ⟨lt,h1⟩,fun p=>by rw[AA,h2,AK,AA,AK (l:=l),AA (l:=l.map _),or_assoc],?_⟩;rw[Jo,h3,GD,Al rfl,TV (l:=b::m) fun s hs=>(IU (la s hs)).symm]
    congr 1
    exact IC (fun p hp=>by rw[GD,Aj (IU (lt p hp))]) fun _ _=>rfl
   .rw[Aj c,Aj c];have c' : Ek b.path a.path=true:=by
     cases q:Ek b.path a.path with
     |true=>rfl
     |false=>exact absurd (Ir (by simpa using c) q) e
    obtain⟨h1,h2,h3⟩:=Vr (a::l) m hl b2;have la:∀s∈a::l,Ek b.path s.path=true:=fun s hs=>by
     rcases AA.1 hs with rfl | hs
     .exact c'
     .exact Ed c' (a1 s hs)
    have lt:∀p∈mp (a::l) m,Ek b.path p=true:=fun p hp=>by
     rcases(h2 p).1 hp with q | q
     .obtain⟨s,hs,rfl⟩:=Ai.1 q;exact la s hs
     .obtain⟨s,hs,rfl⟩:=Ai.1 q;exact b1 s hs
    refine⟨BR.2 ⟨lt,h1⟩,fun p=>?_,?_⟩
    .rw[AA,h2,AK,AK,AA,AA];constructor
     .rintro(q | q | q)
      .exact .inr (.inl q)
      .exact .inl q
      .exact .inr (.inr q)
     .rintro(q | q | q)
      .exact .inr (.inl q)
      .exact .inl q
      .exact .inr (.inr q)
    .rw[Jo,h3,TV (l:=a::l) fun s hs=>(IU (la s hs)).symm,GD b m,Al rfl]
     congr 1
     exact IC (fun _ _=>rfl) fun p hp=>by rw[GD b m,Aj (IU (lt p hp))]
termination_by l.length+m.length
theorem bw(hl:IP l)(hm:IP m)(hp:t.Perm ((l++m).map (·.path)))(ht:(t.map KP).Pairwise fun a b=>a<=b):IB l m (Cm t)=rm l m:=by
 obtain⟨h1,h2,h3⟩:=Vr l m hl.inc hm.inc;obtain⟨c1,c2⟩:=lN ht;rw[h3]
 congr 1
 refine List.Perm.eq_of_pairwise (le:=fun a b=>Ek a b=true) (fun a b _ _ x y=>?_) c1 h1 ?_
 .rw[NL x]at y;cases y
 .refine(PB (c1.imp fun h=>IU h) (h1.imp fun h=>IU h)).2 fun p=>?_;rw[c2,h2,hp.mem_iff,As,AO]
end Go.Eng
namespace Go.Eng
open Go.Proofs
end Go.Eng
namespace Go.Eng
end Go.Eng
namespace Go.Eng
open Go.Proofs
variable {caps:List AV}{i fF:Nat}(x:List Rl)(ifs:List (List AV))(lim:Int)(l s:List Sl)(q:Rq)(y:Sl)(m:List Sl)
theorem wD(v:Ver):PC 67 [.agg (DO v)] (.tup [vi (plc v),vi (if Cw v then 0 else 2)]):=wK v
def zeR:Rl:=⟨⟨#[]⟩,⟨0,0,0⟩,[],⟨#[]⟩,⟨#[]⟩,⟨#[]⟩,false⟩
def G7:Rl:=(Dj x y).getD zeR
abbrev XY:Value×AV:=(Value.string y.path,AV.agg (AF (G7 x y)))
abbrev CM:List (Value×AV):=s.map (XY x)
def OD:Int:=if A5 x=0 then if E9 s=true then if s.all (fun y=>(Dj x y).isSome)=true then 0 else 6 else 1 else 1
def QW:Bool:=match B1 s q.path with
 |some y=>has q.set (plc (G7 x y).ver)
 |none=>false
def c8:Bool:=s.all fun y=>(G7 x y).reqs.all (QW x s)
def Fs:Int:=if OD x s=0 then if c8 x s=true then 0 else 17 else OD x s
theorem JZ{s:List Sl}(h:E9 s=true):s.Pairwise Vl:=by
 rw[Ko]at h;rw[AY];intro i j hi hj Qs;show Ek s[i].path s[j].path=true
 induction j with
 |zero=>omega
 |succ j ih=>
  have q:=h (j+1) hj ch
  by_cases e:i=j
  .subst e;exact q
  .exact Ed (ih ch ch) q
theorem rN{x:List Rl}{s:List Sl}(h:s.Pairwise Vl)(hi:i<s.length):∀b,(Value.string s[i].path,b)∉CM x (s.take i):=fun b hb=>by
 obtain⟨t,ht,e⟩:=Ai.1 hb;obtain⟨j,hj,rfl⟩:=Ck.1 ht;rw[GU]at e;rw[Au]at hj;have q:=(AY.1 h) j i ch hi ch;have e2:s[j].path=s[i].path:=by injection e with e1;injection e1
 rw[Vl,e2,Dn]at q;cases q
theorem kc{x:List Rl}{s:List Sl}(h:s.Pairwise Vl)(hi:i<s.length):Fa (CM x (s.take i)) (.string s[i].path) (.agg (AF (G7 x s[i])))=CM x (s.take (i+1)):=by
 rw[I0 (rN h hi),Ew hi];unfold CM;rw[As];rfl
theorem XZ{x:List Rl}{s:List Sl}(h:s.Pairwise Vl){p:ByteArray}{y:Sl}(hy:B1 s p=some y):(Value.string p,AV.agg (AF (G7 x y)))∈CM x s/\∀b,(Value.string p,b)∈CM x s->b=AV.agg (AF (G7 x y)):=by
 have h1:=DT hy;have e1:y.path=p:=AU h1;refine⟨Ai.2 ⟨y,BG hy,by rw[<-e1]⟩,fun b hb=>?_⟩;obtain⟨t,ht,e⟩:=Ai.1 hb;have e2:t.path=p:=by injection e with e1;injection e1
 have e3:AV.agg (AF (G7 x t))=b:=by injection e
 have e4:B1 s p=some t:=by unfold B1;rw[<-e2];exact Ki (RJ ocP h) ht
 rw[hy]at e4;rw[<-e3,CO e4]
theorem kd{x:List Rl}{s:List Sl}{p:ByteArray}(h:B1 s p=none):∀b,(Value.string p,b)∉CM x s:=fun b hb=>by
 obtain⟨t,ht,e⟩:=Ai.1 hb;have e2:t.path=p:=by injection e with e1;injection e1
 exact absurd (Ay e2) (DZ.1 h t ht)
theorem wq(hs:s.Pairwise Vl)(hy:B1 s q.path=some y)(hq:Cb q.set):PC 129 [.cmap Cq (CM x s),.agg (Bb q)] (vb (has q.set (plc (G7 x y).ver))):=by
 refine Ps (pC [3] []) Tryz.func129 rfl (Nz rfl) (Yi (fun a ha=>?_) (fun Od=>absurd (XZ hs hy).1 (Od _)));have ea:=(XZ hs hy).2 a ha;subst ea;refine yN (yN (Xi .pure (Xi _ (Yi (wD (G7 x y).ver) (Cf (Bt (has q.set (plc (G7 x y).ver))) (fun h1=>?_) (fun h1=>?_))))))
 .have h1:(has q.set (plc (G7 x y).ver))=true:=h1;refine Xi .pure (Xi _ (Yi (cb h1 (lz q.set (plc (G7 x y).ver) hq)) ?_));exact CV.of_eq (Aa vb h1.symm)
 have h1:(has q.set (plc (G7 x y).ver))=false:=h1;refine Xi .pure (Xi _ (Yi (cb h1 (lz q.set (plc (G7 x y).ver) hq)) ?_));exact CV.of_eq (Aa vb h1.symm)
theorem wo(hy:B1 s q.path=none)(_hq:Cb q.set):PC 129 [.cmap Cq (CM x s),.agg (Bb q)] (vb false):=by
 refine Ps (pC [3] []) Tryz.func129 rfl (Nz rfl) (Yi (fun a ha=>absurd ha (kd hy a)) (fun _=>?_));refine yN (yN (Xi .pure (Xi _ (Yi (wD ⟨0,0,0⟩) ?_))));exact .refl _
theorem th(hs:s.Pairwise Vl)(hq:Cb q.set):PC 129 [.cmap Cq (CM x s),.agg (Bb q)] (vb (QW x s q)):=by
 cases e:B1 s q.path with
 |some y=>rw[QW,e];exact wq x s q y hs e hq
 |none=>rw[QW,e];exact wo x s q e hq
theorem gU(hs:s.Pairwise Vl)(hq:Cb q.set):PC 128 [.agg (Bb q),.cptr [.cmap Cq (CM x s)]] (vb (!QW x s q)):=by
 refine Ps El Tryz.func128 rfl (Nz rfl) (yN (Cf (Bt (QW x s q)) (fun h1=>?_) (fun h1=>?_)))
 .have h1:(QW x s q)=true:=h1;refine Xi .pure (Xi _ (Yi (cb h1 (th x s q hs hq)) ?_));exact CV.of_eq (Aa vb (show false=!QW x s q by rw[h1];rfl))
 have h1:(QW x s q)=false:=h1;refine Xi .pure (Xi _ (Yi (cb h1 (th x s q hs hq)) ?_));exact CV.of_eq (Aa vb (show true=!QW x s q by rw[h1];rfl))
def nA:AV:=if OD x s=0 then .tup [.cmap Cq (CM x s),vi 0]else .tup [.v (.map none),vi (OD x s)]
theorem qJ{s:List Sl}(h:∀j (hj:j<s.length),0<j->j<i->Ek (s[j-1]' ch).path s[j].path=true)(hi:s.length<=i):E9 s=true:=
 (Ko s).2 fun j hj h0=>h j hj h0 ch
theorem qK{s:List Sl}(hi:i<s.length)(h0:0<i)(h:Ek (s[i-1]' ch).path s[i].path=false):¬E9 s=true:=fun e=>by
 have q:=(Ko s).1 e i hi h0;rw[h]at q;cases q
theorem kZ{x:List Rl}{s:List Sl}(h:∀j (hj:j<s.length),j<i->(Dj x s[j]).isSome=true)(hi:s.length<=i):s.all (fun y=>(Dj x y).isSome)=true:=by
 rw[Bd];intro y hy;obtain⟨j,hj,rfl⟩:=Ck.1 hy;exact h j hj ch
theorem pO{x:List Rl}{s:List Sl}(hi:i<s.length)(h:Dj x s[i]=none):¬s.all (fun y=>(Dj x y).isSome)=true:=fun e=>by
 have q:=Bd.1 e _ (Aq hi);rw[h]at q;cases q
theorem Aah(hx:∀r∈x,EG r)(hl:Cb s):PC 126 [.agg (Ic x ifs),sl Am s] (nA x s):=by
 have hl:s.length<=1073741824:=hl;refine Ps ⟨[2],[],[],[],[33],[],[],[],[],[],[5,7,13]⟩ Tryz.func126 rfl (Nz rfl) (yN (Xi .pure (Xi _ (Yi (wL Ww x ifs hx) (Yi (fun h1=>?_) (fun h1=>?_))))))
 .have h1:((A5 x):Int)≠(0:Int):=h1;exact CV.of_eq (show AV.tup [.v (.map none),vi 1]=nA x s by rw[nA,OD,Aj h1,Aj Cl])
 have h1:((A5 x):Int)=(0:Int):=AJ h1;refine Xi {q:Nat // 1<=q/\(q<=s.length\/q=1)/\∀j (hj:j<s.length),0<j->j<q->Ek (s[j-1]' ch).path s[j].path=true} (Xi (fun q=>⟨[(1,sl Am s),(2,.ref 2 0),(6,vi q.1)],[(2,.ro (Ic x ifs))],Ae⟩) (Xi (fun q=>s.length+1-q.1) (Yi (Xi ⟨1,Ak _,.inr rfl,fun j hj h0 h1=>absurd h0 ch⟩ ?_) ?_)))
 .exact⟨Z3,Z1,Fh,Tv⟩
 intro⟨i,i1,i2,i3⟩;have i1:1<=i:=i1;have i2:i<=s.length\/i=1:=i2;have i3:∀j (hj:j<s.length),0<j->j<i->Ek (s[j-1]' ch).path s[j].path=true:=i3;refine Yi (fun h3=>?_) (fun h3=>?_)
 .have h3:(i:Int)<((s.map Am).length:Int):=h3;have n3:=FO h3;refine Yi (by show AX ((i:Int)-(1:Int));unfold AX;omega) (Xi (Am (s[i-1]' ch)) (Yi (Yi (show(0:Int)<=(i:Int)-1 by omega) (by rw[show((i:Int)-1).toNat=i-1 by omega];exact Eo (Ge ch))) (Yi rfl ?_)));refine Xi (Am s[i]) (Yi (JL n3) (Yi rfl (Yi (fun h4=>?_) (fun h4=>?_))))
  .have h4:Ek (s[i-1]' ch).path s[i].path=false:=(Gr _ _).trans h4;refine Yi Wk (cU [] [] Tv Tv ?_)
   exact CV.of_eq (show AV.tup [.v (.map none),vi 1]=nA x s by rw[nA,OD,Al h1,Aj (qK n3 ch h4),Aj Cl])
  have h4:Ek (s[i-1]' ch).path s[i].path=true:=(Gr _ _).trans (by simpa using h4);refine Yi Wk (cU [(1,sl Am s),(2,.ref 2 0),(6,vi i)] [(2,.ro (Ic x ifs))] Z3 Z1 (Yi (Ii i ch) (Xi ⟨i+1,by omega,.inl ch,fun j hj h0 h1=>by rcases D1 j i with h2 | h2;exact i3 j hj h0 h2;have e:j=i:=ch;subst e;exact h4⟩ ?_)));exact⟨by show s.length+1-(i+1)<s.length+1-i;omega,Z3,Z1,Fh,Tv⟩
 have h3:¬((i:Int)<((s.map Am).length:Int)):=h3;have n3:=DP h3;have i7:E9 s=true:=qJ i3 (Bm (DP h3));refine Xi {q:Nat // q<=s.length/\∀j (hj:j<s.length),j<q->(Dj x s[j]).isSome=true} (Xi (fun q=>⟨[(2,.ref 2 0),(7,.mref 33),(34,sl Am s),(35,vi (s.map Am).length),(36,vi q.1)],[(2,.ro (Ic x ifs)),(33,.map Cq (CM x (s.take q.1)))],Ae⟩) (Xi (fun q=>s.length-q.1) (Yi (Xi ⟨0,Ax _,fun j hj h1=>absurd h1 ch⟩ ?_) ?_)))
 .exact⟨Z5,Z2,Fh,Tv⟩
 intro⟨k,k1,k2⟩;have k1:k<=s.length:=k1;have k2:∀j (hj:j<s.length),j<k->(Dj x s[j]).isSome=true:=k2;refine Yi (fun h7=>?_) (fun h7=>?_)
 .have h7:(k:Int)<((s.map Am).length:Int):=h7;have n7:=FO h7;refine Xi (Am s[k]) (Yi (JL n7) (Yi rfl (yN (yN (yN (yN (Cf (jK (Dj x ⟨s[k].path,s[k].ver⟩)) (fun h8=>?_) (fun h8=>?_))))))))
  .refine CT h8 (fun r h8=>?_);have yh:=c53 x ifs s[k].path s[k].ver (c84 x ifs hx) hx;rw[h8]at yh;refine Xi .pure (Xi _ (Yi yh (yN (cU [(2,.ref 2 0),(7,.mref 33),(9,.ref 9 0),(10,.ref 10 0),(11,vb true),(34,sl Am s),(35,vi (s.map Am).length),(36,vi k)] [(2,.ro (Ic x ifs)),(9,.cells (Am s[k])),(10,.cells (AF r)),(33,.map Cq (CM x (s.take k)))] Z8 Z4 (yN (Yi (Ii k ch) (Xi ⟨k+1,n7,fun j hj h1=>by rcases D1 j k with h2 | h2;exact k2 j hj h2;have e:j=k:=ch;subst e;rw[show Dj x s[j]=some r from h8];rfl⟩ ?_)))))));exact⟨Dl s.length k ch,Z5,⟨Zr,⟨(show HO.map Cq (Fa (CM x (s.take k)) (.string s[k].path) (.agg (AF r)))=.map Cq (CM x (s.take (k+1)))from Aa (HO.map Cq) (by rw[<-kc (JZ i7) n7,G7,show Dj x s[k]=some r from h8];rfl)),rfl⟩,Tv⟩,Fh,Tv⟩
  have yh:=c53 x ifs s[k].path s[k].ver (c84 x ifs hx) hx;rw[h8]at yh;refine Xi .pure (Xi _ (Yi yh (yN (cU [(2,.ref 2 0),(7,.mref 33),(9,.ref 9 0),(10,.ref 10 0),(11,vb false),(34,sl Am s),(35,vi (s.map Am).length),(36,vi k)] [(2,.ro (Ic x ifs)),(9,.cells (Am s[k])),(10,.cells [vs ⟨#[]⟩,vi 0,vi 0,vi 0,nzA,vs ⟨#[]⟩,vs ⟨#[]⟩,vs ⟨#[]⟩,vb false]),(33,.map Cq (CM x (s.take k)))] Z8 Z4 ?_))))
  exact CV.of_eq (show AV.tup [.v (.map none),vi 6]=nA x s by rw[nA,OD,Al h1,Al i7,Aj (pO n7 h8),Aj Cl])
 have h7:¬((k:Int)<((s.map Am).length:Int)):=h7;have n7:=DP h7;have ee:s.take k=s:=At (Bm (DP h7));exact CV.of_eq (show AV.tup [.cmap Cq (CM x (s.take k)),vi 0]=nA x s by rw[ee,nA,OD,Al h1,Al i7,Al (kZ k2 (Bm (DP h7))),Al rfl])
theorem AeE(hs:De caps)(l:List (Rq))(p:Rq->Bool)(hF:∀x∈l,PC fF ([.agg (Bb x)]++caps) (vb (p x)))(hl:l.length<9223372036854775807) :
  PC 180 [sl Bb l,.clo fF caps] (vi (JK p l 0)):=by
 refine Ps El Tryz.func180 rfl (Nz rfl) (Xi {i:Nat // i<=l.length/\∀j (hj:j<l.length),j<i->p l[j]=false} (Xi (fun i=>⟨[(0,sl Bb l),(1,.clo fF caps),(7,vi (l.map Bb).length),(8,vi i.1)],[],Ae⟩) (Xi (fun i=>l.length-i.1) (Yi (Xi ⟨0,by simp⟩ ?_) ?_))))
 .exact⟨⟨Zr,⟨rfl,hs.ids _⟩,Zr,Zr,Tv⟩,Tv,Fh,Tv⟩
 .intro⟨i,h1,h2⟩;refine Yi ?_ ?_
  .intro h;have h:i<l.length:=by simpa using h
   have hg:l[i]?=some l[i]:=Ge h;refine Xi (Bb l[i]) (Yi (Yi (Nn i) (by simp[hg])) (Yi rfl (yN ?_)));have Cg:∀h,PC fF ([.agg (Bb l[i])]++caps.map (str0 h)) (vb (p l[i])):=fun h=>by rw[hs.map];exact hF l[i] (Aq _)
   cases hp:p l[i]with
   |true=>
    rw[hp]at Cg;refine Xi .pure (Xi (vb true) (Yi (Cg _) ?_));rw[HT h (fun j hj JX=>h2 j hj JX) hp,EI];exact .refl _
   |false=>
    rw[hp]at Cg;refine Xi .pure (Xi (vb false) (Yi (Cg _) (Yi (Ii i ch) (Xi ⟨i+1,by omega,fun j hj JX=>?_⟩ ?_))))
    .by_cases e:j=i
     .subst e;exact hp
     .exact h2 j hj ch
    .exact⟨Dl l.length i ch,⟨Zr,⟨rfl,hs.ids _⟩,Zr,Zr,Tv⟩,Tv,Fh,Tv⟩
  .intro h;have h:¬i<l.length:=by simpa using h
   rw[GA fun j hj=>h2 j hj ch];exact .refl _
theorem z127(hs:De caps)(l:List (Rq))(p:Rq->Bool)(hF:∀x∈l,PC fF ([.agg (Bb x)]++caps) (vb (p x)))(hl:Cb l) :
  PC 127 [sl Bb l,.clo fF caps] (vb (l.any p)):=by
 refine Ps El Tryz.func127 rfl (Nz rfl) ?_;have hi:=AeE hs l p hF (by unfold Cb at hl;omega);have Cg:∀h,PC 180 [sl Bb l,.clo fF (caps.map (str0 h))] (vi (JK p l 0)):=fun h=>by rw[hs.map];exact hi
 refine Xi .pure (Xi _ (Yi (Cg _) ?_));have ha:=HN (p:=p) l 0 (Bu 0);refine Yi ?_ ?_
 .intro h;rw[<-ha,Ay h];exact .refl _
 .intro h;rw[<-ha,AD h];exact .refl _
theorem z131(hs:De caps)(l:List (ByteArray))(p:ByteArray->Bool)(hF:∀x∈l,PC fF ([vs x]++caps) (vb (p x)))(hl:l.length<9223372036854775807) :
  PC 131 [sl AB l,.clo fF caps] (vi (JK p l 0)):=by
 refine Ps El Tryz.func131 rfl (Nz rfl) (Xi {i:Nat // i<=l.length/\∀j (hj:j<l.length),j<i->p l[j]=false} (Xi (fun i=>⟨[(0,sl AB l),(1,.clo fF caps),(7,vi (l.map AB).length),(8,vi i.1)],[],Ae⟩) (Xi (fun i=>l.length-i.1) (Yi (Xi ⟨0,by simp⟩ ?_) ?_))))
 .exact⟨⟨Zr,⟨rfl,hs.ids _⟩,Zr,Zr,Tv⟩,Tv,Fh,Tv⟩
 .intro⟨i,h1,h2⟩;refine Yi ?_ ?_
  .intro h;have h:i<l.length:=by simpa using h
   have hg:l[i]?=some l[i]:=Ge h;refine Xi (AB l[i]) (Yi (Yi (Nn i) (by simp[hg])) (Yi rfl ?_));have Cg:∀h,PC fF ([vs l[i]]++caps.map (str0 h)) (vb (p l[i])):=fun h=>by rw[hs.map];exact hF l[i] (Aq _)
   cases hp:p l[i]with
   |true=>
    rw[hp]at Cg;refine Xi .pure (Xi (vb true) (Yi (Cg _) ?_));rw[HT h (fun j hj JX=>h2 j hj JX) hp,EI];exact .refl _
   |false=>
    rw[hp]at Cg;refine Xi .pure (Xi (vb false) (Yi (Cg _) (Yi (Ii i ch) (Xi ⟨i+1,by omega,fun j hj JX=>?_⟩ ?_))))
    .by_cases e:j=i
     .subst e;exact hp
     .exact h2 j hj ch
    .exact⟨Dl l.length i ch,⟨Zr,⟨rfl,hs.ids _⟩,Zr,Zr,Tv⟩,Tv,Fh,Tv⟩
  .intro h;have h:¬i<l.length:=by simpa using h
   rw[GA fun j hj=>h2 j hj ch];exact .refl _
theorem z74(hs:De caps)(l:List (ByteArray))(p:ByteArray->Bool)(hF:∀x∈l,PC fF ([vs x]++caps) (vb (p x)))(hl:Cb l) :
  PC 74 [sl AB l,.clo fF caps] (vb (l.any p)):=by
 refine Ps El Tryz.func74 rfl (Nz rfl) ?_;have hi:=z131 hs l p hF (by unfold Cb at hl;omega);have Cg:∀h,PC 131 [sl AB l,.clo fF (caps.map (str0 h))] (vi (JK p l 0)):=fun h=>by rw[hs.map];exact hi
 refine Xi .pure (Xi _ (Yi (Cg _) ?_));have ha:=HN (p:=p) l 0 (Bu 0);refine Yi ?_ ?_
 .intro h;rw[<-ha,Ay h];exact .refl _
 .intro h;rw[<-ha,AD h];exact .refl _
theorem jB{x:List Rl}{l:List Sl}{kv:Value×AV}{Mw : List (Value×AV)}(h:(l.map (XY x)).Perm (kv::Mw)):∃t r,kv=XY x t/\Mw=r.map (XY x)/\l.Perm (t::r):=by
 obtain⟨ps,h1,h2⟩:=K5 h l rfl;cases ps with
 |nil=>cases h2
 |cons t r=>
  rw[AK,Fo]at h2;exact⟨t,r,h2.1.symm,h2.2.symm,h1.symm⟩
def JH:AV:=if Fs x s=0 then .tup [.cmap Cq (CM x s),vi 0]else .tup [.v (.map none),vi (Fs x s)]
def iH:Bool:=(G7 x y).reqs.all (QW x s)
theorem fe{α:Type}(p:α->Bool)(l:List α):l.any (fun q=>!p q)=!l.all p:=by
 induction l with
 |nil=>rfl
 |cons a l ih=>rw[Cj,List.all_cons,ih,Bool.not_and]
theorem ae{x:List Rl}{s d:List Sl}(h:d.Perm s)(k:∀y∈d,iH x s y=true):c8 x s=true:=Bd.2 fun y hy=>k y (h.mem_iff.2 hy)
theorem c9{x:List Rl}{s d r:List Sl}{y:Sl}(h:(d++y::r).Perm s)(k:iH x s y=false):¬c8 x s=true:=fun e=>by
 have q:=Bd.1 e y (h.mem_iff.1 (AO.2 (.inr (Ab ..))));rw[show(G7 x y).reqs.all (QW x s)=false from k]at q;cases q
theorem Vx{x:List Rl}{s:List Sl}(h:OD x s=0):A5 x=0:=by
 unfold OD at h;split at h
 .assumption
 .cases h
theorem Zi{x:List Rl}{s:List Sl}(h:OD x s=0){y:Sl}(hy:y∈s):G7 x y∈x:=by
 unfold OD at h;split at h
 .split at h
  .split at h
   .rename_i h0 _ h1;have q:=Bd.1 h1 y hy;unfold G7;cases e:Dj x y with
    |none=>rw[e]at q;cases q
    |some r=>
     unfold Dj at e;rw[Aj ch]at e;exact BG e
   .cases h
  .cases h
 .cases h
theorem rZ(hx:∀r∈x,EG r)(hl:Cb s)(h0:¬OD x s=0):PC 72 [.agg (Ic x ifs),sl Am s] (JH x s):=by
 refine Ps (pC [2,6] []) Tryz.func72 rfl (Nz rfl) (yN (Xi .pure (Xi _ (Yi (by have q:=Aah x ifs s hx hl;rw[nA,Aj h0]at q;exact q) ?_))));refine yN (Yi (fun h1=>?_) (fun h1=>?_))
 .exact CV.of_eq (show AV.tup [.v (.map none),vi (OD x s)]=JH x s by rw[JH,Fs,Aj h0,Aj h0])
 have h1:((OD x s):Int)=(0:Int):=AJ h1;exact absurd h1 h0
theorem r4(hx:∀r∈x,EG r)(hl:Cb s)(h0:OD x s=0)(i7:E9 s=true):PC 72 [.agg (Ic x ifs),sl Am s] (JH x s):=by
 refine Ps (pC [2,6] []) Tryz.func72 rfl (Nz rfl) (yN (Xi .pure (Xi _ (Yi (by have q:=Aah x ifs s hx hl;rw[nA,Al h0]at q;exact q) ?_))));refine yN (Yi (fun h=>absurd h Cl) (fun _=>?_));refine Xi {q:List Sl×List Sl×Option (Value×AV) // (q.1++q.2.1).Perm s/\∀y∈q.1,iH x s y=true} (Xi (fun q=>⟨[(6,.ref 6 0),(20,.ref 20 0)],[(6,.ro [.cmap Cq (CM x s)]),(20,.iter (CM x s) (q.1.2.1.map (XY x)) q.1.2.2)],Ae⟩) (Xi (fun q=>q.1.2.1.length) (Yi (Xi ⟨([],s,none),.refl _,fun _ h=>by cases h⟩ ?_) ?_)))
 .exact⟨Z2,Z2,Fh,Tv⟩
 intro⟨⟨dn,rem,EN⟩,r1,r2⟩;refine Yi ?_ ?_
 .intro hr;have hr:rem=[]:=DN.1 hr;rw[hr,BP]at r1;exact CV.of_eq (show AV.tup [.cmap Cq (CM x s),vi 0]=JH x s by rw[JH,Fs,Al h0,Al (ae r1 r2),Al rfl])
 intro kv Mw hp;refine CT (jB hp) (fun y hp=>CT hp (fun r hp=>?_));have e1:=hp.1;have e2:=hp.2.1;subst e1;subst e2;have hp:=hp.2.2;have hy:y∈s:=r1.mem_iff.1 (AO.2 (.inr (hp.mem_iff.2 (Ab ..))));refine yN (Cf (Bt (!iH x s y)) (fun h2=>?_) (fun h2=>?_))
 .refine Xi .pure (Xi _ (Yi (cb h2 (show PC 127 [sl Bb (G7 x y).reqs,.clo 128 [.cptr [.cmap Cq (CM x s)]]] (vb (!iH x s y))from by have q:=z127 (fF:=128) (caps:=[.cptr [.cmap Cq (CM x s)]]) (De.ptr _) (G7 x y).reqs (fun q=>!QW x s q) (fun q hq=>gU x s q (JZ i7) ((hx _ (Zi h0 hy)).2 q hq).1) (AI ((Mn (Vx h0)).2 _ (Zi h0 hy)) Cl);rw[fe]at q;exact q)) ?_));exact CV.of_eq (show AV.tup [.v (.map none),vi 17]=JH x s by rw[JH,Fs,Al h0,Aj (c9 (y:=y) (d:=dn) (r:=r) ((IL _ hp.symm).trans r1) (by simpa using h2)),Aj Cl])
 refine Xi .pure (Xi _ (Yi (cb h2 (show PC 127 [sl Bb (G7 x y).reqs,.clo 128 [.cptr [.cmap Cq (CM x s)]]] (vb (!iH x s y))from by have q:=z127 (fF:=128) (caps:=[.cptr [.cmap Cq (CM x s)]]) (De.ptr _) (G7 x y).reqs (fun q=>!QW x s q) (fun q hq=>gU x s q (JZ i7) ((hx _ (Zi h0 hy)).2 q hq).1) (AI ((Mn (Vx h0)).2 _ (Zi h0 hy)) Cl);rw[fe]at q;exact q)) ?_));refine Xi ⟨(dn++[y],r,some (XY x y)),by rw[BA];exact(IL _ hp.symm).trans r1,fun z hz=>by rcases AO.1 hz with h | h;exact r2 z h;rw[Ar.1 h];exact(by simpa using h2)⟩ ?_;exact⟨by show r.length<rem.length;rw[hp.length_eq];exact Gq _,Z2,Z2,Fh,Tv⟩
theorem Mr{x:List Rl}{s:List Sl}(h:OD x s=0):E9 s=true:=by
 unfold OD at h;split at h
 .split at h
  .assumption
  .cases h
 .cases h
theorem Pw(hx:∀r∈x,EG r)(hl:Cb s):PC 72 [MU x ifs,sl Am s] (JH x s):=by
 by_cases h:OD x s=0
 .exact r4 x ifs s hx hl h (Mr h)
 .exact rZ x ifs s hx hl h
theorem YN{x:List Rl}(roots:List Rq)(hx:x.length<=16):Cb (ES x roots):=by
 by_cases h:KM x roots=0
 .have:=(QZ h).2.1
  show _<=1073741824;omega
 .unfold ES;rw[Aj h];exact Ax _
theorem Aas  : PC 220 [nzA,vi 0,vi 0] (.tup []):=by
 refine Ps El Tryz.func220 rfl (Nz rfl) (Yi (Ii 0 ch) (Xi {q:Nat // q=0} (Xi (fun q=>⟨[(0,nzA),(1,vi 0),(2,vi 0),(6,vi (0+1))],[],Ae⟩) (Xi (fun q=>q.1) (Yi (Xi ⟨0,rfl⟩ ?_) ?_)))))
 .exact⟨Z4,Tv,Fh,Tv⟩
 intro⟨i,i1⟩;refine Yi (fun h1=>?_) (fun h1=>?_)
 .exact absurd h1 Cl
 exact .refl _
theorem Aar:PC 160 [nzA,vi 0,vi 0,vi lim] (.tup []):=by
 refine Ps El Tryz.func160 rfl (Nz rfl) (Xi {q:Nat // q=0} (Xi (fun q=>⟨[(0,nzA),(1,vi 0),(2,vi 0),(3,vi lim),(8,vb true),(9,vb true)],[],Ae⟩) (Xi (fun q=>q.1) (Yi (Xi ⟨0,rfl⟩ ?_) ?_))))
 .exact⟨Z6,Tv,Fh,Tv⟩
 intro⟨i,i1⟩;refine Yi (by show AX ((0:Int)-(0:Int));unfold AX;omega) (Yi (fun h1=>?_) (fun h1=>?_))
 .refine Xi .pure (Xi _ (Yi Aas ?_));exact .refl _
 exact absurd Cl h1
theorem Aat(hb:PC 161 [.v (.int .u64 (IntKind.u64.wrap (0:Int)))] (vi lim)):PC 99 [nzA] (.tup []):=by
 refine Ps El Tryz.func99 rfl (Nz rfl) (Xi .pure (Xi _ (Yi hb (Xi .pure (Xi _ (Yi (Aar lim) ?_))))));exact .refl _
theorem AeC  : PC 183 [nzA] nzA:=by
 refine Ps El Tryz.func183 rfl (Nz rfl) (Yi (fun _=>?_) (fun h=>absurd Cl h));exact .refl _
theorem XW:IP []:=⟨show 0<=1073741824 by decide,Ci _,List.Pairwise.nil⟩
theorem AeB(hs:PC 99 [nzA] (.tup [])):PC 130 [sl Am ([]:List Sl),sl Am ([]:List Sl)] (.tup [nzA,vi 0]):=by
 refine Ps ⟨[],[],[],[(34,[12000,12500])],[],[],[],[],[],[],[1,2,3,4,5,6,8,9,10,11,12,13,14,16,17,18,19,20,21]⟩ Tryz.func130 rfl (Nz rfl) (cU [(0,sl Am ([]:List Sl)),(1,sl Am ([]:List Sl))] [] Z2 Tv (Xi (.gen [] 1) (Yi rfl (Ba.to2 (ri [] XW) ?_))));refine cU [(0,sl Am ([]:List Sl)),(1,sl Am ([]:List Sl)),(6,.mref 12000),(7,vb true)] [(12000,.map Cq (Ik []))] Z4 Z1 (Xi (.gen [] 1) (Yi rfl (Ba.to2 (ri [] XW) ?_)));refine cU [(0,sl Am ([]:List Sl)),(1,sl Am ([]:List Sl)),(6,.mref 12000),(7,vb true),(8,.mref 12500),(9,vb true)] [(12000,.map Cq (Ik [])),(12500,.map Cq (Ik []))] Z6 Z2 (cU [(0,sl Am ([]:List Sl)),(1,sl Am ([]:List Sl)),(6,.mref 12000),(8,.mref 12500)] [(12000,.map Cq (Ik [])),(12500,.map Cq (Ik []))] Z4 Z2 (cU [(0,sl Am ([]:List Sl)),(1,sl Am ([]:List Sl)),(6,.mref 12000),(8,.mref 12500),(10,nzA)] [(12000,.map Cq (Ik [])),(12500,.map Cq (Ik []))] Z5 Z2 (Xi (.gen [] 1) (Yi rfl (Ba.to2 (ue ([]:List Sl) (show 0<=1073741824 by decide)) ?_)))));have b2:B5 4 (([]:List Sl).map Am)/\(([]:List Sl).map Am).length=(([]:List Sl).map Am).length/\((([]:List Sl).map Am).length+(([]:List Sl).map Am).length)*40<=140737488355328/\(([]:List Sl).map Am).length+(([]:List Sl).map Am).length<=9223372036854775807:=⟨(Ea (enc:=Am) (n:=4) (fun _=>rfl) ([]:List Sl)),rfl,(by simp only[Lm,Ao];omega),(by simp only[Lm,Ao];omega)⟩;refine Yi b2 (Xi {q:Nat // q=0} (Xi (fun q=>⟨[(6,.mref 12000),(8,.mref 12500),(10,nzA),(37,.slice (.id 13500 4) ((([]:List Sl).map Am)++(([]:List Sl).map Am))),(38,vi (((([]:List Sl).map Am)++(([]:List Sl).map Am)):List (List AV)).length),(39,vi q.1)],[(12000,.rom Cq (Ik [])),(12500,.rom Cq (Ik [])),(13500,.tok 4 ((([]:List Sl).map Am).length+(([]:List Sl).map Am).length))],Ae⟩) (Xi (fun q=>q.1) (Yi (Xi ⟨0,rfl⟩ ?_) ?_))))
 .exact⟨Z6,Z3,Fh,Tv⟩
 intro⟨i,i1⟩;refine Yi (fun h3=>?_) (fun h3=>?_)
 .exact absurd h3 (by show ¬((i:Int)<0);omega)
 refine cU [(6,.mref 12000),(8,.mref 12500),(10,nzA)] [(12000,.rom Cq (Ik [])),(12500,.rom Cq (Ik []))] Z3 Z2 (Xi .pure (Xi _ (Yi hs (cU [(6,.mref 12000),(8,.mref 12500),(10,nzA)] [(12000,.rom Cq (Ik [])),(12500,.rom Cq (Ik []))] Z3 Z2 (cU [(6,.mref 12000),(8,.mref 12500),(10,nzA),(13,.v (.func (.func 182) #[] #[]))] [(12000,.rom Cq (Ik [])),(12500,.rom Cq (Ik []))] Z4 Z2 (cU [(6,.mref 12000),(8,.mref 12500),(10,nzA),(13,.v (.func (.func 182) #[] #[])),(14,nzA)] [(12000,.rom Cq (Ik [])),(12500,.rom Cq (Ik []))] Z5 Z2 (Xi .pure (Xi _ (Yi AeC (Xi {q:Nat // q=0} (Xi (fun q=>⟨[(6,.mref 12000),(8,.mref 12500),(13,.v (.func (.func 182) #[] #[])),(14,nzA),(52,nzA),(53,vi 0),(54,vi q.1)],[(12000,.rom Cq (Ik [])),(12500,.rom Cq (Ik []))],Ae⟩) (Xi (fun q=>q.1) (Yi (Xi ⟨0,rfl⟩ ?_) ?_)))))))))))))
 .exact⟨Z7,Z2,Fh,Tv⟩
 intro⟨i,i1⟩;refine Yi (fun h4=>?_) (fun h4=>?_)
 .exact absurd h4 (by show ¬((i:Int)<0);omega)
 refine cU [(14,nzA)] [] Z1 Tv ?_
 exact .refl _
theorem Ra(p:List ByteArray):∃t:List ByteArray,t.Perm p/\(t.map KP).Pairwise fun a b=>a<=b:=by
 have e:∀q:ByteArray,SB (KP q)=q:=fun q=>by cases q;simp
 have e2:∀q:List UInt8,KP (SB q)=q:=fun q=>by simp
 refine⟨((p.map KP).mergeSort fun a b=>decide (a<=b)).map SB,?_,?_⟩
 .have h:=(Ok (p.map KP) fun a b=>decide (a<=b)).map SB
  rwa [Bs,show(SB ∘ KP)=id from funext e,Gk]at h
 .rw[Bs,show(KP ∘ SB)=id from funext e2,Gk];have h:=KN (le:=fun a b:List UInt8=>decide (a<=b)) (fun a b c h1 h2=>Ay (List.le_trans (AU h1) (AU h2))) (fun a b=>by rcases List.le_total a b with h | h<;>simp[h]) (p.map KP)
  exact h.imp fun h=>AU h
theorem lM(t:List ByteArray):(Cm t).length<=t.length:=by
 have h:=M5 (t.map KP);rw[Lm]at h;unfold Cm;rw[Lm];exact h
theorem og(h:IP l)(k:IP m):(rm l m).length<=l.length+m.length:=by
 obtain⟨t,ht,hs⟩:=Ra ((l++m).map (·.path));rw[<-bw h k ht hs];refine AI (List.length_filterMap_le ..) (AI (lM t) ?_);rw[ht.length_eq,Lm,Ac];exact Ak _
theorem Ads(hl:IP l)(hm2:IP m)(h1:l.length<=16)(h2:m.length<=16):PC 130 [sl Am l,sl Am m] (.tup [sl HF (rm l m),vi 0]):=by
 obtain⟨t,ht,hs⟩:=Ra ((l++m).map (·.path))
 by_cases e:l++m=[]
 .obtain⟨rfl,rfl⟩:=List.append_eq_nil_iff.1 e;obtain⟨lim,_,hb⟩:=lw 0 (Ax _);have q:=AeB (Aat lim hb);rw[show rm [] []=[] by rw[rm]];exact Ba.mono q fun r h' ⟨e1,e2⟩=>⟨.tup [sl HF [],vi 0],by rw[e1];exact .tup ⟨.nil,.refl _,trivial⟩,rfl,e2⟩
 .rw[<-bw hl hm2 ht hs];exact o75 l m t hl hm2 ch e ht hs
theorem GY{x:List Rl}{s:List Sl}(h:OD x s=0)(hl:Cb s):IP s:=by
 refine⟨hl,fun y hy=>?_,JZ (Mr h)⟩;have q:(Dj x y).isSome=true:=by
  have q:=h;unfold OD at q;rw[Al (Vx h),Al (Mr h)]at q;split at q
  .rename_i h1;exact Bd.1 h1 y hy
  .cases q
 cases e:Dj x y with
 |none=>rw[e]at q;cases q
 |some r=>
  unfold Dj at e;rw[Aj (fun c=>c (Vx h))]at e;have e1:Gu r=y:=AU (DT (p:=fun r=>decide (Gu r=y)) e);rw[<-e1];exact((CA (Vx h)).1 r (BG e)).val
theorem NP{x:List Rl}{s:List Sl}(h:Fs x s=0):OD x s=0:=by
 unfold Fs at h;split at h
 .assumption
 .exact h
def JM:List ByteArray:=(rm l m).map (·.path)
def upC:List AV:=[.cmap Cq (CM x l),.cmap Cq (CM x m),sl Am l,sl Am m,sl AB (JM l m)]
def Sj:Int:=if Fs x l=0 then Fs x m else Fs x l
def eT:AV:=if Sj x l m=0 then .tup [.cptr (upC x l m),vi 0]else .tup [.v (.pointer none),vi (Sj x l m)]
theorem rV(hx:∀r∈x,EG r)(hl:Cb s)(h0:Fs x s=0):PC 34 [.agg (Ic x ifs),sl Am s] (vi (Fs x s)):=by
 refine Ps (pC [2] []) Tryz.func34 rfl (Nz rfl) (yN (Xi .pure (Xi _ (Yi (by have q:=Pw x ifs s hx hl;rw[JH,Al h0]at q;exact q) ?_))));exact CV.of_eq (Aa vi h0.symm)
theorem rU(hx:∀r∈x,EG r)(hl:Cb s)(h0:¬Fs x s=0):PC 34 [.agg (Ic x ifs),sl Am s] (vi (Fs x s)):=by
 refine Ps (pC [2] []) Tryz.func34 rfl (Nz rfl) (yN (Xi .pure (Xi _ (Yi (by have q:=Pw x ifs s hx hl;rw[JH,Aj h0]at q;exact q) ?_))));exact .refl _
theorem vW(hx:∀r∈x,EG r)(hl:Cb s):PC 34 [MU x ifs,sl Am s] (vi (Fs x s)):=by
 by_cases h:Fs x s=0
 .exact rV x ifs s hx hl h
 .exact rU x ifs s hx hl h
theorem Aaj(hx:∀r∈x,EG r)(hl:Cb l)(_hm_:Cb m)(c1:¬Fs x l=0):PC 73 [.agg (Ic x ifs),sl Am l,sl Am m] (eT x l m):=by
 refine Ps (pC [3] []) Tryz.func73 rfl (Nz rfl) (yN (Xi .pure (Xi _ (Yi (by have q:=Pw x ifs l hx hl;rw[JH,Aj c1]at q;exact q) ?_))));refine Yi (fun h1=>?_) (fun h1=>?_)
 .have h1:((Fs x l):Int)≠(0:Int):=h1;exact CV.of_eq (show AV.tup [.v (.pointer none),vi (Fs x l)]=eT x l m by rw[eT,Sj,Aj c1,Aj c1])
 have h1:((Fs x l):Int)=(0:Int):=AJ h1;exact absurd h1 c1
theorem Aak(hx:∀r∈x,EG r)(hl:Cb l)(SJ:Cb m)(c1:Fs x l=0)(c2:¬Fs x m=0):PC 73 [.agg (Ic x ifs),sl Am l,sl Am m] (eT x l m):=by
 refine Ps (pC [3] []) Tryz.func73 rfl (Nz rfl) (yN (Xi .pure (Xi _ (Yi (by have q:=Pw x ifs l hx hl;rw[JH,Al c1]at q;exact q) ?_))));refine Yi (fun h=>absurd h Cl) (fun _=>?_);refine yN (Xi .pure (Xi _ (Yi (by have q:=Pw x ifs m hx SJ;rw[JH,Aj c2]at q;exact q) ?_)));refine Yi (fun h1=>?_) (fun h1=>?_)
 .have h1:((Fs x m):Int)≠(0:Int):=h1;exact CV.of_eq (show AV.tup [.v (.pointer none),vi (Fs x m)]=eT x l m by rw[eT,Sj,Al c1,Aj c2])
 have h1:((Fs x m):Int)=(0:Int):=AJ h1;exact absurd h1 c2
theorem Aal(hx:∀r∈x,EG r)(hl:Cb l)(SJ:Cb m)(Jn:l.length<=16)(F9:m.length<=16)(c1:Fs x l=0)(c2:Fs x m=0):PC 73 [.agg (Ic x ifs),sl Am l,sl Am m] (eT x l m):=by
 have hrm:(rm l m).length<=1000:=by have q:=og l m (GY (NP c1) hl) (GY (NP c2) SJ);omega
 refine Ps ⟨[3],[],[],[],[39],[],[],[(47,(39,4,90,1))],[],[],[3,4,7,9,13]⟩ Tryz.func73 rfl (Nz rfl) (yN (Xi .pure (Xi _ (Yi (by have q:=Pw x ifs l hx hl;rw[JH,Al c1]at q;exact q) ?_))));refine Yi (fun h=>absurd h Cl) (fun _=>?_);refine cU [(1,sl Am l),(2,sl Am m),(3,.ref 3 0),(8,.cmap Cq (CM x l))] [(3,.ro (Ic x ifs))] Z4 Z1 (yN (Xi .pure (Xi _ (Yi (by have q:=Pw x ifs m hx SJ;rw[JH,Al c2]at q;exact q) ?_))));refine Yi (fun h=>absurd h Cl) (fun _=>?_);refine cU [(1,sl Am l),(2,sl Am m),(8,.cmap Cq (CM x l)),(10,.cmap Cq (CM x m))] [] Z4 Tv (Xi .pure (Xi _ (Yi (Ads l m (GY (NP c1) hl) (GY (NP c2) SJ) Jn F9) (cU [(11,.ref 39 0),(12,sl HF (rm l m))] [(39,.cells [.cmap Cq (CM x l),.cmap Cq (CM x m),sl Am l,sl Am m,nzA])] Z2 Z1 (Xi {q:Nat // q<=(rm l m).length} (Xi (fun q=>⟨[(11,.ref 39 0),(46,sl HF (rm l m)),(47,vi ((rm l m).map HF).length),(48,vi q.1)],[(39,.cells [.cmap Cq (CM x l),.cmap Cq (CM x m),sl Am l,sl Am m,.slice (.id 90 1) ((((rm l m).take q.1).map (·.path)).map AB)]),(90,.tok 1 ((((rm l m).take q.1).map (·.path)).map AB).length)],Ae⟩) (Xi (fun q=>(rm l m).length-q.1) (Yi (Xi ⟨0,Ax _⟩ ?_) ?_))))))))
 .exact⟨Z4,Z2,Fh,Tv⟩
 intro⟨i,i1⟩;have i1:i<=(rm l m).length:=i1;refine Yi (fun h1=>?_) (fun h1=>?_)
 .have h1:(i:Int)<(((rm l m).map HF).length:Int):=h1;have n1:=FO h1;have hq:((rm l m).take i).length<=1000:=by rw[Au];omega
  refine Xi (HF ((rm l m)[i])) (Yi (JL n1) (Yi rfl (yN (yN ?_))));have b2:B5 1 [[vs ((rm l m)[i]).path]]/\((((rm l m).take i).map (·.path)).map AB).length=((((rm l m).take i).map (·.path)).map AB).length/\(((((rm l m).take i).map (·.path)).map AB).length+([[vs ((rm l m)[i]).path]]:List (List AV)).length)*16<=140737488355328/\((((rm l m).take i).map (·.path)).map AB).length+([[vs ((rm l m)[i]).path]]:List (List AV)).length<=9223372036854775807:=⟨⟨rfl,trivial⟩,rfl,(by simp only[Lm,Ag,Ao];omega),(by simp only[Lm,Ag,Ao];omega)⟩;refine Yi b2 (yN (Yi Wk (cU [(11,.ref 39 0),(46,sl HF (rm l m)),(47,vi ((rm l m).map HF).length),(48,vi i)] [(39,.cells [.cmap Cq (CM x l),.cmap Cq (CM x m),sl Am l,sl Am m,.slice (.id 90 1) (((((rm l m).take i).map (·.path)).map AB)++[[vs ((rm l m)[i]).path]])]),(90,.tok 1 (((((rm l m).take i).map (·.path)).map AB).length+([[vs ((rm l m)[i]).path]]:List (List AV)).length))] Z4 Z2 (Yi (Ii i ch) ?_))));have ew:((((rm l m).take i).map (·.path)).map AB++[[vs (rm l m)[i].path]])=(((rm l m).take (i+1)).map (·.path)).map AB:=by rw[Ew n1,As,As];rfl
  refine Xi ⟨i+1,n1⟩ ?_;exact⟨by show(rm l m).length-(i+1)<(rm l m).length-i;omega,Z4,⟨⟨(Aa (fun z=>HO.cells [.cmap Cq (CM x l),.cmap Cq (CM x m),sl Am l,sl Am m,.slice (.id 90 1) z]) ew),rfl⟩,⟨(show HO.tok 1 (((((rm l m).take i).map (·.path)).map AB).length+([[vs ((rm l m)[i]).path]]:List (List AV)).length)=.tok 1 ((((rm l m).take (i+1)).map (·.path)).map AB).length from Aa (HO.tok 1) (Ac.symm.trans (Aa List.length ew))),rfl⟩,Tv⟩,Fh,Tv⟩
 have h1:¬((i:Int)<(((rm l m).map HF).length:Int)):=h1;have n1:=DP h1;have ee:(rm l m).take i=rm l m:=At (Bm (DP h1));exact CV.of_eq (show AV.tup [.cptr [.cmap Cq (CM x l),.cmap Cq (CM x m),sl Am l,sl Am m,sl AB (((rm l m).take i).map (·.path))],vi 0]=eT x l m by rw[ee,eT,show Sj x l m=0 by rw[Sj,Al c1];exact c2,Al rfl];rfl)
theorem pc(hx:∀r∈x,EG r)(hl:Cb l)(SJ:Cb m)(Jn:l.length<=16)(F9:m.length<=16):PC 73 [MU x ifs,sl Am l,sl Am m] (eT x l m):=by
 by_cases c1:Fs x l=0
 .by_cases c2:Fs x m=0
  .exact Aal x ifs l m hx hl SJ Jn F9 c1 c2
  .exact Aak x ifs l m hx hl SJ c1 c2
 .exact Aaj x ifs l m hx hl SJ c1
end Go.Eng
namespace Go.Proofs
open Go.Shelf Go.RowKit Go.Lib Go.Sort Go.Eng
def cfBt(x y:SlA):Int:=if Op.bytesLess x.1.toList y.1.toList=true then -1 else 1
theorem Tryz.closure134:CmpSlG cfBt 134:=fun x y W=>by
 obtain⟨a,⟨b,hb⟩,⟨c,hc⟩,⟨d,hd⟩⟩:=x;obtain⟨a',⟨b',sE⟩,⟨c',uw⟩,⟨d',pq⟩⟩:=y;unfold cfBt;dsimp only;cases hl:Op.bytesLess a.toList a'.toList with
 |true=>
  go_enter Tryz.func134,Tryz.ntmps134
  go_wp2
  all_goals (try simp only[hl]at *)
  all_goals (try go_wp2)
  all_goals (try go_ret)
  all_goals (try exact⟨rfl,0,_,by rw[alloc_eq_grow,alloc_eq_grow,grow_grow];rfl⟩)
 |false=>
  go_enter Tryz.func134,Tryz.ntmps134
  go_wp2
  all_goals (try simp only[hl]at *)
  all_goals (try go_wp2)
  all_goals (try go_ret)
  all_goals (try exact⟨rfl,0,_,by rw[alloc_eq_grow,alloc_eq_grow,grow_grow];rfl⟩)
end Go.Proofs
