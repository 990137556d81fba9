/- Lemmas for the claims of this seat, without a condition: part 30 (V4, V12, V3, V13, W9, W10, W11, V14, V15, V18, V19, V16, S21, S22, S23, S24, S25, S30, S32, S33, S34, S35, S36, S37, V22, V23, V20, V24, W12, W13). -/
import Derived.Test.YteaiieomnhbmgaaGreatDoorA29
import Derived.Test.YteaiieomnhbmgaaGreatDoorA04
set_option maxHeartbeats 4000000
namespace Go.Eng
variable {t:List ByteArray}{l m:List Sl}
theorem eU:∀{x y:List UInt8},IJ x y=true->x<y
 |x,[],h=>by cases x<;>cases h
 | [],b::y,_=>by simp
 |a::x,b::y,h=>by
  unfold IJ at h;rw[List.cons_lt_cons_iff];rcases CJ _ _▸h with h | h
  .exact .inl (AU h)
  .obtain⟨h1,h2⟩:=Bool.and_eq_true_iff.1 h;exact .inr ⟨AU h1,eU h2⟩
section
variable {α:Type}[Inhabited α][DecidableEq α]
theorem Po{R:α->α->Prop}(hR:∀a b c,R a b->R b c->R a c)(xs:List α)(hs:∀i j,(hi:i<xs.length)->(hj:j<xs.length)->i<j->xs[i]=xs[j]\/R xs[i] xs[j]):∀m,m<=xs.length ->
  (Lib.compactUpTo xs.toArray m).Pairwise R/\(∀a,a∈Lib.compactUpTo xs.toArray m↔a∈xs.take m)
 |0,_=>by simp[Lib.compactUpTo]
 |m+1,h=>by
  obtain⟨h1,h2⟩:=Po hR xs hs m ch;have hg:xs.toArray[m]! = xs[m]' ch:=by simp[show m<xs.length by omega]
  rw[Lib.compactUpTo_succ,hg,Bi,Ge ch]
  by_cases hk:Lib.keeps xs.toArray m=true
  .rw[Al hk];refine⟨?_,fun a=>by rw[AO,AO,h2];simp⟩;rw[List.pairwise_append];refine⟨h1,List.pairwise_singleton _ _,fun a ha b hb=>?_⟩;rw[Ap.1 hb];have ha:=(h2 a).1 ha;obtain⟨j,hj,rfl⟩:=Cf.1 ha;rw[Av]at hj;rw[GE];unfold Lib.keeps at hk;have hk:=AU hk;rcases hk with hk | hk
   .omega
   .have Ta : xs.toArray[m-1]! = xs[m-1]' ch:=by simp[show m-1<xs.length by omega]
    rw[hg,Ta]at hk;have s1:R (xs[m-1]' ch) (xs[m]' ch):=(hs (m-1) m ch ch ch).elim (fun e=>absurd e.symm hk) id
    by_cases e:j=m-1
    .subst e;exact s1
    .rcases hs j (m-1) ch ch ch with q | q
     .rw[q];exact s1
     .exact hR _ _ _ q s1
  .rw[Ai hk,BP];refine⟨h1,fun a=>?_⟩;rw[h2,AO];refine⟨.inl,fun q=>q.elim id fun q=>?_⟩;have q:a=xs[m]:=by simpa using q
   subst q;have hk:¬(m=0\/xs.toArray[m]!≠xs.toArray[m-1]!):=fun q=>hk (Ax q);have m0:0<m:=Nat.pos_of_ne_zero fun e=>hk (.inl e);have e:xs.toArray[m]! = xs.toArray[m-1]!:=AL fun e=>hk (.inr e);have Ta : xs.toArray[m-1]! = xs[m-1]' ch:=by simp[show m-1<xs.length by omega]
   rw[hg,Ta]at e;rw[e];exact Cf.2 ⟨m-1,by rw[Av];omega,by rw[GE]⟩
end
theorem kF(ht:(t.map Kr).Pairwise fun a b=>a<=b):(Cg t).Pairwise (fun a b=>Ea a b=true)/\∀p,p∈Cg t↔p∈t:=by
 have hc:=Po (R:=fun a b=>IJ a b=true) (fun a b c=>OD) (t.map Kr) (fun i j hi hj PO=>by
  have h:=(AX.1 ht) i j hi hj PO;cases e:IJ (t.map Kr)[i] (t.map Kr)[j]with
  |true=>exact .inr rfl
  |false =>
   cases e2:IJ (t.map Kr)[j] (t.map Kr)[i]with
   |true=>exact absurd (eU e2) (by simpa using h)
   |false=>exact .inl (UJ e e2)) (t.map Kr).length (Aj _)
 rw[B4]at hc;have e:Cg t=(Lib.compactUpTo (t.map Kr).toArray (t.map Kr).length).map QJ:=rfl;rw[e];refine⟨?_,fun p=>?_⟩
 .rw[Lc];exact hc.1.imp fun {a b} h=>by show IJ (QJ a).data.toList (QJ b).data.toList=true;exact h
 .rw[Ag];constructor
  .rintro⟨a,ha,rfl⟩
   obtain⟨q,hq,rfl⟩:=Ag.1 ((hc.2 a).1 ha)
   have:QJ (Kr q)=q:=by cases q;simp
   rw[this];exact hq
  .intro hp;exact⟨Kr p,(hc.2 _).2 (List.mem_map_of_mem hp),by cases p;simp⟩
abbrev t8(p:ByteArray)(f t:Int):List Mv:=if f≠t then [⟨p,f,t⟩]else []
def rm:List Sl->List Sl->List Mv
 | [],[]=>[]
 |a::l,[]=>t8 a.path (place a.ver) (-1)++rm l []
 | [],b::m=>t8 b.path (-1) (place b.ver)++rm [] m
 |a::l,b::m=>if a.path=b.path then t8 a.path (place a.ver) (place b.ver)++rm l m else if Ea a.path b.path=true then t8 a.path (place a.ver) (-1)++rm l (b::m)else t8 b.path (-1) (place b.ver)++rm (a::l) m
termination_by l m=>l.length+m.length
def mp:List Sl->List Sl->List ByteArray
 | [],[]=>[]
 |a::l,[]=>a.path::mp l []
 | [],b::m=>b.path::mp [] m
 |a::l,b::m=>if a.path=b.path then a.path::mp l m else if Ea a.path b.path=true then a.path::mp l (b::m)else b.path::mp (a::l) m
termination_by l m=>l.length+m.length
theorem Gm(a:Sl)(l:List Sl)(p:ByteArray):Jb (a::l) p=if a.path=p then place a.ver else Jb l p:=by
 unfold Jb BY;rw[E8]
 by_cases h:a.path=p
 .simp[h]
 .simp[h]
theorem In{l' m':List Sl}{ps:List ByteArray}(h1:∀p∈ps,Jb l p=Jb l' p)(h2:∀p∈ps,Jb m p=Jb m' p):Im l m ps=Im l' m' ps :=
 (by
  induction ps with
  |nil=>rfl
  |cons p ps ih =>
   show(p::ps).filterMap _=(p::ps).filterMap _;rw[List.filterMap_cons,List.filterMap_cons,show Jl l m p=Jl l' m' p from by unfold Jl;rw[h1 p (Ab ..),h2 p (Ab ..)],show ps.filterMap (Jl l m)=ps.filterMap (Jl l' m')from ih (fun q hq=>h1 q (Ah _ hq)) (fun q hq=>h2 q (Ah _ hq))])
theorem I7(l m:List Sl)(p:ByteArray)(ps:List ByteArray):Im l m (p::ps)=t8 p (Jb l p) (Jb m p)++Im l m ps:=by
 unfold Im t8;rw[List.filterMap_cons];unfold Jl
 by_cases h:Jb l p=Jb m p
 .simp[h]
 .simp[h]
theorem Tn{p:ByteArray}(h:∀s∈l,s.path≠p):Jb l p=-1:=by
 unfold Jb BY;rw[DO.2 fun s hs=>by simpa using h s hs]
theorem UQ(l m:List Sl)(hl:l.Pairwise UK)(hm:m.Pairwise UK):(mp l m).Pairwise (fun a b=>Ea a b=true)/\(∀p,p∈mp l m↔p∈l.map (·.path)\/p∈m.map (·.path))/\rm l m=Im l m (mp l m):=by
 match l,m with
 | [],[]=>unfold mp rm;simp
 |a::l,[] =>
  obtain⟨a1,a2⟩:=BL.1 hl;obtain⟨h1,h2,h3⟩:=UQ l [] a2 hm;have lt:∀p∈mp l [],Ea a.path p=true:=fun p hp=>by
   have:=(h2 p).1 hp
   rcases this with q | q
   .obtain⟨s,hs,rfl⟩:=Ag.1 q;exact a1 s hs
   .cases q
  unfold mp rm;refine⟨BL.2 ⟨lt,h1⟩,fun p=>by simp[h2],?_⟩;rw[I7,h3,Gm,Al rfl]
  congr 1
  exact In (fun p hp=>by rw[Gm,Ai (IE (lt p hp))]) fun _ _=>rfl
 | [],b::m =>
  obtain⟨a1,a2⟩:=BL.1 hm;obtain⟨h1,h2,h3⟩:=UQ [] m hl a2;have lt:∀p∈mp [] m,Ea b.path p=true:=fun p hp=>by
   have:=(h2 p).1 hp
   rcases this with q | q
   .cases q
   .obtain⟨s,hs,rfl⟩:=Ag.1 q;exact a1 s hs
  unfold mp rm;refine⟨BL.2 ⟨lt,h1⟩,fun p=>by simp[h2],?_⟩;rw[I7,h3,Gm,Al rfl]
  congr 1
  exact In (fun _ _=>rfl) fun p hp=>by rw[Gm,Ai (IE (lt p hp))]
 |a::l,b::m =>
  obtain⟨a1,a2⟩:=BL.1 hl;obtain⟨b1,b2⟩:=BL.1 hm;unfold mp rm
  by_cases e:a.path=b.path
  .rw[Al e,Al e];obtain⟨h1,h2,h3⟩:=UQ l m a2 b2;have lt:∀p∈mp l m,Ea a.path p=true:=fun p hp=>by
    rcases(h2 p).1 hp with q | q
    .obtain⟨s,hs,rfl⟩:=Ag.1 q;exact a1 s hs
    .obtain⟨s,hs,rfl⟩:=Ag.1 q;rw[e];exact b1 s hs
   refine⟨BL.2 ⟨lt,h1⟩,fun p=>?_,?_⟩
   .simp only[Az,h2,AI,e];constructor
    .rintro(q | q | q)
     .exact .inl (.inl q)
     .exact .inl (.inr q)
     .exact .inr (.inr q)
    .rintro((q | q) | (q | q))
     .exact .inl q
     .exact .inr (.inl q)
     .exact .inl q
     .exact .inr (.inr q)
   .rw[I7,h3,Gm,Al rfl,Gm,Al e.symm]
    congr 1
    exact In (fun p hp=>by rw[Gm,Ai (IE (lt p hp))]) fun p hp=>by rw[Gm,Ai (by rw[<-e];exact IE (lt p hp))]
  .rw[Ai e,Ai e]
   by_cases c:Ea a.path b.path=true
   .rw[Al c,Al c];obtain⟨h1,h2,h3⟩:=UQ l (b::m) a2 hm;have la:∀s∈b::m,Ea a.path s.path=true:=fun s hs=>by
     rcases Az.1 hs with rfl | hs
     .exact c
     .exact D2 c (b1 s hs)
    have lt:∀p∈mp l (b::m),Ea a.path p=true:=fun p hp=>by
     rcases(h2 p).1 hp with q | q
     .obtain⟨s,hs,rfl⟩:=Ag.1 q;exact a1 s hs
     .obtain⟨s,hs,rfl⟩:=Ag.1 q;exact la s hs
    refine⟨BL.2 ⟨lt,h1⟩,fun p=>by rw[Az,h2,AI,Az,AI (l:=l),Az (l:=l.map _),or_assoc],?_⟩;rw[I7,h3,Gm,Al rfl,Tn (l:=b::m) fun s hs=>(IE (la s hs)).symm]
    congr 1
    exact In (fun p hp=>by rw[Gm,Ai (IE (lt p hp))]) fun _ _=>rfl
   .rw[Ai c,Ai c];have c' : Ea b.path a.path=true:=by
     cases q:Ea b.path a.path with
     |true=>rfl
     |false=>exact absurd (H8 (by simpa using c) q) e
    obtain⟨h1,h2,h3⟩:=UQ (a::l) m hl b2;have la:∀s∈a::l,Ea b.path s.path=true:=fun s hs=>by
     rcases Az.1 hs with rfl | hs
     .exact c'
     .exact D2 c' (a1 s hs)
    have lt:∀p∈mp (a::l) m,Ea b.path p=true:=fun p hp=>by
     rcases(h2 p).1 hp with q | q
     .obtain⟨s,hs,rfl⟩:=Ag.1 q;exact la s hs
     .obtain⟨s,hs,rfl⟩:=Ag.1 q;exact b1 s hs
    refine⟨BL.2 ⟨lt,h1⟩,fun p=>?_,?_⟩
    .rw[Az,h2,AI,AI,Az,Az];constructor
     .rintro(q | q | q)
      .exact .inr (.inl q)
      .exact .inl q
      .exact .inr (.inr q)
     .rintro(q | q | q)
      .exact .inr (.inl q)
      .exact .inl q
      .exact .inr (.inr q)
    .rw[I7,h3,Tn (l:=a::l) fun s hs=>(IE (la s hs)).symm,Gm b m,Al rfl]
     congr 1
     exact In (fun _ _=>rfl) fun p hp=>by rw[Gm b m,Ai (IE (lt p hp))]
termination_by l.length+m.length
theorem az(hl:Iz l)(hm:Iz m)(hp:t.Perm ((l++m).map (·.path)))(ht:(t.map Kr).Pairwise fun a b=>a<=b):Im l m (Cg t)=rm l m:=by
 obtain⟨h1,h2,h3⟩:=UQ l m hl.inc hm.inc;obtain⟨c1,c2⟩:=kF ht;rw[h3]
 congr 1
 refine List.Perm.eq_of_pairwise (le:=fun a b=>Ea a b=true) (fun a b _ _ x y=>?_) c1 h1 ?_
 .rw[Nk x]at y;cases y
 .refine(OW (c1.imp fun h=>IE h) (h1.imp fun h=>IE h)).2 fun p=>?_;rw[c2,h2,hp.mem_iff,Ar,AO]
end Go.Eng
namespace Go.Eng
open Go.Proofs
end Go.Eng
namespace Go.Eng
end Go.Eng
namespace Go.Eng
open Go.Proofs
variable {caps:List AV}{i fF:Nat}(x:List Rl)(ifs:List (List AV))(lim:Int)(l s:List Sl)(q:Rq)(y:Sl)(m:List Sl)
theorem u9(v:Ver):PC 67 [.agg (DF v)] (.tup [vi (plc v),vi (if Ct v then 0 else 2)]):=vo v
def zeR:Rl:=⟨⟨#[]⟩,⟨0,0,0⟩,[],⟨#[]⟩,⟨#[]⟩,⟨#[]⟩,false⟩
def GR:Rl:=(Db x y).getD zeR
abbrev Xk:Value×AV:=(Value.string y.path,AV.agg (AF (GR x y)))
abbrev CI:List (Value×AV):=s.map (Xk x)
def N8:Int:=if A4 x=0 then if EW s=true then if s.all (fun y=>(Db x y).isSome)=true then 0 else 6 else 1 else 1
def Qn:Bool:=match BY s q.path with
 |some y=>has q.set (plc (GR x y).ver)
 |none=>false
def bX:Bool:=s.all fun y=>(GR x y).reqs.all (Qn x s)
def Fb:Int:=if N8 x s=0 then if bX x s=true then 0 else 17 else N8 x s
theorem JI{s:List Sl}(h:EW s=true):s.Pairwise UK:=by
 rw[J7]at h;rw[AX];intro i j hi hj PO;show Ea s[i].path s[j].path=true
 induction j with
 |zero=>omega
 |succ j ih =>
  have q:=h (j+1) hj ch
  by_cases e:i=j
  .subst e;exact q
  .exact D2 (ih ch ch) q
theorem qF{x:List Rl}{s:List Sl}(h:s.Pairwise UK)(hi:i<s.length):∀b,(Value.string s[i].path,b)∉CI x (s.take i):=fun b hb=>by
 obtain⟨t,ht,e⟩:=Ag.1 hb;obtain⟨j,hj,rfl⟩:=Cf.1 ht;rw[GE]at e;rw[Av]at hj;have q:=(AX.1 h) j i ch hi ch;have e2:s[j].path=s[i].path:=by injection e with e1;injection e1
 rw[UK,e2,Df]at q;cases q
theorem jo{x:List Rl}{s:List Sl}(h:s.Pairwise UK)(hi:i<s.length):EX (CI x (s.take i)) (.string s[i].path) (.agg (AF (GR x s[i])))=CI x (s.take (i+1)):=by
 rw[IL (qF h hi),Ej hi];unfold CI;rw[Ar];rfl
theorem Xl{x:List Rl}{s:List Sl}(h:s.Pairwise UK){p:ByteArray}{y:Sl}(hy:BY s p=some y):(Value.string p,AV.agg (AF (GR x y)))∈CI x s/\∀b,(Value.string p,b)∈CI x s->b=AV.agg (AF (GR x y)):=by
 have h1:=DJ hy;have e1:y.path=p:=AU h1;refine⟨Ag.2 ⟨y,BE hy,by rw[<-e1]⟩,fun b hb=>?_⟩;obtain⟨t,ht,e⟩:=Ag.1 hb;have e2:t.path=p:=by injection e with e1;injection e1
 have e3:AV.agg (AF (GR x t))=b:=by injection e
 have e4:BY s p=some t:=by unfold BY;rw[<-e2];exact JZ (Q0 ocP h) ht
 rw[hy]at e4;rw[<-e3,CK e4]
theorem jp{x:List Rl}{s:List Sl}{p:ByteArray}(h:BY s p=none):∀b,(Value.string p,b)∉CI x s:=fun b hb=>by
 obtain⟨t,ht,e⟩:=Ag.1 hb;have e2:t.path=p:=by injection e with e1;injection e1
 exact absurd (Ax e2) (DO.1 h t ht)
theorem uW(hs:s.Pairwise UK)(hy:BY s q.path=some y)(hq:B9 q.set):PC 129 [.cmap Cm (CI x s),.agg (Ba q)] (vb (has q.set (plc (GR x y).ver))):=by
 refine Ps (pC [3] []) Tryz.func129 rfl (Nz rfl) (Yi (fun a ha=>?_) (fun NO=>absurd (Xl hs hy).1 (NO _)));have ea:=(Xl hs hy).2 a ha;subst ea;refine yN (yN (Xi .pure (Xi _ (Yi (u9 (GR x y).ver) (B8 (Bt (has q.set (plc (GR x y).ver))) (fun h1=>?_) (fun h1=>?_))))))
 .have h1:(has q.set (plc (GR x y).ver))=true:=h1;refine Xi .pure (Xi _ (Yi (cb h1 (km q.set (plc (GR x y).ver) hq)) ?_));exact CZ.of_eq (Aa vb h1.symm)
 have h1:(has q.set (plc (GR x y).ver))=false:=h1;refine Xi .pure (Xi _ (Yi (cb h1 (km q.set (plc (GR x y).ver) hq)) ?_));exact CZ.of_eq (Aa vb h1.symm)
theorem uV(hy:BY s q.path=none)(_hq:B9 q.set):PC 129 [.cmap Cm (CI x s),.agg (Ba q)] (vb false):=by
 refine Ps (pC [3] []) Tryz.func129 rfl (Nz rfl) (Yi (fun a ha=>absurd ha (jp hy a)) (fun _=>?_));refine yN (yN (Xi .pure (Xi _ (Yi (u9 ⟨0,0,0⟩) ?_))));exact .refl _
theorem r4(hs:s.Pairwise UK)(hq:B9 q.set):PC 129 [.cmap Cm (CI x s),.agg (Ba q)] (vb (Qn x s q)):=by
 cases e:BY s q.path with
 |some y=>rw[Qn,e];exact uW x s q y hs e hq
 |none=>rw[Qn,e];exact uV x s q e hq
theorem fT(hs:s.Pairwise UK)(hq:B9 q.set):PC 128 [.agg (Ba q),.cptr [.cmap Cm (CI x s)]] (vb (!Qn x s q)):=by
 refine Ps Ee Tryz.func128 rfl (Nz rfl) (yN (B8 (Bt (Qn x s q)) (fun h1=>?_) (fun h1=>?_)))
 .have h1:(Qn x s q)=true:=h1;refine Xi .pure (Xi _ (Yi (cb h1 (r4 x s q hs hq)) ?_));exact CZ.of_eq (Aa vb (show false=!Qn x s q by rw[h1];rfl))
 have h1:(Qn x s q)=false:=h1;refine Xi .pure (Xi _ (Yi (cb h1 (r4 x s q hs hq)) ?_));exact CZ.of_eq (Aa vb (show true=!Qn x s q by rw[h1];rfl))
def mr:AV:=if N8 x s=0 then .tup [.cmap Cm (CI x s),vi 0]else .tup [.v (.map none),vi (N8 x s)]
theorem pI{s:List Sl}(h:∀j (hj:j<s.length),0<j->j<i->Ea (s[j-1]' ch).path s[j].path=true)(hi:s.length<=i):EW s=true :=
 (J7 s).2 fun j hj h0=>h j hj h0 ch
theorem pJ{s:List Sl}(hi:i<s.length)(h0:0<i)(h:Ea (s[i-1]' ch).path s[i].path=false):¬EW s=true:=fun e=>by
 have q:=(J7 s).1 e i hi h0;rw[h]at q;cases q
theorem jX{x:List Rl}{s:List Sl}(h:∀j (hj:j<s.length),j<i->(Db x s[j]).isSome=true)(hi:s.length<=i):s.all (fun y=>(Db x y).isSome)=true:=by
 rw[Bc];intro y hy;obtain⟨j,hj,rfl⟩:=Cf.1 hy;exact h j hj ch
theorem oF{x:List Rl}{s:List Sl}(hi:i<s.length)(h:Db x s[i]=none):¬s.all (fun y=>(Db x y).isSome)=true:=fun e=>by
 have q:=Bc.1 e _ (Aq hi);rw[h]at q;cases q
theorem y8(hx:∀r∈x,Eu r)(hl:B9 s):PC 126 [.agg (Ic x ifs),sl Am s] (mr x s):=by
 have hl:s.length<=1073741824:=hl;refine Ps ⟨[2],[],[],[],[33],[],[],[],[],[],[5,7,13]⟩ Tryz.func126 rfl (Nz rfl) (yN (Xi .pure (Xi _ (Yi (vq VH x ifs hx) (Yi (fun h1=>?_) (fun h1=>?_))))))
 .have h1:((A4 x):Int)≠(0:Int):=h1;exact CZ.of_eq (show AV.tup [.v (.map none),vi 1]=mr x s by rw[mr,N8,Ai h1,Ai Cl])
 have h1:((A4 x):Int)=(0:Int):=AL h1;refine Xi {q:Nat // 1<=q/\(q<=s.length\/q=1)/\∀j (hj:j<s.length),0<j->j<q->Ea (s[j-1]' ch).path s[j].path=true} (Xi (fun q=>⟨[(1,sl Am s),(2,.ref 2 0),(6,vi q.1)],[(2,.ro (Ic x ifs))],Af⟩) (Xi (fun q=>s.length+1-q.1) (Yi (Xi ⟨1,Aj _,.inr rfl,fun j hj h0 h1=>absurd h0 ch⟩ ?_) ?_)))
 .exact⟨Z3,Z1,Fh,Tv⟩
 intro⟨i,i1,i2,i3⟩;have i1:1<=i:=i1;have i2:i<=s.length\/i=1:=i2;have i3:∀j (hj:j<s.length),0<j->j<i->Ea (s[j-1]' ch).path s[j].path=true:=i3;refine Yi (fun h3=>?_) (fun h3=>?_)
 .have h3:(i:Int)<((s.map Am).length:Int):=h3;have n3:=FW h3;refine Yi (by show A7 ((i:Int)-(1:Int));unfold A7;omega) (Xi (Am (s[i-1]' ch)) (Yi (Yi (show(0:Int)<=(i:Int)-1 by omega) (by rw[show((i:Int)-1).toNat=i-1 by omega];exact Ed (Ge ch))) (Yi rfl ?_)));refine Xi (Am s[i]) (Yi (LH n3) (Yi rfl (Yi (fun h4=>?_) (fun h4=>?_))))
  .have h4:Ea (s[i-1]' ch).path s[i].path=false:=(F9 _ _).trans h4;refine Yi Wk (cU [] [] Tv Tv ?_)
   exact CZ.of_eq (show AV.tup [.v (.map none),vi 1]=mr x s by rw[mr,N8,Al h1,Ai (pJ n3 ch h4),Ai Cl])
  have h4:Ea (s[i-1]' ch).path s[i].path=true:=(F9 _ _).trans (by simpa using h4);refine Yi Wk (cU [(1,sl Am s),(2,.ref 2 0),(6,vi i)] [(2,.ro (Ic x ifs))] Z3 Z1 (Yi (Ii i ch) (Xi ⟨i+1,by omega,.inl ch,fun j hj h0 h1=>by rcases DQ j i with h2 | h2;exact i3 j hj h0 h2;have e:j=i:=ch;subst e;exact h4⟩ ?_)));exact⟨by show s.length+1-(i+1)<s.length+1-i;omega,Z3,Z1,Fh,Tv⟩
 have h3:¬((i:Int)<((s.map Am).length:Int)):=h3;have n3:=DT h3;have ia:EW s=true:=pI i3 (Bz (DT h3));refine Xi {q:Nat // q<=s.length/\∀j (hj:j<s.length),j<q->(Db x s[j]).isSome=true} (Xi (fun q=>⟨[(2,.ref 2 0),(7,.mref 33),(34,sl Am s),(35,vi (s.map Am).length),(36,vi q.1)],[(2,.ro (Ic x ifs)),(33,.map Cm (CI x (s.take q.1)))],Af⟩) (Xi (fun q=>s.length-q.1) (Yi (Xi ⟨0,AE _,fun j hj h1=>absurd h1 ch⟩ ?_) ?_)))
 .exact⟨Z5,Z2,Fh,Tv⟩
 intro⟨k,k1,k2⟩;have k1:k<=s.length:=k1;have k2:∀j (hj:j<s.length),j<k->(Db x s[j]).isSome=true:=k2;refine Yi (fun h7=>?_) (fun h7=>?_)
 .have h7:(k:Int)<((s.map Am).length:Int):=h7;have n7:=FW h7;refine Xi (Am s[k]) (Yi (LH n7) (Yi rfl (yN (yN (yN (yN (B8 (iU (Db x ⟨s[k].path,s[k].ver⟩)) (fun h8=>?_) (fun h8=>?_))))))))
  .refine CN h8 (fun r h8=>?_);have w6:=c53 x ifs s[k].path s[k].ver (c84 x ifs hx) hx;rw[h8]at w6;refine Xi .pure (Xi _ (Yi w6 (yN (cU [(2,.ref 2 0),(7,.mref 33),(9,.ref 9 0),(10,.ref 10 0),(11,vb true),(34,sl Am s),(35,vi (s.map Am).length),(36,vi k)] [(2,.ro (Ic x ifs)),(9,.cells (Am s[k])),(10,.cells (AF r)),(33,.map Cm (CI x (s.take k)))] Z8 Z4 (yN (Yi (Ii k ch) (Xi ⟨k+1,n7,fun j hj h1=>by rcases DQ j k with h2 | h2;exact k2 j hj h2;have e:j=k:=ch;subst e;rw[show Db x s[j]=some r from h8];rfl⟩ ?_)))))));exact⟨Dl s.length k ch,Z5,⟨Zr,⟨(show HO.map Cm (EX (CI x (s.take k)) (.string s[k].path) (.agg (AF r)))=.map Cm (CI x (s.take (k+1)))from Aa (HO.map Cm) (by rw[<-jo (JI ia) n7,GR,show Db x s[k]=some r from h8];rfl)),rfl⟩,Tv⟩,Fh,Tv⟩
  have w6:=c53 x ifs s[k].path s[k].ver (c84 x ifs hx) hx;rw[h8]at w6;refine Xi .pure (Xi _ (Yi w6 (yN (cU [(2,.ref 2 0),(7,.mref 33),(9,.ref 9 0),(10,.ref 10 0),(11,vb false),(34,sl Am s),(35,vi (s.map Am).length),(36,vi k)] [(2,.ro (Ic x ifs)),(9,.cells (Am s[k])),(10,.cells [vs ⟨#[]⟩,vi 0,vi 0,vi 0,nzA,vs ⟨#[]⟩,vs ⟨#[]⟩,vs ⟨#[]⟩,vb false]),(33,.map Cm (CI x (s.take k)))] Z8 Z4 ?_))))
  exact CZ.of_eq (show AV.tup [.v (.map none),vi 6]=mr x s by rw[mr,N8,Al h1,Al ia,Ai (oF n7 h8),Ai Cl])
 have h7:¬((k:Int)<((s.map Am).length:Int)):=h7;have n7:=DT h7;have ee:s.take k=s:=As (Bz (DT h7));exact CZ.of_eq (show AV.tup [.cmap Cm (CI x (s.take k)),vi 0]=mr x s by rw[ee,mr,N8,Al h1,Al ia,Al (jX k2 (Bz (DT h7))),Al rfl])
theorem Ady(hs:CV caps)(l:List (Rq))(p:Rq->Bool)(hF:∀x∈l,PC fF ([.agg (Ba x)]++caps) (vb (p x)))(hl:l.length<9223372036854775807) :
  PC 180 [sl Ba l,.clo fF caps] (vi (Jv p l 0)):=by
 refine Ps Ee Tryz.func180 rfl (Nz rfl) (Xi {i:Nat // i<=l.length/\∀j (hj:j<l.length),j<i->p l[j]=false} (Xi (fun i=>⟨[(0,sl Ba l),(1,.clo fF caps),(7,vi (l.map Ba).length),(8,vi i.1)],[],Af⟩) (Xi (fun i=>l.length-i.1) (Yi (Xi ⟨0,by simp⟩ ?_) ?_))))
 .exact⟨⟨Zr,⟨rfl,hs.ids _⟩,Zr,Zr,Tv⟩,Tv,Fh,Tv⟩
 .intro⟨i,h1,h2⟩;refine Yi ?_ ?_
  .intro h;have h:i<l.length:=by simpa using h
   have hg:l[i]?=some l[i]:=Ge h;refine Xi (Ba l[i]) (Yi (Yi (Nn i) (by simp[hg])) (Yi rfl (yN ?_)));have Ca:∀h,PC fF ([.agg (Ba l[i])]++caps.map (str0 h)) (vb (p l[i])):=fun h=>by rw[hs.map];exact hF l[i] (Aq _)
   cases hp:p l[i]with
   |true =>
    rw[hp]at Ca;refine Xi .pure (Xi (vb true) (Yi (Ca _) ?_));rw[HC h (fun j hj JG=>h2 j hj JG) hp,Ew];exact .refl _
   |false =>
    rw[hp]at Ca;refine Xi .pure (Xi (vb false) (Yi (Ca _) (Yi (Ii i ch) (Xi ⟨i+1,by omega,fun j hj JG=>?_⟩ ?_))))
    .by_cases e:j=i
     .subst e;exact hp
     .exact h2 j hj ch
    .exact⟨Dl l.length i ch,⟨Zr,⟨rfl,hs.ids _⟩,Zr,Zr,Tv⟩,Tv,Fh,Tv⟩
  .intro h;have h:¬i<l.length:=by simpa using h
   rw[Gk fun j hj=>h2 j hj ch];exact .refl _
theorem z127(hs:CV caps)(l:List (Rq))(p:Rq->Bool)(hF:∀x∈l,PC fF ([.agg (Ba x)]++caps) (vb (p x)))(hl:B9 l) :
  PC 127 [sl Ba l,.clo fF caps] (vb (l.any p)):=by
 refine Ps Ee Tryz.func127 rfl (Nz rfl) ?_;have hi:=Ady hs l p hF (by unfold B9 at hl;omega);have Ca:∀h,PC 180 [sl Ba l,.clo fF (caps.map (str0 h))] (vi (Jv p l 0)):=fun h=>by rw[hs.map];exact hi
 refine Xi .pure (Xi _ (Yi (Ca _) ?_));have ha:=Hy (p:=p) l 0 (Bs 0);refine Yi ?_ ?_
 .intro h;rw[<-ha,Ax h];exact .refl _
 .intro h;rw[<-ha,AB h];exact .refl _
theorem z131(hs:CV caps)(l:List (ByteArray))(p:ByteArray->Bool)(hF:∀x∈l,PC fF ([vs x]++caps) (vb (p x)))(hl:l.length<9223372036854775807) :
  PC 131 [sl AD l,.clo fF caps] (vi (Jv p l 0)):=by
 refine Ps Ee Tryz.func131 rfl (Nz rfl) (Xi {i:Nat // i<=l.length/\∀j (hj:j<l.length),j<i->p l[j]=false} (Xi (fun i=>⟨[(0,sl AD l),(1,.clo fF caps),(7,vi (l.map AD).length),(8,vi i.1)],[],Af⟩) (Xi (fun i=>l.length-i.1) (Yi (Xi ⟨0,by simp⟩ ?_) ?_))))
 .exact⟨⟨Zr,⟨rfl,hs.ids _⟩,Zr,Zr,Tv⟩,Tv,Fh,Tv⟩
 .intro⟨i,h1,h2⟩;refine Yi ?_ ?_
  .intro h;have h:i<l.length:=by simpa using h
   have hg:l[i]?=some l[i]:=Ge h;refine Xi (AD l[i]) (Yi (Yi (Nn i) (by simp[hg])) (Yi rfl ?_));have Ca:∀h,PC fF ([vs l[i]]++caps.map (str0 h)) (vb (p l[i])):=fun h=>by rw[hs.map];exact hF l[i] (Aq _)
   cases hp:p l[i]with
   |true =>
    rw[hp]at Ca;refine Xi .pure (Xi (vb true) (Yi (Ca _) ?_));rw[HC h (fun j hj JG=>h2 j hj JG) hp,Ew];exact .refl _
   |false =>
    rw[hp]at Ca;refine Xi .pure (Xi (vb false) (Yi (Ca _) (Yi (Ii i ch) (Xi ⟨i+1,by omega,fun j hj JG=>?_⟩ ?_))))
    .by_cases e:j=i
     .subst e;exact hp
     .exact h2 j hj ch
    .exact⟨Dl l.length i ch,⟨Zr,⟨rfl,hs.ids _⟩,Zr,Zr,Tv⟩,Tv,Fh,Tv⟩
  .intro h;have h:¬i<l.length:=by simpa using h
   rw[Gk fun j hj=>h2 j hj ch];exact .refl _
theorem z74(hs:CV caps)(l:List (ByteArray))(p:ByteArray->Bool)(hF:∀x∈l,PC fF ([vs x]++caps) (vb (p x)))(hl:B9 l) :
  PC 74 [sl AD l,.clo fF caps] (vb (l.any p)):=by
 refine Ps Ee Tryz.func74 rfl (Nz rfl) ?_;have hi:=z131 hs l p hF (by unfold B9 at hl;omega);have Ca:∀h,PC 131 [sl AD l,.clo fF (caps.map (str0 h))] (vi (Jv p l 0)):=fun h=>by rw[hs.map];exact hi
 refine Xi .pure (Xi _ (Yi (Ca _) ?_));have ha:=Hy (p:=p) l 0 (Bs 0);refine Yi ?_ ?_
 .intro h;rw[<-ha,Ax h];exact .refl _
 .intro h;rw[<-ha,AB h];exact .refl _
theorem iK{x:List Rl}{l:List Sl}{kv:Value×AV}{Ma : List (Value×AV)}(h:(l.map (Xk x)).Perm (kv::Ma)):∃t r,kv=Xk x t/\Ma=r.map (Xk x)/\l.Perm (t::r):=by
 obtain⟨ps,h1,h2⟩:=KJ h l rfl;cases ps with
 |nil=>cases h2
 |cons t r =>
  rw[AI,E7]at h2;exact⟨t,r,h2.1.symm,h2.2.symm,h1.symm⟩
def Js:AV:=if Fb x s=0 then .tup [.cmap Cm (CI x s),vi 0]else .tup [.v (.map none),vi (Fb x s)]
def gL:Bool:=(GR x y).reqs.all (Qn x s)
theorem dL{α:Type}(p:α->Bool)(l:List α):l.any (fun q=>!p q)=!l.all p:=by
 induction l with
 |nil=>rfl
 |cons a l ih=>rw[Ce,List.all_cons,ih,Bool.not_and]
theorem Zn{x:List Rl}{s d:List Sl}(h:d.Perm s)(k:∀y∈d,gL x s y=true):bX x s=true:=Bc.2 fun y hy=>k y (h.mem_iff.2 hy)
theorem bY{x:List Rl}{s d r:List Sl}{y:Sl}(h:(d++y::r).Perm s)(k:gL x s y=false):¬bX x s=true:=fun e=>by
 have q:=Bc.1 e y (h.mem_iff.1 (AO.2 (.inr (Ab ..))));rw[show(GR x y).reqs.all (Qn x s)=false from k]at q;cases q
theorem UV{x:List Rl}{s:List Sl}(h:N8 x s=0):A4 x=0:=by
 unfold N8 at h;split at h
 .assumption
 .cases h
theorem YE{x:List Rl}{s:List Sl}(h:N8 x s=0){y:Sl}(hy:y∈s):GR x y∈x:=by
 unfold N8 at h;split at h
 .split at h
  .split at h
   .rename_i h0 _ h1;have q:=Bc.1 h1 y hy;unfold GR;cases e:Db x y with
    |none=>rw[e]at q;cases q
    |some r =>
     unfold Db at e;rw[Ai ch]at e;exact BE e
   .cases h
  .cases h
 .cases h
theorem qS(hx:∀r∈x,Eu r)(hl:B9 s)(h0:¬N8 x s=0):PC 72 [.agg (Ic x ifs),sl Am s] (Js x s):=by
 refine Ps (pC [2,6] []) Tryz.func72 rfl (Nz rfl) (yN (Xi .pure (Xi _ (Yi (by have q:=y8 x ifs s hx hl;rw[mr,Ai h0]at q;exact q) ?_))));refine yN (Yi (fun h1=>?_) (fun h1=>?_))
 .exact CZ.of_eq (show AV.tup [.v (.map none),vi (N8 x s)]=Js x s by rw[Js,Fb,Ai h0,Ai h0])
 have h1:((N8 x s):Int)=(0:Int):=AL h1;exact absurd h1 h0
theorem qT(hx:∀r∈x,Eu r)(hl:B9 s)(h0:N8 x s=0)(ia:EW s=true):PC 72 [.agg (Ic x ifs),sl Am s] (Js x s):=by
 refine Ps (pC [2,6] []) Tryz.func72 rfl (Nz rfl) (yN (Xi .pure (Xi _ (Yi (by have q:=y8 x ifs s hx hl;rw[mr,Al h0]at q;exact q) ?_))));refine yN (Yi (fun h=>absurd h Cl) (fun _=>?_));refine Xi {q:List Sl×List Sl×Option (Value×AV) // (q.1++q.2.1).Perm s/\∀y∈q.1,gL x s y=true} (Xi (fun q=>⟨[(6,.ref 6 0),(20,.ref 20 0)],[(6,.ro [.cmap Cm (CI x s)]),(20,.iter (CI x s) (q.1.2.1.map (Xk x)) q.1.2.2)],Af⟩) (Xi (fun q=>q.1.2.1.length) (Yi (Xi ⟨([],s,none),.refl _,fun _ h=>by cases h⟩ ?_) ?_)))
 .exact⟨Z2,Z2,Fh,Tv⟩
 intro⟨⟨dn,rem,EC⟩,r1,r2⟩;refine Yi ?_ ?_
 .intro hr;have hr:rem=[]:=DE.1 hr;rw[hr,BP]at r1;exact CZ.of_eq (show AV.tup [.cmap Cm (CI x s),vi 0]=Js x s by rw[Js,Fb,Al h0,Al (Zn r1 r2),Al rfl])
 intro kv Ma hp;refine CN (iK hp) (fun y hp=>CN hp (fun r hp=>?_));have e1:=hp.1;have e2:=hp.2.1;subst e1;subst e2;have hp:=hp.2.2;have hy:y∈s:=r1.mem_iff.1 (AO.2 (.inr (hp.mem_iff.2 (Ab ..))));refine yN (B8 (Bt (!gL x s y)) (fun h2=>?_) (fun h2=>?_))
 .refine Xi .pure (Xi _ (Yi (cb h2 (show PC 127 [sl Ba (GR x y).reqs,.clo 128 [.cptr [.cmap Cm (CI x s)]]] (vb (!gL x s y))from by have q:=z127 (fF:=128) (caps:=[.cptr [.cmap Cm (CI x s)]]) (CV.ptr _) (GR x y).reqs (fun q=>!Qn x s q) (fun q hq=>fT x s q (JI ia) ((hx _ (YE h0 hy)).2 q hq).1) (AJ ((L3 (UV h0)).2 _ (YE h0 hy)) Cl);rw[dL]at q;exact q)) ?_));exact CZ.of_eq (show AV.tup [.v (.map none),vi 17]=Js x s by rw[Js,Fb,Al h0,Ai (bY (y:=y) (d:=dn) (r:=r) ((Iw _ hp.symm).trans r1) (by simpa using h2)),Ai Cl])
 refine Xi .pure (Xi _ (Yi (cb h2 (show PC 127 [sl Ba (GR x y).reqs,.clo 128 [.cptr [.cmap Cm (CI x s)]]] (vb (!gL x s y))from by have q:=z127 (fF:=128) (caps:=[.cptr [.cmap Cm (CI x s)]]) (CV.ptr _) (GR x y).reqs (fun q=>!Qn x s q) (fun q hq=>fT x s q (JI ia) ((hx _ (YE h0 hy)).2 q hq).1) (AJ ((L3 (UV h0)).2 _ (YE h0 hy)) Cl);rw[dL]at q;exact q)) ?_));refine Xi ⟨(dn++[y],r,some (Xk x y)),by rw[BA];exact(Iw _ hp.symm).trans r1,fun z hz=>by rcases AO.1 hz with h | h;exact r2 z h;rw[Ap.1 h];exact(by simpa using h2)⟩ ?_;exact⟨by show r.length<rem.length;rw[hp.length_eq];exact F8 _,Z2,Z2,Fh,Tv⟩
theorem L6{x:List Rl}{s:List Sl}(h:N8 x s=0):EW s=true:=by
 unfold N8 at h;split at h
 .split at h
  .assumption
  .cases h
 .cases h
theorem OQ(hx:∀r∈x,Eu r)(hl:B9 s):PC 72 [Mo x ifs,sl Am s] (Js x s):=by
 by_cases h:N8 x s=0
 .exact qT x ifs s hx hl h (L6 h)
 .exact qS x ifs s hx hl h
theorem X8{x:List Rl}(roots:List Rq)(hx:x.length<=16):B9 (EG x roots):=by
 by_cases h:Kw x roots=0
 .have:=(Qq h).2.1
  show _<=1073741824;omega
 .unfold EG;rw[Ai h];exact AE _
theorem zi  : PC 220 [nzA,vi 0,vi 0] (.tup []):=by
 refine Ps Ee Tryz.func220 rfl (Nz rfl) (Yi (Ii 0 ch) (Xi {q:Nat // q=0} (Xi (fun q=>⟨[(0,nzA),(1,vi 0),(2,vi 0),(6,vi (0+1))],[],Af⟩) (Xi (fun q=>q.1) (Yi (Xi ⟨0,rfl⟩ ?_) ?_)))))
 .exact⟨Z4,Tv,Fh,Tv⟩
 intro⟨i,i1⟩;refine Yi (fun h1=>?_) (fun h1=>?_)
 .exact absurd h1 Cl
 exact .refl _
theorem zh:PC 160 [nzA,vi 0,vi 0,vi lim] (.tup []):=by
 refine Ps Ee Tryz.func160 rfl (Nz rfl) (Xi {q:Nat // q=0} (Xi (fun q=>⟨[(0,nzA),(1,vi 0),(2,vi 0),(3,vi lim),(8,vb true),(9,vb true)],[],Af⟩) (Xi (fun q=>q.1) (Yi (Xi ⟨0,rfl⟩ ?_) ?_))))
 .exact⟨Z6,Tv,Fh,Tv⟩
 intro⟨i,i1⟩;refine Yi (by show A7 ((0:Int)-(0:Int));unfold A7;omega) (Yi (fun h1=>?_) (fun h1=>?_))
 .refine Xi .pure (Xi _ (Yi zi ?_));exact .refl _
 exact absurd Cl h1
theorem zj(hb:PC 161 [.v (.int .u64 (IntKind.u64.wrap (0:Int)))] (vi lim)):PC 99 [nzA] (.tup []):=by
 refine Ps Ee Tryz.func99 rfl (Nz rfl) (Xi .pure (Xi _ (Yi hb (Xi .pure (Xi _ (Yi (zh lim) ?_))))));exact .refl _
theorem Adw  : PC 183 [nzA] nzA:=by
 refine Ps Ee Tryz.func183 rfl (Nz rfl) (Yi (fun _=>?_) (fun h=>absurd Cl h));exact .refl _
theorem Xh:Iz []:=⟨show 0<=1073741824 by decide,Bx _,List.Pairwise.nil⟩
theorem Adv(hs:PC 99 [nzA] (.tup [])):PC 130 [sl Am ([]:List Sl),sl Am ([]:List Sl)] (.tup [nzA,vi 0]):=by
 refine Ps ⟨[],[],[],[(34,[12000,12500])],[],[],[],[],[],[],[1,2,3,4,5,6,8,9,10,11,12,13,14,16,17,18,19,20,21]⟩ Tryz.func130 rfl (Nz rfl) (cU [(0,sl Am ([]:List Sl)),(1,sl Am ([]:List Sl))] [] Z2 Tv (Xi (.gen [] 1) (Yi rfl (A9.to2 (qf [] Xh) ?_))));refine cU [(0,sl Am ([]:List Sl)),(1,sl Am ([]:List Sl)),(6,.mref 12000),(7,vb true)] [(12000,.map Cm (H3 []))] Z4 Z1 (Xi (.gen [] 1) (Yi rfl (A9.to2 (qf [] Xh) ?_)));refine cU [(0,sl Am ([]:List Sl)),(1,sl Am ([]:List Sl)),(6,.mref 12000),(7,vb true),(8,.mref 12500),(9,vb true)] [(12000,.map Cm (H3 [])),(12500,.map Cm (H3 []))] Z6 Z2 (cU [(0,sl Am ([]:List Sl)),(1,sl Am ([]:List Sl)),(6,.mref 12000),(8,.mref 12500)] [(12000,.map Cm (H3 [])),(12500,.map Cm (H3 []))] Z4 Z2 (cU [(0,sl Am ([]:List Sl)),(1,sl Am ([]:List Sl)),(6,.mref 12000),(8,.mref 12500),(10,nzA)] [(12000,.map Cm (H3 [])),(12500,.map Cm (H3 []))] Z5 Z2 (Xi (.gen [] 1) (Yi rfl (A9.to2 (sU ([]:List Sl) (show 0<=1073741824 by decide)) ?_)))));have b2:Cn 4 (([]:List Sl).map Am)/\(([]:List Sl).map Am).length=(([]:List Sl).map Am).length/\((([]:List Sl).map Am).length+(([]:List Sl).map Am).length)*40<=140737488355328/\(([]:List Sl).map Am).length+(([]:List Sl).map Am).length<=9223372036854775807:=⟨(DZ (enc:=Am) (n:=4) (fun _=>rfl) ([]:List Sl)),rfl,(by simp only[Lm,At];omega),(by simp only[Lm,At];omega)⟩;refine Yi b2 (Xi {q:Nat // q=0} (Xi (fun q=>⟨[(6,.mref 12000),(8,.mref 12500),(10,nzA),(37,.slice (.id 13500 4) ((([]:List Sl).map Am)++(([]:List Sl).map Am))),(38,vi (((([]:List Sl).map Am)++(([]:List Sl).map Am)):List (List AV)).length),(39,vi q.1)],[(12000,.rom Cm (H3 [])),(12500,.rom Cm (H3 [])),(13500,.tok 4 ((([]:List Sl).map Am).length+(([]:List Sl).map Am).length))],Af⟩) (Xi (fun q=>q.1) (Yi (Xi ⟨0,rfl⟩ ?_) ?_))))
 .exact⟨Z6,Z3,Fh,Tv⟩
 intro⟨i,i1⟩;refine Yi (fun h3=>?_) (fun h3=>?_)
 .exact absurd h3 (by show ¬((i:Int)<0);omega)
 refine cU [(6,.mref 12000),(8,.mref 12500),(10,nzA)] [(12000,.rom Cm (H3 [])),(12500,.rom Cm (H3 []))] Z3 Z2 (Xi .pure (Xi _ (Yi hs (cU [(6,.mref 12000),(8,.mref 12500),(10,nzA)] [(12000,.rom Cm (H3 [])),(12500,.rom Cm (H3 []))] Z3 Z2 (cU [(6,.mref 12000),(8,.mref 12500),(10,nzA),(13,.v (.func (.func 182) #[] #[]))] [(12000,.rom Cm (H3 [])),(12500,.rom Cm (H3 []))] Z4 Z2 (cU [(6,.mref 12000),(8,.mref 12500),(10,nzA),(13,.v (.func (.func 182) #[] #[])),(14,nzA)] [(12000,.rom Cm (H3 [])),(12500,.rom Cm (H3 []))] Z5 Z2 (Xi .pure (Xi _ (Yi Adw (Xi {q:Nat // q=0} (Xi (fun q=>⟨[(6,.mref 12000),(8,.mref 12500),(13,.v (.func (.func 182) #[] #[])),(14,nzA),(52,nzA),(53,vi 0),(54,vi q.1)],[(12000,.rom Cm (H3 [])),(12500,.rom Cm (H3 []))],Af⟩) (Xi (fun q=>q.1) (Yi (Xi ⟨0,rfl⟩ ?_) ?_)))))))))))))
 .exact⟨Z7,Z2,Fh,Tv⟩
 intro⟨i,i1⟩;refine Yi (fun h4=>?_) (fun h4=>?_)
 .exact absurd h4 (by show ¬((i:Int)<0);omega)
 refine cU [(14,nzA)] [] Z1 Tv ?_
 exact .refl _
theorem Qs(p:List ByteArray):∃t:List ByteArray,t.Perm p/\(t.map Kr).Pairwise fun a b=>a<=b:=by
 have e:∀q:ByteArray,QJ (Kr q)=q:=fun q=>by cases q;simp
 have e2:∀q:List UInt8,Kr (QJ q)=q:=fun q=>by simp
 refine⟨((p.map Kr).mergeSort fun a b=>decide (a<=b)).map QJ,?_,?_⟩
 .have h:=(NT (p.map Kr) fun a b=>decide (a<=b)).map QJ
  rwa [Bo,show(QJ ∘ Kr)=id from funext e,F3]at h
 .rw[Bo,show(Kr ∘ QJ)=id from funext e2,F3];have h:=Ky (le:=fun a b:List UInt8=>decide (a<=b)) (fun a b c h1 h2=>Ax (List.le_trans (AU h1) (AU h2))) (fun a b=>by rcases List.le_total a b with h | h<;>simp[h]) (p.map Kr)
  exact h.imp fun h=>AU h
theorem kE(t:List ByteArray):(Cg t).length<=t.length:=by
 have h:=MI (t.map Kr);rw[Lm]at h;unfold Cg;rw[Lm];exact h
theorem mZ(h:Iz l)(k:Iz m):(rm l m).length<=l.length+m.length:=by
 obtain⟨t,ht,hs⟩:=Qs ((l++m).map (·.path));rw[<-az h k ht hs];refine AJ (List.length_filterMap_le ..) (AJ (kE t) ?_);rw[ht.length_eq,Lm,Ac];exact Aj _
theorem Aci(hl:Iz l)(zI:Iz m)(h1:l.length<=16)(h2:m.length<=16):PC 130 [sl Am l,sl Am m] (.tup [sl Hr (rm l m),vi 0]):=by
 obtain⟨t,ht,hs⟩:=Qs ((l++m).map (·.path))
 by_cases e:l++m=[]
 .obtain⟨rfl,rfl⟩:=List.append_eq_nil_iff.1 e;obtain⟨lim,_,hb⟩:=kj 0 (AE _);have q:=Adv (zj lim hb);rw[show rm [] []=[] by rw[rm]];exact A9.mono q fun r h' ⟨e1,e2⟩=>⟨.tup [sl Hr [],vi 0],by rw[e1];exact .tup ⟨.nil,.refl _,trivial⟩,rfl,e2⟩
 .rw[<-az hl zI ht hs];exact o75 l m t hl zI ch e ht hs
theorem GH{x:List Rl}{s:List Sl}(h:N8 x s=0)(hl:B9 s):Iz s:=by
 refine⟨hl,fun y hy=>?_,JI (L6 h)⟩;have q:(Db x y).isSome=true:=by
  have q:=h;unfold N8 at q;rw[Al (UV h),Al (L6 h)]at q;split at q
  .rename_i h1;exact Bc.1 h1 y hy
  .cases q
 cases e:Db x y with
 |none=>rw[e]at q;cases q
 |some r =>
  unfold Db at e;rw[Ai (fun c=>c (UV h))]at e;have e1:Gc r=y:=AU (DJ (p:=fun r=>decide (Gc r=y)) e);rw[<-e1];exact((Cw (UV h)).1 r (BE e)).val
theorem Np{x:List Rl}{s:List Sl}(h:Fb x s=0):N8 x s=0:=by
 unfold Fb at h;split at h
 .assumption
 .exact h
def I8:List ByteArray:=(rm l m).map (·.path)
def upC:List AV:=[.cmap Cm (CI x l),.cmap Cm (CI x m),sl Am l,sl Am m,sl AD (I8 l m)]
def QC:Int:=if Fb x l=0 then Fb x m else Fb x l
def dD:AV:=if QC x l m=0 then .tup [.cptr (upC x l m),vi 0]else .tup [.v (.pointer none),vi (QC x l m)]
theorem qP(hx:∀r∈x,Eu r)(hl:B9 s)(h0:Fb x s=0):PC 34 [.agg (Ic x ifs),sl Am s] (vi (Fb x s)):=by
 refine Ps (pC [2] []) Tryz.func34 rfl (Nz rfl) (yN (Xi .pure (Xi _ (Yi (by have q:=OQ x ifs s hx hl;rw[Js,Al h0]at q;exact q) ?_))));exact CZ.of_eq (Aa vi h0.symm)
theorem qO(hx:∀r∈x,Eu r)(hl:B9 s)(h0:¬Fb x s=0):PC 34 [.agg (Ic x ifs),sl Am s] (vi (Fb x s)):=by
 refine Ps (pC [2] []) Tryz.func34 rfl (Nz rfl) (yN (Xi .pure (Xi _ (Yi (by have q:=OQ x ifs s hx hl;rw[Js,Ai h0]at q;exact q) ?_))));exact .refl _
theorem uF(hx:∀r∈x,Eu r)(hl:B9 s):PC 34 [Mo x ifs,sl Am s] (vi (Fb x s)):=by
 by_cases h:Fb x s=0
 .exact qP x ifs s hx hl h
 .exact qO x ifs s hx hl h
theorem za(hx:∀r∈x,Eu r)(hl:B9 l)(_hm_:B9 m)(c1:¬Fb x l=0):PC 73 [.agg (Ic x ifs),sl Am l,sl Am m] (dD x l m):=by
 refine Ps (pC [3] []) Tryz.func73 rfl (Nz rfl) (yN (Xi .pure (Xi _ (Yi (by have q:=OQ x ifs l hx hl;rw[Js,Ai c1]at q;exact q) ?_))));refine Yi (fun h1=>?_) (fun h1=>?_)
 .have h1:((Fb x l):Int)≠(0:Int):=h1;exact CZ.of_eq (show AV.tup [.v (.pointer none),vi (Fb x l)]=dD x l m by rw[dD,QC,Ai c1,Ai c1])
 have h1:((Fb x l):Int)=(0:Int):=AL h1;exact absurd h1 c1
theorem zb(hx:∀r∈x,Eu r)(hl:B9 l)(RW:B9 m)(c1:Fb x l=0)(c2:¬Fb x m=0):PC 73 [.agg (Ic x ifs),sl Am l,sl Am m] (dD x l m):=by
 refine Ps (pC [3] []) Tryz.func73 rfl (Nz rfl) (yN (Xi .pure (Xi _ (Yi (by have q:=OQ x ifs l hx hl;rw[Js,Al c1]at q;exact q) ?_))));refine Yi (fun h=>absurd h Cl) (fun _=>?_);refine yN (Xi .pure (Xi _ (Yi (by have q:=OQ x ifs m hx RW;rw[Js,Ai c2]at q;exact q) ?_)));refine Yi (fun h1=>?_) (fun h1=>?_)
 .have h1:((Fb x m):Int)≠(0:Int):=h1;exact CZ.of_eq (show AV.tup [.v (.pointer none),vi (Fb x m)]=dD x l m by rw[dD,QC,Al c1,Ai c2])
 have h1:((Fb x m):Int)=(0:Int):=AL h1;exact absurd h1 c2
theorem zd(hx:∀r∈x,Eu r)(hl:B9 l)(RW:B9 m)(J0:l.length<=16)(FU:m.length<=16)(c1:Fb x l=0)(c2:Fb x m=0):PC 73 [.agg (Ic x ifs),sl Am l,sl Am m] (dD x l m):=by
 have hrm:(rm l m).length<=1000:=by have q:=mZ l m (GH (Np c1) hl) (GH (Np c2) RW);omega
 refine Ps ⟨[3],[],[],[],[39],[],[],[(47,(39,4,90,1))],[],[],[3,4,7,9,13]⟩ Tryz.func73 rfl (Nz rfl) (yN (Xi .pure (Xi _ (Yi (by have q:=OQ x ifs l hx hl;rw[Js,Al c1]at q;exact q) ?_))));refine Yi (fun h=>absurd h Cl) (fun _=>?_);refine cU [(1,sl Am l),(2,sl Am m),(3,.ref 3 0),(8,.cmap Cm (CI x l))] [(3,.ro (Ic x ifs))] Z4 Z1 (yN (Xi .pure (Xi _ (Yi (by have q:=OQ x ifs m hx RW;rw[Js,Al c2]at q;exact q) ?_))));refine Yi (fun h=>absurd h Cl) (fun _=>?_);refine cU [(1,sl Am l),(2,sl Am m),(8,.cmap Cm (CI x l)),(10,.cmap Cm (CI x m))] [] Z4 Tv (Xi .pure (Xi _ (Yi (Aci l m (GH (Np c1) hl) (GH (Np c2) RW) J0 FU) (cU [(11,.ref 39 0),(12,sl Hr (rm l m))] [(39,.cells [.cmap Cm (CI x l),.cmap Cm (CI x m),sl Am l,sl Am m,nzA])] Z2 Z1 (Xi {q:Nat // q<=(rm l m).length} (Xi (fun q=>⟨[(11,.ref 39 0),(46,sl Hr (rm l m)),(47,vi ((rm l m).map Hr).length),(48,vi q.1)],[(39,.cells [.cmap Cm (CI x l),.cmap Cm (CI x m),sl Am l,sl Am m,.slice (.id 90 1) ((((rm l m).take q.1).map (·.path)).map AD)]),(90,.tok 1 ((((rm l m).take q.1).map (·.path)).map AD).length)],Af⟩) (Xi (fun q=>(rm l m).length-q.1) (Yi (Xi ⟨0,AE _⟩ ?_) ?_))))))))
 .exact⟨Z4,Z2,Fh,Tv⟩
 intro⟨i,i1⟩;have i1:i<=(rm l m).length:=i1;refine Yi (fun h1=>?_) (fun h1=>?_)
 .have h1:(i:Int)<(((rm l m).map Hr).length:Int):=h1;have n1:=FW h1;have hq:((rm l m).take i).length<=1000:=by rw[Av];omega
  refine Xi (Hr ((rm l m)[i])) (Yi (LH n1) (Yi rfl (yN (yN ?_))));have b2:Cn 1 [[vs ((rm l m)[i]).path]]/\((((rm l m).take i).map (·.path)).map AD).length=((((rm l m).take i).map (·.path)).map AD).length/\(((((rm l m).take i).map (·.path)).map AD).length+([[vs ((rm l m)[i]).path]]:List (List AV)).length)*16<=140737488355328/\((((rm l m).take i).map (·.path)).map AD).length+([[vs ((rm l m)[i]).path]]:List (List AV)).length<=9223372036854775807:=⟨⟨rfl,trivial⟩,rfl,(by simp only[Lm,Ak,At];omega),(by simp only[Lm,Ak,At];omega)⟩;refine Yi b2 (yN (Yi Wk (cU [(11,.ref 39 0),(46,sl Hr (rm l m)),(47,vi ((rm l m).map Hr).length),(48,vi i)] [(39,.cells [.cmap Cm (CI x l),.cmap Cm (CI x m),sl Am l,sl Am m,.slice (.id 90 1) (((((rm l m).take i).map (·.path)).map AD)++[[vs ((rm l m)[i]).path]])]),(90,.tok 1 (((((rm l m).take i).map (·.path)).map AD).length+([[vs ((rm l m)[i]).path]]:List (List AV)).length))] Z4 Z2 (Yi (Ii i ch) ?_))));have ew:((((rm l m).take i).map (·.path)).map AD++[[vs (rm l m)[i].path]])=(((rm l m).take (i+1)).map (·.path)).map AD:=by rw[Ej n1,Ar,Ar];rfl
  refine Xi ⟨i+1,n1⟩ ?_;exact⟨by show(rm l m).length-(i+1)<(rm l m).length-i;omega,Z4,⟨⟨(Aa (fun z=>HO.cells [.cmap Cm (CI x l),.cmap Cm (CI x m),sl Am l,sl Am m,.slice (.id 90 1) z]) ew),rfl⟩,⟨(show HO.tok 1 (((((rm l m).take i).map (·.path)).map AD).length+([[vs ((rm l m)[i]).path]]:List (List AV)).length)=.tok 1 ((((rm l m).take (i+1)).map (·.path)).map AD).length from Aa (HO.tok 1) (Ac.symm.trans (Aa List.length ew))),rfl⟩,Tv⟩,Fh,Tv⟩
 have h1:¬((i:Int)<(((rm l m).map Hr).length:Int)):=h1;have n1:=DT h1;have ee:(rm l m).take i=rm l m:=As (Bz (DT h1));exact CZ.of_eq (show AV.tup [.cptr [.cmap Cm (CI x l),.cmap Cm (CI x m),sl Am l,sl Am m,sl AD (((rm l m).take i).map (·.path))],vi 0]=dD x l m by rw[ee,dD,show QC x l m=0 by rw[QC,Al c1];exact c2,Al rfl];rfl)
theorem nT(hx:∀r∈x,Eu r)(hl:B9 l)(RW:B9 m)(J0:l.length<=16)(FU:m.length<=16):PC 73 [Mo x ifs,sl Am l,sl Am m] (dD x l m):=by
 by_cases c1:Fb x l=0
 .by_cases c2:Fb x m=0
  .exact zd x ifs l m hx hl RW J0 FU c1 c2
  .exact zb x ifs l m hx hl RW c1 c2
 .exact za x ifs l m hx hl RW c1
end Go.Eng
namespace Go.Proofs
open Go.Shelf Go.RowKit Go.Lib Go.Sort Go.Eng
def cfBt(x y:SlA):Int:=if Op.bytesLess x.1.toList y.1.toList=true then -1 else 1
theorem Tryz.closure134:CmpSlG cfBt 134:=fun x y W=>by
 obtain⟨a,⟨b,hb⟩,⟨c,hc⟩,⟨d,hd⟩⟩:=x;obtain⟨a',⟨b',rr⟩,⟨c',ti⟩,⟨d',oe⟩⟩:=y;unfold cfBt;dsimp only;cases hl:Op.bytesLess a.toList a'.toList with
 |true =>
  go_enter Tryz.func134,Tryz.ntmps134
  go_wp2
  all_goals (try simp only[hl]at *)
  all_goals (try go_wp2)
  all_goals (try go_ret)
  all_goals (try exact⟨rfl,0,_,by rw[alloc_eq_grow,alloc_eq_grow,grow_grow];rfl⟩)
 |false =>
  go_enter Tryz.func134,Tryz.ntmps134
  go_wp2
  all_goals (try simp only[hl]at *)
  all_goals (try go_wp2)
  all_goals (try go_ret)
  all_goals (try exact⟨rfl,0,_,by rw[alloc_eq_grow,alloc_eq_grow,grow_grow];rfl⟩)
end Go.Proofs
