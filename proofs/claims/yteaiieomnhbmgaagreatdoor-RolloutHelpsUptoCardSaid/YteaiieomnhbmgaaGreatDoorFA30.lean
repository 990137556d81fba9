/- Lemmas 30. -/
import Derived.Test.YteaiieomnhbmgaaGreatDoorFA29
set_option maxHeartbeats 4000000
namespace Go.Eng
variable {t:List ByteArray}{l m:List Sl}
theorem gK:∀{x y:List UInt8},Ja x y=true->x<y
 |x,[],h=>by cases x<;>cases h
 | [],b::y,_=>by simp
 |a::x,b::y,h=>by
  unfold Ja at h;rw[List.cons_lt_cons_iff];rcases CQ _ _▸h with h|h
  .exact .inl (AP h)
  .obtain⟨h1,h2⟩:=Bool.and_eq_true_iff.1 h;exact .inr ⟨AP h1,gK h2⟩
section
variable {α:Type}[Inhabited α][DecidableEq α]
theorem Qc{R:α->α->Prop}(hR:∀a b c,R a b->R b c->R a c)(xs:List α)(hs:∀i j,(hi:i<xs.length)->(hj:j<xs.length)->i<j->xs[i]=xs[j]\/R xs[i] xs[j]):∀m,m<=xs.length ->
  (Lib.compactUpTo xs.toArray m).Pairwise R/\(∀a,a∈Lib.compactUpTo xs.toArray m↔a∈xs.take m)
 |0,_=>by simp[Lib.compactUpTo]
 |m+1,h=>by
  obtain⟨h1,h2⟩:=Qc hR xs hs m ch;have hg:xs.toArray[m]! = xs[m]' ch:=by simp[show m<xs.length by omega]
  rw[Lib.compactUpTo_succ,hg,Bh,Ge ch]
  by_cases hk:Lib.keeps xs.toArray m=true
  .rw[Ap hk];refine⟨?_,fun a=>by rw[AN,AN,h2];simp⟩;rw[List.pairwise_append];refine⟨h1,List.pairwise_singleton _ _,fun a ha b hb=>?_⟩;rw[Ar.1 hb];have ha:=(h2 a).1 ha;obtain⟨j,hj,rfl⟩:=Cc.1 ha;rw[Ax]at hj;rw[GS];unfold Lib.keeps at hk;have hk:=AP hk;rcases hk with hk|hk
   .omega
   .have TS:xs.toArray[m-1]! = xs[m-1]' ch:=by simp[show m-1<xs.length by omega]
    rw[hg,TS]at hk;have s1:R (xs[m-1]' ch) (xs[m]' ch):=(hs (m-1) m ch ch ch).elim (fun e=>absurd e.symm hk) id
    by_cases e:j=m-1
    .subst e;exact s1
    .rcases hs j (m-1) ch ch ch with q|q
     .rw[q];exact s1
     .exact hR _ _ _ q s1
  .rw[Aj hk,BQ];refine⟨h1,fun a=>?_⟩;rw[h2,AN];refine⟨.inl,fun q=>q.elim id fun q=>?_⟩;have q:a=xs[m]:=by simpa using q
   subst q;have hk:¬(m=0\/xs.toArray[m]!≠xs.toArray[m-1]!):=fun q=>hk (Ak q);have m0:0<m:=Nat.pos_of_ne_zero fun e=>hk (.inl e);have e:xs.toArray[m]! = xs.toArray[m-1]!:=AH fun e=>hk (.inr e);have TS:xs.toArray[m-1]! = xs[m-1]' ch:=by simp[show m-1<xs.length by omega]
   rw[hg,TS]at e;rw[e];exact Cc.2 ⟨m-1,by rw[Ax];omega,by rw[GS]⟩
end
theorem mj(ht:(t.map K8).Pairwise fun a b=>a<=b):(Cq t).Pairwise (fun a b=>Ed a b=true)/\∀p,p∈Cq t↔p∈t:=by
 have hc:=Qc (R:=fun a b=>Ja a b=true) (fun a b c=>Pn) (t.map K8) (fun i j hi hj QC=>by
  have h:=(AU.1 ht) i j hi hj QC;cases e:Ja (t.map K8)[i] (t.map K8)[j]with
  |true=>exact .inr rfl
  |false=>
   cases e2:Ja (t.map K8)[j] (t.map K8)[i]with
   |true=>exact absurd (gK e2) (by simpa using h)
   |false=>exact .inl (Vq e e2)) (t.map K8).length (Am _)
 rw[Ce]at hc;have e:Cq t=(Lib.compactUpTo (t.map K8).toArray (t.map K8).length).map SG:=rfl;rw[e];refine⟨?_,fun p=>?_⟩
 .rw[LK];exact hc.1.imp fun {a b} h=>by show Ja (SG a).data.toList (SG b).data.toList=true;exact h
 .rw[Ai];constructor
  .rintro⟨a,ha,rfl⟩
   obtain⟨q,hq,rfl⟩:=Ai.1 ((hc.2 a).1 ha)
   have:SG (K8 q)=q:=by cases q;simp
   rw[this];exact hq
  .intro hp;exact⟨K8 p,(hc.2 _).2 (List.mem_map_of_mem hp),by cases p;simp⟩
abbrev vX(p:ByteArray)(f t:Int):List Mv:=if f≠t then [⟨p,f,t⟩]else []
def rm:List Sl->List Sl->List Mv
 | [],[]=>[]
 |a::l,[]=>vX a.path (place a.ver) (-1)++rm l []
 | [],b::m=>vX b.path (-1) (place b.ver)++rm [] m
 |a::l,b::m=>if a.path=b.path then vX a.path (place a.ver) (place b.ver)++rm l m else if Ed a.path b.path=true then vX a.path (place a.ver) (-1)++rm l (b::m)else vX b.path (-1) (place b.ver)++rm (a::l) m
termination_by l m=>l.length+m.length
def mp:List Sl->List Sl->List ByteArray
 | [],[]=>[]
 |a::l,[]=>a.path::mp l []
 | [],b::m=>b.path::mp [] m
 |a::l,b::m=>if a.path=b.path then a.path::mp l m else if Ed a.path b.path=true then a.path::mp l (b::m)else b.path::mp (a::l) m
termination_by l m=>l.length+m.length
theorem GA(a:Sl)(l:List Sl)(p:ByteArray):JE (a::l) p=if a.path=p then place a.ver else JE l p:=by
 unfold JE B5;rw[Fj]
 by_cases h:a.path=p
 .simp[h]
 .simp[h]
theorem IM{l' m':List Sl}{ps:List ByteArray}(h1:∀p∈ps,JE l p=JE l' p)(h2:∀p∈ps,JE m p=JE m' p):IL l m ps=IL l' m' ps:=
 (by
  induction ps with
  |nil=>rfl
  |cons p ps ih=>
   show(p::ps).filterMap _=(p::ps).filterMap _;rw[List.filterMap_cons,List.filterMap_cons,show JP l m p=JP l' m' p from by unfold JP;rw[h1 p (Ab ..),h2 p (Ab ..)],show ps.filterMap (JP l m)=ps.filterMap (JP l' m')from ih (fun q hq=>h1 q (Ah _ hq)) (fun q hq=>h2 q (Ah _ hq))])
theorem JB(l m:List Sl)(p:ByteArray)(ps:List ByteArray):IL l m (p::ps)=vX p (JE l p) (JE m p)++IL l m ps:=by
 unfold IL vX;rw[List.filterMap_cons];unfold JP
 by_cases h:JE l p=JE m p
 .simp[h]
 .simp[h]
theorem T3{p:ByteArray}(h:∀s∈l,s.path≠p):JE l p=-1:=by
 unfold JE B5;rw[DI.2 fun s hs=>by simpa using h s hs]
theorem Vx(l m:List Sl)(hl:l.Pairwise Vr)(hm:m.Pairwise Vr):(mp l m).Pairwise (fun a b=>Ed a b=true)/\(∀p,p∈mp l m↔p∈l.map (·.path)\/p∈m.map (·.path))/\rm l m=IL l m (mp l m):=by
 match l,m with
 | [],[]=>unfold mp rm;simp
 |a::l,[]=>
  obtain⟨a1,a2⟩:=Bw.1 hl;obtain⟨h1,h2,h3⟩:=Vx l [] a2 hm;have lt:∀p∈mp l [],Ed a.path p=true:=fun p hp=>by
   have:=(h2 p).1 hp
   rcases this with q|q
   .obtain⟨s,hs,rfl⟩:=Ai.1 q;exact a1 s hs
   .cases q
  unfold mp rm;refine⟨Bw.2 ⟨lt,h1⟩,fun p=>by simp[h2],?_⟩;rw[JB,h3,GA,Ap rfl]
  congr 1
  exact IM (fun p hp=>by rw[GA,Aj (I3 (lt p hp))]) fun _ _=>rfl
 | [],b::m=>
  obtain⟨a1,a2⟩:=Bw.1 hm;obtain⟨h1,h2,h3⟩:=Vx [] m hl a2;have lt:∀p∈mp [] m,Ed b.path p=true:=fun p hp=>by
   have:=(h2 p).1 hp
   rcases this with q|q
   .cases q
   .obtain⟨s,hs,rfl⟩:=Ai.1 q;exact a1 s hs
  unfold mp rm;refine⟨Bw.2 ⟨lt,h1⟩,fun p=>by simp[h2],?_⟩;rw[JB,h3,GA,Ap rfl]
  congr 1
  exact IM (fun _ _=>rfl) fun p hp=>by rw[GA,Aj (I3 (lt p hp))]
 |a::l,b::m=>
  obtain⟨a1,a2⟩:=Bw.1 hl;obtain⟨b1,b2⟩:=Bw.1 hm;unfold mp rm
  by_cases e:a.path=b.path
  .rw[Ap e,Ap e];obtain⟨h1,h2,h3⟩:=Vx l m a2 b2;have lt:∀p∈mp l m,Ed a.path p=true:=fun p hp=>by
    rcases(h2 p).1 hp with q|q
    .obtain⟨s,hs,rfl⟩:=Ai.1 q;exact a1 s hs
    .obtain⟨s,hs,rfl⟩:=Ai.1 q;rw[e];exact b1 s hs
   refine⟨Bw.2 ⟨lt,h1⟩,fun p=>?_,?_⟩
   .simp only[Ay,h2,AJ,e];constructor
    .rintro(q|q|q)
     .exact .inl (.inl q)
     .exact .inl (.inr q)
     .exact .inr (.inr q)
    .rintro((q|q)|(q|q))
     .exact .inl q
     .exact .inr (.inl q)
     .exact .inl q
     .exact .inr (.inr q)
   .rw[JB,h3,GA,Ap rfl,GA,Ap e.symm]
    congr 1
    exact IM (fun p hp=>by rw[GA,Aj (I3 (lt p hp))]) fun p hp=>by rw[GA,Aj (by rw[<-e];exact I3 (lt p hp))]
  .rw[Aj e,Aj e]
   by_cases c:Ed a.path b.path=true
   .rw[Ap c,Ap c];obtain⟨h1,h2,h3⟩:=Vx l (b::m) a2 hm;have la:∀s∈b::m,Ed a.path s.path=true:=fun s hs=>by
     rcases Ay.1 hs with rfl|hs
     .exact c
     .exact D8 c (b1 s hs)
    have lt:∀p∈mp l (b::m),Ed a.path p=true:=fun p hp=>by
     rcases(h2 p).1 hp with q|q
     .obtain⟨s,hs,rfl⟩:=Ai.1 q;exact a1 s hs
     .obtain⟨s,hs,rfl⟩:=Ai.1 q;exact la s hs
    refine⟨Bw.2 ⟨lt,h1⟩,fun p=>by rw[Ay,h2,AJ,Ay,AJ (l:=l),Ay (l:=l.map _),or_assoc],?_⟩;rw[JB,h3,GA,Ap rfl,T3 (l:=b::m) fun s hs=>(I3 (la s hs)).symm]
    congr 1
    exact IM (fun p hp=>by rw[GA,Aj (I3 (lt p hp))]) fun _ _=>rfl
   .rw[Aj c,Aj c];have c' : Ed b.path a.path=true:=by
     cases q:Ed b.path a.path with
     |true=>rfl
     |false=>exact absurd (HQ (by simpa using c) q) e
    obtain⟨h1,h2,h3⟩:=Vx (a::l) m hl b2;have la:∀s∈a::l,Ed b.path s.path=true:=fun s hs=>by
     rcases Ay.1 hs with rfl|hs
     .exact c'
     .exact D8 c' (a1 s hs)
    have lt:∀p∈mp (a::l) m,Ed b.path p=true:=fun p hp=>by
     rcases(h2 p).1 hp with q|q
     .obtain⟨s,hs,rfl⟩:=Ai.1 q;exact la s hs
     .obtain⟨s,hs,rfl⟩:=Ai.1 q;exact b1 s hs
    refine⟨Bw.2 ⟨lt,h1⟩,fun p=>?_,?_⟩
    .rw[Ay,h2,AJ,AJ,Ay,Ay];constructor
     .rintro(q|q|q)
      .exact .inr (.inl q)
      .exact .inl q
      .exact .inr (.inr q)
     .rintro(q|q|q)
      .exact .inr (.inl q)
      .exact .inl q
      .exact .inr (.inr q)
    .rw[JB,h3,T3 (l:=a::l) fun s hs=>(I3 (la s hs)).symm,GA b m,Ap rfl]
     congr 1
     exact IM (fun _ _=>rfl) fun p hp=>by rw[GA b m,Aj (I3 (lt p hp))]
termination_by l.length+m.length
theorem bR(hl:Iz l)(hm:Iz m)(hp:t.Perm ((l++m).map (·.path)))(ht:(t.map K8).Pairwise fun a b=>a<=b):IL l m (Cq t)=rm l m:=by
 obtain⟨h1,h2,h3⟩:=Vx l m hl.inc hm.inc;obtain⟨c1,c2⟩:=mj ht;rw[h3]
 congr 1
 refine List.Perm.eq_of_pairwise (le:=fun a b=>Ed a b=true) (fun a b _ _ x y=>?_) c1 h1 ?_
 .rw[NV x]at y;cases y
 .refine(PK (c1.imp fun h=>I3 h) (h1.imp fun h=>I3 h)).2 fun p=>?_;rw[c2,h2,hp.mem_iff,At,AN]
end Go.Eng
namespace Go.Eng
open Go.Proofs
end Go.Eng
namespace Go.Eng
end Go.Eng
namespace Go.Eng
open Go.Proofs
variable {caps:List AV}{i fF:Nat}(x:List Rl)(ifs:List (List AV))(lim:Int)(l s:List Sl)(q:Rq)(y:Sl)(m:List Sl)
theorem xh(v:Ver):PC 67 [.agg (DE v)] (.tup [vi (plc v),vi (if Ci v then 0 else 2)]):=xn v
def zeR:Rl:=⟨⟨#[]⟩,⟨0,0,0⟩,[],⟨#[]⟩,⟨#[]⟩,⟨#[]⟩,false⟩
def G7:Rl:=(CV x y).getD zeR
abbrev X9:Value×AV:=(Value.string y.path,AV.agg (AC (G7 x y)))
abbrev CP:List (Value×AV):=s.map (X9 x)
def OL:Int:=if A0 x=0 then if E1 s=true then if s.all (fun y=>(CV x y).isSome)=true then 0 else 6 else 1 else 1
def Rc:Bool:=match B5 s q.path with
 |some y=>has q.set (plc (G7 x y).ver)
 |none=>false
def dF:Bool:=s.all fun y=>(G7 x y).reqs.all (Rc x s)
def Fo:Int:=if OL x s=0 then if dF x s=true then 0 else 17 else OL x s
theorem Kf{s:List Sl}(h:E1 s=true):s.Pairwise Vr:=by
 rw[KE]at h;rw[AU];intro i j hi hj QC;show Ed s[i].path s[j].path=true
 induction j with
 |zero=>omega
 |succ j ih=>
  have q:=h (j+1) hj ch
  by_cases e:i=j
  .subst e;exact q
  .exact D8 (ih ch ch) q
theorem sj{x:List Rl}{s:List Sl}(h:s.Pairwise Vr)(hi:i<s.length):∀b,(Value.string s[i].path,b)∉CP x (s.take i):=fun b hb=>by
 obtain⟨t,ht,e⟩:=Ai.1 hb;obtain⟨j,hj,rfl⟩:=Cc.1 ht;rw[GS]at e;rw[Ax]at hj;have q:=(AU.1 h) j i ch hi ch;have e2:s[j].path=s[i].path:=by injection e with e1;injection e1
 rw[Vr,e2,Dm]at q;cases q
theorem kO{x:List Rl}{s:List Sl}(h:s.Pairwise Vr)(hi:i<s.length):E2 (CP x (s.take i)) (.string s[i].path) (.agg (AC (G7 x s[i])))=CP x (s.take (i+1)):=by
 rw[Jc (sj h hi),Ep hi];unfold CP;rw[At];rfl
theorem Ya{x:List Rl}{s:List Sl}(h:s.Pairwise Vr){p:ByteArray}{y:Sl}(hy:B5 s p=some y):(Value.string p,AV.agg (AC (G7 x y)))∈CP x s/\∀b,(Value.string p,b)∈CP x s->b=AV.agg (AC (G7 x y)):=by
 have h1:=Dy hy;have e1:y.path=p:=AP h1;refine⟨Ai.2 ⟨y,BI hy,by rw[<-e1]⟩,fun b hb=>?_⟩;obtain⟨t,ht,e⟩:=Ai.1 hb;have e2:t.path=p:=by injection e with e1;injection e1
 have e3:AV.agg (AC (G7 x t))=b:=by injection e
 have e4:B5 s p=some t:=by unfold B5;rw[<-e2];exact H1 (LX zZ h) ht
 rw[hy]at e4;rw[<-e3,Cj e4]
theorem kP{x:List Rl}{s:List Sl}{p:ByteArray}(h:B5 s p=none):∀b,(Value.string p,b)∉CP x s:=fun b hb=>by
 obtain⟨t,ht,e⟩:=Ai.1 hb;have e2:t.path=p:=by injection e with e1;injection e1
 exact absurd (Ak e2) (DI.1 h t ht)
theorem w8(hs:s.Pairwise Vr)(hy:B5 s q.path=some y)(hq:B8 q.set):PC 129 [.cmap Cu (CP x s),.agg (AW q)] (vb (has q.set (plc (G7 x y).ver))):=by
 refine Ps (pC [3] []) Tryz.func129 rfl (Nz rfl) (Yi (fun a ha=>?_) (fun Ok=>absurd (Ya hs hy).1 (Ok _)));have ea:=(Ya hs hy).2 a ha;subst ea;refine yN (yN (Xi .pure (Xi _ (Yi (xh (G7 x y).ver) (BX (Bt (has q.set (plc (G7 x y).ver))) (fun h1=>?_) (fun h1=>?_))))))
 .have h1:(has q.set (plc (G7 x y).ver))=true:=h1;refine Xi .pure (Xi _ (Yi (cb h1 (lZ q.set (plc (G7 x y).ver) hq)) ?_));exact CX.of_eq (Aa vb h1.symm)
 have h1:(has q.set (plc (G7 x y).ver))=false:=h1;refine Xi .pure (Xi _ (Yi (cb h1 (lZ q.set (plc (G7 x y).ver) hq)) ?_));exact CX.of_eq (Aa vb h1.symm)
theorem w7(hy:B5 s q.path=none)(_hq:B8 q.set):PC 129 [.cmap Cu (CP x s),.agg (AW q)] (vb false):=by
 refine Ps (pC [3] []) Tryz.func129 rfl (Nz rfl) (Yi (fun a ha=>absurd ha (kP hy a)) (fun _=>?_));refine yN (yN (Xi .pure (Xi _ (Yi (xh ⟨0,0,0⟩) ?_))));exact .refl _
theorem tR(hs:s.Pairwise Vr)(hq:B8 q.set):PC 129 [.cmap Cu (CP x s),.agg (AW q)] (vb (Rc x s q)):=by
 cases e:B5 s q.path with
 |some y=>rw[Rc,e];exact w8 x s q y hs e hq
 |none=>rw[Rc,e];exact w7 x s q e hq
theorem iD(hs:s.Pairwise Vr)(hq:B8 q.set):PC 128 [.agg (AW q),.cptr [.cmap Cu (CP x s)]] (vb (!Rc x s q)):=by
 refine Ps Ej Tryz.func128 rfl (Nz rfl) (yN (BX (Bt (Rc x s q)) (fun h1=>?_) (fun h1=>?_)))
 .have h1:(Rc x s q)=true:=h1;refine Xi .pure (Xi _ (Yi (cb h1 (tR x s q hs hq)) ?_));exact CX.of_eq (Aa vb (show false=!Rc x s q by rw[h1];rfl))
 have h1:(Rc x s q)=false:=h1;refine Xi .pure (Xi _ (Yi (cb h1 (tR x s q hs hq)) ?_));exact CX.of_eq (Aa vb (show true=!Rc x s q by rw[h1];rfl))
def oc:AV:=if OL x s=0 then .tup [.cmap Cu (CP x s),vi 0]else .tup [.v (.map none),vi (OL x s)]
theorem ri{s:List Sl}(h:∀j (hj:j<s.length),0<j->j<i->Ed (s[j-1]' ch).path s[j].path=true)(hi:s.length<=i):E1 s=true:=
 (KE s).2 fun j hj h0=>h j hj h0 ch
theorem rj{s:List Sl}(hi:i<s.length)(h0:0<i)(h:Ed (s[i-1]' ch).path s[i].path=false):¬E1 s=true:=fun e=>by
 have q:=(KE s).1 e i hi h0;rw[h]at q;cases q
theorem lH{x:List Rl}{s:List Sl}(h:∀j (hj:j<s.length),j<i->(CV x s[j]).isSome=true)(hi:s.length<=i):s.all (fun y=>(CV x y).isSome)=true:=by
 rw[A1];intro y hy;obtain⟨j,hj,rfl⟩:=Cc.1 hy;exact h j hj ch
theorem qk{x:List Rl}{s:List Sl}(hi:i<s.length)(h:CV x s[i]=none):¬s.all (fun y=>(CV x y).isSome)=true:=fun e=>by
 have q:=A1.1 e _ (Ao hi);rw[h]at q;cases q
theorem AaR(hx:∀r∈x,Ey r)(hl:B8 s):PC 126 [.agg (Ic x ifs),sl Aq s] (oc x s):=by
 have hl:s.length<=1073741824:=hl;refine Ps ⟨[2],[],[],[],[33],[],[],[],[],[],[5,7,13]⟩ Tryz.func126 rfl (Nz rfl) (yN (Xi .pure (Xi _ (Yi (xo WF x ifs hx) (Yi (fun h1=>?_) (fun h1=>?_))))))
 .have h1:((A0 x):Int)≠(0:Int):=h1;exact CX.of_eq (show AV.tup [.v (.map none),vi 1]=oc x s by rw[oc,OL,Aj h1,Aj Cl])
 have h1:((A0 x):Int)=(0:Int):=AH h1;refine Xi {q:Nat // 1<=q/\(q<=s.length\/q=1)/\∀j (hj:j<s.length),0<j->j<q->Ed (s[j-1]' ch).path s[j].path=true} (Xi (fun q=>⟨[(1,sl Aq s),(2,.ref 2 0),(6,vi q.1)],[(2,.ro (Ic x ifs))],Ag⟩) (Xi (fun q=>s.length+1-q.1) (Yi (Xi ⟨1,Am _,.inr rfl,fun j hj h0 h1=>absurd h0 ch⟩ ?_) ?_)))
 .exact⟨Z3,Z1,Fh,Tv⟩
 intro⟨i,i1,i2,i3⟩;have i1:1<=i:=i1;have i2:i<=s.length\/i=1:=i2;have i3:∀j (hj:j<s.length),0<j->j<i->Ed (s[j-1]' ch).path s[j].path=true:=i3;refine Yi (fun h3=>?_) (fun h3=>?_)
 .have h3:(i:Int)<((s.map Aq).length:Int):=h3;have n3:=FJ h3;refine Yi (by show Bc ((i:Int)-(1:Int));unfold Bc;omega) (Xi (Aq (s[i-1]' ch)) (Yi (Yi (show(0:Int)<=(i:Int)-1 by omega) (by rw[show((i:Int)-1).toNat=i-1 by omega];exact Ek (Ge ch))) (Yi rfl ?_)));refine Xi (Aq s[i]) (Yi (Lv n3) (Yi rfl (Yi (fun h4=>?_) (fun h4=>?_))))
  .have h4:Ed (s[i-1]' ch).path s[i].path=false:=(Gs _ _).trans h4;refine Yi Wk (cU [] [] Tv Tv ?_)
   exact CX.of_eq (show AV.tup [.v (.map none),vi 1]=oc x s by rw[oc,OL,Ap h1,Aj (rj n3 ch h4),Aj Cl])
  have h4:Ed (s[i-1]' ch).path s[i].path=true:=(Gs _ _).trans (by simpa using h4);refine Yi Wk (cU [(1,sl Aq s),(2,.ref 2 0),(6,vi i)] [(2,.ro (Ic x ifs))] Z3 Z1 (Yi (Ii i ch) (Xi ⟨i+1,by omega,.inl ch,fun j hj h0 h1=>by rcases CR j i with h2|h2;exact i3 j hj h0 h2;have e:j=i:=ch;subst e;exact h4⟩ ?_)));exact⟨by show s.length+1-(i+1)<s.length+1-i;omega,Z3,Z1,Fh,Tv⟩
 have h3:¬((i:Int)<((s.map Aq).length:Int)):=h3;have n3:=DP h3;have jF:E1 s=true:=ri i3 (Bl (DP h3));refine Xi {q:Nat // q<=s.length/\∀j (hj:j<s.length),j<q->(CV x s[j]).isSome=true} (Xi (fun q=>⟨[(2,.ref 2 0),(7,.mref 33),(34,sl Aq s),(35,vi (s.map Aq).length),(36,vi q.1)],[(2,.ro (Ic x ifs)),(33,.map Cu (CP x (s.take q.1)))],Ag⟩) (Xi (fun q=>s.length-q.1) (Yi (Xi ⟨0,AB _,fun j hj h1=>absurd h1 ch⟩ ?_) ?_)))
 .exact⟨Z5,Z2,Fh,Tv⟩
 intro⟨k,k1,k2⟩;have k1:k<=s.length:=k1;have k2:∀j (hj:j<s.length),j<k->(CV x s[j]).isSome=true:=k2;refine Yi (fun h7=>?_) (fun h7=>?_)
 .have h7:(k:Int)<((s.map Aq).length:Int):=h7;have n7:=FJ h7;refine Xi (Aq s[k]) (Yi (Lv n7) (Yi rfl (yN (yN (yN (yN (BX (kk (CV x ⟨s[k].path,s[k].ver⟩)) (fun h8=>?_) (fun h8=>?_))))))))
  .refine CL h8 (fun r h8=>?_);have yX:=yo x ifs s[k].path s[k].ver (c84 x ifs hx) hx;rw[h8]at yX;refine Xi .pure (Xi _ (Yi yX (yN (cU [(2,.ref 2 0),(7,.mref 33),(9,.ref 9 0),(10,.ref 10 0),(11,vb true),(34,sl Aq s),(35,vi (s.map Aq).length),(36,vi k)] [(2,.ro (Ic x ifs)),(9,.cells (Aq s[k])),(10,.cells (AC r)),(33,.map Cu (CP x (s.take k)))] Z8 Z4 (yN (Yi (Ii k ch) (Xi ⟨k+1,n7,fun j hj h1=>by rcases CR j k with h2|h2;exact k2 j hj h2;have e:j=k:=ch;subst e;rw[show CV x s[j]=some r from h8];rfl⟩ ?_)))))));exact⟨Dl s.length k ch,Z5,⟨Zr,⟨(show HO.map Cu (E2 (CP x (s.take k)) (.string s[k].path) (.agg (AC r)))=.map Cu (CP x (s.take (k+1)))from Aa (HO.map Cu) (by rw[<-kO (Kf jF) n7,G7,show CV x s[k]=some r from h8];rfl)),rfl⟩,Tv⟩,Fh,Tv⟩
  have yX:=yo x ifs s[k].path s[k].ver (c84 x ifs hx) hx;rw[h8]at yX;refine Xi .pure (Xi _ (Yi yX (yN (cU [(2,.ref 2 0),(7,.mref 33),(9,.ref 9 0),(10,.ref 10 0),(11,vb false),(34,sl Aq s),(35,vi (s.map Aq).length),(36,vi k)] [(2,.ro (Ic x ifs)),(9,.cells (Aq s[k])),(10,.cells [vs ⟨#[]⟩,vi 0,vi 0,vi 0,nzA,vs ⟨#[]⟩,vs ⟨#[]⟩,vs ⟨#[]⟩,vb false]),(33,.map Cu (CP x (s.take k)))] Z8 Z4 ?_))))
  exact CX.of_eq (show AV.tup [.v (.map none),vi 6]=oc x s by rw[oc,OL,Ap h1,Ap jF,Aj (qk n7 h8),Aj Cl])
 have h7:¬((k:Int)<((s.map Aq).length:Int)):=h7;have n7:=DP h7;have ee:s.take k=s:=Av (Bl (DP h7));exact CX.of_eq (show AV.tup [.cmap Cu (CP x (s.take k)),vi 0]=oc x s by rw[ee,oc,OL,Ap h1,Ap jF,Ap (lH k2 (Bl (DP h7))),Ap rfl])
theorem Afg(hs:CU caps)(l:List (Rq))(p:Rq->Bool)(hF:∀x∈l,PC fF ([.agg (AW x)]++caps) (vb (p x)))(hl:l.length<9223372036854775807) :
  PC 180 [sl AW l,.clo fF caps] (vi (FS p l 0)):=by
 refine Ps Ej Tryz.func180 rfl (Nz rfl) (Xi {i:Nat // i<=l.length/\∀j (hj:j<l.length),j<i->p l[j]=false} (Xi (fun i=>⟨[(0,sl AW l),(1,.clo fF caps),(7,vi (l.map AW).length),(8,vi i.1)],[],Ag⟩) (Xi (fun i=>l.length-i.1) (Yi (Xi ⟨0,by simp⟩ ?_) ?_))))
 .exact⟨⟨Zr,⟨rfl,hs.ids _⟩,Zr,Zr,Tv⟩,Tv,Fh,Tv⟩
 .intro⟨i,h1,h2⟩;refine Yi ?_ ?_
  .intro h;have h:i<l.length:=by simpa using h
   have hg:l[i]?=some l[i]:=Ge h;refine Xi (AW l[i]) (Yi (Yi (Nn i) (by simp[hg])) (Yi rfl (yN ?_)));have Ck:∀h,PC fF ([.agg (AW l[i])]++caps.map (str0 h)) (vb (p l[i])):=fun h=>by rw[hs.map];exact hF l[i] (Ao _)
   cases hp:p l[i]with
   |true=>
    rw[hp]at Ck;refine Xi .pure (Xi (vb true) (Yi (Ck _) ?_));rw[H2 h (fun j hj I6=>h2 j hj I6) hp,EF];exact .refl _
   |false=>
    rw[hp]at Ck;refine Xi .pure (Xi (vb false) (Yi (Ck _) (Yi (Ii i ch) (Xi ⟨i+1,by omega,fun j hj I6=>?_⟩ ?_))))
    .by_cases e:j=i
     .subst e;exact hp
     .exact h2 j hj ch
    .exact⟨Dl l.length i ch,⟨Zr,⟨rfl,hs.ids _⟩,Zr,Zr,Tv⟩,Tv,Fh,Tv⟩
  .intro h;have h:¬i<l.length:=by simpa using h
   rw[F9 fun j hj=>h2 j hj ch];exact .refl _
theorem z127(hs:CU caps)(l:List (Rq))(p:Rq->Bool)(hF:∀x∈l,PC fF ([.agg (AW x)]++caps) (vb (p x)))(hl:B8 l) :
  PC 127 [sl AW l,.clo fF caps] (vb (l.any p)):=by
 refine Ps Ej Tryz.func127 rfl (Nz rfl) ?_;have hi:=Afg hs l p hF (by unfold B8 at hl;omega);have Ck:∀h,PC 180 [sl AW l,.clo fF (caps.map (str0 h))] (vi (FS p l 0)):=fun h=>by rw[hs.map];exact hi
 refine Xi .pure (Xi _ (Yi (Ck _) ?_));have ha:=HW (p:=p) l 0 (Bs 0);refine Yi ?_ ?_
 .intro h;rw[<-ha,Ak h];exact .refl _
 .intro h;rw[<-ha,Ae h];exact .refl _
theorem z131(hs:CU caps)(l:List (ByteArray))(p:ByteArray->Bool)(hF:∀x∈l,PC fF ([vs x]++caps) (vb (p x)))(hl:l.length<9223372036854775807) :
  PC 131 [sl AF l,.clo fF caps] (vi (FS p l 0)):=by
 refine Ps Ej Tryz.func131 rfl (Nz rfl) (Xi {i:Nat // i<=l.length/\∀j (hj:j<l.length),j<i->p l[j]=false} (Xi (fun i=>⟨[(0,sl AF l),(1,.clo fF caps),(7,vi (l.map AF).length),(8,vi i.1)],[],Ag⟩) (Xi (fun i=>l.length-i.1) (Yi (Xi ⟨0,by simp⟩ ?_) ?_))))
 .exact⟨⟨Zr,⟨rfl,hs.ids _⟩,Zr,Zr,Tv⟩,Tv,Fh,Tv⟩
 .intro⟨i,h1,h2⟩;refine Yi ?_ ?_
  .intro h;have h:i<l.length:=by simpa using h
   have hg:l[i]?=some l[i]:=Ge h;refine Xi (AF l[i]) (Yi (Yi (Nn i) (by simp[hg])) (Yi rfl ?_));have Ck:∀h,PC fF ([vs l[i]]++caps.map (str0 h)) (vb (p l[i])):=fun h=>by rw[hs.map];exact hF l[i] (Ao _)
   cases hp:p l[i]with
   |true=>
    rw[hp]at Ck;refine Xi .pure (Xi (vb true) (Yi (Ck _) ?_));rw[H2 h (fun j hj I6=>h2 j hj I6) hp,EF];exact .refl _
   |false=>
    rw[hp]at Ck;refine Xi .pure (Xi (vb false) (Yi (Ck _) (Yi (Ii i ch) (Xi ⟨i+1,by omega,fun j hj I6=>?_⟩ ?_))))
    .by_cases e:j=i
     .subst e;exact hp
     .exact h2 j hj ch
    .exact⟨Dl l.length i ch,⟨Zr,⟨rfl,hs.ids _⟩,Zr,Zr,Tv⟩,Tv,Fh,Tv⟩
  .intro h;have h:¬i<l.length:=by simpa using h
   rw[F9 fun j hj=>h2 j hj ch];exact .refl _
theorem z74(hs:CU caps)(l:List (ByteArray))(p:ByteArray->Bool)(hF:∀x∈l,PC fF ([vs x]++caps) (vb (p x)))(hl:B8 l) :
  PC 74 [sl AF l,.clo fF caps] (vb (l.any p)):=by
 refine Ps Ej Tryz.func74 rfl (Nz rfl) ?_;have hi:=z131 hs l p hF (by unfold B8 at hl;omega);have Ck:∀h,PC 131 [sl AF l,.clo fF (caps.map (str0 h))] (vi (FS p l 0)):=fun h=>by rw[hs.map];exact hi
 refine Xi .pure (Xi _ (Yi (Ck _) ?_));have ha:=HW (p:=p) l 0 (Bs 0);refine Yi ?_ ?_
 .intro h;rw[<-ha,Ak h];exact .refl _
 .intro h;rw[<-ha,Ae h];exact .refl _
theorem ka{x:List Rl}{l:List Sl}{kv:Value×AV}{MH:List (Value×AV)}(h:(l.map (X9 x)).Perm (kv::MH)):∃t r,kv=X9 x t/\MH=r.map (X9 x)/\l.Perm (t::r):=by
 obtain⟨ps,h1,h2⟩:=Lk h l rfl;cases ps with
 |nil=>cases h2
 |cons t r=>
  rw[AJ,Fi]at h2;exact⟨t,r,h2.1.symm,h2.2.symm,h1.symm⟩
def JX:AV:=if Fo x s=0 then .tup [.cmap Cu (CP x s),vi 0]else .tup [.v (.map none),vi (Fo x s)]
def jl:Bool:=(G7 x y).reqs.all (Rc x s)
theorem fR{α:Type}(p:α->Bool)(l:List α):l.any (fun q=>!p q)=!l.all p:=by
 induction l with
 |nil=>rfl
 |cons a l ih=>rw[BM,List.all_cons,ih,Bool.not_and]
theorem aD{x:List Rl}{s d:List Sl}(h:d.Perm s)(k:∀y∈d,jl x s y=true):dF x s=true:=A1.2 fun y hy=>k y (h.mem_iff.2 hy)
theorem dG{x:List Rl}{s d r:List Sl}{y:Sl}(h:(d++y::r).Perm s)(k:jl x s y=false):¬dF x s=true:=fun e=>by
 have q:=A1.1 e y (h.mem_iff.1 (AN.2 (.inr (Ab ..))));rw[show(G7 x y).reqs.all (Rc x s)=false from k]at q;cases q
theorem VC{x:List Rl}{s:List Sl}(h:OL x s=0):A0 x=0:=by
 unfold OL at h;split at h
 .assumption
 .cases h
theorem ZA{x:List Rl}{s:List Sl}(h:OL x s=0){y:Sl}(hy:y∈s):G7 x y∈x:=by
 unfold OL at h;split at h
 .split at h
  .split at h
   .rename_i h0 _ h1;have q:=A1.1 h1 y hy;unfold G7;cases e:CV x y with
    |none=>rw[e]at q;cases q
    |some r=>
     unfold CV at e;rw[Aj ch]at e;exact BI e
   .cases h
  .cases h
 .cases h
theorem sF(hx:∀r∈x,Ey r)(hl:B8 s)(h0:¬OL x s=0):PC 72 [.agg (Ic x ifs),sl Aq s] (JX x s):=by
 refine Ps (pC [2,6] []) Tryz.func72 rfl (Nz rfl) (yN (Xi .pure (Xi _ (Yi (by have q:=AaR x ifs s hx hl;rw[oc,Aj h0]at q;exact q) ?_))));refine yN (Yi (fun h1=>?_) (fun h1=>?_))
 .exact CX.of_eq (show AV.tup [.v (.map none),vi (OL x s)]=JX x s by rw[JX,Fo,Aj h0,Aj h0])
 have h1:((OL x s):Int)=(0:Int):=AH h1;exact absurd h1 h0
theorem sG(hx:∀r∈x,Ey r)(hl:B8 s)(h0:OL x s=0)(jF:E1 s=true):PC 72 [.agg (Ic x ifs),sl Aq s] (JX x s):=by
 refine Ps (pC [2,6] []) Tryz.func72 rfl (Nz rfl) (yN (Xi .pure (Xi _ (Yi (by have q:=AaR x ifs s hx hl;rw[oc,Ap h0]at q;exact q) ?_))));refine yN (Yi (fun h=>absurd h Cl) (fun _=>?_));refine Xi {q:List Sl×List Sl×Option (Value×AV) // (q.1++q.2.1).Perm s/\∀y∈q.1,jl x s y=true} (Xi (fun q=>⟨[(6,.ref 6 0),(20,.ref 20 0)],[(6,.ro [.cmap Cu (CP x s)]),(20,.iter (CP x s) (q.1.2.1.map (X9 x)) q.1.2.2)],Ag⟩) (Xi (fun q=>q.1.2.1.length) (Yi (Xi ⟨([],s,none),.refl _,fun _ h=>by cases h⟩ ?_) ?_)))
 .exact⟨Z2,Z2,Fh,Tv⟩
 intro⟨⟨dn,rem,EJ⟩,r1,r2⟩;refine Yi ?_ ?_
 .intro hr;have hr:rem=[]:=DO.1 hr;rw[hr,BQ]at r1;exact CX.of_eq (show AV.tup [.cmap Cu (CP x s),vi 0]=JX x s by rw[JX,Fo,Ap h0,Ap (aD r1 r2),Ap rfl])
 intro kv MH hp;refine CL (ka hp) (fun y hp=>CL hp (fun r hp=>?_));have e1:=hp.1;have e2:=hp.2.1;subst e1;subst e2;have hp:=hp.2.2;have hy:y∈s:=r1.mem_iff.1 (AN.2 (.inr (hp.mem_iff.2 (Ab ..))));refine yN (BX (Bt (!jl x s y)) (fun h2=>?_) (fun h2=>?_))
 .refine Xi .pure (Xi _ (Yi (cb h2 (show PC 127 [sl AW (G7 x y).reqs,.clo 128 [.cptr [.cmap Cu (CP x s)]]] (vb (!jl x s y))from by have q:=z127 (fF:=128) (caps:=[.cptr [.cmap Cu (CP x s)]]) (CU.ptr _) (G7 x y).reqs (fun q=>!Rc x s q) (fun q hq=>iD x s q (Kf jF) ((hx _ (ZA h0 hy)).2 q hq).1) (AK ((My (VC h0)).2 _ (ZA h0 hy)) Cl);rw[fR]at q;exact q)) ?_));exact CX.of_eq (show AV.tup [.v (.map none),vi 17]=JX x s by rw[JX,Fo,Ap h0,Aj (dG (y:=y) (d:=dn) (r:=r) ((IX _ hp.symm).trans r1) (by simpa using h2)),Aj Cl])
 refine Xi .pure (Xi _ (Yi (cb h2 (show PC 127 [sl AW (G7 x y).reqs,.clo 128 [.cptr [.cmap Cu (CP x s)]]] (vb (!jl x s y))from by have q:=z127 (fF:=128) (caps:=[.cptr [.cmap Cu (CP x s)]]) (CU.ptr _) (G7 x y).reqs (fun q=>!Rc x s q) (fun q hq=>iD x s q (Kf jF) ((hx _ (ZA h0 hy)).2 q hq).1) (AK ((My (VC h0)).2 _ (ZA h0 hy)) Cl);rw[fR]at q;exact q)) ?_));refine Xi ⟨(dn++[y],r,some (X9 x y)),by rw[BD];exact(IX _ hp.symm).trans r1,fun z hz=>by rcases AN.1 hz with h|h;exact r2 z h;rw[Ar.1 h];exact(by simpa using h2)⟩ ?_;exact⟨by show r.length<rem.length;rw[hp.length_eq];exact Gr _,Z2,Z2,Fh,Tv⟩
theorem MC{x:List Rl}{s:List Sl}(h:OL x s=0):E1 s=true:=by
 unfold OL at h;split at h
 .split at h
  .assumption
  .cases h
 .cases h
theorem PD(hx:∀r∈x,Ey r)(hl:B8 s):PC 72 [Iu x ifs,sl Aq s] (JX x s):=by
 by_cases h:OL x s=0
 .exact sG x ifs s hx hl h (MC h)
 .exact sF x ifs s hx hl h
theorem Afe{x:List Rl}(h:sT x [])(ifs:List (List AV)):PC 26 [Iu x ifs,nzA] (vb (GL x 16)):=by
 have q:=(h.c11 ifs).args (args':=[Iu x ifs,nzA]) ⟨.refl _,.nil,trivial⟩;rw[show(GL x 16&&EN [])=GL x 16 by rw[show EN []=true by decide,Bool.and_true]]at q;exact q
theorem fB{x:List Rl}(h:GL x 16=true):x.length<=16:=by
 unfold GL at h;simp only[Af,AA]at h;omega
theorem YZ{x:List Rl}(roots:List Rq)(hx:x.length<=16):B8 (B9 x roots):=by
 by_cases h:EV x roots=0
 .have:=(L8 h).2.1
  show _<=1073741824;omega
 .unfold B9;rw[Aj h];exact AB _
theorem cI{x:List Rl}{roots:List Rq}(hx:x.length<=16)(h:EV x roots=0):Iz (B9 x roots):=by
 obtain⟨h1,h2,h3⟩:=L8 h;have hv:El x roots=true:=by
  cases hv:El x roots with
  |true=>rfl
  |false=>exact absurd h (oZ hv).1
 cases hl:Ht x roots (x.length+1) []with
 |nil=>rw[(fA hv hx).2 hl]at h;cases h
 |cons d l=>
  have lf:=I9 (EI.nil x) (Iy.nil roots) d (by rw[hl];exact Ab ..);refine⟨by show _<=_;omega,fun s hs=>?_,by rw[(kN hv hx hl).2];exact lf.ok.sorted⟩;obtain⟨r,hr,rfl⟩:=h1 s hs;exact(UC ((Jt.1 h3).2.1 r hr)).val
theorem Ab0  : PC 220 [nzA,vi 0,vi 0] (.tup []):=by
 refine Ps Ej Tryz.func220 rfl (Nz rfl) (Yi (Ii 0 ch) (Xi {q:Nat // q=0} (Xi (fun q=>⟨[(0,nzA),(1,vi 0),(2,vi 0),(6,vi (0+1))],[],Ag⟩) (Xi (fun q=>q.1) (Yi (Xi ⟨0,rfl⟩ ?_) ?_)))))
 .exact⟨Z4,Tv,Fh,Tv⟩
 intro⟨i,i1⟩;refine Yi (fun h1=>?_) (fun h1=>?_)
 .exact absurd h1 Cl
 exact .refl _
theorem AaZ:PC 160 [nzA,vi 0,vi 0,vi lim] (.tup []):=by
 refine Ps Ej Tryz.func160 rfl (Nz rfl) (Xi {q:Nat // q=0} (Xi (fun q=>⟨[(0,nzA),(1,vi 0),(2,vi 0),(3,vi lim),(8,vb true),(9,vb true)],[],Ag⟩) (Xi (fun q=>q.1) (Yi (Xi ⟨0,rfl⟩ ?_) ?_))))
 .exact⟨Z6,Tv,Fh,Tv⟩
 intro⟨i,i1⟩;refine Yi (by show Bc ((0:Int)-(0:Int));unfold Bc;omega) (Yi (fun h1=>?_) (fun h1=>?_))
 .refine Xi .pure (Xi _ (Yi Ab0 ?_));exact .refl _
 exact absurd Cl h1
theorem Ab1(hb:PC 161 [.v (.int .u64 (IntKind.u64.wrap (0:Int)))] (vi lim)):PC 99 [nzA] (.tup []):=by
 refine Ps Ej Tryz.func99 rfl (Nz rfl) (Xi .pure (Xi _ (Yi hb (Xi .pure (Xi _ (Yi (AaZ lim) ?_))))));exact .refl _
theorem Afd  : PC 183 [nzA] nzA:=by
 refine Ps Ej Tryz.func183 rfl (Nz rfl) (Yi (fun _=>?_) (fun h=>absurd Cl h));exact .refl _
theorem X7:Iz []:=⟨show 0<=1073741824 by decide,Cn _,List.Pairwise.nil⟩
theorem Afc(hs:PC 99 [nzA] (.tup [])):PC 130 [sl Aq ([]:List Sl),sl Aq ([]:List Sl)] (.tup [nzA,vi 0]):=by
 refine Ps ⟨[],[],[],[(34,[12000,12500])],[],[],[],[],[],[],[1,2,3,4,5,6,8,9,10,11,12,13,14,16,17,18,19,20,21]⟩ Tryz.func130 rfl (Nz rfl) (cU [(0,sl Aq ([]:List Sl)),(1,sl Aq ([]:List Sl))] [] Z2 Tv (Xi (.gen [] 1) (Yi rfl (A9.to2 (rP [] X7) ?_))));refine cU [(0,sl Aq ([]:List Sl)),(1,sl Aq ([]:List Sl)),(6,.mref 12000),(7,vb true)] [(12000,.map Cu (It []))] Z4 Z1 (Xi (.gen [] 1) (Yi rfl (A9.to2 (rP [] X7) ?_)));refine cU [(0,sl Aq ([]:List Sl)),(1,sl Aq ([]:List Sl)),(6,.mref 12000),(7,vb true),(8,.mref 12500),(9,vb true)] [(12000,.map Cu (It [])),(12500,.map Cu (It []))] Z6 Z2 (cU [(0,sl Aq ([]:List Sl)),(1,sl Aq ([]:List Sl)),(6,.mref 12000),(8,.mref 12500)] [(12000,.map Cu (It [])),(12500,.map Cu (It []))] Z4 Z2 (cU [(0,sl Aq ([]:List Sl)),(1,sl Aq ([]:List Sl)),(6,.mref 12000),(8,.mref 12500),(10,nzA)] [(12000,.map Cu (It [])),(12500,.map Cu (It []))] Z5 Z2 (Xi (.gen [] 1) (Yi rfl (A9.to2 (uH ([]:List Sl) (show 0<=1073741824 by decide)) ?_)))));have b2:Cr 4 (([]:List Sl).map Aq)/\(([]:List Sl).map Aq).length=(([]:List Sl).map Aq).length/\((([]:List Sl).map Aq).length+(([]:List Sl).map Aq).length)*40<=140737488355328/\(([]:List Sl).map Aq).length+(([]:List Sl).map Aq).length<=9223372036854775807:=⟨(D5 (enc:=Aq) (n:=4) (fun _=>rfl) ([]:List Sl)),rfl,(by simp only[Lm,Au];omega),(by simp only[Lm,Au];omega)⟩;refine Yi b2 (Xi {q:Nat // q=0} (Xi (fun q=>⟨[(6,.mref 12000),(8,.mref 12500),(10,nzA),(37,.slice (.id 13500 4) ((([]:List Sl).map Aq)++(([]:List Sl).map Aq))),(38,vi (((([]:List Sl).map Aq)++(([]:List Sl).map Aq)):List (List AV)).length),(39,vi q.1)],[(12000,.rom Cu (It [])),(12500,.rom Cu (It [])),(13500,.tok 4 ((([]:List Sl).map Aq).length+(([]:List Sl).map Aq).length))],Ag⟩) (Xi (fun q=>q.1) (Yi (Xi ⟨0,rfl⟩ ?_) ?_))))
 .exact⟨Z6,Z3,Fh,Tv⟩
 intro⟨i,i1⟩;refine Yi (fun h3=>?_) (fun h3=>?_)
 .exact absurd h3 (by show ¬((i:Int)<0);omega)
 refine cU [(6,.mref 12000),(8,.mref 12500),(10,nzA)] [(12000,.rom Cu (It [])),(12500,.rom Cu (It []))] Z3 Z2 (Xi .pure (Xi _ (Yi hs (cU [(6,.mref 12000),(8,.mref 12500),(10,nzA)] [(12000,.rom Cu (It [])),(12500,.rom Cu (It []))] Z3 Z2 (cU [(6,.mref 12000),(8,.mref 12500),(10,nzA),(13,.v (.func (.func 182) #[] #[]))] [(12000,.rom Cu (It [])),(12500,.rom Cu (It []))] Z4 Z2 (cU [(6,.mref 12000),(8,.mref 12500),(10,nzA),(13,.v (.func (.func 182) #[] #[])),(14,nzA)] [(12000,.rom Cu (It [])),(12500,.rom Cu (It []))] Z5 Z2 (Xi .pure (Xi _ (Yi Afd (Xi {q:Nat // q=0} (Xi (fun q=>⟨[(6,.mref 12000),(8,.mref 12500),(13,.v (.func (.func 182) #[] #[])),(14,nzA),(52,nzA),(53,vi 0),(54,vi q.1)],[(12000,.rom Cu (It [])),(12500,.rom Cu (It []))],Ag⟩) (Xi (fun q=>q.1) (Yi (Xi ⟨0,rfl⟩ ?_) ?_)))))))))))))
 .exact⟨Z7,Z2,Fh,Tv⟩
 intro⟨i,i1⟩;refine Yi (fun h4=>?_) (fun h4=>?_)
 .exact absurd h4 (by show ¬((i:Int)<0);omega)
 refine cU [(14,nzA)] [] Z1 Tv ?_
 exact .refl _
theorem Rg(p:List ByteArray):∃t:List ByteArray,t.Perm p/\(t.map K8).Pairwise fun a b=>a<=b:=by
 have e:∀q:ByteArray,SG (K8 q)=q:=fun q=>by cases q;simp
 have e2:∀q:List UInt8,K8 (SG q)=q:=fun q=>by simp
 refine⟨((p.map K8).mergeSort fun a b=>decide (a<=b)).map SG,?_,?_⟩
 .have h:=(Oq (p.map K8) fun a b=>decide (a<=b)).map SG
  rwa [Bq,show(SG ∘ K8)=id from funext e,Gj]at h
 .rw[Bq,show(K8 ∘ SG)=id from funext e2,Gj];have h:=K6 (le:=fun a b:List UInt8=>decide (a<=b)) (fun a b c h1 h2=>Ak (List.le_trans (AP h1) (AP h2))) (fun a b=>by rcases List.le_total a b with h|h<;>simp[h]) (p.map K8)
  exact h.imp fun h=>AP h
theorem mi(t:List ByteArray):(Cq t).length<=t.length:=by
 have h:=Nl (t.map K8);rw[Lm]at h;unfold Cq;rw[Lm];exact h
theorem oT(h:Iz l)(k:Iz m):(rm l m).length<=l.length+m.length:=by
 obtain⟨t,ht,hs⟩:=Rg ((l++m).map (·.path));rw[<-bR h k ht hs];refine AK (List.length_filterMap_le ..) (AK (mi t) ?_);rw[ht.length_eq,Lm,Ac];exact Am _
theorem Ae2(hl:Iz l)(hm2:Iz m)(h1:l.length<=16)(h2:m.length<=16):PC 130 [sl Aq l,sl Aq m] (.tup [sl HJ (rm l m),vi 0]):=by
 obtain⟨t,ht,hs⟩:=Rg ((l++m).map (·.path))
 by_cases e:l++m=[]
 .obtain⟨rfl,rfl⟩:=List.append_eq_nil_iff.1 e;obtain⟨lim,_,hb⟩:=lW 0 (AB _);have q:=Afc (Ab1 lim hb);rw[show rm [] []=[] by rw[rm]];exact A9.mono q fun r h' ⟨e1,e2⟩=>⟨.tup [sl HJ [],vi 0],by rw[e1];exact .tup ⟨.nil,.refl _,trivial⟩,rfl,e2⟩
 .rw[<-bR hl hm2 ht hs];exact o75 l m t hl hm2 ch e ht hs
theorem GW{x:List Rl}{s:List Sl}(h:OL x s=0)(hl:B8 s):Iz s:=by
 refine⟨hl,fun y hy=>?_,Kf (MC h)⟩;have q:(CV x y).isSome=true:=by
  have q:=h;unfold OL at q;rw[Ap (VC h),Ap (MC h)]at q;split at q
  .rename_i h1;exact A1.1 h1 y hy
  .cases q
 cases e:CV x y with
 |none=>rw[e]at q;cases q
 |some r=>
  unfold CV at e;rw[Aj (fun c=>c (VC h))]at e;have e1:Fa r=y:=AP (Dy (p:=fun r=>decide (Fa r=y)) e);rw[<-e1];exact((CF (VC h)).1 r (BI e)).val
theorem NZ{x:List Rl}{s:List Sl}(h:Fo x s=0):OL x s=0:=by
 unfold Fo at h;split at h
 .assumption
 .exact h
def J0:List ByteArray:=(rm l m).map (·.path)
def upC:List AV:=[.cmap Cu (CP x l),.cmap Cu (CP x m),sl Aq l,sl Aq m,sl AF (J0 l m)]
def Sq:Int:=if Fo x l=0 then Fo x m else Fo x l
def fI:AV:=if Sq x l m=0 then .tup [.cptr (upC x l m),vi 0]else .tup [.v (.pointer none),vi (Sq x l m)]
theorem sA(hx:∀r∈x,Ey r)(hl:B8 s)(h0:Fo x s=0):PC 34 [.agg (Ic x ifs),sl Aq s] (vi (Fo x s)):=by
 refine Ps (pC [2] []) Tryz.func34 rfl (Nz rfl) (yN (Xi .pure (Xi _ (Yi (by have q:=PD x ifs s hx hl;rw[JX,Ap h0]at q;exact q) ?_))));exact CX.of_eq (Aa vi h0.symm)
theorem sy(hx:∀r∈x,Ey r)(hl:B8 s)(h0:¬Fo x s=0):PC 34 [.agg (Ic x ifs),sl Aq s] (vi (Fo x s)):=by
 refine Ps (pC [2] []) Tryz.func34 rfl (Nz rfl) (yN (Xi .pure (Xi _ (Yi (by have q:=PD x ifs s hx hl;rw[JX,Aj h0]at q;exact q) ?_))));exact .refl _
theorem wK(hx:∀r∈x,Ey r)(hl:B8 s):PC 34 [Iu x ifs,sl Aq s] (vi (Fo x s)):=by
 by_cases h:Fo x s=0
 .exact sA x ifs s hx hl h
 .exact sy x ifs s hx hl h
theorem AaU(hx:∀r∈x,Ey r)(hl:B8 l)(_hm_:B8 m)(c1:¬Fo x l=0):PC 73 [.agg (Ic x ifs),sl Aq l,sl Aq m] (fI x l m):=by
 refine Ps (pC [3] []) Tryz.func73 rfl (Nz rfl) (yN (Xi .pure (Xi _ (Yi (by have q:=PD x ifs l hx hl;rw[JX,Aj c1]at q;exact q) ?_))));refine Yi (fun h1=>?_) (fun h1=>?_)
 .have h1:((Fo x l):Int)≠(0:Int):=h1;exact CX.of_eq (show AV.tup [.v (.pointer none),vi (Fo x l)]=fI x l m by rw[fI,Sq,Aj c1,Aj c1])
 have h1:((Fo x l):Int)=(0:Int):=AH h1;exact absurd h1 c1
theorem AaV(hx:∀r∈x,Ey r)(hl:B8 l)(SN:B8 m)(c1:Fo x l=0)(c2:¬Fo x m=0):PC 73 [.agg (Ic x ifs),sl Aq l,sl Aq m] (fI x l m):=by
 refine Ps (pC [3] []) Tryz.func73 rfl (Nz rfl) (yN (Xi .pure (Xi _ (Yi (by have q:=PD x ifs l hx hl;rw[JX,Ap c1]at q;exact q) ?_))));refine Yi (fun h=>absurd h Cl) (fun _=>?_);refine yN (Xi .pure (Xi _ (Yi (by have q:=PD x ifs m hx SN;rw[JX,Aj c2]at q;exact q) ?_)));refine Yi (fun h1=>?_) (fun h1=>?_)
 .have h1:((Fo x m):Int)≠(0:Int):=h1;exact CX.of_eq (show AV.tup [.v (.pointer none),vi (Fo x m)]=fI x l m by rw[fI,Sq,Ap c1,Aj c2])
 have h1:((Fo x m):Int)=(0:Int):=AH h1;exact absurd h1 c2
theorem AaW(hx:∀r∈x,Ey r)(hl:B8 l)(SN:B8 m)(GQ:l.length<=16)(F7:m.length<=16)(c1:Fo x l=0)(c2:Fo x m=0):PC 73 [.agg (Ic x ifs),sl Aq l,sl Aq m] (fI x l m):=by
 have hrm:(rm l m).length<=1000:=by have q:=oT l m (GW (NZ c1) hl) (GW (NZ c2) SN);omega
 refine Ps ⟨[3],[],[],[],[39],[],[],[(47,(39,4,90,1))],[],[],[3,4,7,9,13]⟩ Tryz.func73 rfl (Nz rfl) (yN (Xi .pure (Xi _ (Yi (by have q:=PD x ifs l hx hl;rw[JX,Ap c1]at q;exact q) ?_))));refine Yi (fun h=>absurd h Cl) (fun _=>?_);refine cU [(1,sl Aq l),(2,sl Aq m),(3,.ref 3 0),(8,.cmap Cu (CP x l))] [(3,.ro (Ic x ifs))] Z4 Z1 (yN (Xi .pure (Xi _ (Yi (by have q:=PD x ifs m hx SN;rw[JX,Ap c2]at q;exact q) ?_))));refine Yi (fun h=>absurd h Cl) (fun _=>?_);refine cU [(1,sl Aq l),(2,sl Aq m),(8,.cmap Cu (CP x l)),(10,.cmap Cu (CP x m))] [] Z4 Tv (Xi .pure (Xi _ (Yi (Ae2 l m (GW (NZ c1) hl) (GW (NZ c2) SN) GQ F7) (cU [(11,.ref 39 0),(12,sl HJ (rm l m))] [(39,.cells [.cmap Cu (CP x l),.cmap Cu (CP x m),sl Aq l,sl Aq m,nzA])] Z2 Z1 (Xi {q:Nat // q<=(rm l m).length} (Xi (fun q=>⟨[(11,.ref 39 0),(46,sl HJ (rm l m)),(47,vi ((rm l m).map HJ).length),(48,vi q.1)],[(39,.cells [.cmap Cu (CP x l),.cmap Cu (CP x m),sl Aq l,sl Aq m,.slice (.id 90 1) ((((rm l m).take q.1).map (·.path)).map AF)]),(90,.tok 1 ((((rm l m).take q.1).map (·.path)).map AF).length)],Ag⟩) (Xi (fun q=>(rm l m).length-q.1) (Yi (Xi ⟨0,AB _⟩ ?_) ?_))))))))
 .exact⟨Z4,Z2,Fh,Tv⟩
 intro⟨i,i1⟩;have i1:i<=(rm l m).length:=i1;refine Yi (fun h1=>?_) (fun h1=>?_)
 .have h1:(i:Int)<(((rm l m).map HJ).length:Int):=h1;have n1:=FJ h1;have hq:((rm l m).take i).length<=1000:=by rw[Ax];omega
  refine Xi (HJ ((rm l m)[i])) (Yi (Lv n1) (Yi rfl (yN (yN ?_))));have b2:Cr 1 [[vs ((rm l m)[i]).path]]/\((((rm l m).take i).map (·.path)).map AF).length=((((rm l m).take i).map (·.path)).map AF).length/\(((((rm l m).take i).map (·.path)).map AF).length+([[vs ((rm l m)[i]).path]]:List (List AV)).length)*16<=140737488355328/\((((rm l m).take i).map (·.path)).map AF).length+([[vs ((rm l m)[i]).path]]:List (List AV)).length<=9223372036854775807:=⟨⟨rfl,trivial⟩,rfl,(by simp only[Lm,Al,Au];omega),(by simp only[Lm,Al,Au];omega)⟩;refine Yi b2 (yN (Yi Wk (cU [(11,.ref 39 0),(46,sl HJ (rm l m)),(47,vi ((rm l m).map HJ).length),(48,vi i)] [(39,.cells [.cmap Cu (CP x l),.cmap Cu (CP x m),sl Aq l,sl Aq m,.slice (.id 90 1) (((((rm l m).take i).map (·.path)).map AF)++[[vs ((rm l m)[i]).path]])]),(90,.tok 1 (((((rm l m).take i).map (·.path)).map AF).length+([[vs ((rm l m)[i]).path]]:List (List AV)).length))] Z4 Z2 (Yi (Ii i ch) ?_))));have ew:((((rm l m).take i).map (·.path)).map AF++[[vs (rm l m)[i].path]])=(((rm l m).take (i+1)).map (·.path)).map AF:=by rw[Ep n1,At,At];rfl
  refine Xi ⟨i+1,n1⟩ ?_;exact⟨by show(rm l m).length-(i+1)<(rm l m).length-i;omega,Z4,⟨⟨(Aa (fun z=>HO.cells [.cmap Cu (CP x l),.cmap Cu (CP x m),sl Aq l,sl Aq m,.slice (.id 90 1) z]) ew),rfl⟩,⟨(show HO.tok 1 (((((rm l m).take i).map (·.path)).map AF).length+([[vs ((rm l m)[i]).path]]:List (List AV)).length)=.tok 1 ((((rm l m).take (i+1)).map (·.path)).map AF).length from Aa (HO.tok 1) (Ac.symm.trans (Aa List.length ew))),rfl⟩,Tv⟩,Fh,Tv⟩
 have h1:¬((i:Int)<(((rm l m).map HJ).length:Int)):=h1;have n1:=DP h1;have ee:(rm l m).take i=rm l m:=Av (Bl (DP h1));exact CX.of_eq (show AV.tup [.cptr [.cmap Cu (CP x l),.cmap Cu (CP x m),sl Aq l,sl Aq m,sl AF (((rm l m).take i).map (·.path))],vi 0]=fI x l m by rw[ee,fI,show Sq x l m=0 by rw[Sq,Ap c1];exact c2,Ap rfl];rfl)
theorem pN(hx:∀r∈x,Ey r)(hl:B8 l)(SN:B8 m)(GQ:l.length<=16)(F7:m.length<=16):PC 73 [Iu x ifs,sl Aq l,sl Aq m] (fI x l m):=by
 by_cases c1:Fo x l=0
 .by_cases c2:Fo x m=0
  .exact AaW x ifs l m hx hl SN GQ F7 c1 c2
  .exact AaV x ifs l m hx hl SN c1 c2
 .exact AaU x ifs l m hx hl SN c1
end Go.Eng
namespace Go.Proofs
open Go.Shelf Go.RowKit Go.Lib Go.Sort Go.Eng
def cfBt(x y:SlA):Int:=if Op.bytesLess x.1.toList y.1.toList=true then -1 else 1
theorem Tryz.closure134:CmpSlG cfBt 134:=fun x y W=>by
 obtain⟨a,⟨b,hb⟩,⟨c,hc⟩,⟨d,hd⟩⟩:=x;obtain⟨a',⟨b',lp⟩,⟨c',u5⟩,⟨d',p6⟩⟩:=y;unfold cfBt;dsimp only;cases hl:Op.bytesLess a.toList a'.toList with
 |true=>
  go_enter Tryz.func134,Tryz.ntmps134
  go_wp2
  all_goals (try simp only[hl]at *)
  all_goals (try go_wp2)
  all_goals (try go_ret)
  all_goals (try exact⟨rfl,0,_,by rw[alloc_eq_grow,alloc_eq_grow,grow_grow];rfl⟩)
 |false=>
  go_enter Tryz.func134,Tryz.ntmps134
  go_wp2
  all_goals (try simp only[hl]at *)
  all_goals (try go_wp2)
  all_goals (try go_ret)
  all_goals (try exact⟨rfl,0,_,by rw[alloc_eq_grow,alloc_eq_grow,grow_grow];rfl⟩)
end Go.Proofs
