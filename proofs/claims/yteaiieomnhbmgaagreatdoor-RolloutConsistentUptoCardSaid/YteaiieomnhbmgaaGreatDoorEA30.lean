/- Lemmas 30. -/
import Derived.Test.YteaiieomnhbmgaaGreatDoorEA29
import Derived.Test.YteaiieomnhbmgaaGreatDoorEA04
set_option maxHeartbeats 4000000
namespace Go.Eng
variable {t:List ByteArray}{l m:List Sl}
theorem fY:∀{x y:List UInt8},IW x y=true->x<y
 |x,[],h=>by cases x<;>cases h
 | [],b::y,_=>by simp
 |a::x,b::y,h=>by
  unfold IW at h;rw[List.cons_lt_cons_iff];rcases CO _ _▸h with h | h
  .exact .inl (AK h)
  .obtain⟨h1,h2⟩:=FB.1 h;exact .inr ⟨AK h1,fY h2⟩
section
variable {α:Type}[Inhabited α][DecidableEq α]
theorem PV{R:α->α->Prop}(hR:∀a b c,R a b->R b c->R a c)(xs:List α)(hs:∀i j,(hi:i<xs.length)->(hj:j<xs.length)->i<j->xs[i]=xs[j]\/R xs[i] xs[j]):∀m,m<=xs.length ->
  (Lib.compactUpTo xs.toArray m).Pairwise R/\(∀a,a∈Lib.compactUpTo xs.toArray m↔a∈xs.take m)
 |0,_=>by simp[Lib.compactUpTo]
 |m+1,h=>by
  obtain⟨h1,h2⟩:=PV hR xs hs m ch;have hg:xs.toArray[m]! = xs[m]' ch:=by simp[show m<xs.length by omega]
  rw[Lib.compactUpTo_succ,hg,Bj,Ge ch]
  by_cases hk:Lib.keeps xs.toArray m=true
  .rw[Ao hk];refine⟨?_,fun a=>by rw[AP,AP,h2];simp⟩;rw[List.pairwise_append];refine⟨h1,List.pairwise_singleton _ _,fun a ha b hb=>?_⟩;rw[Aq.1 hb];have ha:=(h2 a).1 ha;obtain⟨j,hj,rfl⟩:=BU.1 ha;rw[Aw]at hj;rw[GN];unfold Lib.keeps at hk;have hk:=AK hk;rcases hk with hk | hk
   .omega
   .have TL : xs.toArray[m-1]! = xs[m-1]' ch:=by simp[show m-1<xs.length by omega]
    rw[hg,TL]at hk;have s1:R (xs[m-1]' ch) (xs[m]' ch):=(hs (m-1) m ch ch ch).elim (fun e=>absurd e.symm hk) id
    by_cases e:j=m-1
    .subst e;exact s1
    .rcases hs j (m-1) ch ch ch with q | q
     .rw[q];exact s1
     .exact hR _ _ _ q s1
  .rw[Aj hk,BM];refine⟨h1,fun a=>?_⟩;rw[h2,AP];refine⟨.inl,fun q=>q.elim id fun q=>?_⟩;have q:a=xs[m]:=by simpa using q
   subst q;have hk:¬(m=0\/xs.toArray[m]!≠xs.toArray[m-1]!):=fun q=>hk (Ar q);have m0:0<m:=Nat.pos_of_ne_zero fun e=>hk (.inl e);have e:xs.toArray[m]! = xs.toArray[m-1]!:=AJ fun e=>hk (.inr e);have TL : xs.toArray[m-1]! = xs[m-1]' ch:=by simp[show m-1<xs.length by omega]
   rw[hg,TL]at e;rw[e];exact BU.2 ⟨m-1,by rw[Aw];omega,by rw[GN]⟩
end
theorem lL(ht:(t.map KJ).Pairwise fun a b=>a<=b):(Cm t).Pairwise (fun a b=>Ef a b=true)/\∀p,p∈Cm t↔p∈t:=by
 have hc:=PV (R:=fun a b=>IW a b=true) (fun a b c=>Pc) (t.map KJ) (fun i j hi hj Pt=>by
  have h:=(AT.1 ht) i j hi hj Pt;cases e:IW (t.map KJ)[i] (t.map KJ)[j]with
  |true=>exact .inr rfl
  |false=>
   cases e2:IW (t.map KJ)[j] (t.map KJ)[i]with
   |true=>exact absurd (fY e2) (by simpa using h)
   |false=>exact .inl (Vh e e2)) (t.map KJ).length (Ak _)
 rw[B9]at hc;have e:Cm t=(Lib.compactUpTo (t.map KJ).toArray (t.map KJ).length).map Sv:=rfl;rw[e];refine⟨?_,fun p=>?_⟩
 .rw[Lu];exact hc.1.imp fun {a b} h=>by show IW (Sv a).data.toList (Sv b).data.toList=true;exact h
 .rw[Ai];constructor
  .rintro⟨a,ha,rfl⟩
   obtain⟨q,hq,rfl⟩:=Ai.1 ((hc.2 a).1 ha)
   have:Sv (KJ q)=q:=by cases q;simp
   rw[this];exact hq
  .intro hp;exact⟨KJ p,(hc.2 _).2 (Of hp),by cases p;simp⟩
abbrev vq(p:ByteArray)(f t:Int):List Mv:=if f≠t then [⟨p,f,t⟩]else []
def rm:List Sl->List Sl->List Mv
 | [],[]=>[]
 |a::l,[]=>vq a.path (place a.ver) (-1)++rm l []
 | [],b::m=>vq b.path (-1) (place b.ver)++rm [] m
 |a::l,b::m=>if a.path=b.path then vq a.path (place a.ver) (place b.ver)++rm l m else if Ef a.path b.path=true then vq a.path (place a.ver) (-1)++rm l (b::m)else vq b.path (-1) (place b.ver)++rm (a::l) m
termination_by l m=>l.length+m.length
def mp:List Sl->List Sl->List ByteArray
 | [],[]=>[]
 |a::l,[]=>a.path::mp l []
 | [],b::m=>b.path::mp [] m
 |a::l,b::m=>if a.path=b.path then a.path::mp l m else if Ef a.path b.path=true then a.path::mp l (b::m)else b.path::mp (a::l) m
termination_by l m=>l.length+m.length
theorem Gv(a:Sl)(l:List Sl)(p:ByteArray):Jo (a::l) p=if a.path=p then place a.ver else Jo l p:=by
 unfold Jo B2;rw[Fg]
 by_cases h:a.path=p
 .simp[h]
 .simp[h]
theorem Ix{l' m':List Sl}{ps:List ByteArray}(h1:∀p∈ps,Jo l p=Jo l' p)(h2:∀p∈ps,Jo m p=Jo m' p):Iw l m ps=Iw l' m' ps:=
 (by
  induction ps with
  |nil=>rfl
  |cons p ps ih=>
   show(p::ps).filterMap _=(p::ps).filterMap _;rw[List.filterMap_cons,List.filterMap_cons,show Jy l m p=Jy l' m' p from by unfold Jy;rw[h1 p (Ab ..),h2 p (Ab ..)],show ps.filterMap (Jy l m)=ps.filterMap (Jy l' m')from ih (fun q hq=>h1 q (Ah _ hq)) (fun q hq=>h2 q (Ah _ hq))])
theorem Jl(l m:List Sl)(p:ByteArray)(ps:List ByteArray):Iw l m (p::ps)=vq p (Jo l p) (Jo m p)++Iw l m ps:=by
 unfold Iw vq;rw[List.filterMap_cons];unfold Jy
 by_cases h:Jo l p=Jo m p
 .simp[h]
 .simp[h]
theorem TV{p:ByteArray}(h:∀s∈l,s.path≠p):Jo l p=-1:=by
 unfold Jo B2;rw[DU.2 fun s hs=>by simpa using h s hs]
theorem Vn(l m:List Sl)(hl:l.Pairwise Vi)(hm:m.Pairwise Vi):(mp l m).Pairwise (fun a b=>Ef a b=true)/\(∀p,p∈mp l m↔p∈l.map (·.path)\/p∈m.map (·.path))/\rm l m=Iw l m (mp l m):=by
 match l,m with
 | [],[]=>unfold mp rm;simp
 |a::l,[]=>
  obtain⟨a1,a2⟩:=BH.1 hl;obtain⟨h1,h2,h3⟩:=Vn l [] a2 hm;have lt:∀p∈mp l [],Ef a.path p=true:=fun p hp=>by
   have:=(h2 p).1 hp
   rcases this with q | q
   .obtain⟨s,hs,rfl⟩:=Ai.1 q;exact a1 s hs
   .cases q
  unfold mp rm;refine⟨BH.2 ⟨lt,h1⟩,fun p=>by simp[h2],?_⟩;rw[Jl,h3,Gv,Ao rfl]
  congr 1
  exact Ix (fun p hp=>by rw[Gv,Aj (IQ (lt p hp))]) fun _ _=>rfl
 | [],b::m=>
  obtain⟨a1,a2⟩:=BH.1 hm;obtain⟨h1,h2,h3⟩:=Vn [] m hl a2;have lt:∀p∈mp [] m,Ef b.path p=true:=fun p hp=>by
   have:=(h2 p).1 hp
   rcases this with q | q
   .cases q
   .obtain⟨s,hs,rfl⟩:=Ai.1 q;exact a1 s hs
  unfold mp rm;refine⟨BH.2 ⟨lt,h1⟩,fun p=>by simp[h2],?_⟩;rw[Jl,h3,Gv,Ao rfl]
  congr 1
  exact Ix (fun _ _=>rfl) fun p hp=>by rw[Gv,Aj (IQ (lt p hp))]
 |a::l,b::m=>
  obtain⟨a1,a2⟩:=BH.1 hl;obtain⟨b1,b2⟩:=BH.1 hm;unfold mp rm
  by_cases e:a.path=b.path
  .rw[Ao e,Ao e];obtain⟨h1,h2,h3⟩:=Vn l m a2 b2;have lt:∀p∈mp l m,Ef a.path p=true:=fun p hp=>by
    rcases(h2 p).1 hp with q | q
    .obtain⟨s,hs,rfl⟩:=Ai.1 q;exact a1 s hs
    .obtain⟨s,hs,rfl⟩:=Ai.1 q;rw[e];exact b1 s hs
   refine⟨BH.2 ⟨lt,h1⟩,fun p=>?_,?_⟩
   .simp only[AC,h2,AL,e];constructor
    .rintro(q | q | q)
     .exact .inl (.inl q)
     .exact .inl (.inr q)
     .exact .inr (.inr q)
    .rintro((q | q) | (q | q))
     .exact .inl q
     .exact .inr (.inl q)
     .exact .inl q
     .exact .inr (.inr q)
   .rw[Jl,h3,Gv,Ao rfl,Gv,Ao e.symm]
    congr 1
    exact Ix (fun p hp=>by rw[Gv,Aj (IQ (lt p hp))]) fun p hp=>by rw[Gv,Aj (by rw[<-e];exact IQ (lt p hp))]
  .rw[Aj e,Aj e]
   by_cases c:Ef a.path b.path=true
   .rw[Ao c,Ao c];obtain⟨h1,h2,h3⟩:=Vn l (b::m) a2 hm;have la:∀s∈b::m,Ef a.path s.path=true:=fun s hs=>by
     rcases AC.1 hs with rfl | hs
     .exact c
     .exact D6 c (b1 s hs)
    have lt:∀p∈mp l (b::m),Ef a.path p=true:=fun p hp=>by
     rcases(h2 p).1 hp with q | q
     .obtain⟨s,hs,rfl⟩:=Ai.1 q;exact a1 s hs
     .obtain⟨s,hs,rfl⟩:=Ai.1 q;exact la s hs
    refine⟨BH.2 ⟨lt,h1⟩,fun p=>by rw[AC,h2,AL,AC,AL (l:=l),AC (l:=l.map _),or_assoc],?_⟩;rw[Jl,h3,Gv,Ao rfl,TV (l:=b::m) fun s hs=>(IQ (la s hs)).symm]
    congr 1
    exact Ix (fun p hp=>by rw[Gv,Aj (IQ (lt p hp))]) fun _ _=>rfl
   .rw[Aj c,Aj c];have c' : Ef b.path a.path=true:=by
     cases q:Ef b.path a.path with
     |true=>rfl
     |false=>exact absurd (Ik (by simpa using c) q) e
    obtain⟨h1,h2,h3⟩:=Vn (a::l) m hl b2;have la:∀s∈a::l,Ef b.path s.path=true:=fun s hs=>by
     rcases AC.1 hs with rfl | hs
     .exact c'
     .exact D6 c' (a1 s hs)
    have lt:∀p∈mp (a::l) m,Ef b.path p=true:=fun p hp=>by
     rcases(h2 p).1 hp with q | q
     .obtain⟨s,hs,rfl⟩:=Ai.1 q;exact la s hs
     .obtain⟨s,hs,rfl⟩:=Ai.1 q;exact b1 s hs
    refine⟨BH.2 ⟨lt,h1⟩,fun p=>?_,?_⟩
    .rw[AC,h2,AL,AL,AC,AC];constructor
     .rintro(q | q | q)
      .exact .inr (.inl q)
      .exact .inl q
      .exact .inr (.inr q)
     .rintro(q | q | q)
      .exact .inr (.inl q)
      .exact .inl q
      .exact .inr (.inr q)
    .rw[Jl,h3,TV (l:=a::l) fun s hs=>(IQ (la s hs)).symm,Gv b m,Ao rfl]
     congr 1
     exact Ix (fun _ _=>rfl) fun p hp=>by rw[Gv b m,Aj (IQ (lt p hp))]
termination_by l.length+m.length
theorem bo(hl:IL l)(hm:IL m)(hp:t.Perm ((l++m).map (·.path)))(ht:(t.map KJ).Pairwise fun a b=>a<=b):Iw l m (Cm t)=rm l m:=by
 obtain⟨h1,h2,h3⟩:=Vn l m hl.inc hm.inc;obtain⟨c1,c2⟩:=lL ht;rw[h3]
 congr 1
 refine List.Perm.eq_of_pairwise (le:=fun a b=>Ef a b=true) (fun a b _ _ x y=>?_) c1 h1 ?_
 .rw[NJ x]at y;cases y
 .refine(Py (c1.imp fun h=>IQ h) (h1.imp fun h=>IQ h)).2 fun p=>?_;rw[c2,h2,hp.mem_iff,As,AP]
end Go.Eng
namespace Go.Eng
open Go.Proofs
end Go.Eng
namespace Go.Eng
end Go.Eng
namespace Go.Eng
open Go.Proofs
variable {caps:List AV}{i fF:Nat}(x:List Rl)(ifs:List (List AV))(lim:Int)(l s:List Sl)(q:Rq)(y:Sl)(m:List Sl)
theorem wA(v:Ver):PC 67 [.agg (DL v)] (.tup [vi (plc v),vi (if Cz v then 0 else 2)]):=wH v
def zeR:Rl:=⟨⟨#[]⟩,⟨0,0,0⟩,[],⟨#[]⟩,⟨#[]⟩,⟨#[]⟩,false⟩
def GY:Rl:=(Dh x y).getD zeR
abbrev XP:Value×AV:=(Value.string y.path,AV.agg (AF (GY x y)))
abbrev CN:List (Value×AV):=s.map (XP x)
def OA:Int:=if A6 x=0 then if E3 s=true then if s.all (fun y=>(Dh x y).isSome)=true then 0 else 6 else 1 else 1
def QR:Bool:=match B2 s q.path with
 |some y=>has q.set (plc (GY x y).ver)
 |none=>false
def cP:Bool:=s.all fun y=>(GY x y).reqs.all (QR x s)
def ER:Int:=if OA x s=0 then if cP x s=true then 0 else 17 else OA x s
theorem It{s:List Sl}(h:E3 s=true):s.Pairwise Vi:=by
 rw[Ki]at h;rw[AT];intro i j hi hj Pt;show Ef s[i].path s[j].path=true
 induction j with
 |zero=>omega
 |succ j ih=>
  have q:=h (j+1) hj ch
  by_cases e:i=j
  .subst e;exact q
  .exact D6 (ih ch ch) q
theorem rJ{x:List Rl}{s:List Sl}(h:s.Pairwise Vi)(hi:i<s.length):∀b,(Value.string s[i].path,b)∉CN x (s.take i):=fun b hb=>by
 obtain⟨t,ht,e⟩:=Ai.1 hb;obtain⟨j,hj,rfl⟩:=BU.1 ht;rw[GN]at e;rw[Aw]at hj;have q:=(AT.1 h) j i ch hi ch;have e2:s[j].path=s[i].path:=by injection e with e1;injection e1
 rw[Vi,e2,Dm]at q;cases q
theorem kf{x:List Rl}{s:List Sl}(h:s.Pairwise Vi)(hi:i<s.length):E4 (CN x (s.take i)) (.string s[i].path) (.agg (AF (GY x s[i])))=CN x (s.take (i+1)):=by
 rw[IY (rJ h hi),Ek hi];unfold CN;rw[As];rfl
theorem XQ{x:List Rl}{s:List Sl}(h:s.Pairwise Vi){p:ByteArray}{y:Sl}(hy:B2 s p=some y):(Value.string p,AV.agg (AF (GY x y)))∈CN x s/\∀b,(Value.string p,b)∈CN x s->b=AV.agg (AF (GY x y)):=by
 have h1:=DP hy;have e1:y.path=p:=AK h1;refine⟨Ai.2 ⟨y,BF hy,by rw[<-e1]⟩,fun b hb=>?_⟩;obtain⟨t,ht,e⟩:=Ai.1 hb;have e2:t.path=p:=by injection e with e1;injection e1
 have e3:AV.agg (AF (GY x t))=b:=by injection e
 have e4:B2 s p=some t:=by unfold B2;rw[<-e2];exact Kd (RE ocP h) ht
 rw[hy]at e4;rw[<-e3,Cq e4]
theorem kg{x:List Rl}{s:List Sl}{p:ByteArray}(h:B2 s p=none):∀b,(Value.string p,b)∉CN x s:=fun b hb=>by
 obtain⟨t,ht,e⟩:=Ai.1 hb;have e2:t.path=p:=by injection e with e1;injection e1
 exact absurd (Ar e2) (DU.1 h t ht)
theorem wt(hs:s.Pairwise Vi)(hy:B2 s q.path=some y)(hq:B8 q.set):PC 129 [.cmap Cr (CN x s),.agg (A8 q)] (vb (has q.set (plc (GY x y).ver))):=by
 refine Ps (pC [3] []) Tryz.func129 rfl (Nz rfl) (Yi (fun a ha=>?_) (fun Ob=>absurd (XQ hs hy).1 (Ob _)));have ea:=(XQ hs hy).2 a ha;subst ea;refine yN (yN (Xi .pure (Xi _ (Yi (wA (GY x y).ver) (BN (Bt (has q.set (plc (GY x y).ver))) (fun h1=>?_) (fun h1=>?_))))))
 .have h1:(has q.set (plc (GY x y).ver))=true:=h1;refine Xi .pure (Xi _ (Yi (cb h1 (lx q.set (plc (GY x y).ver) hq)) ?_));exact CY.of_eq (Aa vb h1.symm)
 have h1:(has q.set (plc (GY x y).ver))=false:=h1;refine Xi .pure (Xi _ (Yi (cb h1 (lx q.set (plc (GY x y).ver) hq)) ?_));exact CY.of_eq (Aa vb h1.symm)
theorem wq(hy:B2 s q.path=none)(_hq:B8 q.set):PC 129 [.cmap Cr (CN x s),.agg (A8 q)] (vb false):=by
 refine Ps (pC [3] []) Tryz.func129 rfl (Nz rfl) (Yi (fun a ha=>absurd ha (kg hy a)) (fun _=>?_));refine yN (yN (Xi .pure (Xi _ (Yi (wA ⟨0,0,0⟩) ?_))));exact .refl _
theorem tp(hs:s.Pairwise Vi)(hq:B8 q.set):PC 129 [.cmap Cr (CN x s),.agg (A8 q)] (vb (QR x s q)):=by
 cases e:B2 s q.path with
 |some y=>rw[QR,e];exact wt x s q y hs e hq
 |none=>rw[QR,e];exact wq x s q e hq
theorem gW(hs:s.Pairwise Vi)(hq:B8 q.set):PC 128 [.agg (A8 q),.cptr [.cmap Cr (CN x s)]] (vb (!QR x s q)):=by
 refine Ps Ej Tryz.func128 rfl (Nz rfl) (yN (BN (Bt (QR x s q)) (fun h1=>?_) (fun h1=>?_)))
 .have h1:(QR x s q)=true:=h1;refine Xi .pure (Xi _ (Yi (cb h1 (tp x s q hs hq)) ?_));exact CY.of_eq (Aa vb (show false=!QR x s q by rw[h1];rfl))
 have h1:(QR x s q)=false:=h1;refine Xi .pure (Xi _ (Yi (cb h1 (tp x s q hs hq)) ?_));exact CY.of_eq (Aa vb (show true=!QR x s q by rw[h1];rfl))
def nw:AV:=if OA x s=0 then .tup [.cmap Cr (CN x s),vi 0]else .tup [.v (.map none),vi (OA x s)]
theorem qF{s:List Sl}(h:∀j (hj:j<s.length),0<j->j<i->Ef (s[j-1]' ch).path s[j].path=true)(hi:s.length<=i):E3 s=true:=
 (Ki s).2 fun j hj h0=>h j hj h0 ch
theorem qG{s:List Sl}(hi:i<s.length)(h0:0<i)(h:Ef (s[i-1]' ch).path s[i].path=false):¬E3 s=true:=fun e=>by
 have q:=(Ki s).1 e i hi h0;rw[h]at q;cases q
theorem kW{x:List Rl}{s:List Sl}(h:∀j (hj:j<s.length),j<i->(Dh x s[j]).isSome=true)(hi:s.length<=i):s.all (fun y=>(Dh x y).isSome)=true:=by
 rw[AZ];intro y hy;obtain⟨j,hj,rfl⟩:=BU.1 hy;exact h j hj ch
theorem pI{x:List Rl}{s:List Sl}(hi:i<s.length)(h:Dh x s[i]=none):¬s.all (fun y=>(Dh x y).isSome)=true:=fun e=>by
 have q:=AZ.1 e _ (Al hi);rw[h]at q;cases q
theorem Aa9(hx:∀r∈x,En r)(hl:B8 s):PC 126 [.agg (Ic x ifs),sl Ae s] (nw x s):=by
 have hl:s.length<=1073741824:=hl;refine Ps ⟨[2],[],[],[],[33],[],[],[],[],[],[5,7,13]⟩ Tryz.func126 rfl (Nz rfl) (yN (Xi .pure (Xi _ (Yi (wI Wm x ifs hx) (Yi (fun h1=>?_) (fun h1=>?_))))))
 .have h1:((A6 x):Int)≠(0:Int):=h1;exact CY.of_eq (show AV.tup [.v (.map none),vi 1]=nw x s by rw[nw,OA,Aj h1,Aj Cl])
 have h1:((A6 x):Int)=(0:Int):=AJ h1;refine Xi {q:Nat // 1<=q/\(q<=s.length\/q=1)/\∀j (hj:j<s.length),0<j->j<q->Ef (s[j-1]' ch).path s[j].path=true} (Xi (fun q=>⟨[(1,sl Ae s),(2,.ref 2 0),(6,vi q.1)],[(2,.ro (Ic x ifs))],Af⟩) (Xi (fun q=>s.length+1-q.1) (Yi (Xi ⟨1,Ak _,.inr rfl,fun j hj h0 h1=>absurd h0 ch⟩ ?_) ?_)))
 .exact⟨Z3,Z1,Fh,Tv⟩
 intro⟨i,i1,i2,i3⟩;have i1:1<=i:=i1;have i2:i<=s.length\/i=1:=i2;have i3:∀j (hj:j<s.length),0<j->j<i->Ef (s[j-1]' ch).path s[j].path=true:=i3;refine Yi (fun h3=>?_) (fun h3=>?_)
 .have h3:(i:Int)<((s.map Ae).length:Int):=h3;have n3:=EE h3;refine Yi (by show Ba ((i:Int)-(1:Int));unfold Ba;omega) (Xi (Ae (s[i-1]' ch)) (Yi (Yi (show(0:Int)<=(i:Int)-1 by omega) (by rw[show((i:Int)-1).toNat=i-1 by omega];exact Ed (Ge ch))) (Yi rfl ?_)));refine Xi (Ae s[i]) (Yi (IU n3) (Yi rfl (Yi (fun h4=>?_) (fun h4=>?_))))
  .have h4:Ef (s[i-1]' ch).path s[i].path=false:=(Gk _ _).trans h4;refine Yi Wk (cU [] [] Tv Tv ?_)
   exact CY.of_eq (show AV.tup [.v (.map none),vi 1]=nw x s by rw[nw,OA,Ao h1,Aj (qG n3 ch h4),Aj Cl])
  have h4:Ef (s[i-1]' ch).path s[i].path=true:=(Gk _ _).trans (by simpa using h4);refine Yi Wk (cU [(1,sl Ae s),(2,.ref 2 0),(6,vi i)] [(2,.ro (Ic x ifs))] Z3 Z1 (Yi (Ii i ch) (Xi ⟨i+1,by omega,.inl ch,fun j hj h0 h1=>by rcases B4 j i with h2 | h2;exact i3 j hj h0 h2;have e:j=i:=ch;subst e;exact h4⟩ ?_)));exact⟨by show s.length+1-(i+1)<s.length+1-i;omega,Z3,Z1,Fh,Tv⟩
 have h3:¬((i:Int)<((s.map Ae).length:Int)):=h3;have n3:=Dd h3;have jc:E3 s=true:=qF i3 (A3 (Dd h3));refine Xi {q:Nat // q<=s.length/\∀j (hj:j<s.length),j<q->(Dh x s[j]).isSome=true} (Xi (fun q=>⟨[(2,.ref 2 0),(7,.mref 33),(34,sl Ae s),(35,vi (s.map Ae).length),(36,vi q.1)],[(2,.ro (Ic x ifs)),(33,.map Cr (CN x (s.take q.1)))],Af⟩) (Xi (fun q=>s.length-q.1) (Yi (Xi ⟨0,AA _,fun j hj h1=>absurd h1 ch⟩ ?_) ?_)))
 .exact⟨Z5,Z2,Fh,Tv⟩
 intro⟨k,k1,k2⟩;have k1:k<=s.length:=k1;have k2:∀j (hj:j<s.length),j<k->(Dh x s[j]).isSome=true:=k2;refine Yi (fun h7=>?_) (fun h7=>?_)
 .have h7:(k:Int)<((s.map Ae).length:Int):=h7;have n7:=EE h7;refine Xi (Ae s[k]) (Yi (IU n7) (Yi rfl (yN (yN (yN (yN (BN (jM (Dh x ⟨s[k].path,s[k].ver⟩)) (fun h8=>?_) (fun h8=>?_))))))))
  .refine CR h8 (fun r h8=>?_);have yf:=c53 x ifs s[k].path s[k].ver (c84 x ifs hx) hx;rw[h8]at yf;refine Xi .pure (Xi _ (Yi yf (yN (cU [(2,.ref 2 0),(7,.mref 33),(9,.ref 9 0),(10,.ref 10 0),(11,vb true),(34,sl Ae s),(35,vi (s.map Ae).length),(36,vi k)] [(2,.ro (Ic x ifs)),(9,.cells (Ae s[k])),(10,.cells (AF r)),(33,.map Cr (CN x (s.take k)))] Z8 Z4 (yN (Yi (Ii k ch) (Xi ⟨k+1,n7,fun j hj h1=>by rcases B4 j k with h2 | h2;exact k2 j hj h2;have e:j=k:=ch;subst e;rw[show Dh x s[j]=some r from h8];rfl⟩ ?_)))))));exact⟨Dl s.length k ch,Z5,⟨Zr,⟨(show HO.map Cr (E4 (CN x (s.take k)) (.string s[k].path) (.agg (AF r)))=.map Cr (CN x (s.take (k+1)))from Aa (HO.map Cr) (by rw[<-kf (It jc) n7,GY,show Dh x s[k]=some r from h8];rfl)),rfl⟩,Tv⟩,Fh,Tv⟩
  have yf:=c53 x ifs s[k].path s[k].ver (c84 x ifs hx) hx;rw[h8]at yf;refine Xi .pure (Xi _ (Yi yf (yN (cU [(2,.ref 2 0),(7,.mref 33),(9,.ref 9 0),(10,.ref 10 0),(11,vb false),(34,sl Ae s),(35,vi (s.map Ae).length),(36,vi k)] [(2,.ro (Ic x ifs)),(9,.cells (Ae s[k])),(10,.cells [vs ⟨#[]⟩,vi 0,vi 0,vi 0,nzA,vs ⟨#[]⟩,vs ⟨#[]⟩,vs ⟨#[]⟩,vb false]),(33,.map Cr (CN x (s.take k)))] Z8 Z4 ?_))))
  exact CY.of_eq (show AV.tup [.v (.map none),vi 6]=nw x s by rw[nw,OA,Ao h1,Ao jc,Aj (pI n7 h8),Aj Cl])
 have h7:¬((k:Int)<((s.map Ae).length:Int)):=h7;have n7:=Dd h7;have ee:s.take k=s:=At (A3 (Dd h7));exact CY.of_eq (show AV.tup [.cmap Cr (CN x (s.take k)),vi 0]=nw x s by rw[ee,nw,OA,Ao h1,Ao jc,Ao (kW k2 (A3 (Dd h7))),Ao rfl])
theorem AeJ(hs:Db caps)(l:List (Rq))(p:Rq->Bool)(hF:∀x∈l,PC fF ([.agg (A8 x)]++caps) (vb (p x)))(hl:l.length<9223372036854775807) :
  PC 180 [sl A8 l,.clo fF caps] (vi (JI p l 0)):=by
 refine Ps Ej Tryz.func180 rfl (Nz rfl) (Xi {i:Nat // i<=l.length/\∀j (hj:j<l.length),j<i->p l[j]=false} (Xi (fun i=>⟨[(0,sl A8 l),(1,.clo fF caps),(7,vi (l.map A8).length),(8,vi i.1)],[],Af⟩) (Xi (fun i=>l.length-i.1) (Yi (Xi ⟨0,by simp⟩ ?_) ?_))))
 .exact⟨⟨Zr,⟨rfl,hs.ids _⟩,Zr,Zr,Tv⟩,Tv,Fh,Tv⟩
 .intro⟨i,h1,h2⟩;refine Yi ?_ ?_
  .intro h;have h:i<l.length:=by simpa using h
   have hg:l[i]?=some l[i]:=Ge h;refine Xi (A8 l[i]) (Yi (Yi (Nn i) (by simp[hg])) (Yi rfl (yN ?_)));have Cg:∀h,PC fF ([.agg (A8 l[i])]++caps.map (str0 h)) (vb (p l[i])):=fun h=>by rw[hs.map];exact hF l[i] (Al _)
   cases hp:p l[i]with
   |true=>
    rw[hp]at Cg;refine Xi .pure (Xi (vb true) (Yi (Cg _) ?_));rw[HM h (fun j hj IG=>h2 j hj IG) hp,EC];exact .refl _
   |false=>
    rw[hp]at Cg;refine Xi .pure (Xi (vb false) (Yi (Cg _) (Yi (Ii i ch) (Xi ⟨i+1,by omega,fun j hj IG=>?_⟩ ?_))))
    .by_cases e:j=i
     .subst e;exact hp
     .exact h2 j hj ch
    .exact⟨Dl l.length i ch,⟨Zr,⟨rfl,hs.ids _⟩,Zr,Zr,Tv⟩,Tv,Fh,Tv⟩
  .intro h;have h:¬i<l.length:=by simpa using h
   rw[Gt fun j hj=>h2 j hj ch];exact .refl _
theorem z127(hs:Db caps)(l:List (Rq))(p:Rq->Bool)(hF:∀x∈l,PC fF ([.agg (A8 x)]++caps) (vb (p x)))(hl:B8 l) :
  PC 127 [sl A8 l,.clo fF caps] (vb (l.any p)):=by
 refine Ps Ej Tryz.func127 rfl (Nz rfl) ?_;have hi:=AeJ hs l p hF (by unfold B8 at hl;omega);have Cg:∀h,PC 180 [sl A8 l,.clo fF (caps.map (str0 h))] (vi (JI p l 0)):=fun h=>by rw[hs.map];exact hi
 refine Xi .pure (Xi _ (Yi (Cg _) ?_));have ha:=HG (p:=p) l 0 (Bn 0);refine Yi ?_ ?_
 .intro h;rw[<-ha,Ar h];exact .refl _
 .intro h;rw[<-ha,Av h];exact .refl _
theorem z131(hs:Db caps)(l:List (ByteArray))(p:ByteArray->Bool)(hF:∀x∈l,PC fF ([vs x]++caps) (vb (p x)))(hl:l.length<9223372036854775807) :
  PC 131 [sl Ax l,.clo fF caps] (vi (JI p l 0)):=by
 refine Ps Ej Tryz.func131 rfl (Nz rfl) (Xi {i:Nat // i<=l.length/\∀j (hj:j<l.length),j<i->p l[j]=false} (Xi (fun i=>⟨[(0,sl Ax l),(1,.clo fF caps),(7,vi (l.map Ax).length),(8,vi i.1)],[],Af⟩) (Xi (fun i=>l.length-i.1) (Yi (Xi ⟨0,by simp⟩ ?_) ?_))))
 .exact⟨⟨Zr,⟨rfl,hs.ids _⟩,Zr,Zr,Tv⟩,Tv,Fh,Tv⟩
 .intro⟨i,h1,h2⟩;refine Yi ?_ ?_
  .intro h;have h:i<l.length:=by simpa using h
   have hg:l[i]?=some l[i]:=Ge h;refine Xi (Ax l[i]) (Yi (Yi (Nn i) (by simp[hg])) (Yi rfl ?_));have Cg:∀h,PC fF ([vs l[i]]++caps.map (str0 h)) (vb (p l[i])):=fun h=>by rw[hs.map];exact hF l[i] (Al _)
   cases hp:p l[i]with
   |true=>
    rw[hp]at Cg;refine Xi .pure (Xi (vb true) (Yi (Cg _) ?_));rw[HM h (fun j hj IG=>h2 j hj IG) hp,EC];exact .refl _
   |false=>
    rw[hp]at Cg;refine Xi .pure (Xi (vb false) (Yi (Cg _) (Yi (Ii i ch) (Xi ⟨i+1,by omega,fun j hj IG=>?_⟩ ?_))))
    .by_cases e:j=i
     .subst e;exact hp
     .exact h2 j hj ch
    .exact⟨Dl l.length i ch,⟨Zr,⟨rfl,hs.ids _⟩,Zr,Zr,Tv⟩,Tv,Fh,Tv⟩
  .intro h;have h:¬i<l.length:=by simpa using h
   rw[Gt fun j hj=>h2 j hj ch];exact .refl _
theorem z74(hs:Db caps)(l:List (ByteArray))(p:ByteArray->Bool)(hF:∀x∈l,PC fF ([vs x]++caps) (vb (p x)))(hl:B8 l) :
  PC 74 [sl Ax l,.clo fF caps] (vb (l.any p)):=by
 refine Ps Ej Tryz.func74 rfl (Nz rfl) ?_;have hi:=z131 hs l p hF (by unfold B8 at hl;omega);have Cg:∀h,PC 131 [sl Ax l,.clo fF (caps.map (str0 h))] (vi (JI p l 0)):=fun h=>by rw[hs.map];exact hi
 refine Xi .pure (Xi _ (Yi (Cg _) ?_));have ha:=HG (p:=p) l 0 (Bn 0);refine Yi ?_ ?_
 .intro h;rw[<-ha,Ar h];exact .refl _
 .intro h;rw[<-ha,Av h];exact .refl _
theorem jD{x:List Rl}{l:List Sl}{kv:Value×AV}{Mo : List (Value×AV)}(h:(l.map (XP x)).Perm (kv::Mo)):∃t r,kv=XP x t/\Mo=r.map (XP x)/\l.Perm (t::r):=by
 obtain⟨ps,h1,h2⟩:=KU h l rfl;cases ps with
 |nil=>cases h2
 |cons t r=>
  rw[AL,Ff]at h2;exact⟨t,r,h2.1.symm,h2.2.symm,h1.symm⟩
def JF:AV:=if ER x s=0 then .tup [.cmap Cr (CN x s),vi 0]else .tup [.v (.map none),vi (ER x s)]
def iK:Bool:=(GY x y).reqs.all (QR x s)
theorem eZ{α:Type}(p:α->Bool)(l:List α):l.any (fun q=>!p q)=!l.all p:=by
 induction l with
 |nil=>rfl
 |cons a l ih=>rw[Cj,List.all_cons,ih,Bool.not_and]
theorem ZW{x:List Rl}{s d:List Sl}(h:d.Perm s)(k:∀y∈d,iK x s y=true):cP x s=true:=AZ.2 fun y hy=>k y (h.mem_iff.2 hy)
theorem cQ{x:List Rl}{s d r:List Sl}{y:Sl}(h:(d++y::r).Perm s)(k:iK x s y=false):¬cP x s=true:=fun e=>by
 have q:=AZ.1 e y (h.mem_iff.1 (AP.2 (.inr (Ab ..))));rw[show(GY x y).reqs.all (QR x s)=false from k]at q;cases q
theorem Vs{x:List Rl}{s:List Sl}(h:OA x s=0):A6 x=0:=by
 unfold OA at h;split at h
 .assumption
 .cases h
theorem Zc{x:List Rl}{s:List Sl}(h:OA x s=0){y:Sl}(hy:y∈s):GY x y∈x:=by
 unfold OA at h;split at h
 .split at h
  .split at h
   .rename_i h0 _ h1;have q:=AZ.1 h1 y hy;unfold GY;cases e:Dh x y with
    |none=>rw[e]at q;cases q
    |some r=>
     unfold Dh at e;rw[Aj ch]at e;exact BF e
   .cases h
  .cases h
 .cases h
theorem rX(hx:∀r∈x,En r)(hl:B8 s)(h0:¬OA x s=0):PC 72 [.agg (Ic x ifs),sl Ae s] (JF x s):=by
 refine Ps (pC [2,6] []) Tryz.func72 rfl (Nz rfl) (yN (Xi .pure (Xi _ (Yi (by have q:=Aa9 x ifs s hx hl;rw[nw,Aj h0]at q;exact q) ?_))));refine yN (Yi (fun h1=>?_) (fun h1=>?_))
 .exact CY.of_eq (show AV.tup [.v (.map none),vi (OA x s)]=JF x s by rw[JF,ER,Aj h0,Aj h0])
 have h1:((OA x s):Int)=(0:Int):=AJ h1;exact absurd h1 h0
theorem rY(hx:∀r∈x,En r)(hl:B8 s)(h0:OA x s=0)(jc:E3 s=true):PC 72 [.agg (Ic x ifs),sl Ae s] (JF x s):=by
 refine Ps (pC [2,6] []) Tryz.func72 rfl (Nz rfl) (yN (Xi .pure (Xi _ (Yi (by have q:=Aa9 x ifs s hx hl;rw[nw,Ao h0]at q;exact q) ?_))));refine yN (Yi (fun h=>absurd h Cl) (fun _=>?_));refine Xi {q:List Sl×List Sl×Option (Value×AV) // (q.1++q.2.1).Perm s/\∀y∈q.1,iK x s y=true} (Xi (fun q=>⟨[(6,.ref 6 0),(20,.ref 20 0)],[(6,.ro [.cmap Cr (CN x s)]),(20,.iter (CN x s) (q.1.2.1.map (XP x)) q.1.2.2)],Af⟩) (Xi (fun q=>q.1.2.1.length) (Yi (Xi ⟨([],s,none),.refl _,fun _ h=>by cases h⟩ ?_) ?_)))
 .exact⟨Z2,Z2,Fh,Tv⟩
 intro⟨⟨dn,rem,EI⟩,r1,r2⟩;refine Yi ?_ ?_
 .intro hr;have hr:rem=[]:=DJ.1 hr;rw[hr,BM]at r1;exact CY.of_eq (show AV.tup [.cmap Cr (CN x s),vi 0]=JF x s by rw[JF,ER,Ao h0,Ao (ZW r1 r2),Ao rfl])
 intro kv Mo hp;refine CR (jD hp) (fun y hp=>CR hp (fun r hp=>?_));have e1:=hp.1;have e2:=hp.2.1;subst e1;subst e2;have hp:=hp.2.2;have hy:y∈s:=r1.mem_iff.1 (AP.2 (.inr (hp.mem_iff.2 (Ab ..))));refine yN (BN (Bt (!iK x s y)) (fun h2=>?_) (fun h2=>?_))
 .refine Xi .pure (Xi _ (Yi (cb h2 (show PC 127 [sl A8 (GY x y).reqs,.clo 128 [.cptr [.cmap Cr (CN x s)]]] (vb (!iK x s y))from by have q:=z127 (fF:=128) (caps:=[.cptr [.cmap Cr (CN x s)]]) (Db.ptr _) (GY x y).reqs (fun q=>!QR x s q) (fun q hq=>gW x s q (It jc) ((hx _ (Zc h0 hy)).2 q hq).1) (AG ((Mi (Vs h0)).2 _ (Zc h0 hy)) Cl);rw[eZ]at q;exact q)) ?_));exact CY.of_eq (show AV.tup [.v (.map none),vi 17]=JF x s by rw[JF,ER,Ao h0,Aj (cQ (y:=y) (d:=dn) (r:=r) ((II _ hp.symm).trans r1) (by simpa using h2)),Aj Cl])
 refine Xi .pure (Xi _ (Yi (cb h2 (show PC 127 [sl A8 (GY x y).reqs,.clo 128 [.cptr [.cmap Cr (CN x s)]]] (vb (!iK x s y))from by have q:=z127 (fF:=128) (caps:=[.cptr [.cmap Cr (CN x s)]]) (Db.ptr _) (GY x y).reqs (fun q=>!QR x s q) (fun q hq=>gW x s q (It jc) ((hx _ (Zc h0 hy)).2 q hq).1) (AG ((Mi (Vs h0)).2 _ (Zc h0 hy)) Cl);rw[eZ]at q;exact q)) ?_));refine Xi ⟨(dn++[y],r,some (XP x y)),by rw[BB];exact(II _ hp.symm).trans r1,fun z hz=>by rcases AP.1 hz with h | h;exact r2 z h;rw[Aq.1 h];exact(by simpa using h2)⟩ ?_;exact⟨by show r.length<rem.length;rw[hp.length_eq];exact Gj _,Z2,Z2,Fh,Tv⟩
theorem Kn{x:List Rl}{s:List Sl}(h:OA x s=0):E3 s=true:=by
 unfold OA at h;split at h
 .split at h
  .assumption
  .cases h
 .cases h
theorem Pp(hx:∀r∈x,En r)(hl:B8 s):PC 72 [HH x ifs,sl Ae s] (JF x s):=by
 by_cases h:OA x s=0
 .exact rY x ifs s hx hl h (Kn h)
 .exact rX x ifs s hx hl h
theorem Aaj{x:List Rl}(h:ph x [])(ifs:List (List AV)):PC 26 [HH x ifs,nzA] (vb (G0 x 16)):=by
 have q:=(h.c11 ifs).args (args':=[HH x ifs,nzA]) ⟨.refl _,.nil,trivial⟩;rw[show(G0 x 16&&Hc [])=G0 x 16 by rw[show Hc []=true by decide,Bool.and_true]]at q;exact q
theorem eh{x:List Rl}(h:G0 x 16=true):x.length<=16:=by
 unfold G0 at h;simp only[Ag,AD]at h;omega
theorem YH{x:List Rl}(roots:List Rq)(hx:x.length<=16):B8 (EM x roots):=by
 by_cases h:KF x roots=0
 .have:=(QU h).2.1
  show _<=1073741824;omega
 .unfold EM;rw[Aj h];exact AA _
theorem Aah  : PC 220 [nzA,vi 0,vi 0] (.tup []):=by
 refine Ps Ej Tryz.func220 rfl (Nz rfl) (Yi (Ii 0 ch) (Xi {q:Nat // q=0} (Xi (fun q=>⟨[(0,nzA),(1,vi 0),(2,vi 0),(6,vi (0+1))],[],Af⟩) (Xi (fun q=>q.1) (Yi (Xi ⟨0,rfl⟩ ?_) ?_)))))
 .exact⟨Z4,Tv,Fh,Tv⟩
 intro⟨i,i1⟩;refine Yi (fun h1=>?_) (fun h1=>?_)
 .exact absurd h1 Cl
 exact .refl _
theorem Aag:PC 160 [nzA,vi 0,vi 0,vi lim] (.tup []):=by
 refine Ps Ej Tryz.func160 rfl (Nz rfl) (Xi {q:Nat // q=0} (Xi (fun q=>⟨[(0,nzA),(1,vi 0),(2,vi 0),(3,vi lim),(8,vb true),(9,vb true)],[],Af⟩) (Xi (fun q=>q.1) (Yi (Xi ⟨0,rfl⟩ ?_) ?_))))
 .exact⟨Z6,Tv,Fh,Tv⟩
 intro⟨i,i1⟩;refine Yi (by show Ba ((0:Int)-(0:Int));unfold Ba;omega) (Yi (fun h1=>?_) (fun h1=>?_))
 .refine Xi .pure (Xi _ (Yi Aah ?_));exact .refl _
 exact absurd Cl h1
theorem Aai(hb:PC 161 [.v (.int .u64 (IntKind.u64.wrap (0:Int)))] (vi lim)):PC 99 [nzA] (.tup []):=by
 refine Ps Ej Tryz.func99 rfl (Nz rfl) (Xi .pure (Xi _ (Yi hb (Xi .pure (Xi _ (Yi (Aag lim) ?_))))));exact .refl _
theorem AeH  : PC 183 [nzA] nzA:=by
 refine Ps Ej Tryz.func183 rfl (Nz rfl) (Yi (fun _=>?_) (fun h=>absurd Cl h));exact .refl _
theorem XN:IL []:=⟨show 0<=1073741824 by decide,Cy _,List.Pairwise.nil⟩
theorem AeG(hs:PC 99 [nzA] (.tup [])):PC 130 [sl Ae ([]:List Sl),sl Ae ([]:List Sl)] (.tup [nzA,vi 0]):=by
 refine Ps ⟨[],[],[],[(34,[12000,12500])],[],[],[],[],[],[],[1,2,3,4,5,6,8,9,10,11,12,13,14,16,17,18,19,20,21]⟩ Tryz.func130 rfl (Nz rfl) (cU [(0,sl Ae ([]:List Sl)),(1,sl Ae ([]:List Sl))] [] Z2 Tv (Xi (.gen [] 1) (Yi rfl (Bc.to2 (re [] XN) ?_))));refine cU [(0,sl Ae ([]:List Sl)),(1,sl Ae ([]:List Sl)),(6,.mref 12000),(7,vb true)] [(12000,.map Cr (Ie []))] Z4 Z1 (Xi (.gen [] 1) (Yi rfl (Bc.to2 (re [] XN) ?_)));refine cU [(0,sl Ae ([]:List Sl)),(1,sl Ae ([]:List Sl)),(6,.mref 12000),(7,vb true),(8,.mref 12500),(9,vb true)] [(12000,.map Cr (Ie [])),(12500,.map Cr (Ie []))] Z6 Z2 (cU [(0,sl Ae ([]:List Sl)),(1,sl Ae ([]:List Sl)),(6,.mref 12000),(8,.mref 12500)] [(12000,.map Cr (Ie [])),(12500,.map Cr (Ie []))] Z4 Z2 (cU [(0,sl Ae ([]:List Sl)),(1,sl Ae ([]:List Sl)),(6,.mref 12000),(8,.mref 12500),(10,nzA)] [(12000,.map Cr (Ie [])),(12500,.map Cr (Ie []))] Z5 Z2 (Xi (.gen [] 1) (Yi rfl (Bc.to2 (uh ([]:List Sl) (show 0<=1073741824 by decide)) ?_)))));have b2:Cf 4 (([]:List Sl).map Ae)/\(([]:List Sl).map Ae).length=(([]:List Sl).map Ae).length/\((([]:List Sl).map Ae).length+(([]:List Sl).map Ae).length)*40<=140737488355328/\(([]:List Sl).map Ae).length+(([]:List Sl).map Ae).length<=9223372036854775807:=⟨(DK (enc:=Ae) (n:=4) (fun _=>rfl) ([]:List Sl)),rfl,(by simp only[Lm,Au];omega),(by simp only[Lm,Au];omega)⟩;refine Yi b2 (Xi {q:Nat // q=0} (Xi (fun q=>⟨[(6,.mref 12000),(8,.mref 12500),(10,nzA),(37,.slice (.id 13500 4) ((([]:List Sl).map Ae)++(([]:List Sl).map Ae))),(38,vi (((([]:List Sl).map Ae)++(([]:List Sl).map Ae)):List (List AV)).length),(39,vi q.1)],[(12000,.rom Cr (Ie [])),(12500,.rom Cr (Ie [])),(13500,.tok 4 ((([]:List Sl).map Ae).length+(([]:List Sl).map Ae).length))],Af⟩) (Xi (fun q=>q.1) (Yi (Xi ⟨0,rfl⟩ ?_) ?_))))
 .exact⟨Z6,Z3,Fh,Tv⟩
 intro⟨i,i1⟩;refine Yi (fun h3=>?_) (fun h3=>?_)
 .exact absurd h3 (by show ¬((i:Int)<0);omega)
 refine cU [(6,.mref 12000),(8,.mref 12500),(10,nzA)] [(12000,.rom Cr (Ie [])),(12500,.rom Cr (Ie []))] Z3 Z2 (Xi .pure (Xi _ (Yi hs (cU [(6,.mref 12000),(8,.mref 12500),(10,nzA)] [(12000,.rom Cr (Ie [])),(12500,.rom Cr (Ie []))] Z3 Z2 (cU [(6,.mref 12000),(8,.mref 12500),(10,nzA),(13,.v (.func (.func 182) #[] #[]))] [(12000,.rom Cr (Ie [])),(12500,.rom Cr (Ie []))] Z4 Z2 (cU [(6,.mref 12000),(8,.mref 12500),(10,nzA),(13,.v (.func (.func 182) #[] #[])),(14,nzA)] [(12000,.rom Cr (Ie [])),(12500,.rom Cr (Ie []))] Z5 Z2 (Xi .pure (Xi _ (Yi AeH (Xi {q:Nat // q=0} (Xi (fun q=>⟨[(6,.mref 12000),(8,.mref 12500),(13,.v (.func (.func 182) #[] #[])),(14,nzA),(52,nzA),(53,vi 0),(54,vi q.1)],[(12000,.rom Cr (Ie [])),(12500,.rom Cr (Ie []))],Af⟩) (Xi (fun q=>q.1) (Yi (Xi ⟨0,rfl⟩ ?_) ?_)))))))))))))
 .exact⟨Z7,Z2,Fh,Tv⟩
 intro⟨i,i1⟩;refine Yi (fun h4=>?_) (fun h4=>?_)
 .exact absurd h4 (by show ¬((i:Int)<0);omega)
 refine cU [(14,nzA)] [] Z1 Tv ?_
 exact .refl _
theorem QW(p:List ByteArray):∃t:List ByteArray,t.Perm p/\(t.map KJ).Pairwise fun a b=>a<=b:=by
 have e:∀q:ByteArray,Sv (KJ q)=q:=fun q=>by cases q;simp
 have e2:∀q:List UInt8,KJ (Sv q)=q:=fun q=>by simp
 refine⟨((p.map KJ).mergeSort fun a b=>decide (a<=b)).map Sv,?_,?_⟩
 .have h:=(Og (p.map KJ) fun a b=>decide (a<=b)).map Sv
  rwa [Br,show(Sv ∘ KJ)=id from funext e,Gc]at h
 .rw[Br,show(KJ ∘ Sv)=id from funext e2,Gc];have h:=KG (le:=fun a b:List UInt8=>decide (a<=b)) (fun a b c h1 h2=>Ar (List.le_trans (AK h1) (AK h2))) (fun a b=>by rcases List.le_total a b with h | h<;>simp[h]) (p.map KJ)
  exact h.imp fun h=>AK h
theorem lK(t:List ByteArray):(Cm t).length<=t.length:=by
 have h:=M0 (t.map KJ);rw[Lm]at h;unfold Cm;rw[Lm];exact h
theorem oc(h:IL l)(k:IL m):(rm l m).length<=l.length+m.length:=by
 obtain⟨t,ht,hs⟩:=QW ((l++m).map (·.path));rw[<-bo h k ht hs];refine AG (List.length_filterMap_le ..) (AG (lK t) ?_);rw[ht.length_eq,Lm,Ac];exact Ak _
theorem Adw(hl:IL l)(hm2:IL m)(h1:l.length<=16)(h2:m.length<=16):PC 130 [sl Ae l,sl Ae m] (.tup [sl Hz (rm l m),vi 0]):=by
 obtain⟨t,ht,hs⟩:=QW ((l++m).map (·.path))
 by_cases e:l++m=[]
 .obtain⟨rfl,rfl⟩:=List.append_eq_nil_iff.1 e;obtain⟨lim,_,hb⟩:=lr 0 (AA _);have q:=AeG (Aai lim hb);rw[show rm [] []=[] by rw[rm]];exact Bc.mono q fun r h' ⟨e1,e2⟩=>⟨.tup [sl Hz [],vi 0],by rw[e1];exact .tup ⟨.nil,.refl _,trivial⟩,rfl,e2⟩
 .rw[<-bo hl hm2 ht hs];exact o75 l m t hl hm2 ch e ht hs
theorem GQ{x:List Rl}{s:List Sl}(h:OA x s=0)(hl:B8 s):IL s:=by
 refine⟨hl,fun y hy=>?_,It (Kn h)⟩;have q:(Dh x y).isSome=true:=by
  have q:=h;unfold OA at q;rw[Ao (Vs h),Ao (Kn h)]at q;split at q
  .rename_i h1;exact AZ.1 h1 y hy
  .cases q
 cases e:Dh x y with
 |none=>rw[e]at q;cases q
 |some r=>
  unfold Dh at e;rw[Aj (fun c=>c (Vs h))]at e;have e1:Gn r=y:=AK (DP (p:=fun r=>decide (Gn r=y)) e);rw[<-e1];exact((CC (Vs h)).1 r (BF e)).val
theorem NN{x:List Rl}{s:List Sl}(h:ER x s=0):OA x s=0:=by
 unfold ER at h;split at h
 .assumption
 .exact h
def JJ:List ByteArray:=(rm l m).map (·.path)
def upC:List AV:=[.cmap Cr (CN x l),.cmap Cr (CN x m),sl Ae l,sl Ae m,sl Ax (JJ l m)]
def Q0:Int:=if ER x l=0 then ER x m else ER x l
def eH:AV:=if Q0 x l m=0 then .tup [.cptr (upC x l m),vi 0]else .tup [.v (.pointer none),vi (Q0 x l m)]
theorem rU(hx:∀r∈x,En r)(hl:B8 s)(h0:ER x s=0):PC 34 [.agg (Ic x ifs),sl Ae s] (vi (ER x s)):=by
 refine Ps (pC [2] []) Tryz.func34 rfl (Nz rfl) (yN (Xi .pure (Xi _ (Yi (by have q:=Pp x ifs s hx hl;rw[JF,Ao h0]at q;exact q) ?_))));exact CY.of_eq (Aa vi h0.symm)
theorem rT(hx:∀r∈x,En r)(hl:B8 s)(h0:¬ER x s=0):PC 34 [.agg (Ic x ifs),sl Ae s] (vi (ER x s)):=by
 refine Ps (pC [2] []) Tryz.func34 rfl (Nz rfl) (yN (Xi .pure (Xi _ (Yi (by have q:=Pp x ifs s hx hl;rw[JF,Aj h0]at q;exact q) ?_))));exact .refl _
theorem oP(hx:∀r∈x,En r)(hl:B8 s):PC 34 [HH x ifs,sl Ae s] (vi (ER x s)):=by
 by_cases h:ER x s=0
 .exact rU x ifs s hx hl h
 .exact rT x ifs s hx hl h
theorem Aab(hx:∀r∈x,En r)(hl:B8 l)(_hm_:B8 m)(c1:¬ER x l=0):PC 73 [.agg (Ic x ifs),sl Ae l,sl Ae m] (eH x l m):=by
 refine Ps (pC [3] []) Tryz.func73 rfl (Nz rfl) (yN (Xi .pure (Xi _ (Yi (by have q:=Pp x ifs l hx hl;rw[JF,Aj c1]at q;exact q) ?_))));refine Yi (fun h1=>?_) (fun h1=>?_)
 .have h1:((ER x l):Int)≠(0:Int):=h1;exact CY.of_eq (show AV.tup [.v (.pointer none),vi (ER x l)]=eH x l m by rw[eH,Q0,Aj c1,Aj c1])
 have h1:((ER x l):Int)=(0:Int):=AJ h1;exact absurd h1 c1
theorem Aac(hx:∀r∈x,En r)(hl:B8 l)(SC:B8 m)(c1:ER x l=0)(c2:¬ER x m=0):PC 73 [.agg (Ic x ifs),sl Ae l,sl Ae m] (eH x l m):=by
 refine Ps (pC [3] []) Tryz.func73 rfl (Nz rfl) (yN (Xi .pure (Xi _ (Yi (by have q:=Pp x ifs l hx hl;rw[JF,Ao c1]at q;exact q) ?_))));refine Yi (fun h=>absurd h Cl) (fun _=>?_);refine yN (Xi .pure (Xi _ (Yi (by have q:=Pp x ifs m hx SC;rw[JF,Aj c2]at q;exact q) ?_)));refine Yi (fun h1=>?_) (fun h1=>?_)
 .have h1:((ER x m):Int)≠(0:Int):=h1;exact CY.of_eq (show AV.tup [.v (.pointer none),vi (ER x m)]=eH x l m by rw[eH,Q0,Ao c1,Aj c2])
 have h1:((ER x m):Int)=(0:Int):=AJ h1;exact absurd h1 c2
theorem Aad(hx:∀r∈x,En r)(hl:B8 l)(SC:B8 m)(JS:l.length<=16)(FK:m.length<=16)(c1:ER x l=0)(c2:ER x m=0):PC 73 [.agg (Ic x ifs),sl Ae l,sl Ae m] (eH x l m):=by
 have hrm:(rm l m).length<=1000:=by have q:=oc l m (GQ (NN c1) hl) (GQ (NN c2) SC);omega
 refine Ps ⟨[3],[],[],[],[39],[],[],[(47,(39,4,90,1))],[],[],[3,4,7,9,13]⟩ Tryz.func73 rfl (Nz rfl) (yN (Xi .pure (Xi _ (Yi (by have q:=Pp x ifs l hx hl;rw[JF,Ao c1]at q;exact q) ?_))));refine Yi (fun h=>absurd h Cl) (fun _=>?_);refine cU [(1,sl Ae l),(2,sl Ae m),(3,.ref 3 0),(8,.cmap Cr (CN x l))] [(3,.ro (Ic x ifs))] Z4 Z1 (yN (Xi .pure (Xi _ (Yi (by have q:=Pp x ifs m hx SC;rw[JF,Ao c2]at q;exact q) ?_))));refine Yi (fun h=>absurd h Cl) (fun _=>?_);refine cU [(1,sl Ae l),(2,sl Ae m),(8,.cmap Cr (CN x l)),(10,.cmap Cr (CN x m))] [] Z4 Tv (Xi .pure (Xi _ (Yi (Adw l m (GQ (NN c1) hl) (GQ (NN c2) SC) JS FK) (cU [(11,.ref 39 0),(12,sl Hz (rm l m))] [(39,.cells [.cmap Cr (CN x l),.cmap Cr (CN x m),sl Ae l,sl Ae m,nzA])] Z2 Z1 (Xi {q:Nat // q<=(rm l m).length} (Xi (fun q=>⟨[(11,.ref 39 0),(46,sl Hz (rm l m)),(47,vi ((rm l m).map Hz).length),(48,vi q.1)],[(39,.cells [.cmap Cr (CN x l),.cmap Cr (CN x m),sl Ae l,sl Ae m,.slice (.id 90 1) ((((rm l m).take q.1).map (·.path)).map Ax)]),(90,.tok 1 ((((rm l m).take q.1).map (·.path)).map Ax).length)],Af⟩) (Xi (fun q=>(rm l m).length-q.1) (Yi (Xi ⟨0,AA _⟩ ?_) ?_))))))))
 .exact⟨Z4,Z2,Fh,Tv⟩
 intro⟨i,i1⟩;have i1:i<=(rm l m).length:=i1;refine Yi (fun h1=>?_) (fun h1=>?_)
 .have h1:(i:Int)<(((rm l m).map Hz).length:Int):=h1;have n1:=EE h1;have hq:((rm l m).take i).length<=1000:=by rw[Aw];omega
  refine Xi (Hz ((rm l m)[i])) (Yi (IU n1) (Yi rfl (yN (yN ?_))));have b2:Cf 1 [[vs ((rm l m)[i]).path]]/\((((rm l m).take i).map (·.path)).map Ax).length=((((rm l m).take i).map (·.path)).map Ax).length/\(((((rm l m).take i).map (·.path)).map Ax).length+([[vs ((rm l m)[i]).path]]:List (List AV)).length)*16<=140737488355328/\((((rm l m).take i).map (·.path)).map Ax).length+([[vs ((rm l m)[i]).path]]:List (List AV)).length<=9223372036854775807:=⟨⟨rfl,trivial⟩,rfl,(by simp only[Lm,Am,Au];omega),(by simp only[Lm,Am,Au];omega)⟩;refine Yi b2 (yN (Yi Wk (cU [(11,.ref 39 0),(46,sl Hz (rm l m)),(47,vi ((rm l m).map Hz).length),(48,vi i)] [(39,.cells [.cmap Cr (CN x l),.cmap Cr (CN x m),sl Ae l,sl Ae m,.slice (.id 90 1) (((((rm l m).take i).map (·.path)).map Ax)++[[vs ((rm l m)[i]).path]])]),(90,.tok 1 (((((rm l m).take i).map (·.path)).map Ax).length+([[vs ((rm l m)[i]).path]]:List (List AV)).length))] Z4 Z2 (Yi (Ii i ch) ?_))));have ew:((((rm l m).take i).map (·.path)).map Ax++[[vs (rm l m)[i].path]])=(((rm l m).take (i+1)).map (·.path)).map Ax:=by rw[Ek n1,As,As];rfl
  refine Xi ⟨i+1,n1⟩ ?_;exact⟨by show(rm l m).length-(i+1)<(rm l m).length-i;omega,Z4,⟨⟨(Aa (fun z=>HO.cells [.cmap Cr (CN x l),.cmap Cr (CN x m),sl Ae l,sl Ae m,.slice (.id 90 1) z]) ew),rfl⟩,⟨(show HO.tok 1 (((((rm l m).take i).map (·.path)).map Ax).length+([[vs ((rm l m)[i]).path]]:List (List AV)).length)=.tok 1 ((((rm l m).take (i+1)).map (·.path)).map Ax).length from Aa (HO.tok 1) (Ac.symm.trans (Aa List.length ew))),rfl⟩,Tv⟩,Fh,Tv⟩
 have h1:¬((i:Int)<(((rm l m).map Hz).length:Int)):=h1;have n1:=Dd h1;have ee:(rm l m).take i=rm l m:=At (A3 (Dd h1));exact CY.of_eq (show AV.tup [.cptr [.cmap Cr (CN x l),.cmap Cr (CN x m),sl Ae l,sl Ae m,sl Ax (((rm l m).take i).map (·.path))],vi 0]=eH x l m by rw[ee,eH,show Q0 x l m=0 by rw[Q0,Ao c1];exact c2,Ao rfl];rfl)
theorem o9(hx:∀r∈x,En r)(hl:B8 l)(SC:B8 m)(JS:l.length<=16)(FK:m.length<=16):PC 73 [HH x ifs,sl Ae l,sl Ae m] (eH x l m):=by
 by_cases c1:ER x l=0
 .by_cases c2:ER x m=0
  .exact Aad x ifs l m hx hl SC JS FK c1 c2
  .exact Aac x ifs l m hx hl SC c1 c2
 .exact Aab x ifs l m hx hl SC c1
end Go.Eng
namespace Go.Proofs
open Go.Shelf Go.RowKit Go.Lib Go.Sort Go.Eng
def cfBt(x y:SlA):Int:=if Op.bytesLess x.1.toList y.1.toList=true then -1 else 1
theorem Tryz.closure134:CmpSlG cfBt 134:=fun x y W=>by
 obtain⟨a,⟨b,hb⟩,⟨c,hc⟩,⟨d,hd⟩⟩:=x;obtain⟨a',⟨b',sI⟩,⟨c',uB⟩,⟨d',pk⟩⟩:=y;unfold cfBt;dsimp only;cases hl:Op.bytesLess a.toList a'.toList with
 |true=>
  go_enter Tryz.func134,Tryz.ntmps134
  go_wp2
  all_goals (try simp only[hl]at *)
  all_goals (try go_wp2)
  all_goals (try go_ret)
  all_goals (try exact⟨rfl,0,_,by rw[alloc_eq_grow,alloc_eq_grow,grow_grow];rfl⟩)
 |false=>
  go_enter Tryz.func134,Tryz.ntmps134
  go_wp2
  all_goals (try simp only[hl]at *)
  all_goals (try go_wp2)
  all_goals (try go_ret)
  all_goals (try exact⟨rfl,0,_,by rw[alloc_eq_grow,alloc_eq_grow,grow_grow];rfl⟩)
end Go.Proofs
