/- Lemmas 21. -/
import Derived.Test.YtkjhcikodmiceaaGreatDoorRA20
namespace Go.Eng
open Go.Proofs
variable {α:Type}{f:α->List AV}{l:List Rl}{d:List ByteArray}{roots:List Rq}{O:List α}{p:ByteArray}{i:Nat}{args:List AV}{n:Nat}
theorem QF{x:List Rl}{roots:List Rq}{l0:List Nf}:∀(l:List Nf) (d d' : List (List Tm)),(∀i∈l,i∈l0)->(∀t∈d,Rh (Hu x roots l0) t)->BP x roots l d=some d'->∀t∈d',Rh (Hu x roots l0) t
 | [],d,d',_,hd,h=>by
  have:d=d':=Jc h
  simp_all
 |i::l,d,d',hi,hd,h=>by
  unfold BP at h;cases e:BA x roots d i with
  |none=>simp_all
  |some t=>
   rw[e]at h;refine QF l (d++[t]) d' (fun j hj=>hi j (Ah _ hj)) (fun u hu=>?_) h
   grind [PI,List.mem_cons_self]
theorem Xm{x:List Rl}{l:List Nf}(h:(CK x roots l).2=0):∀t∈(CK x roots l).1,Vz t:=fun t ht=>by
 obtain⟨h1,h2,h3,h4⟩:=Sp h
 have:=(QF (l0:=l) l [] _ (fun _ h=>h) (fun _ h=>by cases h) h4 t ht).fewI (NP h1 h2 h3)
 grind
abbrev uC:Nm:=(pC [7] [2,4,8,10,11,12,13])
theorem c21(x:List Rl)(ifs:List (List AV))(roots:List Rq)(a:An)(SJ:gx x ifs)(h45:vM x ifs roots a.sel)(hx:∀r∈x,IX r)(hr:∀q∈roots,Jz q)(hs:a.sel.length<=500)(hk:Cz a.skips):PC 49 [PK x ifs,sl Af roots,.agg (JT a)] (vi (Hd x roots a)):=by
 obtain⟨found,sel,infs,skips⟩:=a;have dU:=c36 x ifs roots infs hx hr (fun _=>xt x ifs roots SJ);unfold bv at dU;obtain⟨D,hD⟩:∃D,D=Hd x roots ⟨found,sel,infs,skips⟩:=⟨_,rfl⟩;rw[<-hD];unfold Hd at hD
 by_cases he:(CK x roots infs).2=0
 .rw[As he]at dU;rw[AB Wk]at hD;obtain⟨h1,h2,h3,h4⟩:=Sp he;have hdf:=Xm he;have hdl:(CK x roots infs).1.length<=65536:=ZS;obtain⟨d,hd⟩:∃d,d=(CK x roots infs).1:=⟨_,rfl⟩;rw[<-hd]at hD dU hdf hdl;have mp:=c40 x (.slice .none ifs) roots d B0;refine Ps uC Tryz.func49 rfl (Nz rfl) (yN (Xi .pure (Xi _ (Yi (dU) (yN (cU [(1,sl Af roots),(3,.ref 3 0),(5,.ref 5 0),(7,.ref 7 0),(8,vi 0)] [(3,.cells (Ic x ifs)),(5,.cells [vb found,sl Al sel,sl AR infs,sl AJ skips]),(7,.ro [.cptr (Ck x (.slice .none ifs) roots d)])] Z5 Z3 (Yi ?_ ?_)))))))
  .intro h;exact absurd rfl h
  intro _;refine cU [(1,sl Af roots),(3,.ref 3 0),(5,.ref 5 0),(7,.ref 7 0)] [(3,.cells (Ic x ifs)),(5,.cells [vb found,sl Al sel,sl AR infs,sl AJ skips]),(7,.ro [.cptr (Ck x (.slice .none ifs) roots d)])] Z4 Z3 (Yi ?_ ?_)
  .intro hf;have hf:found=true:=hf;have hD:D=if GM x roots sel≠0 then 18 else if(((visits x roots sel).1.foldl (CT x d) (true,skips)).1&&((visits x roots sel).1.foldl (CT x d) (true,skips)).2.isEmpty)then 0 else 18:=by
    simp_all
   refine cU [(1,sl Af roots),(3,.ref 3 0),(5,.ref 5 0),(7,.ref 7 0)] [(3,.cells (Ic x ifs)),(5,.cells [vb found,sl Al sel,sl AR infs,sl AJ skips]),(7,.ro [.cptr (Ck x (.slice .none ifs) roots d)])] Z4 Z3 (yN (Xi .pure (Xi _ (Yi (h45) (Yi ?_ ?_)))))
   .intro hz;have hz:GM x roots sel≠0:=hz;exact .of_eq (Ab vi (show(18:Int)=D by omega))
   intro hz;have hz:¬GM x roots sel≠0:=hz;have hD:D=if(((visits x roots sel).1.foldl (CT x d) (true,skips)).1&&((visits x roots sel).1.foldl (CT x d) (true,skips)).2.isEmpty)then 0 else 18:=B0
   have hcd:=xN x ifs roots d sel (true,skips) SJ h1 hx (by grind [Me]) (fun q hq=>(hr q hq).1) hs hdl hdf;refine cU [(5,.ref 5 0),(7,.ref 7 0)] [(5,.cells [vb found,sl Al sel,sl AR infs,sl AJ skips]),(7,.ro [.cptr (Ck x (.slice .none ifs) roots d)])] Z2 Z2 (yN (cU [(5,.ref 5 0),(7,.ref 7 0),(9,.ref 9 0)] [(5,.cells [vb found,sl Al sel,sl AR infs,sl AJ skips]),(7,.ro [.cptr (Ck x (.slice .none ifs) roots d)]),(9,.cells [vb true])] Z3 Z3 (yN (cU [(5,.ref 5 0),(7,.ref 7 0),(9,.ref 9 0),(10,.ref 10 0)] [(5,.cells [vb found,sl Al sel,sl AR infs,sl AJ skips]),(7,.ro [.cptr (Ck x (.slice .none ifs) roots d)]),(9,.cells [vb true]),(10,.cells [sl AJ skips])] Z4 Z4 (Xi (.gen [(10,1000),(9,1001)] 0) (Yi rfl (hcd.imp ?_)))))));intro v g q;have q1:=q.1;have q2:=q.2;subst q1;subst q2;refine A1 (show ∃A,A=(visits x roots sel).1.foldl (CT x d) (true,skips)from⟨_,rfl⟩) (fun A hA=>?_);refine cU [(9,.ref 9 0),(10,.ref 10 0)] [(9,.cells [vb A.1]),(10,.cells [sl AJ A.2])] Z2 ⟨⟨Ab (fun a:Bool×List Sk=>HO.cells [vb a.1]) hA.symm,rfl⟩,⟨Ab (fun a:Bool×List Sk=>HO.cells [sl AJ a.2]) hA.symm,rfl⟩,Tv⟩ ?_
   rw[<-hA]at hD;refine Yi ?_ ?_
   .intro h5;have h5:A.1=true:=h5;refine Yi ?_ ?_
    .intro h6;have h6:(0:Int)<(A.2.map AJ).length:=h6;have h6:A.2.isEmpty=false:=by
      grind
     exact .of_eq (Ab vi (show(18:Int)=D by simp_all))
    .intro h6;have h6:¬(0:Int)<(A.2.map AJ).length:=h6;have h6:A.2.isEmpty=true:=by
      simp_all
     exact .of_eq (Ab vi (show(0:Int)=D by simp_all))
   .intro h5;have h5:A.1=false:=h5;exact .of_eq (Ab vi (show(18:Int)=D by simp_all))
  .intro hf;have hf:found=false:=hf;have hD:D=if(!sel.isEmpty||!skips.isEmpty||!GG d)then 18 else 0:=by
    simp_all
   refine Yi ?_ ?_
   .intro h5;have h5:(0:Int)<(sel.map Al).length:=h5;have h5:sel.isEmpty=false:=by
     grind
    exact .of_eq (Ab vi (show(18:Int)=D by simp_all))
   intro h5;have h5:¬(0:Int)<(sel.map Al).length:=h5;have h5:sel.isEmpty=true:=by
    simp_all
   refine Yi ?_ ?_
   .intro h6;have h6:(0:Int)<(skips.map AJ).length:=h6;have h6:skips.isEmpty=false:=by
     grind
    exact .of_eq (Ab vi (show(18:Int)=D by simp_all))
   intro h6;have h6:¬(0:Int)<(skips.map AJ).length:=h6;have h6:skips.isEmpty=true:=by
    simp_all
   refine BK (Bt (GG d)) (fun h7=>?_) (fun h7=>?_)
   .rw[h7]at mp;refine Xi .pure (Xi _ (Yi (mp) ?_));exact .of_eq (Ab vi (show(0:Int)=D by simp_all))
   .rw[h7]at mp;refine Xi .pure (Xi _ (Yi (mp) ?_));exact .of_eq (Ab vi (show(18:Int)=D by simp_all))
 .rw[AB he]at dU;rw[As he]at hD;refine Ps uC Tryz.func49 rfl (Nz rfl) (yN (Xi .pure (Xi _ (Yi (dU) (yN (cU [(8,vi (CK x roots infs).2)] [] Z1 Tv (Yi ?_ ?_)))))))
  .intro _;exact .of_eq (Ab vi hD.symm)
  .intro h;exact absurd he h
def Mb(d:List ByteArray):List Rl->Nat
 | []=>0
 |r::l=>(if d.any (fun p=>decide (p=r.path))then 0 else r.reqs.length)+Mb d l
theorem cD(d:List ByteArray)(p:ByteArray):∀l:List Rl,Mb (d++[p]) l<=Mb d l
 | []=>Ai _
 |r::l=>by
  have ih:=cD d p l
  grind [Mb]
theorem PY(d:List ByteArray)(p:ByteArray)(hp:d.any (fun q=>decide (q=p))=false):∀l:List Rl,Mb (d++[p]) l+(EL l p).length<=Mb d l
 | []=>by simp[Mb,EL]
 |r::l=>by
  by_cases hr:r.path=p
  .grind [EL,Mb,cD]
  .have e:EL (r::l) p=EL l p:=by grind [EL]
   rw[e];have ih:=PY d p hp l
   grind [Mb]
theorem TF:∀l:List Rl,Mb [] l=(l.map fun r=>r.reqs.length).foldl (·+·) 0
 |l=>by
  have gen:∀(l:List Rl) (a:Nat),(l.map fun r=>r.reqs.length).foldl (·+·) a=a+Mb [] l:=fun l=>by
   induction l<;>grind [Mb]
  simp_all
structure NI(l:List Rl)(roots:List Rq)(d:List ByteArray)(t:List Rq)(n:Nat):Prop where
 need:E2 l (GX l roots) roots []=E2 l n t d
 pot:t.length+Mb d l+1<=n
section
variable {l:List Rl}{roots t:List Rq}{d:List ByteArray}{n:Nat}
theorem NI.start(l:List Rl)(roots:List Rq):NI l roots [] roots (GX l roots):=⟨rfl,by grind [TF,GX]⟩
theorem NI.stop(h:NI l roots d [] n):E2 l (GX l roots) roots []=d:=by
 rw[h.need];cases n<;>rfl
theorem NI.old{q:Rq}(h:NI l roots d (q::t) (n+1))(hq:d.any (fun p=>decide (p=q.path))=true):NI l roots d t n:=
 ⟨by rw[h.need];show(if _ then _ else _)=_;simp_all,by have:=h.pot;grind⟩
theorem NI.new{q:Rq}(h:NI l roots d (q::t) (n+1))(hq:d.any (fun p=>decide (p=q.path))=false):NI l roots (d++[q.path]) (t++EL l q.path) n:=
 ⟨by rw[h.need];show(if _ then _ else _)=_;grind,by
  have:=h.pot
  have:=PY d q.path hq l
  grind⟩
end
abbrev U9(p:ByteArray):Value×AV:=(.string p,vb true)
theorem RI{a:AV}(h:(Value.string p,a)∈d.map U9):p∈d/\a=vb true:=by
 grind
theorem N7:(d.any fun q=>decide (q=p))=true↔p∈d:=gI
theorem pD(hn:(l.map (·.path)).Nodup)(hi:i<l.length):EF ((l.take i).map L0) (.string l[i].path) (.agg (At l[i]))=(l.take (i+1)).map L0:=by
 rw[Ib]
 .rw[CE,Ge hi,AG];rfl
 intro a ha;obtain⟨r,hr,he,_⟩:=RJ ha;obtain⟨j,hj,e2⟩:=CY.1 hr;rw[Bv]at hj;rw[List.getElem_take]at e2
 have:=(List.getElem_inj (xs:=l.map (·.path)) (i:=j) (j:=i) (h₀:=by grind) (h₁:=by simp_all) hn).1 Wk
 omega
theorem fY{x:List Rl}{s:List Sl}(hi:C3 s=true)(h:JG x s=some l):(l.map (·.path)).Nodup:=by
 have e:=(Hx h).1
 have:l.map (·.path)=s.map (·.path):=by rw[<-e,BI];rfl
 rw[this];have hp:=(I1 hi).1
 grind [CO]
abbrev nC:Nm:=⟨[],[(72,2)],[],[(47,[35,10])],[],[],[72],[],[],[],[2,4,5,7,8,10,11,13,14,16,17,20,22,23,24,25,26,27,30]⟩
theorem c45(x:List Rl)(ifs:List (List AV))(roots:List Rq)(s:List Sl)(SJ:gx x ifs)(hx:∀r∈x,IX r)(hr:roots.length<=1000000)(mH:∀q∈roots,Cz q.set)(hs:s.length<=1000000):vM x ifs roots s:=by
 have hsf:Cz s:=B0
 have wu:Cz roots:=B0
 obtain⟨D,hD⟩:∃D,D=GM x roots s:=⟨_,rfl⟩;unfold vM;rw[<-hD];unfold GM at hD
 by_cases h0:AX x=0
 .have SJ:PC 51 [PK x ifs] (.tup [.agg [.cmap NW (x.map NG),.cmap Cc ((AN x []).map (eU x))],vi 0]):=by
   grind
  rw[AB B0]at hD;have XJ:=c85 x s ((AN x []).map (eU x)) h0 hsf;unfold fX at XJ;cases hi:C3 s with
  |false=>
   rw[As hi]at XJ;rw[As Wk]at hD;refine Ps nC Tryz.func21 rfl (Nz rfl) (Xi 0 (Xi 0 (yN (Xi .pure (Xi _ (Yi (SJ) (yN (cU [(1,sl Af roots),(2,sl Al s),(7,.ref 7 0),(8,vi 0)] [(7,.cells [.cmap NW (x.map NG),.cmap Cc ((AN x []).map (eU x))])] Z4 Z1 (Xi 0 (Yi ?_ ?_))))))))))
   .intro h;exact absurd rfl h
   intro _;refine cU [(1,sl Af roots),(2,sl Al s),(7,.ref 7 0)] [(7,.cells [.cmap NW (x.map NG),.cmap Cc ((AN x []).map (eU x))])] Z3 Z1 (Xi 0 (yN (Xi .pure (Xi _ (Yi (XJ) (cU [(8,vi 1)] [] Z1 Tv (Xi 0 (Yi ?_ ?_))))))))
   .intro _;refine Xi 0 ?_;exact .of_eq (Ab vi hD.symm)
   .intro h;exact absurd (show(1:Int)≠0 by decide) h
  |true=>
   rw[AB Wk]at XJ;rw[AB Wk]at hD;cases SV:JG x s with
   |none=>
    rw[SV]at XJ hD;refine Ps nC Tryz.func21 rfl (Nz rfl) (Xi 0 (Xi 0 (yN (Xi .pure (Xi _ (Yi (SJ) (yN (cU [(1,sl Af roots),(2,sl Al s),(7,.ref 7 0),(8,vi 0)] [(7,.cells [.cmap NW (x.map NG),.cmap Cc ((AN x []).map (eU x))])] Z4 Z1 (Xi 0 (Yi ?_ ?_))))))))))
    .intro h;exact absurd rfl h
    intro _;refine cU [(1,sl Af roots),(2,sl Al s),(7,.ref 7 0)] [(7,.cells [.cmap NW (x.map NG),.cmap Cc ((AN x []).map (eU x))])] Z3 Z1 (Xi 0 (yN (Xi .pure (Xi _ (Yi (XJ) (cU [(8,vi 6)] [] Z1 Tv (Xi 0 (Yi ?_ ?_))))))))
    .intro _;refine Xi 0 ?_;exact .of_eq (Ab vi hD.symm)
    .intro h;exact absurd (show(6:Int)≠0 by decide) h
   |some l=>
    rw[SV]at XJ hD;have SU:=fY hi SV;have hll:l.length=s.length:=by rw[<-(Hx SV).1,Lm]
    have hlx:∀r∈l,r∈x:=fun r hr=>(EE ((Hx SV).2.1 r hr)).2.1;have hlq:∀r∈l,r.reqs.length<=16:=fun r hr=>(I3 h0).2 r (hlx r hr);have ah:∀q:Rq,Cz q.set->PC 53 ([.agg (Af q)]++[.cptr [.cmap Cc (l.map L0)]]) (vb (Dk l q)):=fun q hq=>c86 l SU q hq;have IM:CN [.cptr [.cmap Cc (l.map L0)]]:=fun c hc=>by
     obtain rfl:=AC.1 hc;intro h;rfl
    refine Ps nC Tryz.func21 rfl (Nz rfl) (Xi 0 (Xi 0 (yN (Xi .pure (Xi _ (Yi (SJ) (yN (cU [(1,sl Af roots),(2,sl Al s),(7,.ref 7 0),(8,vi 0)] [(7,.cells [.cmap NW (x.map NG),.cmap Cc ((AN x []).map (eU x))])] Z4 Z1 (Xi 0 (Yi ?_ ?_))))))))))
    .intro h;exact absurd rfl h
    intro _;refine cU [(1,sl Af roots),(2,sl Al s),(7,.ref 7 0)] [(7,.cells [.cmap NW (x.map NG),.cmap Cc ((AN x []).map (eU x))])] Z3 Z1 (Xi 0 (yN (Xi .pure (Xi _ (Yi (XJ) (cU [(1,sl Af roots),(8,vi 0),(9,sl At l)] [] Z3 Tv (Xi 0 (Yi ?_ ?_))))))))
    .intro h;exact absurd rfl h
    intro _;refine cU [(1,sl Af roots),(9,sl At l)] [] Z2 Tv (Xi 0 (yN (cU [(1,sl Af roots),(9,sl At l),(10,.ref 10 0)] [(10,.cells [.mref 35]),(35,.map Cc [])] Z3 Z2 (Xi 0 (Xi {i:Nat // i<=l.length} (Xi (fun i=>⟨[(1,sl Af roots),(9,sl At l),(10,.ref 10 0),(36,sl At l),(37,vi (l.map At).length),(38,vi i.1)],[(10,.cells [.mref 35]),(35,.map Cc ((l.take i.1).map L0))],Ad⟩) (Xi (fun i=>l.length-i.1) (Yi (Xi ⟨0,Ao _⟩ ?_) ?_))))))))
    .exact⟨Z6,Z2,Fh,Tv⟩
    intro⟨i,i1⟩;refine Xi 0 (Yi ?_ ?_)
    .intro h;have h:(i:Int)<(l.map At).length:=h;have h:i<l.length:=Wk
     have hg:l[i]?=some l[i]:=Ge h;refine cU [(1,sl Af roots),(9,sl At l),(10,.ref 10 0),(36,sl At l),(37,vi (l.map At).length),(38,vi i)] [(10,.cells [.mref 35]),(35,.map Cc ((l.take i).map L0))] Z6 Z2 (Xi 0 (Xi (At l[i]) (Yi (Yi B0 Wk) (Yi rfl ?_))));refine Yi (Nz rfl) (yN (cU [(1,sl Af roots),(9,sl At l),(10,.ref 10 0),(36,sl At l),(37,vi (l.map At).length),(12,.ref 12 0),(38,vi i)] [(12,.cells (At l[i])),(10,.cells [.mref 35]),(35,.map Cc ((l.take i).map L0))] Z7 Z3 (Xi 0 (yN ?_))));have e35:=pD SU h;refine Xi 0 (Yi (Ii i B0) (Xi ⟨i+1,by omega⟩ ?_));exact⟨by grind,Z6,⟨Zr,⟨Ab (HO.map Cc) e35,rfl⟩,Tv⟩,Fh,Tv⟩
    intro h;have h:¬(i:Int)<(l.map At).length:=h;have h:¬i<l.length:=Wk
    have et:(l.take i).map L0=l.map L0:=aa1
    refine cU [(1,sl Af roots),(9,sl At l),(10,.ref 10 0)] [(10,.cells [.mref 35]),(35,.map Cc (l.map L0))] Z3 ⟨Zr,⟨Ab (HO.map Cc) et,rfl⟩,Tv⟩ (Xi 0 (cU [(1,sl Af roots),(9,sl At l),(10,.ref 10 0),(13,.clo 53 [.cptr [.cmap Cc (l.map L0)]])] [(10,.ro [.cmap Cc (l.map L0)])] Z4 Z1 (Xi 0 (Xi {i:Nat // i<=l.length/\∀j (hj:j<l.length),j<i->l[j].reqs.any (Dk l)=false} (Xi (fun i=>⟨[(1,sl Af roots),(9,sl At l),(10,.ref 10 0),(13,.clo 53 [.cptr [.cmap Cc (l.map L0)]]),(48,sl At l),(49,vi (l.map At).length),(50,vi i.1)],[(10,.ro [.cmap Cc (l.map L0)])],Ad⟩) (Xi (fun i=>l.length-i.1) (Yi (Xi ⟨0,Ao _,fun j _ hj=>absurd hj (CR j)⟩ ?_) ?_)))))))
    .exact⟨Z7,Z1,Fh,Tv⟩
    intro⟨i,i1,i2⟩;have i1:i<=l.length:=i1;refine Xi 0 (Yi ?_ ?_)
    .intro h;have h:(i:Int)<(l.map At).length:=h;have h:i<l.length:=B0
     have hg:l[i]?=some l[i]:=Ge h;have KB:PC 56 [sl Af l[i].reqs,.clo 53 [.cptr [.cmap Cc (l.map L0)]]] (vb (l[i].reqs.any (Dk l))):=xR IM l[i].reqs (Dk l) (fun q hq=>ah q ((hx _ (hlx _ (Am h))).2 q hq).1) aa1;refine cU [(1,sl Af roots),(9,sl At l),(10,.ref 10 0),(13,.clo 53 [.cptr [.cmap Cc (l.map L0)]]),(48,sl At l),(49,vi (l.map At).length),(50,vi i)] [(10,.ro [.cmap Cc (l.map L0)])] Z7 Z1 (Xi 0 (Xi (At l[i]) (Yi (Yi B0 Wk) (Yi rfl ?_))));refine Yi (Nz rfl) (yN (cU [(1,sl Af roots),(9,sl At l),(10,.ref 10 0),(13,.clo 53 [.cptr [.cmap Cc (l.map L0)]]),(48,sl At l),(49,vi (l.map At).length),(15,.ref 15 0),(50,vi i)] [(10,.ro [.cmap Cc (l.map L0)]),(15,.cells (At l[i]))] Z8 Z2 (Xi 0 (BK (Bt (l[i].reqs.any (Dk l))) (fun hb=>?_) (fun hb=>?_)))))
     .rw[hb]at KB;refine Xi .pure (Xi _ (Yi (KB) (Xi 0 ?_)));have ha:l.any (fun r=>r.reqs.any (Dk l))=true:=CB.2 ⟨l[i],Am h,hb⟩;exact .of_eq (Ab vi (show(17:Int)=D by simp_all))
     .rw[hb]at KB;refine Xi .pure (Xi _ (Yi (KB) (Xi 0 (Yi (by grind [A8]) (Xi ⟨i+1,by omega,fun j hj JY=>?_⟩ ?_)))))
      .grind
      exact⟨by grind,Z7,Z1,Fh,Tv⟩
    intro h;have h:¬(i:Int)<(l.map At).length:=h;have h:¬i<l.length:=Wk
    have ha:l.any (fun r=>r.reqs.any (Dk l))=false:=by
     grind [List.mem_iff_getElem]
    have hD:D=if roots.any (Dk l)then 17 else if(E2 l (GX l roots) roots []).length<l.length then 8 else 0:=Wk
    have KB:PC 56 [sl Af roots,.clo 53 [.cptr [.cmap Cc (l.map L0)]]] (vb (roots.any (Dk l))):=xR IM roots (Dk l) (fun q hq=>ah q (mH q hq)) wu;refine cU [(1,sl Af roots),(9,sl At l),(10,.ref 10 0),(13,.clo 53 [.cptr [.cmap Cc (l.map L0)]])] [(10,.ro [.cmap Cc (l.map L0)])] Z4 Z1 (Xi 0 (BK (Bt (roots.any (Dk l))) (fun hb=>?_) (fun hb=>?_)))
    .rw[hb]at KB;refine Xi .pure (Xi _ (Yi (KB) (Xi 0 ?_)));exact .of_eq (Ab vi (show(17:Int)=D by simp_all))
    rw[hb]at KB;have hD:D=if(E2 l (GX l roots) roots []).length<l.length then 8 else 0:=Wk
    refine Xi .pure (Xi _ (Yi (KB) (cU [(1,sl Af roots),(9,sl At l),(10,.ref 10 0)] [(10,.ro [.cmap Cc (l.map L0)])] Z3 Z1 (Xi 0 (cU [(1,sl Af roots),(9,sl At l),(10,.ref 10 0),(16,.mref 62)] [(10,.ro [.cmap Cc (l.map L0)]),(62,.map Cc [])] Z4 Z2 (Xi 0 (Xi (.gen [] 1) (Yi rfl ((sJ roots wu).imp ?_)))))))));intro v g q;have q1:=q.1;have q2:=q.2;subst q1;subst q2
    clear q
    have AbC:Mb [] l<=16*l.length:=by
     have gen:∀l:List Rl,(∀r∈l,r.reqs.length<=16)->Mb [] l<=16*l.length:=fun l=>by
      induction l with
      |nil=>intro _;exact Ai _
      |cons r l ih=>
       grind [Mb]
     grind
    have hfu:GX l roots<=roots.length+16*l.length+1:=by grind [GX,TF]
    refine Xi {p:List ByteArray×List Rq×Nat×Bool // NI l roots p.1 p.2.1 p.2.2.1/\p.2.2.1<=GX l roots} (Xi (fun p=>⟨[(9,sl At l),(10,.ref 10 0),(16,.mref 62),(17,.slice (.id (bif p.1.2.2.2 then 16400 else 201) 2) (p.1.2.1.map Af))],[(10,.ro [.cmap Cc (l.map L0)]),(62,.map Cc (p.1.1.map U9)),(16400,bif p.1.2.2.2 then .tok 2 (p.1.2.1.map Af).length else .free),(201,bif p.1.2.2.2 then .free else .tok 2 (p.1.2.1.map Af).length)],Ad⟩) (Xi (fun p=>p.1.2.2.1) (Yi (Xi ⟨([],roots,GX l roots,true),NI.start l roots,Ai _⟩ ?_) ?_)))
    .exact⟨Z4,Z4,Fh,Tv⟩
    intro⟨⟨d,t,n,b⟩,ni,nf⟩;have ni:NI l roots d t n:=ni;have nf:n<=GX l roots:=nf;refine BK (Bt b) (fun eb=>?_) (fun eb=>?_)
    .refine cU [(9,sl At l),(10,.ref 10 0),(16,.mref 62),(17,.slice (.id 16400 2) (t.map Af))] [(10,.ro [.cmap Cc (l.map L0)]),(62,.map Cc (d.map U9)),(16400,.tok 2 (t.map Af).length)] ⟨Zr,Zr,Zr,⟨by show AV.slice (.id (bif b then 16400 else 201) 2) (t.map Af)=_;simp_all,rfl⟩,Tv⟩ ⟨Zr,Zr,⟨by show(bif b then HO.tok 2 (t.map Af).length else HO.free)=_;simp_all,rfl⟩,Tv⟩ ?_
     refine Xi 0 (Yi ?_ ?_)
     .intro h;have h:(0:Int)<(t.map Af).length:=h;refine A1 (show ∃q t',t=q::t' by cases t<;>simp_all) (fun q hq=>?_)
      refine A1 hq (fun t' hq=>?_);refine A1 (show ∃m,n=m+1 from⟨n-1,by have:=ni.pot;omega⟩) (fun m tQ=>?_);have ni:NI l roots d (q::t') (m+1):=hq▸tQ▸ni;have zq:=ni.pot;have mA:(t.map Af)[(0:Int).toNat]?=some (Af q):=Wk
      refine cU [(9,sl At l),(10,.ref 10 0),(16,.mref 62),(17,.slice (.id 16400 2) (t.map Af))] [(10,.ro [.cmap Cc (l.map L0)]),(62,.map Cc (d.map U9)),(16400,.tok 2 (t.map Af).length)] Z4 Z3 (Xi 0 (Xi (Af q) (Yi (Yi aa2 mA) (Yi rfl (Yi (Nz rfl) (yN (cU [(9,sl At l),(10,.ref 10 0),(16,.mref 62),(17,.slice (.id 16400 2) (t.map Af)),(18,.ref 18 0)] [(10,.ro [.cmap Cc (l.map L0)]),(62,.map Cc (d.map U9)),(16400,.tok 2 (t.map Af).length),(18,.cells (Af q))] Z5 Z4 (Xi 201 ?_))))))));have wz:1<=(t.map Af).length:=B0
      refine Yi (Yi rfl (Yi aa2 B0)) ?_;have ed:(t.map Af).drop (1:Int).toNat=t'.map Af:=Wk
      refine cU [(9,sl At l),(10,.ref 10 0),(16,.mref 62),(17,.slice (.id 201 2) (t'.map Af)),(18,.ref 18 0)] [(10,.ro [.cmap Cc (l.map L0)]),(62,.map Cc (d.map U9)),(201,.tok 2 (t'.map Af).length),(18,.cells (Af q))] ⟨Zr,Zr,Zr,⟨Ab (AV.slice (.id 201 2)) ed,rfl⟩,Zr,Tv⟩ ⟨Zr,Zr,⟨Ab (fun e:List (List AV)=>HO.tok 2 e.length) ed,rfl⟩,Zr,Tv⟩ (Xi 0 (Yi ?_ ?_))
      .intro a ha;refine A1 (show ∃u,u=()from⟨(),rfl⟩) (fun _ _=>?_);have e:=(RI ha).2;subst e;have ho:=N7.2 (RI ha).1;have aD:=ni.old ho;refine Xi ⟨(d,t',m,false),aD,by grind⟩ ?_;exact⟨by simp_all,Z4,Z4,Fh,Tv⟩
      intro OF;have ho:d.any (fun p=>decide (p=q.path))=false:=by
       rw[Bn];intro hc;exact OF (vb true) (Ar.2 ⟨q.path,N7.1 hc,rfl⟩)
      have aD:=ni.new ho;have XR:=aD.pot;refine Xi 0 ?_;have sQ:EF (d.map U9) (.string q.path) (vb true)=(d++[q.path]).map U9:=by rw[Ib OF,AG];rfl
      refine Xi 0 (Yi ?_ ?_)
      .intro a ha;refine A1 (RJ ha) (fun r Wg=>?_);have e:=Wg.2.2;subst e;have qB:EL l q.path=r.reqs:=by
        unfold EL;rw[<-Wg.2.1,JX SU Wg.1]
       rw[qB]at aD XR;have hrl:=hlq r Wg.1;have DG:BX 2 (r.reqs.map Af)/\(t'.map Af).length=(t'.map Af).length/\((t'.map Af).length+(r.reqs.map Af).length)*40<=140737488355328/\(t'.map Af).length+(r.reqs.map Af).length<=9223372036854775807:=
        ⟨DK (enc:=Af) (n:=2) (fun _=>rfl) r.reqs,rfl,by grind,by grind⟩
       refine Yi DG ?_;have p9:AV.slice (.id 201 2) (t'.map Af++r.reqs.map Af)=.slice (.id 201 2) ((t'++r.reqs).map Af):=Wk
       have qS:HO.tok 2 ((t'.map Af).length+(r.reqs.map Af).length)=.tok 2 ((t'++r.reqs).map Af).length:=Wk
       refine Xi ⟨(d++[q.path],t'++r.reqs,m,false),aD,by grind⟩ ?_;exact⟨by simp_all,⟨Zr,Zr,Zr,⟨p9,rfl⟩,Tv⟩,⟨Zr,⟨Ab (HO.map Cc) sQ,rfl⟩,Zr,⟨qS,rfl⟩,Tv⟩,Fh,Tv⟩
      intro y8;have qB:EL l q.path=[]:=by
       unfold EL
       grind
      rw[qB]at aD XR;have DG:BX 2 []/\(t'.map Af).length=(t'.map Af).length/\((t'.map Af).length+([]:List (List AV)).length)*40<=140737488355328/\(t'.map Af).length+([]:List (List AV)).length<=9223372036854775807:=
       ⟨trivial,rfl,by grind,by grind⟩
      refine Yi DG ?_;have p9:AV.slice (.id 201 2) (t'.map Af++[])=.slice (.id 201 2) ((t'++[]).map Af):=Wk
      have qS:HO.tok 2 ((t'.map Af).length+([]:List (List AV)).length)=.tok 2 ((t'++[]).map Af).length:=Wk
      refine Xi ⟨(d++[q.path],t'++[],m,false),aD,by grind⟩ ?_;exact⟨by simp_all,⟨Zr,Zr,Zr,⟨p9,rfl⟩,Tv⟩,⟨Zr,⟨Ab (HO.map Cc) sQ,rfl⟩,Zr,⟨qS,rfl⟩,Tv⟩,Fh,Tv⟩
     intro h;have h:¬(0:Int)<(t.map Af).length:=h;have zA:t=[]:=by
      simp_all
     have y9:E2 l (GX l roots) roots []=d:=(zA▸ni).stop;have hD:D=if d.length<l.length then 8 else 0:=Wk
     refine cU [(9,sl At l),(16,.mref 62)] [(62,.map Cc (d.map U9))] Z2 Z1 (Xi 0 (Yi ?_ ?_))
     .intro h;have h:((d.map U9).length:Int)<((l.map At).length:Int):=h;have h:d.length<l.length:=Wk
      refine Xi 0 ?_;exact .of_eq (Ab vi (show(8:Int)=D by omega))
     .intro h;have h:¬((d.map U9).length:Int)<((l.map At).length:Int):=h;have h:¬d.length<l.length:=Wk
      refine Xi 0 ?_;exact .of_eq (Ab vi (show(0:Int)=D by omega))
    .refine cU [(9,sl At l),(10,.ref 10 0),(16,.mref 62),(17,.slice (.id 201 2) (t.map Af))] [(10,.ro [.cmap Cc (l.map L0)]),(62,.map Cc (d.map U9)),(201,.tok 2 (t.map Af).length)] ⟨Zr,Zr,Zr,⟨by show AV.slice (.id (bif b then 16400 else 201) 2) (t.map Af)=_;simp_all,rfl⟩,Tv⟩ ⟨Zr,Zr,⟨by show(bif b then HO.free else HO.tok 2 (t.map Af).length)=_;simp_all,rfl⟩,Tv⟩ ?_
     refine Xi 0 (Yi ?_ ?_)
     .intro h;have h:(0:Int)<(t.map Af).length:=h;refine A1 (show ∃q t',t=q::t' by cases t<;>simp_all) (fun q hq=>?_)
      refine A1 hq (fun t' hq=>?_);refine A1 (show ∃m,n=m+1 from⟨n-1,by have:=ni.pot;omega⟩) (fun m tQ=>?_);have ni:NI l roots d (q::t') (m+1):=hq▸tQ▸ni;have zq:=ni.pot;have mA:(t.map Af)[(0:Int).toNat]?=some (Af q):=Wk
      refine cU [(9,sl At l),(10,.ref 10 0),(16,.mref 62),(17,.slice (.id 201 2) (t.map Af))] [(10,.ro [.cmap Cc (l.map L0)]),(62,.map Cc (d.map U9)),(201,.tok 2 (t.map Af).length)] Z4 Z3 (Xi 0 (Xi (Af q) (Yi (Yi aa2 mA) (Yi rfl (Yi (Nz rfl) (yN (cU [(9,sl At l),(10,.ref 10 0),(16,.mref 62),(17,.slice (.id 201 2) (t.map Af)),(18,.ref 18 0)] [(10,.ro [.cmap Cc (l.map L0)]),(62,.map Cc (d.map U9)),(201,.tok 2 (t.map Af).length),(18,.cells (Af q))] Z5 Z4 (Xi 16400 ?_))))))));have wz:1<=(t.map Af).length:=B0
      refine Yi (Yi rfl (Yi aa2 B0)) ?_;have ed:(t.map Af).drop (1:Int).toNat=t'.map Af:=Wk
      refine cU [(9,sl At l),(10,.ref 10 0),(16,.mref 62),(17,.slice (.id 16400 2) (t'.map Af)),(18,.ref 18 0)] [(10,.ro [.cmap Cc (l.map L0)]),(62,.map Cc (d.map U9)),(16400,.tok 2 (t'.map Af).length),(18,.cells (Af q))] ⟨Zr,Zr,Zr,⟨Ab (AV.slice (.id 16400 2)) ed,rfl⟩,Zr,Tv⟩ ⟨Zr,Zr,⟨Ab (fun e:List (List AV)=>HO.tok 2 e.length) ed,rfl⟩,Zr,Tv⟩ (Xi 0 (Yi ?_ ?_))
      .intro a ha;refine A1 (show ∃u,u=()from⟨(),rfl⟩) (fun _ _=>?_);have e:=(RI ha).2;subst e;have ho:=N7.2 (RI ha).1;have aD:=ni.old ho;refine Xi ⟨(d,t',m,true),aD,by grind⟩ ?_;exact⟨by simp_all,Z4,Z4,Fh,Tv⟩
      intro OF;have ho:d.any (fun p=>decide (p=q.path))=false:=by
       rw[Bn];intro hc;exact OF (vb true) (Ar.2 ⟨q.path,N7.1 hc,rfl⟩)
      have aD:=ni.new ho;have XR:=aD.pot;refine Xi 0 ?_;have sQ:EF (d.map U9) (.string q.path) (vb true)=(d++[q.path]).map U9:=by rw[Ib OF,AG];rfl
      refine Xi 0 (Yi ?_ ?_)
      .intro a ha;refine A1 (RJ ha) (fun r Wg=>?_);have e:=Wg.2.2;subst e;have qB:EL l q.path=r.reqs:=by
        unfold EL;rw[<-Wg.2.1,JX SU Wg.1]
       rw[qB]at aD XR;have hrl:=hlq r Wg.1;have DG:BX 2 (r.reqs.map Af)/\(t'.map Af).length=(t'.map Af).length/\((t'.map Af).length+(r.reqs.map Af).length)*40<=140737488355328/\(t'.map Af).length+(r.reqs.map Af).length<=9223372036854775807:=
        ⟨DK (enc:=Af) (n:=2) (fun _=>rfl) r.reqs,rfl,by grind,by grind⟩
       refine Yi DG ?_;have p9:AV.slice (.id 16400 2) (t'.map Af++r.reqs.map Af)=.slice (.id 16400 2) ((t'++r.reqs).map Af):=Wk
       have qS:HO.tok 2 ((t'.map Af).length+(r.reqs.map Af).length)=.tok 2 ((t'++r.reqs).map Af).length:=Wk
       refine Xi ⟨(d++[q.path],t'++r.reqs,m,true),aD,by grind⟩ ?_;exact⟨by simp_all,⟨Zr,Zr,Zr,⟨p9,rfl⟩,Tv⟩,⟨Zr,⟨Ab (HO.map Cc) sQ,rfl⟩,⟨qS,rfl⟩,Zr,Tv⟩,Fh,Tv⟩
      intro y8;have qB:EL l q.path=[]:=by
       unfold EL
       grind
      rw[qB]at aD XR;have DG:BX 2 []/\(t'.map Af).length=(t'.map Af).length/\((t'.map Af).length+([]:List (List AV)).length)*40<=140737488355328/\(t'.map Af).length+([]:List (List AV)).length<=9223372036854775807:=
       ⟨trivial,rfl,by grind,by grind⟩
      refine Yi DG ?_;have p9:AV.slice (.id 16400 2) (t'.map Af++[])=.slice (.id 16400 2) ((t'++[]).map Af):=Wk
      have qS:HO.tok 2 ((t'.map Af).length+([]:List (List AV)).length)=.tok 2 ((t'++[]).map Af).length:=Wk
      refine Xi ⟨(d++[q.path],t'++[],m,true),aD,by grind⟩ ?_;exact⟨by simp_all,⟨Zr,Zr,Zr,⟨p9,rfl⟩,Tv⟩,⟨Zr,⟨Ab (HO.map Cc) sQ,rfl⟩,⟨qS,rfl⟩,Zr,Tv⟩,Fh,Tv⟩
     intro h;have h:¬(0:Int)<(t.map Af).length:=h;have zA:t=[]:=by
      simp_all
     have y9:E2 l (GX l roots) roots []=d:=(zA▸ni).stop;have hD:D=if d.length<l.length then 8 else 0:=Wk
     refine cU [(9,sl At l),(16,.mref 62)] [(62,.map Cc (d.map U9))] Z2 Z1 (Xi 0 (Yi ?_ ?_))
     .intro h;have h:((d.map U9).length:Int)<((l.map At).length:Int):=h;have h:d.length<l.length:=Wk
      refine Xi 0 ?_;exact .of_eq (Ab vi (show(8:Int)=D by omega))
     .intro h;have h:¬((d.map U9).length:Int)<((l.map At).length:Int):=h;have h:¬d.length<l.length:=Wk
      refine Xi 0 ?_;exact .of_eq (Ab vi (show(0:Int)=D by omega))
 .have SJ:PC 51 [PK x ifs] (.tup [.agg [.cmap NW [],.cmap Cc []],vi (AX x)]):=by
   grind
  rw[As h0]at hD;refine Ps nC Tryz.func21 rfl (Nz rfl) (Xi 0 (Xi 0 (yN (Xi .pure (Xi _ (Yi (SJ) (yN (cU [(8,vi (AX x))] [] Z1 Tv (Xi 0 (Yi ?_ ?_))))))))))
  .intro _;refine Xi 0 ?_;exact .of_eq (Ab vi hD.symm)
  .intro h;exact absurd h0 h
structure c8(x:List Rl)(roots:List Rq):Prop where
 ix:Cz x
 rs:Cz roots
 rel:∀r∈x,Cz r.reqs/\IX r
 rq:∀q∈roots,Jz q
theorem c8.x{x:List Rl}{roots:List Rq}(h:c8 x roots):∀r∈x,IX r:=fun r hr=>(h.rel r hr).2
theorem c8.c84{x:List Rl}{roots:List Rq}(h:c8 x roots)(ifs:List (List AV)):gx x ifs:=Go.Eng.c84 x ifs h.x
theorem UQ{x:List Rl}(h:(Qi x 16&&D8 roots)=true):roots.length<=20:=by
 grind [D8]
theorem Qj{a:An}(h:Y0 a=true):a.sel.length<=16/\a.skips.length<=100/\a.infs.length<=400:=by
 grind [Y0]
theorem c8.c45{x:List Rl}{roots:List Rq}(h:c8 x roots)(ifs:List (List AV))(hf:(Qi x 16&&D8 roots)=true)(s:List Sl)(hs:s.length<=1000000):vM x ifs roots s:=
 Go.Eng.c45 x ifs roots s (h.c84 ifs) h.x (by grind [UQ]) (fun q hq=>(h.rq q hq).1) hs
theorem c8.c21{x:List Rl}{roots:List Rq}(h:c8 x roots)(ifs:List (List AV))(hf:(Qi x 16&&D8 roots)=true)(a:An)(ha:Y0 a=true):PC 49 [PK x ifs,sl Af roots,.agg (JT a)] (vi (Hd x roots a)):=
 Go.Eng.c21 x ifs roots a (h.c84 ifs) (h.c45 ifs hf a.sel (by grind [Qj])) h.x h.rq (by grind [Qj]) (by have:=(Qj ha).2.1;omega)
theorem Bd.to2{P:Program}{f:Nat}{h0:Nat->HO}{r0:AV}{H0:Nat->HO}{Q' : AV->(Nat->HO)->Prop}(h:Bd P f args h0 fun r h'=>r=r0/\h'=H0)(k:Q' r0 H0):Bd P f args h0 Q':=
 h.mono fun r h' q=>⟨r,.refl _,by rw[q.1,q.2];exact k⟩
theorem cb{f:Nat}{b x:Bool}(h:b=x)(hc:PC f args (vb b)):PC f args (vb x):=h▸hc
theorem IN{l:List α}(h:(i:Int)<((l.map f).length:Int)):i<l.length:=by rw[Lm]at h;omega
theorem FH{l:List α}(h:¬(i:Int)<((l.map f).length:Int)):¬i<l.length:=by rw[Lm]at h;omega
theorem LX{l:List α}(h:i<l.length):(0:Int)<=(i:Int)/\(l.map f)[((i:Nat):Int).toNat]?=some (f l[i]):=⟨NX _,by rw[DQ,BE,Ge h];rfl⟩
theorem Zm{z:Nat}{x:List AV}(hx:x.length=n)(h:O.length<=2147483647)(hz:z<=65536) :
  BX n [x]/\(O.map f).length=O.length/\((O.map f).length+([x]:List (List AV)).length)*z<=140737488355328/\(O.map f).length+([x]:List (List AV)).length<=9223372036854775807:=by
 refine⟨⟨hx,trivial⟩,Lm _,?_,?_⟩<;>rw[Lm]<;>simp only[AF,A0]
 .have:=Nat.mul_le_mul (show O.length+(0+1)<=2147483648 by omega) hz
  omega
 .omega
theorem tkA{x:α}{r:Nat}:AV.slice (.id r n) (O.map f++[f x])=.slice (.id r n) ((O++[x]).map f):=by rw[AG];rfl
theorem hkA{x:α}{y:List AV}:HO.tok n ((O.map f).length+([y]:List (List AV)).length)=.tok n (O++[x]).length:=by rw[Aa,Lm];rfl
abbrev LA(n:Int):List AV:=[vi n]
abbrev IH(b:Bool):List AV:=[vb b]
structure Clo(l:List Rl)(roots:List Rq)(Cl:List ByteArray):Prop where
 root:∀q∈roots,q.path∈Cl
 req:∀r∈l,r.path∈Cl->∀q∈r.reqs,q.path∈Cl
theorem PQ{l:List Rl}:∀{n:Nat} {t:List Rq} {d:List ByteArray},t.length+Mb d l+1<=n->(∀p∈d,∀q∈EL l p,q.path∈d\/∃u∈t,u.path=q.path) ->
  (∀p∈d,p∈E2 l n t d)/\(∀u∈t,u.path∈E2 l n t d)/\∀p∈E2 l n t d,∀q∈EL l p,q.path∈E2 l n t d
 |0,_,_,h,_=>by omega
 |n+1,[],d,_,hc=>by
  grind [E2]
 |n+1,q::t,d,h,hc=>by
  simp only[AF]at h;cases hq:d.any (fun p=>decide (p=q.path))with
  |true=>
   have e:E2 l (n+1) (q::t) d=E2 l n t d:=by show(if _ then _ else _)=_;simp_all
   rw[e];have hm:=N7.1 hq;obtain⟨i1,i2,i3⟩:=PQ (l:=l) (n:=n) (t:=t) (d:=d) B0 (fun p hp u hu=>by
    rcases hc p hp u hu with h | ⟨v,hv,ev⟩
    .exact .inl h
    .rcases AM.1 hv with hv | hv
     .exact .inl (by rw[<-ev,hv];exact hm)
     .exact .inr ⟨v,hv,ev⟩)
   exact⟨i1,fun u hu=>(AM.1 hu).elim (fun eu=>by rw[eu];exact i1 _ hm) (i2 u),i3⟩
  |false=>
   have e:E2 l (n+1) (q::t) d=E2 l n (t++EL l q.path) (d++[q.path]):=by show(if _ then _ else _)=_;grind
   rw[e];have hp:=PY d q.path hq l;obtain⟨i1,i2,i3⟩:=PQ (l:=l) (n:=n) (t:=t++EL l q.path) (d:=d++[q.path]) (by rw[Aa];omega) (fun p hp u hu=>by
    rcases Bk.1 hp with hp | hp
    .rcases hc p hp u hu with h | ⟨v,hv,ev⟩
     .exact .inl (Bw _ h)
     .rcases AM.1 hv with hv | hv
      .exact .inl (by rw[<-ev,hv];simp)
      .exact .inr ⟨v,Bw _ hv,ev⟩
    .rw[AC.1 hp]at hu;exact .inr ⟨u,Ca _ hu,rfl⟩)
   exact⟨fun p hp=>i1 p (Bw _ hp),fun u hu=>(AM.1 hu).elim (fun eu=>by rw[eu];exact i1 _ aa0) (fun hu=>i2 u (Bw _ hu)),i3⟩
abbrev jv(l:List Rl)(roots:List Rq):List ByteArray:=E2 l (GX l roots) roots []
theorem aR(hn:(l.map (·.path)).Nodup){r:Rl}(hr:r∈l):EL l r.path=r.reqs:=by unfold EL;rw[JX hn hr]
theorem fm(hn:(l.map (·.path)).Nodup):Clo l roots (jv l roots):=by
 obtain⟨_,h2,h3⟩:=PQ (l:=l) (n:=GX l roots) (t:=roots) (d:=[]) (by grind [TF,GX]) (fun p hp=>by cases hp);exact⟨h2,fun r hr hp q hq=>h3 _ hp q (by grind [aR])⟩
end Go.Eng
