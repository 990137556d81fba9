/- Lemmas 21. -/
import Derived.Test.YtkjhcikodmiceaaGreatDoorCA20
namespace Go.Eng
open Go.Proofs Go.Proofs.Tryz
abbrev Ar8:=List F
abbrev Ar9:=List Rq
variable {l:Ar8}{d:List CS}{roots:Ar9}{p:CS}
theorem Tu{x:Ar8}{roots:Ar9}{l0:List Nf}:∀(l:List Nf) (d d' : List (List V)),(∀i∈l,i∈l0)->(∀t∈d,Ub (H8 x roots l0) t)->BJ x roots l d=some d'->∀t∈d',Ub (H8 x roots l0) t
 | [],d,d',_,hd,h=>by
  have:d=d':=EH h
  simp_all
 |i::l,d,d',hi,hd,h=>by
  unfold BJ at h;cases e:Cc x roots d i with
  |none=>simp_all
  |some t=>
   rw[e]at h;refine Tu l (d++[t]) d' (fun j hj=>hi j (Aj _ hj)) (fun u hu=>?_) h
   grind [RY,List.mem_cons_self]
theorem cI{x:Ar8}{l:List Nf}(h:(CT x roots l).2=0):∀t∈(CT x roots l).1,ZE t:=fun t ht=>by
 obtain⟨h1,h2,h3,h4⟩:=Vi h
 have:=(Tu (l0:=l) l [] _ (fun _ h=>h) (fun _ h=>by cases h) h4 t ht).fewI (Pw h1 h2 h3)
 grind
abbrev Ag2:Of:=(pC [7] [2,4,8,10,11,12,13])
abbrev qq16:=fun found sel infs skips=>((5,.cells [Q found,sl Ar sel,sl A8 infs,sl AT skips]):Nat×HO)
abbrev qq17:=fun(x:Ar8) (ifs:C0) (roots:Ar9) d=>((7,.ro [.cptr (IJ x (.slice .none ifs) roots d)]):Nat×HO)
theorem c21(x:Ar8)(ifs:C0)(roots:Ar9)(a:An)(VF:pQ x ifs)(h45:H45 x ifs roots a.sel)(hx:∀r∈x,Jz r)(hr:∀q∈roots,J5 q)(hs:a.sel.length<=500)(hk:CC a.skips):PC 49 [Sa x ifs,sl Ak roots,.agg (KU a)] (G (HT x roots a)):=by
 obtain⟨found,sel,infs,skips⟩:=a;have nB:=c36 x ifs roots infs hx hr (fun _=>AiJ x ifs roots VF);unfold jV at nB;obtain⟨D,hD⟩:∃D,D=HT x roots ⟨found,sel,infs,skips⟩:=⟨_,rfl⟩;rw[<-hD];unfold HT at hD
 by_cases he:(CT x roots infs).2=0
 .rw[AO he]at nB;rw[AB aa0]at hD;obtain⟨h1,h2,h3,h4⟩:=Vi he;have hdf:=cI he;have hdl:(CT x roots infs).1.length<=65536:=gY;obtain⟨d,hd⟩:∃d,d=(CT x roots infs).1:=⟨_,rfl⟩;rw[<-hd]at hD nB hdf hdl;have wK:=c40 x (.slice .none ifs) roots d I;refine Ps Ag2 func49 rfl C4 (U (C1 (H (nB) (U (cU [(1,sl Ak roots),(3,.ref 3 0),(5,.ref 5 0),(7,.ref 7 0),(8,G 0)] [(3,.cells (Ic x ifs)),(qq16 found sel infs skips),(qq17 x ifs roots d)] Z5 Z3 (J ?_ ?_))))))
  .intro h;exact absurd rfl h
  intro _;refine cU [(1,sl Ak roots),(3,.ref 3 0),(5,.ref 5 0),(7,.ref 7 0)] [(3,.cells (Ic x ifs)),(qq16 found sel infs skips),(qq17 x ifs roots d)] Z4 Z3 (J ?_ ?_)
  .intro hf;have hf:found=true:=hf;have hD:D=if Hc x roots sel≠0 then 18 else if(((visits x roots sel).1.foldl (Db x d) (true,skips)).1&&((visits x roots sel).1.foldl (Db x d) (true,skips)).2.isEmpty)then 0 else 18:=by
    simp_all
   refine cU [(1,sl Ak roots),(3,.ref 3 0),(5,.ref 5 0),(7,.ref 7 0)] [(3,.cells (Ic x ifs)),(qq16 found sel infs skips),(qq17 x ifs roots d)] Z4 Z3 (U (C1 (H (h45) (J ?_ ?_))))
   .intro hz;have hz:Hc x roots sel≠0:=hz;exact C G (show(18:Int)=D by omega)
   intro hz;have hz:¬Hc x roots sel≠0:=hz;have hD:D=if(((visits x roots sel).1.foldl (Db x d) (true,skips)).1&&((visits x roots sel).1.foldl (Db x d) (true,skips)).2.isEmpty)then 0 else 18:=I
   have hcd:=Aje x ifs roots d sel (true,skips) VF h1 hx (by grind [NA]) (fun q hq=>(hr q hq).1) hs hdl hdf;refine cU [(5,.ref 5 0),(7,.ref 7 0)] [(qq16 found sel infs skips),(qq17 x ifs roots d)] Z2 Z2 (U (cU [(5,.ref 5 0),(7,.ref 7 0),(9,.ref 9 0)] [(qq16 found sel infs skips),(qq17 x ifs roots d),(9,.cells [Q true])] Z3 Z3 (U (cU [(5,.ref 5 0),(7,.ref 7 0),(9,.ref 9 0),(10,.ref 10 0)] [(qq16 found sel infs skips),(qq17 x ifs roots d),(9,.cells [Q true]),(10,.cells [sl AT skips])] Z4 Z4 (M (.gen [(10,1000),(9,1001)] 0) (J rfl (hcd.imp ?_)))))));intro v g q;have q1:=q.1;have q2:=q.2;subst q1;subst q2;refine AE (show ∃A,A=(visits x roots sel).1.foldl (Db x d) (true,skips)from⟨_,rfl⟩) (fun A hA=>?_);refine cU [(9,.ref 9 0),(10,.ref 10 0)] [(9,.cells [Q A.1]),(10,.cells [sl AT A.2])] Z2 ⟨⟨Aa (fun a:Bool×List Sk=>HO.cells [Q a.1]) hA.symm,rfl⟩,⟨Aa (fun a:Bool×List Sk=>HO.cells [sl AT a.2]) hA.symm,rfl⟩,X⟩ ?_
   rw[<-hA]at hD;refine J ?_ ?_
   .intro h5;have h5:A.1=true:=h5;refine J ?_ ?_
    .intro h6;have h6:(0:Int)<(A.2.map AT).length:=h6;have h6:A.2.isEmpty=false:=by
      grind
     exact C G (show(18:Int)=D by simp_all)
    .intro h6;have h6:¬(0:Int)<(A.2.map AT).length:=h6;have h6:A.2.isEmpty=true:=by
      simp_all
     exact C G (show(0:Int)=D by simp_all)
   .intro h5;have h5:A.1=false:=h5;exact C G (show(18:Int)=D by simp_all)
  .intro hf;have hf:found=false:=hf;have hD:D=if(!sel.isEmpty||!skips.isEmpty||!G4 d)then 18 else 0:=by
    simp_all
   refine J ?_ ?_
   .intro h5;have h5:(0:Int)<(sel.map Ar).length:=h5;have h5:sel.isEmpty=false:=by
     grind
    exact C G (show(18:Int)=D by simp_all)
   intro h5;have h5:¬(0:Int)<(sel.map Ar).length:=h5;have h5:sel.isEmpty=true:=by
    simp_all
   refine J ?_ ?_
   .intro h6;have h6:(0:Int)<(skips.map AT).length:=h6;have h6:skips.isEmpty=false:=by
     grind
    exact C G (show(18:Int)=D by simp_all)
   intro h6;have h6:¬(0:Int)<(skips.map AT).length:=h6;have h6:skips.isEmpty=true:=by
    simp_all
   refine Be (Bt (G4 d)) (fun h7=>?_) (fun h7=>?_)
   .rw[h7]at wK;refine C1 (H (wK) ?_);exact C G (show(0:Int)=D by simp_all)
   .rw[h7]at wK;refine C1 (H (wK) ?_);exact C G (show(18:Int)=D by simp_all)
 .rw[AB he]at nB;rw[AO he]at hD;refine Ps Ag2 func49 rfl C4 (U (C1 (H (nB) (U (cU [(8,G (CT x roots infs).2)] [] Z1 X (J ?_ ?_))))))
  .intro _;exact C G hD.symm
  .intro h;exact absurd he h
def Nu(d:List CS):Ar8->Nat
 | []=>0
 |r::l=>(if d.any (fun p=>decide (p=r.path))then 0 else r.reqs.length)+Nu d l
theorem lH(d:List CS)(p:CS):∀l:Ar8,Nu (d++[p]) l<=Nu d l
 | []=>Af _
 |r::l=>by
  have ih:=lH d p l
  grind [Nu]
theorem Sv(d:List CS)(p:CS)(hp:d.any (fun q=>decide (q=p))=false):∀l:Ar8,Nu (d++[p]) l+(ES l p).length<=Nu d l
 | []=>by simp[Nu,ES]
 |r::l=>by
  by_cases hr:r.path=p
  .grind [ES,Nu,lH]
  .have e:ES (r::l) p=ES l p:=by grind [ES]
   rw[e];have ih:=Sv d p hp l
   grind [Nu]
theorem Wt:∀l:Ar8,Nu [] l=(l.map fun r=>r.reqs.length).foldl (·+·) 0
 |l=>by
  have gen:∀(l:Ar8) (a:Nat),(l.map fun r=>r.reqs.length).foldl (·+·) a=a+Nu [] l:=fun l=>by
   induction l<;>grind [Nu]
  simp_all
structure NI(l:Ar8)(roots:Ar9)(d:List CS)(t:Ar9)(n:Nat):Prop where
 need:Fi l (Ho l roots) roots []=Fi l n t d
 pot:t.length+Nu d l+1<=n
section
variable {l:Ar8}{roots t:Ar9}{d:List CS}{n:Nat}
theorem NI.start(l:Ar8)(roots:Ar9):NI l roots [] roots (Ho l roots):=⟨rfl,by grind [Wt,Ho]⟩
theorem NI.stop(h:NI l roots d [] n):Fi l (Ho l roots) roots []=d:=by
 rw[h.need];cases n<;>rfl
theorem NI.old{q:Rq}(h:NI l roots d (q::t) (n+1))(hq:d.any (fun p=>decide (p=q.path))=true):NI l roots d t n:=
 ⟨by rw[h.need];show(if _ then _ else _)=_;simp_all,by have:=h.pot;grind⟩
theorem NI.new{q:Rq}(h:NI l roots d (q::t) (n+1))(hq:d.any (fun p=>decide (p=q.path))=false):NI l roots (d++[q.path]) (t++ES l q.path) n:=
 ⟨by rw[h.need];show(if _ then _ else _)=_;grind,by
  have:=h.pot
  have:=Sv d q.path hq l
  grind⟩
end
abbrev Yu(p:CS):Value×AV:=(.string p,Q true)
theorem UB{a:AV}(h:(Value.string p,a)∈d.map Yu):p∈d/\a=Q true:=by
 grind
theorem PV:(d.any fun q=>decide (q=p))=true↔p∈d:=qd
theorem AaC(hn:(l.map (·.path)).Nodup){i:Nat}(hi:i<l.length):EN ((l.take i).map Pk) (.string l[i].path) (.agg (Ay l[i]))=(l.take (i+1)).map Pk:=by
 rw[IN]
 .rw[DV,Ge hi,Au];rfl
 intro a ha;obtain⟨r,hr,he,_⟩:=UC ha;obtain⟨j,hj,e2⟩:=Fc.1 hr;rw[Bf]at hj;rw[List.getElem_take]at e2
 have:=(List.getElem_inj (xs:=l.map (·.path)) (i:=j) (j:=i) (h₀:=by grind) (h₁:=by simp_all) hn).1 aa0
 omega
theorem pf{x:Ar8}{s:List Sl}(hi:B5 s=true)(h:KC x s=some l):(l.map (·.path)).Nodup:=by
 have e:=(If h).1
 have:l.map (·.path)=s.map (·.path):=by rw[<-e,Bo];rfl
 rw[this];have hp:=(JK hi).1
 grind [CY]
abbrev xV:Of:=⟨[],[(72,2)],[],[(47,[35,10])],[],[],[72],[],[],[],[2,4,5,7,8,10,11,13,14,16,17,20,22,23,24,25,26,27,30]⟩
abbrev qq18:=fun(x:Ar8)=>([(7,.cells [.cmap Zm (x.map Xy),.cmap CU ((AL x []).map (zX x))])]:List (Nat×HO))
abbrev qq19:=fun(nnA:Nat) (l:Ar8) (t:Ar9)=>([(9,sl Ay l),(10,.ref 10 0),(16,.mref 62),(17,.slice (.id nnA 2) (t.map Ak))]:List (Nat×AV))
abbrev qq20:=fun(l:Ar8)=>((13,.clo 53 [.cptr [.cmap CU (l.map Pk)]]):Nat×AV)
theorem c45(x:Ar8)(ifs:C0)(roots:Ar9)(s:List Sl)(VF:pQ x ifs)(hx:∀r∈x,Jz r)(hr:roots.length<=10^6)(zP:∀q∈roots,CC q.set)(hs:s.length<=10^6):H45 x ifs roots s:=by
 have hsf:CC s:=I
 have zO:CC roots:=I
 obtain⟨D,hD⟩:∃D,D=Hc x roots s:=⟨_,rfl⟩;unfold H45;rw[<-hD];unfold Hc at hD
 by_cases h0:AU x=0
 .have VF:PC 51 [Sa x ifs] (.tup [.agg [.cmap Zm (x.map Xy),.cmap CU ((AL x []).map (zX x))],G 0]):=by
   grind
  rw[AB I]at hD;have dk:=c85 x s ((AL x []).map (zX x)) h0 hsf;unfold pe at dk;cases hi:B5 s with
  |false=>
   rw[AO hi]at dk;rw[AO aa0]at hD;refine Ps xV func21 rfl C4 (M 0 (M 0 (U (C1 (H (VF) (U (cU [(1,sl Ak roots),(2,sl Ar s),(7,.ref 7 0),(8,G 0)] (qq18 x) Z4 Z1 (M 0 (J ?_ ?_)))))))))
   .intro h;exact absurd rfl h
   intro _;refine cU [(1,sl Ak roots),(2,sl Ar s),(7,.ref 7 0)] (qq18 x) Z3 Z1 (M 0 (U (C1 (H (dk) (cU [(8,G 1)] [] Z1 X (M 0 (J ?_ ?_)))))))
   .intro _;refine M 0 ?_;exact C G hD.symm
   .intro h;exact absurd (show(1:Int)≠0 by decide) h
  |true=>
   rw[AB aa0]at dk;rw[AB aa0]at hD;cases az:KC x s with
   |none=>
    rw[az]at dk hD;refine Ps xV func21 rfl C4 (M 0 (M 0 (U (C1 (H (VF) (U (cU [(1,sl Ak roots),(2,sl Ar s),(7,.ref 7 0),(8,G 0)] (qq18 x) Z4 Z1 (M 0 (J ?_ ?_)))))))))
    .intro h;exact absurd rfl h
    intro _;refine cU [(1,sl Ak roots),(2,sl Ar s),(7,.ref 7 0)] (qq18 x) Z3 Z1 (M 0 (U (C1 (H (dk) (cU [(8,G 6)] [] Z1 X (M 0 (J ?_ ?_)))))))
    .intro _;refine M 0 ?_;exact C G hD.symm
    .intro h;exact absurd (show(6:Int)≠0 by decide) h
   |some l=>
    rw[az]at dk hD;have VN:=pf hi az;have hll:l.length=s.length:=by rw[<-(If az).1,Lm]
    have hlx:∀r∈l,r∈x:=fun r hr=>(E9 ((If az).2.1 r hr)).2.1;have hlq:∀r∈l,r.reqs.length<=16:=fun r hr=>(JM h0).2 r (hlx r hr);have io:∀q:Rq,CC q.set->PC 53 ([.agg (Ak q)]++[.cptr [.cmap CU (l.map Pk)]]) (Q (Dn l q)):=fun q hq=>c86 l VN q hq;have Jp:CX [.cptr [.cmap CU (l.map Pk)]]:=fun c hc=>by
     obtain rfl:=AA.1 hc;intro h;rfl
    refine Ps xV func21 rfl C4 (M 0 (M 0 (U (C1 (H (VF) (U (cU [(1,sl Ak roots),(2,sl Ar s),(7,.ref 7 0),(8,G 0)] (qq18 x) Z4 Z1 (M 0 (J ?_ ?_)))))))))
    .intro h;exact absurd rfl h
    intro _;refine cU [(1,sl Ak roots),(2,sl Ar s),(7,.ref 7 0)] (qq18 x) Z3 Z1 (M 0 (U (C1 (H (dk) (cU [(1,sl Ak roots),(8,G 0),(9,sl Ay l)] [] Z3 X (M 0 (J ?_ ?_)))))))
    .intro h;exact absurd rfl h
    intro _;refine cU [(1,sl Ak roots),(9,sl Ay l)] [] Z2 X (M 0 (U (cU [(1,sl Ak roots),(9,sl Ay l),(10,.ref 10 0)] [(10,.cells [.mref 35]),(35,.map CU [])] Z3 Z2 (M 0 (M {i:Nat // i<=l.length} (M (fun i=>⟨[(1,sl Ak roots),(9,sl Ay l),(10,.ref 10 0),(36,sl Ay l),(37,G (l.map Ay).length),(38,G i.1)],[(10,.cells [.mref 35]),(35,.map CU ((l.take i.1).map Pk))],Ab⟩) (M (fun i=>l.length-i.1) (J (M ⟨0,Ai _⟩ ?_) ?_))))))))
    .exact⟨Z6,Z2,Fh,X⟩
    intro⟨i,i1⟩;refine M 0 (J ?_ ?_)
    .intro h;have h:(i:Int)<(l.map Ay).length:=h;have h:i<l.length:=aa0
     have hg:l[i]?=some l[i]:=Ge h;refine cU [(1,sl Ak roots),(9,sl Ay l),(10,.ref 10 0),(36,sl Ay l),(37,G (l.map Ay).length),(38,G i)] [(10,.cells [.mref 35]),(35,.map CU ((l.take i).map Pk))] Z6 Z2 (M 0 (M (Ay l[i]) (J (J I aa0) (J rfl ?_))));refine J C4 (U (cU [(1,sl Ak roots),(9,sl Ay l),(10,.ref 10 0),(36,sl Ay l),(37,G (l.map Ay).length),(12,.ref 12 0),(38,G i)] [(12,.cells (Ay l[i])),(10,.cells [.mref 35]),(35,.map CU ((l.take i).map Pk))] Z7 Z3 (M 0 (U ?_))));have e35:=AaC VN h;refine M 0 (J (Ii i I) (M ⟨i+1,by omega⟩ ?_));exact⟨by grind,Z6,⟨Z,⟨Aa (HO.map CU) e35,rfl⟩,X⟩,Fh,X⟩
    intro h;have h:¬(i:Int)<(l.map Ay).length:=h;have h:¬i<l.length:=aa0
    have et:(l.take i).map Pk=l.map Pk:=aa2
    refine cU [(1,sl Ak roots),(9,sl Ay l),(10,.ref 10 0)] [(10,.cells [.mref 35]),(35,.map CU (l.map Pk))] Z3 ⟨Z,⟨Aa (HO.map CU) et,rfl⟩,X⟩ (M 0 (cU [(1,sl Ak roots),(9,sl Ay l),(10,.ref 10 0),(qq20 l)] [(10,.ro [.cmap CU (l.map Pk)])] Z4 Z1 (M 0 (M {i:Nat // i<=l.length/\∀j (hj:j<l.length),j<i->l[j].reqs.any (Dn l)=false} (M (fun i=>⟨[(1,sl Ak roots),(9,sl Ay l),(10,.ref 10 0),(qq20 l),(48,sl Ay l),(49,G (l.map Ay).length),(50,G i.1)],[(10,.ro [.cmap CU (l.map Pk)])],Ab⟩) (M (fun i=>l.length-i.1) (J (M ⟨0,Ai _,fun j _ hj=>absurd hj (Cv j)⟩ ?_) ?_)))))))
    .exact⟨Z7,Z1,Fh,X⟩
    intro⟨i,i1,i2⟩;have i1:i<=l.length:=i1;refine M 0 (J ?_ ?_)
    .intro h;have h:(i:Int)<(l.map Ay).length:=h;have h:i<l.length:=I
     have hg:l[i]?=some l[i]:=Ge h;have LU:PC 56 [sl Ak l[i].reqs,.clo 53 [.cptr [.cmap CU (l.map Pk)]]] (Q (l[i].reqs.any (Dn l))):=c89 Jp l[i].reqs (Dn l) (fun q hq=>io q ((hx _ (hlx _ (Am h))).2 q hq).1) aa2;refine cU [(1,sl Ak roots),(9,sl Ay l),(10,.ref 10 0),(qq20 l),(48,sl Ay l),(49,G (l.map Ay).length),(50,G i)] [(10,.ro [.cmap CU (l.map Pk)])] Z7 Z1 (M 0 (M (Ay l[i]) (J (J I aa0) (J rfl ?_))));refine J C4 (U (cU [(1,sl Ak roots),(9,sl Ay l),(10,.ref 10 0),(qq20 l),(48,sl Ay l),(49,G (l.map Ay).length),(15,.ref 15 0),(50,G i)] [(10,.ro [.cmap CU (l.map Pk)]),(15,.cells (Ay l[i]))] Z8 Z2 (M 0 (Be (Bt (l[i].reqs.any (Dn l))) (fun hb=>?_) (fun hb=>?_)))))
     .rw[hb]at LU;refine C1 (H (LU) (M 0 ?_));have ha:l.any (fun r=>r.reqs.any (Dn l))=true:=Cs.2 ⟨l[i],Am h,hb⟩;exact C G (show(17:Int)=D by simp_all)
     .rw[hb]at LU;refine C1 (H (LU) (M 0 (J (by grind [As]) (M ⟨i+1,by omega,fun j hj IY=>?_⟩ ?_))))
      .grind
      exact⟨by grind,Z7,Z1,Fh,X⟩
    intro h;have h:¬(i:Int)<(l.map Ay).length:=h;have h:¬i<l.length:=aa0
    have ha:l.any (fun r=>r.reqs.any (Dn l))=false:=by
     grind [List.mem_iff_getElem]
    have hD:D=if roots.any (Dn l)then 17 else if(Fi l (Ho l roots) roots []).length<l.length then 8 else 0:=aa0
    have LU:PC 56 [sl Ak roots,.clo 53 [.cptr [.cmap CU (l.map Pk)]]] (Q (roots.any (Dn l))):=c89 Jp roots (Dn l) (fun q hq=>io q (zP q hq)) zO;refine cU [(1,sl Ak roots),(9,sl Ay l),(10,.ref 10 0),(qq20 l)] [(10,.ro [.cmap CU (l.map Pk)])] Z4 Z1 (M 0 (Be (Bt (roots.any (Dn l))) (fun hb=>?_) (fun hb=>?_)))
    .rw[hb]at LU;refine C1 (H (LU) (M 0 ?_));exact C G (show(17:Int)=D by simp_all)
    rw[hb]at LU;have hD:D=if(Fi l (Ho l roots) roots []).length<l.length then 8 else 0:=aa0
    refine C1 (H (LU) (cU [(1,sl Ak roots),(9,sl Ay l),(10,.ref 10 0)] [(10,.ro [.cmap CU (l.map Pk)])] Z3 Z1 (M 0 (cU [(1,sl Ak roots),(9,sl Ay l),(10,.ref 10 0),(16,.mref 62)] [(10,.ro [.cmap CU (l.map Pk)]),(62,.map CU [])] Z4 Z2 (M 0 (M (.gen [] 1) (J rfl ((Aes roots zO).imp ?_))))))));intro v g q;have q1:=q.1;have q2:=q.2;subst q1;subst q2
    clear q
    have Anj:Nu [] l<=16*l.length:=by
     have gen:∀l:Ar8,(∀r∈l,r.reqs.length<=16)->Nu [] l<=16*l.length:=fun l=>by
      induction l with
      |nil=>intro _;exact Af _
      |cons r l ih=>
       grind [Nu]
     grind
    have hfu:Ho l roots<=roots.length+16*l.length+1:=by grind [Ho,Wt]
    refine M {p:List CS×Ar9×Nat×Bool // NI l roots p.1 p.2.1 p.2.2.1/\p.2.2.1<=Ho l roots} (M (fun p=>⟨[(9,sl Ay l),(10,.ref 10 0),(16,.mref 62),(17,.slice (.id (bif p.1.2.2.2 then 16400 else 201) 2) (p.1.2.1.map Ak))],[(10,.ro [.cmap CU (l.map Pk)]),(62,.map CU (p.1.1.map Yu)),(16400,bif p.1.2.2.2 then .tok 2 (p.1.2.1.map Ak).length else .free),(201,bif p.1.2.2.2 then .free else .tok 2 (p.1.2.1.map Ak).length)],Ab⟩) (M (fun p=>p.1.2.2.1) (J (M ⟨([],roots,Ho l roots,true),NI.start l roots,Af _⟩ ?_) ?_)))
    .exact⟨Z4,Z4,Fh,X⟩
    intro⟨⟨d,t,n,b⟩,ni,nf⟩;have ni:NI l roots d t n:=ni;have nf:n<=Ho l roots:=nf;refine Be (Bt b) (fun eb=>?_) (fun eb=>?_)
    .refine M ⟨(qq19 16400 l t),[(10,.ro [.cmap CU (l.map Pk)]),(62,.map CU (d.map Yu)),(16400,.tok 2 (t.map Ak).length)],Ab⟩ (J ⟨⟨Z,Z,Z,⟨by show AV.slice (.id (bif b then 16400 else 201) 2) (t.map Ak)=_;simp_all,rfl⟩,X⟩,⟨Z,Z,⟨by show(bif b then HO.tok 2 (t.map Ak).length else HO.free)=_;simp_all,rfl⟩,X⟩,Fh,X⟩ ?_)
     refine M 0 (J ?_ ?_)
     .intro h;have h:(0:Int)<(t.map Ak).length:=h;refine AE (show ∃q t',t=q::t' by cases t<;>simp_all) (fun q hq=>?_)
      refine AE hq (fun t' hq=>?_);refine AE (show ∃m,n=m+1 from⟨n-1,by have:=ni.pot;omega⟩) (fun m hm'=>?_);have ni:NI l roots d (q::t') (m+1):=hq▸hm'▸ni;have Aky:=ni.pot;have wW:(t.map Ak)[(0:Int).toNat]?=some (Ak q):=aa0
      refine M ⟨(qq19 16400 l t),[(10,.ro [.cmap CU (l.map Pk)]),(62,.map CU (d.map Yu)),(16400,.tok 2 (t.map Ak).length)],Ab⟩ (J ⟨Z4,Z3,Fh,X⟩ (M 0 (M (Ak q) (J (J aa3 wW) (J rfl (J C4 (U (cU [(9,sl Ay l),(10,.ref 10 0),(16,.mref 62),(17,.slice (.id 16400 2) (t.map Ak)),(18,.ref 18 0)] [(10,.ro [.cmap CU (l.map Pk)]),(62,.map CU (d.map Yu)),(16400,.tok 2 (t.map Ak).length),(18,.cells (Ak q))] Z5 Z4 (M 201 ?_)))))))));have htl:1<=(t.map Ak).length:=I
      refine J (J rfl (J aa3 I)) ?_;have ed:(t.map Ak).drop (1:Int).toNat=t'.map Ak:=aa0
      refine cU [(9,sl Ay l),(10,.ref 10 0),(16,.mref 62),(17,.slice (.id 201 2) (t'.map Ak)),(18,.ref 18 0)] [(10,.ro [.cmap CU (l.map Pk)]),(62,.map CU (d.map Yu)),(201,.tok 2 (t'.map Ak).length),(18,.cells (Ak q))] ⟨Z,Z,Z,⟨Aa (AV.slice (.id 201 2)) ed,rfl⟩,Z,X⟩ ⟨Z,Z,⟨Aa (fun e:C0=>HO.tok 2 e.length) ed,rfl⟩,Z,X⟩ (M 0 (J ?_ ?_))
      .intro a ha;refine AE (show ∃u,u=()from⟨(),rfl⟩) (fun _ _=>?_);have e:=(UB ha).2;subst e;have ho:=PV.2 (UB ha).1;have iK:=ni.old ho;refine M ⟨(d,t',m,false),iK,by grind⟩ ?_;exact⟨by simp_all,Z4,Z4,Fh,X⟩
      intro OB;have ho:d.any (fun p=>decide (p=q.path))=false:=by
       rw[Bg];intro hc;exact OB (Q true) (Ap.2 ⟨q.path,PV.1 hc,rfl⟩)
      have iK:=ni.new ho;have dz:=iK.pot;refine M 0 ?_;have e62:EN (d.map Yu) (.string q.path) (Q true)=(d++[q.path]).map Yu:=by rw[IN OB,Au];rfl
      refine M 0 (J ?_ ?_)
      .intro a ha;refine AE (UC ha) (fun r ay=>?_);have e:=ay.2.2;subst e;have hro:ES l q.path=r.reqs:=by
        unfold ES;rw[<-ay.2.1,KY VN ay.1]
       rw[hro]at iK dz;have hrl:=hlq r ay.1;have El:Cq 2 (r.reqs.map Ak)/\(t'.map Ak).length=(t'.map Ak).length/\((t'.map Ak).length+(r.reqs.map Ak).length)*40<=2^47/\(t'.map Ak).length+(r.reqs.map Ak).length<=2^63-1:=
        ⟨DK (enc:=Ak) (n:=2) (fun _=>rfl) r.reqs,rfl,by grind,by grind⟩
       refine J El ?_;have e17:AV.slice (.id 201 2) (t'.map Ak++r.reqs.map Ak)=.slice (.id 201 2) ((t'++r.reqs).map Ak):=aa0
       have o17:HO.tok 2 ((t'.map Ak).length+(r.reqs.map Ak).length)=.tok 2 ((t'++r.reqs).map Ak).length:=aa0
       refine M ⟨(d++[q.path],t'++r.reqs,m,false),iK,by grind⟩ ?_;exact⟨by simp_all,⟨Z,Z,Z,⟨e17,rfl⟩,X⟩,⟨Z,⟨Aa (HO.map CU) e62,rfl⟩,Z,⟨o17,rfl⟩,X⟩,Fh,X⟩
      intro hnb;have hro:ES l q.path=[]:=by
       unfold ES
       grind
      rw[hro]at iK dz;have El:Cq 2 []/\(t'.map Ak).length=(t'.map Ak).length/\((t'.map Ak).length+([]:C0).length)*40<=2^47/\(t'.map Ak).length+([]:C0).length<=2^63-1:=
       ⟨trivial,rfl,by grind,by grind⟩
      refine J El ?_;have e17:AV.slice (.id 201 2) (t'.map Ak++[])=.slice (.id 201 2) ((t'++[]).map Ak):=aa0
      have o17:HO.tok 2 ((t'.map Ak).length+([]:C0).length)=.tok 2 ((t'++[]).map Ak).length:=aa0
      refine M ⟨(d++[q.path],t'++[],m,false),iK,by grind⟩ ?_;exact⟨by simp_all,⟨Z,Z,Z,⟨e17,rfl⟩,X⟩,⟨Z,⟨Aa (HO.map CU) e62,rfl⟩,Z,⟨o17,rfl⟩,X⟩,Fh,X⟩
     intro h;have h:¬(0:Int)<(t.map Ak).length:=h;have ht0:t=[]:=by
      simp_all
     have Akk:Fi l (Ho l roots) roots []=d:=(ht0▸ni).stop;have hD:D=if d.length<l.length then 8 else 0:=aa0
     refine cU [(9,sl Ay l),(16,.mref 62)] [(62,.map CU (d.map Yu))] Z2 Z1 (M 0 (J ?_ ?_))
     .intro h;have h:((d.map Yu).length:Int)<((l.map Ay).length:Int):=h;have h:d.length<l.length:=aa0
      refine M 0 ?_;exact C G (show(8:Int)=D by omega)
     .intro h;have h:¬((d.map Yu).length:Int)<((l.map Ay).length:Int):=h;have h:¬d.length<l.length:=aa0
      refine M 0 ?_;exact C G (show(0:Int)=D by omega)
    .refine M ⟨(qq19 201 l t),[(10,.ro [.cmap CU (l.map Pk)]),(62,.map CU (d.map Yu)),(201,.tok 2 (t.map Ak).length)],Ab⟩ (J ⟨⟨Z,Z,Z,⟨by show AV.slice (.id (bif b then 16400 else 201) 2) (t.map Ak)=_;simp_all,rfl⟩,X⟩,⟨Z,Z,⟨by show(bif b then HO.free else HO.tok 2 (t.map Ak).length)=_;simp_all,rfl⟩,X⟩,Fh,X⟩ ?_)
     refine M 0 (J ?_ ?_)
     .intro h;have h:(0:Int)<(t.map Ak).length:=h;refine AE (show ∃q t',t=q::t' by cases t<;>simp_all) (fun q hq=>?_)
      refine AE hq (fun t' hq=>?_);refine AE (show ∃m,n=m+1 from⟨n-1,by have:=ni.pot;omega⟩) (fun m hm'=>?_);have ni:NI l roots d (q::t') (m+1):=hq▸hm'▸ni;have Aky:=ni.pot;have wW:(t.map Ak)[(0:Int).toNat]?=some (Ak q):=aa0
      refine M ⟨(qq19 201 l t),[(10,.ro [.cmap CU (l.map Pk)]),(62,.map CU (d.map Yu)),(201,.tok 2 (t.map Ak).length)],Ab⟩ (J ⟨Z4,Z3,Fh,X⟩ (M 0 (M (Ak q) (J (J aa3 wW) (J rfl (J C4 (U (cU [(9,sl Ay l),(10,.ref 10 0),(16,.mref 62),(17,.slice (.id 201 2) (t.map Ak)),(18,.ref 18 0)] [(10,.ro [.cmap CU (l.map Pk)]),(62,.map CU (d.map Yu)),(201,.tok 2 (t.map Ak).length),(18,.cells (Ak q))] Z5 Z4 (M 16400 ?_)))))))));have htl:1<=(t.map Ak).length:=I
      refine J (J rfl (J aa3 I)) ?_;have ed:(t.map Ak).drop (1:Int).toNat=t'.map Ak:=aa0
      refine cU [(9,sl Ay l),(10,.ref 10 0),(16,.mref 62),(17,.slice (.id 16400 2) (t'.map Ak)),(18,.ref 18 0)] [(10,.ro [.cmap CU (l.map Pk)]),(62,.map CU (d.map Yu)),(16400,.tok 2 (t'.map Ak).length),(18,.cells (Ak q))] ⟨Z,Z,Z,⟨Aa (AV.slice (.id 16400 2)) ed,rfl⟩,Z,X⟩ ⟨Z,Z,⟨Aa (fun e:C0=>HO.tok 2 e.length) ed,rfl⟩,Z,X⟩ (M 0 (J ?_ ?_))
      .intro a ha;refine AE (show ∃u,u=()from⟨(),rfl⟩) (fun _ _=>?_);have e:=(UB ha).2;subst e;have ho:=PV.2 (UB ha).1;have iK:=ni.old ho;refine M ⟨(d,t',m,true),iK,by grind⟩ ?_;exact⟨by simp_all,Z4,Z4,Fh,X⟩
      intro OB;have ho:d.any (fun p=>decide (p=q.path))=false:=by
       rw[Bg];intro hc;exact OB (Q true) (Ap.2 ⟨q.path,PV.1 hc,rfl⟩)
      have iK:=ni.new ho;have dz:=iK.pot;refine M 0 ?_;have e62:EN (d.map Yu) (.string q.path) (Q true)=(d++[q.path]).map Yu:=by rw[IN OB,Au];rfl
      refine M 0 (J ?_ ?_)
      .intro a ha;refine AE (UC ha) (fun r ay=>?_);have e:=ay.2.2;subst e;have hro:ES l q.path=r.reqs:=by
        unfold ES;rw[<-ay.2.1,KY VN ay.1]
       rw[hro]at iK dz;have hrl:=hlq r ay.1;have El:Cq 2 (r.reqs.map Ak)/\(t'.map Ak).length=(t'.map Ak).length/\((t'.map Ak).length+(r.reqs.map Ak).length)*40<=2^47/\(t'.map Ak).length+(r.reqs.map Ak).length<=2^63-1:=
        ⟨DK (enc:=Ak) (n:=2) (fun _=>rfl) r.reqs,rfl,by grind,by grind⟩
       refine J El ?_;have e17:AV.slice (.id 16400 2) (t'.map Ak++r.reqs.map Ak)=.slice (.id 16400 2) ((t'++r.reqs).map Ak):=aa0
       have o17:HO.tok 2 ((t'.map Ak).length+(r.reqs.map Ak).length)=.tok 2 ((t'++r.reqs).map Ak).length:=aa0
       refine M ⟨(d++[q.path],t'++r.reqs,m,true),iK,by grind⟩ ?_;exact⟨by simp_all,⟨Z,Z,Z,⟨e17,rfl⟩,X⟩,⟨Z,⟨Aa (HO.map CU) e62,rfl⟩,⟨o17,rfl⟩,Z,X⟩,Fh,X⟩
      intro hnb;have hro:ES l q.path=[]:=by
       unfold ES
       grind
      rw[hro]at iK dz;have El:Cq 2 []/\(t'.map Ak).length=(t'.map Ak).length/\((t'.map Ak).length+([]:C0).length)*40<=2^47/\(t'.map Ak).length+([]:C0).length<=2^63-1:=
       ⟨trivial,rfl,by grind,by grind⟩
      refine J El ?_;have e17:AV.slice (.id 16400 2) (t'.map Ak++[])=.slice (.id 16400 2) ((t'++[]).map Ak):=aa0
      have o17:HO.tok 2 ((t'.map Ak).length+([]:C0).length)=.tok 2 ((t'++[]).map Ak).length:=aa0
      refine M ⟨(d++[q.path],t'++[],m,true),iK,by grind⟩ ?_;exact⟨by simp_all,⟨Z,Z,Z,⟨e17,rfl⟩,X⟩,⟨Z,⟨Aa (HO.map CU) e62,rfl⟩,⟨o17,rfl⟩,Z,X⟩,Fh,X⟩
     intro h;have h:¬(0:Int)<(t.map Ak).length:=h;have ht0:t=[]:=by
      simp_all
     have Akk:Fi l (Ho l roots) roots []=d:=(ht0▸ni).stop;have hD:D=if d.length<l.length then 8 else 0:=aa0
     refine cU [(9,sl Ay l),(16,.mref 62)] [(62,.map CU (d.map Yu))] Z2 Z1 (M 0 (J ?_ ?_))
     .intro h;have h:((d.map Yu).length:Int)<((l.map Ay).length:Int):=h;have h:d.length<l.length:=aa0
      refine M 0 ?_;exact C G (show(8:Int)=D by omega)
     .intro h;have h:¬((d.map Yu).length:Int)<((l.map Ay).length:Int):=h;have h:¬d.length<l.length:=aa0
      refine M 0 ?_;exact C G (show(0:Int)=D by omega)
 .have VF:PC 51 [Sa x ifs] (.tup [.agg [.cmap Zm [],.cmap CU []],G (AU x)]):=by
   grind
  rw[AO h0]at hD;refine Ps xV func21 rfl C4 (M 0 (M 0 (U (C1 (H (VF) (U (cU [(8,G (AU x))] [] Z1 X (M 0 (J ?_ ?_)))))))))
  .intro _;refine M 0 ?_;exact C G hD.symm
  .intro h;exact absurd h0 h
structure mD(x:Ar8)(roots:Ar9):Prop where
 ix:CC x
 rs:CC roots
 rel:∀r∈x,CC r.reqs/\Jz r
 rq:∀q∈roots,J5 q
theorem mD.x{x:Ar8}{roots:Ar9}(h:mD x roots):∀r∈x,Jz r:=fun r hr=>(h.rel r hr).2
theorem mD.c84{x:Ar8}{roots:Ar9}(h:mD x roots)(ifs:C0):pQ x ifs:=Go.Eng.c84 x ifs h.x
theorem Ya{x:Ar8}(h:(SI x 16&&Ef roots)=true):roots.length<=20:=by
 grind [Ef]
theorem SJ{a:An}(h:fK a=true):a.sel.length<=16/\a.skips.length<=100/\a.infs.length<=400:=by
 grind [fK]
theorem mD.c45{x:Ar8}{roots:Ar9}(h:mD x roots)(ifs:C0)(hf:(SI x 16&&Ef roots)=true)(s:List Sl)(hs:s.length<=10^6):H45 x ifs roots s:=
 Go.Eng.c45 x ifs roots s (h.c84 ifs) h.x (by grind [Ya]) (fun q hq=>(h.rq q hq).1) hs
theorem mD.c21{x:Ar8}{roots:Ar9}(h:mD x roots)(ifs:C0)(hf:(SI x 16&&Ef roots)=true)(a:An)(ha:fK a=true):PC 49 [Sa x ifs,sl Ak roots,.agg (KU a)] (G (HT x roots a)):=
 Go.Eng.c21 x ifs roots a (h.c84 ifs) (h.c45 ifs hf a.sel (by grind [SJ])) h.x h.rq (by grind [SJ]) (by have:=(SJ ha).2.1;omega)
abbrev JG(n:Int):List AV:=[G n]
abbrev Jk(b:Bool):List AV:=[Q b]
structure Clo(l:Ar8)(roots:Ar9)(Cl:List CS):Prop where
 root:∀q∈roots,q.path∈Cl
 req:∀r∈l,r.path∈Cl->∀q∈r.reqs,q.path∈Cl
theorem Si{l:Ar8}:∀{n:Nat} {t:Ar9} {d:List CS},t.length+Nu d l+1<=n->(∀p∈d,∀q∈ES l p,q.path∈d\/∃u∈t,u.path=q.path) ->
  (∀p∈d,p∈Fi l n t d)/\(∀u∈t,u.path∈Fi l n t d)/\∀p∈Fi l n t d,∀q∈ES l p,q.path∈Fi l n t d
 |0,_,_,h,_=>by omega
 |n+1,[],d,_,hc=>by
  grind [Fi]
 |n+1,q::t,d,h,hc=>by
  simp only[AK]at h;cases hq:d.any (fun p=>decide (p=q.path))with
  |true=>
   have e:Fi l (n+1) (q::t) d=Fi l n t d:=by show(if _ then _ else _)=_;simp_all
   rw[e];have hm:=PV.1 hq;obtain⟨i1,i2,i3⟩:=Si (l:=l) (n:=n) (t:=t) (d:=d) I (fun p hp u hu=>by
    rcases hc p hp u hu with h | ⟨v,hv,ev⟩
    .exact .inl h
    .rcases AJ.1 hv with hv | hv
     .exact .inl (by rw[<-ev,hv];exact hm)
     .exact .inr ⟨v,hv,ev⟩)
   exact⟨i1,fun u hu=>(AJ.1 hu).elim (fun eu=>by rw[eu];exact i1 _ hm) (i2 u),i3⟩
  |false=>
   have e:Fi l (n+1) (q::t) d=Fi l n (t++ES l q.path) (d++[q.path]):=by show(if _ then _ else _)=_;grind
   rw[e];have hp:=Sv d q.path hq l;obtain⟨i1,i2,i3⟩:=Si (l:=l) (n:=n) (t:=t++ES l q.path) (d:=d++[q.path]) (by rw[Ac];omega) (fun p hp u hu=>by
    rcases Bh.1 hp with hp | hp
    .rcases hc p hp u hu with h | ⟨v,hv,ev⟩
     .exact .inl (Bq _ h)
     .rcases AJ.1 hv with hv | hv
      .exact .inl (by rw[<-ev,hv];simp)
      .exact .inr ⟨v,Bq _ hv,ev⟩
    .rw[AA.1 hp]at hu;exact .inr ⟨u,BZ _ hu,rfl⟩)
   exact⟨fun p hp=>i1 p (Bq _ hp),fun u hu=>(AJ.1 hu).elim (fun eu=>by rw[eu];exact i1 _ aa1) (fun hu=>i2 u (Bq _ hu)),i3⟩
abbrev sy(l:Ar8)(roots:Ar9):List CS:=Fi l (Ho l roots) roots []
theorem jd(hn:(l.map (·.path)).Nodup){r:F}(hr:r∈l):ES l r.path=r.reqs:=by unfold ES;rw[KY hn hr]
theorem om(hn:(l.map (·.path)).Nodup):Clo l roots (sy l roots):=by
 obtain⟨_,h2,h3⟩:=Si (l:=l) (n:=Ho l roots) (t:=roots) (d:=[]) (by grind [Wt,Ho]) (fun p hp=>by cases hp);exact⟨h2,fun r hr hp q hq=>h3 _ hp q (by grind [jd])⟩
end Go.Eng
