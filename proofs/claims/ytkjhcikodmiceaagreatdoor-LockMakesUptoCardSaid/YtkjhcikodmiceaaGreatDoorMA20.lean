/- Lemmas 20. -/
import Derived.Test.YtkjhcikodmiceaaGreatDoorMA19
import Derived.Test.YtkjhcikodmiceaaGreatDoorMA03
namespace Go.Eng
open Go.Proofs Go.Proofs.Tryz
variable {d:List CS}{p:CS}{roots:List Rq}{l:List Rl}(c:UInt8)(s:CS)
theorem Su{x:List Rl}{roots:List Rq}{l0:List Nf}:∀(l:List Nf) (d d' : List (List Tm)),(∀i∈l,i∈l0)->(∀t∈d,Si (HM x roots l0) t)->BI x roots l d=some d'->∀t∈d',Si (HM x roots l0) t
 | [],d,d',_,hd,h=>by
  have:d=d':=D5 h
  simp_all
 |i::l,d,d',hi,hd,h=>by
  unfold BI at h;cases e:AR x roots d i with
  |none=>simp_all
  |some t=>
   rw[e]at h;refine Su l (d++[t]) d' (fun j hj=>hi j (Aj _ hj)) (fun u hu=>?_) h
   grind [NE,List.mem_cons_self]
theorem Sv{x:List Rl}{l:List Nf}(h:(A5 x roots l).2=0):∀t∈(A5 x roots l).1,Rb t:=fun t ht=>by
 obtain⟨h1,h2,h3,h4⟩:=J5 h
 have:=(Su (l0:=l) l [] _ (fun _ h=>h) (fun _ h=>by cases h) h4 t ht).fewI (L1 h1 h2 h3)
 grind
abbrev Abd:Ns:=(pC [7] [2,4,8,10,11,12,13])
theorem c21(x:List Rl)(ifs:C0)(roots:List Rq)(a:An)(UI:lR x ifs)(wv:H45 x ifs roots a.sel)(hx:∀r∈x,Eo r)(hr:∀q∈roots,G5 q)(hs:a.sel.length<=500)(hk:BF a.skips):PC 49 [GM x ifs,sl Ac roots,.agg (Gl a)] (G (Di x roots a)):=by
 obtain⟨found,sel,infs,skips⟩:=a;have Td:=c36 x ifs roots infs hx hr (fun _=>Adv x ifs roots UI);unfold gy at Td;obtain⟨D,hD⟩:∃D,D=Di x roots ⟨found,sel,infs,skips⟩:=⟨_,rfl⟩;rw[<-hD];unfold Di at hD
 by_cases he:(A5 x roots infs).2=0
 .rw[A1 he]at Td;rw[AL aa0]at hD;obtain⟨h1,h2,h3,h4⟩:=J5 he;have hdf:=Sv he;have hdl:(A5 x roots infs).1.length<=65536:=Ul;obtain⟨d,hd⟩:∃d,d=(A5 x roots infs).1:=⟨_,rfl⟩;rw[<-hd]at hD Td hdf hdl;have rW:=c40 x (.slice .none ifs) roots d Wk;refine Ps Abd func49 rfl C4 (yN (C1 (U (Td) (yN (cU [(1,sl Ac roots),(3,.ref 3 0),(5,.ref 5 0),(7,.ref 7 0),(8,G 0)] [(3,.cells (Ic x ifs)),(5,.cells [I found,sl Ae sel,sl AG infs,sl N skips]),(7,.ro [.cptr (Cz x (.slice .none ifs) roots d)])] Z5 Z3 (J ?_ ?_))))))
  .intro h;exact absurd rfl h
  intro _;refine cU [(1,sl Ac roots),(3,.ref 3 0),(5,.ref 5 0),(7,.ref 7 0)] [(3,.cells (Ic x ifs)),(5,.cells [I found,sl Ae sel,sl AG infs,sl N skips]),(7,.ro [.cptr (Cz x (.slice .none ifs) roots d)])] Z4 Z3 (J ?_ ?_)
  .intro hf;have hf:found=true:=hf;have hD:D=if Do x roots sel≠0 then 18 else if(((visits x roots sel).1.foldl (Cf x d) (true,skips)).1&&((visits x roots sel).1.foldl (Cf x d) (true,skips)).2.isEmpty)then 0 else 18:=by
    simp_all
   refine cU [(1,sl Ac roots),(3,.ref 3 0),(5,.ref 5 0),(7,.ref 7 0)] [(3,.cells (Ic x ifs)),(5,.cells [I found,sl Ae sel,sl AG infs,sl N skips]),(7,.ro [.cptr (Cz x (.slice .none ifs) roots d)])] Z4 Z3 (yN (C1 (U (wv) (J ?_ ?_))))
   .intro hz;have hz:Do x roots sel≠0:=hz;exact E G (show(18:Int)=D by omega)
   intro hz;have hz:¬Do x roots sel≠0:=hz;have hD:D=if(((visits x roots sel).1.foldl (Cf x d) (true,skips)).1&&((visits x roots sel).1.foldl (Cf x d) (true,skips)).2.isEmpty)then 0 else 18:=Wk
   have hcd:=Ae3 x ifs roots d sel (true,skips) UI h1 hx (by grind [Lt]) (fun q hq=>(hr q hq).1) hs hdl hdf;refine cU [(5,.ref 5 0),(7,.ref 7 0)] [(5,.cells [I found,sl Ae sel,sl AG infs,sl N skips]),(7,.ro [.cptr (Cz x (.slice .none ifs) roots d)])] Z2 Z2 (yN (cU [(5,.ref 5 0),(7,.ref 7 0),(9,.ref 9 0)] [(5,.cells [I found,sl Ae sel,sl AG infs,sl N skips]),(7,.ro [.cptr (Cz x (.slice .none ifs) roots d)]),(9,.cells [I true])] Z3 Z3 (yN (cU [(5,.ref 5 0),(7,.ref 7 0),(9,.ref 9 0),(10,.ref 10 0)] [(5,.cells [I found,sl Ae sel,sl AG infs,sl N skips]),(7,.ro [.cptr (Cz x (.slice .none ifs) roots d)]),(9,.cells [I true]),(10,.cells [sl N skips])] Z4 Z4 (Z (.gen [(10,1000),(9,1001)] 0) (J rfl (hcd.imp ?_)))))));intro v g q;have q1:=q.1;have q2:=q.2;subst q1;subst q2;refine Al (show ∃A,A=(visits x roots sel).1.foldl (Cf x d) (true,skips)from⟨_,rfl⟩) (fun A hA=>?_);refine cU [(9,.ref 9 0),(10,.ref 10 0)] [(9,.cells [I A.1]),(10,.cells [sl N A.2])] Z2 ⟨⟨Aa (fun a:Bool×List Sk=>HO.cells [I a.1]) hA.symm,rfl⟩,⟨Aa (fun a:Bool×List Sk=>HO.cells [sl N a.2]) hA.symm,rfl⟩,W⟩ ?_
   rw[<-hA]at hD;refine J ?_ ?_
   .intro h5;have h5:A.1=true:=h5;refine J ?_ ?_
    .intro h6;have h6:(0:Int)<(A.2.map N).length:=h6;have h6:A.2.isEmpty=false:=by
      grind
     exact E G (show(18:Int)=D by simp_all)
    .intro h6;have h6:¬(0:Int)<(A.2.map N).length:=h6;have h6:A.2.isEmpty=true:=by
      simp_all
     exact E G (show(0:Int)=D by simp_all)
   .intro h5;have h5:A.1=false:=h5;exact E G (show(18:Int)=D by simp_all)
  .intro hf;have hf:found=false:=hf;have hD:D=if(!sel.isEmpty||!skips.isEmpty||!EN d)then 18 else 0:=by
    simp_all
   refine J ?_ ?_
   .intro h5;have h5:(0:Int)<(sel.map Ae).length:=h5;have h5:sel.isEmpty=false:=by
     grind
    exact E G (show(18:Int)=D by simp_all)
   intro h5;have h5:¬(0:Int)<(sel.map Ae).length:=h5;have h5:sel.isEmpty=true:=by
    simp_all
   refine J ?_ ?_
   .intro h6;have h6:(0:Int)<(skips.map N).length:=h6;have h6:skips.isEmpty=false:=by
     grind
    exact E G (show(18:Int)=D by simp_all)
   intro h6;have h6:¬(0:Int)<(skips.map N).length:=h6;have h6:skips.isEmpty=true:=by
    simp_all
   refine Ay (Bt (EN d)) (fun h7=>?_) (fun h7=>?_)
   .rw[h7]at rW;refine C1 (U (rW) ?_);exact E G (show(0:Int)=D by simp_all)
   .rw[h7]at rW;refine C1 (U (rW) ?_);exact E G (show(18:Int)=D by simp_all)
 .rw[AL he]at Td;rw[A1 he]at hD;refine Ps Abd func49 rfl C4 (yN (C1 (U (Td) (yN (cU [(8,G (A5 x roots infs).2)] [] Z1 W (J ?_ ?_))))))
  .intro _;exact E G hD.symm
  .intro h;exact absurd he h
def Nb(d:List CS):List Rl->Nat
 | []=>0
 |r::l=>(if d.any (fun p=>decide (p=r.path))then 0 else r.reqs.length)+Nb d l
theorem iG(d:List CS)(p:CS):∀l:List Rl,Nb (d++[p]) l<=Nb d l
 | []=>Ao _
 |r::l=>by
  have ih:=iG d p l
  grind [Nb]
theorem RL(d:List CS)(p:CS)(hp:d.any (fun q=>decide (q=p))=false):∀l:List Rl,Nb (d++[p]) l+(Fj l p).length<=Nb d l
 | []=>by simp[Nb,Fj]
 |r::l=>by
  by_cases hr:r.path=p
  .grind [Fj,Nb,iG]
  .have e:Fj (r::l) p=Fj l p:=by grind [Fj]
   rw[e];have ih:=RL d p hp l
   grind [Nb]
theorem VB:∀l:List Rl,Nb [] l=(l.map fun r=>r.reqs.length).foldl (·+·) 0
 |l=>by
  have gen:∀(l:List Rl) (a:Nat),(l.map fun r=>r.reqs.length).foldl (·+·) a=a+Nb [] l:=fun l=>by
   induction l<;>grind [Nb]
  simp_all
structure NI(l:List Rl)(roots:List Rq)(d:List CS)(t:List Rq)(n:Nat):Prop where
 need:FD l (HU l roots) roots []=FD l n t d
 pot:t.length+Nb d l+1<=n
section
variable {l:List Rl}{roots t:List Rq}{d:List CS}{n:Nat}
theorem NI.start(l:List Rl)(roots:List Rq):NI l roots [] roots (HU l roots):=⟨rfl,by grind [VB,HU]⟩
theorem NI.stop(h:NI l roots d [] n):FD l (HU l roots) roots []=d:=by
 rw[h.need];cases n<;>rfl
theorem NI.old{q:Rq}(h:NI l roots d (q::t) (n+1))(hq:d.any (fun p=>decide (p=q.path))=true):NI l roots d t n:=
 ⟨by rw[h.need];show(if _ then _ else _)=_;simp_all,by have:=h.pot;grind⟩
theorem NI.new{q:Rq}(h:NI l roots d (q::t) (n+1))(hq:d.any (fun p=>decide (p=q.path))=false):NI l roots (d++[q.path]) (t++Fj l q.path) n:=
 ⟨by rw[h.need];show(if _ then _ else _)=_;grind,by
  have:=h.pot
  have:=RL d q.path hq l
  grind⟩
end
abbrev Xu(p:CS):Value×AV:=(.string p,I true)
theorem TB{a:AV}(h:(Value.string p,a)∈d.map Xu):p∈d/\a=I true:=by
 grind
theorem JF:(d.any fun q=>decide (q=p))=true↔p∈d:=me
theorem vC(hn:(l.map (·.path)).Nodup){i:Nat}(hi:i<l.length):Fc ((l.take i).map M1) (.string l[i].path) (.agg (V l[i]))=(l.take (i+1)).map M1:=by
 rw[Jd]
 .rw[Dv,Ge hi,Bl];rfl
 intro a ha;obtain⟨r,hr,he,_⟩:=TC ha;obtain⟨j,hj,e2⟩:=CG.1 hr;rw[BX]at hj;rw[List.getElem_take]at e2
 have:=(List.getElem_inj (xs:=l.map (·.path)) (i:=j) (j:=i) (h₀:=by grind) (h₁:=by simp_all) hn).1 aa0
 omega
theorem XM{x:List Rl}{s:List Sl}(hi:Be s=true)(h:F9 x s=some l):(l.map (·.path)).Nodup:=by
 have e:=(FP h).1
 have:l.map (·.path)=s.map (·.path):=by rw[<-e,BH];rfl
 rw[this];have hp:=(HI hi).1
 grind [Dd]
abbrev s9:Ns:=⟨[],[(72,2)],[],[(47,[35,10])],[],[],[72],[],[],[],[2,4,5,7,8,10,11,13,14,16,17,20,22,23,24,25,26,27,30]⟩
theorem c45(x:List Rl)(ifs:C0)(roots:List Rq)(s:List Sl)(UI:lR x ifs)(hx:∀r∈x,Eo r)(hr:roots.length<=1000000)(Tu:∀q∈roots,BF q.set)(hs:s.length<=1000000):H45 x ifs roots s:=by
 have c8:BF s:=Wk
 have yu:BF roots:=Wk
 obtain⟨D,hD⟩:∃D,D=Do x roots s:=⟨_,rfl⟩;unfold H45;rw[<-hD];unfold Do at hD
 by_cases h0:Aw x=0
 .have UI:PC 51 [GM x ifs] (.tup [.agg [.cmap Px (x.map Pa),.cmap Ca ((AQ x []).map (ky x))],G 0]):=by
   grind
  rw[AL Wk]at hD;have aW:=c85 x s ((AQ x []).map (ky x)) h0 c8;unfold lA at aW;cases hi:Be s with
  |false=>
   rw[A1 hi]at aW;rw[A1 aa0]at hD;refine Ps s9 func21 rfl C4 (Z 0 (Z 0 (yN (C1 (U (UI) (yN (cU [(1,sl Ac roots),(2,sl Ae s),(7,.ref 7 0),(8,G 0)] [(7,.cells [.cmap Px (x.map Pa),.cmap Ca ((AQ x []).map (ky x))])] Z4 Z1 (Z 0 (J ?_ ?_)))))))))
   .intro h;exact absurd rfl h
   intro _;refine cU [(1,sl Ac roots),(2,sl Ae s),(7,.ref 7 0)] [(7,.cells [.cmap Px (x.map Pa),.cmap Ca ((AQ x []).map (ky x))])] Z3 Z1 (Z 0 (yN (C1 (U (aW) (cU [(8,G 1)] [] Z1 W (Z 0 (J ?_ ?_)))))))
   .intro _;refine Z 0 ?_;exact E G hD.symm
   .intro h;exact absurd (show(1:Int)≠0 by decide) h
  |true=>
   rw[AL aa0]at aW;rw[AL aa0]at hD;cases Ry:F9 x s with
   |none=>
    rw[Ry]at aW hD;refine Ps s9 func21 rfl C4 (Z 0 (Z 0 (yN (C1 (U (UI) (yN (cU [(1,sl Ac roots),(2,sl Ae s),(7,.ref 7 0),(8,G 0)] [(7,.cells [.cmap Px (x.map Pa),.cmap Ca ((AQ x []).map (ky x))])] Z4 Z1 (Z 0 (J ?_ ?_)))))))))
    .intro h;exact absurd rfl h
    intro _;refine cU [(1,sl Ac roots),(2,sl Ae s),(7,.ref 7 0)] [(7,.cells [.cmap Px (x.map Pa),.cmap Ca ((AQ x []).map (ky x))])] Z3 Z1 (Z 0 (yN (C1 (U (aW) (cU [(8,G 6)] [] Z1 W (Z 0 (J ?_ ?_)))))))
    .intro _;refine Z 0 ?_;exact E G hD.symm
    .intro h;exact absurd (show(6:Int)≠0 by decide) h
   |some l=>
    rw[Ry]at aW hD;have Rx:=XM hi Ry;have hll:l.length=s.length:=by rw[<-(FP Ry).1,Lm]
    have hlx:∀r∈l,r∈x:=fun r hr=>(Ce ((FP Ry).2.1 r hr)).2.1;have hlq:∀r∈l,r.reqs.length<=16:=fun r hr=>(Fi h0).2 r (hlx r hr);have eD:∀q:Rq,BF q.set->PC 53 ([.agg (Ac q)]++[.cptr [.cmap Ca (l.map M1)]]) (I (Ck l q)):=fun q hq=>c86 l Rx q hq;have Iz:Dh [.cptr [.cmap Ca (l.map M1)]]:=fun c hc=>by
     obtain rfl:=AI.1 hc;intro h;rfl
    refine Ps s9 func21 rfl C4 (Z 0 (Z 0 (yN (C1 (U (UI) (yN (cU [(1,sl Ac roots),(2,sl Ae s),(7,.ref 7 0),(8,G 0)] [(7,.cells [.cmap Px (x.map Pa),.cmap Ca ((AQ x []).map (ky x))])] Z4 Z1 (Z 0 (J ?_ ?_)))))))))
    .intro h;exact absurd rfl h
    intro _;refine cU [(1,sl Ac roots),(2,sl Ae s),(7,.ref 7 0)] [(7,.cells [.cmap Px (x.map Pa),.cmap Ca ((AQ x []).map (ky x))])] Z3 Z1 (Z 0 (yN (C1 (U (aW) (cU [(1,sl Ac roots),(8,G 0),(9,sl V l)] [] Z3 W (Z 0 (J ?_ ?_)))))))
    .intro h;exact absurd rfl h
    intro _;refine cU [(1,sl Ac roots),(9,sl V l)] [] Z2 W (Z 0 (yN (cU [(1,sl Ac roots),(9,sl V l),(10,.ref 10 0)] [(10,.cells [.mref 35]),(35,.map Ca [])] Z3 Z2 (Z 0 (Z {i:Nat // i<=l.length} (Z (fun i=>⟨[(1,sl Ac roots),(9,sl V l),(10,.ref 10 0),(36,sl V l),(37,G (l.map V).length),(38,G i.1)],[(10,.cells [.mref 35]),(35,.map Ca ((l.take i.1).map M1))],Af⟩) (Z (fun i=>l.length-i.1) (J (Z ⟨0,Ak _⟩ ?_) ?_))))))))
    .exact⟨Z6,Z2,Fh,W⟩
    intro⟨i,i1⟩;refine Z 0 (J ?_ ?_)
    .intro h;have h:(i:Int)<(l.map V).length:=h;have h:i<l.length:=aa0
     have hg:l[i]?=some l[i]:=Ge h;refine cU [(1,sl Ac roots),(9,sl V l),(10,.ref 10 0),(36,sl V l),(37,G (l.map V).length),(38,G i)] [(10,.cells [.mref 35]),(35,.map Ca ((l.take i).map M1))] Z6 Z2 (Z 0 (Z (V l[i]) (J (J Wk aa0) (J rfl ?_))));refine J C4 (yN (cU [(1,sl Ac roots),(9,sl V l),(10,.ref 10 0),(36,sl V l),(37,G (l.map V).length),(12,.ref 12 0),(38,G i)] [(12,.cells (V l[i])),(10,.cells [.mref 35]),(35,.map Ca ((l.take i).map M1))] Z7 Z3 (Z 0 (yN ?_))));have e35:=vC Rx h;refine Z 0 (J (Ii i Wk) (Z ⟨i+1,by omega⟩ ?_));exact⟨by grind,Z6,⟨X,⟨Aa (HO.map Ca) e35,rfl⟩,W⟩,Fh,W⟩
    intro h;have h:¬(i:Int)<(l.map V).length:=h;have h:¬i<l.length:=aa0
    have et:(l.take i).map M1=l.map M1:=aa2
    refine cU [(1,sl Ac roots),(9,sl V l),(10,.ref 10 0)] [(10,.cells [.mref 35]),(35,.map Ca (l.map M1))] Z3 ⟨X,⟨Aa (HO.map Ca) et,rfl⟩,W⟩ (Z 0 (cU [(1,sl Ac roots),(9,sl V l),(10,.ref 10 0),(13,.clo 53 [.cptr [.cmap Ca (l.map M1)]])] [(10,.ro [.cmap Ca (l.map M1)])] Z4 Z1 (Z 0 (Z {i:Nat // i<=l.length/\∀j (hj:j<l.length),j<i->l[j].reqs.any (Ck l)=false} (Z (fun i=>⟨[(1,sl Ac roots),(9,sl V l),(10,.ref 10 0),(13,.clo 53 [.cptr [.cmap Ca (l.map M1)]]),(48,sl V l),(49,G (l.map V).length),(50,G i.1)],[(10,.ro [.cmap Ca (l.map M1)])],Af⟩) (Z (fun i=>l.length-i.1) (J (Z ⟨0,Ak _,fun j _ hj=>absurd hj (Ch j)⟩ ?_) ?_)))))))
    .exact⟨Z7,Z1,Fh,W⟩
    intro⟨i,i1,i2⟩;have i1:i<=l.length:=i1;refine Z 0 (J ?_ ?_)
    .intro h;have h:(i:Int)<(l.map V).length:=h;have h:i<l.length:=Wk
     have hg:l[i]?=some l[i]:=Ge h;have LR:PC 56 [sl Ac l[i].reqs,.clo 53 [.cptr [.cmap Ca (l.map M1)]]] (I (l[i].reqs.any (Ck l))):=c89 Iz l[i].reqs (Ck l) (fun q hq=>eD q ((hx _ (hlx _ (Ag h))).2 q hq).1) aa2;refine cU [(1,sl Ac roots),(9,sl V l),(10,.ref 10 0),(13,.clo 53 [.cptr [.cmap Ca (l.map M1)]]),(48,sl V l),(49,G (l.map V).length),(50,G i)] [(10,.ro [.cmap Ca (l.map M1)])] Z7 Z1 (Z 0 (Z (V l[i]) (J (J Wk aa0) (J rfl ?_))));refine J C4 (yN (cU [(1,sl Ac roots),(9,sl V l),(10,.ref 10 0),(13,.clo 53 [.cptr [.cmap Ca (l.map M1)]]),(48,sl V l),(49,G (l.map V).length),(15,.ref 15 0),(50,G i)] [(10,.ro [.cmap Ca (l.map M1)]),(15,.cells (V l[i]))] Z8 Z2 (Z 0 (Ay (Bt (l[i].reqs.any (Ck l))) (fun hb=>?_) (fun hb=>?_)))))
     .rw[hb]at LR;refine C1 (U (LR) (Z 0 ?_));have ha:l.any (fun r=>r.reqs.any (Ck l))=true:=Bs.2 ⟨l[i],Ag h,hb⟩;exact E G (show(17:Int)=D by simp_all)
     .rw[hb]at LR;refine C1 (U (LR) (Z 0 (J (by grind [Au]) (Z ⟨i+1,by omega,fun j hj F6=>?_⟩ ?_))))
      .grind
      exact⟨by grind,Z7,Z1,Fh,W⟩
    intro h;have h:¬(i:Int)<(l.map V).length:=h;have h:¬i<l.length:=aa0
    have ha:l.any (fun r=>r.reqs.any (Ck l))=false:=by
     grind [List.mem_iff_getElem]
    have hD:D=if roots.any (Ck l)then 17 else if(FD l (HU l roots) roots []).length<l.length then 8 else 0:=aa0
    have LR:PC 56 [sl Ac roots,.clo 53 [.cptr [.cmap Ca (l.map M1)]]] (I (roots.any (Ck l))):=c89 Iz roots (Ck l) (fun q hq=>eD q (Tu q hq)) yu;refine cU [(1,sl Ac roots),(9,sl V l),(10,.ref 10 0),(13,.clo 53 [.cptr [.cmap Ca (l.map M1)]])] [(10,.ro [.cmap Ca (l.map M1)])] Z4 Z1 (Z 0 (Ay (Bt (roots.any (Ck l))) (fun hb=>?_) (fun hb=>?_)))
    .rw[hb]at LR;refine C1 (U (LR) (Z 0 ?_));exact E G (show(17:Int)=D by simp_all)
    rw[hb]at LR;have hD:D=if(FD l (HU l roots) roots []).length<l.length then 8 else 0:=aa0
    refine C1 (U (LR) (cU [(1,sl Ac roots),(9,sl V l),(10,.ref 10 0)] [(10,.ro [.cmap Ca (l.map M1)])] Z3 Z1 (Z 0 (cU [(1,sl Ac roots),(9,sl V l),(10,.ref 10 0),(16,.mref 62)] [(10,.ro [.cmap Ca (l.map M1)]),(62,.map Ca [])] Z4 Z2 (Z 0 (Z (.gen [] 1) (J rfl ((zt roots yu).imp ?_))))))));intro v g q;have q1:=q.1;have q2:=q.2;subst q1;subst q2
    clear q
    have Aib:Nb [] l<=16*l.length:=by
     have gen:∀l:List Rl,(∀r∈l,r.reqs.length<=16)->Nb [] l<=16*l.length:=fun l=>by
      induction l with
      |nil=>intro _;exact Ao _
      |cons r l ih=>
       grind [Nb]
     grind
    have hfu:HU l roots<=roots.length+16*l.length+1:=by grind [HU,VB]
    refine Z {p:List CS×List Rq×Nat×Bool // NI l roots p.1 p.2.1 p.2.2.1/\p.2.2.1<=HU l roots} (Z (fun p=>⟨[(9,sl V l),(10,.ref 10 0),(16,.mref 62),(17,.slice (.id (bif p.1.2.2.2 then 16400 else 201) 2) (p.1.2.1.map Ac))],[(10,.ro [.cmap Ca (l.map M1)]),(62,.map Ca (p.1.1.map Xu)),(16400,bif p.1.2.2.2 then .tok 2 (p.1.2.1.map Ac).length else .free),(201,bif p.1.2.2.2 then .free else .tok 2 (p.1.2.1.map Ac).length)],Af⟩) (Z (fun p=>p.1.2.2.1) (J (Z ⟨([],roots,HU l roots,true),NI.start l roots,Ao _⟩ ?_) ?_)))
    .exact⟨Z4,Z4,Fh,W⟩
    intro⟨⟨d,t,n,b⟩,ni,nf⟩;have ni:NI l roots d t n:=ni;have nf:n<=HU l roots:=nf;refine Ay (Bt b) (fun eb=>?_) (fun eb=>?_)
    .refine cU [(9,sl V l),(10,.ref 10 0),(16,.mref 62),(17,.slice (.id 16400 2) (t.map Ac))] [(10,.ro [.cmap Ca (l.map M1)]),(62,.map Ca (d.map Xu)),(16400,.tok 2 (t.map Ac).length)] ⟨X,X,X,⟨by show AV.slice (.id (bif b then 16400 else 201) 2) (t.map Ac)=_;simp_all,rfl⟩,W⟩ ⟨X,X,⟨by show(bif b then HO.tok 2 (t.map Ac).length else HO.free)=_;simp_all,rfl⟩,W⟩ ?_
     refine Z 0 (J ?_ ?_)
     .intro h;have h:(0:Int)<(t.map Ac).length:=h;refine Al (show ∃q t',t=q::t' by cases t<;>simp_all) (fun q hq=>?_)
      refine Al hq (fun t' hq=>?_);refine Al (show ∃m,n=m+1 from⟨n-1,by have:=ni.pot;omega⟩) (fun m hm'=>?_);have ni:NI l roots d (q::t') (m+1):=hq▸hm'▸ni;have Afp:=ni.pot;have r8:(t.map Ac)[(0:Int).toNat]?=some (Ac q):=aa0
      refine cU [(9,sl V l),(10,.ref 10 0),(16,.mref 62),(17,.slice (.id 16400 2) (t.map Ac))] [(10,.ro [.cmap Ca (l.map M1)]),(62,.map Ca (d.map Xu)),(16400,.tok 2 (t.map Ac).length)] Z4 Z3 (Z 0 (Z (Ac q) (J (J aa3 r8) (J rfl (J C4 (yN (cU [(9,sl V l),(10,.ref 10 0),(16,.mref 62),(17,.slice (.id 16400 2) (t.map Ac)),(18,.ref 18 0)] [(10,.ro [.cmap Ca (l.map M1)]),(62,.map Ca (d.map Xu)),(16400,.tok 2 (t.map Ac).length),(18,.cells (Ac q))] Z5 Z4 (Z 201 ?_))))))));have yx:1<=(t.map Ac).length:=Wk
      refine J (J rfl (J aa3 Wk)) ?_;have ed:(t.map Ac).drop (1:Int).toNat=t'.map Ac:=aa0
      refine cU [(9,sl V l),(10,.ref 10 0),(16,.mref 62),(17,.slice (.id 201 2) (t'.map Ac)),(18,.ref 18 0)] [(10,.ro [.cmap Ca (l.map M1)]),(62,.map Ca (d.map Xu)),(201,.tok 2 (t'.map Ac).length),(18,.cells (Ac q))] ⟨X,X,X,⟨Aa (AV.slice (.id 201 2)) ed,rfl⟩,X,W⟩ ⟨X,X,⟨Aa (fun e:C0=>HO.tok 2 e.length) ed,rfl⟩,X,W⟩ (Z 0 (J ?_ ?_))
      .intro a ha;refine Al (show ∃u,u=()from⟨(),rfl⟩) (fun _ _=>?_);have e:=(TB ha).2;subst e;have ho:=JF.2 (TB ha).1;have fC:=ni.old ho;refine Z ⟨(d,t',m,false),fC,by grind⟩ ?_;exact⟨by simp_all,Z4,Z4,Fh,W⟩
      intro Qq;have ho:d.any (fun p=>decide (p=q.path))=false:=by
       rw[BC];intro hc;exact Qq (I true) (Ar.2 ⟨q.path,JF.1 hc,rfl⟩)
      have fC:=ni.new ho;have bj:=fC.pot;refine Z 0 ?_;have zz:Fc (d.map Xu) (.string q.path) (I true)=(d++[q.path]).map Xu:=by rw[Jd Qq,Bl];rfl
      refine Z 0 (J ?_ ?_)
      .intro a ha;refine Al (TC ha) (fun r YV=>?_);have e:=YV.2.2;subst e;have qB:Fj l q.path=r.reqs:=by
        unfold Fj;rw[<-YV.2.1,HT Rx YV.1]
       rw[qB]at fC bj;have hrl:=hlq r YV.1;have De:A7 2 (r.reqs.map Ac)/\(t'.map Ac).length=(t'.map Ac).length/\((t'.map Ac).length+(r.reqs.map Ac).length)*40<=140737488355328/\(t'.map Ac).length+(r.reqs.map Ac).length<=9223372036854775807:=
        ⟨B8 (enc:=Ac) (n:=2) (fun _=>rfl) r.reqs,rfl,by grind,by grind⟩
       refine J De ?_;have wj:AV.slice (.id 201 2) (t'.map Ac++r.reqs.map Ac)=.slice (.id 201 2) ((t'++r.reqs).map Ac):=aa0
       have xo:HO.tok 2 ((t'.map Ac).length+(r.reqs.map Ac).length)=.tok 2 ((t'++r.reqs).map Ac).length:=aa0
       refine Z ⟨(d++[q.path],t'++r.reqs,m,false),fC,by grind⟩ ?_;exact⟨by simp_all,⟨X,X,X,⟨wj,rfl⟩,W⟩,⟨X,⟨Aa (HO.map Ca) zz,rfl⟩,X,⟨xo,rfl⟩,W⟩,Fh,W⟩
      intro hnb;have qB:Fj l q.path=[]:=by
       unfold Fj
       grind
      rw[qB]at fC bj;have De:A7 2 []/\(t'.map Ac).length=(t'.map Ac).length/\((t'.map Ac).length+([]:C0).length)*40<=140737488355328/\(t'.map Ac).length+([]:C0).length<=9223372036854775807:=
       ⟨trivial,rfl,by grind,by grind⟩
      refine J De ?_;have wj:AV.slice (.id 201 2) (t'.map Ac++[])=.slice (.id 201 2) ((t'++[]).map Ac):=aa0
      have xo:HO.tok 2 ((t'.map Ac).length+([]:C0).length)=.tok 2 ((t'++[]).map Ac).length:=aa0
      refine Z ⟨(d++[q.path],t'++[],m,false),fC,by grind⟩ ?_;exact⟨by simp_all,⟨X,X,X,⟨wj,rfl⟩,W⟩,⟨X,⟨Aa (HO.map Ca) zz,rfl⟩,X,⟨xo,rfl⟩,W⟩,Fh,W⟩
     intro h;have h:¬(0:Int)<(t.map Ac).length:=h;have ht0:t=[]:=by
      simp_all
     have Af9:FD l (HU l roots) roots []=d:=(ht0▸ni).stop;have hD:D=if d.length<l.length then 8 else 0:=aa0
     refine cU [(9,sl V l),(16,.mref 62)] [(62,.map Ca (d.map Xu))] Z2 Z1 (Z 0 (J ?_ ?_))
     .intro h;have h:((d.map Xu).length:Int)<((l.map V).length:Int):=h;have h:d.length<l.length:=aa0
      refine Z 0 ?_;exact E G (show(8:Int)=D by omega)
     .intro h;have h:¬((d.map Xu).length:Int)<((l.map V).length:Int):=h;have h:¬d.length<l.length:=aa0
      refine Z 0 ?_;exact E G (show(0:Int)=D by omega)
    .refine cU [(9,sl V l),(10,.ref 10 0),(16,.mref 62),(17,.slice (.id 201 2) (t.map Ac))] [(10,.ro [.cmap Ca (l.map M1)]),(62,.map Ca (d.map Xu)),(201,.tok 2 (t.map Ac).length)] ⟨X,X,X,⟨by show AV.slice (.id (bif b then 16400 else 201) 2) (t.map Ac)=_;simp_all,rfl⟩,W⟩ ⟨X,X,⟨by show(bif b then HO.free else HO.tok 2 (t.map Ac).length)=_;simp_all,rfl⟩,W⟩ ?_
     refine Z 0 (J ?_ ?_)
     .intro h;have h:(0:Int)<(t.map Ac).length:=h;refine Al (show ∃q t',t=q::t' by cases t<;>simp_all) (fun q hq=>?_)
      refine Al hq (fun t' hq=>?_);refine Al (show ∃m,n=m+1 from⟨n-1,by have:=ni.pot;omega⟩) (fun m hm'=>?_);have ni:NI l roots d (q::t') (m+1):=hq▸hm'▸ni;have Afp:=ni.pot;have r8:(t.map Ac)[(0:Int).toNat]?=some (Ac q):=aa0
      refine cU [(9,sl V l),(10,.ref 10 0),(16,.mref 62),(17,.slice (.id 201 2) (t.map Ac))] [(10,.ro [.cmap Ca (l.map M1)]),(62,.map Ca (d.map Xu)),(201,.tok 2 (t.map Ac).length)] Z4 Z3 (Z 0 (Z (Ac q) (J (J aa3 r8) (J rfl (J C4 (yN (cU [(9,sl V l),(10,.ref 10 0),(16,.mref 62),(17,.slice (.id 201 2) (t.map Ac)),(18,.ref 18 0)] [(10,.ro [.cmap Ca (l.map M1)]),(62,.map Ca (d.map Xu)),(201,.tok 2 (t.map Ac).length),(18,.cells (Ac q))] Z5 Z4 (Z 16400 ?_))))))));have yx:1<=(t.map Ac).length:=Wk
      refine J (J rfl (J aa3 Wk)) ?_;have ed:(t.map Ac).drop (1:Int).toNat=t'.map Ac:=aa0
      refine cU [(9,sl V l),(10,.ref 10 0),(16,.mref 62),(17,.slice (.id 16400 2) (t'.map Ac)),(18,.ref 18 0)] [(10,.ro [.cmap Ca (l.map M1)]),(62,.map Ca (d.map Xu)),(16400,.tok 2 (t'.map Ac).length),(18,.cells (Ac q))] ⟨X,X,X,⟨Aa (AV.slice (.id 16400 2)) ed,rfl⟩,X,W⟩ ⟨X,X,⟨Aa (fun e:C0=>HO.tok 2 e.length) ed,rfl⟩,X,W⟩ (Z 0 (J ?_ ?_))
      .intro a ha;refine Al (show ∃u,u=()from⟨(),rfl⟩) (fun _ _=>?_);have e:=(TB ha).2;subst e;have ho:=JF.2 (TB ha).1;have fC:=ni.old ho;refine Z ⟨(d,t',m,true),fC,by grind⟩ ?_;exact⟨by simp_all,Z4,Z4,Fh,W⟩
      intro Qq;have ho:d.any (fun p=>decide (p=q.path))=false:=by
       rw[BC];intro hc;exact Qq (I true) (Ar.2 ⟨q.path,JF.1 hc,rfl⟩)
      have fC:=ni.new ho;have bj:=fC.pot;refine Z 0 ?_;have zz:Fc (d.map Xu) (.string q.path) (I true)=(d++[q.path]).map Xu:=by rw[Jd Qq,Bl];rfl
      refine Z 0 (J ?_ ?_)
      .intro a ha;refine Al (TC ha) (fun r YV=>?_);have e:=YV.2.2;subst e;have qB:Fj l q.path=r.reqs:=by
        unfold Fj;rw[<-YV.2.1,HT Rx YV.1]
       rw[qB]at fC bj;have hrl:=hlq r YV.1;have De:A7 2 (r.reqs.map Ac)/\(t'.map Ac).length=(t'.map Ac).length/\((t'.map Ac).length+(r.reqs.map Ac).length)*40<=140737488355328/\(t'.map Ac).length+(r.reqs.map Ac).length<=9223372036854775807:=
        ⟨B8 (enc:=Ac) (n:=2) (fun _=>rfl) r.reqs,rfl,by grind,by grind⟩
       refine J De ?_;have wj:AV.slice (.id 16400 2) (t'.map Ac++r.reqs.map Ac)=.slice (.id 16400 2) ((t'++r.reqs).map Ac):=aa0
       have xo:HO.tok 2 ((t'.map Ac).length+(r.reqs.map Ac).length)=.tok 2 ((t'++r.reqs).map Ac).length:=aa0
       refine Z ⟨(d++[q.path],t'++r.reqs,m,true),fC,by grind⟩ ?_;exact⟨by simp_all,⟨X,X,X,⟨wj,rfl⟩,W⟩,⟨X,⟨Aa (HO.map Ca) zz,rfl⟩,⟨xo,rfl⟩,X,W⟩,Fh,W⟩
      intro hnb;have qB:Fj l q.path=[]:=by
       unfold Fj
       grind
      rw[qB]at fC bj;have De:A7 2 []/\(t'.map Ac).length=(t'.map Ac).length/\((t'.map Ac).length+([]:C0).length)*40<=140737488355328/\(t'.map Ac).length+([]:C0).length<=9223372036854775807:=
       ⟨trivial,rfl,by grind,by grind⟩
      refine J De ?_;have wj:AV.slice (.id 16400 2) (t'.map Ac++[])=.slice (.id 16400 2) ((t'++[]).map Ac):=aa0
      have xo:HO.tok 2 ((t'.map Ac).length+([]:C0).length)=.tok 2 ((t'++[]).map Ac).length:=aa0
      refine Z ⟨(d++[q.path],t'++[],m,true),fC,by grind⟩ ?_;exact⟨by simp_all,⟨X,X,X,⟨wj,rfl⟩,W⟩,⟨X,⟨Aa (HO.map Ca) zz,rfl⟩,⟨xo,rfl⟩,X,W⟩,Fh,W⟩
     intro h;have h:¬(0:Int)<(t.map Ac).length:=h;have ht0:t=[]:=by
      simp_all
     have Af9:FD l (HU l roots) roots []=d:=(ht0▸ni).stop;have hD:D=if d.length<l.length then 8 else 0:=aa0
     refine cU [(9,sl V l),(16,.mref 62)] [(62,.map Ca (d.map Xu))] Z2 Z1 (Z 0 (J ?_ ?_))
     .intro h;have h:((d.map Xu).length:Int)<((l.map V).length:Int):=h;have h:d.length<l.length:=aa0
      refine Z 0 ?_;exact E G (show(8:Int)=D by omega)
     .intro h;have h:¬((d.map Xu).length:Int)<((l.map V).length:Int):=h;have h:¬d.length<l.length:=aa0
      refine Z 0 ?_;exact E G (show(0:Int)=D by omega)
 .have UI:PC 51 [GM x ifs] (.tup [.agg [.cmap Px [],.cmap Ca []],G (Aw x)]):=by
   grind
  rw[A1 h0]at hD;refine Ps s9 func21 rfl C4 (Z 0 (Z 0 (yN (C1 (U (UI) (yN (cU [(8,G (Aw x))] [] Z1 W (Z 0 (J ?_ ?_)))))))))
  .intro _;refine Z 0 ?_;exact E G hD.symm
  .intro h;exact absurd h0 h
structure cV(x:List Rl)(roots:List Rq):Prop where
 ix:BF x
 rs:BF roots
 rel:∀r∈x,BF r.reqs/\Eo r
 rq:∀q∈roots,G5 q
theorem cV.x{x:List Rl}{roots:List Rq}(h:cV x roots):∀r∈x,Eo r:=fun r hr=>(h.rel r hr).2
theorem cV.c84{x:List Rl}{roots:List Rq}(h:cV x roots)(ifs:C0):lR x ifs:=Go.Eng.c84 x ifs h.x
theorem W8{x:List Rl}(h:(Ga x 16&&EG roots)=true):roots.length<=20:=by
 grind [EG]
theorem RX{a:An}(h:cJ a=true):a.sel.length<=16/\a.skips.length<=100/\a.infs.length<=400:=by
 grind [cJ]
theorem cV.c45{x:List Rl}{roots:List Rq}(h:cV x roots)(ifs:C0)(hf:(Ga x 16&&EG roots)=true)(s:List Sl)(hs:s.length<=1000000):H45 x ifs roots s:=
 Go.Eng.c45 x ifs roots s (h.c84 ifs) h.x (by grind [W8]) (fun q hq=>(h.rq q hq).1) hs
theorem cV.c21{x:List Rl}{roots:List Rq}(h:cV x roots)(ifs:C0)(hf:(Ga x 16&&EG roots)=true)(a:An)(ha:cJ a=true):PC 49 [GM x ifs,sl Ac roots,.agg (Gl a)] (G (Di x roots a)):=
 Go.Eng.c21 x ifs roots a (h.c84 ifs) (h.c45 ifs hf a.sel (by grind [RX])) h.x h.rq (by grind [RX]) (by have:=(RX ha).2.1;omega)
theorem cV.c11{x:List Rl}{roots:List Rq}(h:cV x roots)(ifs:C0):PC 10 [GM x ifs,sl Ac roots] (I (Ga x 16&&EG roots)):=
 Go.Eng.c11 x ifs roots h.ix (fun r hr=>(h.rel r hr).1) h.rs
theorem vZ:PC 260 [vc c] (I (EP c)):=by
 refine Ps Dc func260 rfl C4 ?_;have e1:decide ((97:UInt8)<=c)=decide ((97:Int)<=(c.toNat:Int)):=XU c 97 aa3;have e2:decide (c<=(122:UInt8))=decide ((c.toNat:Int)<=(122:Int)):=XT c 122 aa3;have es:EP c=(decide ((97:Int)<=(c.toNat:Int))&&decide ((c.toNat:Int)<=(122:Int))):=by grind [EP]
 refine J ?_ ?_
 .intro h;refine J ?_ ?_
  .intro h2;exact E I (show true=EP c by simp_all)
  .intro h2;exact E I (show false=EP c by simp_all)
 .intro h;exact E I (show false=EP c by simp_all)
theorem rd:PC 261 [vc c] (I (Cu c)):=by
 refine Ps Dc func261 rfl C4 ?_;have e1:decide ((48:UInt8)<=c)=decide ((48:Int)<=(c.toNat:Int)):=XU c 48 aa3;have e2:decide (c<=(57:UInt8))=decide ((c.toNat:Int)<=(57:Int)):=XT c 57 aa3;have es:Cu c=(decide ((48:Int)<=(c.toNat:Int))&&decide ((c.toNat:Int)<=(57:Int))):=by grind [Cu]
 refine J ?_ ?_
 .intro h;refine J ?_ ?_
  .intro h2;exact E I (show true=Cu c by simp_all)
  .intro h2;exact E I (show false=Cu c by simp_all)
 .intro h;exact E I (show false=Cu c by simp_all)
theorem Ae2:PC 380 [vc c] (I (MH c)):=by
 refine Ps Dc func380 rfl C4 ?_;have e1:decide ((65:UInt8)<=c)=decide ((65:Int)<=(c.toNat:Int)):=XU c 65 aa3;have e2:decide (c<=(90:UInt8))=decide ((c.toNat:Int)<=(90:Int)):=XT c 90 aa3;have es:MH c=(decide ((65:Int)<=(c.toNat:Int))&&decide ((c.toNat:Int)<=(90:Int))):=by grind [MH]
 refine J ?_ ?_
 .intro h;refine J ?_ ?_
  .intro h2;exact E I (show true=MH c by simp_all)
  .intro h2;exact E I (show false=MH c by simp_all)
 .intro h;exact E I (show false=MH c by simp_all)
theorem Ae1:PC 360 [vc c] (I (FV c)):=by
 have h1:=vZ c;have h2:=Ae2 c;have h3:=rd c;have ew:FV c=(EP c||MH c||Cu c||decide (c=95)):=rfl;rcases Bt (EP c)with e | e
 .rw[e]at h1;refine Ps Dc func360 rfl C4 (C1 (U (h1) ?_));exact E I (show true=FV c by simp_all)
 rw[e]at h1;rcases Bt (MH c)with e2 | e2
 .rw[e2]at h2;refine Ps Dc func360 rfl C4 (C1 (U (h1) (C1 (U (h2) ?_))));exact E I (show true=FV c by simp_all)
 rw[e2]at h2;rcases Bt (Cu c)with e3 | e3
 .rw[e3]at h3;refine Ps Dc func360 rfl C4 (C1 (U (h1) (C1 (U (h2) (C1 (U (h3) ?_))))));exact E I (show true=FV c by simp_all)
 rw[e3]at h3;refine Ps Dc func360 rfl C4 (C1 (U (h1) (C1 (U (h2) (C1 (U (h3) ?_))))));have eb:decide (c=95)=decide ((c.toNat:Int)=95):=by
  rw[CI,A4,A4];constructor
  .simp_all
  .intro h;exact Ih.1 aa2
 refine J ?_ ?_
 .intro h;exact E I (show true=FV c by simp_all)
 .intro h;exact E I (show false=FV c by simp_all)
theorem AdY(hs:s.data.toList.length<4611686018427387904):PC 323 [vs s] (I (s.data.toList.all FV)):=by
 have FW:s.size=s.data.toList.length:=aa1
 refine Ps Dc func323 rfl C4 (Z {i:Nat // i<=s.data.toList.length/\∀j (hj:j<s.data.toList.length),j<i->FV s.data.toList[j]=true} (Z (fun i=>⟨[(0,vs s),(3,G i.1)],[],Af⟩) (Z (fun i=>s.data.toList.length-i.1) (J (Z ⟨0,Ak _,fun j _ h=>by omega⟩ ?_) ?_))))
 .exact⟨Z2,W,Fh,W⟩
 intro⟨i,h1,h2⟩;refine J ?_ ?_
 .intro h;have h:(i:Int)<(s.size:Nat):=h;have h:i<s.data.toList.length:=Wk
  refine Z s.data.toList[i] (J ⟨by omega,by grind⟩ ?_);have hc:=Ae1 s.data.toList[i];refine Ay (Bt (FV s.data.toList[i])) (fun e=>?_) (fun e=>?_)
  .rw[e]at hc;refine C1 (U (hc) (J (by grind [Au]) (Z ⟨i+1,by omega,fun j hj F6=>?_⟩ ?_)))
   .grind
   .exact⟨by grind,Z2,W,Fh,W⟩
  .rw[e]at hc;refine C1 (U (hc) ?_);have er:s.data.toList.all FV=false:=by
    grind
   exact E I er.symm
 .intro h;have h:¬(i:Int)<(s.size:Nat):=h;have er:s.data.toList.all FV=true:=AS.2 fun c hc=>by
   grind [List.getElem_of_mem]
  exact E I er.symm
abbrev kwB:List CS:=xe.map bs
theorem Ae0:PC 325 [] (sl Dr kwB):=by
 refine Ps Dc func325 rfl C4 ?_;exact .refl _
theorem AdZ(l:List CS)(s:CS)(hl:BF l):PC 324 [sl Dr l,vs s] (I (l.any fun q=>decide (q=s))):=by
 unfold BF at hl;refine Ps Dc func324 rfl C4 (Z {i:Nat // i<=l.length/\∀j (hj:j<l.length),j<i->l[j]≠s} (Z (fun i=>⟨[(0,sl Dr l),(1,vs s),(5,G i.1)],[],Af⟩) (Z (fun i=>l.length-i.1) (J (Z ⟨0,Ak _,fun j _ h=>by omega⟩ ?_) ?_))))
 .exact⟨Z3,W,Fh,W⟩
 intro⟨i,h1,h2⟩;refine J ?_ ?_
 .intro h;have h:i<l.length:=aa0
  have hg:l[i]?=some l[i]:=Ge h;refine Z (Dr l[i]) (J (J Wk aa0) (J rfl ?_));refine J ?_ ?_
  .intro he;exact E I (show true=_ from(Bs.2 ⟨l[i],Ag h,by simp_all⟩).symm)
  .intro he;refine J (by grind [Au]) (Z ⟨i+1,by omega,fun j hj F6=>?_⟩ ?_)
   .grind
   .exact⟨by grind,Z3,W,Fh,W⟩
 .intro h;have h:¬i<l.length:=aa0
  have er:(l.any fun q=>decide (q=s))=false:=by
   grind [List.getElem_of_mem]
  exact E I er.symm
theorem yT{w:List UInt8}{s:CS}:bs w=s↔w=s.data.toList:=by
 constructor
 .intro h;rw[<-h];rfl
 .intro h;rw[h];rfl
theorem xg:(kwB.any fun q=>decide (q=s))=xe.any (fun w=>decide (w=s.data.toList)):=by
 grind [yT]
theorem AdU(hs:s.data.toList.length<4611686018427387904):PC 262 [vs s] (I (GD s.data.toList)):=by
 have FW:s.size=s.data.toList.length:=aa1
 obtain⟨N,hN⟩:∃N,N=GD s.data.toList:=⟨_,rfl⟩;rw[<-hN];unfold GD at hN;have rO:=AdY s hs;have nv:=AdZ kwB s aa3;rw[xg]at nv;refine Ps Dc func262 rfl C4 (J (fun h=>?_) (fun h=>?_))
 rotate_left
 .have e:s.data.toList=[]:=Az Wk;exact E I (show false=N by simp_all)
 have he:s.data.toList.isEmpty=false:=by
  grind
 refine J (fun h2=>?_) (fun h2=>?_)
 rotate_left
 .exact E I (show false=N by grind)
 refine Al (show ∃c l,s.data.toList=c::l by cases e:s.data.toList with | nil=>simp_all | cons c l=>simp_all) (fun c hc=>?_);refine Al hc (fun l hc=>?_);refine Z c (J ⟨by decide,by show s.data[(0:Int).toNat]?=_;rw[<-CM,hc];rfl⟩ ?_);have rN:=vZ c;have hN:N=(EP c&&s.data.toList.all FV&&!Wv s.data.toList):=by
  grind
 refine Ay (Bt (EP c)).symm (fun e=>?_) (fun e=>?_)
 .rw[e]at rN;refine C1 (U (rN) ?_);exact E I (show false=N by simp_all)
 rw[e]at rN;refine C1 (U (rN) (Ay (Bt (s.data.toList.all FV)).symm (fun e2=>?_) (fun e2=>?_)))
 .rw[e2]at rO;refine C1 (U (rO) ?_);exact E I (show false=N by grind)
 rw[e2]at rO;refine C1 (U (rO) (C1 (U (Ae0) ?_)));rw[fj e2]at hN;refine Ay (Bt (xe.any (fun w=>decide (w=s.data.toList)))) (fun e3=>?_) (fun e3=>?_)
 .rw[e3]at nv;refine C1 (U (nv) ?_);exact E I (show false=N by grind)
 .rw[e3]at nv;refine C1 (U (nv) ?_);exact E I (show true=N by grind)
theorem pS{s:CS}:H2 s.data.toList=(s.data.toList.all VP&&GD s.data.toList):=by
 grind [H2]
theorem AdN(hs:s.data.toList.length<4611686018427387904):PC 191 [vs s] (I (H2 s.data.toList)):=by
 have FW:s.size=s.data.toList.length:=aa1
 have Aeh:=AdU s hs;rw[pS];refine Ps Dc func191 rfl C4 (Z {i:Nat // i<=s.data.toList.length/\∀j (hj:j<s.data.toList.length),j<i->VP s.data.toList[j]=true} (Z (fun i=>⟨[(0,vs s),(3,G i.1)],[],Af⟩) (Z (fun i=>s.data.toList.length-i.1) (J (Z ⟨0,Ak _,fun j _ h=>by omega⟩ ?_) ?_))))
 .exact⟨Z2,W,Fh,W⟩
 intro⟨i,h1,h2⟩;refine J ?_ ?_
 .intro h;have h:(i:Int)<(s.size:Nat):=h;have h:i<s.data.toList.length:=Wk
  have OU:(0:Int)<=i/\s.data[((i:Nat):Int).toNat]?=some s.data.toList[i]:=⟨by omega,by grind⟩;have nx:VP s.data.toList[i]=true->∀j (hj:j<s.data.toList.length),j<i+1->VP s.data.toList[j]=true:=fun e j hj F6=>by
   grind
  refine Z s.data.toList[i] (J OU ?_);have h3:=vZ s.data.toList[i];have h4:=rd s.data.toList[i];refine Ay (Bt (EP s.data.toList[i])) (fun e=>?_) (fun e=>?_)
  .rw[e]at h3;refine C1 (U (h3) (J (by grind [Au]) (Z ⟨i+1,by omega,nx aa2⟩ ?_)));exact⟨by grind,Z2,W,Fh,W⟩
  rw[e]at h3;refine C1 (U (h3) (Z s.data.toList[i] (J OU (Ay (Bt (Cu s.data.toList[i])) (fun e2=>?_) (fun e2=>?_)))))
  .rw[e2]at h4;refine C1 (U (h4) (J (by grind [Au]) (Z ⟨i+1,by omega,nx aa2⟩ ?_)));exact⟨by grind,Z2,W,Fh,W⟩
  rw[e2]at h4;refine C1 (U (h4) ?_);have er:s.data.toList.all VP=false:=by
   grind
  exact E I aa2
 .intro h;have h:¬(i:Int)<(s.size:Nat):=h;have er:s.data.toList.all VP=true:=AS.2 fun c hc=>by
   grind [List.getElem_of_mem]
  refine C1 (U (Aeh) ?_);exact E I aa2
abbrev WE:Option Int->AV
 |some n=>G n
 |none=>G (-1)
theorem AdO(hs:s.data.toList.length<4611686018427387904):PC 192 [vs s] (WE (Gx s.data.toList)):=by
 have FW:s.size=s.data.toList.length:=aa1
 refine Ps (DJ [3]) func192 rfl C4 (J (fun h=>?_) (fun h=>?_))
 .exact E WE (show(none:Option Int)=Gx s.data.toList by
   cases hs:s.data.toList with
   |nil=>rfl
   |cons c r=>
    cases r<;>grind [Gx])
 refine Al (show ∃c r,s.data.toList=c::r by
  cases e:s.data.toList<;>simp_all) (fun c hc=>?_)
 refine Al hc (fun r yt=>?_);have hrl:s.size=r.length+1:=aa0
 have hv0:Gx s.data.toList=if c=118 then(if(r.isEmpty||decide (3<r.length)||(decide (1<r.length)&&decide (r.headD 0=48))||!r.all Cu)=true then none else some (D7 r))else none:=by rw[yt];rfl
 refine J (fun h2=>?_) (fun h2=>?_)
 .exact E WE (show(none:Option Int)=Gx s.data.toList by grind)
 refine Z c (J ⟨by decide,by show s.data[(0:Int).toNat]?=_;rw[<-CM,yt];rfl⟩ ?_);refine J (fun h3=>?_) (fun h3=>?_)
 .have h3:¬c=118:=fun e=>h3 aa0;exact E WE (show(none:Option Int)=Gx s.data.toList by simp_all)
 have h3:c=118:=Ih.1 aa2;have hr:s.data.toList=118::r:=aa0
 have hv:Gx s.data.toList=if(r.isEmpty||decide (3<r.length)||(decide (1<r.length)&&decide (r.headD 0=48))||!r.all Cu)=true then none else some (D7 r):=aa0
 have CN:0<r.length:=Wk
 have r6:r.isEmpty=false:=by
  grind
 have hl3:r.length<=3:=Wk
 have d3:decide (3<r.length)=false:=At Wk;have z0:D7 (r.take 0)=0:=rfl;have hh:=OV r CN;refine Z r[0] (J ⟨by decide,by show s.data[(1:Int).toNat]?=_;rw[<-CM,yt];simp_all⟩ ?_);refine J (fun h4=>?_) (fun h4=>?_)
 .have h4:r[0]=48:=Ih.1 aa2;refine J (fun h5=>?_) (fun h5=>?_)
  .exact E WE (show(none:Option Int)=Gx s.data.toList by grind)
  have eo:(decide (1<r.length)&&decide (r.headD 0=48))=false:=aa2
  refine cU [(0,vs s)] [] Z1 W (Z {i:Nat // i<=r.length/\(∀j (hj:j<r.length),j<i->Cu r[j]=true)/\0<=D7 (r.take i)/\(i=0->D7 (r.take i)<=0)/\(i<=1->D7 (r.take i)<=9)/\(i<=2->D7 (r.take i)<=99)/\D7 (r.take i)<=999} (Z (fun i=>⟨[(0,vs s),(3,G (D7 (r.take i.1))),(4,G (1+(i.1:Int)))],[],Af⟩) (Z (fun i=>r.length-i.1) (J (Z ⟨0,Ak _,fun j _ h=>by omega,by omega,fun _=>by omega,fun _=>by omega,fun _=>by omega,by omega⟩ ?_) ?_))))
  .exact⟨Z3,W,Fh,W⟩
  intro⟨i,i1,i0,i2,i3,i4,i5,i6⟩;refine J ?_ ?_
  .intro h;have h:1+(i:Int)<(s.size:Nat):=h;have h:i<r.length:=Wk
   have OU:(0:Int)<=1+(i:Int)/\s.data[(1+(i:Int)).toNat]?=some r[i]:=⟨by omega,by rw[show(1+(i:Int)).toNat=i+1 by omega,<-CM,hr,TS];simp_all⟩;refine Z r[i] (J OU ?_);have hc:=rd r[i];refine Ay (Bt (Cu r[i])).symm (fun e=>?_) (fun e=>?_)
   .rw[e]at hc;refine C1 (U (hc) ?_);have GI:r.all Cu=false:=by
     grind
    exact E WE (show(none:Option Int)=Gx s.data.toList by simp_all)
   rw[e]at hc;refine C1 (U (hc) ?_);have uy:=JR e;have cZ:=Ll r i h;have qC:IntKind.u8.wrap ((r[i].toNat:Int)-48)=(r[i].toNat:Int)-48:=TO Wk Wk;refine J (by show Au (10*D7 (r.take i));unfold Au;omega) (Z r[i] (J OU (J (by show Au (IntKind.u8.wrap ((r[i].toNat:Int)-48));rw[qC];unfold Au;omega) ?_)));refine J (by show Au (10*D7 (r.take i)+IntKind.u8.wrap ((r[i].toNat:Int)-48));rw[qC];unfold Au;omega) ?_;refine J (by show Au (1+(i:Int)+1);unfold Au;omega) ?_;have e5:G (10*D7 (r.take i)+IntKind.u8.wrap ((r[i].toNat:Int)-48))=G (D7 (r.take (i+1))):=aa0
   have e6:G (1+(i:Int)+1)=G (1+((i+1:Nat):Int)):=Aa G Wk;refine Z ⟨i+1,by omega,fun j hj F6=>?_,by omega,fun _=>by omega,fun _=>by omega,fun _=>by omega,by omega⟩ ?_
   .grind
   .exact⟨Dl r.length i Wk,⟨X,⟨e5,rfl⟩,⟨e6,rfl⟩,W⟩,W,Fh,W⟩
  .intro h;have h:¬1+(i:Int)<(s.size:Nat):=h;have e3:r.all Cu=true:=AS.2 fun c hc=>by
    grind [List.getElem_of_mem]
   have e6:G (D7 (r.take i))=WE (Gx s.data.toList):=aa2
   exact .of_eq e6
 have eo:(decide (1<r.length)&&decide (r.headD 0=48))=false:=by rw[hh,At (show ¬r[0]=48 from fun e=>h4 aa0),Bool.and_false]
 refine cU [(0,vs s)] [] Z1 W (Z {i:Nat // i<=r.length/\(∀j (hj:j<r.length),j<i->Cu r[j]=true)/\0<=D7 (r.take i)/\(i=0->D7 (r.take i)<=0)/\(i<=1->D7 (r.take i)<=9)/\(i<=2->D7 (r.take i)<=99)/\D7 (r.take i)<=999} (Z (fun i=>⟨[(0,vs s),(3,G (D7 (r.take i.1))),(4,G (1+(i.1:Int)))],[],Af⟩) (Z (fun i=>r.length-i.1) (J (Z ⟨0,Ak _,fun j _ h=>by omega,by omega,fun _=>by omega,fun _=>by omega,fun _=>by omega,by omega⟩ ?_) ?_))))
 .exact⟨Z3,W,Fh,W⟩
 intro⟨i,i1,i0,i2,i3,i4,i5,i6⟩;refine J ?_ ?_
 .intro h;have h:1+(i:Int)<(s.size:Nat):=h;have h:i<r.length:=Wk
  have OU:(0:Int)<=1+(i:Int)/\s.data[(1+(i:Int)).toNat]?=some r[i]:=⟨by omega,by rw[show(1+(i:Int)).toNat=i+1 by omega,<-CM,hr,TS];simp_all⟩;refine Z r[i] (J OU ?_);have hc:=rd r[i];refine Ay (Bt (Cu r[i])).symm (fun e=>?_) (fun e=>?_)
  .rw[e]at hc;refine C1 (U (hc) ?_);have GI:r.all Cu=false:=by
    grind
   exact E WE (show(none:Option Int)=Gx s.data.toList by simp_all)
  rw[e]at hc;refine C1 (U (hc) ?_);have uy:=JR e;have cZ:=Ll r i h;have qC:IntKind.u8.wrap ((r[i].toNat:Int)-48)=(r[i].toNat:Int)-48:=TO Wk Wk;refine J (by grind [Au]) (Z r[i] (J OU (J (by grind [Au]) (J (by show Au (10*D7 (r.take i)+IntKind.u8.wrap ((r[i].toNat:Int)-48));rw[qC];unfold Au;omega) ?_))));refine J (by grind [Au]) ?_;have e5:G (10*D7 (r.take i)+IntKind.u8.wrap ((r[i].toNat:Int)-48))=G (D7 (r.take (i+1))):=aa0
  have e6:G (1+(i:Int)+1)=G (1+((i+1:Nat):Int)):=Aa G Wk;refine Z ⟨i+1,by omega,fun j hj F6=>?_,by omega,fun _=>by omega,fun _=>by omega,fun _=>by omega,by omega⟩ ?_
  .grind
  .exact⟨Dl r.length i Wk,⟨X,⟨e5,rfl⟩,⟨e6,rfl⟩,W⟩,W,Fh,W⟩
 .intro h;have h:¬1+(i:Int)<(s.size:Nat):=h;have e3:r.all Cu=true:=AS.2 fun c hc=>by
   grind [List.getElem_of_mem]
  have e6:G (D7 (r.take i))=WE (Gx s.data.toList):=aa2
  exact .of_eq e6
abbrev c9(l:List UInt8):List CS:=(CJ 47 l).map bs
def XI:List (List UInt8)->UInt8->List (List UInt8)
 | [],_=>[]
 | [x],b=>[x++[b]]
 |x::l,b=>x::XI l b
theorem Lx(s:List UInt8):CJ c s≠[]:=by
 cases s<;>grind [CJ]
theorem V5(c:UInt8):∀s:List UInt8,CJ c (s++[c])=CJ c s++[[]]
 | []=>by simp[CJ]
 |b::r=>by
  rw[F3,CJ,V5 c r,CJ]
  by_cases e:b=c
  all_goals grind [Lx]
theorem VC(x:List UInt8){l:List (List UInt8)}(b:UInt8)(h:l≠[]):XI (x::l) b=x::XI l b:=by
 cases l with
 |nil=>simp_all
 |cons y l=>rfl
theorem SY(c b:UInt8)(hb:b≠c):∀s:List UInt8,CJ c (s++[b])=XI (CJ c s) b
 | []=>by grind [CJ,XI]
 |a::r=>by
  rw[F3,CJ,SY c b hb r,CJ]
  by_cases e:a=c
  .grind [VC,Lx]
  .rw[AL e,AL e];cases h:CJ c r with
   |nil=>grind [Lx]
   |cons x l=>
    cases l with
    |nil=>rfl
    |cons y l=>rfl
theorem XJ(b:UInt8):∀(l:List (List UInt8)) (x:List UInt8),l[l.length-1]?=some x->l.set (l.length-1) (x++[b])=XI l b
 | [],_,h=>by cases h
 | [y],x,h=>by
  have h:some y=some x:=h;rw[D5 h];rfl
 |y::z::l,x,h=>by
  have h:(z::l)[(z::l).length-1]?=some x:=h;rw[VC y b (List.cons_ne_nil _ _),<-XJ b (z::l) x h];rfl
theorem V4(s:List UInt8):(CJ c s).length<=s.length+1:=by
 induction s<;>grind [CJ]
abbrev Abe:Ns:=⟨[],[],[(5,1)],[],[],[],[],[],[],[(36,3)],[4]⟩
theorem pk{l:List UInt8}{c:UInt8}(hc:c≠47){x:CS}(h:(c9 l)[(c9 l).length-1]?=some x):(c9 l).set ((c9 l).length-1) (x++bs [c])=c9 (l++[c]):=by
 have h2:=h;rw[Ct,Lm]at h;obtain⟨y,hy,e⟩:=B6.1 h;subst e;show _=(CJ 47 (l++[c])).map bs;rw[SY 47 c hc l,<-XJ c (CJ 47 l) y hy,Wi,Lm]
 congr 1
theorem AdM(hs:Fp s):PC 190 [vs s] (sl GV (c9 s.data.toList)):=by
 unfold Fp at hs;have FW:s.size=s.data.toList.length:=aa1
 refine Ps Abe func190 rfl C4 (Z {p:Nat×List CS // p.1<=s.data.toList.length/\p.2=c9 (s.data.toList.take p.1)} (Z (fun p=>⟨[(0,vs s),(3,.msl 5 p.1.2.length),(4,G p.1.1)],[(5,.arr 1 (p.1.2.map GV))],Af⟩) (Z (fun p=>s.data.toList.length-p.1.1) (J (Z ⟨(0,[bs []]),Ak _,rfl⟩ ?_) ?_))))
 .exact⟨Z3,Z1,Fh,W⟩
 intro⟨⟨i,A⟩,h1,hA⟩;have hA:A=c9 (s.data.toList.take i):=hA;have qA:A.length<=i+1:=by
  grind [V4]
 have YU:0<A.length:=by
  grind [Lx]
 refine J (fun h=>?_) (fun h=>?_)
 .have h:(i:Int)<(s.size:Nat):=h;have h:i<s.data.toList.length:=Wk
  have OU:(0:Int)<=i/\s.data[((i:Nat):Int).toNat]?=some s.data.toList[i]:=⟨by omega,by grind⟩;have si:s.data.toList.take (i+1)=s.data.toList.take i++[s.data.toList[i]]:=by grind [List.take_add_one]
  refine Z s.data.toList[i] (J OU (J (fun h2=>?_) (fun h2=>?_)))
  .have h2:s.data.toList[i]=47:=Ih.1 aa2;have De:A7 1 [[vs (bs [])]]/\(A.map GV).length=A.length/\((A.map GV).length+[[vs (bs [])]].length)*16<=140737488355328/\(A.map GV).length+[[vs (bs [])]].length<=9223372036854775807:=
    ⟨⟨rfl,trivial⟩,by grind,by grind,by grind⟩
   refine J De (Z ⟨[(0,vs s),(3,.msl 5 (A++[bs []]).length),(4,G i)],[(5,.arr 1 ((A++[bs []]).map GV))],Af⟩ (J ?_ ?_))
   .have e1:AV.msl 5 ((A.map GV).length+[[vs (bs [])]].length)=.msl 5 (A++[bs []]).length:=aa1
    have e2:HO.arr 1 (A.map GV++[[vs (bs [])]])=.arr 1 ((A++[bs []]).map GV):=aa2
    exact⟨⟨X,⟨e1,rfl⟩,X,W⟩,⟨⟨e2,rfl⟩,W⟩,Fh,W⟩
   refine J (by grind [Au]) ?_;have eA:A++[bs []]=c9 (s.data.toList.take (i+1)):=by
    rw[hA,si,h2];show _=(CJ 47 _).map bs;rw[V5,Bl];rfl
   refine Z ⟨(i+1,A++[bs []]),by omega,eA⟩ ?_;exact⟨by grind,Z3,Z1,Fh,W⟩
  have h2:¬(s.data.toList[i].toNat:Int)=47:=h2;have h2:s.data.toList[i]≠47:=fun e=>h2 (by rw[e];rfl);have wJ:Au ((A.length:Int)-1):=by grind [Au]
  have E4:A.length-1<A.length:=Wk
  have hn:((A.length:Int)-1).toNat=A.length-1:=Wk
  have hg:A[A.length-1]?=some A[A.length-1]:=Ge E4;have wH:Fp A[A.length-1]:=by
   have sc:∀x∈A,x∈c9 (s.data.toList.take i):=fun x hx=>hA▸hx;obtain⟨y,hy,e⟩:=Ar.1 (sc _ (Ag E4));have h5:=Mb 47 _ y hy;rw[BX]at h5;unfold Fp;rw[<-e,show(bs y).size=y.length from rfl];omega
  have ki:((A[A.length-1].size+(⟨[s.data.toList[i]].toArray⟩:CS).size:Nat):Int)<=9223372036854775807:=by
   unfold Fp at wH
   have:(⟨[s.data.toList[i]].toArray⟩:CS).size=1:=rfl
   omega
  refine J wJ (J wJ (J (show(0:Int)<=(A.length:Int)-1/\(A.length:Int)-1<(A.length:Int) by omega) (J aa2 ?_)));have yo:(A.map GV)[((A.length:Int)-1).toNat]?=some (GV A[A.length-1]):=by rw[hn];grind
  refine Z (GV A[A.length-1]) (J yo (Z s.data.toList[i] (J OU (Z [s.data.toList[i]] (J rfl (J ki (J (show(0:Int)<=(A.length:Int)-1/\(A.length:Int)-1<(A.length:Int) by omega) (J aa2 (Z (GV A[A.length-1]) (J yo (yN (J aa4 (Al (show ∃B,B=A.set (A.length-1) (A[A.length-1]++bs [s.data.toList[i]])from⟨_,rfl⟩) (fun B hB=>?_))))))))))))));have zP:B.length=A.length:=by rw[hB,WF]
  have e2:HO.arr 1 ((A.map GV).set ((A.length:Int)-1).toNat [vs (A[A.length-1]++⟨[s.data.toList[i]].toArray⟩)])=.arr 1 (B.map GV):=by rw[hn,hB,Wi];rfl
  refine cU [(0,vs s),(3,.msl 5 B.length),(4,G i)] [(5,.arr 1 (B.map GV))] ⟨X,⟨Aa (AV.msl 5) zP.symm,rfl⟩,X,W⟩ ⟨⟨e2,rfl⟩,W⟩ (J (Ii i Wk) ?_);have eB:B=c9 (s.data.toList.take (i+1)):=by
   rw[si,hB];subst hA;exact pk h2 hg
  refine Z ⟨(i+1,B),by omega,eB⟩ ?_;exact⟨by grind,Z3,Z1,Fh,W⟩
 .have h:¬(i:Int)<(s.size:Nat):=h;refine J aa2 ?_;exact E (sl GV) (show A=c9 s.data.toList by grind)
end Go.Eng
