/- Lemmas 20. -/
import Derived.Test.YtkjhcikodmiceaaGreatDoorVA19
import Derived.Test.YtkjhcikodmiceaaGreatDoorVA03
namespace Go.Eng
open Go.Proofs Go.Proofs.Tryz
variable {d:List CS}{p:CS}{l:List Rl}(c:UInt8)(s:CS)
abbrev H45(x:List Rl)(ifs:C0)(roots:List Rq)(s:List Sl):Prop:=PC 21 [Jf x ifs,sl Ad roots,sl Ae s] (vi (CW x roots s))
theorem RL{x:List Rl}{roots:List Rq}{l0:List Nf}:∀(l:List Nf) (d d' : List (List Tm)),(∀i∈l,i∈l0)->(∀t∈d,Qy (Hb x roots l0) t)->BH x roots l d=some d'->∀t∈d',Qy (Hb x roots l0) t
 | [],d,d',_,hd,h=>by
  have:d=d':=DU h
  simp_all
 |i::l,d,d',hi,hd,h=>by
  unfold BH at h;cases e:AQ x roots d i with
  |none=>simp_all
  |some t=>
   rw[e]at h;refine RL l (d++[t]) d' (fun j hj=>hi j (Aj _ hj)) (fun u hu=>?_) h
   grind [Nj,List.mem_cons_self]
theorem RM{x:List Rl}{roots:List Rq}{l:List Nf}(h:(A1 x roots l).2=0):∀t∈(A1 x roots l).1,Qx t:=fun t ht=>by
 obtain⟨h1,h2,h3,h4⟩:=JJ h
 have:=(RL (l0:=l) l [] _ (fun _ h=>h) (fun _ h=>by cases h) h4 t ht).fewI (LD h1 h2 h3)
 grind
abbrev zp:M5:=(pC [7] [2,4,8,10,11,12,13])
theorem c21(x:List Rl)(ifs:C0)(roots:List Rq)(a:An)(T3:kb x ifs)(uj:H45 x ifs roots a.sel)(hx:∀r∈x,Fk r)(hr:∀q∈roots,IE q)(hs:a.sel.length<=500)(hk:BO a.skips):PC 49 [Jf x ifs,sl Ad roots,.agg (Gt a)] (vi (Dk x roots a)):=by
 obtain⟨found,sel,infs,skips⟩:=a;have hs:sel.length<=500:=hs;have Ss:=c36 x ifs roots infs hx hr (fun _=>Abo x ifs roots T3);unfold d7 at Ss;obtain⟨D,hD⟩:∃D,D=Dk x roots ⟨found,sel,infs,skips⟩:=⟨_,rfl⟩;rw[<-hD];unfold Dk at hD
 by_cases he:(A1 x roots infs).2=0
 .rw[A3 he]at Ss;rw[AN (by simp_all)]at hD;obtain⟨h1,h2,h3,h4⟩:=JJ he;have hdf:=RM he;have hdl:(A1 x roots infs).1.length<=65536:=TE;obtain⟨d,hd⟩:∃d,d=(A1 x roots infs).1:=⟨_,rfl⟩;rw[<-hd]at hD Ss hdf hdl;have qg:=c40 x (.slice .none ifs) roots d Wk;refine Ps zp func49 rfl (Nz rfl) (yN (C1 (C2 (Ss) (yN (cU [(1,sl Ad roots),(3,.ref 3 0),(5,.ref 5 0),(7,.ref 7 0),(8,vi 0)] [(3,.cells (Ic x ifs)),(5,.cells [vb found,sl Ae sel,sl AG infs,sl AB skips]),(7,.ro [.cptr (Ct x (.slice .none ifs) roots d)])] Z5 Z3 (Yi ?_ ?_))))))
  .intro h;exact absurd rfl h
  intro _;refine cU [(1,sl Ad roots),(3,.ref 3 0),(5,.ref 5 0),(7,.ref 7 0)] [(3,.cells (Ic x ifs)),(5,.cells [vb found,sl Ae sel,sl AG infs,sl AB skips]),(7,.ro [.cptr (Ct x (.slice .none ifs) roots d)])] Z4 Z3 (Yi ?_ ?_)
  .intro hf;have hf:found=true:=hf;have hD:D=if CW x roots sel≠0 then 18 else if(((visits x roots sel).1.foldl (B6 x d) (true,skips)).1&&((visits x roots sel).1.foldl (B6 x d) (true,skips)).2.isEmpty)then 0 else 18:=by
    simp_all
   refine cU [(1,sl Ad roots),(3,.ref 3 0),(5,.ref 5 0),(7,.ref 7 0)] [(3,.cells (Ic x ifs)),(5,.cells [vb found,sl Ae sel,sl AG infs,sl AB skips]),(7,.ro [.cptr (Ct x (.slice .none ifs) roots d)])] Z4 Z3 (yN (C1 (C2 (uj) (Yi ?_ ?_))))
   .intro hz;have hz:CW x roots sel≠0:=hz;exact .of_eq (Aa vi (show(18:Int)=D by omega))
   intro hz;have hz:¬CW x roots sel≠0:=hz;have hD:D=if(((visits x roots sel).1.foldl (B6 x d) (true,skips)).1&&((visits x roots sel).1.foldl (B6 x d) (true,skips)).2.isEmpty)then 0 else 18:=by omega
   have hcd:=AbW x ifs roots d sel (true,skips) T3 h1 hx (by grind [MW]) (fun q hq=>(hr q hq).1) hs hdl hdf;refine cU [(5,.ref 5 0),(7,.ref 7 0)] [(5,.cells [vb found,sl Ae sel,sl AG infs,sl AB skips]),(7,.ro [.cptr (Ct x (.slice .none ifs) roots d)])] Z2 Z2 (yN (cU [(5,.ref 5 0),(7,.ref 7 0),(9,.ref 9 0)] [(5,.cells [vb found,sl Ae sel,sl AG infs,sl AB skips]),(7,.ro [.cptr (Ct x (.slice .none ifs) roots d)]),(9,.cells [vb true])] Z3 Z3 (yN (cU [(5,.ref 5 0),(7,.ref 7 0),(9,.ref 9 0),(10,.ref 10 0)] [(5,.cells [vb found,sl Ae sel,sl AG infs,sl AB skips]),(7,.ro [.cptr (Ct x (.slice .none ifs) roots d)]),(9,.cells [vb true]),(10,.cells [sl AB skips])] Z4 Z4 (Xi (.gen [(10,1000),(9,1001)] 0) (Yi rfl (hcd.imp ?_)))))));intro v g q;have q1:=q.1;have q2:=q.2;subst q1;subst q2;refine Ao (show ∃A,A=(visits x roots sel).1.foldl (B6 x d) (true,skips)from⟨_,rfl⟩) (fun A hA=>?_);refine cU [(9,.ref 9 0),(10,.ref 10 0)] [(9,.cells [vb A.1]),(10,.cells [sl AB A.2])] Z2 ⟨⟨Aa (fun a:Bool×List Sk=>HO.cells [vb a.1]) hA.symm,rfl⟩,⟨Aa (fun a:Bool×List Sk=>HO.cells [sl AB a.2]) hA.symm,rfl⟩,Tv⟩ ?_
   rw[<-hA]at hD;refine Yi ?_ ?_
   .intro h5;have h5:A.1=true:=h5;refine Yi ?_ ?_
    .intro h6;have h6:(0:Int)<(A.2.map AB).length:=h6;have h6:A.2.isEmpty=false:=by
      grind
     exact .of_eq (Aa vi (show(18:Int)=D by simp_all))
    .intro h6;have h6:¬(0:Int)<(A.2.map AB).length:=h6;have h6:A.2.isEmpty=true:=by
      simp_all
     exact .of_eq (Aa vi (show(0:Int)=D by simp_all))
   .intro h5;have h5:A.1=false:=h5;exact .of_eq (Aa vi (show(18:Int)=D by simp_all))
  .intro hf;have hf:found=false:=hf;have hD:D=if(!sel.isEmpty||!skips.isEmpty||!EC d)then 18 else 0:=by
    simp_all
   refine Yi ?_ ?_
   .intro h5;have h5:(0:Int)<(sel.map Ae).length:=h5;have h5:sel.isEmpty=false:=by
     grind
    exact .of_eq (Aa vi (show(18:Int)=D by simp_all))
   intro h5;have h5:¬(0:Int)<(sel.map Ae).length:=h5;have h5:sel.isEmpty=true:=by
    simp_all
   refine Yi ?_ ?_
   .intro h6;have h6:(0:Int)<(skips.map AB).length:=h6;have h6:skips.isEmpty=false:=by
     grind
    exact .of_eq (Aa vi (show(18:Int)=D by simp_all))
   intro h6;have h6:¬(0:Int)<(skips.map AB).length:=h6;have h6:skips.isEmpty=true:=by
    simp_all
   refine Ax (Bt (EC d)) (fun h7=>?_) (fun h7=>?_)
   .rw[h7]at qg;refine C1 (C2 (qg) ?_);exact .of_eq (Aa vi (show(0:Int)=D by simp_all))
   .rw[h7]at qg;refine C1 (C2 (qg) ?_);exact .of_eq (Aa vi (show(18:Int)=D by simp_all))
 .rw[AN he]at Ss;rw[A3 he]at hD;refine Ps zp func49 rfl (Nz rfl) (yN (C1 (C2 (Ss) (yN (cU [(8,vi (A1 x roots infs).2)] [] Z1 Tv (Yi ?_ ?_))))))
  .intro _;exact .of_eq (Aa vi hD.symm)
  .intro h;exact absurd he h
def MS(d:List CS):List Rl->Nat
 | []=>0
 |r::l=>(if d.any (fun p=>decide (p=r.path))then 0 else r.reqs.length)+MS d l
theorem fV(d:List CS)(p:CS):∀l:List Rl,MS (d++[p]) l<=MS d l
 | []=>Ap _
 |r::l=>by
  have ih:=fV d p l
  grind [MS]
theorem Re(d:List CS)(p:CS)(hp:d.any (fun q=>decide (q=p))=false):∀l:List Rl,MS (d++[p]) l+(Fc l p).length<=MS d l
 | []=>by simp[MS,Fc]
 |r::l=>by
  by_cases hr:r.path=p
  .grind [Fc,MS,fV]
  .have e:Fc (r::l) p=Fc l p:=by grind [Fc]
   rw[e];have ih:=Re d p hp l
   grind [MS]
theorem UW:∀l:List Rl,MS [] l=(l.map fun r=>r.reqs.length).foldl (·+·) 0
 |l=>by
  have gen:∀(l:List Rl) (a:Nat),(l.map fun r=>r.reqs.length).foldl (·+·) a=a+MS [] l:=fun l=>by
   induction l<;>grind [MS]
  simp_all
structure NI(l:List Rl)(roots:List Rq)(d:List CS)(t:List Rq)(n:Nat):Prop where
 need:Fq l (Hh l roots) roots []=Fq l n t d
 pot:t.length+MS d l+1<=n
section
variable {l:List Rl}{roots t:List Rq}{d:List CS}{n:Nat}
theorem NI.start(l:List Rl)(roots:List Rq):NI l roots [] roots (Hh l roots):=⟨rfl,by grind [UW,Hh]⟩
theorem NI.stop(h:NI l roots d [] n):Fq l (Hh l roots) roots []=d:=by
 rw[h.need];cases n<;>rfl
theorem NI.old{q:Rq}(h:NI l roots d (q::t) (n+1))(hq:d.any (fun p=>decide (p=q.path))=true):NI l roots d t n:=
 ⟨by rw[h.need];show(if _ then _ else _)=_;simp_all,by have:=h.pot;grind⟩
theorem NI.new{q:Rq}(h:NI l roots d (q::t) (n+1))(hq:d.any (fun p=>decide (p=q.path))=false):NI l roots (d++[q.path]) (t++Fc l q.path) n:=
 ⟨by rw[h.need];show(if _ then _ else _)=_;grind,by
  have:=h.pot
  have:=Re d q.path hq l
  grind⟩
end
abbrev WL(p:CS):Value×AV:=(.string p,vb true)
theorem SP{a:AV}(h:(Value.string p,a)∈d.map WL):p∈d/\a=vb true:=by
 grind
theorem Jk:(d.any fun q=>decide (q=p))=true↔p∈d:=kB
theorem tq(hn:(l.map (·.path)).Nodup){i:Nat}(hi:i<l.length):E7 ((l.take i).map MI) (.string l[i].path) (.agg (Am l[i]))=(l.take (i+1)).map MI:=by
 rw[IP]
 .rw[Dm,Ge hi,Bk];rfl
 intro a ha;obtain⟨r,hr,he,_⟩:=SQ ha;obtain⟨j,hj,e2⟩:=Dn.1 hr;rw[BW]at hj;rw[List.getElem_take]at e2
 have:=(List.getElem_inj (xs:=l.map (·.path)) (i:=j) (j:=i) (h₀:=by grind) (h₁:=by simp_all) hn).1 (by simp_all)
 omega
theorem W5{x:List Rl}{s:List Sl}(hi:Bb s=true)(h:FK x s=some l):(l.map (·.path)).Nodup:=by
 have e:=(F5 h).1
 have:l.map (·.path)=s.map (·.path):=by rw[<-e,BX];rfl
 rw[this];have hp:=(Iq hi).1
 grind [Dg]
abbrev rg:M5:=⟨[],[(72,2)],[],[(47,[35,10])],[],[],[72],[],[],[],[2,4,5,7,8,10,11,13,14,16,17,20,22,23,24,25,26,27,30]⟩
theorem c45(x:List Rl)(ifs:C0)(roots:List Rq)(s:List Sl)(T3:kb x ifs)(hx:∀r∈x,Fk r)(hr:roots.length<=1000000)(Sw:∀q∈roots,BO q.set)(hs:s.length<=1000000):H45 x ifs roots s:=by
 have bF:BO s:=by omega
 have wy:BO roots:=by omega
 obtain⟨D,hD⟩:∃D,D=CW x roots s:=⟨_,rfl⟩;unfold H45;rw[<-hD];unfold CW at hD
 by_cases h0:At x=0
 .have T3:PC 51 [Jf x ifs] (.tup [.agg [.cmap OV (x.map Ow),.cmap Cc ((AP x []).map (iZ x))],vi 0]):=by
   grind
  rw[AN Wk]at hD;have ZL:=c85 x s ((AP x []).map (iZ x)) h0 bF;unfold jO at ZL;cases hi:Bb s with
  |false=>
   rw[A3 hi]at ZL;rw[A3 (by simp_all)]at hD;refine Ps rg func21 rfl (Nz rfl) (Xi 0 (Xi 0 (yN (C1 (C2 (T3) (yN (cU [(1,sl Ad roots),(2,sl Ae s),(7,.ref 7 0),(8,vi 0)] [(7,.cells [.cmap OV (x.map Ow),.cmap Cc ((AP x []).map (iZ x))])] Z4 Z1 (Xi 0 (Yi ?_ ?_)))))))))
   .intro h;exact absurd rfl h
   intro _;refine cU [(1,sl Ad roots),(2,sl Ae s),(7,.ref 7 0)] [(7,.cells [.cmap OV (x.map Ow),.cmap Cc ((AP x []).map (iZ x))])] Z3 Z1 (Xi 0 (yN (C1 (C2 (ZL) (cU [(8,vi 1)] [] Z1 Tv (Xi 0 (Yi ?_ ?_)))))))
   .intro _;refine Xi 0 ?_;exact .of_eq (Aa vi hD.symm)
   .intro h;exact absurd (show(1:Int)≠0 by decide) h
  |true=>
   rw[AN (by simp_all)]at ZL;rw[AN (by simp_all)]at hD;cases Ug:FK x s with
   |none=>
    rw[Ug]at ZL hD;refine Ps rg func21 rfl (Nz rfl) (Xi 0 (Xi 0 (yN (C1 (C2 (T3) (yN (cU [(1,sl Ad roots),(2,sl Ae s),(7,.ref 7 0),(8,vi 0)] [(7,.cells [.cmap OV (x.map Ow),.cmap Cc ((AP x []).map (iZ x))])] Z4 Z1 (Xi 0 (Yi ?_ ?_)))))))))
    .intro h;exact absurd rfl h
    intro _;refine cU [(1,sl Ad roots),(2,sl Ae s),(7,.ref 7 0)] [(7,.cells [.cmap OV (x.map Ow),.cmap Cc ((AP x []).map (iZ x))])] Z3 Z1 (Xi 0 (yN (C1 (C2 (ZL) (cU [(8,vi 6)] [] Z1 Tv (Xi 0 (Yi ?_ ?_)))))))
    .intro _;refine Xi 0 ?_;exact .of_eq (Aa vi hD.symm)
    .intro h;exact absurd (show(6:Int)≠0 by decide) h
   |some l=>
    rw[Ug]at ZL hD;have Vu:=W5 hi Ug;have hll:l.length=s.length:=by rw[<-(F5 Ug).1,Lm]
    have hlx:∀r∈l,r∈x:=fun r hr=>(Cv ((F5 Ug).2.1 r hr)).2.1;have hlq:∀r∈l,r.reqs.length<=16:=fun r hr=>(Fs h0).2 r (hlx r hr);have cM:∀q:Rq,BO q.set->PC 53 ([.agg (Ad q)]++[.cptr [.cmap Cc (l.map MI)]]) (vb (B9 l q)):=fun q hq=>c86 l Vu q hq;have Jt:C3 [.cptr [.cmap Cc (l.map MI)]]:=fun c hc=>by
     obtain rfl:=AJ.1 hc;intro h;rfl
    have hD:D=if l.any (fun r=>r.reqs.any (B9 l))then 17 else if roots.any (B9 l)then 17 else if(Fq l (Hh l roots) roots []).length<l.length then 8 else 0:=hD
    refine Ps rg func21 rfl (Nz rfl) (Xi 0 (Xi 0 (yN (C1 (C2 (T3) (yN (cU [(1,sl Ad roots),(2,sl Ae s),(7,.ref 7 0),(8,vi 0)] [(7,.cells [.cmap OV (x.map Ow),.cmap Cc ((AP x []).map (iZ x))])] Z4 Z1 (Xi 0 (Yi ?_ ?_)))))))))
    .intro h;exact absurd rfl h
    intro _;refine cU [(1,sl Ad roots),(2,sl Ae s),(7,.ref 7 0)] [(7,.cells [.cmap OV (x.map Ow),.cmap Cc ((AP x []).map (iZ x))])] Z3 Z1 (Xi 0 (yN (C1 (C2 (ZL) (cU [(1,sl Ad roots),(8,vi 0),(9,sl Am l)] [] Z3 Tv (Xi 0 (Yi ?_ ?_)))))))
    .intro h;exact absurd rfl h
    intro _;refine cU [(1,sl Ad roots),(9,sl Am l)] [] Z2 Tv (Xi 0 (yN (cU [(1,sl Ad roots),(9,sl Am l),(10,.ref 10 0)] [(10,.cells [.mref 35]),(35,.map Cc [])] Z3 Z2 (Xi 0 (Xi {i:Nat // i<=l.length} (Xi (fun i=>⟨[(1,sl Ad roots),(9,sl Am l),(10,.ref 10 0),(36,sl Am l),(37,vi (l.map Am).length),(38,vi i.1)],[(10,.cells [.mref 35]),(35,.map Cc ((l.take i.1).map MI))],Af⟩) (Xi (fun i=>l.length-i.1) (Yi (Xi ⟨0,Al _⟩ ?_) ?_))))))))
    .exact⟨Z6,Z2,Fh,Tv⟩
    intro⟨i,i1⟩;have i1:i<=l.length:=i1;refine Xi 0 (Yi ?_ ?_)
    .intro h;have h:(i:Int)<(l.map Am).length:=h;have h:i<l.length:=by simp_all
     have hg:l[i]?=some l[i]:=Ge h;refine cU [(1,sl Ad roots),(9,sl Am l),(10,.ref 10 0),(36,sl Am l),(37,vi (l.map Am).length),(38,vi i)] [(10,.cells [.mref 35]),(35,.map Cc ((l.take i).map MI))] Z6 Z2 (Xi 0 (Xi (Am l[i]) (Yi (Yi Wk (by simp_all)) (Yi rfl ?_))));refine Yi (Nz rfl) (yN (cU [(1,sl Ad roots),(9,sl Am l),(10,.ref 10 0),(36,sl Am l),(37,vi (l.map Am).length),(12,.ref 12 0),(38,vi i)] [(12,.cells (Am l[i])),(10,.cells [.mref 35]),(35,.map Cc ((l.take i).map MI))] Z7 Z3 (Xi 0 (yN ?_))));have e35:=tq Vu h;refine Xi 0 (Yi (Ii i Wk) (Xi ⟨i+1,by omega⟩ ?_));exact⟨by grind,Z6,⟨Zr,⟨Aa (HO.map Cc) e35,rfl⟩,Tv⟩,Fh,Tv⟩
    intro h;have h:¬(i:Int)<(l.map Am).length:=h;have h:¬i<l.length:=by simp_all
    have et:(l.take i).map MI=l.map MI:=by grind
    refine cU [(1,sl Ad roots),(9,sl Am l),(10,.ref 10 0)] [(10,.cells [.mref 35]),(35,.map Cc (l.map MI))] Z3 ⟨Zr,⟨Aa (HO.map Cc) et,rfl⟩,Tv⟩ (Xi 0 (cU [(1,sl Ad roots),(9,sl Am l),(10,.ref 10 0),(13,.clo 53 [.cptr [.cmap Cc (l.map MI)]])] [(10,.ro [.cmap Cc (l.map MI)])] Z4 Z1 (Xi 0 (Xi {i:Nat // i<=l.length/\∀j (hj:j<l.length),j<i->l[j].reqs.any (B9 l)=false} (Xi (fun i=>⟨[(1,sl Ad roots),(9,sl Am l),(10,.ref 10 0),(13,.clo 53 [.cptr [.cmap Cc (l.map MI)]]),(48,sl Am l),(49,vi (l.map Am).length),(50,vi i.1)],[(10,.ro [.cmap Cc (l.map MI)])],Af⟩) (Xi (fun i=>l.length-i.1) (Yi (Xi ⟨0,Al _,fun j _ hj=>absurd hj (Cf j)⟩ ?_) ?_)))))))
    .exact⟨Z7,Z1,Fh,Tv⟩
    intro⟨i,i1,i2⟩;have i1:i<=l.length:=i1;refine Xi 0 (Yi ?_ ?_)
    .intro h;have h:(i:Int)<(l.map Am).length:=h;have h:i<l.length:=by omega
     have hg:l[i]?=some l[i]:=Ge h;have Lt:PC 56 [sl Ad l[i].reqs,.clo 53 [.cptr [.cmap Cc (l.map MI)]]] (vb (l[i].reqs.any (B9 l))):=c89 Jt l[i].reqs (B9 l) (fun q hq=>cM q ((hx _ (hlx _ (Ah h))).2 q hq).1) (by grind);refine cU [(1,sl Ad roots),(9,sl Am l),(10,.ref 10 0),(13,.clo 53 [.cptr [.cmap Cc (l.map MI)]]),(48,sl Am l),(49,vi (l.map Am).length),(50,vi i)] [(10,.ro [.cmap Cc (l.map MI)])] Z7 Z1 (Xi 0 (Xi (Am l[i]) (Yi (Yi Wk (by simp_all)) (Yi rfl ?_))));refine Yi (Nz rfl) (yN (cU [(1,sl Ad roots),(9,sl Am l),(10,.ref 10 0),(13,.clo 53 [.cptr [.cmap Cc (l.map MI)]]),(48,sl Am l),(49,vi (l.map Am).length),(15,.ref 15 0),(50,vi i)] [(10,.ro [.cmap Cc (l.map MI)]),(15,.cells (Am l[i]))] Z8 Z2 (Xi 0 (Ax (Bt (l[i].reqs.any (B9 l))) (fun hb=>?_) (fun hb=>?_)))))
     .rw[hb]at Lt;refine C1 (C2 (Lt) (Xi 0 ?_));have ha:l.any (fun r=>r.reqs.any (B9 l))=true:=BC.2 ⟨l[i],Ah h,hb⟩;exact .of_eq (Aa vi (show(17:Int)=D by simp_all))
     .rw[hb]at Lt;refine C1 (C2 (Lt) (Xi 0 (Yi (by grind [Au]) (Xi ⟨i+1,by omega,fun j hj GC=>?_⟩ ?_))))
      .grind
      exact⟨by grind,Z7,Z1,Fh,Tv⟩
    intro h;have h:¬(i:Int)<(l.map Am).length:=h;have h:¬i<l.length:=by simp_all
    have ha:l.any (fun r=>r.reqs.any (B9 l))=false:=by
     grind [List.mem_iff_getElem]
    have hD:D=if roots.any (B9 l)then 17 else if(Fq l (Hh l roots) roots []).length<l.length then 8 else 0:=by simp_all
    have Lt:PC 56 [sl Ad roots,.clo 53 [.cptr [.cmap Cc (l.map MI)]]] (vb (roots.any (B9 l))):=c89 Jt roots (B9 l) (fun q hq=>cM q (Sw q hq)) wy;refine cU [(1,sl Ad roots),(9,sl Am l),(10,.ref 10 0),(13,.clo 53 [.cptr [.cmap Cc (l.map MI)]])] [(10,.ro [.cmap Cc (l.map MI)])] Z4 Z1 (Xi 0 (Ax (Bt (roots.any (B9 l))) (fun hb=>?_) (fun hb=>?_)))
    .rw[hb]at Lt;refine C1 (C2 (Lt) (Xi 0 ?_));exact .of_eq (Aa vi (show(17:Int)=D by simp_all))
    rw[hb]at Lt;have hD:D=if(Fq l (Hh l roots) roots []).length<l.length then 8 else 0:=by simp_all
    refine C1 (C2 (Lt) (cU [(1,sl Ad roots),(9,sl Am l),(10,.ref 10 0)] [(10,.ro [.cmap Cc (l.map MI)])] Z3 Z1 (Xi 0 (cU [(1,sl Ad roots),(9,sl Am l),(10,.ref 10 0),(16,.mref 62)] [(10,.ro [.cmap Cc (l.map MI)]),(62,.map Cc [])] Z4 Z2 (Xi 0 (Xi (.gen [] 1) (Yi rfl ((xv roots wy).imp ?_))))))));intro v g q;have q1:=q.1;have q2:=q.2;subst q1;subst q2
    clear q
    have AfY:MS [] l<=16*l.length:=by
     have gen:∀l:List Rl,(∀r∈l,r.reqs.length<=16)->MS [] l<=16*l.length:=fun l=>by
      induction l with
      |nil=>intro _;exact Ap _
      |cons r l ih=>
       grind [MS]
     grind
    have hfu:Hh l roots<=roots.length+16*l.length+1:=by grind [Hh,UW]
    refine Xi {p:List CS×List Rq×Nat×Bool // NI l roots p.1 p.2.1 p.2.2.1/\p.2.2.1<=Hh l roots} (Xi (fun p=>⟨[(9,sl Am l),(10,.ref 10 0),(16,.mref 62),(17,.slice (.id (bif p.1.2.2.2 then 16400 else 201) 2) (p.1.2.1.map Ad))],[(10,.ro [.cmap Cc (l.map MI)]),(62,.map Cc (p.1.1.map WL)),(16400,bif p.1.2.2.2 then .tok 2 (p.1.2.1.map Ad).length else .free),(201,bif p.1.2.2.2 then .free else .tok 2 (p.1.2.1.map Ad).length)],Af⟩) (Xi (fun p=>p.1.2.2.1) (Yi (Xi ⟨([],roots,Hh l roots,true),NI.start l roots,Ap _⟩ ?_) ?_)))
    .exact⟨Z4,Z4,Fh,Tv⟩
    intro⟨⟨d,t,n,b⟩,ni,nf⟩;have ni:NI l roots d t n:=ni;have nf:n<=Hh l roots:=nf;refine Ax (Bt b) (fun eb=>?_) (fun eb=>?_)
    .refine cU [(9,sl Am l),(10,.ref 10 0),(16,.mref 62),(17,.slice (.id 16400 2) (t.map Ad))] [(10,.ro [.cmap Cc (l.map MI)]),(62,.map Cc (d.map WL)),(16400,.tok 2 (t.map Ad).length)] ⟨Zr,Zr,Zr,⟨by show AV.slice (.id (bif b then 16400 else 201) 2) (t.map Ad)=_;simp_all,rfl⟩,Tv⟩ ⟨Zr,Zr,⟨by show(bif b then HO.tok 2 (t.map Ad).length else HO.free)=_;simp_all,rfl⟩,Tv⟩ ?_
     refine Xi 0 (Yi ?_ ?_)
     .intro h;have h:(0:Int)<(t.map Ad).length:=h;refine Ao (show ∃q t',t=q::t' by cases t<;>simp_all) (fun q hq=>?_)
      refine Ao hq (fun t' hq=>?_);refine Ao (show ∃m,n=m+1 from⟨n-1,by have:=ni.pot;omega⟩) (fun m yI=>?_);have ni:NI l roots d (q::t') (m+1):=hq▸yI▸ni;have Adn:=ni.pot;have qq:(t.map Ad)[(0:Int).toNat]?=some (Ad q):=by simp_all
      refine cU [(9,sl Am l),(10,.ref 10 0),(16,.mref 62),(17,.slice (.id 16400 2) (t.map Ad))] [(10,.ro [.cmap Cc (l.map MI)]),(62,.map Cc (d.map WL)),(16400,.tok 2 (t.map Ad).length)] Z4 Z3 (Xi 0 (Xi (Ad q) (Yi (Yi aa1 qq) (Yi rfl (Yi (Nz rfl) (yN (cU [(9,sl Am l),(10,.ref 10 0),(16,.mref 62),(17,.slice (.id 16400 2) (t.map Ad)),(18,.ref 18 0)] [(10,.ro [.cmap Cc (l.map MI)]),(62,.map Cc (d.map WL)),(16400,.tok 2 (t.map Ad).length),(18,.cells (Ad q))] Z5 Z4 (Xi 201 ?_))))))));have wB:1<=(t.map Ad).length:=by omega
      refine Yi (Yi rfl (Yi aa1 Wk)) ?_;have ed:(t.map Ad).drop (1:Int).toNat=t'.map Ad:=by simp_all
      refine cU [(9,sl Am l),(10,.ref 10 0),(16,.mref 62),(17,.slice (.id 201 2) (t'.map Ad)),(18,.ref 18 0)] [(10,.ro [.cmap Cc (l.map MI)]),(62,.map Cc (d.map WL)),(201,.tok 2 (t'.map Ad).length),(18,.cells (Ad q))] ⟨Zr,Zr,Zr,⟨Aa (AV.slice (.id 201 2)) ed,rfl⟩,Zr,Tv⟩ ⟨Zr,Zr,⟨Aa (fun e:C0=>HO.tok 2 e.length) ed,rfl⟩,Zr,Tv⟩ (Xi 0 (Yi ?_ ?_))
      .intro a ha;refine Ao (show ∃u,u=()from⟨(),rfl⟩) (fun _ _=>?_);have e:=(SP ha).2;subst e;have ho:=Jk.2 (SP ha).1;have dp:=ni.old ho;refine Xi ⟨(d,t',m,false),dp,by grind⟩ ?_;exact⟨by simp_all,Z4,Z4,Fh,Tv⟩
      intro PK;have ho:d.any (fun p=>decide (p=q.path))=false:=by
       rw[A8];intro hc;exact PK (vb true) (Ar.2 ⟨q.path,Jk.1 hc,rfl⟩)
      have dp:=ni.new ho;have ZT:=dp.pot;refine Xi 0 ?_;have xC:E7 (d.map WL) (.string q.path) (vb true)=(d++[q.path]).map WL:=by rw[IP PK,Bk];rfl
      refine Xi 0 (Yi ?_ ?_)
      .intro a ha;refine Ao (SQ ha) (fun r X7=>?_);have e:=X7.2.2;subst e;have oR:Fc l q.path=r.reqs:=by
        unfold Fc;rw[<-X7.2.1,HC Vu X7.1]
       rw[oR]at dp ZT;have hrl:=hlq r X7.1;have CY:Bh 2 (r.reqs.map Ad)/\(t'.map Ad).length=(t'.map Ad).length/\((t'.map Ad).length+(r.reqs.map Ad).length)*40<=140737488355328/\(t'.map Ad).length+(r.reqs.map Ad).length<=9223372036854775807:=
        ⟨Cm (enc:=Ad) (n:=2) (fun _=>rfl) r.reqs,rfl,by grind,by grind⟩
       refine Yi CY ?_;have uc:AV.slice (.id 201 2) (t'.map Ad++r.reqs.map Ad)=.slice (.id 201 2) ((t'++r.reqs).map Ad):=by simp_all
       have vq:HO.tok 2 ((t'.map Ad).length+(r.reqs.map Ad).length)=.tok 2 ((t'++r.reqs).map Ad).length:=by simp_all
       refine Xi ⟨(d++[q.path],t'++r.reqs,m,false),dp,by grind⟩ ?_;exact⟨by simp_all,⟨Zr,Zr,Zr,⟨uc,rfl⟩,Tv⟩,⟨Zr,⟨Aa (HO.map Cc) xC,rfl⟩,Zr,⟨vq,rfl⟩,Tv⟩,Fh,Tv⟩
      intro hnb;have oR:Fc l q.path=[]:=by
       unfold Fc
       grind
      rw[oR]at dp ZT;have CY:Bh 2 []/\(t'.map Ad).length=(t'.map Ad).length/\((t'.map Ad).length+([]:C0).length)*40<=140737488355328/\(t'.map Ad).length+([]:C0).length<=9223372036854775807:=
       ⟨trivial,rfl,by grind,by grind⟩
      refine Yi CY ?_;have uc:AV.slice (.id 201 2) (t'.map Ad++[])=.slice (.id 201 2) ((t'++[]).map Ad):=by simp_all
      have vq:HO.tok 2 ((t'.map Ad).length+([]:C0).length)=.tok 2 ((t'++[]).map Ad).length:=by simp_all
      refine Xi ⟨(d++[q.path],t'++[],m,false),dp,by grind⟩ ?_;exact⟨by simp_all,⟨Zr,Zr,Zr,⟨uc,rfl⟩,Tv⟩,⟨Zr,⟨Aa (HO.map Cc) xC,rfl⟩,Zr,⟨vq,rfl⟩,Tv⟩,Fh,Tv⟩
     intro h;have h:¬(0:Int)<(t.map Ad).length:=h;have ht0:t=[]:=by
      simp_all
     have Ad8:Fq l (Hh l roots) roots []=d:=(ht0▸ni).stop;have hD:D=if d.length<l.length then 8 else 0:=by simp_all
     refine cU [(9,sl Am l),(16,.mref 62)] [(62,.map Cc (d.map WL))] Z2 Z1 (Xi 0 (Yi ?_ ?_))
     .intro h;have h:((d.map WL).length:Int)<((l.map Am).length:Int):=h;have h:d.length<l.length:=by simp_all
      refine Xi 0 ?_;exact .of_eq (Aa vi (show(8:Int)=D by omega))
     .intro h;have h:¬((d.map WL).length:Int)<((l.map Am).length:Int):=h;have h:¬d.length<l.length:=by simp_all
      refine Xi 0 ?_;exact .of_eq (Aa vi (show(0:Int)=D by omega))
    .refine cU [(9,sl Am l),(10,.ref 10 0),(16,.mref 62),(17,.slice (.id 201 2) (t.map Ad))] [(10,.ro [.cmap Cc (l.map MI)]),(62,.map Cc (d.map WL)),(201,.tok 2 (t.map Ad).length)] ⟨Zr,Zr,Zr,⟨by show AV.slice (.id (bif b then 16400 else 201) 2) (t.map Ad)=_;simp_all,rfl⟩,Tv⟩ ⟨Zr,Zr,⟨by show(bif b then HO.free else HO.tok 2 (t.map Ad).length)=_;simp_all,rfl⟩,Tv⟩ ?_
     refine Xi 0 (Yi ?_ ?_)
     .intro h;have h:(0:Int)<(t.map Ad).length:=h;refine Ao (show ∃q t',t=q::t' by cases t<;>simp_all) (fun q hq=>?_)
      refine Ao hq (fun t' hq=>?_);refine Ao (show ∃m,n=m+1 from⟨n-1,by have:=ni.pot;omega⟩) (fun m yI=>?_);have ni:NI l roots d (q::t') (m+1):=hq▸yI▸ni;have Adn:=ni.pot;have qq:(t.map Ad)[(0:Int).toNat]?=some (Ad q):=by simp_all
      refine cU [(9,sl Am l),(10,.ref 10 0),(16,.mref 62),(17,.slice (.id 201 2) (t.map Ad))] [(10,.ro [.cmap Cc (l.map MI)]),(62,.map Cc (d.map WL)),(201,.tok 2 (t.map Ad).length)] Z4 Z3 (Xi 0 (Xi (Ad q) (Yi (Yi aa1 qq) (Yi rfl (Yi (Nz rfl) (yN (cU [(9,sl Am l),(10,.ref 10 0),(16,.mref 62),(17,.slice (.id 201 2) (t.map Ad)),(18,.ref 18 0)] [(10,.ro [.cmap Cc (l.map MI)]),(62,.map Cc (d.map WL)),(201,.tok 2 (t.map Ad).length),(18,.cells (Ad q))] Z5 Z4 (Xi 16400 ?_))))))));have wB:1<=(t.map Ad).length:=by omega
      refine Yi (Yi rfl (Yi aa1 Wk)) ?_;have ed:(t.map Ad).drop (1:Int).toNat=t'.map Ad:=by simp_all
      refine cU [(9,sl Am l),(10,.ref 10 0),(16,.mref 62),(17,.slice (.id 16400 2) (t'.map Ad)),(18,.ref 18 0)] [(10,.ro [.cmap Cc (l.map MI)]),(62,.map Cc (d.map WL)),(16400,.tok 2 (t'.map Ad).length),(18,.cells (Ad q))] ⟨Zr,Zr,Zr,⟨Aa (AV.slice (.id 16400 2)) ed,rfl⟩,Zr,Tv⟩ ⟨Zr,Zr,⟨Aa (fun e:C0=>HO.tok 2 e.length) ed,rfl⟩,Zr,Tv⟩ (Xi 0 (Yi ?_ ?_))
      .intro a ha;refine Ao (show ∃u,u=()from⟨(),rfl⟩) (fun _ _=>?_);have e:=(SP ha).2;subst e;have ho:=Jk.2 (SP ha).1;have dp:=ni.old ho;refine Xi ⟨(d,t',m,true),dp,by grind⟩ ?_;exact⟨by simp_all,Z4,Z4,Fh,Tv⟩
      intro PK;have ho:d.any (fun p=>decide (p=q.path))=false:=by
       rw[A8];intro hc;exact PK (vb true) (Ar.2 ⟨q.path,Jk.1 hc,rfl⟩)
      have dp:=ni.new ho;have ZT:=dp.pot;refine Xi 0 ?_;have xC:E7 (d.map WL) (.string q.path) (vb true)=(d++[q.path]).map WL:=by rw[IP PK,Bk];rfl
      refine Xi 0 (Yi ?_ ?_)
      .intro a ha;refine Ao (SQ ha) (fun r X7=>?_);have e:=X7.2.2;subst e;have oR:Fc l q.path=r.reqs:=by
        unfold Fc;rw[<-X7.2.1,HC Vu X7.1]
       rw[oR]at dp ZT;have hrl:=hlq r X7.1;have CY:Bh 2 (r.reqs.map Ad)/\(t'.map Ad).length=(t'.map Ad).length/\((t'.map Ad).length+(r.reqs.map Ad).length)*40<=140737488355328/\(t'.map Ad).length+(r.reqs.map Ad).length<=9223372036854775807:=
        ⟨Cm (enc:=Ad) (n:=2) (fun _=>rfl) r.reqs,rfl,by grind,by grind⟩
       refine Yi CY ?_;have uc:AV.slice (.id 16400 2) (t'.map Ad++r.reqs.map Ad)=.slice (.id 16400 2) ((t'++r.reqs).map Ad):=by simp_all
       have vq:HO.tok 2 ((t'.map Ad).length+(r.reqs.map Ad).length)=.tok 2 ((t'++r.reqs).map Ad).length:=by simp_all
       refine Xi ⟨(d++[q.path],t'++r.reqs,m,true),dp,by grind⟩ ?_;exact⟨by simp_all,⟨Zr,Zr,Zr,⟨uc,rfl⟩,Tv⟩,⟨Zr,⟨Aa (HO.map Cc) xC,rfl⟩,⟨vq,rfl⟩,Zr,Tv⟩,Fh,Tv⟩
      intro hnb;have oR:Fc l q.path=[]:=by
       unfold Fc
       grind
      rw[oR]at dp ZT;have CY:Bh 2 []/\(t'.map Ad).length=(t'.map Ad).length/\((t'.map Ad).length+([]:C0).length)*40<=140737488355328/\(t'.map Ad).length+([]:C0).length<=9223372036854775807:=
       ⟨trivial,rfl,by grind,by grind⟩
      refine Yi CY ?_;have uc:AV.slice (.id 16400 2) (t'.map Ad++[])=.slice (.id 16400 2) ((t'++[]).map Ad):=by simp_all
      have vq:HO.tok 2 ((t'.map Ad).length+([]:C0).length)=.tok 2 ((t'++[]).map Ad).length:=by simp_all
      refine Xi ⟨(d++[q.path],t'++[],m,true),dp,by grind⟩ ?_;exact⟨by simp_all,⟨Zr,Zr,Zr,⟨uc,rfl⟩,Tv⟩,⟨Zr,⟨Aa (HO.map Cc) xC,rfl⟩,⟨vq,rfl⟩,Zr,Tv⟩,Fh,Tv⟩
     intro h;have h:¬(0:Int)<(t.map Ad).length:=h;have ht0:t=[]:=by
      simp_all
     have Ad8:Fq l (Hh l roots) roots []=d:=(ht0▸ni).stop;have hD:D=if d.length<l.length then 8 else 0:=by simp_all
     refine cU [(9,sl Am l),(16,.mref 62)] [(62,.map Cc (d.map WL))] Z2 Z1 (Xi 0 (Yi ?_ ?_))
     .intro h;have h:((d.map WL).length:Int)<((l.map Am).length:Int):=h;have h:d.length<l.length:=by simp_all
      refine Xi 0 ?_;exact .of_eq (Aa vi (show(8:Int)=D by omega))
     .intro h;have h:¬((d.map WL).length:Int)<((l.map Am).length:Int):=h;have h:¬d.length<l.length:=by simp_all
      refine Xi 0 ?_;exact .of_eq (Aa vi (show(0:Int)=D by omega))
 .have T3:PC 51 [Jf x ifs] (.tup [.agg [.cmap OV [],.cmap Cc []],vi (At x)]):=by
   grind
  rw[A3 h0]at hD;refine Ps rg func21 rfl (Nz rfl) (Xi 0 (Xi 0 (yN (C1 (C2 (T3) (yN (cU [(8,vi (At x))] [] Z1 Tv (Xi 0 (Yi ?_ ?_)))))))))
  .intro _;refine Xi 0 ?_;exact .of_eq (Aa vi hD.symm)
  .intro h;exact absurd h0 h
structure VW(x:List Rl)(roots:List Rq):Prop where
 ix:BO x
 rs:BO roots
 rel:∀r∈x,BO r.reqs/\Fk r
 rq:∀q∈roots,IE q
theorem VW.x{x:List Rl}{roots:List Rq}(h:VW x roots):∀r∈x,Fk r:=fun r hr=>(h.rel r hr).2
theorem VW.c84{x:List Rl}{roots:List Rq}(h:VW x roots)(ifs:C0):kb x ifs:=Go.Eng.c84 x ifs h.x
theorem Wt{x:List Rl}{roots:List Rq}(h:(FD x 16&&Dy roots)=true):roots.length<=20:=by
 grind [Dy]
theorem Rr{a:An}(h:bp a=true):a.sel.length<=16/\a.skips.length<=100/\a.infs.length<=400:=by
 grind [bp]
theorem VW.c45{x:List Rl}{roots:List Rq}(h:VW x roots)(ifs:C0)(hf:(FD x 16&&Dy roots)=true)(s:List Sl)(hs:s.length<=1000000):H45 x ifs roots s:=
 Go.Eng.c45 x ifs roots s (h.c84 ifs) h.x (by grind [Wt]) (fun q hq=>(h.rq q hq).1) hs
theorem VW.c21{x:List Rl}{roots:List Rq}(h:VW x roots)(ifs:C0)(hf:(FD x 16&&Dy roots)=true)(a:An)(ha:bp a=true):PC 49 [Jf x ifs,sl Ad roots,.agg (Gt a)] (vi (Dk x roots a)):=
 Go.Eng.c21 x ifs roots a (h.c84 ifs) (h.c45 ifs hf a.sel (by grind [Rr])) h.x h.rq (by grind [Rr]) (by have:=(Rr ha).2.1;omega)
theorem VW.c11{x:List Rl}{roots:List Rq}(h:VW x roots)(ifs:C0):PC 10 [Jf x ifs,sl Ad roots] (vb (FD x 16&&Dy roots)):=
 Go.Eng.c11 x ifs roots h.ix (fun r hr=>(h.rel r hr).1) h.rs
theorem tV:PC 260 [vc c] (vb (ED c)):=by
 refine Ps CX func260 rfl (Nz rfl) ?_;have e1:decide ((97:UInt8)<=c)=decide ((97:Int)<=(c.toNat:Int)):=Xe c 97 aa1;have e2:decide (c<=(122:UInt8))=decide ((c.toNat:Int)<=(122:Int)):=Xd c 122 aa1;have es:ED c=(decide ((97:Int)<=(c.toNat:Int))&&decide ((c.toNat:Int)<=(122:Int))):=by grind [ED]
 refine Yi ?_ ?_
 .intro h;refine Yi ?_ ?_
  .intro h2;exact .of_eq (Aa vb (show true=ED c by simp_all))
  .intro h2;exact .of_eq (Aa vb (show false=ED c by simp_all))
 .intro h;exact .of_eq (Aa vb (show false=ED c by simp_all))
theorem pv:PC 261 [vc c] (vb (Cn c)):=by
 refine Ps CX func261 rfl (Nz rfl) ?_;have e1:decide ((48:UInt8)<=c)=decide ((48:Int)<=(c.toNat:Int)):=Xe c 48 aa1;have e2:decide (c<=(57:UInt8))=decide ((c.toNat:Int)<=(57:Int)):=Xd c 57 aa1;have es:Cn c=(decide ((48:Int)<=(c.toNat:Int))&&decide ((c.toNat:Int)<=(57:Int))):=by grind [Cn]
 refine Yi ?_ ?_
 .intro h;refine Yi ?_ ?_
  .intro h2;exact .of_eq (Aa vb (show true=Cn c by simp_all))
  .intro h2;exact .of_eq (Aa vb (show false=Cn c by simp_all))
 .intro h;exact .of_eq (Aa vb (show false=Cn c by simp_all))
theorem AbV:PC 380 [vc c] (vb (Mn c)):=by
 refine Ps CX func380 rfl (Nz rfl) ?_;have e1:decide ((65:UInt8)<=c)=decide ((65:Int)<=(c.toNat:Int)):=Xe c 65 aa1;have e2:decide (c<=(90:UInt8))=decide ((c.toNat:Int)<=(90:Int)):=Xd c 90 aa1;have es:Mn c=(decide ((65:Int)<=(c.toNat:Int))&&decide ((c.toNat:Int)<=(90:Int))):=by grind [Mn]
 refine Yi ?_ ?_
 .intro h;refine Yi ?_ ?_
  .intro h2;exact .of_eq (Aa vb (show true=Mn c by simp_all))
  .intro h2;exact .of_eq (Aa vb (show false=Mn c by simp_all))
 .intro h;exact .of_eq (Aa vb (show false=Mn c by simp_all))
theorem AbU:PC 360 [vc c] (vb (FS c)):=by
 have h1:=tV c;have h2:=AbV c;have h3:=pv c;have ew:FS c=(ED c||Mn c||Cn c||decide (c=95)):=rfl;rcases Bt (ED c)with e | e
 .rw[e]at h1;refine Ps CX func360 rfl (Nz rfl) (C1 (C2 (h1) ?_));exact .of_eq (Aa vb (show true=FS c by simp_all))
 rw[e]at h1;rcases Bt (Mn c)with e2 | e2
 .rw[e2]at h2;refine Ps CX func360 rfl (Nz rfl) (C1 (C2 (h1) (C1 (C2 (h2) ?_))));exact .of_eq (Aa vb (show true=FS c by simp_all))
 rw[e2]at h2;rcases Bt (Cn c)with e3 | e3
 .rw[e3]at h3;refine Ps CX func360 rfl (Nz rfl) (C1 (C2 (h1) (C1 (C2 (h2) (C1 (C2 (h3) ?_))))));exact .of_eq (Aa vb (show true=FS c by simp_all))
 rw[e3]at h3;refine Ps CX func360 rfl (Nz rfl) (C1 (C2 (h1) (C1 (C2 (h2) (C1 (C2 (h3) ?_))))));have eb:decide (c=95)=decide ((c.toNat:Int)=95):=by
  rw[Cy,A4,A4];constructor
  .simp_all
  .intro h;exact H1.1 (by grind)
 refine Yi ?_ ?_
 .intro h;exact .of_eq (Aa vb (show true=FS c by simp_all))
 .intro h;exact .of_eq (Aa vb (show false=FS c by simp_all))
theorem AbR(hs:s.data.toList.length<4611686018427387904):PC 323 [vs s] (vb (s.data.toList.all FS)):=by
 have FI:s.size=s.data.toList.length:=by simp
 refine Ps CX func323 rfl (Nz rfl) (Xi {i:Nat // i<=s.data.toList.length/\∀j (hj:j<s.data.toList.length),j<i->FS s.data.toList[j]=true} (Xi (fun i=>⟨[(0,vs s),(3,vi i.1)],[],Af⟩) (Xi (fun i=>s.data.toList.length-i.1) (Yi (Xi ⟨0,Al _,fun j _ h=>by omega⟩ ?_) ?_))))
 .exact⟨Z2,Tv,Fh,Tv⟩
 intro⟨i,h1,h2⟩;refine Yi ?_ ?_
 .intro h;have h:(i:Int)<(s.size:Nat):=h;have h:i<s.data.toList.length:=by omega
  refine Xi s.data.toList[i] (Yi ⟨by omega,by grind⟩ ?_);have hc:=AbU s.data.toList[i];refine Ax (Bt (FS s.data.toList[i])) (fun e=>?_) (fun e=>?_)
  .rw[e]at hc;refine C1 (C2 (hc) (Yi (by grind [Au]) (Xi ⟨i+1,by omega,fun j hj GC=>?_⟩ ?_)))
   .grind
   .exact⟨by grind,Z2,Tv,Fh,Tv⟩
  .rw[e]at hc;refine C1 (C2 (hc) ?_);have er:s.data.toList.all FS=false:=by
    grind
   exact .of_eq (Aa vb er.symm)
 .intro h;have h:¬(i:Int)<(s.size:Nat):=h;have er:s.data.toList.all FS=true:=A0.2 fun c hc=>by
   grind [List.getElem_of_mem]
  exact .of_eq (Aa vb er.symm)
abbrev kwB:List CS:=uZ.map bs
theorem AbT:PC 325 [] (sl Di kwB):=by
 refine Ps CX func325 rfl (Nz rfl) ?_;exact .refl _
theorem AbS(l:List CS)(s:CS)(hl:BO l):PC 324 [sl Di l,vs s] (vb (l.any fun q=>decide (q=s))):=by
 unfold BO at hl;refine Ps CX func324 rfl (Nz rfl) (Xi {i:Nat // i<=l.length/\∀j (hj:j<l.length),j<i->l[j]≠s} (Xi (fun i=>⟨[(0,sl Di l),(1,vs s),(5,vi i.1)],[],Af⟩) (Xi (fun i=>l.length-i.1) (Yi (Xi ⟨0,Al _,fun j _ h=>by omega⟩ ?_) ?_))))
 .exact⟨Z3,Tv,Fh,Tv⟩
 intro⟨i,h1,h2⟩;refine Yi ?_ ?_
 .intro h;have h:i<l.length:=by simp_all
  have hg:l[i]?=some l[i]:=Ge h;refine Xi (Di l[i]) (Yi (Yi Wk (by simp_all)) (Yi rfl ?_));refine Yi ?_ ?_
  .intro he;exact .of_eq (Aa vb (show true=_ from(BC.2 ⟨l[i],Ah h,by simp_all⟩).symm))
  .intro he;refine Yi (by grind [Au]) (Xi ⟨i+1,by omega,fun j hj GC=>?_⟩ ?_)
   .grind
   .exact⟨by grind,Z3,Tv,Fh,Tv⟩
 .intro h;have h:¬i<l.length:=by simp_all
  have er:(l.any fun q=>decide (q=s))=false:=by
   grind [List.getElem_of_mem]
  exact .of_eq (Aa vb er.symm)
theorem wV{w:List UInt8}{s:CS}:bs w=s↔w=s.data.toList:=by
 constructor
 .intro h;rw[<-h];rfl
 .intro h;rw[h];rfl
theorem u6:(kwB.any fun q=>decide (q=s))=uZ.any (fun w=>decide (w=s.data.toList)):=by
 grind [wV]
theorem AbN(hs:s.data.toList.length<4611686018427387904):PC 262 [vs s] (vb (Gx s.data.toList)):=by
 have FI:s.size=s.data.toList.length:=by simp
 obtain⟨N,hN⟩:∃N,N=Gx s.data.toList:=⟨_,rfl⟩;rw[<-hN];unfold Gx at hN;have p8:=AbR s hs;have lP:=AbS kwB s aa1;rw[u6]at lP;refine Ps CX func262 rfl (Nz rfl) (Yi (fun h=>?_) (fun h=>?_))
 rotate_left
 .have e:s.data.toList=[]:=Ay Wk;exact .of_eq (Aa vb (show false=N by simp_all))
 have he:s.data.toList.isEmpty=false:=by
  grind
 refine Yi (fun h2=>?_) (fun h2=>?_)
 rotate_left
 .exact .of_eq (Aa vb (show false=N by grind))
 refine Ao (show ∃c l,s.data.toList=c::l by cases e:s.data.toList with | nil=>simp_all | cons c l=>simp_all) (fun c hc=>?_);refine Ao hc (fun l hc=>?_);refine Xi c (Yi ⟨by decide,by show s.data[(0:Int).toNat]?=_;rw[<-CF,hc];rfl⟩ ?_);have p7:=tV c;have hN:N=(ED c&&s.data.toList.all FS&&!VL s.data.toList):=by
  grind
 refine Ax (Bt (ED c)).symm (fun e=>?_) (fun e=>?_)
 .rw[e]at p7;refine C1 (C2 (p7) ?_);exact .of_eq (Aa vb (show false=N by simp_all))
 rw[e]at p7;refine C1 (C2 (p7) (Ax (Bt (s.data.toList.all FS)).symm (fun e2=>?_) (fun e2=>?_)))
 .rw[e2]at p8;refine C1 (C2 (p8) ?_);exact .of_eq (Aa vb (show false=N by grind))
 rw[e2]at p8;refine C1 (C2 (p8) (C1 (C2 (AbT) ?_)));rw[db e2]at hN;refine Ax (Bt (uZ.any (fun w=>decide (w=s.data.toList)))) (fun e3=>?_) (fun e3=>?_)
 .rw[e3]at lP;refine C1 (C2 (lP) ?_);exact .of_eq (Aa vb (show false=N by grind))
 .rw[e3]at lP;refine C1 (C2 (lP) ?_);exact .of_eq (Aa vb (show true=N by grind))
theorem oa{s:CS}:HH s.data.toList=(s.data.toList.all Va&&Gx s.data.toList):=by
 grind [HH]
theorem AbG(hs:s.data.toList.length<4611686018427387904):PC 191 [vs s] (vb (HH s.data.toList)):=by
 have FI:s.size=s.data.toList.length:=by simp
 have Acd:=AbN s hs;rw[oa];refine Ps CX func191 rfl (Nz rfl) (Xi {i:Nat // i<=s.data.toList.length/\∀j (hj:j<s.data.toList.length),j<i->Va s.data.toList[j]=true} (Xi (fun i=>⟨[(0,vs s),(3,vi i.1)],[],Af⟩) (Xi (fun i=>s.data.toList.length-i.1) (Yi (Xi ⟨0,Al _,fun j _ h=>by omega⟩ ?_) ?_))))
 .exact⟨Z2,Tv,Fh,Tv⟩
 intro⟨i,h1,h2⟩;refine Yi ?_ ?_
 .intro h;have h:(i:Int)<(s.size:Nat):=h;have h:i<s.data.toList.length:=by omega
  have Oo:(0:Int)<=i/\s.data[((i:Nat):Int).toNat]?=some s.data.toList[i]:=⟨by omega,by grind⟩;have nx:Va s.data.toList[i]=true->∀j (hj:j<s.data.toList.length),j<i+1->Va s.data.toList[j]=true:=fun e j hj GC=>by
   grind
  refine Xi s.data.toList[i] (Yi Oo ?_);have h3:=tV s.data.toList[i];have h4:=pv s.data.toList[i];refine Ax (Bt (ED s.data.toList[i])) (fun e=>?_) (fun e=>?_)
  .rw[e]at h3;refine C1 (C2 (h3) (Yi (by grind [Au]) (Xi ⟨i+1,by omega,nx (by grind)⟩ ?_)));exact⟨by grind,Z2,Tv,Fh,Tv⟩
  rw[e]at h3;refine C1 (C2 (h3) (Xi s.data.toList[i] (Yi Oo (Ax (Bt (Cn s.data.toList[i])) (fun e2=>?_) (fun e2=>?_)))))
  .rw[e2]at h4;refine C1 (C2 (h4) (Yi (by grind [Au]) (Xi ⟨i+1,by omega,nx (by grind)⟩ ?_)));exact⟨by grind,Z2,Tv,Fh,Tv⟩
  rw[e2]at h4;refine C1 (C2 (h4) ?_);have er:s.data.toList.all Va=false:=by
   grind
  exact .of_eq (Aa vb (by grind))
 .intro h;have h:¬(i:Int)<(s.size:Nat):=h;have er:s.data.toList.all Va=true:=A0.2 fun c hc=>by
   grind [List.getElem_of_mem]
  refine C1 (C2 (Acd) ?_);exact .of_eq (Aa vb (by grind))
abbrev VU:Option Int->AV
 |some n=>vi n
 |none=>vi (-1)
theorem AbH(hs:s.data.toList.length<4611686018427387904):PC 192 [vs s] (VU (Gr s.data.toList)):=by
 have FI:s.size=s.data.toList.length:=by simp
 refine Ps (DB [3]) func192 rfl (Nz rfl) (Yi (fun h=>?_) (fun h=>?_))
 .exact .of_eq (Aa VU (show(none:Option Int)=Gr s.data.toList by
   cases hs:s.data.toList with
   |nil=>rfl
   |cons c r=>
    cases r<;>grind [Gr]))
 refine Ao (show ∃c r,s.data.toList=c::r by
  cases e:s.data.toList<;>simp_all) (fun c hc=>?_)
 refine Ao hc (fun r wx=>?_);have hrl:s.size=r.length+1:=by simp_all
 have hv0:Gr s.data.toList=if c=118 then(if(r.isEmpty||decide (3<r.length)||(decide (1<r.length)&&decide (r.headD 0=48))||!r.all Cn)=true then none else some (DW r))else none:=by rw[wx];rfl
 refine Yi (fun h2=>?_) (fun h2=>?_)
 .exact .of_eq (Aa VU (show(none:Option Int)=Gr s.data.toList by grind))
 refine Xi c (Yi ⟨by decide,by show s.data[(0:Int).toNat]?=_;rw[<-CF,wx];rfl⟩ ?_);refine Yi (fun h3=>?_) (fun h3=>?_)
 .have h3:¬c=118:=fun e=>h3 (by simp_all);exact .of_eq (Aa VU (show(none:Option Int)=Gr s.data.toList by simp_all))
 have h3:c=118:=H1.1 (by grind);have hr:s.data.toList=118::r:=by simp_all
 have hv:Gr s.data.toList=if(r.isEmpty||decide (3<r.length)||(decide (1<r.length)&&decide (r.headD 0=48))||!r.all Cn)=true then none else some (DW r):=by simp_all
 have CL:0<r.length:=by omega
 have ql:r.isEmpty=false:=by
  grind
 have yF:r.length<=3:=by omega
 have d3:decide (3<r.length)=false:=Aq Wk;have z0:DW (r.take 0)=0:=rfl;have hh:=Oq r CL;refine Xi r[0] (Yi ⟨by decide,by show s.data[(1:Int).toNat]?=_;rw[<-CF,wx];simp_all⟩ ?_);refine Yi (fun h4=>?_) (fun h4=>?_)
 .have h4:r[0]=48:=H1.1 (by grind);refine Yi (fun h5=>?_) (fun h5=>?_)
  .exact .of_eq (Aa VU (show(none:Option Int)=Gr s.data.toList by grind))
  have eo:(decide (1<r.length)&&decide (r.headD 0=48))=false:=by grind
  refine cU [(0,vs s)] [] Z1 Tv (Xi {i:Nat // i<=r.length/\(∀j (hj:j<r.length),j<i->Cn r[j]=true)/\0<=DW (r.take i)/\(i=0->DW (r.take i)<=0)/\(i<=1->DW (r.take i)<=9)/\(i<=2->DW (r.take i)<=99)/\DW (r.take i)<=999} (Xi (fun i=>⟨[(0,vs s),(3,vi (DW (r.take i.1))),(4,vi (1+(i.1:Int)))],[],Af⟩) (Xi (fun i=>r.length-i.1) (Yi (Xi ⟨0,Al _,fun j _ h=>by omega,by omega,fun _=>by omega,fun _=>by omega,fun _=>by omega,by omega⟩ ?_) ?_))))
  .exact⟨Z3,Tv,Fh,Tv⟩
  intro⟨i,i1,i0,i2,i3,i4,i5,i6⟩;refine Yi ?_ ?_
  .intro h;have h:1+(i:Int)<(s.size:Nat):=h;have h:i<r.length:=by omega
   have Oo:(0:Int)<=1+(i:Int)/\s.data[(1+(i:Int)).toNat]?=some r[i]:=⟨by omega,by rw[show(1+(i:Int)).toNat=i+1 by omega,<-CF,hr,Tc];simp_all⟩;refine Xi r[i] (Yi Oo ?_);have hc:=pv r[i];refine Ax (Bt (Cn r[i])).symm (fun e=>?_) (fun e=>?_)
   .rw[e]at hc;refine C1 (C2 (hc) ?_);have GB:r.all Cn=false:=by
     grind
    exact .of_eq (Aa VU (show(none:Option Int)=Gr s.data.toList by simp_all))
   rw[e]at hc;refine C1 (C2 (hc) ?_);have su:=Jw e;have kk:=KT r i h;have oT:IntKind.u8.wrap ((r[i].toNat:Int)-48)=(r[i].toNat:Int)-48:=S8 Wk Wk;refine Yi (by show Au (10*DW (r.take i));unfold Au;omega) (Xi r[i] (Yi Oo (Yi (by show Au (IntKind.u8.wrap ((r[i].toNat:Int)-48));rw[oT];unfold Au;omega) ?_)));refine Yi (by show Au (10*DW (r.take i)+IntKind.u8.wrap ((r[i].toNat:Int)-48));rw[oT];unfold Au;omega) ?_;refine Yi (by show Au (1+(i:Int)+1);unfold Au;omega) ?_;have e5:vi (10*DW (r.take i)+IntKind.u8.wrap ((r[i].toNat:Int)-48))=vi (DW (r.take (i+1))):=by simp_all
   have e6:vi (1+(i:Int)+1)=vi (1+((i+1:Nat):Int)):=Aa vi Wk;refine Xi ⟨i+1,by omega,fun j hj GC=>?_,by omega,fun _=>by omega,fun _=>by omega,fun _=>by omega,by omega⟩ ?_
   .grind
   .exact⟨Dl r.length i Wk,⟨Zr,⟨e5,rfl⟩,⟨e6,rfl⟩,Tv⟩,Tv,Fh,Tv⟩
  .intro h;have h:¬1+(i:Int)<(s.size:Nat):=h;have e3:r.all Cn=true:=A0.2 fun c hc=>by
    grind [List.getElem_of_mem]
   have e6:vi (DW (r.take i))=VU (Gr s.data.toList):=by grind
   exact .of_eq e6
 have eo:(decide (1<r.length)&&decide (r.headD 0=48))=false:=by rw[hh,Aq (show ¬r[0]=48 from fun e=>h4 (by simp_all)),Bool.and_false]
 refine cU [(0,vs s)] [] Z1 Tv (Xi {i:Nat // i<=r.length/\(∀j (hj:j<r.length),j<i->Cn r[j]=true)/\0<=DW (r.take i)/\(i=0->DW (r.take i)<=0)/\(i<=1->DW (r.take i)<=9)/\(i<=2->DW (r.take i)<=99)/\DW (r.take i)<=999} (Xi (fun i=>⟨[(0,vs s),(3,vi (DW (r.take i.1))),(4,vi (1+(i.1:Int)))],[],Af⟩) (Xi (fun i=>r.length-i.1) (Yi (Xi ⟨0,Al _,fun j _ h=>by omega,by omega,fun _=>by omega,fun _=>by omega,fun _=>by omega,by omega⟩ ?_) ?_))))
 .exact⟨Z3,Tv,Fh,Tv⟩
 intro⟨i,i1,i0,i2,i3,i4,i5,i6⟩;refine Yi ?_ ?_
 .intro h;have h:1+(i:Int)<(s.size:Nat):=h;have h:i<r.length:=by omega
  have Oo:(0:Int)<=1+(i:Int)/\s.data[(1+(i:Int)).toNat]?=some r[i]:=⟨by omega,by rw[show(1+(i:Int)).toNat=i+1 by omega,<-CF,hr,Tc];simp_all⟩;refine Xi r[i] (Yi Oo ?_);have hc:=pv r[i];refine Ax (Bt (Cn r[i])).symm (fun e=>?_) (fun e=>?_)
  .rw[e]at hc;refine C1 (C2 (hc) ?_);have GB:r.all Cn=false:=by
    grind
   exact .of_eq (Aa VU (show(none:Option Int)=Gr s.data.toList by simp_all))
  rw[e]at hc;refine C1 (C2 (hc) ?_);have su:=Jw e;have kk:=KT r i h;have oT:IntKind.u8.wrap ((r[i].toNat:Int)-48)=(r[i].toNat:Int)-48:=S8 Wk Wk;refine Yi (by grind [Au]) (Xi r[i] (Yi Oo (Yi (by grind [Au]) (Yi (by show Au (10*DW (r.take i)+IntKind.u8.wrap ((r[i].toNat:Int)-48));rw[oT];unfold Au;omega) ?_))));refine Yi (by grind [Au]) ?_;have e5:vi (10*DW (r.take i)+IntKind.u8.wrap ((r[i].toNat:Int)-48))=vi (DW (r.take (i+1))):=by simp_all
  have e6:vi (1+(i:Int)+1)=vi (1+((i+1:Nat):Int)):=Aa vi Wk;refine Xi ⟨i+1,by omega,fun j hj GC=>?_,by omega,fun _=>by omega,fun _=>by omega,fun _=>by omega,by omega⟩ ?_
  .grind
  .exact⟨Dl r.length i Wk,⟨Zr,⟨e5,rfl⟩,⟨e6,rfl⟩,Tv⟩,Tv,Fh,Tv⟩
 .intro h;have h:¬1+(i:Int)<(s.size:Nat):=h;have e3:r.all Cn=true:=A0.2 fun c hc=>by
   grind [List.getElem_of_mem]
  have e6:vi (DW (r.take i))=VU (Gr s.data.toList):=by grind
  exact .of_eq e6
abbrev bG(l:List UInt8):List CS:=(CD 47 l).map bs
def W0:List (List UInt8)->UInt8->List (List UInt8)
 | [],_=>[]
 | [x],b=>[x++[b]]
 |x::l,b=>x::W0 l b
theorem K3(s:List UInt8):CD c s≠[]:=by
 cases s<;>grind [CD]
theorem Vn(c:UInt8):∀s:List UInt8,CD c (s++[c])=CD c s++[[]]
 | []=>by simp[CD]
 |b::r=>by
  rw[F1,CD,Vn c r,CD]
  by_cases e:b=c
  all_goals grind [K3]
theorem UX(x:List UInt8){l:List (List UInt8)}(b:UInt8)(h:l≠[]):W0 (x::l) b=x::W0 l b:=by
 cases l with
 |nil=>simp_all
 |cons y l=>rfl
theorem Sj(c b:UInt8)(hb:b≠c):∀s:List UInt8,CD c (s++[b])=W0 (CD c s) b
 | []=>by grind [CD,W0]
 |a::r=>by
  rw[F1,CD,Sj c b hb r,CD]
  by_cases e:a=c
  .grind [UX,K3]
  .rw[AN e,AN e];cases h:CD c r with
   |nil=>grind [K3]
   |cons x l=>
    cases l with
    |nil=>rfl
    |cons y l=>rfl
theorem W2(b:UInt8):∀(l:List (List UInt8)) (x:List UInt8),l[l.length-1]?=some x->l.set (l.length-1) (x++[b])=W0 l b
 | [],_,h=>by cases h
 | [y],x,h=>by
  have h:some y=some x:=h;rw[DU h];rfl
 |y::z::l,x,h=>by
  have h:(z::l)[(z::l).length-1]?=some x:=h;rw[UX y b (List.cons_ne_nil _ _),<-W2 b (z::l) x h];rfl
theorem Vm(s:List UInt8):(CD c s).length<=s.length+1:=by
 induction s<;>grind [CD]
abbrev zq:M5:=⟨[],[],[(5,1)],[],[],[],[],[],[],[(36,3)],[4]⟩
theorem nA{l:List UInt8}{c:UInt8}(hc:c≠47){x:CS}(h:(bG l)[(bG l).length-1]?=some x):(bG l).set ((bG l).length-1) (x++bs [c])=bG (l++[c]):=by
 have h2:=h;rw[BK,Lm]at h;obtain⟨y,hy,e⟩:=B3.1 h;subst e;show _=(CD 47 (l++[c])).map bs;rw[Sj 47 c hc l,<-W2 c (CD 47 l) y hy,Vz,Lm]
 congr 1
theorem AbF(hs:Fl s):PC 190 [vs s] (sl GN (bG s.data.toList)):=by
 unfold Fl at hs;have FI:s.size=s.data.toList.length:=by simp
 refine Ps zq func190 rfl (Nz rfl) (Xi {p:Nat×List CS // p.1<=s.data.toList.length/\p.2=bG (s.data.toList.take p.1)} (Xi (fun p=>⟨[(0,vs s),(3,.msl 5 p.1.2.length),(4,vi p.1.1)],[(5,.arr 1 (p.1.2.map GN))],Af⟩) (Xi (fun p=>s.data.toList.length-p.1.1) (Yi (Xi ⟨(0,[bs []]),Al _,rfl⟩ ?_) ?_))))
 .exact⟨Z3,Z1,Fh,Tv⟩
 intro⟨⟨i,A⟩,h1,hA⟩;have hA:A=bG (s.data.toList.take i):=hA;have qw:A.length<=i+1:=by
  grind [Vm]
 have oQ:0<A.length:=by
  grind [K3]
 refine Yi (fun h=>?_) (fun h=>?_)
 .have h:(i:Int)<(s.size:Nat):=h;have h:i<s.data.toList.length:=by omega
  have Oo:(0:Int)<=i/\s.data[((i:Nat):Int).toNat]?=some s.data.toList[i]:=⟨by omega,by grind⟩;have uN:s.data.toList.take (i+1)=s.data.toList.take i++[s.data.toList[i]]:=by grind [List.take_add_one]
  refine Xi s.data.toList[i] (Yi Oo (Yi (fun h2=>?_) (fun h2=>?_)))
  .have h2:s.data.toList[i]=47:=H1.1 (by grind);have CY:Bh 1 [[vs (bs [])]]/\(A.map GN).length=A.length/\((A.map GN).length+[[vs (bs [])]].length)*16<=140737488355328/\(A.map GN).length+[[vs (bs [])]].length<=9223372036854775807:=
    ⟨⟨rfl,trivial⟩,by grind,by grind,by grind⟩
   refine Yi CY (Xi ⟨[(0,vs s),(3,.msl 5 (A++[bs []]).length),(4,vi i)],[(5,.arr 1 ((A++[bs []]).map GN))],Af⟩ (Yi ?_ ?_))
   .have e1:AV.msl 5 ((A.map GN).length+[[vs (bs [])]].length)=.msl 5 (A++[bs []]).length:=by simp
    have e2:HO.arr 1 (A.map GN++[[vs (bs [])]])=.arr 1 ((A++[bs []]).map GN):=by grind
    exact⟨⟨Zr,⟨e1,rfl⟩,Zr,Tv⟩,⟨⟨e2,rfl⟩,Tv⟩,Fh,Tv⟩
   refine Yi (by grind [Au]) ?_;have eA:A++[bs []]=bG (s.data.toList.take (i+1)):=by
    rw[hA,uN,h2];show _=(CD 47 _).map bs;rw[Vn,Bk];rfl
   refine Xi ⟨(i+1,A++[bs []]),by omega,eA⟩ ?_;exact⟨by grind,Z3,Z1,Fh,Tv⟩
  have h2:¬(s.data.toList[i].toNat:Int)=47:=h2;have h2:s.data.toList[i]≠47:=fun e=>h2 (by rw[e];rfl);have uy:Au ((A.length:Int)-1):=by grind [Au]
  have ET:A.length-1<A.length:=by omega
  have hn:((A.length:Int)-1).toNat=A.length-1:=by omega
  have hg:A[A.length-1]?=some A[A.length-1]:=Ge ET;have uv:Fl A[A.length-1]:=by
   have qv:∀x∈A,x∈bG (s.data.toList.take i):=fun x hx=>hA▸hx;obtain⟨y,hy,e⟩:=Ar.1 (qv _ (Ah ET));have h5:=LO 47 _ y hy;rw[BW]at h5;unfold Fl;rw[<-e,show(bs y).size=y.length from rfl];omega
  have iL:((A[A.length-1].size+(⟨[s.data.toList[i]].toArray⟩:CS).size:Nat):Int)<=9223372036854775807:=by
   unfold Fl at uv
   have:(⟨[s.data.toList[i]].toArray⟩:CS).size=1:=rfl
   omega
  refine Yi uy (Yi uy (Yi (show(0:Int)<=(A.length:Int)-1/\(A.length:Int)-1<(A.length:Int) by omega) (Yi (by grind) ?_)));have wt:(A.map GN)[((A.length:Int)-1).toNat]?=some (GN A[A.length-1]):=by rw[hn];grind
  refine Xi (GN A[A.length-1]) (Yi wt (Xi s.data.toList[i] (Yi Oo (Xi [s.data.toList[i]] (Yi rfl (Yi iL (Yi (show(0:Int)<=(A.length:Int)-1/\(A.length:Int)-1<(A.length:Int) by omega) (Yi (by grind) (Xi (GN A[A.length-1]) (Yi wt (yN (Yi aa2 (Ao (show ∃B,B=A.set (A.length-1) (A[A.length-1]++bs [s.data.toList[i]])from⟨_,rfl⟩) (fun B hB=>?_))))))))))))));have xQ:B.length=A.length:=by rw[hB,VX]
  have e2:HO.arr 1 ((A.map GN).set ((A.length:Int)-1).toNat [vs (A[A.length-1]++⟨[s.data.toList[i]].toArray⟩)])=.arr 1 (B.map GN):=by rw[hn,hB,Vz];rfl
  refine cU [(0,vs s),(3,.msl 5 B.length),(4,vi i)] [(5,.arr 1 (B.map GN))] ⟨Zr,⟨Aa (AV.msl 5) xQ.symm,rfl⟩,Zr,Tv⟩ ⟨⟨e2,rfl⟩,Tv⟩ (Yi (Ii i Wk) ?_);have eB:B=bG (s.data.toList.take (i+1)):=by
   rw[uN,hB];subst hA;exact nA h2 hg
  refine Xi ⟨(i+1,B),by omega,eB⟩ ?_;exact⟨by grind,Z3,Z1,Fh,Tv⟩
 .have h:¬(i:Int)<(s.size:Nat):=h;refine Yi (by grind) ?_;exact .of_eq (Aa (sl GN) (show A=bG s.data.toList by grind))
end Go.Eng
