/- Lemmas 21. -/
import Derived.Test.YtkmnnpmneamgoaaGreatDoorPA20
import Derived.Test.YtkmnnpmneamgoaaGreatDoorPA03
import Derived.Test.YtkmnnpmneamgoaaGreatDoorCards
import Derived.Test.YtkmnnpmneamgoaaGreatDoorTie
import Derived.ProofKit
import Derived.OpenShut
import Derived.Deep.DeepHandedRow
import Derived.Lib.LaidTab
set_option maxHeartbeats 1000000
namespace Go.Eng
open Go.Proofs
variable {d:List ByteArray}{p:ByteArray}{l:List Rl}
abbrev zb(x:List Rl)(ifs:List (List AV))(roots:List Rq)(s:List Sl):Prop:=PC 51 [Il x ifs,sl Ac roots,sl Ag s] (vi (Db x roots s))
theorem Ro{x:List Rl}{roots:List Rq}{l0:List Nf}:∀(l:List Nf) (d d' : List (List Tm)),(∀i∈l,i∈l0)->(∀t∈d,PU (Hc x roots l0) t)->BH x roots l d=some d'->∀t∈d',PU (Hc x roots l0) t
 | [],d,d',_,hd,h=>by
  have:d=d':=EY h
  simp_all
 |i::l,d,d',hi,hd,h=>by
  unfold BH at h;cases e:AM x roots d i with
  |none=>simp_all
  |some t=>
   rw[e]at h;refine Ro l (d++[t]) d' (fun j hj=>hi j (Ai _ hj)) (fun u hu=>?_) h
   grind [M5,List.mem_cons_self]
theorem Rp{x:List Rl}{roots:List Rq}{l:List Nf}(h:(AZ x roots l).2=0):∀t∈(AZ x roots l).1,PT t:=fun t ht=>by
 obtain⟨h1,h2,h3,h4⟩:=Jq h
 have:=(Ro (l0:=l) l [] _ (fun _ h=>h) (fun _ h=>by cases h) h4 t ht).fewI (Lx h1 h2 h3)
 grind
abbrev yu:Md:=(pC [7] [2,4,8,10,11,12,13])
theorem c21(x:List Rl)(ifs:List (List AV))(roots:List Rq)(a:An)(TE:jr x ifs)(td:zb x ifs roots a.sel)(hx:∀r∈x,E4 r)(hr:∀q∈roots,HP q)(hs:a.sel.length<=500)(hk:BL a.skips):PC 22 [Il x ifs,sl Ac roots,.agg (EM a)] (vi (DW x roots a)):=by
 obtain⟨found,sel,infs,skips⟩:=a;have hs:sel.length<=500:=hs;have RS:=c36 x ifs roots infs hx hr (fun _=>Aaq x ifs roots TE);unfold dp at RS;obtain⟨D,hD⟩:∃D,D=DW x roots ⟨found,sel,infs,skips⟩:=⟨_,rfl⟩;rw[<-hD];unfold DW at hD
 by_cases he:(AZ x roots infs).2=0
 .rw[AX he]at RS;rw[AI (by simp_all)]at hD;obtain⟨h1,h2,h3,h4⟩:=Jq he;have hdf:=Rp he;have hdl:(AZ x roots infs).1.length<=65536:=Tb;obtain⟨d,hd⟩:∃d,d=(AZ x roots infs).1:=⟨_,rfl⟩;rw[<-hd]at hD RS hdf hdl;have pH:=c40 x (.slice .none ifs) roots d aa0;refine Ps yu Tryz.func22 rfl (Nz rfl) (yN (Xi .pure (Xi _ (Yi (RS) (yN (cU [(1,sl Ac roots),(3,.ref 3 0),(5,.ref 5 0),(7,.ref 7 0),(8,vi 0)] [(3,.cells (Ic x ifs)),(5,.cells [vb found,sl Ag sel,sl AG infs,sl AN skips]),(7,.ro [.cptr (Cr x (.slice .none ifs) roots d)])] Z5 Z3 (Yi ?_ ?_)))))))
  .intro h;exact absurd rfl h
  intro _;refine cU [(1,sl Ac roots),(3,.ref 3 0),(5,.ref 5 0),(7,.ref 7 0)] [(3,.cells (Ic x ifs)),(5,.cells [vb found,sl Ag sel,sl AG infs,sl AN skips]),(7,.ro [.cptr (Cr x (.slice .none ifs) roots d)])] Z4 Z3 (Yi ?_ ?_)
  .intro hf;have hf:found=true:=hf;have hD:D=if Db x roots sel≠0 then 18 else if(((visits x roots sel).1.foldl (Ci x d) (true,skips)).1&&((visits x roots sel).1.foldl (Ci x d) (true,skips)).2.isEmpty)then 0 else 18:=by
    simp_all
   refine cU [(1,sl Ac roots),(3,.ref 3 0),(5,.ref 5 0),(7,.ref 7 0)] [(3,.cells (Ic x ifs)),(5,.cells [vb found,sl Ag sel,sl AG infs,sl AN skips]),(7,.ro [.cptr (Cr x (.slice .none ifs) roots d)])] Z4 Z3 (yN (Xi .pure (Xi _ (Yi (td) (Yi ?_ ?_)))))
   .intro hz;have hz:Db x roots sel≠0:=hz;exact .of_eq (Aa vi (show(18:Int)=D by omega))
   intro hz;have hz:¬Db x roots sel≠0:=hz;have hD:D=if(((visits x roots sel).1.foldl (Ci x d) (true,skips)).1&&((visits x roots sel).1.foldl (Ci x d) (true,skips)).2.isEmpty)then 0 else 18:=by omega
   have hcd:=Ab2 x ifs roots d sel (true,skips) TE h1 hx (by grind [JD]) (fun q hq=>(hr q hq).1) hs hdl hdf;refine cU [(5,.ref 5 0),(7,.ref 7 0)] [(5,.cells [vb found,sl Ag sel,sl AG infs,sl AN skips]),(7,.ro [.cptr (Cr x (.slice .none ifs) roots d)])] Z2 Z2 (yN (cU [(5,.ref 5 0),(7,.ref 7 0),(9,.ref 9 0)] [(5,.cells [vb found,sl Ag sel,sl AG infs,sl AN skips]),(7,.ro [.cptr (Cr x (.slice .none ifs) roots d)]),(9,.cells [vb true])] Z3 Z3 (yN (cU [(5,.ref 5 0),(7,.ref 7 0),(9,.ref 9 0),(10,.ref 10 0)] [(5,.cells [vb found,sl Ag sel,sl AG infs,sl AN skips]),(7,.ro [.cptr (Cr x (.slice .none ifs) roots d)]),(9,.cells [vb true]),(10,.cells [sl AN skips])] Z4 Z4 (Xi (.gen [(10,1000),(9,1001)] 0) (Yi rfl (hcd.imp ?_)))))));intro v g q;have q1:=q.1;have q2:=q.2;subst q1;subst q2;refine Al (show ∃A,A=(visits x roots sel).1.foldl (Ci x d) (true,skips)from⟨_,rfl⟩) (fun A hA=>?_);refine cU [(9,.ref 9 0),(10,.ref 10 0)] [(9,.cells [vb A.1]),(10,.cells [sl AN A.2])] Z2 ⟨⟨Aa (fun a:Bool×List Sk=>HO.cells [vb a.1]) hA.symm,rfl⟩,⟨Aa (fun a:Bool×List Sk=>HO.cells [sl AN a.2]) hA.symm,rfl⟩,Tv⟩ ?_
   rw[<-hA]at hD;refine Yi ?_ ?_
   .intro h5;have h5:A.1=true:=h5;refine Yi ?_ ?_
    .intro h6;have h6:(0:Int)<(A.2.map AN).length:=h6;have h6:A.2.isEmpty=false:=by
      grind
     exact .of_eq (Aa vi (show(18:Int)=D by simp_all))
    .intro h6;have h6:¬(0:Int)<(A.2.map AN).length:=h6;have h6:A.2.isEmpty=true:=by
      simp_all
     exact .of_eq (Aa vi (show(0:Int)=D by simp_all))
   .intro h5;have h5:A.1=false:=h5;exact .of_eq (Aa vi (show(18:Int)=D by simp_all))
  .intro hf;have hf:found=false:=hf;have hD:D=if(!sel.isEmpty||!skips.isEmpty||!EP d)then 18 else 0:=by
    simp_all
   refine Yi ?_ ?_
   .intro h5;have h5:(0:Int)<(sel.map Ag).length:=h5;have h5:sel.isEmpty=false:=by
     grind
    exact .of_eq (Aa vi (show(18:Int)=D by simp_all))
   intro h5;have h5:¬(0:Int)<(sel.map Ag).length:=h5;have h5:sel.isEmpty=true:=by
    simp_all
   refine Yi ?_ ?_
   .intro h6;have h6:(0:Int)<(skips.map AN).length:=h6;have h6:skips.isEmpty=false:=by
     grind
    exact .of_eq (Aa vi (show(18:Int)=D by simp_all))
   intro h6;have h6:¬(0:Int)<(skips.map AN).length:=h6;have h6:skips.isEmpty=true:=by
    simp_all
   refine AA (Bt (EP d)) (fun h7=>?_) (fun h7=>?_)
   .rw[h7]at pH;refine Xi .pure (Xi _ (Yi (pH) ?_));exact .of_eq (Aa vi (show(0:Int)=D by simp_all))
   .rw[h7]at pH;refine Xi .pure (Xi _ (Yi (pH) ?_));exact .of_eq (Aa vi (show(18:Int)=D by simp_all))
 .rw[AI he]at RS;rw[AX he]at hD;refine Ps yu Tryz.func22 rfl (Nz rfl) (yN (Xi .pure (Xi _ (Yi (RS) (yN (cU [(8,vi (AZ x roots infs).2)] [] Z1 Tv (Yi ?_ ?_)))))))
  .intro _;exact .of_eq (Aa vi hD.symm)
  .intro h;exact absurd he h
def MN(d:List ByteArray):List Rl->Nat
 | []=>0
 |r::l=>(if d.any (fun p=>decide (p=r.path))then 0 else r.reqs.length)+MN d l
theorem eJ(d:List ByteArray)(p:ByteArray):∀l:List Rl,MN (d++[p]) l<=MN d l
 | []=>Ao _
 |r::l=>by
  have ih:=eJ d p l
  grind [MN]
theorem QG(d:List ByteArray)(p:ByteArray)(hp:d.any (fun q=>decide (q=p))=false):∀l:List Rl,MN (d++[p]) l+(Fe l p).length<=MN d l
 | []=>by simp[MN,Fe]
 |r::l=>by
  by_cases hr:r.path=p
  .grind [Fe,MN,eJ]
  .have e:Fe (r::l) p=Fe l p:=by grind [Fe]
   rw[e];have ih:=QG d p hp l
   grind [MN]
theorem Uu:∀l:List Rl,MN [] l=(l.map fun r=>r.reqs.length).foldl (·+·) 0
 |l=>by
  have gen:∀(l:List Rl) (a:Nat),(l.map fun r=>r.reqs.length).foldl (·+·) a=a+MN [] l:=fun l=>by
   induction l<;>grind [MN]
  simp_all
structure NI(l:List Rl)(roots:List Rq)(d:List ByteArray)(t:List Rq)(n:Nat):Prop where
 need:Fr l (Hi l roots) roots []=Fr l n t d
 pot:t.length+MN d l+1<=n
section
variable {l:List Rl}{roots t:List Rq}{d:List ByteArray}{n:Nat}
theorem NI.start(l:List Rl)(roots:List Rq):NI l roots [] roots (Hi l roots):=⟨rfl,by grind [Uu,Hi]⟩
theorem NI.stop(h:NI l roots d [] n):Fr l (Hi l roots) roots []=d:=by
 rw[h.need];cases n<;>rfl
theorem NI.old{q:Rq}(h:NI l roots d (q::t) (n+1))(hq:d.any (fun p=>decide (p=q.path))=true):NI l roots d t n:=
 ⟨by rw[h.need];show(if _ then _ else _)=_;simp_all,by have:=h.pot;grind⟩
theorem NI.new{q:Rq}(h:NI l roots d (q::t) (n+1))(hq:d.any (fun p=>decide (p=q.path))=false):NI l roots (d++[q.path]) (t++Fe l q.path) n:=
 ⟨by rw[h.need];show(if _ then _ else _)=_;grind,by
  have:=h.pot
  have:=QG d q.path hq l
  grind⟩
end
abbrev Wc(p:ByteArray):Value×AV:=(.string p,vb true)
theorem So{a:AV}(h:(Value.string p,a)∈d.map Wc):p∈d/\a=vb true:=by
 grind
theorem I4:(d.any fun q=>decide (q=p))=true↔p∈d:=jL
theorem sq(hn:(l.map (·.path)).Nodup){i:Nat}(hi:i<l.length):Fm ((l.take i).map ME) (.string l[i].path) (.agg (Am l[i]))=(l.take (i+1)).map ME:=by
 rw[IH]
 .rw[Ck,Ge hi,BD];rfl
 intro a ha;obtain⟨r,hr,he,_⟩:=Sp ha;obtain⟨j,hj,e2⟩:=List.mem_iff_getElem.1 hr;rw[Cy]at hj;rw[List.getElem_take]at e2
 have:=(List.getElem_inj (xs:=l.map (·.path)) (i:=j) (j:=i) (h₀:=by grind) (h₁:=by simp_all) hn).1 (by simp_all)
 omega
theorem Wv{x:List Rl}{s:List Sl}(hi:Bp s=true)(h:FN x s=some l):(l.map (·.path)).Nodup:=by
 have e:=(G5 h).1
 have:l.map (·.path)=s.map (·.path):=by rw[<-e,B2];rfl
 rw[this];have hp:=(Ls hi).1
 grind [DQ]
abbrev qG:Md:=⟨[],[(72,2)],[],[(47,[35,10])],[],[],[72],[],[],[],[2,4,5,7,8,10,11,13,14,16,17,20,22,23,24,25,26,27,30]⟩
theorem c45(x:List Rl)(ifs:List (List AV))(roots:List Rq)(s:List Sl)(TE:jr x ifs)(hx:∀r∈x,E4 r)(hr:roots.length<=1000000)(Vj:∀q∈roots,BL q.set)(hs:s.length<=1000000):zb x ifs roots s:=by
 have aE:BL s:=by omega
 have vu:BL roots:=by omega
 obtain⟨D,hD⟩:∃D,D=Db x roots s:=⟨_,rfl⟩;unfold zb;rw[<-hD];unfold Db at hD
 by_cases h0:Av x=0
 .have TE:PC 95 [Il x ifs] (.tup [.agg [.cmap OI (x.map Oh),.cmap Cv ((AK x []).map (ia x))],vi 0]):=by
   grind
  rw[AI aa0]at hD;have YX:=c85 x s ((AK x []).map (ia x)) h0 aE;unfold i9 at YX;cases hi:Bp s with
  |false=>
   rw[AX hi]at YX;rw[AX (by simp_all)]at hD;refine Ps qG Tryz.func51 rfl (Nz rfl) (Xi 0 (Xi 0 (yN (Xi .pure (Xi _ (Yi (TE) (yN (cU [(1,sl Ac roots),(2,sl Ag s),(7,.ref 7 0),(8,vi 0)] [(7,.cells [.cmap OI (x.map Oh),.cmap Cv ((AK x []).map (ia x))])] Z4 Z1 (Xi 0 (Yi ?_ ?_))))))))))
   .intro h;exact absurd rfl h
   intro _;refine cU [(1,sl Ac roots),(2,sl Ag s),(7,.ref 7 0)] [(7,.cells [.cmap OI (x.map Oh),.cmap Cv ((AK x []).map (ia x))])] Z3 Z1 (Xi 0 (yN (Xi .pure (Xi _ (Yi (YX) (cU [(8,vi 1)] [] Z1 Tv (Xi 0 (Yi ?_ ?_))))))))
   .intro _;refine Xi 0 ?_;exact .of_eq (Aa vi hD.symm)
   .intro h;exact absurd (show(1:Int)≠0 by decide) h
  |true=>
   rw[AI (by simp_all)]at YX;rw[AI (by simp_all)]at hD;cases Zb:FN x s with
   |none=>
    rw[Zb]at YX hD;refine Ps qG Tryz.func51 rfl (Nz rfl) (Xi 0 (Xi 0 (yN (Xi .pure (Xi _ (Yi (TE) (yN (cU [(1,sl Ac roots),(2,sl Ag s),(7,.ref 7 0),(8,vi 0)] [(7,.cells [.cmap OI (x.map Oh),.cmap Cv ((AK x []).map (ia x))])] Z4 Z1 (Xi 0 (Yi ?_ ?_))))))))))
    .intro h;exact absurd rfl h
    intro _;refine cU [(1,sl Ac roots),(2,sl Ag s),(7,.ref 7 0)] [(7,.cells [.cmap OI (x.map Oh),.cmap Cv ((AK x []).map (ia x))])] Z3 Z1 (Xi 0 (yN (Xi .pure (Xi _ (Yi (YX) (cU [(8,vi 6)] [] Z1 Tv (Xi 0 (Yi ?_ ?_))))))))
    .intro _;refine Xi 0 ?_;exact .of_eq (Aa vi hD.symm)
    .intro h;exact absurd (show(6:Int)≠0 by decide) h
   |some l=>
    rw[Zb]at YX hD;have Sh:=Wv hi Zb;have hll:l.length=s.length:=by rw[<-(G5 Zb).1,Lm]
    have hlx:∀r∈l,r∈x:=fun r hr=>(CH ((G5 Zb).2.1 r hr)).2.1;have hlq:∀r∈l,r.reqs.length<=16:=fun r hr=>(Fb h0).2 r (hlx r hr);have bH:∀q:Rq,BL q.set->PC 97 ([.agg (Ac q)]++[.cptr [.cmap Cv (l.map ME)]]) (vb (B9 l q)):=fun q hq=>c86 l Sh q hq;have Gw:DP [.cptr [.cmap Cv (l.map ME)]]:=fun c hc=>by
     obtain rfl:=AD.1 hc;intro h;rfl
    have hD:D=if l.any (fun r=>r.reqs.any (B9 l))then 17 else if roots.any (B9 l)then 17 else if(Fr l (Hi l roots) roots []).length<l.length then 8 else 0:=hD
    refine Ps qG Tryz.func51 rfl (Nz rfl) (Xi 0 (Xi 0 (yN (Xi .pure (Xi _ (Yi (TE) (yN (cU [(1,sl Ac roots),(2,sl Ag s),(7,.ref 7 0),(8,vi 0)] [(7,.cells [.cmap OI (x.map Oh),.cmap Cv ((AK x []).map (ia x))])] Z4 Z1 (Xi 0 (Yi ?_ ?_))))))))))
    .intro h;exact absurd rfl h
    intro _;refine cU [(1,sl Ac roots),(2,sl Ag s),(7,.ref 7 0)] [(7,.cells [.cmap OI (x.map Oh),.cmap Cv ((AK x []).map (ia x))])] Z3 Z1 (Xi 0 (yN (Xi .pure (Xi _ (Yi (YX) (cU [(1,sl Ac roots),(8,vi 0),(9,sl Am l)] [] Z3 Tv (Xi 0 (Yi ?_ ?_))))))))
    .intro h;exact absurd rfl h
    intro _;refine cU [(1,sl Ac roots),(9,sl Am l)] [] Z2 Tv (Xi 0 (yN (cU [(1,sl Ac roots),(9,sl Am l),(10,.ref 10 0)] [(10,.cells [.mref 35]),(35,.map Cv [])] Z3 Z2 (Xi 0 (Xi {i:Nat // i<=l.length} (Xi (fun i=>⟨[(1,sl Ac roots),(9,sl Am l),(10,.ref 10 0),(36,sl Am l),(37,vi (l.map Am).length),(38,vi i.1)],[(10,.cells [.mref 35]),(35,.map Cv ((l.take i.1).map ME))],Ae⟩) (Xi (fun i=>l.length-i.1) (Yi (Xi ⟨0,Ap _⟩ ?_) ?_))))))))
    .exact⟨Z6,Z2,Fh,Tv⟩
    intro⟨i,i1⟩;have i1:i<=l.length:=i1;refine Xi 0 (Yi ?_ ?_)
    .intro h;have h:(i:Int)<(l.map Am).length:=h;have h:i<l.length:=by simp_all
     have hg:l[i]?=some l[i]:=Ge h;refine cU [(1,sl Ac roots),(9,sl Am l),(10,.ref 10 0),(36,sl Am l),(37,vi (l.map Am).length),(38,vi i)] [(10,.cells [.mref 35]),(35,.map Cv ((l.take i).map ME))] Z6 Z2 (Xi 0 (Xi (Am l[i]) (Yi (Yi aa0 (by simp_all)) (Yi rfl ?_))));refine Yi (Nz rfl) (yN (cU [(1,sl Ac roots),(9,sl Am l),(10,.ref 10 0),(36,sl Am l),(37,vi (l.map Am).length),(12,.ref 12 0),(38,vi i)] [(12,.cells (Am l[i])),(10,.cells [.mref 35]),(35,.map Cv ((l.take i).map ME))] Z7 Z3 (Xi 0 (yN ?_))));have e35:=sq Sh h;refine Xi 0 (Yi (Ii i aa0) (Xi ⟨i+1,by omega⟩ ?_));exact⟨by grind,Z6,⟨Zr,⟨Aa (HO.map Cv) e35,rfl⟩,Tv⟩,Fh,Tv⟩
    intro h;have h:¬(i:Int)<(l.map Am).length:=h;have h:¬i<l.length:=by simp_all
    have et:(l.take i).map ME=l.map ME:=by grind
    refine cU [(1,sl Ac roots),(9,sl Am l),(10,.ref 10 0)] [(10,.cells [.mref 35]),(35,.map Cv (l.map ME))] Z3 ⟨Zr,⟨Aa (HO.map Cv) et,rfl⟩,Tv⟩ (Xi 0 (cU [(1,sl Ac roots),(9,sl Am l),(10,.ref 10 0),(13,.clo 97 [.cptr [.cmap Cv (l.map ME)]])] [(10,.ro [.cmap Cv (l.map ME)])] Z4 Z1 (Xi 0 (Xi {i:Nat // i<=l.length/\∀j (hj:j<l.length),j<i->l[j].reqs.any (B9 l)=false} (Xi (fun i=>⟨[(1,sl Ac roots),(9,sl Am l),(10,.ref 10 0),(13,.clo 97 [.cptr [.cmap Cv (l.map ME)]]),(48,sl Am l),(49,vi (l.map Am).length),(50,vi i.1)],[(10,.ro [.cmap Cv (l.map ME)])],Ae⟩) (Xi (fun i=>l.length-i.1) (Yi (Xi ⟨0,Ap _,fun j _ hj=>absurd hj (Nu j)⟩ ?_) ?_)))))))
    .exact⟨Z7,Z1,Fh,Tv⟩
    intro⟨i,i1,i2⟩;have i1:i<=l.length:=i1;refine Xi 0 (Yi ?_ ?_)
    .intro h;have h:(i:Int)<(l.map Am).length:=h;have h:i<l.length:=by omega
     have hg:l[i]?=some l[i]:=Ge h;have Lo:PC 99 [sl Ac l[i].reqs,.clo 97 [.cptr [.cmap Cv (l.map ME)]]] (vb (l[i].reqs.any (B9 l))):=c89 Gw l[i].reqs (B9 l) (fun q hq=>bH q ((hx _ (hlx _ (Ak h))).2 q hq).1) (by grind);refine cU [(1,sl Ac roots),(9,sl Am l),(10,.ref 10 0),(13,.clo 97 [.cptr [.cmap Cv (l.map ME)]]),(48,sl Am l),(49,vi (l.map Am).length),(50,vi i)] [(10,.ro [.cmap Cv (l.map ME)])] Z7 Z1 (Xi 0 (Xi (Am l[i]) (Yi (Yi aa0 (by simp_all)) (Yi rfl ?_))));refine Yi (Nz rfl) (yN (cU [(1,sl Ac roots),(9,sl Am l),(10,.ref 10 0),(13,.clo 97 [.cptr [.cmap Cv (l.map ME)]]),(48,sl Am l),(49,vi (l.map Am).length),(15,.ref 15 0),(50,vi i)] [(10,.ro [.cmap Cv (l.map ME)]),(15,.cells (Am l[i]))] Z8 Z2 (Xi 0 (AA (Bt (l[i].reqs.any (B9 l))) (fun hb=>?_) (fun hb=>?_)))))
     .rw[hb]at Lo;refine Xi .pure (Xi _ (Yi (Lo) (Xi 0 ?_)));have ha:l.any (fun r=>r.reqs.any (B9 l))=true:=Bu.2 ⟨l[i],Ak h,hb⟩;exact .of_eq (Aa vi (show(17:Int)=D by simp_all))
     .rw[hb]at Lo;refine Xi .pure (Xi _ (Yi (Lo) (Xi 0 (Yi (by grind [As]) (Xi ⟨i+1,by omega,fun j hj Hg=>?_⟩ ?_)))))
      .grind
      exact⟨by grind,Z7,Z1,Fh,Tv⟩
    intro h;have h:¬(i:Int)<(l.map Am).length:=h;have h:¬i<l.length:=by simp_all
    have ha:l.any (fun r=>r.reqs.any (B9 l))=false:=by
     grind [List.mem_iff_getElem]
    have hD:D=if roots.any (B9 l)then 17 else if(Fr l (Hi l roots) roots []).length<l.length then 8 else 0:=by simp_all
    have Lo:PC 99 [sl Ac roots,.clo 97 [.cptr [.cmap Cv (l.map ME)]]] (vb (roots.any (B9 l))):=c89 Gw roots (B9 l) (fun q hq=>bH q (Vj q hq)) vu;refine cU [(1,sl Ac roots),(9,sl Am l),(10,.ref 10 0),(13,.clo 97 [.cptr [.cmap Cv (l.map ME)]])] [(10,.ro [.cmap Cv (l.map ME)])] Z4 Z1 (Xi 0 (AA (Bt (roots.any (B9 l))) (fun hb=>?_) (fun hb=>?_)))
    .rw[hb]at Lo;refine Xi .pure (Xi _ (Yi (Lo) (Xi 0 ?_)));exact .of_eq (Aa vi (show(17:Int)=D by simp_all))
    rw[hb]at Lo;have hD:D=if(Fr l (Hi l roots) roots []).length<l.length then 8 else 0:=by simp_all
    refine Xi .pure (Xi _ (Yi (Lo) (cU [(1,sl Ac roots),(9,sl Am l),(10,.ref 10 0)] [(10,.ro [.cmap Cv (l.map ME)])] Z3 Z1 (Xi 0 (cU [(1,sl Ac roots),(9,sl Am l),(10,.ref 10 0),(16,.mref 62)] [(10,.ro [.cmap Cv (l.map ME)]),(62,.map Cv [])] Z4 Z2 (Xi 0 (Xi (.gen [] 1) (Yi rfl ((sU roots vu).imp ?_)))))))));intro v g q;have q1:=q.1;have q2:=q.2;subst q1;subst q2
    clear q
    have Af2:MN [] l<=16*l.length:=by
     have gen:∀l:List Rl,(∀r∈l,r.reqs.length<=16)->MN [] l<=16*l.length:=fun l=>by
      induction l with
      |nil=>intro _;exact Ao _
      |cons r l ih=>
       grind [MN]
     grind
    have hfu:Hi l roots<=roots.length+16*l.length+1:=by grind [Hi,Uu]
    refine Xi {p:List ByteArray×List Rq×Nat×Bool // NI l roots p.1 p.2.1 p.2.2.1/\p.2.2.1<=Hi l roots} (Xi (fun p=>⟨[(9,sl Am l),(10,.ref 10 0),(16,.mref 62),(17,.slice (.id (bif p.1.2.2.2 then 16400 else 201) 2) (p.1.2.1.map Ac))],[(10,.ro [.cmap Cv (l.map ME)]),(62,.map Cv (p.1.1.map Wc)),(16400,bif p.1.2.2.2 then .tok 2 (p.1.2.1.map Ac).length else .free),(201,bif p.1.2.2.2 then .free else .tok 2 (p.1.2.1.map Ac).length)],Ae⟩) (Xi (fun p=>p.1.2.2.1) (Yi (Xi ⟨([],roots,Hi l roots,true),NI.start l roots,Ao _⟩ ?_) ?_)))
    .exact⟨Z4,Z4,Fh,Tv⟩
    intro⟨⟨d,t,n,b⟩,ni,nf⟩;have ni:NI l roots d t n:=ni;have nf:n<=Hi l roots:=nf;refine AA (Bt b) (fun eb=>?_) (fun eb=>?_)
    .refine cU [(9,sl Am l),(10,.ref 10 0),(16,.mref 62),(17,.slice (.id 16400 2) (t.map Ac))] [(10,.ro [.cmap Cv (l.map ME)]),(62,.map Cv (d.map Wc)),(16400,.tok 2 (t.map Ac).length)] ⟨Zr,Zr,Zr,⟨by show AV.slice (.id (bif b then 16400 else 201) 2) (t.map Ac)=_;simp_all,rfl⟩,Tv⟩ ⟨Zr,Zr,⟨by show(bif b then HO.tok 2 (t.map Ac).length else HO.free)=_;simp_all,rfl⟩,Tv⟩ ?_
     refine Xi 0 (Yi ?_ ?_)
     .intro h;have h:(0:Int)<(t.map Ac).length:=h;refine Al (show ∃q t',t=q::t' by cases t<;>simp_all) (fun q hq=>?_)
      refine Al hq (fun t' hq=>?_);refine Al (show ∃m,n=m+1 from⟨n-1,by have:=ni.pot;omega⟩) (fun m xQ=>?_);have ni:NI l roots d (q::t') (m+1):=hq▸xQ▸ni;have Acw:=ni.pot;have pS:(t.map Ac)[(0:Int).toNat]?=some (Ac q):=by simp_all
      refine cU [(9,sl Am l),(10,.ref 10 0),(16,.mref 62),(17,.slice (.id 16400 2) (t.map Ac))] [(10,.ro [.cmap Cv (l.map ME)]),(62,.map Cv (d.map Wc)),(16400,.tok 2 (t.map Ac).length)] Z4 Z3 (Xi 0 (Xi (Ac q) (Yi (Yi aa2 pS) (Yi rfl (Yi (Nz rfl) (yN (cU [(9,sl Am l),(10,.ref 10 0),(16,.mref 62),(17,.slice (.id 16400 2) (t.map Ac)),(18,.ref 18 0)] [(10,.ro [.cmap Cv (l.map ME)]),(62,.map Cv (d.map Wc)),(16400,.tok 2 (t.map Ac).length),(18,.cells (Ac q))] Z5 Z4 (Xi 201 ?_))))))));have yb:1<=(t.map Ac).length:=by omega
      refine Yi (Yi rfl (Yi aa2 aa0)) ?_;have ed:(t.map Ac).drop (1:Int).toNat=t'.map Ac:=by simp_all
      refine cU [(9,sl Am l),(10,.ref 10 0),(16,.mref 62),(17,.slice (.id 201 2) (t'.map Ac)),(18,.ref 18 0)] [(10,.ro [.cmap Cv (l.map ME)]),(62,.map Cv (d.map Wc)),(201,.tok 2 (t'.map Ac).length),(18,.cells (Ac q))] ⟨Zr,Zr,Zr,⟨Aa (AV.slice (.id 201 2)) ed,rfl⟩,Zr,Tv⟩ ⟨Zr,Zr,⟨Aa (fun e:List (List AV)=>HO.tok 2 e.length) ed,rfl⟩,Zr,Tv⟩ (Xi 0 (Yi ?_ ?_))
      .intro a ha;refine Al (show ∃u,u=()from⟨(),rfl⟩) (fun _ _=>?_);have e:=(So ha).2;subst e;have ho:=I4.2 (So ha).1;have co:=ni.old ho;refine Xi ⟨(d,t',m,false),co,by grind⟩ ?_;exact⟨by simp_all,Z4,Z4,Fh,Tv⟩
      intro Me;have ho:d.any (fun p=>decide (p=q.path))=false:=by
       rw[A2];intro hc;exact Me (vb true) (Ar.2 ⟨q.path,I4.1 hc,rfl⟩)
      have co:=ni.new ho;have Y9:=co.pot;refine Xi 0 ?_;have wI:Fm (d.map Wc) (.string q.path) (vb true)=(d++[q.path]).map Wc:=by rw[IH Me,BD];rfl
      refine Xi 0 (Yi ?_ ?_)
      .intro a ha;refine Al (Sp ha) (fun r Vh=>?_);have e:=Vh.2.2;subst e;have od:Fe l q.path=r.reqs:=by
        unfold Fe;rw[<-Vh.2.1,Hy Sh Vh.1]
       rw[od]at co Y9;have Jh:=hlq r Vh.1;have CO:A7 2 (r.reqs.map Ac)/\(t'.map Ac).length=(t'.map Ac).length/\((t'.map Ac).length+(r.reqs.map Ac).length)*40<=140737488355328/\(t'.map Ac).length+(r.reqs.map Ac).length<=9223372036854775807:=
        ⟨Cn (enc:=Ac) (n:=2) (fun _=>rfl) r.reqs,rfl,by grind,by grind⟩
       refine Yi CO ?_;have sZ:AV.slice (.id 201 2) (t'.map Ac++r.reqs.map Ac)=.slice (.id 201 2) ((t'++r.reqs).map Ac):=by simp_all
       have um:HO.tok 2 ((t'.map Ac).length+(r.reqs.map Ac).length)=.tok 2 ((t'++r.reqs).map Ac).length:=by simp_all
       refine Xi ⟨(d++[q.path],t'++r.reqs,m,false),co,by grind⟩ ?_;exact⟨by simp_all,⟨Zr,Zr,Zr,⟨sZ,rfl⟩,Tv⟩,⟨Zr,⟨Aa (HO.map Cv) wI,rfl⟩,Zr,⟨um,rfl⟩,Tv⟩,Fh,Tv⟩
      intro xU;have od:Fe l q.path=[]:=by
       unfold Fe
       grind
      rw[od]at co Y9;have CO:A7 2 []/\(t'.map Ac).length=(t'.map Ac).length/\((t'.map Ac).length+([]:List (List AV)).length)*40<=140737488355328/\(t'.map Ac).length+([]:List (List AV)).length<=9223372036854775807:=
       ⟨trivial,rfl,by grind,by grind⟩
      refine Yi CO ?_;have sZ:AV.slice (.id 201 2) (t'.map Ac++[])=.slice (.id 201 2) ((t'++[]).map Ac):=by simp_all
      have um:HO.tok 2 ((t'.map Ac).length+([]:List (List AV)).length)=.tok 2 ((t'++[]).map Ac).length:=by simp_all
      refine Xi ⟨(d++[q.path],t'++[],m,false),co,by grind⟩ ?_;exact⟨by simp_all,⟨Zr,Zr,Zr,⟨sZ,rfl⟩,Tv⟩,⟨Zr,⟨Aa (HO.map Cv) wI,rfl⟩,Zr,⟨um,rfl⟩,Tv⟩,Fh,Tv⟩
     intro h;have h:¬(0:Int)<(t.map Ac).length:=h;have ht0:t=[]:=by
      simp_all
     have Ach:Fr l (Hi l roots) roots []=d:=(ht0▸ni).stop;have hD:D=if d.length<l.length then 8 else 0:=by simp_all
     refine cU [(9,sl Am l),(16,.mref 62)] [(62,.map Cv (d.map Wc))] Z2 Z1 (Xi 0 (Yi ?_ ?_))
     .intro h;have h:((d.map Wc).length:Int)<((l.map Am).length:Int):=h;have h:d.length<l.length:=by simp_all
      refine Xi 0 ?_;exact .of_eq (Aa vi (show(8:Int)=D by omega))
     .intro h;have h:¬((d.map Wc).length:Int)<((l.map Am).length:Int):=h;have h:¬d.length<l.length:=by simp_all
      refine Xi 0 ?_;exact .of_eq (Aa vi (show(0:Int)=D by omega))
    .refine cU [(9,sl Am l),(10,.ref 10 0),(16,.mref 62),(17,.slice (.id 201 2) (t.map Ac))] [(10,.ro [.cmap Cv (l.map ME)]),(62,.map Cv (d.map Wc)),(201,.tok 2 (t.map Ac).length)] ⟨Zr,Zr,Zr,⟨by show AV.slice (.id (bif b then 16400 else 201) 2) (t.map Ac)=_;simp_all,rfl⟩,Tv⟩ ⟨Zr,Zr,⟨by show(bif b then HO.free else HO.tok 2 (t.map Ac).length)=_;simp_all,rfl⟩,Tv⟩ ?_
     refine Xi 0 (Yi ?_ ?_)
     .intro h;have h:(0:Int)<(t.map Ac).length:=h;refine Al (show ∃q t',t=q::t' by cases t<;>simp_all) (fun q hq=>?_)
      refine Al hq (fun t' hq=>?_);refine Al (show ∃m,n=m+1 from⟨n-1,by have:=ni.pot;omega⟩) (fun m xQ=>?_);have ni:NI l roots d (q::t') (m+1):=hq▸xQ▸ni;have Acw:=ni.pot;have pS:(t.map Ac)[(0:Int).toNat]?=some (Ac q):=by simp_all
      refine cU [(9,sl Am l),(10,.ref 10 0),(16,.mref 62),(17,.slice (.id 201 2) (t.map Ac))] [(10,.ro [.cmap Cv (l.map ME)]),(62,.map Cv (d.map Wc)),(201,.tok 2 (t.map Ac).length)] Z4 Z3 (Xi 0 (Xi (Ac q) (Yi (Yi aa2 pS) (Yi rfl (Yi (Nz rfl) (yN (cU [(9,sl Am l),(10,.ref 10 0),(16,.mref 62),(17,.slice (.id 201 2) (t.map Ac)),(18,.ref 18 0)] [(10,.ro [.cmap Cv (l.map ME)]),(62,.map Cv (d.map Wc)),(201,.tok 2 (t.map Ac).length),(18,.cells (Ac q))] Z5 Z4 (Xi 16400 ?_))))))));have yb:1<=(t.map Ac).length:=by omega
      refine Yi (Yi rfl (Yi aa2 aa0)) ?_;have ed:(t.map Ac).drop (1:Int).toNat=t'.map Ac:=by simp_all
      refine cU [(9,sl Am l),(10,.ref 10 0),(16,.mref 62),(17,.slice (.id 16400 2) (t'.map Ac)),(18,.ref 18 0)] [(10,.ro [.cmap Cv (l.map ME)]),(62,.map Cv (d.map Wc)),(16400,.tok 2 (t'.map Ac).length),(18,.cells (Ac q))] ⟨Zr,Zr,Zr,⟨Aa (AV.slice (.id 16400 2)) ed,rfl⟩,Zr,Tv⟩ ⟨Zr,Zr,⟨Aa (fun e:List (List AV)=>HO.tok 2 e.length) ed,rfl⟩,Zr,Tv⟩ (Xi 0 (Yi ?_ ?_))
      .intro a ha;refine Al (show ∃u,u=()from⟨(),rfl⟩) (fun _ _=>?_);have e:=(So ha).2;subst e;have ho:=I4.2 (So ha).1;have co:=ni.old ho;refine Xi ⟨(d,t',m,true),co,by grind⟩ ?_;exact⟨by simp_all,Z4,Z4,Fh,Tv⟩
      intro Me;have ho:d.any (fun p=>decide (p=q.path))=false:=by
       rw[A2];intro hc;exact Me (vb true) (Ar.2 ⟨q.path,I4.1 hc,rfl⟩)
      have co:=ni.new ho;have Y9:=co.pot;refine Xi 0 ?_;have wI:Fm (d.map Wc) (.string q.path) (vb true)=(d++[q.path]).map Wc:=by rw[IH Me,BD];rfl
      refine Xi 0 (Yi ?_ ?_)
      .intro a ha;refine Al (Sp ha) (fun r Vh=>?_);have e:=Vh.2.2;subst e;have od:Fe l q.path=r.reqs:=by
        unfold Fe;rw[<-Vh.2.1,Hy Sh Vh.1]
       rw[od]at co Y9;have Jh:=hlq r Vh.1;have CO:A7 2 (r.reqs.map Ac)/\(t'.map Ac).length=(t'.map Ac).length/\((t'.map Ac).length+(r.reqs.map Ac).length)*40<=140737488355328/\(t'.map Ac).length+(r.reqs.map Ac).length<=9223372036854775807:=
        ⟨Cn (enc:=Ac) (n:=2) (fun _=>rfl) r.reqs,rfl,by grind,by grind⟩
       refine Yi CO ?_;have sZ:AV.slice (.id 16400 2) (t'.map Ac++r.reqs.map Ac)=.slice (.id 16400 2) ((t'++r.reqs).map Ac):=by simp_all
       have um:HO.tok 2 ((t'.map Ac).length+(r.reqs.map Ac).length)=.tok 2 ((t'++r.reqs).map Ac).length:=by simp_all
       refine Xi ⟨(d++[q.path],t'++r.reqs,m,true),co,by grind⟩ ?_;exact⟨by simp_all,⟨Zr,Zr,Zr,⟨sZ,rfl⟩,Tv⟩,⟨Zr,⟨Aa (HO.map Cv) wI,rfl⟩,⟨um,rfl⟩,Zr,Tv⟩,Fh,Tv⟩
      intro xU;have od:Fe l q.path=[]:=by
       unfold Fe
       grind
      rw[od]at co Y9;have CO:A7 2 []/\(t'.map Ac).length=(t'.map Ac).length/\((t'.map Ac).length+([]:List (List AV)).length)*40<=140737488355328/\(t'.map Ac).length+([]:List (List AV)).length<=9223372036854775807:=
       ⟨trivial,rfl,by grind,by grind⟩
      refine Yi CO ?_;have sZ:AV.slice (.id 16400 2) (t'.map Ac++[])=.slice (.id 16400 2) ((t'++[]).map Ac):=by simp_all
      have um:HO.tok 2 ((t'.map Ac).length+([]:List (List AV)).length)=.tok 2 ((t'++[]).map Ac).length:=by simp_all
      refine Xi ⟨(d++[q.path],t'++[],m,true),co,by grind⟩ ?_;exact⟨by simp_all,⟨Zr,Zr,Zr,⟨sZ,rfl⟩,Tv⟩,⟨Zr,⟨Aa (HO.map Cv) wI,rfl⟩,⟨um,rfl⟩,Zr,Tv⟩,Fh,Tv⟩
     intro h;have h:¬(0:Int)<(t.map Ac).length:=h;have ht0:t=[]:=by
      simp_all
     have Ach:Fr l (Hi l roots) roots []=d:=(ht0▸ni).stop;have hD:D=if d.length<l.length then 8 else 0:=by simp_all
     refine cU [(9,sl Am l),(16,.mref 62)] [(62,.map Cv (d.map Wc))] Z2 Z1 (Xi 0 (Yi ?_ ?_))
     .intro h;have h:((d.map Wc).length:Int)<((l.map Am).length:Int):=h;have h:d.length<l.length:=by simp_all
      refine Xi 0 ?_;exact .of_eq (Aa vi (show(8:Int)=D by omega))
     .intro h;have h:¬((d.map Wc).length:Int)<((l.map Am).length:Int):=h;have h:¬d.length<l.length:=by simp_all
      refine Xi 0 ?_;exact .of_eq (Aa vi (show(0:Int)=D by omega))
 .have TE:PC 95 [Il x ifs] (.tup [.agg [.cmap OI [],.cmap Cv []],vi (Av x)]):=by
   grind
  rw[AX h0]at hD;refine Ps qG Tryz.func51 rfl (Nz rfl) (Xi 0 (Xi 0 (yN (Xi .pure (Xi _ (Yi (TE) (yN (cU [(8,vi (Av x))] [] Z1 Tv (Xi 0 (Yi ?_ ?_))))))))))
  .intro _;refine Xi 0 ?_;exact .of_eq (Aa vi hD.symm)
  .intro h;exact absurd h0 h
structure nU(x:List Rl)(roots:List Rq):Prop where
 ix:BL x
 rs:BL roots
 rel:∀r∈x,BL r.reqs/\E4 r
 rq:∀q∈roots,HP q
theorem nU.x{x:List Rl}{roots:List Rq}(h:nU x roots):∀r∈x,E4 r:=fun r hr=>(h.rel r hr).2
theorem nU.c84{x:List Rl}{roots:List Rq}(h:nU x roots)(ifs:List (List AV)):jr x ifs:=Go.Eng.c84 x ifs h.x
theorem VW{x:List Rl}{roots:List Rq}(h:(F6 x 16&&EC roots)=true):roots.length<=20:=by
 grind [EC]
theorem nU.c45{x:List Rl}{roots:List Rq}(h:nU x roots)(ifs:List (List AV))(hf:(F6 x 16&&EC roots)=true)(s:List Sl)(hs:s.length<=1000000):zb x ifs roots s:=
 Go.Eng.c45 x ifs roots s (h.c84 ifs) h.x (by grind [VW]) (fun q hq=>(h.rq q hq).1) hs
theorem nU.c11{x:List Rl}{roots:List Rq}(h:nU x roots)(ifs:List (List AV)):PC 9 [Il x ifs,sl Ac roots] (vb (F6 x 16&&EC roots)):=
 Go.Eng.c11 x ifs roots h.ix (fun r hr=>(h.rel r hr).1) h.rs
end Go.Eng
namespace Go.Proofs.YtkmnnpmneamgoaaGreatDoor.joins
open Go Go.Eng Go.Proofs Go.ChangeShapes Go.WideShapes Go.ChangeAt Go.RowKit
section
variable {H:Type}{enc:TypeId×Value->H}{w:World}
theorem all_le{d:DataW H}{l:List (DataW H)}(h:d∈l):Rows.uptoBulk d<=Rows.uptoBulkAll l:=by
 induction l with
 |nil=>cases h
 |cons x r ih=>
  simp only[Rows.uptoBulkAll]
  cases AF.1 h with
  |inl e=>subst e;omega
  |inr e=>have:=ih e;omega
theorem one_le(d:DataW H):1<=Rows.uptoBulk d:=by
 cases d with
 |lit l=>cases l<;>simp[Rows.uptoBulk]
 |nil=>simp[Rows.uptoBulk]
 |ptr d=>simp[Rows.uptoBulk]
 |slice rx spare=>simp[Rows.uptoBulk]
 |agg parts=>simp[Rows.uptoBulk]
 |iface t d=>simp[Rows.uptoBulk]
 |map entries=>simp[Rows.uptoBulk]
 |held h=>simp[Rows.uptoBulk]
theorem len_le(l:List (DataW H)):l.length<=Rows.uptoBulkAll l:=by
 induction l with
 |nil=>simp[Rows.uptoBulkAll]
 |cons x r ih=>have:=one_le x;simp only[Rows.uptoBulkAll,BF];omega
theorem bulk_ok:WO (H:=H) Rows.uptoBulk where
 slice es sp:=by
  have h1:=len_le es
  refine⟨by simp only[Rows.uptoBulk];omega,fun d hd=>?_⟩
  have:=all_le hd
  simp only[Rows.uptoBulk];omega
 agg ps d hd:=by
  have:=all_le hd
  simp only[Rows.uptoBulk];omega
 str b:=by simp only[Rows.uptoBulk];omega
theorem app_all(l r:List (DataW H)):Rows.uptoBulkAll (l++r)=Rows.uptoBulkAll l+Rows.uptoBulkAll r:=by
 induction l with
 |nil=>simp[Rows.uptoBulkAll]
 |cons x l ih=>simp only[F2,Rows.uptoBulkAll,ih];omega
abbrev NB:Nat:=1048576
abbrev Op(enc:TypeId×Value->H)(w:World)(t:TypeId){α:Type}(e:α->List AV)(ok:α->Prop):Prop:=JV enc Tryz.prog w Rows.uptoBulk NB t e ok
theorem oI:Op enc w 3 (fun n:Int=>[vi n]) (fun _=>True):=(iD Tryz.underlying3).to id (fun _ _=>⟨rfl,trivial⟩)
theorem oB:Op enc w 4 (fun b:Bool=>[vb b]) (fun _=>True):=cr Tryz.underlying4
theorem oS:Op enc w 9 (fun s:ByteArray=>[vs s]) (fun s=>s.size<=NB):=XK bulk_ok Tryz.underlying9
theorem oVer:Op enc w 49 ES (fun _=>True):=
 (Eu bulk_ok Tryz.underlying49 (L:=3) aa3 (Bf rfl (n:=1) aa3 oI (Bf rfl (n:=1) aa3 oI (Bf rfl (n:=1) aa3 oI FH)))).to
  (fun p=>(⟨p.1,p.2.1,p.2.2.1⟩:Ver)) (fun _ _=>⟨rfl,trivial⟩)
theorem oSpan:Op enc w 65 Ab (fun _=>True):=
 (Eu bulk_ok Tryz.underlying65 (L:=2) aa3 (Bf rfl (n:=1) aa3 oI (Bf rfl (n:=1) aa3 oI FH))).to
  (fun p=>(p.1,p.2.1)) (fun _ _=>⟨rfl,trivial⟩)
theorem oSet:Op enc w 43 (fun l:AH=>[sl Ab l]) (fun l=>l.length<=NB):=
 (GV bulk_ok Tryz.underlying43 (m:=1) aa3 (fun _=>rfl) oSpan).to id (fun _ h=>⟨rfl,h.1⟩)
abbrev OkRq(q:Rq):Prop:=q.path.size<=NB/\q.set.length<=NB
theorem oRq:Op enc w 45 Ac OkRq:=
 (Eu bulk_ok Tryz.underlying45 (L:=2) aa3 (Bf rfl (n:=1) aa3 oS (Bf rfl (n:=1) aa3 oSet FH))).to
  (fun p=>(⟨p.1,p.2.1⟩:Rq)) (fun _ h=>⟨rfl,h.1,h.2.1⟩)
abbrev OkRqs(l:List Rq):Prop:=l.length<=NB/\∀q∈l,OkRq q
theorem oRqs:Op enc w 26 (fun l:List Rq=>[sl Ac l]) OkRqs:=
 GV bulk_ok Tryz.underlying26 (m:=1) aa3 (fun _=>rfl) oRq
abbrev OkRl(r:Rl):Prop:=r.path.size<=NB/\OkRqs r.reqs
theorem oRl:Op enc w 67 Am OkRl:=
 (Eu bulk_ok Tryz.underlying67 (L:=9) aa3 (Bf rfl (n:=1) aa3 oS (Bf rfl (n:=3) aa3 oVer (Bf rfl (n:=1) aa3 oRqs
  (Bf rfl (n:=1) aa3 oS (Bf rfl (n:=1) aa3 oS (Bf rfl (n:=1) aa3 oS (Bf rfl (n:=1) aa3 oB FH)))))))).to
  (fun p=>(⟨p.1,p.2.1,p.2.2.1,p.2.2.2.1,p.2.2.2.2.1,p.2.2.2.2.2.1,p.2.2.2.2.2.2.1⟩:Rl)) (fun _ h=>⟨rfl,h.1,h.2.2.1⟩)
theorem oRls:Op enc w 22 (fun l:List Rl=>[sl Am l]) (fun l=>l.length<=NB/\∀r∈l,OkRl r):=
 GV bulk_ok Tryz.underlying22 (m:=8) aa3 (fun _=>rfl) oRl
theorem oIfc:Op enc w 349 (fun s:ByteArray=>[vs s,.junk,.junk,.junk,.junk]) (fun _=>True):=
 (Eu bulk_ok Tryz.underlying349 (L:=5) aa3 (Bf rfl (n:=1) aa3 oS (Bf rfl (n:=1) aa3 (Nj Tryz.underlying344) (Bf rfl (n:=1) aa3 (Nj Tryz.underlying345)
  (Bf rfl (n:=1) aa3 (Nj Tryz.underlying346) (Bf rfl (n:=1) aa3 (Nj Tryz.underlying347) FH)))))).to (fun p=>p.1) (fun _ _=>⟨rfl,trivial⟩)
theorem oIfs:Op enc w 23 (fun l:List ByteArray=>[sl (fun s=>[vs s,.junk,.junk,.junk,.junk]) l]) (fun _=>True):=
 (GV bulk_ok Tryz.underlying23 (m:=4) aa3 (fun _=>rfl) oIfc).to id (fun _ _=>⟨rfl,trivial⟩)
theorem oIx:Op enc w 25 (fun p:List Rl×List (List AV)=>[sl Am p.1,.slice .none p.2]) (fun p=>p.1.length<=NB/\∀r∈p.1,OkRl r):=
 (Eu bulk_ok Tryz.underlying25 (L:=2) aa3 (Bf rfl (n:=1) aa3 oRls (Bf rfl (n:=1) aa3 oIfs FH))).to
  (fun p=>(p.1,p.2.1.map (fun s=>[vs s,.junk,.junk,.junk,.junk]))) (fun _ h=>⟨rfl,h.1⟩)
theorem oSl:Op enc w 51 Ag (fun y=>y.path.size<=NB):=
 (Eu bulk_ok Tryz.underlying51 (L:=4) aa3 (Bf rfl (n:=1) aa3 oS (Bf rfl (n:=3) aa3 oVer FH))).to
  (fun p=>(⟨p.1,p.2.1⟩:Sl)) (fun _ h=>⟨rfl,h.1⟩)
theorem oSls:Op enc w 39 (fun l:List Sl=>[sl Ag l]) (fun l=>l.length<=NB/\∀y∈l,y.path.size<=NB):=
 GV bulk_ok Tryz.underlying39 (m:=3) aa3 (fun _=>rfl) oSl
theorem oNf:Op enc w 136 AG (fun i=>i.path.size<=NB):=
 (Eu bulk_ok Tryz.underlying136 (L:=6) aa3 (Bf rfl (n:=1) aa3 oI (Bf rfl (n:=1) aa3 oS (Bf rfl (n:=1) aa3 oI
  (Bf rfl (n:=1) aa3 oI (Bf rfl (n:=1) aa3 oI (Bf rfl (n:=1) aa3 oI FH))))))).to
  (fun p=>(⟨p.1,p.2.1,p.2.2.1,p.2.2.2.1,p.2.2.2.2.1,p.2.2.2.2.2.1⟩:Nf)) (fun _ h=>⟨rfl,h.2.1⟩)
theorem oNfs:Op enc w 56 (fun l:List Nf=>[sl AG l]) (fun l=>l.length<=NB/\∀i∈l,i.path.size<=NB):=
 GV bulk_ok Tryz.underlying56 (m:=5) aa3 (fun _=>rfl) oNf
theorem oSk:Op enc w 151 AN (fun y=>y.path.size<=NB):=
 (Eu bulk_ok Tryz.underlying151 (L:=3) aa3 (Bf rfl (n:=1) aa3 oS (Bf rfl (n:=1) aa3 oI (Bf rfl (n:=1) aa3 oI FH)))).to
  (fun p=>(⟨p.1,p.2.1,p.2.2.1⟩:Sk)) (fun _ h=>⟨rfl,h.1⟩)
theorem oSks:Op enc w 57 (fun l:List Sk=>[sl AN l]) (fun l=>l.length<=NB/\∀y∈l,y.path.size<=NB):=
 GV bulk_ok Tryz.underlying57 (m:=2) aa3 (fun _=>rfl) oSk
abbrev OkAn(a:An):Prop:=a.sel.length<=NB/\a.infs.length<=NB/\a.skips.length<=NB
theorem oAn:Op enc w 59 EM OkAn:=
 (Eu bulk_ok Tryz.underlying59 (L:=4) aa3 (Bf rfl (n:=1) aa3 oB (Bf rfl (n:=1) aa3 oSls (Bf rfl (n:=1) aa3 oNfs
  (Bf rfl (n:=1) aa3 oSks FH))))).to
  (fun p=>(⟨p.1,p.2.1,p.2.2.1,p.2.2.2.1⟩:An)) (fun _ h=>⟨rfl,h.2.1.1,h.2.2.1.1,h.2.2.2.1.1⟩)
theorem few_of{n:Nat}(h:n<=NB):n<=1073741824:=Bl h aa2
theorem lim_of{x:List Rl}{roots:List Rq}(h:x.length<=NB/\∀r∈x,OkRl r)(k:OkRqs roots):nU x roots where
 ix:=few_of h.1
 rs:=few_of k.1
 rel r hr:=⟨few_of (h.2 r hr).2.1,few_of (h.2 r hr).1,fun q hq=>⟨few_of ((h.2 r hr).2.2 q hq).2,few_of ((h.2 r hr).2.2 q hq).1⟩⟩
 rq q hq:=⟨few_of (k.2 q hq).2,few_of (k.2 q hq).1⟩
end
theorem ok_agg{P:Program}{W:World}{base:Nat}{t:TypeId}{v:Value}{fs:Array Field}(hu:P.underlying t=some (.struct fs))(h:Value.okWide P W .any base t v):∃cs,v=.agg cs:=by
 unfold Value.okWide at h
 rw[hu]at h
 obtain⟨cs,e,_⟩:=h
 exact⟨cs,e⟩
theorem ok_slice{P:Program}{W:World}{base:Nat}{t e:TypeId}{v:Value}(hu:P.underlying t=some (.slice e))(h:Value.okWide P W .any base t v):v.oneCell'=true:=by
 unfold Value.okWide at h
 rw[hu]at h
 unfold Cell.okWide Cell.ok at h
 rw[hu]at h
 cases v<;>first | rfl | simp at h
theorem ok_int{P:Program}{W:World}{base:Nat}{t:TypeId}{k:IntKind}{v:Value}(hu:P.underlying t=some (.int k))(h:Value.okWide P W .any base t v):v.oneCell'=true:=by
 unfold Value.okWide at h
 rw[hu]at h
 unfold Cell.okWide Cell.ok at h
 rw[hu]at h
 cases v<;>first | rfl | simp at h
theorem int_of_shape{P:Program}{w:World}{g:Nat}{t:TypeId}{k:IntKind}{zero:Array Value}(h:w.ShapedOpen P)(hg:g<P.globals.size)
  (h0:((begin P (fun _ _=>0) default).world.heap[g]?).bind Obj.row?=some (zero,t)) (hz:zero.size=1)
  (hb:P.buildable t=true) (hc:P.cellTypes P.depth t=some [t]) (hu:P.underlying t=some (.int k)):∃p,w.cell? ⟨g,0,none⟩=some (.int k p):=by
 obtain⟨cs,hh,hs,hr⟩:=h.1 g zero t hg h0
 obtain⟨ts,hts,_,GI⟩:=hr hb
 rw[hc]at hts
 cases hts
 have h1:0<cs.size:=by omega
 obtain⟨u,lQ,Gv⟩:=GI 0 cs[0] (by simp[h1])
 have:u=t:=by simpa using lQ.symm
 subst this
 have CT:w.cell? ⟨g,0,none⟩=some cs[0]:=by simp[World.cell?,hh,h1]
 rw[CT]
 unfold Cell.ok at Gv
 rw[hu]at Gv
 cases hv:cs[0]<;>rw[hv]at Gv<;>simp at Gv
 obtain⟨rfl,_⟩:=Gv
 exact⟨_,rfl⟩
theorem maxLen_cell{W:World}(h:W.ShapedOpen Tryz.prog):∃m,W.cell? ⟨0,0,none⟩=some (.int .i64 m):=
 int_of_shape (t:=3) (zero:=#[.int .i64 0]) h (Ed aa3) aa3 rfl aa3 aa3 Tryz.underlying3
def Still(W W' : World):Prop:=W'.os=W.os/\W'.output=W.output/\W.heap.size<=W'.heap.size/\∀b,b<W.heap.size->W'.heap[b]?=W.heap[b]?
theorem run_true{f:Nat}{args:List AV}{vals:Array Value}{W:World}(hc:PC f args (vb true))(hM:∃m,W.cell? ⟨0,0,none⟩=some (.int .i64 m))(hs:vals.size=args.length)
  (hr:∀(i:Nat) (av:AV) (x:Value),args[i]?=some av->vals[i]?=some x->AY (kM W) W Fs av x):Calls Tryz.prog f vals W fun e W'=>e=.returned (.bool true)/\Still W W':=by
 refine(hc.2 (kM W) W vals hs (fun i av x q1 q2=>(hr i av x q1 q2).up _) (yf hM (fun _ h=>by cases h))).mono fun e W' ⟨v,r,h',g',e1,e2,e3,e4,_⟩=>?_
 subst e1
 obtain⟨rfl,rfl⟩:=e2
 obtain rfl:=e3.v_eq
 exact⟨rfl,e4.os,e4.output,e4.size,fun b hb=>e4.frame b hb (fun r h=>h.elim)⟩
theorem Still.kept{W W' : World}(h:Still W W')(may:MemPlace->Prop):W.keptBut W' may:=by
 refine⟨h.1,h.2.1,fun i hi=>?_⟩
 rw[h.2.2.2 i hi]
 cases hh:W.heap[i]? with
 |none=>rfl
 |some o=>cases o<;>simp
theorem Still.same{W W' : World}(h:Still W W'){p:MemPlace}(hp:p.block<W.heap.size):W.sameAt W' p:=by
 cases p with
 |cell b off=>
  show W'.cell? ⟨b,off,none⟩=W.cell? ⟨b,off,none⟩
  unfold World.cell?
  rw[h.2.2.2 b hp]
 |map b=>exact h.2.2.2 b hp
theorem kids:Kids Tryz.prog (· < Tryz.prog.types.size):=kids_rows aa3 aa3
theorem full:∀t e,t<Tryz.prog.types.size->Tryz.prog.underlying t=some (.slice e)->0<Tryz.prog.cellsOf e:=slices_full_of Tryz.prog aa3
theorem carry{H:Type}{enc:TypeId×Value->H}{W W' : World}(h:Still W W'):∀{ts:List TypeId} {vs:List Value} {ds:List (DataW H)} {ps:List MemPlace},DataW.TrodAll enc Tryz.prog W 0 (fun _=>true) true ts vs ds ps->DataW.TrodAll enc Tryz.prog W' 0 (fun _=>true) true ts vs ds ps
 | [],[],[],_,e=>e
 |t::ts,v::vs,d::ds,ps,k=>by
  have E1:=k.lt
  obtain⟨p,q,⟨n,h1⟩,h2,rfl⟩:=k
  exact⟨p,q,⟨n,DataW.trod_carry n _ _ _ h1 (fun x hx=>h.same (E1 x (Bw _ hx)))⟩,carry h h2,rfl⟩
 | [],[],_::_,_,k=>k.elim
 | [],_::_,_,_,k=>k.elim
 |_::_,[],_,_,k=>k.elim
 |_::_,_::_,[],_,k=>k.elim
theorem post_true{H:Type}{enc:TypeId×Value->H}{W W' : World}{f:Func}{s:ChangeSpec}{args:Array Value}{ds:List (DataW H)}{before:List MemPlace}(Gw:Still W W')(hv:s.vars=[])
  (hW:DataW.Whole enc Tryz.prog f.params.toList s.vars false W args.toList ds [] before) (hr:f.resultTypes=#[4]) (hT:∀t∈f.params.toList,t<Tryz.prog.types.size) (hs:s.fn H ds={ results:=[.lit (.bool true)],args:=ds }) :
  s.post enc Tryz.prog f false true false false W args (.bool true) W':=by
 have hW0:=hW
 obtain⟨p,q,hA,hV,rfl,hz,_⟩:=hW
 rw[hv]at hV
 have hq:q=[]:=hV
 subst hq
 have E1:=hW0.lt
 have vv:s.fn H (ds++[])={ results:=[.lit (.bool true)],args:=ds }:=by rw[DV];exact hs
 refine⟨ds,[],p++[],[],p,[],hW0,?_,?_,?_,Gw.kept _,fun h=>by cases h⟩
 .rw[vv,hr]
  exact⟨[],[],⟨1,by rw[show(Value.bool true).cells.toList=[.bool true]from rfl,DataW.trod_step];unfold DataW.trodStep;rw[Tryz.underlying4]⟩,rfl,rfl⟩
 .rw[vv]
  exact(carry Gw hA).respare kids full hT (fun x hx=>by simpa using E1 x (Bw _ hx))
 .rw[vv,hv];rfl
end Go.Proofs.YtkmnnpmneamgoaaGreatDoor.joins
namespace Go.Proofs.YtkmnnpmneamgoaaGreatDoor.joins
open Go Go.Eng Go.Proofs Go.ChangeShapes Go.WideShapes Go.ChangeAt Go.RowKit
theorem own:ownKnob Tryz.prog.godebug=none:=by kernel_rfl
def flatD:Nat->DataW Unit->List Value
 |0,_=>[]
 |n+1,.agg l=>l.flatMap (flatD n)
 |_+1,.lit (.int k i)=>[.int k i]
 |_+1,_=>[]
def layIn(d:DataW Unit):Obj->Obj
 |.cells _ t frozen=>.cells (flatD 4 d).toArray t frozen
 |o=>o
noncomputable def laidWorld(os:Os):World:=
 { World.holding Tryz.prog os ⟨#[],#[],[]⟩with heap:=((World.holding Tryz.prog os ⟨#[],#[],[]⟩).heap.modify 1 (layIn Rows.laid_unicode_utf8_first)).modify 2 (layIn Rows.laid_unicode_utf8_acceptRanges) }
abbrev nilV:Value:=.slice none 0 0
theorem arr2{args:Array Value}{a b:Value}(h:args.toList=[a,b]):args=#[a,b]:=by
 cases args;simp_all
theorem arr3{args:Array Value}{a b c:Value}(h:args.toList=[a,b,c]):args=#[a,b,c]:=by
 cases args;simp_all
theorem arr4{args:Array Value}{a b c d:Value}(h:args.toList=[a,b,c,d]):args=#[a,b,c,d]:=by
 cases args;simp_all
theorem arr5{args:Array Value}{a b c d e:Value}(h:args.toList=[a,b,c,d,e]):args=#[a,b,c,d,e]:=by
 cases args;simp_all
theorem looksOff:false=Tryz.pinned.checked.prog.looks []:=by kernel_rfl
theorem noStand:∀t∈([25,26,3]:List Nat),Tryz.pinned.checked.prog.wantsStandIn t=false:=by
 intro t ht
 simp only[AF,L1,or_false]at ht
 rcases ht with rfl | rfl | rfl<;>exact(show Tryz.prog.wantsStandIn _=false by kernel_rfl)
end Go.Proofs.YtkmnnpmneamgoaaGreatDoor.joins
namespace Go.Proofs
open Go.Shelf Go.RowKit Go.Lib Go.Sort
abbrev OneC:Type:={v:Value // v.oneCell'=true}
def SlA:Type:=ByteArray×OneC×OneC×OneC
instance:Inhabited SlA:=⟨⟨ByteArray.empty,⟨.bool false,rfl⟩,⟨.bool false,rfl⟩,⟨.bool false,rfl⟩⟩⟩
def encSlA(x:SlA):List Value:=[.string x.1,x.2.1.1,x.2.2.1.1,x.2.2.2.1]
def cfSlA(x y:SlA):Int:=Lib.compareBytes x.1.data.toList y.1.data.toList
abbrev CmpSlA(k:Nat):Prop:=∀(x y:SlA) (W:World),Calls Tryz.prog k #[.agg #[.string x.1,x.2.1.1,x.2.2.1.1,x.2.2.2.1],.agg #[.string y.1,y.2.1.1,y.2.2.1.1,y.2.2.2.1]] W fun e w'=>e=.returned (.int .i64 (cfSlA x y))/\∃q os',w'=grow (W.drewN q) os'
theorem Tryz.closure48:CmpSlA 48:=fun x y W=>by
 have hcon:=fun W'=>Any.strings_Compare Tryz.layCompare x.1 y.1 W';obtain⟨a,⟨b,hb⟩,⟨c,hc⟩,⟨d,hd⟩⟩:=x;obtain⟨a',⟨b',nY⟩,⟨c',zt⟩,⟨d',lx⟩⟩:=y;dsimp only at hcon
 change ∀W',Calls Tryz.prog 49 _ _ _ at hcon
 unfold cfSlA;dsimp only;generalize Lib.compareBytes a.data.toList a'.data.toList=r at hcon⊢
 go_enter Tryz.func48,Tryz.ntmps48
 go_wp2_with (go_at_call 49;refine(hcon _).mono ?_;rintro e w' ⟨rfl,rfl⟩)
 go_ret
 exact⟨rfl,0,_,by rw[alloc_eq_grow,alloc_eq_grow,grow_grow];rfl⟩
theorem Tryz.closure65:CmpSlA 65:=fun x y W=>by
 have hcon:=fun W'=>Any.strings_Compare Tryz.layCompare x.1 y.1 W';obtain⟨a,⟨b,hb⟩,⟨c,hc⟩,⟨d,hd⟩⟩:=x;obtain⟨a',⟨b',nY⟩,⟨c',zt⟩,⟨d',lx⟩⟩:=y;dsimp only at hcon
 change ∀W',Calls Tryz.prog 49 _ _ _ at hcon
 unfold cfSlA;dsimp only;generalize Lib.compareBytes a.data.toList a'.data.toList=r at hcon⊢
 go_enter Tryz.func65,Tryz.ntmps65
 go_wp2_with (go_at_call 49;refine(hcon _).mono ?_;rintro e w' ⟨rfl,rfl⟩)
 go_ret
 exact⟨rfl,0,_,by rw[alloc_eq_grow,alloc_eq_grow,grow_grow];rfl⟩
end Go.Proofs
namespace Go.Eng
open Go.Proofs Go.Shelf Go.RowKit Go.Lib Go.Sort
theorem dY(x y:SlA):ltOf cfSlA x y=Fp x.1 y.1:=T6 _ _
theorem nH:SWO (ltOf cfSlA) where
 irrefl x:=by rw[dY];exact DQ _
 trans x y z h1 h2:=by rw[dY]at *;exact E5 h1 h2
 ntrans x y z h1 h2:=by
  rw[dY]at *
  rw[A2];intro h;cases vB:Fp y.1 x.1 with
  |true=>have:=E5 vB h;rw[h2]at this;cases this
  |false=>
   have e:=JW h1 vB;rw[e]at h;rw[h2]at h;cases h
theorem s92(k:Nat)(hc:CmpSlA k)(eg:∀args w,(callFunc k args).run Tryz.prog w=.ok (.enter k args) w)(l:List Sl)(hl:BL l)(lim:Nat)(Y5:lim<100) :
  A6 Tryz.prog 92 [.msl 1000 l.length,vi 0,vi l.length,vi lim,.v (Hf k)] (Af [(1000,.arr 4 (l.map Ag))] Ae) fun r h'=>
   r=.tup []/\∃l' : List Sl,l'.Perm l/\l'.Pairwise (fun x y=>Fp y.path x.path=false)/\h'=Af [(1000,.arr 4 (l'.map Ag))] Ae:=by
 have hl:l.length<=1073741824:=hl;have hE:Gr Tryz.prog 92:=ku 92 Tryz.func92 aa3 rfl;have KI:=Jm (P:=Tryz.prog) (f:=92) (α:=SlA) (rest:=[.int .i64 0,.int .i64 l.length,.int .i64 lim,Hf k]) hE Ag encSlA (k:=4) (fun _=>rfl) (fun _=>rfl) (ltOf cfSlA) (fun x a=>a.1=x.path) l aa0 ?_ ?_ ?_
 .refine⟨hE,fun g w vals q1 q2 q3=>(KI.2 g w vals q1 q2 q3).mono fun _ _ ⟨v,r,h',g',e1,⟨e2,l',p1,⟨al,a1,a2,a3⟩,p2⟩,rest⟩=>⟨v,r,h',g',e1,⟨e2,l',p1,?_,p2⟩,rest⟩⟩;rw[Dm]at a3⊢;intro i j hi hj aC
  have:=a3 i j aa0 aa0 aC
  rw[dY]at this;have e1:=a2 i _ _ (Ge hi) (Ge aa0);have e2:=a2 j _ _ (Ge hj) (Ge aa0);rw[<-e1,<-e2];exact this
 .intro x hx g w vs hr
  match vs,hr with
  | [a,b,c,d],hr=>
   have h1:=(hr.2.2 0 (Go.Eng.vs x.path) a rfl rfl).v_eq;subst h1;exact⟨⟨x.path,⟨b,hr.2.1 b aa1⟩,⟨c,hr.2.1 c aa1⟩,⟨d,hr.2.1 d aa1⟩⟩,rfl,rfl⟩
  | [],hr=>have:=hr.1;simp at this
  | [_],hr=>have:=hr.1;simp at this
  | [_,_],hr=>have:=hr.1;simp at this
  | [_,_,_],hr=>have:=hr.1;simp at this
  |_::_::_::_::_::_,hr=>have:=hr.1;simp at this
 .intro w b cap d hH hb FG hdl;have lu:CmpLays Tryz.prog k #[] encSlA 4 cfSlA b 0 d.size w:=fun _ _ _ _ x y=>hc x y _;have hp:=AnyQ.pdqsortCmpFunc_all Tryz.layPdqSel 4 Tryz.isAgg51 Tryz.sizeOf51 encSlA cfSlA k #[] nH b 0 cap d w eg lu ⟨fun _=>rfl,fun x v hv=>by
    simp only[encSlA,AF,L1,or_false]at hv;rcases hv with rfl | rfl | rfl | rfl
    .rfl
    .exact x.2.1.2
    .exact x.2.2.1.2
    .exact x.2.2.2.2,hH,hb⟩ (d.size+1) 0 d.size lim d w aa0 rfl (SWK.start hH) (Ap _) (Ao _) FG aa0 (Or.inl rfl)
  rw[hdl]at hp⊢;refine hp.mono ?_
  rintro e w' ⟨rfl,n,os,rfl⟩
  have h:=pdq_sorts (ltOf cfSlA) nH d 0 d.size lim true true (Ap _) (Ao _) (Or.inl rfl);rw[hdl]at h;exact⟨rfl,_,n,os,h.1,h.2,rfl⟩
 .intro e w;subst e;exact AnyF.pdqsortCmpFunc_none Tryz.layPdqSel none 0 lim (Hf k) w
theorem Vt{l l' : List Sl}(h1:WQ l)(h2:WQ l')(hm:∀y,y∈l↔y∈l'):l=l':=by
 induction l generalizing l' with
 |nil=>
  cases l' with
  |nil=>rfl
  |cons y l'=>have:=(hm y).2 (Ah ..);cases this
 |cons x l ih=>
  cases l' with
  |nil=>have:=(hm x).1 (Ah ..);cases this
  |cons y l'=>
   obtain⟨a1,a2⟩:=Dn.1 h1;obtain⟨b1,b2⟩:=Dn.1 h2;have e:x=y:=by
    rcases AF.1 ((hm x).1 (Ah ..))with e | e
    .exact e
    .rcases AF.1 ((hm y).2 (Ah ..))with e2 | e2
     .exact e2.symm
     .have c1:=b1 x e;have c2:=a1 y e2
      have:=E5 c1 c2
      rw[DQ]at this;cases this
   subst e
   congr 1
   refine ih a2 b2 fun z=>⟨fun hz=>?_,fun hz=>?_⟩
   .rcases AF.1 ((hm z).1 (Ai _ hz))with e | e
    .subst e
     have:=a1 z hz
     rw[DQ]at this;cases this
    .exact e
   .rcases AF.1 ((hm z).2 (Ai _ hz))with e | e
    .subst e
     have:=b1 z hz
     rw[DQ]at this;cases this
    .exact e
theorem nE{l l' : List Sl}(hn:(l.map (·.path)).Nodup)(hp:l'.Perm l)(hs:l'.Pairwise fun x y=>Fp y.path x.path=false):l'=C3 l:=by
 refine Vt ?_ (QT hn) fun y=>by rw[hp.mem_iff,Gp]
 have bM : (l'.map (·.path)).Nodup:=(hp.map (·.path)).nodup_iff.2 hn;show l'.Pairwise _;rw[Dm]at hs⊢;intro i j hi hj aC;cases hb:Fp l'[i].path l'[j].path with
 |true=>rfl
 |false=>
  have e:=JW hb (hs i j hi hj aC)
  have:=(Dm.1 bM) i j (by simpa using hi) (by simpa using hj) aC
  simp at this;exact absurd e this
theorem s47(k:Nat)(hc:CmpSlA k)(eg:∀args w,(callFunc k args).run Tryz.prog w=.ok (.enter k args) w)(l:List Sl)(hl:BL l)(hn:(l.map (·.path)).Nodup) :
  A6 Tryz.prog 47 [.msl 1000 l.length,.v (Hf k)] (Af [(1000,.arr 4 (l.map Ag))] Ae) fun r h'=>
   r=.tup []/\h'=Af [(1000,.arr 4 ((C3 l).map Ag))] Ae:=by
 obtain⟨lim,Y5,hb⟩:=su l.length hl;refine Bi (IB De) [(1000,1000)] rfl Bz hm rfl Tryz.func47 aa3 rfl (Nz rfl) aa3 rfl (Xi .pure (Xi _ (Yi (hb) (Xi (.gen [(1000,1000)] 0) (Yi rfl ((s92 k hc eg l hl lim Y5).imp ?_))))));intro r h' hq;refine Al hq.2 (fun l' RT=>?_);have e:=nE hn RT.1 RT.2.1;refine Xi (.tup []) (Yi ?_ (Yi rfl ?_))
 .exact .refl _
 .rw[RT.2.2,e];rfl
end Go.Eng
namespace Go.Eng
open Go.Proofs
abbrev yy(n:Nat):Md:=⟨[],[],[(2,n),(5,n)],[],[],[],[5],[],[],[],[2,3]⟩
theorem y0(l:List Sl)(hl:BL l):A6 Tryz.prog 46 [sl Ag l] (Af [] Ae) fun r h'=>r=.msl 2000 l.length/\h'=Af [(2000,.arr 4 (l.map Ag))] Ae:=by
 refine Bi (IB (yy 4)) [(2,2000)] rfl Bz hm rfl Tryz.func46 aa3 rfl (Nz rfl) aa3 rfl ?_;have CO:A7 4 (l.map Ag)/\([]:List (List AV)).length=0/\(([]:List (List AV)).length+(l.map Ag).length)*40<=140737488355328/\([]:List (List AV)).length+(l.map Ag).length<=9223372036854775807:=by
  refine⟨Cn (enc:=Ag) (n:=4) (fun _=>rfl) l,rfl,?_,?_⟩<;>simp only[BX,Lm]<;>unfold BL at hl<;>omega
 have e1:AV.msl 2000 (([]:List (List AV)).length+(l.map Ag).length)=.msl 2000 l.length:=by simp
 refine Xi 0 (Xi 0 (Yi ?_ ?_))
 .intro _;refine cU [(0,sl Ag l)] [] Z1 Tv (Xi 2 (Yi CO ?_));exact Xi _ (Yi (.refl _) (Yi e1 rfl))
 .intro h;have h:l.map Ag=[]:=h;refine Yi ?_ ?_
  .refine Xi ⟨[],[],Ae⟩ (Yi ⟨trivial,trivial,fun _=>.inl rfl,Bg aa3⟩ ?_);refine Xi 2 ?_;exact Xi _ (Yi (.refl _) (Yi (show AV.msl 2000 0=_ by rw[FQ.1 h];rfl) (show Af [(2000,HO.arr 4 [])] Ae=_ by rw[h])))
  .refine cU [(0,sl Ag l)] [] Z1 Tv (Xi 2 (Yi CO ?_));exact Xi _ (Yi (.refl _) (Yi e1 rfl))
end Go.Eng
