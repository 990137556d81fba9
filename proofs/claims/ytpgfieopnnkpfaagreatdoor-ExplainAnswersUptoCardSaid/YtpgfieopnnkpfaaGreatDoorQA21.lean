/- Lemmas 21. -/
import Derived.Test.YtpgfieopnnkpfaaGreatDoorQA20
import Derived.Test.YtpgfieopnnkpfaaGreatDoorQA03
import Derived.Test.YtpgfieopnnkpfaaGreatDoorCards
import Derived.Test.YtpgfieopnnkpfaaGreatDoorTie
import Derived.ProofKit
import Derived.OpenShut
import Derived.Deep.DeepHandedRow
import Derived.Lib.LaidTab
import Derived.Stop.LaidErr
import Derived.Shelf.Strconv.Itoa3
import Derived.Room.Shelf.Join48
import Derived.Shelf.Strings.Prefix
import Derived.Ground.NamesProg
import Derived.Lib.AppendIntMem
namespace Go.Eng
open Go.Proofs
variable {d:List ByteArray}{p:ByteArray}{l:List Rl}{roots:List Rq}
def Mb(d:List ByteArray):List Rl->Nat
 | []=>0
 |r::l=>(if d.any (fun p=>decide (p=r.path))then 0 else r.reqs.length)+Mb d l
theorem cX(d:List ByteArray)(p:ByteArray):∀l:List Rl,Mb (d++[p]) l<=Mb d l
 | []=>Aq _
 |r::l=>by
  have ih:=cX d p l
  grind [Mb]
theorem PT(d:List ByteArray)(p:ByteArray)(hp:d.any (fun q=>decide (q=p))=false):∀l:List Rl,Mb (d++[p]) l+(EL l p).length<=Mb d l
 | []=>by simp[Mb,EL]
 |r::l=>by
  by_cases hr:r.path=p
  .grind [EL,Mb,cX]
  .have e:EL (r::l) p=EL l p:=by grind [EL]
   rw[e];have ih:=PT d p hp l
   grind [Mb]
theorem Ti:∀l:List Rl,Mb [] l=(l.map fun r=>r.reqs.length).foldl (·+·) 0
 |l=>by
  have gen:∀(l:List Rl) (a:Nat),(l.map fun r=>r.reqs.length).foldl (·+·) a=a+Mb [] l:=fun l=>by
   induction l<;>grind [Mb]
  simp_all
structure NI(l:List Rl)(roots:List Rq)(d:List ByteArray)(t:List Rq)(n:Nat):Prop where
 need:ER l (GW l roots) roots []=ER l n t d
 pot:t.length+Mb d l+1<=n
section
variable {l:List Rl}{roots t:List Rq}{d:List ByteArray}{n:Nat}
theorem NI.start(l:List Rl)(roots:List Rq):NI l roots [] roots (GW l roots):=⟨rfl,by grind [Ti,GW]⟩
theorem NI.stop(h:NI l roots d [] n):ER l (GW l roots) roots []=d:=by
 rw[h.need];cases n<;>rfl
theorem NI.old{q:Rq}(h:NI l roots d (q::t) (n+1))(hq:d.any (fun p=>decide (p=q.path))=true):NI l roots d t n:=
 ⟨by rw[h.need];show(if _ then _ else _)=_;simp_all,by have:=h.pot;grind⟩
theorem NI.new{q:Rq}(h:NI l roots d (q::t) (n+1))(hq:d.any (fun p=>decide (p=q.path))=false):NI l roots (d++[q.path]) (t++EL l q.path) n:=
 ⟨by rw[h.need];show(if _ then _ else _)=_;grind,by
  have:=h.pot
  have:=PT d q.path hq l
  grind⟩
end
abbrev U2(p:ByteArray):Value×AV:=(.string p,vb true)
theorem Rg{a:AV}(h:(Value.string p,a)∈d.map U2):p∈d/\a=vb true:=by
 grind
theorem IH:(d.any fun q=>decide (q=p))=true↔p∈d:=ig
theorem qd(hn:(l.map (·.path)).Nodup){i:Nat}(hi:i<l.length):FI ((l.take i).map LY) (.string l[i].path) (.agg (Ak l[i]))=(l.take (i+1)).map LY:=by
 rw[L3]
 .rw[B9,Ge hi,AB];rfl
 intro a ha;obtain⟨r,hr,he,_⟩:=Rh ha;obtain⟨j,hj,e2⟩:=List.mem_iff_getElem.1 hr;rw[AC]at hj;rw[List.getElem_take]at e2
 have:=(List.getElem_inj (xs:=l.map (·.path)) (i:=j) (j:=i) (h₀:=by grind) (h₁:=by simp_all) hn).1 (by simp_all)
 omega
theorem Vo{x:List Rl}{s:List Sl}(hi:Bb s=true)(h:Fy x s=some l):(l.map (·.path)).Nodup:=by
 have e:=(Gj h).1
 have:l.map (·.path)=s.map (·.path):=by rw[<-e,Cf];rfl
 rw[this];have hp:=(Jb hi).1
 grind [FF]
abbrev oK:Nm:=⟨[],[(72,2)],[],[(47,[35,10])],[],[],[72],[],[],[],[2,4,5,7,8,10,11,13,14,16,17,20,22,23,24,25,26,27,30]⟩
theorem c45(x:List Rl)(ifs:List (List AV))(roots:List Rq)(s:List Sl)(Pe:bK x ifs)(hx:∀r∈x,F3 r)(hr:roots.length<=1000000)(UQ:∀q∈roots,BB q.set)(hs:s.length<=1000000):wy x ifs roots s:=by
 have Xh:BB s:=by omega
 have pM:BB roots:=by omega
 obtain⟨D,hD⟩:∃D,D=CO x roots s:=⟨_,rfl⟩;unfold wy;rw[<-hD];unfold CO at hD
 by_cases h0:AD x=0
 .have Pe:PC 138 [Jx x ifs] (.tup [.agg [.cmap N2 (x.map NH),.cmap Fl ((Bx x []).map (fu x))],vi 0]):=by
   grind
  rw[Aw aa0]at hD;have Yk:=c85 x s ((Bx x []).map (fu x)) h0 Xh;unfold gq at Yk;cases hi:Bb s with
  |false=>
   rw[AE hi]at Yk;rw[AE (by simp_all)]at hD;refine Ps oK Tryz.func83 rfl (Nz rfl) (Xi 0 (Xi 0 (yN (Xi .pure (Xi _ (Yi (Pe) (yN (cU [(1,sl Ad roots),(2,sl Ae s),(7,.ref 7 0),(8,vi 0)] [(7,.cells [.cmap N2 (x.map NH),.cmap Fl ((Bx x []).map (fu x))])] Z4 Z1 (Xi 0 (Yi ?_ ?_))))))))))
   .intro h;exact absurd rfl h
   intro _;refine cU [(1,sl Ad roots),(2,sl Ae s),(7,.ref 7 0)] [(7,.cells [.cmap N2 (x.map NH),.cmap Fl ((Bx x []).map (fu x))])] Z3 Z1 (Xi 0 (yN (Xi .pure (Xi _ (Yi (Yk) (cU [(8,vi 1)] [] Z1 Tv (Xi 0 (Yi ?_ ?_))))))))
   .intro _;refine Xi 0 ?_;exact .of_eq (Aa vi hD.symm)
   .intro h;exact absurd (show(1:Int)≠0 by decide) h
  |true=>
   rw[Aw (by simp_all)]at Yk;rw[Aw (by simp_all)]at hD;cases hsel:Fy x s with
   |none=>
    rw[hsel]at Yk hD;refine Ps oK Tryz.func83 rfl (Nz rfl) (Xi 0 (Xi 0 (yN (Xi .pure (Xi _ (Yi (Pe) (yN (cU [(1,sl Ad roots),(2,sl Ae s),(7,.ref 7 0),(8,vi 0)] [(7,.cells [.cmap N2 (x.map NH),.cmap Fl ((Bx x []).map (fu x))])] Z4 Z1 (Xi 0 (Yi ?_ ?_))))))))))
    .intro h;exact absurd rfl h
    intro _;refine cU [(1,sl Ad roots),(2,sl Ae s),(7,.ref 7 0)] [(7,.cells [.cmap N2 (x.map NH),.cmap Fl ((Bx x []).map (fu x))])] Z3 Z1 (Xi 0 (yN (Xi .pure (Xi _ (Yi (Yk) (cU [(8,vi 6)] [] Z1 Tv (Xi 0 (Yi ?_ ?_))))))))
    .intro _;refine Xi 0 ?_;exact .of_eq (Aa vi hD.symm)
    .intro h;exact absurd (show(6:Int)≠0 by decide) h
   |some l=>
    rw[hsel]at Yk hD;have l7:=Vo hi hsel;have hll:l.length=s.length:=by rw[<-(Gj hsel).1,Lm]
    have hlx:∀r∈l,r∈x:=fun r hr=>(Cs ((Gj hsel).2.1 r hr)).2.1;have hlq:∀r∈l,r.reqs.length<=16:=fun r hr=>(Fs h0).2 r (hlx r hr);have uR:∀q:Rq,BB q.set->PC 140 ([.agg (Ad q)]++[.cptr [.cmap Fl (l.map LY)]]) (vb (B4 l q)):=fun q hq=>c86 l l7 q hq;have IC:DZ [.cptr [.cmap Fl (l.map LY)]]:=fun c hc=>by
     obtain rfl:=A9.1 hc;intro h;rfl
    have hD:D=if l.any (fun r=>r.reqs.any (B4 l))then 17 else if roots.any (B4 l)then 17 else if(ER l (GW l roots) roots []).length<l.length then 8 else 0:=hD
    refine Ps oK Tryz.func83 rfl (Nz rfl) (Xi 0 (Xi 0 (yN (Xi .pure (Xi _ (Yi (Pe) (yN (cU [(1,sl Ad roots),(2,sl Ae s),(7,.ref 7 0),(8,vi 0)] [(7,.cells [.cmap N2 (x.map NH),.cmap Fl ((Bx x []).map (fu x))])] Z4 Z1 (Xi 0 (Yi ?_ ?_))))))))))
    .intro h;exact absurd rfl h
    intro _;refine cU [(1,sl Ad roots),(2,sl Ae s),(7,.ref 7 0)] [(7,.cells [.cmap N2 (x.map NH),.cmap Fl ((Bx x []).map (fu x))])] Z3 Z1 (Xi 0 (yN (Xi .pure (Xi _ (Yi (Yk) (cU [(1,sl Ad roots),(8,vi 0),(9,sl Ak l)] [] Z3 Tv (Xi 0 (Yi ?_ ?_))))))))
    .intro h;exact absurd rfl h
    intro _;refine cU [(1,sl Ad roots),(9,sl Ak l)] [] Z2 Tv (Xi 0 (yN (cU [(1,sl Ad roots),(9,sl Ak l),(10,.ref 10 0)] [(10,.cells [.mref 35]),(35,.map Fl [])] Z3 Z2 (Xi 0 (Xi {i:Nat // i<=l.length} (Xi (fun i=>⟨[(1,sl Ad roots),(9,sl Ak l),(10,.ref 10 0),(36,sl Ak l),(37,vi (l.map Ak).length),(38,vi i.1)],[(10,.cells [.mref 35]),(35,.map Fl ((l.take i.1).map LY))],Af⟩) (Xi (fun i=>l.length-i.1) (Yi (Xi ⟨0,Ao _⟩ ?_) ?_))))))))
    .exact⟨Z6,Z2,Fh,Tv⟩
    intro⟨i,i1⟩;have i1:i<=l.length:=i1;refine Xi 0 (Yi ?_ ?_)
    .intro h;have h:(i:Int)<(l.map Ak).length:=h;have h:i<l.length:=by simp_all
     have hg:l[i]?=some l[i]:=Ge h;refine cU [(1,sl Ad roots),(9,sl Ak l),(10,.ref 10 0),(36,sl Ak l),(37,vi (l.map Ak).length),(38,vi i)] [(10,.cells [.mref 35]),(35,.map Fl ((l.take i).map LY))] Z6 Z2 (Xi 0 (Xi (Ak l[i]) (Yi (Yi aa0 (by simp_all)) (Yi rfl ?_))));refine Yi (Nz rfl) (yN (cU [(1,sl Ad roots),(9,sl Ak l),(10,.ref 10 0),(36,sl Ak l),(37,vi (l.map Ak).length),(12,.ref 12 0),(38,vi i)] [(12,.cells (Ak l[i])),(10,.cells [.mref 35]),(35,.map Fl ((l.take i).map LY))] Z7 Z3 (Xi 0 (yN ?_))));have e35:=qd l7 h;refine Xi 0 (Yi (Ii i aa0) (Xi ⟨i+1,by omega⟩ ?_));exact⟨by grind,Z6,⟨Zr,⟨Aa (HO.map Fl) e35,rfl⟩,Tv⟩,Fh,Tv⟩
    intro h;have h:¬(i:Int)<(l.map Ak).length:=h;have h:¬i<l.length:=by simp_all
    have et:(l.take i).map LY=l.map LY:=by grind
    refine cU [(1,sl Ad roots),(9,sl Ak l),(10,.ref 10 0)] [(10,.cells [.mref 35]),(35,.map Fl (l.map LY))] Z3 ⟨Zr,⟨Aa (HO.map Fl) et,rfl⟩,Tv⟩ (Xi 0 (cU [(1,sl Ad roots),(9,sl Ak l),(10,.ref 10 0),(13,.clo 140 [.cptr [.cmap Fl (l.map LY)]])] [(10,.ro [.cmap Fl (l.map LY)])] Z4 Z1 (Xi 0 (Xi {i:Nat // i<=l.length/\∀j (hj:j<l.length),j<i->l[j].reqs.any (B4 l)=false} (Xi (fun i=>⟨[(1,sl Ad roots),(9,sl Ak l),(10,.ref 10 0),(13,.clo 140 [.cptr [.cmap Fl (l.map LY)]]),(48,sl Ak l),(49,vi (l.map Ak).length),(50,vi i.1)],[(10,.ro [.cmap Fl (l.map LY)])],Af⟩) (Xi (fun i=>l.length-i.1) (Yi (Xi ⟨0,Ao _,fun j _ hj=>absurd hj (Nat.not_lt_zero j)⟩ ?_) ?_)))))))
    .exact⟨Z7,Z1,Fh,Tv⟩
    intro⟨i,i1,i2⟩;have i1:i<=l.length:=i1;refine Xi 0 (Yi ?_ ?_)
    .intro h;have h:(i:Int)<(l.map Ak).length:=h;have h:i<l.length:=by omega
     have hg:l[i]?=some l[i]:=Ge h;have OD:PC 143 [sl Ad l[i].reqs,.clo 140 [.cptr [.cmap Fl (l.map LY)]]] (vb (l[i].reqs.any (B4 l))):=yI IC l[i].reqs (B4 l) (fun q hq=>uR q ((hx _ (hlx _ (Ah h))).2 q hq).1) (by grind);refine cU [(1,sl Ad roots),(9,sl Ak l),(10,.ref 10 0),(13,.clo 140 [.cptr [.cmap Fl (l.map LY)]]),(48,sl Ak l),(49,vi (l.map Ak).length),(50,vi i)] [(10,.ro [.cmap Fl (l.map LY)])] Z7 Z1 (Xi 0 (Xi (Ak l[i]) (Yi (Yi aa0 (by simp_all)) (Yi rfl ?_))));refine Yi (Nz rfl) (yN (cU [(1,sl Ad roots),(9,sl Ak l),(10,.ref 10 0),(13,.clo 140 [.cptr [.cmap Fl (l.map LY)]]),(48,sl Ak l),(49,vi (l.map Ak).length),(15,.ref 15 0),(50,vi i)] [(10,.ro [.cmap Fl (l.map LY)]),(15,.cells (Ak l[i]))] Z8 Z2 (Xi 0 (AG (Bt (l[i].reqs.any (B4 l))) (fun hb=>?_) (fun hb=>?_)))))
     .rw[hb]at OD;refine Xi .pure (Xi _ (Yi (OD) (Xi 0 ?_)));have ha:l.any (fun r=>r.reqs.any (B4 l))=true:=BQ.2 ⟨l[i],Ah h,hb⟩;exact .of_eq (Aa vi (show(17:Int)=D by simp_all))
     .rw[hb]at OD;refine Xi .pure (Xi _ (Yi (OD) (Xi 0 (Yi (by grind [Al]) (Xi ⟨i+1,by omega,fun j hj He=>?_⟩ ?_)))))
      .grind
      exact⟨by grind,Z7,Z1,Fh,Tv⟩
    intro h;have h:¬(i:Int)<(l.map Ak).length:=h;have h:¬i<l.length:=by simp_all
    have ha:l.any (fun r=>r.reqs.any (B4 l))=false:=by
     grind [List.mem_iff_getElem]
    have hD:D=if roots.any (B4 l)then 17 else if(ER l (GW l roots) roots []).length<l.length then 8 else 0:=by simp_all
    have OD:PC 143 [sl Ad roots,.clo 140 [.cptr [.cmap Fl (l.map LY)]]] (vb (roots.any (B4 l))):=yI IC roots (B4 l) (fun q hq=>uR q (UQ q hq)) pM;refine cU [(1,sl Ad roots),(9,sl Ak l),(10,.ref 10 0),(13,.clo 140 [.cptr [.cmap Fl (l.map LY)]])] [(10,.ro [.cmap Fl (l.map LY)])] Z4 Z1 (Xi 0 (AG (Bt (roots.any (B4 l))) (fun hb=>?_) (fun hb=>?_)))
    .rw[hb]at OD;refine Xi .pure (Xi _ (Yi (OD) (Xi 0 ?_)));exact .of_eq (Aa vi (show(17:Int)=D by simp_all))
    rw[hb]at OD;have hD:D=if(ER l (GW l roots) roots []).length<l.length then 8 else 0:=by simp_all
    refine Xi .pure (Xi _ (Yi (OD) (cU [(1,sl Ad roots),(9,sl Ak l),(10,.ref 10 0)] [(10,.ro [.cmap Fl (l.map LY)])] Z3 Z1 (Xi 0 (cU [(1,sl Ad roots),(9,sl Ak l),(10,.ref 10 0),(16,.mref 62)] [(10,.ro [.cmap Fl (l.map LY)]),(62,.map Fl [])] Z4 Z2 (Xi 0 (Xi (.gen [] 1) (Yi rfl ((qx roots pM).imp ?_)))))))));intro v g q;have q1:=q.1;have q2:=q.2;subst q1;subst q2
    clear q
    have Acp:Mb [] l<=16*l.length:=by
     have gen:∀l:List Rl,(∀r∈l,r.reqs.length<=16)->Mb [] l<=16*l.length:=fun l=>by
      induction l with
      |nil=>intro _;exact Aq _
      |cons r l ih=>
       grind [Mb]
     grind
    have hfu:GW l roots<=roots.length+16*l.length+1:=by grind [GW,Ti]
    refine Xi {p:List ByteArray×List Rq×Nat×Bool // NI l roots p.1 p.2.1 p.2.2.1/\p.2.2.1<=GW l roots} (Xi (fun p=>⟨[(9,sl Ak l),(10,.ref 10 0),(16,.mref 62),(17,.slice (.id (bif p.1.2.2.2 then 16400 else 201) 2) (p.1.2.1.map Ad))],[(10,.ro [.cmap Fl (l.map LY)]),(62,.map Fl (p.1.1.map U2)),(16400,bif p.1.2.2.2 then .tok 2 (p.1.2.1.map Ad).length else .free),(201,bif p.1.2.2.2 then .free else .tok 2 (p.1.2.1.map Ad).length)],Af⟩) (Xi (fun p=>p.1.2.2.1) (Yi (Xi ⟨([],roots,GW l roots,true),NI.start l roots,Aq _⟩ ?_) ?_)))
    .exact⟨Z4,Z4,Fh,Tv⟩
    intro⟨⟨d,t,n,b⟩,ni,nf⟩;have ni:NI l roots d t n:=ni;have nf:n<=GW l roots:=nf;refine AG (Bt b) (fun eb=>?_) (fun eb=>?_)
    .refine cU [(9,sl Ak l),(10,.ref 10 0),(16,.mref 62),(17,.slice (.id 16400 2) (t.map Ad))] [(10,.ro [.cmap Fl (l.map LY)]),(62,.map Fl (d.map U2)),(16400,.tok 2 (t.map Ad).length)] ⟨Zr,Zr,Zr,⟨by show AV.slice (.id (bif b then 16400 else 201) 2) (t.map Ad)=_;simp_all,rfl⟩,Tv⟩ ⟨Zr,Zr,⟨by show(bif b then HO.tok 2 (t.map Ad).length else HO.free)=_;simp_all,rfl⟩,Tv⟩ ?_
     refine Xi 0 (Yi ?_ ?_)
     .intro h;have h:(0:Int)<(t.map Ad).length:=h;refine Am (show ∃q t',t=q::t' by cases t<;>simp_all) (fun q hq=>?_)
      refine Am hq (fun t' hq=>?_);refine Am (show ∃m,n=m+1 from⟨n-1,by have:=ni.pot;omega⟩) (fun m rc=>?_);have ni:NI l roots d (q::t') (m+1):=hq▸rc▸ni;have Aa7:=ni.pot;have nR:(t.map Ad)[(0:Int).toNat]?=some (Ad q):=by simp_all
      refine cU [(9,sl Ak l),(10,.ref 10 0),(16,.mref 62),(17,.slice (.id 16400 2) (t.map Ad))] [(10,.ro [.cmap Fl (l.map LY)]),(62,.map Fl (d.map U2)),(16400,.tok 2 (t.map Ad).length)] Z4 Z3 (Xi 0 (Xi (Ad q) (Yi (Yi aa2 nR) (Yi rfl (Yi (Nz rfl) (yN (cU [(9,sl Ak l),(10,.ref 10 0),(16,.mref 62),(17,.slice (.id 16400 2) (t.map Ad)),(18,.ref 18 0)] [(10,.ro [.cmap Fl (l.map LY)]),(62,.map Fl (d.map U2)),(16400,.tok 2 (t.map Ad).length),(18,.cells (Ad q))] Z5 Z4 (Xi 201 ?_))))))));have ma:1<=(t.map Ad).length:=by omega
      refine Yi (Yi rfl (Yi aa2 aa0)) ?_;have ed:(t.map Ad).drop (1:Int).toNat=t'.map Ad:=by simp_all
      refine cU [(9,sl Ak l),(10,.ref 10 0),(16,.mref 62),(17,.slice (.id 201 2) (t'.map Ad)),(18,.ref 18 0)] [(10,.ro [.cmap Fl (l.map LY)]),(62,.map Fl (d.map U2)),(201,.tok 2 (t'.map Ad).length),(18,.cells (Ad q))] ⟨Zr,Zr,Zr,⟨Aa (AV.slice (.id 201 2)) ed,rfl⟩,Zr,Tv⟩ ⟨Zr,Zr,⟨Aa (fun e:List (List AV)=>HO.tok 2 e.length) ed,rfl⟩,Zr,Tv⟩ (Xi 0 (Yi ?_ ?_))
      .intro a ha;refine Am (show ∃u,u=()from⟨(),rfl⟩) (fun _ _=>?_);have e:=(Rg ha).2;subst e;have ho:=IH.2 (Rg ha).1;have bi:=ni.old ho;refine Xi ⟨(d,t',m,false),bi,by grind⟩ ?_;exact⟨by simp_all,Z4,Z4,Fh,Tv⟩
      intro SA;have ho:d.any (fun p=>decide (p=q.path))=false:=by
       rw[DQ];intro hc;exact SA (vb true) (Ay.2 ⟨q.path,IH.1 hc,rfl⟩)
      have bi:=ni.new ho;have Ym:=bi.pot;refine Xi 0 ?_;have t8:FI (d.map U2) (.string q.path) (vb true)=(d++[q.path]).map U2:=by rw[L3 SA,AB];rfl
      refine Xi 0 (Yi ?_ ?_)
      .intro a ha;refine Am (Rh ha) (fun r Xg=>?_);have e:=Xg.2.2;subst e;have l8:EL l q.path=r.reqs:=by
        unfold EL;rw[<-Xg.2.1,Hb l7 Xg.1]
       rw[l8]at bi Ym;have GH:=hlq r Xg.1;have CM:AZ 2 (r.reqs.map Ad)/\(t'.map Ad).length=(t'.map Ad).length/\((t'.map Ad).length+(r.reqs.map Ad).length)*40<=140737488355328/\(t'.map Ad).length+(r.reqs.map Ad).length<=9223372036854775807:=
        ⟨CE (enc:=Ad) (n:=2) (fun _=>rfl) r.reqs,rfl,by grind,by grind⟩
       refine Yi CM ?_;have m0:AV.slice (.id 201 2) (t'.map Ad++r.reqs.map Ad)=.slice (.id 201 2) ((t'++r.reqs).map Ad):=by simp_all
       have rR:HO.tok 2 ((t'.map Ad).length+(r.reqs.map Ad).length)=.tok 2 ((t'++r.reqs).map Ad).length:=by simp_all
       refine Xi ⟨(d++[q.path],t'++r.reqs,m,false),bi,by grind⟩ ?_;exact⟨by simp_all,⟨Zr,Zr,Zr,⟨m0,rfl⟩,Tv⟩,⟨Zr,⟨Aa (HO.map Fl) t8,rfl⟩,Zr,⟨rR,rfl⟩,Tv⟩,Fh,Tv⟩
      intro hnb;have l8:EL l q.path=[]:=by
       unfold EL
       grind
      rw[l8]at bi Ym;have CM:AZ 2 []/\(t'.map Ad).length=(t'.map Ad).length/\((t'.map Ad).length+([]:List (List AV)).length)*40<=140737488355328/\(t'.map Ad).length+([]:List (List AV)).length<=9223372036854775807:=
       ⟨trivial,rfl,by grind,by grind⟩
      refine Yi CM ?_;have m0:AV.slice (.id 201 2) (t'.map Ad++[])=.slice (.id 201 2) ((t'++[]).map Ad):=by simp_all
      have rR:HO.tok 2 ((t'.map Ad).length+([]:List (List AV)).length)=.tok 2 ((t'++[]).map Ad).length:=by simp_all
      refine Xi ⟨(d++[q.path],t'++[],m,false),bi,by grind⟩ ?_;exact⟨by simp_all,⟨Zr,Zr,Zr,⟨m0,rfl⟩,Tv⟩,⟨Zr,⟨Aa (HO.map Fl) t8,rfl⟩,Zr,⟨rR,rfl⟩,Tv⟩,Fh,Tv⟩
     intro h;have h:¬(0:Int)<(t.map Ad).length:=h;have ht0:t=[]:=by
      simp_all
     have z6:ER l (GW l roots) roots []=d:=(ht0▸ni).stop;have hD:D=if d.length<l.length then 8 else 0:=by simp_all
     refine cU [(9,sl Ak l),(16,.mref 62)] [(62,.map Fl (d.map U2))] Z2 Z1 (Xi 0 (Yi ?_ ?_))
     .intro h;have h:((d.map U2).length:Int)<((l.map Ak).length:Int):=h;have h:d.length<l.length:=by simp_all
      refine Xi 0 ?_;exact .of_eq (Aa vi (show(8:Int)=D by omega))
     .intro h;have h:¬((d.map U2).length:Int)<((l.map Ak).length:Int):=h;have h:¬d.length<l.length:=by simp_all
      refine Xi 0 ?_;exact .of_eq (Aa vi (show(0:Int)=D by omega))
    .refine cU [(9,sl Ak l),(10,.ref 10 0),(16,.mref 62),(17,.slice (.id 201 2) (t.map Ad))] [(10,.ro [.cmap Fl (l.map LY)]),(62,.map Fl (d.map U2)),(201,.tok 2 (t.map Ad).length)] ⟨Zr,Zr,Zr,⟨by show AV.slice (.id (bif b then 16400 else 201) 2) (t.map Ad)=_;simp_all,rfl⟩,Tv⟩ ⟨Zr,Zr,⟨by show(bif b then HO.free else HO.tok 2 (t.map Ad).length)=_;simp_all,rfl⟩,Tv⟩ ?_
     refine Xi 0 (Yi ?_ ?_)
     .intro h;have h:(0:Int)<(t.map Ad).length:=h;refine Am (show ∃q t',t=q::t' by cases t<;>simp_all) (fun q hq=>?_)
      refine Am hq (fun t' hq=>?_);refine Am (show ∃m,n=m+1 from⟨n-1,by have:=ni.pot;omega⟩) (fun m rc=>?_);have ni:NI l roots d (q::t') (m+1):=hq▸rc▸ni;have Aa7:=ni.pot;have nR:(t.map Ad)[(0:Int).toNat]?=some (Ad q):=by simp_all
      refine cU [(9,sl Ak l),(10,.ref 10 0),(16,.mref 62),(17,.slice (.id 201 2) (t.map Ad))] [(10,.ro [.cmap Fl (l.map LY)]),(62,.map Fl (d.map U2)),(201,.tok 2 (t.map Ad).length)] Z4 Z3 (Xi 0 (Xi (Ad q) (Yi (Yi aa2 nR) (Yi rfl (Yi (Nz rfl) (yN (cU [(9,sl Ak l),(10,.ref 10 0),(16,.mref 62),(17,.slice (.id 201 2) (t.map Ad)),(18,.ref 18 0)] [(10,.ro [.cmap Fl (l.map LY)]),(62,.map Fl (d.map U2)),(201,.tok 2 (t.map Ad).length),(18,.cells (Ad q))] Z5 Z4 (Xi 16400 ?_))))))));have ma:1<=(t.map Ad).length:=by omega
      refine Yi (Yi rfl (Yi aa2 aa0)) ?_;have ed:(t.map Ad).drop (1:Int).toNat=t'.map Ad:=by simp_all
      refine cU [(9,sl Ak l),(10,.ref 10 0),(16,.mref 62),(17,.slice (.id 16400 2) (t'.map Ad)),(18,.ref 18 0)] [(10,.ro [.cmap Fl (l.map LY)]),(62,.map Fl (d.map U2)),(16400,.tok 2 (t'.map Ad).length),(18,.cells (Ad q))] ⟨Zr,Zr,Zr,⟨Aa (AV.slice (.id 16400 2)) ed,rfl⟩,Zr,Tv⟩ ⟨Zr,Zr,⟨Aa (fun e:List (List AV)=>HO.tok 2 e.length) ed,rfl⟩,Zr,Tv⟩ (Xi 0 (Yi ?_ ?_))
      .intro a ha;refine Am (show ∃u,u=()from⟨(),rfl⟩) (fun _ _=>?_);have e:=(Rg ha).2;subst e;have ho:=IH.2 (Rg ha).1;have bi:=ni.old ho;refine Xi ⟨(d,t',m,true),bi,by grind⟩ ?_;exact⟨by simp_all,Z4,Z4,Fh,Tv⟩
      intro SA;have ho:d.any (fun p=>decide (p=q.path))=false:=by
       rw[DQ];intro hc;exact SA (vb true) (Ay.2 ⟨q.path,IH.1 hc,rfl⟩)
      have bi:=ni.new ho;have Ym:=bi.pot;refine Xi 0 ?_;have t8:FI (d.map U2) (.string q.path) (vb true)=(d++[q.path]).map U2:=by rw[L3 SA,AB];rfl
      refine Xi 0 (Yi ?_ ?_)
      .intro a ha;refine Am (Rh ha) (fun r Xg=>?_);have e:=Xg.2.2;subst e;have l8:EL l q.path=r.reqs:=by
        unfold EL;rw[<-Xg.2.1,Hb l7 Xg.1]
       rw[l8]at bi Ym;have GH:=hlq r Xg.1;have CM:AZ 2 (r.reqs.map Ad)/\(t'.map Ad).length=(t'.map Ad).length/\((t'.map Ad).length+(r.reqs.map Ad).length)*40<=140737488355328/\(t'.map Ad).length+(r.reqs.map Ad).length<=9223372036854775807:=
        ⟨CE (enc:=Ad) (n:=2) (fun _=>rfl) r.reqs,rfl,by grind,by grind⟩
       refine Yi CM ?_;have m0:AV.slice (.id 16400 2) (t'.map Ad++r.reqs.map Ad)=.slice (.id 16400 2) ((t'++r.reqs).map Ad):=by simp_all
       have rR:HO.tok 2 ((t'.map Ad).length+(r.reqs.map Ad).length)=.tok 2 ((t'++r.reqs).map Ad).length:=by simp_all
       refine Xi ⟨(d++[q.path],t'++r.reqs,m,true),bi,by grind⟩ ?_;exact⟨by simp_all,⟨Zr,Zr,Zr,⟨m0,rfl⟩,Tv⟩,⟨Zr,⟨Aa (HO.map Fl) t8,rfl⟩,⟨rR,rfl⟩,Zr,Tv⟩,Fh,Tv⟩
      intro hnb;have l8:EL l q.path=[]:=by
       unfold EL
       grind
      rw[l8]at bi Ym;have CM:AZ 2 []/\(t'.map Ad).length=(t'.map Ad).length/\((t'.map Ad).length+([]:List (List AV)).length)*40<=140737488355328/\(t'.map Ad).length+([]:List (List AV)).length<=9223372036854775807:=
       ⟨trivial,rfl,by grind,by grind⟩
      refine Yi CM ?_;have m0:AV.slice (.id 16400 2) (t'.map Ad++[])=.slice (.id 16400 2) ((t'++[]).map Ad):=by simp_all
      have rR:HO.tok 2 ((t'.map Ad).length+([]:List (List AV)).length)=.tok 2 ((t'++[]).map Ad).length:=by simp_all
      refine Xi ⟨(d++[q.path],t'++[],m,true),bi,by grind⟩ ?_;exact⟨by simp_all,⟨Zr,Zr,Zr,⟨m0,rfl⟩,Tv⟩,⟨Zr,⟨Aa (HO.map Fl) t8,rfl⟩,⟨rR,rfl⟩,Zr,Tv⟩,Fh,Tv⟩
     intro h;have h:¬(0:Int)<(t.map Ad).length:=h;have ht0:t=[]:=by
      simp_all
     have z6:ER l (GW l roots) roots []=d:=(ht0▸ni).stop;have hD:D=if d.length<l.length then 8 else 0:=by simp_all
     refine cU [(9,sl Ak l),(16,.mref 62)] [(62,.map Fl (d.map U2))] Z2 Z1 (Xi 0 (Yi ?_ ?_))
     .intro h;have h:((d.map U2).length:Int)<((l.map Ak).length:Int):=h;have h:d.length<l.length:=by simp_all
      refine Xi 0 ?_;exact .of_eq (Aa vi (show(8:Int)=D by omega))
     .intro h;have h:¬((d.map U2).length:Int)<((l.map Ak).length:Int):=h;have h:¬d.length<l.length:=by simp_all
      refine Xi 0 ?_;exact .of_eq (Aa vi (show(0:Int)=D by omega))
 .have Pe:PC 138 [Jx x ifs] (.tup [.agg [.cmap N2 [],.cmap Fl []],vi (AD x)]):=by
   grind
  rw[AE h0]at hD;refine Ps oK Tryz.func83 rfl (Nz rfl) (Xi 0 (Xi 0 (yN (Xi .pure (Xi _ (Yi (Pe) (yN (cU [(8,vi (AD x))] [] Z1 Tv (Xi 0 (Yi ?_ ?_))))))))))
  .intro _;refine Xi 0 ?_;exact .of_eq (Aa vi hD.symm)
  .intro h;exact absurd h0 h
theorem Sa(s:ByteArray)(h:s.size<=10):Ew s:=by omega
theorem ao:(∀r∈Oq,F3 r)/\∀q∈Gb,Lw q:=by
 have hq:∀q∈Gb,Lw q:=fun q hq=>by
  obtain rfl:=A9.1 hq;exact⟨by decide,Sa _ aa2⟩
 refine⟨fun r hr=>?_,hq⟩;unfold Oq at hr;simp only[AN,Eb,L7]at hr;rcases hr with rfl | rfl | rfl
 .refine⟨Sa _ aa2,fun q hq=>?_⟩;obtain rfl:=A9.1 hq;exact⟨by decide,Sa _ aa2⟩
 .exact⟨Sa _ aa2,fun q hq=>by cases hq⟩
 .exact⟨Sa _ aa2,fun q hq=>by cases hq⟩
theorem ub:Ck Oq [] Gb:=⟨ao.1,ao.2,fun _=>mK _ _ _ (c84 _ _ ao.1)⟩
structure Xr(x:List Rl)(roots:List Rq):Prop where
 ix:BB x
 rs:BB roots
 rel:∀r∈x,BB r.reqs/\F3 r
 rq:∀q∈roots,Lw q
theorem Xr.x{x:List Rl}{roots:List Rq}(h:Xr x roots):∀r∈x,F3 r:=fun r hr=>(h.rel r hr).2
theorem Xr.c84{x:List Rl}{roots:List Rq}(h:Xr x roots)(ifs:List (List AV)):bK x ifs:=Go.Eng.c84 x ifs h.x
theorem Xr.ck{x:List Rl}(h:Xr x roots)(ifs:List (List AV)):Ck x ifs roots:=⟨h.x,h.rq,fun _=>mK _ _ _ (h.c84 ifs)⟩
theorem UG{x:List Rl}(h:(FJ x 16&&D6 roots)=true):roots.length<=20:=by
 grind [D6]
theorem I1{a:An}(h:QO a=true):a.sel.length<=16/\a.skips.length<=100/\a.infs.length<=400:=by
 grind [QO]
theorem Xr.c45{x:List Rl}{roots:List Rq}(h:Xr x roots)(ifs:List (List AV))(hf:(FJ x 16&&D6 roots)=true)(s:List Sl)(hs:s.length<=1000000):wy x ifs roots s:=
 Go.Eng.c45 x ifs roots s (h.c84 ifs) h.x (by grind [UG]) (fun q hq=>(h.rq q hq).1) hs
theorem Xr.c21{x:List Rl}{roots:List Rq}(h:Xr x roots)(ifs:List (List AV))(hf:(FJ x 16&&D6 roots)=true)(a:An)(ha:QO a=true):PC 35 [Jx x ifs,sl Ad roots,.agg (Iz a)] (vi (CW x roots a)):=
 Go.Eng.c21 x ifs roots a (h.c84 ifs) (h.c45 ifs hf a.sel (by grind [I1])) h.x h.rq (by grind [I1]) (by have:=(I1 ha).2.1;omega)
theorem Xr.c11{x:List Rl}{roots:List Rq}(h:Xr x roots)(ifs:List (List AV)):PC 23 [Jx x ifs,sl Ad roots] (vb (FJ x 16&&D6 roots)):=
 Go.Eng.c11 x ifs roots h.ix (fun r hr=>(h.rel r hr).1) h.rs
end Go.Eng
namespace Go.Proofs.YtpgfieopnnkpfaaGreatDoor.joins
open Go Go.Eng Go.Proofs Go.ChangeShapes Go.WideShapes Go.ChangeAt Go.RowKit
section
variable {H:Type}{enc:TypeId×Value->H}{w:World}
theorem all_le{d:DataW H}{l:List (DataW H)}(h:d∈l):Rows.uptoBulk d<=Rows.uptoBulkAll l:=by
 induction l with
 |nil=>cases h
 |cons x r ih=>
  simp only[Rows.uptoBulkAll]
  cases AN.1 h with
  |inl e=>subst e;omega
  |inr e=>have:=ih e;omega
theorem one_le(d:DataW H):1<=Rows.uptoBulk d:=by
 cases d with
 |lit l=>cases l<;>simp[Rows.uptoBulk]
 |nil=>simp[Rows.uptoBulk]
 |ptr d=>simp[Rows.uptoBulk]
 |slice pt spare=>simp[Rows.uptoBulk]
 |agg parts=>simp[Rows.uptoBulk]
 |iface t d=>simp[Rows.uptoBulk]
 |map entries=>simp[Rows.uptoBulk]
 |held h=>simp[Rows.uptoBulk]
theorem len_le(l:List (DataW H)):l.length<=Rows.uptoBulkAll l:=by
 induction l with
 |nil=>simp[Rows.uptoBulkAll]
 |cons x r ih=>have:=one_le x;simp only[Rows.uptoBulkAll,Av];omega
theorem bulk_ok:VI (H:=H) Rows.uptoBulk where
 slice es sp:=by
  have h1:=len_le es
  refine⟨by simp only[Rows.uptoBulk];omega,fun d hd=>?_⟩
  have:=all_le hd
  simp only[Rows.uptoBulk];omega
 agg ps d hd:=by
  have:=all_le hd
  simp only[Rows.uptoBulk];omega
 str b:=by simp only[Rows.uptoBulk];omega
theorem app_all(l r:List (DataW H)):Rows.uptoBulkAll (l++r)=Rows.uptoBulkAll l+Rows.uptoBulkAll r:=by
 induction l with
 |nil=>simp[Rows.uptoBulkAll]
 |cons x l ih=>simp only[D8,Rows.uptoBulkAll,ih];omega
abbrev NB:Nat:=1048576
abbrev Op(enc:TypeId×Value->H)(w:World)(t:TypeId){α:Type}(e:α->List AV)(ok:α->Prop):Prop:=JB enc Tryz.prog w Rows.uptoBulk NB t e ok
theorem oI:Op enc w 3 (fun n:Int=>[vi n]) (fun _=>True):=(PQ Tryz.underlying3).to id (fun _ _=>⟨rfl,trivial⟩)
theorem oB:Op enc w 4 (fun b:Bool=>[vb b]) (fun _=>True):=bm Tryz.underlying4
theorem oS:Op enc w 9 (fun s:ByteArray=>[vs s]) (fun s=>s.size<=NB):=WP bulk_ok Tryz.underlying9
theorem oVer:Op enc w 83 Dt (fun _=>True):=
 (Dz bulk_ok Tryz.underlying83 (L:=3) aa3 (A2 rfl (n:=1) aa3 oI (A2 rfl (n:=1) aa3 oI (A2 rfl (n:=1) aa3 oI Em)))).to
  (fun p=>(⟨p.1,p.2.1,p.2.2.1⟩:Ver)) (fun _ _=>⟨rfl,trivial⟩)
theorem oSpan:Op enc w 85 Ab (fun _=>True):=
 (Dz bulk_ok Tryz.underlying85 (L:=2) aa3 (A2 rfl (n:=1) aa3 oI (A2 rfl (n:=1) aa3 oI Em))).to
  (fun p=>(p.1,p.2.1)) (fun _ _=>⟨rfl,trivial⟩)
theorem oSet:Op enc w 27 (fun l:AF=>[sl Ab l]) (fun l=>l.length<=NB):=
 (FB bulk_ok Tryz.underlying27 (m:=1) aa3 (fun _=>rfl) oSpan).to id (fun _ h=>⟨rfl,h.1⟩)
abbrev OkRq(q:Rq):Prop:=q.path.size<=NB/\q.set.length<=NB
theorem oRq:Op enc w 87 Ad OkRq:=
 (Dz bulk_ok Tryz.underlying87 (L:=2) aa3 (A2 rfl (n:=1) aa3 oS (A2 rfl (n:=1) aa3 oSet Em))).to
  (fun p=>(⟨p.1,p.2.1⟩:Rq)) (fun _ h=>⟨rfl,h.1,h.2.1⟩)
abbrev OkRqs(l:List Rq):Prop:=l.length<=NB/\∀q∈l,OkRq q
theorem oRqs:Op enc w 43 (fun l:List Rq=>[sl Ad l]) OkRqs:=
 FB bulk_ok Tryz.underlying43 (m:=1) aa3 (fun _=>rfl) oRq
abbrev OkRl(r:Rl):Prop:=r.path.size<=NB/\OkRqs r.reqs
theorem oRl:Op enc w 89 Ak OkRl:=
 (Dz bulk_ok Tryz.underlying89 (L:=9) aa3 (A2 rfl (n:=1) aa3 oS (A2 rfl (n:=3) aa3 oVer (A2 rfl (n:=1) aa3 oRqs
  (A2 rfl (n:=1) aa3 oS (A2 rfl (n:=1) aa3 oS (A2 rfl (n:=1) aa3 oS (A2 rfl (n:=1) aa3 oB Em)))))))).to
  (fun p=>(⟨p.1,p.2.1,p.2.2.1,p.2.2.2.1,p.2.2.2.2.1,p.2.2.2.2.2.1,p.2.2.2.2.2.2.1⟩:Rl)) (fun _ h=>⟨rfl,h.1,h.2.2.1⟩)
theorem oRls:Op enc w 39 (fun l:List Rl=>[sl Ak l]) (fun l=>l.length<=NB/\∀r∈l,OkRl r):=
 FB bulk_ok Tryz.underlying39 (m:=8) aa3 (fun _=>rfl) oRl
theorem oIfc:Op enc w 357 (fun s:ByteArray=>[vs s,.junk,.junk,.junk,.junk]) (fun _=>True):=
 (Dz bulk_ok Tryz.underlying357 (L:=5) aa3 (A2 rfl (n:=1) aa3 oS (A2 rfl (n:=1) aa3 (MI Tryz.underlying352) (A2 rfl (n:=1) aa3 (MI Tryz.underlying353)
  (A2 rfl (n:=1) aa3 (MI Tryz.underlying354) (A2 rfl (n:=1) aa3 (MI Tryz.underlying355) Em)))))).to (fun p=>p.1) (fun _ _=>⟨rfl,trivial⟩)
theorem oIfs:Op enc w 40 (fun l:List ByteArray=>[sl (fun s=>[vs s,.junk,.junk,.junk,.junk]) l]) (fun _=>True):=
 (FB bulk_ok Tryz.underlying40 (m:=4) aa3 (fun _=>rfl) oIfc).to id (fun _ _=>⟨rfl,trivial⟩)
theorem oIx:Op enc w 42 (fun p:List Rl×List (List AV)=>[sl Ak p.1,.slice .none p.2]) (fun p=>p.1.length<=NB/\∀r∈p.1,OkRl r):=
 (Dz bulk_ok Tryz.underlying42 (L:=2) aa3 (A2 rfl (n:=1) aa3 oRls (A2 rfl (n:=1) aa3 oIfs Em))).to
  (fun p=>(p.1,p.2.1.map (fun s=>[vs s,.junk,.junk,.junk,.junk]))) (fun _ h=>⟨rfl,h.1⟩)
theorem oSl:Op enc w 126 Ae (fun y=>y.path.size<=NB):=
 (Dz bulk_ok Tryz.underlying126 (L:=4) aa3 (A2 rfl (n:=1) aa3 oS (A2 rfl (n:=3) aa3 oVer Em))).to
  (fun p=>(⟨p.1,p.2.1⟩:Sl)) (fun _ h=>⟨rfl,h.1⟩)
theorem oSls:Op enc w 63 (fun l:List Sl=>[sl Ae l]) (fun l=>l.length<=NB/\∀y∈l,y.path.size<=NB):=
 FB bulk_ok Tryz.underlying63 (m:=3) aa3 (fun _=>rfl) oSl
theorem oNf:Op enc w 73 Aj (fun i=>i.path.size<=NB):=
 (Dz bulk_ok Tryz.underlying73 (L:=6) aa3 (A2 rfl (n:=1) aa3 oI (A2 rfl (n:=1) aa3 oS (A2 rfl (n:=1) aa3 oI
  (A2 rfl (n:=1) aa3 oI (A2 rfl (n:=1) aa3 oI (A2 rfl (n:=1) aa3 oI Em))))))).to
  (fun p=>(⟨p.1,p.2.1,p.2.2.1,p.2.2.2.1,p.2.2.2.2.1,p.2.2.2.2.2.1⟩:Nf)) (fun _ h=>⟨rfl,h.2.1⟩)
theorem oNfs:Op enc w 32 (fun l:List Nf=>[sl Aj l]) (fun l=>l.length<=NB/\∀i∈l,i.path.size<=NB):=
 FB bulk_ok Tryz.underlying32 (m:=5) aa3 (fun _=>rfl) oNf
theorem oSk:Op enc w 122 A1 (fun y=>y.path.size<=NB):=
 (Dz bulk_ok Tryz.underlying122 (L:=3) aa3 (A2 rfl (n:=1) aa3 oS (A2 rfl (n:=1) aa3 oI (A2 rfl (n:=1) aa3 oI Em)))).to
  (fun p=>(⟨p.1,p.2.1,p.2.2.1⟩:Sk)) (fun _ h=>⟨rfl,h.1⟩)
theorem oSks:Op enc w 64 (fun l:List Sk=>[sl A1 l]) (fun l=>l.length<=NB/\∀y∈l,y.path.size<=NB):=
 FB bulk_ok Tryz.underlying64 (m:=2) aa3 (fun _=>rfl) oSk
abbrev OkTm(t:Tm):Prop:=t.path.size<=NB/\t.set.length<=NB
theorem oTm:Op enc w 29 Ac OkTm:=
 (Dz bulk_ok Tryz.underlying29 (L:=3) aa3 (A2 rfl (n:=1) aa3 oS (A2 rfl (n:=1) aa3 oB (A2 rfl (n:=1) aa3 oSet Em)))).to
  (fun p=>(⟨p.1,p.2.1,p.2.2.1⟩:Tm)) (fun _ h=>⟨rfl,h.1,h.2.2.1⟩)
theorem oTms:Op enc w 23 (fun l:List Tm=>[sl Ac l]) (fun l=>l.length<=NB/\∀t∈l,OkTm t):=
 FB bulk_ok Tryz.underlying23 (m:=2) aa3 (fun _=>rfl) oTm
abbrev OkAn(a:An):Prop:=a.sel.length<=NB/\a.infs.length<=NB/\a.skips.length<=NB
theorem oAn:Op enc w 66 Iz OkAn:=
 (Dz bulk_ok Tryz.underlying66 (L:=4) aa3 (A2 rfl (n:=1) aa3 oB (A2 rfl (n:=1) aa3 oSls (A2 rfl (n:=1) aa3 oNfs
  (A2 rfl (n:=1) aa3 oSks Em))))).to
  (fun p=>(⟨p.1,p.2.1,p.2.2.1,p.2.2.2.1⟩:An)) (fun _ h=>⟨rfl,h.2.1.1,h.2.2.1.1,h.2.2.2.1.1⟩)
theorem few_of{n:Nat}(h:n<=NB):n<=1073741824:=AL h aa2
theorem lim_of{x:List Rl}{roots:List Rq}(h:x.length<=NB/\∀r∈x,OkRl r)(k:OkRqs roots):Xr x roots where
 ix:=few_of h.1
 rs:=few_of k.1
 rel r hr:=⟨few_of (h.2 r hr).2.1,few_of (h.2 r hr).1,fun q hq=>⟨few_of ((h.2 r hr).2.2 q hq).2,few_of ((h.2 r hr).2.2 q hq).1⟩⟩
 rq q hq:=⟨few_of (k.2 q hq).2,few_of (k.2 q hq).1⟩
end
theorem ok_agg{P:Program}{W:World}{base:Nat}{t:TypeId}{v:Value}{fs:Array Field}(hu:P.underlying t=some (.struct fs))(h:Value.okWide P W .any base t v):∃cs,v=.agg cs:=by
 unfold Value.okWide at h
 rw[hu]at h
 obtain⟨cs,e,_⟩:=h
 exact⟨cs,e⟩
theorem ok_slice{P:Program}{W:World}{base:Nat}{t e:TypeId}{v:Value}(hu:P.underlying t=some (.slice e))(h:Value.okWide P W .any base t v):v.oneCell'=true:=by
 unfold Value.okWide at h
 rw[hu]at h
 unfold Cell.okWide Cell.ok at h
 rw[hu]at h
 cases v<;>first | rfl | simp at h
theorem ok_int{P:Program}{W:World}{base:Nat}{t:TypeId}{k:IntKind}{v:Value}(hu:P.underlying t=some (.int k))(h:Value.okWide P W .any base t v):v.oneCell'=true:=by
 unfold Value.okWide at h
 rw[hu]at h
 unfold Cell.okWide Cell.ok at h
 rw[hu]at h
 cases v<;>first | rfl | simp at h
theorem int_of_shape{P:Program}{w:World}{g:Nat}{t:TypeId}{k:IntKind}{zero:Array Value}(h:w.ShapedOpen P)(hg:g<P.globals.size)
  (h0:((begin P (fun _ _=>0) default).world.heap[g]?).bind Obj.row?=some (zero,t)) (hz:zero.size=1)
  (hb:P.buildable t=true) (hc:P.cellTypes P.depth t=some [t]) (hu:P.underlying t=some (.int k)):∃p,w.cell? ⟨g,0,none⟩=some (.int k p):=by
 obtain⟨cs,hh,hs,hr⟩:=h.1 g zero t hg h0
 obtain⟨ts,hts,_,Hy⟩:=hr hb
 rw[hc]at hts
 cases hts
 have h1:0<cs.size:=by omega
 obtain⟨u,fg,Qw⟩:=Hy 0 cs[0] (by simp[h1])
 have:u=t:=by simpa using fg.symm
 subst this
 have CY:w.cell? ⟨g,0,none⟩=some cs[0]:=by simp[World.cell?,hh,h1]
 rw[CY]
 unfold Cell.ok at Qw
 rw[hu]at Qw
 cases hv:cs[0]<;>rw[hv]at Qw<;>simp at Qw
 obtain⟨rfl,_⟩:=Qw
 exact⟨_,rfl⟩
theorem maxLen_cell{W:World}(h:W.ShapedOpen Tryz.prog):∃m,W.cell? ⟨0,0,none⟩=some (.int .i64 m):=
 int_of_shape (t:=3) (zero:=#[.int .i64 0]) h (DR aa3) aa3 rfl aa3 aa3 Tryz.underlying3
def Start(W:World):Prop:=(∃m,W.cell? ⟨0,0,none⟩=some (.int .i64 m))/\∀x∈jm,x.1<W.heap.size/\W.cell? ⟨x.1,x.2.1,none⟩=x.2.2
theorem start_of {W : World} {r : List (String × DataW Unit)} {a b : String × DataW Unit} (h : W.ShapedOpen Tryz.prog) (hl : laidMet Tryz.prog (a :: b :: ("internal/strconv.uint64pow10", Rows.laid_internal_strconv_uint64pow10) :: r) W) : Start W := by
 refine⟨maxLen_cell h,?_⟩
 have ht : Go.Lib.TabIs Tryz.prog W "internal/strconv.uint64pow10" .u64 ((List.range 20).map fun i => ((10 ^ i : Nat) : Int)):=
  Go.Lib.tabIs_of_head (g:=3) (t:=296) (e:=239) (n:=20) aa3 aa3 aa3 aa3 aa3 aa3 hl.tail.tail
 have hc := fun i => World.var?_cell (P := Tryz.prog) (n := "internal/strconv.uint64pow10") (g := 3) aa3 ht i
 have h0:3<W.heap.size:=V2 (v:=.int .u64 1) ((hc 0).trans rfl)
 intro x hx
 rcases AN.1 hx with rfl | hx
 .exact⟨h0,(hc 20).trans rfl⟩
 .obtain⟨i,hi,rfl⟩:=Ay.1 hx
  have hi:=GU.1 hi
  refine⟨h0,(hc i).trans ?_⟩
  simp[hi]
def Still(W W' : World):Prop:=W'.os=W.os/\W'.output=W.output/\W.heap.size<=W'.heap.size/\∀b,b<W.heap.size->W'.heap[b]?=W.heap[b]?
theorem run_true{f:Nat}{args:List AV}{vals:Array Value}{W:World}(hc:PC f args (vb true))(hM:Start W)(hs:vals.size=args.length)
  (hr:∀(i:Nat) (av:AV) (x:Value),args[i]?=some av->vals[i]?=some x->A5 (jk W) W EZ av x):Calls Tryz.prog f vals W fun e W'=>e=.returned (.bool true)/\Still W W':=by
 refine(hc.2 (jk W) W vals hs (fun i av x q1 q2=>(hr i av x q1 q2).up _) (vF hM.1 hM.2)).mono fun e W' ⟨v,r,h',g',e1,e2,e3,e4,_⟩=>?_
 subst e1
 obtain⟨rfl,rfl⟩:=e2
 obtain rfl:=e3.v_eq
 exact⟨rfl,e4.os,e4.output,e4.size,fun b hb=>e4.frame b hb (fun r h=>h.elim)⟩
theorem Still.kept{W W' : World}(h:Still W W')(may:MemPlace->Prop):W.keptBut W' may:=by
 refine⟨h.1,h.2.1,fun i hi=>?_⟩
 rw[h.2.2.2 i hi]
 cases hh:W.heap[i]? with
 |none=>rfl
 |some o=>cases o<;>simp
theorem Still.same{W W' : World}(h:Still W W'){p:MemPlace}(hp:p.block<W.heap.size):W.sameAt W' p:=by
 cases p with
 |cell b off=>
  show W'.cell? ⟨b,off,none⟩=W.cell? ⟨b,off,none⟩
  unfold World.cell?
  rw[h.2.2.2 b hp]
 |map b=>exact h.2.2.2 b hp
theorem kids:Kids Tryz.prog (· < Tryz.prog.types.size):=kids_rows aa3 aa3
theorem full:∀t e,t<Tryz.prog.types.size->Tryz.prog.underlying t=some (.slice e)->0<Tryz.prog.cellsOf e:=slices_full_of Tryz.prog aa3
theorem carry{H:Type}{enc:TypeId×Value->H}{W W' : World}(h:Still W W'):∀{ts:List TypeId} {vs:List Value} {ds:List (DataW H)} {ps:List MemPlace},DataW.TrodAll enc Tryz.prog W 0 (fun _=>true) true ts vs ds ps->DataW.TrodAll enc Tryz.prog W' 0 (fun _=>true) true ts vs ds ps
 | [],[],[],_,e=>e
 |t::ts,v::vs,d::ds,ps,k=>by
  have Fp:=k.lt
  obtain⟨p,q,⟨n,h1⟩,h2,rfl⟩:=k
  exact⟨p,q,⟨n,DataW.trod_carry n _ _ _ h1 (fun x hx=>h.same (Fp x (Bh _ hx)))⟩,carry h h2,rfl⟩
 | [],[],_::_,_,k=>k.elim
 | [],_::_,_,_,k=>k.elim
 |_::_,[],_,_,k=>k.elim
 |_::_,_::_,[],_,k=>k.elim
theorem post_true{H:Type}{enc:TypeId×Value->H}{W W' : World}{f:Func}{s:ChangeSpec}{args:Array Value}{ds:List (DataW H)}{before:List MemPlace}(IC:Still W W')(hv:s.vars=[])
  (hW:DataW.Whole enc Tryz.prog f.params.toList s.vars false W args.toList ds [] before) (hr:f.resultTypes=#[4]) (hT:∀t∈f.params.toList,t<Tryz.prog.types.size) (hs:s.fn H ds={ results:=[.lit (.bool true)],args:=ds }) :
  s.post enc Tryz.prog f false true false false W args (.bool true) W':=by
 have hW0:=hW
 obtain⟨p,q,hA,hV,rfl,hz,_⟩:=hW
 rw[hv]at hV
 have hq:q=[]:=hV
 subst hq
 have Fp:=hW0.lt
 have QZ:s.fn H (ds++[])={ results:=[.lit (.bool true)],args:=ds }:=by rw[BC];exact hs
 refine⟨ds,[],p++[],[],p,[],hW0,?_,?_,?_,IC.kept _,fun h=>by cases h⟩
 .rw[QZ,hr]
  exact⟨[],[],⟨1,by rw[show(Value.bool true).cells.toList=[.bool true]from rfl,DataW.trod_step];unfold DataW.trodStep;rw[Tryz.underlying4]⟩,rfl,rfl⟩
 .rw[QZ]
  exact(carry IC hA).respare kids full hT (fun x hx=>by simpa using Fp x (Bh _ hx))
 .rw[QZ,hv];rfl
end Go.Proofs.YtpgfieopnnkpfaaGreatDoor.joins
namespace Go.Proofs
open Go.Shelf
def Tryz.layItoa_ren:Go.Shelf.Ren:=⟨fun | 171=>39 | 243=>91 | 246=>154 | 283=>222 | 284=>223 | 285=>224 | 286=>225 | 129=>195 | 317=>279 | 318=>280 | 319=>281 | 320=>282 | 337=>324 | 338=>325 | n=>n,fun | 3=>3 | 9=>9 | 2=>2 | 4=>4 | 171=>255 | 0=>0 | 53=>239 | 37=>144 | 5=>5 | 173=>257 | 212=>296 | 51=>196 | 20=>20 | 213=>297 | 46=>159 | 232=>330 | 233=>331 | n=>n,fun | 17=>3 | 18=>4 | 19=>5 | n=>n⟩
theorem Tryz.layItoa:Go.Proofs.LaysM.n171 Tryz.prog Tryz.layItoa_ren:={
 mixed:=by kernel_rfl
 f129:=Go.Eng.A0a Tryz.func195
 f171:=Go.Eng.A0a Tryz.func39
 f243:=Go.Eng.A0a Tryz.func91
 f246:=Go.Eng.A0a Tryz.func154
 f283:=Go.Eng.A0a Tryz.func222
 f284:=Go.Eng.A0a Tryz.func223
 f285:=Go.Eng.A0a Tryz.func224
 f286:=Go.Eng.A0a Tryz.func225
 f317:=Go.Eng.A0a Tryz.func279
 f318:=Go.Eng.A0a Tryz.func280
 f319:=Go.Eng.A0a Tryz.func281
 f320:=Go.Eng.A0a Tryz.func282
 f337:=Go.Eng.A0a Tryz.func324
 f338:=Go.Eng.A0a Tryz.func325
 t0:=Tryz.underlying0
 a0:=Tryz.isAgg0
 z0:=Tryz.sizeOf0
 v0:=Tryz.zeroValue0
 t2:=Tryz.underlying2
 a2:=Tryz.isAgg2
 z2:=Tryz.sizeOf2
 v2:=Tryz.zeroValue2
 t3:=Tryz.underlying3
 a3:=Tryz.isAgg3
 z3:=Tryz.sizeOf3
 v3:=Tryz.zeroValue3
 t4:=Tryz.underlying4
 a4:=Tryz.isAgg4
 z4:=Tryz.sizeOf4
 v4:=Tryz.zeroValue4
 t5:=Tryz.underlying5
 a5:=Tryz.isAgg5
 z5:=Tryz.sizeOf5
 v5:=Tryz.zeroValue5
 t9:=Tryz.underlying9
 a9:=Tryz.isAgg9
 z9:=Tryz.sizeOf9
 v9:=Tryz.zeroValue9
 t20:=Tryz.underlying20
 a20:=Tryz.isAgg20
 z20:=Tryz.sizeOf20
 v20:=Tryz.zeroValue20
 t37:=Tryz.underlying144
 a37:=Tryz.isAgg144
 z37:=Tryz.sizeOf144
 v37:=Tryz.zeroValue144
 t46:=Tryz.underlying159
 a46:=Tryz.isAgg159
 z46:=Tryz.sizeOf159
 v46:=Tryz.zeroValue159
 t51:=Tryz.underlying196
 a51:=Tryz.isAgg196
 z51:=Tryz.sizeOf196
 v51:=Tryz.zeroValue196
 t53:=Tryz.underlying239
 a53:=Tryz.isAgg239
 z53:=Tryz.sizeOf239
 v53:=Tryz.zeroValue239
 t171:=Tryz.underlying255
 a171:=Tryz.isAgg255
 z171:=Tryz.sizeOf255
 v171:=Tryz.zeroValue255
 t173:=Tryz.underlying257
 a173:=Tryz.isAgg257
 z173:=Tryz.sizeOf257
 v173:=Tryz.zeroValue257
 t212:=Tryz.underlying296
 a212:=Tryz.isAgg296
 z212:=Tryz.sizeOf296
 v212:=Tryz.zeroValue296
 t213:=Tryz.underlying297
 a213:=Tryz.isAgg297
 z213:=Tryz.sizeOf297
 t232:=Tryz.underlying330
 a232:=Tryz.isAgg330
 z232:=Tryz.sizeOf330
 v232:=Tryz.zeroValue330
 t233:=Tryz.underlying331
 a233:=Tryz.isAgg331
 z233:=Tryz.sizeOf331
 v233:=Tryz.zeroValue331
 g17:=by kernel_rfl
 g18:=by kernel_rfl
 g19:=by kernel_rfl
 i0:=by kernel_rfl
 i2:=by kernel_rfl
 i3:=by kernel_rfl
 i4:=by kernel_rfl
 i5:=by kernel_rfl
 i9:=by kernel_rfl
 i20:=by kernel_rfl
 i37:=by kernel_rfl
 i46:=by kernel_rfl
 i51:=by kernel_rfl
 i53:=by kernel_rfl
 i171:=by kernel_rfl
 i173:=by kernel_rfl
 i212:=by kernel_rfl
 i232:=by kernel_rfl
 i233:=by kernel_rfl
 m17:=by kernel_rfl
 m18:=by kernel_rfl
 m19:=by kernel_rfl }
def Tryz.layJoin_ren:Go.Shelf.Ren:=⟨fun | 156=>49 | 165=>105 | 166=>106 | 169=>107 | 240=>166 | 241=>167 | 276=>234 | 277=>235 | n=>n,fun | 31=>45 | 9=>9 | 3=>3 | 4=>4 | 0=>0 | 20=>20 | 72=>146 | 76=>80 | 70=>143 | 37=>144 | 75=>79 | 127=>208 | 164=>268 | 5=>5 | 80=>148 | n=>n,fun | n=>n⟩
theorem Tryz.layJoin:Go.Proofs.Lays.n156 Tryz.prog Tryz.layJoin_ren:={
 mixed:=by kernel_rfl
 f156:=Go.Eng.A0a Tryz.func49
 f165:=Go.Eng.A0a Tryz.func105
 f166:=Go.Eng.A0a Tryz.func106
 f169:=Go.Eng.A0a Tryz.func107
 f240:=Go.Eng.A0a Tryz.func166
 f241:=Go.Eng.A0a Tryz.func167
 f276:=Go.Eng.A0a Tryz.func234
 f277:=Go.Eng.A0a Tryz.func235
 t0:=Tryz.underlying0
 a0:=Tryz.isAgg0
 z0:=Tryz.sizeOf0
 v0:=Tryz.zeroValue0
 t3:=Tryz.underlying3
 a3:=Tryz.isAgg3
 z3:=Tryz.sizeOf3
 v3:=Tryz.zeroValue3
 t4:=Tryz.underlying4
 a4:=Tryz.isAgg4
 z4:=Tryz.sizeOf4
 v4:=Tryz.zeroValue4
 t9:=Tryz.underlying9
 a9:=Tryz.isAgg9
 z9:=Tryz.sizeOf9
 v9:=Tryz.zeroValue9
 t20:=Tryz.underlying20
 a20:=Tryz.isAgg20
 z20:=Tryz.sizeOf20
 v20:=Tryz.zeroValue20
 t31:=Tryz.underlying45
 a31:=Tryz.isAgg45
 z31:=Tryz.sizeOf45
 v31:=Tryz.zeroValue45
 t37:=Tryz.underlying144
 a37:=Tryz.isAgg144
 z37:=Tryz.sizeOf144
 v37:=Tryz.zeroValue144
 t70:=Tryz.underlying143
 a70:=Tryz.isAgg143
 z70:=Tryz.sizeOf143
 v70:=Tryz.zeroValue143
 t72:=Tryz.underlying146
 a72:=Tryz.isAgg146
 z72:=Tryz.sizeOf146
 v72:=Tryz.zeroValue146
 t75:=Tryz.underlying79
 a75:=Tryz.isAgg79
 z75:=Tryz.sizeOf79
 v75:=Tryz.zeroValue79
 t76:=Tryz.underlying80
 a76:=Tryz.isAgg80
 z76:=Tryz.sizeOf80
 v76:=Tryz.zeroValue80
 t127:=Tryz.underlying208
 a127:=Tryz.isAgg208
 z127:=Tryz.sizeOf208
 v127:=Tryz.zeroValue208
 t164:=Tryz.underlying268
 a164:=Tryz.isAgg268
 z164:=Tryz.sizeOf268
 v164:=Tryz.zeroValue268 }
theorem Tryz.layJoinX:Builder.Extra Tryz.prog Tryz.layJoin_ren:={
 sizeBuilder:=by kernel_rfl
 liesBuilder:=by kernel_rfl
 t5:=Tryz.underlying5
 a5:=Tryz.isAgg5
 z5:=Tryz.sizeOf5
 v5:=Tryz.zeroValue5
 infoByte:=by kernel_rfl
 cellsByte:=by kernel_rfl
 sizeByte:=by kernel_rfl
 neB5:=by decide }
end Go.Proofs
namespace Go.Eng
open Go.Proofs Go.RowKit
theorem dG{g:Gh}{w w' : World}{x:Value}(hI:Cv w g Af Af g w)(q:Below w.heap.size w w') :
  ∃v r h' g',Ending.returned x=.returned v/\(r=.v x/\h'=Af)/\A5 g' w' (used h') r v/\Cv w g Af h' g' w'/\Le Af g w h' g' w':=by
 have hK:ED g w g w':=fun b o hb=>by
  have Fp:=hI.slt b o hb;exact⟨hb,by simp only[World.cell?,q.block b Fp],fun es ck he=>(q.block b Fp).trans he⟩
 exact⟨x,.v x,Af,g,rfl,Zr,.v _ _,⟨q.os,q.tape,q.output,q.size,fun b hb _=>q.block b hb,fun b o hs=>Hm (hI.slt b o hs) q.size,fun _=>Tv,fun _ _ _ h=>h.elim,fun _ _ h=>h.elim,fun b o hs=>.inl hs,hI.glob.keep hK⟩,⟨.refl _ _,fun _ h=>h,hK⟩⟩
theorem ge : Tryz.prog.globalNamed "internal/strconv.uint64pow10" = some 3 := by decide +kernel
theorem r9 {w : World} (h : ∀ x ∈ jm, w.cell? ⟨x.1, x.2.1, none⟩ = x.2.2) : Go.Lib.TabIs Tryz.prog w "internal/strconv.uint64pow10" .u64 Go.Lib.pow10Tab := by
 unfold Go.Lib.TabIs World.var?;rw[ge];simp only[Option.bind_some];have Yd:=h (3,20,none) (Ai ..);have hi:∀i,i<20->w.cell? ⟨3,i,none⟩=some (.int .u64 ((10 ^ i:Nat):Int)):=fun i hi=>h (3,i,some (.int .u64 ((10 ^ i:Nat):Int))) (At _ (Ay.2 ⟨i,GU.2 hi,rfl⟩));have h0:=hi 0 aa2;unfold World.cell? at h0 Yd hi;cases e:w.heap[3]? with
 |none=>rw[e]at h0;cases h0
 |some o=>
  cases o with
  |cells cs E fr=>
   simp only[e,Option.isSome_none,D4,LU]at Yd hi;have hs:cs.size=20:=by
    have h19:=hi 19 aa2
    have:=(B6.1 h19).1
    have:=Array.getElem?_eq_none_iff.1 Yd
    omega
   show some cs=_
   congr 1
   apply Array.ext
   .simp[hs,Go.Lib.pow10Tab]
   .intro i h1 h2
    have:=hi i aa0
    rw[DK h1]at this;rw[DY this];simp[Go.Lib.pow10Tab]
  |_=>rw[e]at h0;simp at h0
theorem t6(n:Int)(h:Al n):PC 39 [vi n] (vs (Gm n)):=by
 unfold Al at h;refine Y4 [.int .i64 n] (.string (Gm n)) (iX 39 Tryz.func39 aa3 rfl) rfl (fun g w=>.v _ _) fun w _ ht=>?_;refine(Any.strconv_Itoa Tryz.layItoa n h.1 aa0 w (r9 ht)).mono ?_
 rintro e w' ⟨rfl,k,os,rfl⟩
 exact⟨rfl,Go.Lib.below_grow _ _ (Aq _) _ _⟩
abbrev Qy(sep:ByteArray)(l:List ByteArray):Nat:=(Bk sep l).data.toList.length
theorem t7(l:List ByteArray)(sep:ByteArray)(hl:l.length<=1073741824)(hj:Qy sep l<=281474976710656):PC 49 [sl Ag l,vs sep] (vs (Bk sep l)):=by
 refine⟨iX 49 Tryz.func49 aa3 rfl,fun g w us hs hv hI=>?_⟩
 match us,hs,hv with
 | ⟨[v0,v1]⟩,_,hv=>
  have r0:A5 g w (used Af) (.slice .none (l.map Ag)) v0:=hv 0 _ v0 rfl rfl;have r1:=(hv 1 _ v1 rfl rfl).v_eq;subst r1;have hj:(Go.Lib.join (l.map (·.data.toList)) sep.data.toList).length<=281474976710656:=by simpa[Qy,Bk]using hj
  generalize hes:l.map Ag=es at r0;have fin:∀{e:Ending} {w' : World},e=.returned (.string (Bk sep l))/\Below w.heap.size w w'->∃v r h' g',e=.returned v/\(r=vs (Bk sep l)/\h'=Af)/\A5 g' w' (used h') r v/\Cv w g Af h' g' w'/\Le Af g w h' g' w':=by
   rintro e w' ⟨rfl,q⟩
   exact dG hI q
  cases r0 with
  |snil _ a cap=>
   have:l=[]:=by simpa using hes
   subst this;refine(Any.strings_Join_none Tryz.layJoin Tryz.layJoinX a cap sep w).mono fun e w' ⟨h1,h2⟩=>fin ⟨h1,?_⟩;subst h2;exact .refl _ _
  |slice _ _ b off sz cap val hc FM CY DS=>
   subst hes;cases l with
   |nil=>exact(Any.strings_Join_none Tryz.layJoin Tryz.layJoinX (some ⟨b,off,none⟩) cap sep w).mono fun e w' ⟨h1,h2⟩=>fin ⟨h1,h2▸.refl _ _⟩
   |cons x r=>
    have h1:sz=1:=(FM 0 (Ag x) rfl).symm;subst h1;have aE:∀(j:Nat) y,(x::r)[j]?=some y->g.S b (off+j)/\w.cell? ⟨b,off+j,none⟩=some (.string y):=fun j y hy=>by
     have e1:((x::r).map Ag)[j]?=some (Ag y):=by rw[BX,hy];rfl
     obtain⟨q1,q2,_⟩:=CY j _ 0 (vs y) e1 rfl
     have:=(DS j _ 0 (vs y) e1 rfl).v_eq
     rw[this]at q2;simp only[Nat.mul_one,Hl]at q1 q2;exact⟨q1,q2⟩
    have hb:b<w.heap.size:=hI.slt b _ (aE 0 x rfl).1
    have:=Any.strings_Join_48 Tryz.layJoin Tryz.layJoinX b off cap (x::r) sep w (fun j y hy=>(aE j y hy).2) hb aa0 (by simpa using hc) hj
    rw[Lm];exact this.mono fun e w' h=>fin h
end Go.Eng
namespace Go.Eng
open Go.Proofs
variable (m:Int)(v:Ver)(i:Nat)(p:Int)
abbrev wv:List ByteArray:=(List.range i).map fun j=>Gm (part v j)
theorem bI{v:Ver}(h:Bo v=true):∀i,i<3->0<=part v i/\part v i<=999
 |0,_=>by have:=Fg h;exact⟨this.1,this.2.1⟩
 |1,_=>by have:=Fg h;exact⟨this.2.2.1,this.2.2.2.1⟩
 |2,_=>by have:=Fg h;exact⟨this.2.2.2.2.1,this.2.2.2.2.2⟩
 |_+3,h=>by omega
theorem eV(h:i<3)(K:AV->Prop):Ld (([vi v.a,vi v.b,vi v.c]).drop ((i:Int).toNat*1)) K=K (vi (part v i)):=by
 match i,h with
 |0,_=>rfl
 |1,_=>rfl
 |2,_=>rfl
 |_+3,h=>omega
theorem pk:wv v (i+1)=wv v i++[Gm (part v i)]:=by unfold wv;rw[List.range_succ,AB];rfl
theorem dl:Bk RF (wv v 3)=TM v.a v.b v.c:=gN v.a v.b v.c
theorem lU(h:Bo v=true):Qy RF (wv v 3)<=281474976710656:=by
 unfold Qy;rw[dl]
 have:=Fg h
 have:=MO (a:=v.a) (b:=v.b) (c:=v.c) aa0 aa0 aa0
 have e:(TM v.a v.b v.c).data.toList.length=(TM v.a v.b v.c).size:=rfl;omega
def lR:Int:=if Bo v then 0 else 2
abbrev AaS:AV:=.tup [vs (Dj v),vi (lR v)]
def Hu:Ver:=if 0<=p/\p<1000000/\Bo ⟨m,p / 1000,p % 1000⟩=true then⟨m,p / 1000,p % 1000⟩else⟨0,0,0⟩
def mw:Int:=if 0<=p/\p<1000000/\Bo ⟨m,p / 1000,p % 1000⟩=true then 0 else 2
theorem yV:PC 78 [.agg (Dt v)] (AaS v):=by
 refine Ps (pT [] [(4,1)] []) Tryz.func78 rfl (Nz rfl) (yN (AG (Bt (Bo v)) (fun h1=>?_) (fun h1=>?_)))
 .have h1:(Bo v)=true:=h1;have OC:=(dL v);rw[show(Bo v)=true from h1]at OC;refine Xi .pure (Xi _ (Yi OC (yN (Xi .pure (Xi _ (Yi (mJ v) (Xi {i:Nat // i<=3} (Xi (fun q=>⟨[(4,.slice (.id 4 1) ((wv v q.1).map Ag)),(11,.agg [vi v.a,vi v.b,vi v.c]),(12,vi q.1)],[(4,.tok 1 q.1)],Af⟩) (Xi (fun q=>3-q.1) (Yi (Xi ⟨0,by decide⟩ ?_) ?_))))))))))
  .exact⟨Z3,Z1,Fh,Tv⟩
  intro⟨i,i1⟩;have i1:i<=3:=i1;have GH:(List.range i).length=i:=Es;refine Yi (fun h3=>?_) (fun h3=>?_)
  .have h3:(i:Int)<(3:Int):=h3;have jS:i<3:=by omega
   refine Yi ⟨by show(0:Int)<=i;omega,by show(i:Int)<3;omega⟩ ?_;refine(eV v i jS _).mpr (Xi .pure (Xi _ (Yi (t6 (part v i) (by have q:=bI h1 i jS;unfold Al;omega)) ?_)));have b4:AZ 1 [[vs (Gm (part v i))]]/\((wv v i).map Ag).length=i/\(((wv v i).map Ag).length+([[vs (Gm (part v i))]]:List (List AV)).length)*16<=140737488355328/\((wv v i).map Ag).length+([[vs (Gm (part v i))]]:List (List AV)).length<=9223372036854775807:=⟨⟨rfl,trivial⟩,aa1,(by simp only[Lm,Av,AA];omega),(by simp only[Lm,Av,AA];omega)⟩;refine Yi b4 (Yi (Ii i aa0) (Xi ⟨i+1,by omega⟩ ?_));exact⟨Dl 3 i aa0,⟨⟨(show AV.slice (.id 4 1) ((wv v i).map Ag++[[vs (Gm (part v i))]])=.slice (.id 4 1) ((wv v (i+1)).map Ag) by rw[pk,AB];rfl),rfl⟩,Zr,Zr,Tv⟩,⟨⟨(show HO.tok 1 (((wv v i).map Ag).length+([[vs (Gm (part v i))]]:List (List AV)).length)=.tok 1 (i+1) by simp),rfl⟩,Tv⟩,Fh,Tv⟩
  have h3:¬((i:Int)<(3:Int)):=h3;have jS:i=3:=by omega
  have m5:=t7 (wv v 3) RF (by show(3:Nat)<=_;decide) (lU v h1);rw[<-jS]at m5;refine Xi .pure (Xi _ (Yi m5 ?_));exact .of_eq (show AV.tup [vs (Bk RF (wv v i)),vi 0]=.tup [vs (Dj v),vi (lR v)] by rw[jS,dl];unfold Dj lR;rw[h1];rfl)
 have h1:(Bo v)=false:=h1;have py:=(dL v);rw[show(Bo v)=false from h1]at py;refine Xi .pure (Xi _ (Yi py ?_));exact .of_eq (show AV.tup [vs ⟨#[]⟩,vi 2]=.tup [vs (Dj v),vi (lR v)] by unfold Dj lR;rw[h1];rfl)
theorem tY(hp:Al p):PC 130 [vi m,vi p] (.tup [.agg (Dt (Hu m p)),vi (mw m p)]):=by
 have hp:-9223372036854775808<=p/\p<9223372036854775808:=hp;refine Ps Cu Tryz.func130 rfl (Nz rfl) (Yi (fun h1=>?_) (fun h1=>?_))
 .have h1:(p:Int)<(0:Int):=h1;refine yN (yN ?_);exact .of_eq (show AV.tup [.agg [vi 0,vi 0,vi 0],vi 2]=.tup [.agg (Dt (Hu m p)),vi (mw m p)] by unfold Hu mw;rw[Aw (fun h=>by omega),Aw (fun h=>by omega)])
 have h1:¬((p:Int)<(0:Int)):=h1;refine Yi (fun h3=>?_) (fun h3=>?_)
 .have h3:(1000000:Int)<=(p:Int):=h3;refine yN (yN ?_);exact .of_eq (show AV.tup [.agg [vi 0,vi 0,vi 0],vi 2]=.tup [.agg (Dt (Hu m p)),vi (mw m p)] by unfold Hu mw;rw[Aw (fun h=>by omega),Aw (fun h=>by omega)])
 have h3:¬((1000000:Int)<=(p:Int)):=h3;refine Yi ⟨by omega,by omega,(by show Al (p);unfold Al;omega)⟩ ?_;refine Yi ⟨by omega,by omega⟩ ?_;refine yN (yN (AG (Bt (Bo ⟨m,p / 1000,p % 1000⟩)) (fun h5=>?_) (fun h5=>?_)))
 .have h5:(Bo ⟨m,p / 1000,p % 1000⟩)=true:=h5;have UN:=(dL ⟨m,p / 1000,p % 1000⟩);rw[show(Bo ⟨m,p / 1000,p % 1000⟩)=true from h5]at UN;refine Xi .pure (Xi _ (Yi UN (yN (yN (yN ?_)))));exact .of_eq (show AV.tup [.agg [vi m,vi (p / 1000),vi (p % 1000)],vi 0]=.tup [.agg (Dt (Hu m p)),vi (mw m p)] by unfold Hu mw;rw[AE ⟨by omega,by omega,h5⟩,AE ⟨by omega,by omega,h5⟩])
 have h5:(Bo ⟨m,p / 1000,p % 1000⟩)=false:=h5;have uQ:=(dL ⟨m,p / 1000,p % 1000⟩);rw[show(Bo ⟨m,p / 1000,p % 1000⟩)=false from h5]at uQ;refine Xi .pure (Xi _ (Yi uQ (yN (yN ?_))));exact .of_eq (show AV.tup [.agg [vi 0,vi 0,vi 0],vi 2]=.tup [.agg (Dt (Hu m p)),vi (mw m p)] by unfold Hu mw;rw[Aw (fun h=>by rw[h5]at h;exact absurd h.2.2 aa2),Aw (fun h=>by rw[h5]at h;exact absurd h.2.2 aa2)])
theorem iT(hp:Al p):PC 161 [vi p,.cptr [vi m]] (vs (Dj (Hu m p))):=by
 refine Ps Cu Tryz.func161 rfl (Nz rfl) (Xi .pure (Xi _ (Yi (tY m p hp) (yN (yN (Xi .pure (Xi _ (Yi (yV (Hu m p)) ?_))))))));exact .refl _
end Go.Eng
