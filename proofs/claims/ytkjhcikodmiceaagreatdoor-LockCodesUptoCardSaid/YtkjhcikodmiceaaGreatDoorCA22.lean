/- Lemmas 22. -/
import Derived.Test.YtkjhcikodmiceaaGreatDoorCA21
namespace Go.Eng
abbrev As0:=List Cd
abbrev As1:=List (List Sk)
def qb(x:List F)(roots:List Rq):An:=
 if(ET x roots).found=true then⟨true,E1 (AM (ET x roots).dec),(ET x roots).ss.infs,(ET x roots).stack.flatten⟩
 else⟨false,[],(ET x roots).ss.infs.take ((ET x roots).res+1),[]⟩
section
variable {x:List F}{roots:List Rq}
theorem fG:∀{s:List Sl},(∀y∈s,∃r,BG x y=some r)->∃l,KC x s=some l
 | [],_=>⟨[],rfl⟩
 |y::s,h=>by
  obtain⟨r,hr⟩:=h y (Ad ..);obtain⟨l,hl⟩:=fG (s:=s) fun z hz=>h z (Aj _ hz)<;>grind [KC]
theorem Jy.ok{s:SS}:∀{t:As0} {sl:As1} {b:As0},Dy x b->I8 roots b->Jy x roots s b t sl->Dy x (b++t)/\I8 roots (b++t)/\Gz (Gf roots (b++t)) (AM (b++t))=none
 | [],[],b,hd,hs,h=>by rw[B9];exact⟨hd,hs,h⟩
 | [],_::_,b,_,_,h=>h.elim
 |_::_,[],b,_,_,h=>h.elim
 |c::t,sk::sl,b,hd,hs,h=>by
  obtain⟨⟨p,needs,pre,post,k⟩,h⟩:=h;have hc:c∈Bl x p:=by rw[k.cands];simp
  obtain⟨c1,c2⟩:=G7 hc;have hu:Dg b c.rel.path=false:=by rw[c1];exact k.next.undone
  have:=Jy.ok (b:=b++[c]) (hd.snoc c2 hu) (hs.snoc k.next c1 k.fit k.noclash) h
  rw[Ct]at this;exact this
theorem Jy.needed{s:SS}{C:List CS}(hr:∀q∈roots,q.path∈C){D:As0}(hq:∀c∈D,c.rel.path∈C->∀q∈c.rel.reqs,q.path∈C):∀{t:As0} {sl:As1} {b:As0},b++t=D->(∀c∈b,c.rel.path∈C)->Jy x roots s b t sl->∀c∈D,c.rel.path∈C
 | [],[],b,e,hb,_=>by simp_all
 | [],_::_,b,_,_,h=>h.elim
 |_::_,[],b,_,_,h=>h.elim
 |c::t,sk::sl,b,e,hb,h=>by
  obtain⟨⟨p,needs,pre,post,k⟩,h⟩:=h;have hc:c∈Bl x p:=by rw[k.cands];simp
  obtain⟨c1,c2⟩:=G7 hc;refine Jy.needed hr hq (b:=b++[c]) (by rw[<-e];simp) (fun d hd=>?_) h;rcases Bh.1 hd with hd | hd
  .exact hb d hd
  .rw[AA.1 hd,c1];obtain⟨_,q,ax,e2⟩:=Iu k.next.next
   rw[<-e2];rcases Bh.1 ax with h1 | h1
   .exact hr q h1
   .obtain⟨l,hl,h2⟩:=GW.1 h1;obtain⟨d',vg,rfl⟩:=Ap.1 hl;exact hq d' (by rw[<-e];exact Bq _ vg) (hb d' vg) q h2
theorem ZS(hx:AU x=0){s:SS}{t:As0}{sl:As1}(h:Jy x roots s [] t sl):Hc x roots (E1 (AM t))=0:=by
 obtain⟨hd,hs,hl⟩:=h.ok (.nil x) (.nil roots);rw[HL]at hd hs hl;have hS:=dP hx hd hs hl;obtain⟨l,az⟩:=fG (x:=x) (s:=E1 (AM t)) fun y hy=>(hS.fnd y hy).imp fun _ h=>h.1;obtain⟨k1,k2,k3⟩:=If az;have hnb:∀q,(∃y,Bw (E1 (AM t)) q.path=some y/\has q.set (place y.ver)=true)->Dn l q=false:=fun q ⟨y,h1,h2⟩=>by
  have:=RP l q.path
  rw[k1,h1]at this;rw[BH]at this;obtain⟨r,hr,e⟩:=this;unfold Dn;rw[hr];dsimp only;have rJ:=k2 r (BX hr);have EZ:=(BN hx).1 r (E9 rJ).2.1;rw[EZ.plc,show place r.ver=place y.ver by rw[<-e];rfl,h2];rfl
 have rD:∀r,r∈l↔∃c∈t,c.rel=r:=fun r=>by
  constructor
  .intro hr
   have:DJ r∈E1 (AM t):=aa2
   obtain⟨c,hc,e⟩:=Ap.1 (F1.1 this);have h1:=k2 r hr;have h2:=KX hx (hd.cand c hc).1
   grind [DJ]
  .rintro⟨c,hc,rfl⟩
   have:Sc c∈l.map DJ:=by grind [F1]
   grind [KX,DJ,Dy.cand]
 have hnp:(l.map (·.path)).Nodup:=by
  have:=iz hd.sorted
  rw[<-k1,Bo]at this;exact this
 have AeZ:=om (roots:=roots) hnp;have HE:∀p∈l.map (·.path),p∈sy l roots:=fun p hp=>by
  obtain⟨r,hr,rfl⟩:=Ap.1 hp;obtain⟨c,hc,rfl⟩:=(rD r).1 hr;exact h.needed (C:=sy l roots) AeZ.root (D:=t) (fun d vg hdp q hq=>AeZ.req d.rel ((rD d.rel).2 ⟨d,vg,rfl⟩) hdp q hq) aa1 (fun _ h=>by cases h) c hc
 have CN:=De hnp HE;rw[Bs]at CN;unfold Hc;rw[AB (fun h=>h hx),AB (by grind [vd.inc]),az];dsimp only;rw[AB,AB,AB (Nat.not_lt.2 CN)]
 .grind [vd.root]
 .rw[Mu,Td];intro r hr;rw[Mu,Td];intro q hq;rw[Mu];have rJ:=k2 r hr;exact hnb q (hS.req (DJ r) aa2 r rJ q hq)
def uD(roots:List Rq):As0->As0->List gg
 |_,[]=>[]
 |b,c::t=>⟨AM b,Gf roots b,c.rel⟩::uD roots (b++[c]) t
theorem Qd(hx:AU x=0){s:SS}{D:As0}(hD:Dy x D):∀{t:As0} {sl:As1} {b:As0} {n:Nat},b++t=D->t.length<n->Jy x roots s b t sl ->
  ED x (E1 (AM D)) n (AM b) (Gf roots b)=(uD roots b t,true)
 |_,_,_,0,_,h,_=>by omega
 | [],[],b,n+1,e,_,h=>by
  have h:Gz (Gf roots b) (AM b)=none:=h;unfold ED;rw[h];rfl
 | [],_::_,b,_,_,_,h=>h.elim
 |_::_,[],b,_,_,_,h=>h.elim
 |c::t,sk::sl,b,n+1,e,hn,h=>by
  obtain⟨⟨p,needs,pre,post,k⟩,h⟩:=h;have hc:c∈Bl x p:=by rw[k.cands];simp
  obtain⟨c1,c2⟩:=G7 hc;have hcD:c∈D:=aa2
  have ih:=Qd hx hD (t:=t) (sl:=sl) (b:=b++[c]) (n:=n) aa0 aa0 h;have e1:AM b++[Sc c]=AM (b++[c]):=aa0
  unfold ED;rw[k.next.next]
  dsimp only;rw[<-c1,hD.findS hcD];dsimp only;rw[show BG x (Sc c)=some c.rel from KX hx (hD.cand c hcD).1];dsimp only;rw[e1,<-WA,ih];rfl
theorem G5{d:List (List V)}{v:gg}:∀(l:List F) (k:List Sk),DZ d v l k=DZ d v (l.filter fun r=>decide (r.path=v.rel.path)&&!r.yanked) k
 | [],k=>rfl
 |o::l,k=>by
  rw[List.filter_cons]
  by_cases h:(decide (o.path=v.rel.path)&&!o.yanked)=true
  .rw[AO h];unfold DZ;split
   .exact G5 l k
   split
   .exact G5 l k
   cases k with
   |nil=>rfl
   |cons y k=>
    dsimp only;split
    .rfl
    cases E5 d y.inf with
    |none=>rfl
    |some t=>
     dsimp only;split
     .exact G5 l k
     .rfl
  .rw[AB h];have h2:(!decide (o.path=v.rel.path)||o.yanked||!decide (plc o.ver<plc v.rel.ver))=true:=by
    grind
   conv=>lhs;unfold DZ;rw[AO h2]
   exact G5 l k
theorem T6{d:List (List V)}{v:gg}:∀{l:List F} {k:List Sk},(∀o∈l,¬plc o.ver<plc v.rel.ver)->DZ d v l k=(k,true)
 | [],k,_=>rfl
 |o::l,k,h=>by
  unfold DZ;rw[AO aa0];exact T6 fun o ho=>h o (Aj _ ho)
theorem ND{s:SS}{b:As0}{p:CS}{needs:List Nd}{c:Cd}(hN:jJ roots b p needs)(hcp:c.rel.path=p){rest:List F}(Yl:∀o∈rest,¬plc o.ver<plc c.rel.ver):∀{pre:As0} {sk k:List Sk},
  (∀o∈pre,o.rel.path=p/\o.rel.yanked=false/\o.place=plc o.rel.ver/\plc o.rel.ver<plc c.rel.ver)->Gg s b p needs pre sk->DZ s.drv ⟨AM b,Gf roots b,c.rel⟩ (pre.map (·.rel)++rest) (sk++k)=(k,true)
 | [],sk,k,_,h=>by
  have h:sk=[]:=h
  grind [T6]
 |o::pre,sk,k,ho,h=>by
  obtain⟨o1,o2,o3,o4⟩:=ho o (Ad ..);have h:if(needs.all fun n=>has n.rq.set o.place)=true then _ else _:=h
  have hex:((Gf roots b).any fun q=>decide (q.path=c.rel.path)&&!has q.set (plc o.rel.ver))=!(needs.all fun n=>has n.rq.set o.place):=by
   rw[DD,Fp,Cs,<-Mu,AZ];constructor
   .rintro⟨q,hq,e⟩ HE
    simp only[Ao,AP,Fp]at e;rw[<-Jv]at hq
    grind [jJ.mem]
   .intro hn;apply AH;intro OB;apply hn;intro n nI;obtain⟨n1,n2⟩:=(hN.mem n).1 nI<;>grind [Jv]
  rw[A7,FN];unfold DZ;rw[AB aa0];dsimp only;rw[hex]
  by_cases ha:(needs.all fun n=>has n.rq.set o.place)=true
  .rw[AO ha]at h;obtain⟨j,r,rfl,⟨j1,j2⟩,h3⟩:=h;rw[ha,AB aa3,FN];dsimp only;rw[AB aa0];have e1:E5 s.drv (j:Nat)=some (D2 s j):=by
    unfold E5;simp_all
   rw[e1];dsimp only;have e2:AM b++[DJ o.rel]=AM (b++[o]):=by unfold AM;rw[Au];rfl
   rw[e2,AO j2];exact ND hN hcp Yl (fun y hy=>ho y (Aj _ hy)) h3
  .rw[AB ha]at h;have ha:(needs.all fun n=>has n.rq.set o.place)=false:=aa0
   rw[ha,AO (show(!false)=true from rfl)];exact ND hN hcp Yl (fun y hy=>ho y (Aj _ hy)) h
theorem ZP(hx:AU x=0){p:CS}{pre post:As0}{c:Cd}(h:Bl x p=pre++c::post):(∀o∈pre,plc o.rel.ver<plc c.rel.ver)/\∀o∈post,plc c.rel.ver<plc o.rel.ver:=by
 have hs:=(BN hx).2.filter (fun r=>decide (r.path=p)&&!r.yanked);have hpw:(Bl x p).Pairwise fun a b=>plc a.rel.ver<plc b.rel.ver:=by
  unfold Bl;rw[List.pairwise_map];refine List.Pairwise.imp_of_mem ?_ hs;intro a b ha hb CL;simp only[C3,Ao,AP]at ha hb;have hka:=(BN hx).1 a ha.1;have hkb:=(BN hx).1 b hb.1;show plc a.ver<plc b.ver;rw[hka.plc,hkb.plc];rcases CL with h1 | ⟨_,h1⟩
  .grind [CY]
  .have h2:a.ver.a=b.ver.a:=by
    grind [J7.maj]
   have v1:=Hz hka.val
   grind [Hz,zZ,place,J7.val]
 grind [List.mem_cons_self,List.pairwise_cons]
theorem Ts(hx:AU x=0){s:SS}:∀{t:As0} {sl:As1} {b:As0},Jy x roots s b t sl->(uD roots b t).foldl (Db x s.drv) (true,sl.flatten)=(true,[])
 | [],[],_,_=>rfl
 | [],_::_,b,h=>h.elim
 |_::_,[],b,h=>h.elim
 |c::t,sk::sl,b,h=>by
  obtain⟨⟨p,needs,pre,post,k⟩,h⟩:=h;have hcm:∀d∈Bl x p,d.rel.path=p/\d.rel∈x/\d.rel.yanked=false/\d.place=plc d.rel.ver:=fun d hd=>by
   grind [G7]
  have hc:c∈Bl x p:=by rw[k.cands];simp
  obtain⟨c1,_,c3,_⟩:=hcm c hc;obtain⟨s1,s2⟩:=ZP hx k.cands;have Apj:(x.filter fun r=>decide (r.path=c.rel.path)&&!r.yanked)=pre.map (·.rel)++(c.rel::post.map (·.rel)):=by
   have:(Bl x p).map (·.rel)=x.filter fun r=>decide (r.path=p)&&!r.yanked:=by
    unfold Bl;rw[Bo];exact Kc _
   rw[c1,<-this,k.cands,Au];rfl
  have key:=ND (s:=s) k.next c1 (rest:=c.rel::post.map (·.rel)) (fun o ho=>by
   grind) (pre:=pre) (sk:=sk) (k:=sl.flatten) (fun o ho=>by
   obtain⟨a1,_,a3,a4⟩:=hcm o (by rw[k.cands];exact Bq _ ho)<;>simp_all) k.skips
  have rN:Db x s.drv (true,(sk::sl).flatten) ⟨AM b,Gf roots b,c.rel⟩=(true,sl.flatten):=by
   grind [Db,G5]
  show((uD roots (b++[c]) t).foldl (Db x s.drv) (Db x s.drv (true,(sk::sl).flatten) ⟨AM b,Gf roots b,c.rel⟩))=_;rw[rN];exact Ts hx h
theorem gD(hx:AU x=0)(hr:Bb roots=0)(hf:(ET x roots).ss.full=false):HT x roots (qb x roots)=0:=by
 have hR:=Zp hx hr;unfold qb;generalize ET x roots=o at *
 by_cases nD:o.found=true
 .rw[AO nD];obtain⟨_,t,sl,y2,y3,y4,_⟩:=hR.yes nD;rw[HL]at y2 y3;have hd:=Vh hx hr hR.der.len hR.der.der;have EZ:=(y4.ok (.nil x) (.nil roots)).1;rw[HL]at EZ;unfold HT;rw[y2,y3];dsimp only;rw[hd];have hv:visits x roots (E1 (AM t))=(uD roots [] t,true):=by
   have CN:t.length<(E1 (AM t)).length+1:=by
    have h1:(AM t).length<=(E1 (AM t)).length:=by
     have hn0:((AM t).map (·.path)).Nodup:=by rw[LZ];exact EZ.nodup
     have hn:(AM t).Nodup:=List.Pairwise.of_map (fun y:Sl=>y.path) (fun a b h e=>h (by rw[e])) hn0;exact De hn fun y hy=>F1.2 hy
    grind
   have:=Qd hx EZ (t:=t) (sl:=sl) (b:=[]) (roots:=roots) (s:=o.ss) aa1 CN y4
   grind [visits]
  grind [ZS,Ts]
 .rw[AB nD];have nD:o.found=false:=aa0
  obtain⟨_,_,n3⟩:=hR.no nD;obtain⟨n4,n5⟩:=n3 hf;have Akm:D2 o.ss o.res=[]:=by
   cases h:D2 o.ss o.res with
   |nil=>rfl
   |cons u l=>
    rw[h]at n5
    have:=(LL.1 n5).2 u (Ad ..)
    cases this
  have hd:=Vh hx hr (l:=o.ss.infs.take (o.res+1)) (by have:=hR.der.len;grind) (Kz hR.der.der (o.res+1))
  grind [HT,G4]
end
end Go.Eng
