/- Lemmas 22. -/
import Derived.Test.YtkjhcikodmiceaaGreatDoorRA21
namespace Go.Eng
def gG(x:List Rl)(roots:List Rq):An:=
 if(EM x roots).found=true then⟨true,Ev (AH (EM x roots).dec),(EM x roots).ss.infs,(EM x roots).stack.flatten⟩
 else⟨false,[],(EM x roots).ss.infs.take ((EM x roots).res+1),[]⟩
section
variable {x:List Rl}{roots:List Rq}
theorem YZ:∀{s:List Sl},(∀y∈s,∃r,BL x y=some r)->∃l,JG x s=some l
 | [],_=>⟨[],rfl⟩
 |y::s,h=>by
  obtain⟨r,hr⟩:=h y (Ae ..);obtain⟨l,hl⟩:=YZ (s:=s) fun z hz=>h z (Ah _ hz)<;>grind [JG]
theorem Chain.ok{s:SS}:∀{t:List Cd} {sl:List (List Sk)} {b:List Cd},Dz x b->Is roots b->Chain x roots s b t sl->Dz x (b++t)/\Is roots (b++t)/\F9 (FR roots (b++t)) (AH (b++t))=none
 | [],[],b,hd,hs,h=>by rw[B5];exact⟨hd,hs,h⟩
 | [],_::_,b,_,_,h=>h.elim
 |_::_,[],b,_,_,h=>h.elim
 |c::t,sk::sl,b,hd,hs,h=>by
  obtain⟨⟨p,needs,pre,post,k⟩,h⟩:=h;have hc:c∈Br x p:=by rw[k.cands];simp
  obtain⟨c1,c2⟩:=GK hc;have hu:De b c.rel.path=false:=by rw[c1];exact k.next.undone
  have:=Chain.ok (b:=b++[c]) (hd.snoc c2 hu) (hs.snoc k.next c1 k.fit k.noclash) h
  rw[AK]at this;exact this
theorem Chain.needed{s:SS}{C:List ByteArray}(hr:∀q∈roots,q.path∈C){D:List Cd}(hq:∀c∈D,c.rel.path∈C->∀q∈c.rel.reqs,q.path∈C):∀{t:List Cd} {sl:List (List Sk)} {b:List Cd},b++t=D->(∀c∈b,c.rel.path∈C)->Chain x roots s b t sl->∀c∈D,c.rel.path∈C
 | [],[],b,e,hb,_=>by simp_all
 | [],_::_,b,_,_,h=>h.elim
 |_::_,[],b,_,_,h=>h.elim
 |c::t,sk::sl,b,e,hb,h=>by
  obtain⟨⟨p,needs,pre,post,k⟩,h⟩:=h;have hc:c∈Br x p:=by rw[k.cands];simp
  obtain⟨c1,c2⟩:=GK hc;refine Chain.needed hr hq (b:=b++[c]) (by rw[<-e];simp) (fun d hd=>?_) h;rcases Bk.1 hd with hd | hd
  .exact hb d hd
  .rw[AC.1 hd,c1];obtain⟨_,q,LP,e2⟩:=HJ k.next.next
   rw[<-e2];rcases Bk.1 LP with h1 | h1
   .exact hr q h1
   .obtain⟨l,hl,h2⟩:=Fy.1 h1;obtain⟨d',ld,rfl⟩:=Ar.1 hl;exact hq d' (by rw[<-e];exact Bw _ ld) (hb d' ld) q h2
theorem VR(hx:AX x=0){s:SS}{t:List Cd}{sl:List (List Sk)}(h:Chain x roots s [] t sl):GM x roots (Ev (AH t))=0:=by
 obtain⟨hd,hs,hl⟩:=h.ok (.nil x) (.nil roots);rw[Fc]at hd hs hl;have hS:=X6 hx hd hs hl;obtain⟨l,SV⟩:=YZ (x:=x) (s:=Ev (AH t)) fun y hy=>(hS.fnd y hy).imp fun _ h=>h.1;obtain⟨k1,k2,k3⟩:=Hx SV;have y8:∀q,(∃y,BD (Ev (AH t)) q.path=some y/\has q.set (place y.ver)=true)->Dk l q=false:=fun q ⟨y,h1,h2⟩=>by
  have:=PB l q.path
  rw[k1,h1]at this;rw[B1]at this;obtain⟨r,hr,e⟩:=this;unfold Dk;rw[hr];dsimp only;have lh:=k2 r (B9 hr);have DY:=(BY hx).1 r (EE lh).2.1;rw[DY.plc,show place r.ver=place y.ver by rw[<-e];rfl,h2];rfl
 have tR:∀r,r∈l↔∃c∈t,c.rel=r:=fun r=>by
  constructor
  .intro hr
   have:DJ r∈Ev (AH t):=aa1
   obtain⟨c,hc,e⟩:=Ar.1 (FL.1 this);have h1:=k2 r hr;have h2:=JW hx (hd.cand c hc).1
   grind [DJ]
  .rintro⟨c,hc,rfl⟩
   have:PM c∈l.map DJ:=by grind [FL]
   grind [JW,DJ,Dz.cand]
 have hnp:(l.map (·.path)).Nodup:=by
  have:=ap hd.sorted
  rw[<-k1,BI]at this;exact this
 have tA:=fm (roots:=roots) hnp;have GP:∀p∈l.map (·.path),p∈jv l roots:=fun p hp=>by
  obtain⟨r,hr,rfl⟩:=Ar.1 hp;obtain⟨c,hc,rfl⟩:=(tR r).1 hr;exact h.needed (C:=jv l roots) tA.root (D:=t) (fun d ld hdp q hq=>tA.req d.rel ((tR d.rel).2 ⟨d,ld,rfl⟩) hdp q hq) aa0 (fun _ h=>by cases h) c hc
 have CF:=Da hnp GP;rw[AW]at CF;unfold GM;rw[AB (fun h=>h hx),AB (by grind [la.inc]),SV];dsimp only;rw[AB,AB,AB (Nat.not_lt.2 CF)]
 .grind [la.root]
 .rw[K8,Qx];intro r hr;rw[K8,Qx];intro q hq;rw[K8];have lh:=k2 r hr;exact y8 q (hS.req (DJ r) aa1 r lh q hq)
def kX(roots:List Rq):List Cd->List Cd->List Zk
 |_,[]=>[]
 |b,c::t=>⟨AH b,FR roots b,c.rel⟩::kX roots (b++[c]) t
theorem Oe(hx:AX x=0){s:SS}{D:List Cd}(hD:Dz x D):∀{t:List Cd} {sl:List (List Sk)} {b:List Cd} {n:Nat},b++t=D->t.length<n->Chain x roots s b t sl ->
  Ew x (Ev (AH D)) n (AH b) (FR roots b)=(kX roots b t,true)
 |_,_,_,0,_,h,_=>by omega
 | [],[],b,n+1,e,_,h=>by
  have h:F9 (FR roots b) (AH b)=none:=h;unfold Ew;rw[h];rfl
 | [],_::_,b,_,_,_,h=>h.elim
 |_::_,[],b,_,_,_,h=>h.elim
 |c::t,sk::sl,b,n+1,e,hn,h=>by
  obtain⟨⟨p,needs,pre,post,k⟩,h⟩:=h;have hc:c∈Br x p:=by rw[k.cands];simp
  obtain⟨c1,c2⟩:=GK hc;have hcD:c∈D:=aa1
  have ih:=Oe hx hD (t:=t) (sl:=sl) (b:=b++[c]) (n:=n) Wk Wk h;have e1:AH b++[PM c]=AH (b++[c]):=Wk
  unfold Ew;rw[k.next.next]
  dsimp only;rw[<-c1,hD.findS hcD];dsimp only;rw[show BL x (PM c)=some c.rel from JW hx (hD.cand c hcD).1];dsimp only;rw[e1,<-TK,ih];rfl
theorem GH{d:List (List Tm)}{v:Zk}:∀(l:List Rl) (k:List Sk),DV d v l k=DV d v (l.filter fun r=>decide (r.path=v.rel.path)&&!r.yanked) k
 | [],k=>rfl
 |o::l,k=>by
  rw[List.filter_cons]
  by_cases h:(decide (o.path=v.rel.path)&&!o.yanked)=true
  .rw[As h];unfold DV;split
   .exact GH l k
   split
   .exact GH l k
   cases k with
   |nil=>rfl
   |cons y k=>
    dsimp only;split
    .rfl
    cases EH d y.inf with
    |none=>rfl
    |some t=>
     dsimp only;split
     .exact GH l k
     .rfl
  .rw[AB h];have h2:(!decide (o.path=v.rel.path)||o.yanked||!decide (plc o.ver<plc v.rel.ver))=true:=by
    grind
   conv=>lhs;unfold DV;rw[As h2]
   exact GH l k
theorem Re{d:List (List Tm)}{v:Zk}:∀{l:List Rl} {k:List Sk},(∀o∈l,¬plc o.ver<plc v.rel.ver)->DV d v l k=(k,true)
 | [],k,_=>rfl
 |o::l,k,h=>by
  unfold DV;rw[As Wk];exact Re fun o ho=>h o (Ah _ ho)
theorem Mi{s:SS}{b:List Cd}{p:ByteArray}{needs:List Nd}{c:Cd}(hN:bn roots b p needs)(hcp:c.rel.path=p){rest:List Rl}(bU:∀o∈rest,¬plc o.ver<plc c.rel.ver):∀{pre:List Cd} {sk k:List Sk},
  (∀o∈pre,o.rel.path=p/\o.rel.yanked=false/\o.place=plc o.rel.ver/\plc o.rel.ver<plc c.rel.ver)->FS s b p needs pre sk->DV s.drv ⟨AH b,FR roots b,c.rel⟩ (pre.map (·.rel)++rest) (sk++k)=(k,true)
 | [],sk,k,_,h=>by
  have h:sk=[]:=h
  grind [Re]
 |o::pre,sk,k,ho,h=>by
  obtain⟨o1,o2,o3,o4⟩:=ho o (Ae ..);have h:if(needs.all fun n=>has n.rq.set o.place)=true then _ else _:=h
  have hex:((FR roots b).any fun q=>decide (q.path=c.rel.path)&&!has q.set (plc o.rel.ver))=!(needs.all fun n=>has n.rq.set o.place):=by
   rw[Dd,E7,CB,<-K8,A9];constructor
   .rintro⟨q,hq,e⟩ GP
    simp only[Aj,AQ,E7]at e;rw[<-IU]at hq
    grind [bn.mem]
   .intro hn;apply AY;intro OF;apply hn;intro n bS;obtain⟨n1,n2⟩:=(hN.mem n).1 bS<;>grind [IU]
  rw[Bb,K9];unfold DV;rw[AB Wk];dsimp only;rw[hex]
  by_cases ha:(needs.all fun n=>has n.rq.set o.place)=true
  .rw[As ha]at h;obtain⟨j,r,rfl,⟨j1,j2⟩,h3⟩:=h;rw[ha,AB aa2,K9];dsimp only;rw[AB Wk];have e1:EH s.drv (j:Nat)=some (DX s j):=by
    unfold EH;simp_all
   rw[e1];dsimp only;have e2:AH b++[DJ o.rel]=AH (b++[o]):=by unfold AH;rw[AG];rfl
   rw[e2,As j2];exact Mi hN hcp bU (fun y hy=>ho y (Ah _ hy)) h3
  .rw[AB ha]at h;have ha:(needs.all fun n=>has n.rq.set o.place)=false:=Wk
   rw[ha,As (show(!false)=true from rfl)];exact Mi hN hcp bU (fun y hy=>ho y (Ah _ hy)) h
theorem VN(hx:AX x=0){p:ByteArray}{pre post:List Cd}{c:Cd}(h:Br x p=pre++c::post):(∀o∈pre,plc o.rel.ver<plc c.rel.ver)/\∀o∈post,plc c.rel.ver<plc o.rel.ver:=by
 have hs:=(BY hx).2.filter (fun r=>decide (r.path=p)&&!r.yanked);have hpw:(Br x p).Pairwise fun a b=>plc a.rel.ver<plc b.rel.ver:=by
  unfold Br;rw[JM];refine List.Pairwise.imp_of_mem ?_ hs;intro a b ha hb BW;simp only[CQ,Aj,AQ]at ha hb;have hka:=(BY hx).1 a ha.1;have hkb:=(BY hx).1 b hb.1;show plc a.ver<plc b.ver;rw[hka.plc,hkb.plc];rcases BW with h1 | ⟨_,h1⟩
  .grind [CO]
  .have h2:a.ver.a=b.ver.a:=by
    grind [Jf.maj]
   have v1:=G3 hka.val
   grind [G3,o5,place,Jf.val]
 grind [List.mem_cons_self,List.pairwise_cons]
theorem QD(hx:AX x=0){s:SS}:∀{t:List Cd} {sl:List (List Sk)} {b:List Cd},Chain x roots s b t sl->(kX roots b t).foldl (CT x s.drv) (true,sl.flatten)=(true,[])
 | [],[],_,_=>rfl
 | [],_::_,b,h=>h.elim
 |_::_,[],b,h=>h.elim
 |c::t,sk::sl,b,h=>by
  obtain⟨⟨p,needs,pre,post,k⟩,h⟩:=h;have tB:∀d∈Br x p,d.rel.path=p/\d.rel∈x/\d.rel.yanked=false/\d.place=plc d.rel.ver:=fun d hd=>by
   grind [GK]
  have hc:c∈Br x p:=by rw[k.cands];simp
  obtain⟨c1,_,c3,_⟩:=tB c hc;obtain⟨s1,s2⟩:=VN hx k.cands;have Ady:(x.filter fun r=>decide (r.path=c.rel.path)&&!r.yanked)=pre.map (·.rel)++(c.rel::post.map (·.rel)):=by
   have:(Br x p).map (·.rel)=x.filter fun r=>decide (r.path=p)&&!r.yanked:=by
    unfold Br;rw[BI];exact Jk _
   rw[c1,<-this,k.cands,AG];rfl
  have key:=Mi (s:=s) k.next c1 (rest:=c.rel::post.map (·.rel)) (fun o ho=>by
   grind) (pre:=pre) (sk:=sk) (k:=sl.flatten) (fun o ho=>by
   obtain⟨a1,_,a3,a4⟩:=tB o (by rw[k.cands];exact Bw _ ho)<;>simp_all) k.skips
  have oW:CT x s.drv (true,(sk::sl).flatten) ⟨AH b,FR roots b,c.rel⟩=(true,sl.flatten):=by
   grind [CT,GH]
  show((kX roots (b++[c]) t).foldl (CT x s.drv) (CT x s.drv (true,(sk::sl).flatten) ⟨AH b,FR roots b,c.rel⟩))=_;rw[oW];exact QD hx h
theorem ZA(hx:AX x=0)(hr:Bu roots=0)(hf:(EM x roots).ss.full=false):Hd x roots (gG x roots)=0:=by
 have hR:=Vo hx hr;unfold gG;generalize EM x roots=o at *
 by_cases dX:o.found=true
 .rw[As dX];obtain⟨_,t,sl,y2,y3,y4,_⟩:=hR.yes dX;rw[Fc]at y2 y3;have hd:=So hx hr hR.der.len hR.der.der;have DY:=(y4.ok (.nil x) (.nil roots)).1;rw[Fc]at DY;unfold Hd;rw[y2,y3];dsimp only;rw[hd];have hv:visits x roots (Ev (AH t))=(kX roots [] t,true):=by
   have CF:t.length<(Ev (AH t)).length+1:=by
    have h1:(AH t).length<=(Ev (AH t)).length:=by
     have rQ:((AH t).map (·.path)).Nodup:=by rw[KE];exact DY.nodup
     have hn:(AH t).Nodup:=List.Pairwise.of_map (fun y:Sl=>y.path) (fun a b h e=>h (by rw[e])) rQ;exact Da hn fun y hy=>FL.2 hy
    grind
   have:=Oe hx DY (t:=t) (sl:=sl) (b:=[]) (roots:=roots) (s:=o.ss) aa0 CF y4
   grind [visits]
  grind [VR,QD]
 .rw[AB dX];have dX:o.found=false:=Wk
  obtain⟨_,_,n3⟩:=hR.no dX;obtain⟨n4,n5⟩:=n3 hf;have ze:DX o.ss o.res=[]:=by
   cases h:DX o.ss o.res with
   |nil=>rfl
   |cons u l=>
    rw[h]at n5
    have:=(Ku.1 n5).2 u (Ae ..)
    cases this
  have hd:=So hx hr (l:=o.ss.infs.take (o.res+1)) (by have:=hR.der.len;grind) (JC hR.der.der (o.res+1))
  grind [Hd,GG]
end
end Go.Eng
