/- Lemmas 30. -/
import Derived.Test.YtkmnnpmneamgoaaGreatDoorPA29
namespace Go.Eng
def fC(x:List Rl)(roots:List Rq):An:=
 if(EX x roots).found=true then⟨true,C3 (Au (EX x roots).dec),(EX x roots).ss.infs,(EX x roots).stack.flatten⟩
 else⟨false,[],(EX x roots).ss.infs.take ((EX x roots).res+1),[]⟩
section
variable {x:List Rl}{roots:List Rq}
theorem an:∀{s:List Sl},(∀y∈s,∃r,Bo x y=some r)->∃l,FN x s=some l
 | [],_=>⟨[],rfl⟩
 |y::s,h=>by
  obtain⟨r,hr⟩:=h y (Ah ..);obtain⟨l,hl⟩:=an (s:=s) fun z hz=>h z (Ai _ hz)<;>grind [FN]
theorem JU.ok{s:SS}:∀{t:List Cd} {sl:List (List Sk)} {b:List Cd},Dp x b->IW roots b->JU x roots s b t sl->Dp x (b++t)/\IW roots (b++t)/\DF (GY roots (b++t)) (Au (b++t))=none
 | [],[],b,hd,hs,h=>by rw[DV];exact⟨hd,hs,h⟩
 | [],_::_,b,_,_,h=>h.elim
 |_::_,[],b,_,_,h=>h.elim
 |c::t,sk::sl,b,hd,hs,h=>by
  obtain⟨⟨p,needs,pre,post,k⟩,h⟩:=h;have hc:c∈Be x p:=by rw[k.cands];simp
  obtain⟨c1,c2⟩:=GB hc;have hu:Dv b c.rel.path=false:=by rw[c1];exact k.next.undone
  have:=JU.ok (b:=b++[c]) (hd.snoc c2 hu) (hs.snoc k.next c1 k.fit k.noclash) h
  rw[Kr]at this;exact this
theorem JU.needed{s:SS}{C:List ByteArray}(hr:∀q∈roots,q.path∈C){D:List Cd}(hq:∀c∈D,c.rel.path∈C->∀q∈c.rel.reqs,q.path∈C):∀{t:List Cd} {sl:List (List Sk)} {b:List Cd},b++t=D->(∀c∈b,c.rel.path∈C)->JU x roots s b t sl->∀c∈D,c.rel.path∈C
 | [],[],b,e,hb,_=>by simp_all
 | [],_::_,b,_,_,h=>h.elim
 |_::_,[],b,_,_,h=>h.elim
 |c::t,sk::sl,b,e,hb,h=>by
  obtain⟨⟨p,needs,pre,post,k⟩,h⟩:=h;have hc:c∈Be x p:=by rw[k.cands];simp
  obtain⟨c1,c2⟩:=GB hc;refine JU.needed hr hq (b:=b++[c]) (by rw[<-e];simp) (fun d hd=>?_) h;rcases Bc.1 hd with hd | hd
  .exact hb d hd
  .rw[AD.1 hd,c1];obtain⟨_,q,hq',e2⟩:=In k.next.next
   rw[<-e2];rcases Bc.1 hq' with h1 | h1
   .exact hr q h1
   .obtain⟨l,hl,h2⟩:=Fk.1 h1;obtain⟨d',lx,rfl⟩:=Ar.1 hl;exact hq d' (by rw[<-e];exact Bw _ lx) (hb d' lx) q h2
theorem W9(hx:Av x=0){s:SS}{t:List Cd}{sl:List (List Sk)}(h:JU x roots s [] t sl):Db x roots (C3 (Au t))=0:=by
 obtain⟨hd,hs,hl⟩:=h.ok (.nil x) (.nil roots);rw[Ek]at hd hs hl;have hS:=Zx hx hd hs hl;obtain⟨l,Zb⟩:=an (x:=x) (s:=C3 (Au t)) fun y hy=>(hS.fnd y hy).imp fun _ h=>h.1;obtain⟨k1,k2,k3⟩:=G5 Zb;have xU:∀q,(∃y,AB (C3 (Au t)) q.path=some y/\has q.set (place y.ver)=true)->B9 l q=false:=fun q ⟨y,h1,h2⟩=>by
  have:=Qm l q.path
  rw[k1,h1]at this;rw[B3]at this;obtain⟨r,hr,e⟩:=this;unfold B9;rw[hr];dsimp only;have bR:=k2 r (Bn hr);have Gv:=(BC hx).1 r (CH bR).2.1;rw[Gv.plc,show place r.ver=place y.ver by rw[<-e];rfl,h2];rfl
 have lE:∀r,r∈l↔∃c∈t,c.rel=r:=fun r=>by
  constructor
  .intro hr
   have:Cq r∈C3 (Au t):=by grind
   obtain⟨c,hc,e⟩:=Ar.1 (Gp.1 this);have h1:=k2 r hr;have h2:=KF hx (hd.cand c hc).1
   grind [Cq]
  .rintro⟨c,hc,rfl⟩
   have:Qs c∈l.map Cq:=by grind [Gp]
   grind [KF,Cq,Dp.cand]
 have hnp:(l.map (·.path)).Nodup:=by
  have:=bT hd.sorted
  rw[<-k1,B2]at this;exact this
 have xy:=Wh (roots:=roots) hnp;have GI:∀p∈l.map (·.path),p∈Jy l roots:=fun p hp=>by
  obtain⟨r,hr,rfl⟩:=Ar.1 hp;obtain⟨c,hc,rfl⟩:=(lE r).1 hr;exact h.needed (C:=Jy l roots) xy.root (D:=t) (fun d lx hdp q hq=>xy.req d.rel ((lE d.rel).2 ⟨d,lx,rfl⟩) hdp q hq) aa1 (fun _ h=>by cases h) c hc
 have CD:=CM hnp GI;rw[BR]at CD;unfold Db;rw[AI (fun h=>h hx),AI (by grind [ru.inc]),Zb];dsimp only;rw[AI,AI,AI (Nat.not_lt.2 CD)]
 .grind [ru.root]
 .rw[LY,Rd];intro r hr;rw[LY,Rd];intro q hq;rw[LY];have bR:=k2 r hr;exact xU q (hS.req (Cq r) (by grind) r bR q hq)
def nS(roots:List Rq):List Cd->List Cd->List WT
 |_,[]=>[]
 |b,c::t=>⟨Au b,GY roots b,c.rel⟩::nS roots (b++[c]) t
theorem OW(hx:Av x=0){s:SS}{D:List Cd}(hD:Dp x D):∀{t:List Cd} {sl:List (List Sk)} {b:List Cd} {n:Nat},b++t=D->t.length<n->JU x roots s b t sl ->
  D3 x (C3 (Au D)) n (Au b) (GY roots b)=(nS roots b t,true)
 |_,_,_,0,_,h,_=>by omega
 | [],[],b,n+1,e,_,h=>by
  have h:DF (GY roots b) (Au b)=none:=h;unfold D3;rw[h];rfl
 | [],_::_,b,_,_,_,h=>h.elim
 |_::_,[],b,_,_,_,h=>h.elim
 |c::t,sk::sl,b,n+1,e,hn,h=>by
  obtain⟨⟨p,needs,pre,post,k⟩,h⟩:=h;have hc:c∈Be x p:=by rw[k.cands];simp
  obtain⟨c1,c2⟩:=GB hc;have hcD:c∈D:=by grind
  have ih:=OW hx hD (t:=t) (sl:=sl) (b:=b++[c]) (n:=n) (by simp_all) (by simp_all) h;have e1:Au b++[Qs c]=Au (b++[c]):=by simp_all
  unfold D3;rw[k.next.next]
  dsimp only;rw[<-c1,hD.findS hcD];dsimp only;rw[show Bo x (Qs c)=some c.rel from KF hx (hD.cand c hcD).1];dsimp only;rw[e1,<-UC,ih];rfl
theorem Hk{d:List (List Tm)}{v:WT}:∀(l:List Rl) (k:List Sk),DJ d v l k=DJ d v (l.filter fun r=>decide (r.path=v.rel.path)&&!r.yanked) k
 | [],k=>rfl
 |o::l,k=>by
  rw[List.filter_cons]
  by_cases h:(decide (o.path=v.rel.path)&&!o.yanked)=true
  .rw[AX h];unfold DJ;split
   .exact Hk l k
   split
   .exact Hk l k
   cases k with
   |nil=>rfl
   |cons y k=>
    dsimp only;split
    .rfl
    cases DG d y.inf with
    |none=>rfl
    |some t=>
     dsimp only;split
     .exact Hk l k
     .rfl
  .rw[AI h];have h2:(!decide (o.path=v.rel.path)||o.yanked||!decide (plc o.ver<plc v.rel.ver))=true:=by
    grind
   conv=>lhs;unfold DJ;rw[AX h2]
   exact Hk l k
theorem RL{d:List (List Tm)}{v:WT}:∀{l:List Rl} {k:List Sk},(∀o∈l,¬plc o.ver<plc v.rel.ver)->DJ d v l k=(k,true)
 | [],k,_=>rfl
 |o::l,k,h=>by
  unfold DJ;rw[AX (by simp_all)];exact RL fun o ho=>h o (Ai _ ho)
theorem MU{s:SS}{b:List Cd}{p:ByteArray}{needs:List Nd}{c:Cd}(hN:X8 roots b p needs)(hcp:c.rel.path=p){rest:List Rl}(V2:∀o∈rest,¬plc o.ver<plc c.rel.ver):∀{pre:List Cd} {sk k:List Sk},
  (∀o∈pre,o.rel.path=p/\o.rel.yanked=false/\o.place=plc o.rel.ver/\plc o.rel.ver<plc c.rel.ver)->GG s b p needs pre sk->DJ s.drv ⟨Au b,GY roots b,c.rel⟩ (pre.map (·.rel)++rest) (sk++k)=(k,true)
 | [],sk,k,_,h=>by
  have h:sk=[]:=h
  grind [RL]
 |o::pre,sk,k,ho,h=>by
  obtain⟨o1,o2,o3,o4⟩:=ho o (Ah ..);have h:if(needs.all fun n=>has n.rq.set o.place)=true then _ else _:=h
  have hex:((GY roots b).any fun q=>decide (q.path=c.rel.path)&&!has q.set (plc o.rel.ver))=!(needs.all fun n=>has n.rq.set o.place):=by
   rw[Dh,EI,Bu,<-LY,BO];constructor
   .rintro⟨q,hq,e⟩ GI
    simp only[Aj,A8,EI]at e;rw[<-Im]at hq
    grind [X8.mem]
   .intro hn;apply A9;intro Me;apply hn;intro n bM;obtain⟨n1,n2⟩:=(hN.mem n).1 bM<;>grind [Im]
  rw[Bv,F2];unfold DJ;rw[AI (by simp_all)];dsimp only;rw[hex]
  by_cases ha:(needs.all fun n=>has n.rq.set o.place)=true
  .rw[AX ha]at h;obtain⟨j,r,rfl,⟨j1,j2⟩,h3⟩:=h;rw[ha,AI aa2,F2];dsimp only;rw[AI (by simp_all)];have e1:DG s.drv (j:Nat)=some (Em s j):=by
    unfold DG;simp_all
   rw[e1];dsimp only;have e2:Au b++[Cq o.rel]=Au (b++[o]):=by unfold Au;rw[BD];rfl
   rw[e2,AX j2];exact MU hN hcp V2 (fun y hy=>ho y (Ai _ hy)) h3
  .rw[AI ha]at h;have ha:(needs.all fun n=>has n.rq.set o.place)=false:=by simp_all
   rw[ha,AX (show(!false)=true from rfl)];exact MU hN hcp V2 (fun y hy=>ho y (Ai _ hy)) h
theorem W6(hx:Av x=0){p:ByteArray}{pre post:List Cd}{c:Cd}(h:Be x p=pre++c::post):(∀o∈pre,plc o.rel.ver<plc c.rel.ver)/\∀o∈post,plc c.rel.ver<plc o.rel.ver:=by
 have hs:=(BC hx).2.filter (fun r=>decide (r.path=p)&&!r.yanked);have hpw:(Be x p).Pairwise fun a b=>plc a.rel.ver<plc b.rel.ver:=by
  unfold Be;rw[List.pairwise_map];refine List.Pairwise.imp_of_mem ?_ hs;intro a b ha hb E1;simp only[B6,Aj,A8]at ha hb;have hka:=(BC hx).1 a ha.1;have hkb:=(BC hx).1 b hb.1;show plc a.ver<plc b.ver;rw[hka.plc,hkb.plc];rcases E1 with h1 | ⟨_,h1⟩
  .grind [DQ]
  .have h2:a.ver.a=b.ver.a:=by
    grind [JP.maj]
   have v1:=FY hka.val
   grind [FY,rY,place,JP.val]
 grind [List.mem_cons_self,List.pairwise_cons]
theorem Rm(hx:Av x=0){s:SS}:∀{t:List Cd} {sl:List (List Sk)} {b:List Cd},JU x roots s b t sl->(nS roots b t).foldl (Ci x s.drv) (true,sl.flatten)=(true,[])
 | [],[],_,_=>rfl
 | [],_::_,b,h=>h.elim
 |_::_,[],b,h=>h.elim
 |c::t,sk::sl,b,h=>by
  obtain⟨⟨p,needs,pre,post,k⟩,h⟩:=h;have rG:∀d∈Be x p,d.rel.path=p/\d.rel∈x/\d.rel.yanked=false/\d.place=plc d.rel.ver:=fun d hd=>by
   grind [GB]
  have hc:c∈Be x p:=by rw[k.cands];simp
  obtain⟨c1,_,c3,_⟩:=rG c hc;obtain⟨s1,s2⟩:=W6 hx k.cands;have Ahb:(x.filter fun r=>decide (r.path=c.rel.path)&&!r.yanked)=pre.map (·.rel)++(c.rel::post.map (·.rel)):=by
   have:(Be x p).map (·.rel)=x.filter fun r=>decide (r.path=p)&&!r.yanked:=by
    unfold Be;rw[B2];exact Re _
   rw[c1,<-this,k.cands,BD];rfl
  have key:=MU (s:=s) k.next c1 (rest:=c.rel::post.map (·.rel)) (fun o ho=>by
   grind) (pre:=pre) (sk:=sk) (k:=sl.flatten) (fun o ho=>by
   obtain⟨a1,_,a3,a4⟩:=rG o (by rw[k.cands];exact Bw _ ho)<;>simp_all) k.skips
  have lP:Ci x s.drv (true,(sk::sl).flatten) ⟨Au b,GY roots b,c.rel⟩=(true,sl.flatten):=by
   grind [Ci,Hk]
  show((nS roots (b++[c]) t).foldl (Ci x s.drv) (Ci x s.drv (true,(sk::sl).flatten) ⟨Au b,GY roots b,c.rel⟩))=_;rw[lP];exact Rm hx h
theorem aS(hx:Av x=0)(hr:AL roots=0)(hf:(EX x roots).ss.full=false):DW x roots (fC x roots)=0:=by
 have hR:=QS hx hr;unfold fC;generalize EX x roots=o at *
 by_cases bJ:o.found=true
 .rw[AX bJ];obtain⟨_,t,sl,y2,y3,y4,_⟩:=hR.yes bJ;rw[Ek]at y2 y3;have hd:=Ta hx hr hR.der.len hR.der.der;have Gv:=(y4.ok (.nil x) (.nil roots)).1;rw[Ek]at Gv;unfold DW;rw[y2,y3];dsimp only;rw[hd];have hv:visits x roots (C3 (Au t))=(nS roots [] t,true):=by
   have CD:t.length<(C3 (Au t)).length+1:=by
    have h1:(Au t).length<=(C3 (Au t)).length:=by
     have vq:((Au t).map (·.path)).Nodup:=by rw[Jv];exact Gv.nodup
     have hn:(Au t).Nodup:=List.Pairwise.of_map (fun y:Sl=>y.path) (fun a b h e=>h (by rw[e])) vq;exact CM hn fun y hy=>Gp.2 hy
    grind
   have:=OW hx Gv (t:=t) (sl:=sl) (b:=[]) (roots:=roots) (s:=o.ss) aa1 CD y4
   grind [visits]
  grind [W9,Rm]
 .rw[AI bJ];have bJ:o.found=false:=by simp_all
  obtain⟨_,_,n3⟩:=hR.no bJ;obtain⟨n4,n5⟩:=n3 hf;have xW:Em o.ss o.res=[]:=by
   cases h:Em o.ss o.res with
   |nil=>rfl
   |cons u l=>
    rw[h]at n5
    have:=(Lj.1 n5).2 u (Ah ..)
    cases this
  have hd:=Ta hx hr (l:=o.ss.infs.take (o.res+1)) (by have:=hR.der.len;grind) (Kj hR.der.der (o.res+1))
  grind [DW,EP]
end
end Go.Eng
