/- Lemmas 22. -/
import Derived.Test.YtkjhcikodmiceaaGreatDoorUA21
namespace Go.Eng
def eJ(x:List Rl)(roots:List Rq):An:=
 if(Es x roots).found=true then⟨true,Ed (At (Es x roots).dec),(Es x roots).ss.infs,(Es x roots).stack.flatten⟩
 else⟨false,[],(Es x roots).ss.infs.take ((Es x roots).res+1),[]⟩
section
variable {x:List Rl}{roots:List Rq}
theorem XQ:∀{s:List Sl},(∀y∈s,∃r,Bg x y=some r)->∃l,IE x s=some l
 | [],_=>⟨[],rfl⟩
 |y::s,h=>by
  obtain⟨r,hr⟩:=h y (Ad ..);obtain⟨l,hl⟩:=XQ (s:=s) fun z hz=>h z (Af _ hz)<;>grind [IE]
theorem Jf.ok{s:SS}:∀{t:List Cd} {sl:List (List Sk)} {b:List Cd},CT x b->HZ roots b->Jf x roots s b t sl->CT x (b++t)/\HZ roots (b++t)/\E9 (Gt roots (b++t)) (At (b++t))=none
 | [],[],b,hd,hs,h=>by rw[Dm];exact⟨hd,hs,h⟩
 | [],_::_,b,_,_,h=>h.elim
 |_::_,[],b,_,_,h=>h.elim
 |c::t,sk::sl,b,hd,hs,h=>by
  obtain⟨⟨p,needs,pre,post,k⟩,h⟩:=h;have hc:c∈Bn x p:=by rw[k.cands];simp
  obtain⟨c1,c2⟩:=Gy hc;have hu:CO b c.rel.path=false:=by rw[c1];exact k.next.undone
  have:=Jf.ok (b:=b++[c]) (hd.snoc c2 hu) (hs.snoc k.next c1 k.fit k.noclash) h
  rw[Jh]at this;exact this
theorem Jf.needed{s:SS}{C:List ByteArray}(hr:∀q∈roots,q.path∈C){D:List Cd}(hq:∀c∈D,c.rel.path∈C->∀q∈c.rel.reqs,q.path∈C):∀{t:List Cd} {sl:List (List Sk)} {b:List Cd},b++t=D->(∀c∈b,c.rel.path∈C)->Jf x roots s b t sl->∀c∈D,c.rel.path∈C
 | [],[],b,e,hb,_=>by simp_all
 | [],_::_,b,_,_,h=>h.elim
 |_::_,[],b,_,_,h=>h.elim
 |c::t,sk::sl,b,e,hb,h=>by
  obtain⟨⟨p,needs,pre,post,k⟩,h⟩:=h;have hc:c∈Bn x p:=by rw[k.cands];simp
  obtain⟨c1,c2⟩:=Gy hc;refine Jf.needed hr hq (b:=b++[c]) (by rw[<-e];simp) (fun d hd=>?_) h;rcases Bc.1 hd with hd | hd
  .exact hb d hd
  .rw[AB.1 hd,c1];obtain⟨_,q,t7,e2⟩:=GE k.next.next
   rw[<-e2];rcases Bc.1 t7 with h1 | h1
   .exact hr q h1
   .obtain⟨l,hl,h2⟩:=Fc.1 h1;obtain⟨d',jr,rfl⟩:=Ak.1 hl;exact hq d' (by rw[<-e];exact Bj _ jr) (hb d' jr) q h2
theorem U9(hx:AC x=0){s:SS}{t:List Cd}{sl:List (List Sk)}(h:Jf x roots s [] t sl):F9 x roots (Ed (At t))=0:=by
 obtain⟨hd,hs,hl⟩:=h.ok (.nil x) (.nil roots);rw[FF]at hd hs hl;have hS:=Xj hx hd hs hl;obtain⟨l,RQ⟩:=XQ (x:=x) (s:=Ed (At t)) fun y hy=>(hS.fnd y hy).imp fun _ h=>h.1;obtain⟨k1,k2,k3⟩:=Hd RQ;have wQ:∀q,(∃y,A4 (Ed (At t)) q.path=some y/\has q.set (place y.ver)=true)->CC l q=false:=fun q ⟨y,h1,h2⟩=>by
  have:=OO l q.path
  rw[k1,h1]at this;rw[B4]at this;obtain⟨r,hr,e⟩:=this;unfold CC;rw[hr];dsimp only;have jv:=k2 r (BO hr);have F5:=(Bz hx).1 r (CK jv).2.1;rw[F5.plc,show place r.ver=place y.ver by rw[<-e];rfl,h2];rfl
 have rH:∀r,r∈l↔∃c∈t,c.rel=r:=fun r=>by
  constructor
  .intro hr
   have:Dd r∈Ed (At t):=by grind
   obtain⟨c,hc,e⟩:=Ak.1 (Fu.1 this);have h1:=k2 r hr;have h2:=Ju hx (hd.cand c hc).1
   grind [Dd]
  .rintro⟨c,hc,rfl⟩
   have:OV c∈l.map Dd:=by grind [Fu]
   grind [Ju,Dd,CT.cand]
 have hnp:(l.map (·.path)).Nodup:=by
  have:=YV hd.sorted
  rw[<-k1,Bx]at this;exact this
 have rm:=cX (roots:=roots) hnp;have Gr:∀p∈l.map (·.path),p∈gW l roots:=fun p hp=>by
  obtain⟨r,hr,rfl⟩:=Ak.1 hp;obtain⟨c,hc,rfl⟩:=(rH r).1 hr;exact h.needed (C:=gW l roots) rm.root (D:=t) (fun d jr hdp q hq=>rm.req d.rel ((rH d.rel).2 ⟨d,jr,rfl⟩) hdp q hq) B0 (fun _ h=>by cases h) c hc
 have B5:=Cz hnp Gr;rw[A2]at B5;unfold F9;rw[AO (fun h=>h hx),AO (by grind [V7.inc]),RQ];dsimp only;rw[AO,AO,AO (Nat.not_lt.2 B5)]
 .grind [V7.root]
 .rw[KA,List.any_eq_false];intro r hr;rw[KA,List.any_eq_false];intro q hq;rw[KA];have jv:=k2 r hr;exact wQ q (hS.req (Dd r) (by grind) r jv q hq)
def jl(roots:List Rq):List Cd->List Cd->List TJ
 |_,[]=>[]
 |b,c::t=>⟨At b,Gt roots b,c.rel⟩::jl roots (b++[c]) t
theorem Nx(hx:AC x=0){s:SS}{D:List Cd}(hD:CT x D):∀{t:List Cd} {sl:List (List Sk)} {b:List Cd} {n:Nat},b++t=D->t.length<n->Jf x roots s b t sl ->
  Cp x (Ed (At D)) n (At b) (Gt roots b)=(jl roots b t,true)
 |_,_,_,0,_,h,_=>by omega
 | [],[],b,n+1,e,_,h=>by
  have h:E9 (Gt roots b) (At b)=none:=h;unfold Cp;rw[h];rfl
 | [],_::_,b,_,_,_,h=>h.elim
 |_::_,[],b,_,_,_,h=>h.elim
 |c::t,sk::sl,b,n+1,e,hn,h=>by
  obtain⟨⟨p,needs,pre,post,k⟩,h⟩:=h;have hc:c∈Bn x p:=by rw[k.cands];simp
  obtain⟨c1,c2⟩:=Gy hc;have zk:c∈D:=by grind
  have ih:=Nx hx hD (t:=t) (sl:=sl) (b:=b++[c]) (n:=n) (by simp_all) (by simp_all) h;have e1:At b++[OV c]=At (b++[c]):=by simp_all
  unfold Cp;rw[k.next.next]
  dsimp only;rw[<-c1,hD.findS zk];dsimp only;rw[show Bg x (OV c)=some c.rel from Ju hx (hD.cand c zk).1];dsimp only;rw[e1,<-SF,ih];rfl
theorem Gv{d:List (List Tm)}{v:TJ}:∀(l:List Rl) (k:List Sk),CM d v l k=CM d v (l.filter fun r=>decide (r.path=v.rel.path)&&!r.yanked) k
 | [],k=>rfl
 |o::l,k=>by
  rw[List.filter_cons]
  by_cases h:(decide (o.path=v.rel.path)&&!o.yanked)=true
  .rw[A1 h];unfold CM;split
   .exact Gv l k
   split
   .exact Gv l k
   cases k with
   |nil=>rfl
   |cons y k=>
    dsimp only;split
    .rfl
    cases El d y.inf with
    |none=>rfl
    |some t=>
     dsimp only;split
     .exact Gv l k
     .rfl
  .rw[AO h];have h2:(!decide (o.path=v.rel.path)||o.yanked||!decide (plc o.ver<plc v.rel.ver))=true:=by
    grind
   conv=>lhs;unfold CM;rw[A1 h2]
   exact Gv l k
theorem Qe{d:List (List Tm)}{v:TJ}:∀{l:List Rl} {k:List Sk},(∀o∈l,¬plc o.ver<plc v.rel.ver)->CM d v l k=(k,true)
 | [],k,_=>rfl
 |o::l,k,h=>by
  unfold CM;rw[A1 (by simp_all)];exact Qe fun o ho=>h o (Af _ ho)
theorem LC{s:SS}{b:List Cd}{p:ByteArray}{needs:List Nd}{c:Cd}(hN:V6 roots b p needs)(tL:c.rel.path=p){rest:List Rl}(ax:∀o∈rest,¬plc o.ver<plc c.rel.ver):∀{pre:List Cd} {sk k:List Sk},
  (∀o∈pre,o.rel.path=p/\o.rel.yanked=false/\o.place=plc o.rel.ver/\plc o.rel.ver<plc c.rel.ver)->Fz s b p needs pre sk->CM s.drv ⟨At b,Gt roots b,c.rel⟩ (pre.map (·.rel)++rest) (sk++k)=(k,true)
 | [],sk,k,_,h=>by
  have h:sk=[]:=h
  grind [Qe]
 |o::pre,sk,k,ho,h=>by
  obtain⟨o1,o2,o3,o4⟩:=ho o (Ad ..);have h:if(needs.all fun n=>has n.rq.set o.place)=true then _ else _:=h
  have hex:((Gt roots b).any fun q=>decide (q.path=c.rel.path)&&!has q.set (plc o.rel.ver))=!(needs.all fun n=>has n.rq.set o.place):=by
   rw[CN,EQ,Ci,<-KA,AF];constructor
   .rintro⟨q,hq,e⟩ Gr
    simp only[Ag,A5,EQ]at e;rw[<-In]at hq
    grind [V6.mem]
   .intro hn;apply AP;intro NW;apply hn;intro n au;obtain⟨n1,n2⟩:=(hN.mem n).1 au<;>grind [In]
  rw[Bb,HM];unfold CM;rw[AO (by simp_all)];dsimp only;rw[hex]
  by_cases ha:(needs.all fun n=>has n.rq.set o.place)=true
  .rw[A1 ha]at h;obtain⟨j,r,rfl,⟨j1,j2⟩,h3⟩:=h;rw[ha,AO Wk,HM];dsimp only;rw[AO (by simp_all)];have e1:El s.drv (j:Nat)=some (DF s j):=by
    unfold El;simp_all
   rw[e1];dsimp only;have e2:At b++[Dd o.rel]=At (b++[o]):=by unfold At;rw[Bm];rfl
   rw[e2,A1 j2];exact LC hN tL ax (fun y hy=>ho y (Af _ hy)) h3
  .rw[AO ha]at h;have ha:(needs.all fun n=>has n.rq.set o.place)=false:=by simp_all
   rw[ha,A1 (show(!false)=true from rfl)];exact LC hN tL ax (fun y hy=>ho y (Af _ hy)) h
theorem U4(hx:AC x=0){p:ByteArray}{pre post:List Cd}{c:Cd}(h:Bn x p=pre++c::post):(∀o∈pre,plc o.rel.ver<plc c.rel.ver)/\∀o∈post,plc c.rel.ver<plc o.rel.ver:=by
 have hs:=(Bz hx).2.filter (fun r=>decide (r.path=p)&&!r.yanked);have hpw:(Bn x p).Pairwise fun a b=>plc a.rel.ver<plc b.rel.ver:=by
  unfold Bn;rw[Jk];refine List.Pairwise.imp_of_mem ?_ hs;intro a b ha hb Ez;simp only[DE,Ag,A5]at ha hb;have zy:=(Bz hx).1 a ha.1;have hkb:=(Bz hx).1 b hb.1;show plc a.ver<plc b.ver;rw[zy.plc,hkb.plc];rcases Ez with h1 | ⟨_,h1⟩
  .grind [CG]
  .have h2:a.ver.a=b.ver.a:=by
    grind [Is.maj]
   have v1:=GS zy.val
   grind [GS,mW,place,Is.val]
 grind [List.mem_cons_self,List.pairwise_cons]
theorem PI(hx:AC x=0){s:SS}:∀{t:List Cd} {sl:List (List Sk)} {b:List Cd},Jf x roots s b t sl->(jl roots b t).foldl (Cw x s.drv) (true,sl.flatten)=(true,[])
 | [],[],_,_=>rfl
 | [],_::_,b,h=>h.elim
 |_::_,[],b,h=>h.elim
 |c::t,sk::sl,b,h=>by
  obtain⟨⟨p,needs,pre,post,k⟩,h⟩:=h;have rn:∀d∈Bn x p,d.rel.path=p/\d.rel∈x/\d.rel.yanked=false/\d.place=plc d.rel.ver:=fun d hd=>by
   grind [Gy]
  have hc:c∈Bn x p:=by rw[k.cands];simp
  obtain⟨c1,_,c3,_⟩:=rn c hc;obtain⟨s1,s2⟩:=U4 hx k.cands;have AbL:(x.filter fun r=>decide (r.path=c.rel.path)&&!r.yanked)=pre.map (·.rel)++(c.rel::post.map (·.rel)):=by
   have:(Bn x p).map (·.rel)=x.filter fun r=>decide (r.path=p)&&!r.yanked:=by
    unfold Bn;rw[Bx];exact GI _
   rw[c1,<-this,k.cands,Bm];rfl
  have key:=LC (s:=s) k.next c1 (rest:=c.rel::post.map (·.rel)) (fun o ho=>by
   grind) (pre:=pre) (sk:=sk) (k:=sl.flatten) (fun o ho=>by
   obtain⟨a1,_,a3,a4⟩:=rn o (by rw[k.cands];exact Bj _ ho)<;>simp_all) k.skips
  have mP:Cw x s.drv (true,(sk::sl).flatten) ⟨At b,Gt roots b,c.rel⟩=(true,sl.flatten):=by
   grind [Cw,Gv]
  show((jl roots (b++[c]) t).foldl (Cw x s.drv) (Cw x s.drv (true,(sk::sl).flatten) ⟨At b,Gt roots b,c.rel⟩))=_;rw[mP];exact PI hx h
theorem QT(hx:AC x=0)(hr:A8 roots=0)(hf:(Es x roots).ss.full=false):Fe x roots (eJ x roots)=0:=by
 have hR:=UD hx hr;unfold eJ;generalize Es x roots=o at *
 by_cases gn:o.found=true
 .rw[A1 gn];obtain⟨_,t,sl,y2,y3,y4,_⟩:=hR.yes gn;rw[FF]at y2 y3;have hd:=Rj hx hr hR.der.len hR.der.der;have F5:=(y4.ok (.nil x) (.nil roots)).1;rw[FF]at F5;unfold Fe;rw[y2,y3];dsimp only;rw[hd];have hv:visits x roots (Ed (At t))=(jl roots [] t,true):=by
   have B5:t.length<(Ed (At t)).length+1:=by
    have h1:(At t).length<=(Ed (At t)).length:=by
     have pQ:((At t).map (·.path)).Nodup:=by rw[Kb];exact F5.nodup
     have hn:(At t).Nodup:=List.Pairwise.of_map (fun y:Sl=>y.path) (fun a b h e=>h (by rw[e])) pQ;exact Cz hn fun y hy=>Fu.2 hy
    grind
   have:=Nx hx F5 (t:=t) (sl:=sl) (b:=[]) (roots:=roots) (s:=o.ss) B0 B5 y4
   grind [visits]
  grind [U9,PI]
 .rw[AO gn];have gn:o.found=false:=by simp_all
  obtain⟨_,_,n3⟩:=hR.no gn;obtain⟨n4,n5⟩:=n3 hf;have wT:DF o.ss o.res=[]:=by
   cases h:DF o.ss o.res with
   |nil=>rfl
   |cons u l=>
    rw[h]at n5
    have:=(J0.1 n5).2 u (Ad ..)
    cases this
  have hd:=Rj hx hr (l:=o.ss.infs.take (o.res+1)) (by have:=hR.der.len;grind) (I6 hR.der.der (o.res+1))
  grind [Fe,E1]
end
end Go.Eng
