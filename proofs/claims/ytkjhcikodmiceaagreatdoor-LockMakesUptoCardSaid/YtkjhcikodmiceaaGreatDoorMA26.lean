/- Lemmas 26. -/
import Derived.Test.YtkjhcikodmiceaaGreatDoorMA25
namespace Go.Eng
def PH(x:List Rl)(roots:List Rq):An:=
 if(Ep x roots).found=true then⟨true,DK (Q (Ep x roots).dec),(Ep x roots).ss.infs,(Ep x roots).stack.flatten⟩
 else⟨false,[],(Ep x roots).ss.infs.take ((Ep x roots).res+1),[]⟩
section
variable {x:List Rl}{roots:List Rq}
theorem cG:∀{s:List Sl},(∀y∈s,∃r,AW x y=some r)->∃l,F9 x s=some l
 | [],_=>⟨[],rfl⟩
 |y::s,h=>by
  obtain⟨r,hr⟩:=h y (Ah ..);obtain⟨l,hl⟩:=cG (s:=s) fun z hz=>h z (Aj _ hz)<;>grind [F9]
theorem KU.ok{s:SS}:∀{t:List Cd} {sl:List (List Sk)} {b:List Cd},Df x b->Js roots b->KU x roots s b t sl->Df x (b++t)/\Js roots (b++t)/\DH (EO roots (b++t)) (Q (b++t))=none
 | [],[],b,hd,hs,h=>by rw[Ey];exact⟨hd,hs,h⟩
 | [],_::_,b,_,_,h=>h.elim
 |_::_,[],b,_,_,h=>h.elim
 |c::t,sk::sl,b,hd,hs,h=>by
  obtain⟨⟨p,needs,pre,post,k⟩,h⟩:=h;have hc:c∈Bk x p:=by rw[k.cands];simp
  obtain⟨c1,c2⟩:=Gz hc;have hu:DB b c.rel.path=false:=by rw[c1];exact k.next.undone
  have:=KU.ok (b:=b++[c]) (hd.snoc c2 hu) (hs.snoc k.next c1 k.fit k.noclash) h
  rw[KW]at this;exact this
theorem KU.needed{s:SS}{C:List CS}(hr:∀q∈roots,q.path∈C){D:List Cd}(hq:∀c∈D,c.rel.path∈C->∀q∈c.rel.reqs,q.path∈C):∀{t:List Cd} {sl:List (List Sk)} {b:List Cd},b++t=D->(∀c∈b,c.rel.path∈C)->KU x roots s b t sl->∀c∈D,c.rel.path∈C
 | [],[],b,e,hb,_=>by simp_all
 | [],_::_,b,_,_,h=>h.elim
 |_::_,[],b,_,_,h=>h.elim
 |c::t,sk::sl,b,e,hb,h=>by
  obtain⟨⟨p,needs,pre,post,k⟩,h⟩:=h;have hc:c∈Bk x p:=by rw[k.cands];simp
  obtain⟨c1,c2⟩:=Gz hc;refine KU.needed hr hq (b:=b++[c]) (by rw[<-e];simp) (fun d hd=>?_) h;rcases Bc.1 hd with hd | hd
  .exact hb d hd
  .rw[AI.1 hd,c1];obtain⟨_,q,hq',e2⟩:=IK k.next.next
   rw[<-e2];rcases Bc.1 hq' with h1 | h1
   .exact hr q h1
   .obtain⟨l,hl,h2⟩:=EI.1 h1;obtain⟨d',nQ,rfl⟩:=Ar.1 hl;exact hq d' (by rw[<-e];exact Bz _ nQ) (hb d' nQ) q h2
theorem Yq(hx:Aw x=0){s:SS}{t:List Cd}{sl:List (List Sk)}(h:KU x roots s [] t sl):Do x roots (DK (Q t))=0:=by
 obtain⟨hd,hs,hl⟩:=h.ok (.nil x) (.nil roots);rw[GK]at hd hs hl;have hS:=bH hx hd hs hl;obtain⟨l,Ry⟩:=cG (x:=x) (s:=DK (Q t)) fun y hy=>(hS.fnd y hy).imp fun _ h=>h.1;obtain⟨k1,k2,k3⟩:=FP Ry;have hnb:∀q,(∃y,AE (DK (Q t)) q.path=some y/\has q.set (place y.ver)=true)->Ck l q=false:=fun q ⟨y,h1,h2⟩=>by
  have:=Rt l q.path
  rw[k1,h1]at this;rw[B6]at this;obtain⟨r,hr,e⟩:=this;unfold Ck;rw[hr];dsimp only;have eT:=k2 r (Bh hr);have GJ:=(Bp hx).1 r (Ce eT).2.1;rw[GJ.plc,show place r.ver=place y.ver by rw[<-e];rfl,h2];rfl
 have YQ:∀r,r∈l↔∃c∈t,c.rel=r:=fun r=>by
  constructor
  .intro hr
   have:Cr r∈DK (Q t):=aa2
   obtain⟨c,hc,e⟩:=Ar.1 (FU.1 this);have h1:=k2 r hr;have h2:=G9 hx (hd.cand c hc).1
   grind [Cr]
  .rintro⟨c,hc,rfl⟩
   have:Ob c∈l.map Cr:=by grind [FU]
   grind [G9,Cr,Df.cand]
 have hnp:(l.map (·.path)).Nodup:=by
  have:=eY hd.sorted
  rw[<-k1,BH]at this;exact this
 have Aai:=XA (roots:=roots) hnp;have GI:∀p∈l.map (·.path),p∈KC l roots:=fun p hp=>by
  obtain⟨r,hr,rfl⟩:=Ar.1 hp;obtain⟨c,hc,rfl⟩:=(YQ r).1 hr;exact h.needed (C:=KC l roots) Aai.root (D:=t) (fun d nQ hdp q hq=>Aai.req d.rel ((YQ d.rel).2 ⟨d,nQ,rfl⟩) hdp q hq) aa1 (fun _ h=>by cases h) c hc
 have CN:=CC hnp GI;rw[BG]at CN;unfold Do;rw[AL (fun h=>h hx),AL (by grind [lS.inc]),Ry];dsimp only;rw[AL,AL,AL (Nat.not_lt.2 CN)]
 .grind [lS.root]
 .rw[Mo,IC];intro r hr;rw[Mo,IC];intro q hq;rw[Mo];have eT:=k2 r hr;exact hnb q (hS.req (Cr r) aa2 r eT q hq)
def qm(roots:List Rq):List Cd->List Cd->List WH
 |_,[]=>[]
 |b,c::t=>⟨Q b,EO roots b,c.rel⟩::qm roots (b++[c]) t
theorem PQ(hx:Aw x=0){s:SS}{D:List Cd}(hD:Df x D):∀{t:List Cd} {sl:List (List Sk)} {b:List Cd} {n:Nat},b++t=D->t.length<n->KU x roots s b t sl ->
  Ef x (DK (Q D)) n (Q b) (EO roots b)=(qm roots b t,true)
 |_,_,_,0,_,h,_=>by omega
 | [],[],b,n+1,e,_,h=>by
  have h:DH (EO roots b) (Q b)=none:=h;unfold Ef;rw[h];rfl
 | [],_::_,b,_,_,_,h=>h.elim
 |_::_,[],b,_,_,_,h=>h.elim
 |c::t,sk::sl,b,n+1,e,hn,h=>by
  obtain⟨⟨p,needs,pre,post,k⟩,h⟩:=h;have hc:c∈Bk x p:=by rw[k.cands];simp
  obtain⟨c1,c2⟩:=Gz hc;have hcD:c∈D:=aa2
  have ih:=PQ hx hD (t:=t) (sl:=sl) (b:=b++[c]) (n:=n) aa0 aa0 h;have e1:Q b++[Ob c]=Q (b++[c]):=aa0
  unfold Ef;rw[k.next.next]
  dsimp only;rw[<-c1,hD.findS hcD];dsimp only;rw[show AW x (Ob c)=some c.rel from G9 hx (hD.cand c hcD).1];dsimp only;rw[e1,<-VH,ih];rfl
theorem Hy{d:List (List Tm)}{v:WH}:∀(l:List Rl) (k:List Sk),DM d v l k=DM d v (l.filter fun r=>decide (r.path=v.rel.path)&&!r.yanked) k
 | [],k=>rfl
 |o::l,k=>by
  rw[List.filter_cons]
  by_cases h:(decide (o.path=v.rel.path)&&!o.yanked)=true
  .rw[A1 h];unfold DM;split
   .exact Hy l k
   split
   .exact Hy l k
   cases k with
   |nil=>rfl
   |cons y k=>
    dsimp only;split
    .rfl
    cases DU d y.inf with
    |none=>rfl
    |some t=>
     dsimp only;split
     .exact Hy l k
     .rfl
  .rw[AL h];have h2:(!decide (o.path=v.rel.path)||o.yanked||!decide (plc o.ver<plc v.rel.ver))=true:=by
    grind
   conv=>lhs;unfold DM;rw[A1 h2]
   exact Hy l k
theorem SW{d:List (List Tm)}{v:WH}:∀{l:List Rl} {k:List Sk},(∀o∈l,¬plc o.ver<plc v.rel.ver)->DM d v l k=(k,true)
 | [],k,_=>rfl
 |o::l,k,h=>by
  unfold DM;rw[A1 aa0];exact SW fun o ho=>h o (Aj _ ho)
theorem Nm{s:SS}{b:List Cd}{p:CS}{needs:List Nd}{c:Cd}(hN:V8 roots b p needs)(hcp:c.rel.path=p){rest:List Rl}(hJ:∀o∈rest,¬plc o.ver<plc c.rel.ver):∀{pre:List Cd} {sk k:List Sk},
  (∀o∈pre,o.rel.path=p/\o.rel.yanked=false/\o.place=plc o.rel.ver/\plc o.rel.ver<plc c.rel.ver)->GF s b p needs pre sk->DM s.drv ⟨Q b,EO roots b,c.rel⟩ (pre.map (·.rel)++rest) (sk++k)=(k,true)
 | [],sk,k,_,h=>by
  have h:sk=[]:=h
  grind [SW]
 |o::pre,sk,k,ho,h=>by
  obtain⟨o1,o2,o3,o4⟩:=ho o (Ah ..);have h:if(needs.all fun n=>has n.rq.set o.place)=true then _ else _:=h
  have hex:((EO roots b).any fun q=>decide (q.path=c.rel.path)&&!has q.set (plc o.rel.ver))=!(needs.all fun n=>has n.rq.set o.place):=by
   rw[CI,EY,Bs,<-Mo,AS];constructor
   .rintro⟨q,hq,e⟩ GI
    simp only[Aq,A4,EY]at e;rw[<-IJ]at hq
    grind [V8.mem]
   .intro hn;apply As;intro Qq;apply hn;intro n kc;obtain⟨n1,n2⟩:=(hN.mem n).1 kc<;>grind [IJ]
  rw[Bo,F3];unfold DM;rw[AL aa0];dsimp only;rw[hex]
  by_cases ha:(needs.all fun n=>has n.rq.set o.place)=true
  .rw[A1 ha]at h;obtain⟨j,r,rfl,⟨j1,j2⟩,h3⟩:=h;rw[ha,AL aa3,F3];dsimp only;rw[AL aa0];have e1:DU s.drv (j:Nat)=some (Ei s j):=by
    unfold DU;simp_all
   rw[e1];dsimp only;have e2:Q b++[Cr o.rel]=Q (b++[o]):=by unfold Q;rw[Bl];rfl
   rw[e2,A1 j2];exact Nm hN hcp hJ (fun y hy=>ho y (Aj _ hy)) h3
  .rw[AL ha]at h;have ha:(needs.all fun n=>has n.rq.set o.place)=false:=aa0
   rw[ha,A1 (show(!false)=true from rfl)];exact Nm hN hcp hJ (fun y hy=>ho y (Aj _ hy)) h
theorem Ym(hx:Aw x=0){p:CS}{pre post:List Cd}{c:Cd}(h:Bk x p=pre++c::post):(∀o∈pre,plc o.rel.ver<plc c.rel.ver)/\∀o∈post,plc c.rel.ver<plc o.rel.ver:=by
 have hs:=(Bp hx).2.filter (fun r=>decide (r.path=p)&&!r.yanked);have hpw:(Bk x p).Pairwise fun a b=>plc a.rel.ver<plc b.rel.ver:=by
  unfold Bk;rw[ID];refine List.Pairwise.imp_of_mem ?_ hs;intro a b ha hb E4;simp only[Cw,Aq,A4]at ha hb;have hka:=(Bp hx).1 a ha.1;have hkb:=(Bp hx).1 b hb.1;show plc a.ver<plc b.ver;rw[hka.plc,hkb.plc];rcases E4 with h1 | ⟨_,h1⟩
  .grind [Dd]
  .have h2:a.ver.a=b.ver.a:=by
    grind [JE.maj]
   have v1:=FE hka.val
   grind [FE,uU,place,JE.val]
 grind [List.mem_cons_self,List.pairwise_cons]
theorem Sr(hx:Aw x=0){s:SS}:∀{t:List Cd} {sl:List (List Sk)} {b:List Cd},KU x roots s b t sl->(qm roots b t).foldl (Cf x s.drv) (true,sl.flatten)=(true,[])
 | [],[],_,_=>rfl
 | [],_::_,b,h=>h.elim
 |_::_,[],b,h=>h.elim
 |c::t,sk::sl,b,h=>by
  obtain⟨⟨p,needs,pre,post,k⟩,h⟩:=h;have Xh:∀d∈Bk x p,d.rel.path=p/\d.rel∈x/\d.rel.yanked=false/\d.place=plc d.rel.ver:=fun d hd=>by
   grind [Gz]
  have hc:c∈Bk x p:=by rw[k.cands];simp
  obtain⟨c1,_,c3,_⟩:=Xh c hc;obtain⟨s1,s2⟩:=Ym hx k.cands;have Aky:(x.filter fun r=>decide (r.path=c.rel.path)&&!r.yanked)=pre.map (·.rel)++(c.rel::post.map (·.rel)):=by
   have:(Bk x p).map (·.rel)=x.filter fun r=>decide (r.path=p)&&!r.yanked:=by
    unfold Bk;rw[BH];exact Ks _
   rw[c1,<-this,k.cands,Bl];rfl
  have key:=Nm (s:=s) k.next c1 (rest:=c.rel::post.map (·.rel)) (fun o ho=>by
   grind) (pre:=pre) (sk:=sk) (k:=sl.flatten) (fun o ho=>by
   obtain⟨a1,_,a3,a4⟩:=Xh o (by rw[k.cands];exact Bz _ ho)<;>simp_all) k.skips
  have ia:Cf x s.drv (true,(sk::sl).flatten) ⟨Q b,EO roots b,c.rel⟩=(true,sl.flatten):=by
   grind [Cf,Hy]
  show((qm roots (b++[c]) t).foldl (Cf x s.drv) (Cf x s.drv (true,(sk::sl).flatten) ⟨Q b,EO roots b,c.rel⟩))=_;rw[ia];exact Sr hx h
theorem TY(hx:Aw x=0)(hr:AK roots=0)(hf:(Ep x roots).ss.full=false):Di x roots (PH x roots)=0:=by
 have hR:=IR hx hr;unfold PH;generalize Ep x roots=o at *
 by_cases OW:o.found=true
 .rw[A1 OW];obtain⟨_,t,sl,y2,y3,y4,_⟩:=hR.yes OW;rw[GK]at y2 y3;have hd:=Uk hx hr hR.der.len hR.der.der;have GJ:=(y4.ok (.nil x) (.nil roots)).1;rw[GK]at GJ;unfold Di;rw[y2,y3];dsimp only;rw[hd];have hv:visits x roots (DK (Q t))=(qm roots [] t,true):=by
   have CN:t.length<(DK (Q t)).length+1:=by
    have h1:(Q t).length<=(DK (Q t)).length:=by
     have yq:((Q t).map (·.path)).Nodup:=by rw[J9];exact GJ.nodup
     have hn:(Q t).Nodup:=List.Pairwise.of_map (fun y:Sl=>y.path) (fun a b h e=>h (by rw[e])) yq;exact CC hn fun y hy=>FU.2 hy
    grind
   have:=PQ hx GJ (t:=t) (sl:=sl) (b:=[]) (roots:=roots) (s:=o.ss) aa1 CN y4
   grind [visits]
  grind [Yq,Sr]
 .rw[AL OW];have OW:o.found=false:=aa0
  obtain⟨_,_,n3⟩:=hR.no OW;obtain⟨n4,n5⟩:=n3 hf;have kd:Ei o.ss o.res=[]:=by
   cases h:Ei o.ss o.res with
   |nil=>rfl
   |cons u l=>
    rw[h]at n5
    have:=(JL.1 n5).2 u (Ah ..)
    cases this
  have hd:=Uk hx hr (l:=o.ss.infs.take (o.res+1)) (by have:=hR.der.len;grind) (KN hR.der.der (o.res+1))
  grind [Di,EN]
end
end Go.Eng
