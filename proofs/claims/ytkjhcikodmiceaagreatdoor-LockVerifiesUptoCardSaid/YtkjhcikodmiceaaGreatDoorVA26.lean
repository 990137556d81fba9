/- Lemmas 26. -/
import Derived.Test.YtkjhcikodmiceaaGreatDoorVA25
namespace Go.Eng
def kw(x:List Rl)(roots:List Rq):An:=
 if(Fe x roots).found=true then⟨true,EX (AA (Fe x roots).dec),(Fe x roots).ss.infs,(Fe x roots).stack.flatten⟩
 else⟨false,[],(Fe x roots).ss.infs.take ((Fe x roots).res+1),[]⟩
section
variable {x:List Rl}{roots:List Rq}
theorem bm:∀{s:List Sl},(∀y∈s,∃r,AY x y=some r)->∃l,FK x s=some l
 | [],_=>⟨[],rfl⟩
 |y::s,h=>by
  obtain⟨r,hr⟩:=h y (Ag ..);obtain⟨l,hl⟩:=bm (s:=s) fun z hz=>h z (Aj _ hz)<;>grind [FK]
theorem Ku.ok{s:SS}:∀{t:List Cd} {sl:List (List Sk)} {b:List Cd},DE x b->I5 roots b->Ku x roots s b t sl->DE x (b++t)/\I5 roots (b++t)/\DM (Hk roots (b++t)) (AA (b++t))=none
 | [],[],b,hd,hs,h=>by rw[Eg];exact⟨hd,hs,h⟩
 | [],_::_,b,_,_,h=>h.elim
 |_::_,[],b,_,_,h=>h.elim
 |c::t,sk::sl,b,hd,hs,h=>by
  obtain⟨⟨p,needs,pre,post,k⟩,h⟩:=h;have hc:c∈BA x p:=by rw[k.cands];simp
  obtain⟨c1,c2⟩:=Hq hc;have hu:Dz b c.rel.path=false:=by rw[c1];exact k.next.undone
  have:=Ku.ok (b:=b++[c]) (hd.snoc c2 hu) (hs.snoc k.next c1 k.fit k.noclash) h
  rw[Kw]at this;exact this
theorem Ku.needed{s:SS}{C:List CS}(hr:∀q∈roots,q.path∈C){D:List Cd}(hq:∀c∈D,c.rel.path∈C->∀q∈c.rel.reqs,q.path∈C):∀{t:List Cd} {sl:List (List Sk)} {b:List Cd},b++t=D->(∀c∈b,c.rel.path∈C)->Ku x roots s b t sl->∀c∈D,c.rel.path∈C
 | [],[],b,e,hb,_=>by simp_all
 | [],_::_,b,_,_,h=>h.elim
 |_::_,[],b,_,_,h=>h.elim
 |c::t,sk::sl,b,e,hb,h=>by
  obtain⟨⟨p,needs,pre,post,k⟩,h⟩:=h;have hc:c∈BA x p:=by rw[k.cands];simp
  obtain⟨c1,c2⟩:=Hq hc;refine Ku.needed hr hq (b:=b++[c]) (by rw[<-e];simp) (fun d hd=>?_) h;rcases Bi.1 hd with hd | hd
  .exact hb d hd
  .rw[AJ.1 hd,c1];obtain⟨_,q,hq',e2⟩:=Is k.next.next
   rw[<-e2];rcases Bi.1 hq' with h1 | h1
   .exact hr q h1
   .obtain⟨l,hl,h2⟩:=Fm.1 h1;obtain⟨d',oM,rfl⟩:=Ar.1 hl;exact hq d' (by rw[<-e];exact Bw _ oM) (hb d' oM) q h2
theorem XG(hx:At x=0){s:SS}{t:List Cd}{sl:List (List Sk)}(h:Ku x roots s [] t sl):CW x roots (EX (AA t))=0:=by
 obtain⟨hd,hs,hl⟩:=h.ok (.nil x) (.nil roots);rw[GD]at hd hs hl;have hS:=ar hx hd hs hl;obtain⟨l,Ug⟩:=bm (x:=x) (s:=EX (AA t)) fun y hy=>(hS.fnd y hy).imp fun _ h=>h.1;obtain⟨k1,k2,k3⟩:=F5 Ug;have hnb:∀q,(∃y,AF (EX (AA t)) q.path=some y/\has q.set (place y.ver)=true)->B9 l q=false:=fun q ⟨y,h1,h2⟩=>by
  have:=QO l q.path
  rw[k1,h1]at this;rw[B3]at this;obtain⟨r,hr,e⟩:=this;unfold B9;rw[hr];dsimp only;have cS:=k2 r (Br hr);have GR:=(BB hx).1 r (Cv cS).2.1;rw[GR.plc,show place r.ver=place y.ver by rw[<-e];rfl,h2];rfl
 have ml:∀r,r∈l↔∃c∈t,c.rel=r:=fun r=>by
  constructor
  .intro hr
   have:Cp r∈EX (AA t):=by grind
   obtain⟨c,hc,e⟩:=Ar.1 (Gj.1 this);have h1:=k2 r hr;have h2:=KK hx (hd.cand c hc).1
   grind [Cp]
  .rintro⟨c,hc,rfl⟩
   have:QT c∈l.map Cp:=by grind [Gj]
   grind [KK,Cp,DE.cand]
 have hnp:(l.map (·.path)).Nodup:=by
  have:=cX hd.sorted
  rw[<-k1,BX]at this;exact this
 have yt:=WR (roots:=roots) hnp;have GB:∀p∈l.map (·.path),p∈JP l roots:=fun p hp=>by
  obtain⟨r,hr,rfl⟩:=Ar.1 hp;obtain⟨c,hc,rfl⟩:=(ml r).1 hr;exact h.needed (C:=JP l roots) yt.root (D:=t) (fun d oM hdp q hq=>yt.req d.rel ((ml d.rel).2 ⟨d,oM,rfl⟩) hdp q hq) aa0 (fun _ h=>by cases h) c hc
 have CL:=CB hnp GB;rw[BJ]at CL;unfold CW;rw[AN (fun h=>h hx),AN (by grind [oJ.inc]),Ug];dsimp only;rw[AN,AN,AN (Nat.not_lt.2 CL)]
 .grind [oJ.root]
 .rw[L6,List.any_eq_false];intro r hr;rw[L6,List.any_eq_false];intro q hq;rw[L6];have cS:=k2 r hr;exact hnb q (hS.req (Cp r) (by grind) r cS q hq)
def oE(roots:List Rq):List Cd->List Cd->List V2
 |_,[]=>[]
 |b,c::t=>⟨AA b,Hk roots b,c.rel⟩::oE roots (b++[c]) t
theorem Pj(hx:At x=0){s:SS}{D:List Cd}(hD:DE x D):∀{t:List Cd} {sl:List (List Sk)} {b:List Cd} {n:Nat},b++t=D->t.length<n->Ku x roots s b t sl ->
  D4 x (EX (AA D)) n (AA b) (Hk roots b)=(oE roots b t,true)
 |_,_,_,0,_,h,_=>by omega
 | [],[],b,n+1,e,_,h=>by
  have h:DM (Hk roots b) (AA b)=none:=h;unfold D4;rw[h];rfl
 | [],_::_,b,_,_,_,h=>h.elim
 |_::_,[],b,_,_,_,h=>h.elim
 |c::t,sk::sl,b,n+1,e,hn,h=>by
  obtain⟨⟨p,needs,pre,post,k⟩,h⟩:=h;have hc:c∈BA x p:=by rw[k.cands];simp
  obtain⟨c1,c2⟩:=Hq hc;have hcD:c∈D:=by grind
  have ih:=Pj hx hD (t:=t) (sl:=sl) (b:=b++[c]) (n:=n) (by simp_all) (by simp_all) h;have e1:AA b++[QT c]=AA (b++[c]):=by simp_all
  unfold D4;rw[k.next.next]
  dsimp only;rw[<-c1,hD.findS hcD];dsimp only;rw[show AY x (QT c)=some c.rel from KK hx (hD.cand c hcD).1];dsimp only;rw[e1,<-U3,ih];rfl
theorem Hm{d:List (List Tm)}{v:V2}:∀(l:List Rl) (k:List Sk),Dx d v l k=Dx d v (l.filter fun r=>decide (r.path=v.rel.path)&&!r.yanked) k
 | [],k=>rfl
 |o::l,k=>by
  rw[List.filter_cons]
  by_cases h:(decide (o.path=v.rel.path)&&!o.yanked)=true
  .rw[A3 h];unfold Dx;split
   .exact Hm l k
   split
   .exact Hm l k
   cases k with
   |nil=>rfl
   |cons y k=>
    dsimp only;split
    .rfl
    cases DN d y.inf with
    |none=>rfl
    |some t=>
     dsimp only;split
     .exact Hm l k
     .rfl
  .rw[AN h];have h2:(!decide (o.path=v.rel.path)||o.yanked||!decide (plc o.ver<plc v.rel.ver))=true:=by
    grind
   conv=>lhs;unfold Dx;rw[A3 h2]
   exact Hm l k
theorem Si{d:List (List Tm)}{v:V2}:∀{l:List Rl} {k:List Sk},(∀o∈l,¬plc o.ver<plc v.rel.ver)->Dx d v l k=(k,true)
 | [],k,_=>rfl
 |o::l,k,h=>by
  unfold Dx;rw[A3 (by simp_all)];exact Si fun o ho=>h o (Aj _ ho)
theorem M1{s:SS}{b:List Cd}{p:CS}{needs:List Nd}{c:Cd}(hN:YL roots b p needs)(hcp:c.rel.path=p){rest:List Rl}(fw:∀o∈rest,¬plc o.ver<plc c.rel.ver):∀{pre:List Cd} {sk k:List Sk},
  (∀o∈pre,o.rel.path=p/\o.rel.yanked=false/\o.place=plc o.rel.ver/\plc o.rel.ver<plc c.rel.ver)->Gz s b p needs pre sk->Dx s.drv ⟨AA b,Hk roots b,c.rel⟩ (pre.map (·.rel)++rest) (sk++k)=(k,true)
 | [],sk,k,_,h=>by
  have h:sk=[]:=h
  grind [Si]
 |o::pre,sk,k,ho,h=>by
  obtain⟨o1,o2,o3,o4⟩:=ho o (Ag ..);have h:if(needs.all fun n=>has n.rq.set o.place)=true then _ else _:=h
  have hex:((Hk roots b).any fun q=>decide (q.path=c.rel.path)&&!has q.set (plc o.rel.ver))=!(needs.all fun n=>has n.rq.set o.place):=by
   rw[Cy,EO,BC,<-L6,A0];constructor
   .rintro⟨q,hq,e⟩ GB
    simp only[Ak,A4,EO]at e;rw[<-Jz]at hq
    grind [YL.mem]
   .intro hn;apply Aw;intro PK;apply hn;intro n kj;obtain⟨n1,n2⟩:=(hN.mem n).1 kj<;>grind [Jz]
  rw[Bo,F1];unfold Dx;rw[AN (by simp_all)];dsimp only;rw[hex]
  by_cases ha:(needs.all fun n=>has n.rq.set o.place)=true
  .rw[A3 ha]at h;obtain⟨j,r,rfl,⟨j1,j2⟩,h3⟩:=h;rw[ha,AN aa1,F1];dsimp only;rw[AN (by simp_all)];have e1:DN s.drv (j:Nat)=some (Eh s j):=by
    unfold DN;simp_all
   rw[e1];dsimp only;have e2:AA b++[Cp o.rel]=AA (b++[o]):=by unfold AA;rw[Bk];rfl
   rw[e2,A3 j2];exact M1 hN hcp fw (fun y hy=>ho y (Aj _ hy)) h3
  .rw[AN ha]at h;have ha:(needs.all fun n=>has n.rq.set o.place)=false:=by simp_all
   rw[ha,A3 (show(!false)=true from rfl)];exact M1 hN hcp fw (fun y hy=>ho y (Aj _ hy)) h
theorem XC(hx:At x=0){p:CS}{pre post:List Cd}{c:Cd}(h:BA x p=pre++c::post):(∀o∈pre,plc o.rel.ver<plc c.rel.ver)/\∀o∈post,plc c.rel.ver<plc o.rel.ver:=by
 have hs:=(BB hx).2.filter (fun r=>decide (r.path=p)&&!r.yanked);have hpw:(BA x p).Pairwise fun a b=>plc a.rel.ver<plc b.rel.ver:=by
  unfold BA;rw[Im];refine List.Pairwise.imp_of_mem ?_ hs;intro a b ha hb ET;simp only[Cr,Ak,A4]at ha hb;have hka:=(BB hx).1 a ha.1;have hkb:=(BB hx).1 b hb.1;show plc a.ver<plc b.ver;rw[hka.plc,hkb.plc];rcases ET with h1 | ⟨_,h1⟩
  .grind [Dg]
  .have h2:a.ver.a=b.ver.a:=by
    grind [J4.maj]
   have v1:=FZ hka.val
   grind [FZ,sQ,place,J4.val]
 grind [List.mem_cons_self,List.pairwise_cons]
theorem RJ(hx:At x=0){s:SS}:∀{t:List Cd} {sl:List (List Sk)} {b:List Cd},Ku x roots s b t sl->(oE roots b t).foldl (B6 x s.drv) (true,sl.flatten)=(true,[])
 | [],[],_,_=>rfl
 | [],_::_,b,h=>h.elim
 |_::_,[],b,h=>h.elim
 |c::t,sk::sl,b,h=>by
  obtain⟨⟨p,needs,pre,post,k⟩,h⟩:=h;have sr:∀d∈BA x p,d.rel.path=p/\d.rel∈x/\d.rel.yanked=false/\d.place=plc d.rel.ver:=fun d hd=>by
   grind [Hq]
  have hc:c∈BA x p:=by rw[k.cands];simp
  obtain⟨c1,_,c3,_⟩:=sr c hc;obtain⟨s1,s2⟩:=XC hx k.cands;have Aig:(x.filter fun r=>decide (r.path=c.rel.path)&&!r.yanked)=pre.map (·.rel)++(c.rel::post.map (·.rel)):=by
   have:(BA x p).map (·.rel)=x.filter fun r=>decide (r.path=p)&&!r.yanked:=by
    unfold BA;rw[BX];exact Mi _
   rw[c1,<-this,k.cands,Bk];rfl
  have key:=M1 (s:=s) k.next c1 (rest:=c.rel::post.map (·.rel)) (fun o ho=>by
   grind) (pre:=pre) (sk:=sk) (k:=sl.flatten) (fun o ho=>by
   obtain⟨a1,_,a3,a4⟩:=sr o (by rw[k.cands];exact Bw _ ho)<;>simp_all) k.skips
  have mz:B6 x s.drv (true,(sk::sl).flatten) ⟨AA b,Hk roots b,c.rel⟩=(true,sl.flatten):=by
   grind [B6,Hm]
  show((oE roots (b++[c]) t).foldl (B6 x s.drv) (B6 x s.drv (true,(sk::sl).flatten) ⟨AA b,Hk roots b,c.rel⟩))=_;rw[mz];exact RJ hx h
theorem bS(hx:At x=0)(hr:AH roots=0)(hf:(Fe x roots).ss.full=false):Dk x roots (kw x roots)=0:=by
 have hR:=W8 hx hr;unfold kw;generalize Fe x roots=o at *
 by_cases mg:o.found=true
 .rw[A3 mg];obtain⟨_,t,sl,y2,y3,y4,_⟩:=hR.yes mg;rw[GD]at y2 y3;have hd:=TC hx hr hR.der.len hR.der.der;have GR:=(y4.ok (.nil x) (.nil roots)).1;rw[GD]at GR;unfold Dk;rw[y2,y3];dsimp only;rw[hd];have hv:visits x roots (EX (AA t))=(oE roots [] t,true):=by
   have CL:t.length<(EX (AA t)).length+1:=by
    have h1:(AA t).length<=(EX (AA t)).length:=by
     have wv:((AA t).map (·.path)).Nodup:=by rw[Lw];exact GR.nodup
     have hn:(AA t).Nodup:=List.Pairwise.of_map (fun y:Sl=>y.path) (fun a b h e=>h (by rw[e])) wv;exact CB hn fun y hy=>Gj.2 hy
    grind
   have:=Pj hx GR (t:=t) (sl:=sl) (b:=[]) (roots:=roots) (s:=o.ss) aa0 CL y4
   grind [visits]
  grind [XG,RJ]
 .rw[AN mg];have mg:o.found=false:=by simp_all
  obtain⟨_,_,n3⟩:=hR.no mg;obtain⟨n4,n5⟩:=n3 hf;have yM:Eh o.ss o.res=[]:=by
   cases h:Eh o.ss o.res with
   |nil=>rfl
   |cons u l=>
    rw[h]at n5
    have:=(Li.1 n5).2 u (Ag ..)
    cases this
  have hd:=TC hx hr (l:=o.ss.infs.take (o.res+1)) (by have:=hR.der.len;grind) (Kp hR.der.der (o.res+1))
  grind [Dk,EC]
end
end Go.Eng
