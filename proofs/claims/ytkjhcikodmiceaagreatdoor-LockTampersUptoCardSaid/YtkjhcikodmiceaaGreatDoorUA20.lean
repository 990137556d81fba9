/- Lemmas 20. -/
import Derived.Test.YtkjhcikodmiceaaGreatDoorUA19
namespace Go.Eng
open Go.Proofs
variable {p:ByteArray}{d:List ByteArray}(x:List Rl)(before:List Sl)(ifs:List (List AV))(l:List Rq)(acc:Option ByteArray)(n:Nat)(q:Rq)(roots:List Rq)(s:List Sl)
def C3:Option ByteArray:=if BU before q.path then acc else match acc with
  |none=>some q.path
  |some p=>if EL q.path p then some q.path else some p
theorem Mw(before:List Sl):∀(a b:List Rq) (acc:Option ByteArray),Cc before (a++b) acc=Cc before b (Cc before a acc)
 | [],_,_=>rfl
 |q::a,b,acc=>Mw before a b (if BU before q.path then acc else match acc with |none=>some q.path |some p=>if EL q.path p then some q.path else some p)
theorem Xx{j:Nat}(h:j<l.length):Cc before (l.take (j+1)) acc=C3 before (Cc before (l.take j) acc) l[j]:=by
 rw[FL,Ge h];show Cc before (l.take j++[l[j]]) acc=_;rw[Mw];rfl
structure DI{S:Type}(x:List Rl)(roots:List Rq)(s:List Sl)(step:S->TJ->S)(S0:S)(before:List Sl)(needs:List Rq)(n:Nat)(st:S):Prop where
 nd:(before.map (·.path)).Nodup
 sub:∀y∈before,y∈s
 fuel:before.length+n=s.length+1
 few:∀q∈needs,Cr q.set
 len:needs.length<=roots.length+16*before.length
 ok:(visits x roots s).2=(Cp x s n before needs).2
 fold:(visits x roots s).1.foldl step S0=(Cp x s n before needs).1.foldl step st
section
variable {S:Type}{x:List Rl}{roots:List Rq}{s:List Sl}{step:S->TJ->S}{S0:S}{before:List Sl}{needs:List Rq}{n:Nat}{st:S}
theorem DI.start(hq:∀q∈roots,Cr q.set)(S0:S):DI x roots s step S0 [] roots (s.length+1) S0:=
 ⟨by simp,fun _ h=>(by cases h),by simp,hq,by simp,rfl,rfl⟩
theorem DI.lt(h:DI x roots s step S0 before needs n st):before.length<=s.length:=by
 have:=Cz (m:=s.map (·.path)) h.nd fun p hp=>by
  grind [DI.sub]
 simp_all
theorem DI.pos(h:DI x roots s step S0 before needs n st):∃m,n=m+1:=by
 have:=h.lt
 have:=h.fuel
 exact⟨n-1,by omega⟩
theorem DI.stop{m:Nat}(h:DI x roots s step S0 before needs (m+1) st)(hp:E9 needs before=none):(visits x roots s).2=true/\(visits x roots s).1.foldl step S0=st:=by
 have h1:=h.ok;have h2:=h.fold
 grind [Cp]
theorem DI.lost{m:Nat}(h:DI x roots s step S0 before needs (m+1) st)(hp:E9 needs before=some p)(hf:A4 s p=none):(visits x roots s).2=false/\(visits x roots s).1.foldl step S0=st:=by
 have h1:=h.ok;have h2:=h.fold
 grind [Cp]
theorem DI.gone{m:Nat}(h:DI x roots s step S0 before needs (m+1) st){y:Sl}(hp:E9 needs before=some p)(hf:A4 s p=some y)(hr:Bg x y=none):(visits x roots s).2=false/\(visits x roots s).1.foldl step S0=st:=by
 have h1:=h.ok;have h2:=h.fold
 grind [Cp]
theorem DI.next{m:Nat}(h:DI x roots s step S0 before needs (m+1) st){y:Sl}{r:Rl}(hp:E9 needs before=some p)(hf:A4 s p=some y)(hr:Bg x y=some r)(hl:r.reqs.length<=16)(hq:∀q∈r.reqs,Cr q.set) :
  DI x roots s step S0 (before++[y]) (needs++r.reqs) m (step st ⟨before,needs,r⟩):=by
 have h1:=h.ok;have h2:=h.fold;unfold Cp at h1 h2;rw[hp]at h1 h2;simp only[hf,hr]at h1 h2;obtain⟨g1,g2⟩:=GE hp<;>grind [Ds,E7,Dy,DI.mk,DI.nd,DI.sub,DI.fuel,DI.few,DI.len]
end
theorem cE(p:ByteArray):(IJ (fun y:Sl=>decide (y.path=p)) s 0=-1/\A4 s p=none)\/∃i y,IJ (fun y:Sl=>decide (y.path=p)) s 0=(i:Nat)/\s[i]?=some y/\A4 s p=some y:=by
 rcases Lc (p:=fun y:Sl=>decide (y.path=p)) s 0 with h | ⟨i,y,h1,h2,h3⟩
 .exact .inl h
 .exact .inr ⟨i,y,by omega,h2,h3⟩
abbrev xF:MF:=⟨[12],[(8,4)],[],[(49,[9])],[],[],[],[],[],[],[3,8,9,11,12,14,15,17,18,20,21]⟩
theorem vD(d:List (List Tm))(s:List Sl)(S0:Bool×List Sk)(RG:dX x ifs)(h0:AC x=0)(hx:∀r∈x,Ir r)(hrl:roots.length<=1000)(pS:∀q∈roots,Cr q.set)(hs:s.length<=500)(hd:d.length<=65536)(ht:∀t∈d,UO t) :
  AW Tryz.prog 108 [.cptr (B2 x (.slice .none ifs) roots d),sl Ah s,.clo 109 [.cptr [.cptr (B2 x (.slice .none ifs) roots d)],.ref 1000 0,.ref 1001 0]] (Ae (sH S0) Ab) fun r h'=>r=vb (visits x roots s).2/\h'=Ae (sH ((visits x roots s).1.foldl (Cw x d) S0)) Ab:=by
 have gD:=(Iy h0).2;have ua:Cr roots:=by omega
 refine A7 (H5 xF) [(1000,1000),(1001,1001)] rfl Bu hm rfl Tryz.func108 aa0 rfl (Nz rfl) aa0 rfl (Xi (.gen [] 1) (Yi rfl ((qF roots ua).imp ?_)));intro v g q;have q1:=q.1;have q2:=q.2;subst q1;subst q2
 clear q
 refine Xi {p:List Sl×List Rq×Nat×Bool×List Sk // DI x roots s (Cw x d) S0 p.1 p.2.1 p.2.2.1 p.2.2.2} (Xi (fun p=>⟨[(0,.cptr (B2 x (.slice .none ifs) roots d)),(1,sl Ah s),(2,.clo 109 [.cptr [.cptr (B2 x (.slice .none ifs) roots d)],.ref 1000 0,.ref 1001 0]),(7,.slice (.id 12100 2) (p.1.2.1.map Ac)),(8,.slice (.id 8 4) (p.1.1.map Ah))],[(8,.tok 4 (p.1.1.map Ah).length),(12100,.tok 2 (p.1.2.1.map Ac).length),(1000,.cells [sl Ay p.1.2.2.2.2]),(1001,.cells [vb p.1.2.2.2.1])],Ab⟩) (Xi (fun p=>p.1.2.2.1) (Yi (Xi ⟨([],roots,s.length+1,S0),DI.start pS S0⟩ ?_) ?_)))
 .exact⟨Z5,Z4,Fh,Be aa0⟩
 intro⟨⟨before,needs,n,st⟩,inv⟩;have inv:DI x roots s (Cw x d) S0 before needs n st:=inv;refine AJ inv.pos (fun m rG=>?_);have inv:DI x roots s (Cw x d) S0 before needs (m+1) st:=rG▸inv;have zh:=inv.lt;have hnl:=inv.len;have wS:Cr needs:=by omega
 have we:Cr before:=by omega
 refine cU [(0,.cptr (B2 x (.slice .none ifs) roots d)),(1,sl Ah s),(2,.clo 109 [.cptr [.cptr (B2 x (.slice .none ifs) roots d)],.ref 1000 0,.ref 1001 0]),(7,.slice (.id 12100 2) (needs.map Ac)),(8,.slice (.id 8 4) (before.map Ah))] [(8,.tok 4 (before.map Ah).length),(12100,.tok 2 (needs.map Ac).length),(1000,.cells [sl Ay st.2]),(1001,.cells [vb st.1])] Z5 Z4 (yN (Xi {p:Nat×Option ByteArray // p.1<=needs.length/\p.2=Cc before (needs.take p.1) none} (Xi (fun p=>⟨[(0,.cptr (B2 x (.slice .none ifs) roots d)),(1,sl Ah s),(2,.clo 109 [.cptr [.cptr (B2 x (.slice .none ifs) roots d)],.ref 1000 0,.ref 1001 0]),(7,.slice (.id 12100 2) (needs.map Ac)),(8,.slice (.id 8 4) (before.map Ah)),(9,.ref 9 0),(10,vb p.1.2.isSome),(22,.slice (.id 12100 2) (needs.map Ac)),(23,vi (needs.map Ac).length),(24,vi p.1.1)],[(8,.tok 4 (before.map Ah).length),(12100,.tok 2 (needs.map Ac).length),(1000,.cells [sl Ay st.2]),(1001,.cells [vb st.1]),(9,.cells [vs (p.1.2.getD mt)])],Ab⟩) (Xi (fun p=>needs.length-p.1.1) (Yi (Xi ⟨(0,none),Ar _,rfl⟩ ?_) ?_)))))
 .exact⟨Z10,Z5,Fh,Be aa0⟩
 intro⟨⟨j,acc⟩,j1,j2⟩;have j1:j<=needs.length:=j1;have j2:acc=Cc before (needs.take j) none:=j2;refine Yi ?_ ?_
 .intro h;have h:(j:Int)<(needs.map Ac).length:=h;have h:j<needs.length:=by simp_all
  have hg:needs[j]?=some needs[j]:=Ge h;have gt:=Xx before needs none h;rw[<-j2]at gt;refine Xi (Ac needs[j]) (Yi (Yi ch (by simp_all)) (Yi rfl ?_));refine Yi (Nz rfl) (yN (cU [(0,.cptr (B2 x (.slice .none ifs) roots d)),(1,sl Ah s),(2,.clo 109 [.cptr [.cptr (B2 x (.slice .none ifs) roots d)],.ref 1000 0,.ref 1001 0]),(7,.slice (.id 12100 2) (needs.map Ac)),(8,.slice (.id 8 4) (before.map Ah)),(9,.ref 9 0),(10,vb acc.isSome),(12,.ref 12 0),(22,.slice (.id 12100 2) (needs.map Ac)),(23,vi (needs.map Ac).length),(24,vi j)] [(8,.tok 4 (before.map Ah).length),(12100,.tok 2 (needs.map Ac).length),(1000,.cells [sl Ay st.2]),(1001,.cells [vb st.1]),(9,.cells [vs (acc.getD mt)]),(12,.ro (Ac needs[j]))] Z11 Z6 ?_))
  have kB:PC 183 [sl Ah before,.clo 184 [.cptr (Ac needs[j])]] (vb (BU before needs[j].path)):=yS (fF:=184) (caps:=[.cptr (Ac needs[j])]) (fun c hc=>by
   obtain rfl:=AB.1 hc;intro h;rfl) before (fun y=>decide (y.path=needs[j].path)) (fun y _=>c77 y needs[j]) we
  refine Bs (Bt (BU before needs[j].path)) (fun hd=>?_) (fun hd=>?_)
  .rw[hd]at kB;refine Xi .pure (Xi _ (Yi (kB) ?_));have HF:C3 before acc needs[j]=acc:=by unfold C3;simp_all
   refine cU [(0,.cptr (B2 x (.slice .none ifs) roots d)),(1,sl Ah s),(2,.clo 109 [.cptr [.cptr (B2 x (.slice .none ifs) roots d)],.ref 1000 0,.ref 1001 0]),(7,.slice (.id 12100 2) (needs.map Ac)),(8,.slice (.id 8 4) (before.map Ah)),(9,.ref 9 0),(10,vb acc.isSome),(13,vb true),(22,.slice (.id 12100 2) (needs.map Ac)),(23,vi (needs.map Ac).length),(24,vi j)] [(8,.tok 4 (before.map Ah).length),(12100,.tok 2 (needs.map Ac).length),(1000,.cells [sl Ay st.2]),(1001,.cells [vb st.1]),(9,.cells [vs (acc.getD mt)])] Z11 Z5 (cU [(0,.cptr (B2 x (.slice .none ifs) roots d)),(1,sl Ah s),(2,.clo 109 [.cptr [.cptr (B2 x (.slice .none ifs) roots d)],.ref 1000 0,.ref 1001 0]),(7,.slice (.id 12100 2) (needs.map Ac)),(8,.slice (.id 8 4) (before.map Ah)),(9,.ref 9 0),(10,vb (C3 before acc needs[j]).isSome),(22,.slice (.id 12100 2) (needs.map Ac)),(23,vi (needs.map Ac).length),(24,vi j)] [(8,.tok 4 (before.map Ah).length),(12100,.tok 2 (needs.map Ac).length),(1000,.cells [sl Ay st.2]),(1001,.cells [vb st.1]),(9,.cells [vs ((C3 before acc needs[j]).getD mt)])] ⟨Zr,Zr,Zr,Zr,Zr,Zr,⟨Aa vb (Aa Option.isSome HF.symm),rfl⟩,Zr,Zr,Zr,Tv⟩ ⟨Zr,Zr,Zr,Zr,⟨Aa (fun a=>HO.cells [vs (Option.getD a mt)]) HF.symm,rfl⟩,Tv⟩ (Yi (by show AQ ((j:Int)+1);grind [AQ]) (Xi ⟨(j+1,C3 before acc needs[j]),by omega,gt.symm⟩ ?_)));exact⟨by grind,Z10,Z5,Fh,Be aa0⟩
  rw[hd]at kB;refine Xi .pure (Xi _ (Yi (kB) ?_));refine Bs (show acc=none\/∃p,acc=some p by cases acc<;>grind) (fun ha=>?_) (fun ha=>?_)
  .have HF:C3 before acc needs[j]=some needs[j].path:=by grind [C3]
   refine cU [(0,.cptr (B2 x (.slice .none ifs) roots d)),(1,sl Ah s),(2,.clo 109 [.cptr [.cptr (B2 x (.slice .none ifs) roots d)],.ref 1000 0,.ref 1001 0]),(7,.slice (.id 12100 2) (needs.map Ac)),(8,.slice (.id 8 4) (before.map Ah)),(9,.ref 9 0),(10,vb false),(12,.ref 12 0),(13,vb false),(22,.slice (.id 12100 2) (needs.map Ac)),(23,vi (needs.map Ac).length),(24,vi j)] [(8,.tok 4 (before.map Ah).length),(12100,.tok 2 (needs.map Ac).length),(1000,.cells [sl Ay st.2]),(1001,.cells [vb st.1]),(9,.cells [vs mt]),(12,.ro (Ac needs[j]))] ⟨Zr,Zr,Zr,Zr,Zr,Zr,⟨by show vb acc.isSome=vb false;grind,rfl⟩,Zr,Zr,Zr,Zr,Zr,Tv⟩ ⟨Zr,Zr,Zr,Zr,⟨by show HO.cells [vs (acc.getD mt)]=HO.cells [vs mt];grind,rfl⟩,Zr,Tv⟩ ?_
   refine yN (cU [(0,.cptr (B2 x (.slice .none ifs) roots d)),(1,sl Ah s),(2,.clo 109 [.cptr [.cptr (B2 x (.slice .none ifs) roots d)],.ref 1000 0,.ref 1001 0]),(7,.slice (.id 12100 2) (needs.map Ac)),(8,.slice (.id 8 4) (before.map Ah)),(9,.ref 9 0),(10,vb (C3 before acc needs[j]).isSome),(22,.slice (.id 12100 2) (needs.map Ac)),(23,vi (needs.map Ac).length),(24,vi j)] [(8,.tok 4 (before.map Ah).length),(12100,.tok 2 (needs.map Ac).length),(1000,.cells [sl Ay st.2]),(1001,.cells [vb st.1]),(9,.cells [vs ((C3 before acc needs[j]).getD mt)])] ⟨Zr,Zr,Zr,Zr,Zr,Zr,⟨by show vb true=_;grind,rfl⟩,Zr,Zr,Zr,Tv⟩ ⟨Zr,Zr,Zr,Zr,⟨by show HO.cells [vs needs[j].path]=_;grind,rfl⟩,Tv⟩ ?_)
   refine Yi (by grind [AQ]) (Xi ⟨(j+1,C3 before acc needs[j]),by omega,gt.symm⟩ ?_);exact⟨by grind,Z10,Z5,Fh,Be aa0⟩
  refine AJ ha (fun p ha=>?_);refine cU [(0,.cptr (B2 x (.slice .none ifs) roots d)),(1,sl Ah s),(2,.clo 109 [.cptr [.cptr (B2 x (.slice .none ifs) roots d)],.ref 1000 0,.ref 1001 0]),(7,.slice (.id 12100 2) (needs.map Ac)),(8,.slice (.id 8 4) (before.map Ah)),(9,.ref 9 0),(10,vb true),(12,.ref 12 0),(13,vb false),(22,.slice (.id 12100 2) (needs.map Ac)),(23,vi (needs.map Ac).length),(24,vi j)] [(8,.tok 4 (before.map Ah).length),(12100,.tok 2 (needs.map Ac).length),(1000,.cells [sl Ay st.2]),(1001,.cells [vb st.1]),(9,.cells [vs p]),(12,.ro (Ac needs[j]))] ⟨Zr,Zr,Zr,Zr,Zr,Zr,⟨by show vb acc.isSome=vb true;grind,rfl⟩,Zr,Zr,Zr,Zr,Zr,Tv⟩ ⟨Zr,Zr,Zr,Zr,⟨by show HO.cells [vs (acc.getD mt)]=HO.cells [vs p];grind,rfl⟩,Zr,Tv⟩ ?_
  refine Yi ?_ ?_
  .intro hb;have hb:Op.bytesLess needs[j].path.toList p.toList=true:=hb;rw[<-Gg]at hb;have HF:C3 before acc needs[j]=some needs[j].path:=by grind [C3]
   refine yN (cU [(0,.cptr (B2 x (.slice .none ifs) roots d)),(1,sl Ah s),(2,.clo 109 [.cptr [.cptr (B2 x (.slice .none ifs) roots d)],.ref 1000 0,.ref 1001 0]),(7,.slice (.id 12100 2) (needs.map Ac)),(8,.slice (.id 8 4) (before.map Ah)),(9,.ref 9 0),(10,vb (C3 before acc needs[j]).isSome),(22,.slice (.id 12100 2) (needs.map Ac)),(23,vi (needs.map Ac).length),(24,vi j)] [(8,.tok 4 (before.map Ah).length),(12100,.tok 2 (needs.map Ac).length),(1000,.cells [sl Ay st.2]),(1001,.cells [vb st.1]),(9,.cells [vs ((C3 before acc needs[j]).getD mt)])] ⟨Zr,Zr,Zr,Zr,Zr,Zr,⟨by show vb true=_;simp_all,rfl⟩,Zr,Zr,Zr,Tv⟩ ⟨Zr,Zr,Zr,Zr,⟨by show HO.cells [vs needs[j].path]=_;simp_all,rfl⟩,Tv⟩ ?_)
   refine Yi (by grind [AQ]) (Xi ⟨(j+1,C3 before acc needs[j]),by omega,gt.symm⟩ ?_);exact⟨by grind,Z10,Z5,Fh,Be aa0⟩
  .intro hb;have hb:¬Op.bytesLess needs[j].path.toList p.toList=true:=hb;rw[<-Gg]at hb;have HF:C3 before acc needs[j]=some p:=by grind [C3]
   refine cU [(0,.cptr (B2 x (.slice .none ifs) roots d)),(1,sl Ah s),(2,.clo 109 [.cptr [.cptr (B2 x (.slice .none ifs) roots d)],.ref 1000 0,.ref 1001 0]),(7,.slice (.id 12100 2) (needs.map Ac)),(8,.slice (.id 8 4) (before.map Ah)),(9,.ref 9 0),(10,vb (C3 before acc needs[j]).isSome),(22,.slice (.id 12100 2) (needs.map Ac)),(23,vi (needs.map Ac).length),(24,vi j)] [(8,.tok 4 (before.map Ah).length),(12100,.tok 2 (needs.map Ac).length),(1000,.cells [sl Ay st.2]),(1001,.cells [vb st.1]),(9,.cells [vs ((C3 before acc needs[j]).getD mt)])] ⟨Zr,Zr,Zr,Zr,Zr,Zr,⟨by show vb true=_;grind,rfl⟩,Zr,Zr,Zr,Tv⟩ ⟨Zr,Zr,Zr,Zr,⟨by show HO.cells [vs p]=_;grind,rfl⟩,Tv⟩ ?_
   refine Yi (by grind [AQ]) (Xi ⟨(j+1,C3 before acc needs[j]),by omega,gt.symm⟩ ?_);exact⟨by grind,Z10,Z5,Fh,Be aa0⟩
 intro h;have h:¬(j:Int)<(needs.map Ac).length:=h;have h:¬j<needs.length:=by simp_all
 have pK:E9 needs before=acc:=by rw[j2,Bd ch];rfl
 refine Bs (show acc=none\/∃p,acc=some p by cases acc<;>grind) (fun ha=>?_) (fun ha=>?_)
 .have WW:=inv.stop (pK.trans ha);refine cU [(10,vb false)] [(1000,.cells [sl Ay st.2]),(1001,.cells [vb st.1])] ⟨⟨by show vb acc.isSome=vb false;grind,rfl⟩,Tv⟩ Z2 ?_
  exact Xi _ (Yi (.refl _) (Yi (Aa vb WW.1.symm) (Aa (fun a=>Ae (sH a) Ab) WW.2.symm)))
 refine AJ ha (fun p ha=>?_);have pK:E9 needs before=some p:=pK.trans ha;refine cU [(0,.cptr (B2 x (.slice .none ifs) roots d)),(1,sl Ah s),(2,.clo 109 [.cptr [.cptr (B2 x (.slice .none ifs) roots d)],.ref 1000 0,.ref 1001 0]),(7,.slice (.id 12100 2) (needs.map Ac)),(8,.slice (.id 8 4) (before.map Ah)),(9,.ref 9 0),(10,vb true)] [(8,.tok 4 (before.map Ah).length),(12100,.tok 2 (needs.map Ac).length),(1000,.cells [sl Ay st.2]),(1001,.cells [vb st.1]),(9,.cells [vs p])] ⟨Zr,Zr,Zr,Zr,Zr,Zr,⟨by show vb acc.isSome=vb true;grind,rfl⟩,Tv⟩ ⟨Zr,Zr,Zr,Zr,⟨by show HO.cells [vs (acc.getD mt)]=HO.cells [vs p];grind,rfl⟩,Tv⟩ ?_
 refine cU [(0,.cptr (B2 x (.slice .none ifs) roots d)),(1,sl Ah s),(2,.clo 109 [.cptr [.cptr (B2 x (.slice .none ifs) roots d)],.ref 1000 0,.ref 1001 0]),(7,.slice (.id 12100 2) (needs.map Ac)),(8,.slice (.id 8 4) (before.map Ah)),(9,.ref 9 0)] [(8,.tok 4 (before.map Ah).length),(12100,.tok 2 (needs.map Ac).length),(1000,.cells [sl Ay st.2]),(1001,.cells [vb st.1]),(9,.cells [vs p])] Z6 Z5 ?_
 have kE:=vE (fF:=186) (caps:=[.cptr [vs p]]) (fun c hc=>by
  obtain rfl:=AB.1 hc;intro h;rfl) s (fun y=>decide (y.path=p)) (fun y _=>c79 y p) ch
 refine Bs (cE s p) (fun hi=>?_) (fun hi=>?_)
 .rw[hi.1]at kE;have WW:=inv.lost pK hi.2;refine Xi .pure (Xi _ (Yi (kE) (cU [(14,vi (-1))] [(1000,.cells [sl Ay st.2]),(1001,.cells [vb st.1])] Z1 Z2 (Yi ?_ ?_))))
  .intro _;exact Xi _ (Yi (.refl _) (Yi (Aa vb WW.1.symm) (Aa (fun a=>Ae (sH a) Ab) WW.2.symm)))
  .intro hc;exact absurd (show((-1:Int)<0) by decide) hc
 refine AJ hi (fun i hi=>?_);refine AJ hi (fun y hi=>?_);have hi2:=hi.2.1;have zw:=hi.2.2;rw[hi.1]at kE;refine Xi .pure (Xi _ (Yi (kE) (cU [(0,.cptr (B2 x (.slice .none ifs) roots d)),(1,sl Ah s),(2,.clo 109 [.cptr [.cptr (B2 x (.slice .none ifs) roots d)],.ref 1000 0,.ref 1001 0]),(7,.slice (.id 12100 2) (needs.map Ac)),(8,.slice (.id 8 4) (before.map Ah)),(14,vi i)] [(8,.tok 4 (before.map Ah).length),(12100,.tok 2 (needs.map Ac).length),(1000,.cells [sl Ay st.2]),(1001,.cells [vb st.1])] Z6 Z4 (Yi ?_ ?_))))
 .intro hc;exact absurd (show((i:Int)<0)from hc) ch
 intro _;refine cU [(0,.cptr (B2 x (.slice .none ifs) roots d)),(1,sl Ah s),(2,.clo 109 [.cptr [.cptr (B2 x (.slice .none ifs) roots d)],.ref 1000 0,.ref 1001 0]),(7,.slice (.id 12100 2) (needs.map Ac)),(8,.slice (.id 8 4) (before.map Ah)),(14,vi i)] [(8,.tok 4 (before.map Ah).length),(12100,.tok 2 (needs.map Ac).length),(1000,.cells [sl Ay st.2]),(1001,.cells [vb st.1])] Z6 Z4 ?_
 have wF:(s.map Ah)[(i:Int).toNat]?=some (Ah y):=by simp_all
 have kD:PC 40 [IP x ifs,vs y.path,.agg (Gi y.ver)] (Mx (Bg x y)):=tx x ifs y.path y.ver RG hx;refine yN (Xi (Ah y) (Yi (Yi ch wF) (Yi rfl (Xi (Ah y) (Yi (Yi ch wF) (Yi rfl (yN (Bs (show Bg x y=none\/∃r,Bg x y=some r by grind) (fun hr=>?_) (fun hr=>?_)))))))))
 .rw[hr]at kD;have WW:=inv.gone pK zw hr;refine Xi _ (Yi (kD) (yN (Yi aa0 (cU [(16,vb false)] [(1000,.cells [sl Ay st.2]),(1001,.cells [vb st.1])] Z1 Z2 ?_))))
  exact Xi _ (Yi (.refl _) (Yi (Aa vb WW.1.symm) (Aa (fun a=>Ae (sH a) Ab) WW.2.symm)))
 refine AJ hr (fun r hr=>?_);rw[hr]at kD;refine Xi _ (Yi (kD) (yN (Yi aa0 ?_)));have xf:r∈x:=(CK hr).2.1;have wG:=inv.next pK zw hr (gD r xf) (fun q hq=>((hx r xf).2 q hq).1)
 refine cU [(0,.cptr (B2 x (.slice .none ifs) roots d)),(1,sl Ah s),(2,.clo 109 [.cptr [.cptr (B2 x (.slice .none ifs) roots d)],.ref 1000 0,.ref 1001 0]),(7,.slice (.id 12100 2) (needs.map Ac)),(8,.slice (.id 8 4) (before.map Ah)),(14,vi i),(15,.ref 15 0),(16,vb true)] [(8,.tok 4 (before.map Ah).length),(12100,.tok 2 (needs.map Ac).length),(1000,.cells [sl Ay st.2]),(1001,.cells [vb st.1]),(15,.cells (Al r))] Z8 Z5 (cU [(0,.cptr (B2 x (.slice .none ifs) roots d)),(1,sl Ah s),(2,.clo 109 [.cptr [.cptr (B2 x (.slice .none ifs) roots d)],.ref 1000 0,.ref 1001 0]),(7,.slice (.id 12100 2) (needs.map Ac)),(8,.slice (.id 8 4) (before.map Ah)),(14,vi i),(15,.ref 15 0)] [(8,.tok 4 (before.map Ah).length),(12100,.tok 2 (needs.map Ac).length),(1000,.cells [sl Ay st.2]),(1001,.cells [vb st.1]),(15,.cells (Al r))] Z7 Z5 (yN ?_));have xq:=c46 x (.slice .none ifs) roots d st before needs r (Iy h0).1 hd ht ch wS inv.few;refine Xi (.gen [(1000,1000),(1001,1001)] 0) (Yi rfl (xq.imp ?_));intro v g q;have q1:=q.1;have q2:=q.2;subst q1;subst q2
 clear q
 refine cU [(0,.cptr (B2 x (.slice .none ifs) roots d)),(1,sl Ah s),(2,.clo 109 [.cptr [.cptr (B2 x (.slice .none ifs) roots d)],.ref 1000 0,.ref 1001 0]),(7,.slice (.id 12100 2) (needs.map Ac)),(8,.slice (.id 8 4) (before.map Ah)),(14,vi i),(15,.ref 15 0)] [(8,.tok 4 (before.map Ah).length),(12100,.tok 2 (needs.map Ac).length),(1000,.cells [sl Ay (Cw x d st ⟨before,needs,r⟩).2]),(1001,.cells [vb (Cw x d st ⟨before,needs,r⟩).1]),(15,.cells (Al r))] Z7 Z5 (Xi (Ah y) (Yi (Yi ch wF) (Yi rfl (yN ?_))));have Di:BJ 4 [Ah y]/\(before.map Ah).length=(before.map Ah).length/\((before.map Ah).length+[Ah y].length)*40<=140737488355328/\(before.map Ah).length+[Ah y].length<=9223372036854775807:=
  ⟨⟨rfl,trivial⟩,rfl,by grind,by grind⟩
 refine Yi Di ?_;have oK:=gD r xf;have mo:BJ 2 (r.reqs.map Ac)/\(needs.map Ac).length=(needs.map Ac).length/\((needs.map Ac).length+(r.reqs.map Ac).length)*40<=140737488355328/\(needs.map Ac).length+(r.reqs.map Ac).length<=9223372036854775807:=
  ⟨Df (enc:=Ac) (n:=2) (fun _=>rfl) r.reqs,rfl,by grind,by grind⟩
 refine Yi mo ?_;have e7:AV.slice (.id 12100 2) (needs.map Ac++r.reqs.map Ac)=.slice (.id 12100 2) ((needs++r.reqs).map Ac):=by simp_all
 have e8:AV.slice (.id 8 4) (before.map Ah++[Ah y])=.slice (.id 8 4) ((before++[y]).map Ah):=by simp_all
 have o7:HO.tok 2 ((needs.map Ac).length+(r.reqs.map Ac).length)=.tok 2 ((needs++r.reqs).map Ac).length:=by simp_all
 have o8:HO.tok 4 ((before.map Ah).length+[Ah y].length)=.tok 4 ((before++[y]).map Ah).length:=by simp_all
 refine Xi ⟨(before++[y],needs++r.reqs,m,(Cw x d) st ⟨before,needs,r⟩),wG⟩ ?_;exact⟨by simp_all,⟨Zr,Zr,Zr,⟨e7,rfl⟩,⟨e8,rfl⟩,Tv⟩,⟨⟨o8,rfl⟩,⟨o7,rfl⟩,Zr,Zr,Tv⟩,Fh,Be aa0⟩
def Na:Bool:=decide (q.path.size<=100)&&decide (q.set.length<=8)
def CE:Bool:=l.all Na&&decide (l.length<=20)
theorem tw(hl:Cr l):PC 37 [sl Ac l] (vb (CE l)):=by
 unfold Cr at hl;refine Ps D0 Tryz.func37 rfl (Nz rfl) (Xi {i:Nat // i<=l.length/\∀j (hj:j<l.length),j<i->Na l[j]=true} (Xi (fun i=>⟨[(0,sl Ac l),(3,vi i.1)],[],Ab⟩) (Xi (fun i=>l.length-i.1) (Yi (Xi ⟨0,Ar _,fun j _ h=>by omega⟩ ?_) ?_))))
 .exact⟨Z2,Tv,Fh,Tv⟩
 intro⟨i,h1,h2⟩;refine Yi ?_ ?_
 .intro h;have h:i<l.length:=by simp_all
  have hg:l[i]?=some l[i]:=Ge h;have no:Na l[i]=false->false=CE l:=fun e=>by
   grind [CE]
  refine Xi (Ac l[i]) (Yi (Yi ch (by simp_all)) (Yi rfl ?_));refine Yi ?_ ?_
  .intro h3;exact .of_eq (Aa vb (no (by grind [Na])))
  intro h3;refine Xi (Ac l[i]) (Yi (Yi ch (by simp_all)) (Yi rfl ?_));refine Yi ?_ ?_
  .intro h4;rw[Lm]at h4;exact .of_eq (Aa vb (no (by grind [Na])))
  intro h4;have h5:l[i].set.length<=8:=by grind
  refine Yi (by grind [AQ]) (Xi ⟨i+1,by omega,fun j hj Jy=>?_⟩ ?_)
  .grind [Na]
  .exact⟨Dl l.length i ch,Z2,Tv,Fh,Tv⟩
 .intro h;have h:¬i<l.length:=by simp_all
  have ha:l.all Na=true:=AF.2 fun q hq=>by
   grind [List.getElem_of_mem]
  refine Yi ?_ ?_
  .intro h3;rw[Lm]at h3;exact .of_eq (Aa vb (show true=CE l by grind [CE]))
  .intro h3;rw[Lm]at h3;exact .of_eq (Aa vb (show false=CE l by grind [CE]))
def Jc(r:Rl):Bool:=decide (r.path.size<=100)&&decide (r.arch.size<=100)&&decide (r.ifc.size<=100)&&decide (r.cert.size<=100)&&CE r.reqs
def Er:Bool:=x.all Jc&&decide (x.length<=n)
theorem c34(hl:Cr x)(hr:∀r∈x,Cr r.reqs):PC 36 [sl Al x,vi n] (vb (Er x n)):=by
 unfold Cr at hl;refine Ps D0 Tryz.func36 rfl (Nz rfl) (Xi {i:Nat // i<=x.length/\∀j (hj:j<x.length),j<i->Jc x[j]=true} (Xi (fun i=>⟨[(0,sl Al x),(1,vi n),(5,vi i.1)],[],Ab⟩) (Xi (fun i=>x.length-i.1) (Yi (Xi ⟨0,Ar _,fun j _ h=>by omega⟩ ?_) ?_))))
 .exact⟨Z3,Tv,Fh,Tv⟩
 intro⟨i,h1,h2⟩;refine Yi ?_ ?_
 .intro h;have h:i<x.length:=by simp_all
  have hg:x[i]?=some x[i]:=Ge h;have no:Jc x[i]=false->false=Er x n:=fun e=>by
   grind [Er]
  have hc:=tw x[i].reqs (hr _ (Ao h));refine Xi (Al x[i]) (Yi (Yi ch (by simp_all)) (Yi rfl ?_));refine Yi ?_ ?_
  .intro h3;exact .of_eq (Aa vb (no (by grind [Jc])))
  intro h3;refine Xi (Al x[i]) (Yi (Yi ch (by simp_all)) (Yi rfl ?_));refine Yi ?_ ?_
  .intro h4;exact .of_eq (Aa vb (no (by grind [Jc])))
  intro h4;refine Xi (Al x[i]) (Yi (Yi ch (by simp_all)) (Yi rfl ?_));refine Yi ?_ ?_
  .intro h5;exact .of_eq (Aa vb (no (by grind [Jc])))
  intro h5;refine Xi (Al x[i]) (Yi (Yi ch (by simp_all)) (Yi rfl ?_));refine Yi ?_ ?_
  .intro h6;exact .of_eq (Aa vb (no (by grind [Jc])))
  intro h6;refine Xi (Al x[i]) (Yi (Yi ch (by simp_all)) (Yi rfl ?_));refine Bs (Bt (CE x[i].reqs)) (fun e=>?_) (fun e=>?_)
  rotate_left
  .rw[e]at hc;refine Xi .pure (Xi _ (Yi (hc) ?_));exact .of_eq (Aa vb (no (by grind [Jc])))
  rw[e]at hc;refine Xi .pure (Xi _ (Yi (hc) (Yi (by grind [AQ]) (Xi ⟨i+1,by omega,fun j hj Jy=>?_⟩ ?_))))
  .grind [Jc]
  .exact⟨Dl x.length i ch,Z3,Tv,Fh,Tv⟩
 .intro h;have h:¬i<x.length:=by simp_all
  have ha:x.all Jc=true:=AF.2 fun q hq=>by
   grind [List.getElem_of_mem]
  refine Yi ?_ ?_
  .intro h3;rw[Lm]at h3;exact .of_eq (Aa vb (show true=Er x n by grind [Er]))
  .intro h3;rw[Lm]at h3;exact .of_eq (Aa vb (show false=Er x n by grind [Er]))
theorem c11(hl:Cr x)(hr:∀r∈x,Cr r.reqs)(hq:Cr roots):PC 10 [IP x ifs,sl Ac roots] (vb (Er x 16&&CE roots)):=by
 have h1:=c34 x 16 hl hr;have h2:=tw roots hq;cases e:Er x 16 with
 |true=>
  rw[e]at h1;refine Ps D0 Tryz.func10 rfl (Nz rfl) (Xi .pure (Xi _ (Yi (h1) (Xi .pure (Xi _ (Yi (h2) ?_))))));exact .refl _
 |false=>
  rw[e]at h1;refine Ps D0 Tryz.func10 rfl (Nz rfl) (Xi .pure (Xi _ (Yi (h1) ?_)));exact .refl _
abbrev qb:Prop:=PC 21 [IP x ifs,sl Ac roots,sl Ah s] (vi (F9 x roots s))
theorem PK{x:List Rl}{roots:List Rq}{l0:List Nf}:∀(l:List Nf) (d d' : List (List Tm)),(∀i∈l,i∈l0)->(∀t∈d,Qh (Ha x roots l0) t)->BA x roots l d=some d'->∀t∈d',Qh (Ha x roots l0) t
 | [],d,d',_,hd,h=>by
  have:d=d':=EU h
  simp_all
 |i::l,d,d',hi,hd,h=>by
  unfold BA at h;cases e:Bo x roots d i with
  |none=>simp_all
  |some t=>
   rw[e]at h;refine PK l (d++[t]) d' (fun j hj=>hi j (Af _ hj)) (fun u hu=>?_) h
   grind [OS,List.mem_cons_self]
theorem Wu{x:List Rl}{roots:List Rq}{l:List Nf}(h:(B9 x roots l).2=0):∀t∈(B9 x roots l).1,UO t:=fun t ht=>by
 obtain⟨h1,h2,h3,h4⟩:=Rk h
 have:=(PK (l0:=l) l [] _ (fun _ h=>h) (fun _ h=>by cases h) h4 t ht).fewI (M6 h1 h2 h3)
 grind
abbrev sr:MF:=(pC [7] [2,4,8,10,11,12,13])
theorem c21(a:An)(RG:dX x ifs)(h45:qb x ifs roots a.sel)(hx:∀r∈x,Ir r)(hr:∀q∈roots,KL q)(hs:a.sel.length<=500)(hk:Cr a.skips):PC 49 [IP x ifs,sl Ac roots,.agg (IS a)] (vi (Fe x roots a)):=by
 obtain⟨found,sel,infs,skips⟩:=a;have hs:sel.length<=500:=hs;have cq:=c36 x ifs roots infs hx hr (fun _=>uY x ifs roots RG);unfold ZS at cq;obtain⟨D,hD⟩:∃D,D=Fe x roots ⟨found,sel,infs,skips⟩:=⟨_,rfl⟩;rw[<-hD];unfold Fe at hD
 by_cases he:(B9 x roots infs).2=0
 .rw[A1 he]at cq;rw[AO (by simp_all)]at hD;obtain⟨h1,h2,h3,h4⟩:=Rk he;have zo:=Wu he;have hdl:(B9 x roots infs).1.length<=65536:=Yz;obtain⟨d,hd⟩:∃d,d=(B9 x roots infs).1:=⟨_,rfl⟩;rw[<-hd]at hD cq zo hdl;have ky:=c40 x (.slice .none ifs) roots d ch;refine Ps sr Tryz.func49 rfl (Nz rfl) (yN (Xi .pure (Xi _ (Yi (cq) (yN (cU [(1,sl Ac roots),(3,.ref 3 0),(5,.ref 5 0),(7,.ref 7 0),(8,vi 0)] [(3,.cells (Ic x ifs)),(5,.cells [vb found,sl Ah sel,sl AG infs,sl Ay skips]),(7,.ro [.cptr (B2 x (.slice .none ifs) roots d)])] Z5 Z3 (Yi ?_ ?_)))))))
  .intro h;exact absurd rfl h
  intro _;refine cU [(1,sl Ac roots),(3,.ref 3 0),(5,.ref 5 0),(7,.ref 7 0)] [(3,.cells (Ic x ifs)),(5,.cells [vb found,sl Ah sel,sl AG infs,sl Ay skips]),(7,.ro [.cptr (B2 x (.slice .none ifs) roots d)])] Z4 Z3 (Yi ?_ ?_)
  .intro hf;have hf:found=true:=hf;have hD:D=if F9 x roots sel≠0 then 18 else if(((visits x roots sel).1.foldl (Cw x d) (true,skips)).1&&((visits x roots sel).1.foldl (Cw x d) (true,skips)).2.isEmpty)then 0 else 18:=by
    simp_all
   refine cU [(1,sl Ac roots),(3,.ref 3 0),(5,.ref 5 0),(7,.ref 7 0)] [(3,.cells (Ic x ifs)),(5,.cells [vb found,sl Ah sel,sl AG infs,sl Ay skips]),(7,.ro [.cptr (B2 x (.slice .none ifs) roots d)])] Z4 Z3 (yN (Xi .pure (Xi _ (Yi (h45) (Yi ?_ ?_)))))
   .intro hz;have hz:F9 x roots sel≠0:=hz;exact .of_eq (Aa vi (show(18:Int)=D by omega))
   intro hz;have hz:¬F9 x roots sel≠0:=hz;have hD:D=if(((visits x roots sel).1.foldl (Cw x d) (true,skips)).1&&((visits x roots sel).1.foldl (Cw x d) (true,skips)).2.isEmpty)then 0 else 18:=by omega
   have hcd:=vD x ifs roots d sel (true,skips) RG h1 hx (by grind [Lz]) (fun q hq=>(hr q hq).1) hs hdl zo;refine cU [(5,.ref 5 0),(7,.ref 7 0)] [(5,.cells [vb found,sl Ah sel,sl AG infs,sl Ay skips]),(7,.ro [.cptr (B2 x (.slice .none ifs) roots d)])] Z2 Z2 (yN (cU [(5,.ref 5 0),(7,.ref 7 0),(9,.ref 9 0)] [(5,.cells [vb found,sl Ah sel,sl AG infs,sl Ay skips]),(7,.ro [.cptr (B2 x (.slice .none ifs) roots d)]),(9,.cells [vb true])] Z3 Z3 (yN (cU [(5,.ref 5 0),(7,.ref 7 0),(9,.ref 9 0),(10,.ref 10 0)] [(5,.cells [vb found,sl Ah sel,sl AG infs,sl Ay skips]),(7,.ro [.cptr (B2 x (.slice .none ifs) roots d)]),(9,.cells [vb true]),(10,.cells [sl Ay skips])] Z4 Z4 (Xi (.gen [(10,1000),(9,1001)] 0) (Yi rfl (hcd.imp ?_)))))));intro v g q;have q1:=q.1;have q2:=q.2;subst q1;subst q2;refine AJ (show ∃A,A=(visits x roots sel).1.foldl (Cw x d) (true,skips)from⟨_,rfl⟩) (fun A hA=>?_);refine cU [(9,.ref 9 0),(10,.ref 10 0)] [(9,.cells [vb A.1]),(10,.cells [sl Ay A.2])] Z2 ⟨⟨Aa (fun a:Bool×List Sk=>HO.cells [vb a.1]) hA.symm,rfl⟩,⟨Aa (fun a:Bool×List Sk=>HO.cells [sl Ay a.2]) hA.symm,rfl⟩,Tv⟩ ?_
   rw[<-hA]at hD;refine Yi ?_ ?_
   .intro h5;have h5:A.1=true:=h5;refine Yi ?_ ?_
    .intro h6;have h6:(0:Int)<(A.2.map Ay).length:=h6;have h6:A.2.isEmpty=false:=by
      grind
     exact .of_eq (Aa vi (show(18:Int)=D by simp_all))
    .intro h6;have h6:¬(0:Int)<(A.2.map Ay).length:=h6;have h6:A.2.isEmpty=true:=by
      simp_all
     exact .of_eq (Aa vi (show(0:Int)=D by simp_all))
   .intro h5;have h5:A.1=false:=h5;exact .of_eq (Aa vi (show(18:Int)=D by simp_all))
  .intro hf;have hf:found=false:=hf;have hD:D=if(!sel.isEmpty||!skips.isEmpty||!E1 d)then 18 else 0:=by
    simp_all
   refine Yi ?_ ?_
   .intro h5;have h5:(0:Int)<(sel.map Ah).length:=h5;have h5:sel.isEmpty=false:=by
     grind
    exact .of_eq (Aa vi (show(18:Int)=D by simp_all))
   intro h5;have h5:¬(0:Int)<(sel.map Ah).length:=h5;have h5:sel.isEmpty=true:=by
    simp_all
   refine Yi ?_ ?_
   .intro h6;have h6:(0:Int)<(skips.map Ay).length:=h6;have h6:skips.isEmpty=false:=by
     grind
    exact .of_eq (Aa vi (show(18:Int)=D by simp_all))
   intro h6;have h6:¬(0:Int)<(skips.map Ay).length:=h6;have h6:skips.isEmpty=true:=by
    simp_all
   refine Bs (Bt (E1 d)) (fun h7=>?_) (fun h7=>?_)
   .rw[h7]at ky;refine Xi .pure (Xi _ (Yi (ky) ?_));exact .of_eq (Aa vi (show(0:Int)=D by simp_all))
   .rw[h7]at ky;refine Xi .pure (Xi _ (Yi (ky) ?_));exact .of_eq (Aa vi (show(18:Int)=D by simp_all))
 .rw[AO he]at cq;rw[A1 he]at hD;refine Ps sr Tryz.func49 rfl (Nz rfl) (yN (Xi .pure (Xi _ (Yi (cq) (yN (cU [(8,vi (B9 x roots infs).2)] [] Z1 Tv (Yi ?_ ?_)))))))
  .intro _;exact .of_eq (Aa vi hD.symm)
  .intro h;exact absurd he h
def Lw(d:List ByteArray):List Rl->Nat
 | []=>0
 |r::l=>(if d.any (fun p=>decide (p=r.path))then 0 else r.reqs.length)+Lw d l
theorem aU(d:List ByteArray)(p:ByteArray):∀l:List Rl,Lw (d++[p]) l<=Lw d l
 | []=>Ai _
 |r::l=>by
  have ih:=aU d p l
  grind [Lw]
theorem Pf(d:List ByteArray)(p:ByteArray)(hp:d.any (fun q=>decide (q=p))=false):∀l:List Rl,Lw (d++[p]) l+(Ep l p).length<=Lw d l
 | []=>by simp[Lw,Ep]
 |r::l=>by
  by_cases hr:r.path=p
  .grind [Ep,Lw,aU]
  .have e:Ep (r::l) p=Ep l p:=by grind [Ep]
   rw[e];have ih:=Pf d p hp l
   grind [Lw]
theorem SB:∀l:List Rl,Lw [] l=(l.map fun r=>r.reqs.length).foldl (·+·) 0
 |l=>by
  have gen:∀(l:List Rl) (a:Nat),(l.map fun r=>r.reqs.length).foldl (·+·) a=a+Lw [] l:=fun l=>by
   induction l<;>grind [Lw]
  simp_all
structure NI(l:List Rl)(roots:List Rq)(d:List ByteArray)(t:List Rq)(n:Nat):Prop where
 need:EB l (Gq l roots) roots []=EB l n t d
 pot:t.length+Lw d l+1<=n
section
variable {l:List Rl}{roots t:List Rq}{d:List ByteArray}{n:Nat}
theorem NI.start(l:List Rl)(roots:List Rq):NI l roots [] roots (Gq l roots):=⟨rfl,by grind [SB,Gq]⟩
theorem NI.stop(h:NI l roots d [] n):EB l (Gq l roots) roots []=d:=by
 rw[h.need];cases n<;>rfl
theorem NI.old{q:Rq}(h:NI l roots d (q::t) (n+1))(hq:d.any (fun p=>decide (p=q.path))=true):NI l roots d t n:=
 ⟨by rw[h.need];show(if _ then _ else _)=_;simp_all,by have:=h.pot;grind⟩
theorem NI.new{q:Rq}(h:NI l roots d (q::t) (n+1))(hq:d.any (fun p=>decide (p=q.path))=false):NI l roots (d++[q.path]) (t++Ep l q.path) n:=
 ⟨by rw[h.need];show(if _ then _ else _)=_;grind,by
  have:=h.pot
  have:=Pf d q.path hq l
  grind⟩
end
abbrev Ul(p:ByteArray):Value×AV:=(.string p,vb true)
theorem QD{a:AV}(h:(Value.string p,a)∈d.map Ul):p∈d/\a=vb true:=by
 grind
theorem Nq:(d.any fun q=>decide (q=p))=true↔p∈d:=eQ
theorem nx{l:List Rl}(hn:(l.map (·.path)).Nodup){i:Nat}(hi:i<l.length):Ej ((l.take i).map Li) (.string l[i].path) (.agg (Al l[i]))=(l.take (i+1)).map Li:=by
 rw[HG]
 .rw[FL,Ge hi,Bm];rfl
 intro a ha;obtain⟨r,hr,he,_⟩:=QE ha;obtain⟨j,hj,e2⟩:=CF.1 hr;rw[CB]at hj;rw[List.getElem_take]at e2
 have:=(List.getElem_inj (xs:=l.map (·.path)) (i:=j) (j:=i) (h₀:=by grind) (h₁:=by simp_all) hn).1 (by simp_all)
 omega
theorem dJ{x:List Rl}{s:List Sl}{l:List Rl}(hi:Cq s=true)(h:IE x s=some l):(l.map (·.path)).Nodup:=by
 have e:=(Hd h).1
 have:l.map (·.path)=s.map (·.path):=by rw[<-e,Bx];rfl
 rw[this];have hp:=(FR hi).1
 grind [CG]
abbrev lH:MF:=⟨[],[(72,2)],[],[(47,[35,10])],[],[],[72],[],[],[],[2,4,5,7,8,10,11,13,14,16,17,20,22,23,24,25,26,27,30]⟩
theorem c45(RG:dX x ifs)(hx:∀r∈x,Ir r)(hr:roots.length<=1000000)(pS:∀q∈roots,Cr q.set)(hs:s.length<=1000000):qb x ifs roots s:=by
 have hsf:Cr s:=by omega
 have ua:Cr roots:=by omega
 obtain⟨D,hD⟩:∃D,D=F9 x roots s:=⟨_,rfl⟩;unfold qb;rw[<-hD];unfold F9 at hD
 by_cases h0:AC x=0
 .have RG:PC 51 [IP x ifs] (.tup [.agg [.cmap Nh (x.map MW),.cmap BS ((AE x []).map (cM x))],vi 0]):=by
   grind
  rw[AO ch]at hD;have WT:=c85 x s ((AE x []).map (cM x)) h0 hsf;unfold dI at WT;cases hi:Cq s with
  |false=>
   rw[A1 hi]at WT;rw[A1 (by simp_all)]at hD;refine Ps lH Tryz.func21 rfl (Nz rfl) (Xi 0 (Xi 0 (yN (Xi .pure (Xi _ (Yi (RG) (yN (cU [(1,sl Ac roots),(2,sl Ah s),(7,.ref 7 0),(8,vi 0)] [(7,.cells [.cmap Nh (x.map MW),.cmap BS ((AE x []).map (cM x))])] Z4 Z1 (Xi 0 (Yi ?_ ?_))))))))))
   .intro h;exact absurd rfl h
   intro _;refine cU [(1,sl Ac roots),(2,sl Ah s),(7,.ref 7 0)] [(7,.cells [.cmap Nh (x.map MW),.cmap BS ((AE x []).map (cM x))])] Z3 Z1 (Xi 0 (yN (Xi .pure (Xi _ (Yi (WT) (cU [(8,vi 1)] [] Z1 Tv (Xi 0 (Yi ?_ ?_))))))))
   .intro _;refine Xi 0 ?_;exact .of_eq (Aa vi hD.symm)
   .intro h;exact absurd (show(1:Int)≠0 by decide) h
  |true=>
   rw[AO (by simp_all)]at WT;rw[AO (by simp_all)]at hD;cases RQ:IE x s with
   |none=>
    rw[RQ]at WT hD;refine Ps lH Tryz.func21 rfl (Nz rfl) (Xi 0 (Xi 0 (yN (Xi .pure (Xi _ (Yi (RG) (yN (cU [(1,sl Ac roots),(2,sl Ah s),(7,.ref 7 0),(8,vi 0)] [(7,.cells [.cmap Nh (x.map MW),.cmap BS ((AE x []).map (cM x))])] Z4 Z1 (Xi 0 (Yi ?_ ?_))))))))))
    .intro h;exact absurd rfl h
    intro _;refine cU [(1,sl Ac roots),(2,sl Ah s),(7,.ref 7 0)] [(7,.cells [.cmap Nh (x.map MW),.cmap BS ((AE x []).map (cM x))])] Z3 Z1 (Xi 0 (yN (Xi .pure (Xi _ (Yi (WT) (cU [(8,vi 6)] [] Z1 Tv (Xi 0 (Yi ?_ ?_))))))))
    .intro _;refine Xi 0 ?_;exact .of_eq (Aa vi hD.symm)
    .intro h;exact absurd (show(6:Int)≠0 by decide) h
   |some l=>
    rw[RQ]at WT hD;have RP:=dJ hi RQ;have hll:l.length=s.length:=by rw[<-(Hd RQ).1,Lm]
    have zE:∀r∈l,r∈x:=fun r hr=>(CK ((Hd RQ).2.1 r hr)).2.1;have zC:∀r∈l,r.reqs.length<=16:=fun r hr=>(Iy h0).2 r (zE r hr);have YP:∀q:Rq,Cr q.set->PC 53 ([.agg (Ac q)]++[.cptr [.cmap BS (l.map Li)]]) (vb (CC l q)):=fun q hq=>c86 l RP q hq;have HF:Ct [.cptr [.cmap BS (l.map Li)]]:=fun c hc=>by
     obtain rfl:=AB.1 hc;intro h;rfl
    have hD:D=if l.any (fun r=>r.reqs.any (CC l))then 17 else if roots.any (CC l)then 17 else if(EB l (Gq l roots) roots []).length<l.length then 8 else 0:=hD
    refine Ps lH Tryz.func21 rfl (Nz rfl) (Xi 0 (Xi 0 (yN (Xi .pure (Xi _ (Yi (RG) (yN (cU [(1,sl Ac roots),(2,sl Ah s),(7,.ref 7 0),(8,vi 0)] [(7,.cells [.cmap Nh (x.map MW),.cmap BS ((AE x []).map (cM x))])] Z4 Z1 (Xi 0 (Yi ?_ ?_))))))))))
    .intro h;exact absurd rfl h
    intro _;refine cU [(1,sl Ac roots),(2,sl Ah s),(7,.ref 7 0)] [(7,.cells [.cmap Nh (x.map MW),.cmap BS ((AE x []).map (cM x))])] Z3 Z1 (Xi 0 (yN (Xi .pure (Xi _ (Yi (WT) (cU [(1,sl Ac roots),(8,vi 0),(9,sl Al l)] [] Z3 Tv (Xi 0 (Yi ?_ ?_))))))))
    .intro h;exact absurd rfl h
    intro _;refine cU [(1,sl Ac roots),(9,sl Al l)] [] Z2 Tv (Xi 0 (yN (cU [(1,sl Ac roots),(9,sl Al l),(10,.ref 10 0)] [(10,.cells [.mref 35]),(35,.map BS [])] Z3 Z2 (Xi 0 (Xi {i:Nat // i<=l.length} (Xi (fun i=>⟨[(1,sl Ac roots),(9,sl Al l),(10,.ref 10 0),(36,sl Al l),(37,vi (l.map Al).length),(38,vi i.1)],[(10,.cells [.mref 35]),(35,.map BS ((l.take i.1).map Li))],Ab⟩) (Xi (fun i=>l.length-i.1) (Yi (Xi ⟨0,Ar _⟩ ?_) ?_))))))))
    .exact⟨Z6,Z2,Fh,Tv⟩
    intro⟨i,i1⟩;have i1:i<=l.length:=i1;refine Xi 0 (Yi ?_ ?_)
    .intro h;have h:(i:Int)<(l.map Al).length:=h;have h:i<l.length:=by simp_all
     have hg:l[i]?=some l[i]:=Ge h;refine cU [(1,sl Ac roots),(9,sl Al l),(10,.ref 10 0),(36,sl Al l),(37,vi (l.map Al).length),(38,vi i)] [(10,.cells [.mref 35]),(35,.map BS ((l.take i).map Li))] Z6 Z2 (Xi 0 (Xi (Al l[i]) (Yi (Yi ch (by simp_all)) (Yi rfl ?_))));refine Yi (Nz rfl) (yN (cU [(1,sl Ac roots),(9,sl Al l),(10,.ref 10 0),(36,sl Al l),(37,vi (l.map Al).length),(12,.ref 12 0),(38,vi i)] [(12,.cells (Al l[i])),(10,.cells [.mref 35]),(35,.map BS ((l.take i).map Li))] Z7 Z3 (Xi 0 (yN ?_))));have e35:=nx RP h;refine Xi 0 (Yi (Ii i ch) (Xi ⟨i+1,by omega⟩ ?_));exact⟨by grind,Z6,⟨Zr,⟨Aa (HO.map BS) e35,rfl⟩,Tv⟩,Fh,Tv⟩
    intro h;have h:¬(i:Int)<(l.map Al).length:=h;have h:¬i<l.length:=by simp_all
    have et:(l.take i).map Li=l.map Li:=by grind
    refine cU [(1,sl Ac roots),(9,sl Al l),(10,.ref 10 0)] [(10,.cells [.mref 35]),(35,.map BS (l.map Li))] Z3 ⟨Zr,⟨Aa (HO.map BS) et,rfl⟩,Tv⟩ (Xi 0 (cU [(1,sl Ac roots),(9,sl Al l),(10,.ref 10 0),(13,.clo 53 [.cptr [.cmap BS (l.map Li)]])] [(10,.ro [.cmap BS (l.map Li)])] Z4 Z1 (Xi 0 (Xi {i:Nat // i<=l.length/\∀j (hj:j<l.length),j<i->l[j].reqs.any (CC l)=false} (Xi (fun i=>⟨[(1,sl Ac roots),(9,sl Al l),(10,.ref 10 0),(13,.clo 53 [.cptr [.cmap BS (l.map Li)]]),(48,sl Al l),(49,vi (l.map Al).length),(50,vi i.1)],[(10,.ro [.cmap BS (l.map Li)])],Ab⟩) (Xi (fun i=>l.length-i.1) (Yi (Xi ⟨0,Ar _,fun j _ hj=>absurd hj (Dn j)⟩ ?_) ?_)))))))
    .exact⟨Z7,Z1,Fh,Tv⟩
    intro⟨i,i1,i2⟩;have i1:i<=l.length:=i1;refine Xi 0 (Yi ?_ ?_)
    .intro h;have h:(i:Int)<(l.map Al).length:=h;have h:i<l.length:=by omega
     have hg:l[i]?=some l[i]:=Ge h;have J8:PC 56 [sl Ac l[i].reqs,.clo 53 [.cptr [.cmap BS (l.map Li)]]] (vb (l[i].reqs.any (CC l))):=vG HF l[i].reqs (CC l) (fun q hq=>YP q ((hx _ (zE _ (Ao h))).2 q hq).1) (by grind);refine cU [(1,sl Ac roots),(9,sl Al l),(10,.ref 10 0),(13,.clo 53 [.cptr [.cmap BS (l.map Li)]]),(48,sl Al l),(49,vi (l.map Al).length),(50,vi i)] [(10,.ro [.cmap BS (l.map Li)])] Z7 Z1 (Xi 0 (Xi (Al l[i]) (Yi (Yi ch (by simp_all)) (Yi rfl ?_))));refine Yi (Nz rfl) (yN (cU [(1,sl Ac roots),(9,sl Al l),(10,.ref 10 0),(13,.clo 53 [.cptr [.cmap BS (l.map Li)]]),(48,sl Al l),(49,vi (l.map Al).length),(15,.ref 15 0),(50,vi i)] [(10,.ro [.cmap BS (l.map Li)]),(15,.cells (Al l[i]))] Z8 Z2 (Xi 0 (Bs (Bt (l[i].reqs.any (CC l))) (fun hb=>?_) (fun hb=>?_)))))
     .rw[hb]at J8;refine Xi .pure (Xi _ (Yi (J8) (Xi 0 ?_)));have ha:l.any (fun r=>r.reqs.any (CC l))=true:=Ci.2 ⟨l[i],Ao h,hb⟩;exact .of_eq (Aa vi (show(17:Int)=D by simp_all))
     .rw[hb]at J8;refine Xi .pure (Xi _ (Yi (J8) (Xi 0 (Yi (by grind [AQ]) (Xi ⟨i+1,by omega,fun j hj Jy=>?_⟩ ?_)))))
      .grind
      exact⟨by grind,Z7,Z1,Fh,Tv⟩
    intro h;have h:¬(i:Int)<(l.map Al).length:=h;have h:¬i<l.length:=by simp_all
    have ha:l.any (fun r=>r.reqs.any (CC l))=false:=by
     grind [List.mem_iff_getElem]
    have hD:D=if roots.any (CC l)then 17 else if(EB l (Gq l roots) roots []).length<l.length then 8 else 0:=by simp_all
    have J8:PC 56 [sl Ac roots,.clo 53 [.cptr [.cmap BS (l.map Li)]]] (vb (roots.any (CC l))):=vG HF roots (CC l) (fun q hq=>YP q (pS q hq)) ua;refine cU [(1,sl Ac roots),(9,sl Al l),(10,.ref 10 0),(13,.clo 53 [.cptr [.cmap BS (l.map Li)]])] [(10,.ro [.cmap BS (l.map Li)])] Z4 Z1 (Xi 0 (Bs (Bt (roots.any (CC l))) (fun hb=>?_) (fun hb=>?_)))
    .rw[hb]at J8;refine Xi .pure (Xi _ (Yi (J8) (Xi 0 ?_)));exact .of_eq (Aa vi (show(17:Int)=D by simp_all))
    rw[hb]at J8;have hD:D=if(EB l (Gq l roots) roots []).length<l.length then 8 else 0:=by simp_all
    refine Xi .pure (Xi _ (Yi (J8) (cU [(1,sl Ac roots),(9,sl Al l),(10,.ref 10 0)] [(10,.ro [.cmap BS (l.map Li)])] Z3 Z1 (Xi 0 (cU [(1,sl Ac roots),(9,sl Al l),(10,.ref 10 0),(16,.mref 62)] [(10,.ro [.cmap BS (l.map Li)]),(62,.map BS [])] Z4 Z2 (Xi 0 (Xi (.gen [] 1) (Yi rfl ((qF roots ua).imp ?_)))))))));intro v g q;have q1:=q.1;have q2:=q.2;subst q1;subst q2
    clear q
    have zQ:Lw [] l<=16*l.length:=by
     have gen:∀l:List Rl,(∀r∈l,r.reqs.length<=16)->Lw [] l<=16*l.length:=fun l=>by
      induction l with
      |nil=>intro _;exact Ai _
      |cons r l ih=>
       grind [Lw]
     grind
    have hfu:Gq l roots<=roots.length+16*l.length+1:=by grind [Gq,SB]
    refine Xi {p:List ByteArray×List Rq×Nat×Bool // NI l roots p.1 p.2.1 p.2.2.1/\p.2.2.1<=Gq l roots} (Xi (fun p=>⟨[(9,sl Al l),(10,.ref 10 0),(16,.mref 62),(17,.slice (.id (bif p.1.2.2.2 then 16400 else 201) 2) (p.1.2.1.map Ac))],[(10,.ro [.cmap BS (l.map Li)]),(62,.map BS (p.1.1.map Ul)),(16400,bif p.1.2.2.2 then .tok 2 (p.1.2.1.map Ac).length else .free),(201,bif p.1.2.2.2 then .free else .tok 2 (p.1.2.1.map Ac).length)],Ab⟩) (Xi (fun p=>p.1.2.2.1) (Yi (Xi ⟨([],roots,Gq l roots,true),NI.start l roots,Ai _⟩ ?_) ?_)))
    .exact⟨Z4,Z4,Fh,Tv⟩
    intro⟨⟨d,t,n,b⟩,ni,nf⟩;have ni:NI l roots d t n:=ni;have nf:n<=Gq l roots:=nf;refine Bs (Bt b) (fun eb=>?_) (fun eb=>?_)
    .refine cU [(9,sl Al l),(10,.ref 10 0),(16,.mref 62),(17,.slice (.id 16400 2) (t.map Ac))] [(10,.ro [.cmap BS (l.map Li)]),(62,.map BS (d.map Ul)),(16400,.tok 2 (t.map Ac).length)] ⟨Zr,Zr,Zr,⟨by show AV.slice (.id (bif b then 16400 else 201) 2) (t.map Ac)=_;simp_all,rfl⟩,Tv⟩ ⟨Zr,Zr,⟨by show(bif b then HO.tok 2 (t.map Ac).length else HO.free)=_;simp_all,rfl⟩,Tv⟩ ?_
     refine Xi 0 (Yi ?_ ?_)
     .intro h;have h:(0:Int)<(t.map Ac).length:=h;refine AJ (show ∃q t',t=q::t' by cases t<;>simp_all) (fun q hq=>?_)
      refine AJ hq (fun t' hq=>?_);refine AJ (show ∃m,n=m+1 from⟨n-1,by have:=ni.pot;omega⟩) (fun m rG=>?_);have ni:NI l roots d (q::t') (m+1):=hq▸rG▸ni;have xa:=ni.pot;have kM:(t.map Ac)[(0:Int).toNat]?=some (Ac q):=by simp_all
      refine cU [(9,sl Al l),(10,.ref 10 0),(16,.mref 62),(17,.slice (.id 16400 2) (t.map Ac))] [(10,.ro [.cmap BS (l.map Li)]),(62,.map BS (d.map Ul)),(16400,.tok 2 (t.map Ac).length)] Z4 Z3 (Xi 0 (Xi (Ac q) (Yi (Yi Wk kM) (Yi rfl (Yi (Nz rfl) (yN (cU [(9,sl Al l),(10,.ref 10 0),(16,.mref 62),(17,.slice (.id 16400 2) (t.map Ac)),(18,.ref 18 0)] [(10,.ro [.cmap BS (l.map Li)]),(62,.map BS (d.map Ul)),(16400,.tok 2 (t.map Ac).length),(18,.cells (Ac q))] Z5 Z4 (Xi 201 ?_))))))));have ue:1<=(t.map Ac).length:=by omega
      refine Yi (Yi rfl (Yi Wk ch)) ?_;have ed:(t.map Ac).drop (1:Int).toNat=t'.map Ac:=by simp_all
      refine cU [(9,sl Al l),(10,.ref 10 0),(16,.mref 62),(17,.slice (.id 201 2) (t'.map Ac)),(18,.ref 18 0)] [(10,.ro [.cmap BS (l.map Li)]),(62,.map BS (d.map Ul)),(201,.tok 2 (t'.map Ac).length),(18,.cells (Ac q))] ⟨Zr,Zr,Zr,⟨Aa (AV.slice (.id 201 2)) ed,rfl⟩,Zr,Tv⟩ ⟨Zr,Zr,⟨Aa (fun e:List (List AV)=>HO.tok 2 e.length) ed,rfl⟩,Zr,Tv⟩ (Xi 0 (Yi ?_ ?_))
      .intro a ha;refine AJ (show ∃u,u=()from⟨(),rfl⟩) (fun _ _=>?_);have e:=(QD ha).2;subst e;have ho:=Nq.2 (QD ha).1;have Zh:=ni.old ho;refine Xi ⟨(d,t',m,false),Zh,by grind⟩ ?_;exact⟨by simp_all,Z4,Z4,Fh,Tv⟩
      intro NW;have ho:d.any (fun p=>decide (p=q.path))=false:=by
       rw[A0];intro hc;exact NW (vb true) (Ak.2 ⟨q.path,Nq.1 hc,rfl⟩)
      have Zh:=ni.new ho;have W3:=Zh.pot;refine Xi 0 ?_;have qL:Ej (d.map Ul) (.string q.path) (vb true)=(d++[q.path]).map Ul:=by rw[HG NW,Bm];rfl
      refine Xi 0 (Yi ?_ ?_)
      .intro a ha;refine AJ (QE ha) (fun r W4=>?_);have e:=W4.2.2;subst e;have oG:Ep l q.path=r.reqs:=by
        unfold Ep;rw[<-W4.2.1,Jv RP W4.1]
       rw[oG]at Zh W3;have hrl:=zC r W4.1;have Di:BJ 2 (r.reqs.map Ac)/\(t'.map Ac).length=(t'.map Ac).length/\((t'.map Ac).length+(r.reqs.map Ac).length)*40<=140737488355328/\(t'.map Ac).length+(r.reqs.map Ac).length<=9223372036854775807:=
        ⟨Df (enc:=Ac) (n:=2) (fun _=>rfl) r.reqs,rfl,by grind,by grind⟩
       refine Yi Di ?_;have nX:AV.slice (.id 201 2) (t'.map Ac++r.reqs.map Ac)=.slice (.id 201 2) ((t'++r.reqs).map Ac):=by simp_all
       have o5:HO.tok 2 ((t'.map Ac).length+(r.reqs.map Ac).length)=.tok 2 ((t'++r.reqs).map Ac).length:=by simp_all
       refine Xi ⟨(d++[q.path],t'++r.reqs,m,false),Zh,by grind⟩ ?_;exact⟨by simp_all,⟨Zr,Zr,Zr,⟨nX,rfl⟩,Tv⟩,⟨Zr,⟨Aa (HO.map BS) qL,rfl⟩,Zr,⟨o5,rfl⟩,Tv⟩,Fh,Tv⟩
      intro wQ;have oG:Ep l q.path=[]:=by
       unfold Ep
       grind
      rw[oG]at Zh W3;have Di:BJ 2 []/\(t'.map Ac).length=(t'.map Ac).length/\((t'.map Ac).length+([]:List (List AV)).length)*40<=140737488355328/\(t'.map Ac).length+([]:List (List AV)).length<=9223372036854775807:=
       ⟨trivial,rfl,by grind,by grind⟩
      refine Yi Di ?_;have nX:AV.slice (.id 201 2) (t'.map Ac++[])=.slice (.id 201 2) ((t'++[]).map Ac):=by simp_all
      have o5:HO.tok 2 ((t'.map Ac).length+([]:List (List AV)).length)=.tok 2 ((t'++[]).map Ac).length:=by simp_all
      refine Xi ⟨(d++[q.path],t'++[],m,false),Zh,by grind⟩ ?_;exact⟨by simp_all,⟨Zr,Zr,Zr,⟨nX,rfl⟩,Tv⟩,⟨Zr,⟨Aa (HO.map BS) qL,rfl⟩,Zr,⟨o5,rfl⟩,Tv⟩,Fh,Tv⟩
     intro h;have h:¬(0:Int)<(t.map Ac).length:=h;have xk:t=[]:=by
      simp_all
     have wR:EB l (Gq l roots) roots []=d:=(xk▸ni).stop;have hD:D=if d.length<l.length then 8 else 0:=by simp_all
     refine cU [(9,sl Al l),(16,.mref 62)] [(62,.map BS (d.map Ul))] Z2 Z1 (Xi 0 (Yi ?_ ?_))
     .intro h;have h:((d.map Ul).length:Int)<((l.map Al).length:Int):=h;have h:d.length<l.length:=by simp_all
      refine Xi 0 ?_;exact .of_eq (Aa vi (show(8:Int)=D by omega))
     .intro h;have h:¬((d.map Ul).length:Int)<((l.map Al).length:Int):=h;have h:¬d.length<l.length:=by simp_all
      refine Xi 0 ?_;exact .of_eq (Aa vi (show(0:Int)=D by omega))
    .refine cU [(9,sl Al l),(10,.ref 10 0),(16,.mref 62),(17,.slice (.id 201 2) (t.map Ac))] [(10,.ro [.cmap BS (l.map Li)]),(62,.map BS (d.map Ul)),(201,.tok 2 (t.map Ac).length)] ⟨Zr,Zr,Zr,⟨by show AV.slice (.id (bif b then 16400 else 201) 2) (t.map Ac)=_;simp_all,rfl⟩,Tv⟩ ⟨Zr,Zr,⟨by show(bif b then HO.free else HO.tok 2 (t.map Ac).length)=_;simp_all,rfl⟩,Tv⟩ ?_
     refine Xi 0 (Yi ?_ ?_)
     .intro h;have h:(0:Int)<(t.map Ac).length:=h;refine AJ (show ∃q t',t=q::t' by cases t<;>simp_all) (fun q hq=>?_)
      refine AJ hq (fun t' hq=>?_);refine AJ (show ∃m,n=m+1 from⟨n-1,by have:=ni.pot;omega⟩) (fun m rG=>?_);have ni:NI l roots d (q::t') (m+1):=hq▸rG▸ni;have xa:=ni.pot;have kM:(t.map Ac)[(0:Int).toNat]?=some (Ac q):=by simp_all
      refine cU [(9,sl Al l),(10,.ref 10 0),(16,.mref 62),(17,.slice (.id 201 2) (t.map Ac))] [(10,.ro [.cmap BS (l.map Li)]),(62,.map BS (d.map Ul)),(201,.tok 2 (t.map Ac).length)] Z4 Z3 (Xi 0 (Xi (Ac q) (Yi (Yi Wk kM) (Yi rfl (Yi (Nz rfl) (yN (cU [(9,sl Al l),(10,.ref 10 0),(16,.mref 62),(17,.slice (.id 201 2) (t.map Ac)),(18,.ref 18 0)] [(10,.ro [.cmap BS (l.map Li)]),(62,.map BS (d.map Ul)),(201,.tok 2 (t.map Ac).length),(18,.cells (Ac q))] Z5 Z4 (Xi 16400 ?_))))))));have ue:1<=(t.map Ac).length:=by omega
      refine Yi (Yi rfl (Yi Wk ch)) ?_;have ed:(t.map Ac).drop (1:Int).toNat=t'.map Ac:=by simp_all
      refine cU [(9,sl Al l),(10,.ref 10 0),(16,.mref 62),(17,.slice (.id 16400 2) (t'.map Ac)),(18,.ref 18 0)] [(10,.ro [.cmap BS (l.map Li)]),(62,.map BS (d.map Ul)),(16400,.tok 2 (t'.map Ac).length),(18,.cells (Ac q))] ⟨Zr,Zr,Zr,⟨Aa (AV.slice (.id 16400 2)) ed,rfl⟩,Zr,Tv⟩ ⟨Zr,Zr,⟨Aa (fun e:List (List AV)=>HO.tok 2 e.length) ed,rfl⟩,Zr,Tv⟩ (Xi 0 (Yi ?_ ?_))
      .intro a ha;refine AJ (show ∃u,u=()from⟨(),rfl⟩) (fun _ _=>?_);have e:=(QD ha).2;subst e;have ho:=Nq.2 (QD ha).1;have Zh:=ni.old ho;refine Xi ⟨(d,t',m,true),Zh,by grind⟩ ?_;exact⟨by simp_all,Z4,Z4,Fh,Tv⟩
      intro NW;have ho:d.any (fun p=>decide (p=q.path))=false:=by
       rw[A0];intro hc;exact NW (vb true) (Ak.2 ⟨q.path,Nq.1 hc,rfl⟩)
      have Zh:=ni.new ho;have W3:=Zh.pot;refine Xi 0 ?_;have qL:Ej (d.map Ul) (.string q.path) (vb true)=(d++[q.path]).map Ul:=by rw[HG NW,Bm];rfl
      refine Xi 0 (Yi ?_ ?_)
      .intro a ha;refine AJ (QE ha) (fun r W4=>?_);have e:=W4.2.2;subst e;have oG:Ep l q.path=r.reqs:=by
        unfold Ep;rw[<-W4.2.1,Jv RP W4.1]
       rw[oG]at Zh W3;have hrl:=zC r W4.1;have Di:BJ 2 (r.reqs.map Ac)/\(t'.map Ac).length=(t'.map Ac).length/\((t'.map Ac).length+(r.reqs.map Ac).length)*40<=140737488355328/\(t'.map Ac).length+(r.reqs.map Ac).length<=9223372036854775807:=
        ⟨Df (enc:=Ac) (n:=2) (fun _=>rfl) r.reqs,rfl,by grind,by grind⟩
       refine Yi Di ?_;have nX:AV.slice (.id 16400 2) (t'.map Ac++r.reqs.map Ac)=.slice (.id 16400 2) ((t'++r.reqs).map Ac):=by simp_all
       have o5:HO.tok 2 ((t'.map Ac).length+(r.reqs.map Ac).length)=.tok 2 ((t'++r.reqs).map Ac).length:=by simp_all
       refine Xi ⟨(d++[q.path],t'++r.reqs,m,true),Zh,by grind⟩ ?_;exact⟨by simp_all,⟨Zr,Zr,Zr,⟨nX,rfl⟩,Tv⟩,⟨Zr,⟨Aa (HO.map BS) qL,rfl⟩,⟨o5,rfl⟩,Zr,Tv⟩,Fh,Tv⟩
      intro wQ;have oG:Ep l q.path=[]:=by
       unfold Ep
       grind
      rw[oG]at Zh W3;have Di:BJ 2 []/\(t'.map Ac).length=(t'.map Ac).length/\((t'.map Ac).length+([]:List (List AV)).length)*40<=140737488355328/\(t'.map Ac).length+([]:List (List AV)).length<=9223372036854775807:=
       ⟨trivial,rfl,by grind,by grind⟩
      refine Yi Di ?_;have nX:AV.slice (.id 16400 2) (t'.map Ac++[])=.slice (.id 16400 2) ((t'++[]).map Ac):=by simp_all
      have o5:HO.tok 2 ((t'.map Ac).length+([]:List (List AV)).length)=.tok 2 ((t'++[]).map Ac).length:=by simp_all
      refine Xi ⟨(d++[q.path],t'++[],m,true),Zh,by grind⟩ ?_;exact⟨by simp_all,⟨Zr,Zr,Zr,⟨nX,rfl⟩,Tv⟩,⟨Zr,⟨Aa (HO.map BS) qL,rfl⟩,⟨o5,rfl⟩,Zr,Tv⟩,Fh,Tv⟩
     intro h;have h:¬(0:Int)<(t.map Ac).length:=h;have xk:t=[]:=by
      simp_all
     have wR:EB l (Gq l roots) roots []=d:=(xk▸ni).stop;have hD:D=if d.length<l.length then 8 else 0:=by simp_all
     refine cU [(9,sl Al l),(16,.mref 62)] [(62,.map BS (d.map Ul))] Z2 Z1 (Xi 0 (Yi ?_ ?_))
     .intro h;have h:((d.map Ul).length:Int)<((l.map Al).length:Int):=h;have h:d.length<l.length:=by simp_all
      refine Xi 0 ?_;exact .of_eq (Aa vi (show(8:Int)=D by omega))
     .intro h;have h:¬((d.map Ul).length:Int)<((l.map Al).length:Int):=h;have h:¬d.length<l.length:=by simp_all
      refine Xi 0 ?_;exact .of_eq (Aa vi (show(0:Int)=D by omega))
 .have RG:PC 51 [IP x ifs] (.tup [.agg [.cmap Nh [],.cmap BS []],vi (AC x)]):=by
   grind
  rw[A1 h0]at hD;refine Ps lH Tryz.func21 rfl (Nz rfl) (Xi 0 (Xi 0 (yN (Xi .pure (Xi _ (Yi (RG) (yN (cU [(8,vi (AC x))] [] Z1 Tv (Xi 0 (Yi ?_ ?_))))))))))
  .intro _;refine Xi 0 ?_;exact .of_eq (Aa vi hD.symm)
  .intro h;exact absurd h0 h
end Go.Eng
