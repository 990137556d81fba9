/- Lemmas 20. -/
import Derived.Test.YtpgfieopnnkpfaaGreatDoorQA19
namespace Go.Eng
open Go.Proofs
variable {p:ByteArray}(x:List Rl)(ifs:List (List AV))(before:List Sl)(l:List Rq)(acc:Option ByteArray)(n:Nat)(q:Rq)(roots:List Rq)(d:List (List Tm))(s:List Sl)
def Bm:Option ByteArray:=if Ch before q.path then acc else match acc with
  |none=>some q.path
  |some p=>if G1 q.path p then some q.path else some p
theorem Nc(before:List Sl):∀(a b:List Rq) (acc:Option ByteArray),F7 before (a++b) acc=F7 before b (F7 before a acc)
 | [],_,_=>rfl
 |q::a,b,acc=>Nc before a b (if Ch before q.path then acc else match acc with |none=>some q.path |some p=>if G1 q.path p then some q.path else some p)
abbrev IR(l:List ByteArray)(v:TO):List ByteArray:=l++[v.rel.path]
theorem Gw{j:Nat}(h:j<l.length):F7 before (l.take (j+1)) acc=Bm before (F7 before (l.take j) acc) l[j]:=by
 rw[B9,Ge h];show F7 before (l.take j++[l[j]]) acc=_;rw[Nc];rfl
structure DI{S:Type}(x:List Rl)(roots:List Rq)(s:List Sl)(step:S->TO->S)(Ni:S)(before:List Sl)(needs:List Rq)(n:Nat)(st:S):Prop where
 nd:(before.map (·.path)).Nodup
 sub:∀y∈before,y∈s
 fuel:before.length+n=s.length+1
 few:∀q∈needs,BB q.set
 len:needs.length<=roots.length+16*before.length
 ok:(visits x roots s).2=(Eh x s n before needs).2
 fold:(visits x roots s).1.foldl step Ni=(Eh x s n before needs).1.foldl step st
section
variable {S:Type}{x:List Rl}{roots:List Rq}{s:List Sl}{step:S->TO->S}{Ni:S}{before:List Sl}{needs:List Rq}{n:Nat}{st:S}
theorem DI.start(hq:∀q∈roots,BB q.set)(Ni:S):DI x roots s step Ni [] roots (s.length+1) Ni:=
 ⟨by simp,fun _ h=>(by cases h),by simp,hq,by simp,rfl,rfl⟩
theorem DI.lt(h:DI x roots s step Ni before needs n st):before.length<=s.length:=by
 have:=DJ (m:=s.map (·.path)) h.nd fun p hp=>by
  grind [DI.sub]
 simp_all
theorem DI.pos(h:DI x roots s step Ni before needs n st):∃m,n=m+1:=by
 have:=h.lt
 have:=h.fuel
 exact⟨n-1,by omega⟩
theorem DI.stop{m:Nat}(h:DI x roots s step Ni before needs (m+1) st)(hp:Ei needs before=none):(visits x roots s).2=true/\(visits x roots s).1.foldl step Ni=st:=by
 have h1:=h.ok;have h2:=h.fold
 grind [Eh]
theorem DI.lost{m:Nat}(h:DI x roots s step Ni before needs (m+1) st)(hp:Ei needs before=some p)(hf:A3 s p=none):(visits x roots s).2=false/\(visits x roots s).1.foldl step Ni=st:=by
 have h1:=h.ok;have h2:=h.fold
 grind [Eh]
theorem DI.gone{m:Nat}(h:DI x roots s step Ni before needs (m+1) st){y:Sl}(hp:Ei needs before=some p)(hf:A3 s p=some y)(hr:Bl x y=none):(visits x roots s).2=false/\(visits x roots s).1.foldl step Ni=st:=by
 have h1:=h.ok;have h2:=h.fold
 grind [Eh]
theorem DI.next{m:Nat}(h:DI x roots s step Ni before needs (m+1) st){y:Sl}{r:Rl}(hp:Ei needs before=some p)(hf:A3 s p=some y)(hr:Bl x y=some r)(hl:r.reqs.length<=16)(hq:∀q∈r.reqs,BB q.set) :
  DI x roots s step Ni (before++[y]) (needs++r.reqs) m (step st ⟨before,needs,r⟩):=by
 have h1:=h.ok;have h2:=h.fold;unfold Eh at h1 h2;rw[hp]at h1 h2;simp only[hf,hr]at h1 h2;obtain⟨g1,g2⟩:=NR hp<;>grind [KI,Qq,JH,DI.mk,DI.nd,DI.sub,DI.fuel,DI.few,DI.len]
end
theorem PD(p:ByteArray):(Pg (fun y:Sl=>decide (y.path=p)) s 0=-1/\A3 s p=none)\/∃i y,Pg (fun y:Sl=>decide (y.path=p)) s 0=(i:Nat)/\s[i]?=some y/\A3 s p=some y:=by
 rcases LQ (p:=fun y:Sl=>decide (y.path=p)) s 0 with h | ⟨i,y,h1,h2,h3⟩
 .exact .inl h
 .exact .inr ⟨i,y,by omega,h2,h3⟩
abbrev vU:Nm:=⟨[12],[(8,4)],[],[(49,[9])],[],[],[],[],[],[],[3,8,9,11,12,14,15,17,18,20,21]⟩
theorem yB(Ni:List ByteArray)(Pe:bK x ifs)(h0:AD x=0)(hx:∀r∈x,F3 r)(GH:roots.length<=1000)(UQ:∀q∈roots,BB q.set)(hs:s.length<=500)(Aac:Ni.length=0) :
  Cq Tryz.prog 84 [.cptr (BF x (.slice .none ifs) roots d),sl Ae s,.clo 89 [.ref 1000 0]] (Ar (dH Ni) Af) fun r h'=>r=vb (visits x roots s).2/\h'=Ar (dH ((visits x roots s).1.foldl (IR) Ni)) Af:=by
 have gT:=(Fs h0).2;have pM:BB roots:=by omega
 refine BO (Mt vU) [(1000,1000),(1001,1001)] rfl B8 hm rfl Tryz.func84 aa3 rfl (Nz rfl) aa3 rfl (Xi (.gen [] 1) (Yi rfl ((qx roots pM).imp ?_)));intro v g q;have q1:=q.1;have q2:=q.2;subst q1;subst q2
 clear q
 refine Xi {p:List Sl×List Rq×Nat×List ByteArray // DI x roots s (IR) Ni p.1 p.2.1 p.2.2.1 p.2.2.2/\p.2.2.2.length=p.1.length} (Xi (fun p=>⟨[(0,.cptr (BF x (.slice .none ifs) roots d)),(1,sl Ae s),(2,.clo 89 [.ref 1000 0]),(7,.slice (.id 12100 2) (p.1.2.1.map Ad)),(8,.slice (.id 8 4) (p.1.1.map Ae))],[(8,.tok 4 (p.1.1.map Ae).length),(12100,.tok 2 (p.1.2.1.map Ad).length),(1000,.cells [.slice (.id 1001 1) (List.map Be p.1.2.2.2)]),(1001,.tok 1 (List.map Be p.1.2.2.2).length)],Af⟩) (Xi (fun p=>p.1.2.2.1) (Yi (Xi ⟨([],roots,s.length+1,Ni),⟨DI.start UQ Ni,Aac⟩⟩ ?_) ?_)))
 .exact⟨Z5,Z4,Fh,Cr aa3⟩
 intro⟨⟨before,needs,n,st⟩,inv⟩;have ex:st.length=before.length:=inv.2;have inv:DI x roots s (IR) Ni before needs n st:=inv.1;refine Am inv.pos (fun m rc=>?_);have inv:DI x roots s (IR) Ni before needs (m+1) st:=rc▸inv;have zw:=inv.lt;have vo:=inv.len;have sM:BB needs:=by omega
 have uA:BB before:=by omega
 refine cU [(0,.cptr (BF x (.slice .none ifs) roots d)),(1,sl Ae s),(2,.clo 89 [.ref 1000 0]),(7,.slice (.id 12100 2) (needs.map Ad)),(8,.slice (.id 8 4) (before.map Ae))] [(8,.tok 4 (before.map Ae).length),(12100,.tok 2 (needs.map Ad).length),(1000,.cells [.slice (.id 1001 1) (List.map Be st)]),(1001,.tok 1 (List.map Be st).length)] Z5 Z4 (yN (Xi {p:Nat×Option ByteArray // p.1<=needs.length/\p.2=F7 before (needs.take p.1) none} (Xi (fun p=>⟨[(0,.cptr (BF x (.slice .none ifs) roots d)),(1,sl Ae s),(2,.clo 89 [.ref 1000 0]),(7,.slice (.id 12100 2) (needs.map Ad)),(8,.slice (.id 8 4) (before.map Ae)),(9,.ref 9 0),(10,vb p.1.2.isSome),(22,.slice (.id 12100 2) (needs.map Ad)),(23,vi (needs.map Ad).length),(24,vi p.1.1)],[(8,.tok 4 (before.map Ae).length),(12100,.tok 2 (needs.map Ad).length),(1000,.cells [.slice (.id 1001 1) (List.map Be st)]),(1001,.tok 1 (List.map Be st).length),(9,.cells [vs (p.1.2.getD mt)])],Af⟩) (Xi (fun p=>needs.length-p.1.1) (Yi (Xi ⟨(0,none),Ao _,rfl⟩ ?_) ?_)))))
 .exact⟨Z10,Z5,Fh,Cr aa3⟩
 intro⟨⟨j,acc⟩,j1,j2⟩;have j1:j<=needs.length:=j1;have j2:acc=F7 before (needs.take j) none:=j2;refine Yi ?_ ?_
 .intro h;have h:(j:Int)<(needs.map Ad).length:=h;have h:j<needs.length:=by simp_all
  have hg:needs[j]?=some needs[j]:=Ge h;have Xf:=Gw before needs none h;rw[<-j2]at Xf;refine Xi (Ad needs[j]) (Yi (Yi aa0 (by simp_all)) (Yi rfl ?_));refine Yi (Nz rfl) (yN (cU [(0,.cptr (BF x (.slice .none ifs) roots d)),(1,sl Ae s),(2,.clo 89 [.ref 1000 0]),(7,.slice (.id 12100 2) (needs.map Ad)),(8,.slice (.id 8 4) (before.map Ae)),(9,.ref 9 0),(10,vb acc.isSome),(12,.ref 12 0),(22,.slice (.id 12100 2) (needs.map Ad)),(23,vi (needs.map Ad).length),(24,vi j)] [(8,.tok 4 (before.map Ae).length),(12100,.tok 2 (needs.map Ad).length),(1000,.cells [.slice (.id 1001 1) (List.map Be st)]),(1001,.tok 1 (List.map Be st).length),(9,.cells [vs (acc.getD mt)]),(12,.ro (Ad needs[j]))] Z11 Z6 ?_))
  have Wv:PC 145 [sl Ae before,.clo 146 [.cptr (Ad needs[j])]] (vb (Ch before needs[j].path)):=yC (fF:=146) (caps:=[.cptr (Ad needs[j])]) (fun c hc=>by
   obtain rfl:=A9.1 hc;intro h;rfl) before (fun y=>decide (y.path=needs[j].path)) (fun y _=>c77 y needs[j]) uA
  refine AG (Bt (Ch before needs[j].path)) (fun hd=>?_) (fun hd=>?_)
  .rw[hd]at Wv;refine Xi .pure (Xi _ (Yi (Wv) ?_));have IC:Bm before acc needs[j]=acc:=by unfold Bm;simp_all
   refine cU [(0,.cptr (BF x (.slice .none ifs) roots d)),(1,sl Ae s),(2,.clo 89 [.ref 1000 0]),(7,.slice (.id 12100 2) (needs.map Ad)),(8,.slice (.id 8 4) (before.map Ae)),(9,.ref 9 0),(10,vb acc.isSome),(13,vb true),(22,.slice (.id 12100 2) (needs.map Ad)),(23,vi (needs.map Ad).length),(24,vi j)] [(8,.tok 4 (before.map Ae).length),(12100,.tok 2 (needs.map Ad).length),(1000,.cells [.slice (.id 1001 1) (List.map Be st)]),(1001,.tok 1 (List.map Be st).length),(9,.cells [vs (acc.getD mt)])] Z11 Z5 (cU [(0,.cptr (BF x (.slice .none ifs) roots d)),(1,sl Ae s),(2,.clo 89 [.ref 1000 0]),(7,.slice (.id 12100 2) (needs.map Ad)),(8,.slice (.id 8 4) (before.map Ae)),(9,.ref 9 0),(10,vb (Bm before acc needs[j]).isSome),(22,.slice (.id 12100 2) (needs.map Ad)),(23,vi (needs.map Ad).length),(24,vi j)] [(8,.tok 4 (before.map Ae).length),(12100,.tok 2 (needs.map Ad).length),(1000,.cells [.slice (.id 1001 1) (List.map Be st)]),(1001,.tok 1 (List.map Be st).length),(9,.cells [vs ((Bm before acc needs[j]).getD mt)])] ⟨Zr,Zr,Zr,Zr,Zr,Zr,⟨Aa vb (Aa Option.isSome IC.symm),rfl⟩,Zr,Zr,Zr,Tv⟩ ⟨Zr,Zr,Zr,Zr,⟨Aa (fun a=>HO.cells [vs (Option.getD a mt)]) IC.symm,rfl⟩,Tv⟩ (Yi (by grind [Al]) (Xi ⟨(j+1,Bm before acc needs[j]),by omega,Xf.symm⟩ ?_)));exact⟨by grind,Z10,Z5,Fh,Cr aa3⟩
  rw[hd]at Wv;refine Xi .pure (Xi _ (Yi (Wv) ?_));refine AG (show acc=none\/∃p,acc=some p by cases acc<;>grind) (fun ha=>?_) (fun ha=>?_)
  .have IC:Bm before acc needs[j]=some needs[j].path:=by grind [Bm]
   refine cU [(0,.cptr (BF x (.slice .none ifs) roots d)),(1,sl Ae s),(2,.clo 89 [.ref 1000 0]),(7,.slice (.id 12100 2) (needs.map Ad)),(8,.slice (.id 8 4) (before.map Ae)),(9,.ref 9 0),(10,vb false),(12,.ref 12 0),(13,vb false),(22,.slice (.id 12100 2) (needs.map Ad)),(23,vi (needs.map Ad).length),(24,vi j)] [(8,.tok 4 (before.map Ae).length),(12100,.tok 2 (needs.map Ad).length),(1000,.cells [.slice (.id 1001 1) (List.map Be st)]),(1001,.tok 1 (List.map Be st).length),(9,.cells [vs mt]),(12,.ro (Ad needs[j]))] ⟨Zr,Zr,Zr,Zr,Zr,Zr,⟨by show vb acc.isSome=vb false;grind,rfl⟩,Zr,Zr,Zr,Zr,Zr,Tv⟩ ⟨Zr,Zr,Zr,Zr,⟨by show HO.cells [vs (acc.getD mt)]=HO.cells [vs mt];grind,rfl⟩,Zr,Tv⟩ ?_
   refine yN (cU [(0,.cptr (BF x (.slice .none ifs) roots d)),(1,sl Ae s),(2,.clo 89 [.ref 1000 0]),(7,.slice (.id 12100 2) (needs.map Ad)),(8,.slice (.id 8 4) (before.map Ae)),(9,.ref 9 0),(10,vb (Bm before acc needs[j]).isSome),(22,.slice (.id 12100 2) (needs.map Ad)),(23,vi (needs.map Ad).length),(24,vi j)] [(8,.tok 4 (before.map Ae).length),(12100,.tok 2 (needs.map Ad).length),(1000,.cells [.slice (.id 1001 1) (List.map Be st)]),(1001,.tok 1 (List.map Be st).length),(9,.cells [vs ((Bm before acc needs[j]).getD mt)])] ⟨Zr,Zr,Zr,Zr,Zr,Zr,⟨by show vb true=_;grind,rfl⟩,Zr,Zr,Zr,Tv⟩ ⟨Zr,Zr,Zr,Zr,⟨by show HO.cells [vs needs[j].path]=_;grind,rfl⟩,Tv⟩ ?_)
   refine Yi (by grind [Al]) (Xi ⟨(j+1,Bm before acc needs[j]),by omega,Xf.symm⟩ ?_);exact⟨by grind,Z10,Z5,Fh,Cr aa3⟩
  refine Am ha (fun p ha=>?_);refine cU [(0,.cptr (BF x (.slice .none ifs) roots d)),(1,sl Ae s),(2,.clo 89 [.ref 1000 0]),(7,.slice (.id 12100 2) (needs.map Ad)),(8,.slice (.id 8 4) (before.map Ae)),(9,.ref 9 0),(10,vb true),(12,.ref 12 0),(13,vb false),(22,.slice (.id 12100 2) (needs.map Ad)),(23,vi (needs.map Ad).length),(24,vi j)] [(8,.tok 4 (before.map Ae).length),(12100,.tok 2 (needs.map Ad).length),(1000,.cells [.slice (.id 1001 1) (List.map Be st)]),(1001,.tok 1 (List.map Be st).length),(9,.cells [vs p]),(12,.ro (Ad needs[j]))] ⟨Zr,Zr,Zr,Zr,Zr,Zr,⟨by show vb acc.isSome=vb true;grind,rfl⟩,Zr,Zr,Zr,Zr,Zr,Tv⟩ ⟨Zr,Zr,Zr,Zr,⟨by show HO.cells [vs (acc.getD mt)]=HO.cells [vs p];grind,rfl⟩,Zr,Tv⟩ ?_
  refine Yi ?_ ?_
  .intro hb;have hb:Op.bytesLess needs[j].path.toList p.toList=true:=hb;rw[<-Ed]at hb;have IC:Bm before acc needs[j]=some needs[j].path:=by grind [Bm]
   refine yN (cU [(0,.cptr (BF x (.slice .none ifs) roots d)),(1,sl Ae s),(2,.clo 89 [.ref 1000 0]),(7,.slice (.id 12100 2) (needs.map Ad)),(8,.slice (.id 8 4) (before.map Ae)),(9,.ref 9 0),(10,vb (Bm before acc needs[j]).isSome),(22,.slice (.id 12100 2) (needs.map Ad)),(23,vi (needs.map Ad).length),(24,vi j)] [(8,.tok 4 (before.map Ae).length),(12100,.tok 2 (needs.map Ad).length),(1000,.cells [.slice (.id 1001 1) (List.map Be st)]),(1001,.tok 1 (List.map Be st).length),(9,.cells [vs ((Bm before acc needs[j]).getD mt)])] ⟨Zr,Zr,Zr,Zr,Zr,Zr,⟨by show vb true=_;simp_all,rfl⟩,Zr,Zr,Zr,Tv⟩ ⟨Zr,Zr,Zr,Zr,⟨by show HO.cells [vs needs[j].path]=_;simp_all,rfl⟩,Tv⟩ ?_)
   refine Yi (by show Al ((j:Int)+1);grind [Al]) (Xi ⟨(j+1,Bm before acc needs[j]),by omega,Xf.symm⟩ ?_);exact⟨by grind,Z10,Z5,Fh,Cr aa3⟩
  .intro hb;have hb:¬Op.bytesLess needs[j].path.toList p.toList=true:=hb;rw[<-Ed]at hb;have IC:Bm before acc needs[j]=some p:=by unfold Bm;grind
   refine cU [(0,.cptr (BF x (.slice .none ifs) roots d)),(1,sl Ae s),(2,.clo 89 [.ref 1000 0]),(7,.slice (.id 12100 2) (needs.map Ad)),(8,.slice (.id 8 4) (before.map Ae)),(9,.ref 9 0),(10,vb (Bm before acc needs[j]).isSome),(22,.slice (.id 12100 2) (needs.map Ad)),(23,vi (needs.map Ad).length),(24,vi j)] [(8,.tok 4 (before.map Ae).length),(12100,.tok 2 (needs.map Ad).length),(1000,.cells [.slice (.id 1001 1) (List.map Be st)]),(1001,.tok 1 (List.map Be st).length),(9,.cells [vs ((Bm before acc needs[j]).getD mt)])] ⟨Zr,Zr,Zr,Zr,Zr,Zr,⟨by show vb true=_;grind,rfl⟩,Zr,Zr,Zr,Tv⟩ ⟨Zr,Zr,Zr,Zr,⟨by show HO.cells [vs p]=_;grind,rfl⟩,Tv⟩ ?_
   refine Yi (Ii j aa0) (Xi ⟨(j+1,Bm before acc needs[j]),by omega,Xf.symm⟩ ?_);exact⟨by grind,Z10,Z5,Fh,Cr aa3⟩
 intro h;have h:¬(j:Int)<(needs.map Ad).length:=h;have h:¬j<needs.length:=by simp_all
 have eS:Ei needs before=acc:=by rw[j2,AK aa0];rfl
 refine AG (show acc=none\/∃p,acc=some p by cases acc<;>grind) (fun ha=>?_) (fun ha=>?_)
 .have LO:=inv.stop (eS.trans ha);refine cU [(10,vb false)] [(1000,.cells [.slice (.id 1001 1) (List.map Be st)]),(1001,.tok 1 (List.map Be st).length)] ⟨⟨by show vb acc.isSome=vb false;grind,rfl⟩,Tv⟩ Z2 ?_
  exact Xi _ (Yi (.refl _) (Yi (Aa vb LO.1.symm) (Aa (fun a=>Ar (dH a) Af) LO.2.symm)))
 refine Am ha (fun p ha=>?_);have eS:Ei needs before=some p:=eS.trans ha;refine cU [(0,.cptr (BF x (.slice .none ifs) roots d)),(1,sl Ae s),(2,.clo 89 [.ref 1000 0]),(7,.slice (.id 12100 2) (needs.map Ad)),(8,.slice (.id 8 4) (before.map Ae)),(9,.ref 9 0),(10,vb true)] [(8,.tok 4 (before.map Ae).length),(12100,.tok 2 (needs.map Ad).length),(1000,.cells [.slice (.id 1001 1) (List.map Be st)]),(1001,.tok 1 (List.map Be st).length),(9,.cells [vs p])] ⟨Zr,Zr,Zr,Zr,Zr,Zr,⟨by show vb acc.isSome=vb true;grind,rfl⟩,Tv⟩ ⟨Zr,Zr,Zr,Zr,⟨by show HO.cells [vs (acc.getD mt)]=HO.cells [vs p];grind,rfl⟩,Tv⟩ ?_
 refine cU [(0,.cptr (BF x (.slice .none ifs) roots d)),(1,sl Ae s),(2,.clo 89 [.ref 1000 0]),(7,.slice (.id 12100 2) (needs.map Ad)),(8,.slice (.id 8 4) (before.map Ae)),(9,.ref 9 0)] [(8,.tok 4 (before.map Ae).length),(12100,.tok 2 (needs.map Ad).length),(1000,.cells [.slice (.id 1001 1) (List.map Be st)]),(1001,.tok 1 (List.map Be st).length),(9,.cells [vs p])] Z6 Z5 ?_
 have Ww:=tQ (fF:=147) (caps:=[.cptr [vs p]]) (fun c hc=>by
  obtain rfl:=A9.1 hc;intro h;rfl) s (fun y=>decide (y.path=p)) (fun y _=>c79 y p) aa0
 refine AG (PD s p) (fun hi=>?_) (fun hi=>?_)
 .rw[hi.1]at Ww;have LO:=inv.lost eS hi.2;refine Xi .pure (Xi _ (Yi (Ww) (cU [(14,vi (-1))] [(1000,.cells [.slice (.id 1001 1) (List.map Be st)]),(1001,.tok 1 (List.map Be st).length)] Z1 Z2 (Yi ?_ ?_))))
  .intro _;exact Xi _ (Yi (.refl _) (Yi (Aa vb LO.1.symm) (Aa (fun a=>Ar (dH a) Af) LO.2.symm)))
  .intro hc;exact absurd (show((-1:Int)<0) by decide) hc
 refine Am hi (fun i hi=>?_);refine Am hi (fun y hi=>?_);have hi2:=hi.2.1;have jS:=hi.2.2;rw[hi.1]at Ww;refine Xi .pure (Xi _ (Yi (Ww) (cU [(0,.cptr (BF x (.slice .none ifs) roots d)),(1,sl Ae s),(2,.clo 89 [.ref 1000 0]),(7,.slice (.id 12100 2) (needs.map Ad)),(8,.slice (.id 8 4) (before.map Ae)),(14,vi i)] [(8,.tok 4 (before.map Ae).length),(12100,.tok 2 (needs.map Ad).length),(1000,.cells [.slice (.id 1001 1) (List.map Be st)]),(1001,.tok 1 (List.map Be st).length)] Z6 Z4 (Yi ?_ ?_))))
 .intro hc;exact absurd (show((i:Int)<0)from hc) aa0
 intro _;refine cU [(0,.cptr (BF x (.slice .none ifs) roots d)),(1,sl Ae s),(2,.clo 89 [.ref 1000 0]),(7,.slice (.id 12100 2) (needs.map Ad)),(8,.slice (.id 8 4) (before.map Ae)),(14,vi i)] [(8,.tok 4 (before.map Ae).length),(12100,.tok 2 (needs.map Ad).length),(1000,.cells [.slice (.id 1001 1) (List.map Be st)]),(1001,.tok 1 (List.map Be st).length)] Z6 Z4 ?_
 have qW:(s.map Ae)[(i:Int).toNat]?=some (Ae y):=by simp_all
 have NA:PC 148 [Jx x ifs,vs y.path,.agg (Dt y.ver)] (Hf (Bl x y)):=c53 x ifs y.path y.ver Pe hx;refine yN (Xi (Ae y) (Yi (Yi aa0 qW) (Yi rfl (Xi (Ae y) (Yi (Yi aa0 qW) (Yi rfl (yN (AG (show Bl x y=none\/∃r,Bl x y=some r by grind) (fun hr=>?_) (fun hr=>?_)))))))))
 .rw[hr]at NA;have LO:=inv.gone eS jS hr;refine Xi _ (Yi (NA) (yN (Yi aa3 (cU [(16,vb false)] [(1000,.cells [.slice (.id 1001 1) (List.map Be st)]),(1001,.tok 1 (List.map Be st).length)] Z1 Z2 ?_))))
  exact Xi _ (Yi (.refl _) (Yi (Aa vb LO.1.symm) (Aa (fun a=>Ar (dH a) Af) LO.2.symm)))
 refine Am hr (fun r hr=>?_);rw[hr]at NA;refine Xi _ (Yi (NA) (yN (Yi aa3 ?_)));have rn:r∈x:=(Cs hr).2.1;have qY:=inv.next eS jS hr (gT r rn) (fun q hq=>((hx r rn).2 q hq).1)
 refine cU [(0,.cptr (BF x (.slice .none ifs) roots d)),(1,sl Ae s),(2,.clo 89 [.ref 1000 0]),(7,.slice (.id 12100 2) (needs.map Ad)),(8,.slice (.id 8 4) (before.map Ae)),(14,vi i),(15,.ref 15 0),(16,vb true)] [(8,.tok 4 (before.map Ae).length),(12100,.tok 2 (needs.map Ad).length),(1000,.cells [.slice (.id 1001 1) (List.map Be st)]),(1001,.tok 1 (List.map Be st).length),(15,.cells (Ak r))] Z8 Z5 (cU [(0,.cptr (BF x (.slice .none ifs) roots d)),(1,sl Ae s),(2,.clo 89 [.ref 1000 0]),(7,.slice (.id 12100 2) (needs.map Ad)),(8,.slice (.id 8 4) (before.map Ae)),(14,vi i),(15,.ref 15 0)] [(8,.tok 4 (before.map Ae).length),(12100,.tok 2 (needs.map Ad).length),(1000,.cells [.slice (.id 1001 1) (List.map Be st)]),(1001,.tok 1 (List.map Be st).length),(15,.cells (Ak r))] Z7 Z5 (yN ?_));have T2:=c43 st before needs r aa0;refine Xi (.gen [(1000,1000),(1001,1001)] 0) (Yi rfl (T2.imp ?_));intro v g q;have q1:=q.1;have q2:=q.2;subst q1;subst q2
 clear q
 refine cU [(0,.cptr (BF x (.slice .none ifs) roots d)),(1,sl Ae s),(2,.clo 89 [.ref 1000 0]),(7,.slice (.id 12100 2) (needs.map Ad)),(8,.slice (.id 8 4) (before.map Ae)),(14,vi i),(15,.ref 15 0)] [(8,.tok 4 (before.map Ae).length),(12100,.tok 2 (needs.map Ad).length),(1000,.cells [.slice (.id 1001 1) (List.map Be (IR st ⟨before,needs,r⟩))]),(1001,.tok 1 (List.map Be (IR st ⟨before,needs,r⟩)).length),(15,.cells (Ak r))] Z7 Z5 (Xi (Ae y) (Yi (Yi aa0 qW) (Yi rfl (yN ?_))));have CM:AZ 4 [Ae y]/\(before.map Ae).length=(before.map Ae).length/\((before.map Ae).length+[Ae y].length)*40<=140737488355328/\(before.map Ae).length+[Ae y].length<=9223372036854775807:=
  ⟨⟨rfl,trivial⟩,rfl,by grind,by grind⟩
 refine Yi CM ?_;have Mw:=gT r rn;have Uv:AZ 2 (r.reqs.map Ad)/\(needs.map Ad).length=(needs.map Ad).length/\((needs.map Ad).length+(r.reqs.map Ad).length)*40<=140737488355328/\(needs.map Ad).length+(r.reqs.map Ad).length<=9223372036854775807:=
  ⟨CE (enc:=Ad) (n:=2) (fun _=>rfl) r.reqs,rfl,by grind,by grind⟩
 refine Yi Uv ?_;have e7:AV.slice (.id 12100 2) (needs.map Ad++r.reqs.map Ad)=.slice (.id 12100 2) ((needs++r.reqs).map Ad):=by simp_all
 have e8:AV.slice (.id 8 4) (before.map Ae++[Ae y])=.slice (.id 8 4) ((before++[y]).map Ae):=by simp_all
 have o7:HO.tok 2 ((needs.map Ad).length+(r.reqs.map Ad).length)=.tok 2 ((needs++r.reqs).map Ad).length:=by simp_all
 have o8:HO.tok 4 ((before.map Ae).length+[Ae y].length)=.tok 4 ((before++[y]).map Ae).length:=by simp_all
 refine Xi ⟨(before++[y],needs++r.reqs,m,(IR) st ⟨before,needs,r⟩),⟨qY,by simp_all⟩⟩ ?_;exact⟨by show m<n;omega,⟨Zr,Zr,Zr,⟨e7,rfl⟩,⟨e8,rfl⟩,Tv⟩,⟨⟨o8,rfl⟩,⟨o7,rfl⟩,Zr,Zr,Tv⟩,Fh,Cr aa3⟩
theorem yA(Ni:Bool×List Sk)(Pe:bK x ifs)(h0:AD x=0)(hx:∀r∈x,F3 r)(GH:roots.length<=1000)(UQ:∀q∈roots,BB q.set)(hs:s.length<=500)(hd:d.length<=65536)(ht:∀t∈d,TQ t) :
  Cq Tryz.prog 84 [.cptr (BF x (.slice .none ifs) roots d),sl Ae s,.clo 85 [.cptr [.cptr (BF x (.slice .none ifs) roots d)],.ref 1000 0,.ref 1001 0]] (Ar (sH Ni) Af) fun r h'=>r=vb (visits x roots s).2/\h'=Ar (sH ((visits x roots s).1.foldl (BT x d) Ni)) Af:=by
 have gT:=(Fs h0).2;have pM:BB roots:=by omega
 refine BO (Mt vU) [(1000,1000),(1001,1001)] rfl B8 hm rfl Tryz.func84 aa3 rfl (Nz rfl) aa3 rfl (Xi (.gen [] 1) (Yi rfl ((qx roots pM).imp ?_)));intro v g q;have q1:=q.1;have q2:=q.2;subst q1;subst q2
 clear q
 refine Xi {p:List Sl×List Rq×Nat×Bool×List Sk // DI x roots s (BT x d) Ni p.1 p.2.1 p.2.2.1 p.2.2.2} (Xi (fun p=>⟨[(0,.cptr (BF x (.slice .none ifs) roots d)),(1,sl Ae s),(2,.clo 85 [.cptr [.cptr (BF x (.slice .none ifs) roots d)],.ref 1000 0,.ref 1001 0]),(7,.slice (.id 12100 2) (p.1.2.1.map Ad)),(8,.slice (.id 8 4) (p.1.1.map Ae))],[(8,.tok 4 (p.1.1.map Ae).length),(12100,.tok 2 (p.1.2.1.map Ad).length),(1000,.cells [sl A1 p.1.2.2.2.2]),(1001,.cells [vb p.1.2.2.2.1])],Af⟩) (Xi (fun p=>p.1.2.2.1) (Yi (Xi ⟨([],roots,s.length+1,Ni),DI.start UQ Ni⟩ ?_) ?_)))
 .exact⟨Z5,Z4,Fh,Cr aa3⟩
 intro⟨⟨before,needs,n,st⟩,inv⟩;have inv:DI x roots s (BT x d) Ni before needs n st:=inv;refine Am inv.pos (fun m rc=>?_);have inv:DI x roots s (BT x d) Ni before needs (m+1) st:=rc▸inv;have zw:=inv.lt;have vo:=inv.len;have sM:BB needs:=by omega
 have uA:BB before:=by omega
 refine cU [(0,.cptr (BF x (.slice .none ifs) roots d)),(1,sl Ae s),(2,.clo 85 [.cptr [.cptr (BF x (.slice .none ifs) roots d)],.ref 1000 0,.ref 1001 0]),(7,.slice (.id 12100 2) (needs.map Ad)),(8,.slice (.id 8 4) (before.map Ae))] [(8,.tok 4 (before.map Ae).length),(12100,.tok 2 (needs.map Ad).length),(1000,.cells [sl A1 st.2]),(1001,.cells [vb st.1])] Z5 Z4 (yN (Xi {p:Nat×Option ByteArray // p.1<=needs.length/\p.2=F7 before (needs.take p.1) none} (Xi (fun p=>⟨[(0,.cptr (BF x (.slice .none ifs) roots d)),(1,sl Ae s),(2,.clo 85 [.cptr [.cptr (BF x (.slice .none ifs) roots d)],.ref 1000 0,.ref 1001 0]),(7,.slice (.id 12100 2) (needs.map Ad)),(8,.slice (.id 8 4) (before.map Ae)),(9,.ref 9 0),(10,vb p.1.2.isSome),(22,.slice (.id 12100 2) (needs.map Ad)),(23,vi (needs.map Ad).length),(24,vi p.1.1)],[(8,.tok 4 (before.map Ae).length),(12100,.tok 2 (needs.map Ad).length),(1000,.cells [sl A1 st.2]),(1001,.cells [vb st.1]),(9,.cells [vs (p.1.2.getD mt)])],Af⟩) (Xi (fun p=>needs.length-p.1.1) (Yi (Xi ⟨(0,none),Ao _,rfl⟩ ?_) ?_)))))
 .exact⟨Z10,Z5,Fh,Cr aa3⟩
 intro⟨⟨j,acc⟩,j1,j2⟩;have j1:j<=needs.length:=j1;have j2:acc=F7 before (needs.take j) none:=j2;refine Yi ?_ ?_
 .intro h;have h:(j:Int)<(needs.map Ad).length:=h;have h:j<needs.length:=by simp_all
  have hg:needs[j]?=some needs[j]:=Ge h;have Xf:=Gw before needs none h;rw[<-j2]at Xf;refine Xi (Ad needs[j]) (Yi (Yi aa0 (by simp_all)) (Yi rfl ?_));refine Yi (Nz rfl) (yN (cU [(0,.cptr (BF x (.slice .none ifs) roots d)),(1,sl Ae s),(2,.clo 85 [.cptr [.cptr (BF x (.slice .none ifs) roots d)],.ref 1000 0,.ref 1001 0]),(7,.slice (.id 12100 2) (needs.map Ad)),(8,.slice (.id 8 4) (before.map Ae)),(9,.ref 9 0),(10,vb acc.isSome),(12,.ref 12 0),(22,.slice (.id 12100 2) (needs.map Ad)),(23,vi (needs.map Ad).length),(24,vi j)] [(8,.tok 4 (before.map Ae).length),(12100,.tok 2 (needs.map Ad).length),(1000,.cells [sl A1 st.2]),(1001,.cells [vb st.1]),(9,.cells [vs (acc.getD mt)]),(12,.ro (Ad needs[j]))] Z11 Z6 ?_))
  have Wv:PC 145 [sl Ae before,.clo 146 [.cptr (Ad needs[j])]] (vb (Ch before needs[j].path)):=yC (fF:=146) (caps:=[.cptr (Ad needs[j])]) (fun c hc=>by
   obtain rfl:=A9.1 hc;intro h;rfl) before (fun y=>decide (y.path=needs[j].path)) (fun y _=>c77 y needs[j]) uA
  refine AG (Bt (Ch before needs[j].path)) (fun hd=>?_) (fun hd=>?_)
  .rw[hd]at Wv;refine Xi .pure (Xi _ (Yi (Wv) ?_));have IC:Bm before acc needs[j]=acc:=by unfold Bm;simp_all
   refine cU [(0,.cptr (BF x (.slice .none ifs) roots d)),(1,sl Ae s),(2,.clo 85 [.cptr [.cptr (BF x (.slice .none ifs) roots d)],.ref 1000 0,.ref 1001 0]),(7,.slice (.id 12100 2) (needs.map Ad)),(8,.slice (.id 8 4) (before.map Ae)),(9,.ref 9 0),(10,vb acc.isSome),(13,vb true),(22,.slice (.id 12100 2) (needs.map Ad)),(23,vi (needs.map Ad).length),(24,vi j)] [(8,.tok 4 (before.map Ae).length),(12100,.tok 2 (needs.map Ad).length),(1000,.cells [sl A1 st.2]),(1001,.cells [vb st.1]),(9,.cells [vs (acc.getD mt)])] Z11 Z5 (cU [(0,.cptr (BF x (.slice .none ifs) roots d)),(1,sl Ae s),(2,.clo 85 [.cptr [.cptr (BF x (.slice .none ifs) roots d)],.ref 1000 0,.ref 1001 0]),(7,.slice (.id 12100 2) (needs.map Ad)),(8,.slice (.id 8 4) (before.map Ae)),(9,.ref 9 0),(10,vb (Bm before acc needs[j]).isSome),(22,.slice (.id 12100 2) (needs.map Ad)),(23,vi (needs.map Ad).length),(24,vi j)] [(8,.tok 4 (before.map Ae).length),(12100,.tok 2 (needs.map Ad).length),(1000,.cells [sl A1 st.2]),(1001,.cells [vb st.1]),(9,.cells [vs ((Bm before acc needs[j]).getD mt)])] ⟨Zr,Zr,Zr,Zr,Zr,Zr,⟨Aa vb (Aa Option.isSome IC.symm),rfl⟩,Zr,Zr,Zr,Tv⟩ ⟨Zr,Zr,Zr,Zr,⟨Aa (fun a=>HO.cells [vs (Option.getD a mt)]) IC.symm,rfl⟩,Tv⟩ (Yi (by show Al ((j:Int)+1);grind [Al]) (Xi ⟨(j+1,Bm before acc needs[j]),by omega,Xf.symm⟩ ?_)));exact⟨by grind,Z10,Z5,Fh,Cr aa3⟩
  rw[hd]at Wv;refine Xi .pure (Xi _ (Yi (Wv) ?_));refine AG (show acc=none\/∃p,acc=some p by cases acc<;>grind) (fun ha=>?_) (fun ha=>?_)
  .have IC:Bm before acc needs[j]=some needs[j].path:=by grind [Bm]
   refine cU [(0,.cptr (BF x (.slice .none ifs) roots d)),(1,sl Ae s),(2,.clo 85 [.cptr [.cptr (BF x (.slice .none ifs) roots d)],.ref 1000 0,.ref 1001 0]),(7,.slice (.id 12100 2) (needs.map Ad)),(8,.slice (.id 8 4) (before.map Ae)),(9,.ref 9 0),(10,vb false),(12,.ref 12 0),(13,vb false),(22,.slice (.id 12100 2) (needs.map Ad)),(23,vi (needs.map Ad).length),(24,vi j)] [(8,.tok 4 (before.map Ae).length),(12100,.tok 2 (needs.map Ad).length),(1000,.cells [sl A1 st.2]),(1001,.cells [vb st.1]),(9,.cells [vs mt]),(12,.ro (Ad needs[j]))] ⟨Zr,Zr,Zr,Zr,Zr,Zr,⟨by show vb acc.isSome=vb false;grind,rfl⟩,Zr,Zr,Zr,Zr,Zr,Tv⟩ ⟨Zr,Zr,Zr,Zr,⟨by show HO.cells [vs (acc.getD mt)]=HO.cells [vs mt];grind,rfl⟩,Zr,Tv⟩ ?_
   refine yN (cU [(0,.cptr (BF x (.slice .none ifs) roots d)),(1,sl Ae s),(2,.clo 85 [.cptr [.cptr (BF x (.slice .none ifs) roots d)],.ref 1000 0,.ref 1001 0]),(7,.slice (.id 12100 2) (needs.map Ad)),(8,.slice (.id 8 4) (before.map Ae)),(9,.ref 9 0),(10,vb (Bm before acc needs[j]).isSome),(22,.slice (.id 12100 2) (needs.map Ad)),(23,vi (needs.map Ad).length),(24,vi j)] [(8,.tok 4 (before.map Ae).length),(12100,.tok 2 (needs.map Ad).length),(1000,.cells [sl A1 st.2]),(1001,.cells [vb st.1]),(9,.cells [vs ((Bm before acc needs[j]).getD mt)])] ⟨Zr,Zr,Zr,Zr,Zr,Zr,⟨by show vb true=_;grind,rfl⟩,Zr,Zr,Zr,Tv⟩ ⟨Zr,Zr,Zr,Zr,⟨by show HO.cells [vs needs[j].path]=_;grind,rfl⟩,Tv⟩ ?_)
   refine Yi (by grind [Al]) (Xi ⟨(j+1,Bm before acc needs[j]),by omega,Xf.symm⟩ ?_);exact⟨by grind,Z10,Z5,Fh,Cr aa3⟩
  refine Am ha (fun p ha=>?_);refine cU [(0,.cptr (BF x (.slice .none ifs) roots d)),(1,sl Ae s),(2,.clo 85 [.cptr [.cptr (BF x (.slice .none ifs) roots d)],.ref 1000 0,.ref 1001 0]),(7,.slice (.id 12100 2) (needs.map Ad)),(8,.slice (.id 8 4) (before.map Ae)),(9,.ref 9 0),(10,vb true),(12,.ref 12 0),(13,vb false),(22,.slice (.id 12100 2) (needs.map Ad)),(23,vi (needs.map Ad).length),(24,vi j)] [(8,.tok 4 (before.map Ae).length),(12100,.tok 2 (needs.map Ad).length),(1000,.cells [sl A1 st.2]),(1001,.cells [vb st.1]),(9,.cells [vs p]),(12,.ro (Ad needs[j]))] ⟨Zr,Zr,Zr,Zr,Zr,Zr,⟨by show vb acc.isSome=vb true;grind,rfl⟩,Zr,Zr,Zr,Zr,Zr,Tv⟩ ⟨Zr,Zr,Zr,Zr,⟨by show HO.cells [vs (acc.getD mt)]=HO.cells [vs p];grind,rfl⟩,Zr,Tv⟩ ?_
  refine Yi ?_ ?_
  .intro hb;have hb:Op.bytesLess needs[j].path.toList p.toList=true:=hb;rw[<-Ed]at hb;have IC:Bm before acc needs[j]=some needs[j].path:=by grind [Bm]
   refine yN (cU [(0,.cptr (BF x (.slice .none ifs) roots d)),(1,sl Ae s),(2,.clo 85 [.cptr [.cptr (BF x (.slice .none ifs) roots d)],.ref 1000 0,.ref 1001 0]),(7,.slice (.id 12100 2) (needs.map Ad)),(8,.slice (.id 8 4) (before.map Ae)),(9,.ref 9 0),(10,vb (Bm before acc needs[j]).isSome),(22,.slice (.id 12100 2) (needs.map Ad)),(23,vi (needs.map Ad).length),(24,vi j)] [(8,.tok 4 (before.map Ae).length),(12100,.tok 2 (needs.map Ad).length),(1000,.cells [sl A1 st.2]),(1001,.cells [vb st.1]),(9,.cells [vs ((Bm before acc needs[j]).getD mt)])] ⟨Zr,Zr,Zr,Zr,Zr,Zr,⟨by show vb true=_;simp_all,rfl⟩,Zr,Zr,Zr,Tv⟩ ⟨Zr,Zr,Zr,Zr,⟨by show HO.cells [vs needs[j].path]=_;simp_all,rfl⟩,Tv⟩ ?_)
   refine Yi (by grind [Al]) (Xi ⟨(j+1,Bm before acc needs[j]),by omega,Xf.symm⟩ ?_);exact⟨by grind,Z10,Z5,Fh,Cr aa3⟩
  .intro hb;have hb:¬Op.bytesLess needs[j].path.toList p.toList=true:=hb;rw[<-Ed]at hb;have IC:Bm before acc needs[j]=some p:=by grind [Bm]
   refine cU [(0,.cptr (BF x (.slice .none ifs) roots d)),(1,sl Ae s),(2,.clo 85 [.cptr [.cptr (BF x (.slice .none ifs) roots d)],.ref 1000 0,.ref 1001 0]),(7,.slice (.id 12100 2) (needs.map Ad)),(8,.slice (.id 8 4) (before.map Ae)),(9,.ref 9 0),(10,vb (Bm before acc needs[j]).isSome),(22,.slice (.id 12100 2) (needs.map Ad)),(23,vi (needs.map Ad).length),(24,vi j)] [(8,.tok 4 (before.map Ae).length),(12100,.tok 2 (needs.map Ad).length),(1000,.cells [sl A1 st.2]),(1001,.cells [vb st.1]),(9,.cells [vs ((Bm before acc needs[j]).getD mt)])] ⟨Zr,Zr,Zr,Zr,Zr,Zr,⟨by show vb true=_;grind,rfl⟩,Zr,Zr,Zr,Tv⟩ ⟨Zr,Zr,Zr,Zr,⟨by show HO.cells [vs p]=_;grind,rfl⟩,Tv⟩ ?_
   refine Yi (by grind [Al]) (Xi ⟨(j+1,Bm before acc needs[j]),by omega,Xf.symm⟩ ?_);exact⟨by grind,Z10,Z5,Fh,Cr aa3⟩
 intro h;have h:¬(j:Int)<(needs.map Ad).length:=h;have h:¬j<needs.length:=by simp_all
 have eS:Ei needs before=acc:=by rw[j2,AK aa0];rfl
 refine AG (show acc=none\/∃p,acc=some p by cases acc<;>grind) (fun ha=>?_) (fun ha=>?_)
 .have LO:=inv.stop (eS.trans ha);refine cU [(10,vb false)] [(1000,.cells [sl A1 st.2]),(1001,.cells [vb st.1])] ⟨⟨by show vb acc.isSome=vb false;grind,rfl⟩,Tv⟩ Z2 ?_
  exact Xi _ (Yi (.refl _) (Yi (Aa vb LO.1.symm) (Aa (fun a=>Ar (sH a) Af) LO.2.symm)))
 refine Am ha (fun p ha=>?_);have eS:Ei needs before=some p:=eS.trans ha;refine cU [(0,.cptr (BF x (.slice .none ifs) roots d)),(1,sl Ae s),(2,.clo 85 [.cptr [.cptr (BF x (.slice .none ifs) roots d)],.ref 1000 0,.ref 1001 0]),(7,.slice (.id 12100 2) (needs.map Ad)),(8,.slice (.id 8 4) (before.map Ae)),(9,.ref 9 0),(10,vb true)] [(8,.tok 4 (before.map Ae).length),(12100,.tok 2 (needs.map Ad).length),(1000,.cells [sl A1 st.2]),(1001,.cells [vb st.1]),(9,.cells [vs p])] ⟨Zr,Zr,Zr,Zr,Zr,Zr,⟨by show vb acc.isSome=vb true;grind,rfl⟩,Tv⟩ ⟨Zr,Zr,Zr,Zr,⟨by show HO.cells [vs (acc.getD mt)]=HO.cells [vs p];grind,rfl⟩,Tv⟩ ?_
 refine cU [(0,.cptr (BF x (.slice .none ifs) roots d)),(1,sl Ae s),(2,.clo 85 [.cptr [.cptr (BF x (.slice .none ifs) roots d)],.ref 1000 0,.ref 1001 0]),(7,.slice (.id 12100 2) (needs.map Ad)),(8,.slice (.id 8 4) (before.map Ae)),(9,.ref 9 0)] [(8,.tok 4 (before.map Ae).length),(12100,.tok 2 (needs.map Ad).length),(1000,.cells [sl A1 st.2]),(1001,.cells [vb st.1]),(9,.cells [vs p])] Z6 Z5 ?_
 have Ww:=tQ (fF:=147) (caps:=[.cptr [vs p]]) (fun c hc=>by
  obtain rfl:=A9.1 hc;intro h;rfl) s (fun y=>decide (y.path=p)) (fun y _=>c79 y p) aa0
 refine AG (PD s p) (fun hi=>?_) (fun hi=>?_)
 .rw[hi.1]at Ww;have LO:=inv.lost eS hi.2;refine Xi .pure (Xi _ (Yi (Ww) (cU [(14,vi (-1))] [(1000,.cells [sl A1 st.2]),(1001,.cells [vb st.1])] Z1 Z2 (Yi ?_ ?_))))
  .intro _;exact Xi _ (Yi (.refl _) (Yi (Aa vb LO.1.symm) (Aa (fun a=>Ar (sH a) Af) LO.2.symm)))
  .intro hc;exact absurd (show((-1:Int)<0) by decide) hc
 refine Am hi (fun i hi=>?_);refine Am hi (fun y hi=>?_);have hi2:=hi.2.1;have jS:=hi.2.2;rw[hi.1]at Ww;refine Xi .pure (Xi _ (Yi (Ww) (cU [(0,.cptr (BF x (.slice .none ifs) roots d)),(1,sl Ae s),(2,.clo 85 [.cptr [.cptr (BF x (.slice .none ifs) roots d)],.ref 1000 0,.ref 1001 0]),(7,.slice (.id 12100 2) (needs.map Ad)),(8,.slice (.id 8 4) (before.map Ae)),(14,vi i)] [(8,.tok 4 (before.map Ae).length),(12100,.tok 2 (needs.map Ad).length),(1000,.cells [sl A1 st.2]),(1001,.cells [vb st.1])] Z6 Z4 (Yi ?_ ?_))))
 .intro hc;exact absurd (show((i:Int)<0)from hc) aa0
 intro _;refine cU [(0,.cptr (BF x (.slice .none ifs) roots d)),(1,sl Ae s),(2,.clo 85 [.cptr [.cptr (BF x (.slice .none ifs) roots d)],.ref 1000 0,.ref 1001 0]),(7,.slice (.id 12100 2) (needs.map Ad)),(8,.slice (.id 8 4) (before.map Ae)),(14,vi i)] [(8,.tok 4 (before.map Ae).length),(12100,.tok 2 (needs.map Ad).length),(1000,.cells [sl A1 st.2]),(1001,.cells [vb st.1])] Z6 Z4 ?_
 have qW:(s.map Ae)[(i:Int).toNat]?=some (Ae y):=by simp_all
 have NA:PC 148 [Jx x ifs,vs y.path,.agg (Dt y.ver)] (Hf (Bl x y)):=c53 x ifs y.path y.ver Pe hx;refine yN (Xi (Ae y) (Yi (Yi aa0 qW) (Yi rfl (Xi (Ae y) (Yi (Yi aa0 qW) (Yi rfl (yN (AG (show Bl x y=none\/∃r,Bl x y=some r by grind) (fun hr=>?_) (fun hr=>?_)))))))))
 .rw[hr]at NA;have LO:=inv.gone eS jS hr;refine Xi _ (Yi (NA) (yN (Yi aa3 (cU [(16,vb false)] [(1000,.cells [sl A1 st.2]),(1001,.cells [vb st.1])] Z1 Z2 ?_))))
  exact Xi _ (Yi (.refl _) (Yi (Aa vb LO.1.symm) (Aa (fun a=>Ar (sH a) Af) LO.2.symm)))
 refine Am hr (fun r hr=>?_);rw[hr]at NA;refine Xi _ (Yi (NA) (yN (Yi aa3 ?_)));have rn:r∈x:=(Cs hr).2.1;have qY:=inv.next eS jS hr (gT r rn) (fun q hq=>((hx r rn).2 q hq).1)
 refine cU [(0,.cptr (BF x (.slice .none ifs) roots d)),(1,sl Ae s),(2,.clo 85 [.cptr [.cptr (BF x (.slice .none ifs) roots d)],.ref 1000 0,.ref 1001 0]),(7,.slice (.id 12100 2) (needs.map Ad)),(8,.slice (.id 8 4) (before.map Ae)),(14,vi i),(15,.ref 15 0),(16,vb true)] [(8,.tok 4 (before.map Ae).length),(12100,.tok 2 (needs.map Ad).length),(1000,.cells [sl A1 st.2]),(1001,.cells [vb st.1]),(15,.cells (Ak r))] Z8 Z5 (cU [(0,.cptr (BF x (.slice .none ifs) roots d)),(1,sl Ae s),(2,.clo 85 [.cptr [.cptr (BF x (.slice .none ifs) roots d)],.ref 1000 0,.ref 1001 0]),(7,.slice (.id 12100 2) (needs.map Ad)),(8,.slice (.id 8 4) (before.map Ae)),(14,vi i),(15,.ref 15 0)] [(8,.tok 4 (before.map Ae).length),(12100,.tok 2 (needs.map Ad).length),(1000,.cells [sl A1 st.2]),(1001,.cells [vb st.1]),(15,.cells (Ak r))] Z7 Z5 (yN ?_));have T2:=c46 x (.slice .none ifs) roots d st before needs r (Fs h0).1 hd ht aa0 sM inv.few;refine Xi (.gen [(1000,1000),(1001,1001)] 0) (Yi rfl (T2.imp ?_));intro v g q;have q1:=q.1;have q2:=q.2;subst q1;subst q2
 clear q
 refine cU [(0,.cptr (BF x (.slice .none ifs) roots d)),(1,sl Ae s),(2,.clo 85 [.cptr [.cptr (BF x (.slice .none ifs) roots d)],.ref 1000 0,.ref 1001 0]),(7,.slice (.id 12100 2) (needs.map Ad)),(8,.slice (.id 8 4) (before.map Ae)),(14,vi i),(15,.ref 15 0)] [(8,.tok 4 (before.map Ae).length),(12100,.tok 2 (needs.map Ad).length),(1000,.cells [sl A1 (BT x d st ⟨before,needs,r⟩).2]),(1001,.cells [vb (BT x d st ⟨before,needs,r⟩).1]),(15,.cells (Ak r))] Z7 Z5 (Xi (Ae y) (Yi (Yi aa0 qW) (Yi rfl (yN ?_))));have CM:AZ 4 [Ae y]/\(before.map Ae).length=(before.map Ae).length/\((before.map Ae).length+[Ae y].length)*40<=140737488355328/\(before.map Ae).length+[Ae y].length<=9223372036854775807:=
  ⟨⟨rfl,trivial⟩,rfl,by grind,by grind⟩
 refine Yi CM ?_;have Mw:=gT r rn;have Uv:AZ 2 (r.reqs.map Ad)/\(needs.map Ad).length=(needs.map Ad).length/\((needs.map Ad).length+(r.reqs.map Ad).length)*40<=140737488355328/\(needs.map Ad).length+(r.reqs.map Ad).length<=9223372036854775807:=
  ⟨CE (enc:=Ad) (n:=2) (fun _=>rfl) r.reqs,rfl,by grind,by grind⟩
 refine Yi Uv ?_;have e7:AV.slice (.id 12100 2) (needs.map Ad++r.reqs.map Ad)=.slice (.id 12100 2) ((needs++r.reqs).map Ad):=by simp_all
 have e8:AV.slice (.id 8 4) (before.map Ae++[Ae y])=.slice (.id 8 4) ((before++[y]).map Ae):=by simp_all
 have o7:HO.tok 2 ((needs.map Ad).length+(r.reqs.map Ad).length)=.tok 2 ((needs++r.reqs).map Ad).length:=by simp_all
 have o8:HO.tok 4 ((before.map Ae).length+[Ae y].length)=.tok 4 ((before++[y]).map Ae).length:=by simp_all
 refine Xi ⟨(before++[y],needs++r.reqs,m,(BT x d) st ⟨before,needs,r⟩),qY⟩ ?_;exact⟨by simp_all,⟨Zr,Zr,Zr,⟨e7,rfl⟩,⟨e8,rfl⟩,Tv⟩,⟨⟨o8,rfl⟩,⟨o7,rfl⟩,Zr,Zr,Tv⟩,Fh,Cr aa3⟩
def NV:Bool:=decide (q.path.size<=100)&&decide (q.set.length<=8)
def D6:Bool:=l.all NV&&decide (l.length<=20)
theorem c35(hl:BB l):PC 57 [sl Ad l] (vb (D6 l)):=by
 unfold BB at hl;refine Ps Cu Tryz.func57 rfl (Nz rfl) (Xi {i:Nat // i<=l.length/\∀j (hj:j<l.length),j<i->NV l[j]=true} (Xi (fun i=>⟨[(0,sl Ad l),(3,vi i.1)],[],Af⟩) (Xi (fun i=>l.length-i.1) (Yi (Xi ⟨0,Ao _,fun j _ h=>by omega⟩ ?_) ?_))))
 .exact⟨Z2,Tv,Fh,Tv⟩
 intro⟨i,h1,h2⟩;refine Yi ?_ ?_
 .intro h;have h:i<l.length:=by simp_all
  have hg:l[i]?=some l[i]:=Ge h;have no:NV l[i]=false->false=D6 l:=fun e=>by
   grind [D6]
  refine Xi (Ad l[i]) (Yi (Yi aa0 (by simp_all)) (Yi rfl ?_));refine Yi ?_ ?_
  .intro h3;exact .of_eq (Aa vb (no (by grind [NV])))
  intro h3;refine Xi (Ad l[i]) (Yi (Yi aa0 (by simp_all)) (Yi rfl ?_));refine Yi ?_ ?_
  .intro h4;rw[Lm]at h4;exact .of_eq (Aa vb (no (by grind [NV])))
  intro h4;have h5:l[i].set.length<=8:=by grind
  refine Yi (by grind [Al]) (Xi ⟨i+1,by omega,fun j hj He=>?_⟩ ?_)
  .grind [NV]
  .exact⟨Dl l.length i aa0,Z2,Tv,Fh,Tv⟩
 .intro h;have h:¬i<l.length:=by simp_all
  have ha:l.all NV=true:=BI.2 fun q hq=>by
   grind [List.getElem_of_mem]
  refine Yi ?_ ?_
  .intro h3;rw[Lm]at h3;exact .of_eq (Aa vb (show true=D6 l by grind [D6]))
  .intro h3;rw[Lm]at h3;exact .of_eq (Aa vb (show false=D6 l by grind [D6]))
def JZ(r:Rl):Bool:=decide (r.path.size<=100)&&decide (r.arch.size<=100)&&decide (r.ifc.size<=100)&&decide (r.cert.size<=100)&&D6 r.reqs
def FJ:Bool:=x.all JZ&&decide (x.length<=n)
theorem c34(hl:BB x)(hr:∀r∈x,BB r.reqs):PC 56 [sl Ak x,vi n] (vb (FJ x n)):=by
 unfold BB at hl;refine Ps Cu Tryz.func56 rfl (Nz rfl) (Xi {i:Nat // i<=x.length/\∀j (hj:j<x.length),j<i->JZ x[j]=true} (Xi (fun i=>⟨[(0,sl Ak x),(1,vi n),(5,vi i.1)],[],Af⟩) (Xi (fun i=>x.length-i.1) (Yi (Xi ⟨0,Ao _,fun j _ h=>by omega⟩ ?_) ?_))))
 .exact⟨Z3,Tv,Fh,Tv⟩
 intro⟨i,h1,h2⟩;refine Yi ?_ ?_
 .intro h;have h:i<x.length:=by simp_all
  have hg:x[i]?=some x[i]:=Ge h;have no:JZ x[i]=false->false=FJ x n:=fun e=>by
   grind [FJ]
  have hc:=c35 x[i].reqs (hr _ (Ah h));refine Xi (Ak x[i]) (Yi (Yi aa0 (by simp_all)) (Yi rfl ?_));refine Yi ?_ ?_
  .intro h3;exact .of_eq (Aa vb (no (by grind [JZ])))
  intro h3;refine Xi (Ak x[i]) (Yi (Yi aa0 (by simp_all)) (Yi rfl ?_));refine Yi ?_ ?_
  .intro h4;exact .of_eq (Aa vb (no (by grind [JZ])))
  intro h4;refine Xi (Ak x[i]) (Yi (Yi aa0 (by simp_all)) (Yi rfl ?_));refine Yi ?_ ?_
  .intro h5;exact .of_eq (Aa vb (no (by grind [JZ])))
  intro h5;refine Xi (Ak x[i]) (Yi (Yi aa0 (by simp_all)) (Yi rfl ?_));refine Yi ?_ ?_
  .intro h6;exact .of_eq (Aa vb (no (by grind [JZ])))
  intro h6;refine Xi (Ak x[i]) (Yi (Yi aa0 (by simp_all)) (Yi rfl ?_));refine AG (Bt (D6 x[i].reqs)) (fun e=>?_) (fun e=>?_)
  rotate_left
  .rw[e]at hc;refine Xi .pure (Xi _ (Yi (hc) ?_));exact .of_eq (Aa vb (no (by grind [JZ])))
  rw[e]at hc;refine Xi .pure (Xi _ (Yi (hc) (Yi (by grind [Al]) (Xi ⟨i+1,by omega,fun j hj He=>?_⟩ ?_))))
  .grind [JZ]
  .exact⟨Dl x.length i aa0,Z3,Tv,Fh,Tv⟩
 .intro h;have h:¬i<x.length:=by simp_all
  have ha:x.all JZ=true:=BI.2 fun q hq=>by
   grind [List.getElem_of_mem]
  refine Yi ?_ ?_
  .intro h3;rw[Lm]at h3;exact .of_eq (Aa vb (show true=FJ x n by grind [FJ]))
  .intro h3;rw[Lm]at h3;exact .of_eq (Aa vb (show false=FJ x n by grind [FJ]))
theorem c11(hl:BB x)(hr:∀r∈x,BB r.reqs)(hq:BB roots):PC 23 [Jx x ifs,sl Ad roots] (vb (FJ x 16&&D6 roots)):=by
 have h1:=c34 x 16 hl hr;have h2:=c35 roots hq;cases e:FJ x 16 with
 |true=>
  rw[e]at h1;refine Ps Cu Tryz.func23 rfl (Nz rfl) (Xi .pure (Xi _ (Yi (h1) (Xi .pure (Xi _ (Yi (h2) ?_))))));exact .refl _
 |false=>
  rw[e]at h1;refine Ps Cu Tryz.func23 rfl (Nz rfl) (Xi .pure (Xi _ (Yi (h1) ?_)));exact .refl _
abbrev vO:AV:=nzA
abbrev wy:Prop:=PC 83 [Jx x ifs,sl Ad roots,sl Ae s] (vi (CO x roots s))
theorem LC{x:List Rl}{roots:List Rq}{l0:List Nf}:∀(l:List Nf) (d d' : List (List Tm)),(∀i∈l,i∈l0)->(∀t∈d,TR (Fk x roots l0) t)->Bu x roots l d=some d'->∀t∈d',TR (Fk x roots l0) t
 | [],d,d',_,hd,h=>by
  have:d=d':=DY h
  simp_all
 |i::l,d,d',hi,hd,h=>by
  unfold Bu at h;cases e:AP x roots d i with
  |none=>simp_all
  |some t=>
   rw[e]at h;refine LC l (d++[t]) d' (fun j hj=>hi j (At _ hj)) (fun u hu=>?_) h
   grind [PE,List.mem_cons_self]
theorem Qn{x:List Rl}{roots:List Rq}{l:List Nf}(h:(Ax x roots l).2=0):∀t∈(Ax x roots l).1,TQ t:=fun t ht=>by
 obtain⟨h1,h2,h3,h4⟩:=DN h
 have:=(LC (l0:=l) l [] _ (fun _ h=>h) (fun _ h=>by cases h) h4 t ht).fewI (Jh h1 h2 h3)
 grind
theorem jc(l:List TO)(a:List ByteArray):l.foldl IR a=a++l.map (fun v=>v.rel.path):=by
 induction l generalizing a<;>simp_all
abbrev rU:Nm:=⟨[],[],[],[],[],[],[],[(24,(10,0,900,1))],[],[],[4,5,7]⟩
abbrev af(p:List ByteArray×Int):AV:=.tup [sl Be p.1,vi p.2]
theorem rP(e:Int):DC (.tup [nzA,vi e]) (af ([],e)):=DC.tup ⟨.nil,.refl _,trivial⟩
theorem c18(Pe:bK x ifs)(hx:∀r∈x,F3 r)(hr:∀q∈roots,Lw q)(hs:s.length<=500):PC 37 [Jx x ifs,sl Ad roots,sl Ae s] (af (Bw x roots s)):=by
 have Xh:BB s:=by omega
 have Lo:PC 62 [Jx x ifs,sl Ad roots,nzA] (Uy x ifs roots []):=(yz x ifs roots [] hx hr (fun _=>mK x ifs roots Pe)).args ⟨.refl _,.refl _,.nil,trivial⟩;have nL:=c41 s Xh;obtain⟨D,hD⟩:∃D,D=Bw x roots s:=⟨_,rfl⟩;rw[<-hD];unfold Bw at hD
 by_cases h0:AD x≠0\/Ba roots≠0
 .have e:Ax x roots []=([],1):=by grind [Ax]
  have hD:D=([],1):=by grind
  rw[<-J9 e aa2]at Lo;refine Ps rU Tryz.func37 rfl (Nz rfl) (yN (Xi .pure (Xi _ (Yi (Lo) (Yi ?_ ?_)))))
  .intro _;exact(rP 1).trans (.of_eq (by rw[hD]))
  .intro h;exact absurd (show(1:Int)≠0 by decide) h
 .have e:Ax x roots []=([],0):=by unfold Ax;rw[Aw h0];rfl
  have h1:AD x=0:=Bs.1 fun h=>h0 (.inl h);have h2:Ba roots=0:=Bs.1 fun h=>h0 (.inr h);rw[<-XR e]at Lo;cases hi:Bb s with
  |false=>
   have hD:D=([],1):=by simp_all
   rw[hi]at nL;refine Ps rU Tryz.func37 rfl (Nz rfl) (yN (Xi .pure (Xi _ (Yi (Lo) (Yi ?_ ?_)))))
   .intro h;exact absurd rfl h
   intro _;refine Xi .pure (Xi _ (Yi (nL) ?_));exact(rP 1).trans (.of_eq (by rw[hD]))
  |true=>
   have hD:D=if(visits x roots s).2 then((visits x roots s).1.map fun v=>v.rel.path,0)else([],6):=by
    simp_all
   rw[hi]at nL;have UO:=yB x ifs roots [] s [] Pe h1 hx (by grind [O2]) (fun q hq=>(hr q hq).1) hs rfl;have hf:(visits x roots s).1.foldl IR []=(visits x roots s).1.map (fun v=>v.rel.path):=by rw[jc];rfl
   rw[hf]at UO;refine Ps rU Tryz.func37 rfl (Nz rfl) (yN (Xi .pure (Xi _ (Yi (Lo) (Yi ?_ ?_)))))
   .intro h;exact absurd rfl h
   intro _;refine Xi .pure (Xi _ (Yi (nL) (cU [(2,sl Ae s),(8,.cptr (BF x (.slice .none ifs) roots []))] [] Z2 Tv (cU [(2,sl Ae s),(8,.cptr (BF x (.slice .none ifs) roots [])),(10,.ref 10 0)] [(10,.cells [nzA])] Z3 Z1 (Xi (.gen [(10,1000),(900,1001)] 0) (Yi rfl (UO.imp ?_)))))));intro v g q;have q1:=q.1;have q2:=q.2;refine AG (Bt (visits x roots s).2) (fun hv=>?_) (fun hv=>?_)
   .rw[hv]at q1 hD;subst q1;subst q2;refine cU [(10,.ref 10 0)] [(10,.cells [.slice (.id 900 1) (((visits x roots s).1.map (fun v=>v.rel.path)).map Be)]),(900,.tok 1 (((visits x roots s).1.map (fun v=>v.rel.path)).map Be).length)] Z1 ⟨Zr,Zr,Tv⟩ ?_
    exact .of_eq (show af ((visits x roots s).1.map (fun v=>v.rel.path),0)=af D by simp_all)
   .rw[hv]at q1 hD;subst q1;subst q2;exact(rP 6).trans (.of_eq (show af ([],6)=af D by simp_all))
abbrev vS:Nm:=(pC [7] [2,4,8,10,11,12,13])
theorem c21(a:An)(Pe:bK x ifs)(qL:wy x ifs roots a.sel)(hx:∀r∈x,F3 r)(hr:∀q∈roots,Lw q)(hs:a.sel.length<=500)(hk:BB a.skips):PC 35 [Jx x ifs,sl Ad roots,.agg (Iz a)] (vi (CW x roots a)):=by
 obtain⟨found,sel,infs,skips⟩:=a;have hs:sel.length<=500:=hs;have Lo:=yz x ifs roots infs hx hr (fun _=>mK x ifs roots Pe);unfold Uy at Lo;obtain⟨D,hD⟩:∃D,D=CW x roots ⟨found,sel,infs,skips⟩:=⟨_,rfl⟩;rw[<-hD];unfold CW at hD
 by_cases he:(Ax x roots infs).2=0
 .rw[AE he]at Lo;rw[Aw (by simp_all)]at hD;obtain⟨h1,h2,h3,h4⟩:=DN he;have hdf:=Qn he;have QY:(Ax x roots infs).1.length<=65536:=KG;obtain⟨d,hd⟩:∃d,d=(Ax x roots infs).1:=⟨_,rfl⟩;rw[<-hd]at hD Lo hdf QY;have nK:=c40 x (.slice .none ifs) roots d aa0;refine Ps vS Tryz.func35 rfl (Nz rfl) (yN (Xi .pure (Xi _ (Yi (Lo) (yN (cU [(1,sl Ad roots),(3,.ref 3 0),(5,.ref 5 0),(7,.ref 7 0),(8,vi 0)] [(3,.cells (Ic x ifs)),(5,.cells [vb found,sl Ae sel,sl Aj infs,sl A1 skips]),(7,.ro [.cptr (BF x (.slice .none ifs) roots d)])] Z5 Z3 (Yi ?_ ?_)))))))
  .intro h;exact absurd rfl h
  intro _;refine cU [(1,sl Ad roots),(3,.ref 3 0),(5,.ref 5 0),(7,.ref 7 0)] [(3,.cells (Ic x ifs)),(5,.cells [vb found,sl Ae sel,sl Aj infs,sl A1 skips]),(7,.ro [.cptr (BF x (.slice .none ifs) roots d)])] Z4 Z3 (Yi ?_ ?_)
  .intro hf;have hf:found=true:=hf;have hD:D=if CO x roots sel≠0 then 18 else if(((visits x roots sel).1.foldl (BT x d) (true,skips)).1&&((visits x roots sel).1.foldl (BT x d) (true,skips)).2.isEmpty)then 0 else 18:=by
    simp_all
   refine cU [(1,sl Ad roots),(3,.ref 3 0),(5,.ref 5 0),(7,.ref 7 0)] [(3,.cells (Ic x ifs)),(5,.cells [vb found,sl Ae sel,sl Aj infs,sl A1 skips]),(7,.ro [.cptr (BF x (.slice .none ifs) roots d)])] Z4 Z3 (yN (Xi .pure (Xi _ (Yi (qL) (Yi ?_ ?_)))))
   .intro hz;have hz:CO x roots sel≠0:=hz;exact .of_eq (Aa vi (show(18:Int)=D by omega))
   intro hz;have hz:¬CO x roots sel≠0:=hz;have hD:D=if(((visits x roots sel).1.foldl (BT x d) (true,skips)).1&&((visits x roots sel).1.foldl (BT x d) (true,skips)).2.isEmpty)then 0 else 18:=by omega
   have UO:=yA x ifs roots d sel (true,skips) Pe h1 hx (by grind [O2]) (fun q hq=>(hr q hq).1) hs QY hdf;refine cU [(5,.ref 5 0),(7,.ref 7 0)] [(5,.cells [vb found,sl Ae sel,sl Aj infs,sl A1 skips]),(7,.ro [.cptr (BF x (.slice .none ifs) roots d)])] Z2 Z2 (yN (cU [(5,.ref 5 0),(7,.ref 7 0),(9,.ref 9 0)] [(5,.cells [vb found,sl Ae sel,sl Aj infs,sl A1 skips]),(7,.ro [.cptr (BF x (.slice .none ifs) roots d)]),(9,.cells [vb true])] Z3 Z3 (yN (cU [(5,.ref 5 0),(7,.ref 7 0),(9,.ref 9 0),(10,.ref 10 0)] [(5,.cells [vb found,sl Ae sel,sl Aj infs,sl A1 skips]),(7,.ro [.cptr (BF x (.slice .none ifs) roots d)]),(9,.cells [vb true]),(10,.cells [sl A1 skips])] Z4 Z4 (Xi (.gen [(10,1000),(9,1001)] 0) (Yi rfl (UO.imp ?_)))))));intro v g q;have q1:=q.1;have q2:=q.2;subst q1;subst q2;refine Am (show ∃A,A=(visits x roots sel).1.foldl (BT x d) (true,skips)from⟨_,rfl⟩) (fun A hA=>?_);refine cU [(9,.ref 9 0),(10,.ref 10 0)] [(9,.cells [vb A.1]),(10,.cells [sl A1 A.2])] Z2 ⟨⟨Aa (fun a:Bool×List Sk=>HO.cells [vb a.1]) hA.symm,rfl⟩,⟨Aa (fun a:Bool×List Sk=>HO.cells [sl A1 a.2]) hA.symm,rfl⟩,Tv⟩ ?_
   rw[<-hA]at hD;refine Yi ?_ ?_
   .intro h5;have h5:A.1=true:=h5;refine Yi ?_ ?_
    .intro h6;have h6:(0:Int)<(A.2.map A1).length:=h6;have h6:A.2.isEmpty=false:=by
      grind
     exact .of_eq (Aa vi (show(18:Int)=D by simp_all))
    .intro h6;have h6:¬(0:Int)<(A.2.map A1).length:=h6;have h6:A.2.isEmpty=true:=by
      simp_all
     exact .of_eq (Aa vi (show(0:Int)=D by simp_all))
   .intro h5;have h5:A.1=false:=h5;exact .of_eq (Aa vi (show(18:Int)=D by simp_all))
  .intro hf;have hf:found=false:=hf;have hD:D=if(!sel.isEmpty||!skips.isEmpty||!DW d)then 18 else 0:=by
    simp_all
   refine Yi ?_ ?_
   .intro h5;have h5:(0:Int)<(sel.map Ae).length:=h5;have h5:sel.isEmpty=false:=by
     grind
    exact .of_eq (Aa vi (show(18:Int)=D by simp_all))
   intro h5;have h5:¬(0:Int)<(sel.map Ae).length:=h5;have h5:sel.isEmpty=true:=by
    simp_all
   refine Yi ?_ ?_
   .intro h6;have h6:(0:Int)<(skips.map A1).length:=h6;have h6:skips.isEmpty=false:=by
     grind
    exact .of_eq (Aa vi (show(18:Int)=D by simp_all))
   intro h6;have h6:¬(0:Int)<(skips.map A1).length:=h6;have h6:skips.isEmpty=true:=by
    simp_all
   refine AG (Bt (DW d)) (fun h7=>?_) (fun h7=>?_)
   .rw[h7]at nK;refine Xi .pure (Xi _ (Yi (nK) ?_));exact .of_eq (Aa vi (show(0:Int)=D by simp_all))
   .rw[h7]at nK;refine Xi .pure (Xi _ (Yi (nK) ?_));exact .of_eq (Aa vi (show(18:Int)=D by simp_all))
 .rw[Aw he]at Lo;rw[AE he]at hD;refine Ps vS Tryz.func35 rfl (Nz rfl) (yN (Xi .pure (Xi _ (Yi (Lo) (yN (cU [(8,vi (Ax x roots infs).2)] [] Z1 Tv (Yi ?_ ?_)))))))
  .intro _;exact .of_eq (Aa vi hD.symm)
  .intro h;exact absurd he h
end Go.Eng
