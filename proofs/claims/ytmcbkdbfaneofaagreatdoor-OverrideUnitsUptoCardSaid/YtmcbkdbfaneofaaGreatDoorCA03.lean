/- Lemmas for the claims of this seat, without a condition: part 3 (Q3, Q4, P15, Q5, Q6, Q7, Q8, P16). -/
import Derived.Test.YtmcbkdbfaneofaaGreatDoorCA02
namespace Go.Eng
theorem LC:∀{l:List Rq} {b:Option ByteArray},FG b l=0→∀q∈l,q.set≠[]∧Ew q.set
 | [],_,_,q,hq=>by cases hq
 |r::l,b,h,q,hq=>by
  unfold FG at h;split at h
  ·rename_i e;rcases Au.1 hq with rfl | hq
   ·unfold GA at e
    by_cases h1:(Cr q.path).isNone=true
    ·rw[Aw h1]at e;exact absurd e (by decide)
    rw[Ak h1]at e;cases hE:q.set.isEmpty with
    |true=>rw[hE]at e;simp at e
    |false =>
     cases hD:decide (q.set=canon q.set)with
     |false=>rw[hD]at e;simp at e
     |true =>
      have h3:q.set=canon q.set:=BJ hD;exact⟨by simpa using hE,by rw[h3];exact Cn _⟩
   ·exact LC h q hq
  ·rename_i e;exact absurd h e
theorem KJ{l:List Rq}(h:BR l=0):∀q∈l,q.set≠[]∧Ew q.set:=by
 unfold BR at h;split at h
 ·cases h
 ·exact LC h
abbrev Pc(k:Int):Ver:=⟨0,k / 1000,k % 1000⟩
theorem GV(k:Int):place (Pc k)=k:=by unfold place;show 1000*(k / 1000)+k % 1000=k;omega
theorem EP{k:Int}(h:0≤k∧k<1000000):CL (Pc k)=true:=by
 unfold CL okPart;simp only[Ag];exact⟨⟨AA (by omega),AA (by omega)⟩,AA (by omega)⟩
structure WG(D:List Sl)(p:ByteArray)(S:List Sl):Prop where
 val:FU S
 same:∀q,q≠p→Ca S q=Ca D q
abbrev JX(D:List Sl)(p:ByteArray)(v:Ver):List Sl:=D++[⟨p,v⟩]
theorem JP(a b:List Sl)(p:ByteArray):Ca (a++b) p=(Ca a p).or (Ca b p):=by
 unfold Ca;rw[List.find?_append]
theorem Ho{s:List Sl}{p:ByteArray}(h:CD s p=false):Ca s p=none:=by
 rw[JD]at h;cases e:Ca s p with
 |none=>rfl
 |some y=>rw[e]at h;cases h
theorem WG.self{D:List Sl}{p:ByteArray}(h:FU D):WG D p D:=⟨h,fun _ _=>rfl⟩
theorem WG.ver{D:List Sl}{p:ByteArray}(h:FU D){v:Ver}(hv:CL v=true):WG D p (JX D p v):=by
 refine⟨fun y hy=>?_,fun q hq=>?_⟩
 ·rcases A6.1 hy with hy | hy
  ·exact h y hy
  ·rw[Al.1 hy];exact hv
 ·rw[JP]
  have:Ca [(⟨p,v⟩:Sl)] q=none:=by unfold Ca;simp[Ne.symm hq]
  rw[this,Option.or_none]
theorem H2{D:List Sl}{p:ByteArray}(hp:CD D p=false)(v:Ver):Ca (JX D p v) p=some ⟨p,v⟩:=by
 rw[JP,Ho hp];unfold Ca;simp
theorem QA{D:List Sl}{p:ByteArray}(hp:CD D p=false){v v' : Ver}(hv:CL v=true)(rW : CL v'=true)(e:place v=place v')(q:ByteArray)(t:Tm) :
  Dh t (Ca (JX D p v) q)=Dh t (Ca (JX D p v') q):=by
 by_cases hq:q=p
 ·subst hq;rw[H2 hp,H2 hp];show(CL v&&has t.set (place v))=(CL v'&&has t.set (place v'));rw[hv,rW,e]
 ·have h1:∀w:Ver,Ca (JX D p w) q=Ca D q:=fun w=>by
   rw[JP]
   have:Ca [(⟨p,w⟩:Sl)] q=none:=by unfold Ca;simp[Ne.symm hq]
   rw[this,Option.or_none]
  rw[h1,h1]
theorem ZC{D:List Sl}{p:ByteArray}(hp:CD D p=false){v v' : Ver}(hv:CL v=true)(rW : CL v'=true)(e:place v=place v')(t:List Tm):Bf t (JX D p v)=Bf t (JX D p v'):=by
 rw[BT,BA,BA];exact⟨fun h u hu=>by rw[←QA hp hv rW e];exact h u hu,fun h u hu=>by rw[QA hp hv rW e];exact h u hu⟩
theorem KC{D S S' : List Sl}{p:ByteArray}(h:WG D p S)(h' : WG D p S'){t:List Tm}(ht:∀u∈t,u.path≠p):Bf t S=Bf t S':=by
 rw[BT,BA,BA];exact⟨fun k u hu=>by rw[h'.same _ (ht u hu),←h.same _ (ht u hu)];exact k u hu,fun k u hu=>by rw[h.same _ (ht u hu),←h'.same _ (ht u hu)];exact k u hu⟩
theorem Jz{t:List Tm}{p:ByteArray}(h:CZ t p=false):∀u∈t,u.path≠p:=fun u hu e=>by
 unfold CZ at h;rw[FZ]at h;exact h u hu (by simpa using e)
theorem RY{t:List Tm}{p:ByteArray}(h:CZ t p=true):∃u∈t,u.path=p:=by
 unfold CZ at h;rw[Ba]at h;obtain⟨u,hu,e⟩:=h;exact⟨u,hu,by simpa using e⟩
theorem TF{t:List Tm}{p:ByteArray}(hf:KE t)(hc:CZ t p=true):∃u r,Fd t p=some (u,r)∧u.path=p∧∀v∈r,v.path≠p:=by
 obtain⟨u,hu,e⟩:=RY hc;have hs:=EF hf;have mK:=(Fw hs).1 hu;rw[e]at mK;refine⟨u,FC t p,?_,e,fun v hv=>?_⟩
 ·unfold Fd;rw[show CN t=some t from hf];dsimp only;rw[mK]
 ·have:=(BK.1 hv).2
  simpa using this
theorem Wn{D:List Sl}{p:ByteArray}{t b:List Tm}(ff:KE t)(mJ:KE b)(yZ:CZ t p=true)(tL:CZ b p=true){S1 S2:List Sl}(h1:WG D p S1)(v1:Bf t S1=true)(h2:WG D p S2)(v2:Bf b S2=true) :
  (Bv t b p).2=0∧∀S,WG D p S→Bf t S=true∨Bf b S=true→Bf (Bv t b p).1 S=true:=by
 obtain⟨u,r,e1,pu,nr⟩:=TF ff yZ;obtain⟨w,m,e2,pw,nm⟩:=TF mJ tL;have key:∀S,WG D p S→Bf t S=true∨Bf b S=true→Bf (r++m++[Dg u w]) S=true:=fun S hS hv=>by
  have r1:Bf r S=true:=by
   rw[KC hS h1 nr];rw[(FB h1.val e1).1,Ag]at v1;exact v1.2
  have m1:Bf m S=true:=by
   rw[KC hS h2 nm];rw[(FB h2.val e2).1,Ag]at v2;exact v2.2
  rw[GO,GO,r1,m1];simp only[Ev];rw[BA];intro y hy;rw[Al.1 hy,show(Dg u w).path=p from pu,M2,CB];rcases hv with hv | hv
  ·rw[(FB hS.val e1).1,Ag]at hv;exact .inl hv.1
  ·rw[(FB hS.val e2).1,Ag]at hv;exact .inr hv.1
 unfold Bv;rw[e1,e2];dsimp only;have c1:=CX (l:=r++m++[Dg u w]) h1.val;rw[key S1 h1 (.inl v1)]at c1;cases hc:CN (r++m++[Dg u w])with
 |none=>rw[hc]at c1;cases c1
 |some o =>
  dsimp only;refine⟨rfl,fun S hS hv=>?_⟩;have c2:=CX (l:=r++m++[Dg u w]) hS.val;rw[hc,key S hS hv]at c2;exact c2.symm
theorem gl{D:List Sl}{p:ByteArray}(hp:CD D p=false){t:List Tm}(hf:KE t)(h0:Bf t D=true)(hk:∀k:Int,0≤k→k<1000000→Bf t (JX D p (Pc k))=true):CZ t p=false:=by
 rw[AI];intro hc;obtain⟨u,hu,e⟩:=RY hc;have ha:u.absent=true:=by
  have:=BA.1 h0 u hu
  rw[e,Ho hp]at this;exact this
 have hs:∀k:Int,0≤k→k<1000000→has u.set k=true:=fun k k0 k1=>by
  have:=BA.1 (hk k k0 k1) u hu
  rw[e,H2 hp]at this;unfold Dh at this;rw[Ag]at this
  have:=this.2
  rw[show(⟨p,Pc k⟩:Sl).ver=Pc k from rfl,GV]at this;exact this
 have oc:Ew u.set:=Cb.canon (EF hf) u hu;have fg:u.set=[(0,1000000)]:=by
  refine Hj oc ⟨by decide,by decide,by decide,trivial⟩ fun k=>?_;rw[BT];constructor
  ·intro h
   have:=LQ h
   unfold has;simp[BI,this.1,this.2]
  ·intro h
   have:=LQ h
   exact hs k this.1 this.2
 have pG:Gk u=true:=by unfold Gk;rw[ha,fg];rfl
 have rJ:CN t=some t:=hf;unfold CN at rJ;split at rJ
 ·cases rJ
 ·have e2:=BL rJ;rw[←e2]at hu
  have:=(BK.1 hu).2
  rw[pG]at this;cases this
structure Ey(x:List Rl)(dec:List Cd):Prop where
 cand:∀c∈dec,c.rel∈x∧c.rel.yanked=false∧c.place=plc c.rel.ver
 nodup:(dec.map fun c=>c.rel.path).Nodup
theorem Ey.nil(x:List Rl):Ey x []:=⟨fun _ h=>(by cases h),E2⟩
theorem Tl{r:Rl}(h:RF r):r.path≠mt:=fun e=>by
 have:=h.maj
 rw[e]at this;have h2:Cr mt=none:=by decide
 rw[h2]at this;cases this
theorem RF.set{r:Rl}(h:RF r):∀q∈r.reqs,q.set≠[]∧Ew q.set:=KJ h.reqs
theorem Ny(dec:List Cd):(AK dec).map (·.path)=dec.map fun c=>c.rel.path:=by unfold AK;rw[BN];rfl
theorem Nq:∀{D:List Sl},(D.map (·.path)).Nodup→∀{y:Sl},y∈D→Ca D y.path=some y
 | [],_,y,h=>by cases h
 |z::D,hn,y,h=>by
  simp only[AP,CT]at hn;unfold Ca;rw[Fl];rcases Au.1 h with rfl | h
  ·rw[AA rfl]
  ·have:z.path≠y.path:=fun e=>hn.1 (Am.2 ⟨y,h,e.symm⟩)
   rw[Ap this];exact Nq hn.2 h
theorem Ey.find{x:List Rl}{dec:List Cd}(h:Ey x dec){c:Cd}(hc:c∈dec):Ca (AK dec) c.rel.path=some (SP c) :=
 Nq (by rw[Ny];exact h.nodup) (y:=SP c) (Am.2 ⟨c,hc,rfl⟩)
theorem Ey.valid{x:List Rl}(hx:Bb x=0){dec:List Cd}(h:Ey x dec):FU (AK dec):=fun y hy=>by
 obtain⟨c,hc,rfl⟩:=Am.1 hy;exact((CI hx).1 _ (h.cand c hc).1).val
theorem Ey.snoc{x:List Rl}{dec:List Cd}(h:Ey x dec){c:Cd}(hc:c.rel∈x∧c.rel.yanked=false∧c.place=plc c.rel.ver)(hd:De dec c.rel.path=false):Ey x (dec++[c]):=by
 refine⟨fun d hd=>?_,?_⟩
 ·rcases A6.1 hd with hd | hd
  ·exact h.cand d hd
  ·rw[Al.1 hd];exact hc
 ·rw[AH,F0];refine⟨h.nodup,by simp,fun a ha b hb e=>?_⟩;obtain⟨d,jz,rfl⟩:=Am.1 ha;simp only[AP,EW,Al]at hb;unfold De at hd;rw[FZ]at hd;exact hd d jz (by simpa using e.trans hb)
theorem L4{roots:List Rq}{E:List Cd}{n:Nd}(h:n∈Dr roots E):(∃k q,roots[k]?=some q∧n=⟨q,mt,0,(k:Nat)⟩)∨∃c∈E,∃k q,c.rel.reqs[k]?=some q∧n=⟨q,c.rel.path,c.place,(k:Nat)⟩:=by
 unfold Dr at h;rcases A6.1 h with h | h
 ·obtain⟨k,q,h1,h2⟩:=XW h;exact .inl ⟨k,q,h1,h2⟩
 ·obtain⟨l,hl,hn⟩:=El.1 h;obtain⟨c,hc,rfl⟩:=Am.1 hl;obtain⟨k,q,h1,h2⟩:=XW hn;exact .inr ⟨c,hc,k,q,h1,h2⟩
theorem NH{roots:List Rq}{dec:List Cd}{c:Cd}{n:Nd}(h:n∈Dr roots dec):n∈Dr roots (dec++[c]):=by
 unfold Dr at *
 rw[AH,CG,←AO];exact Bn _ h
theorem MA{roots:List Rq}{dec:List Cd}{c:Cd}{n:Nd}(h:n∈PR c):n∈Dr roots (dec++[c]):=by
 unfold Dr;rw[AH,CG,←AO];exact Bj _ (by simpa using h)
def MP(n:Nd):List Tm:=if n.path=mt then [DD n.rq]else [⟨n.path,false,[(n.place,n.place+1)]⟩,DD n.rq]
theorem OD(n:Nd):IR n=PM (MP n):=by unfold IR MP Jk Ec;split<;>rfl
theorem aK{s:Bl}(h:s≠[])(hc:Ew s):∃k,has s k=true:=by
 match s,h,hc with
 |x::r,_,hc =>
  have:=EC.low hc x (Aa ..)
  refine⟨x.1,?_⟩;unfold has;have h1:BI x.1 x=true:=DJ.2 ⟨AX _,this.2.1⟩;simp only[Cc,h1,Bool.true_or,Bool.and_true,Ag,Az];omega
theorem QN{q:Rq}{o:Option Sl}(h:o=none∨∃y,o=some y∧CL y.ver=true∧has q.set (place y.ver)=false):Dh (DD q) o=true:=by
 rcases h with rfl | ⟨y,rfl,hv,hq⟩
 ·rfl
 ·show(CL y.ver&&has (Ed q.set) (place y.ver))=true
  have:=Jj hv
  rw[hv,Fx,hq];unfold Lt;simp[this.1,this.2]
theorem Ti{q:Rq}{y:Sl}(hq:has q.set (place y.ver)=true):Dh (DD q) (some y)=false:=by
 show(CL y.ver&&has (Ed q.set) (place y.ver))=false;rw[Fx,hq];simp
structure oH(x:List Rl)(roots:List Rq)(S:List Sl)(n:Nd):Prop where
 inf:∀d,DO x roots d (SM n)=some (IR n)
 viol:Bf (IR n) S=true
 raw:∀S',FU S'→Bf (IR n) S'=Bf (MP n) S'
 form:KE (IR n)
 inU:∀U:List ByteArray,(n.path≠mt→n.path∈U)→n.rq.path∈U→Ui U (IR n)
 path:n.path≠mt→CD S n.path=true
theorem Rm{x:List Rl}{roots:List Rq}(hx:Bb x=0)(hr:BR roots=0){E:List Cd}(hE:Ey x E){n:Nd}(hn:n∈Dr roots E)
  (hv:Ca (AK E) n.rq.path=none∨∃y,Ca (AK E) n.rq.path=some y∧has n.rq.set (place y.ver)=false):oH x roots (AK E) n:=by
 have hV:=hE.valid hx;have fu:Dh (DD n.rq) (Ca (AK E) n.rq.path)=true:=QN (hv.imp id fun⟨y,h1,h2⟩=>⟨y,h1,hV y (I5 h1),h2⟩)
 -- the raw list is Bf here,and not elsewhere
 have Nu:n.rq.set≠[]∧Ew n.rq.set:=by
  rcases L4 hn with ⟨k,q,h1,rfl⟩ | ⟨c,hc,k,q,h1,rfl⟩
  ·exact KJ hr q (Av h1)
  ·exact((CI hx).1 _ (hE.cand c hc).1).set q (Av h1)
 have V7:Bf (MP n) (AK E)=true∧(n.path≠mt→CD (AK E) n.path=true):=by
  rcases L4 hn with ⟨k,q,h1,rfl⟩ | ⟨c,hc,k,q,h1,rfl⟩
  ·refine⟨?_,fun h=>absurd rfl h⟩;unfold MP;rw[Aw rfl,BA];intro u hu;rw[Al.1 hu];exact fu
  ·have Dz:=Tl ((CI hx).1 _ (hE.cand c hc).1);refine⟨?_,fun _=>by rw[JD,hE.find hc];rfl⟩;unfold MP;rw[Ak Dz,BA];intro u hu;rcases Au.1 hu with rfl | hu
   ·show Dh _ (Ca (AK E) c.rel.path)=true;rw[hE.find hc];show(CL c.rel.ver&&has [(c.place,c.place+1)] (place c.rel.ver))=true;have Gq:=(CI hx).1 _ (hE.cand c hc).1;have hp:=Jj Gq.val;rw[Gq.val,(hE.cand c hc).2.2,Gq.plc];unfold has;simp[BI,hp.1,hp.2];omega
   ·rw[Al.1 hu];exact fu
 have uc:∃S',FU S'∧Bf (MP n) S'=false:=by
  unfold MP;split
  ·obtain⟨k,hk⟩:=aK Nu.1 Nu.2;have iC:=LQ hk;refine⟨[⟨n.rq.path,Pc k⟩],fun y hy=>by rw[Al.1 hy];exact EP iC,?_⟩;rw[AI];intro h
   have:=BA.1 h (DD n.rq) (Al.2 rfl)
   rw[show(DD n.rq).path=n.rq.path from rfl,show Ca [(⟨n.rq.path,Pc k⟩:Sl)] n.rq.path=some ⟨n.rq.path,Pc k⟩ by unfold Ca;simp,Ti (by rw[show(⟨n.rq.path,Pc k⟩:Sl).ver=Pc k from rfl,GV];exact hk)]at this;cases this
  ·refine⟨[],fun y hy=>(by cases hy),?_⟩;rw[AI];intro h
   have:=BA.1 h _ (Aa ..)
   cases this
 obtain⟨V7,qg⟩:=V7;have Dz:PM (MP n)≠[]:=by
  obtain⟨S',v',n'⟩:=uc;have c1:=CX (l:=MP n) hV;have c2:=CX (l:=MP n) v';unfold PM;cases hc:CN (MP n)with
  |none=>rw[hc,V7]at c1;cases c1
  |some c =>
   rw[hc,n']at c2;intro e;have e:c=[]:=e;rw[e]at c2;cases c2
 have lq:∀S',FU S'→Bf (IR n) S'=Bf (MP n) S':=fun S' v=>by rw[OD];exact PN v Dz
 refine⟨fun d=>?_,by rw[lq _ hV];exact V7,lq,by rw[OD];exact L6 _,fun U h1 h2=>?_,qg⟩
 ·rcases L4 hn with ⟨k,q,h1,rfl⟩ | ⟨c,hc,k,q,h1,rfl⟩
  ·show DO x roots d (if(mt:ByteArray)=mt then⟨0,mt,0,(k:Nat),0,0⟩else _)=some (if(mt:ByteArray)=mt then Jk q else _);rw[Aw rfl,Aw rfl];show(if mt=mt∧(0:Int)=0∧(0:Int)=0∧(0:Int)=0 then(Jg roots (k:Nat)).map Jk else none)=some (Jk q);rw[Aw ⟨rfl,rfl,rfl,rfl⟩];unfold Jg;rw[Ak (by omega),Ch,h1];rfl
  ·have Gq:=(CI hx).1 _ (hE.cand c hc).1;have TM:=Tl Gq;have uq:OS x c.rel.path c.place=some c.rel:=by
    unfold OS;cases hf:x.find? fun r=>decide (r.path=c.rel.path)&&decide (plc r.ver=c.place)with
    |none =>
     rw[ES]at hf;exact absurd (by simp[(hE.cand c hc).2.2]) (hf c.rel (hE.cand c hc).1)
    |some r =>
     have h2:=Fm hf;simp only[Ag,Az]at h2;have fA:=CF hf;have uh:=(CI hx).1 r fA;rw[aH (CI hx) fA (hE.cand c hc).1 h2.1 (by rw[←uh.plc,h2.2,(hE.cand c hc).2.2,Gq.plc])]
   have e1:SM ⟨q,c.rel.path,c.place,(k:Nat)⟩=⟨1,c.rel.path,c.place,(k:Nat),0,0⟩:=by unfold SM;rw[Ak TM]
   have e2:IR ⟨q,c.rel.path,c.place,(k:Nat)⟩=Ec c.rel.path c.place q:=by unfold IR;rw[Ak TM]
   rw[e1,e2];unfold DO;rw[Ak (show ¬((1:Int)=0) by decide),Aw rfl,Aw ⟨rfl,rfl⟩];dsimp only;rw[uq];dsimp only;unfold Jg;rw[Ak (by omega),Ch,h1];dsimp only;unfold cj;rw[Ak];rw[GE,←e2,OD];exact Dz
 ·rw[OD];refine Th fun u hu=>?_;unfold MP at hu;split at hu
  ·rw[Al.1 hu];exact h2
  ·rename_i hm;rcases Au.1 hu with rfl | hu
   ·exact h1 hm
   ·rw[Al.1 hu];exact h2
structure iN(D:List Sl)(U:List ByteArray)(p:ByteArray)(t:List Tm)(C:Int→Prop):Prop where
 form:KE t
 inU:Ui U t
 conc:CZ t p=true
 one:∃S,WG D p S∧Bf t S=true
 cov:∀k:Int,0≤k→k<1000000→C k→Bf t (JX D p (Pc k))=true
structure lM(D:List Sl)(U:List ByteArray)(p:ByteArray)(t:List Tm)(C:Int→Prop):Prop where
 form:KE t
 inU:Ui U t
 none_:Bf t D=true
 cov:∀k:Int,0≤k→k<1000000→C k→Bf t (JX D p (Pc k))=true
theorem Fe.forms{x:List Rl}{roots:List Rq}{s:SS}(h:Fe x roots s):∀k,KE (DK s k):=fun k=>by
 unfold DK;rw[Ci];cases e:s.drv[k]? with
 |none=>exact Ou
 |some t=>exact MT (fun _ h=>by cases h) h.der t (Av e)
theorem US{x:List Rl}{roots:List Rq}{d:List (List Tm)}{k r:Nat}{p:ByteArray}(hk:k<d.length)(hr:r<d.length)(h0:(Bv (d.getD k []) (d.getD r []) p).2=0) :
  DO x roots d ⟨3,p,0,0,(k:Nat),(r:Nat)⟩=some (Bv (d.getD k []) (d.getD r []) p).1:=by
 have e:∀j:Nat,j<d.length→Jg d (j:Nat)=some (d.getD j []):=fun j hj=>by
  unfold Jg;rw[Ak (by omega),Ch,Ci,Ay hj];rfl
 unfold DO;rw[Ak (show ¬((3:Int)=0) by decide),Ak (show ¬((3:Int)=1) by decide),Ak (show ¬((3:Int)=2) by decide),Aw rfl,Aw ⟨rfl,rfl⟩];dsimp only;rw[e k hk,e r hr];dsimp only;rw[Aw h0]
theorem NA{x:List Rl}{roots:List Rq}{D:List Sl}{U:List ByteArray}{p:ByteArray}(hD:FU D):∀(l:List (Nat×(Int→Prop))) {k:Nat} {s:SS} {C:Int→Prop},Fe x roots s→k<s.drv.length→(∀y∈l,y.1<s.drv.length) →
  (s.full=false→lM D U p (DK s k) C∧∀y∈l,iN D U p (DK s y.1) y.2) →
  Fe x roots (Ck p (l.map (·.1)) k s).2∧Grow s (Ck p (l.map (·.1)) k s).2∧(Ck p (l.map (·.1)) k s).1<(Ck p (l.map (·.1)) k s).2.drv.length ∧
  ((Ck p (l.map (·.1)) k s).2.full=false→∃C',lM D U p (DK (Ck p (l.map (·.1)) k s).2 (Ck p (l.map (·.1)) k s).1) C' ∧
   (CZ (DK (Ck p (l.map (·.1)) k s).2 (Ck p (l.map (·.1)) k s).1) p=false∨∀j,C j∨(∃y∈l,y.2 j)→C' j))
 | [],k,s,C,hd,hk,_,hA=>⟨hd,.refl s,hk,fun hf=>⟨C,(hA hf).1,.inr fun j hj=>hj.elim id fun⟨y,hy,_⟩=>(by cases hy)⟩⟩
 |y::l,k,s,C,hd,hk,hl,hA=>by
  rw[AP]
  by_cases h1:s.full=true∨CZ (DK s k) p=false
  ·have e:Ck p (y.1::l.map (·.1)) k s=(k,s):=by unfold Ck;rw[Aw h1]
   rw[e];refine⟨hd,.refl s,hk,fun hf=>⟨C,(hA hf).1,.inl (h1.resolve_left fun e=>?_)⟩⟩;have hf:s.full=false:=hf;rw[e]at hf;cases hf
  simp only[not_or,Bool.not_eq_true,Bool.not_eq_false]at h1;obtain⟨hf,TL⟩:=h1;obtain⟨Yj,kV⟩:=hA hf;have hy:=kV y (Aa ..);have hi:¬(s.full=true∨CZ (DK s k) p=false):=by rw[hf,TL];simp
  by_cases h2:y.1=k
  ·have e:Ck p (y.1::l.map (·.1)) k s=Ck p (l.map (·.1)) k s:=by conv=>lhs;unfold Ck;rw[Ak hi,Aw h2]
   rw[e];have yv : lM D U p (DK s k) fun j=>C j∨y.2 j:=⟨Yj.form,Yj.inU,Yj.none_,fun j j0 j1 hj=>hj.elim (Yj.cov j j0 j1) fun h=>by rw[←h2];exact hy.cov j j0 j1 h⟩;obtain⟨i1,i2,i3,i4⟩:=NA hD l hd hk (fun z hz=>hl z (Af _ hz)) (fun _=>⟨yv,fun z hz=>kV z (Af _ hz)⟩);refine⟨i1,i2,i3,fun hf=>?_⟩;obtain⟨C',j1,j2⟩:=i4 hf;refine⟨C',j1,j2.imp id fun h j hj=>h j ?_⟩;rcases hj with hj | ⟨z,hz,hj⟩
   ·exact .inl (.inl hj)
   ·rcases Au.1 hz with rfl | hz
    ·exact .inl (.inr hj)
    ·exact .inr ⟨z,hz,hj⟩
  ·obtain⟨S2,o2,v2⟩:=hy.one;obtain⟨r1,r2⟩:=Wn Yj.form hy.form TL hy.conc (.self hD) Yj.none_ o2 v2;have e:Ck p (y.1::l.map (·.1)) k s=Ck p (l.map (·.1)) (D4 s ⟨3,p,0,0,k,y.1⟩ (Bv (DK s k) (DK s y.1) p).1).1 (D4 s ⟨3,p,0,0,k,y.1⟩ (Bv (DK s k) (DK s y.1) p).1).2:=by
    conv=>lhs;unfold Ck;rw[Ak hi,Ak h2,Ak (fun h=>h r1)]
   rw[e];have zK:=hl y (Aa ..);obtain⟨a1,a2,a3⟩:=Kd hd (US (x:=x) (roots:=roots) hk zK r1);have hg:=Ke s ⟨3,p,0,0,(k:Nat),(y.1:Nat)⟩ (Bv (DK s k) (DK s y.1) p).1;generalize WA : D4 s ⟨3,p,0,0,(k:Nat),(y.1:Nat)⟩ (Bv (DK s k) (DK s y.1) p).1=s' at *
   have a3:s'.2.full=false→DK s'.2 s'.1=(Bv (DK s k) (DK s y.1) p).1:=a3;obtain⟨i1,i2,i3,i4⟩:=NA hD (C:=fun j=>C j∨y.2 j) l a1 a2 (fun z hz=>BH (hl z (Af _ hz)) hg.len) (fun dn=>by
    refine⟨?_,fun z hz=>by rw[hg.at (hl z (Af _ hz))];exact kV z (Af _ hz)⟩;rw[a3 dn];exact⟨M9 _ _ _,QQ Yj.inU hy.inU,r2 D (.self hD) (.inl Yj.none_),fun j j0 j1 hj=>r2 _ (.ver hD (EP ⟨j0,j1⟩)) (hj.imp (Yj.cov j j0 j1) (hy.cov j j0 j1))⟩)
   refine⟨i1,hg.trans i2,i3,fun hf=>?_⟩;obtain⟨C',j1,j2⟩:=i4 hf;refine⟨C',j1,j2.imp id fun h j hj=>h j ?_⟩;rcases hj with hj | ⟨z,hz,hj⟩
   ·exact .inl (.inl hj)
   ·rcases Au.1 hz with rfl | hz
    ·exact .inl (.inr hj)
    ·exact .inr ⟨z,hz,hj⟩
def IB(roots:List Rq)(dec:List Cd):Prop:=∀q∈HA roots dec,∀d∈dec,d.rel.path=q.path→has q.set d.place=true
theorem IB.nil(roots:List Rq):IB roots []:=fun _ _ d h=>by cases h
theorem Zu(roots:List Rq)(dec:List Cd)(c:Cd):HA roots (dec++[c])=HA roots dec++c.rel.reqs:=by
 unfold HA;rw[AH,CG,AO];simp
theorem ks(c:Cd):(PR c).map (·.rq)=c.rel.reqs:=Ru (fun _ _=>rfl) _ _
theorem YE{dec:List Cd}{c:Cd}(h:D1 dec c=none):∀q∈c.rel.reqs,∀d∈dec++[c],d.rel.path=q.path→has q.set d.place=true:=fun q hq d hd e=>by
 rw[←ks]at hq;obtain⟨n,hn,rfl⟩:=Am.1 hq;unfold D1 at h;rw[ES]at h
 have:=h n hn
 unfold ao at this;rw[Bool.not_eq_true,FZ]at this
 have:=this d hd
 rw[e]at this;simpa using this
theorem KK{dec:List Cd}{c:Cd}{n:Nd}(h:D1 dec c=some n):n∈PR c∧∃d∈dec++[c],d.rel.path=n.rq.path∧has n.rq.set d.place=false:=by
 unfold D1 at h;have h1:=Fm h;refine⟨CF h,?_⟩;unfold ao at h1;rw[Ba]at h1;obtain⟨d,hd,e⟩:=h1;simp only[Ag,Az,CQ]at e;exact⟨d,hd,e⟩
theorem IB.snoc{roots:List Rq}{dec:List Cd}(h:IB roots dec){p:ByteArray}{needs:List Nd}(hN:nS roots dec p needs){c:Cd}(hc:c.rel.path=p)(hn:∀n∈needs,has n.rq.set c.place=true)(hk:D1 dec c=none):IB roots (dec++[c]):=by
 intro q hq d hd e;rw[Zu]at hq;rcases A6.1 hq with hq | hq
 ·rcases A6.1 hd with hd | hd
  ·exact h q hq d hd e
  ·rw[Al.1 hd]at e⊢;rw[←Mz]at hq;obtain⟨n,Xu,rfl⟩:=Am.1 hq;exact hn n ((hN.mem n).2 ⟨Xu,by rw[←e,hc]⟩)
 ·exact YE hk q hq d hd e
def Ub(y:Sl):List Sl→List Sl
 | []=>[y]
 |z::l=>if Fa y.path z.path then y::z::l else z::Ub y l
def FO:List Sl→List Sl
 | []=>[]
 |y::l=>Ub y (FO l)
theorem SN{y z:Sl}:∀{l:List Sl},z∈Ub y l↔z=y∨z∈l
 | []=>by simp[Ub]
 |u::l=>by
  unfold Ub;split
  ·simp
  ·rw[Au,SN,Au];constructor
   ·rintro(h | h | h)
    ·exact .inr (.inl h)
    ·exact .inl h
    ·exact .inr (.inr h)
   ·rintro(h | h | h)
    ·exact .inr (.inl h)
    ·exact .inl h
    ·exact .inr (.inr h)
theorem H4{z:Sl}:∀{l:List Sl},z∈FO l↔z∈l
 | []=>by simp[FO]
 |u::l=>by unfold FO;rw[SN,H4,Au]
theorem XB{y:Sl}:∀{l:List Sl},Vx l→(∀z∈l,z.path≠y.path)→Vx (Ub y l)
 | [],_,_=>by simp[Ub,Vx]
 |u::l,h,hn=>by
  obtain⟨h1,h2⟩:=BQ.1 h;unfold Ub;split
  ·rename_i hb;refine BQ.2 ⟨fun z hz=>?_,h⟩;rcases Au.1 hz with rfl | hz
   ·exact hb
   ·exact D8 hb (h1 z hz)
  ·rename_i hb;refine BQ.2 ⟨fun z hz=>?_,XB h2 fun z hz=>hn z (Af _ hz)⟩;rcases SN.1 hz with rfl | hz
   ·cases e:Fa u.path z.path with
    |true=>rfl
    |false =>
     have hb:Fa z.path u.path=false:=by simpa using hb
     exact absurd (Hi e hb) (hn u (Aa ..))
   ·exact h1 z hz
theorem PY:∀{l:List Sl},(l.map (·.path)).Nodup→Vx (FO l)
 | [],_=>List.Pairwise.nil
 |y::l,h=>by
  simp only[AP,CT]at h;exact XB (PY h.2) fun z hz e=>h.1 (Am.2 ⟨z,H4.1 hz,e⟩)
theorem SJ:∀{l:List Sl} {b:Option ByteArray},Vx l→(∀c,b=some c→∀y∈l,Fa c y.path=true)→SG b l=true
 | [],_,_,_=>by unfold SG;rfl
 |y::l,b,h,hb=>by
  obtain⟨h1,h2⟩:=BQ.1 h;unfold SG;cases b with
  |none=>simpa using SJ h2 fun c e z hz=>by cases e;exact h1 z hz
  |some c =>
   have:=hb c rfl y (Aa ..)
   simp only[this,Ev];exact SJ h2 fun c e z hz=>by cases e;exact h1 z hz
theorem m8{l:List Sl}(h:Vx l):KU l=true:=SJ h fun _ e=>by cases e
theorem UH{x:List Rl}(hx:Bb x=0){r:Rl}(hr:r∈x):Np x (GJ r)=some r:=by
 unfold Np;rw[Ak (fun h=>h hx)];cases h:x.find? fun s=>decide (GJ s=GJ r)with
 |none =>
  rw[ES]at h;exact absurd (by simp) (h r hr)
 |some s =>
  have h1:=Fm h;simp only[Az]at h1;rw[ST (CI hx).2 (CF h) hr h1]
theorem Ey.sorted{x:List Rl}{dec:List Cd}(h:Ey x dec):Vx (FO (AK dec)):=PY (by rw[Ny];exact h.nodup)
theorem Ey.findS{x:List Rl}{dec:List Cd}(h:Ey x dec){c:Cd}(hc:c∈dec):Ca (FO (AK dec)) c.rel.path=some (SP c) :=
 MY h.sorted (y:=SP c) (H4.2 (Am.2 ⟨c,hc,rfl⟩))
theorem fP{x:List Rl}{roots:List Rq}(hx:Bb x=0){dec:List Cd}(h:Ey x dec)(hs:IB roots dec)(hl:Ks (HA roots dec) (AK dec)=none):nT x roots (FO (AK dec)):=by
 have FM:∀q∈HA roots dec,∃y,Ca (FO (AK dec)) q.path=some y∧has q.set (place y.ver)=true:=fun q hq=>by
  have:=Zg hl q hq
  rw[KQ]at this;obtain⟨y,hy,e⟩:=this;obtain⟨d,hd,rfl⟩:=Am.1 hy;have e:d.rel.path=q.path:=e;refine⟨SP d,by rw[←e];exact h.findS hd,?_⟩;have h1:=hs q hq d hd e;have Gq:=(CI hx).1 _ (h.cand d hd).1;rw[(h.cand d hd).2.2,Gq.plc]at h1;exact h1
 refine⟨hx,m8 h.sorted,fun y hy=>?_,fun q hq=>FM q (Bn _ hq),fun y hy r hr q hq=>?_⟩
 ·obtain⟨d,hd,rfl⟩:=Am.1 (H4.1 hy);exact⟨d.rel,UH hx (h.cand d hd).1,(h.cand d hd).2.1⟩
 ·obtain⟨d,hd,rfl⟩:=Am.1 (H4.1 hy)
  have:Np x (SP d)=some d.rel:=UH hx (h.cand d hd).1
  rw[this]at hr;cases hr;exact FM q (Bj _ (El.2 ⟨_,Am.2 ⟨d,hd,rfl⟩,hq⟩))
def cA(dec:List Cd)(needs:List Nd)(c:Cd):Bool:=(needs.all fun n=>has n.rq.set c.place)&&(D1 dec c).isNone
def NC(x:List Rl)(roots:List Rq):Nat→List Cd→List (List Cd)
 |0,_=>[]
 |n+1,dec=>match(Gw roots dec).2 with
  | []=>[dec]
  |n0::l=>((Co x (Gw roots dec).1).map fun c=>if cA dec (n0::l) c then NC x roots n (dec++[c])else []).flatten
structure Lf(x:List Rl)(roots:List Rq)(dec d:List Cd):Prop where
 pre:dec <+: d
 ok:Ey x d
 sat:IB roots d
 stop:Ks (HA roots d) (AK d)=none
theorem Jy{x:List Rl}{p:ByteArray}{c:Cd}(h:c∈Co x p):c.rel.path=p∧(c.rel∈x∧c.rel.yanked=false∧c.place=plc c.rel.ver):=by
 obtain⟨r,h1,h2,h3,rfl⟩:=KH.1 h;exact⟨h2,h1,h3,rfl⟩
theorem OQ{dec:List Cd}{needs:List Nd}{c:Cd}:cA dec needs c=true↔(∀n∈needs,has n.rq.set c.place=true)∧D1 dec c=none:=by
 unfold cA;rw[Ag,Bp,Option.isNone_iff_eq_none]
theorem UZ{x:List Rl}{roots:List Rq}:∀{n:Nat} {dec:List Cd},Ey x dec→IB roots dec→∀d∈NC x roots n dec,Lf x roots dec d
 |0,_,_,_,d,hd=>by cases hd
 |n+1,dec,h,hs,d,hd=>by
  unfold NC at hd;split at hd
  ·rename_i e;rw[Al.1 hd];exact⟨MK,h,hs,Tc.1 e⟩
  ·rename_i n0 l e;have hN:=NK e;obtain⟨L,hL,hd⟩:=El.1 hd;obtain⟨c,hc,rfl⟩:=Am.1 hL;split at hd
   ·rename_i Gq;obtain⟨h1,h2⟩:=OQ.1 Gq;obtain⟨c1,c2⟩:=Jy hc;have bM:De dec c.rel.path=false:=by rw[c1];exact hN.undone
    have:=UZ (n:=n) (h.snoc c2 bM) (hs.snoc hN c1 h1 h2) d hd
    exact⟨(NY _ _).trans this.pre,this.ok,this.sat,this.stop⟩
   ·cases hd
theorem Lf.sol{x:List Rl}{roots:List Rq}(hx:Bb x=0){dec d:List Cd}(h:Lf x roots dec d):nT x roots (FO (AK d)):=fP hx h.ok h.sat h.stop
theorem j9{x:List Rl}{roots:List Rq}(hx:Bb x=0){s:SS}(hd:Fe x roots s){k:Nat}(hk:k<s.drv.length){dec d:List Cd}(he:CA (DK s k) (AK dec)=true)(h:Lf x roots dec d):False:=by
 have hS:=h.sol hx;have hv:=VQ (s:=FO (AK d)) hS.inc (fun y hy=>H4.2 (by
  obtain⟨c,hc,rfl⟩:=Am.1 hy;obtain⟨t,e⟩:=h.pre;exact Am.2 ⟨c,by rw[←e];exact Bn _ hc,rfl⟩)) he
 have hn:=LF hS (d:=[]) (fun _ h=>by cases h) hd.der (DK s k) (by
  unfold DK;rw[Ci,Ay hk];exact Aq hk)
 rw[hv]at hn;cases hn
theorem na{x:List Rl}(h:Bb x=0):x.length≤256:=by
 unfold Bb at h;split at h
 ·cases h
 ·omega
theorem eY{l:List Rl}{k:Int}:(l.map fun r=>(plc r.ver,plc r.ver+1)).any (BI k)=true↔∃r∈l,plc r.ver=k:=by
 rw[Ba];constructor
 ·rintro⟨y,hy,h⟩
  obtain⟨r,hr,rfl⟩:=Am.1 hy
  have:=DJ.1 h
  exact⟨r,hr,by have h1:=this.1;have h2:=this.2;dsimp only at h1 h2;omega⟩
 ·rintro⟨r,hr,rfl⟩
  exact⟨_,Am.2 ⟨r,hr,rfl⟩,DJ.2 ⟨AX _,by dsimp only;omega⟩⟩
theorem Us{x:List Rl}(hx:Bb x=0){p:ByteArray}{k:Int}:has (B7 x p) k=true↔∃c∈Co x p,c.place=k:=by
 unfold B7;rw[G1];unfold has JW;rw[Ak (fun h=>h hx)];simp only[Ag,Az];rw[eY];constructor
 ·rintro⟨_,r,hr,rfl⟩
  simp only[BK,Az,CQ]at hr;exact⟨⟨plc r.ver,r⟩,KH.2 ⟨r,hr.1.1,hr.1.2,hr.2,rfl⟩,rfl⟩
 ·rintro⟨c,hc,rfl⟩
  obtain⟨r,h1,h2,h3,rfl⟩:=KH.1 hc;have Gq:=(CI hx).1 r h1
  have:=Jj Gq.val
  rw[←Gq.plc]at this;refine⟨⟨this.1,this.2⟩,r,?_,rfl⟩;simp only[BK,Az,CQ];exact⟨⟨h1,h2⟩,h3⟩
theorem aP{x:List Rl}(hx:Bb x=0)(p:ByteArray):∃k:Int,0≤k∧k<1000000∧has (B7 x p) k=false:=by
 apply Bq;intro hn;have FM:∀k∈(List.range 257).map fun i:Nat=>(i:Int),k∈x.map fun r=>plc r.ver:=by
  intro k hk;obtain⟨i,hi,rfl⟩:=Am.1 hk;have hi:=List.mem_range.1 hi;have hh:has (B7 x p) (i:Int)=true:=by
   cases e:has (B7 x p) (i:Int)with
   |true=>rfl
   |false=>exact absurd ⟨(i:Int),by omega,by omega,e⟩ hn
  obtain⟨c,hc,e⟩:=(Us hx).1 hh;obtain⟨r,h1,_,_,rfl⟩:=KH.1 hc;exact Am.2 ⟨r,h1,e⟩
 have:=H9 (List.pairwise_map.2 (List.nodup_range.imp fun h e=>h (Int.ofNat.inj e))) FM
 rw[A9,A9,Qm]at this
 have:=na hx
 omega
theorem KW(dec:List Cd)(c:Cd):AK (dec++[c])=JX (AK dec) c.rel.path c.rel.ver:=by unfold AK JX;rw[AH];rfl
theorem Mp{t:List Tm}{S:List Sl}:CA t S=true↔Bf t S=true∧∀u∈t,CD S u.path=true:=by
 unfold CA;rw[Ag,CQ,FZ];simp
section
variable {x:List Rl}{roots:List Rq}{dec:List Cd}{p:ByteArray}{needs:List Nd}
abbrev Zl(p:ByteArray)(dec:List Cd):List ByteArray:=p::(AK dec).map (·.path)
theorem jj{c:Cd}{t:List Tm}(hf:KE t)(he:CA t (AK (dec++[c]))=true):Ui (Zl c.rel.path dec) t:=by
 refine⟨EF hf,fun u hu=>?_⟩
 have:=(Mp.1 he).2 u hu
 rw[G0,KW,AH]at this;rcases A6.1 this with h | h
 ·exact Af _ h
 ·rw[AP,EW,Al]at h;rw[h];exact Aa ..
theorem d8(hx:Bb x=0)(hd:Ey x dec){c:Cd}(hc:c.rel∈x){t:List Tm}(he:CA t (AK (dec++[c]))=true)(hn:CZ t c.rel.path=false):CA t (AK dec)=true:=by
 obtain⟨h1,h2⟩:=Mp.1 he;have Dz:=Jz hn;rw[KW]at h1 h2;refine Mp.2 ⟨?_,fun u hu=>?_⟩
 ·rw[KC (.self (hd.valid hx)) (.ver (hd.valid hx) ((CI hx).1 _ hc).val) Dz];exact h1
 ·have:=h2 u hu
  rw[Sv,CB]at this;rcases this with h | h
  ·exact h
  ·rw[KQ]at h;obtain⟨y,hy,e⟩:=h;rw[Al.1 hy]at e;exact absurd e.symm (Dz u hu)
theorem cS(hx:Bb x=0)(hd:Ey x dec){c:Cd}(hc:c.rel∈x∧c.rel.yanked=false∧c.place=plc c.rel.ver)(hu:De dec c.rel.path=false){t:List Tm}(hf:KE t)(he:CA t (AK (dec++[c]))=true)(hn:CZ t c.rel.path=true) :
  iN (AK dec) (Zl c.rel.path dec) c.rel.path t fun k=>k=c.place:=by
 have Gq:=(CI hx).1 _ hc.1;have hV:=hd.valid hx;have h1:=(Mp.1 he).1;rw[KW]at h1;refine⟨hf,jj hf he,hn,⟨_,.ver hV Gq.val,h1⟩,fun k k0 k1 e=>?_⟩;subst e;rw[ZC (by rw[FI];exact hu) (EP ⟨k0,k1⟩) Gq.val (by rw[GV,hc.2.2,Gq.plc])];exact h1
theorem OK(hx:Bb x=0)(hr:BR roots=0){E:List Cd}(hE:Ey x E){n:Nd}(hn:n∈Dr roots E)(hv:∃d∈E,d.rel.path=n.rq.path∧has n.rq.set d.place=false) :
  (∀d,DO x roots d (SM n)=some (IR n))∧CA (IR n) (AK E)=true∧KE (IR n):=by
 obtain⟨d,hd,e,hs⟩:=hv;have Gq:=(CI hx).1 _ (hE.cand d hd).1;have hf:=hE.find hd;have hI:=Rm hx hr hE hn (.inr ⟨SP d,by rw[←e];exact hf,by rw[show(SP d).ver=d.rel.ver from rfl,←Gq.plc,←(hE.cand d hd).2.2];exact hs⟩);refine⟨hI.inf,Mp.2 ⟨hI.viol,fun u hu=>?_⟩,hI.form⟩
 have:=(hI.inU ((AK E).map (·.path)) (fun h=>G0.1 (hI.path h)) (G0.1 (by rw[JD,←e,hf];rfl))).2 u hu
 exact G0.2 this
theorem cn(hx:Bb x=0)(hr:BR roots=0)(hd:Ey x dec)(hN:nS roots dec p needs){c:Cd}(hc:c∈Co x p){n:Nd}(hn:n∈needs)(hs:has n.rq.set c.place=false):CZ (IR n) p=true:=by
 obtain⟨c1,c2⟩:=Jy hc;have hu:De dec c.rel.path=false:=by rw[c1];exact hN.undone
 have hE:=hd.snoc c2 hu;obtain⟨dp,jC⟩:=(hN.mem n).1 hn;have Gq:=(CI hx).1 _ c2.1;have hI:=Rm hx hr hE (NH dp) (.inr ⟨SP c,by rw[jC,←c1];exact hE.find (by simp),by rw[show(SP c).ver=c.rel.ver from rfl,←Gq.plc,←c2.2.2];exact hs⟩);cases oa:CZ (IR n) p with
 |true=>rfl
 |false =>
  exfalso
  have Nu:n.rq.set≠[]∧Ew n.rq.set:=by
   rcases L4 dp with ⟨k,q,h1,rfl⟩ | ⟨c,hc,k,q,h1,rfl⟩
   ·exact KJ hr q (Av h1)
   ·exact((CI hx).1 _ (hd.cand c hc).1).set q (Av h1)
  obtain⟨k,hk⟩:=aK Nu.1 Nu.2;have iC:=LQ hk;have hV:=hd.valid hx;have o1:WG (AK dec) p (JX (AK dec) p (Pc k)):=.ver hV (EP iC);have o2:WG (AK dec) p (AK (dec++[c])):=by rw[KW,c1];exact .ver hV Gq.val
  have h1:=KC o1 o2 (Jz oa);rw[hI.viol,hI.raw _ o1.val,BA]at h1
  have:=h1 (DD n.rq) (by unfold MP;split<;>simp)
  rw[show(DD n.rq).path=p from jC,H2 (by rw[FI];exact hN.undone),Ti (by rw[show(⟨p,Pc k⟩:Sl).ver=Pc k from rfl,GV];exact hk)]at this;cases this
theorem cc(hx:Bb x=0)(hr:BR roots=0)(hd:Ey x dec)(hN:nS roots dec p needs){n0:Nd}(h0:n0∈needs)(L:List (Nat×Cd))(hL:L.map (·.2)=Co x p){s:SS}(hs:Fe x roots s)(DF:∀y∈L,y.1<s.drv.length)
  (qk:s.full=false→∀y∈L,CA (DK s y.1) (AK (dec++[y.2]))=true∧CZ (DK s y.1) p=true) :
  Fe x roots (DX x p n0 (L.map (·.1)) s).2∧Grow s (DX x p n0 (L.map (·.1)) s).2∧(DX x p n0 (L.map (·.1)) s).1<(DX x p n0 (L.map (·.1)) s).2.drv.length ∧
  ((DX x p n0 (L.map (·.1)) s).2.full=false→CA (DK (DX x p n0 (L.map (·.1)) s).2 (DX x p n0 (L.map (·.1)) s).1) (AK dec)=true):=by
 have hV:=hd.valid hx;have ol:CD (AK dec) p=false:=by rw[FI];exact hN.undone
 obtain⟨rP,fw⟩:=(hN.mem n0).1 h0;have hI:=Rm hx hr hd rP (.inl (by rw[fw];exact Ho ol));unfold DX;obtain⟨a1,a2,a3⟩:=Kd hs (hI.inf s.drv);have ag:=Ke s (SM n0) (IR n0);have a3:(Bk s n0).2.full=false→DK (Bk s n0).2 (Bk s n0).1=IR n0:=a3
 change Fe x roots (Bk s n0).2 at a1
 change (Bk s n0).1<(Bk s n0).2.drv.length at a2
 change Grow s (Bk s n0).2 at ag
 generalize Bk s n0=s1 at *
 -- the incompatibility of the places that are not available
 obtain⟨u,u0,u1,hu⟩:=aP hx p;have V7:∀k:Int,0≤k→k<1000000→has (B7 x p) k=false→Bf [(⟨p,false,Ed (B7 x p)⟩:Tm)] (JX (AK dec) p (Pc k))=true:=fun k k0 k1 hk=>by
  rw[BA];intro t ht;rw[Al.1 ht];show Dh _ (Ca (JX (AK dec) p (Pc k)) p)=true;rw[H2 ol];show(CL (Pc k)&&has (Ed (B7 x p)) (place (Pc k)))=true;rw[EP ⟨k0,k1⟩,GV,Fx,hk];unfold Lt;simp[k0,k1]
 have lp:Bf [(⟨p,false,Ed (B7 x p)⟩:Tm)] (AK dec)=false:=by
  rw[AI];intro h
  have:=BA.1 h _ (Aa ..)
  rw[show(⟨p,false,Ed (B7 x p)⟩:Tm).path=p from rfl,Ho ol]at this;cases this
 have ou:WG (AK dec) p (JX (AK dec) p (Pc u)):=.ver hV (EP ⟨u0,u1⟩);have Dz:HJ p (B7 x p)≠[]:=by
  have c1:=CX (l:=[(⟨p,false,Ed (B7 x p)⟩:Tm)]) ou.val;have c2:=CX (l:=[(⟨p,false,Ed (B7 x p)⟩:Tm)]) hV;rw[V7 u u0 u1 hu]at c1;rw[lp]at c2;unfold HJ PM;cases hc:CN [(⟨p,false,Ed (B7 x p)⟩:Tm)]with
  |none=>rw[hc]at c1;cases c1
  |some c =>
   rw[hc]at c2;intro e;have e:c=[]:=e;rw[e]at c2;cases c2
 have Lk:∀S,FU S→Bf (HJ p (B7 x p)) S=Bf [(⟨p,false,Ed (B7 x p)⟩:Tm)] S:=fun S v=>PN v Dz;have pO:CZ (HJ p (B7 x p)) p=true:=by
  cases h:CZ (HJ p (B7 x p)) p with
  |true=>rfl
  |false =>
   have:=KC ou (.self hV) (Jz h)
   rw[Lk _ ou.val,Lk _ hV,V7 u u0 u1 hu,lp]at this;cases this
 have mP:DO x roots s1.2.drv ⟨2,p,0,0,0,0⟩=some (HJ p (B7 x p)):=by
  unfold DO;rw[Ak (show ¬((2:Int)=0) by decide),Ak (show ¬((2:Int)=1) by decide),Aw rfl,Aw ⟨rfl,rfl,rfl,rfl⟩];unfold cj;rw[Ak (by rw[GE];exact Dz)]
 obtain⟨b1,b2,b3⟩:=Kd a1 mP;have bg:=Ke s1.2 ⟨2,p,0,0,0,0⟩ (HJ p (B7 x p));have b3:(Ee x p s1.2).2.full=false→DK (Ee x p s1.2).2 (Ee x p s1.2).1=HJ p (B7 x p):=b3
 change Fe x roots (Ee x p s1.2).2 at b1
 change (Ee x p s1.2).1<(Ee x p s1.2).2.drv.length at b2
 change Grow s1.2 (Ee x p s1.2).2 at bg
 generalize Ee x p s1.2=s2 at *
 have pK:s2.2.full=false→s1.2.full=false∧s.full=false:=fun h=>by
  have h1:s1.2.full=false:=by
   cases e:s1.2.full with
   |false=>rfl
   |true=>rw[bg.full e]at h;cases h
  refine⟨h1,?_⟩;cases e:s.full with
  |false=>rfl
  |true=>rw[ag.full e]at h1;cases h1
 have main:=NA (D:=AK dec) (U:=Zl p dec) (p:=p) hV ((s2.1,fun k=>has (B7 x p) k=false)::L.map fun y=>(y.1,fun k=>k=y.2.place)) (C:=fun k=>has n0.rq.set k=false) b1 (BH a2 bg.len)
  (fun y hy=>by
   rcases Au.1 hy with rfl | hy
   ·exact b2
   ·obtain⟨z,hz,rfl⟩:=Am.1 hy;exact BH (DF z hz) (ag.trans bg).len) (fun hf=>by
   obtain⟨f1,f0⟩:=pK hf;refine⟨?_,fun y hy=>?_⟩
   ·rw[bg.at a2,a3 f1];refine⟨hI.form,hI.inU _ (fun h=>Af _ (G0.1 (hI.path h))) (by rw[fw];exact Aa ..),hI.viol,fun k k0 k1 hk=>?_⟩;have ok:WG (AK dec) p (JX (AK dec) p (Pc k)):=.ver hV (EP ⟨k0,k1⟩);rw[hI.raw _ ok.val,BA];intro t ht;have V5:=BA.1 ((hI.raw _ hV).symm.trans hI.viol) t ht;unfold MP at ht;have fu:Dh (DD n0.rq) (Ca (JX (AK dec) p (Pc k)) (DD n0.rq).path)=true:=by
     rw[show(DD n0.rq).path=p from fw,H2 ol];exact QN (.inr ⟨_,rfl,EP ⟨k0,k1⟩,by rw[show(⟨p,Pc k⟩:Sl).ver=Pc k from rfl,GV];exact hk⟩)
    split at ht
    ·rw[Al.1 ht];exact fu
    ·rename_i hm;rcases Au.1 ht with rfl | ht
     ·have Dz:n0.path≠p:=fun e=>by
       have:=hI.path hm
       rw[e,ol]at this;cases this
      rw[show(⟨n0.path,false,[(n0.place,n0.place+1)]⟩:Tm).path=n0.path from rfl]at V5⊢;rw[ok.same _ Dz];exact V5
     ·rw[Al.1 ht];exact fu
   ·rcases Au.1 hy with rfl | hy
    ·show iN _ _ p (DK s2.2 s2.1) _;rw[b3 hf];refine⟨L6 _,Th (fun t ht=>by rw[Al.1 ht];exact Aa ..),pO,⟨_,ou,by rw[Lk _ ou.val];exact V7 u u0 u1 hu⟩,fun k k0 k1 hk=>?_⟩;rw[Lk _ (WG.ver hV (EP ⟨k0,k1⟩)).val];exact V7 k k0 k1 hk
    ·obtain⟨z,hz,rfl⟩:=Am.1 hy;show iN _ _ p (DK s2.2 z.1) _;rw[(ag.trans bg).at (DF z hz)];obtain⟨e1,e2⟩:=qk f0 z hz;have zO:z.2∈Co x p:=by rw[←hL];exact Am.2 ⟨z,hz,rfl⟩
     obtain⟨c1,c2⟩:=Jy zO
     have:=cS hx hd c2 (by rw[c1];exact hN.undone) (hs.forms z.1) e1 (by rw[c1];exact e2)
     rw[c1]at this;exact this)
 have t7:((s2.1,fun k=>has (B7 x p) k=false)::L.map fun y=>(y.1,fun k=>k=y.2.place)).map (·.1)=s2.1::L.map (·.1):=by
  rw[AP,BN];rfl
 rw[t7]at main;obtain⟨m1,m2,m3,m4⟩:=main;refine⟨m1,(ag.trans bg).trans m2,m3,fun hf=>?_⟩;obtain⟨C',q1,q2⟩:=m4 hf;have zt:CZ (DK (Ck p (s2.1::L.map (·.1)) s1.1 s2.2).2 (Ck p (s2.1::L.map (·.1)) s1.1 s2.2).1) p=false:=by
  rcases q2 with q2 | q2
  ·exact q2
  ·refine gl ol q1.form q1.none_ fun k k0 k1=>q1.cov k k0 k1 (q2 k ?_);cases rQ:has n0.rq.set k with
   |false=>exact .inl rfl
   |true =>
    cases ha:has (B7 x p) k with
    |false=>exact .inr ⟨_,Aa ..,ha⟩
    |true =>
     obtain⟨c,hc,e⟩:=(Us hx).1 ha;rw[←hL]at hc;obtain⟨z,hz,rfl⟩:=Am.1 hc;exact .inr ⟨_,Af _ (Am.2 ⟨z,hz,rfl⟩),e.symm⟩
 refine Mp.2 ⟨q1.none_,fun t ht=>?_⟩
 have:=q1.inU.2 t ht
 rcases Au.1 this with e | h
 ·exact absurd e (Jz zt t ht)
 ·exact G0.2 h
end
def GL(s:SS)(b:List Cd)(p:ByteArray)(needs:List Nd):List Cd→List Sk→Prop
 | [],sk=>sk=[]
 |c::cs,sk=>if(needs.all fun n=>has n.rq.set c.place)=true then ∃(k:Nat) (rest:List Sk),sk=⟨p,c.place,k⟩::rest∧(k<s.drv.length∧CA (DK s k) (AK (b++[c]))=true)∧GL s b p needs cs rest
  else GL s b p needs cs sk
section
variable {s s' : SS}{b:List Cd}{p:ByteArray}{needs:List Nd}
theorem GL.out{c:Cd}(hc:¬(needs.all fun n=>has n.rq.set c.place)=true):∀{cs:List Cd} {sk:List Sk},GL s b p needs cs sk→GL s b p needs (cs++[c]) sk
 | [],sk,h=>by
  show(if _ then _ else _);rw[Ak hc];exact h
 |d::cs,sk,h=>by
  have h:if(needs.all fun n=>has n.rq.set d.place)=true then _ else _:=h
  show(if _ then _ else _)
  by_cases hd:(needs.all fun n=>has n.rq.set d.place)=true
  ·rw[Aw hd]at h⊢;obtain⟨k,rest,h1,h2,h3⟩:=h;exact⟨k,rest,h1,h2,GL.out hc h3⟩
  ·rw[Ak hd]at h⊢;exact GL.out hc h
theorem GL.add{c:Cd}(hc:(needs.all fun n=>has n.rq.set c.place)=true){k:Nat}(hk:k<s.drv.length∧CA (DK s k) (AK (b++[c]))=true):∀{cs:List Cd} {sk:List Sk},GL s b p needs cs sk→GL s b p needs (cs++[c]) (sk++[⟨p,c.place,k⟩])
 | [],sk,h=>by
  have h:sk=[]:=h;subst h;show(if _ then _ else _);rw[Aw hc];exact⟨k,[],rfl,hk,rfl⟩
 |d::cs,sk,h=>by
  have h:if(needs.all fun n=>has n.rq.set d.place)=true then _ else _:=h
  show(if _ then _ else _)
  by_cases hd:(needs.all fun n=>has n.rq.set d.place)=true
  ·rw[Aw hd]at h⊢;obtain⟨j,rest,rfl,h2,h3⟩:=h;exact⟨j,_,rfl,h2,GL.add hc hk h3⟩
  ·rw[Ak hd]at h⊢;exact GL.add hc hk h
theorem GL.mono(hg:Grow s s'):∀{cs:List Cd} {sk:List Sk},GL s b p needs cs sk→GL s' b p needs cs sk
 | [],_,h=>h
 |d::cs,sk,h=>by
  have h:if(needs.all fun n=>has n.rq.set d.place)=true then _ else _:=h
  show(if _ then _ else _)
  by_cases hd:(needs.all fun n=>has n.rq.set d.place)=true
  ·rw[Aw hd]at h⊢;obtain⟨j,rest,rfl,h2,h3⟩:=h;exact⟨j,rest,rfl,⟨BH h2.1 hg.len,by rw[hg.at h2.1];exact h2.2⟩,h3.mono hg⟩
  ·rw[Ak hd]at h⊢;exact h.mono hg
end
structure lQ(x:List Rl)(roots:List Rq)(s:SS)(b:List Cd)(c:Cd)(sk:List Sk)(p:ByteArray)(needs:List Nd)(pre post:List Cd):Prop where
 next:nS roots b p needs
 cands:Co x p=pre++c::post
 fit:∀n∈needs,has n.rq.set c.place=true
 noclash:D1 b c=none
 skips:GL s b p needs pre sk
def Rz(x:List Rl)(roots:List Rq)(s:SS):List Cd→List Cd→List (List Sk)→Prop
 |b,[],[]=>Ks (HA roots b) (AK b)=none
 |b,c::t,sk::st=>(∃p needs pre post,lQ x roots s b c sk p needs pre post)∧Rz x roots s (b++[c]) t st
 |_,_,_=>False
structure Vz(x:List Rl)(roots:List Rq)(ls:List (List Cd))(dec:List Cd)(s:SS)(st:List (List Sk))(o:JN):Prop where
 der:Fe x roots o.ss
 grow:Grow s o.ss
 no:o.found=false→o.dec=dec∧o.stack=st∧(o.ss.full=false→o.res<o.ss.drv.length∧CA (DK o.ss o.res) (AK dec)=true)
 yes:o.found=true→o.ss.full=false∧∃t sl,o.dec=dec++t∧o.stack=st++sl∧Rz x roots o.ss dec t sl∧ls.head?=some o.dec
section
variable {rec:List Cd→SS→List (List Sk)→JN}{x:List Rl}{roots:List Rq}{p:ByteArray}{needs:List Nd}{n0:Nd}{dec:List Cd}{st:List (List Sk)}
def Jx(rec:List Cd→SS→List (List Sk)→JN)(x:List Rl)(p:ByteArray)(needs:List Nd)(n0:Nd)(dec:List Cd)(st:List (List Sk))(c:Cd)(cs:List Cd)(FJ:List Nat)(skips:List Sk)(k:Nat)(s:SS):JN :=
 if CZ (DK s k) p=false then⟨k,false,s,dec,st⟩else DW rec x p needs n0 dec st cs s (FJ++[k]) (skips++[⟨p,c.place,k⟩])
theorem F3(c:Cd)(cs:List Cd)(s:SS)(FJ:List Nat)(skips:List Sk):DW rec x p needs n0 dec st (c::cs) s FJ skips =
  if s.full=true then⟨0,false,s,dec,st⟩
  else match needs.find? fun n=>!has n.rq.set c.place with
   |some n=>DW rec x p needs n0 dec st cs (Bk s n).2 (FJ++[(Bk s n).1]) skips
   |none=>match Oe s.drv (AK (dec++[c]))with
    |some k=>Jx rec x p needs n0 dec st c cs FJ skips k s
    |none=>match D1 dec c with
     |some n=>Jx rec x p needs n0 dec st c cs FJ skips (Bk s n).1 (Bk s n).2
     |none=>if(rec (dec++[c]) s (st++[skips])).found=true then⟨0,true,(rec (dec++[c]) s (st++[skips])).ss,(rec (dec++[c]) s (st++[skips])).dec,(rec (dec++[c]) s (st++[skips])).stack⟩
      else if(rec (dec++[c]) s (st++[skips])).ss.full=true then⟨0,false,(rec (dec++[c]) s (st++[skips])).ss,dec,st⟩
      else Jx rec x p needs n0 dec st c cs FJ skips (rec (dec++[c]) s (st++[skips])).res (rec (dec++[c]) s (st++[skips])).ss:=rfl
theorem ac{s:SS}(hs:Fe x roots s){n:Nd}(h:∀d,DO x roots d (SM n)=some (IR n)):Fe x roots (Bk s n).2∧(Bk s n).1<(Bk s n).2.drv.length∧((Bk s n).2.full=false→DK (Bk s n).2 (Bk s n).1=IR n)∧Grow s (Bk s n).2:=by
 obtain⟨a1,a2,a3⟩:=Kd hs (h s.drv);exact⟨a1,a2,a3,Ke _ _ _⟩
theorem Vz.grown{ls:List (List Cd)}{s s' : SS}{o:JN}(hg:Grow s s')(h:Vz x roots ls dec s' st o):Vz x roots ls dec s st o:=⟨h.der,hg.trans h.grow,h.no,h.yes⟩
theorem Uv(hx:Bb x=0)(hr:BR roots=0)(hd:Ey x dec)(bR:IB roots dec)(hN:nS roots dec p needs)(h0:n0∈needs){lv:List Cd→List (List Cd)}(xb:∀c∈Co x p,cA dec needs c=true→∀d∈lv (dec++[c]),Lf x roots (dec++[c]) d)
  (bQ:∀c∈Co x p,cA dec needs c=true→∀s st,Fe x roots s→s.full=false→Vz x roots (lv (dec++[c])) (dec++[c]) s st (rec (dec++[c]) s st)) :
  ∀(cs:List Cd) {s:SS} (L:List (Nat×Cd)) {skips:List Sk},L.map (·.2)++cs=Co x p→Fe x roots s→(∀y∈L,y.1<s.drv.length)→(s.full=false→(∀y∈L,CA (DK s y.1) (AK (dec++[y.2]))=true∧CZ (DK s y.1) p=true)∧GL s dec p needs (L.map (·.2)) skips) →
   Vz x roots (((Co x p).map fun c=>if cA dec needs c then lv (dec++[c])else []).flatten) dec s st (DW rec x p needs n0 dec st cs s (L.map (·.1)) skips)
 | [],s,L,skips,hL,hs,DF,qk=>by
  rw[BZ]at hL;obtain⟨l1,l2,l3,l4⟩:=cc hx hr hd hN h0 L hL hs DF (fun hf=>(qk hf).1);exact⟨l1,l2,fun _=>⟨rfl,rfl,fun hf=>⟨l3,l4 hf⟩⟩,fun h=>(by cases h)⟩
 |c::cs,s,L,skips,hL,hs,DF,qk=>by
  rw[F3]
  by_cases hf:s.full=true
  ·rw[Aw hf];exact⟨hs,.refl s,fun _=>⟨rfl,rfl,fun h=>by rw[show(⟨0,false,s,dec,st⟩:JN).ss=s from rfl,hf]at h;cases h⟩,fun h=>(by cases h)⟩
  rw[Ak hf];have hf:s.full=false:=by simpa using hf
  obtain⟨ql,mX⟩:=qk hf;have hc:c∈Co x p:=by rw[←hL];simp
  obtain⟨c1,c2⟩:=Jy hc;have hu:De dec c.rel.path=false:=by rw[c1];exact hN.undone
  have hE:=hd.snoc c2 hu
  -- on to the next candidate
  have go:∀(s' : SS) (k:Nat) (Wq : List Sk),Fe x roots s'→Grow s s'→k<s'.drv.length→(s'.full=false→(CA (DK s' k) (AK (dec++[c]))=true∧CZ (DK s' k) p=true)∧GL s' dec p needs (L.map (·.2)++[c]) Wq) →
    Vz x roots (((Co x p).map fun c=>if cA dec needs c then lv (dec++[c])else []).flatten) dec s st (DW rec x p needs n0 dec st cs s' (L.map (·.1)++[k]) Wq):=fun s' k Wq WA hg hk Dz=>by
   have:=Uv hx hr hd bR hN h0 xb bQ cs (s:=s') (L++[(k,c)]) (skips:=Wq) (by rw[AH,AO];exact hL) WA
    (fun y hy=>by
     rcases A6.1 hy with hy | hy
     ·exact BH (DF y hy) hg.len
     ·rw[Al.1 hy];exact hk)
    (fun dn=>by
     obtain⟨e1,e2⟩:=Dz dn;refine⟨fun y hy=>?_,by rw[AH];exact e2⟩;rcases A6.1 hy with hy | hy
     ·rw[hg.at (DF y hy)];exact ql y hy
     ·rw[Al.1 hy];exact e1)
   rw[AH]at this;exact this.grown hg
  cases mK:needs.find? fun n=>!has n.rq.set c.place with
  |some n =>
   dsimp only;have dp:=CF mK;have jC:=Fm mK;have jC:has n.rq.set c.place=false:=by simpa using jC
   obtain⟨zp,zq⟩:=(hN.mem n).1 dp;obtain⟨e1,e2,e3⟩:=OK hx hr hE (NH zp) ⟨c,by simp,by rw[c1,zq],jC⟩;obtain⟨i1,i2,i3,i4⟩:=ac hs e1;refine go _ _ _ i1 i4 i2 fun dn=>?_;rw[i3 dn];exact⟨⟨e2,cn hx hr hd hN hc dp jC⟩,GL.out (by
    intro h;rw[Bp]at h;rw[h n dp]at jC;cases jC) (mX.mono i4)⟩
  |none =>
   dsimp only;have YY:∀n∈needs,has n.rq.set c.place=true:=fun n hn=>by
    rw[ES]at mK;simpa using mK n hn
   have FM:(needs.all fun n=>has n.rq.set c.place)=true:=by rw[Bp];exact YY
   have lS:∀(s' : SS) (k:Nat),Fe x roots s'→Grow s s'→k<s'.drv.length→(s'.full=false→CA (DK s' k) (AK (dec++[c]))=true) →
     Vz x roots (((Co x p).map fun c=>if cA dec needs c then lv (dec++[c])else []).flatten) dec s st (Jx rec x p needs n0 dec st c cs (L.map (·.1)) skips k s'):=fun s' k WA hg hk he=>by
    unfold Jx;cases oa:CZ (DK s' k) p with
    |false =>
     rw[Aw rfl];exact⟨WA,hg,fun _=>⟨rfl,rfl,fun dn=>⟨hk,d8 hx hd c2.1 (he dn) (by rw[c1];exact oa)⟩⟩,fun h=>(by cases h)⟩
    |true =>
     rw[Ak (by decide)];exact go _ _ _ WA hg hk fun dn=>⟨⟨he dn,oa⟩,GL.add FM ⟨hk,he dn⟩ (mX.mono hg)⟩
   cases hen:Oe s.drv (AK (dec++[c]))with
   |some k =>
    dsimp only;obtain⟨k1,k2⟩:=Kj hen;exact lS s k hs (.refl s) k1 fun _=>k2
   |none =>
    dsimp only;cases hcl:D1 dec c with
    |some n =>
     dsimp only;obtain⟨m1,m2⟩:=KK hcl;obtain⟨e1,e2,e3⟩:=OK hx hr hE (MA m1) m2;obtain⟨i1,i2,i3,i4⟩:=ac hs e1;exact lS _ _ i1 i4 i2 fun dn=>by rw[i3 dn];exact e2
    |none =>
     dsimp only;have Gq:cA dec needs c=true:=OQ.2 ⟨YY,hcl⟩;have hR:=bQ c hc Gq s (st++[skips]) hs hf;generalize rec (dec++[c]) s (st++[skips])=o at hR
     by_cases fe:o.found=true
     ·rw[Aw fe];obtain⟨y1,t,sl,y2,y3,y4,y5⟩:=hR.yes fe;refine⟨hR.der,hR.grow,fun h=>(by cases h),fun _=>⟨y1,c::t,skips::sl,by show o.dec=_;rw[y2];simp,by show o.stack=_;rw[y3];simp,⟨⟨p,needs,L.map (·.2),cs,hN,hL.symm,YY,hcl,mX.mono hR.grow⟩,y4⟩,?_⟩⟩;show _=some o.dec;rw[←hL,AH,CG,AP,By];have ua:((L.map (·.2)).map fun c=>if cA dec needs c then lv (dec++[c])else []).flatten=[]:=by
       rw[List.flatten_eq_nil_iff];intro l hl;obtain⟨d,jz,rfl⟩:=Am.1 hl;obtain⟨y,hy,rfl⟩:=Am.1 jz;split
       ·rename_i zx;have zL:y.2∈Co x p:=by rw[←hL];exact Bn _ jz
        refine Lp.2 fun d tN=>j9 hx hs (DF y hy) (ql y hy).1 (xb y.2 zL zx d tN)
       ·rfl
      rw[ua,D6,Aw Gq,List.head?_append,y5];rfl
     ·rw[Ak fe];have fe:o.found=false:=by simpa using fe
      obtain⟨n1,n2,n3⟩:=hR.no fe
      by_cases mL:o.ss.full=true
      ·rw[Aw mL];exact⟨hR.der,hR.grow,fun _=>⟨rfl,rfl,fun h=>by rw[show(⟨0,false,o.ss,dec,st⟩:JN).ss=o.ss from rfl,mL]at h;cases h⟩,fun h=>(by cases h)⟩
      ·rw[Ak mL];have mL:o.ss.full=false:=by simpa using mL
       exact lS _ _ hR.der hR.grow (n3 mL).1 fun _=>(n3 mL).2
end
theorem Sq{x:List Rl}{dec:List Cd}{c:Cd}(h:c.rel∈x∧c.rel.yanked=false)(hu:De dec c.rel.path=false):Qz x (dec++[c])<Qz x dec:=by
 have key:∀l:List Rl,(l.filter fun r=>!r.yanked&&!De (dec++[c]) r.path).length≤(l.filter fun r=>!r.yanked&&!De dec r.path).length ∧
   (c.rel∈l→(l.filter fun r=>!r.yanked&&!De (dec++[c]) r.path).length<(l.filter fun r=>!r.yanked&&!De dec r.path).length):=by
  intro l
  induction l with
  |nil=>exact⟨Aj _,fun h=>(by cases h)⟩
  |cons r l ih =>
   have fB:(!r.yanked&&!De (dec++[c]) r.path)=true→(!r.yanked&&!De dec r.path)=true:=fun e=>by
    simp only[Ag,CQ]at e⊢;refine⟨e.1,?_⟩
    have:=e.2
    unfold De at this⊢;rw[Hf,Bool.or_eq_false_iff]at this;exact this.1
   rw[Ek,Ek];refine⟨?_,fun hm=>?_⟩
   ·by_cases e:(!r.yanked&&!De (dec++[c]) r.path)=true
    ·rw[Aw e,Aw (fB e)];simp;exact ih.1
    ·rw[Ak e];split
     ·simp;have:=ih.1;omega
     ·exact ih.1
   ·rcases Au.1 hm with rfl | hm
    ·have e1:¬(!c.rel.yanked&&!De (dec++[c]) c.rel.path)=true:=by
      have:De (dec++[c]) c.rel.path=true:=by unfold De;simp
      rw[this];simp
     have e2:(!c.rel.yanked&&!De dec c.rel.path)=true:=by rw[h.2,hu];rfl
     rw[Ak e1,Aw e2];simp;have:=ih.1;omega
    ·have:=ih.2 hm
     by_cases e:(!r.yanked&&!De (dec++[c]) r.path)=true
     ·rw[Aw e,Aw (fB e)];simp;exact this
     ·rw[Ak e];split
      ·simp;omega
      ·exact this
 exact(key x).2 h.1
theorem PX{x:List Rl}{roots:List Rq}(hx:Bb x=0)(hr:BR roots=0):∀(n:Nat) {dec:List Cd} {s:SS} {st:List (List Sk)},Ey x dec→IB roots dec→Fe x roots s→s.full=false→Qz x dec<n →
  Vz x roots (NC x roots n dec) dec s st (Da x roots n dec s st)
 |0,_,_,_,_,_,_,_,h=>by omega
 |n+1,dec,s,st,hd,bR,hs,hf,hn=>by
  unfold Da NC;cases e:(Gw roots dec).2 with
  |nil =>
   exact⟨hs,.refl s,fun h=>(by cases h),fun _=>⟨hf,[],[],by simp,by simp,Tc.1 e,rfl⟩⟩
  |cons n0 l =>
   have hN:=NK e;have next:∀c∈Co x (Gw roots dec).1,cA dec (n0::l) c=true→Ey x (dec++[c])∧IB roots (dec++[c])∧Qz x (dec++[c])<n:=fun c hc Gq=>by
    obtain⟨c1,c2⟩:=Jy hc;have hu:De dec c.rel.path=false:=by rw[c1];exact hN.undone
    obtain⟨k1,k2⟩:=OQ.1 Gq;exact⟨hd.snoc c2 hu,bR.snoc hN c1 k1 k2,by have:=Sq (dec:=dec) ⟨c2.1,c2.2.1⟩ hu;omega⟩
   exact Uv hx hr hd bR hN (Aa ..) (lv:=NC x roots n) (fun c hc Gq d jz=>UZ (next c hc Gq).1 (next c hc Gq).2.1 d jz)
    (fun c hc Gq s st hs hf=>PX hx hr n (next c hc Gq).1 (next c hc Gq).2.1 hs hf (next c hc Gq).2.2) _ [] rfl hs (fun y hy=>by cases hy) (fun _=>⟨fun y hy=>(by cases hy),rfl⟩)
theorem eG(x:List Rl)(dec:List Cd):Qz x dec≤x.length:=BD _ _
theorem cW{x:List Rl}{roots:List Rq}(hx:Bb x=0)(hr:BR roots=0):Vz x roots (NC x roots (x.length+1) []) [] sm [] (FA x roots) :=
 PX hx hr _ (.nil x) (.nil roots) (.nil x roots) rfl (by have:=eG x [];omega)
section
variable {x:List Rl}{roots:List Rq}{p:ByteArray}{needs:List Nd}{n0:Nd}{dec:List Cd}{st:List (List Sk)}
end
section
variable {x:List Rl}{roots:List Rq}{d:List (List Tm)}{i:Nf}
end
end Go.Eng
