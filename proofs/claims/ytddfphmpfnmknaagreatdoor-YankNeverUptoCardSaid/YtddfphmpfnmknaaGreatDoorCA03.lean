/- Lemmas for the claims of this seat, without a condition: part 3 (Q3, Q4, P15, Q5, Q6, Q7). -/
import Derived.Test.YtddfphmpfnmknaaGreatDoorCA02
namespace Go.Eng
theorem LO:∀{l:List Rq} {b:Option ByteArray},FP b l=0→∀q∈l,q.set≠[]∧ED q.set
 | [],_,_,q,hq=>by cases hq
 |r::l,b,h,q,hq=>by
  unfold FP at h;split at h
  ·rename_i e;rcases Av.1 hq with rfl | hq
   ·unfold GF at e
    by_cases h1:(CC q.path).isNone=true
    ·rw[Ao h1]at e;exact absurd e (by decide)
    rw[Ah h1]at e;cases hE:q.set.isEmpty with
    |true=>rw[hE]at e;simp at e
    |false =>
     cases hD:decide (q.set=canon q.set)with
     |false=>rw[hD]at e;simp at e
     |true =>
      have h3:q.set=canon q.set:=Bv hD;exact⟨by simpa using hE,by rw[h3];exact Cb _⟩
   ·exact LO h q hq
  ·rename_i e;exact absurd h e
theorem KW{l:List Rq}(h:BL l=0):∀q∈l,q.set≠[]∧ED q.set:=by
 unfold BL at h;split at h
 ·cases h
 ·exact LO h
abbrev Pi(k:Int):Ver:=⟨0,k / 1000,k % 1000⟩
theorem G1(k:Int):place (Pi k)=k:=by unfold place;show 1000*(k / 1000)+k % 1000=k;omega
theorem EY{k:Int}(h:0≤k∧k<1000000):Cr (Pi k)=true:=by
 unfold Cr okPart;simp only[Af];exact⟨⟨AA (by omega),AA (by omega)⟩,AA (by omega)⟩
structure WP(D:List Sl)(p:ByteArray)(S:List Sl):Prop where
 val:F5 S
 same:∀q,q≠p→B2 S q=B2 D q
abbrev Kc(D:List Sl)(p:ByteArray)(v:Ver):List Sl:=D++[⟨p,v⟩]
theorem J3(a b:List Sl)(p:ByteArray):B2 (a++b) p=(B2 a p).or (B2 b p):=by
 unfold B2;rw[List.find?_append]
theorem Ht{s:List Sl}{p:ByteArray}(h:Cu s p=false):B2 s p=none:=by
 rw[JK]at h;cases e:B2 s p with
 |none=>rfl
 |some y=>rw[e]at h;cases h
theorem WP.self{D:List Sl}{p:ByteArray}(h:F5 D):WP D p D:=⟨h,fun _ _=>rfl⟩
theorem WP.ver{D:List Sl}{p:ByteArray}(h:F5 D){v:Ver}(hv:Cr v=true):WP D p (Kc D p v):=by
 refine⟨fun y hy=>?_,fun q hq=>?_⟩
 ·rcases AU.1 hy with hy | hy
  ·exact h y hy
  ·rw[Am.1 hy];exact hv
 ·rw[J3]
  have:B2 [(⟨p,v⟩:Sl)] q=none:=by unfold B2;simp[Ne.symm hq]
  rw[this,Option.or_none]
theorem H5{D:List Sl}{p:ByteArray}(hp:Cu D p=false)(v:Ver):B2 (Kc D p v) p=some ⟨p,v⟩:=by
 rw[J3,Ht hp];unfold B2;simp
theorem QB{D:List Sl}{p:ByteArray}(hp:Cu D p=false){v v' : Ver}(hv:Cr v=true)(sQ : Cr v'=true)(e:place v=place v')(q:ByteArray)(t:Tm) :
  Da t (B2 (Kc D p v) q)=Da t (B2 (Kc D p v') q):=by
 by_cases hq:q=p
 ·subst hq;rw[H5 hp,H5 hp];show(Cr v&&has t.set (place v))=(Cr v'&&has t.set (place v'));rw[hv,sQ,e]
 ·have h1:∀w:Ver,B2 (Kc D p w) q=B2 D q:=fun w=>by
   rw[J3]
   have:B2 [(⟨p,w⟩:Sl)] q=none:=by unfold B2;simp[Ne.symm hq]
   rw[this,Option.or_none]
  rw[h1,h1]
theorem ZJ{D:List Sl}{p:ByteArray}(hp:Cu D p=false){v v' : Ver}(hv:Cr v=true)(sQ : Cr v'=true)(e:place v=place v')(t:List Tm):Bb t (Kc D p v)=Bb t (Kc D p v'):=by
 rw[BP,Bx,Bx];exact⟨fun h u hu=>by rw[←QB hp hv sQ e];exact h u hu,fun h u hu=>by rw[QB hp hv sQ e];exact h u hu⟩
theorem KO{D S S' : List Sl}{p:ByteArray}(h:WP D p S)(h' : WP D p S'){t:List Tm}(ht:∀u∈t,u.path≠p):Bb t S=Bb t S':=by
 rw[BP,Bx,Bx];exact⟨fun k u hu=>by rw[h'.same _ (ht u hu),←h.same _ (ht u hu)];exact k u hu,fun k u hu=>by rw[h.same _ (ht u hu),←h'.same _ (ht u hu)];exact k u hu⟩
theorem JF{t:List Tm}{p:ByteArray}(h:CR t p=false):∀u∈t,u.path≠p:=fun u hu e=>by
 unfold CR at h;rw[Gb]at h;exact h u hu (by simpa using e)
theorem Se{t:List Tm}{p:ByteArray}(h:CR t p=true):∃u∈t,u.path=p:=by
 unfold CR at h;rw[Ba]at h;obtain⟨u,hu,e⟩:=h;exact⟨u,hu,by simpa using e⟩
theorem TN{t:List Tm}{p:ByteArray}(hf:KQ t)(hc:CR t p=true):∃u r,Fm t p=some (u,r)∧u.path=p∧∀v∈r,v.path≠p:=by
 obtain⟨u,hu,e⟩:=Se hc;have hs:=EO hf;have nq:=(FB hs).1 hu;rw[e]at nq;refine⟨u,FH t p,?_,e,fun v hv=>?_⟩
 ·unfold Fm;rw[show CE t=some t from hf];dsimp only;rw[nq]
 ·have:=(BC.1 hv).2
  simpa using this
theorem Ww{D:List Sl}{p:ByteArray}{t b:List Tm}(fE:KQ t)(np:KQ b)(zG:CR t p=true)(uH:CR b p=true){S1 S2:List Sl}(h1:WP D p S1)(v1:Bb t S1=true)(h2:WP D p S2)(v2:Bb b S2=true) :
  (Bo t b p).2=0∧∀S,WP D p S→Bb t S=true∨Bb b S=true→Bb (Bo t b p).1 S=true:=by
 obtain⟨u,r,e1,pu,nr⟩:=TN fE zG;obtain⟨w,m,e2,pw,nm⟩:=TN np uH;have key:∀S,WP D p S→Bb t S=true∨Bb b S=true→Bb (r++m++[C3 u w]) S=true:=fun S hS hv=>by
  have r1:Bb r S=true:=by
   rw[KO hS h1 nr];rw[(FG h1.val e1).1,Af]at v1;exact v1.2
  have m1:Bb m S=true:=by
   rw[KO hS h2 nm];rw[(FG h2.val e2).1,Af]at v2;exact v2.2
  rw[GR,GR,r1,m1];simp only[Ed];rw[Bx];intro y hy;rw[Am.1 hy,show(C3 u w).path=p from pu,M8,Cj];rcases hv with hv | hv
  ·rw[(FG hS.val e1).1,Af]at hv;exact .inl hv.1
  ·rw[(FG hS.val e2).1,Af]at hv;exact .inr hv.1
 unfold Bo;rw[e1,e2];dsimp only;have c1:=CQ (l:=r++m++[C3 u w]) h1.val;rw[key S1 h1 (.inl v1)]at c1;cases hc:CE (r++m++[C3 u w])with
 |none=>rw[hc]at c1;cases c1
 |some o =>
  dsimp only;refine⟨rfl,fun S hS hv=>?_⟩;have c2:=CQ (l:=r++m++[C3 u w]) hS.val;rw[hc,key S hS hv]at c2;exact c2.symm
theorem gH{D:List Sl}{p:ByteArray}(hp:Cu D p=false){t:List Tm}(hf:KQ t)(h0:Bb t D=true)(hk:∀k:Int,0≤k→k<1000000→Bb t (Kc D p (Pi k))=true):CR t p=false:=by
 rw[AM];intro hc;obtain⟨u,hu,e⟩:=Se hc;have ha:u.absent=true:=by
  have:=Bx.1 h0 u hu
  rw[e,Ht hp]at this;exact this
 have hs:∀k:Int,0≤k→k<1000000→has u.set k=true:=fun k k0 k1=>by
  have:=Bx.1 (hk k k0 k1) u hu
  rw[e,H5 hp]at this;unfold Da at this;rw[Af]at this
  have:=this.2
  rw[show(⟨p,Pi k⟩:Sl).ver=Pi k from rfl,G1]at this;exact this
 have oZ:ED u.set:=B7.canon (EO hf) u hu;have XC:u.set=[(0,1000000)]:=by
  refine Hp oZ ⟨by decide,by decide,by decide,trivial⟩ fun k=>?_;rw[BP];constructor
  ·intro h
   have:=L0 h
   unfold has;simp[BH,this.1,this.2]
  ·intro h
   have:=L0 h
   exact hs k this.1 this.2
 have ux:Gs u=true:=by unfold Gs;rw[ha,XC];rfl
 have sE:CE t=some t:=hf;unfold CE at sE;split at sE
 ·cases sE
 ·have e2:=Cs sE;rw[←e2]at hu
  have:=(BC.1 hu).2
  rw[ux]at this;cases this
structure Ez(x:List Rl)(dec:List Cd):Prop where
 cand:∀c∈dec,c.rel∈x∧c.rel.yanked=false∧c.place=plc c.rel.ver
 nodup:(dec.map fun c=>c.rel.path).Nodup
theorem Ez.nil(x:List Rl):Ez x []:=⟨fun _ h=>(by cases h),E9⟩
theorem Tq{r:Rl}(h:RL r):r.path≠mt:=fun e=>by
 have:=h.maj
 rw[e]at this;have h2:CC mt=none:=by decide
 rw[h2]at this;cases this
theorem RL.set{r:Rl}(h:RL r):∀q∈r.reqs,q.set≠[]∧ED q.set:=KW h.reqs
theorem NJ(dec:List Cd):(AJ dec).map (·.path)=dec.map fun c=>c.rel.path:=by unfold AJ;rw[BB];rfl
theorem Nw:∀{D:List Sl},(D.map (·.path)).Nodup→∀{y:Sl},y∈D→B2 D y.path=some y
 | [],_,y,h=>by cases h
 |z::D,hn,y,h=>by
  simp only[AH,CI]at hn;unfold B2;rw[EK];rcases Av.1 h with rfl | h
  ·rw[AA rfl]
  ·have:z.path≠y.path:=fun e=>hn.1 (Aj.2 ⟨y,h,e.symm⟩)
   rw[Ay this];exact Nw hn.2 h
theorem Ez.find{x:List Rl}{dec:List Cd}(h:Ez x dec){c:Cd}(hc:c∈dec):B2 (AJ dec) c.rel.path=some (SV c) :=
 Nw (by rw[NJ];exact h.nodup) (y:=SV c) (Aj.2 ⟨c,hc,rfl⟩)
theorem Ez.valid{x:List Rl}(hx:AT x=0){dec:List Cd}(h:Ez x dec):F5 (AJ dec):=fun y hy=>by
 obtain⟨c,hc,rfl⟩:=Aj.1 hy;exact((Cp hx).1 _ (h.cand c hc).1).val
theorem Ez.snoc{x:List Rl}{dec:List Cd}(h:Ez x dec){c:Cd}(hc:c.rel∈x∧c.rel.yanked=false∧c.place=plc c.rel.ver)(hd:CA dec c.rel.path=false):Ez x (dec++[c]):=by
 refine⟨fun d hd=>?_,?_⟩
 ·rcases AU.1 hd with hd | hd
  ·exact h.cand d hd
  ·rw[Am.1 hd];exact hc
 ·rw[Ax,Gc];refine⟨h.nodup,by simp,fun a ha b hb e=>?_⟩;obtain⟨d,jQ,rfl⟩:=Aj.1 ha;simp only[AH,E1,Am]at hb;unfold CA at hd;rw[Gb]at hd;exact hd d jQ (by simpa using e.trans hb)
theorem Md{roots:List Rq}{E:List Cd}{n:Nd}(h:n∈Di roots E):(∃k q,roots[k]?=some q∧n=⟨q,mt,0,(k:Nat)⟩)∨∃c∈E,∃k q,c.rel.reqs[k]?=some q∧n=⟨q,c.rel.path,c.place,(k:Nat)⟩:=by
 unfold Di at h;rcases AU.1 h with h | h
 ·obtain⟨k,q,h1,h2⟩:=X4 h;exact .inl ⟨k,q,h1,h2⟩
 ·obtain⟨l,hl,hn⟩:=DY.1 h;obtain⟨c,hc,rfl⟩:=Aj.1 hl;obtain⟨k,q,h1,h2⟩:=X4 hn;exact .inr ⟨c,hc,k,q,h1,h2⟩
theorem NN{roots:List Rq}{dec:List Cd}{c:Cd}{n:Nd}(h:n∈Di roots dec):n∈Di roots (dec++[c]):=by
 unfold Di at *
 rw[Ax,Cv,←BI];exact Bn _ h
theorem MI{roots:List Rq}{dec:List Cd}{c:Cd}{n:Nd}(h:n∈PR c):n∈Di roots (dec++[c]):=by
 unfold Di;rw[Ax,Cv,←BI];exact Bf _ (by simpa using h)
def MW(n:Nd):List Tm:=if n.path=mt then [Dw n.rq]else [⟨n.path,false,[(n.place,n.place+1)]⟩,Dw n.rq]
theorem OJ(n:Nd):Hx n=PM (MW n):=by unfold Hx MW Jp Ei;split<;>rfl
theorem aS{s:Bg}(h:s≠[])(hc:ED s):∃k,has s k=true:=by
 match s,h,hc with
 |x::r,_,hc =>
  have:=EH.low hc x (Ab ..)
  refine⟨x.1,?_⟩;unfold has;have h1:BH x.1 x=true:=DD.2 ⟨BO _,this.2.1⟩;simp only[B8,h1,Bool.true_or,Bool.and_true,Af,As];omega
theorem QO{q:Rq}{o:Option Sl}(h:o=none∨∃y,o=some y∧Cr y.ver=true∧has q.set (place y.ver)=false):Da (Dw q) o=true:=by
 rcases h with rfl | ⟨y,rfl,hv,hq⟩
 ·rfl
 ·show(Cr y.ver&&has (Ej q.set) (place y.ver))=true
  have:=Jn hv
  rw[hv,FC,hq];unfold LD;simp[this.1,this.2]
theorem To{q:Rq}{y:Sl}(hq:has q.set (place y.ver)=true):Da (Dw q) (some y)=false:=by
 show(Cr y.ver&&has (Ej q.set) (place y.ver))=false;rw[FC,hq];simp
structure pm(x:List Rl)(roots:List Rq)(S:List Sl)(n:Nd):Prop where
 inf:∀d,DP x roots d (MV n)=some (Hx n)
 viol:Bb (Hx n) S=true
 raw:∀S',F5 S'→Bb (Hx n) S'=Bb (MW n) S'
 form:KQ (Hx n)
 inU:∀U:List ByteArray,(n.path≠mt→n.path∈U)→n.rq.path∈U→Ul U (Hx n)
 path:n.path≠mt→Cu S n.path=true
theorem Rp{x:List Rl}{roots:List Rq}(hx:AT x=0)(hr:BL roots=0){E:List Cd}(hE:Ez x E){n:Nd}(hn:n∈Di roots E)
  (hv:B2 (AJ E) n.rq.path=none∨∃y,B2 (AJ E) n.rq.path=some y∧has n.rq.set (place y.ver)=false):pm x roots (AJ E) n:=by
 have hV:=hE.valid hx;have fM:Da (Dw n.rq) (B2 (AJ E) n.rq.path)=true:=QO (hv.imp id fun⟨y,h1,h2⟩=>⟨y,h1,hV y (Jb h1),h2⟩)
 -- the raw list is Bb here,and not elsewhere
 have ND:n.rq.set≠[]∧ED n.rq.set:=by
  rcases Md hn with ⟨k,q,h1,rfl⟩ | ⟨c,hc,k,q,h1,rfl⟩
  ·exact KW hr q (Ar h1)
  ·exact((Cp hx).1 _ (hE.cand c hc).1).set q (Ar h1)
 have Wg:Bb (MW n) (AJ E)=true∧(n.path≠mt→Cu (AJ E) n.path=true):=by
  rcases Md hn with ⟨k,q,h1,rfl⟩ | ⟨c,hc,k,q,h1,rfl⟩
  ·refine⟨?_,fun h=>absurd rfl h⟩;unfold MW;rw[Ao rfl,Bx];intro u hu;rw[Am.1 hu];exact fM
  ·have Dr:=Tq ((Cp hx).1 _ (hE.cand c hc).1);refine⟨?_,fun _=>by rw[JK,hE.find hc];rfl⟩;unfold MW;rw[Ah Dr,Bx];intro u hu;rcases Av.1 hu with rfl | hu
   ·show Da _ (B2 (AJ E) c.rel.path)=true;rw[hE.find hc];show(Cr c.rel.ver&&has [(c.place,c.place+1)] (place c.rel.ver))=true;have Gv:=(Cp hx).1 _ (hE.cand c hc).1;have hp:=Jn Gv.val;rw[Gv.val,(hE.cand c hc).2.2,Gv.plc];unfold has;simp[BH,hp.1,hp.2];omega
   ·rw[Am.1 hu];exact fM
 have u6:∃S',F5 S'∧Bb (MW n) S'=false:=by
  unfold MW;split
  ·obtain⟨k,hk⟩:=aS ND.1 ND.2;have iW:=L0 hk;refine⟨[⟨n.rq.path,Pi k⟩],fun y hy=>by rw[Am.1 hy];exact EY iW,?_⟩;rw[AM];intro h
   have:=Bx.1 h (Dw n.rq) (Am.2 rfl)
   rw[show(Dw n.rq).path=n.rq.path from rfl,show B2 [(⟨n.rq.path,Pi k⟩:Sl)] n.rq.path=some ⟨n.rq.path,Pi k⟩ by unfold B2;simp,To (by rw[show(⟨n.rq.path,Pi k⟩:Sl).ver=Pi k from rfl,G1];exact hk)]at this;cases this
  ·refine⟨[],fun y hy=>(by cases hy),?_⟩;rw[AM];intro h
   have:=Bx.1 h _ (Ab ..)
   cases this
 obtain⟨Wg,qP⟩:=Wg;have Dr:PM (MW n)≠[]:=by
  obtain⟨S',v',n'⟩:=u6;have c1:=CQ (l:=MW n) hV;have c2:=CQ (l:=MW n) v';unfold PM;cases hc:CE (MW n)with
  |none=>rw[hc,Wg]at c1;cases c1
  |some c =>
   rw[hc,n']at c2;intro e;have e:c=[]:=e;rw[e]at c2;cases c2
 have lO:∀S',F5 S'→Bb (Hx n) S'=Bb (MW n) S':=fun S' v=>by rw[OJ];exact PN v Dr
 refine⟨fun d=>?_,by rw[lO _ hV];exact Wg,lO,by rw[OJ];exact Mf _,fun U h1 h2=>?_,qP⟩
 ·rcases Md hn with ⟨k,q,h1,rfl⟩ | ⟨c,hc,k,q,h1,rfl⟩
  ·show DP x roots d (if(mt:ByteArray)=mt then⟨0,mt,0,(k:Nat),0,0⟩else _)=some (if(mt:ByteArray)=mt then Jp q else _);rw[Ao rfl,Ao rfl];show(if mt=mt∧(0:Int)=0∧(0:Int)=0∧(0:Int)=0 then(Jl roots (k:Nat)).map Jp else none)=some (Jp q);rw[Ao ⟨rfl,rfl,rfl,rfl⟩];unfold Jl;rw[Ah (by omega),Ch,h1];rfl
  ·have Gv:=(Cp hx).1 _ (hE.cand c hc).1;have TT:=Tq Gv;have vu:OX x c.rel.path c.place=some c.rel:=by
    unfold OX;cases hf:x.find? fun r=>decide (r.path=c.rel.path)&&decide (plc r.ver=c.place)with
    |none =>
     rw[DQ]at hf;exact absurd (by simp[(hE.cand c hc).2.2]) (hf c.rel (hE.cand c hc).1)
    |some r =>
     have h2:=EL hf;simp only[Af,As]at h2;have fO:=Ce hf;have vf:=(Cp hx).1 r fO;rw[aP (Cp hx) fO (hE.cand c hc).1 h2.1 (by rw[←vf.plc,h2.2,(hE.cand c hc).2.2,Gv.plc])]
   have e1:MV ⟨q,c.rel.path,c.place,(k:Nat)⟩=⟨1,c.rel.path,c.place,(k:Nat),0,0⟩:=by unfold MV;rw[Ah TT]
   have e2:Hx ⟨q,c.rel.path,c.place,(k:Nat)⟩=Ei c.rel.path c.place q:=by unfold Hx;rw[Ah TT]
   rw[e1,e2];unfold DP;rw[Ah (show ¬((1:Int)=0) by decide),Ao rfl,Ao ⟨rfl,rfl⟩];dsimp only;rw[vu];dsimp only;unfold Jl;rw[Ah (by omega),Ch,h1];dsimp only;unfold cB;rw[Ah];rw[GI,←e2,OJ];exact Dr
 ·rw[OJ];refine Tn fun u hu=>?_;unfold MW at hu;split at hu
  ·rw[Am.1 hu];exact h2
  ·rename_i hm;rcases Av.1 hu with rfl | hu
   ·exact h1 hm
   ·rw[Am.1 hu];exact h2
structure jf(D:List Sl)(U:List ByteArray)(p:ByteArray)(t:List Tm)(C:Int→Prop):Prop where
 form:KQ t
 inU:Ul U t
 conc:CR t p=true
 one:∃S,WP D p S∧Bb t S=true
 cov:∀k:Int,0≤k→k<1000000→C k→Bb t (Kc D p (Pi k))=true
structure mh(D:List Sl)(U:List ByteArray)(p:ByteArray)(t:List Tm)(C:Int→Prop):Prop where
 form:KQ t
 inU:Ul U t
 none_:Bb t D=true
 cov:∀k:Int,0≤k→k<1000000→C k→Bb t (Kc D p (Pi k))=true
theorem Fo.forms{x:List Rl}{roots:List Rq}{s:SS}(h:Fo x roots s):∀k,KQ (Dt s k):=fun k=>by
 unfold Dt;rw[BR];cases e:s.drv[k]? with
 |none=>exact Oz
 |some t=>exact M0 (fun _ h=>by cases h) h.der t (Ar e)
theorem UT{x:List Rl}{roots:List Rq}{d:List (List Tm)}{k r:Nat}{p:ByteArray}(hk:k<d.length)(hr:r<d.length)(h0:(Bo (d.getD k []) (d.getD r []) p).2=0) :
  DP x roots d ⟨3,p,0,0,(k:Nat),(r:Nat)⟩=some (Bo (d.getD k []) (d.getD r []) p).1:=by
 have e:∀j:Nat,j<d.length→Jl d (j:Nat)=some (d.getD j []):=fun j hj=>by
  unfold Jl;rw[Ah (by omega),Ch,BR,At hj];rfl
 unfold DP;rw[Ah (show ¬((3:Int)=0) by decide),Ah (show ¬((3:Int)=1) by decide),Ah (show ¬((3:Int)=2) by decide),Ao rfl,Ao ⟨rfl,rfl⟩];dsimp only;rw[e k hk,e r hr];dsimp only;rw[Ao h0]
theorem NK{x:List Rl}{roots:List Rq}{D:List Sl}{U:List ByteArray}{p:ByteArray}(hD:F5 D):∀(l:List (Nat×(Int→Prop))) {k:Nat} {s:SS} {C:Int→Prop},Fo x roots s→k<s.drv.length→(∀y∈l,y.1<s.drv.length) →
  (s.full=false→mh D U p (Dt s k) C∧∀y∈l,jf D U p (Dt s y.1) y.2) →
  Fo x roots (B4 p (l.map (·.1)) k s).2∧Grow s (B4 p (l.map (·.1)) k s).2∧(B4 p (l.map (·.1)) k s).1<(B4 p (l.map (·.1)) k s).2.drv.length ∧
  ((B4 p (l.map (·.1)) k s).2.full=false→∃C',mh D U p (Dt (B4 p (l.map (·.1)) k s).2 (B4 p (l.map (·.1)) k s).1) C' ∧
   (CR (Dt (B4 p (l.map (·.1)) k s).2 (B4 p (l.map (·.1)) k s).1) p=false∨∀j,C j∨(∃y∈l,y.2 j)→C' j))
 | [],k,s,C,hd,hk,_,hA=>⟨hd,.refl s,hk,fun hf=>⟨C,(hA hf).1,.inr fun j hj=>hj.elim id fun⟨y,hy,_⟩=>(by cases hy)⟩⟩
 |y::l,k,s,C,hd,hk,hl,hA=>by
  rw[AH]
  by_cases h1:s.full=true∨CR (Dt s k) p=false
  ·have e:B4 p (y.1::l.map (·.1)) k s=(k,s):=by unfold B4;rw[Ao h1]
   rw[e];refine⟨hd,.refl s,hk,fun hf=>⟨C,(hA hf).1,.inl (h1.resolve_left fun e=>?_)⟩⟩;have hf:s.full=false:=hf;rw[e]at hf;cases hf
  simp only[not_or,Bool.not_eq_true,Bool.not_eq_false]at h1;obtain⟨hf,TS⟩:=h1;obtain⟨jJ,ui⟩:=hA hf;have hy:=ui y (Ab ..);have hi:¬(s.full=true∨CR (Dt s k) p=false):=by rw[hf,TS];simp
  by_cases h2:y.1=k
  ·have e:B4 p (y.1::l.map (·.1)) k s=B4 p (l.map (·.1)) k s:=by conv=>lhs;unfold B4;rw[Ah hi,Ao h2]
   rw[e];have zf : mh D U p (Dt s k) fun j=>C j∨y.2 j:=⟨jJ.form,jJ.inU,jJ.none_,fun j j0 j1 hj=>hj.elim (jJ.cov j j0 j1) fun h=>by rw[←h2];exact hy.cov j j0 j1 h⟩;obtain⟨i1,i2,i3,i4⟩:=NK hD l hd hk (fun z hz=>hl z (Ag _ hz)) (fun _=>⟨zf,fun z hz=>ui z (Ag _ hz)⟩);refine⟨i1,i2,i3,fun hf=>?_⟩;obtain⟨C',j1,j2⟩:=i4 hf;refine⟨C',j1,j2.imp id fun h j hj=>h j ?_⟩;rcases hj with hj | ⟨z,hz,hj⟩
   ·exact .inl (.inl hj)
   ·rcases Av.1 hz with rfl | hz
    ·exact .inl (.inr hj)
    ·exact .inr ⟨z,hz,hj⟩
  ·obtain⟨S2,o2,v2⟩:=hy.one;obtain⟨r1,r2⟩:=Ww jJ.form hy.form TS hy.conc (.self hD) jJ.none_ o2 v2;have e:B4 p (y.1::l.map (·.1)) k s=B4 p (l.map (·.1)) (DK s ⟨3,p,0,0,k,y.1⟩ (Bo (Dt s k) (Dt s y.1) p).1).1 (DK s ⟨3,p,0,0,k,y.1⟩ (Bo (Dt s k) (Dt s y.1) p).1).2:=by
    conv=>lhs;unfold B4;rw[Ah hi,Ah h2,Ah (fun h=>h r1)]
   rw[e];have hy1:=hl y (Ab ..);obtain⟨a1,a2,a3⟩:=Kn hd (UT (x:=x) (roots:=roots) hk hy1 r1);have hg:=Ko s ⟨3,p,0,0,(k:Nat),(y.1:Nat)⟩ (Bo (Dt s k) (Dt s y.1) p).1;generalize WK : DK s ⟨3,p,0,0,(k:Nat),(y.1:Nat)⟩ (Bo (Dt s k) (Dt s y.1) p).1=s' at *
   have a3:s'.2.full=false→Dt s'.2 s'.1=(Bo (Dt s k) (Dt s y.1) p).1:=a3;obtain⟨i1,i2,i3,i4⟩:=NK hD (C:=fun j=>C j∨y.2 j) l a1 a2 (fun z hz=>Bu (hl z (Ag _ hz)) hg.len) (fun XA=>by
    refine⟨?_,fun z hz=>by rw[hg.at (hl z (Ag _ hz))];exact ui z (Ag _ hz)⟩;rw[a3 XA];exact⟨Nj _ _ _,QR jJ.inU hy.inU,r2 D (.self hD) (.inl jJ.none_),fun j j0 j1 hj=>r2 _ (.ver hD (EY ⟨j0,j1⟩)) (hj.imp (jJ.cov j j0 j1) (hy.cov j j0 j1))⟩)
   refine⟨i1,hg.trans i2,i3,fun hf=>?_⟩;obtain⟨C',j1,j2⟩:=i4 hf;refine⟨C',j1,j2.imp id fun h j hj=>h j ?_⟩;rcases hj with hj | ⟨z,hz,hj⟩
   ·exact .inl (.inl hj)
   ·rcases Av.1 hz with rfl | hz
    ·exact .inl (.inr hj)
    ·exact .inr ⟨z,hz,hj⟩
def Ij(roots:List Rq)(dec:List Cd):Prop:=∀q∈HH roots dec,∀d∈dec,d.rel.path=q.path→has q.set d.place=true
theorem Ij.nil(roots:List Rq):Ij roots []:=fun _ _ d h=>by cases h
theorem Zz(roots:List Rq)(dec:List Cd)(c:Cd):HH roots (dec++[c])=HH roots dec++c.rel.reqs:=by
 unfold HH;rw[Ax,Cv,BI];simp
theorem kP(c:Cd):(PR c).map (·.rq)=c.rel.reqs:=Rw (fun _ _=>rfl) _ _
theorem YP{dec:List Cd}{c:Cd}(h:D2 dec c=none):∀q∈c.rel.reqs,∀d∈dec++[c],d.rel.path=q.path→has q.set d.place=true:=fun q hq d hd e=>by
 rw[←kP]at hq;obtain⟨n,hn,rfl⟩:=Aj.1 hq;unfold D2 at h;rw[DQ]at h
 have:=h n hn
 unfold az at this;rw[Bool.not_eq_true,Gb]at this
 have:=this d hd
 rw[e]at this;simpa using this
theorem KX{dec:List Cd}{c:Cd}{n:Nd}(h:D2 dec c=some n):n∈PR c∧∃d∈dec++[c],d.rel.path=n.rq.path∧has n.rq.set d.place=false:=by
 unfold D2 at h;have h1:=EL h;refine⟨Ce h,?_⟩;unfold az at h1;rw[Ba]at h1;obtain⟨d,hd,e⟩:=h1;simp only[Af,As,CG]at e;exact⟨d,hd,e⟩
theorem Ij.snoc{roots:List Rq}{dec:List Cd}(h:Ij roots dec){p:ByteArray}{needs:List Nd}(hN:oO roots dec p needs){c:Cd}(hc:c.rel.path=p)(hn:∀n∈needs,has n.rq.set c.place=true)(hk:D2 dec c=none):Ij roots (dec++[c]):=by
 intro q hq d hd e;rw[Zz]at hq;rcases AU.1 hq with hq | hq
 ·rcases AU.1 hd with hd | hd
  ·exact h q hq d hd e
  ·rw[Am.1 hd]at e⊢;rw[←MH]at hq;obtain⟨n,XF,rfl⟩:=Aj.1 hq;exact hn n ((hN.mem n).2 ⟨XF,by rw[←e,hc]⟩)
 ·exact YP hk q hq d hd e
def Ug(y:Sl):List Sl→List Sl
 | []=>[y]
 |z::l=>if Ew y.path z.path then y::z::l else z::Ug y l
def FF:List Sl→List Sl
 | []=>[]
 |y::l=>Ug y (FF l)
theorem SQ{y z:Sl}:∀{l:List Sl},z∈Ug y l↔z=y∨z∈l
 | []=>by simp[Ug]
 |u::l=>by
  unfold Ug;split
  ·simp
  ·rw[Av,SQ,Av];constructor
   ·rintro(h | h | h)
    ·exact .inr (.inl h)
    ·exact .inl h
    ·exact .inr (.inr h)
   ·rintro(h | h | h)
    ·exact .inr (.inl h)
    ·exact .inl h
    ·exact .inr (.inr h)
theorem F1{z:Sl}:∀{l:List Sl},z∈FF l↔z∈l
 | []=>by simp[FF]
 |u::l=>by unfold FF;rw[SQ,F1,Av]
theorem XM{y:Sl}:∀{l:List Sl},Vw l→(∀z∈l,z.path≠y.path)→Vw (Ug y l)
 | [],_,_=>by simp[Ug,Vw]
 |u::l,h,hn=>by
  obtain⟨h1,h2⟩:=BF.1 h;unfold Ug;split
  ·rename_i hb;refine BF.2 ⟨fun z hz=>?_,h⟩;rcases Av.1 hz with rfl | hz
   ·exact hb
   ·exact DR hb (h1 z hz)
  ·rename_i hb;refine BF.2 ⟨fun z hz=>?_,XM h2 fun z hz=>hn z (Ag _ hz)⟩;rcases SQ.1 hz with rfl | hz
   ·cases e:Ew u.path z.path with
    |true=>rfl
    |false =>
     have hb:Ew z.path u.path=false:=by simpa using hb
     exact absurd (Ho e hb) (hn u (Ab ..))
   ·exact h1 z hz
theorem P0:∀{l:List Sl},(l.map (·.path)).Nodup→Vw (FF l)
 | [],_=>List.Pairwise.nil
 |y::l,h=>by
  simp only[AH,CI]at h;exact XM (P0 h.2) fun z hz e=>h.1 (Aj.2 ⟨z,F1.1 hz,e⟩)
theorem SN:∀{l:List Sl} {b:Option ByteArray},Vw l→(∀c,b=some c→∀y∈l,Ew c y.path=true)→SM b l=true
 | [],_,_,_=>by unfold SM;rfl
 |y::l,b,h,hb=>by
  obtain⟨h1,h2⟩:=BF.1 h;unfold SM;cases b with
  |none=>simpa using SN h2 fun c e z hz=>by cases e;exact h1 z hz
  |some c =>
   have:=hb c rfl y (Ab ..)
   simp only[this,Ed];exact SN h2 fun c e z hz=>by cases e;exact h1 z hz
theorem fW{l:List Sl}(h:Vw l):FS l=true:=SN h fun _ e=>by cases e
theorem Kv{x:List Rl}(hx:AT x=0){r:Rl}(hr:r∈x):Es x (Fk r)=some r:=by
 unfold Es;rw[Ah (fun h=>h hx)];cases h:x.find? fun s=>decide (Fk s=Fk r)with
 |none =>
  rw[DQ]at h;exact absurd (by simp) (h r hr)
 |some s =>
  have h1:=EL h;simp only[As]at h1;rw[SW (Cp hx).2 (Ce h) hr h1]
theorem Ez.sorted{x:List Rl}{dec:List Cd}(h:Ez x dec):Vw (FF (AJ dec)):=P0 (by rw[NJ];exact h.nodup)
theorem Ez.findS{x:List Rl}{dec:List Cd}(h:Ez x dec){c:Cd}(hc:c∈dec):B2 (FF (AJ dec)) c.rel.path=some (SV c) :=
 M5 h.sorted (y:=SV c) (F1.2 (Aj.2 ⟨c,hc,rfl⟩))
theorem gn{x:List Rl}{roots:List Rq}(hx:AT x=0){dec:List Cd}(h:Ez x dec)(hs:Ij roots dec)(hl:KC (HH roots dec) (AJ dec)=none):mn x roots (FF (AJ dec)):=by
 have GM:∀q∈HH roots dec,∃y,B2 (FF (AJ dec)) q.path=some y∧has q.set (place y.ver)=true:=fun q hq=>by
  have:=Zk hl q hq
  rw[K7]at this;obtain⟨y,hy,e⟩:=this;obtain⟨d,hd,rfl⟩:=Aj.1 hy;have e:d.rel.path=q.path:=e;refine⟨SV d,by rw[←e];exact h.findS hd,?_⟩;have h1:=hs q hq d hd e;have Gv:=(Cp hx).1 _ (h.cand d hd).1;rw[(h.cand d hd).2.2,Gv.plc]at h1;exact h1
 refine⟨hx,fW h.sorted,fun y hy=>?_,fun q hq=>GM q (Bn _ hq),fun y hy r hr q hq=>?_⟩
 ·obtain⟨d,hd,rfl⟩:=Aj.1 (F1.1 hy);exact⟨d.rel,Kv hx (h.cand d hd).1,(h.cand d hd).2.1⟩
 ·obtain⟨d,hd,rfl⟩:=Aj.1 (F1.1 hy)
  have:Es x (SV d)=some d.rel:=Kv hx (h.cand d hd).1
  rw[this]at hr;cases hr;exact GM q (Bf _ (DY.2 ⟨_,Aj.2 ⟨d,hd,rfl⟩,hq⟩))
def Yw(dec:List Cd)(needs:List Nd)(c:Cd):Bool:=(needs.all fun n=>has n.rq.set c.place)&&(D2 dec c).isNone
def Ea(x:List Rl)(roots:List Rq):Nat→List Cd→List (List Cd)
 |0,_=>[]
 |n+1,dec=>match(Eu roots dec).2 with
  | []=>[dec]
  |n0::l=>((BJ x (Eu roots dec).1).map fun c=>if Yw dec (n0::l) c then Ea x roots n (dec++[c])else []).flatten
structure Lf(x:List Rl)(roots:List Rq)(dec d:List Cd):Prop where
 pre:dec <+: d
 ok:Ez x d
 sat:Ij roots d
 stop:KC (HH roots d) (AJ d)=none
theorem IS{x:List Rl}{p:ByteArray}{c:Cd}(h:c∈BJ x p):c.rel.path=p∧(c.rel∈x∧c.rel.yanked=false∧c.place=plc c.rel.ver):=by
 obtain⟨r,h1,h2,h3,rfl⟩:=KT.1 h;exact⟨h2,h1,h3,rfl⟩
theorem OV{dec:List Cd}{needs:List Nd}{c:Cd}:Yw dec needs c=true↔(∀n∈needs,has n.rq.set c.place=true)∧D2 dec c=none:=by
 unfold Yw;rw[Af,Bk,Option.isNone_iff_eq_none]
theorem Ky{x:List Rl}{roots:List Rq}:∀{n:Nat} {dec:List Cd},Ez x dec→Ij roots dec→∀d∈Ea x roots n dec,Lf x roots dec d
 |0,_,_,_,d,hd=>by cases hd
 |n+1,dec,h,hs,d,hd=>by
  unfold Ea at hd;split at hd
  ·rename_i e;rw[Am.1 hd];exact⟨MR,h,hs,Tg.1 e⟩
  ·rename_i n0 l e;have hN:=La e;obtain⟨L,hL,hd⟩:=DY.1 hd;obtain⟨c,hc,rfl⟩:=Aj.1 hL;split at hd
   ·rename_i Gv;obtain⟨h1,h2⟩:=OV.1 Gv;obtain⟨c1,c2⟩:=IS hc;have bY:CA dec c.rel.path=false:=by rw[c1];exact hN.undone
    have:=Ky (n:=n) (h.snoc c2 bY) (hs.snoc hN c1 h1 h2) d hd
    exact⟨(Jw _ _).trans this.pre,this.ok,this.sat,this.stop⟩
   ·cases hd
theorem Lf.sol{x:List Rl}{roots:List Rq}(hx:AT x=0){dec d:List Cd}(h:Lf x roots dec d):mn x roots (FF (AJ d)):=gn hx h.ok h.sat h.stop
theorem kr{x:List Rl}{roots:List Rq}(hx:AT x=0){s:SS}(hd:Fo x roots s){k:Nat}(hk:k<s.drv.length){dec d:List Cd}(he:Cq (Dt s k) (AJ dec)=true)(h:Lf x roots dec d):False:=by
 have hS:=h.sol hx;have hv:=VR (s:=FF (AJ d)) hS.inc (fun y hy=>F1.2 (by
  obtain⟨c,hc,rfl⟩:=Aj.1 hy;obtain⟨t,e⟩:=h.pre;exact Aj.2 ⟨c,by rw[←e];exact Bn _ hc,rfl⟩)) he
 have hn:=Ja hS (d:=[]) (fun _ h=>by cases h) hd.der (Dt s k) (by
  unfold Dt;rw[BR,At hk];exact AC hk)
 rw[hv]at hn;cases hn
theorem nP{x:List Rl}(h:AT x=0):x.length≤256:=by
 unfold AT at h;split at h
 ·cases h
 ·omega
theorem fA{l:List Rl}{k:Int}:(l.map fun r=>(plc r.ver,plc r.ver+1)).any (BH k)=true↔∃r∈l,plc r.ver=k:=by
 rw[Ba];constructor
 ·rintro⟨y,hy,h⟩
  obtain⟨r,hr,rfl⟩:=Aj.1 hy
  have:=DD.1 h
  exact⟨r,hr,by have h1:=this.1;have h2:=this.2;dsimp only at h1 h2;omega⟩
 ·rintro⟨r,hr,rfl⟩
  exact⟨_,Aj.2 ⟨r,hr,rfl⟩,DD.2 ⟨BO _,by dsimp only;omega⟩⟩
theorem Uw{x:List Rl}(hx:AT x=0){p:ByteArray}{k:Int}:has (B1 x p) k=true↔∃c∈BJ x p,c.place=k:=by
 unfold B1;rw[G7];unfold has Kb;rw[Ah (fun h=>h hx)];simp only[Af,As];rw[fA];constructor
 ·rintro⟨_,r,hr,rfl⟩
  simp only[BC,As,CG]at hr;exact⟨⟨plc r.ver,r⟩,KT.2 ⟨r,hr.1.1,hr.1.2,hr.2,rfl⟩,rfl⟩
 ·rintro⟨c,hc,rfl⟩
  obtain⟨r,h1,h2,h3,rfl⟩:=KT.1 hc;have Gv:=(Cp hx).1 r h1
  have:=Jn Gv.val
  rw[←Gv.plc]at this;refine⟨⟨this.1,this.2⟩,r,?_,rfl⟩;simp only[BC,As,CG];exact⟨⟨h1,h2⟩,h3⟩
theorem aY{x:List Rl}(hx:AT x=0)(p:ByteArray):∃k:Int,0≤k∧k<1000000∧has (B1 x p) k=false:=by
 apply AW;intro hn;have GM:∀k∈(List.range 257).map fun i:Nat=>(i:Int),k∈x.map fun r=>plc r.ver:=by
  intro k hk;obtain⟨i,hi,rfl⟩:=Aj.1 hk;have hi:=List.mem_range.1 hi;have hh:has (B1 x p) (i:Int)=true:=by
   cases e:has (B1 x p) (i:Int)with
   |true=>rfl
   |false=>exact absurd ⟨(i:Int),by omega,by omega,e⟩ hn
  obtain⟨c,hc,e⟩:=(Uw hx).1 hh;obtain⟨r,h1,_,_,rfl⟩:=KT.1 hc;exact Aj.2 ⟨r,h1,e⟩
 have:=Ie (Qo.2 (List.nodup_range.imp fun h e=>h (Int.ofNat.inj e))) GM
 rw[A4,A4,Qn]at this
 have:=nP hx
 omega
theorem K8(dec:List Cd)(c:Cd):AJ (dec++[c])=Kc (AJ dec) c.rel.path c.rel.ver:=by unfold AJ Kc;rw[Ax];rfl
theorem K4{t:List Tm}{S:List Sl}:Cq t S=true↔Bb t S=true∧∀u∈t,Cu S u.path=true:=by
 unfold Cq;rw[Af,CG,Gb];simp
section
variable {x:List Rl}{roots:List Rq}{dec:List Cd}{p:ByteArray}{needs:List Nd}
abbrev Zq(p:ByteArray)(dec:List Cd):List ByteArray:=p::(AJ dec).map (·.path)
theorem jy{c:Cd}{t:List Tm}(hf:KQ t)(he:Cq t (AJ (dec++[c]))=true):Ul (Zq c.rel.path dec) t:=by
 refine⟨EO hf,fun u hu=>?_⟩
 have:=(K4.1 he).2 u hu
 rw[G6,K8,Ax]at this;rcases AU.1 this with h | h
 ·exact Ag _ h
 ·rw[AH,E1,Am]at h;rw[h];exact Ab ..
theorem eQ(hx:AT x=0)(hd:Ez x dec){c:Cd}(hc:c.rel∈x){t:List Tm}(he:Cq t (AJ (dec++[c]))=true)(hn:CR t c.rel.path=false):Cq t (AJ dec)=true:=by
 obtain⟨h1,h2⟩:=K4.1 he;have Dr:=JF hn;rw[K8]at h1 h2;refine K4.2 ⟨?_,fun u hu=>?_⟩
 ·rw[KO (.self (hd.valid hx)) (.ver (hd.valid hx) ((Cp hx).1 _ hc).val) Dr];exact h1
 ·have:=h2 u hu
  rw[SB,Cj]at this;rcases this with h | h
  ·exact h
  ·rw[K7]at h;obtain⟨y,hy,e⟩:=h;rw[Am.1 hy]at e;exact absurd e.symm (Dr u hu)
theorem dj(hx:AT x=0)(hd:Ez x dec){c:Cd}(hc:c.rel∈x∧c.rel.yanked=false∧c.place=plc c.rel.ver)(hu:CA dec c.rel.path=false){t:List Tm}(hf:KQ t)(he:Cq t (AJ (dec++[c]))=true)(hn:CR t c.rel.path=true) :
  jf (AJ dec) (Zq c.rel.path dec) c.rel.path t fun k=>k=c.place:=by
 have Gv:=(Cp hx).1 _ hc.1;have hV:=hd.valid hx;have h1:=(K4.1 he).1;rw[K8]at h1;refine⟨hf,jy hf he,hn,⟨_,.ver hV Gv.val,h1⟩,fun k k0 k1 e=>?_⟩;subst e;rw[ZJ (by rw[FR];exact hu) (EY ⟨k0,k1⟩) Gv.val (by rw[G1,hc.2.2,Gv.plc])];exact h1
theorem OP(hx:AT x=0)(hr:BL roots=0){E:List Cd}(hE:Ez x E){n:Nd}(hn:n∈Di roots E)(hv:∃d∈E,d.rel.path=n.rq.path∧has n.rq.set d.place=false) :
  (∀d,DP x roots d (MV n)=some (Hx n))∧Cq (Hx n) (AJ E)=true∧KQ (Hx n):=by
 obtain⟨d,hd,e,hs⟩:=hv;have Gv:=(Cp hx).1 _ (hE.cand d hd).1;have hf:=hE.find hd;have hI:=Rp hx hr hE hn (.inr ⟨SV d,by rw[←e];exact hf,by rw[show(SV d).ver=d.rel.ver from rfl,←Gv.plc,←(hE.cand d hd).2.2];exact hs⟩);refine⟨hI.inf,K4.2 ⟨hI.viol,fun u hu=>?_⟩,hI.form⟩
 have:=(hI.inU ((AJ E).map (·.path)) (fun h=>G6.1 (hI.path h)) (G6.1 (by rw[JK,←e,hf];rfl))).2 u hu
 exact G6.2 this
theorem cC(hx:AT x=0)(hr:BL roots=0)(hd:Ez x dec)(hN:oO roots dec p needs){c:Cd}(hc:c∈BJ x p){n:Nd}(hn:n∈needs)(hs:has n.rq.set c.place=false):CR (Hx n) p=true:=by
 obtain⟨c1,c2⟩:=IS hc;have hu:CA dec c.rel.path=false:=by rw[c1];exact hN.undone
 have hE:=hd.snoc c2 hu;obtain⟨dJ,jU⟩:=(hN.mem n).1 hn;have Gv:=(Cp hx).1 _ c2.1;have hI:=Rp hx hr hE (NN dJ) (.inr ⟨SV c,by rw[jU,←c1];exact hE.find (by simp),by rw[show(SV c).ver=c.rel.ver from rfl,←Gv.plc,←c2.2.2];exact hs⟩);cases oY:CR (Hx n) p with
 |true=>rfl
 |false =>
  exfalso
  have ND:n.rq.set≠[]∧ED n.rq.set:=by
   rcases Md dJ with ⟨k,q,h1,rfl⟩ | ⟨c,hc,k,q,h1,rfl⟩
   ·exact KW hr q (Ar h1)
   ·exact((Cp hx).1 _ (hd.cand c hc).1).set q (Ar h1)
  obtain⟨k,hk⟩:=aS ND.1 ND.2;have iW:=L0 hk;have hV:=hd.valid hx;have o1:WP (AJ dec) p (Kc (AJ dec) p (Pi k)):=.ver hV (EY iW);have o2:WP (AJ dec) p (AJ (dec++[c])):=by rw[K8,c1];exact .ver hV Gv.val
  have h1:=KO o1 o2 (JF oY);rw[hI.viol,hI.raw _ o1.val,Bx]at h1
  have:=h1 (Dw n.rq) (by unfold MW;split<;>simp)
  rw[show(Dw n.rq).path=p from jU,H5 (by rw[FR];exact hN.undone),To (by rw[show(⟨p,Pi k⟩:Sl).ver=Pi k from rfl,G1];exact hk)]at this;cases this
theorem cr(hx:AT x=0)(hr:BL roots=0)(hd:Ez x dec)(hN:oO roots dec p needs){n0:Nd}(h0:n0∈needs)(L:List (Nat×Cd))(hL:L.map (·.2)=BJ x p){s:SS}(hs:Fo x roots s)(Dz:∀y∈L,y.1<s.drv.length)
  (qT:s.full=false→∀y∈L,Cq (Dt s y.1) (AJ (dec++[y.2]))=true∧CR (Dt s y.1) p=true) :
  Fo x roots (DE x p n0 (L.map (·.1)) s).2∧Grow s (DE x p n0 (L.map (·.1)) s).2∧(DE x p n0 (L.map (·.1)) s).1<(DE x p n0 (L.map (·.1)) s).2.drv.length ∧
  ((DE x p n0 (L.map (·.1)) s).2.full=false→Cq (Dt (DE x p n0 (L.map (·.1)) s).2 (DE x p n0 (L.map (·.1)) s).1) (AJ dec)=true):=by
 have hV:=hd.valid hx;have o8:Cu (AJ dec) p=false:=by rw[FR];exact hN.undone
 obtain⟨sK,qO⟩:=(hN.mem n0).1 h0;have hI:=Rp hx hr hd sK (.inl (by rw[qO];exact Ht o8));unfold DE;obtain⟨a1,a2,a3⟩:=Kn hs (hI.inf s.drv);have ag:=Ko s (MV n0) (Hx n0);have a3:(Bd s n0).2.full=false→Dt (Bd s n0).2 (Bd s n0).1=Hx n0:=a3
 change Fo x roots (Bd s n0).2 at a1
 change (Bd s n0).1<(Bd s n0).2.drv.length at a2
 change Grow s (Bd s n0).2 at ag
 generalize Bd s n0=s1 at *
 -- the incompatibility of the places that are not available
 obtain⟨u,u0,u1,hu⟩:=aY hx p;have Wg:∀k:Int,0≤k→k<1000000→has (B1 x p) k=false→Bb [(⟨p,false,Ej (B1 x p)⟩:Tm)] (Kc (AJ dec) p (Pi k))=true:=fun k k0 k1 hk=>by
  rw[Bx];intro t ht;rw[Am.1 ht];show Da _ (B2 (Kc (AJ dec) p (Pi k)) p)=true;rw[H5 o8];show(Cr (Pi k)&&has (Ej (B1 x p)) (place (Pi k)))=true;rw[EY ⟨k0,k1⟩,G1,FC,hk];unfold LD;simp[k0,k1]
 have lN:Bb [(⟨p,false,Ej (B1 x p)⟩:Tm)] (AJ dec)=false:=by
  rw[AM];intro h
  have:=Bx.1 h _ (Ab ..)
  rw[show(⟨p,false,Ej (B1 x p)⟩:Tm).path=p from rfl,Ht o8]at this;cases this
 have ou:WP (AJ dec) p (Kc (AJ dec) p (Pi u)):=.ver hV (EY ⟨u0,u1⟩);have Dr:HE p (B1 x p)≠[]:=by
  have c1:=CQ (l:=[(⟨p,false,Ej (B1 x p)⟩:Tm)]) ou.val;have c2:=CQ (l:=[(⟨p,false,Ej (B1 x p)⟩:Tm)]) hV;rw[Wg u u0 u1 hu]at c1;rw[lN]at c2;unfold HE PM;cases hc:CE [(⟨p,false,Ej (B1 x p)⟩:Tm)]with
  |none=>rw[hc]at c1;cases c1
  |some c =>
   rw[hc]at c2;intro e;have e:c=[]:=e;rw[e]at c2;cases c2
 have Lv:∀S,F5 S→Bb (HE p (B1 x p)) S=Bb [(⟨p,false,Ej (B1 x p)⟩:Tm)] S:=fun S v=>PN v Dr;have qq:CR (HE p (B1 x p)) p=true:=by
  cases h:CR (HE p (B1 x p)) p with
  |true=>rfl
  |false =>
   have:=KO ou (.self hV) (JF h)
   rw[Lv _ ou.val,Lv _ hV,Wg u u0 u1 hu,lN]at this;cases this
 have nv:DP x roots s1.2.drv ⟨2,p,0,0,0,0⟩=some (HE p (B1 x p)):=by
  unfold DP;rw[Ah (show ¬((2:Int)=0) by decide),Ah (show ¬((2:Int)=1) by decide),Ao rfl,Ao ⟨rfl,rfl,rfl,rfl⟩];unfold cB;rw[Ah (by rw[GI];exact Dr)]
 obtain⟨b1,b2,b3⟩:=Kn a1 nv;have bg:=Ko s1.2 ⟨2,p,0,0,0,0⟩ (HE p (B1 x p));have b3:(D4 x p s1.2).2.full=false→Dt (D4 x p s1.2).2 (D4 x p s1.2).1=HE p (B1 x p):=b3
 change Fo x roots (D4 x p s1.2).2 at b1
 change (D4 x p s1.2).1<(D4 x p s1.2).2.drv.length at b2
 change Grow s1.2 (D4 x p s1.2).2 at bg
 generalize D4 x p s1.2=s2 at *
 have ql:s2.2.full=false→s1.2.full=false∧s.full=false:=fun h=>by
  have h1:s1.2.full=false:=by
   cases e:s1.2.full with
   |false=>rfl
   |true=>rw[bg.full e]at h;cases h
  refine⟨h1,?_⟩;cases e:s.full with
  |false=>rfl
  |true=>rw[ag.full e]at h1;cases h1
 have main:=NK (D:=AJ dec) (U:=Zq p dec) (p:=p) hV ((s2.1,fun k=>has (B1 x p) k=false)::L.map fun y=>(y.1,fun k=>k=y.2.place)) (C:=fun k=>has n0.rq.set k=false) b1 (Bu a2 bg.len)
  (fun y hy=>by
   rcases Av.1 hy with rfl | hy
   ·exact b2
   ·obtain⟨z,hz,rfl⟩:=Aj.1 hy;exact Bu (Dz z hz) (ag.trans bg).len) (fun hf=>by
   obtain⟨f1,f0⟩:=ql hf;refine⟨?_,fun y hy=>?_⟩
   ·rw[bg.at a2,a3 f1];refine⟨hI.form,hI.inU _ (fun h=>Ag _ (G6.1 (hI.path h))) (by rw[qO];exact Ab ..),hI.viol,fun k k0 k1 hk=>?_⟩;have ok:WP (AJ dec) p (Kc (AJ dec) p (Pi k)):=.ver hV (EY ⟨k0,k1⟩);rw[hI.raw _ ok.val,Bx];intro t ht;have We:=Bx.1 ((hI.raw _ hV).symm.trans hI.viol) t ht;unfold MW at ht;have fM:Da (Dw n0.rq) (B2 (Kc (AJ dec) p (Pi k)) (Dw n0.rq).path)=true:=by
     rw[show(Dw n0.rq).path=p from qO,H5 o8];exact QO (.inr ⟨_,rfl,EY ⟨k0,k1⟩,by rw[show(⟨p,Pi k⟩:Sl).ver=Pi k from rfl,G1];exact hk⟩)
    split at ht
    ·rw[Am.1 ht];exact fM
    ·rename_i hm;rcases Av.1 ht with rfl | ht
     ·have Dr:n0.path≠p:=fun e=>by
       have:=hI.path hm
       rw[e,o8]at this;cases this
      rw[show(⟨n0.path,false,[(n0.place,n0.place+1)]⟩:Tm).path=n0.path from rfl]at We⊢;rw[ok.same _ Dr];exact We
     ·rw[Am.1 ht];exact fM
   ·rcases Av.1 hy with rfl | hy
    ·show jf _ _ p (Dt s2.2 s2.1) _;rw[b3 hf];refine⟨Mf _,Tn (fun t ht=>by rw[Am.1 ht];exact Ab ..),qq,⟨_,ou,by rw[Lv _ ou.val];exact Wg u u0 u1 hu⟩,fun k k0 k1 hk=>?_⟩;rw[Lv _ (WP.ver hV (EY ⟨k0,k1⟩)).val];exact Wg k k0 k1 hk
    ·obtain⟨z,hz,rfl⟩:=Aj.1 hy;show jf _ _ p (Dt s2.2 z.1) _;rw[(ag.trans bg).at (Dz z hz)];obtain⟨e1,e2⟩:=qT f0 z hz;have hzc:z.2∈BJ x p:=by rw[←hL];exact Aj.2 ⟨z,hz,rfl⟩
     obtain⟨c1,c2⟩:=IS hzc
     have:=dj hx hd c2 (by rw[c1];exact hN.undone) (hs.forms z.1) e1 (by rw[c1];exact e2)
     rw[c1]at this;exact this)
 have uY:((s2.1,fun k=>has (B1 x p) k=false)::L.map fun y=>(y.1,fun k=>k=y.2.place)).map (·.1)=s2.1::L.map (·.1):=by
  rw[AH,BB];rfl
 rw[uY]at main;obtain⟨m1,m2,m3,m4⟩:=main;refine⟨m1,(ag.trans bg).trans m2,m3,fun hf=>?_⟩;obtain⟨C',q1,q2⟩:=m4 hf;have hnc:CR (Dt (B4 p (s2.1::L.map (·.1)) s1.1 s2.2).2 (B4 p (s2.1::L.map (·.1)) s1.1 s2.2).1) p=false:=by
  rcases q2 with q2 | q2
  ·exact q2
  ·refine gH o8 q1.form q1.none_ fun k k0 k1=>q1.cov k k0 k1 (q2 k ?_);cases sL:has n0.rq.set k with
   |false=>exact .inl rfl
   |true =>
    cases ha:has (B1 x p) k with
    |false=>exact .inr ⟨_,Ab ..,ha⟩
    |true =>
     obtain⟨c,hc,e⟩:=(Uw hx).1 ha;rw[←hL]at hc;obtain⟨z,hz,rfl⟩:=Aj.1 hc;exact .inr ⟨_,Ag _ (Aj.2 ⟨z,hz,rfl⟩),e.symm⟩
 refine K4.2 ⟨q1.none_,fun t ht=>?_⟩
 have:=q1.inU.2 t ht
 rcases Av.1 this with e | h
 ·exact absurd e (JF hnc t ht)
 ·exact G6.2 h
end
def GO(s:SS)(b:List Cd)(p:ByteArray)(needs:List Nd):List Cd→List Sk→Prop
 | [],sk=>sk=[]
 |c::cs,sk=>if(needs.all fun n=>has n.rq.set c.place)=true then ∃(k:Nat) (rest:List Sk),sk=⟨p,c.place,k⟩::rest∧(k<s.drv.length∧Cq (Dt s k) (AJ (b++[c]))=true)∧GO s b p needs cs rest
  else GO s b p needs cs sk
section
variable {s s' : SS}{b:List Cd}{p:ByteArray}{needs:List Nd}
theorem GO.out{c:Cd}(hc:¬(needs.all fun n=>has n.rq.set c.place)=true):∀{cs:List Cd} {sk:List Sk},GO s b p needs cs sk→GO s b p needs (cs++[c]) sk
 | [],sk,h=>by
  show(if _ then _ else _);rw[Ah hc];exact h
 |d::cs,sk,h=>by
  have h:if(needs.all fun n=>has n.rq.set d.place)=true then _ else _:=h
  show(if _ then _ else _)
  by_cases hd:(needs.all fun n=>has n.rq.set d.place)=true
  ·rw[Ao hd]at h⊢;obtain⟨k,rest,h1,h2,h3⟩:=h;exact⟨k,rest,h1,h2,GO.out hc h3⟩
  ·rw[Ah hd]at h⊢;exact GO.out hc h
theorem GO.add{c:Cd}(hc:(needs.all fun n=>has n.rq.set c.place)=true){k:Nat}(hk:k<s.drv.length∧Cq (Dt s k) (AJ (b++[c]))=true):∀{cs:List Cd} {sk:List Sk},GO s b p needs cs sk→GO s b p needs (cs++[c]) (sk++[⟨p,c.place,k⟩])
 | [],sk,h=>by
  have h:sk=[]:=h;subst h;show(if _ then _ else _);rw[Ao hc];exact⟨k,[],rfl,hk,rfl⟩
 |d::cs,sk,h=>by
  have h:if(needs.all fun n=>has n.rq.set d.place)=true then _ else _:=h
  show(if _ then _ else _)
  by_cases hd:(needs.all fun n=>has n.rq.set d.place)=true
  ·rw[Ao hd]at h⊢;obtain⟨j,rest,rfl,h2,h3⟩:=h;exact⟨j,_,rfl,h2,GO.add hc hk h3⟩
  ·rw[Ah hd]at h⊢;exact GO.add hc hk h
theorem GO.mono(hg:Grow s s'):∀{cs:List Cd} {sk:List Sk},GO s b p needs cs sk→GO s' b p needs cs sk
 | [],_,h=>h
 |d::cs,sk,h=>by
  have h:if(needs.all fun n=>has n.rq.set d.place)=true then _ else _:=h
  show(if _ then _ else _)
  by_cases hd:(needs.all fun n=>has n.rq.set d.place)=true
  ·rw[Ao hd]at h⊢;obtain⟨j,rest,rfl,h2,h3⟩:=h;exact⟨j,rest,rfl,⟨Bu h2.1 hg.len,by rw[hg.at h2.1];exact h2.2⟩,h3.mono hg⟩
  ·rw[Ah hd]at h⊢;exact h.mono hg
end
structure mo(x:List Rl)(roots:List Rq)(s:SS)(b:List Cd)(c:Cd)(sk:List Sk)(p:ByteArray)(needs:List Nd)(pre post:List Cd):Prop where
 next:oO roots b p needs
 cands:BJ x p=pre++c::post
 fit:∀n∈needs,has n.rq.set c.place=true
 noclash:D2 b c=none
 skips:GO s b p needs pre sk
def RE(x:List Rl)(roots:List Rq)(s:SS):List Cd→List Cd→List (List Sk)→Prop
 |b,[],[]=>KC (HH roots b) (AJ b)=none
 |b,c::t,sk::st=>(∃p needs pre post,mo x roots s b c sk p needs pre post)∧RE x roots s (b++[c]) t st
 |_,_,_=>False
structure Vy(x:List Rl)(roots:List Rq)(ls:List (List Cd))(dec:List Cd)(s:SS)(st:List (List Sk))(o:Jx):Prop where
 der:Fo x roots o.ss
 grow:Grow s o.ss
 no:o.found=false→o.dec=dec∧o.stack=st∧(o.ss.full=false→o.res<o.ss.drv.length∧Cq (Dt o.ss o.res) (AJ dec)=true)
 yes:o.found=true→o.ss.full=false∧∃t sl,o.dec=dec++t∧o.stack=st++sl∧RE x roots o.ss dec t sl∧ls.head?=some o.dec
section
variable {rec:List Cd→SS→List (List Sk)→Jx}{x:List Rl}{roots:List Rq}{p:ByteArray}{needs:List Nd}{n0:Nd}{dec:List Cd}{st:List (List Sk)}
def Ik(rec:List Cd→SS→List (List Sk)→Jx)(x:List Rl)(p:ByteArray)(needs:List Nd)(n0:Nd)(dec:List Cd)(st:List (List Sk))(c:Cd)(cs:List Cd)(reasons:List Nat)(skips:List Sk)(k:Nat)(s:SS):Jx :=
 if CR (Dt s k) p=false then⟨k,false,s,dec,st⟩else DB rec x p needs n0 dec st cs s (reasons++[k]) (skips++[⟨p,c.place,k⟩])
theorem FM(c:Cd)(cs:List Cd)(s:SS)(reasons:List Nat)(skips:List Sk):DB rec x p needs n0 dec st (c::cs) s reasons skips =
  if s.full=true then⟨0,false,s,dec,st⟩
  else match needs.find? fun n=>!has n.rq.set c.place with
   |some n=>DB rec x p needs n0 dec st cs (Bd s n).2 (reasons++[(Bd s n).1]) skips
   |none=>match Nv s.drv (AJ (dec++[c]))with
    |some k=>Ik rec x p needs n0 dec st c cs reasons skips k s
    |none=>match D2 dec c with
     |some n=>Ik rec x p needs n0 dec st c cs reasons skips (Bd s n).1 (Bd s n).2
     |none=>if(rec (dec++[c]) s (st++[skips])).found=true then⟨0,true,(rec (dec++[c]) s (st++[skips])).ss,(rec (dec++[c]) s (st++[skips])).dec,(rec (dec++[c]) s (st++[skips])).stack⟩
      else if(rec (dec++[c]) s (st++[skips])).ss.full=true then⟨0,false,(rec (dec++[c]) s (st++[skips])).ss,dec,st⟩
      else Ik rec x p needs n0 dec st c cs reasons skips (rec (dec++[c]) s (st++[skips])).res (rec (dec++[c]) s (st++[skips])).ss:=rfl
theorem aj{s:SS}(hs:Fo x roots s){n:Nd}(h:∀d,DP x roots d (MV n)=some (Hx n)):Fo x roots (Bd s n).2∧(Bd s n).1<(Bd s n).2.drv.length∧((Bd s n).2.full=false→Dt (Bd s n).2 (Bd s n).1=Hx n)∧Grow s (Bd s n).2:=by
 obtain⟨a1,a2,a3⟩:=Kn hs (h s.drv);exact⟨a1,a2,a3,Ko _ _ _⟩
theorem Vy.grown{ls:List (List Cd)}{s s' : SS}{o:Jx}(hg:Grow s s')(h:Vy x roots ls dec s' st o):Vy x roots ls dec s st o:=⟨h.der,hg.trans h.grow,h.no,h.yes⟩
theorem UA(hx:AT x=0)(hr:BL roots=0)(hd:Ez x dec)(cc:Ij roots dec)(hN:oO roots dec p needs)(h0:n0∈needs){lv:List Cd→List (List Cd)}(xX:∀c∈BJ x p,Yw dec needs c=true→∀d∈lv (dec++[c]),Lf x roots (dec++[c]) d)
  (Wh:∀c∈BJ x p,Yw dec needs c=true→∀s st,Fo x roots s→s.full=false→Vy x roots (lv (dec++[c])) (dec++[c]) s st (rec (dec++[c]) s st)) :
  ∀(cs:List Cd) {s:SS} (L:List (Nat×Cd)) {skips:List Sk},L.map (·.2)++cs=BJ x p→Fo x roots s→(∀y∈L,y.1<s.drv.length)→(s.full=false→(∀y∈L,Cq (Dt s y.1) (AJ (dec++[y.2]))=true∧CR (Dt s y.1) p=true)∧GO s dec p needs (L.map (·.2)) skips) →
   Vy x roots (((BJ x p).map fun c=>if Yw dec needs c then lv (dec++[c])else []).flatten) dec s st (DB rec x p needs n0 dec st cs s (L.map (·.1)) skips)
 | [],s,L,skips,hL,hs,Dz,qT=>by
  rw[BV]at hL;obtain⟨l1,l2,l3,l4⟩:=cr hx hr hd hN h0 L hL hs Dz (fun hf=>(qT hf).1);exact⟨l1,l2,fun _=>⟨rfl,rfl,fun hf=>⟨l3,l4 hf⟩⟩,fun h=>(by cases h)⟩
 |c::cs,s,L,skips,hL,hs,Dz,qT=>by
  rw[FM]
  by_cases hf:s.full=true
  ·rw[Ao hf];exact⟨hs,.refl s,fun _=>⟨rfl,rfl,fun h=>by rw[show(⟨0,false,s,dec,st⟩:Jx).ss=s from rfl,hf]at h;cases h⟩,fun h=>(by cases h)⟩
  rw[Ah hf];have hf:s.full=false:=by simpa using hf
  obtain⟨qU,nG⟩:=qT hf;have hc:c∈BJ x p:=by rw[←hL];simp
  obtain⟨c1,c2⟩:=IS hc;have hu:CA dec c.rel.path=false:=by rw[c1];exact hN.undone
  have hE:=hd.snoc c2 hu
  -- on to the next candidate
  have go:∀(s' : SS) (k:Nat) (Lj : List Sk),Fo x roots s'→Grow s s'→k<s'.drv.length→(s'.full=false→(Cq (Dt s' k) (AJ (dec++[c]))=true∧CR (Dt s' k) p=true)∧GO s' dec p needs (L.map (·.2)++[c]) Lj) →
    Vy x roots (((BJ x p).map fun c=>if Yw dec needs c then lv (dec++[c])else []).flatten) dec s st (DB rec x p needs n0 dec st cs s' (L.map (·.1)++[k]) Lj):=fun s' k Lj WK hg hk Dr=>by
   have:=UA hx hr hd cc hN h0 xX Wh cs (s:=s') (L++[(k,c)]) (skips:=Lj) (by rw[Ax,BI];exact hL) WK
    (fun y hy=>by
     rcases AU.1 hy with hy | hy
     ·exact Bu (Dz y hy) hg.len
     ·rw[Am.1 hy];exact hk)
    (fun XA=>by
     obtain⟨e1,e2⟩:=Dr XA;refine⟨fun y hy=>?_,by rw[Ax];exact e2⟩;rcases AU.1 hy with hy | hy
     ·rw[hg.at (Dz y hy)];exact qU y hy
     ·rw[Am.1 hy];exact e1)
   rw[Ax]at this;exact this.grown hg
  cases nq:needs.find? fun n=>!has n.rq.set c.place with
  |some n =>
   dsimp only;have dJ:=Ce nq;have jU:=EL nq;have jU:has n.rq.set c.place=false:=by simpa using jU
   obtain⟨z7,z8⟩:=(hN.mem n).1 dJ;obtain⟨e1,e2,e3⟩:=OP hx hr hE (NN z7) ⟨c,by simp,by rw[c1,z8],jU⟩;obtain⟨i1,i2,i3,i4⟩:=aj hs e1;refine go _ _ _ i1 i4 i2 fun XA=>?_;rw[i3 XA];exact⟨⟨e2,cC hx hr hd hN hc dJ jU⟩,GO.out (by
    intro h;rw[Bk]at h;rw[h n dJ]at jU;cases jU) (nG.mono i4)⟩
  |none =>
   dsimp only;have Y4:∀n∈needs,has n.rq.set c.place=true:=fun n hn=>by
    rw[DQ]at nq;simpa using nq n hn
   have GM:(needs.all fun n=>has n.rq.set c.place)=true:=by rw[Bk];exact Y4
   have dT:∀(s' : SS) (k:Nat),Fo x roots s'→Grow s s'→k<s'.drv.length→(s'.full=false→Cq (Dt s' k) (AJ (dec++[c]))=true) →
     Vy x roots (((BJ x p).map fun c=>if Yw dec needs c then lv (dec++[c])else []).flatten) dec s st (Ik rec x p needs n0 dec st c cs (L.map (·.1)) skips k s'):=fun s' k WK hg hk he=>by
    unfold Ik;cases oY:CR (Dt s' k) p with
    |false =>
     rw[Ao rfl];exact⟨WK,hg,fun _=>⟨rfl,rfl,fun XA=>⟨hk,eQ hx hd c2.1 (he XA) (by rw[c1];exact oY)⟩⟩,fun h=>(by cases h)⟩
    |true =>
     rw[Ah (by decide)];exact go _ _ _ WK hg hk fun XA=>⟨⟨he XA,oY⟩,GO.add GM ⟨hk,he XA⟩ (nG.mono hg)⟩
   cases hen:Nv s.drv (AJ (dec++[c]))with
   |some k =>
    dsimp only;obtain⟨k1,k2⟩:=Kt hen;exact dT s k hs (.refl s) k1 fun _=>k2
   |none =>
    dsimp only;cases hcl:D2 dec c with
    |some n =>
     dsimp only;obtain⟨m1,m2⟩:=KX hcl;obtain⟨e1,e2,e3⟩:=OP hx hr hE (MI m1) m2;obtain⟨i1,i2,i3,i4⟩:=aj hs e1;exact dT _ _ i1 i4 i2 fun XA=>by rw[i3 XA];exact e2
    |none =>
     dsimp only;have Gv:Yw dec needs c=true:=OV.2 ⟨Y4,hcl⟩;have hR:=Wh c hc Gv s (st++[skips]) hs hf;generalize rec (dec++[c]) s (st++[skips])=o at hR
     by_cases OG:o.found=true
     ·rw[Ao OG];obtain⟨y1,t,sl,y2,y3,y4,y5⟩:=hR.yes OG;refine⟨hR.der,hR.grow,fun h=>(by cases h),fun _=>⟨y1,c::t,skips::sl,by show o.dec=_;rw[y2];simp,by show o.stack=_;rw[y3];simp,⟨⟨p,needs,L.map (·.2),cs,hN,hL.symm,Y4,hcl,nG.mono hR.grow⟩,y4⟩,?_⟩⟩;show _=some o.dec;rw[←hL,Ax,Cv,AH,Bm];have nB:((L.map (·.2)).map fun c=>if Yw dec needs c then lv (dec++[c])else []).flatten=[]:=by
       rw[List.flatten_eq_nil_iff];intro l hl;obtain⟨d,jQ,rfl⟩:=Aj.1 hl;obtain⟨y,hy,rfl⟩:=Aj.1 jQ;split
       ·rename_i hoy;have hyc:y.2∈BJ x p:=by rw[←hL];exact Bn _ jQ
        refine Lz.2 fun d uJ=>kr hx hs (Dz y hy) (qU y hy).1 (xX y.2 hyc hoy d uJ)
       ·rfl
      rw[nB,EM,Ao Gv,List.head?_append,y5];rfl
     ·rw[Ah OG];have OG:o.found=false:=by simpa using OG
      obtain⟨n1,n2,n3⟩:=hR.no OG
      by_cases ns:o.ss.full=true
      ·rw[Ao ns];exact⟨hR.der,hR.grow,fun _=>⟨rfl,rfl,fun h=>by rw[show(⟨0,false,o.ss,dec,st⟩:Jx).ss=o.ss from rfl,ns]at h;cases h⟩,fun h=>(by cases h)⟩
      ·rw[Ah ns];have ns:o.ss.full=false:=by simpa using ns
       exact dT _ _ hR.der hR.grow (n3 ns).1 fun _=>(n3 ns).2
end
theorem Sx{x:List Rl}{dec:List Cd}{c:Cd}(h:c.rel∈x∧c.rel.yanked=false)(hu:CA dec c.rel.path=false):FN x (dec++[c])<FN x dec:=by
 have key:∀l:List Rl,(l.filter fun r=>!r.yanked&&!CA (dec++[c]) r.path).length≤(l.filter fun r=>!r.yanked&&!CA dec r.path).length ∧
   (c.rel∈l→(l.filter fun r=>!r.yanked&&!CA (dec++[c]) r.path).length<(l.filter fun r=>!r.yanked&&!CA dec r.path).length):=by
  intro l
  induction l with
  |nil=>exact⟨Al _,fun h=>(by cases h)⟩
  |cons r l ih =>
   have fP:(!r.yanked&&!CA (dec++[c]) r.path)=true→(!r.yanked&&!CA dec r.path)=true:=fun e=>by
    simp only[Af,CG]at e⊢;refine⟨e.1,?_⟩
    have:=e.2
    unfold CA at this⊢;rw[F9,Bool.or_eq_false_iff]at this;exact this.1
   rw[BN,BN];refine⟨?_,fun hm=>?_⟩
   ·by_cases e:(!r.yanked&&!CA (dec++[c]) r.path)=true
    ·rw[Ao e,Ao (fP e)];simp;exact ih.1
    ·rw[Ah e];split
     ·simp;have:=ih.1;omega
     ·exact ih.1
   ·rcases Av.1 hm with rfl | hm
    ·have e1:¬(!c.rel.yanked&&!CA (dec++[c]) c.rel.path)=true:=by
      have:CA (dec++[c]) c.rel.path=true:=by unfold CA;simp
      rw[this];simp
     have e2:(!c.rel.yanked&&!CA dec c.rel.path)=true:=by rw[h.2,hu];rfl
     rw[Ah e1,Ao e2];simp;have:=ih.1;omega
    ·have:=ih.2 hm
     by_cases e:(!r.yanked&&!CA (dec++[c]) r.path)=true
     ·rw[Ao e,Ao (fP e)];simp;exact this
     ·rw[Ah e];split
      ·simp;omega
      ·exact this
 exact(key x).2 h.1
theorem PZ{x:List Rl}{roots:List Rq}(hx:AT x=0)(hr:BL roots=0):∀(n:Nat) {dec:List Cd} {s:SS} {st:List (List Sk)},Ez x dec→Ij roots dec→Fo x roots s→s.full=false→FN x dec<n →
  Vy x roots (Ea x roots n dec) dec s st (Cz x roots n dec s st)
 |0,_,_,_,_,_,_,_,h=>by omega
 |n+1,dec,s,st,hd,cc,hs,hf,hn=>by
  unfold Cz Ea;cases e:(Eu roots dec).2 with
  |nil =>
   exact⟨hs,.refl s,fun h=>(by cases h),fun _=>⟨hf,[],[],by simp,by simp,Tg.1 e,rfl⟩⟩
  |cons n0 l =>
   have hN:=La e;have next:∀c∈BJ x (Eu roots dec).1,Yw dec (n0::l) c=true→Ez x (dec++[c])∧Ij roots (dec++[c])∧FN x (dec++[c])<n:=fun c hc Gv=>by
    obtain⟨c1,c2⟩:=IS hc;have hu:CA dec c.rel.path=false:=by rw[c1];exact hN.undone
    obtain⟨k1,k2⟩:=OV.1 Gv;exact⟨hd.snoc c2 hu,cc.snoc hN c1 k1 k2,by have:=Sx (dec:=dec) ⟨c2.1,c2.2.1⟩ hu;omega⟩
   exact UA hx hr hd cc hN (Ab ..) (lv:=Ea x roots n) (fun c hc Gv d jQ=>Ky (next c hc Gv).1 (next c hc Gv).2.1 d jQ)
    (fun c hc Gv s st hs hf=>PZ hx hr n (next c hc Gv).1 (next c hc Gv).2.1 hs hf (next c hc Gv).2.2) _ [] rfl hs (fun y hy=>by cases hy) (fun _=>⟨fun y hy=>(by cases hy),rfl⟩)
theorem Xs(x:List Rl)(dec:List Cd):FN x dec≤x.length:=BA _ _
theorem KL{x:List Rl}{roots:List Rq}(hx:AT x=0)(hr:BL roots=0):Vy x roots (Ea x roots (x.length+1) []) [] rT [] (DL x roots) :=
 PZ hx hr _ (.nil x) (.nil roots) (.nil x roots) rfl (by have:=Xs x [];omega)
end Go.Eng
