/- Lemmas for the claims of this seat, without a condition: part 3 (Q3, Q4, P15, Q5, Q6, Q7, Q8, P16, P17). -/
import Derived.Test.YtddfphmpfnmknaaGreatDoorA02
import Derived.Lib.ItoaNum
import Derived.Lib.Join
namespace Go.Eng
theorem Lw:∀{l:List Rq} {b:Option ByteArray},FH b l=0→∀q∈l,q.set≠[]∧Ew q.set
 | [],_,_,q,hq=>by cases hq
 |r::l,b,h,q,hq=>by
  unfold FH at h;split at h
  ·rename_i e;rcases Av.1 hq with rfl | hq
   ·unfold Gx at e
    by_cases h1:(CB q.path).isNone=true
    ·rw[Aq h1]at e;exact absurd e (by decide)
    rw[Ai h1]at e;cases hE:q.set.isEmpty with
    |true=>rw[hE]at e;simp at e
    |false =>
     cases hD:decide (q.set=canon q.set)with
     |false=>rw[hD]at e;simp at e
     |true =>
      have h3:q.set=canon q.set:=Ba hD;exact⟨by simpa using hE,by rw[h3];exact B9 _⟩
   ·exact Lw h q hq
  ·rename_i e;exact absurd h e
theorem KL{l:List Rq}(h:BL l=0):∀q∈l,q.set≠[]∧Ew q.set:=by
 unfold BL at h;split at h
 ·cases h
 ·exact Lw h
abbrev OQ(k:Int):Ver:=⟨0,k / 1000,k % 1000⟩
theorem GU(k:Int):place (OQ k)=k:=by unfold place;show 1000*(k / 1000)+k % 1000=k;omega
theorem EQ{k:Int}(h:0≤k∧k<1000000):Cq (OQ k)=true:=by
 unfold Cq okPart;simp only[Ae];exact⟨⟨AA (by omega),AA (by omega)⟩,AA (by omega)⟩
structure Wm(D:List Sl)(p:ByteArray)(S:List Sl):Prop where
 val:FV S
 same:∀q,q≠p→BX S q=BX D q
abbrev JZ(D:List Sl)(p:ByteArray)(v:Ver):List Sl:=D++[⟨p,v⟩]
theorem JQ(a b:List Sl)(p:ByteArray):BX (a++b) p=(BX a p).or (BX b p):=by
 unfold BX;rw[List.find?_append]
theorem Ho{s:List Sl}{p:ByteArray}(h:Ct s p=false):BX s p=none:=by
 rw[JA]at h;cases e:BX s p with
 |none=>rfl
 |some y=>rw[e]at h;cases h
theorem Wm.self{D:List Sl}{p:ByteArray}(h:FV D):Wm D p D:=⟨h,fun _ _=>rfl⟩
theorem Wm.ver{D:List Sl}{p:ByteArray}(h:FV D){v:Ver}(hv:Cq v=true):Wm D p (JZ D p v):=by
 refine⟨fun y hy=>?_,fun q hq=>?_⟩
 ·rcases AW.1 hy with hy | hy
  ·exact h y hy
  ·rw[Am.1 hy];exact hv
 ·rw[JQ]
  have:BX [(⟨p,v⟩:Sl)] q=none:=by unfold BX;simp[Ne.symm hq]
  rw[this,Option.or_none]
theorem H1{D:List Sl}{p:ByteArray}(hp:Ct D p=false)(v:Ver):BX (JZ D p v) p=some ⟨p,v⟩:=by
 rw[JQ,Ho hp];unfold BX;simp
theorem Qe{D:List Sl}{p:ByteArray}(hp:Ct D p=false){v v' : Ver}(hv:Cq v=true)(rT : Cq v'=true)(e:place v=place v')(q:ByteArray)(t:Tm) :
  Db t (BX (JZ D p v) q)=Db t (BX (JZ D p v') q):=by
 by_cases hq:q=p
 ·subst hq;rw[H1 hp,H1 hp];show(Cq v&&has t.set (place v))=(Cq v'&&has t.set (place v'));rw[hv,rT,e]
 ·have h1:∀w:Ver,BX (JZ D p w) q=BX D q:=fun w=>by
   rw[JQ]
   have:BX [(⟨p,w⟩:Sl)] q=none:=by unfold BX;simp[Ne.symm hq]
   rw[this,Option.or_none]
  rw[h1,h1]
theorem Y7{D:List Sl}{p:ByteArray}(hp:Ct D p=false){v v' : Ver}(hv:Cq v=true)(rT : Cq v'=true)(e:place v=place v')(t:List Tm):Bb t (JZ D p v)=Bb t (JZ D p v'):=by
 rw[BN,Bx,Bx];exact⟨fun h u hu=>by rw[←Qe hp hv rT e];exact h u hu,fun h u hu=>by rw[Qe hp hv rT e];exact h u hu⟩
theorem KC{D S S' : List Sl}{p:ByteArray}(h:Wm D p S)(h' : Wm D p S'){t:List Tm}(ht:∀u∈t,u.path≠p):Bb t S=Bb t S':=by
 rw[BN,Bx,Bx];exact⟨fun k u hu=>by rw[h'.same _ (ht u hu),←h.same _ (ht u hu)];exact k u hu,fun k u hu=>by rw[h.same _ (ht u hu),←h'.same _ (ht u hu)];exact k u hu⟩
theorem Jw{t:List Tm}{p:ByteArray}(h:CO t p=false):∀u∈t,u.path≠p:=fun u hu e=>by
 unfold CO at h;rw[F3]at h;exact h u hu (by simpa using e)
theorem RI{t:List Tm}{p:ByteArray}(h:CO t p=true):∃u∈t,u.path=p:=by
 unfold CO at h;rw[Bd]at h;obtain⟨u,hu,e⟩:=h;exact⟨u,hu,by simpa using e⟩
theorem To{t:List Tm}{p:ByteArray}(hf:KG t)(hc:CO t p=true):∃u r,Ff t p=some (u,r)∧u.path=p∧∀v∈r,v.path≠p:=by
 obtain⟨u,hu,e⟩:=RI hc;have hs:=EG hf;have my:=(Fw hs).1 hu;rw[e]at my;refine⟨u,FC t p,?_,e,fun v hv=>?_⟩
 ·unfold Ff;rw[show CD t=some t from hf];dsimp only;rw[my]
 ·have:=(BH.1 hv).2
  simpa using this
theorem VU{D:List Sl}{p:ByteArray}{t b:List Tm}(eB:KG t)(mw:KG b)(yU:CO t p=true)(tT:CO b p=true){S1 S2:List Sl}(h1:Wm D p S1)(v1:Bb t S1=true)(h2:Wm D p S2)(v2:Bb b S2=true) :
  (Bq t b p).2=0∧∀S,Wm D p S→Bb t S=true∨Bb b S=true→Bb (Bq t b p).1 S=true:=by
 obtain⟨u,r,e1,pu,nr⟩:=To eB yU;obtain⟨w,m,e2,pw,nm⟩:=To mw tT;have key:∀S,Wm D p S→Bb t S=true∨Bb b S=true→Bb (r++m++[Da u w]) S=true:=fun S hS hv=>by
  have r1:Bb r S=true:=by
   rw[KC hS h1 nr];rw[(FB h1.val e1).1,Ae]at v1;exact v1.2
  have m1:Bb m S=true:=by
   rw[KC hS h2 nm];rw[(FB h2.val e2).1,Ae]at v2;exact v2.2
  rw[GK,GK,r1,m1];simp only[Ev];rw[Bx];intro y hy;rw[Am.1 hy,show(Da u w).path=p from pu,MT,Ci];rcases hv with hv | hv
  ·rw[(FB hS.val e1).1,Ae]at hv;exact .inl hv.1
  ·rw[(FB hS.val e2).1,Ae]at hv;exact .inr hv.1
 unfold Bq;rw[e1,e2];dsimp only;have c1:=CN (l:=r++m++[Da u w]) h1.val;rw[key S1 h1 (.inl v1)]at c1;cases hc:CD (r++m++[Da u w])with
 |none=>rw[hc]at c1;cases c1
 |some o =>
  dsimp only;refine⟨rfl,fun S hS hv=>?_⟩;have c2:=CN (l:=r++m++[Da u w]) hS.val;rw[hc,key S hS hv]at c2;exact c2.symm
theorem fN{D:List Sl}{p:ByteArray}(hp:Ct D p=false){t:List Tm}(hf:KG t)(h0:Bb t D=true)(hk:∀k:Int,0≤k→k<1000000→Bb t (JZ D p (OQ k))=true):CO t p=false:=by
 rw[AM];intro hc;obtain⟨u,hu,e⟩:=RI hc;have ha:u.absent=true:=by
  have:=Bx.1 h0 u hu
  rw[e,Ho hp]at this;exact this
 have hs:∀k:Int,0≤k→k<1000000→has u.set k=true:=fun k k0 k1=>by
  have:=Bx.1 (hk k k0 k1) u hu
  rw[e,H1 hp]at this;unfold Db at this;rw[Ae]at this
  have:=this.2
  rw[show(⟨p,OQ k⟩:Sl).ver=OQ k from rfl,GU]at this;exact this
 have nY:Ew u.set:=B3.canon (EG hf) u hu;have eD:u.set=[(0,1000000)]:=by
  refine Hj nY ⟨by decide,by decide,by decide,trivial⟩ fun k=>?_;rw[BN];constructor
  ·intro h
   have:=LI h
   unfold has;simp[BE,this.1,this.2]
  ·intro h
   have:=LI h
   exact hs k this.1 this.2
 have rE:Gi u=true:=by unfold Gi;rw[ha,eD];rfl
 have rH:CD t=some t:=hf;unfold CD at rH;split at rH
 ·cases rH
 ·have e2:=Cr rH;rw[←e2]at hu
  have:=(BH.1 hu).2
  rw[rE]at this;cases this
structure Ey(x:List Rl)(dec:List Cd):Prop where
 cand:∀c∈dec,c.rel∈x∧c.rel.yanked=false∧c.place=plc c.rel.ver
 nodup:(dec.map fun c=>c.rel.path).Nodup
theorem Ey.nil(x:List Rl):Ey x []:=⟨fun _ h=>(by cases h),E2⟩
theorem SW{r:Rl}(h:Rp r):r.path≠mt:=fun e=>by
 have:=h.maj
 rw[e]at this;have h2:CB mt=none:=by decide
 rw[h2]at this;cases this
theorem Rp.set{r:Rl}(h:Rp r):∀q∈r.reqs,q.set≠[]∧Ew q.set:=KL h.reqs
theorem No(dec:List Cd):(AJ dec).map (·.path)=dec.map fun c=>c.rel.path:=by unfold AJ;rw[BG];rfl
theorem Nb:∀{D:List Sl},(D.map (·.path)).Nodup→∀{y:Sl},y∈D→BX D y.path=some y
 | [],_,y,h=>by cases h
 |z::D,hn,y,h=>by
  simp only[AK,CI]at hn;unfold BX;rw[EE];rcases Av.1 h with rfl | h
  ·rw[AA rfl]
  ·have:z.path≠y.path:=fun e=>hn.1 (Ak.2 ⟨y,h,e.symm⟩)
   rw[At this];exact Nb hn.2 h
theorem Ey.find{x:List Rl}{dec:List Cd}(h:Ey x dec){c:Cd}(hc:c∈dec):BX (AJ dec) c.rel.path=some (Sz c) :=
 Nb (by rw[No];exact h.nodup) (y:=Sz c) (Ak.2 ⟨c,hc,rfl⟩)
theorem Ey.valid{x:List Rl}(hx:AU x=0){dec:List Cd}(h:Ey x dec):FV (AJ dec):=fun y hy=>by
 obtain⟨c,hc,rfl⟩:=Ak.1 hy;exact((Co hx).1 _ (h.cand c hc).1).val
theorem Ey.snoc{x:List Rl}{dec:List Cd}(h:Ey x dec){c:Cd}(hc:c.rel∈x∧c.rel.yanked=false∧c.place=plc c.rel.ver)(hd:CY dec c.rel.path=false):Ey x (dec++[c]):=by
 refine⟨fun d hd=>?_,?_⟩
 ·rcases AW.1 hd with hd | hd
  ·exact h.cand d hd
  ·rw[Am.1 hd];exact hc
 ·rw[Az,F4];refine⟨h.nodup,by simp,fun a ha b hb e=>?_⟩;obtain⟨d,ji,rfl⟩:=Ak.1 ha;simp only[AK,EU,Am]at hb;unfold CY at hd;rw[F3]at hd;exact hd d ji (by simpa using e.trans hb)
theorem LW{roots:List Rq}{E:List Cd}{n:Nd}(h:n∈Dj roots E):(∃k q,roots[k]?=some q∧n=⟨q,mt,0,(k:Nat)⟩)∨∃c∈E,∃k q,c.rel.reqs[k]?=some q∧n=⟨q,c.rel.path,c.place,(k:Nat)⟩:=by
 unfold Dj at h;rcases AW.1 h with h | h
 ·obtain⟨k,q,h1,h2⟩:=Xv h;exact .inl ⟨k,q,h1,h2⟩
 ·obtain⟨l,hl,hn⟩:=Ej.1 h;obtain⟨c,hc,rfl⟩:=Ak.1 hl;obtain⟨k,q,h1,h2⟩:=Xv hn;exact .inr ⟨c,hc,k,q,h1,h2⟩
theorem Nt{roots:List Rq}{dec:List Cd}{c:Cd}{n:Nd}(h:n∈Dj roots dec):n∈Dj roots (dec++[c]):=by
 unfold Dj at *
 rw[Az,Cv,←BF];exact Bn _ h
theorem Mt{roots:List Rq}{dec:List Cd}{c:Cd}{n:Nd}(h:n∈Pw c):n∈Dj roots (dec++[c]):=by
 unfold Dj;rw[Az,Cv,←BF];exact Bf _ (by simpa using h)
def MH(n:Nd):List Tm:=if n.path=mt then [Dx n.rq]else [⟨n.path,false,[(n.place,n.place+1)]⟩,Dx n.rq]
theorem Ol(n:Nd):IT n=Pq (MH n):=by unfold IT MH Jj Ed;split<;>rfl
theorem ZX{s:Bh}(h:s≠[])(hc:Ew s):∃k,has s k=true:=by
 match s,h,hc with
 |x::r,_,hc =>
  have:=EC.low hc x (Ab ..)
  refine⟨x.1,?_⟩;unfold has;have h1:BE x.1 x=true:=DC.2 ⟨BO _,this.2.1⟩;simp only[B4,h1,Bool.true_or,Bool.and_true,Ae,Au];omega
theorem Qr{q:Rq}{o:Option Sl}(h:o=none∨∃y,o=some y∧Cq y.ver=true∧has q.set (place y.ver)=false):Db (Dx q) o=true:=by
 rcases h with rfl | ⟨y,rfl,hv,hq⟩
 ·rfl
 ·show(Cq y.ver&&has (Ee q.set) (place y.ver))=true
  have:=Jh hv
  rw[hv,Fx,hq];unfold Lo;simp[this.1,this.2]
theorem SU{q:Rq}{y:Sl}(hq:has q.set (place y.ver)=true):Db (Dx q) (some y)=false:=by
 show(Cq y.ver&&has (Ee q.set) (place y.ver))=false;rw[Fx,hq];simp
structure ov(x:List Rl)(roots:List Rq)(S:List Sl)(n:Nd):Prop where
 inf:∀d,DN x roots d (Su n)=some (IT n)
 viol:Bb (IT n) S=true
 raw:∀S',FV S'→Bb (IT n) S'=Bb (MH n) S'
 form:KG (IT n)
 inU:∀U:List ByteArray,(n.path≠mt→n.path∈U)→n.rq.path∈U→TY U (IT n)
 path:n.path≠mt→Ct S n.path=true
theorem QV{x:List Rl}{roots:List Rq}(hx:AU x=0)(hr:BL roots=0){E:List Cd}(hE:Ey x E){n:Nd}(hn:n∈Dj roots E)
  (hv:BX (AJ E) n.rq.path=none∨∃y,BX (AJ E) n.rq.path=some y∧has n.rq.set (place y.ver)=false):ov x roots (AJ E) n:=by
 have hV:=hE.valid hx;have eP:Db (Dx n.rq) (BX (AJ E) n.rq.path)=true:=Qr (hv.imp id fun⟨y,h1,h2⟩=>⟨y,h1,hV y (I6 h1),h2⟩)
 -- the raw list is Bb here,and not elsewhere
 have Ni:n.rq.set≠[]∧Ew n.rq.set:=by
  rcases LW hn with ⟨k,q,h1,rfl⟩ | ⟨c,hc,k,q,h1,rfl⟩
  ·exact KL hr q (Ar h1)
  ·exact((Co hx).1 _ (hE.cand c hc).1).set q (Ar h1)
 have VE:Bb (MH n) (AJ E)=true∧(n.path≠mt→Ct (AJ E) n.path=true):=by
  rcases LW hn with ⟨k,q,h1,rfl⟩ | ⟨c,hc,k,q,h1,rfl⟩
  ·refine⟨?_,fun h=>absurd rfl h⟩;unfold MH;rw[Aq rfl,Bx];intro u hu;rw[Am.1 hu];exact eP
  ·have Dt:=SW ((Co hx).1 _ (hE.cand c hc).1);refine⟨?_,fun _=>by rw[JA,hE.find hc];rfl⟩;unfold MH;rw[Ai Dt,Bx];intro u hu;rcases Av.1 hu with rfl | hu
   ·show Db _ (BX (AJ E) c.rel.path)=true;rw[hE.find hc];show(Cq c.rel.ver&&has [(c.place,c.place+1)] (place c.rel.ver))=true;have Gl:=(Co hx).1 _ (hE.cand c hc).1;have hp:=Jh Gl.val;rw[Gl.val,(hE.cand c hc).2.2,Gl.plc];unfold has;simp[BE,hp.1,hp.2];omega
   ·rw[Am.1 hu];exact eP
 have ul:∃S',FV S'∧Bb (MH n) S'=false:=by
  unfold MH;split
  ·obtain⟨k,hk⟩:=ZX Ni.1 Ni.2;have ii:=LI hk;refine⟨[⟨n.rq.path,OQ k⟩],fun y hy=>by rw[Am.1 hy];exact EQ ii,?_⟩;rw[AM];intro h
   have:=Bx.1 h (Dx n.rq) (Am.2 rfl)
   rw[show(Dx n.rq).path=n.rq.path from rfl,show BX [(⟨n.rq.path,OQ k⟩:Sl)] n.rq.path=some ⟨n.rq.path,OQ k⟩ by unfold BX;simp,SU (by rw[show(⟨n.rq.path,OQ k⟩:Sl).ver=OQ k from rfl,GU];exact hk)]at this;cases this
  ·refine⟨[],fun y hy=>(by cases hy),?_⟩;rw[AM];intro h
   have:=Bx.1 h _ (Ab ..)
   cases this
 obtain⟨VE,p7⟩:=VE;have Dt:Pq (MH n)≠[]:=by
  obtain⟨S',v',n'⟩:=ul;have c1:=CN (l:=MH n) hV;have c2:=CN (l:=MH n) v';unfold Pq;cases hc:CD (MH n)with
  |none=>rw[hc,VE]at c1;cases c1
  |some c =>
   rw[hc,n']at c2;intro e;have e:c=[]:=e;rw[e]at c2;cases c2
 have kR:∀S',FV S'→Bb (IT n) S'=Bb (MH n) S':=fun S' v=>by rw[Ol];exact Pr v Dt
 refine⟨fun d=>?_,by rw[kR _ hV];exact VE,kR,by rw[Ol];exact LY _,fun U h1 h2=>?_,p7⟩
 ·rcases LW hn with ⟨k,q,h1,rfl⟩ | ⟨c,hc,k,q,h1,rfl⟩
  ·show DN x roots d (if(mt:ByteArray)=mt then⟨0,mt,0,(k:Nat),0,0⟩else _)=some (if(mt:ByteArray)=mt then Jj q else _);rw[Aq rfl,Aq rfl];show(if mt=mt∧(0:Int)=0∧(0:Int)=0∧(0:Int)=0 then(Jf roots (k:Nat)).map Jj else none)=some (Jj q);rw[Aq ⟨rfl,rfl,rfl,rfl⟩];unfold Jf;rw[Ai (by omega),Cg,h1];rfl
  ·have Gl:=(Co hx).1 _ (hE.cand c hc).1;have Tu:=SW Gl;have uA:OD x c.rel.path c.place=some c.rel:=by
    unfold OD;cases hf:x.find? fun r=>decide (r.path=c.rel.path)&&decide (plc r.ver=c.place)with
    |none =>
     rw[DO]at hf;exact absurd (by simp[(hE.cand c hc).2.2]) (hf c.rel (hE.cand c hc).1)
    |some r =>
     have h2:=EF hf;simp only[Ae,Au]at h2;have eT:=Cb hf;have ur:=(Co hx).1 r eT;rw[ZU (Co hx) eT (hE.cand c hc).1 h2.1 (by rw[←ur.plc,h2.2,(hE.cand c hc).2.2,Gl.plc])]
   have e1:Su ⟨q,c.rel.path,c.place,(k:Nat)⟩=⟨1,c.rel.path,c.place,(k:Nat),0,0⟩:=by unfold Su;rw[Ai Tu]
   have e2:IT ⟨q,c.rel.path,c.place,(k:Nat)⟩=Ed c.rel.path c.place q:=by unfold IT;rw[Ai Tu]
   rw[e1,e2];unfold DN;rw[Ai (show ¬((1:Int)=0) by decide),Aq rfl,Aq ⟨rfl,rfl⟩];dsimp only;rw[uA];dsimp only;unfold Jf;rw[Ai (by omega),Cg,h1];dsimp only;unfold bF;rw[Ai];rw[GB,←e2,Ol];exact Dt
 ·rw[Ol];refine SQ fun u hu=>?_;unfold MH at hu;split at hu
  ·rw[Am.1 hu];exact h2
  ·rename_i hm;rcases Av.1 hu with rfl | hu
   ·exact h1 hm
   ·rw[Am.1 hu];exact h2
structure iy(D:List Sl)(U:List ByteArray)(p:ByteArray)(t:List Tm)(C:Int→Prop):Prop where
 form:KG t
 inU:TY U t
 conc:CO t p=true
 one:∃S,Wm D p S∧Bb t S=true
 cov:∀k:Int,0≤k→k<1000000→C k→Bb t (JZ D p (OQ k))=true
structure lw(D:List Sl)(U:List ByteArray)(p:ByteArray)(t:List Tm)(C:Int→Prop):Prop where
 form:KG t
 inU:TY U t
 none_:Bb t D=true
 cov:∀k:Int,0≤k→k<1000000→C k→Bb t (JZ D p (OQ k))=true
theorem Fg.forms{x:List Rl}{roots:List Rq}{s:SS}(h:Fg x roots s):∀k,KG (DF s k):=fun k=>by
 unfold DF;rw[BP];cases e:s.drv[k]? with
 |none=>exact Od
 |some t=>exact ML (fun _ h=>by cases h) h.der t (Ar e)
theorem Uv{x:List Rl}{roots:List Rq}{d:List (List Tm)}{k r:Nat}{p:ByteArray}(hk:k<d.length)(hr:r<d.length)(h0:(Bq (d.getD k []) (d.getD r []) p).2=0) :
  DN x roots d ⟨3,p,0,0,(k:Nat),(r:Nat)⟩=some (Bq (d.getD k []) (d.getD r []) p).1:=by
 have e:∀j:Nat,j<d.length→Jf d (j:Nat)=some (d.getD j []):=fun j hj=>by
  unfold Jf;rw[Ai (by omega),Cg,BP,As hj];rfl
 unfold DN;rw[Ai (show ¬((3:Int)=0) by decide),Ai (show ¬((3:Int)=1) by decide),Ai (show ¬((3:Int)=2) by decide),Aq rfl,Aq ⟨rfl,rfl⟩];dsimp only;rw[e k hk,e r hr];dsimp only;rw[Aq h0]
theorem Np{x:List Rl}{roots:List Rq}{D:List Sl}{U:List ByteArray}{p:ByteArray}(hD:FV D):∀(l:List (Nat×(Int→Prop))) {k:Nat} {s:SS} {C:Int→Prop},Fg x roots s→k<s.drv.length→(∀y∈l,y.1<s.drv.length) →
  (s.full=false→lw D U p (DF s k) C∧∀y∈l,iy D U p (DF s y.1) y.2) →
  Fg x roots (B8 p (l.map (·.1)) k s).2∧Grow s (B8 p (l.map (·.1)) k s).2∧(B8 p (l.map (·.1)) k s).1<(B8 p (l.map (·.1)) k s).2.drv.length ∧
  ((B8 p (l.map (·.1)) k s).2.full=false→∃C',lw D U p (DF (B8 p (l.map (·.1)) k s).2 (B8 p (l.map (·.1)) k s).1) C' ∧
   (CO (DF (B8 p (l.map (·.1)) k s).2 (B8 p (l.map (·.1)) k s).1) p=false∨∀j,C j∨(∃y∈l,y.2 j)→C' j))
 | [],k,s,C,hd,hk,_,hA=>⟨hd,.refl s,hk,fun hf=>⟨C,(hA hf).1,.inr fun j hj=>hj.elim id fun⟨y,hy,_⟩=>(by cases hy)⟩⟩
 |y::l,k,s,C,hd,hk,hl,hA=>by
  rw[AK]
  by_cases h1:s.full=true∨CO (DF s k) p=false
  ·have e:B8 p (y.1::l.map (·.1)) k s=(k,s):=by unfold B8;rw[Aq h1]
   rw[e];refine⟨hd,.refl s,hk,fun hf=>⟨C,(hA hf).1,.inl (h1.resolve_left fun e=>?_)⟩⟩;have hf:s.full=false:=hf;rw[e]at hf;cases hf
  simp only[not_or,Bool.not_eq_true,Bool.not_eq_false]at h1;obtain⟨hf,Tt⟩:=h1;obtain⟨jc,tq⟩:=hA hf;have hy:=tq y (Ab ..);have hi:¬(s.full=true∨CO (DF s k) p=false):=by rw[hf,Tt];simp
  by_cases h2:y.1=k
  ·have e:B8 p (y.1::l.map (·.1)) k s=B8 p (l.map (·.1)) k s:=by conv=>lhs;unfold B8;rw[Ai hi,Aq h2]
   rw[e];have yt : lw D U p (DF s k) fun j=>C j∨y.2 j:=⟨jc.form,jc.inU,jc.none_,fun j j0 j1 hj=>hj.elim (jc.cov j j0 j1) fun h=>by rw[←h2];exact hy.cov j j0 j1 h⟩;obtain⟨i1,i2,i3,i4⟩:=Np hD l hd hk (fun z hz=>hl z (Ah _ hz)) (fun _=>⟨yt,fun z hz=>tq z (Ah _ hz)⟩);refine⟨i1,i2,i3,fun hf=>?_⟩;obtain⟨C',j1,j2⟩:=i4 hf;refine⟨C',j1,j2.imp id fun h j hj=>h j ?_⟩;rcases hj with hj | ⟨z,hz,hj⟩
   ·exact .inl (.inl hj)
   ·rcases Av.1 hz with rfl | hz
    ·exact .inl (.inr hj)
    ·exact .inr ⟨z,hz,hj⟩
  ·obtain⟨S2,o2,v2⟩:=hy.one;obtain⟨r1,r2⟩:=VU jc.form hy.form Tt hy.conc (.self hD) jc.none_ o2 v2;have e:B8 p (y.1::l.map (·.1)) k s=B8 p (l.map (·.1)) (D7 s ⟨3,p,0,0,k,y.1⟩ (Bq (DF s k) (DF s y.1) p).1).1 (D7 s ⟨3,p,0,0,k,y.1⟩ (Bq (DF s k) (DF s y.1) p).1).2:=by
    conv=>lhs;unfold B8;rw[Ai hi,Ai h2,Ai (fun h=>h r1)]
   rw[e];have zD:=hl y (Ab ..);obtain⟨a1,a2,a3⟩:=Ke hd (Uv (x:=x) (roots:=roots) hk zD r1);have hg:=Kf s ⟨3,p,0,0,(k:Nat),(y.1:Nat)⟩ (Bq (DF s k) (DF s y.1) p).1;generalize Wg : D7 s ⟨3,p,0,0,(k:Nat),(y.1:Nat)⟩ (Bq (DF s k) (DF s y.1) p).1=s' at *
   have a3:s'.2.full=false→DF s'.2 s'.1=(Bq (DF s k) (DF s y.1) p).1:=a3;obtain⟨i1,i2,i3,i4⟩:=Np hD (C:=fun j=>C j∨y.2 j) l a1 a2 (fun z hz=>Bu (hl z (Ah _ hz)) hg.len) (fun cR=>by
    refine⟨?_,fun z hz=>by rw[hg.at (hl z (Ah _ hz))];exact tq z (Ah _ hz)⟩;rw[a3 cR];exact⟨M0 _ _ _,Qu jc.inU hy.inU,r2 D (.self hD) (.inl jc.none_),fun j j0 j1 hj=>r2 _ (.ver hD (EQ ⟨j0,j1⟩)) (hj.imp (jc.cov j j0 j1) (hy.cov j j0 j1))⟩)
   refine⟨i1,hg.trans i2,i3,fun hf=>?_⟩;obtain⟨C',j1,j2⟩:=i4 hf;refine⟨C',j1,j2.imp id fun h j hj=>h j ?_⟩;rcases hj with hj | ⟨z,hz,hj⟩
   ·exact .inl (.inl hj)
   ·rcases Av.1 hz with rfl | hz
    ·exact .inl (.inr hj)
    ·exact .inr ⟨z,hz,hj⟩
def IC(roots:List Rq)(dec:List Cd):Prop:=∀q∈HA roots dec,∀d∈dec,d.rel.path=q.path→has q.set d.place=true
theorem IC.nil(roots:List Rq):IC roots []:=fun _ _ d h=>by cases h
theorem YY(roots:List Rq)(dec:List Cd)(c:Cd):HA roots (dec++[c])=HA roots dec++c.rel.reqs:=by
 unfold HA;rw[Az,Cv,BF];simp
theorem jZ(c:Cd):(Pw c).map (·.rq)=c.rel.reqs:=Ra (fun _ _=>rfl) _ _
theorem Yf{dec:List Cd}{c:Cd}(h:D4 dec c=none):∀q∈c.rel.reqs,∀d∈dec++[c],d.rel.path=q.path→has q.set d.place=true:=fun q hq d hd e=>by
 rw[←jZ]at hq;obtain⟨n,hn,rfl⟩:=Ak.1 hq;unfold D4 at h;rw[DO]at h
 have:=h n hn
 unfold ZD at this;rw[Bool.not_eq_true,F3]at this
 have:=this d hd
 rw[e]at this;simpa using this
theorem KM{dec:List Cd}{c:Cd}{n:Nd}(h:D4 dec c=some n):n∈Pw c∧∃d∈dec++[c],d.rel.path=n.rq.path∧has n.rq.set d.place=false:=by
 unfold D4 at h;have h1:=EF h;refine⟨Cb h,?_⟩;unfold ZD at h1;rw[Bd]at h1;obtain⟨d,hd,e⟩:=h1;simp only[Ae,Au,CG]at e;exact⟨d,hd,e⟩
theorem IC.snoc{roots:List Rq}{dec:List Cd}(h:IC roots dec){p:ByteArray}{needs:List Nd}(hN:nO roots dec p needs){c:Cd}(hc:c.rel.path=p)(hn:∀n∈needs,has n.rq.set c.place=true)(hk:D4 dec c=none):IC roots (dec++[c]):=by
 intro q hq d hd e;rw[YY]at hq;rcases AW.1 hq with hq | hq
 ·rcases AW.1 hd with hd | hd
  ·exact h q hq d hd e
  ·rw[Am.1 hd]at e⊢;rw[←Ms]at hq;obtain⟨n,W5,rfl⟩:=Ak.1 hq;exact hn n ((hN.mem n).2 ⟨W5,by rw[←e,hc]⟩)
 ·exact Yf hk q hq d hd e
def TT(y:Sl):List Sl→List Sl
 | []=>[y]
 |z::l=>if Ep y.path z.path then y::z::l else z::TT y l
def FP:List Sl→List Sl
 | []=>[]
 |y::l=>TT y (FP l)
theorem Sw{y z:Sl}:∀{l:List Sl},z∈TT y l↔z=y∨z∈l
 | []=>by simp[TT]
 |u::l=>by
  unfold TT;split
  ·simp
  ·rw[Av,Sw,Av];constructor
   ·rintro(h | h | h)
    ·exact .inr (.inl h)
    ·exact .inl h
    ·exact .inr (.inr h)
   ·rintro(h | h | h)
    ·exact .inr (.inl h)
    ·exact .inl h
    ·exact .inr (.inr h)
theorem H4{z:Sl}:∀{l:List Sl},z∈FP l↔z∈l
 | []=>by simp[FP]
 |u::l=>by unfold FP;rw[Sw,H4,Av]
theorem Xc{y:Sl}:∀{l:List Sl},U6 l→(∀z∈l,z.path≠y.path)→U6 (TT y l)
 | [],_,_=>by simp[TT,U6]
 |u::l,h,hn=>by
  obtain⟨h1,h2⟩:=BD.1 h;unfold TT;split
  ·rename_i hb;refine BD.2 ⟨fun z hz=>?_,h⟩;rcases Av.1 hz with rfl | hz
   ·exact hb
   ·exact DP hb (h1 z hz)
  ·rename_i hb;refine BD.2 ⟨fun z hz=>?_,Xc h2 fun z hz=>hn z (Ah _ hz)⟩;rcases Sw.1 hz with rfl | hz
   ·cases e:Ep u.path z.path with
    |true=>rfl
    |false =>
     have hb:Ep z.path u.path=false:=by simpa using hb
     exact absurd (Hi e hb) (hn u (Ab ..))
   ·exact h1 z hz
theorem PE:∀{l:List Sl},(l.map (·.path)).Nodup→U6 (FP l)
 | [],_=>List.Pairwise.nil
 |y::l,h=>by
  simp only[AK,CI]at h;exact Xc (PE h.2) fun z hz e=>h.1 (Ak.2 ⟨z,H4.1 hz,e⟩)
theorem Sr:∀{l:List Sl} {b:Option ByteArray},U6 l→(∀c,b=some c→∀y∈l,Ep c y.path=true)→Sq b l=true
 | [],_,_,_=>by unfold Sq;rfl
 |y::l,b,h,hb=>by
  obtain⟨h1,h2⟩:=BD.1 h;unfold Sq;cases b with
  |none=>simpa using Sr h2 fun c e z hz=>by cases e;exact h1 z hz
  |some c =>
   have:=hb c rfl y (Ab ..)
   simp only[this,Ev];exact Sr h2 fun c e z hz=>by cases e;exact h1 z hz
theorem ff{l:List Sl}(h:U6 l):FK l=true:=Sr h fun _ e=>by cases e
theorem HT{x:List Rl}(hx:AU x=0){r:Rl}(hr:r∈x):DJ x (Fc r)=some r:=by
 unfold DJ;rw[Ai (fun h=>h hx)];cases h:x.find? fun s=>decide (Fc s=Fc r)with
 |none =>
  rw[DO]at h;exact absurd (by simp) (h r hr)
 |some s =>
  have h1:=EF h;simp only[Au]at h1;rw[SA (Co hx).2 (Cb h) hr h1]
theorem Ey.sorted{x:List Rl}{dec:List Cd}(h:Ey x dec):U6 (FP (AJ dec)):=PE (by rw[No];exact h.nodup)
theorem Ey.findS{x:List Rl}{dec:List Cd}(h:Ey x dec){c:Cd}(hc:c∈dec):BX (FP (AJ dec)) c.rel.path=some (Sz c) :=
 MQ h.sorted (y:=Sz c) (H4.2 (Ak.2 ⟨c,hc,rfl⟩))
theorem fu{x:List Rl}{roots:List Rq}(hx:AU x=0){dec:List Cd}(h:Ey x dec)(hs:IC roots dec)(hl:Kr (HA roots dec) (AJ dec)=none):nP x roots (FP (AJ dec)):=by
 have GF:∀q∈HA roots dec,∃y,BX (FP (AJ dec)) q.path=some y∧has q.set (place y.ver)=true:=fun q hq=>by
  have:=YL hl q hq
  rw[KT]at this;obtain⟨y,hy,e⟩:=this;obtain⟨d,hd,rfl⟩:=Ak.1 hy;have e:d.rel.path=q.path:=e;refine⟨Sz d,by rw[←e];exact h.findS hd,?_⟩;have h1:=hs q hq d hd e;have Gl:=(Co hx).1 _ (h.cand d hd).1;rw[(h.cand d hd).2.2,Gl.plc]at h1;exact h1
 refine⟨hx,ff h.sorted,fun y hy=>?_,fun q hq=>GF q (Bn _ hq),fun y hy r hr q hq=>?_⟩
 ·obtain⟨d,hd,rfl⟩:=Ak.1 (H4.1 hy);exact⟨d.rel,HT hx (h.cand d hd).1,(h.cand d hd).2.1⟩
 ·obtain⟨d,hd,rfl⟩:=Ak.1 (H4.1 hy)
  have:DJ x (Sz d)=some d.rel:=HT hx (h.cand d hd).1
  rw[this]at hr;cases hr;exact GF q (Bf _ (Ej.2 ⟨_,Ak.2 ⟨d,hd,rfl⟩,hq⟩))
def bQ(dec:List Cd)(needs:List Nd)(c:Cd):Bool:=(needs.all fun n=>has n.rq.set c.place)&&(D4 dec c).isNone
def Nq(x:List Rl)(roots:List Rq):Nat→List Cd→List (List Cd)
 |0,_=>[]
 |n+1,dec=>match(Gs roots dec).2 with
  | []=>[dec]
  |n0::l=>((Cc x (Gs roots dec).1).map fun c=>if bQ dec (n0::l) c then Nq x roots n (dec++[c])else []).flatten
structure Lf(x:List Rl)(roots:List Rq)(dec d:List Cd):Prop where
 pre:dec <+: d
 ok:Ey x d
 sat:IC roots d
 stop:Kr (HA roots d) (AJ d)=none
theorem Jv{x:List Rl}{p:ByteArray}{c:Cd}(h:c∈Cc x p):c.rel.path=p∧(c.rel∈x∧c.rel.yanked=false∧c.place=plc c.rel.ver):=by
 obtain⟨r,h1,h2,h3,rfl⟩:=KI.1 h;exact⟨h2,h1,h3,rfl⟩
theorem OA{dec:List Cd}{needs:List Nd}{c:Cd}:bQ dec needs c=true↔(∀n∈needs,has n.rq.set c.place=true)∧D4 dec c=none:=by
 unfold bQ;rw[Ae,Bp,Option.isNone_iff_eq_none]
theorem UB{x:List Rl}{roots:List Rq}:∀{n:Nat} {dec:List Cd},Ey x dec→IC roots dec→∀d∈Nq x roots n dec,Lf x roots dec d
 |0,_,_,_,d,hd=>by cases hd
 |n+1,dec,h,hs,d,hd=>by
  unfold Nq at hd;split at hd
  ·rename_i e;rw[Am.1 hd];exact⟨MD,h,hs,SL.1 e⟩
  ·rename_i n0 l e;have hN:=Nw e;obtain⟨L,hL,hd⟩:=Ej.1 hd;obtain⟨c,hc,rfl⟩:=Ak.1 hL;split at hd
   ·rename_i Gl;obtain⟨h1,h2⟩:=OA.1 Gl;obtain⟨c1,c2⟩:=Jv hc;have bf:CY dec c.rel.path=false:=by rw[c1];exact hN.undone
    have:=UB (n:=n) (h.snoc c2 bf) (hs.snoc hN c1 h1 h2) d hd
    exact⟨(NL _ _).trans this.pre,this.ok,this.sat,this.stop⟩
   ·cases hd
theorem Lf.sol{x:List Rl}{roots:List Rq}(hx:AU x=0){dec d:List Cd}(h:Lf x roots dec d):nP x roots (FP (AJ d)):=fu hx h.ok h.sat h.stop
theorem jI{x:List Rl}{roots:List Rq}(hx:AU x=0){s:SS}(hd:Fg x roots s){k:Nat}(hk:k<s.drv.length){dec d:List Cd}(he:Cp (DF s k) (AJ dec)=true)(h:Lf x roots dec d):False:=by
 have hS:=h.sol hx;have hv:=Vp (s:=FP (AJ d)) hS.inc (fun y hy=>H4.2 (by
  obtain⟨c,hc,rfl⟩:=Ak.1 hy;obtain⟨t,e⟩:=h.pre;exact Ak.2 ⟨c,by rw[←e];exact Bn _ hc,rfl⟩)) he
 have hn:=Ly hS (d:=[]) (fun _ h=>by cases h) hd.der (DF s k) (by
  unfold DF;rw[BP,As hk];exact Ax hk)
 rw[hv]at hn;cases hn
theorem mT{x:List Rl}(h:AU x=0):x.length≤256:=by
 unfold AU at h;split at h
 ·cases h
 ·omega
theorem d8{l:List Rl}{k:Int}:(l.map fun r=>(plc r.ver,plc r.ver+1)).any (BE k)=true↔∃r∈l,plc r.ver=k:=by
 rw[Bd];constructor
 ·rintro⟨y,hy,h⟩
  obtain⟨r,hr,rfl⟩:=Ak.1 hy
  have:=DC.1 h
  exact⟨r,hr,by have h1:=this.1;have h2:=this.2;dsimp only at h1 h2;omega⟩
 ·rintro⟨r,hr,rfl⟩
  exact⟨_,Ak.2 ⟨r,hr,rfl⟩,DC.2 ⟨BO _,by dsimp only;omega⟩⟩
theorem T9{x:List Rl}(hx:AU x=0){p:ByteArray}{k:Int}:has (BZ x p) k=true↔∃c∈Cc x p,c.place=k:=by
 unfold BZ;rw[G0];unfold has JY;rw[Ai (fun h=>h hx)];simp only[Ae,Au];rw[d8];constructor
 ·rintro⟨_,r,hr,rfl⟩
  simp only[BH,Au,CG]at hr;exact⟨⟨plc r.ver,r⟩,KI.2 ⟨r,hr.1.1,hr.1.2,hr.2,rfl⟩,rfl⟩
 ·rintro⟨c,hc,rfl⟩
  obtain⟨r,h1,h2,h3,rfl⟩:=KI.1 hc;have Gl:=(Co hx).1 r h1
  have:=Jh Gl.val
  rw[←Gl.plc]at this;refine⟨⟨this.1,this.2⟩,r,?_,rfl⟩;simp only[BH,Au,CG];exact⟨⟨h1,h2⟩,h3⟩
theorem ab{x:List Rl}(hx:AU x=0)(p:ByteArray):∃k:Int,0≤k∧k<1000000∧has (BZ x p) k=false:=by
 apply AR;intro hn;have GF:∀k∈(List.range 257).map fun i:Nat=>(i:Int),k∈x.map fun r=>plc r.ver:=by
  intro k hk;obtain⟨i,hi,rfl⟩:=Ak.1 hk;have hi:=List.mem_range.1 hi;have hh:has (BZ x p) (i:Int)=true:=by
   cases e:has (BZ x p) (i:Int)with
   |true=>rfl
   |false=>exact absurd ⟨(i:Int),by omega,by omega,e⟩ hn
  obtain⟨c,hc,e⟩:=(T9 hx).1 hh;obtain⟨r,h1,_,_,rfl⟩:=KI.1 hc;exact Ak.2 ⟨r,h1,e⟩
 have:=H9 (List.pairwise_map.2 (List.nodup_range.imp fun h e=>h (Int.ofNat.inj e))) GF
 rw[A7,A7,PR]at this
 have:=mT hx
 omega
theorem KU(dec:List Cd)(c:Cd):AJ (dec++[c])=JZ (AJ dec) c.rel.path c.rel.ver:=by unfold AJ JZ;rw[Az];rfl
theorem Mj{t:List Tm}{S:List Sl}:Cp t S=true↔Bb t S=true∧∀u∈t,Ct S u.path=true:=by
 unfold Cp;rw[Ae,CG,F3];simp
section
variable {x:List Rl}{roots:List Rq}{dec:List Cd}{p:ByteArray}{needs:List Nd}
abbrev YQ(p:ByteArray)(dec:List Cd):List ByteArray:=p::(AJ dec).map (·.path)
theorem iT{c:Cd}{t:List Tm}(hf:KG t)(he:Cp t (AJ (dec++[c]))=true):TY (YQ c.rel.path dec) t:=by
 refine⟨EG hf,fun u hu=>?_⟩
 have:=(Mj.1 he).2 u hu
 rw[GZ,KU,Az]at this;rcases AW.1 this with h | h
 ·exact Ah _ h
 ·rw[AK,EU,Am]at h;rw[h];exact Ab ..
theorem dJ(hx:AU x=0)(hd:Ey x dec){c:Cd}(hc:c.rel∈x){t:List Tm}(he:Cp t (AJ (dec++[c]))=true)(hn:CO t c.rel.path=false):Cp t (AJ dec)=true:=by
 obtain⟨h1,h2⟩:=Mj.1 he;have Dt:=Jw hn;rw[KU]at h1 h2;refine Mj.2 ⟨?_,fun u hu=>?_⟩
 ·rw[KC (.self (hd.valid hx)) (.ver (hd.valid hx) ((Co hx).1 _ hc).val) Dt];exact h1
 ·have:=h2 u hu
  rw[Sc,Ci]at this;rcases this with h | h
  ·exact h
  ·rw[KT]at h;obtain⟨y,hy,e⟩:=h;rw[Am.1 hy]at e;exact absurd e.symm (Dt u hu)
theorem cq(hx:AU x=0)(hd:Ey x dec){c:Cd}(hc:c.rel∈x∧c.rel.yanked=false∧c.place=plc c.rel.ver)(hu:CY dec c.rel.path=false){t:List Tm}(hf:KG t)(he:Cp t (AJ (dec++[c]))=true)(hn:CO t c.rel.path=true) :
  iy (AJ dec) (YQ c.rel.path dec) c.rel.path t fun k=>k=c.place:=by
 have Gl:=(Co hx).1 _ hc.1;have hV:=hd.valid hx;have h1:=(Mj.1 he).1;rw[KU]at h1;refine⟨hf,iT hf he,hn,⟨_,.ver hV Gl.val,h1⟩,fun k k0 k1 e=>?_⟩;subst e;rw[Y7 (by rw[FJ];exact hu) (EQ ⟨k0,k1⟩) Gl.val (by rw[GU,hc.2.2,Gl.plc])];exact h1
theorem Ou(hx:AU x=0)(hr:BL roots=0){E:List Cd}(hE:Ey x E){n:Nd}(hn:n∈Dj roots E)(hv:∃d∈E,d.rel.path=n.rq.path∧has n.rq.set d.place=false) :
  (∀d,DN x roots d (Su n)=some (IT n))∧Cp (IT n) (AJ E)=true∧KG (IT n):=by
 obtain⟨d,hd,e,hs⟩:=hv;have Gl:=(Co hx).1 _ (hE.cand d hd).1;have hf:=hE.find hd;have hI:=QV hx hr hE hn (.inr ⟨Sz d,by rw[←e];exact hf,by rw[show(Sz d).ver=d.rel.ver from rfl,←Gl.plc,←(hE.cand d hd).2.2];exact hs⟩);refine⟨hI.inf,Mj.2 ⟨hI.viol,fun u hu=>?_⟩,hI.form⟩
 have:=(hI.inU ((AJ E).map (·.path)) (fun h=>GZ.1 (hI.path h)) (GZ.1 (by rw[JA,←e,hf];rfl))).2 u hu
 exact GZ.2 this
theorem bG(hx:AU x=0)(hr:BL roots=0)(hd:Ey x dec)(hN:nO roots dec p needs){c:Cd}(hc:c∈Cc x p){n:Nd}(hn:n∈needs)(hs:has n.rq.set c.place=false):CO (IT n) p=true:=by
 obtain⟨c1,c2⟩:=Jv hc;have hu:CY dec c.rel.path=false:=by rw[c1];exact hN.undone
 have hE:=hd.snoc c2 hu;obtain⟨cV,jl⟩:=(hN.mem n).1 hn;have Gl:=(Co hx).1 _ c2.1;have hI:=QV hx hr hE (Nt cV) (.inr ⟨Sz c,by rw[jl,←c1];exact hE.find (by simp),by rw[show(Sz c).ver=c.rel.ver from rfl,←Gl.plc,←c2.2.2];exact hs⟩);cases nX:CO (IT n) p with
 |true=>rfl
 |false =>
  exfalso
  have Ni:n.rq.set≠[]∧Ew n.rq.set:=by
   rcases LW cV with ⟨k,q,h1,rfl⟩ | ⟨c,hc,k,q,h1,rfl⟩
   ·exact KL hr q (Ar h1)
   ·exact((Co hx).1 _ (hd.cand c hc).1).set q (Ar h1)
  obtain⟨k,hk⟩:=ZX Ni.1 Ni.2;have ii:=LI hk;have hV:=hd.valid hx;have o1:Wm (AJ dec) p (JZ (AJ dec) p (OQ k)):=.ver hV (EQ ii);have o2:Wm (AJ dec) p (AJ (dec++[c])):=by rw[KU,c1];exact .ver hV Gl.val
  have h1:=KC o1 o2 (Jw nX);rw[hI.viol,hI.raw _ o1.val,Bx]at h1
  have:=h1 (Dx n.rq) (by unfold MH;split<;>simp)
  rw[show(Dx n.rq).path=p from jl,H1 (by rw[FJ];exact hN.undone),SU (by rw[show(⟨p,OQ k⟩:Sl).ver=OQ k from rfl,GU];exact hk)]at this;cases this
theorem bx(hx:AU x=0)(hr:BL roots=0)(hd:Ey x dec)(hN:nO roots dec p needs){n0:Nd}(h0:n0∈needs)(L:List (Nat×Cd))(hL:L.map (·.2)=Cc x p){s:SS}(hs:Fg x roots s)(Dz:∀y∈L,y.1<s.drv.length)
  (qb:s.full=false→∀y∈L,Cp (DF s y.1) (AJ (dec++[y.2]))=true∧CO (DF s y.1) p=true) :
  Fg x roots (DZ x p n0 (L.map (·.1)) s).2∧Grow s (DZ x p n0 (L.map (·.1)) s).2∧(DZ x p n0 (L.map (·.1)) s).1<(DZ x p n0 (L.map (·.1)) s).2.drv.length ∧
  ((DZ x p n0 (L.map (·.1)) s).2.full=false→Cp (DF (DZ x p n0 (L.map (·.1)) s).2 (DZ x p n0 (L.map (·.1)) s).1) (AJ dec)=true):=by
 have hV:=hd.valid hx;have oa:Ct (AJ dec) p=false:=by rw[FJ];exact hN.undone
 obtain⟨rN,p6⟩:=(hN.mem n0).1 h0;have hI:=QV hx hr hd rN (.inl (by rw[p6];exact Ho oa));unfold DZ;obtain⟨a1,a2,a3⟩:=Ke hs (hI.inf s.drv);have ag:=Kf s (Su n0) (IT n0);have a3:(Bg s n0).2.full=false→DF (Bg s n0).2 (Bg s n0).1=IT n0:=a3
 change Fg x roots (Bg s n0).2 at a1
 change (Bg s n0).1<(Bg s n0).2.drv.length at a2
 change Grow s (Bg s n0).2 at ag
 generalize Bg s n0=s1 at *
 -- the incompatibility of the places that are not available
 obtain⟨u,u0,u1,hu⟩:=ab hx p;have VE:∀k:Int,0≤k→k<1000000→has (BZ x p) k=false→Bb [(⟨p,false,Ee (BZ x p)⟩:Tm)] (JZ (AJ dec) p (OQ k))=true:=fun k k0 k1 hk=>by
  rw[Bx];intro t ht;rw[Am.1 ht];show Db _ (BX (JZ (AJ dec) p (OQ k)) p)=true;rw[H1 oa];show(Cq (OQ k)&&has (Ee (BZ x p)) (place (OQ k)))=true;rw[EQ ⟨k0,k1⟩,GU,Fx,hk];unfold Lo;simp[k0,k1]
 have kQ:Bb [(⟨p,false,Ee (BZ x p)⟩:Tm)] (AJ dec)=false:=by
  rw[AM];intro h
  have:=Bx.1 h _ (Ab ..)
  rw[show(⟨p,false,Ee (BZ x p)⟩:Tm).path=p from rfl,Ho oa]at this;cases this
 have ou:Wm (AJ dec) p (JZ (AJ dec) p (OQ u)):=.ver hV (EQ ⟨u0,u1⟩);have Dt:HM p (BZ x p)≠[]:=by
  have c1:=CN (l:=[(⟨p,false,Ee (BZ x p)⟩:Tm)]) ou.val;have c2:=CN (l:=[(⟨p,false,Ee (BZ x p)⟩:Tm)]) hV;rw[VE u u0 u1 hu]at c1;rw[kQ]at c2;unfold HM Pq;cases hc:CD [(⟨p,false,Ee (BZ x p)⟩:Tm)]with
  |none=>rw[hc]at c1;cases c1
  |some c =>
   rw[hc]at c2;intro e;have e:c=[]:=e;rw[e]at c2;cases c2
 have Lc:∀S,FV S→Bb (HM p (BZ x p)) S=Bb [(⟨p,false,Ee (BZ x p)⟩:Tm)] S:=fun S v=>Pr v Dt;have pF:CO (HM p (BZ x p)) p=true:=by
  cases h:CO (HM p (BZ x p)) p with
  |true=>rfl
  |false =>
   have:=KC ou (.self hV) (Jw h)
   rw[Lc _ ou.val,Lc _ hV,VE u u0 u1 hu,kQ]at this;cases this
 have mD:DN x roots s1.2.drv ⟨2,p,0,0,0,0⟩=some (HM p (BZ x p)):=by
  unfold DN;rw[Ai (show ¬((2:Int)=0) by decide),Ai (show ¬((2:Int)=1) by decide),Aq rfl,Aq ⟨rfl,rfl,rfl,rfl⟩];unfold bF;rw[Ai (by rw[GB];exact Dt)]
 obtain⟨b1,b2,b3⟩:=Ke a1 mD;have bg:=Kf s1.2 ⟨2,p,0,0,0,0⟩ (HM p (BZ x p));have b3:(Ef x p s1.2).2.full=false→DF (Ef x p s1.2).2 (Ef x p s1.2).1=HM p (BZ x p):=b3
 change Fg x roots (Ef x p s1.2).2 at b1
 change (Ef x p s1.2).1<(Ef x p s1.2).2.drv.length at b2
 change Grow s1.2 (Ef x p s1.2).2 at bg
 generalize Ef x p s1.2=s2 at *
 have pB:s2.2.full=false→s1.2.full=false∧s.full=false:=fun h=>by
  have h1:s1.2.full=false:=by
   cases e:s1.2.full with
   |false=>rfl
   |true=>rw[bg.full e]at h;cases h
  refine⟨h1,?_⟩;cases e:s.full with
  |false=>rfl
  |true=>rw[ag.full e]at h1;cases h1
 have main:=Np (D:=AJ dec) (U:=YQ p dec) (p:=p) hV ((s2.1,fun k=>has (BZ x p) k=false)::L.map fun y=>(y.1,fun k=>k=y.2.place)) (C:=fun k=>has n0.rq.set k=false) b1 (Bu a2 bg.len)
  (fun y hy=>by
   rcases Av.1 hy with rfl | hy
   ·exact b2
   ·obtain⟨z,hz,rfl⟩:=Ak.1 hy;exact Bu (Dz z hz) (ag.trans bg).len) (fun hf=>by
   obtain⟨f1,f0⟩:=pB hf;refine⟨?_,fun y hy=>?_⟩
   ·rw[bg.at a2,a3 f1];refine⟨hI.form,hI.inU _ (fun h=>Ah _ (GZ.1 (hI.path h))) (by rw[p6];exact Ab ..),hI.viol,fun k k0 k1 hk=>?_⟩;have ok:Wm (AJ dec) p (JZ (AJ dec) p (OQ k)):=.ver hV (EQ ⟨k0,k1⟩);rw[hI.raw _ ok.val,Bx];intro t ht;have VC:=Bx.1 ((hI.raw _ hV).symm.trans hI.viol) t ht;unfold MH at ht;have eP:Db (Dx n0.rq) (BX (JZ (AJ dec) p (OQ k)) (Dx n0.rq).path)=true:=by
     rw[show(Dx n0.rq).path=p from p6,H1 oa];exact Qr (.inr ⟨_,rfl,EQ ⟨k0,k1⟩,by rw[show(⟨p,OQ k⟩:Sl).ver=OQ k from rfl,GU];exact hk⟩)
    split at ht
    ·rw[Am.1 ht];exact eP
    ·rename_i hm;rcases Av.1 ht with rfl | ht
     ·have Dt:n0.path≠p:=fun e=>by
       have:=hI.path hm
       rw[e,oa]at this;cases this
      rw[show(⟨n0.path,false,[(n0.place,n0.place+1)]⟩:Tm).path=n0.path from rfl]at VC⊢;rw[ok.same _ Dt];exact VC
     ·rw[Am.1 ht];exact eP
   ·rcases Av.1 hy with rfl | hy
    ·show iy _ _ p (DF s2.2 s2.1) _;rw[b3 hf];refine⟨LY _,SQ (fun t ht=>by rw[Am.1 ht];exact Ab ..),pF,⟨_,ou,by rw[Lc _ ou.val];exact VE u u0 u1 hu⟩,fun k k0 k1 hk=>?_⟩;rw[Lc _ (Wm.ver hV (EQ ⟨k0,k1⟩)).val];exact VE k k0 k1 hk
    ·obtain⟨z,hz,rfl⟩:=Ak.1 hy;show iy _ _ p (DF s2.2 z.1) _;rw[(ag.trans bg).at (Dz z hz)];obtain⟨e1,e2⟩:=qb f0 z hz;have zH:z.2∈Cc x p:=by rw[←hL];exact Ak.2 ⟨z,hz,rfl⟩
     obtain⟨c1,c2⟩:=Jv zH
     have:=cq hx hd c2 (by rw[c1];exact hN.undone) (hs.forms z.1) e1 (by rw[c1];exact e2)
     rw[c1]at this;exact this)
 have uh:((s2.1,fun k=>has (BZ x p) k=false)::L.map fun y=>(y.1,fun k=>k=y.2.place)).map (·.1)=s2.1::L.map (·.1):=by
  rw[AK,BG];rfl
 rw[uh]at main;obtain⟨m1,m2,m3,m4⟩:=main;refine⟨m1,(ag.trans bg).trans m2,m3,fun hf=>?_⟩;obtain⟨C',q1,q2⟩:=m4 hf;have zn:CO (DF (B8 p (s2.1::L.map (·.1)) s1.1 s2.2).2 (B8 p (s2.1::L.map (·.1)) s1.1 s2.2).1) p=false:=by
  rcases q2 with q2 | q2
  ·exact q2
  ·refine fN oa q1.form q1.none_ fun k k0 k1=>q1.cov k k0 k1 (q2 k ?_);cases rO:has n0.rq.set k with
   |false=>exact .inl rfl
   |true =>
    cases ha:has (BZ x p) k with
    |false=>exact .inr ⟨_,Ab ..,ha⟩
    |true =>
     obtain⟨c,hc,e⟩:=(T9 hx).1 ha;rw[←hL]at hc;obtain⟨z,hz,rfl⟩:=Ak.1 hc;exact .inr ⟨_,Ah _ (Ak.2 ⟨z,hz,rfl⟩),e.symm⟩
 refine Mj.2 ⟨q1.none_,fun t ht=>?_⟩
 have:=q1.inU.2 t ht
 rcases Av.1 this with e | h
 ·exact absurd e (Jw zn t ht)
 ·exact GZ.2 h
end
def GH(s:SS)(b:List Cd)(p:ByteArray)(needs:List Nd):List Cd→List Sk→Prop
 | [],sk=>sk=[]
 |c::cs,sk=>if(needs.all fun n=>has n.rq.set c.place)=true then ∃(k:Nat) (rest:List Sk),sk=⟨p,c.place,k⟩::rest∧(k<s.drv.length∧Cp (DF s k) (AJ (b++[c]))=true)∧GH s b p needs cs rest
  else GH s b p needs cs sk
section
variable {s s' : SS}{b:List Cd}{p:ByteArray}{needs:List Nd}
theorem GH.out{c:Cd}(hc:¬(needs.all fun n=>has n.rq.set c.place)=true):∀{cs:List Cd} {sk:List Sk},GH s b p needs cs sk→GH s b p needs (cs++[c]) sk
 | [],sk,h=>by
  show(if _ then _ else _);rw[Ai hc];exact h
 |d::cs,sk,h=>by
  have h:if(needs.all fun n=>has n.rq.set d.place)=true then _ else _:=h
  show(if _ then _ else _)
  by_cases hd:(needs.all fun n=>has n.rq.set d.place)=true
  ·rw[Aq hd]at h⊢;obtain⟨k,rest,h1,h2,h3⟩:=h;exact⟨k,rest,h1,h2,GH.out hc h3⟩
  ·rw[Ai hd]at h⊢;exact GH.out hc h
theorem GH.add{c:Cd}(hc:(needs.all fun n=>has n.rq.set c.place)=true){k:Nat}(hk:k<s.drv.length∧Cp (DF s k) (AJ (b++[c]))=true):∀{cs:List Cd} {sk:List Sk},GH s b p needs cs sk→GH s b p needs (cs++[c]) (sk++[⟨p,c.place,k⟩])
 | [],sk,h=>by
  have h:sk=[]:=h;subst h;show(if _ then _ else _);rw[Aq hc];exact⟨k,[],rfl,hk,rfl⟩
 |d::cs,sk,h=>by
  have h:if(needs.all fun n=>has n.rq.set d.place)=true then _ else _:=h
  show(if _ then _ else _)
  by_cases hd:(needs.all fun n=>has n.rq.set d.place)=true
  ·rw[Aq hd]at h⊢;obtain⟨j,rest,rfl,h2,h3⟩:=h;exact⟨j,_,rfl,h2,GH.add hc hk h3⟩
  ·rw[Ai hd]at h⊢;exact GH.add hc hk h
theorem GH.mono(hg:Grow s s'):∀{cs:List Cd} {sk:List Sk},GH s b p needs cs sk→GH s' b p needs cs sk
 | [],_,h=>h
 |d::cs,sk,h=>by
  have h:if(needs.all fun n=>has n.rq.set d.place)=true then _ else _:=h
  show(if _ then _ else _)
  by_cases hd:(needs.all fun n=>has n.rq.set d.place)=true
  ·rw[Aq hd]at h⊢;obtain⟨j,rest,rfl,h2,h3⟩:=h;exact⟨j,rest,rfl,⟨Bu h2.1 hg.len,by rw[hg.at h2.1];exact h2.2⟩,h3.mono hg⟩
  ·rw[Ai hd]at h⊢;exact h.mono hg
end
structure lA(x:List Rl)(roots:List Rq)(s:SS)(b:List Cd)(c:Cd)(sk:List Sk)(p:ByteArray)(needs:List Nd)(pre post:List Cd):Prop where
 next:nO roots b p needs
 cands:Cc x p=pre++c::post
 fit:∀n∈needs,has n.rq.set c.place=true
 noclash:D4 b c=none
 skips:GH s b p needs pre sk
def Rh(x:List Rl)(roots:List Rq)(s:SS):List Cd→List Cd→List (List Sk)→Prop
 |b,[],[]=>Kr (HA roots b) (AJ b)=none
 |b,c::t,sk::st=>(∃p needs pre post,lA x roots s b c sk p needs pre post)∧Rh x roots s (b++[c]) t st
 |_,_,_=>False
structure U8(x:List Rl)(roots:List Rq)(ls:List (List Cd))(dec:List Cd)(s:SS)(st:List (List Sk))(o:JN):Prop where
 der:Fg x roots o.ss
 grow:Grow s o.ss
 no:o.found=false→o.dec=dec∧o.stack=st∧(o.ss.full=false→o.res<o.ss.drv.length∧Cp (DF o.ss o.res) (AJ dec)=true)
 yes:o.found=true→o.ss.full=false∧∃t sl,o.dec=dec++t∧o.stack=st++sl∧Rh x roots o.ss dec t sl∧ls.head?=some o.dec
section
variable {rec:List Cd→SS→List (List Sk)→JN}{x:List Rl}{roots:List Rq}{p:ByteArray}{needs:List Nd}{n0:Nd}{dec:List Cd}{st:List (List Sk)}
def Ju(rec:List Cd→SS→List (List Sk)→JN)(x:List Rl)(p:ByteArray)(needs:List Nd)(n0:Nd)(dec:List Cd)(st:List (List Sk))(c:Cd)(cs:List Cd)(FM:List Nat)(skips:List Sk)(k:Nat)(s:SS):JN :=
 if CO (DF s k) p=false then⟨k,false,s,dec,st⟩else DX rec x p needs n0 dec st cs s (FM++[k]) (skips++[⟨p,c.place,k⟩])
theorem F7(c:Cd)(cs:List Cd)(s:SS)(FM:List Nat)(skips:List Sk):DX rec x p needs n0 dec st (c::cs) s FM skips =
  if s.full=true then⟨0,false,s,dec,st⟩
  else match needs.find? fun n=>!has n.rq.set c.place with
   |some n=>DX rec x p needs n0 dec st cs (Bg s n).2 (FM++[(Bg s n).1]) skips
   |none=>match N1 s.drv (AJ (dec++[c]))with
    |some k=>Ju rec x p needs n0 dec st c cs FM skips k s
    |none=>match D4 dec c with
     |some n=>Ju rec x p needs n0 dec st c cs FM skips (Bg s n).1 (Bg s n).2
     |none=>if(rec (dec++[c]) s (st++[skips])).found=true then⟨0,true,(rec (dec++[c]) s (st++[skips])).ss,(rec (dec++[c]) s (st++[skips])).dec,(rec (dec++[c]) s (st++[skips])).stack⟩
      else if(rec (dec++[c]) s (st++[skips])).ss.full=true then⟨0,false,(rec (dec++[c]) s (st++[skips])).ss,dec,st⟩
      else Ju rec x p needs n0 dec st c cs FM skips (rec (dec++[c]) s (st++[skips])).res (rec (dec++[c]) s (st++[skips])).ss:=rfl
theorem Zv{s:SS}(hs:Fg x roots s){n:Nd}(h:∀d,DN x roots d (Su n)=some (IT n)):Fg x roots (Bg s n).2∧(Bg s n).1<(Bg s n).2.drv.length∧((Bg s n).2.full=false→DF (Bg s n).2 (Bg s n).1=IT n)∧Grow s (Bg s n).2:=by
 obtain⟨a1,a2,a3⟩:=Ke hs (h s.drv);exact⟨a1,a2,a3,Kf _ _ _⟩
theorem U8.grown{ls:List (List Cd)}{s s' : SS}{o:JN}(hg:Grow s s')(h:U8 x roots ls dec s' st o):U8 x roots ls dec s st o:=⟨h.der,hg.trans h.grow,h.no,h.yes⟩
theorem Uc(hx:AU x=0)(hr:BL roots=0)(hd:Ey x dec)(bl:IC roots dec)(hN:nO roots dec p needs)(h0:n0∈needs){lv:List Cd→List (List Cd)}(xf:∀c∈Cc x p,bQ dec needs c=true→∀d∈lv (dec++[c]),Lf x roots (dec++[c]) d)
  (bj:∀c∈Cc x p,bQ dec needs c=true→∀s st,Fg x roots s→s.full=false→U8 x roots (lv (dec++[c])) (dec++[c]) s st (rec (dec++[c]) s st)) :
  ∀(cs:List Cd) {s:SS} (L:List (Nat×Cd)) {skips:List Sk},L.map (·.2)++cs=Cc x p→Fg x roots s→(∀y∈L,y.1<s.drv.length)→(s.full=false→(∀y∈L,Cp (DF s y.1) (AJ (dec++[y.2]))=true∧CO (DF s y.1) p=true)∧GH s dec p needs (L.map (·.2)) skips) →
   U8 x roots (((Cc x p).map fun c=>if bQ dec needs c then lv (dec++[c])else []).flatten) dec s st (DX rec x p needs n0 dec st cs s (L.map (·.1)) skips)
 | [],s,L,skips,hL,hs,Dz,qb=>by
  rw[BT]at hL;obtain⟨l1,l2,l3,l4⟩:=bx hx hr hd hN h0 L hL hs Dz (fun hf=>(qb hf).1);exact⟨l1,l2,fun _=>⟨rfl,rfl,fun hf=>⟨l3,l4 hf⟩⟩,fun h=>(by cases h)⟩
 |c::cs,s,L,skips,hL,hs,Dz,qb=>by
  rw[F7]
  by_cases hf:s.full=true
  ·rw[Aq hf];exact⟨hs,.refl s,fun _=>⟨rfl,rfl,fun h=>by rw[show(⟨0,false,s,dec,st⟩:JN).ss=s from rfl,hf]at h;cases h⟩,fun h=>(by cases h)⟩
  rw[Ai hf];have hf:s.full=false:=by simpa using hf
  obtain⟨qc,mL⟩:=qb hf;have hc:c∈Cc x p:=by rw[←hL];simp
  obtain⟨c1,c2⟩:=Jv hc;have hu:CY dec c.rel.path=false:=by rw[c1];exact hN.undone
  have hE:=hd.snoc c2 hu
  -- on to the next candidate
  have go:∀(s' : SS) (k:Nat) (VX : List Sk),Fg x roots s'→Grow s s'→k<s'.drv.length→(s'.full=false→(Cp (DF s' k) (AJ (dec++[c]))=true∧CO (DF s' k) p=true)∧GH s' dec p needs (L.map (·.2)++[c]) VX) →
    U8 x roots (((Cc x p).map fun c=>if bQ dec needs c then lv (dec++[c])else []).flatten) dec s st (DX rec x p needs n0 dec st cs s' (L.map (·.1)++[k]) VX):=fun s' k VX Wg hg hk Dt=>by
   have:=Uc hx hr hd bl hN h0 xf bj cs (s:=s') (L++[(k,c)]) (skips:=VX) (by rw[Az,BF];exact hL) Wg
    (fun y hy=>by
     rcases AW.1 hy with hy | hy
     ·exact Bu (Dz y hy) hg.len
     ·rw[Am.1 hy];exact hk)
    (fun cR=>by
     obtain⟨e1,e2⟩:=Dt cR;refine⟨fun y hy=>?_,by rw[Az];exact e2⟩;rcases AW.1 hy with hy | hy
     ·rw[hg.at (Dz y hy)];exact qc y hy
     ·rw[Am.1 hy];exact e1)
   rw[Az]at this;exact this.grown hg
  cases my:needs.find? fun n=>!has n.rq.set c.place with
  |some n =>
   dsimp only;have cV:=Cb my;have jl:=EF my;have jl:has n.rq.set c.place=false:=by simpa using jl
   obtain⟨zk,zl⟩:=(hN.mem n).1 cV;obtain⟨e1,e2,e3⟩:=Ou hx hr hE (Nt zk) ⟨c,by simp,by rw[c1,zl],jl⟩;obtain⟨i1,i2,i3,i4⟩:=Zv hs e1;refine go _ _ _ i1 i4 i2 fun cR=>?_;rw[i3 cR];exact⟨⟨e2,bG hx hr hd hN hc cV jl⟩,GH.out (by
    intro h;rw[Bp]at h;rw[h n cV]at jl;cases jl) (mL.mono i4)⟩
  |none =>
   dsimp only;have Yw:∀n∈needs,has n.rq.set c.place=true:=fun n hn=>by
    rw[DO]at my;simpa using my n hn
   have GF:(needs.all fun n=>has n.rq.set c.place)=true:=by rw[Bp];exact Yw
   have lC:∀(s' : SS) (k:Nat),Fg x roots s'→Grow s s'→k<s'.drv.length→(s'.full=false→Cp (DF s' k) (AJ (dec++[c]))=true) →
     U8 x roots (((Cc x p).map fun c=>if bQ dec needs c then lv (dec++[c])else []).flatten) dec s st (Ju rec x p needs n0 dec st c cs (L.map (·.1)) skips k s'):=fun s' k Wg hg hk he=>by
    unfold Ju;cases nX:CO (DF s' k) p with
    |false =>
     rw[Aq rfl];exact⟨Wg,hg,fun _=>⟨rfl,rfl,fun cR=>⟨hk,dJ hx hd c2.1 (he cR) (by rw[c1];exact nX)⟩⟩,fun h=>(by cases h)⟩
    |true =>
     rw[Ai (by decide)];exact go _ _ _ Wg hg hk fun cR=>⟨⟨he cR,nX⟩,GH.add GF ⟨hk,he cR⟩ (mL.mono hg)⟩
   cases hen:N1 s.drv (AJ (dec++[c]))with
   |some k =>
    dsimp only;obtain⟨k1,k2⟩:=Kk hen;exact lC s k hs (.refl s) k1 fun _=>k2
   |none =>
    dsimp only;cases hcl:D4 dec c with
    |some n =>
     dsimp only;obtain⟨m1,m2⟩:=KM hcl;obtain⟨e1,e2,e3⟩:=Ou hx hr hE (Mt m1) m2;obtain⟨i1,i2,i3,i4⟩:=Zv hs e1;exact lC _ _ i1 i4 i2 fun cR=>by rw[i3 cR];exact e2
    |none =>
     dsimp only;have Gl:bQ dec needs c=true:=OA.2 ⟨Yw,hcl⟩;have hR:=bj c hc Gl s (st++[skips]) hs hf;generalize rec (dec++[c]) s (st++[skips])=o at hR
     by_cases eu:o.found=true
     ·rw[Aq eu];obtain⟨y1,t,sl,y2,y3,y4,y5⟩:=hR.yes eu;refine⟨hR.der,hR.grow,fun h=>(by cases h),fun _=>⟨y1,c::t,skips::sl,by show o.dec=_;rw[y2];simp,by show o.stack=_;rw[y3];simp,⟨⟨p,needs,L.map (·.2),cs,hN,hL.symm,Yw,hcl,mL.mono hR.grow⟩,y4⟩,?_⟩⟩;show _=some o.dec;rw[←hL,Az,Cv,AK,Bv];have uj:((L.map (·.2)).map fun c=>if bQ dec needs c then lv (dec++[c])else []).flatten=[]:=by
       rw[List.flatten_eq_nil_iff];intro l hl;obtain⟨d,ji,rfl⟩:=Ak.1 hl;obtain⟨y,hy,rfl⟩:=Ak.1 ji;split
       ·rename_i zr;have zE:y.2∈Cc x p:=by rw[←hL];exact Bn _ ji
        refine Li.2 fun d tV=>jI hx hs (Dz y hy) (qc y hy).1 (xf y.2 zE zr d tV)
       ·rfl
      rw[uj,Fp,Aq Gl,List.head?_append,y5];rfl
     ·rw[Ai eu];have eu:o.found=false:=by simpa using eu
      obtain⟨n1,n2,n3⟩:=hR.no eu
      by_cases mz:o.ss.full=true
      ·rw[Aq mz];exact⟨hR.der,hR.grow,fun _=>⟨rfl,rfl,fun h=>by rw[show(⟨0,false,o.ss,dec,st⟩:JN).ss=o.ss from rfl,mz]at h;cases h⟩,fun h=>(by cases h)⟩
      ·rw[Ai mz];have mz:o.ss.full=false:=by simpa using mz
       exact lC _ _ hR.der hR.grow (n3 mz).1 fun _=>(n3 mz).2
end
theorem RY{x:List Rl}{dec:List Cd}{c:Cd}(h:c.rel∈x∧c.rel.yanked=false)(hu:CY dec c.rel.path=false):Qd x (dec++[c])<Qd x dec:=by
 have key:∀l:List Rl,(l.filter fun r=>!r.yanked&&!CY (dec++[c]) r.path).length≤(l.filter fun r=>!r.yanked&&!CY dec r.path).length ∧
   (c.rel∈l→(l.filter fun r=>!r.yanked&&!CY (dec++[c]) r.path).length<(l.filter fun r=>!r.yanked&&!CY dec r.path).length):=by
  intro l
  induction l with
  |nil=>exact⟨Al _,fun h=>(by cases h)⟩
  |cons r l ih =>
   have eU:(!r.yanked&&!CY (dec++[c]) r.path)=true→(!r.yanked&&!CY dec r.path)=true:=fun e=>by
    simp only[Ae,CG]at e⊢;refine⟨e.1,?_⟩
    have:=e.2
    unfold CY at this⊢;rw[He,Bool.or_eq_false_iff]at this;exact this.1
   rw[CT,CT];refine⟨?_,fun hm=>?_⟩
   ·by_cases e:(!r.yanked&&!CY (dec++[c]) r.path)=true
    ·rw[Aq e,Aq (eU e)];simp;exact ih.1
    ·rw[Ai e];split
     ·simp;have:=ih.1;omega
     ·exact ih.1
   ·rcases Av.1 hm with rfl | hm
    ·have e1:¬(!c.rel.yanked&&!CY (dec++[c]) c.rel.path)=true:=by
      have:CY (dec++[c]) c.rel.path=true:=by unfold CY;simp
      rw[this];simp
     have e2:(!c.rel.yanked&&!CY dec c.rel.path)=true:=by rw[h.2,hu];rfl
     rw[Ai e1,Aq e2];simp;have:=ih.1;omega
    ·have:=ih.2 hm
     by_cases e:(!r.yanked&&!CY (dec++[c]) r.path)=true
     ·rw[Aq e,Aq (eU e)];simp;exact this
     ·rw[Ai e];split
      ·simp;omega
      ·exact this
 exact(key x).2 h.1
theorem PD{x:List Rl}{roots:List Rq}(hx:AU x=0)(hr:BL roots=0):∀(n:Nat) {dec:List Cd} {s:SS} {st:List (List Sk)},Ey x dec→IC roots dec→Fg x roots s→s.full=false→Qd x dec<n →
  U8 x roots (Nq x roots n dec) dec s st (CP x roots n dec s st)
 |0,_,_,_,_,_,_,_,h=>by omega
 |n+1,dec,s,st,hd,bl,hs,hf,hn=>by
  unfold CP Nq;cases e:(Gs roots dec).2 with
  |nil =>
   exact⟨hs,.refl s,fun h=>(by cases h),fun _=>⟨hf,[],[],by simp,by simp,SL.1 e,rfl⟩⟩
  |cons n0 l =>
   have hN:=Nw e;have next:∀c∈Cc x (Gs roots dec).1,bQ dec (n0::l) c=true→Ey x (dec++[c])∧IC roots (dec++[c])∧Qd x (dec++[c])<n:=fun c hc Gl=>by
    obtain⟨c1,c2⟩:=Jv hc;have hu:CY dec c.rel.path=false:=by rw[c1];exact hN.undone
    obtain⟨k1,k2⟩:=OA.1 Gl;exact⟨hd.snoc c2 hu,bl.snoc hN c1 k1 k2,by have:=RY (dec:=dec) ⟨c2.1,c2.2.1⟩ hu;omega⟩
   exact Uc hx hr hd bl hN (Ab ..) (lv:=Nq x roots n) (fun c hc Gl d ji=>UB (next c hc Gl).1 (next c hc Gl).2.1 d ji)
    (fun c hc Gl s st hs hf=>PD hx hr n (next c hc Gl).1 (next c hc Gl).2.1 hs hf (next c hc Gl).2.2) _ [] rfl hs (fun y hy=>by cases hy) (fun _=>⟨fun y hy=>(by cases hy),rfl⟩)
theorem dS(x:List Rl)(dec:List Cd):Qd x dec≤x.length:=BA _ _
theorem ct{x:List Rl}{roots:List Rq}(hx:AU x=0)(hr:BL roots=0):U8 x roots (Nq x roots (x.length+1) []) [] r9 [] (FA x roots) :=
 PD hx hr _ (.nil x) (.nil roots) (.nil x roots) rfl (by have:=dS x [];omega)
section
variable {x:List Rl}{roots:List Rq}{p:ByteArray}{needs:List Nd}{n0:Nd}{dec:List Cd}{st:List (List Sk)}
end
section
variable {x:List Rl}{roots:List Rq}{d:List (List Tm)}{i:Nf}
end
-- versions
end Go.Eng
