/- Lemmas for the claims of this seat, without a condition: part 3 (Q3, Q4, P15, Q5, Q6, Q7, Q8, P16). -/
import Derived.Test.YtmcbkdbfaneofaaGreatDoorFA02
namespace Go.Eng
theorem LU:∀{l:List Rq} {b:Option ByteArray},FR b l=0→∀q∈l,q.set≠[]∧EH q.set
 | [],_,_,q,hq=>by cases hq
 |r::l,b,h,q,hq=>by
  unfold FR at h;split at h
  ·rename_i e;rcases As.1 hq with rfl | hq
   ·unfold GJ at e
    by_cases h1:(Ct q.path).isNone=true
    ·rw[Aw h1]at e;exact absurd e (by decide)
    rw[Ai h1]at e;cases hE:q.set.isEmpty with
    |true=>rw[hE]at e;simp at e
    |false =>
     cases hD:decide (q.set=canon q.set)with
     |false=>rw[hD]at e;simp at e
     |true =>
      have h3:q.set=canon q.set:=Bq hD;exact⟨by simpa using hE,by rw[h3];exact Cp _⟩
   ·exact LU h q hq
  ·rename_i e;exact absurd h e
theorem KX{l:List Rq}(h:BU l=0):∀q∈l,q.set≠[]∧EH q.set:=by
 unfold BU at h;split at h
 ·cases h
 ·exact LU h
abbrev Po(k:Int):Ver:=⟨0,k / 1000,k % 1000⟩
theorem G5(k:Int):place (Po k)=k:=by unfold place;show 1000*(k / 1000)+k % 1000=k;omega
theorem EZ{k:Int}(h:0≤k∧k<1000000):CO (Po k)=true:=by
 unfold CO okPart;simp only[Ag];exact⟨⟨Ax (by omega),Ax (by omega)⟩,Ax (by omega)⟩
structure WQ(D:List Sl)(p:ByteArray)(S:List Sl):Prop where
 val:F3 S
 same:∀q,q≠p→Cc S q=Cc D q
abbrev Kd(D:List Sl)(p:ByteArray)(v:Ver):List Sl:=D++[⟨p,v⟩]
theorem J4(a b:List Sl)(p:ByteArray):Cc (a++b) p=(Cc a p).or (Cc b p):=by
 unfold Cc;rw[List.find?_append]
theorem Hx{s:List Sl}{p:ByteArray}(h:CI s p=false):Cc s p=none:=by
 rw[JN]at h;cases e:Cc s p with
 |none=>rfl
 |some y=>rw[e]at h;cases h
theorem WQ.self{D:List Sl}{p:ByteArray}(h:F3 D):WQ D p D:=⟨h,fun _ _=>rfl⟩
theorem WQ.ver{D:List Sl}{p:ByteArray}(h:F3 D){v:Ver}(hv:CO v=true):WQ D p (Kd D p v):=by
 refine⟨fun y hy=>?_,fun q hq=>?_⟩
 ·rcases A8.1 hy with hy | hy
  ·exact h y hy
  ·rw[Am.1 hy];exact hv
 ·rw[J4]
  have:Cc [(⟨p,v⟩:Sl)] q=none:=by unfold Cc;simp[Ne.symm hq]
  rw[this,Option.or_none]
theorem Ia{D:List Sl}{p:ByteArray}(hp:CI D p=false)(v:Ver):Cc (Kd D p v) p=some ⟨p,v⟩:=by
 rw[J4,Hx hp];unfold Cc;simp
theorem QM{D:List Sl}{p:ByteArray}(hp:CI D p=false){v v' : Ver}(hv:CO v=true)(s8 : CO v'=true)(e:place v=place v')(q:ByteArray)(t:Tm) :
  Dk t (Cc (Kd D p v) q)=Dk t (Cc (Kd D p v') q):=by
 by_cases hq:q=p
 ·subst hq;rw[Ia hp,Ia hp];show(CO v&&has t.set (place v))=(CO v'&&has t.set (place v'));rw[hv,s8,e]
 ·have h1:∀w:Ver,Cc (Kd D p w) q=Cc D q:=fun w=>by
   rw[J4]
   have:Cc [(⟨p,w⟩:Sl)] q=none:=by unfold Cc;simp[Ne.symm hq]
   rw[this,Option.or_none]
  rw[h1,h1]
theorem ZY{D:List Sl}{p:ByteArray}(hp:CI D p=false){v v' : Ver}(hv:CO v=true)(s8 : CO v'=true)(e:place v=place v')(t:List Tm):Bg t (Kd D p v)=Bg t (Kd D p v'):=by
 rw[BW,BC,BC];exact⟨fun h u hu=>by rw[←QM hp hv s8 e];exact h u hu,fun h u hu=>by rw[QM hp hv s8 e];exact h u hu⟩
theorem KO{D S S' : List Sl}{p:ByteArray}(h:WQ D p S)(h' : WQ D p S'){t:List Tm}(ht:∀u∈t,u.path≠p):Bg t S=Bg t S':=by
 rw[BW,BC,BC];exact⟨fun k u hu=>by rw[h'.same _ (ht u hu),←h.same _ (ht u hu)];exact k u hu,fun k u hu=>by rw[h.same _ (ht u hu),←h'.same _ (ht u hu)];exact k u hu⟩
theorem JJ{t:List Tm}{p:ByteArray}(h:Db t p=false):∀u∈t,u.path≠p:=fun u hu e=>by
 unfold Db at h;rw[Fs]at h;exact h u hu (by simpa using e)
theorem So{t:List Tm}{p:ByteArray}(h:Db t p=true):∃u∈t,u.path=p:=by
 unfold Db at h;rw[Bc]at h;obtain⟨u,hu,e⟩:=h;exact⟨u,hu,by simpa using e⟩
theorem TT{t:List Tm}{p:ByteArray}(hf:KQ t)(hc:Db t p=true):∃u r,Fq t p=some (u,r)∧u.path=p∧∀v∈r,v.path≠p:=by
 obtain⟨u,hu,e⟩:=So hc;have hs:=EO hf;have nK:=(FG hs).1 hu;rw[e]at nK;refine⟨u,FL t p,?_,e,fun v hv=>?_⟩
 ·unfold Fq;rw[show CR t=some t from hf];dsimp only;rw[nK]
 ·have:=(By.1 hv).2
  simpa using this
theorem Ww{D:List Sl}{p:ByteArray}{t b:List Tm}(fU:KQ t)(nJ:KQ b)(hct:Db t p=true)(uU:Db b p=true){S1 S2:List Sl}(h1:WQ D p S1)(v1:Bg t S1=true)(h2:WQ D p S2)(v2:Bg b S2=true) :
  (Bx t b p).2=0∧∀S,WQ D p S→Bg t S=true∨Bg b S=true→Bg (Bx t b p).1 S=true:=by
 obtain⟨u,r,e1,pu,nr⟩:=TT fU hct;obtain⟨w,m,e2,pw,nm⟩:=TT nJ uU;have key:∀S,WQ D p S→Bg t S=true∨Bg b S=true→Bg (r++m++[Dj u w]) S=true:=fun S hS hv=>by
  have r1:Bg r S=true:=by
   rw[KO hS h1 nr];rw[(FK h1.val e1).1,Ag]at v1;exact v1.2
  have m1:Bg m S=true:=by
   rw[KO hS h2 nm];rw[(FK h2.val e2).1,Ag]at v2;exact v2.2
  rw[GX,GX,r1,m1];simp only[EF];rw[BC];intro y hy;rw[Am.1 hy,show(Dj u w).path=p from pu,Ng,CG];rcases hv with hv | hv
  ·rw[(FK hS.val e1).1,Ag]at hv;exact .inl hv.1
  ·rw[(FK hS.val e2).1,Ag]at hv;exact .inr hv.1
 unfold Bx;rw[e1,e2];dsimp only;have c1:=Da (l:=r++m++[Dj u w]) h1.val;rw[key S1 h1 (.inl v1)]at c1;cases hc:CR (r++m++[Dj u w])with
 |none=>rw[hc]at c1;cases c1
 |some o =>
  dsimp only;refine⟨rfl,fun S hS hv=>?_⟩;have c2:=Da (l:=r++m++[Dj u w]) hS.val;rw[hc,key S hS hv]at c2;exact c2.symm
theorem g8{D:List Sl}{p:ByteArray}(hp:CI D p=false){t:List Tm}(hf:KQ t)(h0:Bg t D=true)(hk:∀k:Int,0≤k→k<1000000→Bg t (Kd D p (Po k))=true):Db t p=false:=by
 rw[AK];intro hc;obtain⟨u,hu,e⟩:=So hc;have ha:u.absent=true:=by
  have:=BC.1 h0 u hu
  rw[e,Hx hp]at this;exact this
 have hs:∀k:Int,0≤k→k<1000000→has u.set k=true:=fun k k0 k1=>by
  have:=BC.1 (hk k k0 k1) u hu
  rw[e,Ia hp]at this;unfold Dk at this;rw[Ag]at this
  have:=this.2
  rw[show(⟨p,Po k⟩:Sl).ver=Po k from rfl,G5]at this;exact this
 have pj:EH u.set:=Ce.canon (EO hf) u hu;have XC:u.set=[(0,1000000)]:=by
  refine Ht pj ⟨by decide,by decide,by decide,trivial⟩ fun k=>?_;rw[BW];constructor
  ·intro h
   have:=L7 h
   unfold has;simp[BL,this.1,this.2]
  ·intro h
   have:=L7 h
   exact hs k this.1 this.2
 have qA:Gu u=true:=by unfold Gu;rw[ha,XC];rfl
 have sO:CR t=some t:=hf;unfold CR at sO;split at sO
 ·cases sO
 ·have e2:=BP sO;rw[←e2]at hu
  have:=(By.1 hu).2
  rw[qA]at this;cases this
structure EA(x:List Rl)(dec:List Cd):Prop where
 cand:∀c∈dec,c.rel∈x∧c.rel.yanked=false∧c.place=plc c.rel.ver
 nodup:(dec.map fun c=>c.rel.path).Nodup
theorem EA.nil(x:List Rl):EA x []:=⟨fun _ h=>(by cases h),Fb⟩
theorem TB{r:Rl}(h:RT r):r.path≠mt:=fun e=>by
 have:=h.maj
 rw[e]at this;have h2:Ct mt=none:=by decide
 rw[h2]at this;cases this
theorem RT.set{r:Rl}(h:RT r):∀q∈r.reqs,q.set≠[]∧EH q.set:=KX h.reqs
theorem NJ(dec:List Cd):(AM dec).map (·.path)=dec.map fun c=>c.rel.path:=by unfold AM;rw[BN];rfl
theorem K5:∀{D:List Sl},(D.map (·.path)).Nodup→∀{y:Sl},y∈D→Cc D y.path=some y
 | [],_,y,h=>by cases h
 |z::D,hn,y,h=>by
  simp only[AN,CA]at hn;unfold Cc;rw[Fx];rcases As.1 h with rfl | h
  ·rw[Ax rfl]
  ·have:z.path≠y.path:=fun e=>hn.1 (Al.2 ⟨y,h,e.symm⟩)
   rw[Aq this];exact K5 hn.2 h
theorem EA.find{x:List Rl}{dec:List Cd}(h:EA x dec){c:Cd}(hc:c∈dec):Cc (AM dec) c.rel.path=some (Td c) :=
 K5 (by rw[NJ];exact h.nodup) (y:=Td c) (Al.2 ⟨c,hc,rfl⟩)
theorem EA.valid{x:List Rl}(hx:A5 x=0){dec:List Cd}(h:EA x dec):F3 (AM dec):=fun y hy=>by
 obtain⟨c,hc,rfl⟩:=Al.1 hy;exact((B9 hx).1 _ (h.cand c hc).1).val
theorem EA.snoc{x:List Rl}{dec:List Cd}(h:EA x dec){c:Cd}(hc:c.rel∈x∧c.rel.yanked=false∧c.place=plc c.rel.ver)(hd:Dg dec c.rel.path=false):EA x (dec++[c]):=by
 refine⟨fun d hd=>?_,?_⟩
 ·rcases A8.1 hd with hd | hd
  ·exact h.cand d hd
  ·rw[Am.1 hd];exact hc
 ·rw[AH,Gc];refine⟨h.nodup,by simp,fun a ha b hb e=>?_⟩;obtain⟨d,kr,rfl⟩:=Al.1 ha;simp only[AN,E5,Am]at hb;unfold Dg at hd;rw[Fs]at hd;exact hd d kr (by simpa using e.trans hb)
theorem Mh{roots:List Rq}{E:List Cd}{n:Nd}(h:n∈Ds roots E):(∃k q,roots[k]?=some q∧n=⟨q,mt,0,(k:Nat)⟩)∨∃c∈E,∃k q,c.rel.reqs[k]?=some q∧n=⟨q,c.rel.path,c.place,(k:Nat)⟩:=by
 unfold Ds at h;rcases A8.1 h with h | h
 ·obtain⟨k,q,h1,h2⟩:=X7 h;exact .inl ⟨k,q,h1,h2⟩
 ·obtain⟨l,hl,hn⟩:=Eu.1 h;obtain⟨c,hc,rfl⟩:=Al.1 hl;obtain⟨k,q,h1,h2⟩:=X7 hn;exact .inr ⟨c,hc,k,q,h1,h2⟩
theorem NQ{roots:List Rq}{dec:List Cd}{c:Cd}{n:Nd}(h:n∈Ds roots dec):n∈Ds roots (dec++[c]):=by
 unfold Ds at *
 rw[AH,CL,←AP];exact Bo _ h
theorem ML{roots:List Rq}{dec:List Cd}{c:Cd}{n:Nd}(h:n∈PZ c):n∈Ds roots (dec++[c]):=by
 unfold Ds;rw[AH,CL,←AP];exact Bk _ (by simpa using h)
def MZ(n:Nd):List Tm:=if n.path=mt then [DI n.rq]else [⟨n.path,false,[(n.place,n.place+1)]⟩,DI n.rq]
theorem ON(n:Nd):I0 n=PU (MZ n):=by unfold I0 MZ Ju El;split<;>rfl
theorem bo{s:Bj}(h:s≠[])(hc:EH s):∃k,has s k=true:=by
 match s,h,hc with
 |x::r,_,hc =>
  have:=EL.low hc x (Ab ..)
  refine⟨x.1,?_⟩;unfold has;have h1:BL x.1 x=true:=DQ.2 ⟨AY _,this.2.1⟩;simp only[Cf,h1,Bool.true_or,Bool.and_true,Ag,Ay];omega
theorem QY{q:Rq}{o:Option Sl}(h:o=none∨∃y,o=some y∧CO y.ver=true∧has q.set (place y.ver)=false):Dk (DI q) o=true:=by
 rcases h with rfl | ⟨y,rfl,hv,hq⟩
 ·rfl
 ·show(CO y.ver&&has (Eg q.set) (place y.ver))=true
  have:=Js hv
  rw[hv,FH,hq];unfold LG;simp[this.1,this.2]
theorem Tz{q:Rq}{y:Sl}(hq:has q.set (place y.ver)=true):Dk (DI q) (some y)=false:=by
 show(CO y.ver&&has (Eg q.set) (place y.ver))=false;rw[FH,hq];simp
structure pH(x:List Rl)(roots:List Rq)(S:List Sl)(n:Nd):Prop where
 inf:∀d,DW x roots d (S8 n)=some (I0 n)
 viol:Bg (I0 n) S=true
 raw:∀S',F3 S'→Bg (I0 n) S'=Bg (MZ n) S'
 form:KQ (I0 n)
 inU:∀U:List ByteArray,(n.path≠mt→n.path∈U)→n.rq.path∈U→Uu U (I0 n)
 path:n.path≠mt→CI S n.path=true
theorem Ry{x:List Rl}{roots:List Rq}(hx:A5 x=0)(hr:BU roots=0){E:List Cd}(hE:EA x E){n:Nd}(hn:n∈Ds roots E)
  (hv:Cc (AM E) n.rq.path=none∨∃y,Cc (AM E) n.rq.path=some y∧has n.rq.set (place y.ver)=false):pH x roots (AM E) n:=by
 have hV:=hE.valid hx;have gl:Dk (DI n.rq) (Cc (AM E) n.rq.path)=true:=QY (hv.imp id fun⟨y,h1,h2⟩=>⟨y,h1,hV y (Jd h1),h2⟩)
 -- the raw list is Bg here,and not elsewhere
 have NF:n.rq.set≠[]∧EH n.rq.set:=by
  rcases Mh hn with ⟨k,q,h1,rfl⟩ | ⟨c,hc,k,q,h1,rfl⟩
  ·exact KX hr q (Av h1)
  ·exact((B9 hx).1 _ (hE.cand c hc).1).set q (Av h1)
 have Wg:Bg (MZ n) (AM E)=true∧(n.path≠mt→CI (AM E) n.path=true):=by
  rcases Mh hn with ⟨k,q,h1,rfl⟩ | ⟨c,hc,k,q,h1,rfl⟩
  ·refine⟨?_,fun h=>absurd rfl h⟩;unfold MZ;rw[Aw rfl,BC];intro u hu;rw[Am.1 hu];exact gl
  ·have DE:=TB ((B9 hx).1 _ (hE.cand c hc).1);refine⟨?_,fun _=>by rw[JN,hE.find hc];rfl⟩;unfold MZ;rw[Ai DE,BC];intro u hu;rcases As.1 hu with rfl | hu
   ·show Dk _ (Cc (AM E) c.rel.path)=true;rw[hE.find hc];show(CO c.rel.ver&&has [(c.place,c.place+1)] (place c.rel.ver))=true;have Gz:=(B9 hx).1 _ (hE.cand c hc).1;have hp:=Js Gz.val;rw[Gz.val,(hE.cand c hc).2.2,Gz.plc];unfold has;simp[BL,hp.1,hp.2];omega
   ·rw[Am.1 hu];exact gl
 have vt:∃S',F3 S'∧Bg (MZ n) S'=false:=by
  unfold MZ;split
  ·obtain⟨k,hk⟩:=bo NF.1 NF.2;have jt:=L7 hk;refine⟨[⟨n.rq.path,Po k⟩],fun y hy=>by rw[Am.1 hy];exact EZ jt,?_⟩;rw[AK];intro h
   have:=BC.1 h (DI n.rq) (Am.2 rfl)
   rw[show(DI n.rq).path=n.rq.path from rfl,show Cc [(⟨n.rq.path,Po k⟩:Sl)] n.rq.path=some ⟨n.rq.path,Po k⟩ by unfold Cc;simp,Tz (by rw[show(⟨n.rq.path,Po k⟩:Sl).ver=Po k from rfl,G5];exact hk)]at this;cases this
  ·refine⟨[],fun y hy=>(by cases hy),?_⟩;rw[AK];intro h
   have:=BC.1 h _ (Ab ..)
   cases this
 obtain⟨Wg,re⟩:=Wg;have DE:PU (MZ n)≠[]:=by
  obtain⟨S',v',n'⟩:=vt;have c1:=Da (l:=MZ n) hV;have c2:=Da (l:=MZ n) v';unfold PU;cases hc:CR (MZ n)with
  |none=>rw[hc,Wg]at c1;cases c1
  |some c =>
   rw[hc,n']at c2;intro e;have e:c=[]:=e;rw[e]at c2;cases c2
 have mp:∀S',F3 S'→Bg (I0 n) S'=Bg (MZ n) S':=fun S' v=>by rw[ON];exact PV v DE
 refine⟨fun d=>?_,by rw[mp _ hV];exact Wg,mp,by rw[ON];exact Mj _,fun U h1 h2=>?_,re⟩
 ·rcases Mh hn with ⟨k,q,h1,rfl⟩ | ⟨c,hc,k,q,h1,rfl⟩
  ·show DW x roots d (if(mt:ByteArray)=mt then⟨0,mt,0,(k:Nat),0,0⟩else _)=some (if(mt:ByteArray)=mt then Ju q else _);rw[Aw rfl,Aw rfl];show(if mt=mt∧(0:Int)=0∧(0:Int)=0∧(0:Int)=0 then(Jp roots (k:Nat)).map Ju else none)=some (Ju q);rw[Aw ⟨rfl,rfl,rfl,rfl⟩];unfold Jp;rw[Ai (by omega),Cj,h1];rfl
  ·have Gz:=(B9 hx).1 _ (hE.cand c hc).1;have TY:=TB Gz;have vI:Pc x c.rel.path c.place=some c.rel:=by
    unfold Pc;cases hf:x.find? fun r=>decide (r.path=c.rel.path)&&decide (plc r.ver=c.place)with
    |none =>
     rw[DB]at hf;exact absurd (by simp[(hE.cand c hc).2.2]) (hf c.rel (hE.cand c hc).1)
    |some r =>
     have h2:=DK hf;simp only[Ag,Ay]at h2;have gp:=BO hf;have vA:=(B9 hx).1 r gp;rw[bl (B9 hx) gp (hE.cand c hc).1 h2.1 (by rw[←vA.plc,h2.2,(hE.cand c hc).2.2,Gz.plc])]
   have e1:S8 ⟨q,c.rel.path,c.place,(k:Nat)⟩=⟨1,c.rel.path,c.place,(k:Nat),0,0⟩:=by unfold S8;rw[Ai TY]
   have e2:I0 ⟨q,c.rel.path,c.place,(k:Nat)⟩=El c.rel.path c.place q:=by unfold I0;rw[Ai TY]
   rw[e1,e2];unfold DW;rw[Ai (show ¬((1:Int)=0) by decide),Aw rfl,Aw ⟨rfl,rfl⟩];dsimp only;rw[vI];dsimp only;unfold Jp;rw[Ai (by omega),Cj,h1];dsimp only;unfold cS;rw[Ai];rw[GO,←e2,ON];exact DE
 ·rw[ON];refine Ty fun u hu=>?_;unfold MZ at hu;split at hu
  ·rw[Am.1 hu];exact h2
  ·rename_i hm;rcases As.1 hu with rfl | hu
   ·exact h1 hm
   ·rw[Am.1 hu];exact h2
structure jH(D:List Sl)(U:List ByteArray)(p:ByteArray)(t:List Tm)(C:Int→Prop):Prop where
 form:KQ t
 inU:Uu U t
 conc:Db t p=true
 one:∃S,WQ D p S∧Bg t S=true
 cov:∀k:Int,0≤k→k<1000000→C k→Bg t (Kd D p (Po k))=true
structure mK(D:List Sl)(U:List ByteArray)(p:ByteArray)(t:List Tm)(C:Int→Prop):Prop where
 form:KQ t
 inU:Uu U t
 none_:Bg t D=true
 cov:∀k:Int,0≤k→k<1000000→C k→Bg t (Kd D p (Po k))=true
theorem Fr.forms{x:List Rl}{roots:List Rq}{s:SS}(h:Fr x roots s):∀k,KQ (DR s k):=fun k=>by
 unfold DR;rw[Ck];cases e:s.drv[k]? with
 |none=>exact OE
 |some t=>exact M4 (fun _ h=>by cases h) h.der t (Av e)
theorem U4{x:List Rl}{roots:List Rq}{d:List (List Tm)}{k r:Nat}{p:ByteArray}(hk:k<d.length)(hr:r<d.length)(h0:(Bx (d.getD k []) (d.getD r []) p).2=0) :
  DW x roots d ⟨3,p,0,0,(k:Nat),(r:Nat)⟩=some (Bx (d.getD k []) (d.getD r []) p).1:=by
 have e:∀j:Nat,j<d.length→Jp d (j:Nat)=some (d.getD j []):=fun j hj=>by
  unfold Jp;rw[Ai (by omega),Cj,Ck,AA hj];rfl
 unfold DW;rw[Ai (show ¬((3:Int)=0) by decide),Ai (show ¬((3:Int)=1) by decide),Ai (show ¬((3:Int)=2) by decide),Aw rfl,Aw ⟨rfl,rfl⟩];dsimp only;rw[e k hk,e r hr];dsimp only;rw[Aw h0]
theorem NK{x:List Rl}{roots:List Rq}{D:List Sl}{U:List ByteArray}{p:ByteArray}(hD:F3 D):∀(l:List (Nat×(Int→Prop))) {k:Nat} {s:SS} {C:Int→Prop},Fr x roots s→k<s.drv.length→(∀y∈l,y.1<s.drv.length) →
  (s.full=false→mK D U p (DR s k) C∧∀y∈l,jH D U p (DR s y.1) y.2) →
  Fr x roots (Cn p (l.map (·.1)) k s).2∧Grow s (Cn p (l.map (·.1)) k s).2∧(Cn p (l.map (·.1)) k s).1<(Cn p (l.map (·.1)) k s).2.drv.length ∧
  ((Cn p (l.map (·.1)) k s).2.full=false→∃C',mK D U p (DR (Cn p (l.map (·.1)) k s).2 (Cn p (l.map (·.1)) k s).1) C' ∧
   (Db (DR (Cn p (l.map (·.1)) k s).2 (Cn p (l.map (·.1)) k s).1) p=false∨∀j,C j∨(∃y∈l,y.2 j)→C' j))
 | [],k,s,C,hd,hk,_,hA=>⟨hd,.refl s,hk,fun hf=>⟨C,(hA hf).1,.inr fun j hj=>hj.elim id fun⟨y,hy,_⟩=>(by cases hy)⟩⟩
 |y::l,k,s,C,hd,hk,hl,hA=>by
  rw[AN]
  by_cases h1:s.full=true∨Db (DR s k) p=false
  ·have e:Cn p (y.1::l.map (·.1)) k s=(k,s):=by unfold Cn;rw[Aw h1]
   rw[e];refine⟨hd,.refl s,hk,fun hf=>⟨C,(hA hf).1,.inl (h1.resolve_left fun e=>?_)⟩⟩;have hf:s.full=false:=hf;rw[e]at hf;cases hf
  simp only[not_or,Bool.not_eq_true,Bool.not_eq_false]at h1;obtain⟨hf,TX⟩:=h1;obtain⟨Yx,lZ⟩:=hA hf;have hy:=lZ y (Ab ..);have hi:¬(s.full=true∨Db (DR s k) p=false):=by rw[hf,TX];simp
  by_cases h2:y.1=k
  ·have e:Cn p (y.1::l.map (·.1)) k s=Cn p (l.map (·.1)) k s:=by conv=>lhs;unfold Cn;rw[Ai hi,Aw h2]
   rw[e];have zE : mK D U p (DR s k) fun j=>C j∨y.2 j:=⟨Yx.form,Yx.inU,Yx.none_,fun j j0 j1 hj=>hj.elim (Yx.cov j j0 j1) fun h=>by rw[←h2];exact hy.cov j j0 j1 h⟩;obtain⟨i1,i2,i3,i4⟩:=NK hD l hd hk (fun z hz=>hl z (Af _ hz)) (fun _=>⟨zE,fun z hz=>lZ z (Af _ hz)⟩);refine⟨i1,i2,i3,fun hf=>?_⟩;obtain⟨C',j1,j2⟩:=i4 hf;refine⟨C',j1,j2.imp id fun h j hj=>h j ?_⟩;rcases hj with hj | ⟨z,hz,hj⟩
   ·exact .inl (.inl hj)
   ·rcases As.1 hz with rfl | hz
    ·exact .inl (.inr hj)
    ·exact .inr ⟨z,hz,hj⟩
  ·obtain⟨S2,o2,v2⟩:=hy.one;obtain⟨r1,r2⟩:=Ww Yx.form hy.form TX hy.conc (.self hD) Yx.none_ o2 v2;have e:Cn p (y.1::l.map (·.1)) k s=Cn p (l.map (·.1)) (Ef s ⟨3,p,0,0,k,y.1⟩ (Bx (DR s k) (DR s y.1) p).1).1 (Ef s ⟨3,p,0,0,k,y.1⟩ (Bx (DR s k) (DR s y.1) p).1).2:=by
    conv=>lhs;unfold Cn;rw[Ai hi,Ai h2,Ai (fun h=>h r1)]
   rw[e];have hy1:=hl y (Ab ..);obtain⟨a1,a2,a3⟩:=Kq hd (U4 (x:=x) (roots:=roots) hk hy1 r1);have hg:=Kr s ⟨3,p,0,0,(k:Nat),(y.1:Nat)⟩ (Bx (DR s k) (DR s y.1) p).1;generalize WL : Ef s ⟨3,p,0,0,(k:Nat),(y.1:Nat)⟩ (Bx (DR s k) (DR s y.1) p).1=s' at *
   have a3:s'.2.full=false→DR s'.2 s'.1=(Bx (DR s k) (DR s y.1) p).1:=a3;obtain⟨i1,i2,i3,i4⟩:=NK hD (C:=fun j=>C j∨y.2 j) l a1 a2 (fun z hz=>BK (hl z (Af _ hz)) hg.len) (fun dR=>by
    refine⟨?_,fun z hz=>by rw[hg.at (hl z (Af _ hz))];exact lZ z (Af _ hz)⟩;rw[a3 dR];exact⟨Nq _ _ _,Ra Yx.inU hy.inU,r2 D (.self hD) (.inl Yx.none_),fun j j0 j1 hj=>r2 _ (.ver hD (EZ ⟨j0,j1⟩)) (hj.imp (Yx.cov j j0 j1) (hy.cov j j0 j1))⟩)
   refine⟨i1,hg.trans i2,i3,fun hf=>?_⟩;obtain⟨C',j1,j2⟩:=i4 hf;refine⟨C',j1,j2.imp id fun h j hj=>h j ?_⟩;rcases hj with hj | ⟨z,hz,hj⟩
   ·exact .inl (.inl hj)
   ·rcases As.1 hz with rfl | hz
    ·exact .inl (.inr hj)
    ·exact .inr ⟨z,hz,hj⟩
def In(roots:List Rq)(dec:List Cd):Prop:=∀q∈HJ roots dec,∀d∈dec,d.rel.path=q.path→has q.set d.place=true
theorem In.nil(roots:List Rq):In roots []:=fun _ _ d h=>by cases h
theorem ZQ(roots:List Rq)(dec:List Cd)(c:Cd):HJ roots (dec++[c])=HJ roots dec++c.rel.reqs:=by
 unfold HJ;rw[AH,CL,AP];simp
theorem lz(c:Cd):(PZ c).map (·.rq)=c.rel.reqs:=RF (fun _ _=>rfl) _ _
theorem YT{dec:List Cd}{c:Cd}(h:Eb dec c=none):∀q∈c.rel.reqs,∀d∈dec++[c],d.rel.path=q.path→has q.set d.place=true:=fun q hq d hd e=>by
 rw[←lz]at hq;obtain⟨n,hn,rfl⟩:=Al.1 hq;unfold Eb at h;rw[DB]at h
 have:=h n hn
 unfold aN at this;rw[Bool.not_eq_true,Fs]at this
 have:=this d hd
 rw[e]at this;simpa using this
theorem KY{dec:List Cd}{c:Cd}{n:Nd}(h:Eb dec c=some n):n∈PZ c∧∃d∈dec++[c],d.rel.path=n.rq.path∧has n.rq.set d.place=false:=by
 unfold Eb at h;have h1:=DK h;refine⟨BO h,?_⟩;unfold aN at h1;rw[Bc]at h1;obtain⟨d,hd,e⟩:=h1;simp only[Ag,Ay,CU]at e;exact⟨d,hd,e⟩
theorem In.snoc{roots:List Rq}{dec:List Cd}(h:In roots dec){p:ByteArray}{needs:List Nd}(hN:o7 roots dec p needs){c:Cd}(hc:c.rel.path=p)(hn:∀n∈needs,has n.rq.set c.place=true)(hk:Eb dec c=none):In roots (dec++[c]):=by
 intro q hq d hd e;rw[ZQ]at hq;rcases A8.1 hq with hq | hq
 ·rcases A8.1 hd with hd | hd
  ·exact h q hq d hd e
  ·rw[Am.1 hd]at e⊢;rw[←MK]at hq;obtain⟨n,XG,rfl⟩:=Al.1 hq;exact hn n ((hN.mem n).2 ⟨XG,by rw[←e,hc]⟩)
 ·exact YT hk q hq d hd e
def Uo(y:Sl):List Sl→List Sl
 | []=>[y]
 |z::l=>if Fl y.path z.path then y::z::l else z::Uo y l
def FP:List Sl→List Sl
 | []=>[]
 |y::l=>Uo y (FP l)
theorem Ta{y z:Sl}:∀{l:List Sl},z∈Uo y l↔z=y∨z∈l
 | []=>by simp[Uo]
 |u::l=>by
  unfold Uo;split
  ·simp
  ·rw[As,Ta,As];constructor
   ·rintro(h | h | h)
    ·exact .inr (.inl h)
    ·exact .inl h
    ·exact .inr (.inr h)
   ·rintro(h | h | h)
    ·exact .inr (.inl h)
    ·exact .inl h
    ·exact .inr (.inr h)
theorem Hg{z:Sl}:∀{l:List Sl},z∈FP l↔z∈l
 | []=>by simp[FP]
 |u::l=>by unfold FP;rw[Ta,Hg,As]
theorem XO{y:Sl}:∀{l:List Sl},VE l→(∀z∈l,z.path≠y.path)→VE (Uo y l)
 | [],_,_=>by simp[Uo,VE]
 |u::l,h,hn=>by
  obtain⟨h1,h2⟩:=BX.1 h;unfold Uo;split
  ·rename_i hb;refine BX.2 ⟨fun z hz=>?_,h⟩;rcases As.1 hz with rfl | hz
   ·exact hb
   ·exact EB hb (h1 z hz)
  ·rename_i hb;refine BX.2 ⟨fun z hz=>?_,XO h2 fun z hz=>hn z (Af _ hz)⟩;rcases Ta.1 hz with rfl | hz
   ·cases e:Fl u.path z.path with
    |true=>rfl
    |false =>
     have hb:Fl z.path u.path=false:=by simpa using hb
     exact absurd (Hs e hb) (hn u (Ab ..))
   ·exact h1 z hz
theorem Qh:∀{l:List Sl},(l.map (·.path)).Nodup→VE (FP l)
 | [],_=>List.Pairwise.nil
 |y::l,h=>by
  simp only[AN,CA]at h;exact XO (Qh h.2) fun z hz e=>h.1 (Al.2 ⟨z,Hg.1 hz,e⟩)
theorem SZ:∀{l:List Sl} {b:Option ByteArray},VE l→(∀c,b=some c→∀y∈l,Fl c y.path=true)→SW b l=true
 | [],_,_,_=>by unfold SW;rfl
 |y::l,b,h,hb=>by
  obtain⟨h1,h2⟩:=BX.1 h;unfold SW;cases b with
  |none=>simpa using SZ h2 fun c e z hz=>by cases e;exact h1 z hz
  |some c =>
   have:=hb c rfl y (Ab ..)
   simp only[this,EF];exact SZ h2 fun c e z hz=>by cases e;exact h1 z hz
theorem oh{l:List Sl}(h:VE l):Lc l=true:=SZ h fun _ e=>by cases e
theorem UU{x:List Rl}(hx:A5 x=0){r:Rl}(hr:r∈x):Ec x (FM r)=some r:=by
 unfold Ec;rw[Ai (fun h=>h hx)];cases h:x.find? fun s=>decide (FM s=FM r)with
 |none =>
  rw[DB]at h;exact absurd (by simp) (h r hr)
 |some s =>
  have h1:=DK h;simp only[Ay]at h1;rw[Te (B9 hx).2 (BO h) hr h1]
theorem EA.sorted{x:List Rl}{dec:List Cd}(h:EA x dec):VE (FP (AM dec)):=Qh (by rw[NJ];exact h.nodup)
theorem EA.findS{x:List Rl}{dec:List Cd}(h:EA x dec){c:Cd}(hc:c∈dec):Cc (FP (AM dec)) c.rel.path=some (Td c) :=
 M9 h.sorted (y:=Td c) (Hg.2 (Al.2 ⟨c,hc,rfl⟩))
theorem gG{x:List Rl}{roots:List Rq}(hx:A5 x=0){dec:List Cd}(h:EA x dec)(hs:In roots dec)(hl:KG (HJ roots dec) (AM dec)=none):o8 x roots (FP (AM dec)):=by
 have FX:∀q∈HJ roots dec,∃y,Cc (FP (AM dec)) q.path=some y∧has q.set (place y.ver)=true:=fun q hq=>by
  have:=ZB hl q hq
  rw[K8]at this;obtain⟨y,hy,e⟩:=this;obtain⟨d,hd,rfl⟩:=Al.1 hy;have e:d.rel.path=q.path:=e;refine⟨Td d,by rw[←e];exact h.findS hd,?_⟩;have h1:=hs q hq d hd e;have Gz:=(B9 hx).1 _ (h.cand d hd).1;rw[(h.cand d hd).2.2,Gz.plc]at h1;exact h1
 refine⟨hx,oh h.sorted,fun y hy=>?_,fun q hq=>FX q (Bo _ hq),fun y hy r hr q hq=>?_⟩
 ·obtain⟨d,hd,rfl⟩:=Al.1 (Hg.1 hy);exact⟨d.rel,UU hx (h.cand d hd).1,(h.cand d hd).2.1⟩
 ·obtain⟨d,hd,rfl⟩:=Al.1 (Hg.1 hy)
  have:Ec x (Td d)=some d.rel:=UU hx (h.cand d hd).1
  rw[this]at hr;cases hr;exact FX q (Bk _ (Eu.2 ⟨_,Al.2 ⟨d,hd,rfl⟩,hq⟩))
def de(dec:List Cd)(needs:List Nd)(c:Cd):Bool:=(needs.all fun n=>has n.rq.set c.place)&&(Eb dec c).isNone
def Mc(x:List Rl)(roots:List Rq):Nat→List Cd→List (List Cd)
 |0,_=>[]
 |n+1,dec=>match(GF roots dec).2 with
  | []=>[dec]
  |n0::l=>((Cq x (GF roots dec).1).map fun c=>if de dec (n0::l) c then Mc x roots n (dec++[c])else []).flatten
structure Lf(x:List Rl)(roots:List Rq)(dec d:List Cd):Prop where
 pre:dec <+: d
 ok:EA x d
 sat:In roots d
 stop:KG (HJ roots d) (AM d)=none
theorem JI{x:List Rl}{p:ByteArray}{c:Cd}(h:c∈Cq x p):c.rel.path=p∧(c.rel∈x∧c.rel.yanked=false∧c.place=plc c.rel.ver):=by
 obtain⟨r,h1,h2,h3,rfl⟩:=KV.1 h;exact⟨h2,h1,h3,rfl⟩
theorem Pa{dec:List Cd}{needs:List Nd}{c:Cd}:de dec needs c=true↔(∀n∈needs,has n.rq.set c.place=true)∧Eb dec c=none:=by
 unfold de;rw[Ag,Bs,Option.isNone_iff_eq_none]
theorem PP{x:List Rl}{roots:List Rq}:∀{n:Nat} {dec:List Cd},EA x dec→In roots dec→∀d∈Mc x roots n dec,Lf x roots dec d
 |0,_,_,_,d,hd=>by cases hd
 |n+1,dec,h,hs,d,hd=>by
  unfold Mc at hd;split at hd
  ·rename_i e;rw[Am.1 hd];exact⟨MV,h,hs,Ts.1 e⟩
  ·rename_i n0 l e;have hN:=NT e;obtain⟨L,hL,hd⟩:=Eu.1 hd;obtain⟨c,hc,rfl⟩:=Al.1 hL;split at hd
   ·rename_i Gz;obtain⟨h1,h2⟩:=Pa.1 Gz;obtain⟨c1,c2⟩:=JI hc;have ct:Dg dec c.rel.path=false:=by rw[c1];exact hN.undone
    have:=PP (n:=n) (h.snoc c2 ct) (hs.snoc hN c1 h1 h2) d hd
    exact⟨(N7 _ _).trans this.pre,this.ok,this.sat,this.stop⟩
   ·cases hd
theorem Lf.sol{x:List Rl}{roots:List Rq}(hx:A5 x=0){dec d:List Cd}(h:Lf x roots dec d):o8 x roots (FP (AM d)):=gG hx h.ok h.sat h.stop
theorem lc{x:List Rl}{roots:List Rq}(hx:A5 x=0){s:SS}(hd:Fr x roots s){k:Nat}(hk:k<s.drv.length){dec d:List Cd}(he:CF (DR s k) (AM dec)=true)(h:Lf x roots dec d):False:=by
 have hS:=h.sol hx;have hv:=VX (s:=FP (AM d)) hS.inc (fun y hy=>Hg.2 (by
  obtain⟨c,hc,rfl⟩:=Al.1 hy;obtain⟨t,e⟩:=h.pre;exact Al.2 ⟨c,by rw[←e];exact Bo _ hc,rfl⟩)) he
 have hn:=LX hS (d:=[]) (fun _ h=>by cases h) hd.der (DR s k) (by
  unfold DR;rw[Ck,AA hk];exact Ap hk)
 rw[hv]at hn;cases hn
theorem om{x:List Rl}(h:A5 x=0):x.length≤256:=by
 unfold A5 at h;split at h
 ·cases h
 ·omega
theorem fP{l:List Rl}{k:Int}:(l.map fun r=>(plc r.ver,plc r.ver+1)).any (BL k)=true↔∃r∈l,plc r.ver=k:=by
 rw[Bc];constructor
 ·rintro⟨y,hy,h⟩
  obtain⟨r,hr,rfl⟩:=Al.1 hy
  have:=DQ.1 h
  exact⟨r,hr,by have h1:=this.1;have h2:=this.2;dsimp only at h1 h2;omega⟩
 ·rintro⟨r,hr,rfl⟩
  exact⟨_,Al.2 ⟨r,hr,rfl⟩,DQ.2 ⟨AY _,by dsimp only;omega⟩⟩
theorem UF{x:List Rl}(hx:A5 x=0){p:ByteArray}{k:Int}:has (B8 x p) k=true↔∃c∈Cq x p,c.place=k:=by
 unfold B8;rw[Ha];unfold has Kc;rw[Ai (fun h=>h hx)];simp only[Ag,Ay];rw[fP];constructor
 ·rintro⟨_,r,hr,rfl⟩
  simp only[By,Ay,CU]at hr;exact⟨⟨plc r.ver,r⟩,KV.2 ⟨r,hr.1.1,hr.1.2,hr.2,rfl⟩,rfl⟩
 ·rintro⟨c,hc,rfl⟩
  obtain⟨r,h1,h2,h3,rfl⟩:=KV.1 hc;have Gz:=(B9 hx).1 r h1
  have:=Js Gz.val
  rw[←Gz.plc]at this;refine⟨⟨this.1,this.2⟩,r,?_,rfl⟩;simp only[By,Ay,CU];exact⟨⟨h1,h2⟩,h3⟩
theorem bv{x:List Rl}(hx:A5 x=0)(p:ByteArray):∃k:Int,0≤k∧k<1000000∧has (B8 x p) k=false:=by
 apply Bn;intro hn;have FX:∀k∈(List.range 257).map fun i:Nat=>(i:Int),k∈x.map fun r=>plc r.ver:=by
  intro k hk;obtain⟨i,hi,rfl⟩:=Al.1 hk;have hi:=List.mem_range.1 hi;have hh:has (B8 x p) (i:Int)=true:=by
   cases e:has (B8 x p) (i:Int)with
   |true=>rfl
   |false=>exact absurd ⟨(i:Int),by omega,by omega,e⟩ hn
  obtain⟨c,hc,e⟩:=(UF hx).1 hh;obtain⟨r,h1,_,_,rfl⟩:=KV.1 hc;exact Al.2 ⟨r,h1,e⟩
 have:=Ij (List.pairwise_map.2 (List.nodup_range.imp fun h e=>h (Int.ofNat.inj e))) FX
 rw[Bb,Bb,Qw]at this
 have:=om hx
 omega
theorem Lg(dec:List Cd)(c:Cd):AM (dec++[c])=Kd (AM dec) c.rel.path c.rel.ver:=by unfold AM Kd;rw[AH];rfl
theorem MB{t:List Tm}{S:List Sl}:CF t S=true↔Bg t S=true∧∀u∈t,CI S u.path=true:=by
 unfold CF;rw[Ag,CU,Fs];simp
section
variable {x:List Rl}{roots:List Rq}{dec:List Cd}{p:ByteArray}{needs:List Nd}
abbrev ZH(p:ByteArray)(dec:List Cd):List ByteArray:=p::(AM dec).map (·.path)
theorem j9{c:Cd}{t:List Tm}(hf:KQ t)(he:CF t (AM (dec++[c]))=true):Uu (ZH c.rel.path dec) t:=by
 refine⟨EO hf,fun u hu=>?_⟩
 have:=(MB.1 he).2 u hu
 rw[G9,Lg,AH]at this;rcases A8.1 this with h | h
 ·exact Af _ h
 ·rw[AN,E5,Am]at h;rw[h];exact Ab ..
theorem fq(hx:A5 x=0)(hd:EA x dec){c:Cd}(hc:c.rel∈x){t:List Tm}(he:CF t (AM (dec++[c]))=true)(hn:Db t c.rel.path=false):CF t (AM dec)=true:=by
 obtain⟨h1,h2⟩:=MB.1 he;have DE:=JJ hn;rw[Lg]at h1 h2;refine MB.2 ⟨?_,fun u hu=>?_⟩
 ·rw[KO (.self (hd.valid hx)) (.ver (hd.valid hx) ((B9 hx).1 _ hc).val) DE];exact h1
 ·have:=h2 u hu
  rw[SJ,CG]at this;rcases this with h | h
  ·exact h
  ·rw[K8]at h;obtain⟨y,hy,e⟩:=h;rw[Am.1 hy]at e;exact absurd e.symm (DE u hu)
theorem dC(hx:A5 x=0)(hd:EA x dec){c:Cd}(hc:c.rel∈x∧c.rel.yanked=false∧c.place=plc c.rel.ver)(hu:Dg dec c.rel.path=false){t:List Tm}(hf:KQ t)(he:CF t (AM (dec++[c]))=true)(hn:Db t c.rel.path=true) :
  jH (AM dec) (ZH c.rel.path dec) c.rel.path t fun k=>k=c.place:=by
 have Gz:=(B9 hx).1 _ hc.1;have hV:=hd.valid hx;have h1:=(MB.1 he).1;rw[Lg]at h1;refine⟨hf,j9 hf he,hn,⟨_,.ver hV Gz.val,h1⟩,fun k k0 k1 e=>?_⟩;subst e;rw[ZY (by rw[FU];exact hu) (EZ ⟨k0,k1⟩) Gz.val (by rw[G5,hc.2.2,Gz.plc])];exact h1
theorem OV(hx:A5 x=0)(hr:BU roots=0){E:List Cd}(hE:EA x E){n:Nd}(hn:n∈Ds roots E)(hv:∃d∈E,d.rel.path=n.rq.path∧has n.rq.set d.place=false) :
  (∀d,DW x roots d (S8 n)=some (I0 n))∧CF (I0 n) (AM E)=true∧KQ (I0 n):=by
 obtain⟨d,hd,e,hs⟩:=hv;have Gz:=(B9 hx).1 _ (hE.cand d hd).1;have hf:=hE.find hd;have hI:=Ry hx hr hE hn (.inr ⟨Td d,by rw[←e];exact hf,by rw[show(Td d).ver=d.rel.ver from rfl,←Gz.plc,←(hE.cand d hd).2.2];exact hs⟩);refine⟨hI.inf,MB.2 ⟨hI.viol,fun u hu=>?_⟩,hI.form⟩
 have:=(hI.inU ((AM E).map (·.path)) (fun h=>G9.1 (hI.path h)) (G9.1 (by rw[JN,←e,hf];rfl))).2 u hu
 exact G9.2 this
theorem cU(hx:A5 x=0)(hr:BU roots=0)(hd:EA x dec)(hN:o7 roots dec p needs){c:Cd}(hc:c∈Cq x p){n:Nd}(hn:n∈needs)(hs:has n.rq.set c.place=false):Db (I0 n) p=true:=by
 obtain⟨c1,c2⟩:=JI hc;have hu:Dg dec c.rel.path=false:=by rw[c1];exact hN.undone
 have hE:=hd.snoc c2 hu;obtain⟨dS,kw⟩:=(hN.mem n).1 hn;have Gz:=(B9 hx).1 _ c2.1;have hI:=Ry hx hr hE (NQ dS) (.inr ⟨Td c,by rw[kw,←c1];exact hE.find (by simp),by rw[show(Td c).ver=c.rel.ver from rfl,←Gz.plc,←c2.2.2];exact hs⟩);cases pi:Db (I0 n) p with
 |true=>rfl
 |false =>
  exfalso
  have NF:n.rq.set≠[]∧EH n.rq.set:=by
   rcases Mh dS with ⟨k,q,h1,rfl⟩ | ⟨c,hc,k,q,h1,rfl⟩
   ·exact KX hr q (Av h1)
   ·exact((B9 hx).1 _ (hd.cand c hc).1).set q (Av h1)
  obtain⟨k,hk⟩:=bo NF.1 NF.2;have jt:=L7 hk;have hV:=hd.valid hx;have o1:WQ (AM dec) p (Kd (AM dec) p (Po k)):=.ver hV (EZ jt);have o2:WQ (AM dec) p (AM (dec++[c])):=by rw[Lg,c1];exact .ver hV Gz.val
  have h1:=KO o1 o2 (JJ pi);rw[hI.viol,hI.raw _ o1.val,BC]at h1
  have:=h1 (DI n.rq) (by unfold MZ;split<;>simp)
  rw[show(DI n.rq).path=p from kw,Ia (by rw[FU];exact hN.undone),Tz (by rw[show(⟨p,Po k⟩:Sl).ver=Po k from rfl,G5];exact hk)]at this;cases this
theorem cM(hx:A5 x=0)(hr:BU roots=0)(hd:EA x dec)(hN:o7 roots dec p needs){n0:Nd}(h0:n0∈needs)(L:List (Nat×Cd))(hL:L.map (·.2)=Cq x p){s:SS}(hs:Fr x roots s)(DL:∀y∈L,y.1<s.drv.length)
  (ri:s.full=false→∀y∈L,CF (DR s y.1) (AM (dec++[y.2]))=true∧Db (DR s y.1) p=true) :
  Fr x roots (D4 x p n0 (L.map (·.1)) s).2∧Grow s (D4 x p n0 (L.map (·.1)) s).2∧(D4 x p n0 (L.map (·.1)) s).1<(D4 x p n0 (L.map (·.1)) s).2.drv.length ∧
  ((D4 x p n0 (L.map (·.1)) s).2.full=false→CF (DR (D4 x p n0 (L.map (·.1)) s).2 (D4 x p n0 (L.map (·.1)) s).1) (AM dec)=true):=by
 have hV:=hd.valid hx;have pp:CI (AM dec) p=false:=by rw[FU];exact hN.undone
 obtain⟨sV,gm⟩:=(hN.mem n0).1 h0;have hI:=Ry hx hr hd sV (.inl (by rw[gm];exact Hx pp));unfold D4;obtain⟨a1,a2,a3⟩:=Kq hs (hI.inf s.drv);have ag:=Kr s (S8 n0) (I0 n0);have a3:(Bl s n0).2.full=false→DR (Bl s n0).2 (Bl s n0).1=I0 n0:=a3
 change Fr x roots (Bl s n0).2 at a1
 change (Bl s n0).1<(Bl s n0).2.drv.length at a2
 change Grow s (Bl s n0).2 at ag
 generalize Bl s n0=s1 at *
 -- the incompatibility of the places that are not available
 obtain⟨u,u0,u1,hu⟩:=bv hx p;have Wg:∀k:Int,0≤k→k<1000000→has (B8 x p) k=false→Bg [(⟨p,false,Eg (B8 x p)⟩:Tm)] (Kd (AM dec) p (Po k))=true:=fun k k0 k1 hk=>by
  rw[BC];intro t ht;rw[Am.1 ht];show Dk _ (Cc (Kd (AM dec) p (Po k)) p)=true;rw[Ia pp];show(CO (Po k)&&has (Eg (B8 x p)) (place (Po k)))=true;rw[EZ ⟨k0,k1⟩,G5,FH,hk];unfold LG;simp[k0,k1]
 have mo:Bg [(⟨p,false,Eg (B8 x p)⟩:Tm)] (AM dec)=false:=by
  rw[AK];intro h
  have:=BC.1 h _ (Ab ..)
  rw[show(⟨p,false,Eg (B8 x p)⟩:Tm).path=p from rfl,Hx pp]at this;cases this
 have ou:WQ (AM dec) p (Kd (AM dec) p (Po u)):=.ver hV (EZ ⟨u0,u1⟩);have DE:HT p (B8 x p)≠[]:=by
  have c1:=Da (l:=[(⟨p,false,Eg (B8 x p)⟩:Tm)]) ou.val;have c2:=Da (l:=[(⟨p,false,Eg (B8 x p)⟩:Tm)]) hV;rw[Wg u u0 u1 hu]at c1;rw[mo]at c2;unfold HT PU;cases hc:CR [(⟨p,false,Eg (B8 x p)⟩:Tm)]with
  |none=>rw[hc]at c1;cases c1
  |some c =>
   rw[hc]at c2;intro e;have e:c=[]:=e;rw[e]at c2;cases c2
 have Lx:∀S,F3 S→Bg (HT p (B8 x p)) S=Bg [(⟨p,false,Eg (B8 x p)⟩:Tm)] S:=fun S v=>PV v DE;have qI:Db (HT p (B8 x p)) p=true:=by
  cases h:Db (HT p (B8 x p)) p with
  |true=>rfl
  |false =>
   have:=KO ou (.self hV) (JJ h)
   rw[Lx _ ou.val,Lx _ hV,Wg u u0 u1 hu,mo]at this;cases this
 have nP:DW x roots s1.2.drv ⟨2,p,0,0,0,0⟩=some (HT p (B8 x p)):=by
  unfold DW;rw[Ai (show ¬((2:Int)=0) by decide),Ai (show ¬((2:Int)=1) by decide),Aw rfl,Aw ⟨rfl,rfl,rfl,rfl⟩];unfold cS;rw[Ai (by rw[GO];exact DE)]
 obtain⟨b1,b2,b3⟩:=Kq a1 nP;have bg:=Kr s1.2 ⟨2,p,0,0,0,0⟩ (HT p (B8 x p));have b3:(En x p s1.2).2.full=false→DR (En x p s1.2).2 (En x p s1.2).1=HT p (B8 x p):=b3
 change Fr x roots (En x p s1.2).2 at b1
 change (En x p s1.2).1<(En x p s1.2).2.drv.length at b2
 change Grow s1.2 (En x p s1.2).2 at bg
 generalize En x p s1.2=s2 at *
 have qE:s2.2.full=false→s1.2.full=false∧s.full=false:=fun h=>by
  have h1:s1.2.full=false:=by
   cases e:s1.2.full with
   |false=>rfl
   |true=>rw[bg.full e]at h;cases h
  refine⟨h1,?_⟩;cases e:s.full with
  |false=>rfl
  |true=>rw[ag.full e]at h1;cases h1
 have main:=NK (D:=AM dec) (U:=ZH p dec) (p:=p) hV ((s2.1,fun k=>has (B8 x p) k=false)::L.map fun y=>(y.1,fun k=>k=y.2.place)) (C:=fun k=>has n0.rq.set k=false) b1 (BK a2 bg.len)
  (fun y hy=>by
   rcases As.1 hy with rfl | hy
   ·exact b2
   ·obtain⟨z,hz,rfl⟩:=Al.1 hy;exact BK (DL z hz) (ag.trans bg).len) (fun hf=>by
   obtain⟨f1,f0⟩:=qE hf;refine⟨?_,fun y hy=>?_⟩
   ·rw[bg.at a2,a3 f1];refine⟨hI.form,hI.inU _ (fun h=>Af _ (G9.1 (hI.path h))) (by rw[gm];exact Ab ..),hI.viol,fun k k0 k1 hk=>?_⟩;have ok:WQ (AM dec) p (Kd (AM dec) p (Po k)):=.ver hV (EZ ⟨k0,k1⟩);rw[hI.raw _ ok.val,BC];intro t ht;have We:=BC.1 ((hI.raw _ hV).symm.trans hI.viol) t ht;unfold MZ at ht;have gl:Dk (DI n0.rq) (Cc (Kd (AM dec) p (Po k)) (DI n0.rq).path)=true:=by
     rw[show(DI n0.rq).path=p from gm,Ia pp];exact QY (.inr ⟨_,rfl,EZ ⟨k0,k1⟩,by rw[show(⟨p,Po k⟩:Sl).ver=Po k from rfl,G5];exact hk⟩)
    split at ht
    ·rw[Am.1 ht];exact gl
    ·rename_i hm;rcases As.1 ht with rfl | ht
     ·have DE:n0.path≠p:=fun e=>by
       have:=hI.path hm
       rw[e,pp]at this;cases this
      rw[show(⟨n0.path,false,[(n0.place,n0.place+1)]⟩:Tm).path=n0.path from rfl]at We⊢;rw[ok.same _ DE];exact We
     ·rw[Am.1 ht];exact gl
   ·rcases As.1 hy with rfl | hy
    ·show jH _ _ p (DR s2.2 s2.1) _;rw[b3 hf];refine⟨Mj _,Ty (fun t ht=>by rw[Am.1 ht];exact Ab ..),qI,⟨_,ou,by rw[Lx _ ou.val];exact Wg u u0 u1 hu⟩,fun k k0 k1 hk=>?_⟩;rw[Lx _ (WQ.ver hV (EZ ⟨k0,k1⟩)).val];exact Wg k k0 k1 hk
    ·obtain⟨z,hz,rfl⟩:=Al.1 hy;show jH _ _ p (DR s2.2 z.1) _;rw[(ag.trans bg).at (DL z hz)];obtain⟨e1,e2⟩:=ri f0 z hz;have hzc:z.2∈Cq x p:=by rw[←hL];exact Al.2 ⟨z,hz,rfl⟩
     obtain⟨c1,c2⟩:=JI hzc
     have:=dC hx hd c2 (by rw[c1];exact hN.undone) (hs.forms z.1) e1 (by rw[c1];exact e2)
     rw[c1]at this;exact this)
 have vh:((s2.1,fun k=>has (B8 x p) k=false)::L.map fun y=>(y.1,fun k=>k=y.2.place)).map (·.1)=s2.1::L.map (·.1):=by
  rw[AN,BN];rfl
 rw[vh]at main;obtain⟨m1,m2,m3,m4⟩:=main;refine⟨m1,(ag.trans bg).trans m2,m3,fun hf=>?_⟩;obtain⟨C',q1,q2⟩:=m4 hf;have hnc:Db (DR (Cn p (s2.1::L.map (·.1)) s1.1 s2.2).2 (Cn p (s2.1::L.map (·.1)) s1.1 s2.2).1) p=false:=by
  rcases q2 with q2 | q2
  ·exact q2
  ·refine g8 pp q1.form q1.none_ fun k k0 k1=>q1.cov k k0 k1 (q2 k ?_);cases sW:has n0.rq.set k with
   |false=>exact .inl rfl
   |true =>
    cases ha:has (B8 x p) k with
    |false=>exact .inr ⟨_,Ab ..,ha⟩
    |true =>
     obtain⟨c,hc,e⟩:=(UF hx).1 ha;rw[←hL]at hc;obtain⟨z,hz,rfl⟩:=Al.1 hc;exact .inr ⟨_,Af _ (Al.2 ⟨z,hz,rfl⟩),e.symm⟩
 refine MB.2 ⟨q1.none_,fun t ht=>?_⟩
 have:=q1.inU.2 t ht
 rcases As.1 this with e | h
 ·exact absurd e (JJ hnc t ht)
 ·exact G9.2 h
end
def GU(s:SS)(b:List Cd)(p:ByteArray)(needs:List Nd):List Cd→List Sk→Prop
 | [],sk=>sk=[]
 |c::cs,sk=>if(needs.all fun n=>has n.rq.set c.place)=true then ∃(k:Nat) (rest:List Sk),sk=⟨p,c.place,k⟩::rest∧(k<s.drv.length∧CF (DR s k) (AM (b++[c]))=true)∧GU s b p needs cs rest
  else GU s b p needs cs sk
section
variable {s s' : SS}{b:List Cd}{p:ByteArray}{needs:List Nd}
theorem GU.out{c:Cd}(hc:¬(needs.all fun n=>has n.rq.set c.place)=true):∀{cs:List Cd} {sk:List Sk},GU s b p needs cs sk→GU s b p needs (cs++[c]) sk
 | [],sk,h=>by
  show(if _ then _ else _);rw[Ai hc];exact h
 |d::cs,sk,h=>by
  have h:if(needs.all fun n=>has n.rq.set d.place)=true then _ else _:=h
  show(if _ then _ else _)
  by_cases hd:(needs.all fun n=>has n.rq.set d.place)=true
  ·rw[Aw hd]at h⊢;obtain⟨k,rest,h1,h2,h3⟩:=h;exact⟨k,rest,h1,h2,GU.out hc h3⟩
  ·rw[Ai hd]at h⊢;exact GU.out hc h
theorem GU.add{c:Cd}(hc:(needs.all fun n=>has n.rq.set c.place)=true){k:Nat}(hk:k<s.drv.length∧CF (DR s k) (AM (b++[c]))=true):∀{cs:List Cd} {sk:List Sk},GU s b p needs cs sk→GU s b p needs (cs++[c]) (sk++[⟨p,c.place,k⟩])
 | [],sk,h=>by
  have h:sk=[]:=h;subst h;show(if _ then _ else _);rw[Aw hc];exact⟨k,[],rfl,hk,rfl⟩
 |d::cs,sk,h=>by
  have h:if(needs.all fun n=>has n.rq.set d.place)=true then _ else _:=h
  show(if _ then _ else _)
  by_cases hd:(needs.all fun n=>has n.rq.set d.place)=true
  ·rw[Aw hd]at h⊢;obtain⟨j,rest,rfl,h2,h3⟩:=h;exact⟨j,_,rfl,h2,GU.add hc hk h3⟩
  ·rw[Ai hd]at h⊢;exact GU.add hc hk h
theorem GU.mono(hg:Grow s s'):∀{cs:List Cd} {sk:List Sk},GU s b p needs cs sk→GU s' b p needs cs sk
 | [],_,h=>h
 |d::cs,sk,h=>by
  have h:if(needs.all fun n=>has n.rq.set d.place)=true then _ else _:=h
  show(if _ then _ else _)
  by_cases hd:(needs.all fun n=>has n.rq.set d.place)=true
  ·rw[Aw hd]at h⊢;obtain⟨j,rest,rfl,h2,h3⟩:=h;exact⟨j,rest,rfl,⟨BK h2.1 hg.len,by rw[hg.at h2.1];exact h2.2⟩,h3.mono hg⟩
  ·rw[Ai hd]at h⊢;exact h.mono hg
end
structure mO(x:List Rl)(roots:List Rq)(s:SS)(b:List Cd)(c:Cd)(sk:List Sk)(p:ByteArray)(needs:List Nd)(pre post:List Cd):Prop where
 next:o7 roots b p needs
 cands:Cq x p=pre++c::post
 fit:∀n∈needs,has n.rq.set c.place=true
 noclash:Eb b c=none
 skips:GU s b p needs pre sk
def RK(x:List Rl)(roots:List Rq)(s:SS):List Cd→List Cd→List (List Sk)→Prop
 |b,[],[]=>KG (HJ roots b) (AM b)=none
 |b,c::t,sk::st=>(∃p needs pre post,mO x roots s b c sk p needs pre post)∧RK x roots s (b++[c]) t st
 |_,_,_=>False
structure VG(x:List Rl)(roots:List Rq)(ls:List (List Cd))(dec:List Cd)(s:SS)(st:List (List Sk))(o:JZ):Prop where
 der:Fr x roots o.ss
 grow:Grow s o.ss
 no:o.found=false→o.dec=dec∧o.stack=st∧(o.ss.full=false→o.res<o.ss.drv.length∧CF (DR o.ss o.res) (AM dec)=true)
 yes:o.found=true→o.ss.full=false∧∃t sl,o.dec=dec++t∧o.stack=st++sl∧RK x roots o.ss dec t sl∧ls.head?=some o.dec
section
variable {rec:List Cd→SS→List (List Sk)→JZ}{x:List Rl}{roots:List Rq}{p:ByteArray}{needs:List Nd}{n0:Nd}{dec:List Cd}{st:List (List Sk)}
def JH(rec:List Cd→SS→List (List Sk)→JZ)(x:List Rl)(p:ByteArray)(needs:List Nd)(n0:Nd)(dec:List Cd)(st:List (List Sk))(c:Cd)(cs:List Cd)(FV:List Nat)(skips:List Sk)(k:Nat)(s:SS):JZ :=
 if Db (DR s k) p=false then⟨k,false,s,dec,st⟩else D3 rec x p needs n0 dec st cs s (FV++[k]) (skips++[⟨p,c.place,k⟩])
theorem Gg(c:Cd)(cs:List Cd)(s:SS)(FV:List Nat)(skips:List Sk):D3 rec x p needs n0 dec st (c::cs) s FV skips =
  if s.full=true then⟨0,false,s,dec,st⟩
  else match needs.find? fun n=>!has n.rq.set c.place with
   |some n=>D3 rec x p needs n0 dec st cs (Bl s n).2 (FV++[(Bl s n).1]) skips
   |none=>match Oo s.drv (AM (dec++[c]))with
    |some k=>JH rec x p needs n0 dec st c cs FV skips k s
    |none=>match Eb dec c with
     |some n=>JH rec x p needs n0 dec st c cs FV skips (Bl s n).1 (Bl s n).2
     |none=>if(rec (dec++[c]) s (st++[skips])).found=true then⟨0,true,(rec (dec++[c]) s (st++[skips])).ss,(rec (dec++[c]) s (st++[skips])).dec,(rec (dec++[c]) s (st++[skips])).stack⟩
      else if(rec (dec++[c]) s (st++[skips])).ss.full=true then⟨0,false,(rec (dec++[c]) s (st++[skips])).ss,dec,st⟩
      else JH rec x p needs n0 dec st c cs FV skips (rec (dec++[c]) s (st++[skips])).res (rec (dec++[c]) s (st++[skips])).ss:=rfl
theorem aG{s:SS}(hs:Fr x roots s){n:Nd}(h:∀d,DW x roots d (S8 n)=some (I0 n)):Fr x roots (Bl s n).2∧(Bl s n).1<(Bl s n).2.drv.length∧((Bl s n).2.full=false→DR (Bl s n).2 (Bl s n).1=I0 n)∧Grow s (Bl s n).2:=by
 obtain⟨a1,a2,a3⟩:=Kq hs (h s.drv);exact⟨a1,a2,a3,Kr _ _ _⟩
theorem VG.grown{ls:List (List Cd)}{s s' : SS}{o:JZ}(hg:Grow s s')(h:VG x roots ls dec s' st o):VG x roots ls dec s st o:=⟨h.der,hg.trans h.grow,h.no,h.yes⟩
theorem UI(hx:A5 x=0)(hr:BU roots=0)(hd:EA x dec)(cB:In roots dec)(hN:o7 roots dec p needs)(h0:n0∈needs){lv:List Cd→List (List Cd)}(yj:∀c∈Cq x p,de dec needs c=true→∀d∈lv (dec++[c]),Lf x roots (dec++[c]) d)
  (cA:∀c∈Cq x p,de dec needs c=true→∀s st,Fr x roots s→s.full=false→VG x roots (lv (dec++[c])) (dec++[c]) s st (rec (dec++[c]) s st)) :
  ∀(cs:List Cd) {s:SS} (L:List (Nat×Cd)) {skips:List Sk},L.map (·.2)++cs=Cq x p→Fr x roots s→(∀y∈L,y.1<s.drv.length)→(s.full=false→(∀y∈L,CF (DR s y.1) (AM (dec++[y.2]))=true∧Db (DR s y.1) p=true)∧GU s dec p needs (L.map (·.2)) skips) →
   VG x roots (((Cq x p).map fun c=>if de dec needs c then lv (dec++[c])else []).flatten) dec s st (D3 rec x p needs n0 dec st cs s (L.map (·.1)) skips)
 | [],s,L,skips,hL,hs,DL,ri=>by
  rw[B2]at hL;obtain⟨l1,l2,l3,l4⟩:=cM hx hr hd hN h0 L hL hs DL (fun hf=>(ri hf).1);exact⟨l1,l2,fun _=>⟨rfl,rfl,fun hf=>⟨l3,l4 hf⟩⟩,fun h=>(by cases h)⟩
 |c::cs,s,L,skips,hL,hs,DL,ri=>by
  rw[Gg]
  by_cases hf:s.full=true
  ·rw[Aw hf];exact⟨hs,.refl s,fun _=>⟨rfl,rfl,fun h=>by rw[show(⟨0,false,s,dec,st⟩:JZ).ss=s from rfl,hf]at h;cases h⟩,fun h=>(by cases h)⟩
  rw[Ai hf];have hf:s.full=false:=by simpa using hf
  obtain⟨rj,nY⟩:=ri hf;have hc:c∈Cq x p:=by rw[←hL];simp
  obtain⟨c1,c2⟩:=JI hc;have hu:Dg dec c.rel.path=false:=by rw[c1];exact hN.undone
  have hE:=hd.snoc c2 hu
  -- on to the next candidate
  have go:∀(s' : SS) (k:Nat) (WA : List Sk),Fr x roots s'→Grow s s'→k<s'.drv.length→(s'.full=false→(CF (DR s' k) (AM (dec++[c]))=true∧Db (DR s' k) p=true)∧GU s' dec p needs (L.map (·.2)++[c]) WA) →
    VG x roots (((Cq x p).map fun c=>if de dec needs c then lv (dec++[c])else []).flatten) dec s st (D3 rec x p needs n0 dec st cs s' (L.map (·.1)++[k]) WA):=fun s' k WA WL hg hk DE=>by
   have:=UI hx hr hd cB hN h0 yj cA cs (s:=s') (L++[(k,c)]) (skips:=WA) (by rw[AH,AP];exact hL) WL
    (fun y hy=>by
     rcases A8.1 hy with hy | hy
     ·exact BK (DL y hy) hg.len
     ·rw[Am.1 hy];exact hk)
    (fun dR=>by
     obtain⟨e1,e2⟩:=DE dR;refine⟨fun y hy=>?_,by rw[AH];exact e2⟩;rcases A8.1 hy with hy | hy
     ·rw[hg.at (DL y hy)];exact rj y hy
     ·rw[Am.1 hy];exact e1)
   rw[AH]at this;exact this.grown hg
  cases nK:needs.find? fun n=>!has n.rq.set c.place with
  |some n =>
   dsimp only;have dS:=BO nK;have kw:=DK nK;have kw:has n.rq.set c.place=false:=by simpa using kw
   obtain⟨hn3,hn4⟩:=(hN.mem n).1 dS;obtain⟨e1,e2,e3⟩:=OV hx hr hE (NQ hn3) ⟨c,by simp,by rw[c1,hn4],kw⟩;obtain⟨i1,i2,i3,i4⟩:=aG hs e1;refine go _ _ _ i1 i4 i2 fun dR=>?_;rw[i3 dR];exact⟨⟨e2,cU hx hr hd hN hc dS kw⟩,GU.out (by
    intro h;rw[Bs]at h;rw[h n dS]at kw;cases kw) (nY.mono i4)⟩
  |none =>
   dsimp only;have Zf:∀n∈needs,has n.rq.set c.place=true:=fun n hn=>by
    rw[DB]at nK;simpa using nK n hn
   have FX:(needs.all fun n=>has n.rq.set c.place)=true:=by rw[Bs];exact Zf
   have mQ:∀(s' : SS) (k:Nat),Fr x roots s'→Grow s s'→k<s'.drv.length→(s'.full=false→CF (DR s' k) (AM (dec++[c]))=true) →
     VG x roots (((Cq x p).map fun c=>if de dec needs c then lv (dec++[c])else []).flatten) dec s st (JH rec x p needs n0 dec st c cs (L.map (·.1)) skips k s'):=fun s' k WL hg hk he=>by
    unfold JH;cases pi:Db (DR s' k) p with
    |false =>
     rw[Aw rfl];exact⟨WL,hg,fun _=>⟨rfl,rfl,fun dR=>⟨hk,fq hx hd c2.1 (he dR) (by rw[c1];exact pi)⟩⟩,fun h=>(by cases h)⟩
    |true =>
     rw[Ai (by decide)];exact go _ _ _ WL hg hk fun dR=>⟨⟨he dR,pi⟩,GU.add FX ⟨hk,he dR⟩ (nY.mono hg)⟩
   cases hen:Oo s.drv (AM (dec++[c]))with
   |some k =>
    dsimp only;obtain⟨k1,k2⟩:=Kw hen;exact mQ s k hs (.refl s) k1 fun _=>k2
   |none =>
    dsimp only;cases hcl:Eb dec c with
    |some n =>
     dsimp only;obtain⟨m1,m2⟩:=KY hcl;obtain⟨e1,e2,e3⟩:=OV hx hr hE (ML m1) m2;obtain⟨i1,i2,i3,i4⟩:=aG hs e1;exact mQ _ _ i1 i4 i2 fun dR=>by rw[i3 dR];exact e2
    |none =>
     dsimp only;have Gz:de dec needs c=true:=Pa.2 ⟨Zf,hcl⟩;have hR:=cA c hc Gz s (st++[skips]) hs hf;generalize rec (dec++[c]) s (st++[skips])=o at hR
     by_cases aE:o.found=true
     ·rw[Aw aE];obtain⟨y1,t,sl,y2,y3,y4,y5⟩:=hR.yes aE;refine⟨hR.der,hR.grow,fun h=>(by cases h),fun _=>⟨y1,c::t,skips::sl,by show o.dec=_;rw[y2];simp,by show o.stack=_;rw[y3];simp,⟨⟨p,needs,L.map (·.2),cs,hN,hL.symm,Zf,hcl,nY.mono hR.grow⟩,y4⟩,?_⟩⟩;show _=some o.dec;rw[←hL,AH,CL,AN,BA];have vq:((L.map (·.2)).map fun c=>if de dec needs c then lv (dec++[c])else []).flatten=[]:=by
       rw[List.flatten_eq_nil_iff];intro l hl;obtain⟨d,kr,rfl⟩:=Al.1 hl;obtain⟨y,hy,rfl⟩:=Al.1 kr;split
       ·rename_i hoy;have hyc:y.2∈Cq x p:=by rw[←hL];exact Bo _ kr
        refine LC.2 fun d uW=>lc hx hs (DL y hy) (rj y hy).1 (yj y.2 hyc hoy d uW)
       ·rfl
      rw[vq,Ei,Aw Gz,List.head?_append,y5];rfl
     ·rw[Ai aE];have aE:o.found=false:=by simpa using aE
      obtain⟨n1,n2,n3⟩:=hR.no aE
      by_cases nL:o.ss.full=true
      ·rw[Aw nL];exact⟨hR.der,hR.grow,fun _=>⟨rfl,rfl,fun h=>by rw[show(⟨0,false,o.ss,dec,st⟩:JZ).ss=o.ss from rfl,nL]at h;cases h⟩,fun h=>(by cases h)⟩
      ·rw[Ai nL];have nL:o.ss.full=false:=by simpa using nL
       exact mQ _ _ hR.der hR.grow (n3 nL).1 fun _=>(n3 nL).2
end
theorem SF{x:List Rl}{dec:List Cd}{c:Cd}(h:c.rel∈x∧c.rel.yanked=false)(hu:Dg dec c.rel.path=false):QK x (dec++[c])<QK x dec:=by
 have key:∀l:List Rl,(l.filter fun r=>!r.yanked&&!Dg (dec++[c]) r.path).length≤(l.filter fun r=>!r.yanked&&!Dg dec r.path).length ∧
   (c.rel∈l→(l.filter fun r=>!r.yanked&&!Dg (dec++[c]) r.path).length<(l.filter fun r=>!r.yanked&&!Dg dec r.path).length):=by
  intro l
  induction l with
  |nil=>exact⟨Ak _,fun h=>(by cases h)⟩
  |cons r l ih =>
   have XJ:(!r.yanked&&!Dg (dec++[c]) r.path)=true→(!r.yanked&&!Dg dec r.path)=true:=fun e=>by
    simp only[Ag,CU]at e⊢;refine⟨e.1,?_⟩
    have:=e.2
    unfold Dg at this⊢;rw[Ho,Bool.or_eq_false_iff]at this;exact this.1
   rw[DN,DN];refine⟨?_,fun hm=>?_⟩
   ·by_cases e:(!r.yanked&&!Dg (dec++[c]) r.path)=true
    ·rw[Aw e,Aw (XJ e)];simp;exact ih.1
    ·rw[Ai e];split
     ·simp;have:=ih.1;omega
     ·exact ih.1
   ·rcases As.1 hm with rfl | hm
    ·have e1:¬(!c.rel.yanked&&!Dg (dec++[c]) c.rel.path)=true:=by
      have:Dg (dec++[c]) c.rel.path=true:=by unfold Dg;simp
      rw[this];simp
     have e2:(!c.rel.yanked&&!Dg dec c.rel.path)=true:=by rw[h.2,hu];rfl
     rw[Ai e1,Aw e2];simp;have:=ih.1;omega
    ·have:=ih.2 hm
     by_cases e:(!r.yanked&&!Dg (dec++[c]) r.path)=true
     ·rw[Aw e,Aw (XJ e)];simp;exact this
     ·rw[Ai e];split
      ·simp;omega
      ·exact this
 exact(key x).2 h.1
theorem Qg{x:List Rl}{roots:List Rq}(hx:A5 x=0)(hr:BU roots=0):∀(n:Nat) {dec:List Cd} {s:SS} {st:List (List Sk)},EA x dec→In roots dec→Fr x roots s→s.full=false→QK x dec<n →
  VG x roots (Mc x roots n dec) dec s st (Dc x roots n dec s st)
 |0,_,_,_,_,_,_,_,h=>by omega
 |n+1,dec,s,st,hd,cB,hs,hf,hn=>by
  unfold Dc Mc;cases e:(GF roots dec).2 with
  |nil =>
   exact⟨hs,.refl s,fun h=>(by cases h),fun _=>⟨hf,[],[],by simp,by simp,Ts.1 e,rfl⟩⟩
  |cons n0 l =>
   have hN:=NT e;have next:∀c∈Cq x (GF roots dec).1,de dec (n0::l) c=true→EA x (dec++[c])∧In roots (dec++[c])∧QK x (dec++[c])<n:=fun c hc Gz=>by
    obtain⟨c1,c2⟩:=JI hc;have hu:Dg dec c.rel.path=false:=by rw[c1];exact hN.undone
    obtain⟨k1,k2⟩:=Pa.1 Gz;exact⟨hd.snoc c2 hu,cB.snoc hN c1 k1 k2,by have:=SF (dec:=dec) ⟨c2.1,c2.2.1⟩ hu;omega⟩
   exact UI hx hr hd cB hN (Ab ..) (lv:=Mc x roots n) (fun c hc Gz d kr=>PP (next c hc Gz).1 (next c hc Gz).2.1 d kr)
    (fun c hc Gz s st hs hf=>Qg hx hr n (next c hc Gz).1 (next c hc Gz).2.1 hs hf (next c hc Gz).2.2) _ [] rfl hs (fun y hy=>by cases hy) (fun _=>⟨fun y hy=>(by cases hy),rfl⟩)
theorem fE(x:List Rl)(dec:List Cd):QK x dec≤x.length:=BF _ _
theorem Vq{x:List Rl}{roots:List Rq}(hx:A5 x=0)(hr:BU roots=0):VG x roots (Mc x roots (x.length+1) []) [] tC [] (Em x roots) :=
 Qg hx hr _ (.nil x) (.nil roots) (.nil x roots) rfl (by have:=fE x [];omega)
section
variable {x:List Rl}{roots:List Rq}{p:ByteArray}{needs:List Nd}{n0:Nd}{dec:List Cd}{st:List (List Sk)}
end
section
variable {x:List Rl}{roots:List Rq}{d:List (List Tm)}{i:Nf}
end
end Go.Eng
