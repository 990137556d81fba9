/- Lemmas for the claims of this seat, without a condition: part 3 (Q3, Q4, P15, Q5, Q6, Q7, Q8, P16, P17). -/
import Derived.Test.YtddfphmpfnmknaaGreatDoorBA02
import Derived.Lib.ItoaNum
import Derived.Lib.Join
namespace Go.Eng
theorem Ls:∀{l:List Rq} {b:Option ByteArray},FF b l=0→∀q∈l,q.set≠[]∧Ev q.set
 | [],_,_,q,hq=>by cases hq
 |r::l,b,h,q,hq=>by
  unfold FF at h;split at h
  ·rename_i e;rcases Au.1 hq with rfl | hq
   ·unfold Gw at e
    by_cases h1:(CC q.path).isNone=true
    ·rw[Ao h1]at e;exact absurd e (by decide)
    rw[Ai h1]at e;cases hE:q.set.isEmpty with
    |true=>rw[hE]at e;simp at e
    |false =>
     cases hD:decide (q.set=canon q.set)with
     |false=>rw[hD]at e;simp at e
     |true =>
      have h3:q.set=canon q.set:=A8 hD;exact⟨by simpa using hE,by rw[h3];exact Cb _⟩
   ·exact Ls h q hq
  ·rename_i e;exact absurd h e
theorem KI{l:List Rq}(h:BL l=0):∀q∈l,q.set≠[]∧Ev q.set:=by
 unfold BL at h;split at h
 ·cases h
 ·exact Ls h
abbrev OM(k:Int):Ver:=⟨0,k / 1000,k % 1000⟩
theorem GU(k:Int):place (OM k)=k:=by unfold place;show 1000*(k / 1000)+k % 1000=k;omega
theorem EP{k:Int}(h:0≤k∧k<1000000):B8 (OM k)=true:=by
 unfold B8 okPart;simp only[Af];exact⟨⟨AE (by omega),AE (by omega)⟩,AE (by omega)⟩
structure Wn(D:List Sl)(p:ByteArray)(S:List Sl):Prop where
 val:FV S
 same:∀q,q≠p→BX S q=BX D q
abbrev JW(D:List Sl)(p:ByteArray)(v:Ver):List Sl:=D++[⟨p,v⟩]
theorem JN(a b:List Sl)(p:ByteArray):BX (a++b) p=(BX a p).or (BX b p):=by
 unfold BX;rw[List.find?_append]
theorem Hm{s:List Sl}{p:ByteArray}(h:Cv s p=false):BX s p=none:=by
 rw[Jx]at h;cases e:BX s p with
 |none=>rfl
 |some y=>rw[e]at h;cases h
theorem Wn.self{D:List Sl}{p:ByteArray}(h:FV D):Wn D p D:=⟨h,fun _ _=>rfl⟩
theorem Wn.ver{D:List Sl}{p:ByteArray}(h:FV D){v:Ver}(hv:B8 v=true):Wn D p (JW D p v):=by
 refine⟨fun y hy=>?_,fun q hq=>?_⟩
 ·rcases AL.1 hy with hy | hy
  ·exact h y hy
  ·rw[Ak.1 hy];exact hv
 ·rw[JN]
  have:BX [(⟨p,v⟩:Sl)] q=none:=by unfold BX;simp[Ne.symm hq]
  rw[this,Option.or_none]
theorem HY{D:List Sl}{p:ByteArray}(hp:Cv D p=false)(v:Ver):BX (JW D p v) p=some ⟨p,v⟩:=by
 rw[JN,Hm hp];unfold BX;simp
theorem Qd{D:List Sl}{p:ByteArray}(hp:Cv D p=false){v v' : Ver}(hv:B8 v=true)(rT : B8 v'=true)(e:place v=place v')(q:ByteArray)(t:Tm) :
  Da t (BX (JW D p v) q)=Da t (BX (JW D p v') q):=by
 by_cases hq:q=p
 ·subst hq;rw[HY hp,HY hp];show(B8 v&&has t.set (place v))=(B8 v'&&has t.set (place v'));rw[hv,rT,e]
 ·have h1:∀w:Ver,BX (JW D p w) q=BX D q:=fun w=>by
   rw[JN]
   have:BX [(⟨p,w⟩:Sl)] q=none:=by unfold BX;simp[Ne.symm hq]
   rw[this,Option.or_none]
  rw[h1,h1]
theorem Y5{D:List Sl}{p:ByteArray}(hp:Cv D p=false){v v' : Ver}(hv:B8 v=true)(rT : B8 v'=true)(e:place v=place v')(t:List Tm):Bb t (JW D p v)=Bb t (JW D p v'):=by
 rw[BO,Bx,Bx];exact⟨fun h u hu=>by rw[←Qd hp hv rT e];exact h u hu,fun h u hu=>by rw[Qd hp hv rT e];exact h u hu⟩
theorem Kz{D S S' : List Sl}{p:ByteArray}(h:Wn D p S)(h' : Wn D p S'){t:List Tm}(ht:∀u∈t,u.path≠p):Bb t S=Bb t S':=by
 rw[BO,Bx,Bx];exact⟨fun k u hu=>by rw[h'.same _ (ht u hu),←h.same _ (ht u hu)];exact k u hu,fun k u hu=>by rw[h.same _ (ht u hu),←h'.same _ (ht u hu)];exact k u hu⟩
theorem Jt{t:List Tm}{p:ByteArray}(h:CP t p=false):∀u∈t,u.path≠p:=fun u hu e=>by
 unfold CP at h;rw[F0]at h;exact h u hu (by simpa using e)
theorem RE{t:List Tm}{p:ByteArray}(h:CP t p=true):∃u∈t,u.path=p:=by
 unfold CP at h;rw[Bf]at h;obtain⟨u,hu,e⟩:=h;exact⟨u,hu,by simpa using e⟩
theorem Ti{t:List Tm}{p:ByteArray}(hf:KD t)(hc:CP t p=true):∃u r,Fc t p=some (u,r)∧u.path=p∧∀v∈r,v.path≠p:=by
 obtain⟨u,hu,e⟩:=RE hc;have hs:=EF hf;have mu:=(Fu hs).1 hu;rw[e]at mu;refine⟨u,FA t p,?_,e,fun v hv=>?_⟩
 ·unfold Fc;rw[show CE t=some t from hf];dsimp only;rw[mu]
 ·have:=(BI.1 hv).2
  simpa using this
theorem VT{D:List Sl}{p:ByteArray}{t b:List Tm}(eB:KD t)(mr:KD b)(yU:CP t p=true)(tQ:CP b p=true){S1 S2:List Sl}(h1:Wn D p S1)(v1:Bb t S1=true)(h2:Wn D p S2)(v2:Bb b S2=true) :
  (Bq t b p).2=0∧∀S,Wn D p S→Bb t S=true∨Bb b S=true→Bb (Bq t b p).1 S=true:=by
 obtain⟨u,r,e1,pu,nr⟩:=Ti eB yU;obtain⟨w,m,e2,pw,nm⟩:=Ti mr tQ;have key:∀S,Wn D p S→Bb t S=true∨Bb b S=true→Bb (r++m++[C3 u w]) S=true:=fun S hS hv=>by
  have r1:Bb r S=true:=by
   rw[Kz hS h1 nr];rw[(Fz h1.val e1).1,Af]at v1;exact v1.2
  have m1:Bb m S=true:=by
   rw[Kz hS h2 nm];rw[(Fz h2.val e2).1,Af]at v2;exact v2.2
  rw[GK,GK,r1,m1];simp only[Eu];rw[Bx];intro y hy;rw[Ak.1 hy,show(C3 u w).path=p from pu,MO,Cp];rcases hv with hv | hv
  ·rw[(Fz hS.val e1).1,Af]at hv;exact .inl hv.1
  ·rw[(Fz hS.val e2).1,Af]at hv;exact .inr hv.1
 unfold Bq;rw[e1,e2];dsimp only;have c1:=CN (l:=r++m++[C3 u w]) h1.val;rw[key S1 h1 (.inl v1)]at c1;cases hc:CE (r++m++[C3 u w])with
 |none=>rw[hc]at c1;cases c1
 |some o =>
  dsimp only;refine⟨rfl,fun S hS hv=>?_⟩;have c2:=CN (l:=r++m++[C3 u w]) hS.val;rw[hc,key S hS hv]at c2;exact c2.symm
theorem fP{D:List Sl}{p:ByteArray}(hp:Cv D p=false){t:List Tm}(hf:KD t)(h0:Bb t D=true)(hk:∀k:Int,0≤k→k<1000000→Bb t (JW D p (OM k))=true):CP t p=false:=by
 rw[AK];intro hc;obtain⟨u,hu,e⟩:=RE hc;have ha:u.absent=true:=by
  have:=Bx.1 h0 u hu
  rw[e,Hm hp]at this;exact this
 have hs:∀k:Int,0≤k→k<1000000→has u.set k=true:=fun k k0 k1=>by
  have:=Bx.1 (hk k k0 k1) u hu
  rw[e,HY hp]at this;unfold Da at this;rw[Af]at this
  have:=this.2
  rw[show(⟨p,OM k⟩:Sl).ver=OM k from rfl,GU]at this;exact this
 have nW:Ev u.set:=B5.canon (EF hf) u hu;have eD:u.set=[(0,1000000)]:=by
  refine Hi nW ⟨by decide,by decide,by decide,trivial⟩ fun k=>?_;rw[BO];constructor
  ·intro h
   have:=LD h
   unfold has;simp[BG,this.1,this.2]
  ·intro h
   have:=LD h
   exact hs k this.1 this.2
 have wQ:Gg u=true:=by unfold Gg;rw[ha,eD];rfl
 have rH:CE t=some t:=hf;unfold CE at rH;split at rH
 ·cases rH
 ·have e2:=B2 rH;rw[←e2]at hu
  have:=(BI.1 hu).2
  rw[wQ]at this;cases this
structure Ew(x:List Rl)(dec:List Cd):Prop where
 cand:∀c∈dec,c.rel∈x∧c.rel.yanked=false∧c.place=plc c.rel.ver
 nodup:(dec.map fun c=>c.rel.path).Nodup
theorem Ew.nil(x:List Rl):Ew x []:=⟨fun _ h=>(by cases h),E1⟩
theorem SO{r:Rl}(h:OR r):r.path≠mt:=fun e=>by
 have:=h.maj
 rw[e]at this;have h2:CC mt=none:=by decide
 rw[h2]at this;cases this
theorem OR.set{r:Rl}(h:OR r):∀q∈r.reqs,q.set≠[]∧Ev q.set:=KI h.reqs
theorem Nk(dec:List Cd):(AI dec).map (·.path)=dec.map fun c=>c.rel.path:=by unfold AI;rw[BK];rfl
theorem M6:∀{D:List Sl},(D.map (·.path)).Nodup→∀{y:Sl},y∈D→BX D y.path=some y
 | [],_,y,h=>by cases h
 |z::D,hn,y,h=>by
  simp only[AJ,CI]at hn;unfold BX;rw[ED];rcases Au.1 h with rfl | h
  ·rw[AE rfl]
  ·have:z.path≠y.path:=fun e=>hn.1 (Al.2 ⟨y,h,e.symm⟩)
   rw[AG this];exact M6 hn.2 h
theorem Ew.find{x:List Rl}{dec:List Cd}(h:Ew x dec){c:Cd}(hc:c∈dec):BX (AI dec) c.rel.path=some (Su c) :=
 M6 (by rw[Nk];exact h.nodup) (y:=Su c) (Al.2 ⟨c,hc,rfl⟩)
theorem Ew.valid{x:List Rl}(hx:AX x=0){dec:List Cd}(h:Ew x dec):FV (AI dec):=fun y hy=>by
 obtain⟨c,hc,rfl⟩:=Al.1 hy;exact((Cc hx).1 _ (h.cand c hc).1).val
theorem Ew.snoc{x:List Rl}{dec:List Cd}(h:Ew x dec){c:Cd}(hc:c.rel∈x∧c.rel.yanked=false∧c.place=plc c.rel.ver)(hd:CY dec c.rel.path=false):Ew x (dec++[c]):=by
 refine⟨fun d hd=>?_,?_⟩
 ·rcases AL.1 hd with hd | hd
  ·exact h.cand d hd
  ·rw[Ak.1 hd];exact hc
 ·rw[Ay,F2];refine⟨h.nodup,by simp,fun a ha b hb e=>?_⟩;obtain⟨d,jg,rfl⟩:=Al.1 ha;simp only[AJ,ET,Ak]at hb;unfold CY at hd;rw[F0]at hd;exact hd d jg (by simpa using e.trans hb)
theorem LO{roots:List Rq}{E:List Cd}{n:Nd}(h:n∈Dk roots E):(∃k q,roots[k]?=some q∧n=⟨q,mt,0,(k:Nat)⟩)∨∃c∈E,∃k q,c.rel.reqs[k]?=some q∧n=⟨q,c.rel.path,c.place,(k:Nat)⟩:=by
 unfold Dk at h;rcases AL.1 h with h | h
 ·obtain⟨k,q,h1,h2⟩:=Xw h;exact .inl ⟨k,q,h1,h2⟩
 ·obtain⟨l,hl,hn⟩:=Eh.1 h;obtain⟨c,hc,rfl⟩:=Al.1 hl;obtain⟨k,q,h1,h2⟩:=Xw hn;exact .inr ⟨c,hc,k,q,h1,h2⟩
theorem Nq{roots:List Rq}{dec:List Cd}{c:Cd}{n:Nd}(h:n∈Dk roots dec):n∈Dk roots (dec++[c]):=by
 unfold Dk at *
 rw[Ay,Cy,←BH];exact Bd _ h
theorem Mm{roots:List Rq}{dec:List Cd}{c:Cd}{n:Nd}(h:n∈Pu c):n∈Dk roots (dec++[c]):=by
 unfold Dk;rw[Ay,Cy,←BH];exact Bc _ (by simpa using h)
def MC(n:Nd):List Tm:=if n.path=mt then [Dw n.rq]else [⟨n.path,false,[(n.place,n.place+1)]⟩,Dw n.rq]
theorem Oj(n:Nd):IP n=Po (MC n):=by unfold IP MC Jg Eb;split<;>rfl
theorem ZW{s:Bi}(h:s≠[])(hc:Ev s):∃k,has s k=true:=by
 match s,h,hc with
 |x::r,_,hc =>
  have:=EB.low hc x (Ab ..)
  refine⟨x.1,?_⟩;unfold has;have h1:BG x.1 x=true:=DC.2 ⟨BD _,this.2.1⟩;simp only[B6,h1,Bool.true_or,Bool.and_true,Af,Av];omega
theorem Qq{q:Rq}{o:Option Sl}(h:o=none∨∃y,o=some y∧B8 y.ver=true∧has q.set (place y.ver)=false):Da (Dw q) o=true:=by
 rcases h with rfl | ⟨y,rfl,hv,hq⟩
 ·rfl
 ·show(B8 y.ver&&has (Ec q.set) (place y.ver))=true
  have:=Je hv
  rw[hv,Fv,hq];unfold Lj;simp[this.1,this.2]
theorem SM{q:Rq}{y:Sl}(hq:has q.set (place y.ver)=true):Da (Dw q) (some y)=false:=by
 show(B8 y.ver&&has (Ec q.set) (place y.ver))=false;rw[Fv,hq];simp
structure oq(x:List Rl)(roots:List Rq)(S:List Sl)(n:Nd):Prop where
 inf:∀d,DK x roots d (Sp n)=some (IP n)
 viol:Bb (IP n) S=true
 raw:∀S',FV S'→Bb (IP n) S'=Bb (MC n) S'
 form:KD (IP n)
 inU:∀U:List ByteArray,(n.path≠mt→n.path∈U)→n.rq.path∈U→TU U (IP n)
 path:n.path≠mt→Cv S n.path=true
theorem QS{x:List Rl}{roots:List Rq}(hx:AX x=0)(hr:BL roots=0){E:List Cd}(hE:Ew x E){n:Nd}(hn:n∈Dk roots E)
  (hv:BX (AI E) n.rq.path=none∨∃y,BX (AI E) n.rq.path=some y∧has n.rq.set (place y.ver)=false):oq x roots (AI E) n:=by
 have hV:=hE.valid hx;have eP:Da (Dw n.rq) (BX (AI E) n.rq.path)=true:=Qq (hv.imp id fun⟨y,h1,h2⟩=>⟨y,h1,hV y (I3 h1),h2⟩)
 -- the raw list is Bb here,and not elsewhere
 have Nc:n.rq.set≠[]∧Ev n.rq.set:=by
  rcases LO hn with ⟨k,q,h1,rfl⟩ | ⟨c,hc,k,q,h1,rfl⟩
  ·exact KI hr q (Ar h1)
  ·exact((Cc hx).1 _ (hE.cand c hc).1).set q (Ar h1)
 have VF:Bb (MC n) (AI E)=true∧(n.path≠mt→Cv (AI E) n.path=true):=by
  rcases LO hn with ⟨k,q,h1,rfl⟩ | ⟨c,hc,k,q,h1,rfl⟩
  ·refine⟨?_,fun h=>absurd rfl h⟩;unfold MC;rw[Ao rfl,Bx];intro u hu;rw[Ak.1 hu];exact eP
  ·have Dt:=SO ((Cc hx).1 _ (hE.cand c hc).1);refine⟨?_,fun _=>by rw[Jx,hE.find hc];rfl⟩;unfold MC;rw[Ai Dt,Bx];intro u hu;rcases Au.1 hu with rfl | hu
   ·show Da _ (BX (AI E) c.rel.path)=true;rw[hE.find hc];show(B8 c.rel.ver&&has [(c.place,c.place+1)] (place c.rel.ver))=true;have Gk:=(Cc hx).1 _ (hE.cand c hc).1;have hp:=Je Gk.val;rw[Gk.val,(hE.cand c hc).2.2,Gk.plc];unfold has;simp[BG,hp.1,hp.2];omega
   ·rw[Ak.1 hu];exact eP
 have uj:∃S',FV S'∧Bb (MC n) S'=false:=by
  unfold MC;split
  ·obtain⟨k,hk⟩:=ZW Nc.1 Nc.2;have ii:=LD hk;refine⟨[⟨n.rq.path,OM k⟩],fun y hy=>by rw[Ak.1 hy];exact EP ii,?_⟩;rw[AK];intro h
   have:=Bx.1 h (Dw n.rq) (Ak.2 rfl)
   rw[show(Dw n.rq).path=n.rq.path from rfl,show BX [(⟨n.rq.path,OM k⟩:Sl)] n.rq.path=some ⟨n.rq.path,OM k⟩ by unfold BX;simp,SM (by rw[show(⟨n.rq.path,OM k⟩:Sl).ver=OM k from rfl,GU];exact hk)]at this;cases this
  ·refine⟨[],fun y hy=>(by cases hy),?_⟩;rw[AK];intro h
   have:=Bx.1 h _ (Ab ..)
   cases this
 obtain⟨VF,qb⟩:=VF;have Dt:Po (MC n)≠[]:=by
  obtain⟨S',v',n'⟩:=uj;have c1:=CN (l:=MC n) hV;have c2:=CN (l:=MC n) v';unfold Po;cases hc:CE (MC n)with
  |none=>rw[hc,VF]at c1;cases c1
  |some c =>
   rw[hc,n']at c2;intro e;have e:c=[]:=e;rw[e]at c2;cases c2
 have kT:∀S',FV S'→Bb (IP n) S'=Bb (MC n) S':=fun S' v=>by rw[Oj];exact Pp v Dt
 refine⟨fun d=>?_,by rw[kT _ hV];exact VF,kT,by rw[Oj];exact LQ _,fun U h1 h2=>?_,qb⟩
 ·rcases LO hn with ⟨k,q,h1,rfl⟩ | ⟨c,hc,k,q,h1,rfl⟩
  ·show DK x roots d (if(mt:ByteArray)=mt then⟨0,mt,0,(k:Nat),0,0⟩else _)=some (if(mt:ByteArray)=mt then Jg q else _);rw[Ao rfl,Ao rfl];show(if mt=mt∧(0:Int)=0∧(0:Int)=0∧(0:Int)=0 then(Jc roots (k:Nat)).map Jg else none)=some (Jg q);rw[Ao ⟨rfl,rfl,rfl,rfl⟩];unfold Jc;rw[Ai (by omega),Cn,h1];rfl
  ·have Gk:=(Cc hx).1 _ (hE.cand c hc).1;have Tr:=SO Gk;have uy:OA x c.rel.path c.place=some c.rel:=by
    unfold OA;cases hf:x.find? fun r=>decide (r.path=c.rel.path)&&decide (plc r.ver=c.place)with
    |none =>
     rw[DL]at hf;exact absurd (by simp[(hE.cand c hc).2.2]) (hf c.rel (hE.cand c hc).1)
    |some r =>
     have h2:=EE hf;simp only[Af,Av]at h2;have eU:=Cg hf;have uo:=(Cc hx).1 r eU;rw[ZU (Cc hx) eU (hE.cand c hc).1 h2.1 (by rw[←uo.plc,h2.2,(hE.cand c hc).2.2,Gk.plc])]
   have e1:Sp ⟨q,c.rel.path,c.place,(k:Nat)⟩=⟨1,c.rel.path,c.place,(k:Nat),0,0⟩:=by unfold Sp;rw[Ai Tr]
   have e2:IP ⟨q,c.rel.path,c.place,(k:Nat)⟩=Eb c.rel.path c.place q:=by unfold IP;rw[Ai Tr]
   rw[e1,e2];unfold DK;rw[Ai (show ¬((1:Int)=0) by decide),Ao rfl,Ao ⟨rfl,rfl⟩];dsimp only;rw[uy];dsimp only;unfold Jc;rw[Ai (by omega),Cn,h1];dsimp only;unfold bC;rw[Ai];rw[GA,←e2,Oj];exact Dt
 ·rw[Oj];refine SL fun u hu=>?_;unfold MC at hu;split at hu
  ·rw[Ak.1 hu];exact h2
  ·rename_i hm;rcases Au.1 hu with rfl | hu
   ·exact h1 hm
   ·rw[Ak.1 hu];exact h2
structure iw(D:List Sl)(U:List ByteArray)(p:ByteArray)(t:List Tm)(C:Int→Prop):Prop where
 form:KD t
 inU:TU U t
 conc:CP t p=true
 one:∃S,Wn D p S∧Bb t S=true
 cov:∀k:Int,0≤k→k<1000000→C k→Bb t (JW D p (OM k))=true
structure lq(D:List Sl)(U:List ByteArray)(p:ByteArray)(t:List Tm)(C:Int→Prop):Prop where
 form:KD t
 inU:TU U t
 none_:Bb t D=true
 cov:∀k:Int,0≤k→k<1000000→C k→Bb t (JW D p (OM k))=true
theorem Fe.forms{x:List Rl}{roots:List Rq}{s:SS}(h:Fe x roots s):∀k,KD (DE s k):=fun k=>by
 unfold DE;rw[BP];cases e:s.drv[k]? with
 |none=>exact Ob
 |some t=>exact MG (fun _ h=>by cases h) h.der t (Ar e)
theorem Ut{x:List Rl}{roots:List Rq}{d:List (List Tm)}{k r:Nat}{p:ByteArray}(hk:k<d.length)(hr:r<d.length)(h0:(Bq (d.getD k []) (d.getD r []) p).2=0) :
  DK x roots d ⟨3,p,0,0,(k:Nat),(r:Nat)⟩=some (Bq (d.getD k []) (d.getD r []) p).1:=by
 have e:∀j:Nat,j<d.length→Jc d (j:Nat)=some (d.getD j []):=fun j hj=>by
  unfold Jc;rw[Ai (by omega),Cn,BP,As hj];rfl
 unfold DK;rw[Ai (show ¬((3:Int)=0) by decide),Ai (show ¬((3:Int)=1) by decide),Ai (show ¬((3:Int)=2) by decide),Ao rfl,Ao ⟨rfl,rfl⟩];dsimp only;rw[e k hk,e r hr];dsimp only;rw[Ao h0]
theorem Nl{x:List Rl}{roots:List Rq}{D:List Sl}{U:List ByteArray}{p:ByteArray}(hD:FV D):∀(l:List (Nat×(Int→Prop))) {k:Nat} {s:SS} {C:Int→Prop},Fe x roots s→k<s.drv.length→(∀y∈l,y.1<s.drv.length) →
  (s.full=false→lq D U p (DE s k) C∧∀y∈l,iw D U p (DE s y.1) y.2) →
  Fe x roots (Ca p (l.map (·.1)) k s).2∧Grow s (Ca p (l.map (·.1)) k s).2∧(Ca p (l.map (·.1)) k s).1<(Ca p (l.map (·.1)) k s).2.drv.length ∧
  ((Ca p (l.map (·.1)) k s).2.full=false→∃C',lq D U p (DE (Ca p (l.map (·.1)) k s).2 (Ca p (l.map (·.1)) k s).1) C' ∧
   (CP (DE (Ca p (l.map (·.1)) k s).2 (Ca p (l.map (·.1)) k s).1) p=false∨∀j,C j∨(∃y∈l,y.2 j)→C' j))
 | [],k,s,C,hd,hk,_,hA=>⟨hd,.refl s,hk,fun hf=>⟨C,(hA hf).1,.inr fun j hj=>hj.elim id fun⟨y,hy,_⟩=>(by cases hy)⟩⟩
 |y::l,k,s,C,hd,hk,hl,hA=>by
  rw[AJ]
  by_cases h1:s.full=true∨CP (DE s k) p=false
  ·have e:Ca p (y.1::l.map (·.1)) k s=(k,s):=by unfold Ca;rw[Ao h1]
   rw[e];refine⟨hd,.refl s,hk,fun hf=>⟨C,(hA hf).1,.inl (h1.resolve_left fun e=>?_)⟩⟩;have hf:s.full=false:=hf;rw[e]at hf;cases hf
  simp only[not_or,Bool.not_eq_true,Bool.not_eq_false]at h1;obtain⟨hf,Tq⟩:=h1;obtain⟨ja,tj⟩:=hA hf;have hy:=tj y (Ab ..);have hi:¬(s.full=true∨CP (DE s k) p=false):=by rw[hf,Tq];simp
  by_cases h2:y.1=k
  ·have e:Ca p (y.1::l.map (·.1)) k s=Ca p (l.map (·.1)) k s:=by conv=>lhs;unfold Ca;rw[Ai hi,Ao h2]
   rw[e];have yr : lq D U p (DE s k) fun j=>C j∨y.2 j:=⟨ja.form,ja.inU,ja.none_,fun j j0 j1 hj=>hj.elim (ja.cov j j0 j1) fun h=>by rw[←h2];exact hy.cov j j0 j1 h⟩;obtain⟨i1,i2,i3,i4⟩:=Nl hD l hd hk (fun z hz=>hl z (Ag _ hz)) (fun _=>⟨yr,fun z hz=>tj z (Ag _ hz)⟩);refine⟨i1,i2,i3,fun hf=>?_⟩;obtain⟨C',j1,j2⟩:=i4 hf;refine⟨C',j1,j2.imp id fun h j hj=>h j ?_⟩;rcases hj with hj | ⟨z,hz,hj⟩
   ·exact .inl (.inl hj)
   ·rcases Au.1 hz with rfl | hz
    ·exact .inl (.inr hj)
    ·exact .inr ⟨z,hz,hj⟩
  ·obtain⟨S2,o2,v2⟩:=hy.one;obtain⟨r1,r2⟩:=VT ja.form hy.form Tq hy.conc (.self hD) ja.none_ o2 v2;have e:Ca p (y.1::l.map (·.1)) k s=Ca p (l.map (·.1)) (D5 s ⟨3,p,0,0,k,y.1⟩ (Bq (DE s k) (DE s y.1) p).1).1 (D5 s ⟨3,p,0,0,k,y.1⟩ (Bq (DE s k) (DE s y.1) p).1).2:=by
    conv=>lhs;unfold Ca;rw[Ai hi,Ai h2,Ai (fun h=>h r1)]
   rw[e];have zC:=hl y (Ab ..);obtain⟨a1,a2,a3⟩:=Ka hd (Ut (x:=x) (roots:=roots) hk zC r1);have hg:=Kb s ⟨3,p,0,0,(k:Nat),(y.1:Nat)⟩ (Bq (DE s k) (DE s y.1) p).1;generalize Wg : D5 s ⟨3,p,0,0,(k:Nat),(y.1:Nat)⟩ (Bq (DE s k) (DE s y.1) p).1=s' at *
   have a3:s'.2.full=false→DE s'.2 s'.1=(Bq (DE s k) (DE s y.1) p).1:=a3;obtain⟨i1,i2,i3,i4⟩:=Nl hD (C:=fun j=>C j∨y.2 j) l a1 a2 (fun z hz=>Bu (hl z (Ag _ hz)) hg.len) (fun cN=>by
    refine⟨?_,fun z hz=>by rw[hg.at (hl z (Ag _ hz))];exact tj z (Ag _ hz)⟩;rw[a3 cN];exact⟨MV _ _ _,Qt ja.inU hy.inU,r2 D (.self hD) (.inl ja.none_),fun j j0 j1 hj=>r2 _ (.ver hD (EP ⟨j0,j1⟩)) (hj.imp (ja.cov j j0 j1) (hy.cov j j0 j1))⟩)
   refine⟨i1,hg.trans i2,i3,fun hf=>?_⟩;obtain⟨C',j1,j2⟩:=i4 hf;refine⟨C',j1,j2.imp id fun h j hj=>h j ?_⟩;rcases hj with hj | ⟨z,hz,hj⟩
   ·exact .inl (.inl hj)
   ·rcases Au.1 hz with rfl | hz
    ·exact .inl (.inr hj)
    ·exact .inr ⟨z,hz,hj⟩
def Iz(roots:List Rq)(dec:List Cd):Prop:=∀q∈HA roots dec,∀d∈dec,d.rel.path=q.path→has q.set d.place=true
theorem Iz.nil(roots:List Rq):Iz roots []:=fun _ _ d h=>by cases h
theorem YW(roots:List Rq)(dec:List Cd)(c:Cd):HA roots (dec++[c])=HA roots dec++c.rel.reqs:=by
 unfold HA;rw[Ay,Cy,BH];simp
theorem j7(c:Cd):(Pu c).map (·.rq)=c.rel.reqs:=QY (fun _ _=>rfl) _ _
theorem Yb{dec:List Cd}{c:Cd}(h:D2 dec c=none):∀q∈c.rel.reqs,∀d∈dec++[c],d.rel.path=q.path→has q.set d.place=true:=fun q hq d hd e=>by
 rw[←j7]at hq;obtain⟨n,hn,rfl⟩:=Al.1 hq;unfold D2 at h;rw[DL]at h
 have:=h n hn
 unfold ZD at this;rw[Bool.not_eq_true,F0]at this
 have:=this d hd
 rw[e]at this;simpa using this
theorem KJ{dec:List Cd}{c:Cd}{n:Nd}(h:D2 dec c=some n):n∈Pu c∧∃d∈dec++[c],d.rel.path=n.rq.path∧has n.rq.set d.place=false:=by
 unfold D2 at h;have h1:=EE h;refine⟨Cg h,?_⟩;unfold ZD at h1;rw[Bf]at h1;obtain⟨d,hd,e⟩:=h1;simp only[Af,Av,CG]at e;exact⟨d,hd,e⟩
theorem Iz.snoc{roots:List Rq}{dec:List Cd}(h:Iz roots dec){p:ByteArray}{needs:List Nd}(hN:nM roots dec p needs){c:Cd}(hc:c.rel.path=p)(hn:∀n∈needs,has n.rq.set c.place=true)(hk:D2 dec c=none):Iz roots (dec++[c]):=by
 intro q hq d hd e;rw[YW]at hq;rcases AL.1 hq with hq | hq
 ·rcases AL.1 hd with hd | hd
  ·exact h q hq d hd e
  ·rw[Ak.1 hd]at e⊢;rw[←Ml]at hq;obtain⟨n,W5,rfl⟩:=Al.1 hq;exact hn n ((hN.mem n).2 ⟨W5,by rw[←e,hc]⟩)
 ·exact Yb hk q hq d hd e
def TP(y:Sl):List Sl→List Sl
 | []=>[y]
 |z::l=>if En y.path z.path then y::z::l else z::TP y l
def FO:List Sl→List Sl
 | []=>[]
 |y::l=>TP y (FO l)
theorem Sr{y z:Sl}:∀{l:List Sl},z∈TP y l↔z=y∨z∈l
 | []=>by simp[TP]
 |u::l=>by
  unfold TP;split
  ·simp
  ·rw[Au,Sr,Au];constructor
   ·rintro(h | h | h)
    ·exact .inr (.inl h)
    ·exact .inl h
    ·exact .inr (.inr h)
   ·rintro(h | h | h)
    ·exact .inr (.inl h)
    ·exact .inl h
    ·exact .inr (.inr h)
theorem H2{z:Sl}:∀{l:List Sl},z∈FO l↔z∈l
 | []=>by simp[FO]
 |u::l=>by unfold FO;rw[Sr,H2,Au]
theorem Xc{y:Sl}:∀{l:List Sl},U6 l→(∀z∈l,z.path≠y.path)→U6 (TP y l)
 | [],_,_=>by simp[TP,U6]
 |u::l,h,hn=>by
  obtain⟨h1,h2⟩:=BE.1 h;unfold TP;split
  ·rename_i hb;refine BE.2 ⟨fun z hz=>?_,h⟩;rcases Au.1 hz with rfl | hz
   ·exact hb
   ·exact DM hb (h1 z hz)
  ·rename_i hb;refine BE.2 ⟨fun z hz=>?_,Xc h2 fun z hz=>hn z (Ag _ hz)⟩;rcases Sr.1 hz with rfl | hz
   ·cases e:En u.path z.path with
    |true=>rfl
    |false =>
     have hb:En z.path u.path=false:=by simpa using hb
     exact absurd (Hh e hb) (hn u (Ab ..))
   ·exact h1 z hz
theorem PD:∀{l:List Sl},(l.map (·.path)).Nodup→U6 (FO l)
 | [],_=>List.Pairwise.nil
 |y::l,h=>by
  simp only[AJ,CI]at h;exact Xc (PD h.2) fun z hz e=>h.1 (Al.2 ⟨z,H2.1 hz,e⟩)
theorem Sn:∀{l:List Sl} {b:Option ByteArray},U6 l→(∀c,b=some c→∀y∈l,En c y.path=true)→Sm b l=true
 | [],_,_,_=>by unfold Sm;rfl
 |y::l,b,h,hb=>by
  obtain⟨h1,h2⟩:=BE.1 h;unfold Sm;cases b with
  |none=>simpa using Sn h2 fun c e z hz=>by cases e;exact h1 z hz
  |some c =>
   have:=hb c rfl y (Ab ..)
   simp only[this,Eu];exact Sn h2 fun c e z hz=>by cases e;exact h1 z hz
theorem fg{l:List Sl}(h:U6 l):FI l=true:=Sn h fun _ e=>by cases e
theorem IS{x:List Rl}(hx:AX x=0){r:Rl}(hr:r∈x):DV x (FJ r)=some r:=by
 unfold DV;rw[Ai (fun h=>h hx)];cases h:x.find? fun s=>decide (FJ s=FJ r)with
 |none =>
  rw[DL]at h;exact absurd (by simp) (h r hr)
 |some s =>
  have h1:=EE h;simp only[Av]at h1;rw[Sv (Cc hx).2 (Cg h) hr h1]
theorem Ew.sorted{x:List Rl}{dec:List Cd}(h:Ew x dec):U6 (FO (AI dec)):=PD (by rw[Nk];exact h.nodup)
theorem Ew.findS{x:List Rl}{dec:List Cd}(h:Ew x dec){c:Cd}(hc:c∈dec):BX (FO (AI dec)) c.rel.path=some (Su c) :=
 ML h.sorted (y:=Su c) (H2.2 (Al.2 ⟨c,hc,rfl⟩))
theorem fy{x:List Rl}{roots:List Rq}(hx:AX x=0){dec:List Cd}(h:Ew x dec)(hs:Iz roots dec)(hl:Ko (HA roots dec) (AI dec)=none):nN x roots (FO (AI dec)):=by
 have GE:∀q∈HA roots dec,∃y,BX (FO (AI dec)) q.path=some y∧has q.set (place y.ver)=true:=fun q hq=>by
  have:=YJ hl q hq
  rw[KP]at this;obtain⟨y,hy,e⟩:=this;obtain⟨d,hd,rfl⟩:=Al.1 hy;have e:d.rel.path=q.path:=e;refine⟨Su d,by rw[←e];exact h.findS hd,?_⟩;have h1:=hs q hq d hd e;have Gk:=(Cc hx).1 _ (h.cand d hd).1;rw[(h.cand d hd).2.2,Gk.plc]at h1;exact h1
 refine⟨hx,fg h.sorted,fun y hy=>?_,fun q hq=>GE q (Bd _ hq),fun y hy r hr q hq=>?_⟩
 ·obtain⟨d,hd,rfl⟩:=Al.1 (H2.1 hy);exact⟨d.rel,IS hx (h.cand d hd).1,(h.cand d hd).2.1⟩
 ·obtain⟨d,hd,rfl⟩:=Al.1 (H2.1 hy)
  have:DV x (Su d)=some d.rel:=IS hx (h.cand d hd).1
  rw[this]at hr;cases hr;exact GE q (Bc _ (Eh.2 ⟨_,Al.2 ⟨d,hd,rfl⟩,hq⟩))
def bN(dec:List Cd)(needs:List Nd)(c:Cd):Bool:=(needs.all fun n=>has n.rq.set c.place)&&(D2 dec c).isNone
def Nm(x:List Rl)(roots:List Rq):Nat→List Cd→List (List Cd)
 |0,_=>[]
 |n+1,dec=>match(Gs roots dec).2 with
  | []=>[dec]
  |n0::l=>((Ch x (Gs roots dec).1).map fun c=>if bN dec (n0::l) c then Nm x roots n (dec++[c])else []).flatten
structure Lf(x:List Rl)(roots:List Rq)(dec d:List Cd):Prop where
 pre:dec <+: d
 ok:Ew x d
 sat:Iz roots d
 stop:Ko (HA roots d) (AI d)=none
theorem Js{x:List Rl}{p:ByteArray}{c:Cd}(h:c∈Ch x p):c.rel.path=p∧(c.rel∈x∧c.rel.yanked=false∧c.place=plc c.rel.ver):=by
 obtain⟨r,h1,h2,h3,rfl⟩:=KF.1 h;exact⟨h2,h1,h3,rfl⟩
theorem Oy{dec:List Cd}{needs:List Nd}{c:Cd}:bN dec needs c=true↔(∀n∈needs,has n.rq.set c.place=true)∧D2 dec c=none:=by
 unfold bN;rw[Af,Bs,Option.isNone_iff_eq_none]
theorem Uz{x:List Rl}{roots:List Rq}:∀{n:Nat} {dec:List Cd},Ew x dec→Iz roots dec→∀d∈Nm x roots n dec,Lf x roots dec d
 |0,_,_,_,d,hd=>by cases hd
 |n+1,dec,h,hs,d,hd=>by
  unfold Nm at hd;split at hd
  ·rename_i e;rw[Ak.1 hd];exact⟨Mw,h,hs,SG.1 e⟩
  ·rename_i n0 l e;have hN:=Nt e;obtain⟨L,hL,hd⟩:=Eh.1 hd;obtain⟨c,hc,rfl⟩:=Al.1 hL;split at hd
   ·rename_i Gk;obtain⟨h1,h2⟩:=Oy.1 Gk;obtain⟨c1,c2⟩:=Js hc;have aZ:CY dec c.rel.path=false:=by rw[c1];exact hN.undone
    have:=Uz (n:=n) (h.snoc c2 aZ) (hs.snoc hN c1 h1 h2) d hd
    exact⟨(NJ _ _).trans this.pre,this.ok,this.sat,this.stop⟩
   ·cases hd
theorem Lf.sol{x:List Rl}{roots:List Rq}(hx:AX x=0){dec d:List Cd}(h:Lf x roots dec d):nN x roots (FO (AI d)):=fy hx h.ok h.sat h.stop
theorem jI{x:List Rl}{roots:List Rq}(hx:AX x=0){s:SS}(hd:Fe x roots s){k:Nat}(hk:k<s.drv.length){dec d:List Cd}(he:Ct (DE s k) (AI dec)=true)(h:Lf x roots dec d):False:=by
 have hS:=h.sol hx;have hv:=Vq (s:=FO (AI d)) hS.inc (fun y hy=>H2.2 (by
  obtain⟨c,hc,rfl⟩:=Al.1 hy;obtain⟨t,e⟩:=h.pre;exact Al.2 ⟨c,by rw[←e];exact Bd _ hc,rfl⟩)) he
 have hn:=Lu hS (d:=[]) (fun _ h=>by cases h) hd.der (DE s k) (by
  unfold DE;rw[BP,As hk];exact At hk)
 rw[hv]at hn;cases hn
theorem mR{x:List Rl}(h:AX x=0):x.length≤256:=by
 unfold AX at h;split at h
 ·cases h
 ·omega
theorem d8{l:List Rl}{k:Int}:(l.map fun r=>(plc r.ver,plc r.ver+1)).any (BG k)=true↔∃r∈l,plc r.ver=k:=by
 rw[Bf];constructor
 ·rintro⟨y,hy,h⟩
  obtain⟨r,hr,rfl⟩:=Al.1 hy
  have:=DC.1 h
  exact⟨r,hr,by have h1:=this.1;have h2:=this.2;dsimp only at h1 h2;omega⟩
 ·rintro⟨r,hr,rfl⟩
  exact⟨_,Al.2 ⟨r,hr,rfl⟩,DC.2 ⟨BD _,by dsimp only;omega⟩⟩
theorem T6{x:List Rl}(hx:AX x=0){p:ByteArray}{k:Int}:has (BZ x p) k=true↔∃c∈Ch x p,c.place=k:=by
 unfold BZ;rw[G0];unfold has JV;rw[Ai (fun h=>h hx)];simp only[Af,Av];rw[d8];constructor
 ·rintro⟨_,r,hr,rfl⟩
  simp only[BI,Av,CG]at hr;exact⟨⟨plc r.ver,r⟩,KF.2 ⟨r,hr.1.1,hr.1.2,hr.2,rfl⟩,rfl⟩
 ·rintro⟨c,hc,rfl⟩
  obtain⟨r,h1,h2,h3,rfl⟩:=KF.1 hc;have Gk:=(Cc hx).1 r h1
  have:=Je Gk.val
  rw[←Gk.plc]at this;refine⟨⟨this.1,this.2⟩,r,?_,rfl⟩;simp only[BI,Av,CG];exact⟨⟨h1,h2⟩,h3⟩
theorem aa{x:List Rl}(hx:AX x=0)(p:ByteArray):∃k:Int,0≤k∧k<1000000∧has (BZ x p) k=false:=by
 apply AS;intro hn;have GE:∀k∈(List.range 257).map fun i:Nat=>(i:Int),k∈x.map fun r=>plc r.ver:=by
  intro k hk;obtain⟨i,hi,rfl⟩:=Al.1 hk;have hi:=List.mem_range.1 hi;have hh:has (BZ x p) (i:Int)=true:=by
   cases e:has (BZ x p) (i:Int)with
   |true=>rfl
   |false=>exact absurd ⟨(i:Int),by omega,by omega,e⟩ hn
  obtain⟨c,hc,e⟩:=(T6 hx).1 hh;obtain⟨r,h1,_,_,rfl⟩:=KF.1 hc;exact Al.2 ⟨r,h1,e⟩
 have:=H7 (List.pairwise_map.2 (List.nodup_range.imp fun h e=>h (Int.ofNat.inj e))) GE
 rw[A7,A7,PQ]at this
 have:=mR hx
 omega
theorem KQ(dec:List Cd)(c:Cd):AI (dec++[c])=JW (AI dec) c.rel.path c.rel.ver:=by unfold AI JW;rw[Ay];rfl
theorem Mc{t:List Tm}{S:List Sl}:Ct t S=true↔Bb t S=true∧∀u∈t,Cv S u.path=true:=by
 unfold Ct;rw[Af,CG,F0];simp
section
variable {x:List Rl}{roots:List Rq}{dec:List Cd}{p:ByteArray}{needs:List Nd}
abbrev YO(p:ByteArray)(dec:List Cd):List ByteArray:=p::(AI dec).map (·.path)
theorem iR{c:Cd}{t:List Tm}(hf:KD t)(he:Ct t (AI (dec++[c]))=true):TU (YO c.rel.path dec) t:=by
 refine⟨EF hf,fun u hu=>?_⟩
 have:=(Mc.1 he).2 u hu
 rw[GZ,KQ,Ay]at this;rcases AL.1 this with h | h
 ·exact Ag _ h
 ·rw[AJ,ET,Ak]at h;rw[h];exact Ab ..
theorem dE(hx:AX x=0)(hd:Ew x dec){c:Cd}(hc:c.rel∈x){t:List Tm}(he:Ct t (AI (dec++[c]))=true)(hn:CP t c.rel.path=false):Ct t (AI dec)=true:=by
 obtain⟨h1,h2⟩:=Mc.1 he;have Dt:=Jt hn;rw[KQ]at h1 h2;refine Mc.2 ⟨?_,fun u hu=>?_⟩
 ·rw[Kz (.self (hd.valid hx)) (.ver (hd.valid hx) ((Cc hx).1 _ hc).val) Dt];exact h1
 ·have:=h2 u hu
  rw[RY,Cp]at this;rcases this with h | h
  ·exact h
  ·rw[KP]at h;obtain⟨y,hy,e⟩:=h;rw[Ak.1 hy]at e;exact absurd e.symm (Dt u hu)
theorem cn(hx:AX x=0)(hd:Ew x dec){c:Cd}(hc:c.rel∈x∧c.rel.yanked=false∧c.place=plc c.rel.ver)(hu:CY dec c.rel.path=false){t:List Tm}(hf:KD t)(he:Ct t (AI (dec++[c]))=true)(hn:CP t c.rel.path=true) :
  iw (AI dec) (YO c.rel.path dec) c.rel.path t fun k=>k=c.place:=by
 have Gk:=(Cc hx).1 _ hc.1;have hV:=hd.valid hx;have h1:=(Mc.1 he).1;rw[KQ]at h1;refine⟨hf,iR hf he,hn,⟨_,.ver hV Gk.val,h1⟩,fun k k0 k1 e=>?_⟩;subst e;rw[Y5 (by rw[FH];exact hu) (EP ⟨k0,k1⟩) Gk.val (by rw[GU,hc.2.2,Gk.plc])];exact h1
theorem Oq(hx:AX x=0)(hr:BL roots=0){E:List Cd}(hE:Ew x E){n:Nd}(hn:n∈Dk roots E)(hv:∃d∈E,d.rel.path=n.rq.path∧has n.rq.set d.place=false) :
  (∀d,DK x roots d (Sp n)=some (IP n))∧Ct (IP n) (AI E)=true∧KD (IP n):=by
 obtain⟨d,hd,e,hs⟩:=hv;have Gk:=(Cc hx).1 _ (hE.cand d hd).1;have hf:=hE.find hd;have hI:=QS hx hr hE hn (.inr ⟨Su d,by rw[←e];exact hf,by rw[show(Su d).ver=d.rel.ver from rfl,←Gk.plc,←(hE.cand d hd).2.2];exact hs⟩);refine⟨hI.inf,Mc.2 ⟨hI.viol,fun u hu=>?_⟩,hI.form⟩
 have:=(hI.inU ((AI E).map (·.path)) (fun h=>GZ.1 (hI.path h)) (GZ.1 (by rw[Jx,←e,hf];rfl))).2 u hu
 exact GZ.2 this
theorem bD(hx:AX x=0)(hr:BL roots=0)(hd:Ew x dec)(hN:nM roots dec p needs){c:Cd}(hc:c∈Ch x p){n:Nd}(hn:n∈needs)(hs:has n.rq.set c.place=false):CP (IP n) p=true:=by
 obtain⟨c1,c2⟩:=Js hc;have hu:CY dec c.rel.path=false:=by rw[c1];exact hN.undone
 have hE:=hd.snoc c2 hu;obtain⟨cP,jk⟩:=(hN.mem n).1 hn;have Gk:=(Cc hx).1 _ c2.1;have hI:=QS hx hr hE (Nq cP) (.inr ⟨Su c,by rw[jk,←c1];exact hE.find (by simp),by rw[show(Su c).ver=c.rel.ver from rfl,←Gk.plc,←c2.2.2];exact hs⟩);cases nV:CP (IP n) p with
 |true=>rfl
 |false =>
  exfalso
  have Nc:n.rq.set≠[]∧Ev n.rq.set:=by
   rcases LO cP with ⟨k,q,h1,rfl⟩ | ⟨c,hc,k,q,h1,rfl⟩
   ·exact KI hr q (Ar h1)
   ·exact((Cc hx).1 _ (hd.cand c hc).1).set q (Ar h1)
  obtain⟨k,hk⟩:=ZW Nc.1 Nc.2;have ii:=LD hk;have hV:=hd.valid hx;have o1:Wn (AI dec) p (JW (AI dec) p (OM k)):=.ver hV (EP ii);have o2:Wn (AI dec) p (AI (dec++[c])):=by rw[KQ,c1];exact .ver hV Gk.val
  have h1:=Kz o1 o2 (Jt nV);rw[hI.viol,hI.raw _ o1.val,Bx]at h1
  have:=h1 (Dw n.rq) (by unfold MC;split<;>simp)
  rw[show(Dw n.rq).path=p from jk,HY (by rw[FH];exact hN.undone),SM (by rw[show(⟨p,OM k⟩:Sl).ver=OM k from rfl,GU];exact hk)]at this;cases this
theorem bv(hx:AX x=0)(hr:BL roots=0)(hd:Ew x dec)(hN:nM roots dec p needs){n0:Nd}(h0:n0∈needs)(L:List (Nat×Cd))(hL:L.map (·.2)=Ch x p){s:SS}(hs:Fe x roots s)(Ds:∀y∈L,y.1<s.drv.length)
  (qf:s.full=false→∀y∈L,Ct (DE s y.1) (AI (dec++[y.2]))=true∧CP (DE s y.1) p=true) :
  Fe x roots (DX x p n0 (L.map (·.1)) s).2∧Grow s (DX x p n0 (L.map (·.1)) s).2∧(DX x p n0 (L.map (·.1)) s).1<(DX x p n0 (L.map (·.1)) s).2.drv.length ∧
  ((DX x p n0 (L.map (·.1)) s).2.full=false→Ct (DE (DX x p n0 (L.map (·.1)) s).2 (DX x p n0 (L.map (·.1)) s).1) (AI dec)=true):=by
 have hV:=hd.valid hx;have n8:Cv (AI dec) p=false:=by rw[FH];exact hN.undone
 obtain⟨rN,qa⟩:=(hN.mem n0).1 h0;have hI:=QS hx hr hd rN (.inl (by rw[qa];exact Hm n8));unfold DX;obtain⟨a1,a2,a3⟩:=Ka hs (hI.inf s.drv);have ag:=Kb s (Sp n0) (IP n0);have a3:(Bh s n0).2.full=false→DE (Bh s n0).2 (Bh s n0).1=IP n0:=a3
 change Fe x roots (Bh s n0).2 at a1
 change (Bh s n0).1<(Bh s n0).2.drv.length at a2
 change Grow s (Bh s n0).2 at ag
 generalize Bh s n0=s1 at *
 -- the incompatibility of the places that are not available
 obtain⟨u,u0,u1,hu⟩:=aa hx p;have VF:∀k:Int,0≤k→k<1000000→has (BZ x p) k=false→Bb [(⟨p,false,Ec (BZ x p)⟩:Tm)] (JW (AI dec) p (OM k))=true:=fun k k0 k1 hk=>by
  rw[Bx];intro t ht;rw[Ak.1 ht];show Da _ (BX (JW (AI dec) p (OM k)) p)=true;rw[HY n8];show(B8 (OM k)&&has (Ec (BZ x p)) (place (OM k)))=true;rw[EP ⟨k0,k1⟩,GU,Fv,hk];unfold Lj;simp[k0,k1]
 have kS:Bb [(⟨p,false,Ec (BZ x p)⟩:Tm)] (AI dec)=false:=by
  rw[AK];intro h
  have:=Bx.1 h _ (Ab ..)
  rw[show(⟨p,false,Ec (BZ x p)⟩:Tm).path=p from rfl,Hm n8]at this;cases this
 have ou:Wn (AI dec) p (JW (AI dec) p (OM u)):=.ver hV (EP ⟨u0,u1⟩);have Dt:HM p (BZ x p)≠[]:=by
  have c1:=CN (l:=[(⟨p,false,Ec (BZ x p)⟩:Tm)]) ou.val;have c2:=CN (l:=[(⟨p,false,Ec (BZ x p)⟩:Tm)]) hV;rw[VF u u0 u1 hu]at c1;rw[kS]at c2;unfold HM Po;cases hc:CE [(⟨p,false,Ec (BZ x p)⟩:Tm)]with
  |none=>rw[hc]at c1;cases c1
  |some c =>
   rw[hc]at c2;intro e;have e:c=[]:=e;rw[e]at c2;cases c2
 have K8:∀S,FV S→Bb (HM p (BZ x p)) S=Bb [(⟨p,false,Ec (BZ x p)⟩:Tm)] S:=fun S v=>Pp v Dt;have pI:CP (HM p (BZ x p)) p=true:=by
  cases h:CP (HM p (BZ x p)) p with
  |true=>rfl
  |false =>
   have:=Kz ou (.self hV) (Jt h)
   rw[K8 _ ou.val,K8 _ hV,VF u u0 u1 hu,kS]at this;cases this
 have mz:DK x roots s1.2.drv ⟨2,p,0,0,0,0⟩=some (HM p (BZ x p)):=by
  unfold DK;rw[Ai (show ¬((2:Int)=0) by decide),Ai (show ¬((2:Int)=1) by decide),Ao rfl,Ao ⟨rfl,rfl,rfl,rfl⟩];unfold bC;rw[Ai (by rw[GA];exact Dt)]
 obtain⟨b1,b2,b3⟩:=Ka a1 mz;have bg:=Kb s1.2 ⟨2,p,0,0,0,0⟩ (HM p (BZ x p));have b3:(Ed x p s1.2).2.full=false→DE (Ed x p s1.2).2 (Ed x p s1.2).1=HM p (BZ x p):=b3
 change Fe x roots (Ed x p s1.2).2 at b1
 change (Ed x p s1.2).1<(Ed x p s1.2).2.drv.length at b2
 change Grow s1.2 (Ed x p s1.2).2 at bg
 generalize Ed x p s1.2=s2 at *
 have pD:s2.2.full=false→s1.2.full=false∧s.full=false:=fun h=>by
  have h1:s1.2.full=false:=by
   cases e:s1.2.full with
   |false=>rfl
   |true=>rw[bg.full e]at h;cases h
  refine⟨h1,?_⟩;cases e:s.full with
  |false=>rfl
  |true=>rw[ag.full e]at h1;cases h1
 have main:=Nl (D:=AI dec) (U:=YO p dec) (p:=p) hV ((s2.1,fun k=>has (BZ x p) k=false)::L.map fun y=>(y.1,fun k=>k=y.2.place)) (C:=fun k=>has n0.rq.set k=false) b1 (Bu a2 bg.len)
  (fun y hy=>by
   rcases Au.1 hy with rfl | hy
   ·exact b2
   ·obtain⟨z,hz,rfl⟩:=Al.1 hy;exact Bu (Ds z hz) (ag.trans bg).len) (fun hf=>by
   obtain⟨f1,f0⟩:=pD hf;refine⟨?_,fun y hy=>?_⟩
   ·rw[bg.at a2,a3 f1];refine⟨hI.form,hI.inU _ (fun h=>Ag _ (GZ.1 (hI.path h))) (by rw[qa];exact Ab ..),hI.viol,fun k k0 k1 hk=>?_⟩;have ok:Wn (AI dec) p (JW (AI dec) p (OM k)):=.ver hV (EP ⟨k0,k1⟩);rw[hI.raw _ ok.val,Bx];intro t ht;have VD:=Bx.1 ((hI.raw _ hV).symm.trans hI.viol) t ht;unfold MC at ht;have eP:Da (Dw n0.rq) (BX (JW (AI dec) p (OM k)) (Dw n0.rq).path)=true:=by
     rw[show(Dw n0.rq).path=p from qa,HY n8];exact Qq (.inr ⟨_,rfl,EP ⟨k0,k1⟩,by rw[show(⟨p,OM k⟩:Sl).ver=OM k from rfl,GU];exact hk⟩)
    split at ht
    ·rw[Ak.1 ht];exact eP
    ·rename_i hm;rcases Au.1 ht with rfl | ht
     ·have Dt:n0.path≠p:=fun e=>by
       have:=hI.path hm
       rw[e,n8]at this;cases this
      rw[show(⟨n0.path,false,[(n0.place,n0.place+1)]⟩:Tm).path=n0.path from rfl]at VD⊢;rw[ok.same _ Dt];exact VD
     ·rw[Ak.1 ht];exact eP
   ·rcases Au.1 hy with rfl | hy
    ·show iw _ _ p (DE s2.2 s2.1) _;rw[b3 hf];refine⟨LQ _,SL (fun t ht=>by rw[Ak.1 ht];exact Ab ..),pI,⟨_,ou,by rw[K8 _ ou.val];exact VF u u0 u1 hu⟩,fun k k0 k1 hk=>?_⟩;rw[K8 _ (Wn.ver hV (EP ⟨k0,k1⟩)).val];exact VF k k0 k1 hk
    ·obtain⟨z,hz,rfl⟩:=Al.1 hy;show iw _ _ p (DE s2.2 z.1) _;rw[(ag.trans bg).at (Ds z hz)];obtain⟨e1,e2⟩:=qf f0 z hz;have zG:z.2∈Ch x p:=by rw[←hL];exact Al.2 ⟨z,hz,rfl⟩
     obtain⟨c1,c2⟩:=Js zG
     have:=cn hx hd c2 (by rw[c1];exact hN.undone) (hs.forms z.1) e1 (by rw[c1];exact e2)
     rw[c1]at this;exact this)
 have uf:((s2.1,fun k=>has (BZ x p) k=false)::L.map fun y=>(y.1,fun k=>k=y.2.place)).map (·.1)=s2.1::L.map (·.1):=by
  rw[AJ,BK];rfl
 rw[uf]at main;obtain⟨m1,m2,m3,m4⟩:=main;refine⟨m1,(ag.trans bg).trans m2,m3,fun hf=>?_⟩;obtain⟨C',q1,q2⟩:=m4 hf;have zn:CP (DE (Ca p (s2.1::L.map (·.1)) s1.1 s2.2).2 (Ca p (s2.1::L.map (·.1)) s1.1 s2.2).1) p=false:=by
  rcases q2 with q2 | q2
  ·exact q2
  ·refine fP n8 q1.form q1.none_ fun k k0 k1=>q1.cov k k0 k1 (q2 k ?_);cases rO:has n0.rq.set k with
   |false=>exact .inl rfl
   |true =>
    cases ha:has (BZ x p) k with
    |false=>exact .inr ⟨_,Ab ..,ha⟩
    |true =>
     obtain⟨c,hc,e⟩:=(T6 hx).1 ha;rw[←hL]at hc;obtain⟨z,hz,rfl⟩:=Al.1 hc;exact .inr ⟨_,Ag _ (Al.2 ⟨z,hz,rfl⟩),e.symm⟩
 refine Mc.2 ⟨q1.none_,fun t ht=>?_⟩
 have:=q1.inU.2 t ht
 rcases Au.1 this with e | h
 ·exact absurd e (Jt zn t ht)
 ·exact GZ.2 h
end
def GH(s:SS)(b:List Cd)(p:ByteArray)(needs:List Nd):List Cd→List Sk→Prop
 | [],sk=>sk=[]
 |c::cs,sk=>if(needs.all fun n=>has n.rq.set c.place)=true then ∃(k:Nat) (rest:List Sk),sk=⟨p,c.place,k⟩::rest∧(k<s.drv.length∧Ct (DE s k) (AI (b++[c]))=true)∧GH s b p needs cs rest
  else GH s b p needs cs sk
section
variable {s s' : SS}{b:List Cd}{p:ByteArray}{needs:List Nd}
theorem GH.out{c:Cd}(hc:¬(needs.all fun n=>has n.rq.set c.place)=true):∀{cs:List Cd} {sk:List Sk},GH s b p needs cs sk→GH s b p needs (cs++[c]) sk
 | [],sk,h=>by
  show(if _ then _ else _);rw[Ai hc];exact h
 |d::cs,sk,h=>by
  have h:if(needs.all fun n=>has n.rq.set d.place)=true then _ else _:=h
  show(if _ then _ else _)
  by_cases hd:(needs.all fun n=>has n.rq.set d.place)=true
  ·rw[Ao hd]at h⊢;obtain⟨k,rest,h1,h2,h3⟩:=h;exact⟨k,rest,h1,h2,GH.out hc h3⟩
  ·rw[Ai hd]at h⊢;exact GH.out hc h
theorem GH.add{c:Cd}(hc:(needs.all fun n=>has n.rq.set c.place)=true){k:Nat}(hk:k<s.drv.length∧Ct (DE s k) (AI (b++[c]))=true):∀{cs:List Cd} {sk:List Sk},GH s b p needs cs sk→GH s b p needs (cs++[c]) (sk++[⟨p,c.place,k⟩])
 | [],sk,h=>by
  have h:sk=[]:=h;subst h;show(if _ then _ else _);rw[Ao hc];exact⟨k,[],rfl,hk,rfl⟩
 |d::cs,sk,h=>by
  have h:if(needs.all fun n=>has n.rq.set d.place)=true then _ else _:=h
  show(if _ then _ else _)
  by_cases hd:(needs.all fun n=>has n.rq.set d.place)=true
  ·rw[Ao hd]at h⊢;obtain⟨j,rest,rfl,h2,h3⟩:=h;exact⟨j,_,rfl,h2,GH.add hc hk h3⟩
  ·rw[Ai hd]at h⊢;exact GH.add hc hk h
theorem GH.mono(hg:Grow s s'):∀{cs:List Cd} {sk:List Sk},GH s b p needs cs sk→GH s' b p needs cs sk
 | [],_,h=>h
 |d::cs,sk,h=>by
  have h:if(needs.all fun n=>has n.rq.set d.place)=true then _ else _:=h
  show(if _ then _ else _)
  by_cases hd:(needs.all fun n=>has n.rq.set d.place)=true
  ·rw[Ao hd]at h⊢;obtain⟨j,rest,rfl,h2,h3⟩:=h;exact⟨j,rest,rfl,⟨Bu h2.1 hg.len,by rw[hg.at h2.1];exact h2.2⟩,h3.mono hg⟩
  ·rw[Ai hd]at h⊢;exact h.mono hg
end
structure lx(x:List Rl)(roots:List Rq)(s:SS)(b:List Cd)(c:Cd)(sk:List Sk)(p:ByteArray)(needs:List Nd)(pre post:List Cd):Prop where
 next:nM roots b p needs
 cands:Ch x p=pre++c::post
 fit:∀n∈needs,has n.rq.set c.place=true
 noclash:D2 b c=none
 skips:GH s b p needs pre sk
def Re(x:List Rl)(roots:List Rq)(s:SS):List Cd→List Cd→List (List Sk)→Prop
 |b,[],[]=>Ko (HA roots b) (AI b)=none
 |b,c::t,sk::st=>(∃p needs pre post,lx x roots s b c sk p needs pre post)∧Re x roots s (b++[c]) t st
 |_,_,_=>False
structure U8(x:List Rl)(roots:List Rq)(ls:List (List Cd))(dec:List Cd)(s:SS)(st:List (List Sk))(o:JJ):Prop where
 der:Fe x roots o.ss
 grow:Grow s o.ss
 no:o.found=false→o.dec=dec∧o.stack=st∧(o.ss.full=false→o.res<o.ss.drv.length∧Ct (DE o.ss o.res) (AI dec)=true)
 yes:o.found=true→o.ss.full=false∧∃t sl,o.dec=dec++t∧o.stack=st++sl∧Re x roots o.ss dec t sl∧ls.head?=some o.dec
section
variable {rec:List Cd→SS→List (List Sk)→JJ}{x:List Rl}{roots:List Rq}{p:ByteArray}{needs:List Nd}{n0:Nd}{dec:List Cd}{st:List (List Sk)}
def Jr(rec:List Cd→SS→List (List Sk)→JJ)(x:List Rl)(p:ByteArray)(needs:List Nd)(n0:Nd)(dec:List Cd)(st:List (List Sk))(c:Cd)(cs:List Cd)(FL:List Nat)(skips:List Sk)(k:Nat)(s:SS):JJ :=
 if CP (DE s k) p=false then⟨k,false,s,dec,st⟩else DU rec x p needs n0 dec st cs s (FL++[k]) (skips++[⟨p,c.place,k⟩])
theorem F5(c:Cd)(cs:List Cd)(s:SS)(FL:List Nat)(skips:List Sk):DU rec x p needs n0 dec st (c::cs) s FL skips =
  if s.full=true then⟨0,false,s,dec,st⟩
  else match needs.find? fun n=>!has n.rq.set c.place with
   |some n=>DU rec x p needs n0 dec st cs (Bh s n).2 (FL++[(Bh s n).1]) skips
   |none=>match NZ s.drv (AI (dec++[c]))with
    |some k=>Jr rec x p needs n0 dec st c cs FL skips k s
    |none=>match D2 dec c with
     |some n=>Jr rec x p needs n0 dec st c cs FL skips (Bh s n).1 (Bh s n).2
     |none=>if(rec (dec++[c]) s (st++[skips])).found=true then⟨0,true,(rec (dec++[c]) s (st++[skips])).ss,(rec (dec++[c]) s (st++[skips])).dec,(rec (dec++[c]) s (st++[skips])).stack⟩
      else if(rec (dec++[c]) s (st++[skips])).ss.full=true then⟨0,false,(rec (dec++[c]) s (st++[skips])).ss,dec,st⟩
      else Jr rec x p needs n0 dec st c cs FL skips (rec (dec++[c]) s (st++[skips])).res (rec (dec++[c]) s (st++[skips])).ss:=rfl
theorem Zu{s:SS}(hs:Fe x roots s){n:Nd}(h:∀d,DK x roots d (Sp n)=some (IP n)):Fe x roots (Bh s n).2∧(Bh s n).1<(Bh s n).2.drv.length∧((Bh s n).2.full=false→DE (Bh s n).2 (Bh s n).1=IP n)∧Grow s (Bh s n).2:=by
 obtain⟨a1,a2,a3⟩:=Ka hs (h s.drv);exact⟨a1,a2,a3,Kb _ _ _⟩
theorem U8.grown{ls:List (List Cd)}{s s' : SS}{o:JJ}(hg:Grow s s')(h:U8 x roots ls dec s' st o):U8 x roots ls dec s st o:=⟨h.der,hg.trans h.grow,h.no,h.yes⟩
theorem Ua(hx:AX x=0)(hr:BL roots=0)(hd:Ew x dec)(bi:Iz roots dec)(hN:nM roots dec p needs)(h0:n0∈needs){lv:List Cd→List (List Cd)}(xf:∀c∈Ch x p,bN dec needs c=true→∀d∈lv (dec++[c]),Lf x roots (dec++[c]) d)
  (bh:∀c∈Ch x p,bN dec needs c=true→∀s st,Fe x roots s→s.full=false→U8 x roots (lv (dec++[c])) (dec++[c]) s st (rec (dec++[c]) s st)) :
  ∀(cs:List Cd) {s:SS} (L:List (Nat×Cd)) {skips:List Sk},L.map (·.2)++cs=Ch x p→Fe x roots s→(∀y∈L,y.1<s.drv.length)→(s.full=false→(∀y∈L,Ct (DE s y.1) (AI (dec++[y.2]))=true∧CP (DE s y.1) p=true)∧GH s dec p needs (L.map (·.2)) skips) →
   U8 x roots (((Ch x p).map fun c=>if bN dec needs c then lv (dec++[c])else []).flatten) dec s st (DU rec x p needs n0 dec st cs s (L.map (·.1)) skips)
 | [],s,L,skips,hL,hs,Ds,qf=>by
  rw[BT]at hL;obtain⟨l1,l2,l3,l4⟩:=bv hx hr hd hN h0 L hL hs Ds (fun hf=>(qf hf).1);exact⟨l1,l2,fun _=>⟨rfl,rfl,fun hf=>⟨l3,l4 hf⟩⟩,fun h=>(by cases h)⟩
 |c::cs,s,L,skips,hL,hs,Ds,qf=>by
  rw[F5]
  by_cases hf:s.full=true
  ·rw[Ao hf];exact⟨hs,.refl s,fun _=>⟨rfl,rfl,fun h=>by rw[show(⟨0,false,s,dec,st⟩:JJ).ss=s from rfl,hf]at h;cases h⟩,fun h=>(by cases h)⟩
  rw[Ai hf];have hf:s.full=false:=by simpa using hf
  obtain⟨qg,mI⟩:=qf hf;have hc:c∈Ch x p:=by rw[←hL];simp
  obtain⟨c1,c2⟩:=Js hc;have hu:CY dec c.rel.path=false:=by rw[c1];exact hN.undone
  have hE:=hd.snoc c2 hu
  -- on to the next candidate
  have go:∀(s' : SS) (k:Nat) (VW : List Sk),Fe x roots s'→Grow s s'→k<s'.drv.length→(s'.full=false→(Ct (DE s' k) (AI (dec++[c]))=true∧CP (DE s' k) p=true)∧GH s' dec p needs (L.map (·.2)++[c]) VW) →
    U8 x roots (((Ch x p).map fun c=>if bN dec needs c then lv (dec++[c])else []).flatten) dec s st (DU rec x p needs n0 dec st cs s' (L.map (·.1)++[k]) VW):=fun s' k VW Wg hg hk Dt=>by
   have:=Ua hx hr hd bi hN h0 xf bh cs (s:=s') (L++[(k,c)]) (skips:=VW) (by rw[Ay,BH];exact hL) Wg
    (fun y hy=>by
     rcases AL.1 hy with hy | hy
     ·exact Bu (Ds y hy) hg.len
     ·rw[Ak.1 hy];exact hk)
    (fun cN=>by
     obtain⟨e1,e2⟩:=Dt cN;refine⟨fun y hy=>?_,by rw[Ay];exact e2⟩;rcases AL.1 hy with hy | hy
     ·rw[hg.at (Ds y hy)];exact qg y hy
     ·rw[Ak.1 hy];exact e1)
   rw[Ay]at this;exact this.grown hg
  cases mu:needs.find? fun n=>!has n.rq.set c.place with
  |some n =>
   dsimp only;have cP:=Cg mu;have jk:=EE mu;have jk:has n.rq.set c.place=false:=by simpa using jk
   obtain⟨zk,zl⟩:=(hN.mem n).1 cP;obtain⟨e1,e2,e3⟩:=Oq hx hr hE (Nq zk) ⟨c,by simp,by rw[c1,zl],jk⟩;obtain⟨i1,i2,i3,i4⟩:=Zu hs e1;refine go _ _ _ i1 i4 i2 fun cN=>?_;rw[i3 cN];exact⟨⟨e2,bD hx hr hd hN hc cP jk⟩,GH.out (by
    intro h;rw[Bs]at h;rw[h n cP]at jk;cases jk) (mI.mono i4)⟩
  |none =>
   dsimp only;have Yu:∀n∈needs,has n.rq.set c.place=true:=fun n hn=>by
    rw[DL]at mu;simpa using mu n hn
   have GE:(needs.all fun n=>has n.rq.set c.place)=true:=by rw[Bs];exact Yu
   have lz:∀(s' : SS) (k:Nat),Fe x roots s'→Grow s s'→k<s'.drv.length→(s'.full=false→Ct (DE s' k) (AI (dec++[c]))=true) →
     U8 x roots (((Ch x p).map fun c=>if bN dec needs c then lv (dec++[c])else []).flatten) dec s st (Jr rec x p needs n0 dec st c cs (L.map (·.1)) skips k s'):=fun s' k Wg hg hk he=>by
    unfold Jr;cases nV:CP (DE s' k) p with
    |false =>
     rw[Ao rfl];exact⟨Wg,hg,fun _=>⟨rfl,rfl,fun cN=>⟨hk,dE hx hd c2.1 (he cN) (by rw[c1];exact nV)⟩⟩,fun h=>(by cases h)⟩
    |true =>
     rw[Ai (by decide)];exact go _ _ _ Wg hg hk fun cN=>⟨⟨he cN,nV⟩,GH.add GE ⟨hk,he cN⟩ (mI.mono hg)⟩
   cases hen:NZ s.drv (AI (dec++[c]))with
   |some k =>
    dsimp only;obtain⟨k1,k2⟩:=Kg hen;exact lz s k hs (.refl s) k1 fun _=>k2
   |none =>
    dsimp only;cases hcl:D2 dec c with
    |some n =>
     dsimp only;obtain⟨m1,m2⟩:=KJ hcl;obtain⟨e1,e2,e3⟩:=Oq hx hr hE (Mm m1) m2;obtain⟨i1,i2,i3,i4⟩:=Zu hs e1;exact lz _ _ i1 i4 i2 fun cN=>by rw[i3 cN];exact e2
    |none =>
     dsimp only;have Gk:bN dec needs c=true:=Oy.2 ⟨Yu,hcl⟩;have hR:=bh c hc Gk s (st++[skips]) hs hf;generalize rec (dec++[c]) s (st++[skips])=o at hR
     by_cases eu:o.found=true
     ·rw[Ao eu];obtain⟨y1,t,sl,y2,y3,y4,y5⟩:=hR.yes eu;refine⟨hR.der,hR.grow,fun h=>(by cases h),fun _=>⟨y1,c::t,skips::sl,by show o.dec=_;rw[y2];simp,by show o.stack=_;rw[y3];simp,⟨⟨p,needs,L.map (·.2),cs,hN,hL.symm,Yu,hcl,mI.mono hR.grow⟩,y4⟩,?_⟩⟩;show _=some o.dec;rw[←hL,Ay,Cy,AJ,Bv];have uh:((L.map (·.2)).map fun c=>if bN dec needs c then lv (dec++[c])else []).flatten=[]:=by
       rw[List.flatten_eq_nil_iff];intro l hl;obtain⟨d,jg,rfl⟩:=Al.1 hl;obtain⟨y,hy,rfl⟩:=Al.1 jg;split
       ·rename_i zr;have zD:y.2∈Ch x p:=by rw[←hL];exact Bd _ jg
        refine Lc.2 fun d tT=>jI hx hs (Ds y hy) (qg y hy).1 (xf y.2 zD zr d tT)
       ·rfl
      rw[uh,Fm,Ao Gk,List.head?_append,y5];rfl
     ·rw[Ai eu];have eu:o.found=false:=by simpa using eu
      obtain⟨n1,n2,n3⟩:=hR.no eu
      by_cases mv:o.ss.full=true
      ·rw[Ao mv];exact⟨hR.der,hR.grow,fun _=>⟨rfl,rfl,fun h=>by rw[show(⟨0,false,o.ss,dec,st⟩:JJ).ss=o.ss from rfl,mv]at h;cases h⟩,fun h=>(by cases h)⟩
      ·rw[Ai mv];have mv:o.ss.full=false:=by simpa using mv
       exact lz _ _ hR.der hR.grow (n3 mv).1 fun _=>(n3 mv).2
end
theorem RU{x:List Rl}{dec:List Cd}{c:Cd}(h:c.rel∈x∧c.rel.yanked=false)(hu:CY dec c.rel.path=false):Qc x (dec++[c])<Qc x dec:=by
 have key:∀l:List Rl,(l.filter fun r=>!r.yanked&&!CY (dec++[c]) r.path).length≤(l.filter fun r=>!r.yanked&&!CY dec r.path).length ∧
   (c.rel∈l→(l.filter fun r=>!r.yanked&&!CY (dec++[c]) r.path).length<(l.filter fun r=>!r.yanked&&!CY dec r.path).length):=by
  intro l
  induction l with
  |nil=>exact⟨Am _,fun h=>(by cases h)⟩
  |cons r l ih =>
   have eX:(!r.yanked&&!CY (dec++[c]) r.path)=true→(!r.yanked&&!CY dec r.path)=true:=fun e=>by
    simp only[Af,CG]at e⊢;refine⟨e.1,?_⟩
    have:=e.2
    unfold CY at this⊢;rw[Hd,Bool.or_eq_false_iff]at this;exact this.1
   rw[CT,CT];refine⟨?_,fun hm=>?_⟩
   ·by_cases e:(!r.yanked&&!CY (dec++[c]) r.path)=true
    ·rw[Ao e,Ao (eX e)];simp;exact ih.1
    ·rw[Ai e];split
     ·simp;have:=ih.1;omega
     ·exact ih.1
   ·rcases Au.1 hm with rfl | hm
    ·have e1:¬(!c.rel.yanked&&!CY (dec++[c]) c.rel.path)=true:=by
      have:CY (dec++[c]) c.rel.path=true:=by unfold CY;simp
      rw[this];simp
     have e2:(!c.rel.yanked&&!CY dec c.rel.path)=true:=by rw[h.2,hu];rfl
     rw[Ai e1,Ao e2];simp;have:=ih.1;omega
    ·have:=ih.2 hm
     by_cases e:(!r.yanked&&!CY (dec++[c]) r.path)=true
     ·rw[Ao e,Ao (eX e)];simp;exact this
     ·rw[Ai e];split
      ·simp;omega
      ·exact this
 exact(key x).2 h.1
theorem PB{x:List Rl}{roots:List Rq}(hx:AX x=0)(hr:BL roots=0):∀(n:Nat) {dec:List Cd} {s:SS} {st:List (List Sk)},Ew x dec→Iz roots dec→Fe x roots s→s.full=false→Qc x dec<n →
  U8 x roots (Nm x roots n dec) dec s st (CQ x roots n dec s st)
 |0,_,_,_,_,_,_,_,h=>by omega
 |n+1,dec,s,st,hd,bi,hs,hf,hn=>by
  unfold CQ Nm;cases e:(Gs roots dec).2 with
  |nil =>
   exact⟨hs,.refl s,fun h=>(by cases h),fun _=>⟨hf,[],[],by simp,by simp,SG.1 e,rfl⟩⟩
  |cons n0 l =>
   have hN:=Nt e;have next:∀c∈Ch x (Gs roots dec).1,bN dec (n0::l) c=true→Ew x (dec++[c])∧Iz roots (dec++[c])∧Qc x (dec++[c])<n:=fun c hc Gk=>by
    obtain⟨c1,c2⟩:=Js hc;have hu:CY dec c.rel.path=false:=by rw[c1];exact hN.undone
    obtain⟨k1,k2⟩:=Oy.1 Gk;exact⟨hd.snoc c2 hu,bi.snoc hN c1 k1 k2,by have:=RU (dec:=dec) ⟨c2.1,c2.2.1⟩ hu;omega⟩
   exact Ua hx hr hd bi hN (Ab ..) (lv:=Nm x roots n) (fun c hc Gk d jg=>Uz (next c hc Gk).1 (next c hc Gk).2.1 d jg)
    (fun c hc Gk s st hs hf=>PB hx hr n (next c hc Gk).1 (next c hc Gk).2.1 hs hf (next c hc Gk).2.2) _ [] rfl hs (fun y hy=>by cases hy) (fun _=>⟨fun y hy=>(by cases hy),rfl⟩)
theorem dN(x:List Rl)(dec:List Cd):Qc x dec≤x.length:=BA _ _
theorem cp{x:List Rl}{roots:List Rq}(hx:AX x=0)(hr:BL roots=0):U8 x roots (Nm x roots (x.length+1) []) [] r8 [] (Fy x roots) :=
 PB hx hr _ (.nil x) (.nil roots) (.nil x roots) rfl (by have:=dN x [];omega)
-- versions
end Go.Eng
