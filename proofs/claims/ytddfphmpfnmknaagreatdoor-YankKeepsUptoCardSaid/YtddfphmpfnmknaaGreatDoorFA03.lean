/- Lemmas for the claims of this seat, without a condition: part 3 (Q3, Q4, P15, Q5, Q6, Q7). -/
import Derived.Test.YtddfphmpfnmknaaGreatDoorFA02
namespace Go.Eng
theorem LK:∀{l:List Rq} {b:Option ByteArray},FR b l=0→∀q∈l,q.set≠[]∧Ez q.set
 | [],_,_,q,hq=>by cases hq
 |r::l,b,h,q,hq=>by
  unfold FR at h;split at h
  ·rename_i e;rcases Au.1 hq with rfl | hq
   ·unfold GI at e
    by_cases h1:(CE q.path).isNone=true
    ·rw[Ao h1]at e;exact absurd e (by decide)
    rw[Ah h1]at e;cases hE:q.set.isEmpty with
    |true=>rw[hE]at e;simp at e
    |false =>
     cases hD:decide (q.set=canon q.set)with
     |false=>rw[hD]at e;simp at e
     |true =>
      have h3:q.set=canon q.set:=A2 hD;exact⟨by simpa using hE,by rw[h3];exact Cb _⟩
   ·exact LK h q hq
  ·rename_i e;exact absurd h e
theorem KQ{l:List Rq}(h:BK l=0):∀q∈l,q.set≠[]∧Ez q.set:=by
 unfold BK at h;split at h
 ·cases h
 ·exact LK h
abbrev Pk(k:Int):Ver:=⟨0,k / 1000,k % 1000⟩
theorem G5(k:Int):place (Pk k)=k:=by unfold place;show 1000*(k / 1000)+k % 1000=k;omega
theorem EY{k:Int}(h:0≤k∧k<1000000):Cs (Pk k)=true:=by
 unfold Cs okPart;simp only[Af];exact⟨⟨Ax (by omega),Ax (by omega)⟩,Ax (by omega)⟩
structure WU(D:List Sl)(p:ByteArray)(S:List Sl):Prop where
 val:F3 S
 same:∀q,q≠p→B1 S q=B1 D q
abbrev Ka(D:List Sl)(p:ByteArray)(v:Ver):List Sl:=D++[⟨p,v⟩]
theorem J0(a b:List Sl)(p:ByteArray):B1 (a++b) p=(B1 a p).or (B1 b p):=by
 unfold B1;rw[List.find?_append]
theorem Hy{s:List Sl}{p:ByteArray}(h:Cv s p=false):B1 s p=none:=by
 rw[JM]at h;cases e:B1 s p with
 |none=>rfl
 |some y=>rw[e]at h;cases h
theorem WU.self{D:List Sl}{p:ByteArray}(h:F3 D):WU D p D:=⟨h,fun _ _=>rfl⟩
theorem WU.ver{D:List Sl}{p:ByteArray}(h:F3 D){v:Ver}(hv:Cs v=true):WU D p (Ka D p v):=by
 refine⟨fun y hy=>?_,fun q hq=>?_⟩
 ·rcases AU.1 hy with hy | hy
  ·exact h y hy
  ·rw[Am.1 hy];exact hv
 ·rw[J0]
  have:B1 [(⟨p,v⟩:Sl)] q=none:=by unfold B1;simp[Ne.symm hq]
  rw[this,Option.or_none]
theorem Ia{D:List Sl}{p:ByteArray}(hp:Cv D p=false)(v:Ver):B1 (Ka D p v) p=some ⟨p,v⟩:=by
 rw[J0,Hy hp];unfold B1;simp
theorem QH{D:List Sl}{p:ByteArray}(hp:Cv D p=false){v v' : Ver}(hv:Cs v=true)(sZ : Cs v'=true)(e:place v=place v')(q:ByteArray)(t:Tm) :
  Db t (B1 (Ka D p v) q)=Db t (B1 (Ka D p v') q):=by
 by_cases hq:q=p
 ·subst hq;rw[Ia hp,Ia hp];show(Cs v&&has t.set (place v))=(Cs v'&&has t.set (place v'));rw[hv,sZ,e]
 ·have h1:∀w:Ver,B1 (Ka D p w) q=B1 D q:=fun w=>by
   rw[J0]
   have:B1 [(⟨p,w⟩:Sl)] q=none:=by unfold B1;simp[Ne.symm hq]
   rw[this,Option.or_none]
  rw[h1,h1]
theorem ZS{D:List Sl}{p:ByteArray}(hp:Cv D p=false){v v' : Ver}(hv:Cs v=true)(sZ : Cs v'=true)(e:place v=place v')(t:List Tm):Bc t (Ka D p v)=Bc t (Ka D p v'):=by
 rw[BO,Bx,Bx];exact⟨fun h u hu=>by rw[←QH hp hv sZ e];exact h u hu,fun h u hu=>by rw[QH hp hv sZ e];exact h u hu⟩
theorem KJ{D S S' : List Sl}{p:ByteArray}(h:WU D p S)(h' : WU D p S'){t:List Tm}(ht:∀u∈t,u.path≠p):Bc t S=Bc t S':=by
 rw[BO,Bx,Bx];exact⟨fun k u hu=>by rw[h'.same _ (ht u hu),←h.same _ (ht u hu)];exact k u hu,fun k u hu=>by rw[h.same _ (ht u hu),←h'.same _ (ht u hu)];exact k u hu⟩
theorem JI{t:List Tm}{p:ByteArray}(h:CU t p=false):∀u∈t,u.path≠p:=fun u hu e=>by
 unfold CU at h;rw[Gb]at h;exact h u hu (by simpa using e)
theorem Si{t:List Tm}{p:ByteArray}(h:CU t p=true):∃u∈t,u.path=p:=by
 unfold CU at h;rw[Bb]at h;obtain⟨u,hu,e⟩:=h;exact⟨u,hu,by simpa using e⟩
theorem TU{t:List Tm}{p:ByteArray}(hf:KL t)(hc:CU t p=true):∃u r,Fp t p=some (u,r)∧u.path=p∧∀v∈r,v.path≠p:=by
 obtain⟨u,hu,e⟩:=Si hc;have hs:=EM hf;have nB:=(FE hs).1 hu;rw[e]at nB;refine⟨u,FL t p,?_,e,fun v hv=>?_⟩
 ·unfold Fp;rw[show CG t=some t from hf];dsimp only;rw[nB]
 ·have:=(BI.1 hv).2
  simpa using this
theorem WB{D:List Sl}{p:ByteArray}{t b:List Tm}(fN:KL t)(nA:KL b)(zU:CU t p=true)(uS:CU b p=true){S1 S2:List Sl}(h1:WU D p S1)(v1:Bc t S1=true)(h2:WU D p S2)(v2:Bc b S2=true) :
  (Bn t b p).2=0∧∀S,WU D p S→Bc t S=true∨Bc b S=true→Bc (Bn t b p).1 S=true:=by
 obtain⟨u,r,e1,pu,nr⟩:=TU fN zU;obtain⟨w,m,e2,pw,nm⟩:=TU nA uS;have key:∀S,WU D p S→Bc t S=true∨Bc b S=true→Bc (r++m++[Da u w]) S=true:=fun S hS hv=>by
  have r1:Bc r S=true:=by
   rw[KJ hS h1 nr];rw[(FK h1.val e1).1,Af]at v1;exact v1.2
  have m1:Bc m S=true:=by
   rw[KJ hS h2 nm];rw[(FK h2.val e2).1,Af]at v2;exact v2.2
  rw[GU,GU,r1,m1];simp only[Ey];rw[Bx];intro y hy;rw[Am.1 hy,show(Da u w).path=p from pu,M5,Cm];rcases hv with hv | hv
  ·rw[(FK hS.val e1).1,Af]at hv;exact .inl hv.1
  ·rw[(FK hS.val e2).1,Af]at hv;exact .inr hv.1
 unfold Bn;rw[e1,e2];dsimp only;have c1:=CR (l:=r++m++[Da u w]) h1.val;rw[key S1 h1 (.inl v1)]at c1;cases hc:CG (r++m++[Da u w])with
 |none=>rw[hc]at c1;cases c1
 |some o =>
  dsimp only;refine⟨rfl,fun S hS hv=>?_⟩;have c2:=CR (l:=r++m++[Da u w]) hS.val;rw[hc,key S hS hv]at c2;exact c2.symm
theorem gO{D:List Sl}{p:ByteArray}(hp:Cv D p=false){t:List Tm}(hf:KL t)(h0:Bc t D=true)(hk:∀k:Int,0≤k→k<1000000→Bc t (Ka D p (Pk k))=true):CU t p=false:=by
 rw[AM];intro hc;obtain⟨u,hu,e⟩:=Si hc;have ha:u.absent=true:=by
  have:=Bx.1 h0 u hu
  rw[e,Hy hp]at this;exact this
 have hs:∀k:Int,0≤k→k<1000000→has u.set k=true:=fun k k0 k1=>by
  have:=Bx.1 (hk k k0 k1) u hu
  rw[e,Ia hp]at this;unfold Db at this;rw[Af]at this
  have:=this.2
  rw[show(⟨p,Pk k⟩:Sl).ver=Pk k from rfl,G5]at this;exact this
 have o9:Ez u.set:=B6.canon (EM hf) u hu;have XJ:u.set=[(0,1000000)]:=by
  refine Hu o9 ⟨by decide,by decide,by decide,trivial⟩ fun k=>?_;rw[BO];constructor
  ·intro h
   have:=LX h
   unfold has;simp[BG,this.1,this.2]
  ·intro h
   have:=LX h
   exact hs k this.1 this.2
 have uI:Gt u=true:=by unfold Gt;rw[ha,XJ];rfl
 have sM:CG t=some t:=hf;unfold CG at sM;split at sM
 ·cases sM
 ·have e2:=Ct sM;rw[←e2]at hu
  have:=(BI.1 hu).2
  rw[uI]at this;cases this
structure Eg(x:List Rl)(dec:List Cd):Prop where
 cand:∀c∈dec,c.rel∈x∧c.rel.yanked=false∧c.place=plc c.rel.ver
 nodup:(dec.map fun c=>c.rel.path).Nodup
theorem Eg.nil(x:List Rl):Eg x []:=⟨fun _ h=>(by cases h),E9⟩
theorem Tu{r:Rl}(h:RP r):r.path≠mt:=fun e=>by
 have:=h.maj
 rw[e]at this;have h2:CE mt=none:=by decide
 rw[h2]at this;cases this
theorem RP.set{r:Rl}(h:RP r):∀q∈r.reqs,q.set≠[]∧Ez q.set:=KQ h.reqs
theorem NH(dec:List Cd):(AI dec).map (·.path)=dec.map fun c=>c.rel.path:=by unfold AI;rw[BB];rfl
theorem Nt:∀{D:List Sl},(D.map (·.path)).Nodup→∀{y:Sl},y∈D→B1 D y.path=some y
 | [],_,y,h=>by cases h
 |z::D,hn,y,h=>by
  simp only[AL,CK]at hn;unfold B1;rw[EJ];rcases Au.1 h with rfl | h
  ·rw[Ax rfl]
  ·have:z.path≠y.path:=fun e=>hn.1 (Ak.2 ⟨y,h,e.symm⟩)
   rw[Az this];exact Nt hn.2 h
theorem Eg.find{x:List Rl}{dec:List Cd}(h:Eg x dec){c:Cd}(hc:c∈dec):B1 (AI dec) c.rel.path=some (S0 c) :=
 Nt (by rw[NH];exact h.nodup) (y:=S0 c) (Ak.2 ⟨c,hc,rfl⟩)
theorem Eg.valid{x:List Rl}(hx:AQ x=0){dec:List Cd}(h:Eg x dec):F3 (AI dec):=fun y hy=>by
 obtain⟨c,hc,rfl⟩:=Ak.1 hy;exact((Co hx).1 _ (h.cand c hc).1).val
theorem Eg.snoc{x:List Rl}{dec:List Cd}(h:Eg x dec){c:Cd}(hc:c.rel∈x∧c.rel.yanked=false∧c.place=plc c.rel.ver)(hd:CC dec c.rel.path=false):Eg x (dec++[c]):=by
 refine⟨fun d hd=>?_,?_⟩
 ·rcases AU.1 hd with hd | hd
  ·exact h.cand d hd
  ·rw[Am.1 hd];exact hc
 ·rw[Ay,Gd];refine⟨h.nodup,by simp,fun a ha b hb e=>?_⟩;obtain⟨d,kb,rfl⟩:=Ak.1 ha;simp only[AL,E1,Am]at hb;unfold CC at hd;rw[Gb]at hd;exact hd d kb (by simpa using e.trans hb)
theorem L8{roots:List Rq}{E:List Cd}{n:Nd}(h:n∈Dm roots E):(∃k q,roots[k]?=some q∧n=⟨q,mt,0,(k:Nat)⟩)∨∃c∈E,∃k q,c.rel.reqs[k]?=some q∧n=⟨q,c.rel.path,c.place,(k:Nat)⟩:=by
 unfold Dm at h;rcases AU.1 h with h | h
 ·obtain⟨k,q,h1,h2⟩:=Ya h;exact .inl ⟨k,q,h1,h2⟩
 ·obtain⟨l,hl,hn⟩:=El.1 h;obtain⟨c,hc,rfl⟩:=Ak.1 hl;obtain⟨k,q,h1,h2⟩:=Ya hn;exact .inr ⟨c,hc,k,q,h1,h2⟩
theorem NL{roots:List Rq}{dec:List Cd}{c:Cd}{n:Nd}(h:n∈Dm roots dec):n∈Dm roots (dec++[c]):=by
 unfold Dm at *
 rw[Ay,Cw,←BH];exact Bm _ h
theorem ME{roots:List Rq}{dec:List Cd}{c:Cd}{n:Nd}(h:n∈PV c):n∈Dm roots (dec++[c]):=by
 unfold Dm;rw[Ay,Cw,←BH];exact Bd _ (by simpa using h)
def MS(n:Nd):List Tm:=if n.path=mt then [Dy n.rq]else [⟨n.path,false,[(n.place,n.place+1)]⟩,Dy n.rq]
theorem OK(n:Nd):HC n=PQ (MS n):=by unfold HC MS Jw Ef;split<;>rfl
theorem bf{s:Bh}(h:s≠[])(hc:Ez s):∃k,has s k=true:=by
 match s,h,hc with
 |x::r,_,hc =>
  have:=EG.low hc x (Aa ..)
  refine⟨x.1,?_⟩;unfold has;have h1:BG x.1 x=true:=DE.2 ⟨BM _,this.2.1⟩;simp only[B7,h1,Bool.true_or,Bool.and_true,Af,As];omega
theorem QU{q:Rq}{o:Option Sl}(h:o=none∨∃y,o=some y∧Cs y.ver=true∧has q.set (place y.ver)=false):Db (Dy q) o=true:=by
 rcases h with rfl | ⟨y,rfl,hv,hq⟩
 ·rfl
 ·show(Cs y.ver&&has (Eh q.set) (place y.ver))=true
  have:=Ju hv
  rw[hv,FF,hq];unfold Lz;simp[this.1,this.2]
theorem Ts{q:Rq}{y:Sl}(hq:has q.set (place y.ver)=true):Db (Dy q) (some y)=false:=by
 show(Cs y.ver&&has (Eh q.set) (place y.ver))=false;rw[FF,hq];simp
structure pv(x:List Rl)(roots:List Rq)(S:List Sl)(n:Nd):Prop where
 inf:∀d,DO x roots d (MR n)=some (HC n)
 viol:Bc (HC n) S=true
 raw:∀S',F3 S'→Bc (HC n) S'=Bc (MS n) S'
 form:KL (HC n)
 inU:∀U:List ByteArray,(n.path≠mt→n.path∈U)→n.rq.path∈U→Ut U (HC n)
 path:n.path≠mt→Cv S n.path=true
theorem Rw{x:List Rl}{roots:List Rq}(hx:AQ x=0)(hr:BK roots=0){E:List Cd}(hE:Eg x E){n:Nd}(hn:n∈Dm roots E)
  (hv:B1 (AI E) n.rq.path=none∨∃y,B1 (AI E) n.rq.path=some y∧has n.rq.set (place y.ver)=false):pv x roots (AI E) n:=by
 have hV:=hE.valid hx;have fU:Db (Dy n.rq) (B1 (AI E) n.rq.path)=true:=QU (hv.imp id fun⟨y,h1,h2⟩=>⟨y,h1,hV y (Jh h1),h2⟩)
 -- the raw list is Bc here,and not elsewhere
 have NA:n.rq.set≠[]∧Ez n.rq.set:=by
  rcases L8 hn with ⟨k,q,h1,rfl⟩ | ⟨c,hc,k,q,h1,rfl⟩
  ·exact KQ hr q (Ar h1)
  ·exact((Co hx).1 _ (hE.cand c hc).1).set q (Ar h1)
 have Wm:Bc (MS n) (AI E)=true∧(n.path≠mt→Cv (AI E) n.path=true):=by
  rcases L8 hn with ⟨k,q,h1,rfl⟩ | ⟨c,hc,k,q,h1,rfl⟩
  ·refine⟨?_,fun h=>absurd rfl h⟩;unfold MS;rw[Ao rfl,Bx];intro u hu;rw[Am.1 hu];exact fU
  ·have Dt:=Tu ((Co hx).1 _ (hE.cand c hc).1);refine⟨?_,fun _=>by rw[JM,hE.find hc];rfl⟩;unfold MS;rw[Ah Dt,Bx];intro u hu;rcases Au.1 hu with rfl | hu
   ·show Db _ (B1 (AI E) c.rel.path)=true;rw[hE.find hc];show(Cs c.rel.ver&&has [(c.place,c.place+1)] (place c.rel.ver))=true;have Gw:=(Co hx).1 _ (hE.cand c hc).1;have hp:=Ju Gw.val;rw[Gw.val,(hE.cand c hc).2.2,Gw.plc];unfold has;simp[BG,hp.1,hp.2];omega
   ·rw[Am.1 hu];exact fU
 have vr:∃S',F3 S'∧Bc (MS n) S'=false:=by
  unfold MS;split
  ·obtain⟨k,hk⟩:=bf NA.1 NA.2;have je:=LX hk;refine⟨[⟨n.rq.path,Pk k⟩],fun y hy=>by rw[Am.1 hy];exact EY je,?_⟩;rw[AM];intro h
   have:=Bx.1 h (Dy n.rq) (Am.2 rfl)
   rw[show(Dy n.rq).path=n.rq.path from rfl,show B1 [(⟨n.rq.path,Pk k⟩:Sl)] n.rq.path=some ⟨n.rq.path,Pk k⟩ by unfold B1;simp,Ts (by rw[show(⟨n.rq.path,Pk k⟩:Sl).ver=Pk k from rfl,G5];exact hk)]at this;cases this
  ·refine⟨[],fun y hy=>(by cases hy),?_⟩;rw[AM];intro h
   have:=Bx.1 h _ (Aa ..)
   cases this
 obtain⟨Wm,qV⟩:=Wm;have Dt:PQ (MS n)≠[]:=by
  obtain⟨S',v',n'⟩:=vr;have c1:=CR (l:=MS n) hV;have c2:=CR (l:=MS n) v';unfold PQ;cases hc:CG (MS n)with
  |none=>rw[hc,Wm]at c1;cases c1
  |some c =>
   rw[hc,n']at c2;intro e;have e:c=[]:=e;rw[e]at c2;cases c2
 have lZ:∀S',F3 S'→Bc (HC n) S'=Bc (MS n) S':=fun S' v=>by rw[OK];exact PR v Dt
 refine⟨fun d=>?_,by rw[lZ _ hV];exact Wm,lZ,by rw[OK];exact Ma _,fun U h1 h2=>?_,qV⟩
 ·rcases L8 hn with ⟨k,q,h1,rfl⟩ | ⟨c,hc,k,q,h1,rfl⟩
  ·show DO x roots d (if(mt:ByteArray)=mt then⟨0,mt,0,(k:Nat),0,0⟩else _)=some (if(mt:ByteArray)=mt then Jw q else _);rw[Ao rfl,Ao rfl];show(if mt=mt∧(0:Int)=0∧(0:Int)=0∧(0:Int)=0 then(Js roots (k:Nat)).map Jw else none)=some (Jw q);rw[Ao ⟨rfl,rfl,rfl,rfl⟩];unfold Js;rw[Ah (by omega),Ch,h1];rfl
  ·have Gw:=(Co hx).1 _ (hE.cand c hc).1;have T0:=Tu Gw;have vH:OZ x c.rel.path c.place=some c.rel:=by
    unfold OZ;cases hf:x.find? fun r=>decide (r.path=c.rel.path)&&decide (plc r.ver=c.place)with
    |none =>
     rw[DP]at hf;exact absurd (by simp[(hE.cand c hc).2.2]) (hf c.rel (hE.cand c hc).1)
    |some r =>
     have h2:=EK hf;simp only[Af,As]at h2;have fW:=Ce hf;have vz:=(Co hx).1 r fW;rw[aY (Co hx) fW (hE.cand c hc).1 h2.1 (by rw[←vz.plc,h2.2,(hE.cand c hc).2.2,Gw.plc])]
   have e1:MR ⟨q,c.rel.path,c.place,(k:Nat)⟩=⟨1,c.rel.path,c.place,(k:Nat),0,0⟩:=by unfold MR;rw[Ah T0]
   have e2:HC ⟨q,c.rel.path,c.place,(k:Nat)⟩=Ef c.rel.path c.place q:=by unfold HC;rw[Ah T0]
   rw[e1,e2];unfold DO;rw[Ah (show ¬((1:Int)=0) by decide),Ao rfl,Ao ⟨rfl,rfl⟩];dsimp only;rw[vH];dsimp only;unfold Js;rw[Ah (by omega),Ch,h1];dsimp only;unfold cI;rw[Ah];rw[GL,←e2,OK];exact Dt
 ·rw[OK];refine Tr fun u hu=>?_;unfold MS at hu;split at hu
  ·rw[Am.1 hu];exact h2
  ·rename_i hm;rcases Au.1 hu with rfl | hu
   ·exact h1 hm
   ·rw[Am.1 hu];exact h2
structure jp(D:List Sl)(U:List ByteArray)(p:ByteArray)(t:List Tm)(C:Int→Prop):Prop where
 form:KL t
 inU:Ut U t
 conc:CU t p=true
 one:∃S,WU D p S∧Bc t S=true
 cov:∀k:Int,0≤k→k<1000000→C k→Bc t (Ka D p (Pk k))=true
structure mz(D:List Sl)(U:List ByteArray)(p:ByteArray)(t:List Tm)(C:Int→Prop):Prop where
 form:KL t
 inU:Ut U t
 none_:Bc t D=true
 cov:∀k:Int,0≤k→k<1000000→C k→Bc t (Ka D p (Pk k))=true
theorem Fq.forms{x:List Rl}{roots:List Rq}{s:SS}(h:Fq x roots s):∀k,KL (Dv s k):=fun k=>by
 unfold Dv;rw[BT];cases e:s.drv[k]? with
 |none=>exact OB
 |some t=>exact MX (fun _ h=>by cases h) h.der t (Ar e)
theorem U0{x:List Rl}{roots:List Rq}{d:List (List Tm)}{k r:Nat}{p:ByteArray}(hk:k<d.length)(hr:r<d.length)(h0:(Bn (d.getD k []) (d.getD r []) p).2=0) :
  DO x roots d ⟨3,p,0,0,(k:Nat),(r:Nat)⟩=some (Bn (d.getD k []) (d.getD r []) p).1:=by
 have e:∀j:Nat,j<d.length→Js d (j:Nat)=some (d.getD j []):=fun j hj=>by
  unfold Js;rw[Ah (by omega),Ch,BT,At hj];rfl
 unfold DO;rw[Ah (show ¬((3:Int)=0) by decide),Ah (show ¬((3:Int)=1) by decide),Ah (show ¬((3:Int)=2) by decide),Ao rfl,Ao ⟨rfl,rfl⟩];dsimp only;rw[e k hk,e r hr];dsimp only;rw[Ao h0]
theorem NI{x:List Rl}{roots:List Rq}{D:List Sl}{U:List ByteArray}{p:ByteArray}(hD:F3 D):∀(l:List (Nat×(Int→Prop))) {k:Nat} {s:SS} {C:Int→Prop},Fq x roots s→k<s.drv.length→(∀y∈l,y.1<s.drv.length) →
  (s.full=false→mz D U p (Dv s k) C∧∀y∈l,jp D U p (Dv s y.1) y.2) →
  Fq x roots (B3 p (l.map (·.1)) k s).2∧Grow s (B3 p (l.map (·.1)) k s).2∧(B3 p (l.map (·.1)) k s).1<(B3 p (l.map (·.1)) k s).2.drv.length ∧
  ((B3 p (l.map (·.1)) k s).2.full=false→∃C',mz D U p (Dv (B3 p (l.map (·.1)) k s).2 (B3 p (l.map (·.1)) k s).1) C' ∧
   (CU (Dv (B3 p (l.map (·.1)) k s).2 (B3 p (l.map (·.1)) k s).1) p=false∨∀j,C j∨(∃y∈l,y.2 j)→C' j))
 | [],k,s,C,hd,hk,_,hA=>⟨hd,.refl s,hk,fun hf=>⟨C,(hA hf).1,.inr fun j hj=>hj.elim id fun⟨y,hy,_⟩=>(by cases hy)⟩⟩
 |y::l,k,s,C,hd,hk,hl,hA=>by
  rw[AL]
  by_cases h1:s.full=true∨CU (Dv s k) p=false
  ·have e:B3 p (y.1::l.map (·.1)) k s=(k,s):=by unfold B3;rw[Ao h1]
   rw[e];refine⟨hd,.refl s,hk,fun hf=>⟨C,(hA hf).1,.inl (h1.resolve_left fun e=>?_)⟩⟩;have hf:s.full=false:=hf;rw[e]at hf;cases hf
  simp only[not_or,Bool.not_eq_true,Bool.not_eq_false]at h1;obtain⟨hf,TZ⟩:=h1;obtain⟨jX,uv⟩:=hA hf;have hy:=uv y (Aa ..);have hi:¬(s.full=true∨CU (Dv s k) p=false):=by rw[hf,TZ];simp
  by_cases h2:y.1=k
  ·have e:B3 p (y.1::l.map (·.1)) k s=B3 p (l.map (·.1)) k s:=by conv=>lhs;unfold B3;rw[Ah hi,Ao h2]
   rw[e];have zr : mz D U p (Dv s k) fun j=>C j∨y.2 j:=⟨jX.form,jX.inU,jX.none_,fun j j0 j1 hj=>hj.elim (jX.cov j j0 j1) fun h=>by rw[←h2];exact hy.cov j j0 j1 h⟩;obtain⟨i1,i2,i3,i4⟩:=NI hD l hd hk (fun z hz=>hl z (Ag _ hz)) (fun _=>⟨zr,fun z hz=>uv z (Ag _ hz)⟩);refine⟨i1,i2,i3,fun hf=>?_⟩;obtain⟨C',j1,j2⟩:=i4 hf;refine⟨C',j1,j2.imp id fun h j hj=>h j ?_⟩;rcases hj with hj | ⟨z,hz,hj⟩
   ·exact .inl (.inl hj)
   ·rcases Au.1 hz with rfl | hz
    ·exact .inl (.inr hj)
    ·exact .inr ⟨z,hz,hj⟩
  ·obtain⟨S2,o2,v2⟩:=hy.one;obtain⟨r1,r2⟩:=WB jX.form hy.form TZ hy.conc (.self hD) jX.none_ o2 v2;have e:B3 p (y.1::l.map (·.1)) k s=B3 p (l.map (·.1)) (DJ s ⟨3,p,0,0,k,y.1⟩ (Bn (Dv s k) (Dv s y.1) p).1).1 (DJ s ⟨3,p,0,0,k,y.1⟩ (Bn (Dv s k) (Dv s y.1) p).1).2:=by
    conv=>lhs;unfold B3;rw[Ah hi,Ah h2,Ah (fun h=>h r1)]
   rw[e];have hy1:=hl y (Aa ..);obtain⟨a1,a2,a3⟩:=Kk hd (U0 (x:=x) (roots:=roots) hk hy1 r1);have hg:=Kl s ⟨3,p,0,0,(k:Nat),(y.1:Nat)⟩ (Bn (Dv s k) (Dv s y.1) p).1;generalize WP : DJ s ⟨3,p,0,0,(k:Nat),(y.1:Nat)⟩ (Bn (Dv s k) (Dv s y.1) p).1=s' at *
   have a3:s'.2.full=false→Dv s'.2 s'.1=(Bn (Dv s k) (Dv s y.1) p).1:=a3;obtain⟨i1,i2,i3,i4⟩:=NI hD (C:=fun j=>C j∨y.2 j) l a1 a2 (fun z hz=>Bu (hl z (Ag _ hz)) hg.len) (fun XH=>by
    refine⟨?_,fun z hz=>by rw[hg.at (hl z (Ag _ hz))];exact uv z (Ag _ hz)⟩;rw[a3 XH];exact⟨Ng _ _ _,QX jX.inU hy.inU,r2 D (.self hD) (.inl jX.none_),fun j j0 j1 hj=>r2 _ (.ver hD (EY ⟨j0,j1⟩)) (hj.imp (jX.cov j j0 j1) (hy.cov j j0 j1))⟩)
   refine⟨i1,hg.trans i2,i3,fun hf=>?_⟩;obtain⟨C',j1,j2⟩:=i4 hf;refine⟨C',j1,j2.imp id fun h j hj=>h j ?_⟩;rcases hj with hj | ⟨z,hz,hj⟩
   ·exact .inl (.inl hj)
   ·rcases Au.1 hz with rfl | hz
    ·exact .inl (.inr hj)
    ·exact .inr ⟨z,hz,hj⟩
def Hr(roots:List Rq)(dec:List Cd):Prop:=∀q∈HN roots dec,∀d∈dec,d.rel.path=q.path→has q.set d.place=true
theorem Hr.nil(roots:List Rq):Hr roots []:=fun _ _ d h=>by cases h
theorem ZJ(roots:List Rq)(dec:List Cd)(c:Cd):HN roots (dec++[c])=HN roots dec++c.rel.reqs:=by
 unfold HN;rw[Ay,Cw,BH];simp
theorem lh(c:Cd):(PV c).map (·.rq)=c.rel.reqs:=RC (fun _ _=>rfl) _ _
theorem YX{dec:List Cd}{c:Cd}(h:D0 dec c=none):∀q∈c.rel.reqs,∀d∈dec++[c],d.rel.path=q.path→has q.set d.place=true:=fun q hq d hd e=>by
 rw[←lh]at hq;obtain⟨n,hn,rfl⟩:=Ak.1 hq;unfold D0 at h;rw[DP]at h
 have:=h n hn
 unfold aH at this;rw[Bool.not_eq_true,Gb]at this
 have:=this d hd
 rw[e]at this;simpa using this
theorem KR{dec:List Cd}{c:Cd}{n:Nd}(h:D0 dec c=some n):n∈PV c∧∃d∈dec++[c],d.rel.path=n.rq.path∧has n.rq.set d.place=false:=by
 unfold D0 at h;have h1:=EK h;refine⟨Ce h,?_⟩;unfold aH at h1;rw[Bb]at h1;obtain⟨d,hd,e⟩:=h1;simp only[Af,As,CI]at e;exact⟨d,hd,e⟩
theorem Hr.snoc{roots:List Rq}{dec:List Cd}(h:Hr roots dec){p:ByteArray}{needs:List Nd}(hN:oW roots dec p needs){c:Cd}(hc:c.rel.path=p)(hn:∀n∈needs,has n.rq.set c.place=true)(hk:D0 dec c=none):Hr roots (dec++[c]):=by
 intro q hq d hd e;rw[ZJ]at hq;rcases AU.1 hq with hq | hq
 ·rcases AU.1 hd with hd | hd
  ·exact h q hq d hd e
  ·rw[Am.1 hd]at e⊢;rw[←MD]at hq;obtain⟨n,XM,rfl⟩:=Ak.1 hq;exact hn n ((hN.mem n).2 ⟨XM,by rw[←e,hc]⟩)
 ·exact YX hk q hq d hd e
def Un(y:Sl):List Sl→List Sl
 | []=>[y]
 |z::l=>if Er y.path z.path then y::z::l else z::Un y l
def FJ:List Sl→List Sl
 | []=>[]
 |y::l=>Un y (FJ l)
theorem SX{y z:Sl}:∀{l:List Sl},z∈Un y l↔z=y∨z∈l
 | []=>by simp[Un]
 |u::l=>by
  unfold Un;split
  ·simp
  ·rw[Au,SX,Au];constructor
   ·rintro(h | h | h)
    ·exact .inr (.inl h)
    ·exact .inl h
    ·exact .inr (.inr h)
   ·rintro(h | h | h)
    ·exact .inr (.inl h)
    ·exact .inl h
    ·exact .inr (.inr h)
theorem GA{z:Sl}:∀{l:List Sl},z∈FJ l↔z∈l
 | []=>by simp[FJ]
 |u::l=>by unfold FJ;rw[SX,GA,Au]
theorem XT{y:Sl}:∀{l:List Sl},VC l→(∀z∈l,z.path≠y.path)→VC (Un y l)
 | [],_,_=>by simp[Un,VC]
 |u::l,h,hn=>by
  obtain⟨h1,h2⟩:=BC.1 h;unfold Un;split
  ·rename_i hb;refine BC.2 ⟨fun z hz=>?_,h⟩;rcases Au.1 hz with rfl | hz
   ·exact hb
   ·exact DR hb (h1 z hz)
  ·rename_i hb;refine BC.2 ⟨fun z hz=>?_,XT h2 fun z hz=>hn z (Ag _ hz)⟩;rcases SX.1 hz with rfl | hz
   ·cases e:Er u.path z.path with
    |true=>rfl
    |false =>
     have hb:Er z.path u.path=false:=by simpa using hb
     exact absurd (Ht e hb) (hn u (Aa ..))
   ·exact h1 z hz
theorem Qe:∀{l:List Sl},(l.map (·.path)).Nodup→VC (FJ l)
 | [],_=>List.Pairwise.nil
 |y::l,h=>by
  simp only[AL,CK]at h;exact XT (Qe h.2) fun z hz e=>h.1 (Ak.2 ⟨z,GA.1 hz,e⟩)
theorem SU:∀{l:List Sl} {b:Option ByteArray},VC l→(∀c,b=some c→∀y∈l,Er c y.path=true)→SQ b l=true
 | [],_,_,_=>by unfold SQ;rfl
 |y::l,b,h,hb=>by
  obtain⟨h1,h2⟩:=BC.1 h;unfold SQ;cases b with
  |none=>simpa using SU h2 fun c e z hz=>by cases e;exact h1 z hz
  |some c =>
   have:=hb c rfl y (Aa ..)
   simp only[this,Ey];exact SU h2 fun c e z hz=>by cases e;exact h1 z hz
theorem Zh{l:List Sl}(h:VC l):Fl l=true:=SU h fun _ e=>by cases e
theorem I5{x:List Rl}(hx:AQ x=0){r:Rl}(hr:r∈x):Ec x (Fm r)=some r:=by
 unfold Ec;rw[Ah (fun h=>h hx)];cases h:x.find? fun s=>decide (Fm s=Fm r)with
 |none =>
  rw[DP]at h;exact absurd (by simp) (h r hr)
 |some s =>
  have h1:=EK h;simp only[As]at h1;rw[S7 (Co hx).2 (Ce h) hr h1]
theorem Eg.sorted{x:List Rl}{dec:List Cd}(h:Eg x dec):VC (FJ (AI dec)):=Qe (by rw[NH];exact h.nodup)
theorem Eg.findS{x:List Rl}{dec:List Cd}(h:Eg x dec){c:Cd}(hc:c∈dec):B1 (FJ (AI dec)) c.rel.path=some (S0 c) :=
 M2 h.sorted (y:=S0 c) (GA.2 (Ak.2 ⟨c,hc,rfl⟩))
theorem gz{x:List Rl}{roots:List Rq}(hx:AQ x=0){dec:List Cd}(h:Eg x dec)(hs:Hr roots dec)(hl:Kx (HN roots dec) (AI dec)=none):mE x roots (FJ (AI dec)):=by
 have GP:∀q∈HN roots dec,∃y,B1 (FJ (AI dec)) q.path=some y∧has q.set (place y.ver)=true:=fun q hq=>by
  have:=Zt hl q hq
  rw[K3]at this;obtain⟨y,hy,e⟩:=this;obtain⟨d,hd,rfl⟩:=Ak.1 hy;have e:d.rel.path=q.path:=e;refine⟨S0 d,by rw[←e];exact h.findS hd,?_⟩;have h1:=hs q hq d hd e;have Gw:=(Co hx).1 _ (h.cand d hd).1;rw[(h.cand d hd).2.2,Gw.plc]at h1;exact h1
 refine⟨hx,Zh h.sorted,fun y hy=>?_,fun q hq=>GP q (Bm _ hq),fun y hy r hr q hq=>?_⟩
 ·obtain⟨d,hd,rfl⟩:=Ak.1 (GA.1 hy);exact⟨d.rel,I5 hx (h.cand d hd).1,(h.cand d hd).2.1⟩
 ·obtain⟨d,hd,rfl⟩:=Ak.1 (GA.1 hy)
  have:Ec x (S0 d)=some d.rel:=I5 hx (h.cand d hd).1
  rw[this]at hr;cases hr;exact GP q (Bd _ (El.2 ⟨_,Ak.2 ⟨d,hd,rfl⟩,hq⟩))
def cU(dec:List Cd)(needs:List Nd)(c:Cd):Bool:=(needs.all fun n=>has n.rq.set c.place)&&(D0 dec c).isNone
def GG(x:List Rl)(roots:List Rq):Nat→List Cd→List (List Cd)
 |0,_=>[]
 |n+1,dec=>match(EF roots dec).2 with
  | []=>[dec]
  |n0::l=>((BN x (EF roots dec).1).map fun c=>if cU dec (n0::l) c then GG x roots n (dec++[c])else []).flatten
structure Lf(x:List Rl)(roots:List Rq)(dec d:List Cd):Prop where
 pre:dec <+: d
 ok:Eg x d
 sat:Hr roots d
 stop:Kx (HN roots d) (AI d)=none
theorem IW{x:List Rl}{p:ByteArray}{c:Cd}(h:c∈BN x p):c.rel.path=p∧(c.rel∈x∧c.rel.yanked=false∧c.place=plc c.rel.ver):=by
 obtain⟨r,h1,h2,h3,rfl⟩:=KN.1 h;exact⟨h2,h1,h3,rfl⟩
theorem OX{dec:List Cd}{needs:List Nd}{c:Cd}:cU dec needs c=true↔(∀n∈needs,has n.rq.set c.place=true)∧D0 dec c=none:=by
 unfold cU;rw[Af,Bp,Option.isNone_iff_eq_none]
theorem H7{x:List Rl}{roots:List Rq}:∀{n:Nat} {dec:List Cd},Eg x dec→Hr roots dec→∀d∈GG x roots n dec,Lf x roots dec d
 |0,_,_,_,d,hd=>by cases hd
 |n+1,dec,h,hs,d,hd=>by
  unfold GG at hd;split at hd
  ·rename_i e;rw[Am.1 hd];exact⟨MO,h,hs,Tl.1 e⟩
  ·rename_i n0 l e;have hN:=K6 e;obtain⟨L,hL,hd⟩:=El.1 hd;obtain⟨c,hc,rfl⟩:=Ak.1 hL;split at hd
   ·rename_i Gw;obtain⟨h1,h2⟩:=OX.1 Gw;obtain⟨c1,c2⟩:=IW hc;have cg:CC dec c.rel.path=false:=by rw[c1];exact hN.undone
    have:=H7 (n:=n) (h.snoc c2 cg) (hs.snoc hN c1 h1 h2) d hd
    exact⟨(N4 _ _).trans this.pre,this.ok,this.sat,this.stop⟩
   ·cases hd
theorem Lf.sol{x:List Rl}{roots:List Rq}(hx:AQ x=0){dec d:List Cd}(h:Lf x roots dec d):mE x roots (FJ (AI d)):=gz hx h.ok h.sat h.stop
theorem kM{x:List Rl}{roots:List Rq}(hx:AQ x=0){s:SS}(hd:Fq x roots s){k:Nat}(hk:k<s.drv.length){dec d:List Cd}(he:Cr (Dv s k) (AI dec)=true)(h:Lf x roots dec d):False:=by
 have hS:=h.sol hx;have hv:=VW (s:=FJ (AI d)) hS.inc (fun y hy=>GA.2 (by
  obtain⟨c,hc,rfl⟩:=Ak.1 hy;obtain⟨t,e⟩:=h.pre;exact Ak.2 ⟨c,by rw[←e];exact Bm _ hc,rfl⟩)) he
 have hn:=Jg hS (d:=[]) (fun _ h=>by cases h) hd.der (Dv s k) (by
  unfold Dv;rw[BT,At hk];exact AC hk)
 rw[hv]at hn;cases hn
theorem nY{x:List Rl}(h:AQ x=0):x.length≤256:=by
 unfold AQ at h;split at h
 ·cases h
 ·omega
theorem fJ{l:List Rl}{k:Int}:(l.map fun r=>(plc r.ver,plc r.ver+1)).any (BG k)=true↔∃r∈l,plc r.ver=k:=by
 rw[Bb];constructor
 ·rintro⟨y,hy,h⟩
  obtain⟨r,hr,rfl⟩:=Ak.1 hy
  have:=DE.1 h
  exact⟨r,hr,by have h1:=this.1;have h2:=this.2;dsimp only at h1 h2;omega⟩
 ·rintro⟨r,hr,rfl⟩
  exact⟨_,Ak.2 ⟨r,hr,rfl⟩,DE.2 ⟨BM _,by dsimp only;omega⟩⟩
theorem UE{x:List Rl}(hx:AQ x=0){p:ByteArray}{k:Int}:has (BZ x p) k=true↔∃c∈BN x p,c.place=k:=by
 unfold BZ;rw[Hc];unfold has J9;rw[Ah (fun h=>h hx)];simp only[Af,As];rw[fJ];constructor
 ·rintro⟨_,r,hr,rfl⟩
  simp only[BI,As,CI]at hr;exact⟨⟨plc r.ver,r⟩,KN.2 ⟨r,hr.1.1,hr.1.2,hr.2,rfl⟩,rfl⟩
 ·rintro⟨c,hc,rfl⟩
  obtain⟨r,h1,h2,h3,rfl⟩:=KN.1 hc;have Gw:=(Co hx).1 r h1
  have:=Ju Gw.val
  rw[←Gw.plc]at this;refine⟨⟨this.1,this.2⟩,r,?_,rfl⟩;simp only[BI,As,CI];exact⟨⟨h1,h2⟩,h3⟩
theorem bn{x:List Rl}(hx:AQ x=0)(p:ByteArray):∃k:Int,0≤k∧k<1000000∧has (BZ x p) k=false:=by
 apply A4;intro hn;have GP:∀k∈(List.range 257).map fun i:Nat=>(i:Int),k∈x.map fun r=>plc r.ver:=by
  intro k hk;obtain⟨i,hi,rfl⟩:=Ak.1 hk;have hi:=List.mem_range.1 hi;have hh:has (BZ x p) (i:Int)=true:=by
   cases e:has (BZ x p) (i:Int)with
   |true=>rfl
   |false=>exact absurd ⟨(i:Int),by omega,by omega,e⟩ hn
  obtain⟨c,hc,e⟩:=(UE hx).1 hh;obtain⟨r,h1,_,_,rfl⟩:=KN.1 hc;exact Ak.2 ⟨r,h1,e⟩
 have:=Ij (Qt.2 (List.nodup_range.imp fun h e=>h (Int.ofNat.inj e))) GP
 rw[A6,A6,Qs]at this
 have:=nY hx
 omega
theorem K4(dec:List Cd)(c:Cd):AI (dec++[c])=Ka (AI dec) c.rel.path c.rel.ver:=by unfold AI Ka;rw[Ay];rfl
theorem KX{t:List Tm}{S:List Sl}:Cr t S=true↔Bc t S=true∧∀u∈t,Cv S u.path=true:=by
 unfold Cr;rw[Af,CI,Gb];simp
section
variable {x:List Rl}{roots:List Rq}{dec:List Cd}{p:ByteArray}{needs:List Nd}
abbrev Zz(p:ByteArray)(dec:List Cd):List ByteArray:=p::(AI dec).map (·.path)
theorem jJ{c:Cd}{t:List Tm}(hf:KL t)(he:Cr t (AI (dec++[c]))=true):Ut (Zz c.rel.path dec) t:=by
 refine⟨EM hf,fun u hu=>?_⟩
 have:=(KX.1 he).2 u hu
 rw[Hb,K4,Ay]at this;rcases AU.1 this with h | h
 ·exact Ag _ h
 ·rw[AL,E1,Am]at h;rw[h];exact Aa ..
theorem eZ(hx:AQ x=0)(hd:Eg x dec){c:Cd}(hc:c.rel∈x){t:List Tm}(he:Cr t (AI (dec++[c]))=true)(hn:CU t c.rel.path=false):Cr t (AI dec)=true:=by
 obtain⟨h1,h2⟩:=KX.1 he;have Dt:=JI hn;rw[K4]at h1 h2;refine KX.2 ⟨?_,fun u hu=>?_⟩
 ·rw[KJ (.self (hd.valid hx)) (.ver (hd.valid hx) ((Co hx).1 _ hc).val) Dt];exact h1
 ·have:=h2 u hu
  rw[SF,Cm]at this;rcases this with h | h
  ·exact h
  ·rw[K3]at h;obtain⟨y,hy,e⟩:=h;rw[Am.1 hy]at e;exact absurd e.symm (Dt u hu)
theorem dt(hx:AQ x=0)(hd:Eg x dec){c:Cd}(hc:c.rel∈x∧c.rel.yanked=false∧c.place=plc c.rel.ver)(hu:CC dec c.rel.path=false){t:List Tm}(hf:KL t)(he:Cr t (AI (dec++[c]))=true)(hn:CU t c.rel.path=true) :
  jp (AI dec) (Zz c.rel.path dec) c.rel.path t fun k=>k=c.place:=by
 have Gw:=(Co hx).1 _ hc.1;have hV:=hd.valid hx;have h1:=(KX.1 he).1;rw[K4]at h1;refine⟨hf,jJ hf he,hn,⟨_,.ver hV Gw.val,h1⟩,fun k k0 k1 e=>?_⟩;subst e;rw[ZS (by rw[FU];exact hu) (EY ⟨k0,k1⟩) Gw.val (by rw[G5,hc.2.2,Gw.plc])];exact h1
theorem OR(hx:AQ x=0)(hr:BK roots=0){E:List Cd}(hE:Eg x E){n:Nd}(hn:n∈Dm roots E)(hv:∃d∈E,d.rel.path=n.rq.path∧has n.rq.set d.place=false) :
  (∀d,DO x roots d (MR n)=some (HC n))∧Cr (HC n) (AI E)=true∧KL (HC n):=by
 obtain⟨d,hd,e,hs⟩:=hv;have Gw:=(Co hx).1 _ (hE.cand d hd).1;have hf:=hE.find hd;have hI:=Rw hx hr hE hn (.inr ⟨S0 d,by rw[←e];exact hf,by rw[show(S0 d).ver=d.rel.ver from rfl,←Gw.plc,←(hE.cand d hd).2.2];exact hs⟩);refine⟨hI.inf,KX.2 ⟨hI.viol,fun u hu=>?_⟩,hI.form⟩
 have:=(hI.inU ((AI E).map (·.path)) (fun h=>Hb.1 (hI.path h)) (Hb.1 (by rw[JM,←e,hf];rfl))).2 u hu
 exact Hb.2 this
theorem cJ(hx:AQ x=0)(hr:BK roots=0)(hd:Eg x dec)(hN:oW roots dec p needs){c:Cd}(hc:c∈BN x p){n:Nd}(hn:n∈needs)(hs:has n.rq.set c.place=false):CU (HC n) p=true:=by
 obtain⟨c1,c2⟩:=IW hc;have hu:CC dec c.rel.path=false:=by rw[c1];exact hN.undone
 have hE:=hd.snoc c2 hu;obtain⟨dO,kg⟩:=(hN.mem n).1 hn;have Gw:=(Co hx).1 _ c2.1;have hI:=Rw hx hr hE (NL dO) (.inr ⟨S0 c,by rw[kg,←c1];exact hE.find (by simp),by rw[show(S0 c).ver=c.rel.ver from rfl,←Gw.plc,←c2.2.2];exact hs⟩);cases o8:CU (HC n) p with
 |true=>rfl
 |false =>
  exfalso
  have NA:n.rq.set≠[]∧Ez n.rq.set:=by
   rcases L8 dO with ⟨k,q,h1,rfl⟩ | ⟨c,hc,k,q,h1,rfl⟩
   ·exact KQ hr q (Ar h1)
   ·exact((Co hx).1 _ (hd.cand c hc).1).set q (Ar h1)
  obtain⟨k,hk⟩:=bf NA.1 NA.2;have je:=LX hk;have hV:=hd.valid hx;have o1:WU (AI dec) p (Ka (AI dec) p (Pk k)):=.ver hV (EY je);have o2:WU (AI dec) p (AI (dec++[c])):=by rw[K4,c1];exact .ver hV Gw.val
  have h1:=KJ o1 o2 (JI o8);rw[hI.viol,hI.raw _ o1.val,Bx]at h1
  have:=h1 (Dy n.rq) (by unfold MS;split<;>simp)
  rw[show(Dy n.rq).path=p from kg,Ia (by rw[FU];exact hN.undone),Ts (by rw[show(⟨p,Pk k⟩:Sl).ver=Pk k from rfl,G5];exact hk)]at this;cases this
theorem cB(hx:AQ x=0)(hr:BK roots=0)(hd:Eg x dec)(hN:oW roots dec p needs){n0:Nd}(h0:n0∈needs)(L:List (Nat×Cd))(hL:L.map (·.2)=BN x p){s:SS}(hs:Fq x roots s)(DA:∀y∈L,y.1<s.drv.length)
  (qZ:s.full=false→∀y∈L,Cr (Dv s y.1) (AI (dec++[y.2]))=true∧CU (Dv s y.1) p=true) :
  Fq x roots (DF x p n0 (L.map (·.1)) s).2∧Grow s (DF x p n0 (L.map (·.1)) s).2∧(DF x p n0 (L.map (·.1)) s).1<(DF x p n0 (L.map (·.1)) s).2.drv.length ∧
  ((DF x p n0 (L.map (·.1)) s).2.full=false→Cr (Dv (DF x p n0 (L.map (·.1)) s).2 (DF x p n0 (L.map (·.1)) s).1) (AI dec)=true):=by
 have hV:=hd.valid hx;have pg:Cv (AI dec) p=false:=by rw[FU];exact hN.undone
 obtain⟨sT,qU⟩:=(hN.mem n0).1 h0;have hI:=Rw hx hr hd sT (.inl (by rw[qU];exact Hy pg));unfold DF;obtain⟨a1,a2,a3⟩:=Kk hs (hI.inf s.drv);have ag:=Kl s (MR n0) (HC n0);have a3:(Bf s n0).2.full=false→Dv (Bf s n0).2 (Bf s n0).1=HC n0:=a3
 change Fq x roots (Bf s n0).2 at a1
 change (Bf s n0).1<(Bf s n0).2.drv.length at a2
 change Grow s (Bf s n0).2 at ag
 generalize Bf s n0=s1 at *
 -- the incompatibility of the places that are not available
 obtain⟨u,u0,u1,hu⟩:=bn hx p;have Wm:∀k:Int,0≤k→k<1000000→has (BZ x p) k=false→Bc [(⟨p,false,Eh (BZ x p)⟩:Tm)] (Ka (AI dec) p (Pk k))=true:=fun k k0 k1 hk=>by
  rw[Bx];intro t ht;rw[Am.1 ht];show Db _ (B1 (Ka (AI dec) p (Pk k)) p)=true;rw[Ia pg];show(Cs (Pk k)&&has (Eh (BZ x p)) (place (Pk k)))=true;rw[EY ⟨k0,k1⟩,G5,FF,hk];unfold Lz;simp[k0,k1]
 have lY:Bc [(⟨p,false,Eh (BZ x p)⟩:Tm)] (AI dec)=false:=by
  rw[AM];intro h
  have:=Bx.1 h _ (Aa ..)
  rw[show(⟨p,false,Eh (BZ x p)⟩:Tm).path=p from rfl,Hy pg]at this;cases this
 have ou:WU (AI dec) p (Ka (AI dec) p (Pk u)):=.ver hV (EY ⟨u0,u1⟩);have Dt:HJ p (BZ x p)≠[]:=by
  have c1:=CR (l:=[(⟨p,false,Eh (BZ x p)⟩:Tm)]) ou.val;have c2:=CR (l:=[(⟨p,false,Eh (BZ x p)⟩:Tm)]) hV;rw[Wm u u0 u1 hu]at c1;rw[lY]at c2;unfold HJ PQ;cases hc:CG [(⟨p,false,Eh (BZ x p)⟩:Tm)]with
  |none=>rw[hc]at c1;cases c1
  |some c =>
   rw[hc]at c2;intro e;have e:c=[]:=e;rw[e]at c2;cases c2
 have Lr:∀S,F3 S→Bc (HJ p (BZ x p)) S=Bc [(⟨p,false,Eh (BZ x p)⟩:Tm)] S:=fun S v=>PR v Dt;have qx:CU (HJ p (BZ x p)) p=true:=by
  cases h:CU (HJ p (BZ x p)) p with
  |true=>rfl
  |false =>
   have:=KJ ou (.self hV) (JI h)
   rw[Lr _ ou.val,Lr _ hV,Wm u u0 u1 hu,lY]at this;cases this
 have nF:DO x roots s1.2.drv ⟨2,p,0,0,0,0⟩=some (HJ p (BZ x p)):=by
  unfold DO;rw[Ah (show ¬((2:Int)=0) by decide),Ah (show ¬((2:Int)=1) by decide),Ao rfl,Ao ⟨rfl,rfl,rfl,rfl⟩];unfold cI;rw[Ah (by rw[GL];exact Dt)]
 obtain⟨b1,b2,b3⟩:=Kk a1 nF;have bg:=Kl s1.2 ⟨2,p,0,0,0,0⟩ (HJ p (BZ x p));have b3:(D2 x p s1.2).2.full=false→Dv (D2 x p s1.2).2 (D2 x p s1.2).1=HJ p (BZ x p):=b3
 change Fq x roots (D2 x p s1.2).2 at b1
 change (D2 x p s1.2).1<(D2 x p s1.2).2.drv.length at b2
 change Grow s1.2 (D2 x p s1.2).2 at bg
 generalize D2 x p s1.2=s2 at *
 have qt:s2.2.full=false→s1.2.full=false∧s.full=false:=fun h=>by
  have h1:s1.2.full=false:=by
   cases e:s1.2.full with
   |false=>rfl
   |true=>rw[bg.full e]at h;cases h
  refine⟨h1,?_⟩;cases e:s.full with
  |false=>rfl
  |true=>rw[ag.full e]at h1;cases h1
 have main:=NI (D:=AI dec) (U:=Zz p dec) (p:=p) hV ((s2.1,fun k=>has (BZ x p) k=false)::L.map fun y=>(y.1,fun k=>k=y.2.place)) (C:=fun k=>has n0.rq.set k=false) b1 (Bu a2 bg.len)
  (fun y hy=>by
   rcases Au.1 hy with rfl | hy
   ·exact b2
   ·obtain⟨z,hz,rfl⟩:=Ak.1 hy;exact Bu (DA z hz) (ag.trans bg).len) (fun hf=>by
   obtain⟨f1,f0⟩:=qt hf;refine⟨?_,fun y hy=>?_⟩
   ·rw[bg.at a2,a3 f1];refine⟨hI.form,hI.inU _ (fun h=>Ag _ (Hb.1 (hI.path h))) (by rw[qU];exact Aa ..),hI.viol,fun k k0 k1 hk=>?_⟩;have ok:WU (AI dec) p (Ka (AI dec) p (Pk k)):=.ver hV (EY ⟨k0,k1⟩);rw[hI.raw _ ok.val,Bx];intro t ht;have Wj:=Bx.1 ((hI.raw _ hV).symm.trans hI.viol) t ht;unfold MS at ht;have fU:Db (Dy n0.rq) (B1 (Ka (AI dec) p (Pk k)) (Dy n0.rq).path)=true:=by
     rw[show(Dy n0.rq).path=p from qU,Ia pg];exact QU (.inr ⟨_,rfl,EY ⟨k0,k1⟩,by rw[show(⟨p,Pk k⟩:Sl).ver=Pk k from rfl,G5];exact hk⟩)
    split at ht
    ·rw[Am.1 ht];exact fU
    ·rename_i hm;rcases Au.1 ht with rfl | ht
     ·have Dt:n0.path≠p:=fun e=>by
       have:=hI.path hm
       rw[e,pg]at this;cases this
      rw[show(⟨n0.path,false,[(n0.place,n0.place+1)]⟩:Tm).path=n0.path from rfl]at Wj⊢;rw[ok.same _ Dt];exact Wj
     ·rw[Am.1 ht];exact fU
   ·rcases Au.1 hy with rfl | hy
    ·show jp _ _ p (Dv s2.2 s2.1) _;rw[b3 hf];refine⟨Ma _,Tr (fun t ht=>by rw[Am.1 ht];exact Aa ..),qx,⟨_,ou,by rw[Lr _ ou.val];exact Wm u u0 u1 hu⟩,fun k k0 k1 hk=>?_⟩;rw[Lr _ (WU.ver hV (EY ⟨k0,k1⟩)).val];exact Wm k k0 k1 hk
    ·obtain⟨z,hz,rfl⟩:=Ak.1 hy;show jp _ _ p (Dv s2.2 z.1) _;rw[(ag.trans bg).at (DA z hz)];obtain⟨e1,e2⟩:=qZ f0 z hz;have hzc:z.2∈BN x p:=by rw[←hL];exact Ak.2 ⟨z,hz,rfl⟩
     obtain⟨c1,c2⟩:=IW hzc
     have:=dt hx hd c2 (by rw[c1];exact hN.undone) (hs.forms z.1) e1 (by rw[c1];exact e2)
     rw[c1]at this;exact this)
 have vl:((s2.1,fun k=>has (BZ x p) k=false)::L.map fun y=>(y.1,fun k=>k=y.2.place)).map (·.1)=s2.1::L.map (·.1):=by
  rw[AL,BB];rfl
 rw[vl]at main;obtain⟨m1,m2,m3,m4⟩:=main;refine⟨m1,(ag.trans bg).trans m2,m3,fun hf=>?_⟩;obtain⟨C',q1,q2⟩:=m4 hf;have hnc:CU (Dv (B3 p (s2.1::L.map (·.1)) s1.1 s2.2).2 (B3 p (s2.1::L.map (·.1)) s1.1 s2.2).1) p=false:=by
  rcases q2 with q2 | q2
  ·exact q2
  ·refine gO pg q1.form q1.none_ fun k k0 k1=>q1.cov k k0 k1 (q2 k ?_);cases sU:has n0.rq.set k with
   |false=>exact .inl rfl
   |true =>
    cases ha:has (BZ x p) k with
    |false=>exact .inr ⟨_,Aa ..,ha⟩
    |true =>
     obtain⟨c,hc,e⟩:=(UE hx).1 ha;rw[←hL]at hc;obtain⟨z,hz,rfl⟩:=Ak.1 hc;exact .inr ⟨_,Ag _ (Ak.2 ⟨z,hz,rfl⟩),e.symm⟩
 refine KX.2 ⟨q1.none_,fun t ht=>?_⟩
 have:=q1.inU.2 t ht
 rcases Au.1 this with e | h
 ·exact absurd e (JI hnc t ht)
 ·exact Hb.2 h
end
def GR(s:SS)(b:List Cd)(p:ByteArray)(needs:List Nd):List Cd→List Sk→Prop
 | [],sk=>sk=[]
 |c::cs,sk=>if(needs.all fun n=>has n.rq.set c.place)=true then ∃(k:Nat) (rest:List Sk),sk=⟨p,c.place,k⟩::rest∧(k<s.drv.length∧Cr (Dv s k) (AI (b++[c]))=true)∧GR s b p needs cs rest
  else GR s b p needs cs sk
section
variable {s s' : SS}{b:List Cd}{p:ByteArray}{needs:List Nd}
theorem GR.out{c:Cd}(hc:¬(needs.all fun n=>has n.rq.set c.place)=true):∀{cs:List Cd} {sk:List Sk},GR s b p needs cs sk→GR s b p needs (cs++[c]) sk
 | [],sk,h=>by
  show(if _ then _ else _);rw[Ah hc];exact h
 |d::cs,sk,h=>by
  have h:if(needs.all fun n=>has n.rq.set d.place)=true then _ else _:=h
  show(if _ then _ else _)
  by_cases hd:(needs.all fun n=>has n.rq.set d.place)=true
  ·rw[Ao hd]at h⊢;obtain⟨k,rest,h1,h2,h3⟩:=h;exact⟨k,rest,h1,h2,GR.out hc h3⟩
  ·rw[Ah hd]at h⊢;exact GR.out hc h
theorem GR.add{c:Cd}(hc:(needs.all fun n=>has n.rq.set c.place)=true){k:Nat}(hk:k<s.drv.length∧Cr (Dv s k) (AI (b++[c]))=true):∀{cs:List Cd} {sk:List Sk},GR s b p needs cs sk→GR s b p needs (cs++[c]) (sk++[⟨p,c.place,k⟩])
 | [],sk,h=>by
  have h:sk=[]:=h;subst h;show(if _ then _ else _);rw[Ao hc];exact⟨k,[],rfl,hk,rfl⟩
 |d::cs,sk,h=>by
  have h:if(needs.all fun n=>has n.rq.set d.place)=true then _ else _:=h
  show(if _ then _ else _)
  by_cases hd:(needs.all fun n=>has n.rq.set d.place)=true
  ·rw[Ao hd]at h⊢;obtain⟨j,rest,rfl,h2,h3⟩:=h;exact⟨j,_,rfl,h2,GR.add hc hk h3⟩
  ·rw[Ah hd]at h⊢;exact GR.add hc hk h
theorem GR.mono(hg:Grow s s'):∀{cs:List Cd} {sk:List Sk},GR s b p needs cs sk→GR s' b p needs cs sk
 | [],_,h=>h
 |d::cs,sk,h=>by
  have h:if(needs.all fun n=>has n.rq.set d.place)=true then _ else _:=h
  show(if _ then _ else _)
  by_cases hd:(needs.all fun n=>has n.rq.set d.place)=true
  ·rw[Ao hd]at h⊢;obtain⟨j,rest,rfl,h2,h3⟩:=h;exact⟨j,rest,rfl,⟨Bu h2.1 hg.len,by rw[hg.at h2.1];exact h2.2⟩,h3.mono hg⟩
  ·rw[Ah hd]at h⊢;exact h.mono hg
end
structure mF(x:List Rl)(roots:List Rq)(s:SS)(b:List Cd)(c:Cd)(sk:List Sk)(p:ByteArray)(needs:List Nd)(pre post:List Cd):Prop where
 next:oW roots b p needs
 cands:BN x p=pre++c::post
 fit:∀n∈needs,has n.rq.set c.place=true
 noclash:D0 b c=none
 skips:GR s b p needs pre sk
def RI(x:List Rl)(roots:List Rq)(s:SS):List Cd→List Cd→List (List Sk)→Prop
 |b,[],[]=>Kx (HN roots b) (AI b)=none
 |b,c::t,sk::st=>(∃p needs pre post,mF x roots s b c sk p needs pre post)∧RI x roots s (b++[c]) t st
 |_,_,_=>False
structure VE(x:List Rl)(roots:List Rq)(ls:List (List Cd))(dec:List Cd)(s:SS)(st:List (List Sk))(o:JC):Prop where
 der:Fq x roots o.ss
 grow:Grow s o.ss
 no:o.found=false→o.dec=dec∧o.stack=st∧(o.ss.full=false→o.res<o.ss.drv.length∧Cr (Dv o.ss o.res) (AI dec)=true)
 yes:o.found=true→o.ss.full=false∧∃t sl,o.dec=dec++t∧o.stack=st++sl∧RI x roots o.ss dec t sl∧ls.head?=some o.dec
section
variable {rec:List Cd→SS→List (List Sk)→JC}{x:List Rl}{roots:List Rq}{p:ByteArray}{needs:List Nd}{n0:Nd}{dec:List Cd}{st:List (List Sk)}
def In(rec:List Cd→SS→List (List Sk)→JC)(x:List Rl)(p:ByteArray)(needs:List Nd)(n0:Nd)(dec:List Cd)(st:List (List Sk))(c:Cd)(cs:List Cd)(reasons:List Nat)(skips:List Sk)(k:Nat)(s:SS):JC :=
 if CU (Dv s k) p=false then⟨k,false,s,dec,st⟩else DC rec x p needs n0 dec st cs s (reasons++[k]) (skips++[⟨p,c.place,k⟩])
theorem FO(c:Cd)(cs:List Cd)(s:SS)(reasons:List Nat)(skips:List Sk):DC rec x p needs n0 dec st (c::cs) s reasons skips =
  if s.full=true then⟨0,false,s,dec,st⟩
  else match needs.find? fun n=>!has n.rq.set c.place with
   |some n=>DC rec x p needs n0 dec st cs (Bf s n).2 (reasons++[(Bf s n).1]) skips
   |none=>match Ns s.drv (AI (dec++[c]))with
    |some k=>In rec x p needs n0 dec st c cs reasons skips k s
    |none=>match D0 dec c with
     |some n=>In rec x p needs n0 dec st c cs reasons skips (Bf s n).1 (Bf s n).2
     |none=>if(rec (dec++[c]) s (st++[skips])).found=true then⟨0,true,(rec (dec++[c]) s (st++[skips])).ss,(rec (dec++[c]) s (st++[skips])).dec,(rec (dec++[c]) s (st++[skips])).stack⟩
      else if(rec (dec++[c]) s (st++[skips])).ss.full=true then⟨0,false,(rec (dec++[c]) s (st++[skips])).ss,dec,st⟩
      else In rec x p needs n0 dec st c cs reasons skips (rec (dec++[c]) s (st++[skips])).res (rec (dec++[c]) s (st++[skips])).ss:=rfl
theorem ax{s:SS}(hs:Fq x roots s){n:Nd}(h:∀d,DO x roots d (MR n)=some (HC n)):Fq x roots (Bf s n).2∧(Bf s n).1<(Bf s n).2.drv.length∧((Bf s n).2.full=false→Dv (Bf s n).2 (Bf s n).1=HC n)∧Grow s (Bf s n).2:=by
 obtain⟨a1,a2,a3⟩:=Kk hs (h s.drv);exact⟨a1,a2,a3,Kl _ _ _⟩
theorem VE.grown{ls:List (List Cd)}{s s' : SS}{o:JC}(hg:Grow s s')(h:VE x roots ls dec s' st o):VE x roots ls dec s st o:=⟨h.der,hg.trans h.grow,h.no,h.yes⟩
theorem UH(hx:AQ x=0)(hr:BK roots=0)(hd:Eg x dec)(cn:Hr roots dec)(hN:oW roots dec p needs)(h0:n0∈needs){lv:List Cd→List (List Cd)}(yd:∀c∈BN x p,cU dec needs c=true→∀d∈lv (dec++[c]),Lf x roots (dec++[c]) d)
  (Wn:∀c∈BN x p,cU dec needs c=true→∀s st,Fq x roots s→s.full=false→VE x roots (lv (dec++[c])) (dec++[c]) s st (rec (dec++[c]) s st)) :
  ∀(cs:List Cd) {s:SS} (L:List (Nat×Cd)) {skips:List Sk},L.map (·.2)++cs=BN x p→Fq x roots s→(∀y∈L,y.1<s.drv.length)→(s.full=false→(∀y∈L,Cr (Dv s y.1) (AI (dec++[y.2]))=true∧CU (Dv s y.1) p=true)∧GR s dec p needs (L.map (·.2)) skips) →
   VE x roots (((BN x p).map fun c=>if cU dec needs c then lv (dec++[c])else []).flatten) dec s st (DC rec x p needs n0 dec st cs s (L.map (·.1)) skips)
 | [],s,L,skips,hL,hs,DA,qZ=>by
  rw[BP]at hL;obtain⟨l1,l2,l3,l4⟩:=cB hx hr hd hN h0 L hL hs DA (fun hf=>(qZ hf).1);exact⟨l1,l2,fun _=>⟨rfl,rfl,fun hf=>⟨l3,l4 hf⟩⟩,fun h=>(by cases h)⟩
 |c::cs,s,L,skips,hL,hs,DA,qZ=>by
  rw[FO]
  by_cases hf:s.full=true
  ·rw[Ao hf];exact⟨hs,.refl s,fun _=>⟨rfl,rfl,fun h=>by rw[show(⟨0,false,s,dec,st⟩:JC).ss=s from rfl,hf]at h;cases h⟩,fun h=>(by cases h)⟩
  rw[Ah hf];have hf:s.full=false:=by simpa using hf
  obtain⟨q8,nP⟩:=qZ hf;have hc:c∈BN x p:=by rw[←hL];simp
  obtain⟨c1,c2⟩:=IW hc;have hu:CC dec c.rel.path=false:=by rw[c1];exact hN.undone
  have hE:=hd.snoc c2 hu
  -- on to the next candidate
  have go:∀(s' : SS) (k:Nat) (Lc : List Sk),Fq x roots s'→Grow s s'→k<s'.drv.length→(s'.full=false→(Cr (Dv s' k) (AI (dec++[c]))=true∧CU (Dv s' k) p=true)∧GR s' dec p needs (L.map (·.2)++[c]) Lc) →
    VE x roots (((BN x p).map fun c=>if cU dec needs c then lv (dec++[c])else []).flatten) dec s st (DC rec x p needs n0 dec st cs s' (L.map (·.1)++[k]) Lc):=fun s' k Lc WP hg hk Dt=>by
   have:=UH hx hr hd cn hN h0 yd Wn cs (s:=s') (L++[(k,c)]) (skips:=Lc) (by rw[Ay,BH];exact hL) WP
    (fun y hy=>by
     rcases AU.1 hy with hy | hy
     ·exact Bu (DA y hy) hg.len
     ·rw[Am.1 hy];exact hk)
    (fun XH=>by
     obtain⟨e1,e2⟩:=Dt XH;refine⟨fun y hy=>?_,by rw[Ay];exact e2⟩;rcases AU.1 hy with hy | hy
     ·rw[hg.at (DA y hy)];exact q8 y hy
     ·rw[Am.1 hy];exact e1)
   rw[Ay]at this;exact this.grown hg
  cases nB:needs.find? fun n=>!has n.rq.set c.place with
  |some n =>
   dsimp only;have dO:=Ce nB;have kg:=EK nB;have kg:has n.rq.set c.place=false:=by simpa using kg
   obtain⟨hn3,hn4⟩:=(hN.mem n).1 dO;obtain⟨e1,e2,e3⟩:=OR hx hr hE (NL hn3) ⟨c,by simp,by rw[c1,hn4],kg⟩;obtain⟨i1,i2,i3,i4⟩:=ax hs e1;refine go _ _ _ i1 i4 i2 fun XH=>?_;rw[i3 XH];exact⟨⟨e2,cJ hx hr hd hN hc dO kg⟩,GR.out (by
    intro h;rw[Bp]at h;rw[h n dO]at kg;cases kg) (nP.mono i4)⟩
  |none =>
   dsimp only;have Zc:∀n∈needs,has n.rq.set c.place=true:=fun n hn=>by
    rw[DP]at nB;simpa using nB n hn
   have GP:(needs.all fun n=>has n.rq.set c.place)=true:=by rw[Bp];exact Zc
   have dY:∀(s' : SS) (k:Nat),Fq x roots s'→Grow s s'→k<s'.drv.length→(s'.full=false→Cr (Dv s' k) (AI (dec++[c]))=true) →
     VE x roots (((BN x p).map fun c=>if cU dec needs c then lv (dec++[c])else []).flatten) dec s st (In rec x p needs n0 dec st c cs (L.map (·.1)) skips k s'):=fun s' k WP hg hk he=>by
    unfold In;cases o8:CU (Dv s' k) p with
    |false =>
     rw[Ao rfl];exact⟨WP,hg,fun _=>⟨rfl,rfl,fun XH=>⟨hk,eZ hx hd c2.1 (he XH) (by rw[c1];exact o8)⟩⟩,fun h=>(by cases h)⟩
    |true =>
     rw[Ah (by decide)];exact go _ _ _ WP hg hk fun XH=>⟨⟨he XH,o8⟩,GR.add GP ⟨hk,he XH⟩ (nP.mono hg)⟩
   cases hen:Ns s.drv (AI (dec++[c]))with
   |some k =>
    dsimp only;obtain⟨k1,k2⟩:=Kq hen;exact dY s k hs (.refl s) k1 fun _=>k2
   |none =>
    dsimp only;cases hcl:D0 dec c with
    |some n =>
     dsimp only;obtain⟨m1,m2⟩:=KR hcl;obtain⟨e1,e2,e3⟩:=OR hx hr hE (ME m1) m2;obtain⟨i1,i2,i3,i4⟩:=ax hs e1;exact dY _ _ i1 i4 i2 fun XH=>by rw[i3 XH];exact e2
    |none =>
     dsimp only;have Gw:cU dec needs c=true:=OX.2 ⟨Zc,hcl⟩;have hR:=Wn c hc Gw s (st++[skips]) hs hf;generalize rec (dec++[c]) s (st++[skips])=o at hR
     by_cases OI:o.found=true
     ·rw[Ao OI];obtain⟨y1,t,sl,y2,y3,y4,y5⟩:=hR.yes OI;refine⟨hR.der,hR.grow,fun h=>(by cases h),fun _=>⟨y1,c::t,skips::sl,by show o.dec=_;rw[y2];simp,by show o.stack=_;rw[y3];simp,⟨⟨p,needs,L.map (·.2),cs,hN,hL.symm,Zc,hcl,nP.mono hR.grow⟩,y4⟩,?_⟩⟩;show _=some o.dec;rw[←hL,Ay,Cw,AL,Bv];have nK:((L.map (·.2)).map fun c=>if cU dec needs c then lv (dec++[c])else []).flatten=[]:=by
       rw[List.flatten_eq_nil_iff];intro l hl;obtain⟨d,kb,rfl⟩:=Ak.1 hl;obtain⟨y,hy,rfl⟩:=Ak.1 kb;split
       ·rename_i hoy;have hyc:y.2∈BN x p:=by rw[←hL];exact Bm _ kb
        refine Lv.2 fun d uU=>kM hx hs (DA y hy) (q8 y hy).1 (yd y.2 hyc hoy d uU)
       ·rfl
      rw[nK,Fx,Ao Gw,List.head?_append,y5];rfl
     ·rw[Ah OI];have OI:o.found=false:=by simpa using OI
      obtain⟨n1,n2,n3⟩:=hR.no OI
      by_cases nC:o.ss.full=true
      ·rw[Ao nC];exact⟨hR.der,hR.grow,fun _=>⟨rfl,rfl,fun h=>by rw[show(⟨0,false,o.ss,dec,st⟩:JC).ss=o.ss from rfl,nC]at h;cases h⟩,fun h=>(by cases h)⟩
      ·rw[Ah nC];have nC:o.ss.full=false:=by simpa using nC
       exact dY _ _ hR.der hR.grow (n3 nC).1 fun _=>(n3 nC).2
end
theorem SB{x:List Rl}{dec:List Cd}{c:Cd}(h:c.rel∈x∧c.rel.yanked=false)(hu:CC dec c.rel.path=false):FP x (dec++[c])<FP x dec:=by
 have key:∀l:List Rl,(l.filter fun r=>!r.yanked&&!CC (dec++[c]) r.path).length≤(l.filter fun r=>!r.yanked&&!CC dec r.path).length ∧
   (c.rel∈l→(l.filter fun r=>!r.yanked&&!CC (dec++[c]) r.path).length<(l.filter fun r=>!r.yanked&&!CC dec r.path).length):=by
  intro l
  induction l with
  |nil=>exact⟨Al _,fun h=>(by cases h)⟩
  |cons r l ih =>
   have fX:(!r.yanked&&!CC (dec++[c]) r.path)=true→(!r.yanked&&!CC dec r.path)=true:=fun e=>by
    simp only[Af,CI]at e⊢;refine⟨e.1,?_⟩
    have:=e.2
    unfold CC at this⊢;rw[F9,Bool.or_eq_false_iff]at this;exact this.1
   rw[Ci,Ci];refine⟨?_,fun hm=>?_⟩
   ·by_cases e:(!r.yanked&&!CC (dec++[c]) r.path)=true
    ·rw[Ao e,Ao (fX e)];simp;exact ih.1
    ·rw[Ah e];split
     ·simp;have:=ih.1;omega
     ·exact ih.1
   ·rcases Au.1 hm with rfl | hm
    ·have e1:¬(!c.rel.yanked&&!CC (dec++[c]) c.rel.path)=true:=by
      have:CC (dec++[c]) c.rel.path=true:=by unfold CC;simp
      rw[this];simp
     have e2:(!c.rel.yanked&&!CC dec c.rel.path)=true:=by rw[h.2,hu];rfl
     rw[Ah e1,Ao e2];simp;have:=ih.1;omega
    ·have:=ih.2 hm
     by_cases e:(!r.yanked&&!CC (dec++[c]) r.path)=true
     ·rw[Ao e,Ao (fX e)];simp;exact this
     ·rw[Ah e];split
      ·simp;omega
      ·exact this
 exact(key x).2 h.1
theorem Qd{x:List Rl}{roots:List Rq}(hx:AQ x=0)(hr:BK roots=0):∀(n:Nat) {dec:List Cd} {s:SS} {st:List (List Sk)},Eg x dec→Hr roots dec→Fq x roots s→s.full=false→FP x dec<n →
  VE x roots (GG x roots n dec) dec s st (CB x roots n dec s st)
 |0,_,_,_,_,_,_,_,h=>by omega
 |n+1,dec,s,st,hd,cn,hs,hf,hn=>by
  unfold CB GG;cases e:(EF roots dec).2 with
  |nil =>
   exact⟨hs,.refl s,fun h=>(by cases h),fun _=>⟨hf,[],[],by simp,by simp,Tl.1 e,rfl⟩⟩
  |cons n0 l =>
   have hN:=K6 e;have next:∀c∈BN x (EF roots dec).1,cU dec (n0::l) c=true→Eg x (dec++[c])∧Hr roots (dec++[c])∧FP x (dec++[c])<n:=fun c hc Gw=>by
    obtain⟨c1,c2⟩:=IW hc;have hu:CC dec c.rel.path=false:=by rw[c1];exact hN.undone
    obtain⟨k1,k2⟩:=OX.1 Gw;exact⟨hd.snoc c2 hu,cn.snoc hN c1 k1 k2,by have:=SB (dec:=dec) ⟨c2.1,c2.2.1⟩ hu;omega⟩
   exact UH hx hr hd cn hN (Aa ..) (lv:=GG x roots n) (fun c hc Gw d kb=>H7 (next c hc Gw).1 (next c hc Gw).2.1 d kb)
    (fun c hc Gw s st hs hf=>Qd hx hr n (next c hc Gw).1 (next c hc Gw).2.1 hs hf (next c hc Gw).2.2) _ [] rfl hs (fun y hy=>by cases hy) (fun _=>⟨fun y hy=>(by cases hy),rfl⟩)
theorem XA(x:List Rl)(dec:List Cd):FP x dec≤x.length:=BA _ _
theorem KG{x:List Rl}{roots:List Rq}(hx:AQ x=0)(hr:BK roots=0):VE x roots (GG x roots (x.length+1) []) [] rW [] (DK x roots) :=
 Qd hx hr _ (.nil x) (.nil roots) (.nil x roots) rfl (by have:=XA x [];omega)
end Go.Eng
