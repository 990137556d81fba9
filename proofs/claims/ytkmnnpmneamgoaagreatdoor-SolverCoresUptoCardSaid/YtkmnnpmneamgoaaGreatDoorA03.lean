/- Lemmas for the claims of this seat, without a condition: part 3 (Q3, Q4, Q5, Q6, Q7). -/
import Derived.Test.YtkmnnpmneamgoaaGreatDoorA02
namespace Go.Eng
theorem Mc:∀{l:List Rq} {b:Option ByteArray},Ea b l=0→∀q∈l,q.set≠[]∧EQ q.set
 | [],_,_,q,hq=>by cases hq
 |r::l,b,h,q,hq=>by
  unfold Ea at h;split at h
  ·rename_i e;rcases AF.1 hq with rfl | hq
   ·unfold F6 at e
    by_cases h1:(By q.path).isNone=true
    ·rw[Ax h1]at e;exact absurd e (by decide)
    rw[Aq h1]at e;cases hE:q.set.isEmpty with
    |true=>rw[hE]at e;simp at e
    |false =>
     cases hD:decide (q.set=canon q.set)with
     |false=>rw[hD]at e;simp at e
     |true =>
      have h3:q.set=canon q.set:=Cq hD;exact⟨by simpa using hE,by rw[h3];exact Cs _⟩
   ·exact Mc h q hq
  ·rename_i e;exact absurd h e
theorem Ld{l:List Rq}(h:Bn l=0):∀q∈l,q.set≠[]∧EQ q.set:=by
 unfold Bn at h;split at h
 ·cases h
 ·exact Mc h
abbrev Pv(k:Int):Ver:=⟨0,k / 1000,k % 1000⟩
theorem Hk(k:Int):place (Pv k)=k:=by unfold place;show 1000*(k / 1000)+k % 1000=k;omega
theorem Fd{k:Int}(h:0≤k∧k<1000000):CJ (Pv k)=true:=by
 unfold CJ okPart;simp only[Af];exact⟨⟨Av (by omega),Av (by omega)⟩,Av (by omega)⟩
structure Xf(D:List Sl)(p:ByteArray)(S:List Sl):Prop where
 val:Gk S
 same:∀q,q≠p→BD S q=BD D q
abbrev Ko(D:List Sl)(p:ByteArray)(v:Ver):List Sl:=D++[⟨p,v⟩]
theorem Kh(a b:List Sl)(p:ByteArray):BD (a++b) p=(BD a p).or (BD b p):=by
 unfold BD;rw[List.find?_append]
theorem HI{s:List Sl}{p:ByteArray}(h:Cv s p=false):BD s p=none:=by
 rw[J3]at h;cases e:BD s p with
 |none=>rfl
 |some y=>rw[e]at h;cases h
theorem Xf.self{D:List Sl}{p:ByteArray}(h:Gk D):Xf D p D:=⟨h,fun _ _=>rfl⟩
theorem Xf.ver{D:List Sl}{p:ByteArray}(h:Gk D){v:Ver}(hv:CJ v=true):Xf D p (Ko D p v):=by
 refine⟨fun y hy=>?_,fun q hq=>?_⟩
 ·rcases A4.1 hy with hy | hy
  ·exact h y hy
  ·rw[As.1 hy];exact hv
 ·rw[Kh]
  have:BD [(⟨p,v⟩:Sl)] q=none:=by unfold BD;simp[Ne.symm hq]
  rw[this,Option.or_none]
theorem In{D:List Sl}{p:ByteArray}(hp:Cv D p=false)(v:Ver):BD (Ko D p v) p=some ⟨p,v⟩:=by
 rw[Kh,HI hp];unfold BD;simp
theorem QZ{D:List Sl}{p:ByteArray}(hp:Cv D p=false){v v' : Ver}(hv:CJ v=true)(uk : CJ v'=true)(e:place v=place v')(q:ByteArray)(t:Tm) :
  Dw t (BD (Ko D p v) q)=Dw t (BD (Ko D p v') q):=by
 by_cases hq:q=p
 ·subst hq;rw[In hp,In hp];show(CJ v&&has t.set (place v))=(CJ v'&&has t.set (place v'));rw[hv,uk,e]
 ·have h1:∀w:Ver,BD (Ko D p w) q=BD D q:=fun w=>by
   rw[Kh]
   have:BD [(⟨p,w⟩:Sl)] q=none:=by unfold BD;simp[Ne.symm hq]
   rw[this,Option.or_none]
  rw[h1,h1]
theorem aM{D:List Sl}{p:ByteArray}(hp:Cv D p=false){v v' : Ver}(hv:CJ v=true)(uk : CJ v'=true)(e:place v=place v')(t:List Tm):Bj t (Ko D p v)=Bj t (Ko D p v'):=by
 rw[B3,BJ,BJ];exact⟨fun h u hu=>by rw[←QZ hp hv uk e];exact h u hu,fun h u hu=>by rw[QZ hp hv uk e];exact h u hu⟩
theorem K7{D S S' : List Sl}{p:ByteArray}(h:Xf D p S)(h' : Xf D p S'){t:List Tm}(ht:∀u∈t,u.path≠p):Bj t S=Bj t S':=by
 rw[B3,BJ,BJ];exact⟨fun k u hu=>by rw[h'.same _ (ht u hu),←h.same _ (ht u hu)];exact k u hu,fun k u hu=>by rw[h.same _ (ht u hu),←h'.same _ (ht u hu)];exact k u hu⟩
theorem JX{t:List Tm}{p:ByteArray}(h:CA t p=false):∀u∈t,u.path≠p:=fun u hu e=>by
 unfold CA at h;rw[CM]at h;exact h u hu (by simpa using e)
theorem SJ{t:List Tm}{p:ByteArray}(h:CA t p=true):∃u∈t,u.path=p:=by
 unfold CA at h;rw[A5]at h;obtain⟨u,hu,e⟩:=h;exact⟨u,hu,by simpa using e⟩
theorem Ug{t:List Tm}{p:ByteArray}(hf:La t)(hc:CA t p=true):∃u r,FH t p=some (u,r)∧u.path=p∧∀v∈r,v.path≠p:=by
 obtain⟨u,hu,e⟩:=SJ hc;have hs:=E1 hf;have oL:=(FS hs).1 hu;rw[e]at oL;refine⟨u,FX t p,?_,e,fun v hv=>?_⟩
 ·unfold FH;rw[show Da t=some t from hf];dsimp only;rw[oL]
 ·have:=(BM.1 hv).2
  simpa using this
theorem WZ{D:List Sl}{p:ByteArray}{t b:List Tm}(gO:La t)(oK:La b)(hct:CA t p=true)(rS:CA b p=true){S1 S2:List Sl}(h1:Xf D p S1)(v1:Bj t S1=true)(h2:Xf D p S2)(v2:Bj b S2=true) :
  (BA t b p).2=0∧∀S,Xf D p S→Bj t S=true∨Bj b S=true→Bj (BA t b p).1 S=true:=by
 obtain⟨u,r,e1,pu,nr⟩:=Ug gO hct;obtain⟨w,m,e2,pw,nm⟩:=Ug oK rS;have key:∀S,Xf D p S→Bj t S=true∨Bj b S=true→Bj (r++m++[Dv u w]) S=true:=fun S hS hv=>by
  have r1:Bj r S=true:=by
   rw[K7 hS h1 nr];rw[(FW h1.val e1).1,Af]at v1;exact v1.2
  have m1:Bj m S=true:=by
   rw[K7 hS h2 nm];rw[(FW h2.val e2).1,Af]at v2;exact v2.2
  rw[Hd,Hd,r1,m1];simp only[El];rw[BJ];intro y hy;rw[As.1 hy,show(Dv u w).path=p from pu,NA,CU];rcases hv with hv | hv
  ·rw[(FW hS.val e1).1,Af]at hv;exact .inl hv.1
  ·rw[(FW hS.val e2).1,Af]at hv;exact .inr hv.1
 unfold BA;rw[e1,e2];dsimp only;have c1:=Dj (l:=r++m++[Dv u w]) h1.val;rw[key S1 h1 (.inl v1)]at c1;cases hc:Da (r++m++[Dv u w])with
 |none=>rw[hc]at c1;cases c1
 |some o =>
  dsimp only;refine⟨rfl,fun S hS hv=>?_⟩;have c2:=Dj (l:=r++m++[Dv u w]) hS.val;rw[hc,key S hS hv]at c2;exact c2.symm
theorem iN{D:List Sl}{p:ByteArray}(hp:Cv D p=false){t:List Tm}(hf:La t)(h0:Bj t D=true)(hk:∀k:Int,0≤k→k<1000000→Bj t (Ko D p (Pv k))=true):CA t p=false:=by
 rw[AI];intro hc;obtain⟨u,hu,e⟩:=SJ hc;have ha:u.absent=true:=by
  have:=BJ.1 h0 u hu
  rw[e,HI hp]at this;exact this
 have hs:∀k:Int,0≤k→k<1000000→has u.set k=true:=fun k k0 k1=>by
  have:=BJ.1 (hk k k0 k1) u hu
  rw[e,In hp]at this;unfold Dw at this;rw[Af]at this
  have:=this.2
  rw[show(⟨p,Pv k⟩:Sl).ver=Pv k from rfl,Hk]at this;exact this
 have p9:EQ u.set:=Cm.canon (E1 hf) u hu;have gP:u.set=[(0,1000000)]:=by
  refine HD p9 ⟨by decide,by decide,by decide,trivial⟩ fun k=>?_;rw[B3];constructor
  ·intro h
   have:=Mp h
   unfold has;simp[BV,this.1,this.2]
  ·intro h
   have:=Mp h
   exact hs k this.1 this.2
 have hal:GK u=true:=by unfold GK;rw[ha,gP];rfl
 have t8:Da t=some t:=hf;unfold Da at t8;split at t8
 ·cases t8
 ·have e2:=Ck t8;rw[←e2]at hu
  have:=(BM.1 hu).2
  rw[hal]at this;cases this
end Go.Eng

namespace Go.Eng
structure D6(x:List Rl)(dec:List Cd):Prop where
 cand:∀c∈dec,c.rel∈x∧c.rel.yanked=false∧c.place=plc c.rel.ver
 nodup:(dec.map fun c=>c.rel.path).Nodup
theorem D6.nil(x:List Rl):D6 x []:=⟨fun _ h=>(by cases h),Ft⟩
theorem TW{r:Rl}(h:So r):r.path≠mt:=fun e=>by
 have:=h.maj
 rw[e]at this;have h2:By mt=none:=by decide
 rw[h2]at this;cases this
theorem So.set{r:Rl}(h:So r):∀q∈r.reqs,q.set≠[]∧EQ q.set:=Ld h.reqs
theorem JD(dec:List Cd):(Ap dec).map (·.path)=dec.map fun c=>c.rel.path:=by unfold Ap;rw[BY];rfl
theorem SY:∀{D:List Sl},(D.map (·.path)).Nodup→∀{y:Sl},y∈D→BD D y.path=some y
 | [],_,y,h=>by cases h
 |z::D,hn,y,h=>by
  simp only[AN,Db]at hn;unfold BD;rw[E0];rcases AF.1 h with rfl | h
  ·rw[Av rfl]
  ·have:z.path≠y.path:=fun e=>hn.1 (Ar.2 ⟨y,h,e.symm⟩)
   rw[Au this];exact SY hn.2 h
theorem D6.find{x:List Rl}{dec:List Cd}(h:D6 x dec){c:Cd}(hc:c∈dec):BD (Ap dec) c.rel.path=some (Ng c) :=
 SY (by rw[JD];exact h.nodup) (y:=Ng c) (Ar.2 ⟨c,hc,rfl⟩)
theorem D6.valid{x:List Rl}(hx:Ba x=0){dec:List Cd}(h:D6 x dec):Gk (Ap dec):=fun y hy=>by
 obtain⟨c,hc,rfl⟩:=Ar.1 hy;exact((CQ hx).1 _ (h.cand c hc).1).val
theorem D6.snoc{x:List Rl}{dec:List Cd}(h:D6 x dec){c:Cd}(hc:c.rel∈x∧c.rel.yanked=false∧c.place=plc c.rel.ver)(hd:CR dec c.rel.path=false):D6 x (dec++[c]):=by
 refine⟨fun d hd=>?_,?_⟩
 ·rcases A4.1 hd with hd | hd
  ·exact h.cand d hd
  ·rw[As.1 hd];exact hc
 ·rw[Az,Gz];refine⟨h.nodup,by simp,fun a ha b hb e=>?_⟩;obtain⟨d,jT,rfl⟩:=Ar.1 ha;simp only[AN,Fj,As]at hb;unfold CR at hd;rw[CM]at hd;exact hd d jT (by simpa using e.trans hb)
theorem KR{roots:List Rq}{E:List Cd}{n:Nd}(h:n∈Dq roots E):(∃k q,roots[k]?=some q∧n=⟨q,mt,0,(k:Nat)⟩)∨∃c∈E,∃k q,c.rel.reqs[k]?=some q∧n=⟨q,c.rel.path,c.place,(k:Nat)⟩:=by
 unfold Dq at h;rcases A4.1 h with h | h
 ·obtain⟨k,q,h1,h2⟩:=YF h;exact .inl ⟨k,q,h1,h2⟩
 ·obtain⟨l,hl,hn⟩:=Ff.1 h;obtain⟨c,hc,rfl⟩:=Ar.1 hl;obtain⟨k,q,h1,h2⟩:=YF hn;exact .inr ⟨c,hc,k,q,h1,h2⟩
theorem N5{roots:List Rq}{dec:List Cd}{c:Cd}{n:Nd}(h:n∈Dq roots dec):n∈Dq roots (dec++[c]):=by
 unfold Dq at *
 rw[Az,Cc,←BH];exact Bz _ h
theorem MZ{roots:List Rq}{dec:List Cd}{c:Cd}{n:Nd}(h:n∈Pg c):n∈Dq roots (dec++[c]):=by
 unfold Dq;rw[Az,Cc,←BH];exact Bq _ (by simpa using h)
def Nj(n:Nd):List Tm:=if n.path=mt then [DK n.rq]else [⟨n.path,false,[(n.place,n.place+1)]⟩,DK n.rq]
theorem O0(n:Nd):HP n=Qk (Nj n):=by unfold HP Nj JK Es;split<;>rfl
theorem bN{s:Bc}(h:s≠[])(hc:EQ s):∃k,has s k=true:=by
 match s,h,hc with
 |x::r,_,hc =>
  have:=EX.low hc x (Ab ..)
  refine⟨x.1,?_⟩;unfold has;have h1:BV x.1 x=true:=DO.2 ⟨BF _,this.2.1⟩;simp only[BX,h1,Bool.true_or,Bool.and_true,Af,AD];omega
theorem Rn{q:Rq}{o:Option Sl}(h:o=none∨∃y,o=some y∧CJ y.ver=true∧has q.set (place y.ver)=false):Dw (DK q) o=true:=by
 rcases h with rfl | ⟨y,rfl,hv,hq⟩
 ·rfl
 ·show(CJ y.ver&&has (Eu q.set) (place y.ver))=true
  have:=JH hv
  rw[hv,FU,hq];unfold L0;simp[this.1,this.2]
theorem TU{q:Rq}{y:Sl}(hq:has q.set (place y.ver)=true):Dw (DK q) (some y)=false:=by
 show(CJ y.ver&&has (Eu q.set) (place y.ver))=false;rw[FU,hq];simp
structure qB(x:List Rl)(roots:List Rq)(S:List Sl)(n:Nd):Prop where
 inf:∀d,DZ x roots d (Nc n)=some (HP n)
 viol:Bj (HP n) S=true
 raw:∀S',Gk S'→Bj (HP n) S'=Bj (Nj n) S'
 form:La (HP n)
 inU:∀U:List ByteArray,(n.path≠mt→n.path∈U)→n.rq.path∈U→UQ U (HP n)
 path:n.path≠mt→Cv S n.path=true
theorem RS{x:List Rl}{roots:List Rq}(hx:Ba x=0)(hr:Bn roots=0){E:List Cd}(hE:D6 x E){n:Nd}(hn:n∈Dq roots E)
  (hv:BD (Ap E) n.rq.path=none∨∃y,BD (Ap E) n.rq.path=some y∧has n.rq.set (place y.ver)=false):qB x roots (Ap E) n:=by
 have hV:=hE.valid hx;have gW:Dw (DK n.rq) (BD (Ap E) n.rq.path)=true:=Rn (hv.imp id fun⟨y,h1,h2⟩=>⟨y,h1,hV y (Jx h1),h2⟩)
 -- the raw list is Bj here,and not elsewhere
 have NX:n.rq.set≠[]∧EQ n.rq.set:=by
  rcases KR hn with ⟨k,q,h1,rfl⟩ | ⟨c,hc,k,q,h1,rfl⟩
  ·exact Ld hr q (AA h1)
  ·exact((CQ hx).1 _ (hE.cand c hc).1).set q (AA h1)
 have WC:Bj (Nj n) (Ap E)=true∧(n.path≠mt→Cv (Ap E) n.path=true):=by
  rcases KR hn with ⟨k,q,h1,rfl⟩ | ⟨c,hc,k,q,h1,rfl⟩
  ·refine⟨?_,fun h=>absurd rfl h⟩;unfold Nj;rw[Ax rfl,BJ];intro u hu;rw[As.1 hu];exact gW
  ·have DB:=TW ((CQ hx).1 _ (hE.cand c hc).1);refine⟨?_,fun _=>by rw[J3,hE.find hc];rfl⟩;unfold Nj;rw[Aq DB,BJ];intro u hu;rcases AF.1 hu with rfl | hu
   ·show Dw _ (BD (Ap E) c.rel.path)=true;rw[hE.find hc];show(CJ c.rel.ver&&has [(c.place,c.place+1)] (place c.rel.ver))=true;have FV:=(CQ hx).1 _ (hE.cand c hc).1;have hp:=JH FV.val;rw[FV.val,(hE.cand c hc).2.2,FV.plc];unfold has;simp[BV,hp.1,hp.2];omega
   ·rw[As.1 hu];exact gW
 have xh:∃S',Gk S'∧Bj (Nj n) S'=false:=by
  unfold Nj;split
  ·obtain⟨k,hk⟩:=bN NX.1 NX.2;have Y4:=Mp hk;refine⟨[⟨n.rq.path,Pv k⟩],fun y hy=>by rw[As.1 hy];exact Fd Y4,?_⟩;rw[AI];intro h
   have:=BJ.1 h (DK n.rq) (As.2 rfl)
   rw[show(DK n.rq).path=n.rq.path from rfl,show BD [(⟨n.rq.path,Pv k⟩:Sl)] n.rq.path=some ⟨n.rq.path,Pv k⟩ by unfold BD;simp,TU (by rw[show(⟨n.rq.path,Pv k⟩:Sl).ver=Pv k from rfl,Hk];exact hk)]at this;cases this
  ·refine⟨[],fun y hy=>(by cases hy),?_⟩;rw[AI];intro h
   have:=BJ.1 h _ (Ab ..)
   cases this
 obtain⟨WC,so⟩:=WC;have DB:Qk (Nj n)≠[]:=by
  obtain⟨S',v',n'⟩:=xh;have c1:=Dj (l:=Nj n) hV;have c2:=Dj (l:=Nj n) v';unfold Qk;cases hc:Da (Nj n)with
  |none=>rw[hc,WC]at c1;cases c1
  |some c =>
   rw[hc,n']at c2;intro e;have e:c=[]:=e;rw[e]at c2;cases c2
 have na:∀S',Gk S'→Bj (HP n) S'=Bj (Nj n) S':=fun S' v=>by rw[O0];exact Ql v DB
 refine⟨fun d=>?_,by rw[na _ hV];exact WC,na,by rw[O0];exact My _,fun U h1 h2=>?_,so⟩
 ·rcases KR hn with ⟨k,q,h1,rfl⟩ | ⟨c,hc,k,q,h1,rfl⟩
  ·show DZ x roots d (if(mt:ByteArray)=mt then⟨0,mt,0,(k:Nat),0,0⟩else _)=some (if(mt:ByteArray)=mt then JK q else _);rw[Ax rfl,Ax rfl];show(if mt=mt∧(0:Int)=0∧(0:Int)=0∧(0:Int)=0 then(JG roots (k:Nat)).map JK else none)=some (JK q);rw[Ax ⟨rfl,rfl,rfl,rfl⟩];unfold JG;rw[Aq (by omega),AX,h1];rfl
  ·have FV:=(CQ hx).1 _ (hE.cand c hc).1;have Uj:=TW FV;have xt:Ph x c.rel.path c.place=some c.rel:=by
    unfold Ph;cases hf:x.find? fun r=>decide (r.path=c.rel.path)&&decide (plc r.ver=c.place)with
    |none =>
     rw[Ev]at hf;exact absurd (by simp[(hE.cand c hc).2.2]) (hf c.rel (hE.cand c hc).1)
    |some r =>
     have h2:=FM hf;simp only[Af,AD]at h2;have bu:=CX hf;have xk:=(CQ hx).1 r bu;rw[bL (CQ hx) bu (hE.cand c hc).1 h2.1 (by rw[←xk.plc,h2.2,(hE.cand c hc).2.2,FV.plc])]
   have e1:Nc ⟨q,c.rel.path,c.place,(k:Nat)⟩=⟨1,c.rel.path,c.place,(k:Nat),0,0⟩:=by unfold Nc;rw[Aq Uj]
   have e2:HP ⟨q,c.rel.path,c.place,(k:Nat)⟩=Es c.rel.path c.place q:=by unfold HP;rw[Aq Uj]
   rw[e1,e2];unfold DZ;rw[Aq (show ¬((1:Int)=0) by decide),Ax rfl,Ax ⟨rfl,rfl⟩];dsimp only;rw[xt];dsimp only;unfold JG;rw[Aq (by omega),AX,h1];dsimp only;unfold dA;rw[Aq];rw[F4,←e2,O0];exact DB
 ·rw[O0];refine TT fun u hu=>?_;unfold Nj at hu;split at hu
  ·rw[As.1 hu];exact h2
  ·rename_i hm;rcases AF.1 hu with rfl | hu
   ·exact h1 hm
   ·rw[As.1 hu];exact h2
structure kj(D:List Sl)(U:List ByteArray)(p:ByteArray)(t:List Tm)(C:Int→Prop):Prop where
 form:La t
 inU:UQ U t
 conc:CA t p=true
 one:∃S,Xf D p S∧Bj t S=true
 cov:∀k:Int,0≤k→k<1000000→C k→Bj t (Ko D p (Pv k))=true
structure ny(D:List Sl)(U:List ByteArray)(p:ByteArray)(t:List Tm)(C:Int→Prop):Prop where
 form:La t
 inU:UQ U t
 none_:Bj t D=true
 cov:∀k:Int,0≤k→k<1000000→C k→Bj t (Ko D p (Pv k))=true
theorem FI.forms{x:List Rl}{roots:List Rq}{s:SS}(h:FI x roots s):∀k,La (DC s k):=fun k=>by
 unfold DC;rw[B6];cases e:s.drv[k]? with
 |none=>exact OS
 |some t=>exact Nr (fun _ h=>by cases h) h.der t (AA e)
theorem Vo{x:List Rl}{roots:List Rq}{d:List (List Tm)}{k r:Nat}{p:ByteArray}(hk:k<d.length)(hr:r<d.length)(h0:(BA (d.getD k []) (d.getD r []) p).2=0) :
  DZ x roots d ⟨3,p,0,0,(k:Nat),(r:Nat)⟩=some (BA (d.getD k []) (d.getD r []) p).1:=by
 have e:∀j:Nat,j<d.length→JG d (j:Nat)=some (d.getD j []):=fun j hj=>by
  unfold JG;rw[Aq (by omega),AX,B6,AE hj];rfl
 unfold DZ;rw[Aq (show ¬((3:Int)=0) by decide),Aq (show ¬((3:Int)=1) by decide),Aq (show ¬((3:Int)=2) by decide),Ax rfl,Ax ⟨rfl,rfl⟩];dsimp only;rw[e k hk,e r hr];dsimp only;rw[Ax h0]
theorem N0{x:List Rl}{roots:List Rq}{D:List Sl}{U:List ByteArray}{p:ByteArray}(hD:Gk D):∀(l:List (Nat×(Int→Prop))) {k:Nat} {s:SS} {C:Int→Prop},FI x roots s→k<s.drv.length→(∀y∈l,y.1<s.drv.length) →
  (s.full=false→ny D U p (DC s k) C∧∀y∈l,kj D U p (DC s y.1) y.2) →
  FI x roots (Ci p (l.map (·.1)) k s).2∧Grow s (Ci p (l.map (·.1)) k s).2∧(Ci p (l.map (·.1)) k s).1<(Ci p (l.map (·.1)) k s).2.drv.length ∧
  ((Ci p (l.map (·.1)) k s).2.full=false→∃C',ny D U p (DC (Ci p (l.map (·.1)) k s).2 (Ci p (l.map (·.1)) k s).1) C' ∧
   (CA (DC (Ci p (l.map (·.1)) k s).2 (Ci p (l.map (·.1)) k s).1) p=false∨∀j,C j∨(∃y∈l,y.2 j)→C' j))
 | [],k,s,C,hd,hk,_,hA=>⟨hd,.refl s,hk,fun hf=>⟨C,(hA hf).1,.inr fun j hj=>hj.elim id fun⟨y,hy,_⟩=>(by cases hy)⟩⟩
 |y::l,k,s,C,hd,hk,hl,hA=>by
  rw[AN]
  by_cases h1:s.full=true∨CA (DC s k) p=false
  ·have e:Ci p (y.1::l.map (·.1)) k s=(k,s):=by unfold Ci;rw[Ax h1]
   rw[e];refine⟨hd,.refl s,hk,fun hf=>⟨C,(hA hf).1,.inl (h1.resolve_left fun e=>?_)⟩⟩;have hf:s.full=false:=hf;rw[e]at hf;cases hf
  simp only[not_or,Bool.not_eq_true,Bool.not_eq_false]at h1;obtain⟨hf,Ok⟩:=h1;obtain⟨cP,wl⟩:=hA hf;have hy:=wl y (Ab ..);have hi:¬(s.full=true∨CA (DC s k) p=false):=by rw[hf,Ok];simp
  by_cases h2:y.1=k
  ·have e:Ci p (y.1::l.map (·.1)) k s=Ci p (l.map (·.1)) k s:=by conv=>lhs;unfold Ci;rw[Aq hi,Ax h2]
   rw[e];have hA' : ny D U p (DC s k) fun j=>C j∨y.2 j:=⟨cP.form,cP.inU,cP.none_,fun j j0 j1 hj=>hj.elim (cP.cov j j0 j1) fun h=>by rw[←h2];exact hy.cov j j0 j1 h⟩;obtain⟨i1,i2,i3,i4⟩:=N0 hD l hd hk (fun z hz=>hl z (Ai _ hz)) (fun _=>⟨hA',fun z hz=>wl z (Ai _ hz)⟩);refine⟨i1,i2,i3,fun hf=>?_⟩;obtain⟨C',j1,j2⟩:=i4 hf;refine⟨C',j1,j2.imp id fun h j hj=>h j ?_⟩;rcases hj with hj | ⟨z,hz,hj⟩
   ·exact .inl (.inl hj)
   ·rcases AF.1 hz with rfl | hz
    ·exact .inl (.inr hj)
    ·exact .inr ⟨z,hz,hj⟩
  ·obtain⟨S2,o2,v2⟩:=hy.one;obtain⟨r1,r2⟩:=WZ cP.form hy.form Ok hy.conc (.self hD) cP.none_ o2 v2;have e:Ci p (y.1::l.map (·.1)) k s=Ci p (l.map (·.1)) (DU s ⟨3,p,0,0,k,y.1⟩ (BA (DC s k) (DC s y.1) p).1).1 (DU s ⟨3,p,0,0,k,y.1⟩ (BA (DC s k) (DC s y.1) p).1).2:=by
    conv=>lhs;unfold Ci;rw[Aq hi,Aq h2,Aq (fun h=>h r1)]
   rw[e];have hy1:=hl y (Ab ..);obtain⟨a1,a2,a3⟩:=KD hd (Vo (x:=x) (roots:=roots) hk hy1 r1);have hg:=KE s ⟨3,p,0,0,(k:Nat),(y.1:Nat)⟩ (BA (DC s k) (DC s y.1) p).1;generalize Ul : DU s ⟨3,p,0,0,(k:Nat),(y.1:Nat)⟩ (BA (DC s k) (DC s y.1) p).1=s' at *
   have a3:s'.2.full=false→DC s'.2 s'.1=(BA (DC s k) (DC s y.1) p).1:=a3;obtain⟨i1,i2,i3,i4⟩:=N0 hD (C:=fun j=>C j∨y.2 j) l a1 a2 (fun z hz=>BP (hl z (Ai _ hz)) hg.len) (fun XZ=>by
    refine⟨?_,fun z hz=>by rw[hg.at (hl z (Ai _ hz))];exact wl z (Ai _ hz)⟩;rw[a3 XZ];exact⟨NH _ _ _,Rr cP.inU hy.inU,r2 D (.self hD) (.inl cP.none_),fun j j0 j1 hj=>r2 _ (.ver hD (Fd ⟨j0,j1⟩)) (hj.imp (cP.cov j j0 j1) (hy.cov j j0 j1))⟩)
   refine⟨i1,hg.trans i2,i3,fun hf=>?_⟩;obtain⟨C',j1,j2⟩:=i4 hf;refine⟨C',j1,j2.imp id fun h j hj=>h j ?_⟩;rcases hj with hj | ⟨z,hz,hj⟩
   ·exact .inl (.inl hj)
   ·rcases AF.1 hz with rfl | hz
    ·exact .inl (.inr hj)
    ·exact .inr ⟨z,hz,hj⟩
end Go.Eng

namespace Go.Eng
def IZ(roots:List Rq)(dec:List Cd):Prop:=∀q∈DH roots dec,∀d∈dec,d.rel.path=q.path→has q.set d.place=true
theorem IZ.nil(roots:List Rq):IZ roots []:=fun _ _ d h=>by cases h
theorem aB(roots:List Rq)(dec:List Cd)(c:Cd):DH roots (dec++[c])=DH roots dec++c.rel.reqs:=by
 unfold DH;rw[Az,Cc,BH];simp
theorem mo(c:Cd):(Pg c).map (·.rq)=c.rel.reqs:=RY (fun _ _=>rfl) _ _
theorem Zs{dec:List Cd}{c:Cd}(h:Co dec c=none):∀q∈c.rel.reqs,∀d∈dec++[c],d.rel.path=q.path→has q.set d.place=true:=fun q hq d hd e=>by
 rw[←mo]at hq;obtain⟨n,hn,rfl⟩:=Ar.1 hq;unfold Co at h;rw[Ev]at h
 have:=h n hn
 unfold TK at this;rw[Bool.not_eq_true,CM]at this
 have:=this d hd
 rw[e]at this;simpa using this
theorem Lg{dec:List Cd}{c:Cd}{n:Nd}(h:Co dec c=some n):n∈Pg c∧∃d∈dec++[c],d.rel.path=n.rq.path∧has n.rq.set d.place=false:=by
 unfold Co at h;have h1:=FM h;refine⟨CX h,?_⟩;unfold TK at h1;rw[A5]at h1;obtain⟨d,hd,e⟩:=h1;simp only[Af,AD,Cy]at e;exact⟨d,hd,e⟩
theorem IZ.snoc{roots:List Rq}{dec:List Cd}(h:IZ roots dec){p:ByteArray}{needs:List Nd}(hN:ki roots dec p needs){c:Cd}(hc:c.rel.path=p)(hn:∀n∈needs,has n.rq.set c.place=true)(hk:Co dec c=none):IZ roots (dec++[c]):=by
 intro q hq d hd e;rw[aB]at hq;rcases A4.1 hq with hq | hq
 ·rcases A4.1 hd with hd | hd
  ·exact h q hq d hd e
  ·rw[As.1 hd]at e⊢;rw[←Jm]at hq;obtain⟨n,X7,rfl⟩:=Ar.1 hq;exact hn n ((hN.mem n).2 ⟨X7,by rw[←e,hc]⟩)
 ·exact Zs hk q hq d hd e
def UJ(y:Sl):List Sl→List Sl
 | []=>[y]
 |z::l=>if EN y.path z.path then y::z::l else z::UJ y l
def Dp:List Sl→List Sl
 | []=>[]
 |y::l=>UJ y (Dp l)
theorem Tu{y z:Sl}:∀{l:List Sl},z∈UJ y l↔z=y∨z∈l
 | []=>by simp[UJ]
 |u::l=>by
  unfold UJ;split
  ·simp
  ·rw[AF,Tu,AF];constructor
   ·rintro(h | h | h)
    ·exact .inr (.inl h)
    ·exact .inl h
    ·exact .inr (.inr h)
   ·rintro(h | h | h)
    ·exact .inr (.inl h)
    ·exact .inl h
    ·exact .inr (.inr h)
theorem Ht{z:Sl}:∀{l:List Sl},z∈Dp l↔z∈l
 | []=>by simp[Dp]
 |u::l=>by unfold Dp;rw[Tu,Ht,AF]
theorem Yh{y:Sl}:∀{l:List Sl},Pz l→(∀z∈l,z.path≠y.path)→Pz (UJ y l)
 | [],_,_=>by simp[UJ,Pz]
 |u::l,h,hn=>by
  obtain⟨h1,h2⟩:=Dg.1 h;unfold UJ;split
  ·rename_i hb;refine Dg.2 ⟨fun z hz=>?_,h⟩;rcases AF.1 hz with rfl | hz
   ·exact hb
   ·exact Ep hb (h1 z hz)
  ·rename_i hb;refine Dg.2 ⟨fun z hz=>?_,Yh h2 fun z hz=>hn z (Ai _ hz)⟩;rcases Tu.1 hz with rfl | hz
   ·cases e:EN u.path z.path with
    |true=>rfl
    |false =>
     have hb:EN z.path u.path=false:=by simpa using hb
     exact absurd (I7 e hb) (hn u (Ab ..))
   ·exact h1 z hz
theorem M5:∀{l:List Sl},(l.map (·.path)).Nodup→Pz (Dp l)
 | [],_=>List.Pairwise.nil
 |y::l,h=>by
  simp only[AN,Db]at h;exact Yh (M5 h.2) fun z hz e=>h.1 (Ar.2 ⟨z,Ht.1 hz,e⟩)
theorem Tr:∀{l:List Sl} {b:Option ByteArray},Pz l→(∀c,b=some c→∀y∈l,EN c y.path=true)→Tq b l=true
 | [],_,_,_=>by unfold Tq;rfl
 |y::l,b,h,hb=>by
  obtain⟨h1,h2⟩:=Dg.1 h;unfold Tq;cases b with
  |none=>simpa using Tr h2 fun c e z hz=>by cases e;exact h1 z hz
  |some c =>
   have:=hb c rfl y (Ab ..)
   simp only[this,El];exact Tr h2 fun c e z hz=>by cases e;exact h1 z hz
theorem o7{l:List Sl}(h:Pz l):Lr l=true:=Tr h fun _ e=>by cases e
theorem Jh{x:List Rl}(hx:Ba x=0){r:Rl}(hr:r∈x):FR x (FF r)=some r:=by
 unfold FR;rw[Aq (fun h=>h hx)];cases h:x.find? fun s=>decide (FF s=FF r)with
 |none =>
  rw[Ev]at h;exact absurd (by simp) (h r hr)
 |some s =>
  have h1:=FM h;simp only[AD]at h1;rw[Ty (CQ hx).2 (CX h) hr h1]
theorem D6.sorted{x:List Rl}{dec:List Cd}(h:D6 x dec):Pz (Dp (Ap dec)):=M5 (by rw[JD];exact h.nodup)
theorem D6.findS{x:List Rl}{dec:List Cd}(h:D6 x dec){c:Cd}(hc:c∈dec):BD (Dp (Ap dec)) c.rel.path=some (Ng c) :=
 Nw h.sorted (y:=Ng c) (Ht.2 (Ar.2 ⟨c,hc,rfl⟩))
theorem ir{x:List Rl}{roots:List Rq}(hx:Ba x=0){dec:List Cd}(h:D6 x dec)(hs:IZ roots dec)(hl:HT (DH roots dec) (Ap dec)=none):nD x roots (Dp (Ap dec)):=by
 have GM:∀q∈DH roots dec,∃y,BD (Dp (Ap dec)) q.path=some y∧has q.set (place y.ver)=true:=fun q hq=>by
  have:=ah hl q hq
  rw[Lp]at this;obtain⟨y,hy,e⟩:=this;obtain⟨d,hd,rfl⟩:=Ar.1 hy;have e:d.rel.path=q.path:=e;refine⟨Ng d,by rw[←e];exact h.findS hd,?_⟩;have h1:=hs q hq d hd e;have FV:=(CQ hx).1 _ (h.cand d hd).1;rw[(h.cand d hd).2.2,FV.plc]at h1;exact h1
 refine⟨hx,o7 h.sorted,fun y hy=>?_,fun q hq=>GM q (Bz _ hq),fun y hy r hr q hq=>?_⟩
 ·obtain⟨d,hd,rfl⟩:=Ar.1 (Ht.1 hy);exact⟨d.rel,Jh hx (h.cand d hd).1,(h.cand d hd).2.1⟩
 ·obtain⟨d,hd,rfl⟩:=Ar.1 (Ht.1 hy)
  have:FR x (Ng d)=some d.rel:=Jh hx (h.cand d hd).1
  rw[this]at hr;cases hr;exact GM q (Bq _ (Ff.2 ⟨_,Ar.2 ⟨d,hd,rfl⟩,hq⟩))
def VC(dec:List Cd)(needs:List Nd)(c:Cd):Bool:=(needs.all fun n=>has n.rq.set c.place)&&(Co dec c).isNone
def BS(x:List Rl)(roots:List Rq):Nat→List Cd→List (List Cd)
 |0,_=>[]
 |n+1,dec=>match(DR roots dec).2 with
  | []=>[dec]
  |n0::l=>((Br x (DR roots dec).1).map fun c=>if VC dec (n0::l) c then BS x roots n (dec++[c])else []).flatten
structure Lf(x:List Rl)(roots:List Rq)(dec d:List Cd):Prop where
 pre:dec <+: d
 ok:D6 x d
 sat:IZ roots d
 stop:HT (DH roots d) (Ap d)=none
theorem Hb{x:List Rl}{p:ByteArray}{c:Cd}(h:c∈Br x p):c.rel.path=p∧(c.rel∈x∧c.rel.yanked=false∧c.place=plc c.rel.ver):=by
 obtain⟨r,h1,h2,h3,rfl⟩:=Hf.1 h;exact⟨h2,h1,h3,rfl⟩
theorem GO{dec:List Cd}{needs:List Nd}{c:Cd}:VC dec needs c=true↔(∀n∈needs,has n.rq.set c.place=true)∧Co dec c=none:=by
 unfold VC;rw[Af,AW,Option.isNone_iff_eq_none]
theorem MW{x:List Rl}{roots:List Rq}:∀{n:Nat} {dec:List Cd},D6 x dec→IZ roots dec→∀d∈BS x roots n dec,Lf x roots dec d
 |0,_,_,_,d,hd=>by cases hd
 |n+1,dec,h,hs,d,hd=>by
  unfold BS at hd;split at hd
  ·rename_i e;rw[As.1 hd];exact⟨M7,h,hs,N8.1 e⟩
  ·rename_i n0 l e;have hN:=Im e;obtain⟨L,hL,hd⟩:=Ff.1 hd;obtain⟨c,hc,rfl⟩:=Ar.1 hL;split at hd
   ·rename_i FV;obtain⟨h1,h2⟩:=GO.1 FV;obtain⟨c1,c2⟩:=Hb hc;have cU:CR dec c.rel.path=false:=by rw[c1];exact hN.undone
    have:=MW (n:=n) (h.snoc c2 cU) (hs.snoc hN c1 h1 h2) d hd
    exact⟨(Ot _ _).trans this.pre,this.ok,this.sat,this.stop⟩
   ·cases hd
theorem Lf.sol{x:List Rl}{roots:List Rq}(hx:Ba x=0){dec d:List Cd}(h:Lf x roots dec d):nD x roots (Dp (Ap d)):=ir hx h.ok h.sat h.stop
theorem lX{x:List Rl}{roots:List Rq}(hx:Ba x=0){s:SS}(hd:FI x roots s){k:Nat}(hk:k<s.drv.length){dec d:List Cd}(he:CB (DC s k) (Ap dec)=true)(h:Lf x roots dec d):False:=by
 have hS:=h.sol hx;have hv:=Wm (s:=Dp (Ap d)) hS.inc (fun y hy=>Ht.2 (by
  obtain⟨c,hc,rfl⟩:=Ar.1 hy;obtain⟨t,e⟩:=h.pre;exact Ar.2 ⟨c,by rw[←e];exact Bz _ hc,rfl⟩)) he
 have hn:=Jv hS (d:=[]) (fun _ h=>by cases h) hd.der (DC s k) (by
  unfold DC;rw[B6,AE hk];exact Am hk)
 rw[hv]at hn;cases hn
end Go.Eng

namespace Go.Eng
theorem o8{x:List Rl}(h:Ba x=0):x.length≤256:=by
 unfold Ba at h;split at h
 ·cases h
 ·omega
theorem gC{l:List Rl}{k:Int}:(l.map fun r=>(plc r.ver,plc r.ver+1)).any (BV k)=true↔∃r∈l,plc r.ver=k:=by
 rw[A5];constructor
 ·rintro⟨y,hy,h⟩
  obtain⟨r,hr,rfl⟩:=Ar.1 hy
  have:=DO.1 h
  exact⟨r,hr,by have h1:=this.1;have h2:=this.2;dsimp only at h1 h2;omega⟩
 ·rintro⟨r,hr,rfl⟩
  exact⟨_,Ar.2 ⟨r,hr,rfl⟩,DO.2 ⟨BF _,by dsimp only;omega⟩⟩
theorem U0{x:List Rl}(hx:Ba x=0){p:ByteArray}{k:Int}:has (Cf x p) k=true↔∃c∈Br x p,c.place=k:=by
 unfold Cf;rw[Hp];unfold has Kn;rw[Aq (fun h=>h hx)];simp only[Af,AD];rw[gC];constructor
 ·rintro⟨_,r,hr,rfl⟩
  simp only[BM,AD,Cy]at hr;exact⟨⟨plc r.ver,r⟩,Hf.2 ⟨r,hr.1.1,hr.1.2,hr.2,rfl⟩,rfl⟩
 ·rintro⟨c,hc,rfl⟩
  obtain⟨r,h1,h2,h3,rfl⟩:=Hf.1 hc;have FV:=(CQ hx).1 r h1
  have:=JH FV.val
  rw[←FV.plc]at this;refine⟨⟨this.1,this.2⟩,r,?_,rfl⟩;simp only[BM,AD,Cy];exact⟨⟨h1,h2⟩,h3⟩
theorem bS{x:List Rl}(hx:Ba x=0)(p:ByteArray):∃k:Int,0≤k∧k<1000000∧has (Cf x p) k=false:=by
 apply Ch;intro hn;have GM:∀k∈(List.range 257).map fun i:Nat=>(i:Int),k∈x.map fun r=>plc r.ver:=by
  intro k hk;obtain⟨i,hi,rfl⟩:=Ar.1 hk;have hi:=Iw.1 hi;have hh:has (Cf x p) (i:Int)=true:=by
   cases e:has (Cf x p) (i:Int)with
   |true=>rfl
   |false=>exact absurd ⟨(i:Int),by omega,by omega,e⟩ hn
  obtain⟨c,hc,e⟩:=(U0 hx).1 hh;obtain⟨r,h1,_,_,rfl⟩:=Hf.1 hc;exact Ar.2 ⟨r,h1,e⟩
 have:=Ir (List.pairwise_map.2 (List.nodup_range.imp fun h e=>h (Int.ofNat.inj e))) GM
 rw[Bs,Bs,List.length_range]at this
 have:=o8 hx
 omega
theorem Lt(dec:List Cd)(c:Cd):Ap (dec++[c])=Ko (Ap dec) c.rel.path c.rel.ver:=by unfold Ap Ko;rw[Az];rfl
theorem Lk{t:List Tm}{S:List Sl}:CB t S=true↔Bj t S=true∧∀u∈t,Cv S u.path=true:=by
 unfold CB;rw[Af,Cy,CM];simp
section
variable {x:List Rl}{roots:List Rq}{dec:List Cd}{p:ByteArray}{needs:List Nd}
abbrev an(p:ByteArray)(dec:List Cd):List ByteArray:=p::(Ap dec).map (·.path)
theorem kN{c:Cd}{t:List Tm}(hf:La t)(he:CB t (Ap (dec++[c]))=true):UQ (an c.rel.path dec) t:=by
 refine⟨E1 hf,fun u hu=>?_⟩
 have:=(Lk.1 he).2 u hu
 rw[Ho,Lt,Az]at this;rcases A4.1 this with h | h
 ·exact Ai _ h
 ·rw[AN,Fj,As]at h;rw[h];exact Ab ..
theorem fZ(hx:Ba x=0)(hd:D6 x dec){c:Cd}(hc:c.rel∈x){t:List Tm}(he:CB t (Ap (dec++[c]))=true)(hn:CA t c.rel.path=false):CB t (Ap dec)=true:=by
 obtain⟨h1,h2⟩:=Lk.1 he;have DB:=JX hn;rw[Lt]at h1 h2;refine Lk.2 ⟨?_,fun u hu=>?_⟩
 ·rw[K7 (.self (hd.valid hx)) (.ver (hd.valid hx) ((CQ hx).1 _ hc).val) DB];exact h1
 ·have:=h2 u hu
  rw[Tf,CU]at this;rcases this with h | h
  ·exact h
  ·rw[Lp]at h;obtain⟨y,hy,e⟩:=h;rw[As.1 hy]at e;exact absurd e.symm (DB u hu)
theorem d9(hx:Ba x=0)(hd:D6 x dec){c:Cd}(hc:c.rel∈x∧c.rel.yanked=false∧c.place=plc c.rel.ver)(hu:CR dec c.rel.path=false){t:List Tm}(hf:La t)(he:CB t (Ap (dec++[c]))=true)(hn:CA t c.rel.path=true) :
  kj (Ap dec) (an c.rel.path dec) c.rel.path t fun k=>k=c.place:=by
 have FV:=(CQ hx).1 _ hc.1;have hV:=hd.valid hx;have h1:=(Lk.1 he).1;rw[Lt]at h1;refine⟨hf,kN hf he,hn,⟨_,.ver hV FV.val,h1⟩,fun k k0 k1 e=>?_⟩;subst e;rw[aM (by rw[F5];exact hu) (Fd ⟨k0,k1⟩) FV.val (by rw[Hk,hc.2.2,FV.plc])];exact h1
theorem O9(hx:Ba x=0)(hr:Bn roots=0){E:List Cd}(hE:D6 x E){n:Nd}(hn:n∈Dq roots E)(hv:∃d∈E,d.rel.path=n.rq.path∧has n.rq.set d.place=false) :
  (∀d,DZ x roots d (Nc n)=some (HP n))∧CB (HP n) (Ap E)=true∧La (HP n):=by
 obtain⟨d,hd,e,hs⟩:=hv;have FV:=(CQ hx).1 _ (hE.cand d hd).1;have hf:=hE.find hd;have hI:=RS hx hr hE hn (.inr ⟨Ng d,by rw[←e];exact hf,by rw[show(Ng d).ver=d.rel.ver from rfl,←FV.plc,←(hE.cand d hd).2.2];exact hs⟩);refine⟨hI.inf,Lk.2 ⟨hI.viol,fun u hu=>?_⟩,hI.form⟩
 have:=(hI.inU ((Ap E).map (·.path)) (fun h=>Ho.1 (hI.path h)) (Ho.1 (by rw[J3,←e,hf];rfl))).2 u hu
 exact Ho.2 this
theorem dB(hx:Ba x=0)(hr:Bn roots=0)(hd:D6 x dec)(hN:ki roots dec p needs){c:Cd}(hc:c∈Br x p){n:Nd}(hn:n∈needs)(hs:has n.rq.set c.place=false):CA (HP n) p=true:=by
 obtain⟨c1,c2⟩:=Hb hc;have hu:CR dec c.rel.path=false:=by rw[c1];exact hN.undone
 have hE:=hd.snoc c2 hu;obtain⟨fb,lp⟩:=(hN.mem n).1 hn;have FV:=(CQ hx).1 _ c2.1;have hI:=RS hx hr hE (N5 fb) (.inr ⟨Ng c,by rw[lp,←c1];exact hE.find (by simp),by rw[show(Ng c).ver=c.rel.ver from rfl,←FV.plc,←c2.2.2];exact hs⟩);cases p8:CA (HP n) p with
 |true=>rfl
 |false =>
  exfalso
  have NX:n.rq.set≠[]∧EQ n.rq.set:=by
   rcases KR fb with ⟨k,q,h1,rfl⟩ | ⟨c,hc,k,q,h1,rfl⟩
   ·exact Ld hr q (AA h1)
   ·exact((CQ hx).1 _ (hd.cand c hc).1).set q (AA h1)
  obtain⟨k,hk⟩:=bN NX.1 NX.2;have Y4:=Mp hk;have hV:=hd.valid hx;have o1:Xf (Ap dec) p (Ko (Ap dec) p (Pv k)):=.ver hV (Fd Y4);have o2:Xf (Ap dec) p (Ap (dec++[c])):=by rw[Lt,c1];exact .ver hV FV.val
  have h1:=K7 o1 o2 (JX p8);rw[hI.viol,hI.raw _ o1.val,BJ]at h1
  have:=h1 (DK n.rq) (by unfold Nj;split<;>simp)
  rw[show(DK n.rq).path=p from lp,In (by rw[F5];exact hN.undone),TU (by rw[show(⟨p,Pv k⟩:Sl).ver=Pv k from rfl,Hk];exact hk)]at this;cases this
theorem dq(hx:Ba x=0)(hr:Bn roots=0)(hd:D6 x dec)(hN:ki roots dec p needs){n0:Nd}(h0:n0∈needs)(L:List (Nat×Cd))(hL:L.map (·.2)=Br x p){s:SS}(hs:FI x roots s)(Dy:∀y∈L,y.1<s.drv.length)
  (su:s.full=false→∀y∈L,CB (DC s y.1) (Ap (dec++[y.2]))=true∧CA (DC s y.1) p=true) :
  FI x roots (DP x p n0 (L.map (·.1)) s).2∧Grow s (DP x p n0 (L.map (·.1)) s).2∧(DP x p n0 (L.map (·.1)) s).1<(DP x p n0 (L.map (·.1)) s).2.drv.length ∧
  ((DP x p n0 (L.map (·.1)) s).2.full=false→CB (DC (DP x p n0 (L.map (·.1)) s).2 (DP x p n0 (L.map (·.1)) s).1) (Ap dec)=true):=by
 have hV:=hd.valid hx;have qh:Cv (Ap dec) p=false:=by rw[F5];exact hN.undone
 obtain⟨br,xm⟩:=(hN.mem n0).1 h0;have hI:=RS hx hr hd br (.inl (by rw[xm];exact HI qh));unfold DP;obtain⟨a1,a2,a3⟩:=KD hs (hI.inf s.drv);have ag:=KE s (Nc n0) (HP n0);have a3:(Bf s n0).2.full=false→DC (Bf s n0).2 (Bf s n0).1=HP n0:=a3
 change FI x roots (Bf s n0).2 at a1
 change (Bf s n0).1<(Bf s n0).2.drv.length at a2
 change Grow s (Bf s n0).2 at ag
 generalize Bf s n0=s1 at *
 -- the incompatibility of the places that are not available
 obtain⟨u,u0,u1,hu⟩:=bS hx p;have WC:∀k:Int,0≤k→k<1000000→has (Cf x p) k=false→Bj [(⟨p,false,Eu (Cf x p)⟩:Tm)] (Ko (Ap dec) p (Pv k))=true:=fun k k0 k1 hk=>by
  rw[BJ];intro t ht;rw[As.1 ht];show Dw _ (BD (Ko (Ap dec) p (Pv k)) p)=true;rw[In qh];show(CJ (Pv k)&&has (Eu (Cf x p)) (place (Pv k)))=true;rw[Fd ⟨k0,k1⟩,Hk,FU,hk];unfold L0;simp[k0,k1]
 have m9:Bj [(⟨p,false,Eu (Cf x p)⟩:Tm)] (Ap dec)=false:=by
  rw[AI];intro h
  have:=BJ.1 h _ (Ab ..)
  rw[show(⟨p,false,Eu (Cf x p)⟩:Tm).path=p from rfl,HI qh]at this;cases this
 have ou:Xf (Ap dec) p (Ko (Ap dec) p (Pv u)):=.ver hV (Fd ⟨u0,u1⟩);have DB:HX p (Cf x p)≠[]:=by
  have c1:=Dj (l:=[(⟨p,false,Eu (Cf x p)⟩:Tm)]) ou.val;have c2:=Dj (l:=[(⟨p,false,Eu (Cf x p)⟩:Tm)]) hV;rw[WC u u0 u1 hu]at c1;rw[m9]at c2;unfold HX Qk;cases hc:Da [(⟨p,false,Eu (Cf x p)⟩:Tm)]with
  |none=>rw[hc]at c1;cases c1
  |some c =>
   rw[hc]at c2;intro e;have e:c=[]:=e;rw[e]at c2;cases c2
 have LO:∀S,Gk S→Bj (HX p (Cf x p)) S=Bj [(⟨p,false,Eu (Cf x p)⟩:Tm)] S:=fun S v=>Ql v DB;have rT:CA (HX p (Cf x p)) p=true:=by
  cases h:CA (HX p (Cf x p)) p with
  |true=>rfl
  |false =>
   have:=K7 ou (.self hV) (JX h)
   rw[LO _ ou.val,LO _ hV,WC u u0 u1 hu,m9]at this;cases this
 have oP:DZ x roots s1.2.drv ⟨2,p,0,0,0,0⟩=some (HX p (Cf x p)):=by
  unfold DZ;rw[Aq (show ¬((2:Int)=0) by decide),Aq (show ¬((2:Int)=1) by decide),Ax rfl,Ax ⟨rfl,rfl,rfl,rfl⟩];unfold dA;rw[Aq (by rw[F4];exact DB)]
 obtain⟨b1,b2,b3⟩:=KD a1 oP;have bg:=KE s1.2 ⟨2,p,0,0,0,0⟩ (HX p (Cf x p));have b3:(Eb x p s1.2).2.full=false→DC (Eb x p s1.2).2 (Eb x p s1.2).1=HX p (Cf x p):=b3
 change FI x roots (Eb x p s1.2).2 at b1
 change (Eb x p s1.2).1<(Eb x p s1.2).2.drv.length at b2
 change Grow s1.2 (Eb x p s1.2).2 at bg
 generalize Eb x p s1.2=s2 at *
 have rA:s2.2.full=false→s1.2.full=false∧s.full=false:=fun h=>by
  have h1:s1.2.full=false:=by
   cases e:s1.2.full with
   |false=>rfl
   |true=>rw[bg.full e]at h;cases h
  refine⟨h1,?_⟩;cases e:s.full with
  |false=>rfl
  |true=>rw[ag.full e]at h1;cases h1
 have main:=N0 (D:=Ap dec) (U:=an p dec) (p:=p) hV ((s2.1,fun k=>has (Cf x p) k=false)::L.map fun y=>(y.1,fun k=>k=y.2.place)) (C:=fun k=>has n0.rq.set k=false) b1 (BP a2 bg.len)
  (fun y hy=>by
   rcases AF.1 hy with rfl | hy
   ·exact b2
   ·obtain⟨z,hz,rfl⟩:=Ar.1 hy;exact BP (Dy z hz) (ag.trans bg).len) (fun hf=>by
   obtain⟨f1,f0⟩:=rA hf;refine⟨?_,fun y hy=>?_⟩
   ·rw[bg.at a2,a3 f1];refine⟨hI.form,hI.inU _ (fun h=>Ai _ (Ho.1 (hI.path h))) (by rw[xm];exact Ab ..),hI.viol,fun k k0 k1 hk=>?_⟩;have ok:Xf (Ap dec) p (Ko (Ap dec) p (Pv k)):=.ver hV (Fd ⟨k0,k1⟩);rw[hI.raw _ ok.val,BJ];intro t ht;have WA:=BJ.1 ((hI.raw _ hV).symm.trans hI.viol) t ht;unfold Nj at ht;have gW:Dw (DK n0.rq) (BD (Ko (Ap dec) p (Pv k)) (DK n0.rq).path)=true:=by
     rw[show(DK n0.rq).path=p from xm,In qh];exact Rn (.inr ⟨_,rfl,Fd ⟨k0,k1⟩,by rw[show(⟨p,Pv k⟩:Sl).ver=Pv k from rfl,Hk];exact hk⟩)
    split at ht
    ·rw[As.1 ht];exact gW
    ·rename_i hm;rcases AF.1 ht with rfl | ht
     ·have DB:n0.path≠p:=fun e=>by
       have:=hI.path hm
       rw[e,qh]at this;cases this
      rw[show(⟨n0.path,false,[(n0.place,n0.place+1)]⟩:Tm).path=n0.path from rfl]at WA⊢;rw[ok.same _ DB];exact WA
     ·rw[As.1 ht];exact gW
   ·rcases AF.1 hy with rfl | hy
    ·show kj _ _ p (DC s2.2 s2.1) _;rw[b3 hf];refine⟨My _,TT (fun t ht=>by rw[As.1 ht];exact Ab ..),rT,⟨_,ou,by rw[LO _ ou.val];exact WC u u0 u1 hu⟩,fun k k0 k1 hk=>?_⟩;rw[LO _ (Xf.ver hV (Fd ⟨k0,k1⟩)).val];exact WC k k0 k1 hk
    ·obtain⟨z,hz,rfl⟩:=Ar.1 hy;show kj _ _ p (DC s2.2 z.1) _;rw[(ag.trans bg).at (Dy z hz)];obtain⟨e1,e2⟩:=su f0 z hz;have hzc:z.2∈Br x p:=by rw[←hL];exact Ar.2 ⟨z,hz,rfl⟩
     obtain⟨c1,c2⟩:=Hb hzc
     have:=d9 hx hd c2 (by rw[c1];exact hN.undone) (hs.forms z.1) e1 (by rw[c1];exact e2)
     rw[c1]at this;exact this)
 have xe:((s2.1,fun k=>has (Cf x p) k=false)::L.map fun y=>(y.1,fun k=>k=y.2.place)).map (·.1)=s2.1::L.map (·.1):=by
  rw[AN,BY];rfl
 rw[xe]at main;obtain⟨m1,m2,m3,m4⟩:=main;refine⟨m1,(ag.trans bg).trans m2,m3,fun hf=>?_⟩;obtain⟨C',q1,q2⟩:=m4 hf;have hnc:CA (DC (Ci p (s2.1::L.map (·.1)) s1.1 s2.2).2 (Ci p (s2.1::L.map (·.1)) s1.1 s2.2).1) p=false:=by
  rcases q2 with q2 | q2
  ·exact q2
  ·refine iN qh q1.form q1.none_ fun k k0 k1=>q1.cov k k0 k1 (q2 k ?_);cases uc:has n0.rq.set k with
   |false=>exact .inl rfl
   |true =>
    cases ha:has (Cf x p) k with
    |false=>exact .inr ⟨_,Ab ..,ha⟩
    |true =>
     obtain⟨c,hc,e⟩:=(U0 hx).1 ha;rw[←hL]at hc;obtain⟨z,hz,rfl⟩:=Ar.1 hc;exact .inr ⟨_,Ai _ (Ar.2 ⟨z,hz,rfl⟩),e.symm⟩
 refine Lk.2 ⟨q1.none_,fun t ht=>?_⟩
 have:=q1.inU.2 t ht
 rcases AF.1 this with e | h
 ·exact absurd e (JX hnc t ht)
 ·exact Ho.2 h
end
end Go.Eng

namespace Go.Eng
def G9(s:SS)(b:List Cd)(p:ByteArray)(needs:List Nd):List Cd→List Sk→Prop
 | [],sk=>sk=[]
 |c::cs,sk=>if(needs.all fun n=>has n.rq.set c.place)=true then ∃(k:Nat) (rest:List Sk),sk=⟨p,c.place,k⟩::rest∧(k<s.drv.length∧CB (DC s k) (Ap (b++[c]))=true)∧G9 s b p needs cs rest
  else G9 s b p needs cs sk
section
variable {s s' : SS}{b:List Cd}{p:ByteArray}{needs:List Nd}
theorem G9.out{c:Cd}(hc:¬(needs.all fun n=>has n.rq.set c.place)=true):∀{cs:List Cd} {sk:List Sk},G9 s b p needs cs sk→G9 s b p needs (cs++[c]) sk
 | [],sk,h=>by
  show(if _ then _ else _);rw[Aq hc];exact h
 |d::cs,sk,h=>by
  have h:if(needs.all fun n=>has n.rq.set d.place)=true then _ else _:=h
  show(if _ then _ else _)
  by_cases hd:(needs.all fun n=>has n.rq.set d.place)=true
  ·rw[Ax hd]at h⊢;obtain⟨k,rest,h1,h2,h3⟩:=h;exact⟨k,rest,h1,h2,G9.out hc h3⟩
  ·rw[Aq hd]at h⊢;exact G9.out hc h
theorem G9.add{c:Cd}(hc:(needs.all fun n=>has n.rq.set c.place)=true){k:Nat}(hk:k<s.drv.length∧CB (DC s k) (Ap (b++[c]))=true):∀{cs:List Cd} {sk:List Sk},G9 s b p needs cs sk→G9 s b p needs (cs++[c]) (sk++[⟨p,c.place,k⟩])
 | [],sk,h=>by
  have h:sk=[]:=h;subst h;show(if _ then _ else _);rw[Ax hc];exact⟨k,[],rfl,hk,rfl⟩
 |d::cs,sk,h=>by
  have h:if(needs.all fun n=>has n.rq.set d.place)=true then _ else _:=h
  show(if _ then _ else _)
  by_cases hd:(needs.all fun n=>has n.rq.set d.place)=true
  ·rw[Ax hd]at h⊢;obtain⟨j,rest,rfl,h2,h3⟩:=h;exact⟨j,_,rfl,h2,G9.add hc hk h3⟩
  ·rw[Aq hd]at h⊢;exact G9.add hc hk h
theorem G9.mono(hg:Grow s s'):∀{cs:List Cd} {sk:List Sk},G9 s b p needs cs sk→G9 s' b p needs cs sk
 | [],_,h=>h
 |d::cs,sk,h=>by
  have h:if(needs.all fun n=>has n.rq.set d.place)=true then _ else _:=h
  show(if _ then _ else _)
  by_cases hd:(needs.all fun n=>has n.rq.set d.place)=true
  ·rw[Ax hd]at h⊢;obtain⟨j,rest,rfl,h2,h3⟩:=h;exact⟨j,rest,rfl,⟨BP h2.1 hg.len,by rw[hg.at h2.1];exact h2.2⟩,h3.mono hg⟩
  ·rw[Aq hd]at h⊢;exact h.mono hg
end
structure nE(x:List Rl)(roots:List Rq)(s:SS)(b:List Cd)(c:Cd)(sk:List Sk)(p:ByteArray)(needs:List Nd)(pre post:List Cd):Prop where
 next:ki roots b p needs
 cands:Br x p=pre++c::post
 fit:∀n∈needs,has n.rq.set c.place=true
 noclash:Co b c=none
 skips:G9 s b p needs pre sk
def Sh(x:List Rl)(roots:List Rq)(s:SS):List Cd→List Cd→List (List Sk)→Prop
 |b,[],[]=>HT (DH roots b) (Ap b)=none
 |b,c::t,sk::st=>(∃p needs pre post,nE x roots s b c sk p needs pre post)∧Sh x roots s (b++[c]) t st
 |_,_,_=>False
structure V9(x:List Rl)(roots:List Rq)(ls:List (List Cd))(dec:List Cd)(s:SS)(st:List (List Sk))(o:JS):Prop where
 der:FI x roots o.ss
 grow:Grow s o.ss
 no:o.found=false→o.dec=dec∧o.stack=st∧(o.ss.full=false→o.res<o.ss.drv.length∧CB (DC o.ss o.res) (Ap dec)=true)
 yes:o.found=true→o.ss.full=false∧∃t sl,o.dec=dec++t∧o.stack=st++sl∧Sh x roots o.ss dec t sl∧ls.head?=some o.dec
section
variable {rec:List Cd→SS→List (List Sk)→JS}{x:List Rl}{roots:List Rq}{p:ByteArray}{needs:List Nd}{n0:Nd}{dec:List Cd}{st:List (List Sk)}
def Ix(rec:List Cd→SS→List (List Sk)→JS)(x:List Rl)(p:ByteArray)(needs:List Nd)(n0:Nd)(dec:List Cd)(st:List (List Sk))(c:Cd)(cs:List Cd)(reasons:List Nat)(skips:List Sk)(k:Nat)(s:SS):JS :=
 if CA (DC s k) p=false then⟨k,false,s,dec,st⟩else DN rec x p needs n0 dec st cs s (reasons++[k]) (skips++[⟨p,c.place,k⟩])
theorem F0(c:Cd)(cs:List Cd)(s:SS)(reasons:List Nat)(skips:List Sk):DN rec x p needs n0 dec st (c::cs) s reasons skips =
  if s.full=true then⟨0,false,s,dec,st⟩
  else match needs.find? fun n=>!has n.rq.set c.place with
   |some n=>DN rec x p needs n0 dec st cs (Bf s n).2 (reasons++[(Bf s n).1]) skips
   |none=>match NR s.drv (Ap (dec++[c]))with
    |some k=>Ix rec x p needs n0 dec st c cs reasons skips k s
    |none=>match Co dec c with
     |some n=>Ix rec x p needs n0 dec st c cs reasons skips (Bf s n).1 (Bf s n).2
     |none=>if(rec (dec++[c]) s (st++[skips])).found=true then⟨0,true,(rec (dec++[c]) s (st++[skips])).ss,(rec (dec++[c]) s (st++[skips])).dec,(rec (dec++[c]) s (st++[skips])).stack⟩
      else if(rec (dec++[c]) s (st++[skips])).ss.full=true then⟨0,false,(rec (dec++[c]) s (st++[skips])).ss,dec,st⟩
      else Ix rec x p needs n0 dec st c cs reasons skips (rec (dec++[c]) s (st++[skips])).res (rec (dec++[c]) s (st++[skips])).ss:=rfl
theorem bv{s:SS}(hs:FI x roots s){n:Nd}(h:∀d,DZ x roots d (Nc n)=some (HP n)):FI x roots (Bf s n).2∧(Bf s n).1<(Bf s n).2.drv.length∧((Bf s n).2.full=false→DC (Bf s n).2 (Bf s n).1=HP n)∧Grow s (Bf s n).2:=by
 obtain⟨a1,a2,a3⟩:=KD hs (h s.drv);exact⟨a1,a2,a3,KE _ _ _⟩
theorem V9.grown{ls:List (List Cd)}{s s' : SS}{o:JS}(hg:Grow s s')(h:V9 x roots ls dec s' st o):V9 x roots ls dec s st o:=⟨h.der,hg.trans h.grow,h.no,h.yes⟩
theorem U4(hx:Ba x=0)(hr:Bn roots=0)(hd:D6 x dec)(cY:IZ roots dec)(hN:ki roots dec p needs)(h0:n0∈needs){lv:List Cd→List (List Cd)}(I2:∀c∈Br x p,VC dec needs c=true→∀d∈lv (dec++[c]),Lf x roots (dec++[c]) d)
  (WD:∀c∈Br x p,VC dec needs c=true→∀s st,FI x roots s→s.full=false→V9 x roots (lv (dec++[c])) (dec++[c]) s st (rec (dec++[c]) s st)) :
  ∀(cs:List Cd) {s:SS} (L:List (Nat×Cd)) {skips:List Sk},L.map (·.2)++cs=Br x p→FI x roots s→(∀y∈L,y.1<s.drv.length)→(s.full=false→(∀y∈L,CB (DC s y.1) (Ap (dec++[y.2]))=true∧CA (DC s y.1) p=true)∧G9 s dec p needs (L.map (·.2)) skips) →
   V9 x roots (((Br x p).map fun c=>if VC dec needs c then lv (dec++[c])else []).flatten) dec s st (DN rec x p needs n0 dec st cs s (L.map (·.1)) skips)
 | [],s,L,skips,hL,hs,Dy,su=>by
  rw[CV]at hL;obtain⟨l1,l2,l3,l4⟩:=dq hx hr hd hN h0 L hL hs Dy (fun hf=>(su hf).1);exact⟨l1,l2,fun _=>⟨rfl,rfl,fun hf=>⟨l3,l4 hf⟩⟩,fun h=>(by cases h)⟩
 |c::cs,s,L,skips,hL,hs,Dy,su=>by
  rw[F0]
  by_cases hf:s.full=true
  ·rw[Ax hf];exact⟨hs,.refl s,fun _=>⟨rfl,rfl,fun h=>by rw[show(⟨0,false,s,dec,st⟩:JS).ss=s from rfl,hf]at h;cases h⟩,fun h=>(by cases h)⟩
  rw[Aq hf];have hf:s.full=false:=by simpa using hf
  obtain⟨sv,o0⟩:=su hf;have hc:c∈Br x p:=by rw[←hL];simp
  obtain⟨c1,c2⟩:=Hb hc;have hu:CR dec c.rel.path=false:=by rw[c1];exact hN.undone
  have hE:=hd.snoc c2 hu
  -- on to the next candidate
  have go:∀(s' : SS) (k:Nat) (LB : List Sk),FI x roots s'→Grow s s'→k<s'.drv.length→(s'.full=false→(CB (DC s' k) (Ap (dec++[c]))=true∧CA (DC s' k) p=true)∧G9 s' dec p needs (L.map (·.2)++[c]) LB) →
    V9 x roots (((Br x p).map fun c=>if VC dec needs c then lv (dec++[c])else []).flatten) dec s st (DN rec x p needs n0 dec st cs s' (L.map (·.1)++[k]) LB):=fun s' k LB Ul hg hk DB=>by
   have:=U4 hx hr hd cY hN h0 I2 WD cs (s:=s') (L++[(k,c)]) (skips:=LB) (by rw[Az,BH];exact hL) Ul
    (fun y hy=>by
     rcases A4.1 hy with hy | hy
     ·exact BP (Dy y hy) hg.len
     ·rw[As.1 hy];exact hk)
    (fun XZ=>by
     obtain⟨e1,e2⟩:=DB XZ;refine⟨fun y hy=>?_,by rw[Az];exact e2⟩;rcases A4.1 hy with hy | hy
     ·rw[hg.at (Dy y hy)];exact sv y hy
     ·rw[As.1 hy];exact e1)
   rw[Az]at this;exact this.grown hg
  cases oL:needs.find? fun n=>!has n.rq.set c.place with
  |some n =>
   dsimp only;have fb:=CX oL;have lp:=FM oL;have lp:has n.rq.set c.place=false:=by simpa using lp
   obtain⟨hn3,hn4⟩:=(hN.mem n).1 fb;obtain⟨e1,e2,e3⟩:=O9 hx hr hE (N5 hn3) ⟨c,by simp,by rw[c1,hn4],lp⟩;obtain⟨i1,i2,i3,i4⟩:=bv hs e1;refine go _ _ _ i1 i4 i2 fun XZ=>?_;rw[i3 XZ];exact⟨⟨e2,dB hx hr hd hN hc fb lp⟩,G9.out (by
    intro h;rw[AW]at h;rw[h n fb]at lp;cases lp) (o0.mono i4)⟩
  |none =>
   dsimp only;have ZK:∀n∈needs,has n.rq.set c.place=true:=fun n hn=>by
    rw[Ev]at oL;simpa using oL n hn
   have GM:(needs.all fun n=>has n.rq.set c.place)=true:=by rw[AW];exact ZK
   have fm:∀(s' : SS) (k:Nat),FI x roots s'→Grow s s'→k<s'.drv.length→(s'.full=false→CB (DC s' k) (Ap (dec++[c]))=true) →
     V9 x roots (((Br x p).map fun c=>if VC dec needs c then lv (dec++[c])else []).flatten) dec s st (Ix rec x p needs n0 dec st c cs (L.map (·.1)) skips k s'):=fun s' k Ul hg hk he=>by
    unfold Ix;cases p8:CA (DC s' k) p with
    |false =>
     rw[Ax rfl];exact⟨Ul,hg,fun _=>⟨rfl,rfl,fun XZ=>⟨hk,fZ hx hd c2.1 (he XZ) (by rw[c1];exact p8)⟩⟩,fun h=>(by cases h)⟩
    |true =>
     rw[Aq (by decide)];exact go _ _ _ Ul hg hk fun XZ=>⟨⟨he XZ,p8⟩,G9.add GM ⟨hk,he XZ⟩ (o0.mono hg)⟩
   cases hen:NR s.drv (Ap (dec++[c]))with
   |some k =>
    dsimp only;obtain⟨k1,k2⟩:=KK hen;exact fm s k hs (.refl s) k1 fun _=>k2
   |none =>
    dsimp only;cases hcl:Co dec c with
    |some n =>
     dsimp only;obtain⟨m1,m2⟩:=Lg hcl;obtain⟨e1,e2,e3⟩:=O9 hx hr hE (MZ m1) m2;obtain⟨i1,i2,i3,i4⟩:=bv hs e1;exact fm _ _ i1 i4 i2 fun XZ=>by rw[i3 XZ];exact e2
    |none =>
     dsimp only;have FV:VC dec needs c=true:=GO.2 ⟨ZK,hcl⟩;have hR:=WD c hc FV s (st++[skips]) hs hf;generalize rec (dec++[c]) s (st++[skips])=o at hR
     by_cases Ui:o.found=true
     ·rw[Ax Ui];obtain⟨y1,t,sl,y2,y3,y4,y5⟩:=hR.yes Ui;refine⟨hR.der,hR.grow,fun h=>(by cases h),fun _=>⟨y1,c::t,skips::sl,by show o.dec=_;rw[y2];simp,by show o.stack=_;rw[y3];simp,⟨⟨p,needs,L.map (·.2),cs,hN,hL.symm,ZK,hcl,o0.mono hR.grow⟩,y4⟩,?_⟩⟩;show _=some o.dec;rw[←hL,Az,Cc,AN,Bu];have oX:((L.map (·.2)).map fun c=>if VC dec needs c then lv (dec++[c])else []).flatten=[]:=by
       rw[List.flatten_eq_nil_iff];intro l hl;obtain⟨d,jT,rfl⟩:=Ar.1 hl;obtain⟨y,hy,rfl⟩:=Ar.1 jT;split
       ·rename_i hoy;have hyc:y.2∈Br x p:=by rw[←hL];exact Bz _ jT
        refine LU.2 fun d wW=>lX hx hs (Dy y hy) (sv y hy).1 (I2 y.2 hyc hoy d wW)
       ·rfl
      rw[oX,DL,Ax FV,List.head?_append,y5];rfl
     ·rw[Aq Ui];have Ui:o.found=false:=by simpa using Ui
      obtain⟨n1,n2,n3⟩:=hR.no Ui
      by_cases oM:o.ss.full=true
      ·rw[Ax oM];exact⟨hR.der,hR.grow,fun _=>⟨rfl,rfl,fun h=>by rw[show(⟨0,false,o.ss,dec,st⟩:JS).ss=o.ss from rfl,oM]at h;cases h⟩,fun h=>(by cases h)⟩
      ·rw[Aq oM];have oM:o.ss.full=false:=by simpa using oM
       exact fm _ _ hR.der hR.grow (n3 oM).1 fun _=>(n3 oM).2
end
theorem Ll{x:List Rl}{dec:List Cd}{c:Cd}(h:c.rel∈x∧c.rel.yanked=false)(hu:CR dec c.rel.path=false):E9 x (dec++[c])<E9 x dec:=by
 have key:∀l:List Rl,(l.filter fun r=>!r.yanked&&!CR (dec++[c]) r.path).length≤(l.filter fun r=>!r.yanked&&!CR dec r.path).length ∧
   (c.rel∈l→(l.filter fun r=>!r.yanked&&!CR (dec++[c]) r.path).length<(l.filter fun r=>!r.yanked&&!CR dec r.path).length):=by
  intro l
  induction l with
  |nil=>exact⟨Ao _,fun h=>(by cases h)⟩
  |cons r l ih =>
   have gZ:(!r.yanked&&!CR (dec++[c]) r.path)=true→(!r.yanked&&!CR dec r.path)=true:=fun e=>by
    simp only[Af,Cy]at e⊢;refine⟨e.1,?_⟩
    have:=e.2
    unfold CR at this⊢;rw[Gt,Bool.or_eq_false_iff]at this;exact this.1
   rw[DD,DD];refine⟨?_,fun hm=>?_⟩
   ·by_cases e:(!r.yanked&&!CR (dec++[c]) r.path)=true
    ·rw[Ax e,Ax (gZ e)];simp;exact ih.1
    ·rw[Aq e];split
     ·simp;have:=ih.1;omega
     ·exact ih.1
   ·rcases AF.1 hm with rfl | hm
    ·have e1:¬(!c.rel.yanked&&!CR (dec++[c]) c.rel.path)=true:=by
      have:CR (dec++[c]) c.rel.path=true:=by unfold CR;simp
      rw[this];simp
     have e2:(!c.rel.yanked&&!CR dec c.rel.path)=true:=by rw[h.2,hu];rfl
     rw[Aq e1,Ax e2];simp;have:=ih.1;omega
    ·have:=ih.2 hm
     by_cases e:(!r.yanked&&!CR (dec++[c]) r.path)=true
     ·rw[Ax e,Ax (gZ e)];simp;exact this
     ·rw[Aq e];split
      ·simp;omega
      ·exact this
 exact(key x).2 h.1
theorem Qy{x:List Rl}{roots:List Rq}(hx:Ba x=0)(hr:Bn roots=0):∀(n:Nat) {dec:List Cd} {s:SS} {st:List (List Sk)},D6 x dec→IZ roots dec→FI x roots s→s.full=false→E9 x dec<n →
  V9 x roots (BS x roots n dec) dec s st (C3 x roots n dec s st)
 |0,_,_,_,_,_,_,_,h=>by omega
 |n+1,dec,s,st,hd,cY,hs,hf,hn=>by
  unfold C3 BS;cases e:(DR roots dec).2 with
  |nil =>
   exact⟨hs,.refl s,fun h=>(by cases h),fun _=>⟨hf,[],[],by simp,by simp,N8.1 e,rfl⟩⟩
  |cons n0 l =>
   have hN:=Im e;have next:∀c∈Br x (DR roots dec).1,VC dec (n0::l) c=true→D6 x (dec++[c])∧IZ roots (dec++[c])∧E9 x (dec++[c])<n:=fun c hc FV=>by
    obtain⟨c1,c2⟩:=Hb hc;have hu:CR dec c.rel.path=false:=by rw[c1];exact hN.undone
    obtain⟨k1,k2⟩:=GO.1 FV;exact⟨hd.snoc c2 hu,cY.snoc hN c1 k1 k2,by have:=Ll (dec:=dec) ⟨c2.1,c2.2.1⟩ hu;omega⟩
   exact U4 hx hr hd cY hN (Ab ..) (lv:=BS x roots n) (fun c hc FV d jT=>MW (next c hc FV).1 (next c hc FV).2.1 d jT)
    (fun c hc FV s st hs hf=>Qy hx hr n (next c hc FV).1 (next c hc FV).2.1 hs hf (next c hc FV).2.2) _ [] rfl hs (fun y hy=>by cases hy) (fun _=>⟨fun y hy=>(by cases hy),rfl⟩)
theorem XO(x:List Rl)(dec:List Cd):E9 x dec≤x.length:=Bp _ _
theorem Qz{x:List Rl}{roots:List Rq}(hx:Ba x=0)(hr:Bn roots=0):V9 x roots (BS x roots (x.length+1) []) [] Kr [] (Fc x roots) :=
 Qy hx hr _ (.nil x) (.nil roots) (.nil x roots) rfl (by have:=XO x [];omega)
end Go.Eng
