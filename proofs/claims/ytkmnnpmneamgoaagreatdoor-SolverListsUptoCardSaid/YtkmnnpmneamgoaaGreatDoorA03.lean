/- Lemmas for the claims of this seat, without a condition: part 3 (Q3, Q4, Q5, Q6, Q7). -/
import Derived.Test.YtkmnnpmneamgoaaGreatDoorA02
namespace Go.Eng
theorem L3:∀{l:List Rq} {b:Option ByteArray},D2 b l=0→∀q∈l,q.set≠[]∧EJ q.set
 | [],_,_,q,hq=>by cases hq
 |r::l,b,h,q,hq=>by
  unfold D2 at h;split at h
  ·rename_i e;rcases AF.1 hq with rfl | hq
   ·unfold F3 at e
    by_cases h1:(Bw q.path).isNone=true
    ·rw[AB h1]at e;exact absurd e (by decide)
    rw[Ar h1]at e;cases hE:q.set.isEmpty with
    |true=>rw[hE]at e;simp at e
    |false =>
     cases hD:decide (q.set=canon q.set)with
     |false=>rw[hD]at e;simp at e
     |true =>
      have h3:q.set=canon q.set:=Cm hD;exact⟨by simpa using hE,by rw[h3];exact Cq _⟩
   ·exact L3 h q hq
  ·rename_i e;exact absurd h e
theorem K8{l:List Rq}(h:Bm l=0):∀q∈l,q.set≠[]∧EJ q.set:=by
 unfold Bm at h;split at h
 ·cases h
 ·exact L3 h
abbrev Pk(k:Int):Ver:=⟨0,k / 1000,k % 1000⟩
theorem Hd(k:Int):place (Pk k)=k:=by unfold place;show 1000*(k / 1000)+k % 1000=k;omega
theorem E5{k:Int}(h:0≤k∧k<1000000):CH (Pk k)=true:=by
 unfold CH okPart;simp only[Ag];exact⟨⟨Av (by omega),Av (by omega)⟩,Av (by omega)⟩
structure WU(D:List Sl)(p:ByteArray)(S:List Sl):Prop where
 val:Gg S
 same:∀q,q≠p→BC S q=BC D q
abbrev Ki(D:List Sl)(p:ByteArray)(v:Ver):List Sl:=D++[⟨p,v⟩]
theorem Ka(a b:List Sl)(p:ByteArray):BC (a++b) p=(BC a p).or (BC b p):=by
 unfold BC;rw[List.find?_append]
theorem HC{s:List Sl}{p:ByteArray}(h:Cv s p=false):BC s p=none:=by
 rw[JT]at h;cases e:BC s p with
 |none=>rfl
 |some y=>rw[e]at h;cases h
theorem WU.self{D:List Sl}{p:ByteArray}(h:Gg D):WU D p D:=⟨h,fun _ _=>rfl⟩
theorem WU.ver{D:List Sl}{p:ByteArray}(h:Gg D){v:Ver}(hv:CH v=true):WU D p (Ki D p v):=by
 refine⟨fun y hy=>?_,fun q hq=>?_⟩
 ·rcases A5.1 hy with hy | hy
  ·exact h y hy
  ·rw[Au.1 hy];exact hv
 ·rw[Ka]
  have:BC [(⟨p,v⟩:Sl)] q=none:=by unfold BC;simp[Ne.symm hq]
  rw[this,Option.or_none]
theorem Ie{D:List Sl}{p:ByteArray}(hp:Cv D p=false)(v:Ver):BC (Ki D p v) p=some ⟨p,v⟩:=by
 rw[Ka,HC hp];unfold BC;simp
theorem QM{D:List Sl}{p:ByteArray}(hp:Cv D p=false){v v' : Ver}(hv:CH v=true)(tD : CH v'=true)(e:place v=place v')(q:ByteArray)(t:Tm) :
  Dt t (BC (Ki D p v) q)=Dt t (BC (Ki D p v') q):=by
 by_cases hq:q=p
 ·subst hq;rw[Ie hp,Ie hp];show(CH v&&has t.set (place v))=(CH v'&&has t.set (place v'));rw[hv,tD,e]
 ·have h1:∀w:Ver,BC (Ki D p w) q=BC D q:=fun w=>by
   rw[Ka]
   have:BC [(⟨p,w⟩:Sl)] q=none:=by unfold BC;simp[Ne.symm hq]
   rw[this,Option.or_none]
  rw[h1,h1]
theorem aj{D:List Sl}{p:ByteArray}(hp:Cv D p=false){v v' : Ver}(hv:CH v=true)(tD : CH v'=true)(e:place v=place v')(t:List Tm):Bi t (Ki D p v)=Bi t (Ki D p v'):=by
 rw[B2,BJ,BJ];exact⟨fun h u hu=>by rw[←QM hp hv tD e];exact h u hu,fun h u hu=>by rw[QM hp hv tD e];exact h u hu⟩
theorem KY{D S S' : List Sl}{p:ByteArray}(h:WU D p S)(h' : WU D p S'){t:List Tm}(ht:∀u∈t,u.path≠p):Bi t S=Bi t S':=by
 rw[B2,BJ,BJ];exact⟨fun k u hu=>by rw[h'.same _ (ht u hu),←h.same _ (ht u hu)];exact k u hu,fun k u hu=>by rw[h.same _ (ht u hu),←h'.same _ (ht u hu)];exact k u hu⟩
theorem JO{t:List Tm}{p:ByteArray}(h:Cy t p=false):∀u∈t,u.path≠p:=fun u hu e=>by
 unfold Cy at h;rw[CL]at h;exact h u hu (by simpa using e)
theorem Sq{t:List Tm}{p:ByteArray}(h:Cy t p=true):∃u∈t,u.path=p:=by
 unfold Cy at h;rw[A3]at h;obtain⟨u,hu,e⟩:=h;exact⟨u,hu,by simpa using e⟩
theorem T0{t:List Tm}{p:ByteArray}(hf:K5 t)(hc:Cy t p=true):∃u r,FB t p=some (u,r)∧u.path=p∧∀v∈r,v.path≠p:=by
 obtain⟨u,hu,e⟩:=Sq hc;have hs:=EV hf;have nR:=(FM hs).1 hu;rw[e]at nR;refine⟨u,FR t p,?_,e,fun v hv=>?_⟩
 ·unfold FB;rw[show CV t=some t from hf];dsimp only;rw[nR]
 ·have:=(BL.1 hv).2
  simpa using this
theorem WE{D:List Sl}{p:ByteArray}{t b:List Tm}(gq:K5 t)(nQ:K5 b)(hct:Cy t p=true)(ri:Cy b p=true){S1 S2:List Sl}(h1:WU D p S1)(v1:Bi t S1=true)(h2:WU D p S2)(v2:Bi b S2=true) :
  (BE t b p).2=0∧∀S,WU D p S→Bi t S=true∨Bi b S=true→Bi (BE t b p).1 S=true:=by
 obtain⟨u,r,e1,pu,nr⟩:=T0 gq hct;obtain⟨w,m,e2,pw,nm⟩:=T0 nQ ri;have key:∀S,WU D p S→Bi t S=true∨Bi b S=true→Bi (r++m++[Ds u w]) S=true:=fun S hS hv=>by
  have r1:Bi r S=true:=by
   rw[KY hS h1 nr];rw[(FQ h1.val e1).1,Ag]at v1;exact v1.2
  have m1:Bi m S=true:=by
   rw[KY hS h2 nm];rw[(FQ h2.val e2).1,Ag]at v2;exact v2.2
  rw[G6,G6,r1,m1];simp only[Ef];rw[BJ];intro y hy;rw[Au.1 hy,show(Ds u w).path=p from pu,No,CQ];rcases hv with hv | hv
  ·rw[(FQ hS.val e1).1,Ag]at hv;exact .inl hv.1
  ·rw[(FQ hS.val e2).1,Ag]at hv;exact .inr hv.1
 unfold BE;rw[e1,e2];dsimp only;have c1:=Dh (l:=r++m++[Ds u w]) h1.val;rw[key S1 h1 (.inl v1)]at c1;cases hc:CV (r++m++[Ds u w])with
 |none=>rw[hc]at c1;cases c1
 |some o =>
  dsimp only;refine⟨rfl,fun S hS hv=>?_⟩;have c2:=Dh (l:=r++m++[Ds u w]) hS.val;rw[hc,key S hS hv]at c2;exact c2.symm
theorem ip{D:List Sl}{p:ByteArray}(hp:Cv D p=false){t:List Tm}(hf:K5 t)(h0:Bi t D=true)(hk:∀k:Int,0≤k→k<1000000→Bi t (Ki D p (Pk k))=true):Cy t p=false:=by
 rw[AH];intro hc;obtain⟨u,hu,e⟩:=Sq hc;have ha:u.absent=true:=by
  have:=BJ.1 h0 u hu
  rw[e,HC hp]at this;exact this
 have hs:∀k:Int,0≤k→k<1000000→has u.set k=true:=fun k k0 k1=>by
  have:=BJ.1 (hk k k0 k1) u hu
  rw[e,Ie hp]at this;unfold Dt at this;rw[Ag]at this
  have:=this.2
  rw[show(⟨p,Pk k⟩:Sl).ver=Pk k from rfl,Hd]at this;exact this
 have pv:EJ u.set:=Cj.canon (EV hf) u hu;have gu:u.set=[(0,1000000)]:=by
  refine Hx pv ⟨by decide,by decide,by decide,trivial⟩ fun k=>?_;rw[B2];constructor
  ·intro h
   have:=Mh h
   unfold has;simp[BR,this.1,this.2]
  ·intro h
   have:=Mh h
   exact hs k this.1 this.2
 have hal:GH u=true:=by unfold GH;rw[ha,gu];rfl
 have tn:CV t=some t:=hf;unfold CV at tn;split at tn
 ·cases tn
 ·have e2:=Ch tn;rw[←e2]at hu
  have:=(BL.1 hu).2
  rw[hal]at this;cases this
end Go.Eng

namespace Go.Eng
structure DY(x:List Rl)(dec:List Cd):Prop where
 cand:∀c∈dec,c.rel∈x∧c.rel.yanked=false∧c.place=plc c.rel.ver
 nodup:(dec.map fun c=>c.rel.path).Nodup
theorem DY.nil(x:List Rl):DY x []:=⟨fun _ h=>(by cases h),Fo⟩
theorem TE{r:Rl}(h:RV r):r.path≠mt:=fun e=>by
 have:=h.maj
 rw[e]at this;have h2:Bw mt=none:=by decide
 rw[h2]at this;cases this
theorem RV.set{r:Rl}(h:RV r):∀q∈r.reqs,q.set≠[]∧EJ q.set:=K8 h.reqs
theorem Jv(dec:List Cd):(Am dec).map (·.path)=dec.map fun c=>c.rel.path:=by unfold Am;rw[BX];rfl
theorem SD:∀{D:List Sl},(D.map (·.path)).Nodup→∀{y:Sl},y∈D→BC D y.path=some y
 | [],_,y,h=>by cases h
 |z::D,hn,y,h=>by
  simp only[AN,CZ]at hn;unfold BC;rw[ET];rcases AF.1 h with rfl | h
  ·rw[Av rfl]
  ·have:z.path≠y.path:=fun e=>hn.1 (Aq.2 ⟨y,h,e.symm⟩)
   rw[At this];exact SD hn.2 h
theorem DY.find{x:List Rl}{dec:List Cd}(h:DY x dec){c:Cd}(hc:c∈dec):BC (Am dec) c.rel.path=some (M4 c) :=
 SD (by rw[Jv];exact h.nodup) (y:=M4 c) (Aq.2 ⟨c,hc,rfl⟩)
theorem DY.valid{x:List Rl}(hx:A7 x=0){dec:List Cd}(h:DY x dec):Gg (Am dec):=fun y hy=>by
 obtain⟨c,hc,rfl⟩:=Aq.1 hy;exact((CN hx).1 _ (h.cand c hc).1).val
theorem DY.snoc{x:List Rl}{dec:List Cd}(h:DY x dec){c:Cd}(hc:c.rel∈x∧c.rel.yanked=false∧c.place=plc c.rel.ver)(hd:Df dec c.rel.path=false):DY x (dec++[c]):=by
 refine⟨fun d hd=>?_,?_⟩
 ·rcases A5.1 hd with hd | hd
  ·exact h.cand d hd
  ·rw[Au.1 hd];exact hc
 ·rw[AA,Gt];refine⟨h.nodup,by simp,fun a ha b hb e=>?_⟩;obtain⟨d,jx,rfl⟩:=Aq.1 ha;simp only[AN,Fe,Au]at hb;unfold Df at hd;rw[CL]at hd;exact hd d jx (by simpa using e.trans hb)
theorem KL{roots:List Rq}{E:List Cd}{n:Nd}(h:n∈Dp roots E):(∃k q,roots[k]?=some q∧n=⟨q,mt,0,(k:Nat)⟩)∨∃c∈E,∃k q,c.rel.reqs[k]?=some q∧n=⟨q,c.rel.path,c.place,(k:Nat)⟩:=by
 unfold Dp at h;rcases A5.1 h with h | h
 ·obtain⟨k,q,h1,h2⟩:=Yg h;exact .inl ⟨k,q,h1,h2⟩
 ·obtain⟨l,hl,hn⟩:=E9.1 h;obtain⟨c,hc,rfl⟩:=Aq.1 hl;obtain⟨k,q,h1,h2⟩:=Yg hn;exact .inr ⟨c,hc,k,q,h1,h2⟩
theorem NT{roots:List Rq}{dec:List Cd}{c:Cd}{n:Nd}(h:n∈Dp roots dec):n∈Dp roots (dec++[c]):=by
 unfold Dp at *
 rw[AA,Cc,←BU];exact Bz _ h
theorem MR{roots:List Rq}{dec:List Cd}{c:Cd}{n:Nd}(h:n∈O5 c):n∈Dp roots (dec++[c]):=by
 unfold Dp;rw[AA,Cc,←BU];exact Bp _ (by simpa using h)
def M6(n:Nd):List Tm:=if n.path=mt then [DG n.rq]else [⟨n.path,false,[(n.place,n.place+1)]⟩,DG n.rq]
theorem OP(n:Nd):I4 n=PZ (M6 n):=by unfold I4 M6 JC El;split<;>rfl
theorem bl{s:A9}(h:s≠[])(hc:EJ s):∃k,has s k=true:=by
 match s,h,hc with
 |x::r,_,hc =>
  have:=ER.low hc x (Ab ..)
  refine⟨x.1,?_⟩;unfold has;have h1:BR x.1 x=true:=DJ.2 ⟨BQ _,this.2.1⟩;simp only[BW,h1,Bool.true_or,Bool.and_true,Ag,AE];omega
theorem QZ{q:Rq}{o:Option Sl}(h:o=none∨∃y,o=some y∧CH y.ver=true∧has q.set (place y.ver)=false):Dt (DG q) o=true:=by
 rcases h with rfl | ⟨y,rfl,hv,hq⟩
 ·rfl
 ·show(CH y.ver&&has (En q.set) (place y.ver))=true
  have:=JA hv
  rw[hv,FN,hq];unfold LT;simp[this.1,this.2]
theorem TB{q:Rq}{y:Sl}(hq:has q.set (place y.ver)=true):Dt (DG q) (some y)=false:=by
 show(CH y.ver&&has (En q.set) (place y.ver))=false;rw[FN,hq];simp
structure pY(x:List Rl)(roots:List Rq)(S:List Sl)(n:Nd):Prop where
 inf:∀d,DS x roots d (Tb n)=some (I4 n)
 viol:Bi (I4 n) S=true
 raw:∀S',Gg S'→Bi (I4 n) S'=Bi (M6 n) S'
 form:K5 (I4 n)
 inU:∀U:List ByteArray,(n.path≠mt→n.path∈U)→n.rq.path∈U→Uy U (I4 n)
 path:n.path≠mt→Cv S n.path=true
theorem RA{x:List Rl}{roots:List Rq}(hx:A7 x=0)(hr:Bm roots=0){E:List Cd}(hE:DY x E){n:Nd}(hn:n∈Dp roots E)
  (hv:BC (Am E) n.rq.path=none∨∃y,BC (Am E) n.rq.path=some y∧has n.rq.set (place y.ver)=false):pY x roots (Am E) n:=by
 have hV:=hE.valid hx;have gD:Dt (DG n.rq) (BC (Am E) n.rq.path)=true:=QZ (hv.imp id fun⟨y,h1,h2⟩=>⟨y,h1,hV y (Jp h1),h2⟩)
 -- the raw list is Bi here,and not elsewhere
 have NL:n.rq.set≠[]∧EJ n.rq.set:=by
  rcases KL hn with ⟨k,q,h1,rfl⟩ | ⟨c,hc,k,q,h1,rfl⟩
  ·exact K8 hr q (Ay h1)
  ·exact((CN hx).1 _ (hE.cand c hc).1).set q (Ay h1)
 have Wk:Bi (M6 n) (Am E)=true∧(n.path≠mt→Cv (Am E) n.path=true):=by
  rcases KL hn with ⟨k,q,h1,rfl⟩ | ⟨c,hc,k,q,h1,rfl⟩
  ·refine⟨?_,fun h=>absurd rfl h⟩;unfold M6;rw[AB rfl,BJ];intro u hu;rw[Au.1 hu];exact gD
  ·have Dy:=TE ((CN hx).1 _ (hE.cand c hc).1);refine⟨?_,fun _=>by rw[JT,hE.find hc];rfl⟩;unfold M6;rw[Ar Dy,BJ];intro u hu;rcases AF.1 hu with rfl | hu
   ·show Dt _ (BC (Am E) c.rel.path)=true;rw[hE.find hc];show(CH c.rel.ver&&has [(c.place,c.place+1)] (place c.rel.ver))=true;have FO:=(CN hx).1 _ (hE.cand c hc).1;have hp:=JA FO.val;rw[FO.val,(hE.cand c hc).2.2,FO.plc];unfold has;simp[BR,hp.1,hp.2];omega
   ·rw[Au.1 hu];exact gD
 have wE:∃S',Gg S'∧Bi (M6 n) S'=false:=by
  unfold M6;split
  ·obtain⟨k,hk⟩:=bl NL.1 NL.2;have YF:=Mh hk;refine⟨[⟨n.rq.path,Pk k⟩],fun y hy=>by rw[Au.1 hy];exact E5 YF,?_⟩;rw[AH];intro h
   have:=BJ.1 h (DG n.rq) (Au.2 rfl)
   rw[show(DG n.rq).path=n.rq.path from rfl,show BC [(⟨n.rq.path,Pk k⟩:Sl)] n.rq.path=some ⟨n.rq.path,Pk k⟩ by unfold BC;simp,TB (by rw[show(⟨n.rq.path,Pk k⟩:Sl).ver=Pk k from rfl,Hd];exact hk)]at this;cases this
  ·refine⟨[],fun y hy=>(by cases hy),?_⟩;rw[AH];intro h
   have:=BJ.1 h _ (Ab ..)
   cases this
 obtain⟨Wk,rN⟩:=Wk;have Dy:PZ (M6 n)≠[]:=by
  obtain⟨S',v',n'⟩:=wE;have c1:=Dh (l:=M6 n) hV;have c2:=Dh (l:=M6 n) v';unfold PZ;cases hc:CV (M6 n)with
  |none=>rw[hc,Wk]at c1;cases c1
  |some c =>
   rw[hc,n']at c2;intro e;have e:c=[]:=e;rw[e]at c2;cases c2
 have mr:∀S',Gg S'→Bi (I4 n) S'=Bi (M6 n) S':=fun S' v=>by rw[OP];exact P0 v Dy
 refine⟨fun d=>?_,by rw[mr _ hV];exact Wk,mr,by rw[OP];exact Mq _,fun U h1 h2=>?_,rN⟩
 ·rcases KL hn with ⟨k,q,h1,rfl⟩ | ⟨c,hc,k,q,h1,rfl⟩
  ·show DS x roots d (if(mt:ByteArray)=mt then⟨0,mt,0,(k:Nat),0,0⟩else _)=some (if(mt:ByteArray)=mt then JC q else _);rw[AB rfl,AB rfl];show(if mt=mt∧(0:Int)=0∧(0:Int)=0∧(0:Int)=0 then(Jz roots (k:Nat)).map JC else none)=some (JC q);rw[AB ⟨rfl,rfl,rfl,rfl⟩];unfold Jz;rw[Ar (by omega),A6,h1];rfl
  ·have FO:=(CN hx).1 _ (hE.cand c hc).1;have T3:=TE FO;have wP:O6 x c.rel.path c.place=some c.rel:=by
    unfold O6;cases hf:x.find? fun r=>decide (r.path=c.rel.path)&&decide (plc r.ver=c.place)with
    |none =>
     rw[Ep]at hf;exact absurd (by simp[(hE.cand c hc).2.2]) (hf c.rel (hE.cand c hc).1)
    |some r =>
     have h2:=FG hf;simp only[Ag,AE]at h2;have XM:=CR hf;have wH:=(CN hx).1 r XM;rw[bi (CN hx) XM (hE.cand c hc).1 h2.1 (by rw[←wH.plc,h2.2,(hE.cand c hc).2.2,FO.plc])]
   have e1:Tb ⟨q,c.rel.path,c.place,(k:Nat)⟩=⟨1,c.rel.path,c.place,(k:Nat),0,0⟩:=by unfold Tb;rw[Ar T3]
   have e2:I4 ⟨q,c.rel.path,c.place,(k:Nat)⟩=El c.rel.path c.place q:=by unfold I4;rw[Ar T3]
   rw[e1,e2];unfold DS;rw[Ar (show ¬((1:Int)=0) by decide),AB rfl,AB ⟨rfl,rfl⟩];dsimp only;rw[wP];dsimp only;unfold Jz;rw[Ar (by omega),A6,h1];dsimp only;unfold cQ;rw[Ar];rw[F0,←e2,OP];exact Dy
 ·rw[OP];refine TA fun u hu=>?_;unfold M6 at hu;split at hu
  ·rw[Au.1 hu];exact h2
  ·rename_i hm;rcases AF.1 hu with rfl | hu
   ·exact h1 hm
   ·rw[Au.1 hu];exact h2
structure jN(D:List Sl)(U:List ByteArray)(p:ByteArray)(t:List Tm)(C:Int→Prop):Prop where
 form:K5 t
 inU:Uy U t
 conc:Cy t p=true
 one:∃S,WU D p S∧Bi t S=true
 cov:∀k:Int,0≤k→k<1000000→C k→Bi t (Ki D p (Pk k))=true
structure mK(D:List Sl)(U:List ByteArray)(p:ByteArray)(t:List Tm)(C:Int→Prop):Prop where
 form:K5 t
 inU:Uy U t
 none_:Bi t D=true
 cov:∀k:Int,0≤k→k<1000000→C k→Bi t (Ki D p (Pk k))=true
theorem FC.forms{x:List Rl}{roots:List Rq}{s:SS}(h:FC x roots s):∀k,K5 (DC s k):=fun k=>by
 unfold DC;rw[B7];cases e:s.drv[k]? with
 |none=>exact OH
 |some t=>exact Nc (fun _ h=>by cases h) h.der t (Ay e)
theorem U5{x:List Rl}{roots:List Rq}{d:List (List Tm)}{k r:Nat}{p:ByteArray}(hk:k<d.length)(hr:r<d.length)(h0:(BE (d.getD k []) (d.getD r []) p).2=0) :
  DS x roots d ⟨3,p,0,0,(k:Nat),(r:Nat)⟩=some (BE (d.getD k []) (d.getD r []) p).1:=by
 have e:∀j:Nat,j<d.length→Jz d (j:Nat)=some (d.getD j []):=fun j hj=>by
  unfold Jz;rw[Ar (by omega),A6,B7,AD hj];rfl
 unfold DS;rw[Ar (show ¬((3:Int)=0) by decide),Ar (show ¬((3:Int)=1) by decide),Ar (show ¬((3:Int)=2) by decide),AB rfl,AB ⟨rfl,rfl⟩];dsimp only;rw[e k hk,e r hr];dsimp only;rw[AB h0]
theorem NO{x:List Rl}{roots:List Rq}{D:List Sl}{U:List ByteArray}{p:ByteArray}(hD:Gg D):∀(l:List (Nat×(Int→Prop))) {k:Nat} {s:SS} {C:Int→Prop},FC x roots s→k<s.drv.length→(∀y∈l,y.1<s.drv.length) →
  (s.full=false→mK D U p (DC s k) C∧∀y∈l,jN D U p (DC s y.1) y.2) →
  FC x roots (Cp p (l.map (·.1)) k s).2∧Grow s (Cp p (l.map (·.1)) k s).2∧(Cp p (l.map (·.1)) k s).1<(Cp p (l.map (·.1)) k s).2.drv.length ∧
  ((Cp p (l.map (·.1)) k s).2.full=false→∃C',mK D U p (DC (Cp p (l.map (·.1)) k s).2 (Cp p (l.map (·.1)) k s).1) C' ∧
   (Cy (DC (Cp p (l.map (·.1)) k s).2 (Cp p (l.map (·.1)) k s).1) p=false∨∀j,C j∨(∃y∈l,y.2 j)→C' j))
 | [],k,s,C,hd,hk,_,hA=>⟨hd,.refl s,hk,fun hf=>⟨C,(hA hf).1,.inr fun j hj=>hj.elim id fun⟨y,hy,_⟩=>(by cases hy)⟩⟩
 |y::l,k,s,C,hd,hk,hl,hA=>by
  rw[AN]
  by_cases h1:s.full=true∨Cy (DC s k) p=false
  ·have e:Cp p (y.1::l.map (·.1)) k s=(k,s):=by unfold Cp;rw[AB h1]
   rw[e];refine⟨hd,.refl s,hk,fun hf=>⟨C,(hA hf).1,.inl (h1.resolve_left fun e=>?_)⟩⟩;have hf:s.full=false:=hf;rw[e]at hf;cases hf
  simp only[not_or,Bool.not_eq_true,Bool.not_eq_false]at h1;obtain⟨hf,N7⟩:=h1;obtain⟨cf,vz⟩:=hA hf;have hy:=vz y (Ab ..);have hi:¬(s.full=true∨Cy (DC s k) p=false):=by rw[hf,N7];simp
  by_cases h2:y.1=k
  ·have e:Cp p (y.1::l.map (·.1)) k s=Cp p (l.map (·.1)) k s:=by conv=>lhs;unfold Cp;rw[Ar hi,AB h2]
   rw[e];have hA' : mK D U p (DC s k) fun j=>C j∨y.2 j:=⟨cf.form,cf.inU,cf.none_,fun j j0 j1 hj=>hj.elim (cf.cov j j0 j1) fun h=>by rw[←h2];exact hy.cov j j0 j1 h⟩;obtain⟨i1,i2,i3,i4⟩:=NO hD l hd hk (fun z hz=>hl z (Ai _ hz)) (fun _=>⟨hA',fun z hz=>vz z (Ai _ hz)⟩);refine⟨i1,i2,i3,fun hf=>?_⟩;obtain⟨C',j1,j2⟩:=i4 hf;refine⟨C',j1,j2.imp id fun h j hj=>h j ?_⟩;rcases hj with hj | ⟨z,hz,hj⟩
   ·exact .inl (.inl hj)
   ·rcases AF.1 hz with rfl | hz
    ·exact .inl (.inr hj)
    ·exact .inr ⟨z,hz,hj⟩
  ·obtain⟨S2,o2,v2⟩:=hy.one;obtain⟨r1,r2⟩:=WE cf.form hy.form N7 hy.conc (.self hD) cf.none_ o2 v2;have e:Cp p (y.1::l.map (·.1)) k s=Cp p (l.map (·.1)) (Eh s ⟨3,p,0,0,k,y.1⟩ (BE (DC s k) (DC s y.1) p).1).1 (Eh s ⟨3,p,0,0,k,y.1⟩ (BE (DC s k) (DC s y.1) p).1).2:=by
    conv=>lhs;unfold Cp;rw[Ar hi,Ar h2,Ar (fun h=>h r1)]
   rw[e];have hy1:=hl y (Ab ..);obtain⟨a1,a2,a3⟩:=Ku hd (U5 (x:=x) (roots:=roots) hk hy1 r1);have hg:=Kv s ⟨3,p,0,0,(k:Nat),(y.1:Nat)⟩ (BE (DC s k) (DC s y.1) p).1;generalize T4 : Eh s ⟨3,p,0,0,(k:Nat),(y.1:Nat)⟩ (BE (DC s k) (DC s y.1) p).1=s' at *
   have a3:s'.2.full=false→DC s'.2 s'.1=(BE (DC s k) (DC s y.1) p).1:=a3;obtain⟨i1,i2,i3,i4⟩:=NO hD (C:=fun j=>C j∨y.2 j) l a1 a2 (fun z hz=>BP (hl z (Ai _ hz)) hg.len) (fun d5=>by
    refine⟨?_,fun z hz=>by rw[hg.at (hl z (Ai _ hz))];exact vz z (Ai _ hz)⟩;rw[a3 d5];exact⟨Nu _ _ _,Rb cf.inU hy.inU,r2 D (.self hD) (.inl cf.none_),fun j j0 j1 hj=>r2 _ (.ver hD (E5 ⟨j0,j1⟩)) (hj.imp (cf.cov j j0 j1) (hy.cov j j0 j1))⟩)
   refine⟨i1,hg.trans i2,i3,fun hf=>?_⟩;obtain⟨C',j1,j2⟩:=i4 hf;refine⟨C',j1,j2.imp id fun h j hj=>h j ?_⟩;rcases hj with hj | ⟨z,hz,hj⟩
   ·exact .inl (.inl hj)
   ·rcases AF.1 hz with rfl | hz
    ·exact .inl (.inr hj)
    ·exact .inr ⟨z,hz,hj⟩
end Go.Eng

namespace Go.Eng
def IN(roots:List Rq)(dec:List Cd):Prop:=∀q∈DD roots dec,∀d∈dec,d.rel.path=q.path→has q.set d.place=true
theorem IN.nil(roots:List Rq):IN roots []:=fun _ _ d h=>by cases h
theorem ZW(roots:List Rq)(dec:List Cd)(c:Cd):DD roots (dec++[c])=DD roots dec++c.rel.reqs:=by
 unfold DD;rw[AA,Cc,BU];simp
theorem lG(c:Cd):(O5 c).map (·.rq)=c.rel.reqs:=RG (fun _ _=>rfl) _ _
theorem Y3{dec:List Cd}{c:Cd}(h:Co dec c=none):∀q∈c.rel.reqs,∀d∈dec++[c],d.rel.path=q.path→has q.set d.place=true:=fun q hq d hd e=>by
 rw[←lG]at hq;obtain⟨n,hn,rfl⟩:=Aq.1 hq;unfold Co at h;rw[Ep]at h
 have:=h n hn
 unfold Tq at this;rw[Bool.not_eq_true,CL]at this
 have:=this d hd
 rw[e]at this;simpa using this
theorem K9{dec:List Cd}{c:Cd}{n:Nd}(h:Co dec c=some n):n∈O5 c∧∃d∈dec++[c],d.rel.path=n.rq.path∧has n.rq.set d.place=false:=by
 unfold Co at h;have h1:=FG h;refine⟨CR h,?_⟩;unfold Tq at h1;rw[A3]at h1;obtain⟨d,hd,e⟩:=h1;simp only[Ag,AE,CX]at e;exact⟨d,hd,e⟩
theorem IN.snoc{roots:List Rq}{dec:List Cd}(h:IN roots dec){p:ByteArray}{needs:List Nd}(hN:jM roots dec p needs){c:Cd}(hc:c.rel.path=p)(hn:∀n∈needs,has n.rq.set c.place=true)(hk:Co dec c=none):IN roots (dec++[c]):=by
 intro q hq d hd e;rw[ZW]at hq;rcases A5.1 hq with hq | hq
 ·rcases A5.1 hd with hd | hd
  ·exact h q hq d hd e
  ·rw[Au.1 hd]at e⊢;rw[←Jf]at hq;obtain⟨n,XI,rfl⟩:=Aq.1 hq;exact hn n ((hN.mem n).2 ⟨XI,by rw[←e,hc]⟩)
 ·exact Y3 hk q hq d hd e
def Ur(y:Sl):List Sl→List Sl
 | []=>[y]
 |z::l=>if EH y.path z.path then y::z::l else z::Ur y l
def Dm:List Sl→List Sl
 | []=>[]
 |y::l=>Ur y (Dm l)
theorem Tc{y z:Sl}:∀{l:List Sl},z∈Ur y l↔z=y∨z∈l
 | []=>by simp[Ur]
 |u::l=>by
  unfold Ur;split
  ·simp
  ·rw[AF,Tc,AF];constructor
   ·rintro(h | h | h)
    ·exact .inr (.inl h)
    ·exact .inl h
    ·exact .inr (.inr h)
   ·rintro(h | h | h)
    ·exact .inr (.inl h)
    ·exact .inl h
    ·exact .inr (.inr h)
theorem Hl{z:Sl}:∀{l:List Sl},z∈Dm l↔z∈l
 | []=>by simp[Dm]
 |u::l=>by unfold Dm;rw[Tc,Hl,AF]
theorem XT{y:Sl}:∀{l:List Sl},Po l→(∀z∈l,z.path≠y.path)→Po (Ur y l)
 | [],_,_=>by simp[Ur,Po]
 |u::l,h,hn=>by
  obtain⟨h1,h2⟩:=Db.1 h;unfold Ur;split
  ·rename_i hb;refine Db.2 ⟨fun z hz=>?_,h⟩;rcases AF.1 hz with rfl | hz
   ·exact hb
   ·exact Ej hb (h1 z hz)
  ·rename_i hb;refine Db.2 ⟨fun z hz=>?_,XT h2 fun z hz=>hn z (Ai _ hz)⟩;rcases Tc.1 hz with rfl | hz
   ·cases e:EH u.path z.path with
    |true=>rfl
    |false =>
     have hb:EH z.path u.path=false:=by simpa using hb
     exact absurd (IV e hb) (hn u (Ab ..))
   ·exact h1 z hz
theorem MX:∀{l:List Sl},(l.map (·.path)).Nodup→Po (Dm l)
 | [],_=>List.Pairwise.nil
 |y::l,h=>by
  simp only[AN,CZ]at h;exact XT (MX h.2) fun z hz e=>h.1 (Aq.2 ⟨z,Hl.1 hz,e⟩)
theorem S0:∀{l:List Sl} {b:Option ByteArray},Po l→(∀c,b=some c→∀y∈l,EH c y.path=true)→SZ b l=true
 | [],_,_,_=>by unfold SZ;rfl
 |y::l,b,h,hb=>by
  obtain⟨h1,h2⟩:=Db.1 h;unfold SZ;cases b with
  |none=>simpa using S0 h2 fun c e z hz=>by cases e;exact h1 z hz
  |some c =>
   have:=hb c rfl y (Ab ..)
   simp only[this,Ef];exact S0 h2 fun c e z hz=>by cases e;exact h1 z hz
theorem om{l:List Sl}(h:Po l):Lk l=true:=S0 h fun _ e=>by cases e
theorem I8{x:List Rl}(hx:A7 x=0){r:Rl}(hr:r∈x):FL x (Fz r)=some r:=by
 unfold FL;rw[Ar (fun h=>h hx)];cases h:x.find? fun s=>decide (Fz s=Fz r)with
 |none =>
  rw[Ep]at h;exact absurd (by simp) (h r hr)
 |some s =>
  have h1:=FG h;simp only[AE]at h1;rw[Tf (CN hx).2 (CR h) hr h1]
theorem DY.sorted{x:List Rl}{dec:List Cd}(h:DY x dec):Po (Dm (Am dec)):=MX (by rw[Jv];exact h.nodup)
theorem DY.findS{x:List Rl}{dec:List Cd}(h:DY x dec){c:Cd}(hc:c∈dec):BC (Dm (Am dec)) c.rel.path=some (M4 c) :=
 Nk h.sorted (y:=M4 c) (Hl.2 (Aq.2 ⟨c,hc,rfl⟩))
theorem gU{x:List Rl}{roots:List Rq}(hx:A7 x=0){dec:List Cd}(h:DY x dec)(hs:IN roots dec)(hl:HJ (DD roots dec) (Am dec)=none):pi x roots (Dm (Am dec)):=by
 have GJ:∀q∈DD roots dec,∃y,BC (Dm (Am dec)) q.path=some y∧has q.set (place y.ver)=true:=fun q hq=>by
  have:=ZG hl q hq
  rw[Li]at this;obtain⟨y,hy,e⟩:=this;obtain⟨d,hd,rfl⟩:=Aq.1 hy;have e:d.rel.path=q.path:=e;refine⟨M4 d,by rw[←e];exact h.findS hd,?_⟩;have h1:=hs q hq d hd e;have FO:=(CN hx).1 _ (h.cand d hd).1;rw[(h.cand d hd).2.2,FO.plc]at h1;exact h1
 refine⟨hx,om h.sorted,fun y hy=>?_,fun q hq=>GJ q (Bz _ hq),fun y hy r hr q hq=>?_⟩
 ·obtain⟨d,hd,rfl⟩:=Aq.1 (Hl.1 hy);exact⟨d.rel,I8 hx (h.cand d hd).1,(h.cand d hd).2.1⟩
 ·obtain⟨d,hd,rfl⟩:=Aq.1 (Hl.1 hy)
  have:FL x (M4 d)=some d.rel:=I8 hx (h.cand d hd).1
  rw[this]at hr;cases hr;exact GJ q (Bp _ (E9.2 ⟨_,Aq.2 ⟨d,hd,rfl⟩,hq⟩))
def Vk(dec:List Cd)(needs:List Nd)(c:Cd):Bool:=(needs.all fun n=>has n.rq.set c.place)&&(Co dec c).isNone
def BS(x:List Rl)(roots:List Rq):Nat→List Cd→List (List Cd)
 |0,_=>[]
 |n+1,dec=>match(EO roots dec).2 with
  | []=>[dec]
  |n0::l=>((BH x (EO roots dec).1).map fun c=>if Vk dec (n0::l) c then BS x roots n (dec++[c])else []).flatten
structure Lf(x:List Rl)(roots:List Rq)(dec d:List Cd):Prop where
 pre:dec <+: d
 ok:DY x d
 sat:IN roots d
 stop:HJ (DD roots d) (Am d)=none
theorem Hw{x:List Rl}{p:ByteArray}{c:Cd}(h:c∈BH x p):c.rel.path=p∧(c.rel∈x∧c.rel.yanked=false∧c.place=plc c.rel.ver):=by
 obtain⟨r,h1,h2,h3,rfl⟩:=G7.1 h;exact⟨h2,h1,h3,rfl⟩
theorem GL{dec:List Cd}{needs:List Nd}{c:Cd}:Vk dec needs c=true↔(∀n∈needs,has n.rq.set c.place=true)∧Co dec c=none:=by
 unfold Vk;rw[Ag,AX,Option.isNone_iff_eq_none]
theorem PR{x:List Rl}{roots:List Rq}:∀{n:Nat} {dec:List Cd},DY x dec→IN roots dec→∀d∈BS x roots n dec,Lf x roots dec d
 |0,_,_,_,d,hd=>by cases hd
 |n+1,dec,h,hs,d,hd=>by
  unfold BS at hd;split at hd
  ·rename_i e;rw[Au.1 hd];exact⟨MZ,h,hs,NW.1 e⟩
  ·rename_i n0 l e;have hN:=Jy e;obtain⟨L,hL,hd⟩:=E9.1 hd;obtain⟨c,hc,rfl⟩:=Aq.1 hL;split at hd
   ·rename_i FO;obtain⟨h1,h2⟩:=GL.1 FO;obtain⟨c1,c2⟩:=Hw hc;have cl:Df dec c.rel.path=false:=by rw[c1];exact hN.undone
    have:=PR (n:=n) (h.snoc c2 cl) (hs.snoc hN c1 h1 h2) d hd
    exact⟨(Oe _ _).trans this.pre,this.ok,this.sat,this.stop⟩
   ·cases hd
theorem Lf.sol{x:List Rl}{roots:List Rq}(hx:A7 x=0){dec d:List Cd}(h:Lf x roots dec d):pi x roots (Dm (Am d)):=gU hx h.ok h.sat h.stop
theorem lm{x:List Rl}{roots:List Rq}(hx:A7 x=0){s:SS}(hd:FC x roots s){k:Nat}(hk:k<s.drv.length){dec d:List Cd}(he:Cz (DC s k) (Am dec)=true)(h:Lf x roots dec d):False:=by
 have hS:=h.sol hx;have hv:=V2 (s:=Dm (Am d)) hS.inc (fun y hy=>Hl.2 (by
  obtain⟨c,hc,rfl⟩:=Aq.1 hy;obtain⟨t,e⟩:=h.pre;exact Aq.2 ⟨c,by rw[←e];exact Bz _ hc,rfl⟩)) he
 have hn:=L8 hS (d:=[]) (fun _ h=>by cases h) hd.der (DC s k) (by
  unfold DC;rw[B7,AD hk];exact Aj hk)
 rw[hv]at hn;cases hn
end Go.Eng

namespace Go.Eng
theorem oo{x:List Rl}(h:A7 x=0):x.length≤256:=by
 unfold A7 at h;split at h
 ·cases h
 ·omega
theorem f7{l:List Rl}{k:Int}:(l.map fun r=>(plc r.ver,plc r.ver+1)).any (BR k)=true↔∃r∈l,plc r.ver=k:=by
 rw[A3];constructor
 ·rintro⟨y,hy,h⟩
  obtain⟨r,hr,rfl⟩:=Aq.1 hy
  have:=DJ.1 h
  exact⟨r,hr,by have h1:=this.1;have h2:=this.2;dsimp only at h1 h2;omega⟩
 ·rintro⟨r,hr,rfl⟩
  exact⟨_,Aq.2 ⟨r,hr,rfl⟩,DJ.2 ⟨BQ _,by dsimp only;omega⟩⟩
theorem UI{x:List Rl}(hx:A7 x=0){p:ByteArray}{k:Int}:has (Ce x p) k=true↔∃c∈BH x p,c.place=k:=by
 unfold Ce;rw[Hh];unfold has Kh;rw[Ar (fun h=>h hx)];simp only[Ag,AE];rw[f7];constructor
 ·rintro⟨_,r,hr,rfl⟩
  simp only[BL,AE,CX]at hr;exact⟨⟨plc r.ver,r⟩,G7.2 ⟨r,hr.1.1,hr.1.2,hr.2,rfl⟩,rfl⟩
 ·rintro⟨c,hc,rfl⟩
  obtain⟨r,h1,h2,h3,rfl⟩:=G7.1 hc;have FO:=(CN hx).1 r h1
  have:=JA FO.val
  rw[←FO.plc]at this;refine⟨⟨this.1,this.2⟩,r,?_,rfl⟩;simp only[BL,AE,CX];exact⟨⟨h1,h2⟩,h3⟩
theorem bq{x:List Rl}(hx:A7 x=0)(p:ByteArray):∃k:Int,0≤k∧k<1000000∧has (Ce x p) k=false:=by
 apply Cs;intro hn;have GJ:∀k∈(List.range 257).map fun i:Nat=>(i:Int),k∈x.map fun r=>plc r.ver:=by
  intro k hk;obtain⟨i,hi,rfl⟩:=Aq.1 hk;have hi:=Oc.1 hi;have hh:has (Ce x p) (i:Int)=true:=by
   cases e:has (Ce x p) (i:Int)with
   |true=>rfl
   |false=>exact absurd ⟨(i:Int),by omega,by omega,e⟩ hn
  obtain⟨c,hc,e⟩:=(UI hx).1 hh;obtain⟨r,h1,_,_,rfl⟩:=G7.1 hc;exact Aq.2 ⟨r,h1,e⟩
 have:=Ij (List.pairwise_map.2 (List.nodup_range.imp fun h e=>h (Int.ofNat.inj e))) GJ
 rw[Bx,Bx,List.length_range]at this
 have:=oo hx
 omega
theorem Ll(dec:List Cd)(c:Cd):Am (dec++[c])=Ki (Am dec) c.rel.path c.rel.ver:=by unfold Am Ki;rw[AA];rfl
theorem MH{t:List Tm}{S:List Sl}:Cz t S=true↔Bi t S=true∧∀u∈t,Cv S u.path=true:=by
 unfold Cz;rw[Ag,CX,CL];simp
section
variable {x:List Rl}{roots:List Rq}{dec:List Cd}{p:ByteArray}{needs:List Nd}
abbrev ZL(p:ByteArray)(dec:List Cd):List ByteArray:=p::(Am dec).map (·.path)
theorem kh{c:Cd}{t:List Tm}(hf:K5 t)(he:Cz t (Am (dec++[c]))=true):Uy (ZL c.rel.path dec) t:=by
 refine⟨EV hf,fun u hu=>?_⟩
 have:=(MH.1 he).2 u hu
 rw[Hg,Ll,AA]at this;rcases A5.1 this with h | h
 ·exact Ai _ h
 ·rw[AN,Fe,Au]at h;rw[h];exact Ab ..
theorem fB(hx:A7 x=0)(hd:DY x dec){c:Cd}(hc:c.rel∈x){t:List Tm}(he:Cz t (Am (dec++[c]))=true)(hn:Cy t c.rel.path=false):Cz t (Am dec)=true:=by
 obtain⟨h1,h2⟩:=MH.1 he;have Dy:=JO hn;rw[Ll]at h1 h2;refine MH.2 ⟨?_,fun u hu=>?_⟩
 ·rw[KY (.self (hd.valid hx)) (.ver (hd.valid hx) ((CN hx).1 _ hc).val) Dy];exact h1
 ·have:=h2 u hu
  rw[SM,CQ]at this;rcases this with h | h
  ·exact h
  ·rw[Li]at h;obtain⟨y,hy,e⟩:=h;rw[Au.1 hy]at e;exact absurd e.symm (Dy u hu)
theorem dE(hx:A7 x=0)(hd:DY x dec){c:Cd}(hc:c.rel∈x∧c.rel.yanked=false∧c.place=plc c.rel.ver)(hu:Df dec c.rel.path=false){t:List Tm}(hf:K5 t)(he:Cz t (Am (dec++[c]))=true)(hn:Cy t c.rel.path=true) :
  jN (Am dec) (ZL c.rel.path dec) c.rel.path t fun k=>k=c.place:=by
 have FO:=(CN hx).1 _ hc.1;have hV:=hd.valid hx;have h1:=(MH.1 he).1;rw[Ll]at h1;refine⟨hf,kh hf he,hn,⟨_,.ver hV FO.val,h1⟩,fun k k0 k1 e=>?_⟩;subst e;rw[aj (by rw[F1];exact hu) (E5 ⟨k0,k1⟩) FO.val (by rw[Hd,hc.2.2,FO.plc])];exact h1
theorem OY(hx:A7 x=0)(hr:Bm roots=0){E:List Cd}(hE:DY x E){n:Nd}(hn:n∈Dp roots E)(hv:∃d∈E,d.rel.path=n.rq.path∧has n.rq.set d.place=false) :
  (∀d,DS x roots d (Tb n)=some (I4 n))∧Cz (I4 n) (Am E)=true∧K5 (I4 n):=by
 obtain⟨d,hd,e,hs⟩:=hv;have FO:=(CN hx).1 _ (hE.cand d hd).1;have hf:=hE.find hd;have hI:=RA hx hr hE hn (.inr ⟨M4 d,by rw[←e];exact hf,by rw[show(M4 d).ver=d.rel.ver from rfl,←FO.plc,←(hE.cand d hd).2.2];exact hs⟩);refine⟨hI.inf,MH.2 ⟨hI.viol,fun u hu=>?_⟩,hI.form⟩
 have:=(hI.inU ((Am E).map (·.path)) (fun h=>Hg.1 (hI.path h)) (Hg.1 (by rw[JT,←e,hf];rfl))).2 u hu
 exact Hg.2 this
theorem cR(hx:A7 x=0)(hr:Bm roots=0)(hd:DY x dec)(hN:jM roots dec p needs){c:Cd}(hc:c∈BH x p){n:Nd}(hn:n∈needs)(hs:has n.rq.set c.place=false):Cy (I4 n) p=true:=by
 obtain⟨c1,c2⟩:=Hw hc;have hu:Df dec c.rel.path=false:=by rw[c1];exact hN.undone
 have hE:=hd.snoc c2 hu;obtain⟨d6,kG⟩:=(hN.mem n).1 hn;have FO:=(CN hx).1 _ c2.1;have hI:=RA hx hr hE (NT d6) (.inr ⟨M4 c,by rw[kG,←c1];exact hE.find (by simp),by rw[show(M4 c).ver=c.rel.ver from rfl,←FO.plc,←c2.2.2];exact hs⟩);cases pt:Cy (I4 n) p with
 |true=>rfl
 |false =>
  exfalso
  have NL:n.rq.set≠[]∧EJ n.rq.set:=by
   rcases KL d6 with ⟨k,q,h1,rfl⟩ | ⟨c,hc,k,q,h1,rfl⟩
   ·exact K8 hr q (Ay h1)
   ·exact((CN hx).1 _ (hd.cand c hc).1).set q (Ay h1)
  obtain⟨k,hk⟩:=bl NL.1 NL.2;have YF:=Mh hk;have hV:=hd.valid hx;have o1:WU (Am dec) p (Ki (Am dec) p (Pk k)):=.ver hV (E5 YF);have o2:WU (Am dec) p (Am (dec++[c])):=by rw[Ll,c1];exact .ver hV FO.val
  have h1:=KY o1 o2 (JO pt);rw[hI.viol,hI.raw _ o1.val,BJ]at h1
  have:=h1 (DG n.rq) (by unfold M6;split<;>simp)
  rw[show(DG n.rq).path=p from kG,Ie (by rw[F1];exact hN.undone),TB (by rw[show(⟨p,Pk k⟩:Sl).ver=Pk k from rfl,Hd];exact hk)]at this;cases this
theorem cI(hx:A7 x=0)(hr:Bm roots=0)(hd:DY x dec)(hN:jM roots dec p needs){n0:Nd}(h0:n0∈needs)(L:List (Nat×Cd))(hL:L.map (·.2)=BH x p){s:SS}(hs:FC x roots s)(Dz:∀y∈L,y.1<s.drv.length)
  (rR:s.full=false→∀y∈L,Cz (DC s y.1) (Am (dec++[y.2]))=true∧Cy (DC s y.1) p=true) :
  FC x roots (D3 x p n0 (L.map (·.1)) s).2∧Grow s (D3 x p n0 (L.map (·.1)) s).2∧(D3 x p n0 (L.map (·.1)) s).1<(D3 x p n0 (L.map (·.1)) s).2.drv.length ∧
  ((D3 x p n0 (L.map (·.1)) s).2.full=false→Cz (DC (D3 x p n0 (L.map (·.1)) s).2 (D3 x p n0 (L.map (·.1)) s).1) (Am dec)=true):=by
 have hV:=hd.valid hx;have pD:Cv (Am dec) p=false:=by rw[F1];exact hN.undone
 obtain⟨aN,wJ⟩:=(hN.mem n0).1 h0;have hI:=RA hx hr hd aN (.inl (by rw[wJ];exact HC pD));unfold D3;obtain⟨a1,a2,a3⟩:=Ku hs (hI.inf s.drv);have ag:=Kv s (Tb n0) (I4 n0);have a3:(Bh s n0).2.full=false→DC (Bh s n0).2 (Bh s n0).1=I4 n0:=a3
 change FC x roots (Bh s n0).2 at a1
 change (Bh s n0).1<(Bh s n0).2.drv.length at a2
 change Grow s (Bh s n0).2 at ag
 generalize Bh s n0=s1 at *
 -- the incompatibility of the places that are not available
 obtain⟨u,u0,u1,hu⟩:=bq hx p;have Wk:∀k:Int,0≤k→k<1000000→has (Ce x p) k=false→Bi [(⟨p,false,En (Ce x p)⟩:Tm)] (Ki (Am dec) p (Pk k))=true:=fun k k0 k1 hk=>by
  rw[BJ];intro t ht;rw[Au.1 ht];show Dt _ (BC (Ki (Am dec) p (Pk k)) p)=true;rw[Ie pD];show(CH (Pk k)&&has (En (Ce x p)) (place (Pk k)))=true;rw[E5 ⟨k0,k1⟩,Hd,FN,hk];unfold LT;simp[k0,k1]
 have mq:Bi [(⟨p,false,En (Ce x p)⟩:Tm)] (Am dec)=false:=by
  rw[AH];intro h
  have:=BJ.1 h _ (Ab ..)
  rw[show(⟨p,false,En (Ce x p)⟩:Tm).path=p from rfl,HC pD]at this;cases this
 have ou:WU (Am dec) p (Ki (Am dec) p (Pk u)):=.ver hV (E5 ⟨u0,u1⟩);have Dy:H1 p (Ce x p)≠[]:=by
  have c1:=Dh (l:=[(⟨p,false,En (Ce x p)⟩:Tm)]) ou.val;have c2:=Dh (l:=[(⟨p,false,En (Ce x p)⟩:Tm)]) hV;rw[Wk u u0 u1 hu]at c1;rw[mq]at c2;unfold H1 PZ;cases hc:CV [(⟨p,false,En (Ce x p)⟩:Tm)]with
  |none=>rw[hc]at c1;cases c1
  |some c =>
   rw[hc]at c2;intro e;have e:c=[]:=e;rw[e]at c2;cases c2
 have LG:∀S,Gg S→Bi (H1 p (Ce x p)) S=Bi [(⟨p,false,En (Ce x p)⟩:Tm)] S:=fun S v=>P0 v Dy;have rj:Cy (H1 p (Ce x p)) p=true:=by
  cases h:Cy (H1 p (Ce x p)) p with
  |true=>rfl
  |false =>
   have:=KY ou (.self hV) (JO h)
   rw[LG _ ou.val,LG _ hV,Wk u u0 u1 hu,mq]at this;cases this
 have nW:DS x roots s1.2.drv ⟨2,p,0,0,0,0⟩=some (H1 p (Ce x p)):=by
  unfold DS;rw[Ar (show ¬((2:Int)=0) by decide),Ar (show ¬((2:Int)=1) by decide),AB rfl,AB ⟨rfl,rfl,rfl,rfl⟩];unfold cQ;rw[Ar (by rw[F0];exact Dy)]
 obtain⟨b1,b2,b3⟩:=Ku a1 nW;have bg:=Kv s1.2 ⟨2,p,0,0,0,0⟩ (H1 p (Ce x p));have b3:(Eo x p s1.2).2.full=false→DC (Eo x p s1.2).2 (Eo x p s1.2).1=H1 p (Ce x p):=b3
 change FC x roots (Eo x p s1.2).2 at b1
 change (Eo x p s1.2).1<(Eo x p s1.2).2.drv.length at b2
 change Grow s1.2 (Eo x p s1.2).2 at bg
 generalize Eo x p s1.2=s2 at *
 have qQ:s2.2.full=false→s1.2.full=false∧s.full=false:=fun h=>by
  have h1:s1.2.full=false:=by
   cases e:s1.2.full with
   |false=>rfl
   |true=>rw[bg.full e]at h;cases h
  refine⟨h1,?_⟩;cases e:s.full with
  |false=>rfl
  |true=>rw[ag.full e]at h1;cases h1
 have main:=NO (D:=Am dec) (U:=ZL p dec) (p:=p) hV ((s2.1,fun k=>has (Ce x p) k=false)::L.map fun y=>(y.1,fun k=>k=y.2.place)) (C:=fun k=>has n0.rq.set k=false) b1 (BP a2 bg.len)
  (fun y hy=>by
   rcases AF.1 hy with rfl | hy
   ·exact b2
   ·obtain⟨z,hz,rfl⟩:=Aq.1 hy;exact BP (Dz z hz) (ag.trans bg).len) (fun hf=>by
   obtain⟨f1,f0⟩:=qQ hf;refine⟨?_,fun y hy=>?_⟩
   ·rw[bg.at a2,a3 f1];refine⟨hI.form,hI.inU _ (fun h=>Ai _ (Hg.1 (hI.path h))) (by rw[wJ];exact Ab ..),hI.viol,fun k k0 k1 hk=>?_⟩;have ok:WU (Am dec) p (Ki (Am dec) p (Pk k)):=.ver hV (E5 ⟨k0,k1⟩);rw[hI.raw _ ok.val,BJ];intro t ht;have Wh:=BJ.1 ((hI.raw _ hV).symm.trans hI.viol) t ht;unfold M6 at ht;have gD:Dt (DG n0.rq) (BC (Ki (Am dec) p (Pk k)) (DG n0.rq).path)=true:=by
     rw[show(DG n0.rq).path=p from wJ,Ie pD];exact QZ (.inr ⟨_,rfl,E5 ⟨k0,k1⟩,by rw[show(⟨p,Pk k⟩:Sl).ver=Pk k from rfl,Hd];exact hk⟩)
    split at ht
    ·rw[Au.1 ht];exact gD
    ·rename_i hm;rcases AF.1 ht with rfl | ht
     ·have Dy:n0.path≠p:=fun e=>by
       have:=hI.path hm
       rw[e,pD]at this;cases this
      rw[show(⟨n0.path,false,[(n0.place,n0.place+1)]⟩:Tm).path=n0.path from rfl]at Wh⊢;rw[ok.same _ Dy];exact Wh
     ·rw[Au.1 ht];exact gD
   ·rcases AF.1 hy with rfl | hy
    ·show jN _ _ p (DC s2.2 s2.1) _;rw[b3 hf];refine⟨Mq _,TA (fun t ht=>by rw[Au.1 ht];exact Ab ..),rj,⟨_,ou,by rw[LG _ ou.val];exact Wk u u0 u1 hu⟩,fun k k0 k1 hk=>?_⟩;rw[LG _ (WU.ver hV (E5 ⟨k0,k1⟩)).val];exact Wk k k0 k1 hk
    ·obtain⟨z,hz,rfl⟩:=Aq.1 hy;show jN _ _ p (DC s2.2 z.1) _;rw[(ag.trans bg).at (Dz z hz)];obtain⟨e1,e2⟩:=rR f0 z hz;have hzc:z.2∈BH x p:=by rw[←hL];exact Aq.2 ⟨z,hz,rfl⟩
     obtain⟨c1,c2⟩:=Hw hzc
     have:=dE hx hd c2 (by rw[c1];exact hN.undone) (hs.forms z.1) e1 (by rw[c1];exact e2)
     rw[c1]at this;exact this)
 have wz:((s2.1,fun k=>has (Ce x p) k=false)::L.map fun y=>(y.1,fun k=>k=y.2.place)).map (·.1)=s2.1::L.map (·.1):=by
  rw[AN,BX];rfl
 rw[wz]at main;obtain⟨m1,m2,m3,m4⟩:=main;refine⟨m1,(ag.trans bg).trans m2,m3,fun hf=>?_⟩;obtain⟨C',q1,q2⟩:=m4 hf;have hnc:Cy (DC (Cp p (s2.1::L.map (·.1)) s1.1 s2.2).2 (Cp p (s2.1::L.map (·.1)) s1.1 s2.2).1) p=false:=by
  rcases q2 with q2 | q2
  ·exact q2
  ·refine ip pD q1.form q1.none_ fun k k0 k1=>q1.cov k k0 k1 (q2 k ?_);cases tt:has n0.rq.set k with
   |false=>exact .inl rfl
   |true =>
    cases ha:has (Ce x p) k with
    |false=>exact .inr ⟨_,Ab ..,ha⟩
    |true =>
     obtain⟨c,hc,e⟩:=(UI hx).1 ha;rw[←hL]at hc;obtain⟨z,hz,rfl⟩:=Aq.1 hc;exact .inr ⟨_,Ai _ (Aq.2 ⟨z,hz,rfl⟩),e.symm⟩
 refine MH.2 ⟨q1.none_,fun t ht=>?_⟩
 have:=q1.inU.2 t ht
 rcases AF.1 this with e | h
 ·exact absurd e (JO hnc t ht)
 ·exact Hg.2 h
end
end Go.Eng

namespace Go.Eng
def G3(s:SS)(b:List Cd)(p:ByteArray)(needs:List Nd):List Cd→List Sk→Prop
 | [],sk=>sk=[]
 |c::cs,sk=>if(needs.all fun n=>has n.rq.set c.place)=true then ∃(k:Nat) (rest:List Sk),sk=⟨p,c.place,k⟩::rest∧(k<s.drv.length∧Cz (DC s k) (Am (b++[c]))=true)∧G3 s b p needs cs rest
  else G3 s b p needs cs sk
section
variable {s s' : SS}{b:List Cd}{p:ByteArray}{needs:List Nd}
theorem G3.out{c:Cd}(hc:¬(needs.all fun n=>has n.rq.set c.place)=true):∀{cs:List Cd} {sk:List Sk},G3 s b p needs cs sk→G3 s b p needs (cs++[c]) sk
 | [],sk,h=>by
  show(if _ then _ else _);rw[Ar hc];exact h
 |d::cs,sk,h=>by
  have h:if(needs.all fun n=>has n.rq.set d.place)=true then _ else _:=h
  show(if _ then _ else _)
  by_cases hd:(needs.all fun n=>has n.rq.set d.place)=true
  ·rw[AB hd]at h⊢;obtain⟨k,rest,h1,h2,h3⟩:=h;exact⟨k,rest,h1,h2,G3.out hc h3⟩
  ·rw[Ar hd]at h⊢;exact G3.out hc h
theorem G3.add{c:Cd}(hc:(needs.all fun n=>has n.rq.set c.place)=true){k:Nat}(hk:k<s.drv.length∧Cz (DC s k) (Am (b++[c]))=true):∀{cs:List Cd} {sk:List Sk},G3 s b p needs cs sk→G3 s b p needs (cs++[c]) (sk++[⟨p,c.place,k⟩])
 | [],sk,h=>by
  have h:sk=[]:=h;subst h;show(if _ then _ else _);rw[AB hc];exact⟨k,[],rfl,hk,rfl⟩
 |d::cs,sk,h=>by
  have h:if(needs.all fun n=>has n.rq.set d.place)=true then _ else _:=h
  show(if _ then _ else _)
  by_cases hd:(needs.all fun n=>has n.rq.set d.place)=true
  ·rw[AB hd]at h⊢;obtain⟨j,rest,rfl,h2,h3⟩:=h;exact⟨j,_,rfl,h2,G3.add hc hk h3⟩
  ·rw[Ar hd]at h⊢;exact G3.add hc hk h
theorem G3.mono(hg:Grow s s'):∀{cs:List Cd} {sk:List Sk},G3 s b p needs cs sk→G3 s' b p needs cs sk
 | [],_,h=>h
 |d::cs,sk,h=>by
  have h:if(needs.all fun n=>has n.rq.set d.place)=true then _ else _:=h
  show(if _ then _ else _)
  by_cases hd:(needs.all fun n=>has n.rq.set d.place)=true
  ·rw[AB hd]at h⊢;obtain⟨j,rest,rfl,h2,h3⟩:=h;exact⟨j,rest,rfl,⟨BP h2.1 hg.len,by rw[hg.at h2.1];exact h2.2⟩,h3.mono hg⟩
  ·rw[Ar hd]at h⊢;exact h.mono hg
end
structure mO(x:List Rl)(roots:List Rq)(s:SS)(b:List Cd)(c:Cd)(sk:List Sk)(p:ByteArray)(needs:List Nd)(pre post:List Cd):Prop where
 next:jM roots b p needs
 cands:BH x p=pre++c::post
 fit:∀n∈needs,has n.rq.set c.place=true
 noclash:Co b c=none
 skips:G3 s b p needs pre sk
def RR(x:List Rl)(roots:List Rq)(s:SS):List Cd→List Cd→List (List Sk)→Prop
 |b,[],[]=>HJ (DD roots b) (Am b)=none
 |b,c::t,sk::st=>(∃p needs pre post,mO x roots s b c sk p needs pre post)∧RR x roots s (b++[c]) t st
 |_,_,_=>False
structure VO(x:List Rl)(roots:List Rq)(ls:List (List Cd))(dec:List Cd)(s:SS)(st:List (List Sk))(o:J7):Prop where
 der:FC x roots o.ss
 grow:Grow s o.ss
 no:o.found=false→o.dec=dec∧o.stack=st∧(o.ss.full=false→o.res<o.ss.drv.length∧Cz (DC o.ss o.res) (Am dec)=true)
 yes:o.found=true→o.ss.full=false∧∃t sl,o.dec=dec++t∧o.stack=st++sl∧RR x roots o.ss dec t sl∧ls.head?=some o.dec
section
variable {rec:List Cd→SS→List (List Sk)→J7}{x:List Rl}{roots:List Rq}{p:ByteArray}{needs:List Nd}{n0:Nd}{dec:List Cd}{st:List (List Sk)}
def JN(rec:List Cd→SS→List (List Sk)→J7)(x:List Rl)(p:ByteArray)(needs:List Nd)(n0:Nd)(dec:List Cd)(st:List (List Sk))(c:Cd)(cs:List Cd)(F2:List Nat)(skips:List Sk)(k:Nat)(s:SS):J7 :=
 if Cy (DC s k) p=false then⟨k,false,s,dec,st⟩else D1 rec x p needs n0 dec st cs s (F2++[k]) (skips++[⟨p,c.place,k⟩])
theorem Gv(c:Cd)(cs:List Cd)(s:SS)(F2:List Nat)(skips:List Sk):D1 rec x p needs n0 dec st (c::cs) s F2 skips =
  if s.full=true then⟨0,false,s,dec,st⟩
  else match needs.find? fun n=>!has n.rq.set c.place with
   |some n=>D1 rec x p needs n0 dec st cs (Bh s n).2 (F2++[(Bh s n).1]) skips
   |none=>match Ox s.drv (Am (dec++[c]))with
    |some k=>JN rec x p needs n0 dec st c cs F2 skips k s
    |none=>match Co dec c with
     |some n=>JN rec x p needs n0 dec st c cs F2 skips (Bh s n).1 (Bh s n).2
     |none=>if(rec (dec++[c]) s (st++[skips])).found=true then⟨0,true,(rec (dec++[c]) s (st++[skips])).ss,(rec (dec++[c]) s (st++[skips])).dec,(rec (dec++[c]) s (st++[skips])).stack⟩
      else if(rec (dec++[c]) s (st++[skips])).ss.full=true then⟨0,false,(rec (dec++[c]) s (st++[skips])).ss,dec,st⟩
      else JN rec x p needs n0 dec st c cs F2 skips (rec (dec++[c]) s (st++[skips])).res (rec (dec++[c]) s (st++[skips])).ss:=rfl
theorem aP{s:SS}(hs:FC x roots s){n:Nd}(h:∀d,DS x roots d (Tb n)=some (I4 n)):FC x roots (Bh s n).2∧(Bh s n).1<(Bh s n).2.drv.length∧((Bh s n).2.full=false→DC (Bh s n).2 (Bh s n).1=I4 n)∧Grow s (Bh s n).2:=by
 obtain⟨a1,a2,a3⟩:=Ku hs (h s.drv);exact⟨a1,a2,a3,Kv _ _ _⟩
theorem VO.grown{ls:List (List Cd)}{s s' : SS}{o:J7}(hg:Grow s s')(h:VO x roots ls dec s' st o):VO x roots ls dec s st o:=⟨h.der,hg.trans h.grow,h.no,h.yes⟩
theorem UL(hx:A7 x=0)(hr:Bm roots=0)(hd:DY x dec)(cr:IN roots dec)(hN:jM roots dec p needs)(h0:n0∈needs){lv:List Cd→List (List Cd)}(Jc:∀c∈BH x p,Vk dec needs c=true→∀d∈lv (dec++[c]),Lf x roots (dec++[c]) d)
  (Um:∀c∈BH x p,Vk dec needs c=true→∀s st,FC x roots s→s.full=false→VO x roots (lv (dec++[c])) (dec++[c]) s st (rec (dec++[c]) s st)) :
  ∀(cs:List Cd) {s:SS} (L:List (Nat×Cd)) {skips:List Sk},L.map (·.2)++cs=BH x p→FC x roots s→(∀y∈L,y.1<s.drv.length)→(s.full=false→(∀y∈L,Cz (DC s y.1) (Am (dec++[y.2]))=true∧Cy (DC s y.1) p=true)∧G3 s dec p needs (L.map (·.2)) skips) →
   VO x roots (((BH x p).map fun c=>if Vk dec needs c then lv (dec++[c])else []).flatten) dec s st (D1 rec x p needs n0 dec st cs s (L.map (·.1)) skips)
 | [],s,L,skips,hL,hs,Dz,rR=>by
  rw[CY]at hL;obtain⟨l1,l2,l3,l4⟩:=cI hx hr hd hN h0 L hL hs Dz (fun hf=>(rR hf).1);exact⟨l1,l2,fun _=>⟨rfl,rfl,fun hf=>⟨l3,l4 hf⟩⟩,fun h=>(by cases h)⟩
 |c::cs,s,L,skips,hL,hs,Dz,rR=>by
  rw[Gv]
  by_cases hf:s.full=true
  ·rw[AB hf];exact⟨hs,.refl s,fun _=>⟨rfl,rfl,fun h=>by rw[show(⟨0,false,s,dec,st⟩:J7).ss=s from rfl,hf]at h;cases h⟩,fun h=>(by cases h)⟩
  rw[Ar hf];have hf:s.full=false:=by simpa using hf
  obtain⟨rS,oa⟩:=rR hf;have hc:c∈BH x p:=by rw[←hL];simp
  obtain⟨c1,c2⟩:=Hw hc;have hu:Df dec c.rel.path=false:=by rw[c1];exact hN.undone
  have hE:=hd.snoc c2 hu
  -- on to the next candidate
  have go:∀(s' : SS) (k:Nat) (WH : List Sk),FC x roots s'→Grow s s'→k<s'.drv.length→(s'.full=false→(Cz (DC s' k) (Am (dec++[c]))=true∧Cy (DC s' k) p=true)∧G3 s' dec p needs (L.map (·.2)++[c]) WH) →
    VO x roots (((BH x p).map fun c=>if Vk dec needs c then lv (dec++[c])else []).flatten) dec s st (D1 rec x p needs n0 dec st cs s' (L.map (·.1)++[k]) WH):=fun s' k WH T4 hg hk Dy=>by
   have:=UL hx hr hd cr hN h0 Jc Um cs (s:=s') (L++[(k,c)]) (skips:=WH) (by rw[AA,BU];exact hL) T4
    (fun y hy=>by
     rcases A5.1 hy with hy | hy
     ·exact BP (Dz y hy) hg.len
     ·rw[Au.1 hy];exact hk)
    (fun d5=>by
     obtain⟨e1,e2⟩:=Dy d5;refine⟨fun y hy=>?_,by rw[AA];exact e2⟩;rcases A5.1 hy with hy | hy
     ·rw[hg.at (Dz y hy)];exact rS y hy
     ·rw[Au.1 hy];exact e1)
   rw[AA]at this;exact this.grown hg
  cases nR:needs.find? fun n=>!has n.rq.set c.place with
  |some n =>
   dsimp only;have d6:=CR nR;have kG:=FG nR;have kG:has n.rq.set c.place=false:=by simpa using kG
   obtain⟨hn3,hn4⟩:=(hN.mem n).1 d6;obtain⟨e1,e2,e3⟩:=OY hx hr hE (NT hn3) ⟨c,by simp,by rw[c1,hn4],kG⟩;obtain⟨i1,i2,i3,i4⟩:=aP hs e1;refine go _ _ _ i1 i4 i2 fun d5=>?_;rw[i3 d5];exact⟨⟨e2,cR hx hr hd hN hc d6 kG⟩,G3.out (by
    intro h;rw[AX]at h;rw[h n d6]at kG;cases kG) (oa.mono i4)⟩
  |none =>
   dsimp only;have Zk:∀n∈needs,has n.rq.set c.place=true:=fun n hn=>by
    rw[Ep]at nR;simpa using nR n hn
   have GJ:(needs.all fun n=>has n.rq.set c.place)=true:=by rw[AX];exact Zk
   have mQ:∀(s' : SS) (k:Nat),FC x roots s'→Grow s s'→k<s'.drv.length→(s'.full=false→Cz (DC s' k) (Am (dec++[c]))=true) →
     VO x roots (((BH x p).map fun c=>if Vk dec needs c then lv (dec++[c])else []).flatten) dec s st (JN rec x p needs n0 dec st c cs (L.map (·.1)) skips k s'):=fun s' k T4 hg hk he=>by
    unfold JN;cases pt:Cy (DC s' k) p with
    |false =>
     rw[AB rfl];exact⟨T4,hg,fun _=>⟨rfl,rfl,fun d5=>⟨hk,fB hx hd c2.1 (he d5) (by rw[c1];exact pt)⟩⟩,fun h=>(by cases h)⟩
    |true =>
     rw[Ar (by decide)];exact go _ _ _ T4 hg hk fun d5=>⟨⟨he d5,pt⟩,G3.add GJ ⟨hk,he d5⟩ (oa.mono hg)⟩
   cases hen:Ox s.drv (Am (dec++[c]))with
   |some k =>
    dsimp only;obtain⟨k1,k2⟩:=KC hen;exact mQ s k hs (.refl s) k1 fun _=>k2
   |none =>
    dsimp only;cases hcl:Co dec c with
    |some n =>
     dsimp only;obtain⟨m1,m2⟩:=K9 hcl;obtain⟨e1,e2,e3⟩:=OY hx hr hE (MR m1) m2;obtain⟨i1,i2,i3,i4⟩:=aP hs e1;exact mQ _ _ i1 i4 i2 fun d5=>by rw[i3 d5];exact e2
    |none =>
     dsimp only;have FO:Vk dec needs c=true:=GL.2 ⟨Zk,hcl⟩;have hR:=Um c hc FO s (st++[skips]) hs hf;generalize rec (dec++[c]) s (st++[skips])=o at hR
     by_cases gp:o.found=true
     ·rw[AB gp];obtain⟨y1,t,sl,y2,y3,y4,y5⟩:=hR.yes gp;refine⟨hR.der,hR.grow,fun h=>(by cases h),fun _=>⟨y1,c::t,skips::sl,by show o.dec=_;rw[y2];simp,by show o.stack=_;rw[y3];simp,⟨⟨p,needs,L.map (·.2),cs,hN,hL.symm,Zk,hcl,oa.mono hR.grow⟩,y4⟩,?_⟩⟩;show _=some o.dec;rw[←hL,AA,Cc,AN,Bq];have wC:((L.map (·.2)).map fun c=>if Vk dec needs c then lv (dec++[c])else []).flatten=[]:=by
       rw[List.flatten_eq_nil_iff];intro l hl;obtain⟨d,jx,rfl⟩:=Aq.1 hl;obtain⟨y,hy,rfl⟩:=Aq.1 jx;split
       ·rename_i hoy;have hyc:y.2∈BH x p:=by rw[←hL];exact Bz _ jx
        refine LL.2 fun d wh=>lm hx hs (Dz y hy) (rS y hy).1 (Jc y.2 hyc hoy d wh)
       ·rfl
      rw[wC,EU,AB FO,List.head?_append,y5];rfl
     ·rw[Ar gp];have gp:o.found=false:=by simpa using gp
      obtain⟨n1,n2,n3⟩:=hR.no gp
      by_cases nS:o.ss.full=true
      ·rw[AB nS];exact⟨hR.der,hR.grow,fun _=>⟨rfl,rfl,fun h=>by rw[show(⟨0,false,o.ss,dec,st⟩:J7).ss=o.ss from rfl,nS]at h;cases h⟩,fun h=>(by cases h)⟩
      ·rw[Ar nS];have nS:o.ss.full=false:=by simpa using nS
       exact mQ _ _ hR.der hR.grow (n3 nS).1 fun _=>(n3 nS).2
end
theorem Lg{x:List Rl}{dec:List Cd}{c:Cd}(h:c.rel∈x∧c.rel.yanked=false)(hu:Df dec c.rel.path=false):KE x (dec++[c])<KE x dec:=by
 have key:∀l:List Rl,(l.filter fun r=>!r.yanked&&!Df (dec++[c]) r.path).length≤(l.filter fun r=>!r.yanked&&!Df dec r.path).length ∧
   (c.rel∈l→(l.filter fun r=>!r.yanked&&!Df (dec++[c]) r.path).length<(l.filter fun r=>!r.yanked&&!Df dec r.path).length):=by
  intro l
  induction l with
  |nil=>exact⟨Ao _,fun h=>(by cases h)⟩
  |cons r l ih =>
   have gG:(!r.yanked&&!Df (dec++[c]) r.path)=true→(!r.yanked&&!Df dec r.path)=true:=fun e=>by
    simp only[Ag,CX]at e⊢;refine⟨e.1,?_⟩
    have:=e.2
    unfold Df at this⊢;rw[Hu,Bool.or_eq_false_iff]at this;exact this.1
   rw[Et,Et];refine⟨?_,fun hm=>?_⟩
   ·by_cases e:(!r.yanked&&!Df (dec++[c]) r.path)=true
    ·rw[AB e,AB (gG e)];simp;exact ih.1
    ·rw[Ar e];split
     ·simp;have:=ih.1;omega
     ·exact ih.1
   ·rcases AF.1 hm with rfl | hm
    ·have e1:¬(!c.rel.yanked&&!Df (dec++[c]) c.rel.path)=true:=by
      have:Df (dec++[c]) c.rel.path=true:=by unfold Df;simp
      rw[this];simp
     have e2:(!c.rel.yanked&&!Df dec c.rel.path)=true:=by rw[h.2,hu];rfl
     rw[Ar e1,AB e2];simp;have:=ih.1;omega
    ·have:=ih.2 hm
     by_cases e:(!r.yanked&&!Df (dec++[c]) r.path)=true
     ·rw[AB e,AB (gG e)];simp;exact this
     ·rw[Ar e];split
      ·simp;omega
      ·exact this
 exact(key x).2 h.1
theorem Qk{x:List Rl}{roots:List Rq}(hx:A7 x=0)(hr:Bm roots=0):∀(n:Nat) {dec:List Cd} {s:SS} {st:List (List Sk)},DY x dec→IN roots dec→FC x roots s→s.full=false→KE x dec<n →
  VO x roots (BS x roots n dec) dec s st (Dk x roots n dec s st)
 |0,_,_,_,_,_,_,_,h=>by omega
 |n+1,dec,s,st,hd,cr,hs,hf,hn=>by
  unfold Dk BS;cases e:(EO roots dec).2 with
  |nil =>
   exact⟨hs,.refl s,fun h=>(by cases h),fun _=>⟨hf,[],[],by simp,by simp,NW.1 e,rfl⟩⟩
  |cons n0 l =>
   have hN:=Jy e;have next:∀c∈BH x (EO roots dec).1,Vk dec (n0::l) c=true→DY x (dec++[c])∧IN roots (dec++[c])∧KE x (dec++[c])<n:=fun c hc FO=>by
    obtain⟨c1,c2⟩:=Hw hc;have hu:Df dec c.rel.path=false:=by rw[c1];exact hN.undone
    obtain⟨k1,k2⟩:=GL.1 FO;exact⟨hd.snoc c2 hu,cr.snoc hN c1 k1 k2,by have:=Lg (dec:=dec) ⟨c2.1,c2.2.1⟩ hu;omega⟩
   exact UL hx hr hd cr hN (Ab ..) (lv:=BS x roots n) (fun c hc FO d jx=>PR (next c hc FO).1 (next c hc FO).2.1 d jx)
    (fun c hc FO s st hs hf=>Qk hx hr n (next c hc FO).1 (next c hc FO).2.1 hs hf (next c hc FO).2.2) _ [] rfl hs (fun y hy=>by cases hy) (fun _=>⟨fun y hy=>(by cases hy),rfl⟩)
theorem fM(x:List Rl)(dec:List Cd):KE x dec≤x.length:=By _ _
theorem dI{x:List Rl}{roots:List Rq}(hx:A7 x=0)(hr:Bm roots=0):VO x roots (BS x roots (x.length+1) []) [] J4 [] (FP x roots) :=
 Qk hx hr _ (.nil x) (.nil roots) (.nil x roots) rfl (by have:=fM x [];omega)
end Go.Eng
