/- Lemmas for the claims of this seat, without a condition: part 3 (Q3, Q4, Q5, Q6, Q7, P13, P14). -/
import Derived.Test.YtkmnnpmneamgoaaGreatDoorA02
namespace Go.Eng
theorem LN:∀{l:List Rq} {b:Option ByteArray},FW b l=0→∀q∈l,q.set≠[]∧Ey q.set
 | [],_,_,q,hq=>by cases hq
 |r::l,b,h,q,hq=>by
  unfold FW at h;split at h
  ·rename_i e;rcases AF.1 hq with rfl | hq
   ·unfold GN at e
    by_cases h1:(CI q.path).isNone=true
    ·rw[Aw h1]at e;exact absurd e (by decide)
    rw[Am h1]at e;cases hE:q.set.isEmpty with
    |true=>rw[hE]at e;simp at e
    |false =>
     cases hD:decide (q.set=canon q.set)with
     |false=>rw[hD]at e;simp at e
     |true =>
      have h3:q.set=canon q.set:=CB hD;exact⟨by simpa using hE,by rw[h3];exact Ci _⟩
   ·exact LN h q hq
  ·rename_i e;exact absurd h e
theorem KV{l:List Rq}(h:BE l=0):∀q∈l,q.set≠[]∧Ey q.set:=by
 unfold BE at h;split at h
 ·cases h
 ·exact LN h
abbrev O1(k:Int):Ver:=⟨0,k / 1000,k % 1000⟩
theorem G6(k:Int):place (O1 k)=k:=by unfold place;show 1000*(k / 1000)+k % 1000=k;omega
theorem EX{k:Int}(h:0≤k∧k<1000000):CL (O1 k)=true:=by
 unfold CL okPart;simp only[Af];exact⟨⟨AE (by omega),AE (by omega)⟩,AE (by omega)⟩
structure Wr(D:List Sl)(p:ByteArray)(S:List Sl):Prop where
 val:Gc S
 same:∀q,q≠p→BV S q=BV D q
abbrev J7(D:List Sl)(p:ByteArray)(v:Ver):List Sl:=D++[⟨p,v⟩]
theorem JZ(a b:List Sl)(p:ByteArray):BV (a++b) p=(BV a p).or (BV b p):=by
 unfold BV;rw[List.find?_append]
theorem Ht{s:List Sl}{p:ByteArray}(h:Co s p=false):BV s p=none:=by
 rw[JJ]at h;cases e:BV s p with
 |none=>rfl
 |some y=>rw[e]at h;cases h
theorem Wr.self{D:List Sl}{p:ByteArray}(h:Gc D):Wr D p D:=⟨h,fun _ _=>rfl⟩
theorem Wr.ver{D:List Sl}{p:ByteArray}(h:Gc D){v:Ver}(hv:CL v=true):Wr D p (J7 D p v):=by
 refine⟨fun y hy=>?_,fun q hq=>?_⟩
 ·rcases A2.1 hy with hy | hy
  ·exact h y hy
  ·rw[Ai.1 hy];exact hv
 ·rw[JZ]
  have:BV [(⟨p,v⟩:Sl)] q=none:=by unfold BV;simp[Ne.symm hq]
  rw[this,Option.or_none]
theorem HZ{D:List Sl}{p:ByteArray}(hp:Co D p=false)(v:Ver):BV (J7 D p v) p=some ⟨p,v⟩:=by
 rw[JZ,Ht hp];unfold BV;simp
theorem Qt{D:List Sl}{p:ByteArray}(hp:Co D p=false){v v' : Ver}(hv:CL v=true)(si : CL v'=true)(e:place v=place v')(q:ByteArray)(t:Tm) :
  Df t (BV (J7 D p v) q)=Df t (BV (J7 D p v') q):=by
 by_cases hq:q=p
 ·subst hq;rw[HZ hp,HZ hp];show(CL v&&has t.set (place v))=(CL v'&&has t.set (place v'));rw[hv,si,e]
 ·have h1:∀w:Ver,BV (J7 D p w) q=BV D q:=fun w=>by
   rw[JZ]
   have:BV [(⟨p,w⟩:Sl)] q=none:=by unfold BV;simp[Ne.symm hq]
   rw[this,Option.or_none]
  rw[h1,h1]
theorem Zx{D:List Sl}{p:ByteArray}(hp:Co D p=false){v v' : Ver}(hv:CL v=true)(si : CL v'=true)(e:place v=place v')(t:List Tm):Bg t (J7 D p v)=Bg t (J7 D p v'):=by
 rw[BX,BG,BG];exact⟨fun h u hu=>by rw[←Qt hp hv si e];exact h u hu,fun h u hu=>by rw[Qt hp hv si e];exact h u hu⟩
theorem KM{D S S' : List Sl}{p:ByteArray}(h:Wr D p S)(h' : Wr D p S'){t:List Tm}(ht:∀u∈t,u.path≠p):Bg t S=Bg t S':=by
 rw[BX,BG,BG];exact⟨fun k u hu=>by rw[h'.same _ (ht u hu),←h.same _ (ht u hu)];exact k u hu,fun k u hu=>by rw[h.same _ (ht u hu),←h'.same _ (ht u hu)];exact k u hu⟩
theorem JD{t:List Tm}{p:ByteArray}(h:Cq t p=false):∀u∈t,u.path≠p:=fun u hu e=>by
 unfold Cq at h;rw[Fy]at h;exact h u hu (by simpa using e)
theorem Sa{t:List Tm}{p:ByteArray}(h:Cq t p=true):∃u∈t,u.path=p:=by
 unfold Cq at h;rw[Bf]at h;obtain⟨u,hu,e⟩:=h;exact⟨u,hu,by simpa using e⟩
theorem TC{t:List Tm}{p:ByteArray}(hf:KP t)(hc:Cq t p=true):∃u r,Fw t p=some (u,r)∧u.path=p∧∀v∈r,v.path≠p:=by
 obtain⟨u,hu,e⟩:=Sa hc;have hs:=EJ hf;have mX:=(FI hs).1 hu;rw[e]at mX;refine⟨u,FO t p,?_,e,fun v hv=>?_⟩
 ·unfold Fw;rw[show CJ t=some t from hf];dsimp only;rw[mX]
 ·have:=(BA.1 hv).2
  simpa using this
theorem Wd{D:List Sl}{p:ByteArray}{t b:List Tm}(fw:KP t)(iQ:KP b)(zH:Cq t p=true)(qg:Cq b p=true){S1 S2:List Sl}(h1:Wr D p S1)(v1:Bg t S1=true)(h2:Wr D p S2)(v2:Bg b S2=true) :
  (A7 t b p).2=0∧∀S,Wr D p S→Bg t S=true∨Bg b S=true→Bg (A7 t b p).1 S=true:=by
 obtain⟨u,r,e1,pu,nr⟩:=TC fw zH;obtain⟨w,m,e2,pw,nm⟩:=TC iQ qg;have key:∀S,Wr D p S→Bg t S=true∨Bg b S=true→Bg (r++m++[De u w]) S=true:=fun S hS hv=>by
  have r1:Bg r S=true:=by
   rw[KM hS h1 nr];rw[(FN h1.val e1).1,Af]at v1;exact v1.2
  have m1:Bg m S=true:=by
   rw[KM hS h2 nm];rw[(FN h2.val e2).1,Af]at v2;exact v2.2
  rw[G0,G0,r1,m1];simp only[Ev];rw[BG];intro y hy;rw[Ai.1 hy,show(De u w).path=p from pu,M8,CO];rcases hv with hv | hv
  ·rw[(FN hS.val e1).1,Af]at hv;exact .inl hv.1
  ·rw[(FN hS.val e2).1,Af]at hv;exact .inr hv.1
 unfold A7;rw[e1,e2];dsimp only;have c1:=CX (l:=r++m++[De u w]) h1.val;rw[key S1 h1 (.inl v1)]at c1;cases hc:CJ (r++m++[De u w])with
 |none=>rw[hc]at c1;cases c1
 |some o =>
  dsimp only;refine⟨rfl,fun S hS hv=>?_⟩;have c2:=CX (l:=r++m++[De u w]) hS.val;rw[hc,key S hS hv]at c2;exact c2.symm
theorem gy{D:List Sl}{p:ByteArray}(hp:Co D p=false){t:List Tm}(hf:KP t)(h0:Bg t D=true)(hk:∀k:Int,0≤k→k<1000000→Bg t (J7 D p (O1 k))=true):Cq t p=false:=by
 rw[AL];intro hc;obtain⟨u,hu,e⟩:=Sa hc;have ha:u.absent=true:=by
  have:=BG.1 h0 u hu
  rw[e,Ht hp]at this;exact this
 have hs:∀k:Int,0≤k→k<1000000→has u.set k=true:=fun k k0 k1=>by
  have:=BG.1 (hk k k0 k1) u hu
  rw[e,HZ hp]at this;unfold Df at this;rw[Af]at this
  have:=this.2
  rw[show(⟨p,O1 k⟩:Sl).ver=O1 k from rfl,G6]at this;exact this
 have ox:Ey u.set:=Ce.canon (EJ hf) u hu;have fy:u.set=[(0,1000000)]:=by
  refine Hm ox ⟨by decide,by decide,by decide,trivial⟩ fun k=>?_;rw[BX];constructor
  ·intro h
   have:=L3 h
   unfold has;simp[BN,this.1,this.2]
  ·intro h
   have:=L3 h
   exact hs k this.1 this.2
 have zD:GB u=true:=by unfold GB;rw[ha,fy];rfl
 have r4:CJ t=some t:=hf;unfold CJ at r4;split at r4
 ·cases r4
 ·have e2:=CC r4;rw[←e2]at hu
  have:=(BA.1 hu).2
  rw[zD]at this;cases this
end Go.Eng

namespace Go.Eng
structure DX(x:List Rl)(dec:List Cd):Prop where
 cand:∀c∈dec,c.rel∈x∧c.rel.yanked=false∧c.place=plc c.rel.ver
 nodup:(dec.map fun c=>c.rel.path).Nodup
theorem DX.nil(x:List Rl):DX x []:=⟨fun _ h=>(by cases h),Fd⟩
theorem Td{r:Rl}(h:RI r):r.path≠mt:=fun e=>by
 have:=h.maj
 rw[e]at this;have h2:CI mt=none:=by decide
 rw[h2]at this;cases this
theorem RI.set{r:Rl}(h:RI r):∀q∈r.reqs,q.set≠[]∧Ey q.set:=KV h.reqs
theorem K6(dec:List Cd):(Ax dec).map (·.path)=dec.map fun c=>c.rel.path:=by unfold Ax;rw[BW];rfl
theorem So:∀{D:List Sl},(D.map (·.path)).Nodup→∀{y:Sl},y∈D→BV D y.path=some y
 | [],_,y,h=>by cases h
 |z::D,hn,y,h=>by
  simp only[AM,CQ]at hn;unfold BV;rw[FG];rcases AF.1 h with rfl | h
  ·rw[AE rfl]
  ·have:z.path≠y.path:=fun e=>hn.1 (Ao.2 ⟨y,h,e.symm⟩)
   rw[AD this];exact So hn.2 h
theorem DX.find{x:List Rl}{dec:List Cd}(h:DX x dec){c:Cd}(hc:c∈dec):BV (Ax dec) c.rel.path=some (Py c) :=
 So (by rw[K6];exact h.nodup) (y:=Py c) (Ao.2 ⟨c,hc,rfl⟩)
theorem DX.valid{x:List Rl}(hx:A6 x=0){dec:List Cd}(h:DX x dec):Gc (Ax dec):=fun y hy=>by
 obtain⟨c,hc,rfl⟩:=Ao.1 hy;exact((Cj hx).1 _ (h.cand c hc).1).val
theorem DX.snoc{x:List Rl}{dec:List Cd}(h:DX x dec){c:Cd}(hc:c.rel∈x∧c.rel.yanked=false∧c.place=plc c.rel.ver)(hd:CD dec c.rel.path=false):DX x (dec++[c]):=by
 refine⟨fun d hd=>?_,?_⟩
 ·rcases A2.1 hd with hd | hd
  ·exact h.cand d hd
  ·rw[Ai.1 hd];exact hc
 ·rw[AB,Fz];refine⟨h.nodup,by simp,fun a ha b hb e=>?_⟩;obtain⟨d,W7,rfl⟩:=Ao.1 ha;simp only[AM,E6,Ai]at hb;unfold CD at hd;rw[Fy]at hd;exact hd d W7 (by simpa using e.trans hb)
theorem KB{roots:List Rq}{E:List Cd}{n:Nd}(h:n∈Db roots E):(∃k q,roots[k]?=some q∧n=⟨q,mt,0,(k:Nat)⟩)∨∃c∈E,∃k q,c.rel.reqs[k]?=some q∧n=⟨q,c.rel.path,c.place,(k:Nat)⟩:=by
 unfold Db at h;rcases A2.1 h with h | h
 ·obtain⟨k,q,h1,h2⟩:=XP h;exact .inl ⟨k,q,h1,h2⟩
 ·obtain⟨l,hl,hn⟩:=E0.1 h;obtain⟨c,hc,rfl⟩:=Ao.1 hl;obtain⟨k,q,h1,h2⟩:=XP hn;exact .inr ⟨c,hc,k,q,h1,h2⟩
theorem NF{roots:List Rq}{dec:List Cd}{c:Cd}{n:Nd}(h:n∈Db roots dec):n∈Db roots (dec++[c]):=by
 unfold Db at *
 rw[AB,Ct,←BU];exact Bs _ h
theorem MA{roots:List Rq}{dec:List Cd}{c:Cd}{n:Nd}(h:n∈PJ c):n∈Db roots (dec++[c]):=by
 unfold Db;rw[AB,Ct,←BU];exact Bo _ (by simpa using h)
def MR(n:Nd):List Tm:=if n.path=mt then [Dy n.rq]else [⟨n.path,false,[(n.place,n.place+1)]⟩,Dy n.rq]
theorem Oz(n:Nd):Hx n=PF (MR n):=by unfold Hx MR GJ C0;split<;>rfl
theorem aD{s:Bj}(h:s≠[])(hc:Ey s):∃k,has s k=true:=by
 match s,h,hc with
 |x::r,_,hc =>
  have:=EF.low hc x (Ab ..)
  refine⟨x.1,?_⟩;unfold has;have h1:BN x.1 x=true:=DC.2 ⟨BP _,this.2.1⟩;simp only[Cf,h1,Bool.true_or,Bool.and_true,Af,Az];omega
theorem QH{q:Rq}{o:Option Sl}(h:o=none∨∃y,o=some y∧CL y.ver=true∧has q.set (place y.ver)=false):Df (Dy q) o=true:=by
 rcases h with rfl | ⟨y,rfl,hv,hq⟩
 ·rfl
 ·show(CL y.ver&&has (Ec q.set) (place y.ver))=true
  have:=Jl hv
  rw[hv,FJ,hq];unfold LB;simp[this.1,this.2]
theorem Tb{q:Rq}{y:Sl}(hq:has q.set (place y.ver)=true):Df (Dy q) (some y)=false:=by
 show(CL y.ver&&has (Ec q.set) (place y.ver))=false;rw[FJ,hq];simp
structure oW(x:List Rl)(roots:List Rq)(S:List Sl)(n:Nd):Prop where
 inf:∀d,BO x roots d (MP n)=some (Hx n)
 viol:Bg (Hx n) S=true
 raw:∀S',Gc S'→Bg (Hx n) S'=Bg (MR n) S'
 form:KP (Hx n)
 inU:∀U:List ByteArray,(n.path≠mt→n.path∈U)→n.rq.path∈U→TG U (Hx n)
 path:n.path≠mt→Co S n.path=true
theorem Rh{x:List Rl}{roots:List Rq}(hx:A6 x=0)(hr:BE roots=0){E:List Cd}(hE:DX x E){n:Nd}(hn:n∈Db roots E)
  (hv:BV (Ax E) n.rq.path=none∨∃y,BV (Ax E) n.rq.path=some y∧has n.rq.set (place y.ver)=false):oW x roots (Ax E) n:=by
 have hV:=hE.valid hx;have fI:Df (Dy n.rq) (BV (Ax E) n.rq.path)=true:=QH (hv.imp id fun⟨y,h1,h2⟩=>⟨y,h1,hV y (HU h1),h2⟩)
 -- the raw list is Bg here,and not elsewhere
 have Nx:n.rq.set≠[]∧Ey n.rq.set:=by
  rcases KB hn with ⟨k,q,h1,rfl⟩ | ⟨c,hc,k,q,h1,rfl⟩
  ·exact KV hr q (Av h1)
  ·exact((Cj hx).1 _ (hE.cand c hc).1).set q (Av h1)
 have VU:Bg (MR n) (Ax E)=true∧(n.path≠mt→Co (Ax E) n.path=true):=by
  rcases KB hn with ⟨k,q,h1,rfl⟩ | ⟨c,hc,k,q,h1,rfl⟩
  ·refine⟨?_,fun h=>absurd rfl h⟩;unfold MR;rw[Aw rfl,BG];intro u hu;rw[Ai.1 hu];exact fI
  ·have Dn:=Td ((Cj hx).1 _ (hE.cand c hc).1);refine⟨?_,fun _=>by rw[JJ,hE.find hc];rfl⟩;unfold MR;rw[Am Dn,BG];intro u hu;rcases AF.1 hu with rfl | hu
   ·show Df _ (BV (Ax E) c.rel.path)=true;rw[hE.find hc];show(CL c.rel.ver&&has [(c.place,c.place+1)] (place c.rel.ver))=true;have F3:=(Cj hx).1 _ (hE.cand c hc).1;have hp:=Jl F3.val;rw[F3.val,(hE.cand c hc).2.2,F3.plc];unfold has;simp[BN,hp.1,hp.2];omega
   ·rw[Ai.1 hu];exact fI
 have uX:∃S',Gc S'∧Bg (MR n) S'=false:=by
  unfold MR;split
  ·obtain⟨k,hk⟩:=aD Nx.1 Nx.2;have dx:=L3 hk;refine⟨[⟨n.rq.path,O1 k⟩],fun y hy=>by rw[Ai.1 hy];exact EX dx,?_⟩;rw[AL];intro h
   have:=BG.1 h (Dy n.rq) (Ai.2 rfl)
   rw[show(Dy n.rq).path=n.rq.path from rfl,show BV [(⟨n.rq.path,O1 k⟩:Sl)] n.rq.path=some ⟨n.rq.path,O1 k⟩ by unfold BV;simp,Tb (by rw[show(⟨n.rq.path,O1 k⟩:Sl).ver=O1 k from rfl,G6];exact hk)]at this;cases this
  ·refine⟨[],fun y hy=>(by cases hy),?_⟩;rw[AL];intro h
   have:=BG.1 h _ (Ab ..)
   cases this
 obtain⟨VU,qD⟩:=VU;have Dn:PF (MR n)≠[]:=by
  obtain⟨S',v',n'⟩:=uX;have c1:=CX (l:=MR n) hV;have c2:=CX (l:=MR n) v';unfold PF;cases hc:CJ (MR n)with
  |none=>rw[hc,VU]at c1;cases c1
  |some c =>
   rw[hc,n']at c2;intro e;have e:c=[]:=e;rw[e]at c2;cases c2
 have lG:∀S',Gc S'→Bg (Hx n) S'=Bg (MR n) S':=fun S' v=>by rw[Oz];exact PG v Dn
 refine⟨fun d=>?_,by rw[lG _ hV];exact VU,lG,by rw[Oz];exact Mf _,fun U h1 h2=>?_,qD⟩
 ·rcases KB hn with ⟨k,q,h1,rfl⟩ | ⟨c,hc,k,q,h1,rfl⟩
  ·show BO x roots d (if(mt:ByteArray)=mt then⟨0,mt,0,(k:Nat),0,0⟩else _)=some (if(mt:ByteArray)=mt then GJ q else _);rw[Aw rfl,Aw rfl];show(if mt=mt∧(0:Int)=0∧(0:Int)=0∧(0:Int)=0 then(Fr roots (k:Nat)).map GJ else none)=some (GJ q);rw[Aw ⟨rfl,rfl,rfl,rfl⟩];unfold Fr;rw[Am (by omega),BT,h1];rfl
  ·have F3:=(Cj hx).1 _ (hE.cand c hc).1;have TK:=Td F3;have vh:FM x c.rel.path c.place=some c.rel:=by
    unfold FM;cases hf:x.find? fun r=>decide (r.path=c.rel.path)&&decide (plc r.ver=c.place)with
    |none =>
     rw[DO]at hf;exact absurd (by simp[(hE.cand c hc).2.2]) (hf c.rel (hE.cand c hc).1)
    |some r =>
     have h2:=D7 hf;simp only[Af,Az]at h2;have Xn:=B6 hf;have u5:=(Cj hx).1 r Xn;rw[az (Cj hx) Xn (hE.cand c hc).1 h2.1 (by rw[←u5.plc,h2.2,(hE.cand c hc).2.2,F3.plc])]
   have e1:MP ⟨q,c.rel.path,c.place,(k:Nat)⟩=⟨1,c.rel.path,c.place,(k:Nat),0,0⟩:=by unfold MP;rw[Am TK]
   have e2:Hx ⟨q,c.rel.path,c.place,(k:Nat)⟩=C0 c.rel.path c.place q:=by unfold Hx;rw[Am TK]
   rw[e1,e2];unfold BO;rw[Am (show ¬((1:Int)=0) by decide),Aw rfl,Aw ⟨rfl,rfl⟩];dsimp only;rw[vh];dsimp only;unfold Fr;rw[Am (by omega),BT,h1];dsimp only;unfold Ro;rw[Am];rw[GR,←e2,Oz];exact Dn
 ·rw[Oz];refine Ta fun u hu=>?_;unfold MR at hu;split at hu
  ·rw[Ai.1 hu];exact h2
  ·rename_i hm;rcases AF.1 hu with rfl | hu
   ·exact h1 hm
   ·rw[Ai.1 hu];exact h2
structure je(D:List Sl)(U:List ByteArray)(p:ByteArray)(t:List Tm)(C:Int→Prop):Prop where
 form:KP t
 inU:TG U t
 conc:Cq t p=true
 one:∃S,Wr D p S∧Bg t S=true
 cov:∀k:Int,0≤k→k<1000000→C k→Bg t (J7 D p (O1 k))=true
structure lU(D:List Sl)(U:List ByteArray)(p:ByteArray)(t:List Tm)(C:Int→Prop):Prop where
 form:KP t
 inU:TG U t
 none_:Bg t D=true
 cov:∀k:Int,0≤k→k<1000000→C k→Bg t (J7 D p (O1 k))=true
theorem Fx.forms{x:List Rl}{roots:List Rq}{s:SS}(h:Fx x roots s):∀k,KP (Do s k):=fun k=>by
 unfold Do;rw[B1];cases e:s.drv[k]? with
 |none=>exact Oq
 |some t=>exact M0 (fun _ h=>by cases h) h.der t (Av e)
theorem UN{x:List Rl}{roots:List Rq}{d:List (List Tm)}{k r:Nat}{p:ByteArray}(hk:k<d.length)(hr:r<d.length)(h0:(A7 (d.getD k []) (d.getD r []) p).2=0) :
  BO x roots d ⟨3,p,0,0,(k:Nat),(r:Nat)⟩=some (A7 (d.getD k []) (d.getD r []) p).1:=by
 have e:∀j:Nat,j<d.length→Fr d (j:Nat)=some (d.getD j []):=fun j hj=>by
  unfold Fr;rw[Am (by omega),BT,B1,Ay hj];rfl
 unfold BO;rw[Am (show ¬((3:Int)=0) by decide),Am (show ¬((3:Int)=1) by decide),Am (show ¬((3:Int)=2) by decide),Aw rfl,Aw ⟨rfl,rfl⟩];dsimp only;rw[e k hk,e r hr];dsimp only;rw[Aw h0]
theorem NA{x:List Rl}{roots:List Rq}{D:List Sl}{U:List ByteArray}{p:ByteArray}(hD:Gc D):∀(l:List (Nat×(Int→Prop))) {k:Nat} {s:SS} {C:Int→Prop},Fx x roots s→k<s.drv.length→(∀y∈l,y.1<s.drv.length) →
  (s.full=false→lU D U p (Do s k) C∧∀y∈l,je D U p (Do s y.1) y.2) →
  Fx x roots (B7 p (l.map (·.1)) k s).2∧Grow s (B7 p (l.map (·.1)) k s).2∧(B7 p (l.map (·.1)) k s).1<(B7 p (l.map (·.1)) k s).2.drv.length ∧
  ((B7 p (l.map (·.1)) k s).2.full=false→∃C',lU D U p (Do (B7 p (l.map (·.1)) k s).2 (B7 p (l.map (·.1)) k s).1) C' ∧
   (Cq (Do (B7 p (l.map (·.1)) k s).2 (B7 p (l.map (·.1)) k s).1) p=false∨∀j,C j∨(∃y∈l,y.2 j)→C' j))
 | [],k,s,C,hd,hk,_,hA=>⟨hd,.refl s,hk,fun hf=>⟨C,(hA hf).1,.inr fun j hj=>hj.elim id fun⟨y,hy,_⟩=>(by cases hy)⟩⟩
 |y::l,k,s,C,hd,hk,hl,hA=>by
  rw[AM]
  by_cases h1:s.full=true∨Cq (Do s k) p=false
  ·have e:B7 p (y.1::l.map (·.1)) k s=(k,s):=by unfold B7;rw[Aw h1]
   rw[e];refine⟨hd,.refl s,hk,fun hf=>⟨C,(hA hf).1,.inl (h1.resolve_left fun e=>?_)⟩⟩;have hf:s.full=false:=hf;rw[e]at hf;cases hf
  simp only[not_or,Bool.not_eq_true,Bool.not_eq_false]at h1;obtain⟨hf,TJ⟩:=h1;obtain⟨bI,tR⟩:=hA hf;have hy:=tR y (Ab ..);have hi:¬(s.full=true∨Cq (Do s k) p=false):=by rw[hf,TJ];simp
  by_cases h2:y.1=k
  ·have e:B7 p (y.1::l.map (·.1)) k s=B7 p (l.map (·.1)) k s:=by conv=>lhs;unfold B7;rw[Am hi,Aw h2]
   rw[e];have zn : lU D U p (Do s k) fun j=>C j∨y.2 j:=⟨bI.form,bI.inU,bI.none_,fun j j0 j1 hj=>hj.elim (bI.cov j j0 j1) fun h=>by rw[←h2];exact hy.cov j j0 j1 h⟩;obtain⟨i1,i2,i3,i4⟩:=NA hD l hd hk (fun z hz=>hl z (Ag _ hz)) (fun _=>⟨zn,fun z hz=>tR z (Ag _ hz)⟩);refine⟨i1,i2,i3,fun hf=>?_⟩;obtain⟨C',j1,j2⟩:=i4 hf;refine⟨C',j1,j2.imp id fun h j hj=>h j ?_⟩;rcases hj with hj | ⟨z,hz,hj⟩
   ·exact .inl (.inl hj)
   ·rcases AF.1 hz with rfl | hz
    ·exact .inl (.inr hj)
    ·exact .inr ⟨z,hz,hj⟩
  ·obtain⟨S2,o2,v2⟩:=hy.one;obtain⟨r1,r2⟩:=Wd bI.form hy.form TJ hy.conc (.self hD) bI.none_ o2 v2;have e:B7 p (y.1::l.map (·.1)) k s=B7 p (l.map (·.1)) (DG s ⟨3,p,0,0,k,y.1⟩ (A7 (Do s k) (Do s y.1) p).1).1 (DG s ⟨3,p,0,0,k,y.1⟩ (A7 (Do s k) (Do s y.1) p).1).2:=by
    conv=>lhs;unfold B7;rw[Am hi,Am h2,Am (fun h=>h r1)]
   rw[e];have hy1:=hl y (Ab ..);obtain⟨a1,a2,a3⟩:=Ki hd (UN (x:=x) (roots:=roots) hk hy1 r1);have hg:=Kj s ⟨3,p,0,0,(k:Nat),(y.1:Nat)⟩ (A7 (Do s k) (Do s y.1) p).1;generalize Wn : DG s ⟨3,p,0,0,(k:Nat),(y.1:Nat)⟩ (A7 (Do s k) (Do s y.1) p).1=s' at *
   have a3:s'.2.full=false→Do s'.2 s'.1=(A7 (Do s k) (Do s y.1) p).1:=a3;obtain⟨i1,i2,i3,i4⟩:=NA hD (C:=fun j=>C j∨y.2 j) l a1 a2 (fun z hz=>BK (hl z (Ag _ hz)) hg.len) (fun Xc=>by
    refine⟨?_,fun z hz=>by rw[hg.at (hl z (Ag _ hz))];exact tR z (Ag _ hz)⟩;rw[a3 Xc];exact⟨Nh _ _ _,QL bI.inU hy.inU,r2 D (.self hD) (.inl bI.none_),fun j j0 j1 hj=>r2 _ (.ver hD (EX ⟨j0,j1⟩)) (hj.imp (bI.cov j j0 j1) (hy.cov j j0 j1))⟩)
   refine⟨i1,hg.trans i2,i3,fun hf=>?_⟩;obtain⟨C',j1,j2⟩:=i4 hf;refine⟨C',j1,j2.imp id fun h j hj=>h j ?_⟩;rcases hj with hj | ⟨z,hz,hj⟩
   ·exact .inl (.inl hj)
   ·rcases AF.1 hz with rfl | hz
    ·exact .inl (.inr hj)
    ·exact .inr ⟨z,hz,hj⟩
end Go.Eng

namespace Go.Eng
def IG(roots:List Rq)(dec:List Cd):Prop:=∀q∈FD roots dec,∀d∈dec,d.rel.path=q.path→has q.set d.place=true
theorem IG.nil(roots:List Rq):IG roots []:=fun _ _ d h=>by cases h
theorem Tq(roots:List Rq)(dec:List Cd)(c:Cd):FD roots (dec++[c])=FD roots dec++c.rel.reqs:=by
 unfold FD;rw[AB,Ct,BU];simp
theorem kO(c:Cd):(PJ c).map (·.rq)=c.rel.reqs:=Rr (fun _ _=>rfl) _ _
theorem Yy{dec:List Cd}{c:Cd}(h:Dw dec c=none):∀q∈c.rel.reqs,∀d∈dec++[c],d.rel.path=q.path→has q.set d.place=true:=fun q hq d hd e=>by
 rw[←kO]at hq;obtain⟨n,hn,rfl⟩:=Ao.1 hq;unfold Dw at h;rw[DO]at h
 have:=h n hn
 unfold ah at this;rw[Bool.not_eq_true,Fy]at this
 have:=this d hd
 rw[e]at this;simpa using this
theorem KW{dec:List Cd}{c:Cd}{n:Nd}(h:Dw dec c=some n):n∈PJ c∧∃d∈dec++[c],d.rel.path=n.rq.path∧has n.rq.set d.place=false:=by
 unfold Dw at h;have h1:=D7 h;refine⟨B6 h,?_⟩;unfold ah at h1;rw[Bf]at h1;obtain⟨d,hd,e⟩:=h1;simp only[Af,Az,CN]at e;exact⟨d,hd,e⟩
theorem IG.snoc{roots:List Rq}{dec:List Cd}(h:IG roots dec){p:ByteArray}{needs:List Nd}(hN:oe roots dec p needs){c:Cd}(hc:c.rel.path=p)(hn:∀n∈needs,has n.rq.set c.place=true)(hk:Dw dec c=none):IG roots (dec++[c]):=by
 intro q hq d hd e;rw[Tq]at hq;rcases A2.1 hq with hq | hq
 ·rcases A2.1 hd with hd | hd
  ·exact h q hq d hd e
  ·rw[Ai.1 hd]at e⊢;rw[←KC]at hq;obtain⟨n,Xk,rfl⟩:=Ao.1 hq;exact hn n ((hN.mem n).2 ⟨Xk,by rw[←e,hc]⟩)
 ·exact Yy hk q hq d hd e
def T7(y:Sl):List Sl→List Sl
 | []=>[y]
 |z::l=>if FV y.path z.path then y::z::l else z::T7 y l
def Dd:List Sl→List Sl
 | []=>[]
 |y::l=>T7 y (Dd l)
theorem SK{y z:Sl}:∀{l:List Sl},z∈T7 y l↔z=y∨z∈l
 | []=>by simp[T7]
 |u::l=>by
  unfold T7;split
  ·simp
  ·rw[AF,SK,AF];constructor
   ·rintro(h | h | h)
    ·exact .inr (.inl h)
    ·exact .inl h
    ·exact .inr (.inr h)
   ·rintro(h | h | h)
    ·exact .inr (.inl h)
    ·exact .inl h
    ·exact .inr (.inr h)
theorem H1{z:Sl}:∀{l:List Sl},z∈Dd l↔z∈l
 | []=>by simp[Dd]
 |u::l=>by unfold Dd;rw[SK,H1,AF]
theorem Xt{y:Sl}:∀{l:List Sl},Vm l→(∀z∈l,z.path≠y.path)→Vm (T7 y l)
 | [],_,_=>by simp[T7,Vm]
 |u::l,h,hn=>by
  obtain⟨h1,h2⟩:=Dh.1 h;unfold T7;split
  ·rename_i hb;refine Dh.2 ⟨fun z hz=>?_,h⟩;rcases AF.1 hz with rfl | hz
   ·exact hb
   ·exact EN hb (h1 z hz)
  ·rename_i hb;refine Dh.2 ⟨fun z hz=>?_,Xt h2 fun z hz=>hn z (Ag _ hz)⟩;rcases SK.1 hz with rfl | hz
   ·cases e:FV u.path z.path with
    |true=>rfl
    |false =>
     have hb:FV z.path u.path=false:=by simpa using hb
     exact absurd (JC e hb) (hn u (Ab ..))
   ·exact h1 z hz
theorem PR:∀{l:List Sl},(l.map (·.path)).Nodup→Vm (Dd l)
 | [],_=>List.Pairwise.nil
 |y::l,h=>by
  simp only[AM,CQ]at h;exact Xt (PR h.2) fun z hz e=>h.1 (Ao.2 ⟨z,H1.1 hz,e⟩)
theorem SH:∀{l:List Sl} {b:Option ByteArray},Vm l→(∀c,b=some c→∀y∈l,FV c y.path=true)→L8 b l=true
 | [],_,_,_=>by unfold L8;rfl
 |y::l,b,h,hb=>by
  obtain⟨h1,h2⟩:=Dh.1 h;unfold L8;cases b with
  |none=>simpa using SH h2 fun c e z hz=>by cases e;exact h1 z hz
  |some c =>
   have:=hb c rfl y (Ab ..)
   simp only[this,Ev];exact SH h2 fun c e z hz=>by cases e;exact h1 z hz
theorem fU{l:List Sl}(h:Vm l):Et l=true:=SH h fun _ e=>by cases e
theorem Pm{x:List Rl}(hx:A6 x=0){r:Rl}(hr:r∈x):Ej x (Gi r)=some r:=by
 unfold Ej;rw[Am (fun h=>h hx)];cases h:x.find? fun s=>decide (Gi s=Gi r)with
 |none =>
  rw[DO]at h;exact absurd (by simp) (h r hr)
 |some s =>
  have h1:=D7 h;simp only[Az]at h1;rw[SL (Cj hx).2 (B6 h) hr h1]
theorem DX.sorted{x:List Rl}{dec:List Cd}(h:DX x dec):Vm (Dd (Ax dec)):=PR (by rw[K6];exact h.nodup)
theorem DX.findS{x:List Rl}{dec:List Cd}(h:DX x dec){c:Cd}(hc:c∈dec):BV (Dd (Ax dec)) c.rel.path=some (Py c) :=
 M5 h.sorted (y:=Py c) (H1.2 (Ao.2 ⟨c,hc,rfl⟩))
theorem f8{x:List Rl}{roots:List Rq}(hx:A6 x=0){dec:List Cd}(h:DX x dec)(hs:IG roots dec)(hl:Gt (FD roots dec) (Ax dec)=none):lX x roots (Dd (Ax dec)):=by
 have HW:∀q∈FD roots dec,∃y,BV (Dd (Ax dec)) q.path=some y∧has q.set (place y.ver)=true:=fun q hq=>by
  have:=Y8 hl q hq
  rw[K5]at this;obtain⟨y,hy,e⟩:=this;obtain⟨d,hd,rfl⟩:=Ao.1 hy;have e:d.rel.path=q.path:=e;refine⟨Py d,by rw[←e];exact h.findS hd,?_⟩;have h1:=hs q hq d hd e;have F3:=(Cj hx).1 _ (h.cand d hd).1;rw[(h.cand d hd).2.2,F3.plc]at h1;exact h1
 refine⟨hx,fU h.sorted,fun y hy=>?_,fun q hq=>HW q (Bs _ hq),fun y hy r hr q hq=>?_⟩
 ·obtain⟨d,hd,rfl⟩:=Ao.1 (H1.1 hy);exact⟨d.rel,Pm hx (h.cand d hd).1,(h.cand d hd).2.1⟩
 ·obtain⟨d,hd,rfl⟩:=Ao.1 (H1.1 hy)
  have:Ej x (Py d)=some d.rel:=Pm hx (h.cand d hd).1
  rw[this]at hr;cases hr;exact HW q (Bo _ (E0.2 ⟨_,Ao.2 ⟨d,hd,rfl⟩,hq⟩))
def Wp(dec:List Cd)(needs:List Nd)(c:Cd):Bool:=(needs.all fun n=>has n.rq.set c.place)&&(Dw dec c).isNone
def B9(x:List Rl)(roots:List Rq):Nat→List Cd→List (List Cd)
 |0,_=>[]
 |n+1,dec=>match(Dz roots dec).2 with
  | []=>[dec]
  |n0::l=>((Bm x (Dz roots dec).1).map fun c=>if Wp dec (n0::l) c then B9 x roots n (dec++[c])else []).flatten
structure Lf(x:List Rl)(roots:List Rq)(dec d:List Cd):Prop where
 pre:dec <+: d
 ok:DX x d
 sat:IG roots d
 stop:Gt (FD roots d) (Ax d)=none
theorem Gd{x:List Rl}{p:ByteArray}{c:Cd}(h:c∈Bm x p):c.rel.path=p∧(c.rel∈x∧c.rel.yanked=false∧c.place=plc c.rel.ver):=by
 obtain⟨r,h1,h2,h3,rfl⟩:=KT.1 h;exact⟨h2,h1,h3,rfl⟩
theorem JR{dec:List Cd}{needs:List Nd}{c:Cd}:Wp dec needs c=true↔(∀n∈needs,has n.rq.set c.place=true)∧Dw dec c=none:=by
 unfold Wp;rw[Af,BB,Option.isNone_iff_eq_none]
theorem GE{x:List Rl}{roots:List Rq}:∀{n:Nat} {dec:List Cd},DX x dec→IG roots dec→∀d∈B9 x roots n dec,Lf x roots dec d
 |0,_,_,_,d,hd=>by cases hd
 |n+1,dec,h,hs,d,hd=>by
  unfold B9 at hd;split at hd
  ·rename_i e;rw[Ai.1 hd];exact⟨MI,h,hs,NI.1 e⟩
  ·rename_i n0 l e;have hN:=HY e;obtain⟨L,hL,hd⟩:=E0.1 hd;obtain⟨c,hc,rfl⟩:=Ao.1 hL;split at hd
   ·rename_i F3;obtain⟨h1,h2⟩:=JR.1 F3;obtain⟨c1,c2⟩:=Gd hc;have bM:CD dec c.rel.path=false:=by rw[c1];exact hN.undone
    have:=GE (n:=n) (h.snoc c2 bM) (hs.snoc hN c1 h1 h2) d hd
    exact⟨(N0 _ _).trans this.pre,this.ok,this.sat,this.stop⟩
   ·cases hd
theorem Lf.sol{x:List Rl}{roots:List Rq}(hx:A6 x=0){dec d:List Cd}(h:Lf x roots dec d):lX x roots (Dd (Ax d)):=f8 hx h.ok h.sat h.stop
theorem kz{x:List Rl}{roots:List Rq}(hx:A6 x=0){s:SS}(hd:Fx x roots s){k:Nat}(hk:k<s.drv.length){dec d:List Cd}(he:Cr (Do s k) (Ax dec)=true)(h:Lf x roots dec d):False:=by
 have hS:=h.sol hx;have hv:=VC (s:=Dd (Ax d)) hS.inc (fun y hy=>H1.2 (by
  obtain⟨c,hc,rfl⟩:=Ao.1 hy;obtain⟨t,e⟩:=h.pre;exact Ao.2 ⟨c,by rw[←e];exact Bs _ hc,rfl⟩)) he
 have hn:=Ja hS (d:=[]) (fun _ h=>by cases h) hd.der (Do s k) (by
  unfold Do;rw[B1,Ay hk];exact AC hk)
 rw[hv]at hn;cases hn
end Go.Eng

namespace Go.Eng
theorem nt{x:List Rl}(h:A6 x=0):x.length≤256:=by
 unfold A6 at h;split at h
 ·cases h
 ·omega
theorem fh{l:List Rl}{k:Int}:(l.map fun r=>(plc r.ver,plc r.ver+1)).any (BN k)=true↔∃r∈l,plc r.ver=k:=by
 rw[Bf];constructor
 ·rintro⟨y,hy,h⟩
  obtain⟨r,hr,rfl⟩:=Ao.1 hy
  have:=DC.1 h
  exact⟨r,hr,by have h1:=this.1;have h2:=this.2;dsimp only at h1 h2;omega⟩
 ·rintro⟨r,hr,rfl⟩
  exact⟨_,Ao.2 ⟨r,hr,rfl⟩,DC.2 ⟨BP _,by dsimp only;omega⟩⟩
theorem Up{x:List Rl}(hx:A6 x=0){p:ByteArray}{k:Int}:has (BM x p) k=true↔∃c∈Bm x p,c.place=k:=by
 unfold BM;rw[G9];unfold has J6;rw[Am (fun h=>h hx)];simp only[Af,Az];rw[fh];constructor
 ·rintro⟨_,r,hr,rfl⟩
  simp only[BA,Az,CN]at hr;exact⟨⟨plc r.ver,r⟩,KT.2 ⟨r,hr.1.1,hr.1.2,hr.2,rfl⟩,rfl⟩
 ·rintro⟨c,hc,rfl⟩
  obtain⟨r,h1,h2,h3,rfl⟩:=KT.1 hc;have F3:=(Cj hx).1 r h1
  have:=Jl F3.val
  rw[←F3.plc]at this;refine⟨⟨this.1,this.2⟩,r,?_,rfl⟩;simp only[BA,Az,CN];exact⟨⟨h1,h2⟩,h3⟩
theorem aH{x:List Rl}(hx:A6 x=0)(p:ByteArray):∃k:Int,0≤k∧k<1000000∧has (BM x p) k=false:=by
 apply Cm;intro hn;have HW:∀k∈(List.range 257).map fun i:Nat=>(i:Int),k∈x.map fun r=>plc r.ver:=by
  intro k hk;obtain⟨i,hi,rfl⟩:=Ao.1 hk;have hi:=NZ.1 hi;have hh:has (BM x p) (i:Int)=true:=by
   cases e:has (BM x p) (i:Int)with
   |true=>rfl
   |false=>exact absurd ⟨(i:Int),by omega,by omega,e⟩ hn
  obtain⟨c,hc,e⟩:=(Up hx).1 hh;obtain⟨r,h1,_,_,rfl⟩:=KT.1 hc;exact Ao.2 ⟨r,h1,e⟩
 have:=GV (List.pairwise_map.2 (List.nodup_range.imp fun h e=>h (Int.ofNat.inj e))) HW
 rw[Bp,Bp,List.length_range]at this
 have:=nt hx
 omega
theorem K7(dec:List Cd)(c:Cd):Ax (dec++[c])=J7 (Ax dec) c.rel.path c.rel.ver:=by unfold Ax J7;rw[AB];rfl
theorem K3{t:List Tm}{S:List Sl}:Cr t S=true↔Bg t S=true∧∀u∈t,Co S u.path=true:=by
 unfold Cr;rw[Af,CN,Fy];simp
section
variable {x:List Rl}{roots:List Rq}{dec:List Cd}{p:ByteArray}{needs:List Nd}
abbrev Zc(p:ByteArray)(dec:List Cd):List ByteArray:=p::(Ax dec).map (·.path)
theorem jy{c:Cd}{t:List Tm}(hf:KP t)(he:Cr t (Ax (dec++[c]))=true):TG (Zc c.rel.path dec) t:=by
 refine⟨EJ hf,fun u hu=>?_⟩
 have:=(K3.1 he).2 u hu
 rw[Gq,K7,AB]at this;rcases A2.1 this with h | h
 ·exact Ag _ h
 ·rw[AM,E6,Ai]at h;rw[h];exact Ab ..
theorem eD(hx:A6 x=0)(hd:DX x dec){c:Cd}(hc:c.rel∈x){t:List Tm}(he:Cr t (Ax (dec++[c]))=true)(hn:Cq t c.rel.path=false):Cr t (Ax dec)=true:=by
 obtain⟨h1,h2⟩:=K3.1 he;have Dn:=JD hn;rw[K7]at h1 h2;refine K3.2 ⟨?_,fun u hu=>?_⟩
 ·rw[KM (.self (hd.valid hx)) (.ver (hd.valid hx) ((Cj hx).1 _ hc).val) Dn];exact h1
 ·have:=h2 u hu
  rw[Sy,CO]at this;rcases this with h | h
  ·exact h
  ·rw[K5]at h;obtain⟨y,hy,e⟩:=h;rw[Ai.1 hy]at e;exact absurd e.symm (Dn u hu)
theorem cY(hx:A6 x=0)(hd:DX x dec){c:Cd}(hc:c.rel∈x∧c.rel.yanked=false∧c.place=plc c.rel.ver)(hu:CD dec c.rel.path=false){t:List Tm}(hf:KP t)(he:Cr t (Ax (dec++[c]))=true)(hn:Cq t c.rel.path=true) :
  je (Ax dec) (Zc c.rel.path dec) c.rel.path t fun k=>k=c.place:=by
 have F3:=(Cj hx).1 _ hc.1;have hV:=hd.valid hx;have h1:=(K3.1 he).1;rw[K7]at h1;refine⟨hf,jy hf he,hn,⟨_,.ver hV F3.val,h1⟩,fun k k0 k1 e=>?_⟩;subst e;rw[Zx (by rw[FY];exact hu) (EX ⟨k0,k1⟩) F3.val (by rw[G6,hc.2.2,F3.plc])];exact h1
theorem OH(hx:A6 x=0)(hr:BE roots=0){E:List Cd}(hE:DX x E){n:Nd}(hn:n∈Db roots E)(hv:∃d∈E,d.rel.path=n.rq.path∧has n.rq.set d.place=false) :
  (∀d,BO x roots d (MP n)=some (Hx n))∧Cr (Hx n) (Ax E)=true∧KP (Hx n):=by
 obtain⟨d,hd,e,hs⟩:=hv;have F3:=(Cj hx).1 _ (hE.cand d hd).1;have hf:=hE.find hd;have hI:=Rh hx hr hE hn (.inr ⟨Py d,by rw[←e];exact hf,by rw[show(Py d).ver=d.rel.ver from rfl,←F3.plc,←(hE.cand d hd).2.2];exact hs⟩);refine⟨hI.inf,K3.2 ⟨hI.viol,fun u hu=>?_⟩,hI.form⟩
 have:=(hI.inU ((Ax E).map (·.path)) (fun h=>Gq.1 (hI.path h)) (Gq.1 (by rw[JJ,←e,hf];rfl))).2 u hu
 exact Gq.2 this
theorem cp(hx:A6 x=0)(hr:BE roots=0)(hd:DX x dec)(hN:oe roots dec p needs){c:Cd}(hc:c∈Bm x p){n:Nd}(hn:n∈needs)(hs:has n.rq.set c.place=false):Cq (Hx n) p=true:=by
 obtain⟨c1,c2⟩:=Gd hc;have hu:CD dec c.rel.path=false:=by rw[c1];exact hN.undone
 have hE:=hd.snoc c2 hu;obtain⟨dA,jU⟩:=(hN.mem n).1 hn;have F3:=(Cj hx).1 _ c2.1;have hI:=Rh hx hr hE (NF dA) (.inr ⟨Py c,by rw[jU,←c1];exact hE.find (by simp),by rw[show(Py c).ver=c.rel.ver from rfl,←F3.plc,←c2.2.2];exact hs⟩);cases ov:Cq (Hx n) p with
 |true=>rfl
 |false =>
  exfalso
  have Nx:n.rq.set≠[]∧Ey n.rq.set:=by
   rcases KB dA with ⟨k,q,h1,rfl⟩ | ⟨c,hc,k,q,h1,rfl⟩
   ·exact KV hr q (Av h1)
   ·exact((Cj hx).1 _ (hd.cand c hc).1).set q (Av h1)
  obtain⟨k,hk⟩:=aD Nx.1 Nx.2;have dx:=L3 hk;have hV:=hd.valid hx;have o1:Wr (Ax dec) p (J7 (Ax dec) p (O1 k)):=.ver hV (EX dx);have o2:Wr (Ax dec) p (Ax (dec++[c])):=by rw[K7,c1];exact .ver hV F3.val
  have h1:=KM o1 o2 (JD ov);rw[hI.viol,hI.raw _ o1.val,BG]at h1
  have:=h1 (Dy n.rq) (by unfold MR;split<;>simp)
  rw[show(Dy n.rq).path=p from jU,HZ (by rw[FY];exact hN.undone),Tb (by rw[show(⟨p,O1 k⟩:Sl).ver=O1 k from rfl,G6];exact hk)]at this;cases this
theorem cc(hx:A6 x=0)(hr:BE roots=0)(hd:DX x dec)(hN:oe roots dec p needs){n0:Nd}(h0:n0∈needs)(L:List (Nat×Cd))(hL:L.map (·.2)=Bm x p){s:SS}(hs:Fx x roots s)(Dt:∀y∈L,y.1<s.drv.length)
  (qI:s.full=false→∀y∈L,Cr (Do s y.1) (Ax (dec++[y.2]))=true∧Cq (Do s y.1) p=true) :
  Fx x roots (DD x p n0 (L.map (·.1)) s).2∧Grow s (DD x p n0 (L.map (·.1)) s).2∧(DD x p n0 (L.map (·.1)) s).1<(DD x p n0 (L.map (·.1)) s).2.drv.length ∧
  ((DD x p n0 (L.map (·.1)) s).2.full=false→Cr (Do (DD x p n0 (L.map (·.1)) s).2 (DD x p n0 (L.map (·.1)) s).1) (Ax dec)=true):=by
 have hV:=hd.valid hx;have oC:Co (Ax dec) p=false:=by rw[FY];exact hN.undone
 obtain⟨qz,u7⟩:=(hN.mem n0).1 h0;have hI:=Rh hx hr hd qz (.inl (by rw[u7];exact Ht oC));unfold DD;obtain⟨a1,a2,a3⟩:=Ki hs (hI.inf s.drv);have ag:=Kj s (MP n0) (Hx n0);have a3:(A8 s n0).2.full=false→Do (A8 s n0).2 (A8 s n0).1=Hx n0:=a3
 change Fx x roots (A8 s n0).2 at a1
 change (A8 s n0).1<(A8 s n0).2.drv.length at a2
 change Grow s (A8 s n0).2 at ag
 generalize A8 s n0=s1 at *
 -- the incompatibility of the places that are not available
 obtain⟨u,u0,u1,hu⟩:=aH hx p;have VU:∀k:Int,0≤k→k<1000000→has (BM x p) k=false→Bg [(⟨p,false,Ec (BM x p)⟩:Tm)] (J7 (Ax dec) p (O1 k))=true:=fun k k0 k1 hk=>by
  rw[BG];intro t ht;rw[Ai.1 ht];show Df _ (BV (J7 (Ax dec) p (O1 k)) p)=true;rw[HZ oC];show(CL (O1 k)&&has (Ec (BM x p)) (place (O1 k)))=true;rw[EX ⟨k0,k1⟩,G6,FJ,hk];unfold LB;simp[k0,k1]
 have lE:Bg [(⟨p,false,Ec (BM x p)⟩:Tm)] (Ax dec)=false:=by
  rw[AL];intro h
  have:=BG.1 h _ (Ab ..)
  rw[show(⟨p,false,Ec (BM x p)⟩:Tm).path=p from rfl,Ht oC]at this;cases this
 have ou:Wr (Ax dec) p (J7 (Ax dec) p (O1 u)):=.ver hV (EX ⟨u0,u1⟩);have Dn:E5 p (BM x p)≠[]:=by
  have c1:=CX (l:=[(⟨p,false,Ec (BM x p)⟩:Tm)]) ou.val;have c2:=CX (l:=[(⟨p,false,Ec (BM x p)⟩:Tm)]) hV;rw[VU u u0 u1 hu]at c1;rw[lE]at c2;unfold E5 PF;cases hc:CJ [(⟨p,false,Ec (BM x p)⟩:Tm)]with
  |none=>rw[hc]at c1;cases c1
  |some c =>
   rw[hc]at c2;intro e;have e:c=[]:=e;rw[e]at c2;cases c2
 have Ls:∀S,Gc S→Bg (E5 p (BM x p)) S=Bg [(⟨p,false,Ec (BM x p)⟩:Tm)] S:=fun S v=>PG v Dn;have qh:Cq (E5 p (BM x p)) p=true:=by
  cases h:Cq (E5 p (BM x p)) p with
  |true=>rfl
  |false =>
   have:=KM ou (.self hV) (JD h)
   rw[Ls _ ou.val,Ls _ hV,VU u u0 u1 hu,lE]at this;cases this
 have T0:BO x roots s1.2.drv ⟨2,p,0,0,0,0⟩=some (E5 p (BM x p)):=by
  unfold BO;rw[Am (show ¬((2:Int)=0) by decide),Am (show ¬((2:Int)=1) by decide),Aw rfl,Aw ⟨rfl,rfl,rfl,rfl⟩];unfold Ro;rw[Am (by rw[GR];exact Dn)]
 obtain⟨b1,b2,b3⟩:=Ki a1 T0;have bg:=Kj s1.2 ⟨2,p,0,0,0,0⟩ (E5 p (BM x p));have b3:(DY x p s1.2).2.full=false→Do (DY x p s1.2).2 (DY x p s1.2).1=E5 p (BM x p):=b3
 change Fx x roots (DY x p s1.2).2 at b1
 change (DY x p s1.2).1<(DY x p s1.2).2.drv.length at b2
 change Grow s1.2 (DY x p s1.2).2 at bg
 generalize DY x p s1.2=s2 at *
 have pX:s2.2.full=false→s1.2.full=false∧s.full=false:=fun h=>by
  have h1:s1.2.full=false:=by
   cases e:s1.2.full with
   |false=>rfl
   |true=>rw[bg.full e]at h;cases h
  refine⟨h1,?_⟩;cases e:s.full with
  |false=>rfl
  |true=>rw[ag.full e]at h1;cases h1
 have main:=NA (D:=Ax dec) (U:=Zc p dec) (p:=p) hV ((s2.1,fun k=>has (BM x p) k=false)::L.map fun y=>(y.1,fun k=>k=y.2.place)) (C:=fun k=>has n0.rq.set k=false) b1 (BK a2 bg.len)
  (fun y hy=>by
   rcases AF.1 hy with rfl | hy
   ·exact b2
   ·obtain⟨z,hz,rfl⟩:=Ao.1 hy;exact BK (Dt z hz) (ag.trans bg).len) (fun hf=>by
   obtain⟨f1,f0⟩:=pX hf;refine⟨?_,fun y hy=>?_⟩
   ·rw[bg.at a2,a3 f1];refine⟨hI.form,hI.inU _ (fun h=>Ag _ (Gq.1 (hI.path h))) (by rw[u7];exact Ab ..),hI.viol,fun k k0 k1 hk=>?_⟩;have ok:Wr (Ax dec) p (J7 (Ax dec) p (O1 k)):=.ver hV (EX ⟨k0,k1⟩);rw[hI.raw _ ok.val,BG];intro t ht;have VS:=BG.1 ((hI.raw _ hV).symm.trans hI.viol) t ht;unfold MR at ht;have fI:Df (Dy n0.rq) (BV (J7 (Ax dec) p (O1 k)) (Dy n0.rq).path)=true:=by
     rw[show(Dy n0.rq).path=p from u7,HZ oC];exact QH (.inr ⟨_,rfl,EX ⟨k0,k1⟩,by rw[show(⟨p,O1 k⟩:Sl).ver=O1 k from rfl,G6];exact hk⟩)
    split at ht
    ·rw[Ai.1 ht];exact fI
    ·rename_i hm;rcases AF.1 ht with rfl | ht
     ·have Dn:n0.path≠p:=fun e=>by
       have:=hI.path hm
       rw[e,oC]at this;cases this
      rw[show(⟨n0.path,false,[(n0.place,n0.place+1)]⟩:Tm).path=n0.path from rfl]at VS⊢;rw[ok.same _ Dn];exact VS
     ·rw[Ai.1 ht];exact fI
   ·rcases AF.1 hy with rfl | hy
    ·show je _ _ p (Do s2.2 s2.1) _;rw[b3 hf];refine⟨Mf _,Ta (fun t ht=>by rw[Ai.1 ht];exact Ab ..),qh,⟨_,ou,by rw[Ls _ ou.val];exact VU u u0 u1 hu⟩,fun k k0 k1 hk=>?_⟩;rw[Ls _ (Wr.ver hV (EX ⟨k0,k1⟩)).val];exact VU k k0 k1 hk
    ·obtain⟨z,hz,rfl⟩:=Ao.1 hy;show je _ _ p (Do s2.2 z.1) _;rw[(ag.trans bg).at (Dt z hz)];obtain⟨e1,e2⟩:=qI f0 z hz;have hzc:z.2∈Bm x p:=by rw[←hL];exact Ao.2 ⟨z,hz,rfl⟩
     obtain⟨c1,c2⟩:=Gd hzc
     have:=cY hx hd c2 (by rw[c1];exact hN.undone) (hs.forms z.1) e1 (by rw[c1];exact e2)
     rw[c1]at this;exact this)
 have uS:((s2.1,fun k=>has (BM x p) k=false)::L.map fun y=>(y.1,fun k=>k=y.2.place)).map (·.1)=s2.1::L.map (·.1):=by
  rw[AM,BW];rfl
 rw[uS]at main;obtain⟨m1,m2,m3,m4⟩:=main;refine⟨m1,(ag.trans bg).trans m2,m3,fun hf=>?_⟩;obtain⟨C',q1,q2⟩:=m4 hf;have z6:Cq (Do (B7 p (s2.1::L.map (·.1)) s1.1 s2.2).2 (B7 p (s2.1::L.map (·.1)) s1.1 s2.2).1) p=false:=by
  rcases q2 with q2 | q2
  ·exact q2
  ·refine gy oC q1.form q1.none_ fun k k0 k1=>q1.cov k k0 k1 (q2 k ?_);cases r8:has n0.rq.set k with
   |false=>exact .inl rfl
   |true =>
    cases ha:has (BM x p) k with
    |false=>exact .inr ⟨_,Ab ..,ha⟩
    |true =>
     obtain⟨c,hc,e⟩:=(Up hx).1 ha;rw[←hL]at hc;obtain⟨z,hz,rfl⟩:=Ao.1 hc;exact .inr ⟨_,Ag _ (Ao.2 ⟨z,hz,rfl⟩),e.symm⟩
 refine K3.2 ⟨q1.none_,fun t ht=>?_⟩
 have:=q1.inU.2 t ht
 rcases AF.1 this with e | h
 ·exact absurd e (JD z6 t ht)
 ·exact Gq.2 h
end
end Go.Eng

namespace Go.Eng
def GX(s:SS)(b:List Cd)(p:ByteArray)(needs:List Nd):List Cd→List Sk→Prop
 | [],sk=>sk=[]
 |c::cs,sk=>if(needs.all fun n=>has n.rq.set c.place)=true then ∃(k:Nat) (rest:List Sk),sk=⟨p,c.place,k⟩::rest∧(k<s.drv.length∧Cr (Do s k) (Ax (b++[c]))=true)∧GX s b p needs cs rest
  else GX s b p needs cs sk
section
variable {s s' : SS}{b:List Cd}{p:ByteArray}{needs:List Nd}
theorem GX.out{c:Cd}(hc:¬(needs.all fun n=>has n.rq.set c.place)=true):∀{cs:List Cd} {sk:List Sk},GX s b p needs cs sk→GX s b p needs (cs++[c]) sk
 | [],sk,h=>by
  show(if _ then _ else _);rw[Am hc];exact h
 |d::cs,sk,h=>by
  have h:if(needs.all fun n=>has n.rq.set d.place)=true then _ else _:=h
  show(if _ then _ else _)
  by_cases hd:(needs.all fun n=>has n.rq.set d.place)=true
  ·rw[Aw hd]at h⊢;obtain⟨k,rest,h1,h2,h3⟩:=h;exact⟨k,rest,h1,h2,GX.out hc h3⟩
  ·rw[Am hd]at h⊢;exact GX.out hc h
theorem GX.add{c:Cd}(hc:(needs.all fun n=>has n.rq.set c.place)=true){k:Nat}(hk:k<s.drv.length∧Cr (Do s k) (Ax (b++[c]))=true):∀{cs:List Cd} {sk:List Sk},GX s b p needs cs sk→GX s b p needs (cs++[c]) (sk++[⟨p,c.place,k⟩])
 | [],sk,h=>by
  have h:sk=[]:=h;subst h;show(if _ then _ else _);rw[Aw hc];exact⟨k,[],rfl,hk,rfl⟩
 |d::cs,sk,h=>by
  have h:if(needs.all fun n=>has n.rq.set d.place)=true then _ else _:=h
  show(if _ then _ else _)
  by_cases hd:(needs.all fun n=>has n.rq.set d.place)=true
  ·rw[Aw hd]at h⊢;obtain⟨j,rest,rfl,h2,h3⟩:=h;exact⟨j,_,rfl,h2,GX.add hc hk h3⟩
  ·rw[Am hd]at h⊢;exact GX.add hc hk h
theorem GX.mono(hg:Grow s s'):∀{cs:List Cd} {sk:List Sk},GX s b p needs cs sk→GX s' b p needs cs sk
 | [],_,h=>h
 |d::cs,sk,h=>by
  have h:if(needs.all fun n=>has n.rq.set d.place)=true then _ else _:=h
  show(if _ then _ else _)
  by_cases hd:(needs.all fun n=>has n.rq.set d.place)=true
  ·rw[Aw hd]at h⊢;obtain⟨j,rest,rfl,h2,h3⟩:=h;exact⟨j,rest,rfl,⟨BK h2.1 hg.len,by rw[hg.at h2.1];exact h2.2⟩,h3.mono hg⟩
  ·rw[Am hd]at h⊢;exact h.mono hg
end
structure lY(x:List Rl)(roots:List Rq)(s:SS)(b:List Cd)(c:Cd)(sk:List Sk)(p:ByteArray)(needs:List Nd)(pre post:List Cd):Prop where
 next:oe roots b p needs
 cands:Bm x p=pre++c::post
 fit:∀n∈needs,has n.rq.set c.place=true
 noclash:Dw b c=none
 skips:GX s b p needs pre sk
def RC(x:List Rl)(roots:List Rq)(s:SS):List Cd→List Cd→List (List Sk)→Prop
 |b,[],[]=>Gt (FD roots b) (Ax b)=none
 |b,c::t,sk::st=>(∃p needs pre post,lY x roots s b c sk p needs pre post)∧RC x roots s (b++[c]) t st
 |_,_,_=>False
structure Vo(x:List Rl)(roots:List Rq)(ls:List (List Cd))(dec:List Cd)(s:SS)(st:List (List Sk))(o:Ju):Prop where
 der:Fx x roots o.ss
 grow:Grow s o.ss
 no:o.found=false→o.dec=dec∧o.stack=st∧(o.ss.full=false→o.res<o.ss.drv.length∧Cr (Do o.ss o.res) (Ax dec)=true)
 yes:o.found=true→o.ss.full=false∧∃t sl,o.dec=dec++t∧o.stack=st++sl∧RC x roots o.ss dec t sl∧ls.head?=some o.dec
section
variable {rec:List Cd→SS→List (List Sk)→Ju}{x:List Rl}{roots:List Rq}{p:ByteArray}{needs:List Nd}{n0:Nd}{dec:List Cd}{st:List (List Sk)}
def Ib(rec:List Cd→SS→List (List Sk)→Ju)(x:List Rl)(p:ByteArray)(needs:List Nd)(n0:Nd)(dec:List Cd)(st:List (List Sk))(c:Cd)(cs:List Cd)(reasons:List Nat)(skips:List Sk)(k:Nat)(s:SS):Ju :=
 if Cq (Do s k) p=false then⟨k,false,s,dec,st⟩else DB rec x p needs n0 dec st cs s (reasons++[k]) (skips++[⟨p,c.place,k⟩])
theorem FQ(c:Cd)(cs:List Cd)(s:SS)(reasons:List Nat)(skips:List Sk):DB rec x p needs n0 dec st (c::cs) s reasons skips =
  if s.full=true then⟨0,false,s,dec,st⟩
  else match needs.find? fun n=>!has n.rq.set c.place with
   |some n=>DB rec x p needs n0 dec st cs (A8 s n).2 (reasons++[(A8 s n).1]) skips
   |none=>match Nr s.drv (Ax (dec++[c]))with
    |some k=>Ib rec x p needs n0 dec st c cs reasons skips k s
    |none=>match Dw dec c with
     |some n=>Ib rec x p needs n0 dec st c cs reasons skips (A8 s n).1 (A8 s n).2
     |none=>if(rec (dec++[c]) s (st++[skips])).found=true then⟨0,true,(rec (dec++[c]) s (st++[skips])).ss,(rec (dec++[c]) s (st++[skips])).dec,(rec (dec++[c]) s (st++[skips])).stack⟩
      else if(rec (dec++[c]) s (st++[skips])).ss.full=true then⟨0,false,(rec (dec++[c]) s (st++[skips])).ss,dec,st⟩
      else Ib rec x p needs n0 dec st c cs reasons skips (rec (dec++[c]) s (st++[skips])).res (rec (dec++[c]) s (st++[skips])).ss:=rfl
theorem ZY{s:SS}(hs:Fx x roots s){n:Nd}(h:∀d,BO x roots d (MP n)=some (Hx n)):Fx x roots (A8 s n).2∧(A8 s n).1<(A8 s n).2.drv.length∧((A8 s n).2.full=false→Do (A8 s n).2 (A8 s n).1=Hx n)∧Grow s (A8 s n).2:=by
 obtain⟨a1,a2,a3⟩:=Ki hs (h s.drv);exact⟨a1,a2,a3,Kj _ _ _⟩
theorem Vo.grown{ls:List (List Cd)}{s s' : SS}{o:Ju}(hg:Grow s s')(h:Vo x roots ls dec s' st o):Vo x roots ls dec s st o:=⟨h.der,hg.trans h.grow,h.no,h.yes⟩
theorem Us(hx:A6 x=0)(hr:BE roots=0)(hd:DX x dec)(bR:IG roots dec)(hN:oe roots dec p needs)(h0:n0∈needs){lv:List Cd→List (List Cd)}(dz:∀c∈Bm x p,Wp dec needs c=true→∀d∈lv (dec++[c]),Lf x roots (dec++[c]) d)
  (Pt:∀c∈Bm x p,Wp dec needs c=true→∀s st,Fx x roots s→s.full=false→Vo x roots (lv (dec++[c])) (dec++[c]) s st (rec (dec++[c]) s st)) :
  ∀(cs:List Cd) {s:SS} (L:List (Nat×Cd)) {skips:List Sk},L.map (·.2)++cs=Bm x p→Fx x roots s→(∀y∈L,y.1<s.drv.length)→(s.full=false→(∀y∈L,Cr (Do s y.1) (Ax (dec++[y.2]))=true∧Cq (Do s y.1) p=true)∧GX s dec p needs (L.map (·.2)) skips) →
   Vo x roots (((Bm x p).map fun c=>if Wp dec needs c then lv (dec++[c])else []).flatten) dec s st (DB rec x p needs n0 dec st cs s (L.map (·.1)) skips)
 | [],s,L,skips,hL,hs,Dt,qI=>by
  rw[CP]at hL;obtain⟨l1,l2,l3,l4⟩:=cc hx hr hd hN h0 L hL hs Dt (fun hf=>(qI hf).1);exact⟨l1,l2,fun _=>⟨rfl,rfl,fun hf=>⟨l3,l4 hf⟩⟩,fun h=>(by cases h)⟩
 |c::cs,s,L,skips,hL,hs,Dt,qI=>by
  rw[FQ]
  by_cases hf:s.full=true
  ·rw[Aw hf];exact⟨hs,.refl s,fun _=>⟨rfl,rfl,fun h=>by rw[show(⟨0,false,s,dec,st⟩:Ju).ss=s from rfl,hf]at h;cases h⟩,fun h=>(by cases h)⟩
  rw[Am hf];have hf:s.full=false:=by simpa using hf
  obtain⟨qJ,nh⟩:=qI hf;have hc:c∈Bm x p:=by rw[←hL];simp
  obtain⟨c1,c2⟩:=Gd hc;have hu:CD dec c.rel.path=false:=by rw[c1];exact hN.undone
  have hE:=hd.snoc c2 hu
  -- on to the next candidate
  have go:∀(s' : SS) (k:Nat) (Lh : List Sk),Fx x roots s'→Grow s s'→k<s'.drv.length→(s'.full=false→(Cr (Do s' k) (Ax (dec++[c]))=true∧Cq (Do s' k) p=true)∧GX s' dec p needs (L.map (·.2)++[c]) Lh) →
    Vo x roots (((Bm x p).map fun c=>if Wp dec needs c then lv (dec++[c])else []).flatten) dec s st (DB rec x p needs n0 dec st cs s' (L.map (·.1)++[k]) Lh):=fun s' k Lh Wn hg hk Dn=>by
   have:=Us hx hr hd bR hN h0 dz Pt cs (s:=s') (L++[(k,c)]) (skips:=Lh) (by rw[AB,BU];exact hL) Wn
    (fun y hy=>by
     rcases A2.1 hy with hy | hy
     ·exact BK (Dt y hy) hg.len
     ·rw[Ai.1 hy];exact hk)
    (fun Xc=>by
     obtain⟨e1,e2⟩:=Dn Xc;refine⟨fun y hy=>?_,by rw[AB];exact e2⟩;rcases A2.1 hy with hy | hy
     ·rw[hg.at (Dt y hy)];exact qJ y hy
     ·rw[Ai.1 hy];exact e1)
   rw[AB]at this;exact this.grown hg
  cases mX:needs.find? fun n=>!has n.rq.set c.place with
  |some n =>
   dsimp only;have dA:=B6 mX;have jU:=D7 mX;have jU:has n.rq.set c.place=false:=by simpa using jU
   obtain⟨zY,zZ⟩:=(hN.mem n).1 dA;obtain⟨e1,e2,e3⟩:=OH hx hr hE (NF zY) ⟨c,by simp,by rw[c1,zZ],jU⟩;obtain⟨i1,i2,i3,i4⟩:=ZY hs e1;refine go _ _ _ i1 i4 i2 fun Xc=>?_;rw[i3 Xc];exact⟨⟨e2,cp hx hr hd hN hc dA jU⟩,GX.out (by
    intro h;rw[BB]at h;rw[h n dA]at jU;cases jU) (nh.mono i4)⟩
  |none =>
   dsimp only;have YQ:∀n∈needs,has n.rq.set c.place=true:=fun n hn=>by
    rw[DO]at mX;simpa using mX n hn
   have HW:(needs.all fun n=>has n.rq.set c.place)=true:=by rw[BB];exact YQ
   have dJ:∀(s' : SS) (k:Nat),Fx x roots s'→Grow s s'→k<s'.drv.length→(s'.full=false→Cr (Do s' k) (Ax (dec++[c]))=true) →
     Vo x roots (((Bm x p).map fun c=>if Wp dec needs c then lv (dec++[c])else []).flatten) dec s st (Ib rec x p needs n0 dec st c cs (L.map (·.1)) skips k s'):=fun s' k Wn hg hk he=>by
    unfold Ib;cases ov:Cq (Do s' k) p with
    |false =>
     rw[Aw rfl];exact⟨Wn,hg,fun _=>⟨rfl,rfl,fun Xc=>⟨hk,eD hx hd c2.1 (he Xc) (by rw[c1];exact ov)⟩⟩,fun h=>(by cases h)⟩
    |true =>
     rw[Am (by decide)];exact go _ _ _ Wn hg hk fun Xc=>⟨⟨he Xc,ov⟩,GX.add HW ⟨hk,he Xc⟩ (nh.mono hg)⟩
   cases hen:Nr s.drv (Ax (dec++[c]))with
   |some k =>
    dsimp only;obtain⟨k1,k2⟩:=Kr hen;exact dJ s k hs (.refl s) k1 fun _=>k2
   |none =>
    dsimp only;cases hcl:Dw dec c with
    |some n =>
     dsimp only;obtain⟨m1,m2⟩:=KW hcl;obtain⟨e1,e2,e3⟩:=OH hx hr hE (MA m1) m2;obtain⟨i1,i2,i3,i4⟩:=ZY hs e1;exact dJ _ _ i1 i4 i2 fun Xc=>by rw[i3 Xc];exact e2
    |none =>
     dsimp only;have F3:Wp dec needs c=true:=JR.2 ⟨YQ,hcl⟩;have hR:=Pt c hc F3 s (st++[skips]) hs hf;generalize rec (dec++[c]) s (st++[skips])=o at hR
     by_cases Qr:o.found=true
     ·rw[Aw Qr];obtain⟨y1,t,sl,y2,y3,y4,y5⟩:=hR.yes Qr;refine⟨hR.der,hR.grow,fun h=>(by cases h),fun _=>⟨y1,c::t,skips::sl,by show o.dec=_;rw[y2];simp,by show o.stack=_;rw[y3];simp,⟨⟨p,needs,L.map (·.2),cs,hN,hL.symm,YQ,hcl,nh.mono hR.grow⟩,y4⟩,?_⟩⟩;show _=some o.dec;rw[←hL,AB,Ct,AM,BL];have ne:((L.map (·.2)).map fun c=>if Wp dec needs c then lv (dec++[c])else []).flatten=[]:=by
       rw[List.flatten_eq_nil_iff];intro l hl;obtain⟨d,W7,rfl⟩:=Ao.1 hl;obtain⟨y,hy,rfl⟩:=Ao.1 W7;split
       ·rename_i hoy;have hyc:y.2∈Bm x p:=by rw[←hL];exact Bs _ W7
        refine Lw.2 fun d ux=>kz hx hs (Dt y hy) (qJ y hy).1 (dz y.2 hyc hoy d ux)
       ·rfl
      rw[ne,D8,Aw F3,List.head?_append,y5];rfl
     ·rw[Am Qr];have Qr:o.found=false:=by simpa using Qr
      obtain⟨n1,n2,n3⟩:=hR.no Qr
      by_cases mY:o.ss.full=true
      ·rw[Aw mY];exact⟨hR.der,hR.grow,fun _=>⟨rfl,rfl,fun h=>by rw[show(⟨0,false,o.ss,dec,st⟩:Ju).ss=o.ss from rfl,mY]at h;cases h⟩,fun h=>(by cases h)⟩
      ·rw[Am mY];have mY:o.ss.full=false:=by simpa using mY
       exact dJ _ _ hR.der hR.grow (n3 mY).1 fun _=>(n3 mY).2
end
theorem Nu{x:List Rl}{dec:List Cd}{c:Cd}(h:c.rel∈x∧c.rel.yanked=false)(hu:CD dec c.rel.path=false):FB x (dec++[c])<FB x dec:=by
 have key:∀l:List Rl,(l.filter fun r=>!r.yanked&&!CD (dec++[c]) r.path).length≤(l.filter fun r=>!r.yanked&&!CD dec r.path).length ∧
   (c.rel∈l→(l.filter fun r=>!r.yanked&&!CD (dec++[c]) r.path).length<(l.filter fun r=>!r.yanked&&!CD dec r.path).length):=by
  intro l
  induction l with
  |nil=>exact⟨Ak _,fun h=>(by cases h)⟩
  |cons r l ih =>
   have fL:(!r.yanked&&!CD (dec++[c]) r.path)=true→(!r.yanked&&!CD dec r.path)=true:=fun e=>by
    simp only[Af,CN]at e⊢;refine⟨e.1,?_⟩
    have:=e.2
    unfold CD at this⊢;rw[Gj,Bool.or_eq_false_iff]at this;exact this.1
   rw[Dp,Dp];refine⟨?_,fun hm=>?_⟩
   ·by_cases e:(!r.yanked&&!CD (dec++[c]) r.path)=true
    ·rw[Aw e,Aw (fL e)];simp;exact ih.1
    ·rw[Am e];split
     ·simp;have:=ih.1;omega
     ·exact ih.1
   ·rcases AF.1 hm with rfl | hm
    ·have e1:¬(!c.rel.yanked&&!CD (dec++[c]) c.rel.path)=true:=by
      have:CD (dec++[c]) c.rel.path=true:=by unfold CD;simp
      rw[this];simp
     have e2:(!c.rel.yanked&&!CD dec c.rel.path)=true:=by rw[h.2,hu];rfl
     rw[Am e1,Aw e2];simp;have:=ih.1;omega
    ·have:=ih.2 hm
     by_cases e:(!r.yanked&&!CD (dec++[c]) r.path)=true
     ·rw[Aw e,Aw (fL e)];simp;exact this
     ·rw[Am e];split
      ·simp;omega
      ·exact this
 exact(key x).2 h.1
theorem PQ{x:List Rl}{roots:List Rq}(hx:A6 x=0)(hr:BE roots=0):∀(n:Nat) {dec:List Cd} {s:SS} {st:List (List Sk)},DX x dec→IG roots dec→Fx x roots s→s.full=false→FB x dec<n →
  Vo x roots (B9 x roots n dec) dec s st (CH x roots n dec s st)
 |0,_,_,_,_,_,_,_,h=>by omega
 |n+1,dec,s,st,hd,bR,hs,hf,hn=>by
  unfold CH B9;cases e:(Dz roots dec).2 with
  |nil =>
   exact⟨hs,.refl s,fun h=>(by cases h),fun _=>⟨hf,[],[],by simp,by simp,NI.1 e,rfl⟩⟩
  |cons n0 l =>
   have hN:=HY e;have next:∀c∈Bm x (Dz roots dec).1,Wp dec (n0::l) c=true→DX x (dec++[c])∧IG roots (dec++[c])∧FB x (dec++[c])<n:=fun c hc F3=>by
    obtain⟨c1,c2⟩:=Gd hc;have hu:CD dec c.rel.path=false:=by rw[c1];exact hN.undone
    obtain⟨k1,k2⟩:=JR.1 F3;exact⟨hd.snoc c2 hu,bR.snoc hN c1 k1 k2,by have:=Nu (dec:=dec) ⟨c2.1,c2.2.1⟩ hu;omega⟩
   exact Us hx hr hd bR hN (Ab ..) (lv:=B9 x roots n) (fun c hc F3 d W7=>GE (next c hc F3).1 (next c hc F3).2.1 d W7)
    (fun c hc F3 s st hs hf=>PQ hx hr n (next c hc F3).1 (next c hc F3).2.1 hs hf (next c hc F3).2.2) _ [] rfl hs (fun y hy=>by cases hy) (fun _=>⟨fun y hy=>(by cases hy),rfl⟩)
theorem W3(x:List Rl)(dec:List Cd):FB x dec≤x.length:=By _ _
theorem MG{x:List Rl}{roots:List Rq}(hx:A6 x=0)(hr:BE roots=0):Vo x roots (B9 x roots (x.length+1) []) [] JA [] (Eu x roots) :=
 PQ hx hr _ (.nil x) (.nil roots) (.nil x roots) rfl (by have:=W3 x [];omega)
end Go.Eng

namespace Go.Eng
end Go.Eng

namespace Go.Eng
end Go.Eng
