/- Lemmas for the claims of this seat, without a condition: part 3 (Q3, Q4, P15, Q5, Q6, Q7, Q8, P16). -/
import Derived.Test.YtmcbkdbfaneofaaGreatDoorDA02
namespace Go.Eng
theorem LG:∀{l:List Rq} {b:Option ByteArray},FN b l=0→∀q∈l,q.set≠[]∧EC q.set
 | [],_,_,q,hq=>by cases hq
 |r::l,b,h,q,hq=>by
  unfold FN at h;split at h
  ·rename_i e;rcases Au.1 hq with rfl | hq
   ·unfold GH at e
    by_cases h1:(Cr q.path).isNone=true
    ·rw[Az h1]at e;exact absurd e (by decide)
    rw[Al h1]at e;cases hE:q.set.isEmpty with
    |true=>rw[hE]at e;simp at e
    |false =>
     cases hD:decide (q.set=canon q.set)with
     |false=>rw[hD]at e;simp at e
     |true =>
      have h3:q.set=canon q.set:=BG hD;exact⟨by simpa using hE,by rw[h3];exact Co _⟩
   ·exact LG h q hq
  ·rename_i e;exact absurd h e
theorem KQ{l:List Rq}(h:BS l=0):∀q∈l,q.set≠[]∧EC q.set:=by
 unfold BS at h;split at h
 ·cases h
 ·exact LG h
abbrev Pc(k:Int):Ver:=⟨0,k / 1000,k % 1000⟩
theorem G3(k:Int):place (Pc k)=k:=by unfold place;show 1000*(k / 1000)+k % 1000=k;omega
theorem EV{k:Int}(h:0≤k∧k<1000000):CM (Pc k)=true:=by
 unfold CM okPart;simp only[Ag];exact⟨⟨Aw (by omega),Aw (by omega)⟩,Aw (by omega)⟩
structure WG(D:List Sl)(p:ByteArray)(S:List Sl):Prop where
 val:F2 S
 same:∀q,q≠p→Cb S q=Cb D q
abbrev J6(D:List Sl)(p:ByteArray)(v:Ver):List Sl:=D++[⟨p,v⟩]
theorem JV(a b:List Sl)(p:ByteArray):Cb (a++b) p=(Cb a p).or (Cb b p):=by
 unfold Cb;rw[List.find?_append]
theorem Hu{s:List Sl}{p:ByteArray}(h:CG s p=false):Cb s p=none:=by
 rw[JH]at h;cases e:Cb s p with
 |none=>rfl
 |some y=>rw[e]at h;cases h
theorem WG.self{D:List Sl}{p:ByteArray}(h:F2 D):WG D p D:=⟨h,fun _ _=>rfl⟩
theorem WG.ver{D:List Sl}{p:ByteArray}(h:F2 D){v:Ver}(hv:CM v=true):WG D p (J6 D p v):=by
 refine⟨fun y hy=>?_,fun q hq=>?_⟩
 ·rcases A3.1 hy with hy | hy
  ·exact h y hy
  ·rw[Ai.1 hy];exact hv
 ·rw[JV]
  have:Cb [(⟨p,v⟩:Sl)] q=none:=by unfold Cb;simp[Ne.symm hq]
  rw[this,Option.or_none]
theorem H6{D:List Sl}{p:ByteArray}(hp:CG D p=false)(v:Ver):Cb (J6 D p v) p=some ⟨p,v⟩:=by
 rw[JV,Hu hp];unfold Cb;simp
theorem Qy{D:List Sl}{p:ByteArray}(hp:CG D p=false){v v' : Ver}(hv:CM v=true)(sf : CM v'=true)(e:place v=place v')(q:ByteArray)(t:Tm) :
  Di t (Cb (J6 D p v) q)=Di t (Cb (J6 D p v') q):=by
 by_cases hq:q=p
 ·subst hq;rw[H6 hp,H6 hp];show(CM v&&has t.set (place v))=(CM v'&&has t.set (place v'));rw[hv,sf,e]
 ·have h1:∀w:Ver,Cb (J6 D p w) q=Cb D q:=fun w=>by
   rw[JV]
   have:Cb [(⟨p,w⟩:Sl)] q=none:=by unfold Cb;simp[Ne.symm hq]
   rw[this,Option.or_none]
  rw[h1,h1]
theorem ZD{D:List Sl}{p:ByteArray}(hp:CG D p=false){v v' : Ver}(hv:CM v=true)(sf : CM v'=true)(e:place v=place v')(t:List Tm):Bh t (J6 D p v)=Bh t (J6 D p v'):=by
 rw[BV,BB,BB];exact⟨fun h u hu=>by rw[←Qy hp hv sf e];exact h u hu,fun h u hu=>by rw[Qy hp hv sf e];exact h u hu⟩
theorem KJ{D S S' : List Sl}{p:ByteArray}(h:WG D p S)(h' : WG D p S'){t:List Tm}(ht:∀u∈t,u.path≠p):Bh t S=Bh t S':=by
 rw[BV,BB,BB];exact⟨fun k u hu=>by rw[h'.same _ (ht u hu),←h.same _ (ht u hu)];exact k u hu,fun k u hu=>by rw[h.same _ (ht u hu),←h'.same _ (ht u hu)];exact k u hu⟩
theorem JD{t:List Tm}{p:ByteArray}(h:CZ t p=false):∀u∈t,u.path≠p:=fun u hu e=>by
 unfold CZ at h;rw[Fl]at h;exact h u hu (by simpa using e)
theorem RX{t:List Tm}{p:ByteArray}(h:CZ t p=true):∃u∈t,u.path=p:=by
 unfold CZ at h;rw[A7]at h;obtain⟨u,hu,e⟩:=h;exact⟨u,hu,by simpa using e⟩
theorem TH{t:List Tm}{p:ByteArray}(hf:KL t)(hc:CZ t p=true):∃u r,Fj t p=some (u,r)∧u.path=p∧∀v∈r,v.path≠p:=by
 obtain⟨u,hu,e⟩:=RX hc;have hs:=EK hf;have mY:=(FD hs).1 hu;rw[e]at mY;refine⟨u,FJ t p,?_,e,fun v hv=>?_⟩
 ·unfold Fj;rw[show CO t=some t from hf];dsimp only;rw[mY]
 ·have:=(Bx.1 hv).2
  simpa using this
theorem Wl{D:List Sl}{p:ByteArray}{t b:List Tm}(fj:KL t)(mX:KL b)(zm:CZ t p=true)(ub:CZ b p=true){S1 S2:List Sl}(h1:WG D p S1)(v1:Bh t S1=true)(h2:WG D p S2)(v2:Bh b S2=true) :
  (Bw t b p).2=0∧∀S,WG D p S→Bh t S=true∨Bh b S=true→Bh (Bw t b p).1 S=true:=by
 obtain⟨u,r,e1,pu,nr⟩:=TH fj zm;obtain⟨w,m,e2,pw,nm⟩:=TH mX ub;have key:∀S,WG D p S→Bh t S=true∨Bh b S=true→Bh (r++m++[Dh u w]) S=true:=fun S hS hv=>by
  have r1:Bh r S=true:=by
   rw[KJ hS h1 nr];rw[(FI h1.val e1).1,Ag]at v1;exact v1.2
  have m1:Bh m S=true:=by
   rw[KJ hS h2 nm];rw[(FI h2.val e2).1,Ag]at v2;exact v2.2
  rw[GV,GV,r1,m1];simp only[EB];rw[BB];intro y hy;rw[Ai.1 hy,show(Dh u w).path=p from pu,M1,CE];rcases hv with hv | hv
  ·rw[(FI hS.val e1).1,Ag]at hv;exact .inl hv.1
  ·rw[(FI hS.val e2).1,Ag]at hv;exact .inr hv.1
 unfold Bw;rw[e1,e2];dsimp only;have c1:=CX (l:=r++m++[Dh u w]) h1.val;rw[key S1 h1 (.inl v1)]at c1;cases hc:CO (r++m++[Dh u w])with
 |none=>rw[hc]at c1;cases c1
 |some o =>
  dsimp only;refine⟨rfl,fun S hS hv=>?_⟩;have c2:=CX (l:=r++m++[Dh u w]) hS.val;rw[hc,key S hS hv]at c2;exact c2.symm
theorem gw{D:List Sl}{p:ByteArray}(hp:CG D p=false){t:List Tm}(hf:KL t)(h0:Bh t D=true)(hk:∀k:Int,0≤k→k<1000000→Bh t (J6 D p (Pc k))=true):CZ t p=false:=by
 rw[AI];intro hc;obtain⟨u,hu,e⟩:=RX hc;have ha:u.absent=true:=by
  have:=BB.1 h0 u hu
  rw[e,Hu hp]at this;exact this
 have hs:∀k:Int,0≤k→k<1000000→has u.set k=true:=fun k k0 k1=>by
  have:=BB.1 (hk k k0 k1) u hu
  rw[e,H6 hp]at this;unfold Di at this;rw[Ag]at this
  have:=this.2
  rw[show(⟨p,Pc k⟩:Sl).ver=Pc k from rfl,G3]at this;exact this
 have oz:EC u.set:=Cc.canon (EK hf) u hu;have fm:u.set=[(0,1000000)]:=by
  refine Hq oz ⟨by decide,by decide,by decide,trivial⟩ fun k=>?_;rw[BV];constructor
  ·intro h
   have:=LV h
   unfold has;simp[BK,this.1,this.2]
  ·intro h
   have:=LV h
   exact hs k this.1 this.2
 have pT:Gr u=true:=by unfold Gr;rw[ha,fm];rfl
 have rY:CO t=some t:=hf;unfold CO at rY;split at rY
 ·cases rY
 ·have e2:=BM rY;rw[←e2]at hu
  have:=(Bx.1 hu).2
  rw[pT]at this;cases this
structure ED(x:List Rl)(dec:List Cd):Prop where
 cand:∀c∈dec,c.rel∈x∧c.rel.yanked=false∧c.place=plc c.rel.ver
 nodup:(dec.map fun c=>c.rel.path).Nodup
theorem ED.nil(x:List Rl):ED x []:=⟨fun _ h=>(by cases h),E7⟩
theorem Tn{r:Rl}(h:RD r):r.path≠mt:=fun e=>by
 have:=h.maj
 rw[e]at this;have h2:Cr mt=none:=by decide
 rw[h2]at this;cases this
theorem RD.set{r:Rl}(h:RD r):∀q∈r.reqs,q.set≠[]∧EC q.set:=KQ h.reqs
theorem Nv(dec:List Cd):(AK dec).map (·.path)=dec.map fun c=>c.rel.path:=by unfold AK;rw[BP];rfl
theorem Nm:∀{D:List Sl},(D.map (·.path)).Nodup→∀{y:Sl},y∈D→Cb D y.path=some y
 | [],_,y,h=>by cases h
 |z::D,hn,y,h=>by
  simp only[AP,CT]at hn;unfold Cb;rw[Ft];rcases Au.1 h with rfl | h
  ·rw[Aw rfl]
  ·have:z.path≠y.path:=fun e=>hn.1 (Am.2 ⟨y,h,e.symm⟩)
   rw[Ap this];exact Nm hn.2 h
theorem ED.find{x:List Rl}{dec:List Cd}(h:ED x dec){c:Cd}(hc:c∈dec):Cb (AK dec) c.rel.path=some (SO c) :=
 Nm (by rw[Nv];exact h.nodup) (y:=SO c) (Am.2 ⟨c,hc,rfl⟩)
theorem ED.valid{x:List Rl}(hx:A9 x=0){dec:List Cd}(h:ED x dec):F2 (AK dec):=fun y hy=>by
 obtain⟨c,hc,rfl⟩:=Am.1 hy;exact((Cz hx).1 _ (h.cand c hc).1).val
theorem ED.snoc{x:List Rl}{dec:List Cd}(h:ED x dec){c:Cd}(hc:c.rel∈x∧c.rel.yanked=false∧c.place=plc c.rel.ver)(hd:De dec c.rel.path=false):ED x (dec++[c]):=by
 refine⟨fun d hd=>?_,?_⟩
 ·rcases A3.1 hd with hd | hd
  ·exact h.cand d hd
  ·rw[Ai.1 hd];exact hc
 ·rw[AH,F9];refine⟨h.nodup,by simp,fun a ha b hb e=>?_⟩;obtain⟨d,jL,rfl⟩:=Am.1 ha;simp only[AP,E0,Ai]at hb;unfold De at hd;rw[Fl]at hd;exact hd d jL (by simpa using e.trans hb)
theorem L4{roots:List Rq}{E:List Cd}{n:Nd}(h:n∈Ds roots E):(∃k q,roots[k]?=some q∧n=⟨q,mt,0,(k:Nat)⟩)∨∃c∈E,∃k q,c.rel.reqs[k]?=some q∧n=⟨q,c.rel.path,c.place,(k:Nat)⟩:=by
 unfold Ds at h;rcases A3.1 h with h | h
 ·obtain⟨k,q,h1,h2⟩:=XV h;exact .inl ⟨k,q,h1,h2⟩
 ·obtain⟨l,hl,hn⟩:=Ep.1 h;obtain⟨c,hc,rfl⟩:=Am.1 hl;obtain⟨k,q,h1,h2⟩:=XV hn;exact .inr ⟨c,hc,k,q,h1,h2⟩
theorem NE{roots:List Rq}{dec:List Cd}{c:Cd}{n:Nd}(h:n∈Ds roots dec):n∈Ds roots (dec++[c]):=by
 unfold Ds at *
 rw[AH,CI,←AO];exact Bi _ h
theorem Mz{roots:List Rq}{dec:List Cd}{c:Cd}{n:Nd}(h:n∈PP c):n∈Ds roots (dec++[c]):=by
 unfold Ds;rw[AH,CI,←AO];exact Bl _ (by simpa using h)
def MO(n:Nd):List Tm:=if n.path=mt then [DG n.rq]else [⟨n.path,false,[(n.place,n.place+1)]⟩,DG n.rq]
theorem OA(n:Nd):IW n=PK (MO n):=by unfold IW MO Jm Ef;split<;>rfl
theorem aK{s:Bn}(h:s≠[])(hc:EC s):∃k,has s k=true:=by
 match s,h,hc with
 |x::r,_,hc =>
  have:=EI.low hc x (Aa ..)
  refine⟨x.1,?_⟩;unfold has;have h1:BK x.1 x=true:=DM.2 ⟨AX _,this.2.1⟩;simp only[Ce,h1,Bool.true_or,Bool.and_true,Ag,AA];omega
theorem QL{q:Rq}{o:Option Sl}(h:o=none∨∃y,o=some y∧CM y.ver=true∧has q.set (place y.ver)=false):Di (DG q) o=true:=by
 rcases h with rfl | ⟨y,rfl,hv,hq⟩
 ·rfl
 ·show(CM y.ver&&has (Eg q.set) (place y.ver))=true
  have:=Jl hv
  rw[hv,FE,hq];unfold Lw;simp[this.1,this.2]
theorem Tj{q:Rq}{y:Sl}(hq:has q.set (place y.ver)=true):Di (DG q) (some y)=false:=by
 show(CM y.ver&&has (Eg q.set) (place y.ver))=false;rw[FE,hq];simp
structure oU(x:List Rl)(roots:List Rq)(S:List Sl)(n:Nd):Prop where
 inf:∀d,DR x roots d (SL n)=some (IW n)
 viol:Bh (IW n) S=true
 raw:∀S',F2 S'→Bh (IW n) S'=Bh (MO n) S'
 form:KL (IW n)
 inU:∀U:List ByteArray,(n.path≠mt→n.path∈U)→n.rq.path∈U→Uh U (IW n)
 path:n.path≠mt→CG S n.path=true
theorem Rk{x:List Rl}{roots:List Rq}(hx:A9 x=0)(hr:BS roots=0){E:List Cd}(hE:ED x E){n:Nd}(hn:n∈Ds roots E)
  (hv:Cb (AK E) n.rq.path=none∨∃y,Cb (AK E) n.rq.path=some y∧has n.rq.set (place y.ver)=false):oU x roots (AK E) n:=by
 have hV:=hE.valid hx;have fA:Di (DG n.rq) (Cb (AK E) n.rq.path)=true:=QL (hv.imp id fun⟨y,h1,h2⟩=>⟨y,h1,hV y (I8 h1),h2⟩)
 -- the raw list is Bh here,and not elsewhere
 have Nr:n.rq.set≠[]∧EC n.rq.set:=by
  rcases L4 hn with ⟨k,q,h1,rfl⟩ | ⟨c,hc,k,q,h1,rfl⟩
  ·exact KQ hr q (Av h1)
  ·exact((Cz hx).1 _ (hE.cand c hc).1).set q (Av h1)
 have V4:Bh (MO n) (AK E)=true∧(n.path≠mt→CG (AK E) n.path=true):=by
  rcases L4 hn with ⟨k,q,h1,rfl⟩ | ⟨c,hc,k,q,h1,rfl⟩
  ·refine⟨?_,fun h=>absurd rfl h⟩;unfold MO;rw[Az rfl,BB];intro u hu;rw[Ai.1 hu];exact fA
  ·have DD:=Tn ((Cz hx).1 _ (hE.cand c hc).1);refine⟨?_,fun _=>by rw[JH,hE.find hc];rfl⟩;unfold MO;rw[Al DD,BB];intro u hu;rcases Au.1 hu with rfl | hu
   ·show Di _ (Cb (AK E) c.rel.path)=true;rw[hE.find hc];show(CM c.rel.ver&&has [(c.place,c.place+1)] (place c.rel.ver))=true;have Gw:=(Cz hx).1 _ (hE.cand c hc).1;have hp:=Jl Gw.val;rw[Gw.val,(hE.cand c hc).2.2,Gw.plc];unfold has;simp[BK,hp.1,hp.2];omega
   ·rw[Ai.1 hu];exact fA
 have uv:∃S',F2 S'∧Bh (MO n) S'=false:=by
  unfold MO;split
  ·obtain⟨k,hk⟩:=aK Nr.1 Nr.2;have iK:=LV hk;refine⟨[⟨n.rq.path,Pc k⟩],fun y hy=>by rw[Ai.1 hy];exact EV iK,?_⟩;rw[AI];intro h
   have:=BB.1 h (DG n.rq) (Ai.2 rfl)
   rw[show(DG n.rq).path=n.rq.path from rfl,show Cb [(⟨n.rq.path,Pc k⟩:Sl)] n.rq.path=some ⟨n.rq.path,Pc k⟩ by unfold Cb;simp,Tj (by rw[show(⟨n.rq.path,Pc k⟩:Sl).ver=Pc k from rfl,G3];exact hk)]at this;cases this
  ·refine⟨[],fun y hy=>(by cases hy),?_⟩;rw[AI];intro h
   have:=BB.1 h _ (Aa ..)
   cases this
 obtain⟨V4,qv⟩:=V4;have DD:PK (MO n)≠[]:=by
  obtain⟨S',v',n'⟩:=uv;have c1:=CX (l:=MO n) hV;have c2:=CX (l:=MO n) v';unfold PK;cases hc:CO (MO n)with
  |none=>rw[hc,V4]at c1;cases c1
  |some c =>
   rw[hc,n']at c2;intro e;have e:c=[]:=e;rw[e]at c2;cases c2
 have lH:∀S',F2 S'→Bh (IW n) S'=Bh (MO n) S':=fun S' v=>by rw[OA];exact PL v DD
 refine⟨fun d=>?_,by rw[lH _ hV];exact V4,lH,by rw[OA];exact L6 _,fun U h1 h2=>?_,qv⟩
 ·rcases L4 hn with ⟨k,q,h1,rfl⟩ | ⟨c,hc,k,q,h1,rfl⟩
  ·show DR x roots d (if(mt:ByteArray)=mt then⟨0,mt,0,(k:Nat),0,0⟩else _)=some (if(mt:ByteArray)=mt then Jm q else _);rw[Az rfl,Az rfl];show(if mt=mt∧(0:Int)=0∧(0:Int)=0∧(0:Int)=0 then(Jj roots (k:Nat)).map Jm else none)=some (Jm q);rw[Az ⟨rfl,rfl,rfl,rfl⟩];unfold Jj;rw[Al (by omega),Ch,h1];rfl
  ·have Gw:=(Cz hx).1 _ (hE.cand c hc).1;have TO:=Tn Gw;have uI:OS x c.rel.path c.place=some c.rel:=by
    unfold OS;cases hf:x.find? fun r=>decide (r.path=c.rel.path)&&decide (plc r.ver=c.place)with
    |none =>
     rw[Ek]at hf;exact absurd (by simp[(hE.cand c hc).2.2]) (hf c.rel (hE.cand c hc).1)
    |some r =>
     have h2:=Fu hf;simp only[Ag,AA]at h2;have fD:=CH hf;have uA:=(Cz hx).1 r fD;rw[aH (Cz hx) fD (hE.cand c hc).1 h2.1 (by rw[←uA.plc,h2.2,(hE.cand c hc).2.2,Gw.plc])]
   have e1:SL ⟨q,c.rel.path,c.place,(k:Nat)⟩=⟨1,c.rel.path,c.place,(k:Nat),0,0⟩:=by unfold SL;rw[Al TO]
   have e2:IW ⟨q,c.rel.path,c.place,(k:Nat)⟩=Ef c.rel.path c.place q:=by unfold IW;rw[Al TO]
   rw[e1,e2];unfold DR;rw[Al (show ¬((1:Int)=0) by decide),Az rfl,Az ⟨rfl,rfl⟩];dsimp only;rw[uI];dsimp only;unfold Jj;rw[Al (by omega),Ch,h1];dsimp only;unfold cp;rw[Al];rw[GL,←e2,OA];exact DD
 ·rw[OA];refine Ti fun u hu=>?_;unfold MO at hu;split at hu
  ·rw[Ai.1 hu];exact h2
  ·rename_i hm;rcases Au.1 hu with rfl | hu
   ·exact h1 hm
   ·rw[Ai.1 hu];exact h2
structure iX(D:List Sl)(U:List ByteArray)(p:ByteArray)(t:List Tm)(C:Int→Prop):Prop where
 form:KL t
 inU:Uh U t
 conc:CZ t p=true
 one:∃S,WG D p S∧Bh t S=true
 cov:∀k:Int,0≤k→k<1000000→C k→Bh t (J6 D p (Pc k))=true
structure l6(D:List Sl)(U:List ByteArray)(p:ByteArray)(t:List Tm)(C:Int→Prop):Prop where
 form:KL t
 inU:Uh U t
 none_:Bh t D=true
 cov:∀k:Int,0≤k→k<1000000→C k→Bh t (J6 D p (Pc k))=true
theorem Fk.forms{x:List Rl}{roots:List Rq}{s:SS}(h:Fk x roots s):∀k,KL (DN s k):=fun k=>by
 unfold DN;rw[Ci];cases e:s.drv[k]? with
 |none=>exact Oq
 |some t=>exact MS (fun _ h=>by cases h) h.der t (Av e)
theorem UR{x:List Rl}{roots:List Rq}{d:List (List Tm)}{k r:Nat}{p:ByteArray}(hk:k<d.length)(hr:r<d.length)(h0:(Bw (d.getD k []) (d.getD r []) p).2=0) :
  DR x roots d ⟨3,p,0,0,(k:Nat),(r:Nat)⟩=some (Bw (d.getD k []) (d.getD r []) p).1:=by
 have e:∀j:Nat,j<d.length→Jj d (j:Nat)=some (d.getD j []):=fun j hj=>by
  unfold Jj;rw[Al (by omega),Ch,Ci,Ay hj];rfl
 unfold DR;rw[Al (show ¬((3:Int)=0) by decide),Al (show ¬((3:Int)=1) by decide),Al (show ¬((3:Int)=2) by decide),Az rfl,Az ⟨rfl,rfl⟩];dsimp only;rw[e k hk,e r hr];dsimp only;rw[Az h0]
theorem Nw{x:List Rl}{roots:List Rq}{D:List Sl}{U:List ByteArray}{p:ByteArray}(hD:F2 D):∀(l:List (Nat×(Int→Prop))) {k:Nat} {s:SS} {C:Int→Prop},Fk x roots s→k<s.drv.length→(∀y∈l,y.1<s.drv.length) →
  (s.full=false→l6 D U p (DN s k) C∧∀y∈l,iX D U p (DN s y.1) y.2) →
  Fk x roots (Ck p (l.map (·.1)) k s).2∧Grow s (Ck p (l.map (·.1)) k s).2∧(Ck p (l.map (·.1)) k s).1<(Ck p (l.map (·.1)) k s).2.drv.length ∧
  ((Ck p (l.map (·.1)) k s).2.full=false→∃C',l6 D U p (DN (Ck p (l.map (·.1)) k s).2 (Ck p (l.map (·.1)) k s).1) C' ∧
   (CZ (DN (Ck p (l.map (·.1)) k s).2 (Ck p (l.map (·.1)) k s).1) p=false∨∀j,C j∨(∃y∈l,y.2 j)→C' j))
 | [],k,s,C,hd,hk,_,hA=>⟨hd,.refl s,hk,fun hf=>⟨C,(hA hf).1,.inr fun j hj=>hj.elim id fun⟨y,hy,_⟩=>(by cases hy)⟩⟩
 |y::l,k,s,C,hd,hk,hl,hA=>by
  rw[AP]
  by_cases h1:s.full=true∨CZ (DN s k) p=false
  ·have e:Ck p (y.1::l.map (·.1)) k s=(k,s):=by unfold Ck;rw[Az h1]
   rw[e];refine⟨hd,.refl s,hk,fun hf=>⟨C,(hA hf).1,.inl (h1.resolve_left fun e=>?_)⟩⟩;have hf:s.full=false:=hf;rw[e]at hf;cases hf
  simp only[not_or,Bool.not_eq_true,Bool.not_eq_false]at h1;obtain⟨hf,TN⟩:=h1;obtain⟨Yj,lk⟩:=hA hf;have hy:=lk y (Aa ..);have hi:¬(s.full=true∨CZ (DN s k) p=false):=by rw[hf,TN];simp
  by_cases h2:y.1=k
  ·have e:Ck p (y.1::l.map (·.1)) k s=Ck p (l.map (·.1)) k s:=by conv=>lhs;unfold Ck;rw[Al hi,Az h2]
   rw[e];have yM : l6 D U p (DN s k) fun j=>C j∨y.2 j:=⟨Yj.form,Yj.inU,Yj.none_,fun j j0 j1 hj=>hj.elim (Yj.cov j j0 j1) fun h=>by rw[←h2];exact hy.cov j j0 j1 h⟩;obtain⟨i1,i2,i3,i4⟩:=Nw hD l hd hk (fun z hz=>hl z (Af _ hz)) (fun _=>⟨yM,fun z hz=>lk z (Af _ hz)⟩);refine⟨i1,i2,i3,fun hf=>?_⟩;obtain⟨C',j1,j2⟩:=i4 hf;refine⟨C',j1,j2.imp id fun h j hj=>h j ?_⟩;rcases hj with hj | ⟨z,hz,hj⟩
   ·exact .inl (.inl hj)
   ·rcases Au.1 hz with rfl | hz
    ·exact .inl (.inr hj)
    ·exact .inr ⟨z,hz,hj⟩
  ·obtain⟨S2,o2,v2⟩:=hy.one;obtain⟨r1,r2⟩:=Wl Yj.form hy.form TN hy.conc (.self hD) Yj.none_ o2 v2;have e:Ck p (y.1::l.map (·.1)) k s=Ck p (l.map (·.1)) (D6 s ⟨3,p,0,0,k,y.1⟩ (Bw (DN s k) (DN s y.1) p).1).1 (D6 s ⟨3,p,0,0,k,y.1⟩ (Bw (DN s k) (DN s y.1) p).1).2:=by
    conv=>lhs;unfold Ck;rw[Al hi,Al h2,Al (fun h=>h r1)]
   rw[e];have z7:=hl y (Aa ..);obtain⟨a1,a2,a3⟩:=Kk hd (UR (x:=x) (roots:=roots) hk z7 r1);have hg:=Kl s ⟨3,p,0,0,(k:Nat),(y.1:Nat)⟩ (Bw (DN s k) (DN s y.1) p).1;generalize Wy : D6 s ⟨3,p,0,0,(k:Nat),(y.1:Nat)⟩ (Bw (DN s k) (DN s y.1) p).1=s' at *
   have a3:s'.2.full=false→DN s'.2 s'.1=(Bw (DN s k) (DN s y.1) p).1:=a3;obtain⟨i1,i2,i3,i4⟩:=Nw hD (C:=fun j=>C j∨y.2 j) l a1 a2 (fun z hz=>BJ (hl z (Af _ hz)) hg.len) (fun dt=>by
    refine⟨?_,fun z hz=>by rw[hg.at (hl z (Af _ hz))];exact lk z (Af _ hz)⟩;rw[a3 dt];exact⟨M8 _ _ _,QO Yj.inU hy.inU,r2 D (.self hD) (.inl Yj.none_),fun j j0 j1 hj=>r2 _ (.ver hD (EV ⟨j0,j1⟩)) (hj.imp (Yj.cov j j0 j1) (hy.cov j j0 j1))⟩)
   refine⟨i1,hg.trans i2,i3,fun hf=>?_⟩;obtain⟨C',j1,j2⟩:=i4 hf;refine⟨C',j1,j2.imp id fun h j hj=>h j ?_⟩;rcases hj with hj | ⟨z,hz,hj⟩
   ·exact .inl (.inl hj)
   ·rcases Au.1 hz with rfl | hz
    ·exact .inl (.inr hj)
    ·exact .inr ⟨z,hz,hj⟩
def IG(roots:List Rq)(dec:List Cd):Prop:=∀q∈HG roots dec,∀d∈dec,d.rel.path=q.path→has q.set d.place=true
theorem IG.nil(roots:List Rq):IG roots []:=fun _ _ d h=>by cases h
theorem Zu(roots:List Rq)(dec:List Cd)(c:Cd):HG roots (dec++[c])=HG roots dec++c.rel.reqs:=by
 unfold HG;rw[AH,CI,AO];simp
theorem kM(c:Cd):(PP c).map (·.rq)=c.rel.reqs:=Rt (fun _ _=>rfl) _ _
theorem YE{dec:List Cd}{c:Cd}(h:D3 dec c=none):∀q∈c.rel.reqs,∀d∈dec++[c],d.rel.path=q.path→has q.set d.place=true:=fun q hq d hd e=>by
 rw[←kM]at hq;obtain⟨n,hn,rfl⟩:=Am.1 hq;unfold D3 at h;rw[Ek]at h
 have:=h n hn
 unfold ao at this;rw[Bool.not_eq_true,Fl]at this
 have:=this d hd
 rw[e]at this;simpa using this
theorem KR{dec:List Cd}{c:Cd}{n:Nd}(h:D3 dec c=some n):n∈PP c∧∃d∈dec++[c],d.rel.path=n.rq.path∧has n.rq.set d.place=false:=by
 unfold D3 at h;have h1:=Fu h;refine⟨CH h,?_⟩;unfold ao at h1;rw[A7]at h1;obtain⟨d,hd,e⟩:=h1;simp only[Ag,AA,CQ]at e;exact⟨d,hd,e⟩
theorem IG.snoc{roots:List Rq}{dec:List Cd}(h:IG roots dec){p:ByteArray}{needs:List Nd}(hN:og roots dec p needs){c:Cd}(hc:c.rel.path=p)(hn:∀n∈needs,has n.rq.set c.place=true)(hk:D3 dec c=none):IG roots (dec++[c]):=by
 intro q hq d hd e;rw[Zu]at hq;rcases A3.1 hq with hq | hq
 ·rcases A3.1 hd with hd | hd
  ·exact h q hq d hd e
  ·rw[Ai.1 hd]at e⊢;rw[←My]at hq;obtain⟨n,Xt,rfl⟩:=Am.1 hq;exact hn n ((hN.mem n).2 ⟨Xt,by rw[←e,hc]⟩)
 ·exact YE hk q hq d hd e
def Ub(y:Sl):List Sl→List Sl
 | []=>[y]
 |z::l=>if Ff y.path z.path then y::z::l else z::Ub y l
def FW:List Sl→List Sl
 | []=>[]
 |y::l=>Ub y (FW l)
theorem SM{y z:Sl}:∀{l:List Sl},z∈Ub y l↔z=y∨z∈l
 | []=>by simp[Ub]
 |u::l=>by
  unfold Ub;split
  ·simp
  ·rw[Au,SM,Au];constructor
   ·rintro(h | h | h)
    ·exact .inr (.inl h)
    ·exact .inl h
    ·exact .inr (.inr h)
   ·rintro(h | h | h)
    ·exact .inr (.inl h)
    ·exact .inl h
    ·exact .inr (.inr h)
theorem H8{z:Sl}:∀{l:List Sl},z∈FW l↔z∈l
 | []=>by simp[FW]
 |u::l=>by unfold FW;rw[SM,H8,Au]
theorem XB{y:Sl}:∀{l:List Sl},Vt l→(∀z∈l,z.path≠y.path)→Vt (Ub y l)
 | [],_,_=>by simp[Ub,Vt]
 |u::l,h,hn=>by
  obtain⟨h1,h2⟩:=BX.1 h;unfold Ub;split
  ·rename_i hb;refine BX.2 ⟨fun z hz=>?_,h⟩;rcases Au.1 hz with rfl | hz
   ·exact hb
   ·exact Eb hb (h1 z hz)
  ·rename_i hb;refine BX.2 ⟨fun z hz=>?_,XB h2 fun z hz=>hn z (Af _ hz)⟩;rcases SM.1 hz with rfl | hz
   ·cases e:Ff u.path z.path with
    |true=>rfl
    |false =>
     have hb:Ff z.path u.path=false:=by simpa using hb
     exact absurd (Hp e hb) (hn u (Aa ..))
   ·exact h1 z hz
theorem PW:∀{l:List Sl},(l.map (·.path)).Nodup→Vt (FW l)
 | [],_=>List.Pairwise.nil
 |y::l,h=>by
  simp only[AP,CT]at h;exact XB (PW h.2) fun z hz e=>h.1 (Am.2 ⟨z,H8.1 hz,e⟩)
theorem SI:∀{l:List Sl} {b:Option ByteArray},Vt l→(∀c,b=some c→∀y∈l,Ff c y.path=true)→SF b l=true
 | [],_,_,_=>by unfold SF;rfl
 |y::l,b,h,hb=>by
  obtain⟨h1,h2⟩:=BX.1 h;unfold SF;cases b with
  |none=>simpa using SI h2 fun c e z hz=>by cases e;exact h1 z hz
  |some c =>
   have:=hb c rfl y (Aa ..)
   simp only[this,EB];exact SI h2 fun c e z hz=>by cases e;exact h1 z hz
theorem nw{l:List Sl}(h:Vt l):K2 l=true:=SI h fun _ e=>by cases e
theorem UG{x:List Rl}(hx:A9 x=0){r:Rl}(hr:r∈x):Nl x (GQ r)=some r:=by
 unfold Nl;rw[Al (fun h=>h hx)];cases h:x.find? fun s=>decide (GQ s=GQ r)with
 |none =>
  rw[Ek]at h;exact absurd (by simp) (h r hr)
 |some s =>
  have h1:=Fu h;simp only[AA]at h1;rw[SQ (Cz hx).2 (CH h) hr h1]
theorem ED.sorted{x:List Rl}{dec:List Cd}(h:ED x dec):Vt (FW (AK dec)):=PW (by rw[Nv];exact h.nodup)
theorem ED.findS{x:List Rl}{dec:List Cd}(h:ED x dec){c:Cd}(hc:c∈dec):Cb (FW (AK dec)) c.rel.path=some (SO c) :=
 MX h.sorted (y:=SO c) (H8.2 (Am.2 ⟨c,hc,rfl⟩))
theorem fT{x:List Rl}{roots:List Rq}(hx:A9 x=0){dec:List Cd}(h:ED x dec)(hs:IG roots dec)(hl:Kz (HG roots dec) (AK dec)=none):oh x roots (FW (AK dec)):=by
 have FS:∀q∈HG roots dec,∃y,Cb (FW (AK dec)) q.path=some y∧has q.set (place y.ver)=true:=fun q hq=>by
  have:=Zf hl q hq
  rw[KY]at this;obtain⟨y,hy,e⟩:=this;obtain⟨d,hd,rfl⟩:=Am.1 hy;have e:d.rel.path=q.path:=e;refine⟨SO d,by rw[←e];exact h.findS hd,?_⟩;have h1:=hs q hq d hd e;have Gw:=(Cz hx).1 _ (h.cand d hd).1;rw[(h.cand d hd).2.2,Gw.plc]at h1;exact h1
 refine⟨hx,nw h.sorted,fun y hy=>?_,fun q hq=>FS q (Bi _ hq),fun y hy r hr q hq=>?_⟩
 ·obtain⟨d,hd,rfl⟩:=Am.1 (H8.1 hy);exact⟨d.rel,UG hx (h.cand d hd).1,(h.cand d hd).2.1⟩
 ·obtain⟨d,hd,rfl⟩:=Am.1 (H8.1 hy)
  have:Nl x (SO d)=some d.rel:=UG hx (h.cand d hd).1
  rw[this]at hr;cases hr;exact FS q (Bl _ (Ep.2 ⟨_,Am.2 ⟨d,hd,rfl⟩,hq⟩))
def cD(dec:List Cd)(needs:List Nd)(c:Cd):Bool:=(needs.all fun n=>has n.rq.set c.place)&&(D3 dec c).isNone
def Nx(x:List Rl)(roots:List Rq):Nat→List Cd→List (List Cd)
 |0,_=>[]
 |n+1,dec=>match(GC roots dec).2 with
  | []=>[dec]
  |n0::l=>((Cp x (GC roots dec).1).map fun c=>if cD dec (n0::l) c then Nx x roots n (dec++[c])else []).flatten
structure Lf(x:List Rl)(roots:List Rq)(dec d:List Cd):Prop where
 pre:dec <+: d
 ok:ED x d
 sat:IG roots d
 stop:Kz (HG roots d) (AK d)=none
theorem JC{x:List Rl}{p:ByteArray}{c:Cd}(h:c∈Cp x p):c.rel.path=p∧(c.rel∈x∧c.rel.yanked=false∧c.place=plc c.rel.ver):=by
 obtain⟨r,h1,h2,h3,rfl⟩:=KO.1 h;exact⟨h2,h1,h3,rfl⟩
theorem OQ{dec:List Cd}{needs:List Nd}{c:Cd}:cD dec needs c=true↔(∀n∈needs,has n.rq.set c.place=true)∧D3 dec c=none:=by
 unfold cD;rw[Ag,Bq,Option.isNone_iff_eq_none]
theorem UX{x:List Rl}{roots:List Rq}:∀{n:Nat} {dec:List Cd},ED x dec→IG roots dec→∀d∈Nx x roots n dec,Lf x roots dec d
 |0,_,_,_,d,hd=>by cases hd
 |n+1,dec,h,hs,d,hd=>by
  unfold Nx at hd;split at hd
  ·rename_i e;rw[Ai.1 hd];exact⟨MJ,h,hs,Td.1 e⟩
  ·rename_i n0 l e;have hN:=NH e;obtain⟨L,hL,hd⟩:=Ep.1 hd;obtain⟨c,hc,rfl⟩:=Am.1 hL;split at hd
   ·rename_i Gw;obtain⟨h1,h2⟩:=OQ.1 Gw;obtain⟨c1,c2⟩:=JC hc;have bM:De dec c.rel.path=false:=by rw[c1];exact hN.undone
    have:=UX (n:=n) (h.snoc c2 bM) (hs.snoc hN c1 h1 h2) d hd
    exact⟨(NV _ _).trans this.pre,this.ok,this.sat,this.stop⟩
   ·cases hd
theorem Lf.sol{x:List Rl}{roots:List Rq}(hx:A9 x=0){dec d:List Cd}(h:Lf x roots dec d):oh x roots (FW (AK d)):=fT hx h.ok h.sat h.stop
theorem ko{x:List Rl}{roots:List Rq}(hx:A9 x=0){s:SS}(hd:Fk x roots s){k:Nat}(hk:k<s.drv.length){dec d:List Cd}(he:CD (DN s k) (AK dec)=true)(h:Lf x roots dec d):False:=by
 have hS:=h.sol hx;have hv:=VN (s:=FW (AK d)) hS.inc (fun y hy=>H8.2 (by
  obtain⟨c,hc,rfl⟩:=Am.1 hy;obtain⟨t,e⟩:=h.pre;exact Am.2 ⟨c,by rw[←e];exact Bi _ hc,rfl⟩)) he
 have hn:=LJ hS (d:=[]) (fun _ h=>by cases h) hd.der (DN s k) (by
  unfold DN;rw[Ci,Ay hk];exact Ao hk)
 rw[hv]at hn;cases hn
theorem ny{x:List Rl}(h:A9 x=0):x.length≤256:=by
 unfold A9 at h;split at h
 ·cases h
 ·omega
theorem fc{l:List Rl}{k:Int}:(l.map fun r=>(plc r.ver,plc r.ver+1)).any (BK k)=true↔∃r∈l,plc r.ver=k:=by
 rw[A7];constructor
 ·rintro⟨y,hy,h⟩
  obtain⟨r,hr,rfl⟩:=Am.1 hy
  have:=DM.1 h
  exact⟨r,hr,by have h1:=this.1;have h2:=this.2;dsimp only at h1 h2;omega⟩
 ·rintro⟨r,hr,rfl⟩
  exact⟨_,Am.2 ⟨r,hr,rfl⟩,DM.2 ⟨AX _,by dsimp only;omega⟩⟩
theorem Ur{x:List Rl}(hx:A9 x=0){p:ByteArray}{k:Int}:has (B8 x p) k=true↔∃c∈Cp x p,c.place=k:=by
 unfold B8;rw[G8];unfold has J5;rw[Al (fun h=>h hx)];simp only[Ag,AA];rw[fc];constructor
 ·rintro⟨_,r,hr,rfl⟩
  simp only[Bx,AA,CQ]at hr;exact⟨⟨plc r.ver,r⟩,KO.2 ⟨r,hr.1.1,hr.1.2,hr.2,rfl⟩,rfl⟩
 ·rintro⟨c,hc,rfl⟩
  obtain⟨r,h1,h2,h3,rfl⟩:=KO.1 hc;have Gw:=(Cz hx).1 r h1
  have:=Jl Gw.val
  rw[←Gw.plc]at this;refine⟨⟨this.1,this.2⟩,r,?_,rfl⟩;simp only[Bx,AA,CQ];exact⟨⟨h1,h2⟩,h3⟩
theorem aP{x:List Rl}(hx:A9 x=0)(p:ByteArray):∃k:Int,0≤k∧k<1000000∧has (B8 x p) k=false:=by
 apply Br;intro hn;have FS:∀k∈(List.range 257).map fun i:Nat=>(i:Int),k∈x.map fun r=>plc r.ver:=by
  intro k hk;obtain⟨i,hi,rfl⟩:=Am.1 hk;have hi:=List.mem_range.1 hi;have hh:has (B8 x p) (i:Int)=true:=by
   cases e:has (B8 x p) (i:Int)with
   |true=>rfl
   |false=>exact absurd ⟨(i:Int),by omega,by omega,e⟩ hn
  obtain⟨c,hc,e⟩:=(Ur hx).1 hh;obtain⟨r,h1,_,_,rfl⟩:=KO.1 hc;exact Am.2 ⟨r,h1,e⟩
 have:=If (List.pairwise_map.2 (List.nodup_range.imp fun h e=>h (Int.ofNat.inj e))) FS
 rw[Bb,Bb,Qk]at this
 have:=ny hx
 omega
theorem K4(dec:List Cd)(c:Cd):AK (dec++[c])=J6 (AK dec) c.rel.path c.rel.ver:=by unfold AK J6;rw[AH];rfl
theorem Mp{t:List Tm}{S:List Sl}:CD t S=true↔Bh t S=true∧∀u∈t,CG S u.path=true:=by
 unfold CD;rw[Ag,CQ,Fl];simp
section
variable {x:List Rl}{roots:List Rq}{dec:List Cd}{p:ByteArray}{needs:List Nd}
abbrev Zk(p:ByteArray)(dec:List Cd):List ByteArray:=p::(AK dec).map (·.path)
theorem jt{c:Cd}{t:List Tm}(hf:KL t)(he:CD t (AK (dec++[c]))=true):Uh (Zk c.rel.path dec) t:=by
 refine⟨EK hf,fun u hu=>?_⟩
 have:=(Mp.1 he).2 u hu
 rw[G7,K4,AH]at this;rcases A3.1 this with h | h
 ·exact Af _ h
 ·rw[AP,E0,Ai]at h;rw[h];exact Aa ..
theorem ee(hx:A9 x=0)(hd:ED x dec){c:Cd}(hc:c.rel∈x){t:List Tm}(he:CD t (AK (dec++[c]))=true)(hn:CZ t c.rel.path=false):CD t (AK dec)=true:=by
 obtain⟨h1,h2⟩:=Mp.1 he;have DD:=JD hn;rw[K4]at h1 h2;refine Mp.2 ⟨?_,fun u hu=>?_⟩
 ·rw[KJ (.self (hd.valid hx)) (.ver (hd.valid hx) ((Cz hx).1 _ hc).val) DD];exact h1
 ·have:=h2 u hu
  rw[Su,CE]at this;rcases this with h | h
  ·exact h
  ·rw[KY]at h;obtain⟨y,hy,e⟩:=h;rw[Ai.1 hy]at e;exact absurd e.symm (DD u hu)
theorem cW(hx:A9 x=0)(hd:ED x dec){c:Cd}(hc:c.rel∈x∧c.rel.yanked=false∧c.place=plc c.rel.ver)(hu:De dec c.rel.path=false){t:List Tm}(hf:KL t)(he:CD t (AK (dec++[c]))=true)(hn:CZ t c.rel.path=true) :
  iX (AK dec) (Zk c.rel.path dec) c.rel.path t fun k=>k=c.place:=by
 have Gw:=(Cz hx).1 _ hc.1;have hV:=hd.valid hx;have h1:=(Mp.1 he).1;rw[K4]at h1;refine⟨hf,jt hf he,hn,⟨_,.ver hV Gw.val,h1⟩,fun k k0 k1 e=>?_⟩;subst e;rw[ZD (by rw[FP];exact hu) (EV ⟨k0,k1⟩) Gw.val (by rw[G3,hc.2.2,Gw.plc])];exact h1
theorem OK(hx:A9 x=0)(hr:BS roots=0){E:List Cd}(hE:ED x E){n:Nd}(hn:n∈Ds roots E)(hv:∃d∈E,d.rel.path=n.rq.path∧has n.rq.set d.place=false) :
  (∀d,DR x roots d (SL n)=some (IW n))∧CD (IW n) (AK E)=true∧KL (IW n):=by
 obtain⟨d,hd,e,hs⟩:=hv;have Gw:=(Cz hx).1 _ (hE.cand d hd).1;have hf:=hE.find hd;have hI:=Rk hx hr hE hn (.inr ⟨SO d,by rw[←e];exact hf,by rw[show(SO d).ver=d.rel.ver from rfl,←Gw.plc,←(hE.cand d hd).2.2];exact hs⟩);refine⟨hI.inf,Mp.2 ⟨hI.viol,fun u hu=>?_⟩,hI.form⟩
 have:=(hI.inU ((AK E).map (·.path)) (fun h=>G7.1 (hI.path h)) (G7.1 (by rw[JH,←e,hf];rfl))).2 u hu
 exact G7.2 this
theorem cq(hx:A9 x=0)(hr:BS roots=0)(hd:ED x dec)(hN:og roots dec p needs){c:Cd}(hc:c∈Cp x p){n:Nd}(hn:n∈needs)(hs:has n.rq.set c.place=false):CZ (IW n) p=true:=by
 obtain⟨c1,c2⟩:=JC hc;have hu:De dec c.rel.path=false:=by rw[c1];exact hN.undone
 have hE:=hd.snoc c2 hu;obtain⟨du,jO⟩:=(hN.mem n).1 hn;have Gw:=(Cz hx).1 _ c2.1;have hI:=Rk hx hr hE (NE du) (.inr ⟨SO c,by rw[jO,←c1];exact hE.find (by simp),by rw[show(SO c).ver=c.rel.ver from rfl,←Gw.plc,←c2.2.2];exact hs⟩);cases oy:CZ (IW n) p with
 |true=>rfl
 |false =>
  exfalso
  have Nr:n.rq.set≠[]∧EC n.rq.set:=by
   rcases L4 du with ⟨k,q,h1,rfl⟩ | ⟨c,hc,k,q,h1,rfl⟩
   ·exact KQ hr q (Av h1)
   ·exact((Cz hx).1 _ (hd.cand c hc).1).set q (Av h1)
  obtain⟨k,hk⟩:=aK Nr.1 Nr.2;have iK:=LV hk;have hV:=hd.valid hx;have o1:WG (AK dec) p (J6 (AK dec) p (Pc k)):=.ver hV (EV iK);have o2:WG (AK dec) p (AK (dec++[c])):=by rw[K4,c1];exact .ver hV Gw.val
  have h1:=KJ o1 o2 (JD oy);rw[hI.viol,hI.raw _ o1.val,BB]at h1
  have:=h1 (DG n.rq) (by unfold MO;split<;>simp)
  rw[show(DG n.rq).path=p from jO,H6 (by rw[FP];exact hN.undone),Tj (by rw[show(⟨p,Pc k⟩:Sl).ver=Pc k from rfl,G3];exact hk)]at this;cases this
theorem ce(hx:A9 x=0)(hr:BS roots=0)(hd:ED x dec)(hN:og roots dec p needs){n0:Nd}(h0:n0∈needs)(L:List (Nat×Cd))(hL:L.map (·.2)=Cp x p){s:SS}(hs:Fk x roots s)(DI:∀y∈L,y.1<s.drv.length)
  (qz:s.full=false→∀y∈L,CD (DN s y.1) (AK (dec++[y.2]))=true∧CZ (DN s y.1) p=true) :
  Fk x roots (DY x p n0 (L.map (·.1)) s).2∧Grow s (DY x p n0 (L.map (·.1)) s).2∧(DY x p n0 (L.map (·.1)) s).1<(DY x p n0 (L.map (·.1)) s).2.drv.length ∧
  ((DY x p n0 (L.map (·.1)) s).2.full=false→CD (DN (DY x p n0 (L.map (·.1)) s).2 (DY x p n0 (L.map (·.1)) s).1) (AK dec)=true):=by
 have hV:=hd.valid hx;have oF:CG (AK dec) p=false:=by rw[FP];exact hN.undone
 obtain⟨r8,fB⟩:=(hN.mem n0).1 h0;have hI:=Rk hx hr hd r8 (.inl (by rw[fB];exact Hu oF));unfold DY;obtain⟨a1,a2,a3⟩:=Kk hs (hI.inf s.drv);have ag:=Kl s (SL n0) (IW n0);have a3:(Bm s n0).2.full=false→DN (Bm s n0).2 (Bm s n0).1=IW n0:=a3
 change Fk x roots (Bm s n0).2 at a1
 change (Bm s n0).1<(Bm s n0).2.drv.length at a2
 change Grow s (Bm s n0).2 at ag
 generalize Bm s n0=s1 at *
 -- the incompatibility of the places that are not available
 obtain⟨u,u0,u1,hu⟩:=aP hx p;have V4:∀k:Int,0≤k→k<1000000→has (B8 x p) k=false→Bh [(⟨p,false,Eg (B8 x p)⟩:Tm)] (J6 (AK dec) p (Pc k))=true:=fun k k0 k1 hk=>by
  rw[BB];intro t ht;rw[Ai.1 ht];show Di _ (Cb (J6 (AK dec) p (Pc k)) p)=true;rw[H6 oF];show(CM (Pc k)&&has (Eg (B8 x p)) (place (Pc k)))=true;rw[EV ⟨k0,k1⟩,G3,FE,hk];unfold Lw;simp[k0,k1]
 have lG:Bh [(⟨p,false,Eg (B8 x p)⟩:Tm)] (AK dec)=false:=by
  rw[AI];intro h
  have:=BB.1 h _ (Aa ..)
  rw[show(⟨p,false,Eg (B8 x p)⟩:Tm).path=p from rfl,Hu oF]at this;cases this
 have ou:WG (AK dec) p (J6 (AK dec) p (Pc u)):=.ver hV (EV ⟨u0,u1⟩);have DD:HR p (B8 x p)≠[]:=by
  have c1:=CX (l:=[(⟨p,false,Eg (B8 x p)⟩:Tm)]) ou.val;have c2:=CX (l:=[(⟨p,false,Eg (B8 x p)⟩:Tm)]) hV;rw[V4 u u0 u1 hu]at c1;rw[lG]at c2;unfold HR PK;cases hc:CO [(⟨p,false,Eg (B8 x p)⟩:Tm)]with
  |none=>rw[hc]at c1;cases c1
  |some c =>
   rw[hc]at c2;intro e;have e:c=[]:=e;rw[e]at c2;cases c2
 have Ln:∀S,F2 S→Bh (HR p (B8 x p)) S=Bh [(⟨p,false,Eg (B8 x p)⟩:Tm)] S:=fun S v=>PL v DD;have p6:CZ (HR p (B8 x p)) p=true:=by
  cases h:CZ (HR p (B8 x p)) p with
  |true=>rfl
  |false =>
   have:=KJ ou (.self hV) (JD h)
   rw[Ln _ ou.val,Ln _ hV,V4 u u0 u1 hu,lG]at this;cases this
 have m7:DR x roots s1.2.drv ⟨2,p,0,0,0,0⟩=some (HR p (B8 x p)):=by
  unfold DR;rw[Al (show ¬((2:Int)=0) by decide),Al (show ¬((2:Int)=1) by decide),Az rfl,Az ⟨rfl,rfl,rfl,rfl⟩];unfold cp;rw[Al (by rw[GL];exact DD)]
 obtain⟨b1,b2,b3⟩:=Kk a1 m7;have bg:=Kl s1.2 ⟨2,p,0,0,0,0⟩ (HR p (B8 x p));have b3:(Eh x p s1.2).2.full=false→DN (Eh x p s1.2).2 (Eh x p s1.2).1=HR p (B8 x p):=b3
 change Fk x roots (Eh x p s1.2).2 at b1
 change (Eh x p s1.2).1<(Eh x p s1.2).2.drv.length at b2
 change Grow s1.2 (Eh x p s1.2).2 at bg
 generalize Eh x p s1.2=s2 at *
 have pX:s2.2.full=false→s1.2.full=false∧s.full=false:=fun h=>by
  have h1:s1.2.full=false:=by
   cases e:s1.2.full with
   |false=>rfl
   |true=>rw[bg.full e]at h;cases h
  refine⟨h1,?_⟩;cases e:s.full with
  |false=>rfl
  |true=>rw[ag.full e]at h1;cases h1
 have main:=Nw (D:=AK dec) (U:=Zk p dec) (p:=p) hV ((s2.1,fun k=>has (B8 x p) k=false)::L.map fun y=>(y.1,fun k=>k=y.2.place)) (C:=fun k=>has n0.rq.set k=false) b1 (BJ a2 bg.len)
  (fun y hy=>by
   rcases Au.1 hy with rfl | hy
   ·exact b2
   ·obtain⟨z,hz,rfl⟩:=Am.1 hy;exact BJ (DI z hz) (ag.trans bg).len) (fun hf=>by
   obtain⟨f1,f0⟩:=pX hf;refine⟨?_,fun y hy=>?_⟩
   ·rw[bg.at a2,a3 f1];refine⟨hI.form,hI.inU _ (fun h=>Af _ (G7.1 (hI.path h))) (by rw[fB];exact Aa ..),hI.viol,fun k k0 k1 hk=>?_⟩;have ok:WG (AK dec) p (J6 (AK dec) p (Pc k)):=.ver hV (EV ⟨k0,k1⟩);rw[hI.raw _ ok.val,BB];intro t ht;have V2:=BB.1 ((hI.raw _ hV).symm.trans hI.viol) t ht;unfold MO at ht;have fA:Di (DG n0.rq) (Cb (J6 (AK dec) p (Pc k)) (DG n0.rq).path)=true:=by
     rw[show(DG n0.rq).path=p from fB,H6 oF];exact QL (.inr ⟨_,rfl,EV ⟨k0,k1⟩,by rw[show(⟨p,Pc k⟩:Sl).ver=Pc k from rfl,G3];exact hk⟩)
    split at ht
    ·rw[Ai.1 ht];exact fA
    ·rename_i hm;rcases Au.1 ht with rfl | ht
     ·have DD:n0.path≠p:=fun e=>by
       have:=hI.path hm
       rw[e,oF]at this;cases this
      rw[show(⟨n0.path,false,[(n0.place,n0.place+1)]⟩:Tm).path=n0.path from rfl]at V2⊢;rw[ok.same _ DD];exact V2
     ·rw[Ai.1 ht];exact fA
   ·rcases Au.1 hy with rfl | hy
    ·show iX _ _ p (DN s2.2 s2.1) _;rw[b3 hf];refine⟨L6 _,Ti (fun t ht=>by rw[Ai.1 ht];exact Aa ..),p6,⟨_,ou,by rw[Ln _ ou.val];exact V4 u u0 u1 hu⟩,fun k k0 k1 hk=>?_⟩;rw[Ln _ (WG.ver hV (EV ⟨k0,k1⟩)).val];exact V4 k k0 k1 hk
    ·obtain⟨z,hz,rfl⟩:=Am.1 hy;show iX _ _ p (DN s2.2 z.1) _;rw[(ag.trans bg).at (DI z hz)];obtain⟨e1,e2⟩:=qz f0 z hz;have hzc:z.2∈Cp x p:=by rw[←hL];exact Am.2 ⟨z,hz,rfl⟩
     obtain⟨c1,c2⟩:=JC hzc
     have:=cW hx hd c2 (by rw[c1];exact hN.undone) (hs.forms z.1) e1 (by rw[c1];exact e2)
     rw[c1]at this;exact this)
 have uq:((s2.1,fun k=>has (B8 x p) k=false)::L.map fun y=>(y.1,fun k=>k=y.2.place)).map (·.1)=s2.1::L.map (·.1):=by
  rw[AP,BP];rfl
 rw[uq]at main;obtain⟨m1,m2,m3,m4⟩:=main;refine⟨m1,(ag.trans bg).trans m2,m3,fun hf=>?_⟩;obtain⟨C',q1,q2⟩:=m4 hf;have zK:CZ (DN (Ck p (s2.1::L.map (·.1)) s1.1 s2.2).2 (Ck p (s2.1::L.map (·.1)) s1.1 s2.2).1) p=false:=by
  rcases q2 with q2 | q2
  ·exact q2
  ·refine gw oF q1.form q1.none_ fun k k0 k1=>q1.cov k k0 k1 (q2 k ?_);cases r9:has n0.rq.set k with
   |false=>exact .inl rfl
   |true =>
    cases ha:has (B8 x p) k with
    |false=>exact .inr ⟨_,Aa ..,ha⟩
    |true =>
     obtain⟨c,hc,e⟩:=(Ur hx).1 ha;rw[←hL]at hc;obtain⟨z,hz,rfl⟩:=Am.1 hc;exact .inr ⟨_,Af _ (Am.2 ⟨z,hz,rfl⟩),e.symm⟩
 refine Mp.2 ⟨q1.none_,fun t ht=>?_⟩
 have:=q1.inU.2 t ht
 rcases Au.1 this with e | h
 ·exact absurd e (JD zK t ht)
 ·exact G7.2 h
end
def GS(s:SS)(b:List Cd)(p:ByteArray)(needs:List Nd):List Cd→List Sk→Prop
 | [],sk=>sk=[]
 |c::cs,sk=>if(needs.all fun n=>has n.rq.set c.place)=true then ∃(k:Nat) (rest:List Sk),sk=⟨p,c.place,k⟩::rest∧(k<s.drv.length∧CD (DN s k) (AK (b++[c]))=true)∧GS s b p needs cs rest
  else GS s b p needs cs sk
section
variable {s s' : SS}{b:List Cd}{p:ByteArray}{needs:List Nd}
theorem GS.out{c:Cd}(hc:¬(needs.all fun n=>has n.rq.set c.place)=true):∀{cs:List Cd} {sk:List Sk},GS s b p needs cs sk→GS s b p needs (cs++[c]) sk
 | [],sk,h=>by
  show(if _ then _ else _);rw[Al hc];exact h
 |d::cs,sk,h=>by
  have h:if(needs.all fun n=>has n.rq.set d.place)=true then _ else _:=h
  show(if _ then _ else _)
  by_cases hd:(needs.all fun n=>has n.rq.set d.place)=true
  ·rw[Az hd]at h⊢;obtain⟨k,rest,h1,h2,h3⟩:=h;exact⟨k,rest,h1,h2,GS.out hc h3⟩
  ·rw[Al hd]at h⊢;exact GS.out hc h
theorem GS.add{c:Cd}(hc:(needs.all fun n=>has n.rq.set c.place)=true){k:Nat}(hk:k<s.drv.length∧CD (DN s k) (AK (b++[c]))=true):∀{cs:List Cd} {sk:List Sk},GS s b p needs cs sk→GS s b p needs (cs++[c]) (sk++[⟨p,c.place,k⟩])
 | [],sk,h=>by
  have h:sk=[]:=h;subst h;show(if _ then _ else _);rw[Az hc];exact⟨k,[],rfl,hk,rfl⟩
 |d::cs,sk,h=>by
  have h:if(needs.all fun n=>has n.rq.set d.place)=true then _ else _:=h
  show(if _ then _ else _)
  by_cases hd:(needs.all fun n=>has n.rq.set d.place)=true
  ·rw[Az hd]at h⊢;obtain⟨j,rest,rfl,h2,h3⟩:=h;exact⟨j,_,rfl,h2,GS.add hc hk h3⟩
  ·rw[Al hd]at h⊢;exact GS.add hc hk h
theorem GS.mono(hg:Grow s s'):∀{cs:List Cd} {sk:List Sk},GS s b p needs cs sk→GS s' b p needs cs sk
 | [],_,h=>h
 |d::cs,sk,h=>by
  have h:if(needs.all fun n=>has n.rq.set d.place)=true then _ else _:=h
  show(if _ then _ else _)
  by_cases hd:(needs.all fun n=>has n.rq.set d.place)=true
  ·rw[Az hd]at h⊢;obtain⟨j,rest,rfl,h2,h3⟩:=h;exact⟨j,rest,rfl,⟨BJ h2.1 hg.len,by rw[hg.at h2.1];exact h2.2⟩,h3.mono hg⟩
  ·rw[Al hd]at h⊢;exact h.mono hg
end
structure mc(x:List Rl)(roots:List Rq)(s:SS)(b:List Cd)(c:Cd)(sk:List Sk)(p:ByteArray)(needs:List Nd)(pre post:List Cd):Prop where
 next:og roots b p needs
 cands:Cp x p=pre++c::post
 fit:∀n∈needs,has n.rq.set c.place=true
 noclash:D3 b c=none
 skips:GS s b p needs pre sk
def Rx(x:List Rl)(roots:List Rq)(s:SS):List Cd→List Cd→List (List Sk)→Prop
 |b,[],[]=>Kz (HG roots b) (AK b)=none
 |b,c::t,sk::st=>(∃p needs pre post,mc x roots s b c sk p needs pre post)∧Rx x roots s (b++[c]) t st
 |_,_,_=>False
structure Vv(x:List Rl)(roots:List Rq)(ls:List (List Cd))(dec:List Cd)(s:SS)(st:List (List Sk))(o:JT):Prop where
 der:Fk x roots o.ss
 grow:Grow s o.ss
 no:o.found=false→o.dec=dec∧o.stack=st∧(o.ss.full=false→o.res<o.ss.drv.length∧CD (DN o.ss o.res) (AK dec)=true)
 yes:o.found=true→o.ss.full=false∧∃t sl,o.dec=dec++t∧o.stack=st++sl∧Rx x roots o.ss dec t sl∧ls.head?=some o.dec
section
variable {rec:List Cd→SS→List (List Sk)→JT}{x:List Rl}{roots:List Rq}{p:ByteArray}{needs:List Nd}{n0:Nd}{dec:List Cd}{st:List (List Sk)}
def JB(rec:List Cd→SS→List (List Sk)→JT)(x:List Rl)(p:ByteArray)(needs:List Nd)(n0:Nd)(dec:List Cd)(st:List (List Sk))(c:Cd)(cs:List Cd)(FQ:List Nat)(skips:List Sk)(k:Nat)(s:SS):JT :=
 if CZ (DN s k) p=false then⟨k,false,s,dec,st⟩else DX rec x p needs n0 dec st cs s (FQ++[k]) (skips++[⟨p,c.place,k⟩])
theorem Gc(c:Cd)(cs:List Cd)(s:SS)(FQ:List Nat)(skips:List Sk):DX rec x p needs n0 dec st (c::cs) s FQ skips =
  if s.full=true then⟨0,false,s,dec,st⟩
  else match needs.find? fun n=>!has n.rq.set c.place with
   |some n=>DX rec x p needs n0 dec st cs (Bm s n).2 (FQ++[(Bm s n).1]) skips
   |none=>match Oc s.drv (AK (dec++[c]))with
    |some k=>JB rec x p needs n0 dec st c cs FQ skips k s
    |none=>match D3 dec c with
     |some n=>JB rec x p needs n0 dec st c cs FQ skips (Bm s n).1 (Bm s n).2
     |none=>if(rec (dec++[c]) s (st++[skips])).found=true then⟨0,true,(rec (dec++[c]) s (st++[skips])).ss,(rec (dec++[c]) s (st++[skips])).dec,(rec (dec++[c]) s (st++[skips])).stack⟩
      else if(rec (dec++[c]) s (st++[skips])).ss.full=true then⟨0,false,(rec (dec++[c]) s (st++[skips])).ss,dec,st⟩
      else JB rec x p needs n0 dec st c cs FQ skips (rec (dec++[c]) s (st++[skips])).res (rec (dec++[c]) s (st++[skips])).ss:=rfl
theorem ac{s:SS}(hs:Fk x roots s){n:Nd}(h:∀d,DR x roots d (SL n)=some (IW n)):Fk x roots (Bm s n).2∧(Bm s n).1<(Bm s n).2.drv.length∧((Bm s n).2.full=false→DN (Bm s n).2 (Bm s n).1=IW n)∧Grow s (Bm s n).2:=by
 obtain⟨a1,a2,a3⟩:=Kk hs (h s.drv);exact⟨a1,a2,a3,Kl _ _ _⟩
theorem Vv.grown{ls:List (List Cd)}{s s' : SS}{o:JT}(hg:Grow s s')(h:Vv x roots ls dec s' st o):Vv x roots ls dec s st o:=⟨h.der,hg.trans h.grow,h.no,h.yes⟩
theorem Uu(hx:A9 x=0)(hr:BS roots=0)(hd:ED x dec)(bR:IG roots dec)(hN:og roots dec p needs)(h0:n0∈needs){lv:List Cd→List (List Cd)}(xt:∀c∈Cp x p,cD dec needs c=true→∀d∈lv (dec++[c]),Lf x roots (dec++[c]) d)
  (bQ:∀c∈Cp x p,cD dec needs c=true→∀s st,Fk x roots s→s.full=false→Vv x roots (lv (dec++[c])) (dec++[c]) s st (rec (dec++[c]) s st)) :
  ∀(cs:List Cd) {s:SS} (L:List (Nat×Cd)) {skips:List Sk},L.map (·.2)++cs=Cp x p→Fk x roots s→(∀y∈L,y.1<s.drv.length)→(s.full=false→(∀y∈L,CD (DN s y.1) (AK (dec++[y.2]))=true∧CZ (DN s y.1) p=true)∧GS s dec p needs (L.map (·.2)) skips) →
   Vv x roots (((Cp x p).map fun c=>if cD dec needs c then lv (dec++[c])else []).flatten) dec s st (DX rec x p needs n0 dec st cs s (L.map (·.1)) skips)
 | [],s,L,skips,hL,hs,DI,qz=>by
  rw[B3]at hL;obtain⟨l1,l2,l3,l4⟩:=ce hx hr hd hN h0 L hL hs DI (fun hf=>(qz hf).1);exact⟨l1,l2,fun _=>⟨rfl,rfl,fun hf=>⟨l3,l4 hf⟩⟩,fun h=>(by cases h)⟩
 |c::cs,s,L,skips,hL,hs,DI,qz=>by
  rw[Gc]
  by_cases hf:s.full=true
  ·rw[Az hf];exact⟨hs,.refl s,fun _=>⟨rfl,rfl,fun h=>by rw[show(⟨0,false,s,dec,st⟩:JT).ss=s from rfl,hf]at h;cases h⟩,fun h=>(by cases h)⟩
  rw[Al hf];have hf:s.full=false:=by simpa using hf
  obtain⟨qA,nl⟩:=qz hf;have hc:c∈Cp x p:=by rw[←hL];simp
  obtain⟨c1,c2⟩:=JC hc;have hu:De dec c.rel.path=false:=by rw[c1];exact hN.undone
  have hE:=hd.snoc c2 hu
  -- on to the next candidate
  have go:∀(s' : SS) (k:Nat) (Wo : List Sk),Fk x roots s'→Grow s s'→k<s'.drv.length→(s'.full=false→(CD (DN s' k) (AK (dec++[c]))=true∧CZ (DN s' k) p=true)∧GS s' dec p needs (L.map (·.2)++[c]) Wo) →
    Vv x roots (((Cp x p).map fun c=>if cD dec needs c then lv (dec++[c])else []).flatten) dec s st (DX rec x p needs n0 dec st cs s' (L.map (·.1)++[k]) Wo):=fun s' k Wo Wy hg hk DD=>by
   have:=Uu hx hr hd bR hN h0 xt bQ cs (s:=s') (L++[(k,c)]) (skips:=Wo) (by rw[AH,AO];exact hL) Wy
    (fun y hy=>by
     rcases A3.1 hy with hy | hy
     ·exact BJ (DI y hy) hg.len
     ·rw[Ai.1 hy];exact hk)
    (fun dt=>by
     obtain⟨e1,e2⟩:=DD dt;refine⟨fun y hy=>?_,by rw[AH];exact e2⟩;rcases A3.1 hy with hy | hy
     ·rw[hg.at (DI y hy)];exact qA y hy
     ·rw[Ai.1 hy];exact e1)
   rw[AH]at this;exact this.grown hg
  cases mY:needs.find? fun n=>!has n.rq.set c.place with
  |some n =>
   dsimp only;have du:=CH mY;have jO:=Fu mY;have jO:has n.rq.set c.place=false:=by simpa using jO
   obtain⟨zH,zI⟩:=(hN.mem n).1 du;obtain⟨e1,e2,e3⟩:=OK hx hr hE (NE zH) ⟨c,by simp,by rw[c1,zI],jO⟩;obtain⟨i1,i2,i3,i4⟩:=ac hs e1;refine go _ _ _ i1 i4 i2 fun dt=>?_;rw[i3 dt];exact⟨⟨e2,cq hx hr hd hN hc du jO⟩,GS.out (by
    intro h;rw[Bq]at h;rw[h n du]at jO;cases jO) (nl.mono i4)⟩
  |none =>
   dsimp only;have YY:∀n∈needs,has n.rq.set c.place=true:=fun n hn=>by
    rw[Ek]at mY;simpa using mY n hn
   have FS:(needs.all fun n=>has n.rq.set c.place)=true:=by rw[Bq];exact YY
   have me:∀(s' : SS) (k:Nat),Fk x roots s'→Grow s s'→k<s'.drv.length→(s'.full=false→CD (DN s' k) (AK (dec++[c]))=true) →
     Vv x roots (((Cp x p).map fun c=>if cD dec needs c then lv (dec++[c])else []).flatten) dec s st (JB rec x p needs n0 dec st c cs (L.map (·.1)) skips k s'):=fun s' k Wy hg hk he=>by
    unfold JB;cases oy:CZ (DN s' k) p with
    |false =>
     rw[Az rfl];exact⟨Wy,hg,fun _=>⟨rfl,rfl,fun dt=>⟨hk,ee hx hd c2.1 (he dt) (by rw[c1];exact oy)⟩⟩,fun h=>(by cases h)⟩
    |true =>
     rw[Al (by decide)];exact go _ _ _ Wy hg hk fun dt=>⟨⟨he dt,oy⟩,GS.add FS ⟨hk,he dt⟩ (nl.mono hg)⟩
   cases hen:Oc s.drv (AK (dec++[c]))with
   |some k =>
    dsimp only;obtain⟨k1,k2⟩:=Kr hen;exact me s k hs (.refl s) k1 fun _=>k2
   |none =>
    dsimp only;cases hcl:D3 dec c with
    |some n =>
     dsimp only;obtain⟨m1,m2⟩:=KR hcl;obtain⟨e1,e2,e3⟩:=OK hx hr hE (Mz m1) m2;obtain⟨i1,i2,i3,i4⟩:=ac hs e1;exact me _ _ i1 i4 i2 fun dt=>by rw[i3 dt];exact e2
    |none =>
     dsimp only;have Gw:cD dec needs c=true:=OQ.2 ⟨YY,hcl⟩;have hR:=bQ c hc Gw s (st++[skips]) hs hf;generalize rec (dec++[c]) s (st++[skips])=o at hR
     by_cases fh:o.found=true
     ·rw[Az fh];obtain⟨y1,t,sl,y2,y3,y4,y5⟩:=hR.yes fh;refine⟨hR.der,hR.grow,fun h=>(by cases h),fun _=>⟨y1,c::t,skips::sl,by show o.dec=_;rw[y2];simp,by show o.stack=_;rw[y3];simp,⟨⟨p,needs,L.map (·.2),cs,hN,hL.symm,YY,hcl,nl.mono hR.grow⟩,y4⟩,?_⟩⟩;show _=some o.dec;rw[←hL,AH,CI,AP,Bz];have ut:((L.map (·.2)).map fun c=>if cD dec needs c then lv (dec++[c])else []).flatten=[]:=by
       rw[List.flatten_eq_nil_iff];intro l hl;obtain⟨d,jL,rfl⟩:=Am.1 hl;obtain⟨y,hy,rfl⟩:=Am.1 jL;split
       ·rename_i zO;have z8:y.2∈Cp x p:=by rw[←hL];exact Bi _ jL
        refine Ls.2 fun d ud=>ko hx hs (DI y hy) (qA y hy).1 (xt y.2 z8 zO d ud)
       ·rfl
      rw[ut,D8,Az Gw,List.head?_append,y5];rfl
     ·rw[Al fh];have fh:o.found=false:=by simpa using fh
      obtain⟨n1,n2,n3⟩:=hR.no fh
      by_cases mZ:o.ss.full=true
      ·rw[Az mZ];exact⟨hR.der,hR.grow,fun _=>⟨rfl,rfl,fun h=>by rw[show(⟨0,false,o.ss,dec,st⟩:JT).ss=o.ss from rfl,mZ]at h;cases h⟩,fun h=>(by cases h)⟩
      ·rw[Al mZ];have mZ:o.ss.full=false:=by simpa using mZ
       exact me _ _ hR.der hR.grow (n3 mZ).1 fun _=>(n3 mZ).2
end
theorem Sp{x:List Rl}{dec:List Cd}{c:Cd}(h:c.rel∈x∧c.rel.yanked=false)(hu:De dec c.rel.path=false):Qx x (dec++[c])<Qx x dec:=by
 have key:∀l:List Rl,(l.filter fun r=>!r.yanked&&!De (dec++[c]) r.path).length≤(l.filter fun r=>!r.yanked&&!De dec r.path).length ∧
   (c.rel∈l→(l.filter fun r=>!r.yanked&&!De (dec++[c]) r.path).length<(l.filter fun r=>!r.yanked&&!De dec r.path).length):=by
  intro l
  induction l with
  |nil=>exact⟨Ak _,fun h=>(by cases h)⟩
  |cons r l ih =>
   have fE:(!r.yanked&&!De (dec++[c]) r.path)=true→(!r.yanked&&!De dec r.path)=true:=fun e=>by
    simp only[Ag,CQ]at e⊢;refine⟨e.1,?_⟩
    have:=e.2
    unfold De at this⊢;rw[Hk,Bool.or_eq_false_iff]at this;exact this.1
   rw[Eo,Eo];refine⟨?_,fun hm=>?_⟩
   ·by_cases e:(!r.yanked&&!De (dec++[c]) r.path)=true
    ·rw[Az e,Az (fE e)];simp;exact ih.1
    ·rw[Al e];split
     ·simp;have:=ih.1;omega
     ·exact ih.1
   ·rcases Au.1 hm with rfl | hm
    ·have e1:¬(!c.rel.yanked&&!De (dec++[c]) c.rel.path)=true:=by
      have:De (dec++[c]) c.rel.path=true:=by unfold De;simp
      rw[this];simp
     have e2:(!c.rel.yanked&&!De dec c.rel.path)=true:=by rw[h.2,hu];rfl
     rw[Al e1,Az e2];simp;have:=ih.1;omega
    ·have:=ih.2 hm
     by_cases e:(!r.yanked&&!De (dec++[c]) r.path)=true
     ·rw[Az e,Az (fE e)];simp;exact this
     ·rw[Al e];split
      ·simp;omega
      ·exact this
 exact(key x).2 h.1
theorem PV{x:List Rl}{roots:List Rq}(hx:A9 x=0)(hr:BS roots=0):∀(n:Nat) {dec:List Cd} {s:SS} {st:List (List Sk)},ED x dec→IG roots dec→Fk x roots s→s.full=false→Qx x dec<n →
  Vv x roots (Nx x roots n dec) dec s st (Da x roots n dec s st)
 |0,_,_,_,_,_,_,_,h=>by omega
 |n+1,dec,s,st,hd,bR,hs,hf,hn=>by
  unfold Da Nx;cases e:(GC roots dec).2 with
  |nil =>
   exact⟨hs,.refl s,fun h=>(by cases h),fun _=>⟨hf,[],[],by simp,by simp,Td.1 e,rfl⟩⟩
  |cons n0 l =>
   have hN:=NH e;have next:∀c∈Cp x (GC roots dec).1,cD dec (n0::l) c=true→ED x (dec++[c])∧IG roots (dec++[c])∧Qx x (dec++[c])<n:=fun c hc Gw=>by
    obtain⟨c1,c2⟩:=JC hc;have hu:De dec c.rel.path=false:=by rw[c1];exact hN.undone
    obtain⟨k1,k2⟩:=OQ.1 Gw;exact⟨hd.snoc c2 hu,bR.snoc hN c1 k1 k2,by have:=Sp (dec:=dec) ⟨c2.1,c2.2.1⟩ hu;omega⟩
   exact Uu hx hr hd bR hN (Aa ..) (lv:=Nx x roots n) (fun c hc Gw d jL=>UX (next c hc Gw).1 (next c hc Gw).2.1 d jL)
    (fun c hc Gw s st hs hf=>PV hx hr n (next c hc Gw).1 (next c hc Gw).2.1 hs hf (next c hc Gw).2.2) _ [] rfl hs (fun y hy=>by cases hy) (fun _=>⟨fun y hy=>(by cases hy),rfl⟩)
theorem eI(x:List Rl)(dec:List Cd):Qx x dec≤x.length:=BE _ _
theorem cZ{x:List Rl}{roots:List Rq}(hx:A9 x=0)(hr:BS roots=0):Vv x roots (Nx x roots (x.length+1) []) [] sH [] (FH x roots) :=
 PV hx hr _ (.nil x) (.nil roots) (.nil x roots) rfl (by have:=eI x [];omega)
section
variable {x:List Rl}{roots:List Rq}{p:ByteArray}{needs:List Nd}{n0:Nd}{dec:List Cd}{st:List (List Sk)}
end
section
variable {x:List Rl}{roots:List Rq}{d:List (List Tm)}{i:Nf}
end
end Go.Eng
