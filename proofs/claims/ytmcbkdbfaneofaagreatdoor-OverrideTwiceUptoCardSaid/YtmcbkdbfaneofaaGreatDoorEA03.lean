/- Lemmas for the claims of this seat, without a condition: part 3 (Q3, Q4, P15, Q5, Q6, Q7, Q8, P16). -/
import Derived.Test.YtmcbkdbfaneofaaGreatDoorEA02
namespace Go.Eng
theorem LV:∀{l:List Rq} {b:Option ByteArray},FM b l=0→∀q∈l,q.set≠[]∧EB q.set
 | [],_,_,q,hq=>by cases hq
 |r::l,b,h,q,hq=>by
  unfold FM at h;split at h
  ·rename_i e;rcases Aq.1 hq with rfl | hq
   ·unfold GE at e
    by_cases h1:(Cs q.path).isNone=true
    ·rw[Aw h1]at e;exact absurd e (by decide)
    rw[Ah h1]at e;cases hE:q.set.isEmpty with
    |true=>rw[hE]at e;simp at e
    |false =>
     cases hD:decide (q.set=canon q.set)with
     |false=>rw[hD]at e;simp at e
     |true =>
      have h3:q.set=canon q.set:=BF hD;exact⟨by simpa using hE,by rw[h3];exact Cp _⟩
   ·exact LV h q hq
  ·rename_i e;exact absurd h e
theorem KT{l:List Rq}(h:BS l=0):∀q∈l,q.set≠[]∧EB q.set:=by
 unfold BS at h;split at h
 ·cases h
 ·exact LV h
abbrev Pn(k:Int):Ver:=⟨0,k / 1000,k % 1000⟩
theorem G2(k:Int):place (Pn k)=k:=by unfold place;show 1000*(k / 1000)+k % 1000=k;omega
theorem EV{k:Int}(h:0≤k∧k<1000000):CN (Pn k)=true:=by
 unfold CN okPart;simp only[Ag];exact⟨⟨Ax (by omega),Ax (by omega)⟩,Ax (by omega)⟩
structure WU(D:List Sl)(p:ByteArray)(S:List Sl):Prop where
 val:FY S
 same:∀q,q≠p→Cb S q=Cb D q
abbrev J9(D:List Sl)(p:ByteArray)(v:Ver):List Sl:=D++[⟨p,v⟩]
theorem JY(a b:List Sl)(p:ByteArray):Cb (a++b) p=(Cb a p).or (Cb b p):=by
 unfold Cb;rw[List.find?_append]
theorem Hv{s:List Sl}{p:ByteArray}(h:CH s p=false):Cb s p=none:=by
 rw[JK]at h;cases e:Cb s p with
 |none=>rfl
 |some y=>rw[e]at h;cases h
theorem WU.self{D:List Sl}{p:ByteArray}(h:FY D):WU D p D:=⟨h,fun _ _=>rfl⟩
theorem WU.ver{D:List Sl}{p:ByteArray}(h:FY D){v:Ver}(hv:CN v=true):WU D p (J9 D p v):=by
 refine⟨fun y hy=>?_,fun q hq=>?_⟩
 ·rcases A7.1 hy with hy | hy
  ·exact h y hy
  ·rw[Am.1 hy];exact hv
 ·rw[JY]
  have:Cb [(⟨p,v⟩:Sl)] q=none:=by unfold Cb;simp[Ne.symm hq]
  rw[this,Option.or_none]
theorem H8{D:List Sl}{p:ByteArray}(hp:CH D p=false)(v:Ver):Cb (J9 D p v) p=some ⟨p,v⟩:=by
 rw[JY,Hv hp];unfold Cb;simp
theorem QN{D:List Sl}{p:ByteArray}(hp:CH D p=false){v v' : Ver}(hv:CN v=true)(sJ : CN v'=true)(e:place v=place v')(q:ByteArray)(t:Tm) :
  Di t (Cb (J9 D p v) q)=Di t (Cb (J9 D p v') q):=by
 by_cases hq:q=p
 ·subst hq;rw[H8 hp,H8 hp];show(CN v&&has t.set (place v))=(CN v'&&has t.set (place v'));rw[hv,sJ,e]
 ·have h1:∀w:Ver,Cb (J9 D p w) q=Cb D q:=fun w=>by
   rw[JY]
   have:Cb [(⟨p,w⟩:Sl)] q=none:=by unfold Cb;simp[Ne.symm hq]
   rw[this,Option.or_none]
  rw[h1,h1]
theorem ZV{D:List Sl}{p:ByteArray}(hp:CH D p=false){v v' : Ver}(hv:CN v=true)(sJ : CN v'=true)(e:place v=place v')(t:List Tm):Bg t (J9 D p v)=Bg t (J9 D p v'):=by
 rw[BW,BA,BA];exact⟨fun h u hu=>by rw[←QN hp hv sJ e];exact h u hu,fun h u hu=>by rw[QN hp hv sJ e];exact h u hu⟩
theorem KL{D S S' : List Sl}{p:ByteArray}(h:WU D p S)(h' : WU D p S'){t:List Tm}(ht:∀u∈t,u.path≠p):Bg t S=Bg t S':=by
 rw[BW,BA,BA];exact⟨fun k u hu=>by rw[h'.same _ (ht u hu),←h.same _ (ht u hu)];exact k u hu,fun k u hu=>by rw[h.same _ (ht u hu),←h'.same _ (ht u hu)];exact k u hu⟩
theorem JG{t:List Tm}{p:ByteArray}(h:CZ t p=false):∀u∈t,u.path≠p:=fun u hu e=>by
 unfold CZ at h;rw[F5]at h;exact h u hu (by simpa using e)
theorem So{t:List Tm}{p:ByteArray}(h:CZ t p=true):∃u∈t,u.path=p:=by
 unfold CZ at h;rw[Bb]at h;obtain⟨u,hu,e⟩:=h;exact⟨u,hu,by simpa using e⟩
theorem TY{t:List Tm}{p:ByteArray}(hf:KN t)(hc:CZ t p=true):∃u r,Fk t p=some (u,r)∧u.path=p∧∀v∈r,v.path≠p:=by
 obtain⟨u,hu,e⟩:=So hc;have hs:=EJ hf;have ns:=(FC hs).1 hu;rw[e]at ns;refine⟨u,FI t p,?_,e,fun v hv=>?_⟩
 ·unfold Fk;rw[show CP t=some t from hf];dsimp only;rw[ns]
 ·have:=(Bo.1 hv).2
  simpa using this
theorem WA{D:List Sl}{p:ByteArray}{t b:List Tm}(fK:KN t)(nq:KN b)(zF:CZ t p=true)(ux:CZ b p=true){S1 S2:List Sl}(h1:WU D p S1)(v1:Bg t S1=true)(h2:WU D p S2)(v2:Bg b S2=true) :
  (Bw t b p).2=0∧∀S,WU D p S→Bg t S=true∨Bg b S=true→Bg (Bw t b p).1 S=true:=by
 obtain⟨u,r,e1,pu,nr⟩:=TY fK zF;obtain⟨w,m,e2,pw,nm⟩:=TY nq ux;have key:∀S,WU D p S→Bg t S=true∨Bg b S=true→Bg (r++m++[Dh u w]) S=true:=fun S hS hv=>by
  have r1:Bg r S=true:=by
   rw[KL hS h1 nr];rw[(FH h1.val e1).1,Ag]at v1;exact v1.2
  have m1:Bg m S=true:=by
   rw[KL hS h2 nm];rw[(FH h2.val e2).1,Ag]at v2;exact v2.2
  rw[GU,GU,r1,m1];simp only[EA];rw[BA];intro y hy;rw[Am.1 hy,show(Dh u w).path=p from pu,Nj,CE];rcases hv with hv | hv
  ·rw[(FH hS.val e1).1,Ag]at hv;exact .inl hv.1
  ·rw[(FH hS.val e2).1,Ag]at hv;exact .inr hv.1
 unfold Bw;rw[e1,e2];dsimp only;have c1:=CY (l:=r++m++[Dh u w]) h1.val;rw[key S1 h1 (.inl v1)]at c1;cases hc:CP (r++m++[Dh u w])with
 |none=>rw[hc]at c1;cases c1
 |some o =>
  dsimp only;refine⟨rfl,fun S hS hv=>?_⟩;have c2:=CY (l:=r++m++[Dh u w]) hS.val;rw[hc,key S hS hv]at c2;exact c2.symm
theorem gN{D:List Sl}{p:ByteArray}(hp:CH D p=false){t:List Tm}(hf:KN t)(h0:Bg t D=true)(hk:∀k:Int,0≤k→k<1000000→Bg t (J9 D p (Pn k))=true):CZ t p=false:=by
 rw[AI];intro hc;obtain⟨u,hu,e⟩:=So hc;have ha:u.absent=true:=by
  have:=BA.1 h0 u hu
  rw[e,Hv hp]at this;exact this
 have hs:∀k:Int,0≤k→k<1000000→has u.set k=true:=fun k k0 k1=>by
  have:=BA.1 (hk k k0 k1) u hu
  rw[e,H8 hp]at this;unfold Di at this;rw[Ag]at this
  have:=this.2
  rw[show(⟨p,Pn k⟩:Sl).ver=Pn k from rfl,G2]at this;exact this
 have oW:EB u.set:=Cc.canon (EJ hf) u hu;have fL:u.set=[(0,1000000)]:=by
  refine Hq oW ⟨by decide,by decide,by decide,trivial⟩ fun k=>?_;rw[BW];constructor
  ·intro h
   have:=L9 h
   unfold has;simp[BL,this.1,this.2]
  ·intro h
   have:=L9 h
   exact hs k this.1 this.2
 have qf:Gn u=true:=by unfold Gn;rw[ha,fL];rfl
 have su:CP t=some t:=hf;unfold CP at su;split at su
 ·cases su
 ·have e2:=BM su;rw[←e2]at hu
  have:=(Bo.1 hu).2
  rw[qf]at this;cases this
structure EC(x:List Rl)(dec:List Cd):Prop where
 cand:∀c∈dec,c.rel∈x∧c.rel.yanked=false∧c.place=plc c.rel.ver
 nodup:(dec.map fun c=>c.rel.path).Nodup
theorem EC.nil(x:List Rl):EC x []:=⟨fun _ h=>(by cases h),E7⟩
theorem TG{r:Rl}(h:RR r):r.path≠mt:=fun e=>by
 have:=h.maj
 rw[e]at this;have h2:Cs mt=none:=by decide
 rw[h2]at this;cases this
theorem RR.set{r:Rl}(h:RR r):∀q∈r.reqs,q.set≠[]∧EB q.set:=KT h.reqs
theorem NL(dec:List Cd):(AK dec).map (·.path)=dec.map fun c=>c.rel.path:=by unfold AK;rw[BO];rfl
theorem KY:∀{D:List Sl},(D.map (·.path)).Nodup→∀{y:Sl},y∈D→Cb D y.path=some y
 | [],_,y,h=>by cases h
 |z::D,hn,y,h=>by
  simp only[AN,CF]at hn;unfold Cb;rw[Fs];rcases Aq.1 h with rfl | h
  ·rw[Ax rfl]
  ·have:z.path≠y.path:=fun e=>hn.1 (Ak.2 ⟨y,h,e.symm⟩)
   rw[Ar this];exact KY hn.2 h
theorem EC.find{x:List Rl}{dec:List Cd}(h:EC x dec){c:Cd}(hc:c∈dec):Cb (AK dec) c.rel.path=some (Tf c) :=
 KY (by rw[NL];exact h.nodup) (y:=Tf c) (Ak.2 ⟨c,hc,rfl⟩)
theorem EC.valid{x:List Rl}(hx:A4 x=0){dec:List Cd}(h:EC x dec):FY (AK dec):=fun y hy=>by
 obtain⟨c,hc,rfl⟩:=Ak.1 hy;exact((Cg hx).1 _ (h.cand c hc).1).val
theorem EC.snoc{x:List Rl}{dec:List Cd}(h:EC x dec){c:Cd}(hc:c.rel∈x∧c.rel.yanked=false∧c.place=plc c.rel.ver)(hd:De dec c.rel.path=false):EC x (dec++[c]):=by
 refine⟨fun d hd=>?_,?_⟩
 ·rcases A7.1 hd with hd | hd
  ·exact h.cand d hd
  ·rw[Am.1 hd];exact hc
 ·rw[AH,F6];refine⟨h.nodup,by simp,fun a ha b hb e=>?_⟩;obtain⟨d,j9,rfl⟩:=Ak.1 ha;simp only[AN,E1,Am]at hb;unfold De at hd;rw[F5]at hd;exact hd d j9 (by simpa using e.trans hb)
theorem Mk{roots:List Rq}{E:List Cd}{n:Nd}(h:n∈Dr roots E):(∃k q,roots[k]?=some q∧n=⟨q,mt,0,(k:Nat)⟩)∨∃c∈E,∃k q,c.rel.reqs[k]?=some q∧n=⟨q,c.rel.path,c.place,(k:Nat)⟩:=by
 unfold Dr at h;rcases A7.1 h with h | h
 ·obtain⟨k,q,h1,h2⟩:=X9 h;exact .inl ⟨k,q,h1,h2⟩
 ·obtain⟨l,hl,hn⟩:=Ep.1 h;obtain⟨c,hc,rfl⟩:=Ak.1 hl;obtain⟨k,q,h1,h2⟩:=X9 hn;exact .inr ⟨c,hc,k,q,h1,h2⟩
theorem NS{roots:List Rq}{dec:List Cd}{c:Cd}{n:Nd}(h:n∈Dr roots dec):n∈Dr roots (dec++[c]):=by
 unfold Dr at *
 rw[AH,CK,←AP];exact Bp _ h
theorem MP{roots:List Rq}{dec:List Cd}{c:Cd}{n:Nd}(h:n∈Qd c):n∈Dr roots (dec++[c]):=by
 unfold Dr;rw[AH,CK,←AP];exact Bk _ (by simpa using h)
def M2(n:Nd):List Tm:=if n.path=mt then [DG n.rq]else [⟨n.path,false,[(n.place,n.place+1)]⟩,DG n.rq]
theorem OO(n:Nd):IZ n=PY (M2 n):=by unfold IZ M2 Jt Ei;split<;>rfl
theorem bh{s:Bj}(h:s≠[])(hc:EB s):∃k,has s k=true:=by
 match s,h,hc with
 |x::r,_,hc =>
  have:=EG.low hc x (Aa ..)
  refine⟨x.1,?_⟩;unfold has;have h1:BL x.1 x=true:=DN.2 ⟨AZ _,this.2.1⟩;simp only[Ce,h1,Bool.true_or,Bool.and_true,Ag,AA];omega
theorem QY{q:Rq}{o:Option Sl}(h:o=none∨∃y,o=some y∧CN y.ver=true∧has q.set (place y.ver)=false):Di (DG q) o=true:=by
 rcases h with rfl | ⟨y,rfl,hv,hq⟩
 ·rfl
 ·show(CN y.ver&&has (Ed q.set) (place y.ver))=true
  have:=Js hv
  rw[hv,FD,hq];unfold LH;simp[this.1,this.2]
theorem TE{q:Rq}{y:Sl}(hq:has q.set (place y.ver)=true):Di (DG q) (some y)=false:=by
 show(CN y.ver&&has (Ed q.set) (place y.ver))=false;rw[FD,hq];simp
structure pm(x:List Rl)(roots:List Rq)(S:List Sl)(n:Nd):Prop where
 inf:∀d,DU x roots d (Ta n)=some (IZ n)
 viol:Bg (IZ n) S=true
 raw:∀S',FY S'→Bg (IZ n) S'=Bg (M2 n) S'
 form:KN (IZ n)
 inU:∀U:List ByteArray,(n.path≠mt→n.path∈U)→n.rq.path∈U→Uw U (IZ n)
 path:n.path≠mt→CH S n.path=true
theorem Rw{x:List Rl}{roots:List Rq}(hx:A4 x=0)(hr:BS roots=0){E:List Cd}(hE:EC x E){n:Nd}(hn:n∈Dr roots E)
  (hv:Cb (AK E) n.rq.path=none∨∃y,Cb (AK E) n.rq.path=some y∧has n.rq.set (place y.ver)=false):pm x roots (AK E) n:=by
 have hV:=hE.valid hx;have Zk:Di (DG n.rq) (Cb (AK E) n.rq.path)=true:=QY (hv.imp id fun⟨y,h1,h2⟩=>⟨y,h1,hV y (Jc h1),h2⟩)
 -- the raw list is Bg here,and not elsewhere
 have NI:n.rq.set≠[]∧EB n.rq.set:=by
  rcases Mk hn with ⟨k,q,h1,rfl⟩ | ⟨c,hc,k,q,h1,rfl⟩
  ·exact KT hr q (Av h1)
  ·exact((Cg hx).1 _ (hE.cand c hc).1).set q (Av h1)
 have Wi:Bg (M2 n) (AK E)=true∧(n.path≠mt→CH (AK E) n.path=true):=by
  rcases Mk hn with ⟨k,q,h1,rfl⟩ | ⟨c,hc,k,q,h1,rfl⟩
  ·refine⟨?_,fun h=>absurd rfl h⟩;unfold M2;rw[Aw rfl,BA];intro u hu;rw[Am.1 hu];exact Zk
  ·have DC:=TG ((Cg hx).1 _ (hE.cand c hc).1);refine⟨?_,fun _=>by rw[JK,hE.find hc];rfl⟩;unfold M2;rw[Ah DC,BA];intro u hu;rcases Aq.1 hu with rfl | hu
   ·show Di _ (Cb (AK E) c.rel.path)=true;rw[hE.find hc];show(CN c.rel.ver&&has [(c.place,c.place+1)] (place c.rel.ver))=true;have Gu:=(Cg hx).1 _ (hE.cand c hc).1;have hp:=Js Gu.val;rw[Gu.val,(hE.cand c hc).2.2,Gu.plc];unfold has;simp[BL,hp.1,hp.2];omega
   ·rw[Am.1 hu];exact Zk
 have uP:∃S',FY S'∧Bg (M2 n) S'=false:=by
  unfold M2;split
  ·obtain⟨k,hk⟩:=bh NI.1 NI.2;have jg:=L9 hk;refine⟨[⟨n.rq.path,Pn k⟩],fun y hy=>by rw[Am.1 hy];exact EV jg,?_⟩;rw[AI];intro h
   have:=BA.1 h (DG n.rq) (Am.2 rfl)
   rw[show(DG n.rq).path=n.rq.path from rfl,show Cb [(⟨n.rq.path,Pn k⟩:Sl)] n.rq.path=some ⟨n.rq.path,Pn k⟩ by unfold Cb;simp,TE (by rw[show(⟨n.rq.path,Pn k⟩:Sl).ver=Pn k from rfl,G2];exact hk)]at this;cases this
  ·refine⟨[],fun y hy=>(by cases hy),?_⟩;rw[AI];intro h
   have:=BA.1 h _ (Aa ..)
   cases this
 obtain⟨Wi,qJ⟩:=Wi;have DC:PY (M2 n)≠[]:=by
  obtain⟨S',v',n'⟩:=uP;have c1:=CY (l:=M2 n) hV;have c2:=CY (l:=M2 n) v';unfold PY;cases hc:CP (M2 n)with
  |none=>rw[hc,Wi]at c1;cases c1
  |some c =>
   rw[hc,n']at c2;intro e;have e:c=[]:=e;rw[e]at c2;cases c2
 have lZ:∀S',FY S'→Bg (IZ n) S'=Bg (M2 n) S':=fun S' v=>by rw[OO];exact PZ v DC
 refine⟨fun d=>?_,by rw[lZ _ hV];exact Wi,lZ,by rw[OO];exact Mm _,fun U h1 h2=>?_,qJ⟩
 ·rcases Mk hn with ⟨k,q,h1,rfl⟩ | ⟨c,hc,k,q,h1,rfl⟩
  ·show DU x roots d (if(mt:ByteArray)=mt then⟨0,mt,0,(k:Nat),0,0⟩else _)=some (if(mt:ByteArray)=mt then Jt q else _);rw[Aw rfl,Aw rfl];show(if mt=mt∧(0:Int)=0∧(0:Int)=0∧(0:Int)=0 then(Jp roots (k:Nat)).map Jt else none)=some (Jt q);rw[Aw ⟨rfl,rfl,rfl,rfl⟩];unfold Jp;rw[Ah (by omega),Ci,h1];rfl
  ·have Gu:=(Cg hx).1 _ (hE.cand c hc).1;have T4:=TG Gu;have u7:Pb x c.rel.path c.place=some c.rel:=by
    unfold Pb;cases hf:x.find? fun r=>decide (r.path=c.rel.path)&&decide (plc r.ver=c.place)with
    |none =>
     rw[Em]at hf;exact absurd (by simp[(hE.cand c hc).2.2]) (hf c.rel (hE.cand c hc).1)
    |some r =>
     have h2:=Ft hf;simp only[Ag,AA]at h2;have cp:=CJ hf;have uU:=(Cg hx).1 r cp;rw[aZ (Cg hx) cp (hE.cand c hc).1 h2.1 (by rw[←uU.plc,h2.2,(hE.cand c hc).2.2,Gu.plc])]
   have e1:Ta ⟨q,c.rel.path,c.place,(k:Nat)⟩=⟨1,c.rel.path,c.place,(k:Nat),0,0⟩:=by unfold Ta;rw[Ah T4]
   have e2:IZ ⟨q,c.rel.path,c.place,(k:Nat)⟩=Ei c.rel.path c.place q:=by unfold IZ;rw[Ah T4]
   rw[e1,e2];unfold DU;rw[Ah (show ¬((1:Int)=0) by decide),Aw rfl,Aw ⟨rfl,rfl⟩];dsimp only;rw[u7];dsimp only;unfold Jp;rw[Ah (by omega),Ci,h1];dsimp only;unfold cL;rw[Ah];rw[GJ,←e2,OO];exact DC
 ·rw[OO];refine TC fun u hu=>?_;unfold M2 at hu;split at hu
  ·rw[Am.1 hu];exact h2
  ·rename_i hm;rcases Aq.1 hu with rfl | hu
   ·exact h1 hm
   ·rw[Am.1 hu];exact h2
structure jr(D:List Sl)(U:List ByteArray)(p:ByteArray)(t:List Tm)(C:Int→Prop):Prop where
 form:KN t
 inU:Uw U t
 conc:CZ t p=true
 one:∃S,WU D p S∧Bg t S=true
 cov:∀k:Int,0≤k→k<1000000→C k→Bg t (J9 D p (Pn k))=true
structure mq(D:List Sl)(U:List ByteArray)(p:ByteArray)(t:List Tm)(C:Int→Prop):Prop where
 form:KN t
 inU:Uw U t
 none_:Bg t D=true
 cov:∀k:Int,0≤k→k<1000000→C k→Bg t (J9 D p (Pn k))=true
theorem Fl.forms{x:List Rl}{roots:List Rq}{s:SS}(h:Fl x roots s):∀k,KN (DO s k):=fun k=>by
 unfold DO;rw[Cj];cases e:s.drv[k]? with
 |none=>exact OF
 |some t=>exact M7 (fun _ h=>by cases h) h.der t (Av e)
theorem U8{x:List Rl}{roots:List Rq}{d:List (List Tm)}{k r:Nat}{p:ByteArray}(hk:k<d.length)(hr:r<d.length)(h0:(Bw (d.getD k []) (d.getD r []) p).2=0) :
  DU x roots d ⟨3,p,0,0,(k:Nat),(r:Nat)⟩=some (Bw (d.getD k []) (d.getD r []) p).1:=by
 have e:∀j:Nat,j<d.length→Jp d (j:Nat)=some (d.getD j []):=fun j hj=>by
  unfold Jp;rw[Ah (by omega),Ci,Cj,Az hj];rfl
 unfold DU;rw[Ah (show ¬((3:Int)=0) by decide),Ah (show ¬((3:Int)=1) by decide),Ah (show ¬((3:Int)=2) by decide),Aw rfl,Aw ⟨rfl,rfl⟩];dsimp only;rw[e k hk,e r hr];dsimp only;rw[Aw h0]
theorem NM{x:List Rl}{roots:List Rq}{D:List Sl}{U:List ByteArray}{p:ByteArray}(hD:FY D):∀(l:List (Nat×(Int→Prop))) {k:Nat} {s:SS} {C:Int→Prop},Fl x roots s→k<s.drv.length→(∀y∈l,y.1<s.drv.length) →
  (s.full=false→mq D U p (DO s k) C∧∀y∈l,jr D U p (DO s y.1) y.2) →
  Fl x roots (Cn p (l.map (·.1)) k s).2∧Grow s (Cn p (l.map (·.1)) k s).2∧(Cn p (l.map (·.1)) k s).1<(Cn p (l.map (·.1)) k s).2.drv.length ∧
  ((Cn p (l.map (·.1)) k s).2.full=false→∃C',mq D U p (DO (Cn p (l.map (·.1)) k s).2 (Cn p (l.map (·.1)) k s).1) C' ∧
   (CZ (DO (Cn p (l.map (·.1)) k s).2 (Cn p (l.map (·.1)) k s).1) p=false∨∀j,C j∨(∃y∈l,y.2 j)→C' j))
 | [],k,s,C,hd,hk,_,hA=>⟨hd,.refl s,hk,fun hf=>⟨C,(hA hf).1,.inr fun j hj=>hj.elim id fun⟨y,hy,_⟩=>(by cases hy)⟩⟩
 |y::l,k,s,C,hd,hk,hl,hA=>by
  rw[AN]
  by_cases h1:s.full=true∨CZ (DO s k) p=false
  ·have e:Cn p (y.1::l.map (·.1)) k s=(k,s):=by unfold Cn;rw[Aw h1]
   rw[e];refine⟨hd,.refl s,hk,fun hf=>⟨C,(hA hf).1,.inl (h1.resolve_left fun e=>?_)⟩⟩;have hf:s.full=false:=hf;rw[e]at hf;cases hf
  simp only[not_or,Bool.not_eq_true,Bool.not_eq_false]at h1;obtain⟨hf,T3⟩:=h1;obtain⟨Yy,lG⟩:=hA hf;have hy:=lG y (Aa ..);have hi:¬(s.full=true∨CZ (DO s k) p=false):=by rw[hf,T3];simp
  by_cases h2:y.1=k
  ·have e:Cn p (y.1::l.map (·.1)) k s=Cn p (l.map (·.1)) k s:=by conv=>lhs;unfold Cn;rw[Ah hi,Aw h2]
   rw[e];have sf : mq D U p (DO s k) fun j=>C j∨y.2 j:=⟨Yy.form,Yy.inU,Yy.none_,fun j j0 j1 hj=>hj.elim (Yy.cov j j0 j1) fun h=>by rw[←h2];exact hy.cov j j0 j1 h⟩;obtain⟨i1,i2,i3,i4⟩:=NM hD l hd hk (fun z hz=>hl z (Ae _ hz)) (fun _=>⟨sf,fun z hz=>lG z (Ae _ hz)⟩);refine⟨i1,i2,i3,fun hf=>?_⟩;obtain⟨C',j1,j2⟩:=i4 hf;refine⟨C',j1,j2.imp id fun h j hj=>h j ?_⟩;rcases hj with hj | ⟨z,hz,hj⟩
   ·exact .inl (.inl hj)
   ·rcases Aq.1 hz with rfl | hz
    ·exact .inl (.inr hj)
    ·exact .inr ⟨z,hz,hj⟩
  ·obtain⟨S2,o2,v2⟩:=hy.one;obtain⟨r1,r2⟩:=WA Yy.form hy.form T3 hy.conc (.self hD) Yy.none_ o2 v2;have e:Cn p (y.1::l.map (·.1)) k s=Cn p (l.map (·.1)) (Ec s ⟨3,p,0,0,k,y.1⟩ (Bw (DO s k) (DO s y.1) p).1).1 (Ec s ⟨3,p,0,0,k,y.1⟩ (Bw (DO s k) (DO s y.1) p).1).2:=by
    conv=>lhs;unfold Cn;rw[Ah hi,Ah h2,Ah (fun h=>h r1)]
   rw[e];have hy1:=hl y (Aa ..);obtain⟨a1,a2,a3⟩:=Kn hd (U8 (x:=x) (roots:=roots) hk hy1 r1);have hg:=Ko s ⟨3,p,0,0,(k:Nat),(y.1:Nat)⟩ (Bw (DO s k) (DO s y.1) p).1;generalize U6 : Ec s ⟨3,p,0,0,(k:Nat),(y.1:Nat)⟩ (Bw (DO s k) (DO s y.1) p).1=s' at *
   have a3:s'.2.full=false→DO s'.2 s'.1=(Bw (DO s k) (DO s y.1) p).1:=a3;obtain⟨i1,i2,i3,i4⟩:=NM hD (C:=fun j=>C j∨y.2 j) l a1 a2 (fun z hz=>BJ (hl z (Ae _ hz)) hg.len) (fun dN=>by
    refine⟨?_,fun z hz=>by rw[hg.at (hl z (Ae _ hz))];exact lG z (Ae _ hz)⟩;rw[a3 dN];exact⟨Ns _ _ _,Ra Yy.inU hy.inU,r2 D (.self hD) (.inl Yy.none_),fun j j0 j1 hj=>r2 _ (.ver hD (EV ⟨j0,j1⟩)) (hj.imp (Yy.cov j j0 j1) (hy.cov j j0 j1))⟩)
   refine⟨i1,hg.trans i2,i3,fun hf=>?_⟩;obtain⟨C',j1,j2⟩:=i4 hf;refine⟨C',j1,j2.imp id fun h j hj=>h j ?_⟩;rcases hj with hj | ⟨z,hz,hj⟩
   ·exact .inl (.inl hj)
   ·rcases Aq.1 hz with rfl | hz
    ·exact .inl (.inr hj)
    ·exact .inr ⟨z,hz,hj⟩
def II(roots:List Rq)(dec:List Cd):Prop:=∀q∈HH roots dec,∀d∈dec,d.rel.path=q.path→has q.set d.place=true
theorem II.nil(roots:List Rq):II roots []:=fun _ _ d h=>by cases h
theorem ZM(roots:List Rq)(dec:List Cd)(c:Cd):HH roots (dec++[c])=HH roots dec++c.rel.reqs:=by
 unfold HH;rw[AH,CK,AP];simp
theorem lc(c:Cd):(Qd c).map (·.rq)=c.rel.reqs:=RE (fun _ _=>rfl) _ _
theorem YU{dec:List Cd}{c:Cd}(h:D8 dec c=none):∀q∈c.rel.reqs,∀d∈dec++[c],d.rel.path=q.path→has q.set d.place=true:=fun q hq d hd e=>by
 rw[←lc]at hq;obtain⟨n,hn,rfl⟩:=Ak.1 hq;unfold D8 at h;rw[Em]at h
 have:=h n hn
 unfold aJ at this;rw[Bool.not_eq_true,F5]at this
 have:=this d hd
 rw[e]at this;simpa using this
theorem KU{dec:List Cd}{c:Cd}{n:Nd}(h:D8 dec c=some n):n∈Qd c∧∃d∈dec++[c],d.rel.path=n.rq.path∧has n.rq.set d.place=false:=by
 unfold D8 at h;have h1:=Ft h;refine⟨CJ h,?_⟩;unfold aJ at h1;rw[Bb]at h1;obtain⟨d,hd,e⟩:=h1;simp only[Ag,AA,CT]at e;exact⟨d,hd,e⟩
theorem II.snoc{roots:List Rq}{dec:List Cd}(h:II roots dec){p:ByteArray}{needs:List Nd}(hN:oL roots dec p needs){c:Cd}(hc:c.rel.path=p)(hn:∀n∈needs,has n.rq.set c.place=true)(hk:D8 dec c=none):II roots (dec++[c]):=by
 intro q hq d hd e;rw[ZM]at hq;rcases A7.1 hq with hq | hq
 ·rcases A7.1 hd with hd | hd
  ·exact h q hq d hd e
  ·rw[Am.1 hd]at e⊢;rw[←MO]at hq;obtain⟨n,XJ,rfl⟩:=Ak.1 hq;exact hn n ((hN.mem n).2 ⟨XJ,by rw[←e,hc]⟩)
 ·exact YU hk q hq d hd e
def Uq(y:Sl):List Sl→List Sl
 | []=>[y]
 |z::l=>if Fg y.path z.path then y::z::l else z::Uq y l
def FU:List Sl→List Sl
 | []=>[]
 |y::l=>Uq y (FU l)
theorem Tb{y z:Sl}:∀{l:List Sl},z∈Uq y l↔z=y∨z∈l
 | []=>by simp[Uq]
 |u::l=>by
  unfold Uq;split
  ·simp
  ·rw[Aq,Tb,Aq];constructor
   ·rintro(h | h | h)
    ·exact .inr (.inl h)
    ·exact .inl h
    ·exact .inr (.inr h)
   ·rintro(h | h | h)
    ·exact .inr (.inl h)
    ·exact .inl h
    ·exact .inr (.inr h)
theorem Ia{z:Sl}:∀{l:List Sl},z∈FU l↔z∈l
 | []=>by simp[FU]
 |u::l=>by unfold FU;rw[Tb,Ia,Aq]
theorem XR{y:Sl}:∀{l:List Sl},VI l→(∀z∈l,z.path≠y.path)→VI (Uq y l)
 | [],_,_=>by simp[Uq,VI]
 |u::l,h,hn=>by
  obtain⟨h1,h2⟩:=BI.1 h;unfold Uq;split
  ·rename_i hb;refine BI.2 ⟨fun z hz=>?_,h⟩;rcases Aq.1 hz with rfl | hz
   ·exact hb
   ·exact Ev hb (h1 z hz)
  ·rename_i hb;refine BI.2 ⟨fun z hz=>?_,XR h2 fun z hz=>hn z (Ae _ hz)⟩;rcases Tb.1 hz with rfl | hz
   ·cases e:Fg u.path z.path with
    |true=>rfl
    |false =>
     have hb:Fg z.path u.path=false:=by simpa using hb
     exact absurd (Hp e hb) (hn u (Aa ..))
   ·exact h1 z hz
theorem Qk:∀{l:List Sl},(l.map (·.path)).Nodup→VI (FU l)
 | [],_=>List.Pairwise.nil
 |y::l,h=>by
  simp only[AN,CF]at h;exact XR (Qk h.2) fun z hz e=>h.1 (Ak.2 ⟨z,Ia.1 hz,e⟩)
theorem S0:∀{l:List Sl} {b:Option ByteArray},VI l→(∀c,b=some c→∀y∈l,Fg c y.path=true)→SX b l=true
 | [],_,_,_=>by unfold SX;rfl
 |y::l,b,h,hb=>by
  obtain⟨h1,h2⟩:=BI.1 h;unfold SX;cases b with
  |none=>simpa using S0 h2 fun c e z hz=>by cases e;exact h1 z hz
  |some c =>
   have:=hb c rfl y (Aa ..)
   simp only[this,EA];exact S0 h2 fun c e z hz=>by cases e;exact h1 z hz
theorem nN{l:List Sl}(h:VI l):K8 l=true:=S0 h fun _ e=>by cases e
theorem UW{x:List Rl}(hx:A4 x=0){r:Rl}(hr:r∈x):NE x (GO r)=some r:=by
 unfold NE;rw[Ah (fun h=>h hx)];cases h:x.find? fun s=>decide (GO s=GO r)with
 |none =>
  rw[Em]at h;exact absurd (by simp) (h r hr)
 |some s =>
  have h1:=Ft h;simp only[AA]at h1;rw[Th (Cg hx).2 (CJ h) hr h1]
theorem EC.sorted{x:List Rl}{dec:List Cd}(h:EC x dec):VI (FU (AK dec)):=Qk (by rw[NL];exact h.nodup)
theorem EC.findS{x:List Rl}{dec:List Cd}(h:EC x dec){c:Cd}(hc:c∈dec):Cb (FU (AK dec)) c.rel.path=some (Tf c) :=
 Ng h.sorted (y:=Tf c) (Ia.2 (Ak.2 ⟨c,hc,rfl⟩))
theorem gq{x:List Rl}{roots:List Rq}(hx:A4 x=0){dec:List Cd}(h:EC x dec)(hs:II roots dec)(hl:KC (HH roots dec) (AK dec)=none):oM x roots (FU (AK dec)):=by
 have FR:∀q∈HH roots dec,∃y,Cb (FU (AK dec)) q.path=some y∧has q.set (place y.ver)=true:=fun q hq=>by
  have:=Zz hl q hq
  rw[K4]at this;obtain⟨y,hy,e⟩:=this;obtain⟨d,hd,rfl⟩:=Ak.1 hy;have e:d.rel.path=q.path:=e;refine⟨Tf d,by rw[←e];exact h.findS hd,?_⟩;have h1:=hs q hq d hd e;have Gu:=(Cg hx).1 _ (h.cand d hd).1;rw[(h.cand d hd).2.2,Gu.plc]at h1;exact h1
 refine⟨hx,nN h.sorted,fun y hy=>?_,fun q hq=>FR q (Bp _ hq),fun y hy r hr q hq=>?_⟩
 ·obtain⟨d,hd,rfl⟩:=Ak.1 (Ia.1 hy);exact⟨d.rel,UW hx (h.cand d hd).1,(h.cand d hd).2.1⟩
 ·obtain⟨d,hd,rfl⟩:=Ak.1 (Ia.1 hy)
  have:NE x (Tf d)=some d.rel:=UW hx (h.cand d hd).1
  rw[this]at hr;cases hr;exact FR q (Bk _ (Ep.2 ⟨_,Ak.2 ⟨d,hd,rfl⟩,hq⟩))
def cX(dec:List Cd)(needs:List Nd)(c:Cd):Bool:=(needs.all fun n=>has n.rq.set c.place)&&(D8 dec c).isNone
def NN(x:List Rl)(roots:List Rq):Nat→List Cd→List (List Cd)
 |0,_=>[]
 |n+1,dec=>match(GA roots dec).2 with
  | []=>[dec]
  |n0::l=>((Cq x (GA roots dec).1).map fun c=>if cX dec (n0::l) c then NN x roots n (dec++[c])else []).flatten
structure Lf(x:List Rl)(roots:List Rq)(dec d:List Cd):Prop where
 pre:dec <+: d
 ok:EC x d
 sat:II roots d
 stop:KC (HH roots d) (AK d)=none
theorem JF{x:List Rl}{p:ByteArray}{c:Cd}(h:c∈Cq x p):c.rel.path=p∧(c.rel∈x∧c.rel.yanked=false∧c.place=plc c.rel.ver):=by
 obtain⟨r,h1,h2,h3,rfl⟩:=KQ.1 h;exact⟨h2,h1,h3,rfl⟩
theorem O0{dec:List Cd}{needs:List Nd}{c:Cd}:cX dec needs c=true↔(∀n∈needs,has n.rq.set c.place=true)∧D8 dec c=none:=by
 unfold cX;rw[Ag,Br,Option.isNone_iff_eq_none]
theorem Ve{x:List Rl}{roots:List Rq}:∀{n:Nat} {dec:List Cd},EC x dec→II roots dec→∀d∈NN x roots n dec,Lf x roots dec d
 |0,_,_,_,d,hd=>by cases hd
 |n+1,dec,h,hs,d,hd=>by
  unfold NN at hd;split at hd
  ·rename_i e;rw[Am.1 hd];exact⟨MZ,h,hs,Tx.1 e⟩
  ·rename_i n0 l e;have hN:=NV e;obtain⟨L,hL,hd⟩:=Ep.1 hd;obtain⟨c,hc,rfl⟩:=Ak.1 hL;split at hd
   ·rename_i Gu;obtain⟨h1,h2⟩:=O0.1 Gu;obtain⟨c1,c2⟩:=JF hc;have ci:De dec c.rel.path=false:=by rw[c1];exact hN.undone
    have:=Ve (n:=n) (h.snoc c2 ci) (hs.snoc hN c1 h1 h2) d hd
    exact⟨(N8 _ _).trans this.pre,this.ok,this.sat,this.stop⟩
   ·cases hd
theorem Lf.sol{x:List Rl}{roots:List Rq}(hx:A4 x=0){dec d:List Cd}(h:Lf x roots dec d):oM x roots (FU (AK d)):=gq hx h.ok h.sat h.stop
theorem kL{x:List Rl}{roots:List Rq}(hx:A4 x=0){s:SS}(hd:Fl x roots s){k:Nat}(hk:k<s.drv.length){dec d:List Cd}(he:CD (DO s k) (AK dec)=true)(h:Lf x roots dec d):False:=by
 have hS:=h.sol hx;have hv:=V1 (s:=FU (AK d)) hS.inc (fun y hy=>Ia.2 (by
  obtain⟨c,hc,rfl⟩:=Ak.1 hy;obtain⟨t,e⟩:=h.pre;exact Ak.2 ⟨c,by rw[←e];exact Bp _ hc,rfl⟩)) he
 have hn:=LY hS (d:=[]) (fun _ h=>by cases h) hd.der (DO s k) (by
  unfold DO;rw[Cj,Az hk];exact Ap hk)
 rw[hv]at hn;cases hn
theorem nP{x:List Rl}(h:A4 x=0):x.length≤256:=by
 unfold A4 at h;split at h
 ·cases h
 ·omega
theorem fE{l:List Rl}{k:Int}:(l.map fun r=>(plc r.ver,plc r.ver+1)).any (BL k)=true↔∃r∈l,plc r.ver=k:=by
 rw[Bb];constructor
 ·rintro⟨y,hy,h⟩
  obtain⟨r,hr,rfl⟩:=Ak.1 hy
  have:=DN.1 h
  exact⟨r,hr,by have h1:=this.1;have h2:=this.2;dsimp only at h1 h2;omega⟩
 ·rintro⟨r,hr,rfl⟩
  exact⟨_,Ak.2 ⟨r,hr,rfl⟩,DN.2 ⟨AZ _,by dsimp only;omega⟩⟩
theorem UH{x:List Rl}(hx:A4 x=0){p:ByteArray}{k:Int}:has (B8 x p) k=true↔∃c∈Cq x p,c.place=k:=by
 unfold B8;rw[G7];unfold has J8;rw[Ah (fun h=>h hx)];simp only[Ag,AA];rw[fE];constructor
 ·rintro⟨_,r,hr,rfl⟩
  simp only[Bo,AA,CT]at hr;exact⟨⟨plc r.ver,r⟩,KQ.2 ⟨r,hr.1.1,hr.1.2,hr.2,rfl⟩,rfl⟩
 ·rintro⟨c,hc,rfl⟩
  obtain⟨r,h1,h2,h3,rfl⟩:=KQ.1 hc;have Gu:=(Cg hx).1 r h1
  have:=Js Gu.val
  rw[←Gu.plc]at this;refine⟨⟨this.1,this.2⟩,r,?_,rfl⟩;simp only[Bo,AA,CT];exact⟨⟨h1,h2⟩,h3⟩
theorem bo{x:List Rl}(hx:A4 x=0)(p:ByteArray):∃k:Int,0≤k∧k<1000000∧has (B8 x p) k=false:=by
 apply Bn;intro hn;have FR:∀k∈(List.range 257).map fun i:Nat=>(i:Int),k∈x.map fun r=>plc r.ver:=by
  intro k hk;obtain⟨i,hi,rfl⟩:=Ak.1 hk;have hi:=List.mem_range.1 hi;have hh:has (B8 x p) (i:Int)=true:=by
   cases e:has (B8 x p) (i:Int)with
   |true=>rfl
   |false=>exact absurd ⟨(i:Int),by omega,by omega,e⟩ hn
  obtain⟨c,hc,e⟩:=(UH hx).1 hh;obtain⟨r,h1,_,_,rfl⟩:=KQ.1 hc;exact Ak.2 ⟨r,h1,e⟩
 have:=Ih (List.pairwise_map.2 (List.nodup_range.imp fun h e=>h (Int.ofNat.inj e))) FR
 rw[Ba,Ba,Qz]at this
 have:=nP hx
 omega
theorem La(dec:List Cd)(c:Cd):AK (dec++[c])=J9 (AK dec) c.rel.path c.rel.ver:=by unfold AK J9;rw[AH];rfl
theorem MG{t:List Tm}{S:List Sl}:CD t S=true↔Bg t S=true∧∀u∈t,CH S u.path=true:=by
 unfold CD;rw[Ag,CT,F5];simp
section
variable {x:List Rl}{roots:List Rq}{dec:List Cd}{p:ByteArray}{needs:List Nd}
abbrev ZE(p:ByteArray)(dec:List Cd):List ByteArray:=p::(AK dec).map (·.path)
theorem jN{c:Cd}{t:List Tm}(hf:KN t)(he:CD t (AK (dec++[c]))=true):Uw (ZE c.rel.path dec) t:=by
 refine⟨EJ hf,fun u hu=>?_⟩
 have:=(MG.1 he).2 u hu
 rw[G6,La,AH]at this;rcases A7.1 this with h | h
 ·exact Ae _ h
 ·rw[AN,E1,Am]at h;rw[h];exact Aa ..
theorem ff(hx:A4 x=0)(hd:EC x dec){c:Cd}(hc:c.rel∈x){t:List Tm}(he:CD t (AK (dec++[c]))=true)(hn:CZ t c.rel.path=false):CD t (AK dec)=true:=by
 obtain⟨h1,h2⟩:=MG.1 he;have DC:=JG hn;rw[La]at h1 h2;refine MG.2 ⟨?_,fun u hu=>?_⟩
 ·rw[KL (.self (hd.valid hx)) (.ver (hd.valid hx) ((Cg hx).1 _ hc).val) DC];exact h1
 ·have:=h2 u hu
  rw[SJ,CE]at this;rcases this with h | h
  ·exact h
  ·rw[K4]at h;obtain⟨y,hy,e⟩:=h;rw[Am.1 hy]at e;exact absurd e.symm (DC u hu)
theorem dv(hx:A4 x=0)(hd:EC x dec){c:Cd}(hc:c.rel∈x∧c.rel.yanked=false∧c.place=plc c.rel.ver)(hu:De dec c.rel.path=false){t:List Tm}(hf:KN t)(he:CD t (AK (dec++[c]))=true)(hn:CZ t c.rel.path=true) :
  jr (AK dec) (ZE c.rel.path dec) c.rel.path t fun k=>k=c.place:=by
 have Gu:=(Cg hx).1 _ hc.1;have hV:=hd.valid hx;have h1:=(MG.1 he).1;rw[La]at h1;refine⟨hf,jN hf he,hn,⟨_,.ver hV Gu.val,h1⟩,fun k k0 k1 e=>?_⟩;subst e;rw[ZV (by rw[FO];exact hu) (EV ⟨k0,k1⟩) Gu.val (by rw[G2,hc.2.2,Gu.plc])];exact h1
theorem OU(hx:A4 x=0)(hr:BS roots=0){E:List Cd}(hE:EC x E){n:Nd}(hn:n∈Dr roots E)(hv:∃d∈E,d.rel.path=n.rq.path∧has n.rq.set d.place=false) :
  (∀d,DU x roots d (Ta n)=some (IZ n))∧CD (IZ n) (AK E)=true∧KN (IZ n):=by
 obtain⟨d,hd,e,hs⟩:=hv;have Gu:=(Cg hx).1 _ (hE.cand d hd).1;have hf:=hE.find hd;have hI:=Rw hx hr hE hn (.inr ⟨Tf d,by rw[←e];exact hf,by rw[show(Tf d).ver=d.rel.ver from rfl,←Gu.plc,←(hE.cand d hd).2.2];exact hs⟩);refine⟨hI.inf,MG.2 ⟨hI.viol,fun u hu=>?_⟩,hI.form⟩
 have:=(hI.inU ((AK E).map (·.path)) (fun h=>G6.1 (hI.path h)) (G6.1 (by rw[JK,←e,hf];rfl))).2 u hu
 exact G6.2 this
theorem cM(hx:A4 x=0)(hr:BS roots=0)(hd:EC x dec)(hN:oL roots dec p needs){c:Cd}(hc:c∈Cq x p){n:Nd}(hn:n∈needs)(hs:has n.rq.set c.place=false):CZ (IZ n) p=true:=by
 obtain⟨c1,c2⟩:=JF hc;have hu:De dec c.rel.path=false:=by rw[c1];exact hN.undone
 have hE:=hd.snoc c2 hu;obtain⟨dO,kc⟩:=(hN.mem n).1 hn;have Gu:=(Cg hx).1 _ c2.1;have hI:=Rw hx hr hE (NS dO) (.inr ⟨Tf c,by rw[kc,←c1];exact hE.find (by simp),by rw[show(Tf c).ver=c.rel.ver from rfl,←Gu.plc,←c2.2.2];exact hs⟩);cases oV:CZ (IZ n) p with
 |true=>rfl
 |false =>
  exfalso
  have NI:n.rq.set≠[]∧EB n.rq.set:=by
   rcases Mk dO with ⟨k,q,h1,rfl⟩ | ⟨c,hc,k,q,h1,rfl⟩
   ·exact KT hr q (Av h1)
   ·exact((Cg hx).1 _ (hd.cand c hc).1).set q (Av h1)
  obtain⟨k,hk⟩:=bh NI.1 NI.2;have jg:=L9 hk;have hV:=hd.valid hx;have o1:WU (AK dec) p (J9 (AK dec) p (Pn k)):=.ver hV (EV jg);have o2:WU (AK dec) p (AK (dec++[c])):=by rw[La,c1];exact .ver hV Gu.val
  have h1:=KL o1 o2 (JG oV);rw[hI.viol,hI.raw _ o1.val,BA]at h1
  have:=h1 (DG n.rq) (by unfold M2;split<;>simp)
  rw[show(DG n.rq).path=p from kc,H8 (by rw[FO];exact hN.undone),TE (by rw[show(⟨p,Pn k⟩:Sl).ver=Pn k from rfl,G2];exact hk)]at this;cases this
theorem cE(hx:A4 x=0)(hr:BS roots=0)(hd:EC x dec)(hN:oL roots dec p needs){n0:Nd}(h0:n0∈needs)(L:List (Nat×Cd))(hL:L.map (·.2)=Cq x p){s:SS}(hs:Fl x roots s)(DI:∀y∈L,y.1<s.drv.length)
  (qO:s.full=false→∀y∈L,CD (DO s y.1) (AK (dec++[y.2]))=true∧CZ (DO s y.1) p=true) :
  Fl x roots (D2 x p n0 (L.map (·.1)) s).2∧Grow s (D2 x p n0 (L.map (·.1)) s).2∧(D2 x p n0 (L.map (·.1)) s).1<(D2 x p n0 (L.map (·.1)) s).2.drv.length ∧
  ((D2 x p n0 (L.map (·.1)) s).2.full=false→CD (DO (D2 x p n0 (L.map (·.1)) s).2 (D2 x p n0 (L.map (·.1)) s).1) (AK dec)=true):=by
 have hV:=hd.valid hx;have o5:CH (AK dec) p=false:=by rw[FO];exact hN.undone
 obtain⟨sC,fU⟩:=(hN.mem n0).1 h0;have hI:=Rw hx hr hd sC (.inl (by rw[fU];exact Hv o5));unfold D2;obtain⟨a1,a2,a3⟩:=Kn hs (hI.inf s.drv);have ag:=Ko s (Ta n0) (IZ n0);have a3:(Bl s n0).2.full=false→DO (Bl s n0).2 (Bl s n0).1=IZ n0:=a3
 change Fl x roots (Bl s n0).2 at a1
 change (Bl s n0).1<(Bl s n0).2.drv.length at a2
 change Grow s (Bl s n0).2 at ag
 generalize Bl s n0=s1 at *
 -- the incompatibility of the places that are not available
 obtain⟨u,u0,u1,hu⟩:=bo hx p;have Wi:∀k:Int,0≤k→k<1000000→has (B8 x p) k=false→Bg [(⟨p,false,Ed (B8 x p)⟩:Tm)] (J9 (AK dec) p (Pn k))=true:=fun k k0 k1 hk=>by
  rw[BA];intro t ht;rw[Am.1 ht];show Di _ (Cb (J9 (AK dec) p (Pn k)) p)=true;rw[H8 o5];show(CN (Pn k)&&has (Ed (B8 x p)) (place (Pn k)))=true;rw[EV ⟨k0,k1⟩,G2,FD,hk];unfold LH;simp[k0,k1]
 have lY:Bg [(⟨p,false,Ed (B8 x p)⟩:Tm)] (AK dec)=false:=by
  rw[AI];intro h
  have:=BA.1 h _ (Aa ..)
  rw[show(⟨p,false,Ed (B8 x p)⟩:Tm).path=p from rfl,Hv o5]at this;cases this
 have ou:WU (AK dec) p (J9 (AK dec) p (Pn u)):=.ver hV (EV ⟨u0,u1⟩);have DC:HR p (B8 x p)≠[]:=by
  have c1:=CY (l:=[(⟨p,false,Ed (B8 x p)⟩:Tm)]) ou.val;have c2:=CY (l:=[(⟨p,false,Ed (B8 x p)⟩:Tm)]) hV;rw[Wi u u0 u1 hu]at c1;rw[lY]at c2;unfold HR PY;cases hc:CP [(⟨p,false,Ed (B8 x p)⟩:Tm)]with
  |none=>rw[hc]at c1;cases c1
  |some c =>
   rw[hc]at c2;intro e;have e:c=[]:=e;rw[e]at c2;cases c2
 have Ly:∀S,FY S→Bg (HR p (B8 x p)) S=Bg [(⟨p,false,Ed (B8 x p)⟩:Tm)] S:=fun S v=>PZ v DC;have qm:CZ (HR p (B8 x p)) p=true:=by
  cases h:CZ (HR p (B8 x p)) p with
  |true=>rfl
  |false =>
   have:=KL ou (.self hV) (JG h)
   rw[Ly _ ou.val,Ly _ hV,Wi u u0 u1 hu,lY]at this;cases this
 have nx:DU x roots s1.2.drv ⟨2,p,0,0,0,0⟩=some (HR p (B8 x p)):=by
  unfold DU;rw[Ah (show ¬((2:Int)=0) by decide),Ah (show ¬((2:Int)=1) by decide),Aw rfl,Aw ⟨rfl,rfl,rfl,rfl⟩];unfold cL;rw[Ah (by rw[GJ];exact DC)]
 obtain⟨b1,b2,b3⟩:=Kn a1 nx;have bg:=Ko s1.2 ⟨2,p,0,0,0,0⟩ (HR p (B8 x p));have b3:(Ej x p s1.2).2.full=false→DO (Ej x p s1.2).2 (Ej x p s1.2).1=HR p (B8 x p):=b3
 change Fl x roots (Ej x p s1.2).2 at b1
 change (Ej x p s1.2).1<(Ej x p s1.2).2.drv.length at b2
 change Grow s1.2 (Ej x p s1.2).2 at bg
 generalize Ej x p s1.2=s2 at *
 have qj:s2.2.full=false→s1.2.full=false∧s.full=false:=fun h=>by
  have h1:s1.2.full=false:=by
   cases e:s1.2.full with
   |false=>rfl
   |true=>rw[bg.full e]at h;cases h
  refine⟨h1,?_⟩;cases e:s.full with
  |false=>rfl
  |true=>rw[ag.full e]at h1;cases h1
 have main:=NM (D:=AK dec) (U:=ZE p dec) (p:=p) hV ((s2.1,fun k=>has (B8 x p) k=false)::L.map fun y=>(y.1,fun k=>k=y.2.place)) (C:=fun k=>has n0.rq.set k=false) b1 (BJ a2 bg.len)
  (fun y hy=>by
   rcases Aq.1 hy with rfl | hy
   ·exact b2
   ·obtain⟨z,hz,rfl⟩:=Ak.1 hy;exact BJ (DI z hz) (ag.trans bg).len) (fun hf=>by
   obtain⟨f1,f0⟩:=qj hf;refine⟨?_,fun y hy=>?_⟩
   ·rw[bg.at a2,a3 f1];refine⟨hI.form,hI.inU _ (fun h=>Ae _ (G6.1 (hI.path h))) (by rw[fU];exact Aa ..),hI.viol,fun k k0 k1 hk=>?_⟩;have ok:WU (AK dec) p (J9 (AK dec) p (Pn k)):=.ver hV (EV ⟨k0,k1⟩);rw[hI.raw _ ok.val,BA];intro t ht;have Wg:=BA.1 ((hI.raw _ hV).symm.trans hI.viol) t ht;unfold M2 at ht;have Zk:Di (DG n0.rq) (Cb (J9 (AK dec) p (Pn k)) (DG n0.rq).path)=true:=by
     rw[show(DG n0.rq).path=p from fU,H8 o5];exact QY (.inr ⟨_,rfl,EV ⟨k0,k1⟩,by rw[show(⟨p,Pn k⟩:Sl).ver=Pn k from rfl,G2];exact hk⟩)
    split at ht
    ·rw[Am.1 ht];exact Zk
    ·rename_i hm;rcases Aq.1 ht with rfl | ht
     ·have DC:n0.path≠p:=fun e=>by
       have:=hI.path hm
       rw[e,o5]at this;cases this
      rw[show(⟨n0.path,false,[(n0.place,n0.place+1)]⟩:Tm).path=n0.path from rfl]at Wg⊢;rw[ok.same _ DC];exact Wg
     ·rw[Am.1 ht];exact Zk
   ·rcases Aq.1 hy with rfl | hy
    ·show jr _ _ p (DO s2.2 s2.1) _;rw[b3 hf];refine⟨Mm _,TC (fun t ht=>by rw[Am.1 ht];exact Aa ..),qm,⟨_,ou,by rw[Ly _ ou.val];exact Wi u u0 u1 hu⟩,fun k k0 k1 hk=>?_⟩;rw[Ly _ (WU.ver hV (EV ⟨k0,k1⟩)).val];exact Wi k k0 k1 hk
    ·obtain⟨z,hz,rfl⟩:=Ak.1 hy;show jr _ _ p (DO s2.2 z.1) _;rw[(ag.trans bg).at (DI z hz)];obtain⟨e1,e2⟩:=qO f0 z hz;have hzc:z.2∈Cq x p:=by rw[←hL];exact Ak.2 ⟨z,hz,rfl⟩
     obtain⟨c1,c2⟩:=JF hzc
     have:=dv hx hd c2 (by rw[c1];exact hN.undone) (hs.forms z.1) e1 (by rw[c1];exact e2)
     rw[c1]at this;exact this)
 have uL:((s2.1,fun k=>has (B8 x p) k=false)::L.map fun y=>(y.1,fun k=>k=y.2.place)).map (·.1)=s2.1::L.map (·.1):=by
  rw[AN,BO];rfl
 rw[uL]at main;obtain⟨m1,m2,m3,m4⟩:=main;refine⟨m1,(ag.trans bg).trans m2,m3,fun hf=>?_⟩;obtain⟨C',q1,q2⟩:=m4 hf;have z8:CZ (DO (Cn p (s2.1::L.map (·.1)) s1.1 s2.2).2 (Cn p (s2.1::L.map (·.1)) s1.1 s2.2).1) p=false:=by
  rcases q2 with q2 | q2
  ·exact q2
  ·refine gN o5 q1.form q1.none_ fun k k0 k1=>q1.cov k k0 k1 (q2 k ?_);cases sD:has n0.rq.set k with
   |false=>exact .inl rfl
   |true =>
    cases ha:has (B8 x p) k with
    |false=>exact .inr ⟨_,Aa ..,ha⟩
    |true =>
     obtain⟨c,hc,e⟩:=(UH hx).1 ha;rw[←hL]at hc;obtain⟨z,hz,rfl⟩:=Ak.1 hc;exact .inr ⟨_,Ae _ (Ak.2 ⟨z,hz,rfl⟩),e.symm⟩
 refine MG.2 ⟨q1.none_,fun t ht=>?_⟩
 have:=q1.inU.2 t ht
 rcases Aq.1 this with e | h
 ·exact absurd e (JG z8 t ht)
 ·exact G6.2 h
end
def GQ(s:SS)(b:List Cd)(p:ByteArray)(needs:List Nd):List Cd→List Sk→Prop
 | [],sk=>sk=[]
 |c::cs,sk=>if(needs.all fun n=>has n.rq.set c.place)=true then ∃(k:Nat) (rest:List Sk),sk=⟨p,c.place,k⟩::rest∧(k<s.drv.length∧CD (DO s k) (AK (b++[c]))=true)∧GQ s b p needs cs rest
  else GQ s b p needs cs sk
section
variable {s s' : SS}{b:List Cd}{p:ByteArray}{needs:List Nd}
theorem GQ.out{c:Cd}(hc:¬(needs.all fun n=>has n.rq.set c.place)=true):∀{cs:List Cd} {sk:List Sk},GQ s b p needs cs sk→GQ s b p needs (cs++[c]) sk
 | [],sk,h=>by
  show(if _ then _ else _);rw[Ah hc];exact h
 |d::cs,sk,h=>by
  have h:if(needs.all fun n=>has n.rq.set d.place)=true then _ else _:=h
  show(if _ then _ else _)
  by_cases hd:(needs.all fun n=>has n.rq.set d.place)=true
  ·rw[Aw hd]at h⊢;obtain⟨k,rest,h1,h2,h3⟩:=h;exact⟨k,rest,h1,h2,GQ.out hc h3⟩
  ·rw[Ah hd]at h⊢;exact GQ.out hc h
theorem GQ.add{c:Cd}(hc:(needs.all fun n=>has n.rq.set c.place)=true){k:Nat}(hk:k<s.drv.length∧CD (DO s k) (AK (b++[c]))=true):∀{cs:List Cd} {sk:List Sk},GQ s b p needs cs sk→GQ s b p needs (cs++[c]) (sk++[⟨p,c.place,k⟩])
 | [],sk,h=>by
  have h:sk=[]:=h;subst h;show(if _ then _ else _);rw[Aw hc];exact⟨k,[],rfl,hk,rfl⟩
 |d::cs,sk,h=>by
  have h:if(needs.all fun n=>has n.rq.set d.place)=true then _ else _:=h
  show(if _ then _ else _)
  by_cases hd:(needs.all fun n=>has n.rq.set d.place)=true
  ·rw[Aw hd]at h⊢;obtain⟨j,rest,rfl,h2,h3⟩:=h;exact⟨j,_,rfl,h2,GQ.add hc hk h3⟩
  ·rw[Ah hd]at h⊢;exact GQ.add hc hk h
theorem GQ.mono(hg:Grow s s'):∀{cs:List Cd} {sk:List Sk},GQ s b p needs cs sk→GQ s' b p needs cs sk
 | [],_,h=>h
 |d::cs,sk,h=>by
  have h:if(needs.all fun n=>has n.rq.set d.place)=true then _ else _:=h
  show(if _ then _ else _)
  by_cases hd:(needs.all fun n=>has n.rq.set d.place)=true
  ·rw[Aw hd]at h⊢;obtain⟨j,rest,rfl,h2,h3⟩:=h;exact⟨j,rest,rfl,⟨BJ h2.1 hg.len,by rw[hg.at h2.1];exact h2.2⟩,h3.mono hg⟩
  ·rw[Ah hd]at h⊢;exact h.mono hg
end
structure mw(x:List Rl)(roots:List Rq)(s:SS)(b:List Cd)(c:Cd)(sk:List Sk)(p:ByteArray)(needs:List Nd)(pre post:List Cd):Prop where
 next:oL roots b p needs
 cands:Cq x p=pre++c::post
 fit:∀n∈needs,has n.rq.set c.place=true
 noclash:D8 b c=none
 skips:GQ s b p needs pre sk
def RJ(x:List Rl)(roots:List Rq)(s:SS):List Cd→List Cd→List (List Sk)→Prop
 |b,[],[]=>KC (HH roots b) (AK b)=none
 |b,c::t,sk::st=>(∃p needs pre post,mw x roots s b c sk p needs pre post)∧RJ x roots s (b++[c]) t st
 |_,_,_=>False
structure VK(x:List Rl)(roots:List Rq)(ls:List (List Cd))(dec:List Cd)(s:SS)(st:List (List Sk))(o:JV):Prop where
 der:Fl x roots o.ss
 grow:Grow s o.ss
 no:o.found=false→o.dec=dec∧o.stack=st∧(o.ss.full=false→o.res<o.ss.drv.length∧CD (DO o.ss o.res) (AK dec)=true)
 yes:o.found=true→o.ss.full=false∧∃t sl,o.dec=dec++t∧o.stack=st++sl∧RJ x roots o.ss dec t sl∧ls.head?=some o.dec
section
variable {rec:List Cd→SS→List (List Sk)→JV}{x:List Rl}{roots:List Rq}{p:ByteArray}{needs:List Nd}{n0:Nd}{dec:List Cd}{st:List (List Sk)}
def JE(rec:List Cd→SS→List (List Sk)→JV)(x:List Rl)(p:ByteArray)(needs:List Nd)(n0:Nd)(dec:List Cd)(st:List (List Sk))(c:Cd)(cs:List Cd)(FP:List Nat)(skips:List Sk)(k:Nat)(s:SS):JV :=
 if CZ (DO s k) p=false then⟨k,false,s,dec,st⟩else D1 rec x p needs n0 dec st cs s (FP++[k]) (skips++[⟨p,c.place,k⟩])
theorem F9(c:Cd)(cs:List Cd)(s:SS)(FP:List Nat)(skips:List Sk):D1 rec x p needs n0 dec st (c::cs) s FP skips =
  if s.full=true then⟨0,false,s,dec,st⟩
  else match needs.find? fun n=>!has n.rq.set c.place with
   |some n=>D1 rec x p needs n0 dec st cs (Bl s n).2 (FP++[(Bl s n).1]) skips
   |none=>match Oq s.drv (AK (dec++[c]))with
    |some k=>JE rec x p needs n0 dec st c cs FP skips k s
    |none=>match D8 dec c with
     |some n=>JE rec x p needs n0 dec st c cs FP skips (Bl s n).1 (Bl s n).2
     |none=>if(rec (dec++[c]) s (st++[skips])).found=true then⟨0,true,(rec (dec++[c]) s (st++[skips])).ss,(rec (dec++[c]) s (st++[skips])).dec,(rec (dec++[c]) s (st++[skips])).stack⟩
      else if(rec (dec++[c]) s (st++[skips])).ss.full=true then⟨0,false,(rec (dec++[c]) s (st++[skips])).ss,dec,st⟩
      else JE rec x p needs n0 dec st c cs FP skips (rec (dec++[c]) s (st++[skips])).res (rec (dec++[c]) s (st++[skips])).ss:=rfl
theorem aD{s:SS}(hs:Fl x roots s){n:Nd}(h:∀d,DU x roots d (Ta n)=some (IZ n)):Fl x roots (Bl s n).2∧(Bl s n).1<(Bl s n).2.drv.length∧((Bl s n).2.full=false→DO (Bl s n).2 (Bl s n).1=IZ n)∧Grow s (Bl s n).2:=by
 obtain⟨a1,a2,a3⟩:=Kn hs (h s.drv);exact⟨a1,a2,a3,Ko _ _ _⟩
theorem VK.grown{ls:List (List Cd)}{s s' : SS}{o:JV}(hg:Grow s s')(h:VK x roots ls dec s' st o):VK x roots ls dec s st o:=⟨h.der,hg.trans h.grow,h.no,h.yes⟩
theorem UK(hx:A4 x=0)(hr:BS roots=0)(hd:EC x dec)(cr:II roots dec)(hN:oL roots dec p needs)(h0:n0∈needs){lv:List Cd→List (List Cd)}(xN:∀c∈Cq x p,cX dec needs c=true→∀d∈lv (dec++[c]),Lf x roots (dec++[c]) d)
  (cq:∀c∈Cq x p,cX dec needs c=true→∀s st,Fl x roots s→s.full=false→VK x roots (lv (dec++[c])) (dec++[c]) s st (rec (dec++[c]) s st)) :
  ∀(cs:List Cd) {s:SS} (L:List (Nat×Cd)) {skips:List Sk},L.map (·.2)++cs=Cq x p→Fl x roots s→(∀y∈L,y.1<s.drv.length)→(s.full=false→(∀y∈L,CD (DO s y.1) (AK (dec++[y.2]))=true∧CZ (DO s y.1) p=true)∧GQ s dec p needs (L.map (·.2)) skips) →
   VK x roots (((Cq x p).map fun c=>if cX dec needs c then lv (dec++[c])else []).flatten) dec s st (D1 rec x p needs n0 dec st cs s (L.map (·.1)) skips)
 | [],s,L,skips,hL,hs,DI,qO=>by
  rw[B1]at hL;obtain⟨l1,l2,l3,l4⟩:=cE hx hr hd hN h0 L hL hs DI (fun hf=>(qO hf).1);exact⟨l1,l2,fun _=>⟨rfl,rfl,fun hf=>⟨l3,l4 hf⟩⟩,fun h=>(by cases h)⟩
 |c::cs,s,L,skips,hL,hs,DI,qO=>by
  rw[F9]
  by_cases hf:s.full=true
  ·rw[Aw hf];exact⟨hs,.refl s,fun _=>⟨rfl,rfl,fun h=>by rw[show(⟨0,false,s,dec,st⟩:JV).ss=s from rfl,hf]at h;cases h⟩,fun h=>(by cases h)⟩
  rw[Ah hf];have hf:s.full=false:=by simpa using hf
  obtain⟨qP,nG⟩:=qO hf;have hc:c∈Cq x p:=by rw[←hL];simp
  obtain⟨c1,c2⟩:=JF hc;have hu:De dec c.rel.path=false:=by rw[c1];exact hN.undone
  have hE:=hd.snoc c2 hu
  -- on to the next candidate
  have go:∀(s' : SS) (k:Nat) (WD : List Sk),Fl x roots s'→Grow s s'→k<s'.drv.length→(s'.full=false→(CD (DO s' k) (AK (dec++[c]))=true∧CZ (DO s' k) p=true)∧GQ s' dec p needs (L.map (·.2)++[c]) WD) →
    VK x roots (((Cq x p).map fun c=>if cX dec needs c then lv (dec++[c])else []).flatten) dec s st (D1 rec x p needs n0 dec st cs s' (L.map (·.1)++[k]) WD):=fun s' k WD U6 hg hk DC=>by
   have:=UK hx hr hd cr hN h0 xN cq cs (s:=s') (L++[(k,c)]) (skips:=WD) (by rw[AH,AP];exact hL) U6
    (fun y hy=>by
     rcases A7.1 hy with hy | hy
     ·exact BJ (DI y hy) hg.len
     ·rw[Am.1 hy];exact hk)
    (fun dN=>by
     obtain⟨e1,e2⟩:=DC dN;refine⟨fun y hy=>?_,by rw[AH];exact e2⟩;rcases A7.1 hy with hy | hy
     ·rw[hg.at (DI y hy)];exact qP y hy
     ·rw[Am.1 hy];exact e1)
   rw[AH]at this;exact this.grown hg
  cases ns:needs.find? fun n=>!has n.rq.set c.place with
  |some n =>
   dsimp only;have dO:=CJ ns;have kc:=Ft ns;have kc:has n.rq.set c.place=false:=by simpa using kc
   obtain⟨zZ,z6⟩:=(hN.mem n).1 dO;obtain⟨e1,e2,e3⟩:=OU hx hr hE (NS zZ) ⟨c,by simp,by rw[c1,z6],kc⟩;obtain⟨i1,i2,i3,i4⟩:=aD hs e1;refine go _ _ _ i1 i4 i2 fun dN=>?_;rw[i3 dN];exact⟨⟨e2,cM hx hr hd hN hc dO kc⟩,GQ.out (by
    intro h;rw[Br]at h;rw[h n dO]at kc;cases kc) (nG.mono i4)⟩
  |none =>
   dsimp only;have Zg:∀n∈needs,has n.rq.set c.place=true:=fun n hn=>by
    rw[Em]at ns;simpa using ns n hn
   have FR:(needs.all fun n=>has n.rq.set c.place)=true:=by rw[Br];exact Zg
   have mz:∀(s' : SS) (k:Nat),Fl x roots s'→Grow s s'→k<s'.drv.length→(s'.full=false→CD (DO s' k) (AK (dec++[c]))=true) →
     VK x roots (((Cq x p).map fun c=>if cX dec needs c then lv (dec++[c])else []).flatten) dec s st (JE rec x p needs n0 dec st c cs (L.map (·.1)) skips k s'):=fun s' k U6 hg hk he=>by
    unfold JE;cases oV:CZ (DO s' k) p with
    |false =>
     rw[Aw rfl];exact⟨U6,hg,fun _=>⟨rfl,rfl,fun dN=>⟨hk,ff hx hd c2.1 (he dN) (by rw[c1];exact oV)⟩⟩,fun h=>(by cases h)⟩
    |true =>
     rw[Ah (by decide)];exact go _ _ _ U6 hg hk fun dN=>⟨⟨he dN,oV⟩,GQ.add FR ⟨hk,he dN⟩ (nG.mono hg)⟩
   cases hen:Oq s.drv (AK (dec++[c]))with
   |some k =>
    dsimp only;obtain⟨k1,k2⟩:=Kt hen;exact mz s k hs (.refl s) k1 fun _=>k2
   |none =>
    dsimp only;cases hcl:D8 dec c with
    |some n =>
     dsimp only;obtain⟨m1,m2⟩:=KU hcl;obtain⟨e1,e2,e3⟩:=OU hx hr hE (MP m1) m2;obtain⟨i1,i2,i3,i4⟩:=aD hs e1;exact mz _ _ i1 i4 i2 fun dN=>by rw[i3 dN];exact e2
    |none =>
     dsimp only;have Gu:cX dec needs c=true:=O0.2 ⟨Zg,hcl⟩;have hR:=cq c hc Gu s (st++[skips]) hs hf;generalize rec (dec++[c]) s (st++[skips])=o at hR
     by_cases fJ:o.found=true
     ·rw[Aw fJ];obtain⟨y1,t,sl,y2,y3,y4,y5⟩:=hR.yes fJ;refine⟨hR.der,hR.grow,fun h=>(by cases h),fun _=>⟨y1,c::t,skips::sl,by show o.dec=_;rw[y2];simp,by show o.stack=_;rw[y3];simp,⟨⟨p,needs,L.map (·.2),cs,hN,hL.symm,Zg,hcl,nG.mono hR.grow⟩,y4⟩,?_⟩⟩;show _=some o.dec;rw[←hL,AH,CK,AN,By];have uN:((L.map (·.2)).map fun c=>if cX dec needs c then lv (dec++[c])else []).flatten=[]:=by
       rw[List.flatten_eq_nil_iff];intro l hl;obtain⟨d,j9,rfl⟩:=Ak.1 hl;obtain⟨y,hy,rfl⟩:=Ak.1 j9;split
       ·rename_i hoy;have hyc:y.2∈Cq x p:=by rw[←hL];exact Bp _ j9
        refine LD.2 fun d uz=>kL hx hs (DI y hy) (qP y hy).1 (xN y.2 hyc hoy d uz)
       ·rfl
      rw[uN,Ef,Aw Gu,List.head?_append,y5];rfl
     ·rw[Ah fJ];have fJ:o.found=false:=by simpa using fJ
      obtain⟨n1,n2,n3⟩:=hR.no fJ
      by_cases nt:o.ss.full=true
      ·rw[Aw nt];exact⟨hR.der,hR.grow,fun _=>⟨rfl,rfl,fun h=>by rw[show(⟨0,false,o.ss,dec,st⟩:JV).ss=o.ss from rfl,nt]at h;cases h⟩,fun h=>(by cases h)⟩
      ·rw[Ah nt];have nt:o.ss.full=false:=by simpa using nt
       exact mz _ _ hR.der hR.grow (n3 nt).1 fun _=>(n3 nt).2
end
theorem SF{x:List Rl}{dec:List Cd}{c:Cd}(h:c.rel∈x∧c.rel.yanked=false)(hu:De dec c.rel.path=false):QM x (dec++[c])<QM x dec:=by
 have key:∀l:List Rl,(l.filter fun r=>!r.yanked&&!De (dec++[c]) r.path).length≤(l.filter fun r=>!r.yanked&&!De dec r.path).length ∧
   (c.rel∈l→(l.filter fun r=>!r.yanked&&!De (dec++[c]) r.path).length<(l.filter fun r=>!r.yanked&&!De dec r.path).length):=by
  intro l
  induction l with
  |nil=>exact⟨Aj _,fun h=>(by cases h)⟩
  |cons r l ih =>
   have XM:(!r.yanked&&!De (dec++[c]) r.path)=true→(!r.yanked&&!De dec r.path)=true:=fun e=>by
    simp only[Ag,CT]at e⊢;refine⟨e.1,?_⟩
    have:=e.2
    unfold De at this⊢;rw[Hk,Bool.or_eq_false_iff]at this;exact this.1
   rw[DK,DK];refine⟨?_,fun hm=>?_⟩
   ·by_cases e:(!r.yanked&&!De (dec++[c]) r.path)=true
    ·rw[Aw e,Aw (XM e)];simp;exact ih.1
    ·rw[Ah e];split
     ·simp;have:=ih.1;omega
     ·exact ih.1
   ·rcases Aq.1 hm with rfl | hm
    ·have e1:¬(!c.rel.yanked&&!De (dec++[c]) c.rel.path)=true:=by
      have:De (dec++[c]) c.rel.path=true:=by unfold De;simp
      rw[this];simp
     have e2:(!c.rel.yanked&&!De dec c.rel.path)=true:=by rw[h.2,hu];rfl
     rw[Ah e1,Aw e2];simp;have:=ih.1;omega
    ·have:=ih.2 hm
     by_cases e:(!r.yanked&&!De (dec++[c]) r.path)=true
     ·rw[Aw e,Aw (XM e)];simp;exact this
     ·rw[Ah e];split
      ·simp;omega
      ·exact this
 exact(key x).2 h.1
theorem Qj{x:List Rl}{roots:List Rq}(hx:A4 x=0)(hr:BS roots=0):∀(n:Nat) {dec:List Cd} {s:SS} {st:List (List Sk)},EC x dec→II roots dec→Fl x roots s→s.full=false→QM x dec<n →
  VK x roots (NN x roots n dec) dec s st (Da x roots n dec s st)
 |0,_,_,_,_,_,_,_,h=>by omega
 |n+1,dec,s,st,hd,cr,hs,hf,hn=>by
  unfold Da NN;cases e:(GA roots dec).2 with
  |nil =>
   exact⟨hs,.refl s,fun h=>(by cases h),fun _=>⟨hf,[],[],by simp,by simp,Tx.1 e,rfl⟩⟩
  |cons n0 l =>
   have hN:=NV e;have next:∀c∈Cq x (GA roots dec).1,cX dec (n0::l) c=true→EC x (dec++[c])∧II roots (dec++[c])∧QM x (dec++[c])<n:=fun c hc Gu=>by
    obtain⟨c1,c2⟩:=JF hc;have hu:De dec c.rel.path=false:=by rw[c1];exact hN.undone
    obtain⟨k1,k2⟩:=O0.1 Gu;exact⟨hd.snoc c2 hu,cr.snoc hN c1 k1 k2,by have:=SF (dec:=dec) ⟨c2.1,c2.2.1⟩ hu;omega⟩
   exact UK hx hr hd cr hN (Aa ..) (lv:=NN x roots n) (fun c hc Gu d j9=>Ve (next c hc Gu).1 (next c hc Gu).2.1 d j9)
    (fun c hc Gu s st hs hf=>Qj hx hr n (next c hc Gu).1 (next c hc Gu).2.1 hs hf (next c hc Gu).2.2) _ [] rfl hs (fun y hy=>by cases hy) (fun _=>⟨fun y hy=>(by cases hy),rfl⟩)
theorem fq(x:List Rl)(dec:List Cd):QM x dec≤x.length:=BD _ _
theorem dy{x:List Rl}{roots:List Rq}(hx:A4 x=0)(hr:BS roots=0):VK x roots (NN x roots (x.length+1) []) [] s8 [] (FG x roots) :=
 Qj hx hr _ (.nil x) (.nil roots) (.nil x roots) rfl (by have:=fq x [];omega)
section
variable {x:List Rl}{roots:List Rq}{p:ByteArray}{needs:List Nd}{n0:Nd}{dec:List Cd}{st:List (List Sk)}
end
section
variable {x:List Rl}{roots:List Rq}{d:List (List Tm)}{i:Nf}
end
end Go.Eng
