/- Lemmas for the claims of this seat, without a condition: part 3 (Q3, Q4, P15, Q5, Q6, Q7, Q8, P16). -/
import Derived.Test.YteaiieomnhbmgaaGreatDoorA02
namespace Go.Eng
variable {p:ByteArray}{x:List Rl}{dec:List Cd}{roots:List Rq}{D:List Sl}{t:List Tm}{c:Cd}{n:Nd}{S:List Sl}{E:List Cd}{needs:List Nd}{d:List Cd}{k:Int}{v:Ver}{s:SS}{v':Ver}{r:Rl}{q:Rq}
theorem MH:∀{l:List Rq} {b:Option ByteArray},Ga b l=0->∀q∈l,q.set≠[]/\EZ q.set
 | [],_,_,q,hq=>by cases hq
 |r::l,b,h,q,hq=>by
  unfold Ga at h;split at h
  .rename_i e;rcases Az.1 hq with rfl | hq
   .unfold IQ at e
    by_cases h1:(CB q.path).isNone=true
    .rw[Al h1]at e;exact absurd e Cl
    rw[Ai h1]at e;cases hE:q.set.isEmpty with
    |true=>rw[hE]at e;simp at e
    |false =>
     cases hD:decide (q.set=canon q.set)with
     |false=>rw[hD]at e;simp at e
     |true =>
      have h3:q.set=canon q.set:=AU hD;exact⟨by simpa using hE,by rw[h3];exact Cv _⟩
   .exact MH h q hq
  .rename_i e;exact absurd h e
theorem LQ{l:List Rq}(h:BI l=0):∀q∈l,q.set≠[]/\EZ q.set:=by
 unfold BI at h;split at h
 .cases h
 .exact MH h
abbrev Qy(k:Int):Ver:=⟨0,k / 1000,k % 1000⟩
theorem HH(k:Int):place (Qy k)=k:=by unfold place;show 1000*(k / 1000)+k % 1000=k;omega
theorem Fl(h:0<=k/\k<1000000):Ct (Qy k)=true:=by
 unfold Ct okPart;simp only[Ae];exact⟨⟨Ax ch,Ax ch⟩,Ax ch⟩
structure Y7(D:List Sl)(p:ByteArray)(S:List Sl):Prop where
 val:Gu S
 same:∀q,q≠p->BY S q=BY D q
abbrev KZ(D:List Sl)(p:ByteArray)(v:Ver):List Sl:=D++[⟨p,v⟩]
theorem KT(a b:List Sl)(p:ByteArray):BY (a++b) p=(BY a p).or (BY b p):=by
 unfold BY;rw[List.find?_append]
theorem Ig{s:List Sl}(h:CR s p=false):BY s p=none:=by
 rw[KE]at h;cases e:BY s p with
 |none=>rfl
 |some y=>rw[e]at h;cases h
theorem Y7.self(h:Gu D):Y7 D p D:=⟨h,fun _ _=>rfl⟩
theorem Y7.ver(h:Gu D)(hv:Ct v=true):Y7 D p (KZ D p v):=by
 refine⟨fun y hy=>?_,fun q hq=>?_⟩
 .rcases AO.1 hy with hy | hy
  .exact h y hy
  .rw[Ap.1 hy];exact hv
 .rw[KT]
  have:BY [(⟨p,v⟩:Sl)] q=none:=by unfold BY;simp[Ne.symm hq]
  rw[this,Option.or_none]
theorem IN(hp:CR D p=false)(v:Ver):BY (KZ D p v) p=some ⟨p,v⟩:=by
 rw[KT,Ig hp];unfold BY;simp
theorem RX(hp:CR D p=false)(hv:Ct v=true)(zO : Ct v'=true)(e:place v=place v')(q:ByteArray)(t:Tm) :
  Du t (BY (KZ D p v) q)=Du t (BY (KZ D p v') q):=by
 by_cases hq:q=p
 .subst hq;rw[IN hp,IN hp];show(Ct v&&has t.set (place v))=(Ct v'&&has t.set (place v'));rw[hv,zO,e]
 .have h1:∀w:Ver,BY (KZ D p w) q=BY D q:=fun w=>by
   rw[KT]
   have:BY [(⟨p,w⟩:Sl)] q=none:=by unfold BY;simp[Ne.symm hq]
   rw[this,Option.or_none]
  rw[h1,h1]
theorem dE(hp:CR D p=false)(hv:Ct v=true)(zO : Ct v'=true)(e:place v=place v')(t:List Tm):Bl t (KZ D p v)=Bl t (KZ D p v'):=by
 rw[B1,BJ,BJ];exact⟨fun h u hu=>by rw[<-RX hp hv zO e];exact h u hu,fun h u hu=>by rw[RX hp hv zO e];exact h u hu⟩
theorem LF{S':List Sl}(h:Y7 D p S)(h' : Y7 D p S')(ht:∀u∈t,u.path≠p):Bl t S=Bl t S':=by
 rw[B1,BJ,BJ];exact⟨fun k u hu=>by rw[h'.same _ (ht u hu),<-h.same _ (ht u hu)];exact k u hu,fun k u hu=>by rw[h.same _ (ht u hu),<-h'.same _ (ht u hu)];exact k u hu⟩
theorem KB(h:D6 t p=false):∀u∈t,u.path≠p:=fun u hu e=>by
 unfold D6 at h;rw[GD]at h;exact h u hu (by simpa using e)
theorem T1(h:D6 t p=true):∃u∈t,u.path=p:=by
 unfold D6 at h;rw[Bd]at h;obtain⟨u,hu,e⟩:=h;exact⟨u,hu,by simpa using e⟩
theorem Vp(hf:LI t)(hc:D6 t p=true):∃u r,FD t p=some (u,r)/\u.path=p/\∀v∈r,v.path≠p:=by
 obtain⟨u,hu,e⟩:=T1 hc;have hs:=Fa hf;have tp:=(FS hs).1 hu;rw[e]at tp;refine⟨u,F1 t p,?_,e,fun v hv=>?_⟩
 .unfold FD;rw[show C3 t=some t from hf];dsimp only;rw[tp]
 .have:=(Bv.1 hv).2
  simpa using this
theorem YH{b:List Tm}(S7:LI t)(tn:LI b)(hct:D6 t p=true)(hcb:D6 b p=true){S1 S2:List Sl}(h1:Y7 D p S1)(v1:Bl t S1=true)(h2:Y7 D p S2)(v2:Bl b S2=true) :
  (BX t b p).2=0/\∀S,Y7 D p S->Bl t S=true\/Bl b S=true->Bl (BX t b p).1 S=true:=by
 obtain⟨u,r,e1,pu,nr⟩:=Vp S7 hct;obtain⟨w,m,e2,pw,nm⟩:=Vp tn hcb;have key:∀S,Y7 D p S->Bl t S=true\/Bl b S=true->Bl (r++m++[Dt u w]) S=true:=fun S hS hv=>by
  have r1:Bl r S=true:=by
   rw[LF hS h1 nr];rw[(F0 h1.val e1).1,Ae]at v1;exact v1.2
  have m1:Bl m S=true:=by
   rw[LF hS h2 nm];rw[(F0 h2.val e2).1,Ae]at v2;exact v2.2
  rw[Hz,Hz,r1,m1];simp only[EY];rw[BJ];intro y hy;rw[Ap.1 hy,show(Dt u w).path=p from pu,N3,CJ];rcases hv with hv | hv
  .rw[(F0 hS.val e1).1,Ae]at hv;exact .inl hv.1
  .rw[(F0 hS.val e2).1,Ae]at hv;exact .inr hv.1
 unfold BX;rw[e1,e2];dsimp only;have c1:=Dk (l:=r++m++[Dt u w]) h1.val;rw[key S1 h1 (.inl v1)]at c1;cases hc:C3 (r++m++[Dt u w])with
 |none=>rw[hc]at c1;cases c1
 |some o =>
  dsimp only;refine⟨rfl,fun S hS hv=>?_⟩;have c2:=Dk (l:=r++m++[Dt u w]) hS.val;rw[hc,key S hS hv]at c2;exact c2.symm
theorem mq(hp:CR D p=false)(hf:LI t)(h0:Bl t D=true)(hk:∀k:Int,0<=k->k<1000000->Bl t (KZ D p (Qy k))=true):D6 t p=false:=by
 rw[AM];intro hc;obtain⟨u,hu,e⟩:=T1 hc;have ha:u.absent=true:=by
  have:=BJ.1 h0 u hu
  rw[e,Ig hp]at this;exact this
 have hs:∀k:Int,0<=k->k<1000000->has u.set k=true:=fun k k0 k1=>by
  have:=BJ.1 (hk k k0 k1) u hu
  rw[e,IN hp]at this;unfold Du at this;rw[Ae]at this
  have:=this.2
  rw[show(⟨p,Qy k⟩:Sl).ver=Qy k from rfl,HH]at this;exact this
 have vB:EZ u.set:=Co.canon (Fa hf) u hu;have ZV:u.set=[(0,1000000)]:=by
  refine H9 vB ⟨by decide,by decide,by decide,trivial⟩ fun k=>?_;rw[B1];constructor
  .intro h
   have:=MU h
   unfold has;simp[BV,this.1,this.2]
  .intro h
   have:=MU h
   exact hs k this.1 this.2
 have jJ:GX u=true:=by unfold GX;rw[ha,ZV];rfl
 have zB:C3 t=some t:=hf;unfold C3 at zB;split at zB
 .cases zB
 .have e2:=CK zB;rw[<-e2]at hu
  have:=(Bv.1 hu).2
  rw[jJ]at this;cases this
structure ER(x:List Rl)(dec:List Cd):Prop where
 cand:∀c∈dec,c.rel∈x/\c.rel.yanked=false/\c.place=plc c.rel.ver
 nodup:(dec.map fun c=>c.rel.path).Nodup
theorem ER.nil(x:List Rl):ER x []:=⟨fun _ h=>(by cases h),Fu⟩
theorem U3(h:TC r):r.path≠mt:=fun e=>by
 have:=h.maj
 rw[e]at this;have h2:CB mt=none:=by decide
 rw[h2]at this;cases this
theorem TC.set{r:Rl}(h:TC r):∀q∈r.reqs,q.set≠[]/\EZ q.set:=LQ h.reqs
theorem OA(dec:List Cd):(AR dec).map (·.path)=dec.map fun c=>c.rel.path:=by unfold AR;rw[Bo];rfl
theorem JZ:∀{D:List Sl},(D.map (·.path)).Nodup->∀{y:Sl},y∈D->BY D y.path=some y
 | [],_,y,h=>by cases h
 |z::D,hn,y,h=>by
  simp only[AI,De]at hn;unfold BY;rw[E8];rcases Az.1 h with rfl | h
  .rw[Ax rfl]
  .have:z.path≠y.path:=fun e=>hn.1 (Ag.2 ⟨y,h,e.symm⟩)
   rw[AB this];exact JZ hn.2 h
theorem ER.find(h:ER x dec)(hc:c∈dec):BY (AR dec) c.rel.path=some (UE c) :=
 JZ (by rw[OA];exact h.nodup) (y:=UE c) (Ag.2 ⟨c,hc,rfl⟩)
theorem ER.valid(hx:A4 x=0)(h:ER x dec):Gu (AR dec):=fun y hy=>by
 obtain⟨c,hc,rfl⟩:=Ag.1 hy;exact((Cw hx).1 _ (h.cand c hc).1).val
theorem ER.snoc(h:ER x dec)(hc:c.rel∈x/\c.rel.yanked=false/\c.place=plc c.rel.ver)(hd:DK dec c.rel.path=false):ER x (dec++[c]):=by
 refine⟨fun d hd=>?_,?_⟩
 .rcases AO.1 hd with hd | hd
  .exact h.cand d hd
  .rw[Ap.1 hd];exact hc
 .rw[Ar,FG];refine⟨h.nodup,by simp,fun a ha b hb e=>?_⟩;obtain⟨d,oe,rfl⟩:=Ag.1 ha;simp only[AI,E0,Ap]at hb;unfold DK at hd;rw[GD]at hd;exact hd d oe (by simpa using e.trans hb)
theorem M2(h:n∈DH roots E):(∃k q,roots[k]?=some q/\n=⟨q,mt,0,(k:Nat)⟩)\/∃c∈E,∃k q,c.rel.reqs[k]?=some q/\n=⟨q,c.rel.path,c.place,(k:Nat)⟩:=by
 unfold DH at h;rcases AO.1 h with h | h
 .obtain⟨k,q,h1,h2⟩:=aH h;exact .inl ⟨k,q,h1,h2⟩
 .obtain⟨l,hl,hn⟩:=DY.1 h;obtain⟨c,hc,rfl⟩:=Ag.1 hl;obtain⟨k,q,h1,h2⟩:=aH hn;exact .inr ⟨c,hc,k,q,h1,h2⟩
theorem OF(h:n∈DH roots dec):n∈DH roots (dec++[c]):=by
 unfold DH at *
 rw[Ar,Cc,<-BA];exact BC _ h
theorem NC(h:n∈Rm c):n∈DH roots (dec++[c]):=by
 unfold DH;rw[Ar,Cc,<-BA];exact Br _ (by simpa using h)
def NQ(n:Nd):List Tm:=if n.path=mt then [DV n.rq]else [⟨n.path,false,[(n.place,n.place+1)]⟩,DV n.rq]
theorem PR(n:Nd):JH n=Rf (NQ n):=by unfold JH NQ Kg EA;split<;>rfl
theorem fK{s:Bu}(h:s≠[])(hc:EZ s):∃k,has s k=true:=by
 match s,h,hc with
 |x::r,_,hc =>
  have:=E4.low hc x (Ab ..)
  refine⟨x.1,?_⟩;unfold has;have h1:BV x.1 x=true:=D0.2 ⟨Bs _,this.2.1⟩;simp only[Ce,h1,Bool.true_or,Bool.and_true,Ae,AA];omega
theorem Sr{o:Option Sl}(h:o=none\/∃y,o=some y/\Ct y.ver=true/\has q.set (place y.ver)=false):Du (DV q) o=true:=by
 rcases h with rfl | ⟨y,rfl,hv,hq⟩
 .rfl
 .show(Ct y.ver&&has (ES q.set) (place y.ver))=true
  have:=Ke hv
  rw[hv,FV,hq];unfold Mx;simp[this.1,this.2]
theorem U0{y:Sl}(hq:has q.set (place y.ver)=true):Du (DV q) (some y)=false:=by
 show(Ct y.ver&&has (ES q.set) (place y.ver))=false;rw[FV,hq];simp
structure vQ(x:List Rl)(roots:List Rq)(S:List Sl)(n:Nd):Prop where
 inf:∀d,Ec x roots d (UA n)=some (JH n)
 viol:Bl (JH n) S=true
 raw:∀S',Gu S'->Bl (JH n) S'=Bl (NQ n) S'
 form:LI (JH n)
 inU:∀U:List ByteArray,(n.path≠mt->n.path∈U)->n.rq.path∈U->VZ U (JH n)
 path:n.path≠mt->CR S n.path=true
theorem Tb(hx:A4 x=0)(hr:BI roots=0)(hE:ER x E)(hn:n∈DH roots E)(hv:BY (AR E) n.rq.path=none\/∃y,BY (AR E) n.rq.path=some y/\has n.rq.set (place y.ver)=false):vQ x roots (AR E) n:=by
 have hV:=hE.valid hx;have lE:Du (DV n.rq) (BY (AR E) n.rq.path)=true:=Sr (hv.imp id fun⟨y,h1,h2⟩=>⟨y,h1,hV y (JY h1),h2⟩)
 -- the raw list is Bl here,and not elsewhere
 have Ow:n.rq.set≠[]/\EZ n.rq.set:=by
  rcases M2 hn with ⟨k,q,h1,rfl⟩ | ⟨c,hc,k,q,h1,rfl⟩
  .exact LQ hr q (Aw h1)
  .exact((Cw hx).1 _ (hE.cand c hc).1).set q (Aw h1)
 have Yo:Bl (NQ n) (AR E)=true/\(n.path≠mt->CR (AR E) n.path=true):=by
  rcases M2 hn with ⟨k,q,h1,rfl⟩ | ⟨c,hc,k,q,h1,rfl⟩
  .refine⟨?_,fun h=>absurd rfl h⟩;unfold NQ;rw[Al rfl,BJ];intro u hu;rw[Ap.1 hu];exact lE
  .have Dy:=U3 ((Cw hx).1 _ (hE.cand c hc).1);refine⟨?_,fun _=>by rw[KE,hE.find hc];rfl⟩;unfold NQ;rw[Ai Dy,BJ];intro u hu;rcases Az.1 hu with rfl | hu
   .show Du _ (BY (AR E) c.rel.path)=true;rw[hE.find hc];show(Ct c.rel.ver&&has [(c.place,c.place+1)] (place c.rel.ver))=true;have GM:=(Cw hx).1 _ (hE.cand c hc).1;have hp:=Ke GM.val;rw[GM.val,(hE.cand c hc).2.2,GM.plc];unfold has;simp[BV,hp.1,hp.2];omega
   .rw[Ap.1 hu];exact lE
 have AbP:∃S',Gu S'/\Bl (NQ n) S'=false:=by
  unfold NQ;split
  .obtain⟨k,hk⟩:=fK Ow.1 Ow.2;have oh:=MU hk;refine⟨[⟨n.rq.path,Qy k⟩],fun y hy=>by rw[Ap.1 hy];exact Fl oh,?_⟩;rw[AM];intro h
   have:=BJ.1 h (DV n.rq) (Ap.2 rfl)
   rw[show(DV n.rq).path=n.rq.path from rfl,show BY [(⟨n.rq.path,Qy k⟩:Sl)] n.rq.path=some ⟨n.rq.path,Qy k⟩ by unfold BY;simp,U0 (by rw[show(⟨n.rq.path,Qy k⟩:Sl).ver=Qy k from rfl,HH];exact hk)]at this;cases this
  .refine⟨[],fun y hy=>(by cases hy),?_⟩;rw[AM];intro h
   have:=BJ.1 h _ (Ab ..)
   cases this
 obtain⟨Yo,xy⟩:=Yo;have Dy:Rf (NQ n)≠[]:=by
  obtain⟨S',v',n'⟩:=AbP;have c1:=Dk (l:=NQ n) hV;have c2:=Dk (l:=NQ n) v';unfold Rf;cases hc:C3 (NQ n)with
  |none=>rw[hc,Yo]at c1;cases c1
  |some c =>
   rw[hc,n']at c2;intro e;have e:c=[]:=e;rw[e]at c2;cases c2
 have rG:∀S',Gu S'->Bl (JH n) S'=Bl (NQ n) S':=fun S' v=>by rw[PR];exact Rg v Dy
 refine⟨fun d=>?_,by rw[rG _ hV];exact Yo,rG,by rw[PR];exact M4 _,fun U h1 h2=>?_,xy⟩
 .rcases M2 hn with ⟨k,q,h1,rfl⟩ | ⟨c,hc,k,q,h1,rfl⟩
  .show Ec x roots d (if(mt:ByteArray)=mt then⟨0,mt,0,(k:Nat),0,0⟩else _)=some (if(mt:ByteArray)=mt then Kg q else _);rw[Al rfl,Al rfl];show(if mt=mt/\(0:Int)=0/\(0:Int)=0/\(0:Int)=0 then(Kb roots (k:Nat)).map Kg else none)=some (Kg q);rw[Al ⟨rfl,rfl,rfl,rfl⟩];unfold Kb;rw[Ai ch,Cb,h1];rfl
  .have GM:=(Cw hx).1 _ (hE.cand c hc).1;have RY:=U3 GM;have Ac0:Qi x c.rel.path c.place=some c.rel:=by
    unfold Qi;cases hf:x.find? fun r=>decide (r.path=c.rel.path)&&decide (plc r.ver=c.place)with
    |none =>
     rw[DO]at hf;exact absurd (by simp[(hE.cand c hc).2.2]) (hf c.rel (hE.cand c hc).1)
    |some r =>
     have h2:=DJ hf;simp only[Ae,AA]at h2;have lH:=BE hf;have AbU:=(Cw hx).1 r lH;rw[YJ (Cw hx) lH (hE.cand c hc).1 h2.1 (by rw[<-AbU.plc,h2.2,(hE.cand c hc).2.2,GM.plc])]
   have e1:UA ⟨q,c.rel.path,c.place,(k:Nat)⟩=⟨1,c.rel.path,c.place,(k:Nat),0,0⟩:=by unfold UA;rw[Ai RY]
   have e2:JH ⟨q,c.rel.path,c.place,(k:Nat)⟩=EA c.rel.path c.place q:=by unfold JH;rw[Ai RY]
   rw[e1,e2];unfold Ec;rw[Ai (show ¬((1:Int)=0) by decide),Al rfl,Al ⟨rfl,rfl⟩];dsimp only;rw[Ac0];dsimp only;unfold Kb;rw[Ai ch,Cb,h1];dsimp only;unfold iE;rw[Ai];rw[Hk,<-e2,PR];exact Dy
 .rw[PR];refine UY fun u hu=>?_;unfold NQ at hu;split at hu
  .rw[Ap.1 hu];exact h2
  .rename_i hm;rcases Az.1 hu with rfl | hu
   .exact h1 hm
   .rw[Ap.1 hu];exact h2
structure oD(D:List Sl)(U:List ByteArray)(p:ByteArray)(t:List Tm)(C:Int->Prop):Prop where
 form:LI t
 inU:VZ U t
 conc:D6 t p=true
 one:∃S,Y7 D p S/\Bl t S=true
 cov:∀k:Int,0<=k->k<1000000->C k->Bl t (KZ D p (Qy k))=true
structure sb(D:List Sl)(U:List ByteArray)(p:ByteArray)(t:List Tm)(C:Int->Prop):Prop where
 form:LI t
 inU:VZ U t
 none_:Bl t D=true
 cov:∀k:Int,0<=k->k<1000000->C k->Bl t (KZ D p (Qy k))=true
theorem FE.forms(h:FE x roots s):∀k,LI (EJ s k):=fun k=>by
 unfold EJ;rw[B5];cases e:s.drv[k]? with
 |none=>exact PJ
 |some t=>exact NV (fun _ h=>by cases h) h.der t (Aw e)
theorem WO{d:List (List Tm)}{k r:Nat}(hk:k<d.length)(hr:r<d.length)(h0:(BX (d.getD k []) (d.getD r []) p).2=0) :
  Ec x roots d ⟨3,p,0,0,(k:Nat),(r:Nat)⟩=some (BX (d.getD k []) (d.getD r []) p).1:=by
 have e:∀j:Nat,j<d.length->Kb d (j:Nat)=some (d.getD j []):=fun j hj=>by
  unfold Kb;rw[Ai ch,Cb,B5,Ay hj];rfl
 unfold Ec;rw[Ai (show ¬((3:Int)=0) by decide),Ai (show ¬((3:Int)=1) by decide),Ai (show ¬((3:Int)=2) by decide),Al rfl,Al ⟨rfl,rfl⟩];dsimp only;rw[e k hk,e r hr];dsimp only;rw[Al h0]
theorem OB{x:List Rl}{roots:List Rq}{D:List Sl}{U:List ByteArray}{p:ByteArray}(hD:Gu D):∀(l:List (Nat×(Int->Prop))) {k:Nat} {s:SS} {C:Int->Prop},FE x roots s->k<s.drv.length->(∀y∈l,y.1<s.drv.length) ->
  (s.full=false->sb D U p (EJ s k) C/\∀y∈l,oD D U p (EJ s y.1) y.2) ->
  FE x roots (CA p (l.map (·.1)) k s).2/\Grow s (CA p (l.map (·.1)) k s).2/\(CA p (l.map (·.1)) k s).1<(CA p (l.map (·.1)) k s).2.drv.length /\
  ((CA p (l.map (·.1)) k s).2.full=false->∃C',sb D U p (EJ (CA p (l.map (·.1)) k s).2 (CA p (l.map (·.1)) k s).1) C' /\
   (D6 (EJ (CA p (l.map (·.1)) k s).2 (CA p (l.map (·.1)) k s).1) p=false\/∀j,C j\/(∃y∈l,y.2 j)->C' j))
 | [],k,s,C,hd,hk,_,hA=>⟨hd,.refl s,hk,fun hf=>⟨C,(hA hf).1,.inr fun j hj=>hj.elim id fun⟨y,hy,_⟩=>(by cases hy)⟩⟩
 |y::l,k,s,C,hd,hk,hl,hA=>by
  rw[AI]
  by_cases h1:s.full=true\/D6 (EJ s k) p=false
  .have e:CA p (y.1::l.map (·.1)) k s=(k,s):=by unfold CA;rw[Al h1]
   rw[e];refine⟨hd,.refl s,hk,fun hf=>⟨C,(hA hf).1,.inl (h1.resolve_left fun e=>?_)⟩⟩;have hf:s.full=false:=hf;rw[e]at hf;cases hf
  simp only[not_or,Tt,Bool.not_eq_false]at h1;obtain⟨hf,Vv⟩:=h1;obtain⟨pk,hA2⟩:=hA hf;have hy:=hA2 y (Ab ..);have hi:¬(s.full=true\/D6 (EJ s k) p=false):=by rw[hf,Vv];simp
  by_cases h2:y.1=k
  .have e:CA p (y.1::l.map (·.1)) k s=CA p (l.map (·.1)) k s:=by conv=>lhs;unfold CA;rw[Ai hi,Al h2]
   rw[e];have hA' : sb D U p (EJ s k) fun j=>C j\/y.2 j:=⟨pk.form,pk.inU,pk.none_,fun j j0 j1 hj=>hj.elim (pk.cov j j0 j1) fun h=>by rw[<-h2];exact hy.cov j j0 j1 h⟩;obtain⟨i1,i2,i3,i4⟩:=OB hD l hd hk (fun z hz=>hl z (Ah _ hz)) (fun _=>⟨hA',fun z hz=>hA2 z (Ah _ hz)⟩);refine⟨i1,i2,i3,fun hf=>?_⟩;obtain⟨C',j1,j2⟩:=i4 hf;refine⟨C',j1,j2.imp id fun h j hj=>h j ?_⟩;rcases hj with hj | ⟨z,hz,hj⟩
   .exact .inl (.inl hj)
   .rcases Az.1 hz with rfl | hz
    .exact .inl (.inr hj)
    .exact .inr ⟨z,hz,hj⟩
  .obtain⟨S2,o2,v2⟩:=hy.one;obtain⟨r1,r2⟩:=YH pk.form hy.form Vv hy.conc (.self hD) pk.none_ o2 v2;have e:CA p (y.1::l.map (·.1)) k s=CA p (l.map (·.1)) (E5 s ⟨3,p,0,0,k,y.1⟩ (BX (EJ s k) (EJ s y.1) p).1).1 (E5 s ⟨3,p,0,0,k,y.1⟩ (BX (EJ s k) (EJ s y.1) p).1).2:=by
    conv=>lhs;unfold CA;rw[Ai hi,Ai h2,Ai (fun h=>h r1)]
   rw[e];have hy1:=hl y (Ab ..);obtain⟨a1,a2,a3⟩:=Lj hd (WO (x:=x) (roots:=roots) hk hy1 r1);have hg:=Lk s ⟨3,p,0,0,(k:Nat),(y.1:Nat)⟩ (BX (EJ s k) (EJ s y.1) p).1;generalize YY : E5 s ⟨3,p,0,0,(k:Nat),(y.1:Nat)⟩ (BX (EJ s k) (EJ s y.1) p).1=s' at *
   have a3:s'.2.full=false->EJ s'.2 s'.1=(BX (EJ s k) (EJ s y.1) p).1:=a3;obtain⟨i1,i2,i3,i4⟩:=OB hD (C:=fun j=>C j\/y.2 j) l a1 a2 (fun z hz=>By (hl z (Ah _ hz)) hg.len) (fun jK=>by
    refine⟨?_,fun z hz=>by rw[hg.at (hl z (Ah _ hz))];exact hA2 z (Ah _ hz)⟩;rw[a3 jK];exact⟨Ob _ _ _,Sv pk.inU hy.inU,r2 D (.self hD) (.inl pk.none_),fun j j0 j1 hj=>r2 _ (.ver hD (Fl ⟨j0,j1⟩)) (hj.imp (pk.cov j j0 j1) (hy.cov j j0 j1))⟩)
   refine⟨i1,hg.trans i2,i3,fun hf=>?_⟩;obtain⟨C',j1,j2⟩:=i4 hf;refine⟨C',j1,j2.imp id fun h j hj=>h j ?_⟩;rcases hj with hj | ⟨z,hz,hj⟩
   .exact .inl (.inl hj)
   .rcases Az.1 hz with rfl | hz
    .exact .inl (.inr hj)
    .exact .inr ⟨z,hz,hj⟩
def IZ(roots:List Rq)(dec:List Cd):Prop:=∀q∈Ir roots dec,∀d∈dec,d.rel.path=q.path->has q.set d.place=true
theorem IZ.nil(roots:List Rq):IZ roots []:=fun _ _ d h=>by cases h
theorem dq(roots:List Rq)(dec:List Cd)(c:Cd):Ir roots (dec++[c])=Ir roots dec++c.rel.reqs:=by
 unfold Ir;rw[Ar,Cc,BA];simp
theorem qt(c:Cd):(Rm c).map (·.rq)=c.rel.reqs:=Ti (fun _ _=>rfl) _ _
theorem bU(h:Er dec c=none):∀q∈c.rel.reqs,∀d∈dec++[c],d.rel.path=q.path->has q.set d.place=true:=fun q hq d hd e=>by
 rw[<-qt]at hq;obtain⟨n,hn,rfl⟩:=Ag.1 hq;unfold Er at h;rw[DO]at h
 have:=h n hn
 unfold fb at this;rw[Tt,GD]at this
 have:=this d hd
 rw[e]at this;simpa using this
theorem LR(h:Er dec c=some n):n∈Rm c/\∃d∈dec++[c],d.rel.path=n.rq.path/\has n.rq.set d.place=false:=by
 unfold Er at h;have h1:=DJ h;refine⟨BE h,?_⟩;unfold fb at h1;rw[Bd]at h1;obtain⟨d,hd,e⟩:=h1;simp only[Ae,AA,CE]at e;exact⟨d,hd,e⟩
theorem IZ.snoc(h:IZ roots dec)(hN:vf roots dec p needs)(hc:c.rel.path=p)(hn:∀n∈needs,has n.rq.set c.place=true)(hk:Er dec c=none):IZ roots (dec++[c]):=by
 intro q hq d hd e;rw[dq]at hq;rcases AO.1 hq with hq | hq
 .rcases AO.1 hd with hd | hd
  .exact h q hq d hd e
  .rw[Ap.1 hd]at e⊢;rw[<-NA]at hq;obtain⟨n,ZZ,rfl⟩:=Ag.1 hq;exact hn n ((hN.mem n).2 ⟨ZZ,by rw[<-e,hc]⟩)
 .exact bU hk q hq d hd e
def VS(y:Sl):List Sl->List Sl
 | []=>[y]
 |z::l=>if Ea y.path z.path then y::z::l else z::VS y l
def D1:List Sl->List Sl
 | []=>[]
 |y::l=>VS y (D1 l)
theorem UB{y z:Sl}:∀{l:List Sl},z∈VS y l↔z=y\/z∈l
 | []=>by simp[VS]
 |u::l=>by
  unfold VS;split
  .simp
  .rw[Az,UB,Az];constructor
   .rintro(h | h | h)
    .exact .inr (.inl h)
    .exact .inl h
    .exact .inr (.inr h)
   .rintro(h | h | h)
    .exact .inr (.inl h)
    .exact .inl h
    .exact .inr (.inr h)
theorem Gr{z:Sl}:∀{l:List Sl},z∈D1 l↔z∈l
 | []=>by simp[D1]
 |u::l=>by unfold D1;rw[UB,Gr,Az]
theorem af{y:Sl}:∀{l:List Sl},XE l->(∀z∈l,z.path≠y.path)->XE (VS y l)
 | [],_,_=>by simp[VS,XE]
 |u::l,h,hn=>by
  obtain⟨h1,h2⟩:=BL.1 h;unfold VS;split
  .rename_i hb;refine BL.2 ⟨fun z hz=>?_,h⟩;rcases Az.1 hz with rfl | hz
   .exact hb
   .exact D2 hb (h1 z hz)
  .rename_i hb;refine BL.2 ⟨fun z hz=>?_,af h2 fun z hz=>hn z (Ah _ hz)⟩;rcases UB.1 hz with rfl | hz
   .cases e:Ea u.path z.path with
    |true=>rfl
    |false =>
     have hb:Ea z.path u.path=false:=by simpa using hb
     exact absurd (H8 e hb) (hn u (Ab ..))
   .exact h1 z hz
theorem LB:∀{l:List Sl},(l.map (·.path)).Nodup->XE (D1 l)
 | [],_=>List.Pairwise.nil
 |y::l,h=>by
  simp only[AI,De]at h;exact af (LB h.2) fun z hz e=>h.1 (Ag.2 ⟨z,Gr.1 hz,e⟩)
theorem Uy:∀{l:List Sl} {b:Option ByteArray},XE l->(∀c,b=some c->∀y∈l,Ea c y.path=true)->Ux b l=true
 | [],_,_,_=>by unfold Ux;rfl
 |y::l,b,h,hb=>by
  obtain⟨h1,h2⟩:=BL.1 h;unfold Ux;cases b with
  |none=>simpa using Uy h2 fun c e z hz=>by cases e;exact h1 z hz
  |some c =>
   have:=hb c rfl y (Ab ..)
   simp only[this,EY];exact Uy h2 fun c e z hz=>by cases e;exact h1 z hz
theorem lR{l:List Sl}(h:XE l):EW l=true:=Uy h fun _ e=>by cases e
theorem WG(hx:A4 x=0)(hr:r∈x):Db x (Gc r)=some r:=by
 unfold Db;rw[Ai (fun h=>h hx)];cases h:x.find? fun s=>decide (Gc s=Gc r)with
 |none =>
  rw[DO]at h;exact absurd B0 (h r hr)
 |some s =>
  have h1:=DJ h;simp only[AA]at h1;rw[UF (Cw hx).2 (BE h) hr h1]
theorem ER.sorted(h:ER x dec):XE (D1 (AR dec)):=LB (by rw[OA];exact h.nodup)
theorem ER.findS(h:ER x dec)(hc:c∈dec):BY (D1 (AR dec)) c.rel.path=some (UE c) :=
 N0 h.sorted (y:=UE c) (Gr.2 (Ag.2 ⟨c,hc,rfl⟩))
theorem l6(hx:A4 x=0)(h:ER x dec)(hs:IZ roots dec)(hl:Lu (Ir roots dec) (AR dec)=none):vg x roots (D1 (AR dec)):=by
 have Gw:∀q∈Ir roots dec,∃y,BY (D1 (AR dec)) q.path=some y/\has q.set (place y.ver)=true:=fun q hq=>by
  have:=cW hl q hq
  rw[L0]at this;obtain⟨y,hy,e⟩:=this;obtain⟨d,hd,rfl⟩:=Ag.1 hy;have e:d.rel.path=q.path:=e;refine⟨UE d,by rw[<-e];exact h.findS hd,?_⟩;have h1:=hs q hq d hd e;have GM:=(Cw hx).1 _ (h.cand d hd).1;rw[(h.cand d hd).2.2,GM.plc]at h1;exact h1
 refine⟨hx,lR h.sorted,fun y hy=>?_,fun q hq=>Gw q (BC _ hq),fun y hy r hr q hq=>?_⟩
 .obtain⟨d,hd,rfl⟩:=Ag.1 (Gr.1 hy);exact⟨d.rel,WG hx (h.cand d hd).1,(h.cand d hd).2.1⟩
 .obtain⟨d,hd,rfl⟩:=Ag.1 (Gr.1 hy)
  have:Db x (UE d)=some d.rel:=WG hx (h.cand d hd).1
  rw[this]at hr;cases hr;exact Gw q (Br _ (DY.2 ⟨_,Ag.2 ⟨d,hd,rfl⟩,hq⟩))
def iR(dec:List Cd)(needs:List Nd)(c:Cd):Bool:=(needs.all fun n=>has n.rq.set c.place)&&(Er dec c).isNone
def MZ(x:List Rl)(roots:List Rq):Nat->List Cd->List (List Cd)
 |0,_=>[]
 |n+1,dec=>match(G8 roots dec).2 with
  | []=>[dec]
  |n0::l=>((Cz x (G8 roots dec).1).map fun c=>if iR dec (n0::l) c then MZ x roots n (dec++[c])else []).flatten
structure Lf(x:List Rl)(roots:List Rq)(dec d:List Cd):Prop where
 pre:dec <+: d
 ok:ER x d
 sat:IZ roots d
 stop:Lu (Ir roots d) (AR d)=none
theorem KA(h:c∈Cz x p):c.rel.path=p/\(c.rel∈x/\c.rel.yanked=false/\c.place=plc c.rel.ver):=by
 obtain⟨r,h1,h2,h3,rfl⟩:=LN.1 h;exact⟨h2,h1,h3,rfl⟩
theorem Qe:iR dec needs c=true↔(∀n∈needs,has n.rq.set c.place=true)/\Er dec c=none:=by
 unfold iR;rw[Ae,Bc,Option.isNone_iff_eq_none]
theorem Rb{x:List Rl}{roots:List Rq}:∀{n:Nat} {dec:List Cd},ER x dec->IZ roots dec->∀d∈MZ x roots n dec,Lf x roots dec d
 |0,_,_,_,d,hd=>by cases hd
 |n+1,dec,h,hs,d,hd=>by
  unfold MZ at hd;split at hd
  .rename_i e;rw[Ap.1 hd];exact⟨NL,h,hs,US.1 e⟩
  .rename_i n0 l e;have hN:=OI e;obtain⟨L,hL,hd⟩:=DY.1 hd;obtain⟨c,hc,rfl⟩:=Ag.1 hL;split at hd
   .rename_i GM;obtain⟨h1,h2⟩:=Qe.1 GM;obtain⟨c1,c2⟩:=KA hc;have hJ:DK dec c.rel.path=false:=by rw[c1];exact hN.undone
    have:=Rb (n:=n) (h.snoc c2 hJ) (hs.snoc hN c1 h1 h2) d hd
    exact⟨(OX _ _).trans this.pre,this.ok,this.sat,this.stop⟩
   .cases hd
theorem Lf.sol(hx:A4 x=0)(h:Lf x roots dec d):vg x roots (D1 (AR d)):=l6 hx h.ok h.sat h.stop
theorem p8(hx:A4 x=0)(hd:FE x roots s){k:Nat}(hk:k<s.drv.length)(he:Da (EJ s k) (AR dec)=true)(h:Lf x roots dec d):False:=by
 have hS:=h.sol hx;have hv:=X5 (s:=D1 (AR d)) hS.inc (fun y hy=>Gr.2 (by
  obtain⟨c,hc,rfl⟩:=Ag.1 hy;obtain⟨t,e⟩:=h.pre;exact Ag.2 ⟨c,by rw[<-e];exact BC _ hc,rfl⟩)) he
 have hn:=ML hS (d:=[]) (fun _ h=>by cases h) hd.der (EJ s k) (by
  unfold EJ;rw[B5,Ay hk];exact Aq hk)
 rw[hv]at hn;cases hn
theorem tU(h:A4 x=0):x.length<=256:=by
 unfold A4 at h;split at h
 .cases h
 .omega
theorem lp{l:List Rl}:(l.map fun r=>(plc r.ver,plc r.ver+1)).any (BV k)=true↔∃r∈l,plc r.ver=k:=by
 rw[Bd];constructor
 .rintro⟨y,hy,h⟩
  obtain⟨r,hr,rfl⟩:=Ag.1 hy
  have:=D0.1 h
  exact⟨r,hr,by have h1:=this.1;have h2:=this.2;dsimp only at h1 h2;omega⟩
 .rintro⟨r,hr,rfl⟩
  exact⟨_,Ag.2 ⟨r,hr,rfl⟩,D0.2 ⟨Bs _,by dsimp only;omega⟩⟩
theorem Wo(hx:A4 x=0):has (Ch x p) k=true↔∃c∈Cz x p,c.place=k:=by
 unfold Ch;rw[HR];unfold has KY;rw[Ai (fun h=>h hx)];simp only[Ae,AA];rw[lp];constructor
 .rintro⟨_,r,hr,rfl⟩
  simp only[Bv,AA,CE]at hr;exact⟨⟨plc r.ver,r⟩,LN.2 ⟨r,hr.1.1,hr.1.2,hr.2,rfl⟩,rfl⟩
 .rintro⟨c,hc,rfl⟩
  obtain⟨r,h1,h2,h3,rfl⟩:=LN.1 hc;have GM:=(Cw hx).1 r h1
  have:=Ke GM.val
  rw[<-GM.plc]at this;refine⟨⟨this.1,this.2⟩,r,?_,rfl⟩;simp only[Bv,AA,CE];exact⟨⟨h1,h2⟩,h3⟩
theorem fR(hx:A4 x=0)(p:ByteArray):∃k:Int,0<=k/\k<1000000/\has (Ch x p) k=false:=by
 apply AL;intro hn;have Gw:∀k∈(List.range 257).map fun i:Nat=>(i:Int),k∈x.map fun r=>plc r.ver:=by
  intro k hk;obtain⟨i,hi,rfl⟩:=Ag.1 hk;have hi:=Gi.1 hi;have hh:has (Ch x p) (i:Int)=true:=by
   cases e:has (Ch x p) (i:Int)with
   |true=>rfl
   |false=>exact absurd ⟨(i:Int),by omega,by omega,e⟩ hn
  obtain⟨c,hc,e⟩:=(Wo hx).1 hh;obtain⟨r,h1,_,_,rfl⟩:=LN.1 hc;exact Ag.2 ⟨r,h1,e⟩
 have:=IV (Lc.2 (List.nodup_range.imp fun h e=>h (Int.ofNat.inj e))) Gw
 rw[A8,A8,La]at this
 have:=tU hx
 omega
theorem L4(dec:List Cd)(c:Cd):AR (dec++[c])=KZ (AR dec) c.rel.path c.rel.ver:=by unfold AR KZ;rw[Ar];rfl
theorem Nq:Da t S=true↔Bl t S=true/\∀u∈t,CR S u.path=true:=by
 unfold Da;rw[Ae,CE,GD];simp
section
variable {x:List Rl}{roots:List Rq}{dec:List Cd}{p:ByteArray}{needs:List Nd}
abbrev db(p:ByteArray)(dec:List Cd):List ByteArray:=p::(AR dec).map (·.path)
theorem pd{c:Cd}{t:List Tm}(hf:LI t)(he:Da t (AR (dec++[c]))=true):VZ (db c.rel.path dec) t:=by
 refine⟨Fa hf,fun u hu=>?_⟩
 have:=(Nq.1 he).2 u hu
 rw[HQ,L4,Ar]at this;rcases AO.1 this with h | h
 .exact Ah _ h
 .rw[AI,E0,Ap]at h;rw[h];exact Ab ..
theorem kP(hx:A4 x=0)(hd:ER x dec){c:Cd}(hc:c.rel∈x){t:List Tm}(he:Da t (AR (dec++[c]))=true)(hn:D6 t c.rel.path=false):Da t (AR dec)=true:=by
 obtain⟨h1,h2⟩:=Nq.1 he;have Dy:=KB hn;rw[L4]at h1 h2;refine Nq.2 ⟨?_,fun u hu=>?_⟩
 .rw[LF (.self (hd.valid hx)) (.ver (hd.valid hx) ((Cw hx).1 _ hc).val) Dy];exact h1
 .have:=h2 u hu
  rw[Um,CJ]at this;rcases this with h | h
  .exact h
  .rw[L0]at h;obtain⟨y,hy,e⟩:=h;rw[Ap.1 hy]at e;exact absurd e.symm (Dy u hu)
theorem jl(hx:A4 x=0)(hd:ER x dec){c:Cd}(hc:c.rel∈x/\c.rel.yanked=false/\c.place=plc c.rel.ver)(hu:DK dec c.rel.path=false){t:List Tm}(hf:LI t)(he:Da t (AR (dec++[c]))=true)(hn:D6 t c.rel.path=true) :
  oD (AR dec) (db c.rel.path dec) c.rel.path t fun k=>k=c.place:=by
 have GM:=(Cw hx).1 _ hc.1;have hV:=hd.valid hx;have h1:=(Nq.1 he).1;rw[L4]at h1;refine⟨hf,pd hf he,hn,⟨_,.ver hV GM.val,h1⟩,fun k k0 k1 e=>?_⟩;subst e;rw[dE (by rw[Gb];exact hu) (Fl ⟨k0,k1⟩) GM.val (by rw[HH,hc.2.2,GM.plc])];exact h1
theorem PX(hx:A4 x=0)(hr:BI roots=0){E:List Cd}(hE:ER x E){n:Nd}(hn:n∈DH roots E)(hv:∃d∈E,d.rel.path=n.rq.path/\has n.rq.set d.place=false) :
  (∀d,Ec x roots d (UA n)=some (JH n))/\Da (JH n) (AR E)=true/\LI (JH n):=by
 obtain⟨d,hd,e,hs⟩:=hv;have GM:=(Cw hx).1 _ (hE.cand d hd).1;have hf:=hE.find hd;have hI:=Tb hx hr hE hn (.inr ⟨UE d,by rw[<-e];exact hf,by rw[show(UE d).ver=d.rel.ver from rfl,<-GM.plc,<-(hE.cand d hd).2.2];exact hs⟩);refine⟨hI.inf,Nq.2 ⟨hI.viol,fun u hu=>?_⟩,hI.form⟩
 have:=(hI.inU ((AR E).map (·.path)) (fun h=>HQ.1 (hI.path h)) (HQ.1 (by rw[KE,<-e,hf];rfl))).2 u hu
 exact HQ.2 this
theorem iF(hx:A4 x=0)(hr:BI roots=0)(hd:ER x dec)(hN:vf roots dec p needs){c:Cd}(hc:c∈Cz x p){n:Nd}(hn:n∈needs)(hs:has n.rq.set c.place=false):D6 (JH n) p=true:=by
 obtain⟨c1,c2⟩:=KA hc;have hu:DK dec c.rel.path=false:=by rw[c1];exact hN.undone
 have hE:=hd.snoc c2 hu;obtain⟨jM,px⟩:=(hN.mem n).1 hn;have GM:=(Cw hx).1 _ c2.1;have hI:=Tb hx hr hE (OF jM) (.inr ⟨UE c,by rw[px,<-c1];exact hE.find B0,by rw[show(UE c).ver=c.rel.ver from rfl,<-GM.plc,<-c2.2.2];exact hs⟩);cases rt:D6 (JH n) p with
 |true=>rfl
 |false =>
  exfalso
  have Ow:n.rq.set≠[]/\EZ n.rq.set:=by
   rcases M2 jM with ⟨k,q,h1,rfl⟩ | ⟨c,hc,k,q,h1,rfl⟩
   .exact LQ hr q (Aw h1)
   .exact((Cw hx).1 _ (hd.cand c hc).1).set q (Aw h1)
  obtain⟨k,hk⟩:=fK Ow.1 Ow.2;have oh:=MU hk;have hV:=hd.valid hx;have o1:Y7 (AR dec) p (KZ (AR dec) p (Qy k)):=.ver hV (Fl oh);have o2:Y7 (AR dec) p (AR (dec++[c])):=by rw[L4,c1];exact .ver hV GM.val
  have h1:=LF o1 o2 (KB rt);rw[hI.viol,hI.raw _ o1.val,BJ]at h1
  have:=h1 (DV n.rq) (by unfold NQ;split<;>simp)
  rw[show(DV n.rq).path=p from px,IN (by rw[Gb];exact hN.undone),U0 (by rw[show(⟨p,Qy k⟩:Sl).ver=Qy k from rfl,HH];exact hk)]at this;cases this
theorem iy(hx:A4 x=0)(hr:BI roots=0)(hd:ER x dec)(hN:vf roots dec p needs){n0:Nd}(h0:n0∈needs)(L:List (Nat×Cd))(hL:L.map (·.2)=Cz x p)(hs:FE x roots s)(Dz:∀y∈L,y.1<s.drv.length)(xC:s.full=false->∀y∈L,Da (EJ s y.1) (AR (dec++[y.2]))=true/\D6 (EJ s y.1) p=true) :
  FE x roots (Eh x p n0 (L.map (·.1)) s).2/\Grow s (Eh x p n0 (L.map (·.1)) s).2/\(Eh x p n0 (L.map (·.1)) s).1<(Eh x p n0 (L.map (·.1)) s).2.drv.length /\
  ((Eh x p n0 (L.map (·.1)) s).2.full=false->Da (EJ (Eh x p n0 (L.map (·.1)) s).2 (Eh x p n0 (L.map (·.1)) s).1) (AR dec)=true):=by
 have hV:=hd.valid hx;have vG:CR (AR dec) p=false:=by rw[Gb];exact hN.undone
 obtain⟨zH,xx⟩:=(hN.mem n0).1 h0;have hI:=Tb hx hr hd zH (.inl (by rw[xx];exact Ig vG));unfold Eh;obtain⟨a1,a2,a3⟩:=Lj hs (hI.inf s.drv);have ag:=Lk s (UA n0) (JH n0);have a3:(BU s n0).2.full=false->EJ (BU s n0).2 (BU s n0).1=JH n0:=a3
 change FE x roots (BU s n0).2 at a1
 change (BU s n0).1<(BU s n0).2.drv.length at a2
 change Grow s (BU s n0).2 at ag
 generalize BU s n0=s1 at *
 -- the incompatibility of the places that are not available
 obtain⟨u,u0,u1,hu⟩:=fR hx p;have Yo:∀k:Int,0<=k->k<1000000->has (Ch x p) k=false->Bl [(⟨p,false,ES (Ch x p)⟩:Tm)] (KZ (AR dec) p (Qy k))=true:=fun k k0 k1 hk=>by
  rw[BJ];intro t ht;rw[Ap.1 ht];show Du _ (BY (KZ (AR dec) p (Qy k)) p)=true;rw[IN vG];show(Ct (Qy k)&&has (ES (Ch x p)) (place (Qy k)))=true;rw[Fl ⟨k0,k1⟩,HH,FV,hk];unfold Mx;simp[k0,k1]
 have rF:Bl [(⟨p,false,ES (Ch x p)⟩:Tm)] (AR dec)=false:=by
  rw[AM];intro h
  have:=BJ.1 h _ (Ab ..)
  rw[show(⟨p,false,ES (Ch x p)⟩:Tm).path=p from rfl,Ig vG]at this;cases this
 have ou:Y7 (AR dec) p (KZ (AR dec) p (Qy u)):=.ver hV (Fl ⟨u0,u1⟩);have Dy:IA p (Ch x p)≠[]:=by
  have c1:=Dk (l:=[(⟨p,false,ES (Ch x p)⟩:Tm)]) ou.val;have c2:=Dk (l:=[(⟨p,false,ES (Ch x p)⟩:Tm)]) hV;rw[Yo u u0 u1 hu]at c1;rw[rF]at c2;unfold IA Rf;cases hc:C3 [(⟨p,false,ES (Ch x p)⟩:Tm)]with
  |none=>rw[hc]at c1;cases c1
  |some c =>
   rw[hc]at c2;intro e;have e:c=[]:=e;rw[e]at c2;cases c2
 have Mn:∀S,Gu S->Bl (IA p (Ch x p)) S=Bl [(⟨p,false,ES (Ch x p)⟩:Tm)] S:=fun S v=>Rg v Dy;have w9:D6 (IA p (Ch x p)) p=true:=by
  cases h:D6 (IA p (Ch x p)) p with
  |true=>rfl
  |false =>
   have:=LF ou (.self hV) (KB h)
   rw[Mn _ ou.val,Mn _ hV,Yo u u0 u1 hu,rF]at this;cases this
 have tv:Ec x roots s1.2.drv ⟨2,p,0,0,0,0⟩=some (IA p (Ch x p)):=by
  unfold Ec;rw[Ai (show ¬((2:Int)=0) by decide),Ai (show ¬((2:Int)=1) by decide),Al rfl,Al ⟨rfl,rfl,rfl,rfl⟩];unfold iE;rw[Ai (by rw[Hk];exact Dy)]
 obtain⟨b1,b2,b3⟩:=Lj a1 tv;have bg:=Lk s1.2 ⟨2,p,0,0,0,0⟩ (IA p (Ch x p));have b3:(EO x p s1.2).2.full=false->EJ (EO x p s1.2).2 (EO x p s1.2).1=IA p (Ch x p):=b3
 change FE x roots (EO x p s1.2).2 at b1
 change (EO x p s1.2).1<(EO x p s1.2).2.drv.length at b2
 change Grow s1.2 (EO x p s1.2).2 at bg
 generalize EO x p s1.2=s2 at *
 have wX:s2.2.full=false->s1.2.full=false/\s.full=false:=fun h=>by
  have h1:s1.2.full=false:=by
   cases e:s1.2.full with
   |false=>rfl
   |true=>rw[bg.full e]at h;cases h
  refine⟨h1,?_⟩;cases e:s.full with
  |false=>rfl
  |true=>rw[ag.full e]at h1;cases h1
 have main:=OB (D:=AR dec) (U:=db p dec) (p:=p) hV ((s2.1,fun k=>has (Ch x p) k=false)::L.map fun y=>(y.1,fun k=>k=y.2.place)) (C:=fun k=>has n0.rq.set k=false) b1 (By a2 bg.len)
  (fun y hy=>by
   rcases Az.1 hy with rfl | hy
   .exact b2
   .obtain⟨z,hz,rfl⟩:=Ag.1 hy;exact By (Dz z hz) (ag.trans bg).len) (fun hf=>by
   obtain⟨f1,f0⟩:=wX hf;refine⟨?_,fun y hy=>?_⟩
   .rw[bg.at a2,a3 f1];refine⟨hI.form,hI.inU _ (fun h=>Ah _ (HQ.1 (hI.path h))) (by rw[xx];exact Ab ..),hI.viol,fun k k0 k1 hk=>?_⟩;have ok:Y7 (AR dec) p (KZ (AR dec) p (Qy k)):=.ver hV (Fl ⟨k0,k1⟩);rw[hI.raw _ ok.val,BJ];intro t ht;have QV:=BJ.1 ((hI.raw _ hV).symm.trans hI.viol) t ht;unfold NQ at ht;have lE:Du (DV n0.rq) (BY (KZ (AR dec) p (Qy k)) (DV n0.rq).path)=true:=by
     rw[show(DV n0.rq).path=p from xx,IN vG];exact Sr (.inr ⟨_,rfl,Fl ⟨k0,k1⟩,by rw[show(⟨p,Qy k⟩:Sl).ver=Qy k from rfl,HH];exact hk⟩)
    split at ht
    .rw[Ap.1 ht];exact lE
    .rename_i hm;rcases Az.1 ht with rfl | ht
     .have Dy:n0.path≠p:=fun e=>by
       have:=hI.path hm
       rw[e,vG]at this;cases this
      rw[show(⟨n0.path,false,[(n0.place,n0.place+1)]⟩:Tm).path=n0.path from rfl]at QV⊢;rw[ok.same _ Dy];exact QV
     .rw[Ap.1 ht];exact lE
   .rcases Az.1 hy with rfl | hy
    .show oD _ _ p (EJ s2.2 s2.1) _;rw[b3 hf];refine⟨M4 _,UY (fun t ht=>by rw[Ap.1 ht];exact Ab ..),w9,⟨_,ou,by rw[Mn _ ou.val];exact Yo u u0 u1 hu⟩,fun k k0 k1 hk=>?_⟩;rw[Mn _ (Y7.ver hV (Fl ⟨k0,k1⟩)).val];exact Yo k k0 k1 hk
    .obtain⟨z,hz,rfl⟩:=Ag.1 hy;show oD _ _ p (EJ s2.2 z.1) _;rw[(ag.trans bg).at (Dz z hz)];obtain⟨e1,e2⟩:=xC f0 z hz;have hzc:z.2∈Cz x p:=by rw[<-hL];exact Ag.2 ⟨z,hz,rfl⟩
     obtain⟨c1,c2⟩:=KA hzc
     have:=jl hx hd c2 (by rw[c1];exact hN.undone) (hs.forms z.1) e1 (by rw[c1];exact e2)
     rw[c1]at this;exact this)
 have AbK:((s2.1,fun k=>has (Ch x p) k=false)::L.map fun y=>(y.1,fun k=>k=y.2.place)).map (·.1)=s2.1::L.map (·.1):=by
  rw[AI,Bo];rfl
 rw[AbK]at main;obtain⟨m1,m2,m3,m4⟩:=main;refine⟨m1,(ag.trans bg).trans m2,m3,fun hf=>?_⟩;obtain⟨C',q1,q2⟩:=m4 hf;have hnc:D6 (EJ (CA p (s2.1::L.map (·.1)) s1.1 s2.2).2 (CA p (s2.1::L.map (·.1)) s1.1 s2.2).1) p=false:=by
  rcases q2 with q2 | q2
  .exact q2
  .refine mq vG q1.form q1.none_ fun k k0 k1=>q1.cov k k0 k1 (q2 k ?_);cases zK:has n0.rq.set k with
   |false=>exact .inl rfl
   |true =>
    cases ha:has (Ch x p) k with
    |false=>exact .inr ⟨_,Ab ..,ha⟩
    |true =>
     obtain⟨c,hc,e⟩:=(Wo hx).1 ha;rw[<-hL]at hc;obtain⟨z,hz,rfl⟩:=Ag.1 hc;exact .inr ⟨_,Ah _ (Ag.2 ⟨z,hz,rfl⟩),e.symm⟩
 refine Nq.2 ⟨q1.none_,fun t ht=>?_⟩
 have:=q1.inU.2 t ht
 rcases Az.1 this with e | h
 .exact absurd e (KB hnc t ht)
 .exact HQ.2 h
end
def Hv(s:SS)(b:List Cd)(p:ByteArray)(needs:List Nd):List Cd->List Sk->Prop
 | [],sk=>sk=[]
 |c::cs,sk=>if(needs.all fun n=>has n.rq.set c.place)=true then ∃(k:Nat) (rest:List Sk),sk=⟨p,c.place,k⟩::rest/\(k<s.drv.length/\Da (EJ s k) (AR (b++[c]))=true)/\Hv s b p needs cs rest
  else Hv s b p needs cs sk
section
variable {s s' : SS}{b:List Cd}{p:ByteArray}{needs:List Nd}
theorem Hv.out{c:Cd}(hc:¬(needs.all fun n=>has n.rq.set c.place)=true):∀{cs:List Cd} {sk:List Sk},Hv s b p needs cs sk->Hv s b p needs (cs++[c]) sk
 | [],sk,h=>by
  show(if _ then _ else _);rw[Ai hc];exact h
 |d::cs,sk,h=>by
  have h:if(needs.all fun n=>has n.rq.set d.place)=true then _ else _:=h
  show(if _ then _ else _)
  by_cases hd:(needs.all fun n=>has n.rq.set d.place)=true
  .rw[Al hd]at h⊢;obtain⟨k,rest,h1,h2,h3⟩:=h;exact⟨k,rest,h1,h2,Hv.out hc h3⟩
  .rw[Ai hd]at h⊢;exact Hv.out hc h
theorem Hv.add{c:Cd}(hc:(needs.all fun n=>has n.rq.set c.place)=true){k:Nat}(hk:k<s.drv.length/\Da (EJ s k) (AR (b++[c]))=true):∀{cs:List Cd} {sk:List Sk},Hv s b p needs cs sk->Hv s b p needs (cs++[c]) (sk++[⟨p,c.place,k⟩])
 | [],sk,h=>by
  have h:sk=[]:=h;subst h;show(if _ then _ else _);rw[Al hc];exact⟨k,[],rfl,hk,rfl⟩
 |d::cs,sk,h=>by
  have h:if(needs.all fun n=>has n.rq.set d.place)=true then _ else _:=h
  show(if _ then _ else _)
  by_cases hd:(needs.all fun n=>has n.rq.set d.place)=true
  .rw[Al hd]at h⊢;obtain⟨j,rest,rfl,h2,h3⟩:=h;exact⟨j,_,rfl,h2,Hv.add hc hk h3⟩
  .rw[Ai hd]at h⊢;exact Hv.add hc hk h
theorem Hv.mono(hg:Grow s s'):∀{cs:List Cd} {sk:List Sk},Hv s b p needs cs sk->Hv s' b p needs cs sk
 | [],_,h=>h
 |d::cs,sk,h=>by
  have h:if(needs.all fun n=>has n.rq.set d.place)=true then _ else _:=h
  show(if _ then _ else _)
  by_cases hd:(needs.all fun n=>has n.rq.set d.place)=true
  .rw[Al hd]at h⊢;obtain⟨j,rest,rfl,h2,h3⟩:=h;exact⟨j,rest,rfl,⟨By h2.1 hg.len,by rw[hg.at h2.1];exact h2.2⟩,h3.mono hg⟩
  .rw[Ai hd]at h⊢;exact h.mono hg
end
structure sf(x:List Rl)(roots:List Rq)(s:SS)(b:List Cd)(c:Cd)(sk:List Sk)(p:ByteArray)(needs:List Nd)(pre post:List Cd):Prop where
 next:vf roots b p needs
 cands:Cz x p=pre++c::post
 fit:∀n∈needs,has n.rq.set c.place=true
 noclash:Er b c=none
 skips:Hv s b p needs pre sk
def Tu(x:List Rl)(roots:List Rq)(s:SS):List Cd->List Cd->List (List Sk)->Prop
 |b,[],[]=>Lu (Ir roots b) (AR b)=none
 |b,c::t,sk::st=>(∃p needs pre post,sf x roots s b c sk p needs pre post)/\Tu x roots s (b++[c]) t st
 |_,_,_=>False
structure XG(x:List Rl)(roots:List Rq)(ls:List (List Cd))(dec:List Cd)(s:SS)(st:List (List Sk))(o:KO):Prop where
 der:FE x roots o.ss
 grow:Grow s o.ss
 no:o.found=false->o.dec=dec/\o.stack=st/\(o.ss.full=false->o.res<o.ss.drv.length/\Da (EJ o.ss o.res) (AR dec)=true)
 yes:o.found=true->o.ss.full=false/\∃t sl,o.dec=dec++t/\o.stack=st++sl/\Tu x roots o.ss dec t sl/\ls.head?=some o.dec
section
variable {rec:List Cd->SS->List (List Sk)->KO}{x:List Rl}{roots:List Rq}{p:ByteArray}{needs:List Nd}{n0:Nd}{dec:List Cd}{st:List (List Sk)}
def Kz(rec:List Cd->SS->List (List Sk)->KO)(x:List Rl)(p:ByteArray)(needs:List Nd)(n0:Nd)(dec:List Cd)(st:List (List Sk))(c:Cd)(cs:List Cd)(Gd:List Nat)(skips:List Sk)(k:Nat)(s:SS):KO :=
 if D6 (EJ s k) p=false then⟨k,false,s,dec,st⟩else Ey rec x p needs n0 dec st cs s (Gd++[k]) (skips++[⟨p,c.place,k⟩])
theorem GG(c:Cd)(cs:List Cd)(s:SS)(Gd:List Nat)(skips:List Sk):Ey rec x p needs n0 dec st (c::cs) s Gd skips =
  if s.full=true then⟨0,false,s,dec,st⟩
  else match needs.find? fun n=>!has n.rq.set c.place with
   |some n=>Ey rec x p needs n0 dec st cs (BU s n).2 (Gd++[(BU s n).1]) skips
   |none=>match Pv s.drv (AR (dec++[c]))with
    |some k=>Kz rec x p needs n0 dec st c cs Gd skips k s
    |none=>match Er dec c with
     |some n=>Kz rec x p needs n0 dec st c cs Gd skips (BU s n).1 (BU s n).2
     |none=>if(rec (dec++[c]) s (st++[skips])).found=true then⟨0,true,(rec (dec++[c]) s (st++[skips])).ss,(rec (dec++[c]) s (st++[skips])).dec,(rec (dec++[c]) s (st++[skips])).stack⟩
      else if(rec (dec++[c]) s (st++[skips])).ss.full=true then⟨0,false,(rec (dec++[c]) s (st++[skips])).ss,dec,st⟩
      else Kz rec x p needs n0 dec st c cs Gd skips (rec (dec++[c]) s (st++[skips])).res (rec (dec++[c]) s (st++[skips])).ss:=rfl
theorem eI{s:SS}(hs:FE x roots s){n:Nd}(h:∀d,Ec x roots d (UA n)=some (JH n)):FE x roots (BU s n).2/\(BU s n).1<(BU s n).2.drv.length/\((BU s n).2.full=false->EJ (BU s n).2 (BU s n).1=JH n)/\Grow s (BU s n).2:=by
 obtain⟨a1,a2,a3⟩:=Lj hs (h s.drv);exact⟨a1,a2,a3,Lk _ _ _⟩
theorem XG.grown{ls:List (List Cd)}{s s' : SS}{o:KO}(hg:Grow s s')(h:XG x roots ls dec s' st o):XG x roots ls dec s st o:=⟨h.der,hg.trans h.grow,h.no,h.yes⟩
theorem Ws(hx:A4 x=0)(hr:BI roots=0)(hd:ER x dec)(ig:IZ roots dec)(hN:vf roots dec p needs)(h0:n0∈needs){lv:List Cd->List (List Cd)}(hlv:∀c∈Cz x p,iR dec needs c=true->∀d∈lv (dec++[c]),Lf x roots (dec++[c]) d)
  (ie:∀c∈Cz x p,iR dec needs c=true->∀s st,FE x roots s->s.full=false->XG x roots (lv (dec++[c])) (dec++[c]) s st (rec (dec++[c]) s st)) :
  ∀(cs:List Cd) {s:SS} (L:List (Nat×Cd)) {skips:List Sk},L.map (·.2)++cs=Cz x p->FE x roots s->(∀y∈L,y.1<s.drv.length)->(s.full=false->(∀y∈L,Da (EJ s y.1) (AR (dec++[y.2]))=true/\D6 (EJ s y.1) p=true)/\Hv s dec p needs (L.map (·.2)) skips) ->
   XG x roots (((Cz x p).map fun c=>if iR dec needs c then lv (dec++[c])else []).flatten) dec s st (Ey rec x p needs n0 dec st cs s (L.map (·.1)) skips)
 | [],s,L,skips,hL,hs,Dz,xC=>by
  rw[BP]at hL;obtain⟨l1,l2,l3,l4⟩:=iy hx hr hd hN h0 L hL hs Dz (fun hf=>(xC hf).1);exact⟨l1,l2,fun _=>⟨rfl,rfl,fun hf=>⟨l3,l4 hf⟩⟩,fun h=>(by cases h)⟩
 |c::cs,s,L,skips,hL,hs,Dz,xC=>by
  rw[GG]
  by_cases hf:s.full=true
  .rw[Al hf];exact⟨hs,.refl s,fun _=>⟨rfl,rfl,fun h=>by rw[show(⟨0,false,s,dec,st⟩:KO).ss=s from rfl,hf]at h;cases h⟩,fun h=>(by cases h)⟩
  rw[Ai hf];have hf:s.full=false:=by simpa using hf
  obtain⟨xD,tG⟩:=xC hf;have hc:c∈Cz x p:=by rw[<-hL];simp
  obtain⟨c1,c2⟩:=KA hc;have hu:DK dec c.rel.path=false:=by rw[c1];exact hN.undone
  have hE:=hd.snoc c2 hu
  -- on to the next candidate
  have go:∀(s' : SS) (k:Nat) (YL : List Sk),FE x roots s'->Grow s s'->k<s'.drv.length->(s'.full=false->(Da (EJ s' k) (AR (dec++[c]))=true/\D6 (EJ s' k) p=true)/\Hv s' dec p needs (L.map (·.2)++[c]) YL) ->
    XG x roots (((Cz x p).map fun c=>if iR dec needs c then lv (dec++[c])else []).flatten) dec s st (Ey rec x p needs n0 dec st cs s' (L.map (·.1)++[k]) YL):=fun s' k YL YY hg hk Dy=>by
   have:=Ws hx hr hd ig hN h0 hlv ie cs (s:=s') (L++[(k,c)]) (skips:=YL) (by rw[Ar,BA];exact hL) YY
    (fun y hy=>by
     rcases AO.1 hy with hy | hy
     .exact By (Dz y hy) hg.len
     .rw[Ap.1 hy];exact hk)
    (fun jK=>by
     obtain⟨e1,e2⟩:=Dy jK;refine⟨fun y hy=>?_,by rw[Ar];exact e2⟩;rcases AO.1 hy with hy | hy
     .rw[hg.at (Dz y hy)];exact xD y hy
     .rw[Ap.1 hy];exact e1)
   rw[Ar]at this;exact this.grown hg
  cases tp:needs.find? fun n=>!has n.rq.set c.place with
  |some n =>
   dsimp only;have jM:=BE tp;have px:=DJ tp;have px:has n.rq.set c.place=false:=by simpa using px
   obtain⟨hn3,hn4⟩:=(hN.mem n).1 jM;obtain⟨e1,e2,e3⟩:=PX hx hr hE (OF hn3) ⟨c,by simp,by rw[c1,hn4],px⟩;obtain⟨i1,i2,i3,i4⟩:=eI hs e1;refine go _ _ _ i1 i4 i2 fun jK=>?_;rw[i3 jK];exact⟨⟨e2,iF hx hr hd hN hc jM px⟩,Hv.out (by
    intro h;rw[Bc]at h;rw[h n jM]at px;cases px) (tG.mono i4)⟩
  |none =>
   dsimp only;have cA:∀n∈needs,has n.rq.set c.place=true:=fun n hn=>by
    rw[DO]at tp;simpa using tp n hn
   have Gw:(needs.all fun n=>has n.rq.set c.place)=true:=by rw[Bc];exact cA
   have so:∀(s' : SS) (k:Nat),FE x roots s'->Grow s s'->k<s'.drv.length->(s'.full=false->Da (EJ s' k) (AR (dec++[c]))=true) ->
     XG x roots (((Cz x p).map fun c=>if iR dec needs c then lv (dec++[c])else []).flatten) dec s st (Kz rec x p needs n0 dec st c cs (L.map (·.1)) skips k s'):=fun s' k YY hg hk he=>by
    unfold Kz;cases rt:D6 (EJ s' k) p with
    |false =>
     rw[Al rfl];exact⟨YY,hg,fun _=>⟨rfl,rfl,fun jK=>⟨hk,kP hx hd c2.1 (he jK) (by rw[c1];exact rt)⟩⟩,fun h=>(by cases h)⟩
    |true =>
     rw[Ai Cl];exact go _ _ _ YY hg hk fun jK=>⟨⟨he jK,rt⟩,Hv.add Gw ⟨hk,he jK⟩ (tG.mono hg)⟩
   cases hen:Pv s.drv (AR (dec++[c]))with
   |some k =>
    dsimp only;obtain⟨k1,k2⟩:=Lo hen;exact so s k hs (.refl s) k1 fun _=>k2
   |none =>
    dsimp only;cases hcl:Er dec c with
    |some n =>
     dsimp only;obtain⟨m1,m2⟩:=LR hcl;obtain⟨e1,e2,e3⟩:=PX hx hr hE (NC m1) m2;obtain⟨i1,i2,i3,i4⟩:=eI hs e1;exact so _ _ i1 i4 i2 fun jK=>by rw[i3 jK];exact e2
    |none =>
     dsimp only;have GM:iR dec needs c=true:=Qe.2 ⟨cA,hcl⟩;have hR:=ie c hc GM s (st++[skips]) hs hf;generalize rec (dec++[c]) s (st++[skips])=o at hR
     by_cases eG:o.found=true
     .rw[Al eG];obtain⟨y1,t,sl,y2,y3,y4,y5⟩:=hR.yes eG;refine⟨hR.der,hR.grow,fun h=>(by cases h),fun _=>⟨y1,c::t,skips::sl,by show o.dec=_;rw[y2];simp,by show o.stack=_;rw[y3];simp,⟨⟨p,needs,L.map (·.2),cs,hN,hL.symm,cA,hcl,tG.mono hR.grow⟩,y4⟩,?_⟩⟩;show _=some o.dec;rw[<-hL,Ar,Cc,AI,BB];have AbN:((L.map (·.2)).map fun c=>if iR dec needs c then lv (dec++[c])else []).flatten=[]:=by
       rw[List.flatten_eq_nil_iff];intro l hl;obtain⟨d,oe,rfl⟩:=Ag.1 hl;obtain⟨y,hy,rfl⟩:=Ag.1 oe;split
       .rename_i hoy;have hyc:y.2∈Cz x p:=by rw[<-hL];exact BC _ oe
        refine Mt.2 fun d Abw=>p8 hx hs (Dz y hy) (xD y hy).1 (hlv y.2 hyc hoy d Abw)
       .rfl
      rw[AbN,FL,Al GM,List.head?_append,y5];rfl
     .rw[Ai eG];have eG:o.found=false:=by simpa using eG
      obtain⟨n1,n2,n3⟩:=hR.no eG
      by_cases tq:o.ss.full=true
      .rw[Al tq];exact⟨hR.der,hR.grow,fun _=>⟨rfl,rfl,fun h=>by rw[show(⟨0,false,o.ss,dec,st⟩:KO).ss=o.ss from rfl,tq]at h;cases h⟩,fun h=>(by cases h)⟩
      .rw[Ai tq];have tq:o.ss.full=false:=by simpa using tq
       exact so _ _ hR.der hR.grow (n3 tq).1 fun _=>(n3 tq).2
end
theorem Uj(h:c.rel∈x/\c.rel.yanked=false)(hu:DK dec c.rel.path=false):RU x (dec++[c])<RU x dec:=by
 have key:∀l:List Rl,(l.filter fun r=>!r.yanked&&!DK (dec++[c]) r.path).length<=(l.filter fun r=>!r.yanked&&!DK dec r.path).length /\
   (c.rel∈l->(l.filter fun r=>!r.yanked&&!DK (dec++[c]) r.path).length<(l.filter fun r=>!r.yanked&&!DK dec r.path).length):=by
  intro l
  induction l with
  |nil=>exact⟨Aj _,fun h=>(by cases h)⟩
  |cons r l ih =>
   have lK:(!r.yanked&&!DK (dec++[c]) r.path)=true->(!r.yanked&&!DK dec r.path)=true:=fun e=>by
    simp only[Ae,CE]at e⊢;refine⟨e.1,?_⟩
    have:=e.2
    unfold DK at this⊢;rw[H5,Bool.or_eq_false_iff]at this;exact this.1
   rw[Ef,Ef];refine⟨?_,fun hm=>?_⟩
   .by_cases e:(!r.yanked&&!DK (dec++[c]) r.path)=true
    .rw[Al e,Al (lK e)];simp;exact ih.1
    .rw[Ai e];split
     .simp;have:=ih.1;omega
     .exact ih.1
   .rcases Az.1 hm with rfl | hm
    .have e1:¬(!c.rel.yanked&&!DK (dec++[c]) c.rel.path)=true:=by
      have:DK (dec++[c]) c.rel.path=true:=by unfold DK;simp
      rw[this];simp
     have e2:(!c.rel.yanked&&!DK dec c.rel.path)=true:=by rw[h.2,hu];rfl
     rw[Ai e1,Al e2];simp;have:=ih.1;omega
    .have:=ih.2 hm
     by_cases e:(!r.yanked&&!DK (dec++[c]) r.path)=true
     .rw[Al e,Al (lK e)];simp;exact this
     .rw[Ai e];split
      .simp;omega
      .exact this
 exact(key x).2 h.1
theorem Rv{x:List Rl}{roots:List Rq}(hx:A4 x=0)(hr:BI roots=0):∀(n:Nat) {dec:List Cd} {s:SS} {st:List (List Sk)},ER x dec->IZ roots dec->FE x roots s->s.full=false->RU x dec<n ->
  XG x roots (MZ x roots n dec) dec s st (Dv x roots n dec s st)
 |0,_,_,_,_,_,_,_,h=>by omega
 |n+1,dec,s,st,hd,ig,hs,hf,hn=>by
  unfold Dv MZ;cases e:(G8 roots dec).2 with
  |nil =>
   exact⟨hs,.refl s,fun h=>(by cases h),fun _=>⟨hf,[],[],by simp,by simp,US.1 e,rfl⟩⟩
  |cons n0 l =>
   have hN:=OI e;have next:∀c∈Cz x (G8 roots dec).1,iR dec (n0::l) c=true->ER x (dec++[c])/\IZ roots (dec++[c])/\RU x (dec++[c])<n:=fun c hc GM=>by
    obtain⟨c1,c2⟩:=KA hc;have hu:DK dec c.rel.path=false:=by rw[c1];exact hN.undone
    obtain⟨k1,k2⟩:=Qe.1 GM;exact⟨hd.snoc c2 hu,ig.snoc hN c1 k1 k2,by have:=Uj (dec:=dec) ⟨c2.1,c2.2.1⟩ hu;omega⟩
   exact Ws hx hr hd ig hN (Ab ..) (lv:=MZ x roots n) (fun c hc GM d oe=>Rb (next c hc GM).1 (next c hc GM).2.1 d oe)
    (fun c hc GM s st hs hf=>Rv hx hr n (next c hc GM).1 (next c hc GM).2.1 hs hf (next c hc GM).2.2) _ [] rfl hs (fun y hy=>by cases hy) (fun _=>⟨fun y hy=>(by cases hy),rfl⟩)
theorem kY(x:List Rl)(dec:List Cd):RU x dec<=x.length:=Bq _ _
theorem Xp(hx:A4 x=0)(hr:BI roots=0):XG x roots (MZ x roots (x.length+1) []) [] ss0 [] (EB x roots) :=
 Rv hx hr _ (.nil x) (.nil roots) (.nil x roots) rfl (by have:=kY x [];omega)
end Go.Eng
