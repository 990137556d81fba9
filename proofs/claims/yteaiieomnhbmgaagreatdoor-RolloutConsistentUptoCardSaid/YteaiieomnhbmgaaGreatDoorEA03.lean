/- Lemmas 3. -/
import Derived.Test.YteaiieomnhbmgaaGreatDoorEA02
namespace Go.Eng
variable {p:ByteArray}{x:List Rl}{dec:List Cd}{roots:List Rq}{D:List Sl}{t:List Tm}{c:Cd}{n:Nd}{S:List Sl}{E:List Cd}{needs:List Nd}{d:List Cd}{k:Int}{v:Ver}{s:SS}{v':Ver}{r:Rl}{q:Rq}
theorem MZ:∀{l:List Rq} {b:Option ByteArray},Gl b l=0->∀q∈l,q.set≠[]/\E6 q.set
 | [],_,_,q,hq=>by cases hq
 |r::l,b,h,q,hq=>by
  unfold Gl at h;split at h
  .rename_i e;rcases AC.1 hq with rfl | hq
   .unfold I2 at e
    by_cases h1:(CG q.path).isNone=true
    .rw[Ao h1]at e;exact absurd e Cl
    rw[Aj h1]at e;cases hE:q.set.isEmpty with
    |true=>rw[hE]at e;simp at e
    |false=>
     cases hD:decide (q.set=canon q.set)with
     |false=>rw[hD]at e;simp at e
     |true=>
      have h3:q.set=canon q.set:=AK hD;exact⟨by simpa using hE,by rw[h3];exact CB _⟩
   .exact MZ h q hq
  .rename_i e;exact absurd h e
theorem L8{l:List Rq}(h:BK l=0):∀q∈l,q.set≠[]/\E6 q.set:=by
 unfold BK at h;split at h
 .cases h
 .exact MZ h
abbrev Rb(k:Int):Ver:=⟨0,k / 1000,k % 1000⟩
theorem HU(k:Int):place (Rb k)=k:=by unfold place;show 1000*(k / 1000)+k % 1000=k;omega
theorem Fs(h:0<=k/\k<1000000):Cz (Rb k)=true:=by
 unfold Cz okPart;simp only[Ag];exact⟨⟨Ar ch,Ar ch⟩,Ar ch⟩
structure ZG(D:List Sl)(p:ByteArray)(S:List Sl):Prop where
 val:GD S
 same:∀q,q≠p->B2 S q=B2 D q
abbrev Lj(D:List Sl)(p:ByteArray)(v:Ver):List Sl:=D++[⟨p,v⟩]
theorem Lb(a b:List Sl)(p:ByteArray):B2 (a++b) p=(B2 a p).or (B2 b p):=by
 unfold B2;rw[List.find?_append]
theorem Iq{s:List Sl}(h:CZ s p=false):B2 s p=none:=by
 rw[KO]at h;cases e:B2 s p with
 |none=>rfl
 |some y=>rw[e]at h;cases h
theorem ZG.self(h:GD D):ZG D p D:=⟨h,fun _ _=>rfl⟩
theorem ZG.ver(h:GD D)(hv:Cz v=true):ZG D p (Lj D p v):=by
 refine⟨fun y hy=>?_,fun q hq=>?_⟩
 .rcases AP.1 hy with hy | hy
  .exact h y hy
  .rw[Aq.1 hy];exact hv
 .rw[Lb]
  have:B2 [(⟨p,v⟩:Sl)] q=none:=by unfold B2;simp[Ne.symm hq]
  rw[this,Option.or_none]
theorem I0(hp:CZ D p=false)(v:Ver):B2 (Lj D p v) p=some ⟨p,v⟩:=by
 rw[Lb,Iq hp];unfold B2;simp
theorem SE(hp:CZ D p=false)(hv:Cz v=true)(hv' : Cz v'=true)(e:place v=place v')(q:ByteArray)(t:Tm) :
  DA t (B2 (Lj D p v) q)=DA t (B2 (Lj D p v') q):=by
 by_cases hq:q=p
 .subst hq;rw[I0 hp,I0 hp];show(Cz v&&has t.set (place v))=(Cz v'&&has t.set (place v'));rw[hv,hv',e]
 .have h1:∀w:Ver,B2 (Lj D p w) q=B2 D q:=fun w=>by
   rw[Lb]
   have:B2 [(⟨p,w⟩:Sl)] q=none:=by unfold B2;simp[Ne.symm hq]
   rw[this,Option.or_none]
  rw[h1,h1]
theorem eI(hp:CZ D p=false)(hv:Cz v=true)(hv' : Cz v'=true)(e:place v=place v')(t:List Tm):Bo t (Lj D p v)=Bo t (Lj D p v'):=by
 rw[B5,BL,BL];exact⟨fun h u hu=>by rw[<-SE hp hv hv' e];exact h u hu,fun h u hu=>by rw[SE hp hv hv' e];exact h u hu⟩
theorem LX{S':List Sl}(h:ZG D p S)(h' : ZG D p S')(ht:∀u∈t,u.path≠p):Bo t S=Bo t S':=by
 rw[B5,BL,BL];exact⟨fun k u hu=>by rw[h'.same _ (ht u hu),<-h.same _ (ht u hu)];exact k u hu,fun k u hu=>by rw[h.same _ (ht u hu),<-h'.same _ (ht u hu)];exact k u hu⟩
theorem KL(h:Eb t p=false):∀u∈t,u.path≠p:=fun u hu e=>by
 unfold Eb at h;rw[GM]at h;exact h u hu (by simpa using e)
theorem Ux(h:Eb t p=true):∃u∈t,u.path=p:=by
 unfold Eb at h;rw[Bd]at h;obtain⟨u,hu,e⟩:=h;exact⟨u,hu,by simpa using e⟩
theorem VV(hf:L0 t)(hc:Eb t p=true):∃u r,FN t p=some (u,r)/\u.path=p/\∀v∈r,v.path≠p:=by
 obtain⟨u,hu,e⟩:=Ux hc;have hs:=Fj hf;have uE:=(F4 hs).1 hu;rw[e]at uE;refine⟨u,Ga t p,?_,e,fun v hv=>?_⟩
 .unfold FN;rw[show Df t=some t from hf];dsimp only;rw[uE]
 .have:=(By.1 hv).2
  simpa using this
theorem Zf{b:List Tm}(TK:L0 t)(uD:L0 b)(hct:Eb t p=true)(hcb:Eb b p=true){S1 S2:List Sl}(h1:ZG D p S1)(v1:Bo t S1=true)(h2:ZG D p S2)(v2:Bo b S2=true) :
  (B1 t b p).2=0/\∀S,ZG D p S->Bo t S=true\/Bo b S=true->Bo (B1 t b p).1 S=true:=by
 obtain⟨u,r,e1,pu,nr⟩:=VV TK hct;obtain⟨w,m,e2,pw,nm⟩:=VV uD hcb;have key:∀S,ZG D p S->Bo t S=true\/Bo b S=true->Bo (r++m++[Dz u w]) S=true:=fun S hS hv=>by
  have r1:Bo r S=true:=by
   rw[LX hS h1 nr];rw[(F9 h1.val e1).1,Ag]at v1;exact v1.2
  have m1:Bo m S=true:=by
   rw[LX hS h2 nm];rw[(F9 h2.val e2).1,Ag]at v2;exact v2.2
  rw[HI,HI,r1,m1];simp only[E5];rw[BL];intro y hy;rw[Aq.1 hy,show(Dz u w).path=p from pu,Ov,CO];rcases hv with hv | hv
  .rw[(F9 hS.val e1).1,Ag]at hv;exact .inl hv.1
  .rw[(F9 hS.val e2).1,Ag]at hv;exact .inr hv.1
 unfold B1;rw[e1,e2];dsimp only;have c1:=Ds (l:=r++m++[Dz u w]) h1.val;rw[key S1 h1 (.inl v1)]at c1;cases hc:Df (r++m++[Dz u w])with
 |none=>rw[hc]at c1;cases c1
 |some o=>
  dsimp only;refine⟨rfl,fun S hS hv=>?_⟩;have c2:=Ds (l:=r++m++[Dz u w]) hS.val;rw[hc,key S hS hv]at c2;exact c2.symm
theorem nv(hp:CZ D p=false)(hf:L0 t)(h0:Bo t D=true)(hk:∀k:Int,0<=k->k<1000000->Bo t (Lj D p (Rb k))=true):Eb t p=false:=by
 rw[AN];intro hc;obtain⟨u,hu,e⟩:=Ux hc;have ha:u.absent=true:=by
  have:=BL.1 h0 u hu
  rw[e,Iq hp]at this;exact this
 have hs:∀k:Int,0<=k->k<1000000->has u.set k=true:=fun k k0 k1=>by
  have:=BL.1 (hk k k0 k1) u hu
  rw[e,I0 hp]at this;unfold DA at this;rw[Ag]at this
  have:=this.2
  rw[show(⟨p,Rb k⟩:Sl).ver=Rb k from rfl,HU]at this;exact this
 have wS:E6 u.set:=Cs.canon (Fj hf) u hu;have aK:u.set=[(0,1000000)]:=by
  refine Il wS ⟨by decide,by decide,by decide,trivial⟩ fun k=>?_;rw[B5];constructor
  .intro h
   have:=Ng h
   unfold has;simp[BX,this.1,this.2]
  .intro h
   have:=Ng h
   exact hs k this.1 this.2
 have kH:G5 u=true:=by unfold G5;rw[ha,aK];rfl
 have hf2:Df t=some t:=hf;unfold Df at hf2;split at hf2
 .cases hf2
 .have e2:=Cq hf2;rw[<-e2]at hu
  have:=(By.1 hu).2
  rw[kH]at this;cases this
structure EY(x:List Rl)(dec:List Cd):Prop where
 cand:∀c∈dec,c.rel∈x/\c.rel.yanked=false/\c.place=plc c.rel.ver
 nodup:(dec.map fun c=>c.rel.path).Nodup
theorem EY.nil(x:List Rl):EY x []:=⟨fun _ h=>(by cases h),FD⟩
theorem Vy(h:Ub r):r.path≠mt:=fun e=>by
 have:=h.maj
 rw[e]at this;have h2:CG mt=none:=by decide
 rw[h2]at this;cases this
theorem Ub.set{r:Rl}(h:Ub r):∀q∈r.reqs,q.set≠[]/\E6 q.set:=L8 h.reqs
theorem Pa(dec:List Cd):(AU dec).map (·.path)=dec.map fun c=>c.rel.path:=by unfold AU;rw[Br];rfl
theorem Kd:∀{D:List Sl},(D.map (·.path)).Nodup->∀{y:Sl},y∈D->B2 D y.path=some y
 | [],_,y,h=>by cases h
 |z::D,hn,y,h=>by
  simp only[AL,Dk]at hn;unfold B2;rw[Fg];rcases AC.1 h with rfl | h
  .rw[Ar rfl]
  .have:z.path≠y.path:=fun e=>hn.1 (Ai.2 ⟨y,h,e.symm⟩)
   rw[Av this];exact Kd hn.2 h
theorem EY.find(h:EY x dec)(hc:c∈dec):B2 (AU dec) c.rel.path=some (Vc c):=
 Kd (by rw[Pa];exact h.nodup) (y:=Vc c) (Ai.2 ⟨c,hc,rfl⟩)
theorem EY.valid(hx:A6 x=0)(h:EY x dec):GD (AU dec):=fun y hy=>by
 obtain⟨c,hc,rfl⟩:=Ai.1 hy;exact((CC hx).1 _ (h.cand c hc).1).val
theorem EY.snoc(h:EY x dec)(hc:c.rel∈x/\c.rel.yanked=false/\c.place=plc c.rel.ver)(hd:DQ dec c.rel.path=false):EY x (dec++[c]):=by
 refine⟨fun d hd=>?_,?_⟩
 .rcases AP.1 hd with hd | hd
  .exact h.cand d hd
  .rw[Aq.1 hd];exact hc
 .rw[As,FQ];refine⟨h.nodup,by simp,fun a ha b hb e=>?_⟩;obtain⟨d,pk,rfl⟩:=Ai.1 ha;simp only[AL,E7,Aq]at hb;unfold DQ at hd;rw[GM]at hd;exact hd d pk (by simpa using e.trans hb)
theorem Nq(h:n∈DN roots E):(∃k q,roots[k]?=some q/\n=⟨q,mt,0,(k:Nat)⟩)\/∃c∈E,∃k q,c.rel.reqs[k]?=some q/\n=⟨q,c.rel.path,c.place,(k:Nat)⟩:=by
 unfold DN at h;rcases AP.1 h with h | h
 .obtain⟨k,q,h1,h2⟩:=bx h;exact .inl ⟨k,q,h1,h2⟩
 .obtain⟨l,hl,hn⟩:=D3.1 h;obtain⟨c,hc,rfl⟩:=Ai.1 hl;obtain⟨k,q,h1,h2⟩:=bx hn;exact .inr ⟨c,hc,k,q,h1,h2⟩
theorem Pe(h:n∈DN roots dec):n∈DN roots (dec++[c]):=by
 unfold DN at *
 rw[As,Ci,<-BB];exact BD _ h
theorem NZ(h:n∈RQ c):n∈DN roots (dec++[c]):=by
 unfold DN;rw[As,Ci,<-BB];exact Bw _ (by simpa using h)
def Od(n:Nd):List Tm:=if n.path=mt then [DZ n.rq]else [⟨n.path,false,[(n.place,n.place+1)]⟩,DZ n.rq]
theorem Qt(n:Nd):JU n=RK (Od n):=by unfold JU Od Ks EG;split<;>rfl
theorem gM{s:Bx}(h:s≠[])(hc:E6 s):∃k,has s k=true:=by
 match s,h,hc with
 |x::r,_,hc=>
  have:=Fb.low hc x (Ab ..)
  refine⟨x.1,?_⟩;unfold has;have h1:BX x.1 x=true:=D4.2 ⟨Bn _,this.2.1⟩;simp only[Cj,h1,Bool.true_or,Bool.and_true,Ag,AD];omega
theorem SZ{o:Option Sl}(h:o=none\/∃y,o=some y/\Cz y.ver=true/\has q.set (place y.ver)=false):DA (DZ q) o=true:=by
 rcases h with rfl | ⟨y,rfl,hv,hq⟩
 .rfl
 .show(Cz y.ver&&has (EZ q.set) (place y.ver))=true
  have:=Kq hv
  rw[hv,F5,hq];unfold MN;simp[this.1,this.2]
theorem Vw{y:Sl}(hq:has q.set (place y.ver)=true):DA (DZ q) (some y)=false:=by
 show(Cz y.ver&&has (EZ q.set) (place y.ver))=false;rw[F5,hq];simp
structure xd(x:List Rl)(roots:List Rq)(S:List Sl)(n:Nd):Prop where
 inf:∀d,Ei x roots d (U8 n)=some (JU n)
 viol:Bo (JU n) S=true
 raw:∀S',GD S'->Bo (JU n) S'=Bo (Od n) S'
 form:L0 (JU n)
 inU:∀U:List ByteArray,(n.path≠mt->n.path∈U)->n.rq.path∈U->WG U (JU n)
 path:n.path≠mt->CZ S n.path=true
theorem TM(hx:A6 x=0)(hr:BK roots=0)(hE:EY x E)(hn:n∈DN roots E)(hv:B2 (AU E) n.rq.path=none\/∃y,B2 (AU E) n.rq.path=some y/\has n.rq.set (place y.ver)=false):xd x roots (AU E) n:=by
 have hV:=hE.valid hx;have mG:DA (DZ n.rq) (B2 (AU E) n.rq.path)=true:=SZ (hv.imp id fun⟨y,h1,h2⟩=>⟨y,h1,hV y (Kc h1),h2⟩)
 -- the raw list is Bo here,and not elsewhere
 have OX:n.rq.set≠[]/\E6 n.rq.set:=by
  rcases Nq hn with ⟨k,q,h1,rfl⟩ | ⟨c,hc,k,q,h1,rfl⟩
  .exact L8 hr q (Az h1)
  .exact((CC hx).1 _ (hE.cand c hc).1).set q (Az h1)
 have YW:Bo (Od n) (AU E)=true/\(n.path≠mt->CZ (AU E) n.path=true):=by
  rcases Nq hn with ⟨k,q,h1,rfl⟩ | ⟨c,hc,k,q,h1,rfl⟩
  .refine⟨?_,fun h=>absurd rfl h⟩;unfold Od;rw[Ao rfl,BL];intro u hu;rw[Aq.1 hu];exact mG
  .have DD:=Vy ((CC hx).1 _ (hE.cand c hc).1);refine⟨?_,fun _=>by rw[KO,hE.find hc];rfl⟩;unfold Od;rw[Aj DD,BL];intro u hu;rcases AC.1 hu with rfl | hu
   .show DA _ (B2 (AU E) c.rel.path)=true;rw[hE.find hc];show(Cz c.rel.ver&&has [(c.place,c.place+1)] (place c.rel.ver))=true;have GU:=(CC hx).1 _ (hE.cand c hc).1;have hp:=Kq GU.val;rw[GU.val,(hE.cand c hc).2.2,GU.plc];unfold has;simp[BX,hp.1,hp.2];omega
   .rw[Aq.1 hu];exact mG
 have AcY:∃S',GD S'/\Bo (Od n) S'=false:=by
  unfold Od;split
  .obtain⟨k,hk⟩:=gM OX.1 OX.2;have pn:=Ng hk;refine⟨[⟨n.rq.path,Rb k⟩],fun y hy=>by rw[Aq.1 hy];exact Fs pn,?_⟩;rw[AN];intro h
   have:=BL.1 h (DZ n.rq) (Aq.2 rfl)
   rw[show(DZ n.rq).path=n.rq.path from rfl,show B2 [(⟨n.rq.path,Rb k⟩:Sl)] n.rq.path=some ⟨n.rq.path,Rb k⟩ by unfold B2;simp,Vw (by rw[show(⟨n.rq.path,Rb k⟩:Sl).ver=Rb k from rfl,HU];exact hk)]at this;cases this
  .refine⟨[],fun y hy=>(by cases hy),?_⟩;rw[AN];intro h
   have:=BL.1 h _ (Ab ..)
   cases this
 obtain⟨YW,yK⟩:=YW;have DD:RK (Od n)≠[]:=by
  obtain⟨S',v',n'⟩:=AcY;have c1:=Ds (l:=Od n) hV;have c2:=Ds (l:=Od n) v';unfold RK;cases hc:Df (Od n)with
  |none=>rw[hc,YW]at c1;cases c1
  |some c=>
   rw[hc,n']at c2;intro e;have e:c=[]:=e;rw[e]at c2;cases c2
 have sW:∀S',GD S'->Bo (JU n) S'=Bo (Od n) S':=fun S' v=>by rw[Qt];exact RL v DD
 refine⟨fun d=>?_,by rw[sW _ hV];exact YW,sW,by rw[Qt];exact Ns _,fun U h1 h2=>?_,yK⟩
 .rcases Nq hn with ⟨k,q,h1,rfl⟩ | ⟨c,hc,k,q,h1,rfl⟩
  .show Ei x roots d (if(mt:ByteArray)=mt then⟨0,mt,0,(k:Nat),0,0⟩else _)=some (if(mt:ByteArray)=mt then Ks q else _);rw[Ao rfl,Ao rfl];show(if mt=mt/\(0:Int)=0/\(0:Int)=0/\(0:Int)=0 then(Ko roots (k:Nat)).map Ks else none)=some (Ks q);rw[Ao ⟨rfl,rfl,rfl,rfl⟩];unfold Ko;rw[Aj ch,Ch,h1];rfl
  .have GU:=(CC hx).1 _ (hE.cand c hc).1;have SF:=Vy GU;have Ad9:QM x c.rel.path c.place=some c.rel:=by
    unfold QM;cases hf:x.find? fun r=>decide (r.path=c.rel.path)&&decide (plc r.ver=c.place)with
    |none=>
     rw[DU]at hf;exact absurd (by simp[(hE.cand c hc).2.2]) (hf c.rel (hE.cand c hc).1)
    |some r=>
     have h2:=DP hf;simp only[Ag,AD]at h2;have mI:=BF hf;have Ad3:=(CC hx).1 r mI;rw[Zh (CC hx) mI (hE.cand c hc).1 h2.1 (by rw[<-Ad3.plc,h2.2,(hE.cand c hc).2.2,GU.plc])]
   have e1:U8 ⟨q,c.rel.path,c.place,(k:Nat)⟩=⟨1,c.rel.path,c.place,(k:Nat),0,0⟩:=by unfold U8;rw[Aj SF]
   have e2:JU ⟨q,c.rel.path,c.place,(k:Nat)⟩=EG c.rel.path c.place q:=by unfold JU;rw[Aj SF]
   rw[e1,e2];unfold Ei;rw[Aj (show ¬((1:Int)=0) by decide),Ao rfl,Ao ⟨rfl,rfl⟩];dsimp only;rw[Ad9];dsimp only;unfold Ko;rw[Aj ch,Ch,h1];dsimp only;unfold jx;rw[Aj];rw[Ht,<-e2,Qt];exact DD
 .rw[Qt];refine Vv fun u hu=>?_;unfold Od at hu;split at hu
  .rw[Aq.1 hu];exact h2
  .rename_i hm;rcases AC.1 hu with rfl | hu
   .exact h1 hm
   .rw[Aq.1 hu];exact h2
structure pG(D:List Sl)(U:List ByteArray)(p:ByteArray)(t:List Tm)(C:Int->Prop):Prop where
 form:L0 t
 inU:WG U t
 conc:Eb t p=true
 one:∃S,ZG D p S/\Bo t S=true
 cov:∀k:Int,0<=k->k<1000000->C k->Bo t (Lj D p (Rb k))=true
structure tx(D:List Sl)(U:List ByteArray)(p:ByteArray)(t:List Tm)(C:Int->Prop):Prop where
 form:L0 t
 inU:WG U t
 none_:Bo t D=true
 cov:∀k:Int,0<=k->k<1000000->C k->Bo t (Lj D p (Rb k))=true
theorem FO.forms(h:FO x roots s):∀k,L0 (EP s k):=fun k=>by
 unfold EP;rw[Ca];cases e:s.drv[k]? with
 |none=>exact Qm
 |some t=>exact Oi (fun _ h=>by cases h) h.der t (Az e)
theorem Xu{d:List (List Tm)}{k r:Nat}(hk:k<d.length)(hr:r<d.length)(h0:(B1 (d.getD k []) (d.getD r []) p).2=0) :
  Ei x roots d ⟨3,p,0,0,(k:Nat),(r:Nat)⟩=some (B1 (d.getD k []) (d.getD r []) p).1:=by
 have e:∀j:Nat,j<d.length->Ko d (j:Nat)=some (d.getD j []):=fun j hj=>by
  unfold Ko;rw[Aj ch,Ch,Ca,AB hj];rfl
 unfold Ei;rw[Aj (show ¬((3:Int)=0) by decide),Aj (show ¬((3:Int)=1) by decide),Aj (show ¬((3:Int)=2) by decide),Ao rfl,Ao ⟨rfl,rfl⟩];dsimp only;rw[e k hk,e r hr];dsimp only;rw[Ao h0]
theorem Pb{x:List Rl}{roots:List Rq}{D:List Sl}{U:List ByteArray}{p:ByteArray}(hD:GD D):∀(l:List (Nat×(Int->Prop))) {k:Nat} {s:SS} {C:Int->Prop},FO x roots s->k<s.drv.length->(∀y∈l,y.1<s.drv.length) ->
  (s.full=false->tx D U p (EP s k) C/\∀y∈l,pG D U p (EP s y.1) y.2) ->
  FO x roots (CF p (l.map (·.1)) k s).2/\Grow s (CF p (l.map (·.1)) k s).2/\(CF p (l.map (·.1)) k s).1<(CF p (l.map (·.1)) k s).2.drv.length /\
  ((CF p (l.map (·.1)) k s).2.full=false->∃C',tx D U p (EP (CF p (l.map (·.1)) k s).2 (CF p (l.map (·.1)) k s).1) C' /\
   (Eb (EP (CF p (l.map (·.1)) k s).2 (CF p (l.map (·.1)) k s).1) p=false\/∀j,C j\/(∃y∈l,y.2 j)->C' j))
 | [],k,s,C,hd,hk,_,hA=>⟨hd,.refl s,hk,fun hf=>⟨C,(hA hf).1,.inr fun j hj=>hj.elim id fun⟨y,hy,_⟩=>(by cases hy)⟩⟩
 |y::l,k,s,C,hd,hk,hl,hA=>by
  rw[AL]
  by_cases h1:s.full=true\/Eb (EP s k) p=false
  .have e:CF p (y.1::l.map (·.1)) k s=(k,s):=by unfold CF;rw[Ao h1]
   rw[e];refine⟨hd,.refl s,hk,fun hf=>⟨C,(hA hf).1,.inl (h1.resolve_left fun e=>?_)⟩⟩;have hf:s.full=false:=hf;rw[e]at hf;cases hf
  simp only[not_or,T2,Bool.not_eq_false]at h1;obtain⟨hf,Wb⟩:=h1;obtain⟨qn,hA2⟩:=hA hf;have hy:=hA2 y (Ab ..);have hi:¬(s.full=true\/Eb (EP s k) p=false):=by rw[hf,Wb];simp
  by_cases h2:y.1=k
  .have e:CF p (y.1::l.map (·.1)) k s=CF p (l.map (·.1)) k s:=by conv=>lhs;unfold CF;rw[Aj hi,Ao h2]
   rw[e];have hA' : tx D U p (EP s k) fun j=>C j\/y.2 j:=⟨qn.form,qn.inU,qn.none_,fun j j0 j1 hj=>hj.elim (qn.cov j j0 j1) fun h=>by rw[<-h2];exact hy.cov j j0 j1 h⟩;obtain⟨i1,i2,i3,i4⟩:=Pb hD l hd hk (fun z hz=>hl z (Ah _ hz)) (fun _=>⟨hA',fun z hz=>hA2 z (Ah _ hz)⟩);refine⟨i1,i2,i3,fun hf=>?_⟩;obtain⟨C',j1,j2⟩:=i4 hf;refine⟨C',j1,j2.imp id fun h j hj=>h j ?_⟩;rcases hj with hj | ⟨z,hz,hj⟩
   .exact .inl (.inl hj)
   .rcases AC.1 hz with rfl | hz
    .exact .inl (.inr hj)
    .exact .inr ⟨z,hz,hj⟩
  .obtain⟨S2,o2,v2⟩:=hy.one;obtain⟨r1,r2⟩:=Zf qn.form hy.form Wb hy.conc (.self hD) qn.none_ o2 v2;have e:CF p (y.1::l.map (·.1)) k s=CF p (l.map (·.1)) (Fc s ⟨3,p,0,0,k,y.1⟩ (B1 (EP s k) (EP s y.1) p).1).1 (Fc s ⟨3,p,0,0,k,y.1⟩ (B1 (EP s k) (EP s y.1) p).1).2:=by
    conv=>lhs;unfold CF;rw[Aj hi,Aj h2,Aj (fun h=>h r1)]
   rw[e];have hy1:=hl y (Ab ..);obtain⟨a1,a2,a3⟩:=Ly hd (Xu (x:=x) (roots:=roots) hk hy1 r1);have hg:=Lz s ⟨3,p,0,0,(k:Nat),(y.1:Nat)⟩ (B1 (EP s k) (EP s y.1) p).1;generalize Zx : Fc s ⟨3,p,0,0,(k:Nat),(y.1:Nat)⟩ (B1 (EP s k) (EP s y.1) p).1=s' at *
   have a3:s'.2.full=false->EP s'.2 s'.1=(B1 (EP s k) (EP s y.1) p).1:=a3;obtain⟨i1,i2,i3,i4⟩:=Pb hD (C:=fun j=>C j\/y.2 j) l a1 a2 (fun z hz=>BA (hl z (Ah _ hz)) hg.len) (fun kJ=>by
    refine⟨?_,fun z hz=>by rw[hg.at (hl z (Ah _ hz))];exact hA2 z (Ah _ hz)⟩;rw[a3 kJ];exact⟨OE _ _ _,Ta qn.inU hy.inU,r2 D (.self hD) (.inl qn.none_),fun j j0 j1 hj=>r2 _ (.ver hD (Fs ⟨j0,j1⟩)) (hj.imp (qn.cov j j0 j1) (hy.cov j j0 j1))⟩)
   refine⟨i1,hg.trans i2,i3,fun hf=>?_⟩;obtain⟨C',j1,j2⟩:=i4 hf;refine⟨C',j1,j2.imp id fun h j hj=>h j ?_⟩;rcases hj with hj | ⟨z,hz,hj⟩
   .exact .inl (.inl hj)
   .rcases AC.1 hz with rfl | hz
    .exact .inl (.inr hj)
    .exact .inr ⟨z,hz,hj⟩
def Jc(roots:List Rq)(dec:List Cd):Prop:=∀q∈IC roots dec,∀d∈dec,d.rel.path=q.path->has q.set d.place=true
theorem Jc.nil(roots:List Rq):Jc roots []:=fun _ _ d h=>by cases h
theorem dW(roots:List Rq)(dec:List Cd)(c:Cd):IC roots (dec++[c])=IC roots dec++c.rel.reqs:=by
 unfold IC;rw[As,Ci,BB];simp
theorem rv(c:Cd):(RQ c).map (·.rq)=c.rel.reqs:=TT (fun _ _=>rfl) _ _
theorem cM(h:Ey dec c=none):∀q∈c.rel.reqs,∀d∈dec++[c],d.rel.path=q.path->has q.set d.place=true:=fun q hq d hd e=>by
 rw[<-rv]at hq;obtain⟨n,hn,rfl⟩:=Ai.1 hq;unfold Ey at h;rw[DU]at h
 have:=h n hn
 unfold gi at this;rw[T2,GM]at this
 have:=this d hd
 rw[e]at this;simpa using this
theorem L9(h:Ey dec c=some n):n∈RQ c/\∃d∈dec++[c],d.rel.path=n.rq.path/\has n.rq.set d.place=false:=by
 unfold Ey at h;have h1:=DP h;refine⟨BF h,?_⟩;unfold gi at h1;rw[Bd]at h1;obtain⟨d,hd,e⟩:=h1;simp only[Ag,AD,CJ]at e;exact⟨d,hd,e⟩
theorem Jc.snoc(h:Jc roots dec)(hN:wD roots dec p needs)(hc:c.rel.path=p)(hn:∀n∈needs,has n.rq.set c.place=true)(hk:Ey dec c=none):Jc roots (dec++[c]):=by
 intro q hq d hd e;rw[dW]at hq;rcases AP.1 hq with hq | hq
 .rcases AP.1 hd with hd | hd
  .exact h q hq d hd e
  .rw[Aq.1 hd]at e⊢;rw[<-NY]at hq;obtain⟨n,aP,rfl⟩:=Ai.1 hq;exact hn n ((hN.mem n).2 ⟨aP,by rw[<-e,hc]⟩)
 .exact cM hk q hq d hd e
def Wy(y:Sl):List Sl->List Sl
 | []=>[y]
 |z::l=>if Ef y.path z.path then y::z::l else z::Wy y l
def D5:List Sl->List Sl
 | []=>[]
 |y::l=>Wy y (D5 l)
theorem U9{y z:Sl}:∀{l:List Sl},z∈Wy y l↔z=y\/z∈l
 | []=>by simp[Wy]
 |u::l=>by
  unfold Wy;split
  .simp
  .rw[AC,U9,AC];constructor
   .rintro(h | h | h)
    .exact .inr (.inl h)
    .exact .inl h
    .exact .inr (.inr h)
   .rintro(h | h | h)
    .exact .inr (.inl h)
    .exact .inl h
    .exact .inr (.inr h)
theorem GA{z:Sl}:∀{l:List Sl},z∈D5 l↔z∈l
 | []=>by simp[D5]
 |u::l=>by unfold D5;rw[U9,GA,AC]
theorem aV{y:Sl}:∀{l:List Sl},Yb l->(∀z∈l,z.path≠y.path)->Yb (Wy y l)
 | [],_,_=>by simp[Wy,Yb]
 |u::l,h,hn=>by
  obtain⟨h1,h2⟩:=BH.1 h;unfold Wy;split
  .rename_i hb;refine BH.2 ⟨fun z hz=>?_,h⟩;rcases AC.1 hz with rfl | hz
   .exact hb
   .exact D6 hb (h1 z hz)
  .rename_i hb;refine BH.2 ⟨fun z hz=>?_,aV h2 fun z hz=>hn z (Ah _ hz)⟩;rcases U9.1 hz with rfl | hz
   .cases e:Ef u.path z.path with
    |true=>rfl
    |false=>
     have hb:Ef z.path u.path=false:=by simpa using hb
     exact absurd (Ik e hb) (hn u (Ab ..))
   .exact h1 z hz
theorem LR:∀{l:List Sl},(l.map (·.path)).Nodup->Yb (D5 l)
 | [],_=>List.Pairwise.nil
 |y::l,h=>by
  simp only[AL,Dk]at h;exact aV (LR h.2) fun z hz e=>h.1 (Ai.2 ⟨z,GA.1 hz,e⟩)
theorem U6:∀{l:List Sl} {b:Option ByteArray},Yb l->(∀c,b=some c->∀y∈l,Ef c y.path=true)->U5 b l=true
 | [],_,_,_=>by unfold U5;rfl
 |y::l,b,h,hb=>by
  obtain⟨h1,h2⟩:=BH.1 h;unfold U5;cases b with
  |none=>simpa using U6 h2 fun c e z hz=>by cases e;exact h1 z hz
  |some c=>
   have:=hb c rfl y (Ab ..)
   simp only[this,E5];exact U6 h2 fun c e z hz=>by cases e;exact h1 z hz
theorem mR{l:List Sl}(h:Yb l):E3 l=true:=U6 h fun _ e=>by cases e
theorem Xk(hx:A6 x=0)(hr:r∈x):Dh x (Gn r)=some r:=by
 unfold Dh;rw[Aj (fun h=>h hx)];cases h:x.find? fun s=>decide (Gn s=Gn r)with
 |none=>
  rw[DU]at h;exact absurd B0 (h r hr)
 |some s=>
  have h1:=DP h;simp only[AD]at h1;rw[Vd (CC hx).2 (BF h) hr h1]
theorem EY.sorted(h:EY x dec):Yb (D5 (AU dec)):=LR (by rw[Pa];exact h.nodup)
theorem EY.findS(h:EY x dec)(hc:c∈dec):B2 (D5 (AU dec)) c.rel.path=some (Vc c):=
 On h.sorted (y:=Vc c) (GA.2 (Ai.2 ⟨c,hc,rfl⟩))
theorem m6(hx:A6 x=0)(h:EY x dec)(hs:Jc roots dec)(hl:LJ (IC roots dec) (AU dec)=none):wE x roots (D5 (AU dec)):=by
 have GE:∀q∈IC roots dec,∃y,B2 (D5 (AU dec)) q.path=some y/\has q.set (place y.ver)=true:=fun q hq=>by
  have:=dI hl q hq
  rw[Mg]at this;obtain⟨y,hy,e⟩:=this;obtain⟨d,hd,rfl⟩:=Ai.1 hy;have e:d.rel.path=q.path:=e;refine⟨Vc d,by rw[<-e];exact h.findS hd,?_⟩;have h1:=hs q hq d hd e;have GU:=(CC hx).1 _ (h.cand d hd).1;rw[(h.cand d hd).2.2,GU.plc]at h1;exact h1
 refine⟨hx,mR h.sorted,fun y hy=>?_,fun q hq=>GE q (BD _ hq),fun y hy r hr q hq=>?_⟩
 .obtain⟨d,hd,rfl⟩:=Ai.1 (GA.1 hy);exact⟨d.rel,Xk hx (h.cand d hd).1,(h.cand d hd).2.1⟩
 .obtain⟨d,hd,rfl⟩:=Ai.1 (GA.1 hy)
  have:Dh x (Vc d)=some d.rel:=Xk hx (h.cand d hd).1
  rw[this]at hr;cases hr;exact GE q (Bw _ (D3.2 ⟨_,Ai.2 ⟨d,hd,rfl⟩,hq⟩))
def jK(dec:List Cd)(needs:List Nd)(c:Cd):Bool:=(needs.all fun n=>has n.rq.set c.place)&&(Ey dec c).isNone
def Nl(x:List Rl)(roots:List Rq):Nat->List Cd->List (List Cd)
 |0,_=>[]
 |n+1,dec=>match(Hg roots dec).2 with
  | []=>[dec]
  |n0::l=>((CE x (Hg roots dec).1).map fun c=>if jK dec (n0::l) c then Nl x roots n (dec++[c])else []).flatten
structure Lf(x:List Rl)(roots:List Rq)(dec d:List Cd):Prop where
 pre:dec <+: d
 ok:EY x d
 sat:Jc roots d
 stop:LJ (IC roots d) (AU d)=none
theorem KK(h:c∈CE x p):c.rel.path=p/\(c.rel∈x/\c.rel.yanked=false/\c.place=plc c.rel.ver):=by
 obtain⟨r,h1,h2,h3,rfl⟩:=L5.1 h;exact⟨h2,h1,h3,rfl⟩
theorem QH:jK dec needs c=true↔(∀n∈needs,has n.rq.set c.place=true)/\Ey dec c=none:=by
 unfold jK;rw[Ag,AZ,Option.isNone_iff_eq_none]
theorem RG{x:List Rl}{roots:List Rq}:∀{n:Nat} {dec:List Cd},EY x dec->Jc roots dec->∀d∈Nl x roots n dec,Lf x roots dec d
 |0,_,_,_,d,hd=>by cases hd
 |n+1,dec,h,hs,d,hd=>by
  unfold Nl at hd;split at hd
  .rename_i e;rw[Aq.1 hd];exact⟨N9,h,hs,Vp.1 e⟩
  .rename_i n0 l e;have hN:=Ph e;obtain⟨L,hL,hd⟩:=D3.1 hd;obtain⟨c,hc,rfl⟩:=Ai.1 hL;split at hd
   .rename_i GU;obtain⟨h1,h2⟩:=QH.1 GU;obtain⟨c1,c2⟩:=KK hc;have jb:DQ dec c.rel.path=false:=by rw[c1];exact hN.undone
    have:=RG (n:=n) (h.snoc c2 jb) (hs.snoc hN c1 h1 h2) d hd
    exact⟨(Pz _ _).trans this.pre,this.ok,this.sat,this.stop⟩
   .cases hd
theorem Lf.sol(hx:A6 x=0)(h:Lf x roots dec d):wE x roots (D5 (AU d)):=m6 hx h.ok h.sat h.stop
theorem qZ(hx:A6 x=0)(hd:FO x roots s){k:Nat}(hk:k<s.drv.length)(he:Dg (EP s k) (AU dec)=true)(h:Lf x roots dec d):False:=by
 have hS:=h.sol hx;have hv:=YE (s:=D5 (AU d)) hS.inc (fun y hy=>GA.2 (by
  obtain⟨c,hc,rfl⟩:=Ai.1 hy;obtain⟨t,e⟩:=h.pre;exact Ai.2 ⟨c,by rw[<-e];exact BD _ hc,rfl⟩)) he
 have hn:=M3 hS (d:=[]) (fun _ h=>by cases h) hd.der (EP s k) (by
  unfold EP;rw[Ca,AB hk];exact Al hk)
 rw[hv]at hn;cases hn
theorem u9(h:A6 x=0):x.length<=256:=by
 unfold A6 at h;split at h
 .cases h
 .omega
theorem mr{l:List Rl}:(l.map fun r=>(plc r.ver,plc r.ver+1)).any (BX k)=true↔∃r∈l,plc r.ver=k:=by
 rw[Bd];constructor
 .rintro⟨y,hy,h⟩
  obtain⟨r,hr,rfl⟩:=Ai.1 hy
  have:=D4.1 h
  exact⟨r,hr,by have h1:=this.1;have h2:=this.2;dsimp only at h1 h2;omega⟩
 .rintro⟨r,hr,rfl⟩
  exact⟨_,Ai.2 ⟨r,hr,rfl⟩,D4.2 ⟨Bn _,by dsimp only;omega⟩⟩
theorem WT(hx:A6 x=0):has (Cn x p) k=true↔∃c∈CE x p,c.place=k:=by
 unfold Cn;rw[H3];unfold has Li;rw[Aj (fun h=>h hx)];simp only[Ag,AD];rw[mr];constructor
 .rintro⟨_,r,hr,rfl⟩
  simp only[By,AD,CJ]at hr;exact⟨⟨plc r.ver,r⟩,L5.2 ⟨r,hr.1.1,hr.1.2,hr.2,rfl⟩,rfl⟩
 .rintro⟨c,hc,rfl⟩
  obtain⟨r,h1,h2,h3,rfl⟩:=L5.1 hc;have GU:=(CC hx).1 r h1
  have:=Kq GU.val
  rw[<-GU.plc]at this;refine⟨⟨this.1,this.2⟩,r,?_,rfl⟩;simp only[By,AD,CJ];exact⟨⟨h1,h2⟩,h3⟩
theorem gU(hx:A6 x=0)(p:ByteArray):∃k:Int,0<=k/\k<1000000/\has (Cn x p) k=false:=by
 apply AJ;intro hn;have GE:∀k∈(List.range 257).map fun i:Nat=>(i:Int),k∈x.map fun r=>plc r.ver:=by
  intro k hk;obtain⟨i,hi,rfl⟩:=Ai.1 hk;have hi:=FC.1 hi;have hh:has (Cn x p) (i:Int)=true:=by
   cases e:has (Cn x p) (i:Int)with
   |true=>rfl
   |false=>exact absurd ⟨(i:Int),by omega,by omega,e⟩ hn
  obtain⟨c,hc,e⟩:=(WT hx).1 hh;obtain⟨r,h1,_,_,rfl⟩:=L5.1 hc;exact Ai.2 ⟨r,h1,e⟩
 have:=I7 (Lu.2 (List.nodup_range.imp fun h e=>h (Int.ofNat.inj e))) GE
 rw[Bb,Bb,Ls]at this
 have:=u9 hx
 omega
theorem Mj(dec:List Cd)(c:Cd):AU (dec++[c])=Lj (AU dec) c.rel.path c.rel.ver:=by unfold AU Lj;rw[As];rfl
theorem NO:Dg t S=true↔Bo t S=true/\∀u∈t,CZ S u.path=true:=by
 unfold Dg;rw[Ag,CJ,GM];simp
section
variable {x:List Rl}{roots:List Rq}{dec:List Cd}{p:ByteArray}{needs:List Nd}
abbrev dO(p:ByteArray)(dec:List Cd):List ByteArray:=p::(AU dec).map (·.path)
theorem qe{c:Cd}{t:List Tm}(hf:L0 t)(he:Dg t (AU (dec++[c]))=true):WG (dO c.rel.path dec) t:=by
 refine⟨Fj hf,fun u hu=>?_⟩
 have:=(NO.1 he).2 u hu
 rw[H2,Mj,As]at this;rcases AP.1 this with h | h
 .exact Ah _ h
 .rw[AL,E7,Aq]at h;rw[h];exact Ab ..
theorem lV(hx:A6 x=0)(hd:EY x dec){c:Cd}(hc:c.rel∈x){t:List Tm}(he:Dg t (AU (dec++[c]))=true)(hn:Eb t c.rel.path=false):Dg t (AU dec)=true:=by
 obtain⟨h1,h2⟩:=NO.1 he;have DD:=KL hn;rw[Mj]at h1 h2;refine NO.2 ⟨?_,fun u hu=>?_⟩
 .rw[LX (.self (hd.valid hx)) (.ver (hd.valid hx) ((CC hx).1 _ hc).val) DD];exact h1
 .have:=h2 u hu
  rw[UT,CO]at this;rcases this with h | h
  .exact h
  .rw[Mg]at h;obtain⟨y,hy,e⟩:=h;rw[Aq.1 hy]at e;exact absurd e.symm (DD u hu)
theorem kc(hx:A6 x=0)(hd:EY x dec){c:Cd}(hc:c.rel∈x/\c.rel.yanked=false/\c.place=plc c.rel.ver)(hu:DQ dec c.rel.path=false){t:List Tm}(hf:L0 t)(he:Dg t (AU (dec++[c]))=true)(hn:Eb t c.rel.path=true) :
  pG (AU dec) (dO c.rel.path dec) c.rel.path t fun k=>k=c.place:=by
 have GU:=(CC hx).1 _ hc.1;have hV:=hd.valid hx;have h1:=(NO.1 he).1;rw[Mj]at h1;refine⟨hf,qe hf he,hn,⟨_,.ver hV GU.val,h1⟩,fun k k0 k1 e=>?_⟩;subst e;rw[eI (by rw[Gm];exact hu) (Fs ⟨k0,k1⟩) GU.val (by rw[HU,hc.2.2,GU.plc])];exact h1
theorem QA(hx:A6 x=0)(hr:BK roots=0){E:List Cd}(hE:EY x E){n:Nd}(hn:n∈DN roots E)(hv:∃d∈E,d.rel.path=n.rq.path/\has n.rq.set d.place=false) :
  (∀d,Ei x roots d (U8 n)=some (JU n))/\Dg (JU n) (AU E)=true/\L0 (JU n):=by
 obtain⟨d,hd,e,hs⟩:=hv;have GU:=(CC hx).1 _ (hE.cand d hd).1;have hf:=hE.find hd;have hI:=TM hx hr hE hn (.inr ⟨Vc d,by rw[<-e];exact hf,by rw[show(Vc d).ver=d.rel.ver from rfl,<-GU.plc,<-(hE.cand d hd).2.2];exact hs⟩);refine⟨hI.inf,NO.2 ⟨hI.viol,fun u hu=>?_⟩,hI.form⟩
 have:=(hI.inU ((AU E).map (·.path)) (fun h=>H2.1 (hI.path h)) (H2.1 (by rw[KO,<-e,hf];rfl))).2 u hu
 exact H2.2 this
theorem jy(hx:A6 x=0)(hr:BK roots=0)(hd:EY x dec)(hN:wD roots dec p needs){c:Cd}(hc:c∈CE x p){n:Nd}(hn:n∈needs)(hs:has n.rq.set c.place=false):Eb (JU n) p=true:=by
 obtain⟨c1,c2⟩:=KK hc;have hu:DQ dec c.rel.path=false:=by rw[c1];exact hN.undone
 have hE:=hd.snoc c2 hu;obtain⟨kM,qw⟩:=(hN.mem n).1 hn;have GU:=(CC hx).1 _ c2.1;have hI:=TM hx hr hE (Pe kM) (.inr ⟨Vc c,by rw[qw,<-c1];exact hE.find B0,by rw[show(Vc c).ver=c.rel.ver from rfl,<-GU.plc,<-c2.2.2];exact hs⟩);cases sJ:Eb (JU n) p with
 |true=>rfl
 |false=>
  exfalso
  have OX:n.rq.set≠[]/\E6 n.rq.set:=by
   rcases Nq kM with ⟨k,q,h1,rfl⟩ | ⟨c,hc,k,q,h1,rfl⟩
   .exact L8 hr q (Az h1)
   .exact((CC hx).1 _ (hd.cand c hc).1).set q (Az h1)
  obtain⟨k,hk⟩:=gM OX.1 OX.2;have pn:=Ng hk;have hV:=hd.valid hx;have o1:ZG (AU dec) p (Lj (AU dec) p (Rb k)):=.ver hV (Fs pn);have o2:ZG (AU dec) p (AU (dec++[c])):=by rw[Mj,c1];exact .ver hV GU.val
  have h1:=LX o1 o2 (KL sJ);rw[hI.viol,hI.raw _ o1.val,BL]at h1
  have:=h1 (DZ n.rq) (by unfold Od;split<;>simp)
  rw[show(DZ n.rq).path=p from qw,I0 (by rw[Gm];exact hN.undone),Vw (by rw[show(⟨p,Rb k⟩:Sl).ver=Rb k from rfl,HU];exact hk)]at this;cases this
theorem jq(hx:A6 x=0)(hr:BK roots=0)(hd:EY x dec)(hN:wD roots dec p needs){n0:Nd}(h0:n0∈needs)(L:List (Nat×Cd))(hL:L.map (·.2)=CE x p)(hs:FO x roots s)(DE:∀y∈L,y.1<s.drv.length)(yO:s.full=false->∀y∈L,Dg (EP s y.1) (AU (dec++[y.2]))=true/\Eb (EP s y.1) p=true) :
  FO x roots (Eo x p n0 (L.map (·.1)) s).2/\Grow s (Eo x p n0 (L.map (·.1)) s).2/\(Eo x p n0 (L.map (·.1)) s).1<(Eo x p n0 (L.map (·.1)) s).2.drv.length /\
  ((Eo x p n0 (L.map (·.1)) s).2.full=false->Dg (EP (Eo x p n0 (L.map (·.1)) s).2 (Eo x p n0 (L.map (·.1)) s).1) (AU dec)=true):=by
 have hV:=hd.valid hx;have wX:CZ (AU dec) p=false:=by rw[Gm];exact hN.undone
 obtain⟨hm0,yJ⟩:=(hN.mem n0).1 h0;have hI:=TM hx hr hd hm0 (.inl (by rw[yJ];exact Iq wX));unfold Eo;obtain⟨a1,a2,a3⟩:=Ly hs (hI.inf s.drv);have ag:=Lz s (U8 n0) (JU n0);have a3:(BW s n0).2.full=false->EP (BW s n0).2 (BW s n0).1=JU n0:=a3
 change FO x roots (BW s n0).2 at a1
 change (BW s n0).1<(BW s n0).2.drv.length at a2
 change Grow s (BW s n0).2 at ag
 generalize BW s n0=s1 at *
 -- the incompatibility of the places that are not available
 obtain⟨u,u0,u1,hu⟩:=gU hx p;have YW:∀k:Int,0<=k->k<1000000->has (Cn x p) k=false->Bo [(⟨p,false,EZ (Cn x p)⟩:Tm)] (Lj (AU dec) p (Rb k))=true:=fun k k0 k1 hk=>by
  rw[BL];intro t ht;rw[Aq.1 ht];show DA _ (B2 (Lj (AU dec) p (Rb k)) p)=true;rw[I0 wX];show(Cz (Rb k)&&has (EZ (Cn x p)) (place (Rb k)))=true;rw[Fs ⟨k0,k1⟩,HU,F5,hk];unfold MN;simp[k0,k1]
 have sV:Bo [(⟨p,false,EZ (Cn x p)⟩:Tm)] (AU dec)=false:=by
  rw[AN];intro h
  have:=BL.1 h _ (Ab ..)
  rw[show(⟨p,false,EZ (Cn x p)⟩:Tm).path=p from rfl,Iq wX]at this;cases this
 have ou:ZG (AU dec) p (Lj (AU dec) p (Rb u)):=.ver hV (Fs ⟨u0,u1⟩);have DD:IM p (Cn x p)≠[]:=by
  have c1:=Ds (l:=[(⟨p,false,EZ (Cn x p)⟩:Tm)]) ou.val;have c2:=Ds (l:=[(⟨p,false,EZ (Cn x p)⟩:Tm)]) hV;rw[YW u u0 u1 hu]at c1;rw[sV]at c2;unfold IM RK;cases hc:Df [(⟨p,false,EZ (Cn x p)⟩:Tm)]with
  |none=>rw[hc]at c1;cases c1
  |some c=>
   rw[hc]at c2;intro e;have e:c=[]:=e;rw[e]at c2;cases c2
 have ME:∀S,GD S->Bo (IM p (Cn x p)) S=Bo [(⟨p,false,EZ (Cn x p)⟩:Tm)] S:=fun S v=>RL v DD;have yi:Eb (IM p (Cn x p)) p=true:=by
  cases h:Eb (IM p (Cn x p)) p with
  |true=>rfl
  |false=>
   have:=LX ou (.self hV) (KL h)
   rw[ME _ ou.val,ME _ hV,YW u u0 u1 hu,sV]at this;cases this
 have uJ:Ei x roots s1.2.drv ⟨2,p,0,0,0,0⟩=some (IM p (Cn x p)):=by
  unfold Ei;rw[Aj (show ¬((2:Int)=0) by decide),Aj (show ¬((2:Int)=1) by decide),Ao rfl,Ao ⟨rfl,rfl,rfl,rfl⟩];unfold jx;rw[Aj (by rw[Ht];exact DD)]
 obtain⟨b1,b2,b3⟩:=Ly a1 uJ;have bg:=Lz s1.2 ⟨2,p,0,0,0,0⟩ (IM p (Cn x p));have b3:(EV x p s1.2).2.full=false->EP (EV x p s1.2).2 (EV x p s1.2).1=IM p (Cn x p):=b3
 change FO x roots (EV x p s1.2).2 at b1
 change (EV x p s1.2).1<(EV x p s1.2).2.drv.length at b2
 change Grow s1.2 (EV x p s1.2).2 at bg
 generalize EV x p s1.2=s2 at *
 have yc:s2.2.full=false->s1.2.full=false/\s.full=false:=fun h=>by
  have h1:s1.2.full=false:=by
   cases e:s1.2.full with
   |false=>rfl
   |true=>rw[bg.full e]at h;cases h
  refine⟨h1,?_⟩;cases e:s.full with
  |false=>rfl
  |true=>rw[ag.full e]at h1;cases h1
 have main:=Pb (D:=AU dec) (U:=dO p dec) (p:=p) hV ((s2.1,fun k=>has (Cn x p) k=false)::L.map fun y=>(y.1,fun k=>k=y.2.place)) (C:=fun k=>has n0.rq.set k=false) b1 (BA a2 bg.len)
  (fun y hy=>by
   rcases AC.1 hy with rfl | hy
   .exact b2
   .obtain⟨z,hz,rfl⟩:=Ai.1 hy;exact BA (DE z hz) (ag.trans bg).len) (fun hf=>by
   obtain⟨f1,f0⟩:=yc hf;refine⟨?_,fun y hy=>?_⟩
   .rw[bg.at a2,a3 f1];refine⟨hI.form,hI.inU _ (fun h=>Ah _ (H2.1 (hI.path h))) (by rw[yJ];exact Ab ..),hI.viol,fun k k0 k1 hk=>?_⟩;have ok:ZG (AU dec) p (Lj (AU dec) p (Rb k)):=.ver hV (Fs ⟨k0,k1⟩);rw[hI.raw _ ok.val,BL];intro t ht;have Rz:=BL.1 ((hI.raw _ hV).symm.trans hI.viol) t ht;unfold Od at ht;have mG:DA (DZ n0.rq) (B2 (Lj (AU dec) p (Rb k)) (DZ n0.rq).path)=true:=by
     rw[show(DZ n0.rq).path=p from yJ,I0 wX];exact SZ (.inr ⟨_,rfl,Fs ⟨k0,k1⟩,by rw[show(⟨p,Rb k⟩:Sl).ver=Rb k from rfl,HU];exact hk⟩)
    split at ht
    .rw[Aq.1 ht];exact mG
    .rename_i hm;rcases AC.1 ht with rfl | ht
     .have DD:n0.path≠p:=fun e=>by
       have:=hI.path hm
       rw[e,wX]at this;cases this
      rw[show(⟨n0.path,false,[(n0.place,n0.place+1)]⟩:Tm).path=n0.path from rfl]at Rz⊢;rw[ok.same _ DD];exact Rz
     .rw[Aq.1 ht];exact mG
   .rcases AC.1 hy with rfl | hy
    .show pG _ _ p (EP s2.2 s2.1) _;rw[b3 hf];refine⟨Ns _,Vv (fun t ht=>by rw[Aq.1 ht];exact Ab ..),yi,⟨_,ou,by rw[ME _ ou.val];exact YW u u0 u1 hu⟩,fun k k0 k1 hk=>?_⟩;rw[ME _ (ZG.ver hV (Fs ⟨k0,k1⟩)).val];exact YW k k0 k1 hk
    .obtain⟨z,hz,rfl⟩:=Ai.1 hy;show pG _ _ p (EP s2.2 z.1) _;rw[(ag.trans bg).at (DE z hz)];obtain⟨e1,e2⟩:=yO f0 z hz;have hzc:z.2∈CE x p:=by rw[<-hL];exact Ai.2 ⟨z,hz,rfl⟩
     obtain⟨c1,c2⟩:=KK hzc
     have:=kc hx hd c2 (by rw[c1];exact hN.undone) (hs.forms z.1) e1 (by rw[c1];exact e2)
     rw[c1]at this;exact this)
 have AcT:((s2.1,fun k=>has (Cn x p) k=false)::L.map fun y=>(y.1,fun k=>k=y.2.place)).map (·.1)=s2.1::L.map (·.1):=by
  rw[AL,Br];rfl
 rw[AcT]at main;obtain⟨m1,m2,m3,m4⟩:=main;refine⟨m1,(ag.trans bg).trans m2,m3,fun hf=>?_⟩;obtain⟨C',q1,q2⟩:=m4 hf;have hnc:Eb (EP (CF p (s2.1::L.map (·.1)) s1.1 s2.2).2 (CF p (s2.1::L.map (·.1)) s1.1 s2.2).1) p=false:=by
  rcases q2 with q2 | q2
  .exact q2
  .refine nv wX q1.form q1.none_ fun k k0 k1=>q1.cov k k0 k1 (q2 k ?_);cases hn0:has n0.rq.set k with
   |false=>exact .inl rfl
   |true=>
    cases ha:has (Cn x p) k with
    |false=>exact .inr ⟨_,Ab ..,ha⟩
    |true=>
     obtain⟨c,hc,e⟩:=(WT hx).1 ha;rw[<-hL]at hc;obtain⟨z,hz,rfl⟩:=Ai.1 hc;exact .inr ⟨_,Ah _ (Ai.2 ⟨z,hz,rfl⟩),e.symm⟩
 refine NO.2 ⟨q1.none_,fun t ht=>?_⟩
 have:=q1.inU.2 t ht
 rcases AC.1 this with e | h
 .exact absurd e (KL hnc t ht)
 .exact H2.2 h
end
def HD(s:SS)(b:List Cd)(p:ByteArray)(needs:List Nd):List Cd->List Sk->Prop
 | [],sk=>sk=[]
 |c::cs,sk=>if(needs.all fun n=>has n.rq.set c.place)=true then ∃(k:Nat) (rest:List Sk),sk=⟨p,c.place,k⟩::rest/\(k<s.drv.length/\Dg (EP s k) (AU (b++[c]))=true)/\HD s b p needs cs rest
  else HD s b p needs cs sk
section
variable {s s' : SS}{b:List Cd}{p:ByteArray}{needs:List Nd}
theorem HD.out{c:Cd}(hc:¬(needs.all fun n=>has n.rq.set c.place)=true):∀{cs:List Cd} {sk:List Sk},HD s b p needs cs sk->HD s b p needs (cs++[c]) sk
 | [],sk,h=>by
  show(if _ then _ else _);rw[Aj hc];exact h
 |d::cs,sk,h=>by
  have h:if(needs.all fun n=>has n.rq.set d.place)=true then _ else _:=h
  show(if _ then _ else _)
  by_cases hd:(needs.all fun n=>has n.rq.set d.place)=true
  .rw[Ao hd]at h⊢;obtain⟨k,rest,h1,h2,h3⟩:=h;exact⟨k,rest,h1,h2,HD.out hc h3⟩
  .rw[Aj hd]at h⊢;exact HD.out hc h
theorem HD.add{c:Cd}(hc:(needs.all fun n=>has n.rq.set c.place)=true){k:Nat}(hk:k<s.drv.length/\Dg (EP s k) (AU (b++[c]))=true):∀{cs:List Cd} {sk:List Sk},HD s b p needs cs sk->HD s b p needs (cs++[c]) (sk++[⟨p,c.place,k⟩])
 | [],sk,h=>by
  have h:sk=[]:=h;subst h;show(if _ then _ else _);rw[Ao hc];exact⟨k,[],rfl,hk,rfl⟩
 |d::cs,sk,h=>by
  have h:if(needs.all fun n=>has n.rq.set d.place)=true then _ else _:=h
  show(if _ then _ else _)
  by_cases hd:(needs.all fun n=>has n.rq.set d.place)=true
  .rw[Ao hd]at h⊢;obtain⟨j,rest,rfl,h2,h3⟩:=h;exact⟨j,_,rfl,h2,HD.add hc hk h3⟩
  .rw[Aj hd]at h⊢;exact HD.add hc hk h
theorem HD.mono(hg:Grow s s'):∀{cs:List Cd} {sk:List Sk},HD s b p needs cs sk->HD s' b p needs cs sk
 | [],_,h=>h
 |d::cs,sk,h=>by
  have h:if(needs.all fun n=>has n.rq.set d.place)=true then _ else _:=h
  show(if _ then _ else _)
  by_cases hd:(needs.all fun n=>has n.rq.set d.place)=true
  .rw[Ao hd]at h⊢;obtain⟨j,rest,rfl,h2,h3⟩:=h;exact⟨j,rest,rfl,⟨BA h2.1 hg.len,by rw[hg.at h2.1];exact h2.2⟩,h3.mono hg⟩
  .rw[Aj hd]at h⊢;exact h.mono hg
end
structure tD(x:List Rl)(roots:List Rq)(s:SS)(b:List Cd)(c:Cd)(sk:List Sk)(p:ByteArray)(needs:List Nd)(pre post:List Cd):Prop where
 next:wD roots b p needs
 cands:CE x p=pre++c::post
 fit:∀n∈needs,has n.rq.set c.place=true
 noclash:Ey b c=none
 skips:HD s b p needs pre sk
def T3(x:List Rl)(roots:List Rq)(s:SS):List Cd->List Cd->List (List Sk)->Prop
 |b,[],[]=>LJ (IC roots b) (AU b)=none
 |b,c::t,sk::st=>(∃p needs pre post,tD x roots s b c sk p needs pre post)/\T3 x roots s (b++[c]) t st
 |_,_,_=>False
structure Yd(x:List Rl)(roots:List Rq)(ls:List (List Cd))(dec:List Cd)(s:SS)(st:List (List Sk))(o:K7):Prop where
 der:FO x roots o.ss
 grow:Grow s o.ss
 no:o.found=false->o.dec=dec/\o.stack=st/\(o.ss.full=false->o.res<o.ss.drv.length/\Dg (EP o.ss o.res) (AU dec)=true)
 yes:o.found=true->o.ss.full=false/\∃t sl,o.dec=dec++t/\o.stack=st++sl/\T3 x roots o.ss dec t sl/\ls.head?=some o.dec
section
variable {rec:List Cd->SS->List (List Sk)->K7}{x:List Rl}{roots:List Rq}{p:ByteArray}{needs:List Nd}{n0:Nd}{dec:List Cd}{st:List (List Sk)}
def KI(rec:List Cd->SS->List (List Sk)->K7)(x:List Rl)(p:ByteArray)(needs:List Nd)(n0:Nd)(dec:List Cd)(st:List (List Sk))(c:Cd)(cs:List Cd)(Gp:List Nat)(skips:List Sk)(k:Nat)(s:SS):K7:=
 if Eb (EP s k) p=false then⟨k,false,s,dec,st⟩else ED rec x p needs n0 dec st cs s (Gp++[k]) (skips++[⟨p,c.place,k⟩])
theorem GP(c:Cd)(cs:List Cd)(s:SS)(Gp:List Nat)(skips:List Sk):ED rec x p needs n0 dec st (c::cs) s Gp skips =
  if s.full=true then⟨0,false,s,dec,st⟩
  else match needs.find? fun n=>!has n.rq.set c.place with
   |some n=>ED rec x p needs n0 dec st cs (BW s n).2 (Gp++[(BW s n).1]) skips
   |none=>match P0 s.drv (AU (dec++[c]))with
    |some k=>KI rec x p needs n0 dec st c cs Gp skips k s
    |none=>match Ey dec c with
     |some n=>KI rec x p needs n0 dec st c cs Gp skips (BW s n).1 (BW s n).2
     |none=>if(rec (dec++[c]) s (st++[skips])).found=true then⟨0,true,(rec (dec++[c]) s (st++[skips])).ss,(rec (dec++[c]) s (st++[skips])).dec,(rec (dec++[c]) s (st++[skips])).stack⟩
      else if(rec (dec++[c]) s (st++[skips])).ss.full=true then⟨0,false,(rec (dec++[c]) s (st++[skips])).ss,dec,st⟩
      else KI rec x p needs n0 dec st c cs Gp skips (rec (dec++[c]) s (st++[skips])).res (rec (dec++[c]) s (st++[skips])).ss:=rfl
theorem fT{s:SS}(hs:FO x roots s){n:Nd}(h:∀d,Ei x roots d (U8 n)=some (JU n)):FO x roots (BW s n).2/\(BW s n).1<(BW s n).2.drv.length/\((BW s n).2.full=false->EP (BW s n).2 (BW s n).1=JU n)/\Grow s (BW s n).2:=by
 obtain⟨a1,a2,a3⟩:=Ly hs (h s.drv);exact⟨a1,a2,a3,Lz _ _ _⟩
theorem Yd.grown{ls:List (List Cd)}{s s' : SS}{o:K7}(hg:Grow s s')(h:Yd x roots ls dec s' st o):Yd x roots ls dec s st o:=⟨h.der,hg.trans h.grow,h.no,h.yes⟩
theorem WX(hx:A6 x=0)(hr:BK roots=0)(hd:EY x dec)(jg:Jc roots dec)(hN:wD roots dec p needs)(h0:n0∈needs){lv:List Cd->List (List Cd)}(hlv:∀c∈CE x p,jK dec needs c=true->∀d∈lv (dec++[c]),Lf x roots (dec++[c]) d)
  (jf:∀c∈CE x p,jK dec needs c=true->∀s st,FO x roots s->s.full=false->Yd x roots (lv (dec++[c])) (dec++[c]) s st (rec (dec++[c]) s st)) :
  ∀(cs:List Cd) {s:SS} (L:List (Nat×Cd)) {skips:List Sk},L.map (·.2)++cs=CE x p->FO x roots s->(∀y∈L,y.1<s.drv.length)->(s.full=false->(∀y∈L,Dg (EP s y.1) (AU (dec++[y.2]))=true/\Eb (EP s y.1) p=true)/\HD s dec p needs (L.map (·.2)) skips) ->
   Yd x roots (((CE x p).map fun c=>if jK dec needs c then lv (dec++[c])else []).flatten) dec s st (ED rec x p needs n0 dec st cs s (L.map (·.1)) skips)
 | [],s,L,skips,hL,hs,DE,yO=>by
  rw[BM]at hL;obtain⟨l1,l2,l3,l4⟩:=jq hx hr hd hN h0 L hL hs DE (fun hf=>(yO hf).1);exact⟨l1,l2,fun _=>⟨rfl,rfl,fun hf=>⟨l3,l4 hf⟩⟩,fun h=>(by cases h)⟩
 |c::cs,s,L,skips,hL,hs,DE,yO=>by
  rw[GP]
  by_cases hf:s.full=true
  .rw[Ao hf];exact⟨hs,.refl s,fun _=>⟨rfl,rfl,fun h=>by rw[show(⟨0,false,s,dec,st⟩:K7).ss=s from rfl,hf]at h;cases h⟩,fun h=>(by cases h)⟩
  rw[Aj hf];have hf:s.full=false:=by simpa using hf
  obtain⟨yP,uR⟩:=yO hf;have hc:c∈CE x p:=by rw[<-hL];simp
  obtain⟨c1,c2⟩:=KK hc;have hu:DQ dec c.rel.path=false:=by rw[c1];exact hN.undone
  have hE:=hd.snoc c2 hu
  -- on to the next candidate
  have go:∀(s' : SS) (k:Nat) (Zj : List Sk),FO x roots s'->Grow s s'->k<s'.drv.length->(s'.full=false->(Dg (EP s' k) (AU (dec++[c]))=true/\Eb (EP s' k) p=true)/\HD s' dec p needs (L.map (·.2)++[c]) Zj) ->
    Yd x roots (((CE x p).map fun c=>if jK dec needs c then lv (dec++[c])else []).flatten) dec s st (ED rec x p needs n0 dec st cs s' (L.map (·.1)++[k]) Zj):=fun s' k Zj Zx hg hk DD=>by
   have:=WX hx hr hd jg hN h0 hlv jf cs (s:=s') (L++[(k,c)]) (skips:=Zj) (by rw[As,BB];exact hL) Zx
    (fun y hy=>by
     rcases AP.1 hy with hy | hy
     .exact BA (DE y hy) hg.len
     .rw[Aq.1 hy];exact hk)
    (fun kJ=>by
     obtain⟨e1,e2⟩:=DD kJ;refine⟨fun y hy=>?_,by rw[As];exact e2⟩;rcases AP.1 hy with hy | hy
     .rw[hg.at (DE y hy)];exact yP y hy
     .rw[Aq.1 hy];exact e1)
   rw[As]at this;exact this.grown hg
  cases uE:needs.find? fun n=>!has n.rq.set c.place with
  |some n=>
   dsimp only;have kM:=BF uE;have qw:=DP uE;have qw:has n.rq.set c.place=false:=by simpa using qw
   obtain⟨hn3,hn4⟩:=(hN.mem n).1 kM;obtain⟨e1,e2,e3⟩:=QA hx hr hE (Pe hn3) ⟨c,by simp,by rw[c1,hn4],qw⟩;obtain⟨i1,i2,i3,i4⟩:=fT hs e1;refine go _ _ _ i1 i4 i2 fun kJ=>?_;rw[i3 kJ];exact⟨⟨e2,jy hx hr hd hN hc kM qw⟩,HD.out (by
    intro h;rw[AZ]at h;rw[h n kM]at qw;cases qw) (uR.mono i4)⟩
  |none=>
   dsimp only;have dk:∀n∈needs,has n.rq.set c.place=true:=fun n hn=>by
    rw[DU]at uE;simpa using uE n hn
   have GE:(needs.all fun n=>has n.rq.set c.place)=true:=by rw[AZ];exact dk
   have tK:∀(s' : SS) (k:Nat),FO x roots s'->Grow s s'->k<s'.drv.length->(s'.full=false->Dg (EP s' k) (AU (dec++[c]))=true) ->
     Yd x roots (((CE x p).map fun c=>if jK dec needs c then lv (dec++[c])else []).flatten) dec s st (KI rec x p needs n0 dec st c cs (L.map (·.1)) skips k s'):=fun s' k Zx hg hk he=>by
    unfold KI;cases sJ:Eb (EP s' k) p with
    |false=>
     rw[Ao rfl];exact⟨Zx,hg,fun _=>⟨rfl,rfl,fun kJ=>⟨hk,lV hx hd c2.1 (he kJ) (by rw[c1];exact sJ)⟩⟩,fun h=>(by cases h)⟩
    |true=>
     rw[Aj Cl];exact go _ _ _ Zx hg hk fun kJ=>⟨⟨he kJ,sJ⟩,HD.add GE ⟨hk,he kJ⟩ (uR.mono hg)⟩
   cases hen:P0 s.drv (AU (dec++[c]))with
   |some k=>
    dsimp only;obtain⟨k1,k2⟩:=LC hen;exact tK s k hs (.refl s) k1 fun _=>k2
   |none=>
    dsimp only;cases hcl:Ey dec c with
    |some n=>
     dsimp only;obtain⟨m1,m2⟩:=L9 hcl;obtain⟨e1,e2,e3⟩:=QA hx hr hE (NZ m1) m2;obtain⟨i1,i2,i3,i4⟩:=fT hs e1;exact tK _ _ i1 i4 i2 fun kJ=>by rw[i3 kJ];exact e2
    |none=>
     dsimp only;have GU:jK dec needs c=true:=QH.2 ⟨dk,hcl⟩;have hR:=jf c hc GU s (st++[skips]) hs hf;generalize rec (dec++[c]) s (st++[skips])=o at hR
     by_cases fQ:o.found=true
     .rw[Ao fQ];obtain⟨y1,t,sl,y2,y3,y4,y5⟩:=hR.yes fQ;refine⟨hR.der,hR.grow,fun h=>(by cases h),fun _=>⟨y1,c::t,skips::sl,by show o.dec=_;rw[y2];simp,by show o.stack=_;rw[y3];simp,⟨⟨p,needs,L.map (·.2),cs,hN,hL.symm,dk,hcl,uR.mono hR.grow⟩,y4⟩,?_⟩⟩;show _=some o.dec;rw[<-hL,As,Ci,AL,BC];have AcW:((L.map (·.2)).map fun c=>if jK dec needs c then lv (dec++[c])else []).flatten=[]:=by
       rw[List.flatten_eq_nil_iff];intro l hl;obtain⟨d,pk,rfl⟩:=Ai.1 hl;obtain⟨y,hy,rfl⟩:=Ai.1 pk;split
       .rename_i hoy;have hyc:y.2∈CE x p:=by rw[<-hL];exact BD _ pk
        refine MK.2 fun d AcC=>qZ hx hs (DE y hy) (yP y hy).1 (hlv y.2 hyc hoy d AcC)
       .rfl
      rw[AcW,FW,Ao GU,List.head?_append,y5];rfl
     .rw[Aj fQ];have fQ:o.found=false:=by simpa using fQ
      obtain⟨n1,n2,n3⟩:=hR.no fQ
      by_cases uG:o.ss.full=true
      .rw[Ao uG];exact⟨hR.der,hR.grow,fun _=>⟨rfl,rfl,fun h=>by rw[show(⟨0,false,o.ss,dec,st⟩:K7).ss=o.ss from rfl,uG]at h;cases h⟩,fun h=>(by cases h)⟩
      .rw[Aj uG];have uG:o.ss.full=false:=by simpa using uG
       exact tK _ _ hR.der hR.grow (n3 uG).1 fun _=>(n3 uG).2
end
theorem UP(h:c.rel∈x/\c.rel.yanked=false)(hu:DQ dec c.rel.path=false):SB x (dec++[c])<SB x dec:=by
 have key:∀l:List Rl,(l.filter fun r=>!r.yanked&&!DQ (dec++[c]) r.path).length<=(l.filter fun r=>!r.yanked&&!DQ dec r.path).length /\
   (c.rel∈l->(l.filter fun r=>!r.yanked&&!DQ (dec++[c]) r.path).length<(l.filter fun r=>!r.yanked&&!DQ dec r.path).length):=by
  intro l
  induction l with
  |nil=>exact⟨Ak _,fun h=>(by cases h)⟩
  |cons r l ih=>
   have mK:(!r.yanked&&!DQ (dec++[c]) r.path)=true->(!r.yanked&&!DQ dec r.path)=true:=fun e=>by
    simp only[Ag,CJ]at e⊢;refine⟨e.1,?_⟩
    have:=e.2
    unfold DQ at this⊢;rw[Ig,Bool.or_eq_false_iff]at this;exact this.1
   rw[El,El];refine⟨?_,fun hm=>?_⟩
   .by_cases e:(!r.yanked&&!DQ (dec++[c]) r.path)=true
    .rw[Ao e,Ao (mK e)];simp;exact ih.1
    .rw[Aj e];split
     .simp;have:=ih.1;omega
     .exact ih.1
   .rcases AC.1 hm with rfl | hm
    .have e1:¬(!c.rel.yanked&&!DQ (dec++[c]) c.rel.path)=true:=by
      have:DQ (dec++[c]) c.rel.path=true:=by unfold DQ;simp
      rw[this];simp
     have e2:(!c.rel.yanked&&!DQ dec c.rel.path)=true:=by rw[h.2,hu];rfl
     rw[Aj e1,Ao e2];simp;have:=ih.1;omega
    .have:=ih.2 hm
     by_cases e:(!r.yanked&&!DQ (dec++[c]) r.path)=true
     .rw[Ao e,Ao (mK e)];simp;exact this
     .rw[Aj e];split
      .simp;omega
      .exact this
 exact(key x).2 h.1
theorem RX{x:List Rl}{roots:List Rq}(hx:A6 x=0)(hr:BK roots=0):∀(n:Nat) {dec:List Cd} {s:SS} {st:List (List Sk)},EY x dec->Jc roots dec->FO x roots s->s.full=false->SB x dec<n ->
  Yd x roots (Nl x roots n dec) dec s st (DB x roots n dec s st)
 |0,_,_,_,_,_,_,_,h=>by omega
 |n+1,dec,s,st,hd,jg,hs,hf,hn=>by
  unfold DB Nl;cases e:(Hg roots dec).2 with
  |nil=>
   exact⟨hs,.refl s,fun h=>(by cases h),fun _=>⟨hf,[],[],by simp,by simp,Vp.1 e,rfl⟩⟩
  |cons n0 l=>
   have hN:=Ph e;have next:∀c∈CE x (Hg roots dec).1,jK dec (n0::l) c=true->EY x (dec++[c])/\Jc roots (dec++[c])/\SB x (dec++[c])<n:=fun c hc GU=>by
    obtain⟨c1,c2⟩:=KK hc;have hu:DQ dec c.rel.path=false:=by rw[c1];exact hN.undone
    obtain⟨k1,k2⟩:=QH.1 GU;exact⟨hd.snoc c2 hu,jg.snoc hN c1 k1 k2,by have:=UP (dec:=dec) ⟨c2.1,c2.2.1⟩ hu;omega⟩
   exact WX hx hr hd jg hN (Ab ..) (lv:=Nl x roots n) (fun c hc GU d pk=>RG (next c hc GU).1 (next c hc GU).2.1 d pk)
    (fun c hc GU s st hs hf=>RX hx hr n (next c hc GU).1 (next c hc GU).2.1 hs hf (next c hc GU).2.2) _ [] rfl hs (fun y hy=>by cases hy) (fun _=>⟨fun y hy=>(by cases hy),rfl⟩)
theorem ma(x:List Rl)(dec:List Cd):SB x dec<=x.length:=Bv _ _
theorem XU(hx:A6 x=0)(hr:BK roots=0):Yd x roots (Nl x roots (x.length+1) []) [] ss0 [] (EH x roots):=
 RX hx hr _ (.nil x) (.nil roots) (.nil x roots) rfl (by have:=ma x [];omega)
end Go.Eng
