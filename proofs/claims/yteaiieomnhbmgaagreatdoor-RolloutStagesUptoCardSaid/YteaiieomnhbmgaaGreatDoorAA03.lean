/- Lemmas 3. -/
import Derived.Test.YteaiieomnhbmgaaGreatDoorAA02
namespace Go.Eng
variable {p:ByteArray}{x:List Rl}{dec:List Cd}{roots:List Rq}{D:List Sl}{t:List Tm}{c:Cd}{n:Nd}{S:List Sl}{E:List Cd}{needs:List Nd}{d:List Cd}{k:Int}{v:Ver}{s:SS}{v':Ver}{r:Rl}{q:Rq}
theorem M4:∀{l:List Rq} {b:Option ByteArray},Gs b l=0->∀q∈l,q.set≠[]/\Fc q.set
 | [],_,_,q,hq=>by cases hq
 |r::l,b,h,q,hq=>by
  unfold Gs at h;split at h
  .rename_i e;rcases AA.1 hq with rfl | hq
   .unfold I5 at e
    by_cases h1:(CE q.path).isNone=true
    .rw[Al h1]at e;exact absurd e Cl
    rw[Aj h1]at e;cases hE:q.set.isEmpty with
    |true=>rw[hE]at e;simp at e
    |false=>
     cases hD:decide (q.set=canon q.set)with
     |false=>rw[hD]at e;simp at e
     |true=>
      have h3:q.set=canon q.set:=AU hD;exact⟨by simpa using hE,by rw[h3];exact Cz _⟩
   .exact M4 h q hq
  .rename_i e;exact absurd h e
theorem Md{l:List Rq}(h:BN l=0):∀q∈l,q.set≠[]/\Fc q.set:=by
 unfold BN at h;split at h
 .cases h
 .exact M4 h
abbrev Rf(k:Int):Ver:=⟨0,k / 1000,k % 1000⟩
theorem H1(k:Int):place (Rf k)=k:=by unfold place;show 1000*(k / 1000)+k % 1000=k;omega
theorem FA(h:0<=k/\k<1000000):Cw (Rf k)=true:=by
 unfold Cw okPart;simp only[Af];exact⟨⟨Ay ch,Ay ch⟩,Ay ch⟩
structure ZN(D:List Sl)(p:ByteArray)(S:List Sl):Prop where
 val:GK S
 same:∀q,q≠p->B1 S q=B1 D q
abbrev Ln(D:List Sl)(p:ByteArray)(v:Ver):List Sl:=D++[⟨p,v⟩]
theorem Lg(a b:List Sl)(p:ByteArray):B1 (a++b) p=(B1 a p).or (B1 b p):=by
 unfold B1;rw[List.find?_append]
theorem Iw{s:List Sl}(h:Db s p=false):B1 s p=none:=by
 rw[KW]at h;cases e:B1 s p with
 |none=>rfl
 |some y=>rw[e]at h;cases h
theorem ZN.self(h:GK D):ZN D p D:=⟨h,fun _ _=>rfl⟩
theorem ZN.ver(h:GK D)(hv:Cw v=true):ZN D p (Ln D p v):=by
 refine⟨fun y hy=>?_,fun q hq=>?_⟩
 .rcases AO.1 hy with hy | hy
  .exact h y hy
  .rw[Ar.1 hy];exact hv
 .rw[Lg]
  have:B1 [(⟨p,v⟩:Sl)] q=none:=by unfold B1;simp[Ne.symm hq]
  rw[this,Option.or_none]
theorem I2(hp:Db D p=false)(v:Ver):B1 (Ln D p v) p=some ⟨p,v⟩:=by
 rw[Lg,Iw hp];unfold B1;simp
theorem SK(hp:Db D p=false)(hv:Cw v=true)(hv' : Cw v'=true)(e:place v=place v')(q:ByteArray)(t:Tm) :
  DE t (B1 (Ln D p v) q)=DE t (B1 (Ln D p v') q):=by
 by_cases hq:q=p
 .subst hq;rw[I2 hp,I2 hp];show(Cw v&&has t.set (place v))=(Cw v'&&has t.set (place v'));rw[hv,hv',e]
 .have h1:∀w:Ver,B1 (Ln D p w) q=B1 D q:=fun w=>by
   rw[Lg]
   have:B1 [(⟨p,w⟩:Sl)] q=none:=by unfold B1;simp[Ne.symm hq]
   rw[this,Option.or_none]
  rw[h1,h1]
theorem eU(hp:Db D p=false)(hv:Cw v=true)(hv' : Cw v'=true)(e:place v=place v')(t:List Tm):Bo t (Ln D p v)=Bo t (Ln D p v'):=by
 rw[B3,BO,BO];exact⟨fun h u hu=>by rw[<-SK hp hv hv' e];exact h u hu,fun h u hu=>by rw[SK hp hv hv' e];exact h u hu⟩
theorem L3{S':List Sl}(h:ZN D p S)(h' : ZN D p S')(ht:∀u∈t,u.path≠p):Bo t S=Bo t S':=by
 rw[B3,BO,BO];exact⟨fun k u hu=>by rw[h'.same _ (ht u hu),<-h.same _ (ht u hu)];exact k u hu,fun k u hu=>by rw[h.same _ (ht u hu),<-h'.same _ (ht u hu)];exact k u hu⟩
theorem KR(h:Eh t p=false):∀u∈t,u.path≠p:=fun u hu e=>by
 unfold Eh at h;rw[GT]at h;exact h u hu (by simpa using e)
theorem Uz(h:Eh t p=true):∃u∈t,u.path=p:=by
 unfold Eh at h;rw[Be]at h;obtain⟨u,hu,e⟩:=h;exact⟨u,hu,by simpa using e⟩
theorem Wb(hf:L5 t)(hc:Eh t p=true):∃u r,FS t p=some (u,r)/\u.path=p/\∀v∈r,v.path≠p:=by
 obtain⟨u,hu,e⟩:=Uz hc;have hs:=Fr hf;have uz:=(F8 hs).1 hu;rw[e]at uz;refine⟨u,Gg t p,?_,e,fun v hv=>?_⟩
 .unfold FS;rw[show Dh t=some t from hf];dsimp only;rw[uz]
 .have:=(Bz.1 hv).2
  simpa using this
theorem Zl{b:List Tm}(TK:L5 t)(uy:L5 b)(hct:Eh t p=true)(hcb:Eh b p=true){S1 S2:List Sl}(h1:ZN D p S1)(v1:Bo t S1=true)(h2:ZN D p S2)(v2:Bo b S2=true) :
  (BZ t b p).2=0/\∀S,ZN D p S->Bo t S=true\/Bo b S=true->Bo (BZ t b p).1 S=true:=by
 obtain⟨u,r,e1,pu,nr⟩:=Wb TK hct;obtain⟨w,m,e2,pw,nm⟩:=Wb uy hcb;have key:∀S,ZN D p S->Bo t S=true\/Bo b S=true->Bo (r++m++[DD u w]) S=true:=fun S hS hv=>by
  have r1:Bo r S=true:=by
   rw[L3 hS h1 nr];rw[(Gf h1.val e1).1,Af]at v1;exact v1.2
  have m1:Bo m S=true:=by
   rw[L3 hS h2 nm];rw[(Gf h2.val e2).1,Af]at v2;exact v2.2
  rw[HP,HP,r1,m1];simp only[Fb];rw[BO];intro y hy;rw[Ar.1 hy,show(DD u w).path=p from pu,Ox,CN];rcases hv with hv | hv
  .rw[(Gf hS.val e1).1,Af]at hv;exact .inl hv.1
  .rw[(Gf hS.val e2).1,Af]at hv;exact .inr hv.1
 unfold BZ;rw[e1,e2];dsimp only;have c1:=Ds (l:=r++m++[DD u w]) h1.val;rw[key S1 h1 (.inl v1)]at c1;cases hc:Dh (r++m++[DD u w])with
 |none=>rw[hc]at c1;cases c1
 |some o=>
  dsimp only;refine⟨rfl,fun S hS hv=>?_⟩;have c2:=Ds (l:=r++m++[DD u w]) hS.val;rw[hc,key S hS hv]at c2;exact c2.symm
theorem ny(hp:Db D p=false)(hf:L5 t)(h0:Bo t D=true)(hk:∀k:Int,0<=k->k<1000000->Bo t (Ln D p (Rf k))=true):Eh t p=false:=by
 rw[AM];intro hc;obtain⟨u,hu,e⟩:=Uz hc;have ha:u.absent=true:=by
  have:=BO.1 h0 u hu
  rw[e,Iw hp]at this;exact this
 have hs:∀k:Int,0<=k->k<1000000->has u.set k=true:=fun k k0 k1=>by
  have:=BO.1 (hk k k0 k1) u hu
  rw[e,I2 hp]at this;unfold DE at this;rw[Af]at this
  have:=this.2
  rw[show(⟨p,Rf k⟩:Sl).ver=Rf k from rfl,H1]at this;exact this
 have wT:Fc u.set:=Cs.canon (Fr hf) u hu;have aR:u.set=[(0,1000000)]:=by
  refine Is wT ⟨by decide,by decide,by decide,trivial⟩ fun k=>?_;rw[B3];constructor
  .intro h
   have:=Nk h
   unfold has;simp[BY,this.1,this.2]
  .intro h
   have:=Nk h
   exact hs k this.1 this.2
 have kM:Hd u=true:=by unfold Hd;rw[ha,aR];rfl
 have hf2:Dh t=some t:=hf;unfold Dh at hf2;split at hf2
 .cases hf2
 .have e2:=CO hf2;rw[<-e2]at hu
  have:=(Bz.1 hu).2
  rw[kM]at this;cases this
structure E5(x:List Rl)(dec:List Cd):Prop where
 cand:∀c∈dec,c.rel∈x/\c.rel.yanked=false/\c.place=plc c.rel.ver
 nodup:(dec.map fun c=>c.rel.path).Nodup
theorem E5.nil(x:List Rl):E5 x []:=⟨fun _ h=>(by cases h),FJ⟩
theorem VG(h:Ub r):r.path≠mt:=fun e=>by
 have:=h.maj
 rw[e]at this;have h2:CE mt=none:=by decide
 rw[h2]at this;cases this
theorem Ub.set{r:Rl}(h:Ub r):∀q∈r.reqs,q.set≠[]/\Fc q.set:=Md h.reqs
theorem Pd(dec:List Cd):(AR dec).map (·.path)=dec.map fun c=>c.rel.path:=by unfold AR;rw[Bs];rfl
theorem Ki:∀{D:List Sl},(D.map (·.path)).Nodup->∀{y:Sl},y∈D->B1 D y.path=some y
 | [],_,y,h=>by cases h
 |z::D,hn,y,h=>by
  simp only[AK,Dm]at hn;unfold B1;rw[Fp];rcases AA.1 h with rfl | h
  .rw[Ay rfl]
  .have:z.path≠y.path:=fun e=>hn.1 (Ai.2 ⟨y,h,e.symm⟩)
   rw[AD this];exact Ki hn.2 h
theorem E5.find(h:E5 x dec)(hc:c∈dec):B1 (AR dec) c.rel.path=some (Vf c):=
 Ki (by rw[Pd];exact h.nodup) (y:=Vf c) (Ai.2 ⟨c,hc,rfl⟩)
theorem E5.valid(hx:A5 x=0)(h:E5 x dec):GK (AR dec):=fun y hy=>by
 obtain⟨c,hc,rfl⟩:=Ai.1 hy;exact((CA hx).1 _ (h.cand c hc).1).val
theorem E5.snoc(h:E5 x dec)(hc:c.rel∈x/\c.rel.yanked=false/\c.place=plc c.rel.ver)(hd:DU dec c.rel.path=false):E5 x (dec++[c]):=by
 refine⟨fun d hd=>?_,?_⟩
 .rcases AO.1 hd with hd | hd
  .exact h.cand d hd
  .rw[Ar.1 hd];exact hc
 .rw[As,FW];refine⟨h.nodup,by simp,fun a ha b hb e=>?_⟩;obtain⟨d,pq,rfl⟩:=Ai.1 ha;simp only[AK,Fe,Ar]at hb;unfold DU at hd;rw[GT]at hd;exact hd d pq (by simpa using e.trans hb)
theorem Nt(h:n∈DR roots E):(∃k q,roots[k]?=some q/\n=⟨q,mt,0,(k:Nat)⟩)\/∃c∈E,∃k q,c.rel.reqs[k]?=some q/\n=⟨q,c.rel.path,c.place,(k:Nat)⟩:=by
 unfold DR at h;rcases AO.1 h with h | h
 .obtain⟨k,q,h1,h2⟩:=bE h;exact .inl ⟨k,q,h1,h2⟩
 .obtain⟨l,hl,hn⟩:=D8.1 h;obtain⟨c,hc,rfl⟩:=Ai.1 hl;obtain⟨k,q,h1,h2⟩:=bE hn;exact .inr ⟨c,hc,k,q,h1,h2⟩
theorem Ph(h:n∈DR roots dec):n∈DR roots (dec++[c]):=by
 unfold DR at *
 rw[As,Ch,<-BA];exact BE _ h
theorem N0(h:n∈RW c):n∈DR roots (dec++[c]):=by
 unfold DR;rw[As,Ch,<-BA];exact Bx _ (by simpa using h)
def Of(n:Nd):List Tm:=if n.path=mt then [D5 n.rq]else [⟨n.path,false,[(n.place,n.place+1)]⟩,D5 n.rq]
theorem Qw(n:Nd):JY n=RQ (Of n):=by unfold JY Of Kw EL;split<;>rfl
theorem gK{s:By}(h:s≠[])(hc:Fc s):∃k,has s k=true:=by
 match s,h,hc with
 |x::r,_,hc=>
  have:=Fj.low hc x (Ab ..)
  refine⟨x.1,?_⟩;unfold has;have h1:BY x.1 x=true:=Eb.2 ⟨Bu _,this.2.1⟩;simp only[Cj,h1,Bool.true_or,Bool.and_true,Af,AC];omega
theorem Td{o:Option Sl}(h:o=none\/∃y,o=some y/\Cw y.ver=true/\has q.set (place y.ver)=false):DE (D5 q) o=true:=by
 rcases h with rfl | ⟨y,rfl,hv,hq⟩
 .rfl
 .show(Cw y.ver&&has (E6 q.set) (place y.ver))=true
  have:=Ku hv
  rw[hv,Ga,hq];unfold MT;simp[this.1,this.2]
theorem VD{y:Sl}(hq:has q.set (place y.ver)=true):DE (D5 q) (some y)=false:=by
 show(Cw y.ver&&has (E6 q.set) (place y.ver))=false;rw[Ga,hq];simp
structure xf(x:List Rl)(roots:List Rq)(S:List Sl)(n:Nd):Prop where
 inf:∀d,En x roots d (Vb n)=some (JY n)
 viol:Bo (JY n) S=true
 raw:∀S',GK S'->Bo (JY n) S'=Bo (Of n) S'
 form:L5 (JY n)
 inU:∀U:List ByteArray,(n.path≠mt->n.path∈U)->n.rq.path∈U->WS U (JY n)
 path:n.path≠mt->Db S n.path=true
theorem TM(hx:A5 x=0)(hr:BN roots=0)(hE:E5 x E)(hn:n∈DR roots E)(hv:B1 (AR E) n.rq.path=none\/∃y,B1 (AR E) n.rq.path=some y/\has n.rq.set (place y.ver)=false):xf x roots (AR E) n:=by
 have hV:=hE.valid hx;have mI:DE (D5 n.rq) (B1 (AR E) n.rq.path)=true:=Td (hv.imp id fun⟨y,h1,h2⟩=>⟨y,h1,hV y (Kh h1),h2⟩)
 -- the raw list is Bo here,and not elsewhere
 have O0:n.rq.set≠[]/\Fc n.rq.set:=by
  rcases Nt hn with ⟨k,q,h1,rfl⟩ | ⟨c,hc,k,q,h1,rfl⟩
  .exact Md hr q (Aw h1)
  .exact((CA hx).1 _ (hE.cand c hc).1).set q (Aw h1)
 have Y2:Bo (Of n) (AR E)=true/\(n.path≠mt->Db (AR E) n.path=true):=by
  rcases Nt hn with ⟨k,q,h1,rfl⟩ | ⟨c,hc,k,q,h1,rfl⟩
  .refine⟨?_,fun h=>absurd rfl h⟩;unfold Of;rw[Al rfl,BO];intro u hu;rw[Ar.1 hu];exact mI
  .have DH:=VG ((CA hx).1 _ (hE.cand c hc).1);refine⟨?_,fun _=>by rw[KW,hE.find hc];rfl⟩;unfold Of;rw[Aj DH,BO];intro u hu;rcases AA.1 hu with rfl | hu
   .show DE _ (B1 (AR E) c.rel.path)=true;rw[hE.find hc];show(Cw c.rel.ver&&has [(c.place,c.place+1)] (place c.rel.ver))=true;have GM:=(CA hx).1 _ (hE.cand c hc).1;have hp:=Ku GM.val;rw[GM.val,(hE.cand c hc).2.2,GM.plc];unfold has;simp[BY,hp.1,hp.2];omega
   .rw[Ar.1 hu];exact mI
 have Ad1:∃S',GK S'/\Bo (Of n) S'=false:=by
  unfold Of;split
  .obtain⟨k,hk⟩:=gK O0.1 O0.2;have px:=Nk hk;refine⟨[⟨n.rq.path,Rf k⟩],fun y hy=>by rw[Ar.1 hy];exact FA px,?_⟩;rw[AM];intro h
   have:=BO.1 h (D5 n.rq) (Ar.2 rfl)
   rw[show(D5 n.rq).path=n.rq.path from rfl,show B1 [(⟨n.rq.path,Rf k⟩:Sl)] n.rq.path=some ⟨n.rq.path,Rf k⟩ by unfold B1;simp,VD (by rw[show(⟨n.rq.path,Rf k⟩:Sl).ver=Rf k from rfl,H1];exact hk)]at this;cases this
  .refine⟨[],fun y hy=>(by cases hy),?_⟩;rw[AM];intro h
   have:=BO.1 h _ (Ab ..)
   cases this
 obtain⟨Y2,yP⟩:=Y2;have DH:RQ (Of n)≠[]:=by
  obtain⟨S',v',n'⟩:=Ad1;have c1:=Ds (l:=Of n) hV;have c2:=Ds (l:=Of n) v';unfold RQ;cases hc:Dh (Of n)with
  |none=>rw[hc,Y2]at c1;cases c1
  |some c=>
   rw[hc,n']at c2;intro e;have e:c=[]:=e;rw[e]at c2;cases c2
 have sQ:∀S',GK S'->Bo (JY n) S'=Bo (Of n) S':=fun S' v=>by rw[Qw];exact RR v DH
 refine⟨fun d=>?_,by rw[sQ _ hV];exact Y2,sQ,by rw[Qw];exact Nv _,fun U h1 h2=>?_,yP⟩
 .rcases Nt hn with ⟨k,q,h1,rfl⟩ | ⟨c,hc,k,q,h1,rfl⟩
  .show En x roots d (if(mt:ByteArray)=mt then⟨0,mt,0,(k:Nat),0,0⟩else _)=some (if(mt:ByteArray)=mt then Kw q else _);rw[Al rfl,Al rfl];show(if mt=mt/\(0:Int)=0/\(0:Int)=0/\(0:Int)=0 then(Ks roots (k:Nat)).map Kw else none)=some (Kw q);rw[Al ⟨rfl,rfl,rfl,rfl⟩];unfold Ks;rw[Aj ch,BL,h1];rfl
  .have GM:=(CA hx).1 _ (hE.cand c hc).1;have SL:=VG GM;have Adc:QR x c.rel.path c.place=some c.rel:=by
    unfold QR;cases hf:x.find? fun r=>decide (r.path=c.rel.path)&&decide (plc r.ver=c.place)with
    |none=>
     rw[DZ]at hf;exact absurd (by simp[(hE.cand c hc).2.2]) (hf c.rel (hE.cand c hc).1)
    |some r=>
     have h2:=DT hf;simp only[Af,AC]at h2;have mK:=BG hf;have Ad6:=(CA hx).1 r mK;rw[Zn (CA hx) mK (hE.cand c hc).1 h2.1 (by rw[<-Ad6.plc,h2.2,(hE.cand c hc).2.2,GM.plc])]
   have e1:Vb ⟨q,c.rel.path,c.place,(k:Nat)⟩=⟨1,c.rel.path,c.place,(k:Nat),0,0⟩:=by unfold Vb;rw[Aj SL]
   have e2:JY ⟨q,c.rel.path,c.place,(k:Nat)⟩=EL c.rel.path c.place q:=by unfold JY;rw[Aj SL]
   rw[e1,e2];unfold En;rw[Aj (show ¬((1:Int)=0) by decide),Al rfl,Al ⟨rfl,rfl⟩];dsimp only;rw[Adc];dsimp only;unfold Ks;rw[Aj ch,BL,h1];dsimp only;unfold jv;rw[Aj];rw[Hz,<-e2,Qw];exact DH
 .rw[Qw];refine VB fun u hu=>?_;unfold Of at hu;split at hu
  .rw[Ar.1 hu];exact h2
  .rename_i hm;rcases AA.1 hu with rfl | hu
   .exact h1 hm
   .rw[Ar.1 hu];exact h2
structure pL(D:List Sl)(U:List ByteArray)(p:ByteArray)(t:List Tm)(C:Int->Prop):Prop where
 form:L5 t
 inU:WS U t
 conc:Eh t p=true
 one:∃S,ZN D p S/\Bo t S=true
 cov:∀k:Int,0<=k->k<1000000->C k->Bo t (Ln D p (Rf k))=true
structure tt(D:List Sl)(U:List ByteArray)(p:ByteArray)(t:List Tm)(C:Int->Prop):Prop where
 form:L5 t
 inU:WS U t
 none_:Bo t D=true
 cov:∀k:Int,0<=k->k<1000000->C k->Bo t (Ln D p (Rf k))=true
theorem FU.forms(h:FU x roots s):∀k,L5 (EW s k):=fun k=>by
 unfold EW;rw[B9];cases e:s.drv[k]? with
 |none=>exact Qn
 |some t=>exact Om (fun _ h=>by cases h) h.der t (Aw e)
theorem XC{d:List (List Tm)}{k r:Nat}(hk:k<d.length)(hr:r<d.length)(h0:(BZ (d.getD k []) (d.getD r []) p).2=0) :
  En x roots d ⟨3,p,0,0,(k:Nat),(r:Nat)⟩=some (BZ (d.getD k []) (d.getD r []) p).1:=by
 have e:∀j:Nat,j<d.length->Ks d (j:Nat)=some (d.getD j []):=fun j hj=>by
  unfold Ks;rw[Aj ch,BL,B9,Az hj];rfl
 unfold En;rw[Aj (show ¬((3:Int)=0) by decide),Aj (show ¬((3:Int)=1) by decide),Aj (show ¬((3:Int)=2) by decide),Al rfl,Al ⟨rfl,rfl⟩];dsimp only;rw[e k hk,e r hr];dsimp only;rw[Al h0]
theorem Pe{x:List Rl}{roots:List Rq}{D:List Sl}{U:List ByteArray}{p:ByteArray}(hD:GK D):∀(l:List (Nat×(Int->Prop))) {k:Nat} {s:SS} {C:Int->Prop},FU x roots s->k<s.drv.length->(∀y∈l,y.1<s.drv.length) ->
  (s.full=false->tt D U p (EW s k) C/\∀y∈l,pL D U p (EW s y.1) y.2) ->
  FU x roots (CD p (l.map (·.1)) k s).2/\Grow s (CD p (l.map (·.1)) k s).2/\(CD p (l.map (·.1)) k s).1<(CD p (l.map (·.1)) k s).2.drv.length /\
  ((CD p (l.map (·.1)) k s).2.full=false->∃C',tt D U p (EW (CD p (l.map (·.1)) k s).2 (CD p (l.map (·.1)) k s).1) C' /\
   (Eh (EW (CD p (l.map (·.1)) k s).2 (CD p (l.map (·.1)) k s).1) p=false\/∀j,C j\/(∃y∈l,y.2 j)->C' j))
 | [],k,s,C,hd,hk,_,hA=>⟨hd,.refl s,hk,fun hf=>⟨C,(hA hf).1,.inr fun j hj=>hj.elim id fun⟨y,hy,_⟩=>(by cases hy)⟩⟩
 |y::l,k,s,C,hd,hk,hl,hA=>by
  rw[AK]
  by_cases h1:s.full=true\/Eh (EW s k) p=false
  .have e:CD p (y.1::l.map (·.1)) k s=(k,s):=by unfold CD;rw[Al h1]
   rw[e];refine⟨hd,.refl s,hk,fun hf=>⟨C,(hA hf).1,.inl (h1.resolve_left fun e=>?_)⟩⟩;have hf:s.full=false:=hf;rw[e]at hf;cases hf
  simp only[not_or,T2,Bool.not_eq_false]at h1;obtain⟨hf,Wl⟩:=h1;obtain⟨qu,hA2⟩:=hA hf;have hy:=hA2 y (Ab ..);have hi:¬(s.full=true\/Eh (EW s k) p=false):=by rw[hf,Wl];simp
  by_cases h2:y.1=k
  .have e:CD p (y.1::l.map (·.1)) k s=CD p (l.map (·.1)) k s:=by conv=>lhs;unfold CD;rw[Aj hi,Al h2]
   rw[e];have hA' : tt D U p (EW s k) fun j=>C j\/y.2 j:=⟨qu.form,qu.inU,qu.none_,fun j j0 j1 hj=>hj.elim (qu.cov j j0 j1) fun h=>by rw[<-h2];exact hy.cov j j0 j1 h⟩;obtain⟨i1,i2,i3,i4⟩:=Pe hD l hd hk (fun z hz=>hl z (Ah _ hz)) (fun _=>⟨hA',fun z hz=>hA2 z (Ah _ hz)⟩);refine⟨i1,i2,i3,fun hf=>?_⟩;obtain⟨C',j1,j2⟩:=i4 hf;refine⟨C',j1,j2.imp id fun h j hj=>h j ?_⟩;rcases hj with hj | ⟨z,hz,hj⟩
   .exact .inl (.inl hj)
   .rcases AA.1 hz with rfl | hz
    .exact .inl (.inr hj)
    .exact .inr ⟨z,hz,hj⟩
  .obtain⟨S2,o2,v2⟩:=hy.one;obtain⟨r1,r2⟩:=Zl qu.form hy.form Wl hy.conc (.self hD) qu.none_ o2 v2;have e:CD p (y.1::l.map (·.1)) k s=CD p (l.map (·.1)) (Fk s ⟨3,p,0,0,k,y.1⟩ (BZ (EW s k) (EW s y.1) p).1).1 (Fk s ⟨3,p,0,0,k,y.1⟩ (BZ (EW s k) (EW s y.1) p).1).2:=by
    conv=>lhs;unfold CD;rw[Aj hi,Aj h2,Aj (fun h=>h r1)]
   rw[e];have hy1:=hl y (Ab ..);obtain⟨a1,a2,a3⟩:=LC hd (XC (x:=x) (roots:=roots) hk hy1 r1);have hg:=LD s ⟨3,p,0,0,(k:Nat),(y.1:Nat)⟩ (BZ (EW s k) (EW s y.1) p).1;generalize ZE : Fk s ⟨3,p,0,0,(k:Nat),(y.1:Nat)⟩ (BZ (EW s k) (EW s y.1) p).1=s' at *
   have a3:s'.2.full=false->EW s'.2 s'.1=(BZ (EW s k) (EW s y.1) p).1:=a3;obtain⟨i1,i2,i3,i4⟩:=Pe hD (C:=fun j=>C j\/y.2 j) l a1 a2 (fun z hz=>BC (hl z (Ah _ hz)) hg.len) (fun kN=>by
    refine⟨?_,fun z hz=>by rw[hg.at (hl z (Ah _ hz))];exact hA2 z (Ah _ hz)⟩;rw[a3 kN];exact⟨OG _ _ _,Tg qu.inU hy.inU,r2 D (.self hD) (.inl qu.none_),fun j j0 j1 hj=>r2 _ (.ver hD (FA ⟨j0,j1⟩)) (hj.imp (qu.cov j j0 j1) (hy.cov j j0 j1))⟩)
   refine⟨i1,hg.trans i2,i3,fun hf=>?_⟩;obtain⟨C',j1,j2⟩:=i4 hf;refine⟨C',j1,j2.imp id fun h j hj=>h j ?_⟩;rcases hj with hj | ⟨z,hz,hj⟩
   .exact .inl (.inl hj)
   .rcases AA.1 hz with rfl | hz
    .exact .inl (.inr hj)
    .exact .inr ⟨z,hz,hj⟩
def Je(roots:List Rq)(dec:List Cd):Prop:=∀q∈IG roots dec,∀d∈dec,d.rel.path=q.path->has q.set d.place=true
theorem Je.nil(roots:List Rq):Je roots []:=fun _ _ d h=>by cases h
theorem eB(roots:List Rq)(dec:List Cd)(c:Cd):IG roots (dec++[c])=IG roots dec++c.rel.reqs:=by
 unfold IG;rw[As,Ch,BA];simp
theorem rA(c:Cd):(RW c).map (·.rq)=c.rel.reqs:=TT (fun _ _=>rfl) _ _
theorem cX(h:ED dec c=none):∀q∈c.rel.reqs,∀d∈dec++[c],d.rel.path=q.path->has q.set d.place=true:=fun q hq d hd e=>by
 rw[<-rA]at hq;obtain⟨n,hn,rfl⟩:=Ai.1 hq;unfold ED at h;rw[DZ]at h
 have:=h n hn
 unfold gg at this;rw[T2,GT]at this
 have:=this d hd
 rw[e]at this;simpa using this
theorem Me(h:ED dec c=some n):n∈RW c/\∃d∈dec++[c],d.rel.path=n.rq.path/\has n.rq.set d.place=false:=by
 unfold ED at h;have h1:=DT h;refine⟨BG h,?_⟩;unfold gg at h1;rw[Be]at h1;obtain⟨d,hd,e⟩:=h1;simp only[Af,AC,CH]at e;exact⟨d,hd,e⟩
theorem Je.snoc(h:Je roots dec)(hN:wG roots dec p needs)(hc:c.rel.path=p)(hn:∀n∈needs,has n.rq.set c.place=true)(hk:ED dec c=none):Je roots (dec++[c]):=by
 intro q hq d hd e;rw[eB]at hq;rcases AO.1 hq with hq | hq
 .rcases AO.1 hd with hd | hd
  .exact h q hq d hd e
  .rw[Ar.1 hd]at e⊢;rw[<-NZ]at hq;obtain⟨n,aV,rfl⟩:=Ai.1 hq;exact hn n ((hN.mem n).2 ⟨aV,by rw[<-e,hc]⟩)
 .exact cX hk q hq d hd e
def WJ(y:Sl):List Sl->List Sl
 | []=>[y]
 |z::l=>if Ek y.path z.path then y::z::l else z::WJ y l
def Ec:List Sl->List Sl
 | []=>[]
 |y::l=>WJ y (Ec l)
theorem Vc{y z:Sl}:∀{l:List Sl},z∈WJ y l↔z=y\/z∈l
 | []=>by simp[WJ]
 |u::l=>by
  unfold WJ;split
  .simp
  .rw[AA,Vc,AA];constructor
   .rintro(h | h | h)
    .exact .inr (.inl h)
    .exact .inl h
    .exact .inr (.inr h)
   .rintro(h | h | h)
    .exact .inr (.inl h)
    .exact .inl h
    .exact .inr (.inr h)
theorem GH{z:Sl}:∀{l:List Sl},z∈Ec l↔z∈l
 | []=>by simp[Ec]
 |u::l=>by unfold Ec;rw[Vc,GH,AA]
theorem bf{y:Sl}:∀{l:List Sl},Yk l->(∀z∈l,z.path≠y.path)->Yk (WJ y l)
 | [],_,_=>by simp[WJ,Yk]
 |u::l,h,hn=>by
  obtain⟨h1,h2⟩:=BR.1 h;unfold WJ;split
  .rename_i hb;refine BR.2 ⟨fun z hz=>?_,h⟩;rcases AA.1 hz with rfl | hz
   .exact hb
   .exact Ed hb (h1 z hz)
  .rename_i hb;refine BR.2 ⟨fun z hz=>?_,bf h2 fun z hz=>hn z (Ah _ hz)⟩;rcases Vc.1 hz with rfl | hz
   .cases e:Ek u.path z.path with
    |true=>rfl
    |false=>
     have hb:Ek z.path u.path=false:=by simpa using hb
     exact absurd (Ir e hb) (hn u (Ab ..))
   .exact h1 z hz
theorem LZ:∀{l:List Sl},(l.map (·.path)).Nodup->Yk (Ec l)
 | [],_=>List.Pairwise.nil
 |y::l,h=>by
  simp only[AK,Dm]at h;exact bf (LZ h.2) fun z hz e=>h.1 (Ai.2 ⟨z,GH.1 hz,e⟩)
theorem U9:∀{l:List Sl} {b:Option ByteArray},Yk l->(∀c,b=some c->∀y∈l,Ek c y.path=true)->U8 b l=true
 | [],_,_,_=>by unfold U8;rfl
 |y::l,b,h,hb=>by
  obtain⟨h1,h2⟩:=BR.1 h;unfold U8;cases b with
  |none=>simpa using U9 h2 fun c e z hz=>by cases e;exact h1 z hz
  |some c=>
   have:=hb c rfl y (Ab ..)
   simp only[this,Fb];exact U9 h2 fun c e z hz=>by cases e;exact h1 z hz
theorem mT{l:List Sl}(h:Yk l):E9 l=true:=U9 h fun _ e=>by cases e
theorem Xu(hx:A5 x=0)(hr:r∈x):Dj x (Gu r)=some r:=by
 unfold Dj;rw[Aj (fun h=>h hx)];cases h:x.find? fun s=>decide (Gu s=Gu r)with
 |none=>
  rw[DZ]at h;exact absurd B0 (h r hr)
 |some s=>
  have h1:=DT h;simp only[AC]at h1;rw[Vg (CA hx).2 (BG h) hr h1]
theorem E5.sorted(h:E5 x dec):Yk (Ec (AR dec)):=LZ (by rw[Pd];exact h.nodup)
theorem E5.findS(h:E5 x dec)(hc:c∈dec):B1 (Ec (AR dec)) c.rel.path=some (Vf c):=
 Ou h.sorted (y:=Vf c) (GH.2 (Ai.2 ⟨c,hc,rfl⟩))
theorem m8(hx:A5 x=0)(h:E5 x dec)(hs:Je roots dec)(hl:LQ (IG roots dec) (AR dec)=none):wH x roots (Ec (AR dec)):=by
 have GL:∀q∈IG roots dec,∃y,B1 (Ec (AR dec)) q.path=some y/\has q.set (place y.ver)=true:=fun q hq=>by
  have:=dU hl q hq
  rw[Ml]at this;obtain⟨y,hy,e⟩:=this;obtain⟨d,hd,rfl⟩:=Ai.1 hy;have e:d.rel.path=q.path:=e;refine⟨Vf d,by rw[<-e];exact h.findS hd,?_⟩;have h1:=hs q hq d hd e;have GM:=(CA hx).1 _ (h.cand d hd).1;rw[(h.cand d hd).2.2,GM.plc]at h1;exact h1
 refine⟨hx,mT h.sorted,fun y hy=>?_,fun q hq=>GL q (BE _ hq),fun y hy r hr q hq=>?_⟩
 .obtain⟨d,hd,rfl⟩:=Ai.1 (GH.1 hy);exact⟨d.rel,Xu hx (h.cand d hd).1,(h.cand d hd).2.1⟩
 .obtain⟨d,hd,rfl⟩:=Ai.1 (GH.1 hy)
  have:Dj x (Vf d)=some d.rel:=Xu hx (h.cand d hd).1
  rw[this]at hr;cases hr;exact GL q (Bx _ (D8.2 ⟨_,Ai.2 ⟨d,hd,rfl⟩,hq⟩))
def jI(dec:List Cd)(needs:List Nd)(c:Cd):Bool:=(needs.all fun n=>has n.rq.set c.place)&&(ED dec c).isNone
def Nq(x:List Rl)(roots:List Rq):Nat->List Cd->List (List Cd)
 |0,_=>[]
 |n+1,dec=>match(Ho roots dec).2 with
  | []=>[dec]
  |n0::l=>((CC x (Ho roots dec).1).map fun c=>if jI dec (n0::l) c then Nq x roots n (dec++[c])else []).flatten
structure Lf(x:List Rl)(roots:List Rq)(dec d:List Cd):Prop where
 pre:dec <+: d
 ok:E5 x d
 sat:Je roots d
 stop:LQ (IG roots d) (AR d)=none
theorem KQ(h:c∈CC x p):c.rel.path=p/\(c.rel∈x/\c.rel.yanked=false/\c.place=plc c.rel.ver):=by
 obtain⟨r,h1,h2,h3,rfl⟩:=Ma.1 h;exact⟨h2,h1,h3,rfl⟩
theorem QL:jI dec needs c=true↔(∀n∈needs,has n.rq.set c.place=true)/\ED dec c=none:=by
 unfold jI;rw[Af,Bd,Option.isNone_iff_eq_none]
theorem RL{x:List Rl}{roots:List Rq}:∀{n:Nat} {dec:List Cd},E5 x dec->Je roots dec->∀d∈Nq x roots n dec,Lf x roots dec d
 |0,_,_,_,d,hd=>by cases hd
 |n+1,dec,h,hs,d,hd=>by
  unfold Nq at hd;split at hd
  .rename_i e;rw[Ar.1 hd];exact⟨Oa,h,hs,Vt.1 e⟩
  .rename_i n0 l e;have hN:=Pk e;obtain⟨L,hL,hd⟩:=D8.1 hd;obtain⟨c,hc,rfl⟩:=Ai.1 hL;split at hd
   .rename_i GM;obtain⟨h1,h2⟩:=QL.1 GM;obtain⟨c1,c2⟩:=KQ hc;have iZ:DU dec c.rel.path=false:=by rw[c1];exact hN.undone
    have:=RL (n:=n) (h.snoc c2 iZ) (hs.snoc hN c1 h1 h2) d hd
    exact⟨(PD _ _).trans this.pre,this.ok,this.sat,this.stop⟩
   .cases hd
theorem Lf.sol(hx:A5 x=0)(h:Lf x roots dec d):wH x roots (Ec (AR d)):=m8 hx h.ok h.sat h.stop
theorem rb(hx:A5 x=0)(hd:FU x roots s){k:Nat}(hk:k<s.drv.length)(he:Di (EW s k) (AR dec)=true)(h:Lf x roots dec d):False:=by
 have hS:=h.sol hx;have hv:=YK (s:=Ec (AR d)) hS.inc (fun y hy=>GH.2 (by
  obtain⟨c,hc,rfl⟩:=Ai.1 hy;obtain⟨t,e⟩:=h.pre;exact Ai.2 ⟨c,by rw[<-e];exact BE _ hc,rfl⟩)) he
 have hn:=M8 hS (d:=[]) (fun _ h=>by cases h) hd.der (EW s k) (by
  unfold EW;rw[B9,Az hk];exact Aq hk)
 rw[hv]at hn;cases hn
theorem uY(h:A5 x=0):x.length<=256:=by
 unfold A5 at h;split at h
 .cases h
 .omega
theorem mu{l:List Rl}:(l.map fun r=>(plc r.ver,plc r.ver+1)).any (BY k)=true↔∃r∈l,plc r.ver=k:=by
 rw[Be];constructor
 .rintro⟨y,hy,h⟩
  obtain⟨r,hr,rfl⟩:=Ai.1 hy
  have:=Eb.1 h
  exact⟨r,hr,by have h1:=this.1;have h2:=this.2;dsimp only at h1 h2;omega⟩
 .rintro⟨r,hr,rfl⟩
  exact⟨_,Ai.2 ⟨r,hr,rfl⟩,Eb.2 ⟨Bu _,by dsimp only;omega⟩⟩
theorem Xd(hx:A5 x=0):has (Cn x p) k=true↔∃c∈CC x p,c.place=k:=by
 unfold Cn;rw[H9];unfold has Ll;rw[Aj (fun h=>h hx)];simp only[Af,AC];rw[mu];constructor
 .rintro⟨_,r,hr,rfl⟩
  simp only[Bz,AC,CH]at hr;exact⟨⟨plc r.ver,r⟩,Ma.2 ⟨r,hr.1.1,hr.1.2,hr.2,rfl⟩,rfl⟩
 .rintro⟨c,hc,rfl⟩
  obtain⟨r,h1,h2,h3,rfl⟩:=Ma.1 hc;have GM:=(CA hx).1 r h1
  have:=Ku GM.val
  rw[<-GM.plc]at this;refine⟨⟨this.1,this.2⟩,r,?_,rfl⟩;simp only[Bz,AC,CH];exact⟨⟨h1,h2⟩,h3⟩
theorem gR(hx:A5 x=0)(p:ByteArray):∃k:Int,0<=k/\k<1000000/\has (Cn x p) k=false:=by
 apply AJ;intro hn;have GL:∀k∈(List.range 257).map fun i:Nat=>(i:Int),k∈x.map fun r=>plc r.ver:=by
  intro k hk;obtain⟨i,hi,rfl⟩:=Ai.1 hk;have hi:=Gy.1 hi;have hh:has (Cn x p) (i:Int)=true:=by
   cases e:has (Cn x p) (i:Int)with
   |true=>rfl
   |false=>exact absurd ⟨(i:Int),by omega,by omega,e⟩ hn
  obtain⟨c,hc,e⟩:=(Xd hx).1 hh;obtain⟨r,h1,_,_,rfl⟩:=Ma.1 hc;exact Ai.2 ⟨r,h1,e⟩
 have:=Ja (Lx.2 (List.nodup_range.imp fun h e=>h (Int.ofNat.inj e))) GL
 rw[A8,A8,GV]at this
 have:=uY hx
 omega
theorem Mo(dec:List Cd)(c:Cd):AR (dec++[c])=Ln (AR dec) c.rel.path c.rel.ver:=by unfold AR Ln;rw[As];rfl
theorem NQ:Di t S=true↔Bo t S=true/\∀u∈t,Db S u.path=true:=by
 unfold Di;rw[Af,CH,GT];simp
section
variable {x:List Rl}{roots:List Rq}{dec:List Cd}{p:ByteArray}{needs:List Nd}
abbrev d4(p:ByteArray)(dec:List Cd):List ByteArray:=p::(AR dec).map (·.path)
theorem qk{c:Cd}{t:List Tm}(hf:L5 t)(he:Di t (AR (dec++[c]))=true):WS (d4 c.rel.path dec) t:=by
 refine⟨Fr hf,fun u hu=>?_⟩
 have:=(NQ.1 he).2 u hu
 rw[H8,Mo,As]at this;rcases AO.1 this with h | h
 .exact Ah _ h
 .rw[AK,Fe,Ar]at h;rw[h];exact Ab ..
theorem lW(hx:A5 x=0)(hd:E5 x dec){c:Cd}(hc:c.rel∈x){t:List Tm}(he:Di t (AR (dec++[c]))=true)(hn:Eh t c.rel.path=false):Di t (AR dec)=true:=by
 obtain⟨h1,h2⟩:=NQ.1 he;have DH:=KR hn;rw[Mo]at h1 h2;refine NQ.2 ⟨?_,fun u hu=>?_⟩
 .rw[L3 (.self (hd.valid hx)) (.ver (hd.valid hx) ((CA hx).1 _ hc).val) DH];exact h1
 .have:=h2 u hu
  rw[UV,CN]at this;rcases this with h | h
  .exact h
  .rw[Ml]at h;obtain⟨y,hy,e⟩:=h;rw[Ar.1 hy]at e;exact absurd e.symm (DH u hu)
theorem ka(hx:A5 x=0)(hd:E5 x dec){c:Cd}(hc:c.rel∈x/\c.rel.yanked=false/\c.place=plc c.rel.ver)(hu:DU dec c.rel.path=false){t:List Tm}(hf:L5 t)(he:Di t (AR (dec++[c]))=true)(hn:Eh t c.rel.path=true) :
  pL (AR dec) (d4 c.rel.path dec) c.rel.path t fun k=>k=c.place:=by
 have GM:=(CA hx).1 _ hc.1;have hV:=hd.valid hx;have h1:=(NQ.1 he).1;rw[Mo]at h1;refine⟨hf,qk hf he,hn,⟨_,.ver hV GM.val,h1⟩,fun k k0 k1 e=>?_⟩;subst e;rw[eU (by rw[Gt];exact hu) (FA ⟨k0,k1⟩) GM.val (by rw[H1,hc.2.2,GM.plc])];exact h1
theorem QD(hx:A5 x=0)(hr:BN roots=0){E:List Cd}(hE:E5 x E){n:Nd}(hn:n∈DR roots E)(hv:∃d∈E,d.rel.path=n.rq.path/\has n.rq.set d.place=false) :
  (∀d,En x roots d (Vb n)=some (JY n))/\Di (JY n) (AR E)=true/\L5 (JY n):=by
 obtain⟨d,hd,e,hs⟩:=hv;have GM:=(CA hx).1 _ (hE.cand d hd).1;have hf:=hE.find hd;have hI:=TM hx hr hE hn (.inr ⟨Vf d,by rw[<-e];exact hf,by rw[show(Vf d).ver=d.rel.ver from rfl,<-GM.plc,<-(hE.cand d hd).2.2];exact hs⟩);refine⟨hI.inf,NQ.2 ⟨hI.viol,fun u hu=>?_⟩,hI.form⟩
 have:=(hI.inU ((AR E).map (·.path)) (fun h=>H8.1 (hI.path h)) (H8.1 (by rw[KW,<-e,hf];rfl))).2 u hu
 exact H8.2 this
theorem jw(hx:A5 x=0)(hr:BN roots=0)(hd:E5 x dec)(hN:wG roots dec p needs){c:Cd}(hc:c∈CC x p){n:Nd}(hn:n∈needs)(hs:has n.rq.set c.place=false):Eh (JY n) p=true:=by
 obtain⟨c1,c2⟩:=KQ hc;have hu:DU dec c.rel.path=false:=by rw[c1];exact hN.undone
 have hE:=hd.snoc c2 hu;obtain⟨kP,qB⟩:=(hN.mem n).1 hn;have GM:=(CA hx).1 _ c2.1;have hI:=TM hx hr hE (Ph kP) (.inr ⟨Vf c,by rw[qB,<-c1];exact hE.find B0,by rw[show(Vf c).ver=c.rel.ver from rfl,<-GM.plc,<-c2.2.2];exact hs⟩);cases sF:Eh (JY n) p with
 |true=>rfl
 |false=>
  exfalso
  have O0:n.rq.set≠[]/\Fc n.rq.set:=by
   rcases Nt kP with ⟨k,q,h1,rfl⟩ | ⟨c,hc,k,q,h1,rfl⟩
   .exact Md hr q (Aw h1)
   .exact((CA hx).1 _ (hd.cand c hc).1).set q (Aw h1)
  obtain⟨k,hk⟩:=gK O0.1 O0.2;have px:=Nk hk;have hV:=hd.valid hx;have o1:ZN (AR dec) p (Ln (AR dec) p (Rf k)):=.ver hV (FA px);have o2:ZN (AR dec) p (AR (dec++[c])):=by rw[Mo,c1];exact .ver hV GM.val
  have h1:=L3 o1 o2 (KR sF);rw[hI.viol,hI.raw _ o1.val,BO]at h1
  have:=h1 (D5 n.rq) (by unfold Of;split<;>simp)
  rw[show(D5 n.rq).path=p from qB,I2 (by rw[Gt];exact hN.undone),VD (by rw[show(⟨p,Rf k⟩:Sl).ver=Rf k from rfl,H1];exact hk)]at this;cases this
theorem jo(hx:A5 x=0)(hr:BN roots=0)(hd:E5 x dec)(hN:wG roots dec p needs){n0:Nd}(h0:n0∈needs)(L:List (Nat×Cd))(hL:L.map (·.2)=CC x p)(hs:FU x roots s)(Du:∀y∈L,y.1<s.drv.length)(yU:s.full=false->∀y∈L,Di (EW s y.1) (AR (dec++[y.2]))=true/\Eh (EW s y.1) p=true) :
  FU x roots (Es x p n0 (L.map (·.1)) s).2/\Grow s (Es x p n0 (L.map (·.1)) s).2/\(Es x p n0 (L.map (·.1)) s).1<(Es x p n0 (L.map (·.1)) s).2.drv.length /\
  ((Es x p n0 (L.map (·.1)) s).2.full=false->Di (EW (Es x p n0 (L.map (·.1)) s).2 (Es x p n0 (L.map (·.1)) s).1) (AR dec)=true):=by
 have hV:=hd.valid hx;have wY:Db (AR dec) p=false:=by rw[Gt];exact hN.undone
 obtain⟨hm0,yO⟩:=(hN.mem n0).1 h0;have hI:=TM hx hr hd hm0 (.inl (by rw[yO];exact Iw wY));unfold Es;obtain⟨a1,a2,a3⟩:=LC hs (hI.inf s.drv);have ag:=LD s (Vb n0) (JY n0);have a3:(BX s n0).2.full=false->EW (BX s n0).2 (BX s n0).1=JY n0:=a3
 change FU x roots (BX s n0).2 at a1
 change (BX s n0).1<(BX s n0).2.drv.length at a2
 change Grow s (BX s n0).2 at ag
 generalize BX s n0=s1 at *
 -- the incompatibility of the places that are not available
 obtain⟨u,u0,u1,hu⟩:=gR hx p;have Y2:∀k:Int,0<=k->k<1000000->has (Cn x p) k=false->Bo [(⟨p,false,E6 (Cn x p)⟩:Tm)] (Ln (AR dec) p (Rf k))=true:=fun k k0 k1 hk=>by
  rw[BO];intro t ht;rw[Ar.1 ht];show DE _ (B1 (Ln (AR dec) p (Rf k)) p)=true;rw[I2 wY];show(Cw (Rf k)&&has (E6 (Cn x p)) (place (Rf k)))=true;rw[FA ⟨k0,k1⟩,H1,Ga,hk];unfold MT;simp[k0,k1]
 have sP:Bo [(⟨p,false,E6 (Cn x p)⟩:Tm)] (AR dec)=false:=by
  rw[AM];intro h
  have:=BO.1 h _ (Ab ..)
  rw[show(⟨p,false,E6 (Cn x p)⟩:Tm).path=p from rfl,Iw wY]at this;cases this
 have ou:ZN (AR dec) p (Ln (AR dec) p (Rf u)):=.ver hV (FA ⟨u0,u1⟩);have DH:IR p (Cn x p)≠[]:=by
  have c1:=Ds (l:=[(⟨p,false,E6 (Cn x p)⟩:Tm)]) ou.val;have c2:=Ds (l:=[(⟨p,false,E6 (Cn x p)⟩:Tm)]) hV;rw[Y2 u u0 u1 hu]at c1;rw[sP]at c2;unfold IR RQ;cases hc:Dh [(⟨p,false,E6 (Cn x p)⟩:Tm)]with
  |none=>rw[hc]at c1;cases c1
  |some c=>
   rw[hc]at c2;intro e;have e:c=[]:=e;rw[e]at c2;cases c2
 have ML:∀S,GK S->Bo (IR p (Cn x p)) S=Bo [(⟨p,false,E6 (Cn x p)⟩:Tm)] S:=fun S v=>RR v DH;have ym:Eh (IR p (Cn x p)) p=true:=by
  cases h:Eh (IR p (Cn x p)) p with
  |true=>rfl
  |false=>
   have:=L3 ou (.self hV) (KR h)
   rw[ML _ ou.val,ML _ hV,Y2 u u0 u1 hu,sP]at this;cases this
 have uD:En x roots s1.2.drv ⟨2,p,0,0,0,0⟩=some (IR p (Cn x p)):=by
  unfold En;rw[Aj (show ¬((2:Int)=0) by decide),Aj (show ¬((2:Int)=1) by decide),Al rfl,Al ⟨rfl,rfl,rfl,rfl⟩];unfold jv;rw[Aj (by rw[Hz];exact DH)]
 obtain⟨b1,b2,b3⟩:=LC a1 uD;have bg:=LD s1.2 ⟨2,p,0,0,0,0⟩ (IR p (Cn x p));have b3:(E1 x p s1.2).2.full=false->EW (E1 x p s1.2).2 (E1 x p s1.2).1=IR p (Cn x p):=b3
 change FU x roots (E1 x p s1.2).2 at b1
 change (E1 x p s1.2).1<(E1 x p s1.2).2.drv.length at b2
 change Grow s1.2 (E1 x p s1.2).2 at bg
 generalize E1 x p s1.2=s2 at *
 have ye:s2.2.full=false->s1.2.full=false/\s.full=false:=fun h=>by
  have h1:s1.2.full=false:=by
   cases e:s1.2.full with
   |false=>rfl
   |true=>rw[bg.full e]at h;cases h
  refine⟨h1,?_⟩;cases e:s.full with
  |false=>rfl
  |true=>rw[ag.full e]at h1;cases h1
 have main:=Pe (D:=AR dec) (U:=d4 p dec) (p:=p) hV ((s2.1,fun k=>has (Cn x p) k=false)::L.map fun y=>(y.1,fun k=>k=y.2.place)) (C:=fun k=>has n0.rq.set k=false) b1 (BC a2 bg.len)
  (fun y hy=>by
   rcases AA.1 hy with rfl | hy
   .exact b2
   .obtain⟨z,hz,rfl⟩:=Ai.1 hy;exact BC (Du z hz) (ag.trans bg).len) (fun hf=>by
   obtain⟨f1,f0⟩:=ye hf;refine⟨?_,fun y hy=>?_⟩
   .rw[bg.at a2,a3 f1];refine⟨hI.form,hI.inU _ (fun h=>Ah _ (H8.1 (hI.path h))) (by rw[yO];exact Ab ..),hI.viol,fun k k0 k1 hk=>?_⟩;have ok:ZN (AR dec) p (Ln (AR dec) p (Rf k)):=.ver hV (FA ⟨k0,k1⟩);rw[hI.raw _ ok.val,BO];intro t ht;have RE:=BO.1 ((hI.raw _ hV).symm.trans hI.viol) t ht;unfold Of at ht;have mI:DE (D5 n0.rq) (B1 (Ln (AR dec) p (Rf k)) (D5 n0.rq).path)=true:=by
     rw[show(D5 n0.rq).path=p from yO,I2 wY];exact Td (.inr ⟨_,rfl,FA ⟨k0,k1⟩,by rw[show(⟨p,Rf k⟩:Sl).ver=Rf k from rfl,H1];exact hk⟩)
    split at ht
    .rw[Ar.1 ht];exact mI
    .rename_i hm;rcases AA.1 ht with rfl | ht
     .have DH:n0.path≠p:=fun e=>by
       have:=hI.path hm
       rw[e,wY]at this;cases this
      rw[show(⟨n0.path,false,[(n0.place,n0.place+1)]⟩:Tm).path=n0.path from rfl]at RE⊢;rw[ok.same _ DH];exact RE
     .rw[Ar.1 ht];exact mI
   .rcases AA.1 hy with rfl | hy
    .show pL _ _ p (EW s2.2 s2.1) _;rw[b3 hf];refine⟨Nv _,VB (fun t ht=>by rw[Ar.1 ht];exact Ab ..),ym,⟨_,ou,by rw[ML _ ou.val];exact Y2 u u0 u1 hu⟩,fun k k0 k1 hk=>?_⟩;rw[ML _ (ZN.ver hV (FA ⟨k0,k1⟩)).val];exact Y2 k k0 k1 hk
    .obtain⟨z,hz,rfl⟩:=Ai.1 hy;show pL _ _ p (EW s2.2 z.1) _;rw[(ag.trans bg).at (Du z hz)];obtain⟨e1,e2⟩:=yU f0 z hz;have hzc:z.2∈CC x p:=by rw[<-hL];exact Ai.2 ⟨z,hz,rfl⟩
     obtain⟨c1,c2⟩:=KQ hzc
     have:=ka hx hd c2 (by rw[c1];exact hN.undone) (hs.forms z.1) e1 (by rw[c1];exact e2)
     rw[c1]at this;exact this)
 have AcW:((s2.1,fun k=>has (Cn x p) k=false)::L.map fun y=>(y.1,fun k=>k=y.2.place)).map (·.1)=s2.1::L.map (·.1):=by
  rw[AK,Bs];rfl
 rw[AcW]at main;obtain⟨m1,m2,m3,m4⟩:=main;refine⟨m1,(ag.trans bg).trans m2,m3,fun hf=>?_⟩;obtain⟨C',q1,q2⟩:=m4 hf;have hnc:Eh (EW (CD p (s2.1::L.map (·.1)) s1.1 s2.2).2 (CD p (s2.1::L.map (·.1)) s1.1 s2.2).1) p=false:=by
  rcases q2 with q2 | q2
  .exact q2
  .refine ny wY q1.form q1.none_ fun k k0 k1=>q1.cov k k0 k1 (q2 k ?_);cases hn0:has n0.rq.set k with
   |false=>exact .inl rfl
   |true=>
    cases ha:has (Cn x p) k with
    |false=>exact .inr ⟨_,Ab ..,ha⟩
    |true=>
     obtain⟨c,hc,e⟩:=(Xd hx).1 ha;rw[<-hL]at hc;obtain⟨z,hz,rfl⟩:=Ai.1 hc;exact .inr ⟨_,Ah _ (Ai.2 ⟨z,hz,rfl⟩),e.symm⟩
 refine NQ.2 ⟨q1.none_,fun t ht=>?_⟩
 have:=q1.inU.2 t ht
 rcases AA.1 this with e | h
 .exact absurd e (KR hnc t ht)
 .exact H8.2 h
end
def HJ(s:SS)(b:List Cd)(p:ByteArray)(needs:List Nd):List Cd->List Sk->Prop
 | [],sk=>sk=[]
 |c::cs,sk=>if(needs.all fun n=>has n.rq.set c.place)=true then ∃(k:Nat) (rest:List Sk),sk=⟨p,c.place,k⟩::rest/\(k<s.drv.length/\Di (EW s k) (AR (b++[c]))=true)/\HJ s b p needs cs rest
  else HJ s b p needs cs sk
section
variable {s s' : SS}{b:List Cd}{p:ByteArray}{needs:List Nd}
theorem HJ.out{c:Cd}(hc:¬(needs.all fun n=>has n.rq.set c.place)=true):∀{cs:List Cd} {sk:List Sk},HJ s b p needs cs sk->HJ s b p needs (cs++[c]) sk
 | [],sk,h=>by
  show(if _ then _ else _);rw[Aj hc];exact h
 |d::cs,sk,h=>by
  have h:if(needs.all fun n=>has n.rq.set d.place)=true then _ else _:=h
  show(if _ then _ else _)
  by_cases hd:(needs.all fun n=>has n.rq.set d.place)=true
  .rw[Al hd]at h⊢;obtain⟨k,rest,h1,h2,h3⟩:=h;exact⟨k,rest,h1,h2,HJ.out hc h3⟩
  .rw[Aj hd]at h⊢;exact HJ.out hc h
theorem HJ.add{c:Cd}(hc:(needs.all fun n=>has n.rq.set c.place)=true){k:Nat}(hk:k<s.drv.length/\Di (EW s k) (AR (b++[c]))=true):∀{cs:List Cd} {sk:List Sk},HJ s b p needs cs sk->HJ s b p needs (cs++[c]) (sk++[⟨p,c.place,k⟩])
 | [],sk,h=>by
  have h:sk=[]:=h;subst h;show(if _ then _ else _);rw[Al hc];exact⟨k,[],rfl,hk,rfl⟩
 |d::cs,sk,h=>by
  have h:if(needs.all fun n=>has n.rq.set d.place)=true then _ else _:=h
  show(if _ then _ else _)
  by_cases hd:(needs.all fun n=>has n.rq.set d.place)=true
  .rw[Al hd]at h⊢;obtain⟨j,rest,rfl,h2,h3⟩:=h;exact⟨j,_,rfl,h2,HJ.add hc hk h3⟩
  .rw[Aj hd]at h⊢;exact HJ.add hc hk h
theorem HJ.mono(hg:Grow s s'):∀{cs:List Cd} {sk:List Sk},HJ s b p needs cs sk->HJ s' b p needs cs sk
 | [],_,h=>h
 |d::cs,sk,h=>by
  have h:if(needs.all fun n=>has n.rq.set d.place)=true then _ else _:=h
  show(if _ then _ else _)
  by_cases hd:(needs.all fun n=>has n.rq.set d.place)=true
  .rw[Al hd]at h⊢;obtain⟨j,rest,rfl,h2,h3⟩:=h;exact⟨j,rest,rfl,⟨BC h2.1 hg.len,by rw[hg.at h2.1];exact h2.2⟩,h3.mono hg⟩
  .rw[Aj hd]at h⊢;exact h.mono hg
end
structure tx(x:List Rl)(roots:List Rq)(s:SS)(b:List Cd)(c:Cd)(sk:List Sk)(p:ByteArray)(needs:List Nd)(pre post:List Cd):Prop where
 next:wG roots b p needs
 cands:CC x p=pre++c::post
 fit:∀n∈needs,has n.rq.set c.place=true
 noclash:ED b c=none
 skips:HJ s b p needs pre sk
def T3(x:List Rl)(roots:List Rq)(s:SS):List Cd->List Cd->List (List Sk)->Prop
 |b,[],[]=>LQ (IG roots b) (AR b)=none
 |b,c::t,sk::st=>(∃p needs pre post,tx x roots s b c sk p needs pre post)/\T3 x roots s (b++[c]) t st
 |_,_,_=>False
structure Ym(x:List Rl)(roots:List Rq)(ls:List (List Cd))(dec:List Cd)(s:SS)(st:List (List Sk))(o:La):Prop where
 der:FU x roots o.ss
 grow:Grow s o.ss
 no:o.found=false->o.dec=dec/\o.stack=st/\(o.ss.full=false->o.res<o.ss.drv.length/\Di (EW o.ss o.res) (AR dec)=true)
 yes:o.found=true->o.ss.full=false/\∃t sl,o.dec=dec++t/\o.stack=st++sl/\T3 x roots o.ss dec t sl/\ls.head?=some o.dec
section
variable {rec:List Cd->SS->List (List Sk)->La}{x:List Rl}{roots:List Rq}{p:ByteArray}{needs:List Nd}{n0:Nd}{dec:List Cd}{st:List (List Sk)}
def KO(rec:List Cd->SS->List (List Sk)->La)(x:List Rl)(p:ByteArray)(needs:List Nd)(n0:Nd)(dec:List Cd)(st:List (List Sk))(c:Cd)(cs:List Cd)(Gv:List Nat)(skips:List Sk)(k:Nat)(s:SS):La:=
 if Eh (EW s k) p=false then⟨k,false,s,dec,st⟩else EJ rec x p needs n0 dec st cs s (Gv++[k]) (skips++[⟨p,c.place,k⟩])
theorem GX(c:Cd)(cs:List Cd)(s:SS)(Gv:List Nat)(skips:List Sk):EJ rec x p needs n0 dec st (c::cs) s Gv skips =
  if s.full=true then⟨0,false,s,dec,st⟩
  else match needs.find? fun n=>!has n.rq.set c.place with
   |some n=>EJ rec x p needs n0 dec st cs (BX s n).2 (Gv++[(BX s n).1]) skips
   |none=>match P0 s.drv (AR (dec++[c]))with
    |some k=>KO rec x p needs n0 dec st c cs Gv skips k s
    |none=>match ED dec c with
     |some n=>KO rec x p needs n0 dec st c cs Gv skips (BX s n).1 (BX s n).2
     |none=>if(rec (dec++[c]) s (st++[skips])).found=true then⟨0,true,(rec (dec++[c]) s (st++[skips])).ss,(rec (dec++[c]) s (st++[skips])).dec,(rec (dec++[c]) s (st++[skips])).stack⟩
      else if(rec (dec++[c]) s (st++[skips])).ss.full=true then⟨0,false,(rec (dec++[c]) s (st++[skips])).ss,dec,st⟩
      else KO rec x p needs n0 dec st c cs Gv skips (rec (dec++[c]) s (st++[skips])).res (rec (dec++[c]) s (st++[skips])).ss:=rfl
theorem fR{s:SS}(hs:FU x roots s){n:Nd}(h:∀d,En x roots d (Vb n)=some (JY n)):FU x roots (BX s n).2/\(BX s n).1<(BX s n).2.drv.length/\((BX s n).2.full=false->EW (BX s n).2 (BX s n).1=JY n)/\Grow s (BX s n).2:=by
 obtain⟨a1,a2,a3⟩:=LC hs (h s.drv);exact⟨a1,a2,a3,LD _ _ _⟩
theorem Ym.grown{ls:List (List Cd)}{s s' : SS}{o:La}(hg:Grow s s')(h:Ym x roots ls dec s' st o):Ym x roots ls dec s st o:=⟨h.der,hg.trans h.grow,h.no,h.yes⟩
theorem Xh(hx:A5 x=0)(hr:BN roots=0)(hd:E5 x dec)(jd:Je roots dec)(hN:wG roots dec p needs)(h0:n0∈needs){lv:List Cd->List (List Cd)}(hlv:∀c∈CC x p,jI dec needs c=true->∀d∈lv (dec++[c]),Lf x roots (dec++[c]) d)
  (jc:∀c∈CC x p,jI dec needs c=true->∀s st,FU x roots s->s.full=false->Ym x roots (lv (dec++[c])) (dec++[c]) s st (rec (dec++[c]) s st)) :
  ∀(cs:List Cd) {s:SS} (L:List (Nat×Cd)) {skips:List Sk},L.map (·.2)++cs=CC x p->FU x roots s->(∀y∈L,y.1<s.drv.length)->(s.full=false->(∀y∈L,Di (EW s y.1) (AR (dec++[y.2]))=true/\Eh (EW s y.1) p=true)/\HJ s dec p needs (L.map (·.2)) skips) ->
   Ym x roots (((CC x p).map fun c=>if jI dec needs c then lv (dec++[c])else []).flatten) dec s st (EJ rec x p needs n0 dec st cs s (L.map (·.1)) skips)
 | [],s,L,skips,hL,hs,Du,yU=>by
  rw[BP]at hL;obtain⟨l1,l2,l3,l4⟩:=jo hx hr hd hN h0 L hL hs Du (fun hf=>(yU hf).1);exact⟨l1,l2,fun _=>⟨rfl,rfl,fun hf=>⟨l3,l4 hf⟩⟩,fun h=>(by cases h)⟩
 |c::cs,s,L,skips,hL,hs,Du,yU=>by
  rw[GX]
  by_cases hf:s.full=true
  .rw[Al hf];exact⟨hs,.refl s,fun _=>⟨rfl,rfl,fun h=>by rw[show(⟨0,false,s,dec,st⟩:La).ss=s from rfl,hf]at h;cases h⟩,fun h=>(by cases h)⟩
  rw[Aj hf];have hf:s.full=false:=by simpa using hf
  obtain⟨yV,uL⟩:=yU hf;have hc:c∈CC x p:=by rw[<-hL];simp
  obtain⟨c1,c2⟩:=KQ hc;have hu:DU dec c.rel.path=false:=by rw[c1];exact hN.undone
  have hE:=hd.snoc c2 hu
  -- on to the next candidate
  have go:∀(s' : SS) (k:Nat) (Zp : List Sk),FU x roots s'->Grow s s'->k<s'.drv.length->(s'.full=false->(Di (EW s' k) (AR (dec++[c]))=true/\Eh (EW s' k) p=true)/\HJ s' dec p needs (L.map (·.2)++[c]) Zp) ->
    Ym x roots (((CC x p).map fun c=>if jI dec needs c then lv (dec++[c])else []).flatten) dec s st (EJ rec x p needs n0 dec st cs s' (L.map (·.1)++[k]) Zp):=fun s' k Zp ZE hg hk DH=>by
   have:=Xh hx hr hd jd hN h0 hlv jc cs (s:=s') (L++[(k,c)]) (skips:=Zp) (by rw[As,BA];exact hL) ZE
    (fun y hy=>by
     rcases AO.1 hy with hy | hy
     .exact BC (Du y hy) hg.len
     .rw[Ar.1 hy];exact hk)
    (fun kN=>by
     obtain⟨e1,e2⟩:=DH kN;refine⟨fun y hy=>?_,by rw[As];exact e2⟩;rcases AO.1 hy with hy | hy
     .rw[hg.at (Du y hy)];exact yV y hy
     .rw[Ar.1 hy];exact e1)
   rw[As]at this;exact this.grown hg
  cases uz:needs.find? fun n=>!has n.rq.set c.place with
  |some n=>
   dsimp only;have kP:=BG uz;have qB:=DT uz;have qB:has n.rq.set c.place=false:=by simpa using qB
   obtain⟨hn3,hn4⟩:=(hN.mem n).1 kP;obtain⟨e1,e2,e3⟩:=QD hx hr hE (Ph hn3) ⟨c,by simp,by rw[c1,hn4],qB⟩;obtain⟨i1,i2,i3,i4⟩:=fR hs e1;refine go _ _ _ i1 i4 i2 fun kN=>?_;rw[i3 kN];exact⟨⟨e2,jw hx hr hd hN hc kP qB⟩,HJ.out (by
    intro h;rw[Bd]at h;rw[h n kP]at qB;cases qB) (uL.mono i4)⟩
  |none=>
   dsimp only;have dB:∀n∈needs,has n.rq.set c.place=true:=fun n hn=>by
    rw[DZ]at uz;simpa using uz n hn
   have GL:(needs.all fun n=>has n.rq.set c.place)=true:=by rw[Bd];exact dB
   have tE:∀(s' : SS) (k:Nat),FU x roots s'->Grow s s'->k<s'.drv.length->(s'.full=false->Di (EW s' k) (AR (dec++[c]))=true) ->
     Ym x roots (((CC x p).map fun c=>if jI dec needs c then lv (dec++[c])else []).flatten) dec s st (KO rec x p needs n0 dec st c cs (L.map (·.1)) skips k s'):=fun s' k ZE hg hk he=>by
    unfold KO;cases sF:Eh (EW s' k) p with
    |false=>
     rw[Al rfl];exact⟨ZE,hg,fun _=>⟨rfl,rfl,fun kN=>⟨hk,lW hx hd c2.1 (he kN) (by rw[c1];exact sF)⟩⟩,fun h=>(by cases h)⟩
    |true=>
     rw[Aj Cl];exact go _ _ _ ZE hg hk fun kN=>⟨⟨he kN,sF⟩,HJ.add GL ⟨hk,he kN⟩ (uL.mono hg)⟩
   cases hen:P0 s.drv (AR (dec++[c]))with
   |some k=>
    dsimp only;obtain⟨k1,k2⟩:=LI hen;exact tE s k hs (.refl s) k1 fun _=>k2
   |none=>
    dsimp only;cases hcl:ED dec c with
    |some n=>
     dsimp only;obtain⟨m1,m2⟩:=Me hcl;obtain⟨e1,e2,e3⟩:=QD hx hr hE (N0 m1) m2;obtain⟨i1,i2,i3,i4⟩:=fR hs e1;exact tE _ _ i1 i4 i2 fun kN=>by rw[i3 kN];exact e2
    |none=>
     dsimp only;have GM:jI dec needs c=true:=QL.2 ⟨dB,hcl⟩;have hR:=jc c hc GM s (st++[skips]) hs hf;generalize rec (dec++[c]) s (st++[skips])=o at hR
     by_cases fO:o.found=true
     .rw[Al fO];obtain⟨y1,t,sl,y2,y3,y4,y5⟩:=hR.yes fO;refine⟨hR.der,hR.grow,fun h=>(by cases h),fun _=>⟨y1,c::t,skips::sl,by show o.dec=_;rw[y2];simp,by show o.stack=_;rw[y3];simp,⟨⟨p,needs,L.map (·.2),cs,hN,hL.symm,dB,hcl,uL.mono hR.grow⟩,y4⟩,?_⟩⟩;show _=some o.dec;rw[<-hL,As,Ch,AK,BD];have AcZ:((L.map (·.2)).map fun c=>if jI dec needs c then lv (dec++[c])else []).flatten=[]:=by
       rw[List.flatten_eq_nil_iff];intro l hl;obtain⟨d,pq,rfl⟩:=Ai.1 hl;obtain⟨y,hy,rfl⟩:=Ai.1 pq;split
       .rename_i hoy;have hyc:y.2∈CC x p:=by rw[<-hL];exact BE _ pq
        refine MQ.2 fun d AcJ=>rb hx hs (Du y hy) (yV y hy).1 (hlv y.2 hyc hoy d AcJ)
       .rfl
      rw[AcZ,F1,Al GM,List.head?_append,y5];rfl
     .rw[Aj fO];have fO:o.found=false:=by simpa using fO
      obtain⟨n1,n2,n3⟩:=hR.no fO
      by_cases uA:o.ss.full=true
      .rw[Al uA];exact⟨hR.der,hR.grow,fun _=>⟨rfl,rfl,fun h=>by rw[show(⟨0,false,o.ss,dec,st⟩:La).ss=o.ss from rfl,uA]at h;cases h⟩,fun h=>(by cases h)⟩
      .rw[Aj uA];have uA:o.ss.full=false:=by simpa using uA
       exact tE _ _ hR.der hR.grow (n3 uA).1 fun _=>(n3 uA).2
end
theorem UR(h:c.rel∈x/\c.rel.yanked=false)(hu:DU dec c.rel.path=false):SH x (dec++[c])<SH x dec:=by
 have key:∀l:List Rl,(l.filter fun r=>!r.yanked&&!DU (dec++[c]) r.path).length<=(l.filter fun r=>!r.yanked&&!DU dec r.path).length /\
   (c.rel∈l->(l.filter fun r=>!r.yanked&&!DU (dec++[c]) r.path).length<(l.filter fun r=>!r.yanked&&!DU dec r.path).length):=by
  intro l
  induction l with
  |nil=>exact⟨Ak _,fun h=>(by cases h)⟩
  |cons r l ih=>
   have mM:(!r.yanked&&!DU (dec++[c]) r.path)=true->(!r.yanked&&!DU dec r.path)=true:=fun e=>by
    simp only[Af,CH]at e⊢;refine⟨e.1,?_⟩
    have:=e.2
    unfold DU at this⊢;rw[Io,Bool.or_eq_false_iff]at this;exact this.1
   rw[Ep,Ep];refine⟨?_,fun hm=>?_⟩
   .by_cases e:(!r.yanked&&!DU (dec++[c]) r.path)=true
    .rw[Al e,Al (mM e)];simp;exact ih.1
    .rw[Aj e];split
     .simp;have:=ih.1;omega
     .exact ih.1
   .rcases AA.1 hm with rfl | hm
    .have e1:¬(!c.rel.yanked&&!DU (dec++[c]) c.rel.path)=true:=by
      have:DU (dec++[c]) c.rel.path=true:=by unfold DU;simp
      rw[this];simp
     have e2:(!c.rel.yanked&&!DU dec c.rel.path)=true:=by rw[h.2,hu];rfl
     rw[Aj e1,Al e2];simp;have:=ih.1;omega
    .have:=ih.2 hm
     by_cases e:(!r.yanked&&!DU (dec++[c]) r.path)=true
     .rw[Al e,Al (mM e)];simp;exact this
     .rw[Aj e];split
      .simp;omega
      .exact this
 exact(key x).2 h.1
theorem Sd{x:List Rl}{roots:List Rq}(hx:A5 x=0)(hr:BN roots=0):∀(n:Nat) {dec:List Cd} {s:SS} {st:List (List Sk)},E5 x dec->Je roots dec->FU x roots s->s.full=false->SH x dec<n ->
  Ym x roots (Nq x roots n dec) dec s st (DF x roots n dec s st)
 |0,_,_,_,_,_,_,_,h=>by omega
 |n+1,dec,s,st,hd,jd,hs,hf,hn=>by
  unfold DF Nq;cases e:(Ho roots dec).2 with
  |nil=>
   exact⟨hs,.refl s,fun h=>(by cases h),fun _=>⟨hf,[],[],by simp,by simp,Vt.1 e,rfl⟩⟩
  |cons n0 l=>
   have hN:=Pk e;have next:∀c∈CC x (Ho roots dec).1,jI dec (n0::l) c=true->E5 x (dec++[c])/\Je roots (dec++[c])/\SH x (dec++[c])<n:=fun c hc GM=>by
    obtain⟨c1,c2⟩:=KQ hc;have hu:DU dec c.rel.path=false:=by rw[c1];exact hN.undone
    obtain⟨k1,k2⟩:=QL.1 GM;exact⟨hd.snoc c2 hu,jd.snoc hN c1 k1 k2,by have:=UR (dec:=dec) ⟨c2.1,c2.2.1⟩ hu;omega⟩
   exact Xh hx hr hd jd hN (Ab ..) (lv:=Nq x roots n) (fun c hc GM d pq=>RL (next c hc GM).1 (next c hc GM).2.1 d pq)
    (fun c hc GM s st hs hf=>Sd hx hr n (next c hc GM).1 (next c hc GM).2.1 hs hf (next c hc GM).2.2) _ [] rfl hs (fun y hy=>by cases hy) (fun _=>⟨fun y hy=>(by cases hy),rfl⟩)
theorem mc(x:List Rl)(dec:List Cd):SH x dec<=x.length:=Bw _ _
theorem X3(hx:A5 x=0)(hr:BN roots=0):Ym x roots (Nq x roots (x.length+1) []) [] ss0 [] (EM x roots):=
 Sd hx hr _ (.nil x) (.nil roots) (.nil x roots) rfl (by have:=mc x [];omega)
end Go.Eng
