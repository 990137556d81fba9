/- Lemmas 3. -/
import Derived.Test.YteaiieomnhbmgaaGreatDoorFA02
namespace Go.Eng
variable {p:ByteArray}{x:List Rl}{dec:List Cd}{roots:List Rq}{D:List Sl}{t:List Tm}{c:Cd}{n:Nd}{S:List Sl}{E:List Cd}{needs:List Nd}{d:List Cd}{k:Int}{v:Ver}{s:SS}{v':Ver}{r:Rl}{q:Rq}
theorem Nj:∀{l:List Rq} {b:Option ByteArray},Gt b l=0->∀q∈l,q.set≠[]/\E5 q.set
 | [],_,_,q,hq=>by cases hq
 |r::l,b,h,q,hq=>by
  unfold Gt at h;split at h
  .rename_i e;rcases Ay.1 hq with rfl|hq
   .unfold Jg at e
    by_cases h1:(CD q.path).isNone=true
    .rw[Ap h1]at e;exact absurd e Cl
    rw[Aj h1]at e;cases hE:q.set.isEmpty with
    |true=>rw[hE]at e;simp at e
    |false=>
     cases hD:decide (q.set=canon q.set)with
     |false=>rw[hD]at e;simp at e
     |true=>
      have h3:q.set=canon q.set:=AP hD;exact⟨by simpa using hE,by rw[h3];exact CE _⟩
   .exact Nj h q hq
  .rename_i e;exact absurd h e
theorem Mn{l:List Rq}(h:BH l=0):∀q∈l,q.set≠[]/\E5 q.set:=by
 unfold BH at h;split at h
 .cases h
 .exact Nj h
abbrev Rm(k:Int):Ver:=⟨0,k / 1000,k % 1000⟩
theorem H6(k:Int):place (Rm k)=k:=by unfold place;show 1000*(k / 1000)+k % 1000=k;omega
theorem Fw(h:0<=k/\k<1000000):Ci (Rm k)=true:=by
 unfold Ci okPart;simp only[Af];exact⟨⟨Ak ch,Ak ch⟩,Ak ch⟩
structure ae(D:List Sl)(p:ByteArray)(S:List Sl):Prop where
 val:GH S
 same:∀q,q≠p->B5 S q=B5 D q
abbrev Lz(D:List Sl)(p:ByteArray)(v:Ver):List Sl:=D++[⟨p,v⟩]
theorem Ls(a b:List Sl)(p:ByteArray):B5 (a++b) p=(B5 a p).or (B5 b p):=by
 unfold B5;rw[List.find?_append]
theorem IF{s:List Sl}(h:Db s p=false):B5 s p=none:=by
 rw[Lc]at h;cases e:B5 s p with
 |none=>rfl
 |some y=>rw[e]at h;cases h
theorem ae.self(h:GH D):ae D p D:=⟨h,fun _ _=>rfl⟩
theorem ae.ver(h:GH D)(hv:Ci v=true):ae D p (Lz D p v):=by
 refine⟨fun y hy=>?_,fun q hq=>?_⟩
 .rcases AN.1 hy with hy|hy
  .exact h y hy
  .rw[Ar.1 hy];exact hv
 .rw[Ls]
  have:B5 [(⟨p,v⟩:Sl)] q=none:=by unfold B5;simp[Ne.symm hq]
  rw[this,Option.or_none]
theorem Je(hp:Db D p=false)(v:Ver):B5 (Lz D p v) p=some ⟨p,v⟩:=by
 rw[Ls,IF hp];unfold B5;simp
theorem SO(hp:Db D p=false)(hv:Ci v=true)(hv' : Ci v'=true)(e:place v=place v')(q:ByteArray)(t:Tm) :
  DG t (B5 (Lz D p v) q)=DG t (B5 (Lz D p v') q):=by
 by_cases hq:q=p
 .subst hq;rw[Je hp,Je hp];show(Ci v&&has t.set (place v))=(Ci v'&&has t.set (place v'));rw[hv,hv',e]
 .have h1:∀w:Ver,B5 (Lz D p w) q=B5 D q:=fun w=>by
   rw[Ls]
   have:B5 [(⟨p,w⟩:Sl)] q=none:=by unfold B5;simp[Ne.symm hq]
   rw[this,Option.or_none]
  rw[h1,h1]
theorem fJ(hp:Db D p=false)(hv:Ci v=true)(hv' : Ci v'=true)(e:place v=place v')(t:List Tm):Bm t (Lz D p v)=Bm t (Lz D p v'):=by
 rw[Ca,BP,BP];exact⟨fun h u hu=>by rw[<-SO hp hv hv' e];exact h u hu,fun h u hu=>by rw[SO hp hv hv' e];exact h u hu⟩
theorem Md{S':List Sl}(h:ae D p S)(h' : ae D p S')(ht:∀u∈t,u.path≠p):Bm t S=Bm t S':=by
 rw[Ca,BP,BP];exact⟨fun k u hu=>by rw[h'.same _ (ht u hu),<-h.same _ (ht u hu)];exact k u hu,fun k u hu=>by rw[h.same _ (ht u hu),<-h'.same _ (ht u hu)];exact k u hu⟩
theorem K9(h:Ee t p=false):∀u∈t,u.path≠p:=fun u hu e=>by
 unfold Ee at h;rw[FP]at h;exact h u hu (by simpa using e)
theorem UH(h:Ee t p=true):∃u∈t,u.path=p:=by
 unfold Ee at h;rw[Ba]at h;obtain⟨u,hu,e⟩:=h;exact⟨u,hu,by simpa using e⟩
theorem Wi(hf:Mg t)(hc:Ee t p=true):∃u r,FN t p=some (u,r)/\u.path=p/\∀v∈r,v.path≠p:=by
 obtain⟨u,hu,e⟩:=UH hc;have hs:=Fm hf;have vd:=(F6 hs).1 hu;rw[e]at vd;refine⟨u,Gg t p,?_,e,fun v hv=>?_⟩
 .unfold FN;rw[show Dg t=some t from hf];dsimp only;rw[vd]
 .have:=(Br.1 hv).2
  simpa using this
theorem ZD{b:List Tm}(TR:Mg t)(u9:Mg b)(hct:Ee t p=true)(hcb:Ee b p=true){S1 S2:List Sl}(h1:ae D p S1)(v1:Bm t S1=true)(h2:ae D p S2)(v2:Bm b S2=true) :
  (B2 t b p).2=0/\∀S,ae D p S->Bm t S=true\/Bm b S=true->Bm (B2 t b p).1 S=true:=by
 obtain⟨u,r,e1,pu,nr⟩:=Wi TR hct;obtain⟨w,m,e2,pw,nm⟩:=Wi u9 hcb;have key:∀S,ae D p S->Bm t S=true\/Bm b S=true->Bm (r++m++[DD u w]) S=true:=fun S hS hv=>by
  have r1:Bm r S=true:=by
   rw[Md hS h1 nr];rw[(Gf h1.val e1).1,Af]at v1;exact v1.2
  have m1:Bm m S=true:=by
   rw[Md hS h2 nm];rw[(Gf h2.val e2).1,Af]at v2;exact v2.2
  rw[HX,HX,r1,m1];simp only[E4];rw[BP];intro y hy;rw[Ar.1 hy,show(DD u w).path=p from pu,OE,CQ];rcases hv with hv|hv
  .rw[(Gf hS.val e1).1,Af]at hv;exact .inl hv.1
  .rw[(Gf hS.val e2).1,Af]at hv;exact .inr hv.1
 unfold B2;rw[e1,e2];dsimp only;have c1:=Dv (l:=r++m++[DD u w]) h1.val;rw[key S1 h1 (.inl v1)]at c1;cases hc:Dg (r++m++[DD u w])with
 |none=>rw[hc]at c1;cases c1
 |some o=>
  dsimp only;refine⟨rfl,fun S hS hv=>?_⟩;have c2:=Dv (l:=r++m++[DD u w]) hS.val;rw[hc,key S hS hv]at c2;exact c2.symm
theorem oa(hp:Db D p=false)(hf:Mg t)(h0:Bm t D=true)(hk:∀k:Int,0<=k->k<1000000->Bm t (Lz D p (Rm k))=true):Ee t p=false:=by
 rw[AM];intro hc;obtain⟨u,hu,e⟩:=UH hc;have ha:u.absent=true:=by
  have:=BP.1 h0 u hu
  rw[e,IF hp]at this;exact this
 have hs:∀k:Int,0<=k->k<1000000->has u.set k=true:=fun k k0 k1=>by
  have:=BP.1 (hk k k0 k1) u hu
  rw[e,Je hp]at this;unfold DG at this;rw[Af]at this
  have:=this.2
  rw[show(⟨p,Rm k⟩:Sl).ver=Rm k from rfl,H6]at this;exact this
 have xB:E5 u.set:=Cv.canon (Fm hf) u hu;have U9:u.set=[(0,1000000)]:=by
  refine IB xB ⟨by decide,by decide,by decide,trivial⟩ fun k=>?_;rw[Ca];constructor
  .intro h
   have:=Ny h
   unfold has;simp[B4,this.1,this.2]
  .intro h
   have:=Ny h
   exact hs k this.1 this.2
 have gy:Hd u=true:=by unfold Hd;rw[ha,U9];rfl
 have hf2:Dg t=some t:=hf;unfold Dg at hf2;split at hf2
 .cases hf2
 .have e2:=Cj hf2;rw[<-e2]at hu
  have:=(Br.1 hu).2
  rw[gy]at this;cases this
structure EI(x:List Rl)(dec:List Cd):Prop where
 cand:∀c∈dec,c.rel∈x/\c.rel.yanked=false/\c.place=plc c.rel.ver
 nodup:(dec.map fun c=>c.rel.path).Nodup
theorem EI.nil(x:List Rl):EI x []:=⟨fun _ h=>(by cases h),FF⟩
theorem VJ(h:Uh r):r.path≠mt:=fun e=>by
 have:=h.maj
 rw[e]at this;have h2:CD mt=none:=by decide
 rw[h2]at this;cases this
theorem Uh.set{r:Rl}(h:Uh r):∀q∈r.reqs,q.set≠[]/\E5 q.set:=Mn h.reqs
theorem Pl(dec:List Cd):(AS dec).map (·.path)=dec.map fun c=>c.rel.path:=by unfold AS;rw[Bq];rfl
theorem H1:∀{D:List Sl},(D.map (·.path)).Nodup->∀{y:Sl},y∈D->B5 D y.path=some y
 | [],_,y,h=>by cases h
 |z::D,hn,y,h=>by
  simp only[AJ,Dk]at hn;unfold B5;rw[Fj];rcases Ay.1 h with rfl|h
  .rw[Ak rfl]
  .have:z.path≠y.path:=fun e=>hn.1 (Ai.2 ⟨y,h,e.symm⟩)
   rw[Ae this];exact H1 hn.2 h
theorem EI.find(h:EI x dec)(hc:c∈dec):B5 (AS dec) c.rel.path=some (Vk c):=
 H1 (by rw[Pl];exact h.nodup) (y:=Vk c) (Ai.2 ⟨c,hc,rfl⟩)
theorem EI.valid(hx:A0 x=0)(h:EI x dec):GH (AS dec):=fun y hy=>by
 obtain⟨c,hc,rfl⟩:=Ai.1 hy;exact((CF hx).1 _ (h.cand c hc).1).val
theorem EI.snoc(h:EI x dec)(hc:c.rel∈x/\c.rel.yanked=false/\c.place=plc c.rel.ver)(hd:Dt dec c.rel.path=false):EI x (dec++[c]):=by
 refine⟨fun d hd=>?_,?_⟩
 .rcases AN.1 hd with hd|hd
  .exact h.cand d hd
  .rw[Ar.1 hd];exact hc
 .rw[At,FQ];refine⟨h.nodup,by simp,fun a ha b hb e=>?_⟩;obtain⟨d,p6,rfl⟩:=Ai.1 ha;simp only[AJ,E6,Ar]at hb;unfold Dt at hd;rw[FP]at hd;exact hd d p6 (by simpa using e.trans hb)
theorem NG(h:n∈DR roots E):(∃k q,roots[k]?=some q/\n=⟨q,mt,0,(k:Nat)⟩)\/∃c∈E,∃k q,c.rel.reqs[k]?=some q/\n=⟨q,c.rel.path,c.place,(k:Nat)⟩:=by
 unfold DR at h;rcases AN.1 h with h|h
 .obtain⟨k,q,h1,h2⟩:=ca h;exact .inl ⟨k,q,h1,h2⟩
 .obtain⟨l,hl,hn⟩:=D4.1 h;obtain⟨c,hc,rfl⟩:=Ai.1 hl;obtain⟨k,q,h1,h2⟩:=ca hn;exact .inr ⟨c,hc,k,q,h1,h2⟩
theorem Pp(h:n∈DR roots dec):n∈DR roots (dec++[c]):=by
 unfold DR at *
 rw[At,Cm,<-BD];exact By _ h
theorem N9(h:n∈Sb c):n∈DR roots (dec++[c]):=by
 unfold DR;rw[At,Cm,<-BD];exact Bo _ (by simpa using h)
def On(n:Nd):List Tm:=if n.path=mt then [D1 n.rq]else [⟨n.path,false,[(n.place,n.place+1)]⟩,D1 n.rq]
theorem QF(n:Nd):II n=RV (On n):=by unfold II On KN EH;split<;>rfl
theorem iq{s:Bz}(h:s≠[])(hc:E5 s):∃k,has s k=true:=by
 match s,h,hc with
 |x::r,_,hc=>
  have:=Fe.low hc x (Ab ..)
  refine⟨x.1,?_⟩;unfold has;have h1:B4 x.1 x=true:=D6.2 ⟨Bs _,this.2.1⟩;simp only[BM,h1,Bool.true_or,Bool.and_true,Af,AA];omega
theorem Tg{o:Option Sl}(h:o=none\/∃y,o=some y/\Ci y.ver=true/\has q.set (place y.ver)=false):DG (D1 q) o=true:=by
 rcases h with rfl|⟨y,rfl,hv,hq⟩
 .rfl
 .show(Ci y.ver&&has (EX q.set) (place y.ver))=true
  have:=KL hv
  rw[hv,F8,hq];unfold M7;simp[this.1,this.2]
theorem VH{y:Sl}(hq:has q.set (place y.ver)=true):DG (D1 q) (some y)=false:=by
 show(Ci y.ver&&has (EX q.set) (place y.ver))=false;rw[F8,hq];simp
structure xR(x:List Rl)(roots:List Rq)(S:List Sl)(n:Nd):Prop where
 inf:∀d,Ei x roots d (Om n)=some (II n)
 viol:Bm (II n) S=true
 raw:∀S',GH S'->Bm (II n) S'=Bm (On n) S'
 form:Mg (II n)
 inU:∀U:List ByteArray,(n.path≠mt->n.path∈U)->n.rq.path∈U->WY U (II n)
 path:n.path≠mt->Db S n.path=true
theorem TT(hx:A0 x=0)(hr:BH roots=0)(hE:EI x E)(hn:n∈DR roots E)(hv:B5 (AS E) n.rq.path=none\/∃y,B5 (AS E) n.rq.path=some y/\has n.rq.set (place y.ver)=false):xR x roots (AS E) n:=by
 have hV:=hE.valid hx;have ng:DG (D1 n.rq) (B5 (AS E) n.rq.path)=true:=Tg (hv.imp id fun⟨y,h1,h2⟩=>⟨y,h1,hV y (Ky h1),h2⟩)
 -- the raw list is Bm here,and not elsewhere
 have Ph:n.rq.set≠[]/\E5 n.rq.set:=by
  rcases NG hn with ⟨k,q,h1,rfl⟩|⟨c,hc,k,q,h1,rfl⟩
  .exact Mn hr q (Az h1)
  .exact((CF hx).1 _ (hE.cand c hc).1).set q (Az h1)
 have Zg:Bm (On n) (AS E)=true/\(n.path≠mt->Db (AS E) n.path=true):=by
  rcases NG hn with ⟨k,q,h1,rfl⟩|⟨c,hc,k,q,h1,rfl⟩
  .refine⟨?_,fun h=>absurd rfl h⟩;unfold On;rw[Ap rfl,BP];intro u hu;rw[Ar.1 hu];exact ng
  .have DJ:=VJ ((CF hx).1 _ (hE.cand c hc).1);refine⟨?_,fun _=>by rw[Lc,hE.find hc];rfl⟩;unfold On;rw[Aj DJ,BP];intro u hu;rcases Ay.1 hu with rfl|hu
   .show DG _ (B5 (AS E) c.rel.path)=true;rw[hE.find hc];show(Ci c.rel.ver&&has [(c.place,c.place+1)] (place c.rel.ver))=true;have G1:=(CF hx).1 _ (hE.cand c hc).1;have hp:=KL G1.val;rw[G1.val,(hE.cand c hc).2.2,G1.plc];unfold has;simp[B4,hp.1,hp.2];omega
   .rw[Ar.1 hu];exact ng
 have AdB:∃S',GH S'/\Bm (On n) S'=false:=by
  unfold On;split
  .obtain⟨k,hk⟩:=iq Ph.1 Ph.2;have lr:=Ny hk;refine⟨[⟨n.rq.path,Rm k⟩],fun y hy=>by rw[Ar.1 hy];exact Fw lr,?_⟩;rw[AM];intro h
   have:=BP.1 h (D1 n.rq) (Ar.2 rfl)
   rw[show(D1 n.rq).path=n.rq.path from rfl,show B5 [(⟨n.rq.path,Rm k⟩:Sl)] n.rq.path=some ⟨n.rq.path,Rm k⟩ by unfold B5;simp,VH (by rw[show(⟨n.rq.path,Rm k⟩:Sl).ver=Rm k from rfl,H6];exact hk)]at this;cases this
  .refine⟨[],fun y hy=>(by cases hy),?_⟩;rw[AM];intro h
   have:=BP.1 h _ (Ab ..)
   cases this
 obtain⟨Zg,zw⟩:=Zg;have DJ:RV (On n)≠[]:=by
  obtain⟨S',v',n'⟩:=AdB;have c1:=Dv (l:=On n) hV;have c2:=Dv (l:=On n) v';unfold RV;cases hc:Dg (On n)with
  |none=>rw[hc,Zg]at c1;cases c1
  |some c=>
   rw[hc,n']at c2;intro e;have e:c=[]:=e;rw[e]at c2;cases c2
 have tq:∀S',GH S'->Bm (II n) S'=Bm (On n) S':=fun S' v=>by rw[QF];exact RW v DJ
 refine⟨fun d=>?_,by rw[tq _ hV];exact Zg,tq,by rw[QF];exact NI _,fun U h1 h2=>?_,zw⟩
 .rcases NG hn with ⟨k,q,h1,rfl⟩|⟨c,hc,k,q,h1,rfl⟩
  .show Ei x roots d (if(mt:ByteArray)=mt then⟨0,mt,0,(k:Nat),0,0⟩else _)=some (if(mt:ByteArray)=mt then KN q else _);rw[Ap rfl,Ap rfl];show(if mt=mt/\(0:Int)=0/\(0:Int)=0/\(0:Int)=0 then(KJ roots (k:Nat)).map KN else none)=some (KN q);rw[Ap ⟨rfl,rfl,rfl,rfl⟩];unfold KJ;rw[Aj ch,Cb,h1];rfl
  .have G1:=(CF hx).1 _ (hE.cand c hc).1;have SP:=VJ G1;have AdM:QY x c.rel.path c.place=some c.rel:=by
    unfold QY;cases hf:x.find? fun r=>decide (r.path=c.rel.path)&&decide (plc r.ver=c.place)with
    |none=>
     rw[DI]at hf;exact absurd (by simp[(hE.cand c hc).2.2]) (hf c.rel (hE.cand c hc).1)
    |some r=>
     have h2:=Dy hf;simp only[Af,AA]at h2;have nk:=BI hf;have AdG:=(CF hx).1 r nk;rw[ZF (CF hx) nk (hE.cand c hc).1 h2.1 (by rw[<-AdG.plc,h2.2,(hE.cand c hc).2.2,G1.plc])]
   have e1:Om ⟨q,c.rel.path,c.place,(k:Nat)⟩=⟨1,c.rel.path,c.place,(k:Nat),0,0⟩:=by unfold Om;rw[Aj SP]
   have e2:II ⟨q,c.rel.path,c.place,(k:Nat)⟩=EH c.rel.path c.place q:=by unfold II;rw[Aj SP]
   rw[e1,e2];unfold Ei;rw[Aj (show ¬((1:Int)=0) by decide),Ap rfl,Ap ⟨rfl,rfl⟩];dsimp only;rw[AdM];dsimp only;unfold KJ;rw[Aj ch,Cb,h1];dsimp only;unfold jX;rw[Aj];rw[HD,<-e2,QF];exact DJ
 .rw[QF];refine VF fun u hu=>?_;unfold On at hu;split at hu
  .rw[Ar.1 hu];exact h2
  .rename_i hm;rcases Ay.1 hu with rfl|hu
   .exact h1 hm
   .rw[Ar.1 hu];exact h2
structure qi(D:List Sl)(U:List ByteArray)(p:ByteArray)(t:List Tm)(C:Int->Prop):Prop where
 form:Mg t
 inU:WY U t
 conc:Ee t p=true
 one:∃S,ae D p S/\Bm t S=true
 cov:∀k:Int,0<=k->k<1000000->C k->Bm t (Lz D p (Rm k))=true
structure tZ(D:List Sl)(U:List ByteArray)(p:ByteArray)(t:List Tm)(C:Int->Prop):Prop where
 form:Mg t
 inU:WY U t
 none_:Bm t D=true
 cov:∀k:Int,0<=k->k<1000000->C k->Bm t (Lz D p (Rm k))=true
theorem FO.forms(h:FO x roots s):∀k,Mg (EC s k):=fun k=>by
 unfold EC;rw[Cf];cases e:s.drv[k]? with
 |none=>exact Qw
 |some t=>exact Ou (fun _ h=>by cases h) h.der t (Az e)
theorem XN{d:List (List Tm)}{k r:Nat}(hk:k<d.length)(hr:r<d.length)(h0:(B2 (d.getD k []) (d.getD r []) p).2=0) :
  Ei x roots d ⟨3,p,0,0,(k:Nat),(r:Nat)⟩=some (B2 (d.getD k []) (d.getD r []) p).1:=by
 have e:∀j:Nat,j<d.length->KJ d (j:Nat)=some (d.getD j []):=fun j hj=>by
  unfold KJ;rw[Aj ch,Cb,Cf,AD hj];rfl
 unfold Ei;rw[Aj (show ¬((3:Int)=0) by decide),Aj (show ¬((3:Int)=1) by decide),Aj (show ¬((3:Int)=2) by decide),Ap rfl,Ap ⟨rfl,rfl⟩];dsimp only;rw[e k hk,e r hr];dsimp only;rw[Ap h0]
theorem Pm{x:List Rl}{roots:List Rq}{D:List Sl}{U:List ByteArray}{p:ByteArray}(hD:GH D):∀(l:List (Nat×(Int->Prop))) {k:Nat} {s:SS} {C:Int->Prop},FO x roots s->k<s.drv.length->(∀y∈l,y.1<s.drv.length) ->
  (s.full=false->tZ D U p (EC s k) C/\∀y∈l,qi D U p (EC s y.1) y.2) ->
  FO x roots (Cw p (l.map (·.1)) k s).2/\Grow s (Cw p (l.map (·.1)) k s).2/\(Cw p (l.map (·.1)) k s).1<(Cw p (l.map (·.1)) k s).2.drv.length /\
  ((Cw p (l.map (·.1)) k s).2.full=false->∃C',tZ D U p (EC (Cw p (l.map (·.1)) k s).2 (Cw p (l.map (·.1)) k s).1) C' /\
   (Ee (EC (Cw p (l.map (·.1)) k s).2 (Cw p (l.map (·.1)) k s).1) p=false\/∀j,C j\/(∃y∈l,y.2 j)->C' j))
 | [],k,s,C,hd,hk,_,hA=>⟨hd,.refl s,hk,fun hf=>⟨C,(hA hf).1,.inr fun j hj=>hj.elim id fun⟨y,hy,_⟩=>(by cases hy)⟩⟩
 |y::l,k,s,C,hd,hk,hl,hA=>by
  rw[AJ]
  by_cases h1:s.full=true\/Ee (EC s k) p=false
  .have e:Cw p (y.1::l.map (·.1)) k s=(k,s):=by unfold Cw;rw[Ap h1]
   rw[e];refine⟨hd,.refl s,hk,fun hf=>⟨C,(hA hf).1,.inl (h1.resolve_left fun e=>?_)⟩⟩;have hf:s.full=false:=hf;rw[e]at hf;cases hf
  simp only[not_or,T9,Bool.not_eq_false]at h1;obtain⟨hf,Ws⟩:=h1;obtain⟨qS,hA2⟩:=hA hf;have hy:=hA2 y (Ab ..);have hi:¬(s.full=true\/Ee (EC s k) p=false):=by rw[hf,Ws];simp
  by_cases h2:y.1=k
  .have e:Cw p (y.1::l.map (·.1)) k s=Cw p (l.map (·.1)) k s:=by conv=>lhs;unfold Cw;rw[Aj hi,Ap h2]
   rw[e];have hA' : tZ D U p (EC s k) fun j=>C j\/y.2 j:=⟨qS.form,qS.inU,qS.none_,fun j j0 j1 hj=>hj.elim (qS.cov j j0 j1) fun h=>by rw[<-h2];exact hy.cov j j0 j1 h⟩;obtain⟨i1,i2,i3,i4⟩:=Pm hD l hd hk (fun z hz=>hl z (Ah _ hz)) (fun _=>⟨hA',fun z hz=>hA2 z (Ah _ hz)⟩);refine⟨i1,i2,i3,fun hf=>?_⟩;obtain⟨C',j1,j2⟩:=i4 hf;refine⟨C',j1,j2.imp id fun h j hj=>h j ?_⟩;rcases hj with hj|⟨z,hz,hj⟩
   .exact .inl (.inl hj)
   .rcases Ay.1 hz with rfl|hz
    .exact .inl (.inr hj)
    .exact .inr ⟨z,hz,hj⟩
  .obtain⟨S2,o2,v2⟩:=hy.one;obtain⟨r1,r2⟩:=ZD qS.form hy.form Ws hy.conc (.self hD) qS.none_ o2 v2;have e:Cw p (y.1::l.map (·.1)) k s=Cw p (l.map (·.1)) (Er s ⟨3,p,0,0,k,y.1⟩ (B2 (EC s k) (EC s y.1) p).1).1 (Er s ⟨3,p,0,0,k,y.1⟩ (B2 (EC s k) (EC s y.1) p).1).2:=by
    conv=>lhs;unfold Cw;rw[Aj hi,Aj h2,Aj (fun h=>h r1)]
   rw[e];have hy1:=hl y (Ab ..);obtain⟨a1,a2,a3⟩:=LO hd (XN (x:=x) (roots:=roots) hk hy1 r1);have hg:=LP s ⟨3,p,0,0,(k:Nat),(y.1:Nat)⟩ (B2 (EC s k) (EC s y.1) p).1;generalize ZU:Er s ⟨3,p,0,0,(k:Nat),(y.1:Nat)⟩ (B2 (EC s k) (EC s y.1) p).1=s' at *
   have a3:s'.2.full=false->EC s'.2 s'.1=(B2 (EC s k) (EC s y.1) p).1:=a3;obtain⟨i1,i2,i3,i4⟩:=Pm hD (C:=fun j=>C j\/y.2 j) l a1 a2 (fun z hz=>BC (hl z (Ah _ hz)) hg.len) (fun bt=>by
    refine⟨?_,fun z hz=>by rw[hg.at (hl z (Ah _ hz))];exact hA2 z (Ah _ hz)⟩;rw[a3 bt];exact⟨OO _ _ _,Tl qS.inU hy.inU,r2 D (.self hD) (.inl qS.none_),fun j j0 j1 hj=>r2 _ (.ver hD (Fw ⟨j0,j1⟩)) (hj.imp (qS.cov j j0 j1) (hy.cov j j0 j1))⟩)
   refine⟨i1,hg.trans i2,i3,fun hf=>?_⟩;obtain⟨C',j1,j2⟩:=i4 hf;refine⟨C',j1,j2.imp id fun h j hj=>h j ?_⟩;rcases hj with hj|⟨z,hz,hj⟩
   .exact .inl (.inl hj)
   .rcases Ay.1 hz with rfl|hz
    .exact .inl (.inr hj)
    .exact .inr ⟨z,hz,hj⟩
def Iy(roots:List Rq)(dec:List Cd):Prop:=∀q∈IS roots dec,∀d∈dec,d.rel.path=q.path->has q.set d.place=true
theorem Iy.nil(roots:List Rq):Iy roots []:=fun _ _ d h=>by cases h
theorem fq(roots:List Rq)(dec:List Cd)(c:Cd):IS roots (dec++[c])=IS roots dec++c.rel.reqs:=by
 unfold IS;rw[At,Cm,BD];simp
theorem r5(c:Cd):(Sb c).map (·.rq)=c.rel.reqs:=T0 (fun _ _=>rfl) _ _
theorem dC(h:En dec c=none):∀q∈c.rel.reqs,∀d∈dec++[c],d.rel.path=q.path->has q.set d.place=true:=fun q hq d hd e=>by
 rw[<-r5]at hq;obtain⟨n,hn,rfl⟩:=Ai.1 hq;unfold En at h;rw[DI]at h
 have:=h n hn
 unfold gO at this;rw[T9,FP]at this
 have:=this d hd
 rw[e]at this;simpa using this
theorem Mo(h:En dec c=some n):n∈Sb c/\∃d∈dec++[c],d.rel.path=n.rq.path/\has n.rq.set d.place=false:=by
 unfold En at h;have h1:=Dy h;refine⟨BI h,?_⟩;unfold gO at h1;rw[Ba]at h1;obtain⟨d,hd,e⟩:=h1;simp only[Af,AA,CK]at e;exact⟨d,hd,e⟩
theorem Iy.snoc(h:Iy roots dec)(hN:xk roots dec p needs)(hc:c.rel.path=p)(hn:∀n∈needs,has n.rq.set c.place=true)(hk:En dec c=none):Iy roots (dec++[c]):=by
 intro q hq d hd e;rw[fq]at hq;rcases AN.1 hq with hq|hq
 .rcases AN.1 hd with hd|hd
  .exact h q hq d hd e
  .rw[Ar.1 hd]at e⊢;rw[<-N8]at hq;obtain⟨n,bw,rfl⟩:=Ai.1 hq;exact hn n ((hN.mem n).2 ⟨bw,by rw[<-e,hc]⟩)
 .exact dC hk q hq d hd e
def WR(y:Sl):List Sl->List Sl
 | []=>[y]
 |z::l=>if Ed y.path z.path then y::z::l else z::WR y l
def DZ:List Sl->List Sl
 | []=>[]
 |y::l=>WR y (DZ l)
theorem Vh{y z:Sl}:∀{l:List Sl},z∈WR y l↔z=y\/z∈l
 | []=>by simp[WR]
 |u::l=>by
  unfold WR;split
  .simp
  .rw[Ay,Vh,Ay];constructor
   .rintro(h|h|h)
    .exact .inr (.inl h)
    .exact .inl h
    .exact .inr (.inr h)
   .rintro(h|h|h)
    .exact .inr (.inl h)
    .exact .inl h
    .exact .inr (.inr h)
theorem Gd{z:Sl}:∀{l:List Sl},z∈DZ l↔z∈l
 | []=>by simp[DZ]
 |u::l=>by unfold DZ;rw[Vh,Gd,Ay]
theorem bF{y:Sl}:∀{l:List Sl},Yu l->(∀z∈l,z.path≠y.path)->Yu (WR y l)
 | [],_,_=>by simp[WR,Yu]
 |u::l,h,hn=>by
  obtain⟨h1,h2⟩:=Bw.1 h;unfold WR;split
  .rename_i hb;refine Bw.2 ⟨fun z hz=>?_,h⟩;rcases Ay.1 hz with rfl|hz
   .exact hb
   .exact D8 hb (h1 z hz)
  .rename_i hb;refine Bw.2 ⟨fun z hz=>?_,bF h2 fun z hz=>hn z (Ah _ hz)⟩;rcases Vh.1 hz with rfl|hz
   .cases e:Ed u.path z.path with
    |true=>rfl
    |false=>
     have hb:Ed z.path u.path=false:=by simpa using hb
     exact absurd (HQ e hb) (hn u (Ab ..))
   .exact h1 z hz
theorem L9:∀{l:List Sl},(l.map (·.path)).Nodup->Yu (DZ l)
 | [],_=>List.Pairwise.nil
 |y::l,h=>by
  simp only[AJ,Dk]at h;exact bF (L9 h.2) fun z hz e=>h.1 (Ai.2 ⟨z,Gd.1 hz,e⟩)
theorem Vf:∀{l:List Sl} {b:Option ByteArray},Yu l->(∀c,b=some c->∀y∈l,Ed c y.path=true)->Ve b l=true
 | [],_,_,_=>by unfold Ve;rfl
 |y::l,b,h,hb=>by
  obtain⟨h1,h2⟩:=Bw.1 h;unfold Ve;cases b with
  |none=>simpa using Vf h2 fun c e z hz=>by cases e;exact h1 z hz
  |some c=>
   have:=hb c rfl y (Ab ..)
   simp only[this,E4];exact Vf h2 fun c e z hz=>by cases e;exact h1 z hz
theorem nA{l:List Sl}(h:Yu l):E1 l=true:=Vf h fun _ e=>by cases e
theorem XD(hx:A0 x=0)(hr:r∈x):CV x (Fa r)=some r:=by
 unfold CV;rw[Aj (fun h=>h hx)];cases h:x.find? fun s=>decide (Fa s=Fa r)with
 |none=>
  rw[DI]at h;exact absurd B0 (h r hr)
 |some s=>
  have h1:=Dy h;simp only[AA]at h1;rw[Vl (CF hx).2 (BI h) hr h1]
theorem EI.sorted(h:EI x dec):Yu (DZ (AS dec)):=L9 (by rw[Pl];exact h.nodup)
theorem EI.findS(h:EI x dec)(hc:c∈dec):B5 (DZ (AS dec)) c.rel.path=some (Vk c):=
 Oz h.sorted (y:=Vk c) (Gd.2 (Ai.2 ⟨c,hc,rfl⟩))
theorem nK(hx:A0 x=0)(h:EI x dec)(hs:Iy roots dec)(hl:L0 (IS roots dec) (AS dec)=none):ub x roots (DZ (AS dec)):=by
 have GJ:∀q∈IS roots dec,∃y,B5 (DZ (AS dec)) q.path=some y/\has q.set (place y.ver)=true:=fun q hq=>by
  have:=eQ hl q hq
  rw[Mw]at this;obtain⟨y,hy,e⟩:=this;obtain⟨d,hd,rfl⟩:=Ai.1 hy;have e:d.rel.path=q.path:=e;refine⟨Vk d,by rw[<-e];exact h.findS hd,?_⟩;have h1:=hs q hq d hd e;have G1:=(CF hx).1 _ (h.cand d hd).1;rw[(h.cand d hd).2.2,G1.plc]at h1;exact h1
 refine⟨hx,nA h.sorted,fun y hy=>?_,fun q hq=>GJ q (By _ hq),fun y hy r hr q hq=>?_⟩
 .obtain⟨d,hd,rfl⟩:=Ai.1 (Gd.1 hy);exact⟨d.rel,XD hx (h.cand d hd).1,(h.cand d hd).2.1⟩
 .obtain⟨d,hd,rfl⟩:=Ai.1 (Gd.1 hy)
  have:CV x (Vk d)=some d.rel:=XD hx (h.cand d hd).1
  rw[this]at hr;cases hr;exact GJ q (Bo _ (D4.2 ⟨_,Ai.2 ⟨d,hd,rfl⟩,hq⟩))
def ki(dec:List Cd)(needs:List Nd)(c:Cd):Bool:=(needs.all fun n=>has n.rq.set c.place)&&(En dec c).isNone
def Ht(x:List Rl)(roots:List Rq):Nat->List Cd->List (List Cd)
 |0,_=>[]
 |n+1,dec=>match(Fb roots dec).2 with
  | []=>[dec]
  |n0::l=>((B7 x (Fb roots dec).1).map fun c=>if ki dec (n0::l) c then Ht x roots n (dec++[c])else []).flatten
structure Lf(x:List Rl)(roots:List Rq)(dec d:List Cd):Prop where
 pre:dec <+: d
 ok:EI x d
 sat:Iy roots d
 stop:L0 (IS roots d) (AS d)=none
theorem J7(h:c∈B7 x p):c.rel.path=p/\(c.rel∈x/\c.rel.yanked=false/\c.place=plc c.rel.ver):=by
 obtain⟨r,h1,h2,h3,rfl⟩:=Mk.1 h;exact⟨h2,h1,h3,rfl⟩
theorem QU:ki dec needs c=true↔(∀n∈needs,has n.rq.set c.place=true)/\En dec c=none:=by
 unfold ki;rw[Af,A1,Option.isNone_iff_eq_none]
theorem I9{x:List Rl}{roots:List Rq}:∀{n:Nat} {dec:List Cd},EI x dec->Iy roots dec->∀d∈Ht x roots n dec,Lf x roots dec d
 |0,_,_,_,d,hd=>by cases hd
 |n+1,dec,h,hs,d,hd=>by
  unfold Ht at hd;split at hd
  .rename_i e;rw[Ar.1 hd];exact⟨Oi,h,hs,Vz.1 e⟩
  .rename_i n0 l e;have hN:=MB e;obtain⟨L,hL,hd⟩:=D4.1 hd;obtain⟨c,hc,rfl⟩:=Ai.1 hL;split at hd
   .rename_i G1;obtain⟨h1,h2⟩:=QU.1 G1;obtain⟨c1,c2⟩:=J7 hc;have jE:Dt dec c.rel.path=false:=by rw[c1];exact hN.undone
    have:=I9 (n:=n) (h.snoc c2 jE) (hs.snoc hN c1 h1 h2) d hd
    exact⟨(PL _ _).trans this.pre,this.ok,this.sat,this.stop⟩
   .cases hd
theorem Lf.sol(hx:A0 x=0)(h:Lf x roots dec d):ub x roots (DZ (AS d)):=nK hx h.ok h.sat h.stop
theorem rJ(hx:A0 x=0)(hd:FO x roots s){k:Nat}(hk:k<s.drv.length)(he:Dh (EC s k) (AS dec)=true)(h:Lf x roots dec d):False:=by
 have hS:=h.sol hx;have hv:=YV (s:=DZ (AS d)) hS.inc (fun y hy=>Gd.2 (by
  obtain⟨c,hc,rfl⟩:=Ai.1 hy;obtain⟨t,e⟩:=h.pre;exact Ai.2 ⟨c,by rw[<-e];exact By _ hc,rfl⟩)) he
 have hn:=Kw hS (d:=[]) (fun _ h=>by cases h) hd.der (EC s k) (by
  unfold EC;rw[Cf,AD hk];exact Ao hk)
 rw[hv]at hn;cases hn
theorem vP(h:A0 x=0):x.length<=256:=by
 unfold A0 at h;split at h
 .cases h
 .omega
theorem mV{l:List Rl}:(l.map fun r=>(plc r.ver,plc r.ver+1)).any (B4 k)=true↔∃r∈l,plc r.ver=k:=by
 rw[Ba];constructor
 .rintro⟨y,hy,h⟩
  obtain⟨r,hr,rfl⟩:=Ai.1 hy
  have:=D6.1 h
  exact⟨r,hr,by have h1:=this.1;have h2:=this.2;dsimp only at h1 h2;omega⟩
 .rintro⟨r,hr,rfl⟩
  exact⟨_,Ai.2 ⟨r,hr,rfl⟩,D6.2 ⟨Bs _,by dsimp only;omega⟩⟩
theorem Xn(hx:A0 x=0):has (Co x p) k=true↔∃c∈B7 x p,c.place=k:=by
 unfold Co;rw[If];unfold has Ly;rw[Aj (fun h=>h hx)];simp only[Af,AA];rw[mV];constructor
 .rintro⟨_,r,hr,rfl⟩
  simp only[Br,AA,CK]at hr;exact⟨⟨plc r.ver,r⟩,Mk.2 ⟨r,hr.1.1,hr.1.2,hr.2,rfl⟩,rfl⟩
 .rintro⟨c,hc,rfl⟩
  obtain⟨r,h1,h2,h3,rfl⟩:=Mk.1 hc;have G1:=(CF hx).1 r h1
  have:=KL G1.val
  rw[<-G1.plc]at this;refine⟨⟨this.1,this.2⟩,r,?_,rfl⟩;simp only[Br,AA,CK];exact⟨⟨h1,h2⟩,h3⟩
theorem iB(hx:A0 x=0)(p:ByteArray):∃k:Int,0<=k/\k<1000000/\has (Co x p) k=false:=by
 apply AH;intro hn;have GJ:∀k∈(List.range 257).map fun i:Nat=>(i:Int),k∈x.map fun r=>plc r.ver:=by
  intro k hk;obtain⟨i,hi,rfl⟩:=Ai.1 hk;have hi:=Gx.1 hi;have hh:has (Co x p) (i:Int)=true:=by
   cases e:has (Co x p) (i:Int)with
   |true=>rfl
   |false=>exact absurd ⟨(i:Int),by omega,by omega,e⟩ hn
  obtain⟨c,hc,e⟩:=(Xn hx).1 hh;obtain⟨r,h1,_,_,rfl⟩:=Mk.1 hc;exact Ai.2 ⟨r,h1,e⟩
 have:=Jl (LK.2 (List.nodup_range.imp fun h e=>h (Int.ofNat.inj e))) GJ
 rw[A7,A7,LI]at this
 have:=vP hx
 omega
theorem Mz(dec:List Cd)(c:Cd):AS (dec++[c])=Lz (AS dec) c.rel.path c.rel.ver:=by unfold AS Lz;rw[At];rfl
theorem Ms:Dh t S=true↔Bm t S=true/\∀u∈t,Db S u.path=true:=by
 unfold Dh;rw[Af,CK,FP];simp
section
variable {x:List Rl}{roots:List Rq}{dec:List Cd}{p:ByteArray}{needs:List Nd}
abbrev fb(p:ByteArray)(dec:List Cd):List ByteArray:=p::(AS dec).map (·.path)
theorem qL{c:Cd}{t:List Tm}(hf:Mg t)(he:Dh t (AS (dec++[c]))=true):WY (fb c.rel.path dec) t:=by
 refine⟨Fm hf,fun u hu=>?_⟩
 have:=(Ms.1 he).2 u hu
 rw[Ie,Mz,At]at this;rcases AN.1 this with h|h
 .exact Ah _ h
 .rw[AJ,E6,Ar]at h;rw[h];exact Ab ..
theorem my(hx:A0 x=0)(hd:EI x dec){c:Cd}(hc:c.rel∈x){t:List Tm}(he:Dh t (AS (dec++[c]))=true)(hn:Ee t c.rel.path=false):Dh t (AS dec)=true:=by
 obtain⟨h1,h2⟩:=Ms.1 he;have DJ:=K9 hn;rw[Mz]at h1 h2;refine Ms.2 ⟨?_,fun u hu=>?_⟩
 .rw[Md (.self (hd.valid hx)) (.ver (hd.valid hx) ((CF hx).1 _ hc).val) DJ];exact h1
 .have:=h2 u hu
  rw[U3,CQ]at this;rcases this with h|h
  .exact h
  .rw[Mw]at h;obtain⟨y,hy,e⟩:=h;rw[Ar.1 hy]at e;exact absurd e.symm (DJ u hu)
theorem kL(hx:A0 x=0)(hd:EI x dec){c:Cd}(hc:c.rel∈x/\c.rel.yanked=false/\c.place=plc c.rel.ver)(hu:Dt dec c.rel.path=false){t:List Tm}(hf:Mg t)(he:Dh t (AS (dec++[c]))=true)(hn:Ee t c.rel.path=true) :
  qi (AS dec) (fb c.rel.path dec) c.rel.path t fun k=>k=c.place:=by
 have G1:=(CF hx).1 _ hc.1;have hV:=hd.valid hx;have h1:=(Ms.1 he).1;rw[Mz]at h1;refine⟨hf,qL hf he,hn,⟨_,.ver hV G1.val,h1⟩,fun k k0 k1 e=>?_⟩;subst e;rw[fJ (by rw[Gu];exact hu) (Fw ⟨k0,k1⟩) G1.val (by rw[H6,hc.2.2,G1.plc])];exact h1
theorem QM(hx:A0 x=0)(hr:BH roots=0){E:List Cd}(hE:EI x E){n:Nd}(hn:n∈DR roots E)(hv:∃d∈E,d.rel.path=n.rq.path/\has n.rq.set d.place=false) :
  (∀d,Ei x roots d (Om n)=some (II n))/\Dh (II n) (AS E)=true/\Mg (II n):=by
 obtain⟨d,hd,e,hs⟩:=hv;have G1:=(CF hx).1 _ (hE.cand d hd).1;have hf:=hE.find hd;have hI:=TT hx hr hE hn (.inr ⟨Vk d,by rw[<-e];exact hf,by rw[show(Vk d).ver=d.rel.ver from rfl,<-G1.plc,<-(hE.cand d hd).2.2];exact hs⟩);refine⟨hI.inf,Ms.2 ⟨hI.viol,fun u hu=>?_⟩,hI.form⟩
 have:=(hI.inU ((AS E).map (·.path)) (fun h=>Ie.1 (hI.path h)) (Ie.1 (by rw[Lc,<-e,hf];rfl))).2 u hu
 exact Ie.2 this
theorem jY(hx:A0 x=0)(hr:BH roots=0)(hd:EI x dec)(hN:xk roots dec p needs){c:Cd}(hc:c∈B7 x p){n:Nd}(hn:n∈needs)(hs:has n.rq.set c.place=false):Ee (II n) p=true:=by
 obtain⟨c1,c2⟩:=J7 hc;have hu:Dt dec c.rel.path=false:=by rw[c1];exact hN.undone
 have hE:=hd.snoc c2 hu;obtain⟨lu,q8⟩:=(hN.mem n).1 hn;have G1:=(CF hx).1 _ c2.1;have hI:=TT hx hr hE (Pp lu) (.inr ⟨Vk c,by rw[q8,<-c1];exact hE.find B0,by rw[show(Vk c).ver=c.rel.ver from rfl,<-G1.plc,<-c2.2.2];exact hs⟩);cases tb:Ee (II n) p with
 |true=>rfl
 |false=>
  exfalso
  have Ph:n.rq.set≠[]/\E5 n.rq.set:=by
   rcases NG lu with ⟨k,q,h1,rfl⟩|⟨c,hc,k,q,h1,rfl⟩
   .exact Mn hr q (Az h1)
   .exact((CF hx).1 _ (hd.cand c hc).1).set q (Az h1)
  obtain⟨k,hk⟩:=iq Ph.1 Ph.2;have lr:=Ny hk;have hV:=hd.valid hx;have o1:ae (AS dec) p (Lz (AS dec) p (Rm k)):=.ver hV (Fw lr);have o2:ae (AS dec) p (AS (dec++[c])):=by rw[Mz,c1];exact .ver hV G1.val
  have h1:=Md o1 o2 (K9 tb);rw[hI.viol,hI.raw _ o1.val,BP]at h1
  have:=h1 (D1 n.rq) (by unfold On;split<;>simp)
  rw[show(D1 n.rq).path=p from q8,Je (by rw[Gu];exact hN.undone),VH (by rw[show(⟨p,Rm k⟩:Sl).ver=Rm k from rfl,H6];exact hk)]at this;cases this
theorem jR(hx:A0 x=0)(hr:BH roots=0)(hd:EI x dec)(hN:xk roots dec p needs){n0:Nd}(h0:n0∈needs)(L:List (Nat×Cd))(hL:L.map (·.2)=B7 x p)(hs:FO x roots s)(DF:∀y∈L,y.1<s.drv.length)(zA:s.full=false->∀y∈L,Dh (EC s y.1) (AS (dec++[y.2]))=true/\Ee (EC s y.1) p=true) :
  FO x roots (D7 x p n0 (L.map (·.1)) s).2/\Grow s (D7 x p n0 (L.map (·.1)) s).2/\(D7 x p n0 (L.map (·.1)) s).1<(D7 x p n0 (L.map (·.1)) s).2.drv.length /\
  ((D7 x p n0 (L.map (·.1)) s).2.full=false->Dh (EC (D7 x p n0 (L.map (·.1)) s).2 (D7 x p n0 (L.map (·.1)) s).1) (AS dec)=true):=by
 have hV:=hd.valid hx;have xH:Db (AS dec) p=false:=by rw[Gu];exact hN.undone
 obtain⟨hm0,zv⟩:=(hN.mem n0).1 h0;have hI:=TT hx hr hd hm0 (.inl (by rw[zv];exact IF xH));unfold D7;obtain⟨a1,a2,a3⟩:=LO hs (hI.inf s.drv);have ag:=LP s (Om n0) (II n0);have a3:(BS s n0).2.full=false->EC (BS s n0).2 (BS s n0).1=II n0:=a3
 change FO x roots (BS s n0).2 at a1
 change (BS s n0).1<(BS s n0).2.drv.length at a2
 change Grow s (BS s n0).2 at ag
 generalize BS s n0=s1 at *
 -- the incompatibility of the places that are not available
 obtain⟨u,u0,u1,hu⟩:=iB hx p;have Zg:∀k:Int,0<=k->k<1000000->has (Co x p) k=false->Bm [(⟨p,false,EX (Co x p)⟩:Tm)] (Lz (AS dec) p (Rm k))=true:=fun k k0 k1 hk=>by
  rw[BP];intro t ht;rw[Ar.1 ht];show DG _ (B5 (Lz (AS dec) p (Rm k)) p)=true;rw[Je xH];show(Ci (Rm k)&&has (EX (Co x p)) (place (Rm k)))=true;rw[Fw ⟨k0,k1⟩,H6,F8,hk];unfold M7;simp[k0,k1]
 have tp:Bm [(⟨p,false,EX (Co x p)⟩:Tm)] (AS dec)=false:=by
  rw[AM];intro h
  have:=BP.1 h _ (Ab ..)
  rw[show(⟨p,false,EX (Co x p)⟩:Tm).path=p from rfl,IF xH]at this;cases this
 have ou:ae (AS dec) p (Lz (AS dec) p (Rm u)):=.ver hV (Fw ⟨u0,u1⟩);have DJ:IP p (Co x p)≠[]:=by
  have c1:=Dv (l:=[(⟨p,false,EX (Co x p)⟩:Tm)]) ou.val;have c2:=Dv (l:=[(⟨p,false,EX (Co x p)⟩:Tm)]) hV;rw[Zg u u0 u1 hu]at c1;rw[tp]at c2;unfold IP RV;cases hc:Dg [(⟨p,false,EX (Co x p)⟩:Tm)]with
  |none=>rw[hc]at c1;cases c1
  |some c=>
   rw[hc]at c2;intro e;have e:c=[]:=e;rw[e]at c2;cases c2
 have MY:∀S,GH S->Bm (IP p (Co x p)) S=Bm [(⟨p,false,EX (Co x p)⟩:Tm)] S:=fun S v=>RW v DJ;have y0:Ee (IP p (Co x p)) p=true:=by
  cases h:Ee (IP p (Co x p)) p with
  |true=>rfl
  |false=>
   have:=Md ou (.self hV) (K9 h)
   rw[MY _ ou.val,MY _ hV,Zg u u0 u1 hu,tp]at this;cases this
 have vh:Ei x roots s1.2.drv ⟨2,p,0,0,0,0⟩=some (IP p (Co x p)):=by
  unfold Ei;rw[Aj (show ¬((2:Int)=0) by decide),Aj (show ¬((2:Int)=1) by decide),Ap rfl,Ap ⟨rfl,rfl,rfl,rfl⟩];unfold jX;rw[Aj (by rw[HD];exact DJ)]
 obtain⟨b1,b2,b3⟩:=LO a1 vh;have bg:=LP s1.2 ⟨2,p,0,0,0,0⟩ (IP p (Co x p));have b3:(Ev x p s1.2).2.full=false->EC (Ev x p s1.2).2 (Ev x p s1.2).1=IP p (Co x p):=b3
 change FO x roots (Ev x p s1.2).2 at b1
 change (Ev x p s1.2).1<(Ev x p s1.2).2.drv.length at b2
 change Grow s1.2 (Ev x p s1.2).2 at bg
 generalize Ev x p s1.2=s2 at *
 have yV:s2.2.full=false->s1.2.full=false/\s.full=false:=fun h=>by
  have h1:s1.2.full=false:=by
   cases e:s1.2.full with
   |false=>rfl
   |true=>rw[bg.full e]at h;cases h
  refine⟨h1,?_⟩;cases e:s.full with
  |false=>rfl
  |true=>rw[ag.full e]at h1;cases h1
 have main:=Pm (D:=AS dec) (U:=fb p dec) (p:=p) hV ((s2.1,fun k=>has (Co x p) k=false)::L.map fun y=>(y.1,fun k=>k=y.2.place)) (C:=fun k=>has n0.rq.set k=false) b1 (BC a2 bg.len)
  (fun y hy=>by
   rcases Ay.1 hy with rfl|hy
   .exact b2
   .obtain⟨z,hz,rfl⟩:=Ai.1 hy;exact BC (DF z hz) (ag.trans bg).len) (fun hf=>by
   obtain⟨f1,f0⟩:=yV hf;refine⟨?_,fun y hy=>?_⟩
   .rw[bg.at a2,a3 f1];refine⟨hI.form,hI.inU _ (fun h=>Ah _ (Ie.1 (hI.path h))) (by rw[zv];exact Ab ..),hI.viol,fun k k0 k1 hk=>?_⟩;have ok:ae (AS dec) p (Lz (AS dec) p (Rm k)):=.ver hV (Fw ⟨k0,k1⟩);rw[hI.raw _ ok.val,BP];intro t ht;have RL:=BP.1 ((hI.raw _ hV).symm.trans hI.viol) t ht;unfold On at ht;have ng:DG (D1 n0.rq) (B5 (Lz (AS dec) p (Rm k)) (D1 n0.rq).path)=true:=by
     rw[show(D1 n0.rq).path=p from zv,Je xH];exact Tg (.inr ⟨_,rfl,Fw ⟨k0,k1⟩,by rw[show(⟨p,Rm k⟩:Sl).ver=Rm k from rfl,H6];exact hk⟩)
    split at ht
    .rw[Ar.1 ht];exact ng
    .rename_i hm;rcases Ay.1 ht with rfl|ht
     .have DJ:n0.path≠p:=fun e=>by
       have:=hI.path hm
       rw[e,xH]at this;cases this
      rw[show(⟨n0.path,false,[(n0.place,n0.place+1)]⟩:Tm).path=n0.path from rfl]at RL⊢;rw[ok.same _ DJ];exact RL
     .rw[Ar.1 ht];exact ng
   .rcases Ay.1 hy with rfl|hy
    .show qi _ _ p (EC s2.2 s2.1) _;rw[b3 hf];refine⟨NI _,VF (fun t ht=>by rw[Ar.1 ht];exact Ab ..),y0,⟨_,ou,by rw[MY _ ou.val];exact Zg u u0 u1 hu⟩,fun k k0 k1 hk=>?_⟩;rw[MY _ (ae.ver hV (Fw ⟨k0,k1⟩)).val];exact Zg k k0 k1 hk
    .obtain⟨z,hz,rfl⟩:=Ai.1 hy;show qi _ _ p (EC s2.2 z.1) _;rw[(ag.trans bg).at (DF z hz)];obtain⟨e1,e2⟩:=zA f0 z hz;have hzc:z.2∈B7 x p:=by rw[<-hL];exact Ai.2 ⟨z,hz,rfl⟩
     obtain⟨c1,c2⟩:=J7 hzc
     have:=kL hx hd c2 (by rw[c1];exact hN.undone) (hs.forms z.1) e1 (by rw[c1];exact e2)
     rw[c1]at this;exact this)
 have Ady:((s2.1,fun k=>has (Co x p) k=false)::L.map fun y=>(y.1,fun k=>k=y.2.place)).map (·.1)=s2.1::L.map (·.1):=by
  rw[AJ,Bq];rfl
 rw[Ady]at main;obtain⟨m1,m2,m3,m4⟩:=main;refine⟨m1,(ag.trans bg).trans m2,m3,fun hf=>?_⟩;obtain⟨C',q1,q2⟩:=m4 hf;have hnc:Ee (EC (Cw p (s2.1::L.map (·.1)) s1.1 s2.2).2 (Cw p (s2.1::L.map (·.1)) s1.1 s2.2).1) p=false:=by
  rcases q2 with q2|q2
  .exact q2
  .refine oa xH q1.form q1.none_ fun k k0 k1=>q1.cov k k0 k1 (q2 k ?_);cases hn0:has n0.rq.set k with
   |false=>exact .inl rfl
   |true=>
    cases ha:has (Co x p) k with
    |false=>exact .inr ⟨_,Ab ..,ha⟩
    |true=>
     obtain⟨c,hc,e⟩:=(Xn hx).1 ha;rw[<-hL]at hc;obtain⟨z,hz,rfl⟩:=Ai.1 hc;exact .inr ⟨_,Ah _ (Ai.2 ⟨z,hz,rfl⟩),e.symm⟩
 refine Ms.2 ⟨q1.none_,fun t ht=>?_⟩
 have:=q1.inU.2 t ht
 rcases Ay.1 this with e|h
 .exact absurd e (K9 hnc t ht)
 .exact Ie.2 h
end
def HP(s:SS)(b:List Cd)(p:ByteArray)(needs:List Nd):List Cd->List Sk->Prop
 | [],sk=>sk=[]
 |c::cs,sk=>if(needs.all fun n=>has n.rq.set c.place)=true then ∃(k:Nat) (rest:List Sk),sk=⟨p,c.place,k⟩::rest/\(k<s.drv.length/\Dh (EC s k) (AS (b++[c]))=true)/\HP s b p needs cs rest
  else HP s b p needs cs sk
section
variable {s s' : SS}{b:List Cd}{p:ByteArray}{needs:List Nd}
theorem HP.out{c:Cd}(hc:¬(needs.all fun n=>has n.rq.set c.place)=true):∀{cs:List Cd} {sk:List Sk},HP s b p needs cs sk->HP s b p needs (cs++[c]) sk
 | [],sk,h=>by
  show(if _ then _ else _);rw[Aj hc];exact h
 |d::cs,sk,h=>by
  have h:if(needs.all fun n=>has n.rq.set d.place)=true then _ else _:=h
  show(if _ then _ else _)
  by_cases hd:(needs.all fun n=>has n.rq.set d.place)=true
  .rw[Ap hd]at h⊢;obtain⟨k,rest,h1,h2,h3⟩:=h;exact⟨k,rest,h1,h2,HP.out hc h3⟩
  .rw[Aj hd]at h⊢;exact HP.out hc h
theorem HP.add{c:Cd}(hc:(needs.all fun n=>has n.rq.set c.place)=true){k:Nat}(hk:k<s.drv.length/\Dh (EC s k) (AS (b++[c]))=true):∀{cs:List Cd} {sk:List Sk},HP s b p needs cs sk->HP s b p needs (cs++[c]) (sk++[⟨p,c.place,k⟩])
 | [],sk,h=>by
  have h:sk=[]:=h;subst h;show(if _ then _ else _);rw[Ap hc];exact⟨k,[],rfl,hk,rfl⟩
 |d::cs,sk,h=>by
  have h:if(needs.all fun n=>has n.rq.set d.place)=true then _ else _:=h
  show(if _ then _ else _)
  by_cases hd:(needs.all fun n=>has n.rq.set d.place)=true
  .rw[Ap hd]at h⊢;obtain⟨j,rest,rfl,h2,h3⟩:=h;exact⟨j,_,rfl,h2,HP.add hc hk h3⟩
  .rw[Aj hd]at h⊢;exact HP.add hc hk h
theorem HP.mono(hg:Grow s s'):∀{cs:List Cd} {sk:List Sk},HP s b p needs cs sk->HP s' b p needs cs sk
 | [],_,h=>h
 |d::cs,sk,h=>by
  have h:if(needs.all fun n=>has n.rq.set d.place)=true then _ else _:=h
  show(if _ then _ else _)
  by_cases hd:(needs.all fun n=>has n.rq.set d.place)=true
  .rw[Ap hd]at h⊢;obtain⟨j,rest,rfl,h2,h3⟩:=h;exact⟨j,rest,rfl,⟨BC h2.1 hg.len,by rw[hg.at h2.1];exact h2.2⟩,h3.mono hg⟩
  .rw[Aj hd]at h⊢;exact h.mono hg
end
structure uc(x:List Rl)(roots:List Rq)(s:SS)(b:List Cd)(c:Cd)(sk:List Sk)(p:ByteArray)(needs:List Nd)(pre post:List Cd):Prop where
 next:xk roots b p needs
 cands:B7 x p=pre++c::post
 fit:∀n∈needs,has n.rq.set c.place=true
 noclash:En b c=none
 skips:HP s b p needs pre sk
def Ua(x:List Rl)(roots:List Rq)(s:SS):List Cd->List Cd->List (List Sk)->Prop
 |b,[],[]=>L0 (IS roots b) (AS b)=none
 |b,c::t,sk::st=>(∃p needs pre post,uc x roots s b c sk p needs pre post)/\Ua x roots s (b++[c]) t st
 |_,_,_=>False
structure Yw(x:List Rl)(roots:List Rq)(ls:List (List Cd))(dec:List Cd)(s:SS)(st:List (List Sk))(o:KW):Prop where
 der:FO x roots o.ss
 grow:Grow s o.ss
 no:o.found=false->o.dec=dec/\o.stack=st/\(o.ss.full=false->o.res<o.ss.drv.length/\Dh (EC o.ss o.res) (AS dec)=true)
 yes:o.found=true->o.ss.full=false/\∃t sl,o.dec=dec++t/\o.stack=st++sl/\Ua x roots o.ss dec t sl/\ls.head?=some o.dec
section
variable {rec:List Cd->SS->List (List Sk)->KW}{x:List Rl}{roots:List Rq}{p:ByteArray}{needs:List Nd}{n0:Nd}{dec:List Cd}{st:List (List Sk)}
def Jq(rec:List Cd->SS->List (List Sk)->KW)(x:List Rl)(p:ByteArray)(needs:List Nd)(n0:Nd)(dec:List Cd)(st:List (List Sk))(c:Cd)(cs:List Cd)(reasons:List Nat)(skips:List Sk)(k:Nat)(s:SS):KW:=
 if Ee (EC s k) p=false then⟨k,false,s,dec,st⟩else Eh rec x p needs n0 dec st cs s (reasons++[k]) (skips++[⟨p,c.place,k⟩])
theorem Gm(c:Cd)(cs:List Cd)(s:SS)(reasons:List Nat)(skips:List Sk):Eh rec x p needs n0 dec st (c::cs) s reasons skips =
  if s.full=true then⟨0,false,s,dec,st⟩
  else match needs.find? fun n=>!has n.rq.set c.place with
   |some n=>Eh rec x p needs n0 dec st cs (BS s n).2 (reasons++[(BS s n).1]) skips
   |none=>match Pb s.drv (AS (dec++[c]))with
    |some k=>Jq rec x p needs n0 dec st c cs reasons skips k s
    |none=>match En dec c with
     |some n=>Jq rec x p needs n0 dec st c cs reasons skips (BS s n).1 (BS s n).2
     |none=>if(rec (dec++[c]) s (st++[skips])).found=true then⟨0,true,(rec (dec++[c]) s (st++[skips])).ss,(rec (dec++[c]) s (st++[skips])).dec,(rec (dec++[c]) s (st++[skips])).stack⟩
      else if(rec (dec++[c]) s (st++[skips])).ss.full=true then⟨0,false,(rec (dec++[c]) s (st++[skips])).ss,dec,st⟩
      else Jq rec x p needs n0 dec st c cs reasons skips (rec (dec++[c]) s (st++[skips])).res (rec (dec++[c]) s (st++[skips])).ss:=rfl
theorem gF{s:SS}(hs:FO x roots s){n:Nd}(h:∀d,Ei x roots d (Om n)=some (II n)):FO x roots (BS s n).2/\(BS s n).1<(BS s n).2.drv.length/\((BS s n).2.full=false->EC (BS s n).2 (BS s n).1=II n)/\Grow s (BS s n).2:=by
 obtain⟨a1,a2,a3⟩:=LO hs (h s.drv);exact⟨a1,a2,a3,LP _ _ _⟩
theorem Yw.grown{ls:List (List Cd)}{s s' : SS}{o:KW}(hg:Grow s s')(h:Yw x roots ls dec s' st o):Yw x roots ls dec s st o:=⟨h.der,hg.trans h.grow,h.no,h.yes⟩
theorem Xr(hx:A0 x=0)(hr:BH roots=0)(hd:EI x dec)(jI:Iy roots dec)(hN:xk roots dec p needs)(h0:n0∈needs){lv:List Cd->List (List Cd)}(hlv:∀c∈B7 x p,ki dec needs c=true->∀d∈lv (dec++[c]),Lf x roots (dec++[c]) d)
  (Zh:∀c∈B7 x p,ki dec needs c=true->∀s st,FO x roots s->s.full=false->Yw x roots (lv (dec++[c])) (dec++[c]) s st (rec (dec++[c]) s st)) :
  ∀(cs:List Cd) {s:SS} (L:List (Nat×Cd)) {skips:List Sk},L.map (·.2)++cs=B7 x p->FO x roots s->(∀y∈L,y.1<s.drv.length)->(s.full=false->(∀y∈L,Dh (EC s y.1) (AS (dec++[y.2]))=true/\Ee (EC s y.1) p=true)/\HP s dec p needs (L.map (·.2)) skips) ->
   Yw x roots (((B7 x p).map fun c=>if ki dec needs c then lv (dec++[c])else []).flatten) dec s st (Eh rec x p needs n0 dec st cs s (L.map (·.1)) skips)
 | [],s,L,skips,hL,hs,DF,zA=>by
  rw[BQ]at hL;obtain⟨l1,l2,l3,l4⟩:=jR hx hr hd hN h0 L hL hs DF (fun hf=>(zA hf).1);exact⟨l1,l2,fun _=>⟨rfl,rfl,fun hf=>⟨l3,l4 hf⟩⟩,fun h=>(by cases h)⟩
 |c::cs,s,L,skips,hL,hs,DF,zA=>by
  rw[Gm]
  by_cases hf:s.full=true
  .rw[Ap hf];exact⟨hs,.refl s,fun _=>⟨rfl,rfl,fun h=>by rw[show(⟨0,false,s,dec,st⟩:KW).ss=s from rfl,hf]at h;cases h⟩,fun h=>(by cases h)⟩
  rw[Aj hf];have hf:s.full=false:=by simpa using hf
  obtain⟨zB,vA⟩:=zA hf;have hc:c∈B7 x p:=by rw[<-hL];simp
  obtain⟨c1,c2⟩:=J7 hc;have hu:Dt dec c.rel.path=false:=by rw[c1];exact hN.undone
  have hE:=hd.snoc c2 hu
  -- on to the next candidate
  have go:∀(s' : SS) (k:Nat) (ML:List Sk),FO x roots s'->Grow s s'->k<s'.drv.length->(s'.full=false->(Dh (EC s' k) (AS (dec++[c]))=true/\Ee (EC s' k) p=true)/\HP s' dec p needs (L.map (·.2)++[c]) ML) ->
    Yw x roots (((B7 x p).map fun c=>if ki dec needs c then lv (dec++[c])else []).flatten) dec s st (Eh rec x p needs n0 dec st cs s' (L.map (·.1)++[k]) ML):=fun s' k ML ZU hg hk DJ=>by
   have:=Xr hx hr hd jI hN h0 hlv Zh cs (s:=s') (L++[(k,c)]) (skips:=ML) (by rw[At,BD];exact hL) ZU
    (fun y hy=>by
     rcases AN.1 hy with hy|hy
     .exact BC (DF y hy) hg.len
     .rw[Ar.1 hy];exact hk)
    (fun bt=>by
     obtain⟨e1,e2⟩:=DJ bt;refine⟨fun y hy=>?_,by rw[At];exact e2⟩;rcases AN.1 hy with hy|hy
     .rw[hg.at (DF y hy)];exact zB y hy
     .rw[Ar.1 hy];exact e1)
   rw[At]at this;exact this.grown hg
  cases vd:needs.find? fun n=>!has n.rq.set c.place with
  |some n=>
   dsimp only;have lu:=BI vd;have q8:=Dy vd;have q8:has n.rq.set c.place=false:=by simpa using q8
   obtain⟨hn3,hn4⟩:=(hN.mem n).1 lu;obtain⟨e1,e2,e3⟩:=QM hx hr hE (Pp hn3) ⟨c,by simp,by rw[c1,hn4],q8⟩;obtain⟨i1,i2,i3,i4⟩:=gF hs e1;refine go _ _ _ i1 i4 i2 fun bt=>?_;rw[i3 bt];exact⟨⟨e2,jY hx hr hd hN hc lu q8⟩,HP.out (by
    intro h;rw[A1]at h;rw[h n lu]at q8;cases q8) (vA.mono i4)⟩
  |none=>
   dsimp only;have dY:∀n∈needs,has n.rq.set c.place=true:=fun n hn=>by
    rw[DI]at vd;simpa using vd n hn
   have GJ:(needs.all fun n=>has n.rq.set c.place)=true:=by rw[A1];exact dY
   have lE:∀(s' : SS) (k:Nat),FO x roots s'->Grow s s'->k<s'.drv.length->(s'.full=false->Dh (EC s' k) (AS (dec++[c]))=true) ->
     Yw x roots (((B7 x p).map fun c=>if ki dec needs c then lv (dec++[c])else []).flatten) dec s st (Jq rec x p needs n0 dec st c cs (L.map (·.1)) skips k s'):=fun s' k ZU hg hk he=>by
    unfold Jq;cases tb:Ee (EC s' k) p with
    |false=>
     rw[Ap rfl];exact⟨ZU,hg,fun _=>⟨rfl,rfl,fun bt=>⟨hk,my hx hd c2.1 (he bt) (by rw[c1];exact tb)⟩⟩,fun h=>(by cases h)⟩
    |true=>
     rw[Aj Cl];exact go _ _ _ ZU hg hk fun bt=>⟨⟨he bt,tb⟩,HP.add GJ ⟨hk,he bt⟩ (vA.mono hg)⟩
   cases hen:Pb s.drv (AS (dec++[c]))with
   |some k=>
    dsimp only;obtain⟨k1,k2⟩:=LU hen;exact lE s k hs (.refl s) k1 fun _=>k2
   |none=>
    dsimp only;cases hcl:En dec c with
    |some n=>
     dsimp only;obtain⟨m1,m2⟩:=Mo hcl;obtain⟨e1,e2,e3⟩:=QM hx hr hE (N9 m1) m2;obtain⟨i1,i2,i3,i4⟩:=gF hs e1;exact lE _ _ i1 i4 i2 fun bt=>by rw[i3 bt];exact e2
    |none=>
     dsimp only;have G1:ki dec needs c=true:=QU.2 ⟨dY,hcl⟩;have hR:=Zh c hc G1 s (st++[skips]) hs hf;generalize rec (dec++[c]) s (st++[skips])=o at hR
     by_cases OD:o.found=true
     .rw[Ap OD];obtain⟨y1,t,sl,y2,y3,y4,y5⟩:=hR.yes OD;refine⟨hR.der,hR.grow,fun h=>(by cases h),fun _=>⟨y1,c::t,skips::sl,by show o.dec=_;rw[y2];simp,by show o.stack=_;rw[y3];simp,⟨⟨p,needs,L.map (·.2),cs,hN,hL.symm,dY,hcl,vA.mono hR.grow⟩,y4⟩,?_⟩⟩;show _=some o.dec;rw[<-hL,At,Cm,AJ,BE];have vu:((L.map (·.2)).map fun c=>if ki dec needs c then lv (dec++[c])else []).flatten=[]:=by
       rw[List.flatten_eq_nil_iff];intro l hl;obtain⟨d,p6,rfl⟩:=Ai.1 hl;obtain⟨y,hy,rfl⟩:=Ai.1 p6;split
       .rename_i hoy;have hyc:y.2∈B7 x p:=by rw[<-hL];exact By _ p6
        refine M3.2 fun d Adk=>rJ hx hs (DF y hy) (zB y hy).1 (hlv y.2 hyc hoy d Adk)
       .rfl
      rw[vu,FY,Ap G1,List.head?_append,y5];rfl
     .rw[Aj OD];have OD:o.found=false:=by simpa using OD
      obtain⟨n1,n2,n3⟩:=hR.no OD
      by_cases ve:o.ss.full=true
      .rw[Ap ve];exact⟨hR.der,hR.grow,fun _=>⟨rfl,rfl,fun h=>by rw[show(⟨0,false,o.ss,dec,st⟩:KW).ss=o.ss from rfl,ve]at h;cases h⟩,fun h=>(by cases h)⟩
      .rw[Aj ve];have ve:o.ss.full=false:=by simpa using ve
       exact lE _ _ hR.der hR.grow (n3 ve).1 fun _=>(n3 ve).2
end
theorem UY(h:c.rel∈x/\c.rel.yanked=false)(hu:Dt dec c.rel.path=false):Gn x (dec++[c])<Gn x dec:=by
 have key:∀l:List Rl,(l.filter fun r=>!r.yanked&&!Dt (dec++[c]) r.path).length<=(l.filter fun r=>!r.yanked&&!Dt dec r.path).length /\
   (c.rel∈l->(l.filter fun r=>!r.yanked&&!Dt (dec++[c]) r.path).length<(l.filter fun r=>!r.yanked&&!Dt dec r.path).length):=by
  intro l
  induction l with
  |nil=>exact⟨Am _,fun h=>(by cases h)⟩
  |cons r l ih=>
   have nq:(!r.yanked&&!Dt (dec++[c]) r.path)=true->(!r.yanked&&!Dt dec r.path)=true:=fun e=>by
    simp only[Af,CK]at e⊢;refine⟨e.1,?_⟩
    have:=e.2
    unfold Dt at this⊢;rw[FW,Bool.or_eq_false_iff]at this;exact this.1
   rw[Dx,Dx];refine⟨?_,fun hm=>?_⟩
   .by_cases e:(!r.yanked&&!Dt (dec++[c]) r.path)=true
    .rw[Ap e,Ap (nq e)];simp;exact ih.1
    .rw[Aj e];split
     .simp;have:=ih.1;omega
     .exact ih.1
   .rcases Ay.1 hm with rfl|hm
    .have e1:¬(!c.rel.yanked&&!Dt (dec++[c]) c.rel.path)=true:=by
      have:Dt (dec++[c]) c.rel.path=true:=by unfold Dt;simp
      rw[this];simp
     have e2:(!c.rel.yanked&&!Dt dec c.rel.path)=true:=by rw[h.2,hu];rfl
     rw[Aj e1,Ap e2];simp;have:=ih.1;omega
    .have:=ih.2 hm
     by_cases e:(!r.yanked&&!Dt (dec++[c]) r.path)=true
     .rw[Ap e,Ap (nq e)];simp;exact this
     .rw[Aj e];split
      .simp;omega
      .exact this
 exact(key x).2 h.1
theorem Si{x:List Rl}{roots:List Rq}(hx:A0 x=0)(hr:BH roots=0):∀(n:Nat) {dec:List Cd} {s:SS} {st:List (List Sk)},EI x dec->Iy roots dec->FO x roots s->s.full=false->Gn x dec<n ->
  Yw x roots (Ht x roots n dec) dec s st (Do x roots n dec s st)
 |0,_,_,_,_,_,_,_,h=>by omega
 |n+1,dec,s,st,hd,jI,hs,hf,hn=>by
  unfold Do Ht;cases e:(Fb roots dec).2 with
  |nil=>
   exact⟨hs,.refl s,fun h=>(by cases h),fun _=>⟨hf,[],[],by simp,by simp,Vz.1 e,rfl⟩⟩
  |cons n0 l=>
   have hN:=MB e;have next:∀c∈B7 x (Fb roots dec).1,ki dec (n0::l) c=true->EI x (dec++[c])/\Iy roots (dec++[c])/\Gn x (dec++[c])<n:=fun c hc G1=>by
    obtain⟨c1,c2⟩:=J7 hc;have hu:Dt dec c.rel.path=false:=by rw[c1];exact hN.undone
    obtain⟨k1,k2⟩:=QU.1 G1;exact⟨hd.snoc c2 hu,jI.snoc hN c1 k1 k2,by have:=UY (dec:=dec) ⟨c2.1,c2.2.1⟩ hu;omega⟩
   exact Xr hx hr hd jI hN (Ab ..) (lv:=Ht x roots n) (fun c hc G1 d p6=>I9 (next c hc G1).1 (next c hc G1).2.1 d p6)
    (fun c hc G1 s st hs hf=>Si hx hr n (next c hc G1).1 (next c hc G1).2.1 hs hf (next c hc G1).2.2) _ [] rfl hs (fun y hy=>by cases hy) (fun _=>⟨fun y hy=>(by cases hy),rfl⟩)
theorem bi(x:List Rl)(dec:List Cd):Gn x dec<=x.length:=Bx _ _
theorem Kq(hx:A0 x=0)(hr:BH roots=0):Yw x roots (Ht x roots (x.length+1) []) [] ss0 [] (DM x roots):=
 Si hx hr _ (.nil x) (.nil roots) (.nil x roots) rfl (by have:=bi x [];omega)
end Go.Eng
