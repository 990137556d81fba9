/- Lemmas 3. -/
import Derived.Test.YtjhkbdgingfbaaaGreatDoorHA02
namespace Go.Eng
variable {p:ByteArray}{x:List Rl}{dec:List Cd}{roots:List Rq}{D:List Sl}{t:List Tm}{c:Cd}{s:List UInt8}{n:Nd}{S:List Sl}{E:List Cd}{needs:List Nd}{d:List Cd}{k:Int}{v v':Ver}{r:Rl}{q:Rq}
theorem MQ:∀{l:List Rq} {b:Option ByteArray},Gg b l=0->∀q∈l,q.set≠[]/\ET q.set
 | [],_,_,q,hq=>by cases hq
 |r::l,b,h,q,hq=>by
  unfold Gg at h;split at h
  .rename_i e;rcases Ay.1 hq with rfl | hq
   .unfold IH at e
    by_cases h1:(Bs q.path).isNone=true
    .rw[As h1]at e;exact absurd e Cl
    rw[Ah h1]at e;cases hE:q.set.isEmpty with
    |true=>rw[hE]at e;simp at e
    |false=>
     cases hD:decide (q.set=canon q.set)with
     |false=>rw[hD]at e;simp at e
     |true=>
      have h3:q.set=canon q.set:=BO hD;exact⟨by simpa using hE,by rw[h3];exact Cv _⟩
   .exact MQ h q hq
  .rename_i e;exact absurd h e
theorem LY{l:List Rq}(h:B5 l=0):∀q∈l,q.set≠[]/\ET q.set:=by
 unfold B5 at h;split at h
 .cases h
 .exact MQ h
abbrev Ql(k:Int):Ver:=⟨0,k / 1000,k % 1000⟩
theorem HD(k:Int):place (Ql k)=k:=by unfold place;show 1000*(k / 1000)+k % 1000=k;omega
theorem Fo(h:0<=k/\k<1000000):B3 (Ql k)=true:=by
 unfold B3 okPart;simp only[Af];exact⟨⟨Ap ch,Ap ch⟩,Ap ch⟩
structure Y8(D:List Sl)(p:ByteArray)(S:List Sl):Prop where
 val:Gz S
 same:∀q,q≠p->Ct S q=Ct D q
abbrev KX(D:List Sl)(p:ByteArray)(v:Ver):List Sl:=D++[⟨p,v⟩]
theorem KN(a b:List Sl)(p:ByteArray):Ct (a++b) p=(Ct a p).or (Ct b p):=by
 unfold Ct;rw[List.find?_append]
theorem H6{s:List Sl}(h:CO s p=false):Ct s p=none:=by
 rw[Kv]at h;cases e:Ct s p with
 |none=>rfl
 |some y=>rw[e]at h;cases h
theorem Y8.self(h:Gz D):Y8 D p D:=⟨h,fun _ _=>rfl⟩
theorem Y8.ver(h:Gz D)(hv:B3 v=true):Y8 D p (KX D p v):=by
 refine⟨fun y hy=>?_,fun q hq=>?_⟩
 .rcases AT.1 hy with hy | hy
  .exact h y hy
  .rw[Aj.1 hy];exact hv
 .rw[KN]
  have:Ct [(⟨p,v⟩:Sl)] q=none:=by unfold Ct;simp[Ne.symm hq]
  rw[this,Option.or_none]
theorem IF(hp:CO D p=false)(v:Ver):Ct (KX D p v) p=some ⟨p,v⟩:=by
 rw[KN,H6 hp];unfold Ct;simp
theorem Sb(hp:CO D p=false)(hv:B3 v=true)(zU : B3 v'=true)(e:place v=place v')(q:ByteArray)(t:Tm) :
  Dp t (Ct (KX D p v) q)=Dp t (Ct (KX D p v') q):=by
 by_cases hq:q=p
 .subst hq;rw[IF hp,IF hp];show(B3 v&&has t.set (place v))=(B3 v'&&has t.set (place v'));rw[hv,zU,e]
 .have h1:∀w:Ver,Ct (KX D p w) q=Ct D q:=fun w=>by
   rw[KN]
   have:Ct [(⟨p,w⟩:Sl)] q=none:=by unfold Ct;simp[Ne.symm hq]
   rw[this,Option.or_none]
  rw[h1,h1]
theorem dN(hp:CO D p=false)(hv:B3 v=true)(zU : B3 v'=true)(e:place v=place v')(t:List Tm):Bf t (KX D p v)=Bf t (KX D p v'):=by
 rw[BV,Bz,Bz];exact⟨fun h u hu=>by rw[<-Sb hp hv zU e];exact h u hu,fun h u hu=>by rw[Sb hp hv zU e];exact h u hu⟩
theorem LM{S':List Sl}(h:Y8 D p S)(h' : Y8 D p S')(ht:∀u∈t,u.path≠p):Bf t S=Bf t S':=by
 rw[BV,Bz,Bz];exact⟨fun k u hu=>by rw[h'.same _ (ht u hu),<-h.same _ (ht u hu)];exact k u hu,fun k u hu=>by rw[h.same _ (ht u hu),<-h'.same _ (ht u hu)];exact k u hu⟩
theorem Kq(h:DZ t p=false):∀u∈t,u.path≠p:=fun u hu e=>by
 unfold DZ at h;rw[DE]at h;exact h u hu (by simpa using e)
theorem TO(h:DZ t p=true):∃u∈t,u.path=p:=by
 unfold DZ at h;rw[AX]at h;obtain⟨u,hu,e⟩:=h;exact⟨u,hu,by simpa using e⟩
theorem Vm(hf:Form t)(hc:DZ t p=true):∃u r,FF t p=some (u,r)/\u.path=p/\∀v∈r,v.path≠p:=by
 obtain⟨u,hu,e⟩:=TO hc;have hs:=E9 hf;have tJ:=(FW hs).1 hu;rw[e]at tJ;refine⟨u,F4 t p,?_,e,fun v hv=>?_⟩
 .unfold FF;rw[show CW t=some t from hf];dsimp only;rw[tJ]
 .have:=(BG.1 hv).2
  simpa using this
theorem YO{b:List Tm}(mi:Form t)(tH:Form b)(hct:DZ t p=true)(xE:DZ b p=true){S1 S2:List Sl}(h1:Y8 D p S1)(v1:Bf t S1=true)(h2:Y8 D p S2)(v2:Bf b S2=true) :
  (BK t b p).2=0/\∀S,Y8 D p S->Bf t S=true\/Bf b S=true->Bf (BK t b p).1 S=true:=by
 obtain⟨u,r,e1,pu,nr⟩:=Vm mi hct;obtain⟨w,m,e2,pw,nm⟩:=Vm tH xE;have key:∀S,Y8 D p S->Bf t S=true\/Bf b S=true->Bf (r++m++[Do u w]) S=true:=fun S hS hv=>by
  have r1:Bf r S=true:=by
   rw[LM hS h1 nr];rw[(F3 h1.val e1).1,Af]at v1;exact v1.2
  have m1:Bf m S=true:=by
   rw[LM hS h2 nm];rw[(F3 h2.val e2).1,Af]at v2;exact v2.2
  rw[Hx,Hx,r1,m1];simp only[Ep];rw[Bz];intro y hy;rw[Aj.1 hy,show(Do u w).path=p from pu,Oa,CD];rcases hv with hv | hv
  .rw[(F3 hS.val e1).1,Af]at hv;exact .inl hv.1
  .rw[(F3 hS.val e2).1,Af]at hv;exact .inr hv.1
 unfold BK;rw[e1,e2];dsimp only;have c1:=Dd (l:=r++m++[Do u w]) h1.val;rw[key S1 h1 (.inl v1)]at c1;cases hc:CW (r++m++[Do u w])with
 |none=>rw[hc]at c1;cases c1
 |some o=>
  dsimp only;refine⟨rfl,fun S hS hv=>?_⟩;have c2:=Dd (l:=r++m++[Do u w]) hS.val;rw[hc,key S hS hv]at c2;exact c2.symm
theorem m8(hp:CO D p=false)(hf:Form t)(h0:Bf t D=true)(hk:∀k:Int,0<=k->k<1000000->Bf t (KX D p (Ql k))=true):DZ t p=false:=by
 rw[AH];intro hc;obtain⟨u,hu,e⟩:=TO hc;have ha:u.absent=true:=by
  have:=Bz.1 h0 u hu
  rw[e,H6 hp]at this;exact this
 have hs:∀k:Int,0<=k->k<1000000->has u.set k=true:=fun k k0 k1=>by
  have:=Bz.1 (hk k k0 k1) u hu
  rw[e,IF hp]at this;unfold Dp at this;rw[Af]at this
  have:=this.2
  rw[show(⟨p,Ql k⟩:Sl).ver=Ql k from rfl,HD]at this;exact this
 have vD:ET u.set:=Ch.canon (E9 hf) u hu;have mj:u.set=[(0,1000000)]:=by
  refine H2 vD ⟨by decide,by decide,by decide,trivial⟩ fun k=>?_;rw[BV];constructor
  .intro h
   have:=M2 h
   unfold has;simp[BN,this.1,this.2]
  .intro h
   have:=M2 h
   exact hs k this.1 this.2
 have hal:GY u=true:=by unfold GY;rw[ha,mj];rfl
 have zI:CW t=some t:=hf;unfold CW at zI;split at zI
 .cases zI
 .have e2:=BW zI;rw[<-e2]at hu
  have:=(BG.1 hu).2
  rw[hal]at this;cases this
structure EG(x:List Rl)(dec:List Cd):Prop where
 cand:∀c∈dec,c.rel∈x/\c.rel.yanked=false/\c.place=plc c.rel.ver
 nodup:(dec.map fun c=>c.rel.path).Nodup
theorem EG.nil(x:List Rl):EG x []:=⟨fun _ h=>(by cases h),Fz⟩
theorem UU(h:Ts r):r.path≠mt:=fun e=>by
 have:=h.maj
 rw[e]at this;have h2:Bs mt=none:=by decide
 rw[h2]at this;cases this
theorem Ts.set{r:Rl}(h:Ts r):∀q∈r.reqs,q.set≠[]/\ET q.set:=LY h.reqs
theorem Mb(dec:List Cd):(AG dec).map (·.path)=dec.map fun c=>c.rel.path:=by unfold AG;rw[Bw];rfl
theorem T6:∀{D:List Sl},(D.map (·.path)).Nodup->∀{y:Sl},y∈D->Ct D y.path=some y
 | [],_,y,h=>by cases h
 |z::D,hn,y,h=>by
  simp only[AK,CN]at hn;unfold Ct;rw[D7];rcases Ay.1 h with rfl | h
  .rw[Ap rfl]
  .have:z.path≠y.path:=fun e=>hn.1 (Ak.2 ⟨y,h,e.symm⟩)
   rw[Am this];exact T6 hn.2 h
theorem EG.find(h:EG x dec)(hc:c∈dec):Ct (AG dec) c.rel.path=some (QY c):=
 T6 (by rw[Mb];exact h.nodup) (y:=QY c) (Ak.2 ⟨c,hc,rfl⟩)
theorem EG.valid(hx:Bd x=0)(h:EG x dec):Gz (AG dec):=fun y hy=>by
 obtain⟨c,hc,rfl⟩:=Ak.1 hy;exact((CF hx).1 _ (h.cand c hc).1).val
theorem EG.snoc(h:EG x dec)(hc:c.rel∈x/\c.rel.yanked=false/\c.place=plc c.rel.ver)(hd:Da dec c.rel.path=false):EG x (dec++[c]):=by
 refine⟨fun d hd=>?_,?_⟩
 .rcases AT.1 hd with hd | hd
  .exact h.cand d hd
  .rw[Aj.1 hd];exact hc
 .rw[Az,GK];refine⟨h.nodup,by simp,fun a ha b hb e=>?_⟩;obtain⟨d,oR,rfl⟩:=Ak.1 ha;simp only[AK,Eb,Aj]at hb;unfold Da at hd;rw[DE]at hd;exact hd d oR (by simpa using e.trans hb)
theorem Lx(h:n∈Dh roots E):(∃k q,roots[k]?=some q/\n=⟨q,mt,0,(k:Nat)⟩)\/∃c∈E,∃k q,c.rel.reqs[k]?=some q/\n=⟨q,c.rel.path,c.place,(k:Nat)⟩:=by
 unfold Dh at h;rcases AT.1 h with h | h
 .obtain⟨k,q,h1,h2⟩:=aX h;exact .inl ⟨k,q,h1,h2⟩
 .obtain⟨l,hl,hn⟩:=DQ.1 h;obtain⟨c,hc,rfl⟩:=Ak.1 hl;obtain⟨k,q,h1,h2⟩:=aX hn;exact .inr ⟨c,hc,k,q,h1,h2⟩
theorem OI(h:n∈Dh roots dec):n∈Dh roots (dec++[c]):=by
 unfold Dh at *
 rw[Az,Cs,<-Bm];exact Bn _ h
theorem NG(h:n∈Rn c):n∈Dh roots (dec++[c]):=by
 unfold Dh;rw[Az,Cs,<-Bm];exact Bg _ (by simpa using h)
def NV(n:Nd):List Tm:=if n.path=mt then [DK n.rq]else [⟨n.path,false,[(n.place,n.place+1)]⟩,DK n.rq]
theorem PL(n:Nd):H9 n=Rg (NV n):=by unfold H9 NV J9 EA;split<;>rfl
theorem fI{s:Bl}(h:s≠[])(hc:ET s):∃k,has s k=true:=by
 match s,h,hc with
 |x::r,_,hc=>
  have:=E2.low hc x (Ab ..)
  refine⟨x.1,?_⟩;unfold has;have h1:BN x.1 x=true:=DS.2 ⟨By _,this.2.1⟩;simp only[Cb,h1,Bool.true_or,Bool.and_true,Af,Au];omega
theorem Sq{o:Option Sl}(h:o=none\/∃y,o=some y/\B3 y.ver=true/\has q.set (place y.ver)=false):Dp (DK q) o=true:=by
 rcases h with rfl | ⟨y,rfl,hv,hq⟩
 .rfl
 .show(B3 y.ver&&has (EC q.set) (place y.ver))=true
  have:=J8 hv
  rw[hv,FX,hq];unfold MF;simp[this.1,this.2]
theorem US{y:Sl}(hq:has q.set (place y.ver)=true):Dp (DK q) (some y)=false:=by
 show(B3 y.ver&&has (EC q.set) (place y.ver))=false;rw[FX,hq];simp
structure wj(x:List Rl)(roots:List Rq)(S:List Sl)(n:Nd):Prop where
 inf:∀d,D4 x roots d (NT n)=some (H9 n)
 viol:Bf (H9 n) S=true
 raw:∀S',Gz S'->Bf (H9 n) S'=Bf (NV n) S'
 form:Form (H9 n)
 inU:∀U:List ByteArray,(n.path≠mt->n.path∈U)->n.rq.path∈U->VY U (H9 n)
 path:n.path≠mt->CO S n.path=true
theorem S0(hx:Bd x=0)(hr:B5 roots=0)(hE:EG x E)(hn:n∈Dh roots E)(hv:Ct (AG E) n.rq.path=none\/∃y,Ct (AG E) n.rq.path=some y/\has n.rq.set (place y.ver)=false):wj x roots (AG E) n:=by
 have hV:=hE.valid hx;have mq:Dp (DK n.rq) (Ct (AG E) n.rq.path)=true:=Sq (hv.imp id fun⟨y,h1,h2⟩=>⟨y,h1,hV y (JT h1),h2⟩)
 -- the raw list is Bf here,and not elsewhere
 have OC:n.rq.set≠[]/\ET n.rq.set:=by
  rcases Lx hn with ⟨k,q,h1,rfl⟩ | ⟨c,hc,k,q,h1,rfl⟩
  .exact LY hr q (Av h1)
  .exact((CF hx).1 _ (hE.cand c hc).1).set q (Av h1)
 have Yn:Bf (NV n) (AG E)=true/\(n.path≠mt->CO (AG E) n.path=true):=by
  rcases Lx hn with ⟨k,q,h1,rfl⟩ | ⟨c,hc,k,q,h1,rfl⟩
  .refine⟨?_,fun h=>absurd rfl h⟩;unfold NV;rw[As rfl,Bz];intro u hu;rw[Aj.1 hu];exact mq
  .have Dv:=UU ((CF hx).1 _ (hE.cand c hc).1);refine⟨?_,fun _=>by rw[Kv,hE.find hc];rfl⟩;unfold NV;rw[Ah Dv,Bz];intro u hu;rcases Ay.1 hu with rfl | hu
   .show Dp _ (Ct (AG E) c.rel.path)=true;rw[hE.find hc];show(B3 c.rel.ver&&has [(c.place,c.place+1)] (place c.rel.ver))=true;have FY:=(CF hx).1 _ (hE.cand c hc).1;have hp:=J8 FY.val;rw[FY.val,(hE.cand c hc).2.2,FY.plc];unfold has;simp[BN,hp.1,hp.2];omega
   .rw[Aj.1 hu];exact mq
 have AbX:∃S',Gz S'/\Bf (NV n) S'=false:=by
  unfold NV;split
  .obtain⟨k,hk⟩:=fI OC.1 OC.2;have kk:=M2 hk;refine⟨[⟨n.rq.path,Ql k⟩],fun y hy=>by rw[Aj.1 hy];exact Fo kk,?_⟩;rw[AH];intro h
   have:=Bz.1 h (DK n.rq) (Aj.2 rfl)
   rw[show(DK n.rq).path=n.rq.path from rfl,show Ct [(⟨n.rq.path,Ql k⟩:Sl)] n.rq.path=some ⟨n.rq.path,Ql k⟩ by unfold Ct;simp,US (by rw[show(⟨n.rq.path,Ql k⟩:Sl).ver=Ql k from rfl,HD];exact hk)]at this;cases this
  .refine⟨[],fun y hy=>(by cases hy),?_⟩;rw[AH];intro h
   have:=Bz.1 h _ (Ab ..)
   cases this
 obtain⟨Yn,yd⟩:=Yn;have Dv:Rg (NV n)≠[]:=by
  obtain⟨S',v',n'⟩:=AbX;have c1:=Dd (l:=NV n) hV;have c2:=Dd (l:=NV n) v';unfold Rg;cases hc:CW (NV n)with
  |none=>rw[hc,Yn]at c1;cases c1
  |some c=>
   rw[hc,n']at c2;intro e;have e:c=[]:=e;rw[e]at c2;cases c2
 have rY:∀S',Gz S'->Bf (H9 n) S'=Bf (NV n) S':=fun S' v=>by rw[PL];exact Rh v Dv
 refine⟨fun d=>?_,by rw[rY _ hV];exact Yn,rY,by rw[PL];exact Ng _,fun U h1 h2=>?_,yd⟩
 .rcases Lx hn with ⟨k,q,h1,rfl⟩ | ⟨c,hc,k,q,h1,rfl⟩
  .show D4 x roots d (if(mt:ByteArray)=mt then⟨0,mt,0,(k:Nat),0,0⟩else _)=some (if(mt:ByteArray)=mt then J9 q else _);rw[As rfl,As rfl];show(if mt=mt/\(0:Int)=0/\(0:Int)=0/\(0:Int)=0 then(J5 roots (k:Nat)).map J9 else none)=some (J9 q);rw[As ⟨rfl,rfl,rfl,rfl⟩];unfold J5;rw[Ah ch,BE,h1];rfl
  .have FY:=(CF hx).1 _ (hE.cand c hc).1;have Vv:=UU FY;have Ac9:P0 x c.rel.path c.place=some c.rel:=by
    unfold P0;cases hf:x.find? fun r=>decide (r.path=c.rel.path)&&decide (plc r.ver=c.place)with
    |none=>
     rw[EE]at hf;exact absurd (by simp[(hE.cand c hc).2.2]) (hf c.rel (hE.cand c hc).1)
    |some r=>
     have h2:=DL hf;simp only[Af,Au]at h2;have eO:=BP hf;have Ac1:=(CF hx).1 r eO;rw[fG (CF hx) eO (hE.cand c hc).1 h2.1 (by rw[<-Ac1.plc,h2.2,(hE.cand c hc).2.2,FY.plc])]
   have e1:NT ⟨q,c.rel.path,c.place,(k:Nat)⟩=⟨1,c.rel.path,c.place,(k:Nat),0,0⟩:=by unfold NT;rw[Ah Vv]
   have e2:H9 ⟨q,c.rel.path,c.place,(k:Nat)⟩=EA c.rel.path c.place q:=by unfold H9;rw[Ah Vv]
   rw[e1,e2];unfold D4;rw[Ah (show ¬((1:Int)=0) by decide),As rfl,As ⟨rfl,rfl⟩];dsimp only;rw[Ac9];dsimp only;unfold J5;rw[Ah ch,BE,h1];dsimp only;unfold iW;rw[Ah];rw[Hf,<-e2,PL];exact Dv
 .rw[PL];refine UP fun u hu=>?_;unfold NV at hu;split at hu
  .rw[Aj.1 hu];exact h2
  .rename_i hm;rcases Ay.1 hu with rfl | hu
   .exact h1 hm
   .rw[Aj.1 hu];exact h2
structure o9(D:List Sl)(U:List ByteArray)(p:ByteArray)(t:List Tm)(C:Int->Prop):Prop where
 form:Form t
 inU:VY U t
 conc:DZ t p=true
 one:∃S,Y8 D p S/\Bf t S=true
 cov:∀k:Int,0<=k->k<1000000->C k->Bf t (KX D p (Ql k))=true
structure sq(D:List Sl)(U:List ByteArray)(p:ByteArray)(t:List Tm)(C:Int->Prop):Prop where
 form:Form t
 inU:VY U t
 none_:Bf t D=true
 cov:∀k:Int,0<=k->k<1000000->C k->Bf t (KX D p (Ql k))=true
theorem FG.forms{s:SS}(h:FG x roots s):∀k,Form (Eo s k):=fun k=>by
 unfold Eo;rw[BU];cases e:s.drv[k]? with
 |none=>exact PB
 |some t=>exact N1 (fun _ h=>by cases h) h.der t (Av e)
theorem WA{d:List (List Tm)}{k r:Nat}(hk:k<d.length)(hr:r<d.length)(h0:(BK (d.getD k []) (d.getD r []) p).2=0) :
  D4 x roots d ⟨3,p,0,0,(k:Nat),(r:Nat)⟩=some (BK (d.getD k []) (d.getD r []) p).1:=by
 have e:∀j:Nat,j<d.length->J5 d (j:Nat)=some (d.getD j []):=fun j hj=>by
  unfold J5;rw[Ah ch,BE,BU,At hj];rfl
 unfold D4;rw[Ah (show ¬((3:Int)=0) by decide),Ah (show ¬((3:Int)=1) by decide),Ah (show ¬((3:Int)=2) by decide),As rfl,As ⟨rfl,rfl⟩];dsimp only;rw[e k hk,e r hr];dsimp only;rw[As h0]
theorem OF{x:List Rl}{roots:List Rq}{D:List Sl}{U:List ByteArray}{p:ByteArray}(hD:Gz D):∀(l:List (Nat×(Int->Prop))) {k:Nat} {s:SS} {C:Int->Prop},FG x roots s->k<s.drv.length->(∀y∈l,y.1<s.drv.length) ->
  (s.full=false->sq D U p (Eo s k) C/\∀y∈l,o9 D U p (Eo s y.1) y.2) ->
  FG x roots (Cj p (l.map (·.1)) k s).2/\Grow s (Cj p (l.map (·.1)) k s).2/\(Cj p (l.map (·.1)) k s).1<(Cj p (l.map (·.1)) k s).2.drv.length /\
  ((Cj p (l.map (·.1)) k s).2.full=false->∃C',sq D U p (Eo (Cj p (l.map (·.1)) k s).2 (Cj p (l.map (·.1)) k s).1) C' /\
   (DZ (Eo (Cj p (l.map (·.1)) k s).2 (Cj p (l.map (·.1)) k s).1) p=false\/∀j,C j\/(∃y∈l,y.2 j)->C' j))
 | [],k,s,C,hd,hk,_,hA=>⟨hd,.refl s,hk,fun hf=>⟨C,(hA hf).1,.inr fun j hj=>hj.elim id fun⟨y,hy,_⟩=>(by cases hy)⟩⟩
 |y::l,k,s,C,hd,hk,hl,hA=>by
  rw[AK]
  by_cases h1:s.full=true\/DZ (Eo s k) p=false
  .have e:Cj p (y.1::l.map (·.1)) k s=(k,s):=by unfold Cj;rw[As h1]
   rw[e];refine⟨hd,.refl s,hk,fun hf=>⟨C,(hA hf).1,.inl (h1.resolve_left fun e=>?_)⟩⟩;have hf:s.full=false:=hf;rw[e]at hf;cases hf
  simp only[not_or,Bool.not_eq_true,RK]at h1;obtain⟨hf,Vu⟩:=h1;obtain⟨pW,hA2⟩:=hA hf;have hy:=hA2 y (Ab ..);have hi:¬(s.full=true\/DZ (Eo s k) p=false):=by rw[hf,Vu];simp
  by_cases h2:y.1=k
  .have e:Cj p (y.1::l.map (·.1)) k s=Cj p (l.map (·.1)) k s:=by conv=>lhs;unfold Cj;rw[Ah hi,As h2]
   rw[e];have hA' : sq D U p (Eo s k) fun j=>C j\/y.2 j:=⟨pW.form,pW.inU,pW.none_,fun j j0 j1 hj=>hj.elim (pW.cov j j0 j1) fun h=>by rw[<-h2];exact hy.cov j j0 j1 h⟩;obtain⟨i1,i2,i3,i4⟩:=OF hD l hd hk (fun z hz=>hl z (Ae _ hz)) (fun _=>⟨hA',fun z hz=>hA2 z (Ae _ hz)⟩);refine⟨i1,i2,i3,fun hf=>?_⟩;obtain⟨C',j1,j2⟩:=i4 hf;refine⟨C',j1,j2.imp id fun h j hj=>h j ?_⟩;rcases hj with hj | ⟨z,hz,hj⟩
   .exact .inl (.inl hj)
   .rcases Ay.1 hz with rfl | hz
    .exact .inl (.inr hj)
    .exact .inr ⟨z,hz,hj⟩
  .obtain⟨S2,o2,v2⟩:=hy.one;obtain⟨r1,r2⟩:=YO pW.form hy.form Vu hy.conc (.self hD) pW.none_ o2 v2;have e:Cj p (y.1::l.map (·.1)) k s=Cj p (l.map (·.1)) (Eg s ⟨3,p,0,0,k,y.1⟩ (BK (Eo s k) (Eo s y.1) p).1).1 (Eg s ⟨3,p,0,0,k,y.1⟩ (BK (Eo s k) (Eo s y.1) p).1).2:=by
    conv=>lhs;unfold Cj;rw[Ah hi,Ah h2,Ah (fun h=>h r1)]
   rw[e];have hy1:=hl y (Ab ..);obtain⟨a1,a2,a3⟩:=Lh hd (WA (x:=x) (roots:=roots) hk hy1 r1);have hg:=Li s ⟨3,p,0,0,(k:Nat),(y.1:Nat)⟩ (BK (Eo s k) (Eo s y.1) p).1;generalize Y2 : Eg s ⟨3,p,0,0,(k:Nat),(y.1:Nat)⟩ (BK (Eo s k) (Eo s y.1) p).1=s' at *
   have a3:s'.2.full=false->Eo s'.2 s'.1=(BK (Eo s k) (Eo s y.1) p).1:=a3;obtain⟨i1,i2,i3,i4⟩:=OF hD (C:=fun j=>C j\/y.2 j) l a1 a2 (fun z hz=>Bx (hl z (Ae _ hz)) hg.len) (fun ZX=>by
    refine⟨?_,fun z hz=>by rw[hg.at (hl z (Ae _ hz))];exact hA2 z (Ae _ hz)⟩;rw[a3 ZX];exact⟨Oh _ _ _,Su pW.inU hy.inU,r2 D (.self hD) (.inl pW.none_),fun j j0 j1 hj=>r2 _ (.ver hD (Fo ⟨j0,j1⟩)) (hj.imp (pW.cov j j0 j1) (hy.cov j j0 j1))⟩)
   refine⟨i1,hg.trans i2,i3,fun hf=>?_⟩;obtain⟨C',j1,j2⟩:=i4 hf;refine⟨C',j1,j2.imp id fun h j hj=>h j ?_⟩;rcases hj with hj | ⟨z,hz,hj⟩
   .exact .inl (.inl hj)
   .rcases Ay.1 hz with rfl | hz
    .exact .inl (.inr hj)
    .exact .inr ⟨z,hz,hj⟩
def It(roots:List Rq)(dec:List Cd):Prop:=∀q∈Hr roots dec,∀d∈dec,d.rel.path=q.path->has q.set d.place=true
theorem It.nil(roots:List Rq):It roots []:=fun _ _ d h=>by cases h
theorem dD(roots:List Rq)(dec:List Cd)(c:Cd):Hr roots (dec++[c])=Hr roots dec++c.rel.reqs:=by
 unfold Hr;rw[Az,Cs,Bm];simp
theorem rb(c:Cd):(Rn c).map (·.rq)=c.rel.reqs:=Tg (fun _ _=>rfl) _ _
theorem ci(h:DI dec c=none):∀q∈c.rel.reqs,∀d∈dec++[c],d.rel.path=q.path->has q.set d.place=true:=fun q hq d hd e=>by
 rw[<-rb]at hq;obtain⟨n,hn,rfl⟩:=Ak.1 hq;unfold DI at h;rw[EE]at h
 have:=h n hn
 unfold fc at this;rw[Bool.not_eq_true,DE]at this
 have:=this d hd
 rw[e]at this;simpa using this
theorem LZ(h:DI dec c=some n):n∈Rn c/\∃d∈dec++[c],d.rel.path=n.rq.path/\has n.rq.set d.place=false:=by
 unfold DI at h;have h1:=DL h;refine⟨BP h,?_⟩;unfold fc at h1;rw[AX]at h1;obtain⟨d,hd,e⟩:=h1;simp only[Af,Au,Co]at e;exact⟨d,hd,e⟩
theorem It.snoc(h:It roots dec)(hN:vt roots dec p needs)(hc:c.rel.path=p)(hn:∀n∈needs,has n.rq.set c.place=true)(hk:DI dec c=none):It roots (dec++[c]):=by
 intro q hq d hd e;rw[dD]at hq;rcases AT.1 hq with hq | hq
 .rcases AT.1 hd with hd | hd
  .exact h q hq d hd e
  .rw[Aj.1 hd]at e⊢;rw[<-Ly]at hq;obtain⟨n,ae,rfl⟩:=Ak.1 hq;exact hn n ((hN.mem n).2 ⟨ae,by rw[<-e,hc]⟩)
 .exact ci hk q hq d hd e
def VR(y:Sl):List Sl->List Sl
 | []=>[y]
 |z::l=>if FQ y.path z.path then y::z::l else z::VR y l
def DO:List Sl->List Sl
 | []=>[]
 |y::l=>VR y (DO l)
theorem Ur{y z:Sl}:∀{l:List Sl},z∈VR y l↔z=y\/z∈l
 | []=>by simp[VR]
 |u::l=>by
  unfold VR;split
  .simp
  .rw[Ay,Ur,Ay];constructor
   .rintro(h | h | h)
    .exact .inr (.inl h)
    .exact .inl h
    .exact .inr (.inr h)
   .rintro(h | h | h)
    .exact .inr (.inl h)
    .exact .inl h
    .exact .inr (.inr h)
theorem HQ{z:Sl}:∀{l:List Sl},z∈DO l↔z∈l
 | []=>by simp[DO]
 |u::l=>by unfold DO;rw[Ur,HQ,Ay]
theorem az{y:Sl}:∀{l:List Sl},Xy l->(∀z∈l,z.path≠y.path)->Xy (VR y l)
 | [],_,_=>by simp[VR,Xy]
 |u::l,h,hn=>by
  obtain⟨h1,h2⟩:=Ds.1 h;unfold VR;split
  .rename_i hb;refine Ds.2 ⟨fun z hz=>?_,h⟩;rcases Ay.1 hz with rfl | hz
   .exact hb
   .exact Fe hb (h1 z hz)
  .rename_i hb;refine Ds.2 ⟨fun z hz=>?_,az h2 fun z hz=>hn z (Ae _ hz)⟩;rcases Ur.1 hz with rfl | hz
   .cases e:FQ u.path z.path with
    |true=>rfl
    |false=>
     have hb:FQ z.path u.path=false:=by simpa using hb
     exact absurd (Kp e hb) (hn u (Ab ..))
   .exact h1 z hz
theorem Rx:∀{l:List Sl},(l.map (·.path)).Nodup->Xy (DO l)
 | [],_=>List.Pairwise.nil
 |y::l,h=>by
  simp only[AK,CN]at h;exact az (Rx h.2) fun z hz e=>h.1 (Ak.2 ⟨z,HQ.1 hz,e⟩)
theorem Up:∀{l:List Sl} {b:Option ByteArray},Xy l->(∀c,b=some c->∀y∈l,FQ c y.path=true)->Lt b l=true
 | [],_,_,_=>by unfold Lt;rfl
 |y::l,b,h,hb=>by
  obtain⟨h1,h2⟩:=Ds.1 h;unfold Lt;cases b with
  |none=>simpa using Up h2 fun c e z hz=>by cases e;exact h1 z hz
  |some c=>
   have:=hb c rfl y (Ab ..)
   simp only[this,Ep];exact Up h2 fun c e z hz=>by cases e;exact h1 z hz
theorem uk{l:List Sl}(h:Xy l):B6 l=true:=Up h fun _ e=>by cases e
theorem QJ(hx:Bd x=0)(hr:r∈x):DH x (FC r)=some r:=by
 unfold DH;rw[Ah (fun h=>h hx)];cases h:x.find? fun s=>decide (FC s=FC r)with
 |none=>
  rw[EE]at h;exact absurd B0 (h r hr)
 |some s=>
  have h1:=DL h;simp only[Au]at h1;rw[Uv (CF hx).2 (BP h) hr h1]
theorem EG.sorted(h:EG x dec):Xy (DO (AG dec)):=Rx (by rw[Mb];exact h.nodup)
theorem EG.findS(h:EG x dec)(hc:c∈dec):Ct (DO (AG dec)) c.rel.path=some (QY c):=
 N6 h.sorted (y:=QY c) (HQ.2 (Ak.2 ⟨c,hc,rfl⟩))
theorem mL(hx:Bd x=0)(h:EG x dec)(hs:It roots dec)(hl:Lz (Hr roots dec) (AG dec)=none):oH x roots (DO (AG dec)):=by
 have FN:∀q∈Hr roots dec,∃y,Ct (DO (AG dec)) q.path=some y/\has q.set (place y.ver)=true:=fun q hq=>by
  have:=dh hl q hq
  rw[L7]at this;obtain⟨y,hy,e⟩:=this;obtain⟨d,hd,rfl⟩:=Ak.1 hy;have e:d.rel.path=q.path:=e;refine⟨QY d,by rw[<-e];exact h.findS hd,?_⟩;have h1:=hs q hq d hd e;have FY:=(CF hx).1 _ (h.cand d hd).1;rw[(h.cand d hd).2.2,FY.plc]at h1;exact h1
 refine⟨hx,uk h.sorted,fun y hy=>?_,fun q hq=>FN q (Bn _ hq),fun y hy r hr q hq=>?_⟩
 .obtain⟨d,hd,rfl⟩:=Ak.1 (HQ.1 hy);exact⟨d.rel,QJ hx (h.cand d hd).1,(h.cand d hd).2.1⟩
 .obtain⟨d,hd,rfl⟩:=Ak.1 (HQ.1 hy)
  have:DH x (QY d)=some d.rel:=QJ hx (h.cand d hd).1
  rw[this]at hr;cases hr;exact FN q (Bg _ (DQ.2 ⟨_,Ak.2 ⟨d,hd,rfl⟩,hq⟩))
def bi(dec:List Cd)(needs:List Nd)(c:Cd):Bool:=(needs.all fun n=>has n.rq.set c.place)&&(DI dec c).isNone
def Cn(x:List Rl)(roots:List Rq):Nat->List Cd->List (List Cd)
 |0,_=>[]
 |n+1,dec=>match(D6 roots dec).2 with
  | []=>[dec]
  |n0::l=>((Bo x (D6 roots dec).1).map fun c=>if bi dec (n0::l) c then Cn x roots n (dec++[c])else []).flatten
structure Lf(x:List Rl)(roots:List Rq)(dec d:List Cd):Prop where
 pre:dec <+: d
 ok:EG x d
 sat:It roots d
 stop:Lz (Hr roots d) (AG d)=none
theorem Hu(h:c∈Bo x p):c.rel.path=p/\(c.rel∈x/\c.rel.yanked=false/\c.place=plc c.rel.ver):=by
 obtain⟨r,h1,h2,h3,rfl⟩:=LW.1 h;exact⟨h2,h1,h3,rfl⟩
theorem KD:bi dec needs c=true↔(∀n∈needs,has n.rq.set c.place=true)/\DI dec c=none:=by
 unfold bi;rw[Af,AP,Option.isNone_iff_eq_none]
theorem JJ{x:List Rl}{roots:List Rq}:∀{n:Nat} {dec:List Cd},EG x dec->It roots dec->∀d∈Cn x roots n dec,Lf x roots dec d
 |0,_,_,_,d,hd=>by cases hd
 |n+1,dec,h,hs,d,hd=>by
  unfold Cn at hd;split at hd
  .rename_i e;rw[Aj.1 hd];exact⟨NR,h,hs,UK.1 e⟩
  .rename_i n0 l e;have hN:=J4 e;obtain⟨L,hL,hd⟩:=DQ.1 hd;obtain⟨c,hc,rfl⟩:=Ak.1 hL;split at hd
   .rename_i FY;obtain⟨h1,h2⟩:=KD.1 FY;obtain⟨c1,c2⟩:=Hu hc;have il:Da dec c.rel.path=false:=by rw[c1];exact hN.undone
    have:=JJ (n:=n) (h.snoc c2 il) (hs.snoc hN c1 h1 h2) d hd
    exact⟨(Kf _ _).trans this.pre,this.ok,this.sat,this.stop⟩
   .cases hd
theorem Lf.sol(hx:Bd x=0)(h:Lf x roots dec d):oH x roots (DO (AG d)):=mL hx h.ok h.sat h.stop
theorem qL(hx:Bd x=0){s:SS}(hd:FG x roots s){k:Nat}(hk:k<s.drv.length)(he:CY (Eo s k) (AG dec)=true)(h:Lf x roots dec d):False:=by
 have hS:=h.sol hx;have hv:=X0 (s:=DO (AG d)) hS.inc (fun y hy=>HQ.2 (by
  obtain⟨c,hc,rfl⟩:=Ak.1 hy;obtain⟨t,e⟩:=h.pre;exact Ak.2 ⟨c,by rw[<-e];exact Bn _ hc,rfl⟩)) he
 have hn:=JS hS (d:=[]) (fun _ h=>by cases h) hd.der (Eo s k) (by
  unfold Eo;rw[BU,At hk];exact Aq hk)
 rw[hv]at hn;cases hn
def ut:List (List UInt8):=[[97,110,100],[97,110,121],[97,115],[98,111,111,108],[100,101,112,114,101,99,97,116,101,100],[101,108,115,101],[101,120,112,111,114,116],[102,97,108,115,101],[102,110],[102,111,108,100],[102,114,111,109],[105,102],[105,109,112,111,114,116],[105,110],[105,110,116],[108,101,110,103,116,104],[108,101,116],[108,105,115,116],[109,97,116,99,104],[109,111,100,117,108,101],[110,111,110,101],[110,111,116],[111,114],[116,101,120,116],[116,104,101,110],[116,114,117,101],[116,121,112,101],[117,115,101]]
theorem iJ:cX=32::ut.flatMap (fun w=>w++[32]):=by decide +kernel
theorem uu:∀w∈ut,∀c∈w,c≠32:=by decide +kernel
theorem WX:∀(s w r:List UInt8),(∀c∈s,c≠32)->(∀c∈w,c≠32)->NU (s++[32]) (w++32::r)=decide (w=s)
 | [],[],r,_,_=>by simp[NU]
 | [],b::w,r,_,hw=>by
  have:=hw b (Ab ..)
  simp[NU,this.symm]
 |a::s,[],r,hs,_=>by
  have:=hs a (Ab ..)
  simp[NU,this]
 |a::s,b::w,r,hs,hw=>by
  have ih:=WX s w r (fun c hc=>hs c (Ae _ hc)) (fun c hc=>hw c (Ae _ hc));rw[DA,DA,NU,ih]
  by_cases e:a=b
  .subst e;simp
  .have e2:¬b=a:=fun h=>e h.symm;simp[e,e2]
theorem au(x:List UInt8):∀(w r:List UInt8),(∀c∈w,c≠32)->mD (32::x) (w++r)=mD (32::x) r
 | [],_,_=>rfl
 |b::w,r,h=>by
  have hb:=h b (Ab ..);rw[DA,mD,au x w r (fun c hc=>h c (Ae _ hc))]
  have:NU (32::x) (b::(w++r))=false:=by simp[NU,hb.symm]
  rw[this,JP]
theorem Wz(s:List UInt8)(hs:∀c∈s,c≠32):∀ws:List (List UInt8),(∀w∈ws,∀c∈w,c≠32)->mD (32::(s++[32])) (32::ws.flatMap (fun w=>w++[32]))=ws.any (fun w=>decide (w=s))
 | [],_=>by
  cases s with
  |nil=>simp[mD,NU]
  |cons a s=>simp[mD,NU]
 |w::ws,h=>by
  have hw:=h w (Ab ..);have ih:=Wz s hs ws (fun v hv=>h v (Ae _ hv));have e:(w::ws).flatMap (fun w=>w++[32])=w++32::ws.flatMap (fun w=>w++[32]):=by simp[List.flatMap_cons]
  rw[e,mD,NU,WX s w _ hs hw,au _ w _ hw,ih,Cb];simp
theorem rA(h:s.all F5=true):∀c∈s,c≠32:=fun c hc e=>by
 have:=AP.1 h c hc
 rw[e]at this;exact absurd this Cl
theorem cW(h:s.all F5=true):VS s=ut.any (fun w=>decide (w=s)):=by
 unfold VS;rw[iJ,Wz s (rA h) ut uu]
theorem um(h:Bd x=0):x.length<=256:=by
 unfold Bd at h;split at h
 .cases h
 .omega
theorem ma{l:List Rl}:(l.map fun r=>(plc r.ver,plc r.ver+1)).any (BN k)=true↔∃r∈l,plc r.ver=k:=by
 rw[AX];constructor
 .rintro⟨y,hy,h⟩
  obtain⟨r,hr,rfl⟩:=Ak.1 hy
  have:=DS.1 h
  exact⟨r,hr,by have h1:=this.1;have h2:=this.2;dsimp only at h1 h2;omega⟩
 .rintro⟨r,hr,rfl⟩
  exact⟨_,Ak.2 ⟨r,hr,rfl⟩,DS.2 ⟨By _,by dsimp only;omega⟩⟩
theorem Wa(hx:Bd x=0):has (B8 x p) k=true↔∃c∈Bo x p,c.place=k:=by
 unfold B8;rw[HJ];unfold has KW;rw[Ah (fun h=>h hx)];simp only[Af,Au];rw[ma];constructor
 .rintro⟨_,r,hr,rfl⟩
  simp only[BG,Au,Co]at hr;exact⟨⟨plc r.ver,r⟩,LW.2 ⟨r,hr.1.1,hr.1.2,hr.2,rfl⟩,rfl⟩
 .rintro⟨c,hc,rfl⟩
  obtain⟨r,h1,h2,h3,rfl⟩:=LW.1 hc;have FY:=(CF hx).1 r h1
  have:=J8 FY.val
  rw[<-FY.plc]at this;refine⟨⟨this.1,this.2⟩,r,?_,rfl⟩;simp only[BG,Au,Co];exact⟨⟨h1,h2⟩,h3⟩
theorem fQ(hx:Bd x=0)(p:ByteArray):∃k:Int,0<=k/\k<1000000/\has (B8 x p) k=false:=by
 apply Bc;intro hn;have FN:∀k∈(List.range 257).map fun i:Nat=>(i:Int),k∈x.map fun r=>plc r.ver:=by
  intro k hk;obtain⟨i,hi,rfl⟩:=Ak.1 hk;have hi:=IW.1 hi;have hh:has (B8 x p) (i:Int)=true:=by
   cases e:has (B8 x p) (i:Int)with
   |true=>rfl
   |false=>exact absurd ⟨(i:Int),by omega,by omega,e⟩ hn
  obtain⟨c,hc,e⟩:=(Wa hx).1 hh;obtain⟨r,h1,_,_,rfl⟩:=LW.1 hc;exact Ak.2 ⟨r,h1,e⟩
 have:=IS (RN.2 (List.nodup_range.imp fun h e=>h (Int.ofNat.inj e))) FN
 rw[AS,AS,Is]at this
 have:=um hx
 omega
theorem Mc(dec:List Cd)(c:Cd):AG (dec++[c])=KX (AG dec) c.rel.path c.rel.ver:=by unfold AG KX;rw[Az];rfl
theorem L4:CY t S=true↔Bf t S=true/\∀u∈t,CO S u.path=true:=by
 unfold CY;rw[Af,Co,DE];simp
section
variable {x:List Rl}{roots:List Rq}{dec:List Cd}{p:ByteArray}{needs:List Nd}
abbrev dp(p:ByteArray)(dec:List Cd):List ByteArray:=p::(AG dec).map (·.path)
theorem pN{c:Cd}{t:List Tm}(hf:Form t)(he:CY t (AG (dec++[c]))=true):VY (dp c.rel.path dec) t:=by
 refine⟨E9 hf,fun u hu=>?_⟩
 have:=(L4.1 he).2 u hu
 rw[HI,Mc,Az]at this;rcases AT.1 this with h | h
 .exact Ae _ h
 .rw[AK,Eb,Aj]at h;rw[h];exact Ab ..
theorem lH(hx:Bd x=0)(hd:EG x dec){c:Cd}(hc:c.rel∈x){t:List Tm}(he:CY t (AG (dec++[c]))=true)(hn:DZ t c.rel.path=false):CY t (AG dec)=true:=by
 obtain⟨h1,h2⟩:=L4.1 he;have Dv:=Kq hn;rw[Mc]at h1 h2;refine L4.2 ⟨?_,fun u hu=>?_⟩
 .rw[LM (.self (hd.valid hx)) (.ver (hd.valid hx) ((CF hx).1 _ hc).val) Dv];exact h1
 .have:=h2 u hu
  rw[Ud,CD]at this;rcases this with h | h
  .exact h
  .rw[L7]at h;obtain⟨y,hy,e⟩:=h;rw[Aj.1 hy]at e;exact absurd e.symm (Dv u hu)
theorem jG(hx:Bd x=0)(hd:EG x dec){c:Cd}(hc:c.rel∈x/\c.rel.yanked=false/\c.place=plc c.rel.ver)(hu:Da dec c.rel.path=false){t:List Tm}(hf:Form t)(he:CY t (AG (dec++[c]))=true)(hn:DZ t c.rel.path=true) :
  o9 (AG dec) (dp c.rel.path dec) c.rel.path t fun k=>k=c.place:=by
 have FY:=(CF hx).1 _ hc.1;have hV:=hd.valid hx;have h1:=(L4.1 he).1;rw[Mc]at h1;refine⟨hf,pN hf he,hn,⟨_,.ver hV FY.val,h1⟩,fun k k0 k1 e=>?_⟩;subst e;rw[dN (by rw[Gi];exact hu) (Fo ⟨k0,k1⟩) FY.val (by rw[HD,hc.2.2,FY.plc])];exact h1
theorem PQ(hx:Bd x=0)(hr:B5 roots=0){E:List Cd}(hE:EG x E){n:Nd}(hn:n∈Dh roots E)(hv:∃d∈E,d.rel.path=n.rq.path/\has n.rq.set d.place=false) :
  (∀d,D4 x roots d (NT n)=some (H9 n))/\CY (H9 n) (AG E)=true/\Form (H9 n):=by
 obtain⟨d,hd,e,hs⟩:=hv;have FY:=(CF hx).1 _ (hE.cand d hd).1;have hf:=hE.find hd;have hI:=S0 hx hr hE hn (.inr ⟨QY d,by rw[<-e];exact hf,by rw[show(QY d).ver=d.rel.ver from rfl,<-FY.plc,<-(hE.cand d hd).2.2];exact hs⟩);refine⟨hI.inf,L4.2 ⟨hI.viol,fun u hu=>?_⟩,hI.form⟩
 have:=(hI.inU ((AG E).map (·.path)) (fun h=>HI.1 (hI.path h)) (HI.1 (by rw[Kv,<-e,hf];rfl))).2 u hu
 exact HI.2 this
theorem iX(hx:Bd x=0)(hr:B5 roots=0)(hd:EG x dec)(hN:vt roots dec p needs){c:Cd}(hc:c∈Bo x p){n:Nd}(hn:n∈needs)(hs:has n.rq.set c.place=false):DZ (H9 n) p=true:=by
 obtain⟨c1,c2⟩:=Hu hc;have hu:Da dec c.rel.path=false:=by rw[c1];exact hN.undone
 have hE:=hd.snoc c2 hu;obtain⟨km,qg⟩:=(hN.mem n).1 hn;have FY:=(CF hx).1 _ c2.1;have hI:=S0 hx hr hE (OI km) (.inr ⟨QY c,by rw[qg,<-c1];exact hE.find B0,by rw[show(QY c).ver=c.rel.ver from rfl,<-FY.plc,<-c2.2.2];exact hs⟩);cases rO:DZ (H9 n) p with
 |true=>rfl
 |false=>
  exfalso
  have OC:n.rq.set≠[]/\ET n.rq.set:=by
   rcases Lx km with ⟨k,q,h1,rfl⟩ | ⟨c,hc,k,q,h1,rfl⟩
   .exact LY hr q (Av h1)
   .exact((CF hx).1 _ (hd.cand c hc).1).set q (Av h1)
  obtain⟨k,hk⟩:=fI OC.1 OC.2;have kk:=M2 hk;have hV:=hd.valid hx;have o1:Y8 (AG dec) p (KX (AG dec) p (Ql k)):=.ver hV (Fo kk);have o2:Y8 (AG dec) p (AG (dec++[c])):=by rw[Mc,c1];exact .ver hV FY.val
  have h1:=LM o1 o2 (Kq rO);rw[hI.viol,hI.raw _ o1.val,Bz]at h1
  have:=h1 (DK n.rq) (by unfold NV;split<;>simp)
  rw[show(DK n.rq).path=p from qg,IF (by rw[Gi];exact hN.undone),US (by rw[show(⟨p,Ql k⟩:Sl).ver=Ql k from rfl,HD];exact hk)]at this;cases this
theorem iL(hx:Bd x=0)(hr:B5 roots=0)(hd:EG x dec)(hN:vt roots dec p needs){n0:Nd}(h0:n0∈needs)(L:List (Nat×Cd))(hL:L.map (·.2)=Bo x p){s:SS}(hs:FG x roots s)(Dx:∀y∈L,y.1<s.drv.length)
  (yj:s.full=false->∀y∈L,CY (Eo s y.1) (AG (dec++[y.2]))=true/\DZ (Eo s y.1) p=true) :
  FG x roots (DT x p n0 (L.map (·.1)) s).2/\Grow s (DT x p n0 (L.map (·.1)) s).2/\(DT x p n0 (L.map (·.1)) s).1<(DT x p n0 (L.map (·.1)) s).2.drv.length /\
  ((DT x p n0 (L.map (·.1)) s).2.full=false->CY (Eo (DT x p n0 (L.map (·.1)) s).2 (DT x p n0 (L.map (·.1)) s).1) (AG dec)=true):=by
 have hV:=hd.valid hx;have vL:CO (AG dec) p=false:=by rw[Gi];exact hN.undone
 obtain⟨vG,rV⟩:=(hN.mem n0).1 h0;have hI:=S0 hx hr hd vG (.inl (by rw[rV];exact H6 vL));unfold DT;obtain⟨a1,a2,a3⟩:=Lh hs (hI.inf s.drv);have ag:=Li s (NT n0) (H9 n0);have a3:(BD s n0).2.full=false->Eo (BD s n0).2 (BD s n0).1=H9 n0:=a3
 change FG x roots (BD s n0).2 at a1
 change (BD s n0).1<(BD s n0).2.drv.length at a2
 change Grow s (BD s n0).2 at ag
 generalize BD s n0=s1 at *
 -- the incompatibility of the places that are not available
 obtain⟨u,u0,u1,hu⟩:=fQ hx p;have Yn:∀k:Int,0<=k->k<1000000->has (B8 x p) k=false->Bf [(⟨p,false,EC (B8 x p)⟩:Tm)] (KX (AG dec) p (Ql k))=true:=fun k k0 k1 hk=>by
  rw[Bz];intro t ht;rw[Aj.1 ht];show Dp _ (Ct (KX (AG dec) p (Ql k)) p)=true;rw[IF vL];show(B3 (Ql k)&&has (EC (B8 x p)) (place (Ql k)))=true;rw[Fo ⟨k0,k1⟩,HD,FX,hk];unfold MF;simp[k0,k1]
 have rX:Bf [(⟨p,false,EC (B8 x p)⟩:Tm)] (AG dec)=false:=by
  rw[AH];intro h
  have:=Bz.1 h _ (Ab ..)
  rw[show(⟨p,false,EC (B8 x p)⟩:Tm).path=p from rfl,H6 vL]at this;cases this
 have ou:Y8 (AG dec) p (KX (AG dec) p (Ql u)):=.ver hV (Fo ⟨u0,u1⟩);have Dv:If p (B8 x p)≠[]:=by
  have c1:=Dd (l:=[(⟨p,false,EC (B8 x p)⟩:Tm)]) ou.val;have c2:=Dd (l:=[(⟨p,false,EC (B8 x p)⟩:Tm)]) hV;rw[Yn u u0 u1 hu]at c1;rw[rX]at c2;unfold If Rg;cases hc:CW [(⟨p,false,EC (B8 x p)⟩:Tm)]with
  |none=>rw[hc]at c1;cases c1
  |some c=>
   rw[hc]at c2;intro e;have e:c=[]:=e;rw[e]at c2;cases c2
 have Mu:∀S,Gz S->Bf (If p (B8 x p)) S=Bf [(⟨p,false,EC (B8 x p)⟩:Tm)] S:=fun S v=>Rh v Dv;have xG:DZ (If p (B8 x p)) p=true:=by
  cases h:DZ (If p (B8 x p)) p with
  |true=>rfl
  |false=>
   have:=LM ou (.self hV) (Kq h)
   rw[Mu _ ou.val,Mu _ hV,Yn u u0 u1 hu,rX]at this;cases this
 have tR:D4 x roots s1.2.drv ⟨2,p,0,0,0,0⟩=some (If p (B8 x p)):=by
  unfold D4;rw[Ah (show ¬((2:Int)=0) by decide),Ah (show ¬((2:Int)=1) by decide),As rfl,As ⟨rfl,rfl,rfl,rfl⟩];unfold iW;rw[Ah (by rw[Hf];exact Dv)]
 obtain⟨b1,b2,b3⟩:=Lh a1 tR;have bg:=Li s1.2 ⟨2,p,0,0,0,0⟩ (If p (B8 x p));have b3:(Ej x p s1.2).2.full=false->Eo (Ej x p s1.2).2 (Ej x p s1.2).1=If p (B8 x p):=b3
 change FG x roots (Ej x p s1.2).2 at b1
 change (Ej x p s1.2).1<(Ej x p s1.2).2.drv.length at b2
 change Grow s1.2 (Ej x p s1.2).2 at bg
 generalize Ej x p s1.2=s2 at *
 have xz:s2.2.full=false->s1.2.full=false/\s.full=false:=fun h=>by
  have h1:s1.2.full=false:=by
   cases e:s1.2.full with
   |false=>rfl
   |true=>rw[bg.full e]at h;cases h
  refine⟨h1,?_⟩;cases e:s.full with
  |false=>rfl
  |true=>rw[ag.full e]at h1;cases h1
 have main:=OF (D:=AG dec) (U:=dp p dec) (p:=p) hV ((s2.1,fun k=>has (B8 x p) k=false)::L.map fun y=>(y.1,fun k=>k=y.2.place)) (C:=fun k=>has n0.rq.set k=false) b1 (Bx a2 bg.len)
  (fun y hy=>by
   rcases Ay.1 hy with rfl | hy
   .exact b2
   .obtain⟨z,hz,rfl⟩:=Ak.1 hy;exact Bx (Dx z hz) (ag.trans bg).len) (fun hf=>by
   obtain⟨f1,f0⟩:=xz hf;refine⟨?_,fun y hy=>?_⟩
   .rw[bg.at a2,a3 f1];refine⟨hI.form,hI.inU _ (fun h=>Ae _ (HI.1 (hI.path h))) (by rw[rV];exact Ab ..),hI.viol,fun k k0 k1 hk=>?_⟩;have ok:Y8 (AG dec) p (KX (AG dec) p (Ql k)):=.ver hV (Fo ⟨k0,k1⟩);rw[hI.raw _ ok.val,Bz];intro t ht;have Ym:=Bz.1 ((hI.raw _ hV).symm.trans hI.viol) t ht;unfold NV at ht;have mq:Dp (DK n0.rq) (Ct (KX (AG dec) p (Ql k)) (DK n0.rq).path)=true:=by
     rw[show(DK n0.rq).path=p from rV,IF vL];exact Sq (.inr ⟨_,rfl,Fo ⟨k0,k1⟩,by rw[show(⟨p,Ql k⟩:Sl).ver=Ql k from rfl,HD];exact hk⟩)
    split at ht
    .rw[Aj.1 ht];exact mq
    .rename_i hm;rcases Ay.1 ht with rfl | ht
     .have Dv:n0.path≠p:=fun e=>by
       have:=hI.path hm
       rw[e,vL]at this;cases this
      rw[show(⟨n0.path,false,[(n0.place,n0.place+1)]⟩:Tm).path=n0.path from rfl]at Ym⊢;rw[ok.same _ Dv];exact Ym
     .rw[Aj.1 ht];exact mq
   .rcases Ay.1 hy with rfl | hy
    .show o9 _ _ p (Eo s2.2 s2.1) _;rw[b3 hf];refine⟨Ng _,UP (fun t ht=>by rw[Aj.1 ht];exact Ab ..),xG,⟨_,ou,by rw[Mu _ ou.val];exact Yn u u0 u1 hu⟩,fun k k0 k1 hk=>?_⟩;rw[Mu _ (Y8.ver hV (Fo ⟨k0,k1⟩)).val];exact Yn k k0 k1 hk
    .obtain⟨z,hz,rfl⟩:=Ak.1 hy;show o9 _ _ p (Eo s2.2 z.1) _;rw[(ag.trans bg).at (Dx z hz)];obtain⟨e1,e2⟩:=yj f0 z hz;have hzc:z.2∈Bo x p:=by rw[<-hL];exact Ak.2 ⟨z,hz,rfl⟩
     obtain⟨c1,c2⟩:=Hu hzc
     have:=jG hx hd c2 (by rw[c1];exact hN.undone) (hs.forms z.1) e1 (by rw[c1];exact e2)
     rw[c1]at this;exact this)
 have AbS:((s2.1,fun k=>has (B8 x p) k=false)::L.map fun y=>(y.1,fun k=>k=y.2.place)).map (·.1)=s2.1::L.map (·.1):=by
  rw[AK,Bw];rfl
 rw[AbS]at main;obtain⟨m1,m2,m3,m4⟩:=main;refine⟨m1,(ag.trans bg).trans m2,m3,fun hf=>?_⟩;obtain⟨C',q1,q2⟩:=m4 hf;have hnc:DZ (Eo (Cj p (s2.1::L.map (·.1)) s1.1 s2.2).2 (Cj p (s2.1::L.map (·.1)) s1.1 s2.2).1) p=false:=by
  rcases q2 with q2 | q2
  .exact q2
  .refine m8 vL q1.form q1.none_ fun k k0 k1=>q1.cov k k0 k1 (q2 k ?_);cases zP:has n0.rq.set k with
   |false=>exact .inl rfl
   |true=>
    cases ha:has (B8 x p) k with
    |false=>exact .inr ⟨_,Ab ..,ha⟩
    |true=>
     obtain⟨c,hc,e⟩:=(Wa hx).1 ha;rw[<-hL]at hc;obtain⟨z,hz,rfl⟩:=Ak.1 hc;exact .inr ⟨_,Ae _ (Ak.2 ⟨z,hz,rfl⟩),e.symm⟩
 refine L4.2 ⟨q1.none_,fun t ht=>?_⟩
 have:=q1.inU.2 t ht
 rcases Ay.1 this with e | h
 .exact absurd e (Kq hnc t ht)
 .exact HI.2 h
end
end Go.Eng
