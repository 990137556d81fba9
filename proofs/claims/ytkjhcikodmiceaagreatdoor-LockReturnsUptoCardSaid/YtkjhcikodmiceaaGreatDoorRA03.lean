/- Lemmas 3. -/
import Derived.Test.YtkjhcikodmiceaaGreatDoorRA02
import Derived.Lib.SplitLaws
import Derived.Lib.IndexBytes
namespace Go.Eng
variable {x:List Rl}{dec:List Cd}{roots:List Rq}{c:Cd}{p:ByteArray}{n:Nd}{s:SS}{E:List Cd}{needs:List Nd}{d:List Cd}{k:Nat}{r:Rl}{q:Rq}
structure Dz(x:List Rl)(dec:List Cd):Prop where
 cand:∀c∈dec,c.rel∈x/\c.rel.yanked=false/\c.place=plc c.rel.ver
 nodup:(dec.map fun c=>c.rel.path).Nodup
theorem Dz.nil(x:List Rl):Dz x []:=⟨fun _ h=>(by cases h),GB⟩
theorem Ty(h:Jf r):r.path≠mt:=fun e=>by
 have:=h.maj
 rw[e]at this;have h2:BF mt=none:=aa2
 simp_all
theorem Jf.set{r:Rl}(h:Jf r):∀q∈r.reqs,q.set≠[]/\En q.set:=ID h.reqs
theorem KE(dec:List Cd):(AH dec).map (·.path)=dec.map fun c=>c.rel.path:=Wk
theorem Nv:∀{D:List Sl},(D.map (·.path)).Nodup->∀{y:Sl},y∈D->BD D y.path=some y
 | [],_,y,h=>by cases h
 |z::D,hn,y,h=>by
  simp only[Bb,FY]at hn;unfold BD;rw[Fb];rcases AM.1 h with rfl | h
  .simp_all
  .have:z.path≠y.path:=fun e=>hn.1 (Ar.2 ⟨y,h,e.symm⟩)
   rw[Au this];exact Nv hn.2 h
theorem Dz.find(h:Dz x dec)(hc:c∈dec):BD (AH dec) c.rel.path=some (PM c):=
 Nv (by rw[KE];exact h.nodup) (y:=PM c) (Ar.2 ⟨c,hc,rfl⟩)
theorem Dz.valid(hx:AX x=0)(h:Dz x dec):FP (AH dec):=fun y hy=>by
 obtain⟨c,hc,rfl⟩:=Ar.1 hy;exact((BY hx).1 _ (h.cand c hc).1).val
theorem Dz.snoc(h:Dz x dec)(hc:c.rel∈x/\c.rel.yanked=false/\c.place=plc c.rel.ver)(hd:De dec c.rel.path=false):Dz x (dec++[c]):=by
 refine⟨fun d hd=>?_,?_⟩
 all_goals grind [De,Dz.cand,Dz.nodup]
theorem L4(h:n∈CP roots E):(∃k q,roots[k]?=some q/\n=⟨q,mt,0,(k:Nat)⟩)\/∃c∈E,∃k q,c.rel.reqs[k]?=some q/\n=⟨q,c.rel.path,c.place,(k:Nat)⟩:=by
 unfold CP at h;rcases Bk.1 h with h | h
 .obtain⟨k,q,h1,h2⟩:=OU h<;>grind [OU]
 .obtain⟨l,hl,hn⟩:=Fy.1 h;obtain⟨c,hc,rfl⟩:=Ar.1 hl;obtain⟨k,q,h1,h2⟩:=OU hn<;>grind [OU]
theorem NM(h:n∈CP roots dec):n∈CP roots (dec++[c]):=by
 grind [CP]
theorem MB(h:n∈Qb c):n∈CP roots (dec++[c]):=by
 grind [CP]
def MQ(n:Nd):List Tm:=if n.path=mt then [Dm n.rq]else [⟨n.path,false,[(n.place,n.place+1)]⟩,Dm n.rq]
theorem OG(n:Nd):HI n=PT (MQ n):=by grind [HI,MQ,Gt,CW]
theorem cM{s:Ba}(h:s≠[])(hc:En s):∃k,has s k=true:=by
 match s,h,hc with
 |x::r,_,hc=>
  have:=Ej.low hc x (Ae ..)
  refine⟨x.1,?_⟩
  grind [has,BS]
theorem QY{o:Option Sl}(h:o=none\/∃y,o=some y/\Ct y.ver=true/\has q.set (place y.ver)=false):CH (Dm q) o=true:=by
 rcases h with rfl | ⟨y,rfl,hv,hq⟩
 .rfl
 .show(Ct y.ver&&has (EB q.set) (place y.ver))=true
  grind [I7,FK,Ru]
theorem Tx{y:Sl}(hq:has q.set (place y.ver)=true):CH (Dm q) (some y)=false:=by
 show(Ct y.ver&&has (EB q.set) (place y.ver))=false
 grind [FK]
structure r7(x:List Rl)(roots:List Rq)(S:List Sl)(n:Nd):Prop where
 inf:∀d,BA x roots d (OH n)=some (HI n)
 viol:A4 (HI n) S=true
 raw:∀S',FP S'->A4 (HI n) S'=A4 (MQ n) S'
 form:Form (HI n)
 inU:∀U:List ByteArray,(n.path≠mt->n.path∈U)->n.rq.path∈U->Rh U (HI n)
 path:n.path≠mt->Ch S n.path=true
theorem RE(hx:AX x=0)(hr:Bu roots=0)(hE:Dz x E)(hn:n∈CP roots E)(hv:BD (AH E) n.rq.path=none\/∃y,BD (AH E) n.rq.path=some y/\has n.rq.set (place y.ver)=false):r7 x roots (AH E) n:=by
 have hV:=hE.valid hx;have qy:CH (Dm n.rq) (BD (AH E) n.rq.path)=true:=QY (hv.imp id fun⟨y,h1,h2⟩=>⟨y,h1,hV y (F6 h1),h2⟩)
 -- the raw list is A4 here,and not elsewhere
 have ND:n.rq.set≠[]/\En n.rq.set:=by
  rcases L4 hn with ⟨k,q,h1,rfl⟩ | ⟨c,hc,k,q,h1,rfl⟩
  .grind [ID]
  .exact((BY hx).1 _ (hE.cand c hc).1).set q (Ax h1)
 have iZ:A4 (MQ n) (AH E)=true/\(n.path≠mt->Ch (AH E) n.path=true):=by
  rcases L4 hn with ⟨k,q,h1,rfl⟩ | ⟨c,hc,k,q,h1,rfl⟩
  .refine⟨?_,fun h=>absurd rfl h⟩;unfold MQ;rw[As rfl,Bq];intro u hu;rw[AC.1 hu];exact qy
  .have CU:=Ty ((BY hx).1 _ (hE.cand c hc).1);refine⟨?_,fun _=>by grind [Jq,Dz.find]⟩;unfold MQ;rw[AB CU,Bq];intro u hu;rcases AM.1 hu with rfl | hu
   .show CH _ (BD (AH E) c.rel.path)=true;rw[hE.find hc];show(Ct c.rel.ver&&has [(c.place,c.place+1)] (place c.rel.ver))=true;have DY:=(BY hx).1 _ (hE.cand c hc).1;have hp:=I7 DY.val;rw[DY.val,(hE.cand c hc).2.2,DY.plc]
    grind [has,BS]
   .rw[AC.1 hu];exact qy
 have zg:∃S',FP S'/\A4 (MQ n) S'=false:=by
  unfold MQ;split
  .obtain⟨k,hk⟩:=cM ND.1 ND.2;have qr:=PE hk;refine⟨[⟨n.rq.path,WV k⟩],fun y hy=>by grind [EN],?_⟩;rw[Bn];intro h
   have:=Bq.1 h (Dm n.rq) (AC.2 rfl)
   grind [Dm,BD,Tx,GT]
  .refine⟨[],fun y hy=>(by cases hy),?_⟩;rw[Bn];intro h
   have:=Bq.1 h _ (Ae ..)
   cases this
 obtain⟨iZ,tX⟩:=iZ;have CU:PT (MQ n)≠[]:=by
  obtain⟨S',v',n'⟩:=zg;have c1:=CJ (l:=MQ n) hV;have c2:=CJ (l:=MQ n) v';unfold PT;cases hc:CD (MQ n)with
  |none=>simp_all
  |some c=>
   rw[hc,n']at c2;intro e;have e:c=[]:=e;rw[e]at c2;cases c2
 have t7:∀S',FP S'->A4 (HI n) S'=A4 (MQ n) S':=fun S' v=>by grind [OG,PU]
 refine⟨fun d=>?_,by simp_all,t7,by grind [OG,L9],fun U h1 h2=>?_,tX⟩
 .rcases L4 hn with ⟨k,q,h1,rfl⟩ | ⟨c,hc,k,q,h1,rfl⟩
  .show BA x roots d (if(mt:ByteArray)=mt then⟨0,mt,0,(k:Nat),0,0⟩else _)=some (if(mt:ByteArray)=mt then Gt q else _);rw[As rfl,As rfl];show(if mt=mt/\(0:Int)=0/\(0:Int)=0/\(0:Int)=0 then(EH roots (k:Nat)).map Gt else none)=some (Gt q)
   grind [EH]
  .have DY:=(BY hx).1 _ (hE.cand c hc).1;have bT:=Ty DY;have hrel:Fk x c.rel.path c.place=some c.rel:=by
    unfold Fk;cases hf:x.find? fun r=>decide (r.path=c.rel.path)&&decide (plc r.ver=c.place)with
    |none=>
     grind [Dz.cand]
    |some r=>
     have h2:=FW hf;simp only[Aj,AQ]at h2;have iY:=B9 hf;have zj:=(BY hx).1 r iY;rw[cJ (BY hx) iY (hE.cand c hc).1 h2.1 (by rw[<-zj.plc,h2.2,(hE.cand c hc).2.2,DY.plc])]
   grind [OH,HI,BA,EH,ne0,OG]
 .rw[OG];refine Tw fun u hu=>?_;unfold MQ at hu;split at hu
  .rw[AC.1 hu];exact h2
  .rename_i hm;rcases AM.1 hu with rfl | hu
   .simp_all
   .rw[AC.1 hu];exact h2
structure Zv(D:List Sl)(U:List ByteArray)(p:ByteArray)(t:List Tm)(C:Int->Prop):Prop where
 form:Form t
 inU:Rh U t
 conc:Dr t p=true
 one:∃S,T3 D p S/\A4 t S=true
 cov:∀k:Int,0<=k->k<1000000->C k->A4 t (Ll D p (WV k))=true
structure Zp(D:List Sl)(U:List ByteArray)(p:ByteArray)(t:List Tm)(C:Int->Prop):Prop where
 form:Form t
 inU:Rh U t
 none_:A4 t D=true
 cov:∀k:Int,0<=k->k<1000000->C k->A4 t (Ll D p (WV k))=true
theorem Eo.forms(h:Eo x roots s):∀k,Form (DX s k):=fun k=>by
 unfold DX;rw[List.getD_eq_getElem?_getD];cases e:s.drv[k]? with
 |none=>exact SF
 |some t=>exact MX (fun _ h=>by cases h) h.der t (Ax e)
theorem U2{d:List (List Tm)}{r:Nat}(hk:k<d.length)(hr:r<d.length)(h0:(Bg (d.getD k []) (d.getD r []) p).2=0) :
  BA x roots d ⟨3,p,0,0,(k:Nat),(r:Nat)⟩=some (Bg (d.getD k []) (d.getD r []) p).1:=by
 grind [EH,Int.toNat_natCast,BA]
theorem NH{x:List Rl}{roots:List Rq}{D:List Sl}{U:List ByteArray}{p:ByteArray}(hD:FP D):∀(l:List (Nat×(Int->Prop))) {k:Nat} {s:SS} {C:Int->Prop},Eo x roots s->k<s.drv.length->(∀y∈l,y.1<s.drv.length) ->
  (s.full=false->Zp D U p (DX s k) C/\∀y∈l,Zv D U p (DX s y.1) y.2) ->
  Eo x roots (B2 p (l.map (·.1)) k s).2/\Grow s (B2 p (l.map (·.1)) k s).2/\(B2 p (l.map (·.1)) k s).1<(B2 p (l.map (·.1)) k s).2.drv.length /\
  ((B2 p (l.map (·.1)) k s).2.full=false->∃C',Zp D U p (DX (B2 p (l.map (·.1)) k s).2 (B2 p (l.map (·.1)) k s).1) C' /\
   (Dr (DX (B2 p (l.map (·.1)) k s).2 (B2 p (l.map (·.1)) k s).1) p=false\/∀j,C j\/(∃y∈l,y.2 j)->C' j))
 | [],k,s,C,hd,hk,_,hA=>⟨hd,.refl s,hk,fun hf=>⟨C,(hA hf).1,.inr fun j hj=>hj.elim id fun⟨y,hy,_⟩=>(by cases hy)⟩⟩
 |y::l,k,s,C,hd,hk,hl,hA=>by
  rw[Bb]
  by_cases h1:s.full=true\/Dr (DX s k) p=false
  .grind [B2.eq_def,Grow.refl]
  simp only[not_or,K8,Bool.not_eq_false]at h1;obtain⟨hf,XK⟩:=h1;obtain⟨LG,Ki⟩:=hA hf;have hy:=Ki y (Ae ..);have hi:¬(s.full=true\/Dr (DX s k) p=false):=Wk
  by_cases h2:y.1=k
  .have e:B2 p (y.1::l.map (·.1)) k s=B2 p (l.map (·.1)) k s:=by grind [B2]
   rw[e];have IJ : Zp D U p (DX s k) fun j=>C j\/y.2 j:=⟨LG.form,LG.inU,LG.none_,fun j j0 j1 hj=>hj.elim (LG.cov j j0 j1) fun h=>by grind [Zv.cov]⟩;obtain⟨i1,i2,i3,i4⟩:=NH hD l hd hk (fun z hz=>hl z (Ah _ hz)) (fun _=>⟨IJ,fun z hz=>Ki z (Ah _ hz)⟩);refine⟨i1,i2,i3,fun hf=>?_⟩;obtain⟨C',j1,j2⟩:=i4 hf;refine⟨C',j1,j2.imp id fun h j hj=>h j ?_⟩;rcases hj with hj | ⟨z,hz,hj⟩<;>grind
  .obtain⟨S2,o2,v2⟩:=hy.one;obtain⟨r1,r2⟩:=WD LG.form hy.form XK hy.conc (.self hD) LG.none_ o2 v2;have e:B2 p (y.1::l.map (·.1)) k s=B2 p (l.map (·.1)) (DP s ⟨3,p,0,0,k,y.1⟩ (Bg (DX s k) (DX s y.1) p).1).1 (DP s ⟨3,p,0,0,k,y.1⟩ (Bg (DX s k) (DX s y.1) p).1).2:=by
    grind [B2]
   rw[e];have hy1:=hl y (Ae ..);obtain⟨a1,a2,a3⟩:=JP hd (U2 (x:=x) (roots:=roots) hk hy1 r1);have hg:=JQ s ⟨3,p,0,0,(k:Nat),(y.1:Nat)⟩ (Bg (DX s k) (DX s y.1) p).1;generalize ao : DP s ⟨3,p,0,0,(k:Nat),(y.1:Nat)⟩ (Bg (DX s k) (DX s y.1) p).1=s' at *
   have a3:s'.2.full=false->DX s'.2 s'.1=(Bg (DX s k) (DX s y.1) p).1:=a3;obtain⟨i1,i2,i3,i4⟩:=NH hD (C:=fun j=>C j\/y.2 j) l a1 a2 (fun z hz=>AA (hl z (Ah _ hz)) hg.len) (fun rN=>by
    refine⟨?_,fun z hz=>by rw[hg.at (hl z (Ah _ hz))];exact Ki z (Ah _ hz)⟩
    grind [Nb,Rb,EN,Zp.mk,Zp.inU,Zv.inU,T3.self,Zp.none_,T3.ver,Zp.cov,Zv.cov])
   refine⟨i1,hg.trans i2,i3,fun hf=>?_⟩;obtain⟨C',j1,j2⟩:=i4 hf;refine⟨C',j1,j2.imp id fun h j hj=>h j ?_⟩;rcases hj with hj | ⟨z,hz,hj⟩<;>grind
def Is(roots:List Rq)(dec:List Cd):Prop:=∀q∈FR roots dec,∀d∈dec,d.rel.path=q.path->has q.set d.place=true
theorem Is.nil(roots:List Rq):Is roots []:=fun _ _ d h=>by cases h
theorem TK(roots:List Rq)(dec:List Cd)(c:Cd):FR roots (dec++[c])=FR roots dec++c.rel.reqs:=by
 simp_all
theorem nI(c:Cd):(Qb c).map (·.rq)=c.rel.reqs:=RM (fun _ _=>rfl) _ _
theorem ZM(h:DL dec c=none):∀q∈c.rel.reqs,∀d∈dec++[c],d.rel.path=q.path->has q.set d.place=true:=fun q hq d hd e=>by
 grind [nI,DL,ci]
theorem Kp(h:DL dec c=some n):n∈Qb c/\∃d∈dec++[c],d.rel.path=n.rq.path/\has n.rq.set d.place=false:=by
 grind [DL,ci]
theorem Is.snoc(h:Is roots dec)(hN:bn roots dec p needs)(hc:c.rel.path=p)(hn:∀n∈needs,has n.rq.set c.place=true)(hk:DL dec c=none):Is roots (dec++[c]):=by
 intro q hq d hd e;rw[TK]at hq;rcases Bk.1 hq with hq | hq
 .rcases Bk.1 hd with hd | hd
  .exact h q hq d hd e
  .rw[AC.1 hd]at e⊢;rw[<-IU]at hq
   grind [bn.mem]
 grind [ZM]
def Um(y:Sl):List Sl->List Sl
 | []=>[y]
 |z::l=>if E0 y.path z.path then y::z::l else z::Um y l
def Ev:List Sl->List Sl
 | []=>[]
 |y::l=>Um y (Ev l)
theorem Ta{y z:Sl}:∀{l:List Sl},z∈Um y l↔z=y\/z∈l
 | []=>by simp[Um]
 |u::l=>by
  unfold Um;split
  .simp
  .rw[AM,Ta,AM]
   grind
theorem FL{z:Sl}:∀{l:List Sl},z∈Ev l↔z∈l
 | []=>by simp[Ev]
 |u::l=>by unfold Ev;rw[Ta,FL,AM]
theorem X0{y:Sl}:∀{l:List Sl},Ua l->(∀z∈l,z.path≠y.path)->Ua (Um y l)
 | [],_,_=>by grind [Um]
 |u::l,h,hn=>by
  obtain⟨h1,h2⟩:=DA.1 h;unfold Um;split
  .grind [List.pairwise_cons,DZ]
  .rename_i hb;refine DA.2 ⟨fun z hz=>?_,X0 h2 fun z hz=>hn z (Ah _ hz)⟩
   grind [Ta,HT]
theorem Ql:∀{l:List Sl},(l.map (·.path)).Nodup->Ua (Ev l)
 | [],_=>List.Pairwise.nil
 |y::l,h=>by
  simp only[Bb,FY]at h;exact X0 (Ql h.2) fun z hz e=>h.1 (Ar.2 ⟨z,FL.1 hz,e⟩)
theorem S7:∀{l:List Sl} {b:Option ByteArray},Ua l->(∀c,b=some c->∀y∈l,E0 c y.path=true)->LU b l=true
 | [],_,_,_=>by unfold LU;rfl
 |y::l,b,h,hb=>by
  obtain⟨h1,h2⟩:=DA.1 h;unfold LU;cases b with
  |none=>simpa using S7 h2 fun c e z hz=>by simp_all
  |some c=>
   have:=hb c rfl y (Ae ..)
   simp only[this,Rg];exact S7 h2 fun c e z hz=>by simp_all
theorem jh{l:List Sl}(h:Ua l):C3 l=true:=S7 h fun _ e=>by cases e
theorem JW(hx:AX x=0)(hr:r∈x):BL x (DJ r)=some r:=by
 unfold BL;rw[AB (fun h=>h hx)];cases h:x.find? fun s=>decide (DJ s=DJ r)with
 |none=>
  grind
 |some s=>
  have h1:=FW h;simp only[AQ]at h1;rw[Tb (BY hx).2 (B9 h) hr h1]
theorem Dz.sorted(h:Dz x dec):Ua (Ev (AH dec)):=Ql (by rw[KE];exact h.nodup)
theorem Dz.findS(h:Dz x dec)(hc:c∈dec):BD (Ev (AH dec)) c.rel.path=some (PM c):=
 M1 h.sorted (y:=PM c) (FL.2 (Ar.2 ⟨c,hc,rfl⟩))
theorem X6(hx:AX x=0)(h:Dz x dec)(hs:Is roots dec)(hl:F9 (FR roots dec) (AH dec)=none):la x roots (Ev (AH dec)):=by
 have GP:∀q∈FR roots dec,∃y,BD (Ev (AH dec)) q.path=some y/\has q.set (place y.ver)=true:=fun q hq=>by
  have:=Tq hl q hq
  rw[KA]at this;obtain⟨y,hy,e⟩:=this;obtain⟨d,hd,rfl⟩:=Ar.1 hy;have e:d.rel.path=q.path:=e;refine⟨PM d,by grind [Dz.findS],?_⟩;have h1:=hs q hq d hd e;have DY:=(BY hx).1 _ (h.cand d hd).1;rw[(h.cand d hd).2.2,DY.plc]at h1;exact h1
 refine⟨hx,jh h.sorted,fun y hy=>?_,fun q hq=>GP q (Bw _ hq),fun y hy r hr q hq=>?_⟩
 .obtain⟨d,hd,rfl⟩:=Ar.1 (FL.1 hy);exact⟨d.rel,JW hx (h.cand d hd).1,(h.cand d hd).2.1⟩
 .obtain⟨d,hd,rfl⟩:=Ar.1 (FL.1 hy)
  have:BL x (PM d)=some d.rel:=JW hx (h.cand d hd).1
  rw[this]at hr;cases hr;exact GP q (Ca _ (Fy.2 ⟨_,Ar.2 ⟨d,hd,rfl⟩,hq⟩))
def fD(dec:List Cd)(needs:List Nd)(c:Cd):Bool:=(needs.all fun n=>has n.rq.set c.place)&&(DL dec c).isNone
def NJ(x:List Rl)(roots:List Rq):Nat->List Cd->List (List Cd)
 |0,_=>[]
 |n+1,dec=>match(Et roots dec).2 with
  | []=>[dec]
  |n0::l=>((Br x (Et roots dec).1).map fun c=>if fD dec (n0::l) c then NJ x roots n (dec++[c])else []).flatten
structure Lf(x:List Rl)(roots:List Rq)(dec d:List Cd):Prop where
 pre:dec <+: d
 ok:Dz x d
 sat:Is roots d
 stop:F9 (FR roots d) (AH d)=none
theorem GK(h:c∈Br x p):c.rel.path=p/\(c.rel∈x/\c.rel.yanked=false/\c.place=plc c.rel.ver):=by
 grind [Kn]
theorem OV:fD dec needs c=true↔(∀n∈needs,has n.rq.set c.place=true)/\DL dec c=none:=by
 grind [fD,Option.isNone_iff_eq_none]
theorem Va{x:List Rl}{roots:List Rq}:∀{n:Nat} {dec:List Cd},Dz x dec->Is roots dec->∀d∈NJ x roots n dec,Lf x roots dec d
 |0,_,_,_,d,hd=>by cases hd
 |n+1,dec,h,hs,d,hd=>by
  unfold NJ at hd;split at hd
  .grind [Tp,Lf.mk]
  .rename_i n0 l e;have hN:=KF e;obtain⟨L,hL,hd⟩:=Fy.1 hd;obtain⟨c,hc,rfl⟩:=Ar.1 hL;split at hd
   .rename_i DY;obtain⟨h1,h2⟩:=OV.1 DY;obtain⟨c1,c2⟩:=GK hc;have dV:De dec c.rel.path=false:=by grind [bn.undone]
    have:=Va (n:=n) (h.snoc c2 dV) (hs.snoc hN c1 h1 h2) d hd
    grind [List.prefix_append,Lf.mk,Lf.pre,Lf.ok,Lf.sat,Lf.stop]
   simp_all
theorem Lf.sol(hx:AX x=0)(h:Lf x roots dec d):la x roots (Ev (AH d)):=X6 hx h.ok h.sat h.stop
theorem nh(hx:AX x=0)(hd:Eo x roots s)(hk:k<s.drv.length)(he:B7 (DX s k) (AH dec)=true)(h:Lf x roots dec d):False:=by
 have hS:=h.sol hx;have hv:=VV (s:=Ev (AH d)) hS.inc (fun y hy=>FL.2 (by
  obtain⟨c,hc,rfl⟩:=Ar.1 hy;obtain⟨t,e⟩:=h.pre<;>grind)) he
 have hn:=Ly hS (d:=[]) (fun _ h=>by cases h) hd.der (DX s k) (by
  simp_all)
 simp_all
theorem qG(h:AX x=0):x.length<=256:=by
 grind [AX]
theorem iM{l:List Rl}{k:Int}:(l.map fun r=>(plc r.ver,plc r.ver+1)).any (BS k)=true↔∃r∈l,plc r.ver=k:=by
 rw[CB];constructor
 .grind [D0]
 .rintro⟨r,hr,rfl⟩
  exact⟨_,Ar.2 ⟨r,hr,rfl⟩,D0.2 ⟨Cp _,by omega⟩⟩
theorem UB(hx:AX x=0){k:Int}:has (BC x p) k=true↔∃c∈Br x p,c.place=k:=by
 unfold BC;rw[GY];unfold has KJ;rw[AB (fun h=>h hx)];simp only[Aj,AQ];rw[iM];constructor
 .rintro⟨_,r,hr,rfl⟩
  simp only[CQ,AQ,E7]at hr;exact⟨⟨plc r.ver,r⟩,Kn.2 ⟨r,hr.1.1,hr.1.2,hr.2,rfl⟩,rfl⟩
 .rintro⟨c,hc,rfl⟩
  obtain⟨r,h1,h2,h3,rfl⟩:=Kn.1 hc;have DY:=(BY hx).1 r h1
  have:=I7 DY.val
  grind [Jf.plc]
theorem cS(hx:AX x=0)(p:ByteArray):∃k:Int,0<=k/\k<1000000/\has (BC x p) k=false:=by
 apply AY;intro hn;have GP:∀k∈(List.range 257).map fun i:Nat=>(i:Int),k∈x.map fun r=>plc r.ver:=by
  intro k hk;obtain⟨i,hi,rfl⟩:=Ar.1 hk;have hi:=List.mem_range.1 hi;have hh:has (BC x p) (i:Int)=true:=by
   grind
  grind [UB,Kn]
 have:=Da (JM.2 (List.nodup_range.imp fun h e=>h (Int.ofNat.inj e))) GP
 grind [qG]
theorem Tc(dec:List Cd)(c:Cd):AH (dec++[c])=Ll (AH dec) c.rel.path c.rel.ver:=Wk
theorem Ku{t:List Tm}{S:List Sl}:B7 t S=true↔A4 t S=true/\∀u∈t,Ch S u.path=true:=by
 grind [B7]
section
variable {x:List Rl}{roots:List Rq}{dec:List Cd}{p:ByteArray}{needs:List Nd}
abbrev aJ(p:ByteArray)(dec:List Cd):List ByteArray:=p::(AH dec).map (·.path)
theorem lW{c:Cd}{t:List Tm}(hf:Form t)(he:B7 t (AH (dec++[c]))=true):Rh (aJ c.rel.path dec) t:=by
 refine⟨EA hf,fun u hu=>?_⟩
 grind [Ku,EC]
theorem im(hx:AX x=0)(hd:Dz x dec){c:Cd}(hc:c.rel∈x){t:List Tm}(he:B7 t (AH (dec++[c]))=true)(hn:Dr t c.rel.path=false):B7 t (AH dec)=true:=by
 obtain⟨h1,h2⟩:=Ku.1 he;have CU:=Jm hn;rw[Tc]at h1 h2;refine Ku.2 ⟨?_,fun u hu=>?_⟩
 .rw[Kh (.self (hd.valid hx)) (.ver (hd.valid hx) ((BY hx).1 _ hc).val) CU];exact h1
 grind [KA]
theorem fV(hx:AX x=0)(hd:Dz x dec){c:Cd}(hc:c.rel∈x/\c.rel.yanked=false/\c.place=plc c.rel.ver)(hu:De dec c.rel.path=false){t:List Tm}(hf:Form t)(he:B7 t (AH (dec++[c]))=true)(hn:Dr t c.rel.path=true) :
  Zv (AH dec) (aJ c.rel.path dec) c.rel.path t fun k=>k=c.place:=by
 have DY:=(BY hx).1 _ hc.1;have hV:=hd.valid hx;have h1:=(Ku.1 he).1;rw[Tc]at h1;refine⟨hf,lW hf he,hn,⟨_,.ver hV DY.val,h1⟩,fun k k0 k1 e=>?_⟩
 grind [bj,F3,EN,GT,Jf.val,Jf.plc]
theorem OM(hx:AX x=0)(hr:Bu roots=0){E:List Cd}(hE:Dz x E){n:Nd}(hn:n∈CP roots E)(hv:∃d∈E,d.rel.path=n.rq.path/\has n.rq.set d.place=false) :
  (∀d,BA x roots d (OH n)=some (HI n))/\B7 (HI n) (AH E)=true/\Form (HI n):=by
 obtain⟨d,hd,e,hs⟩:=hv;have DY:=(BY hx).1 _ (hE.cand d hd).1;have hf:=hE.find hd;have hI:=RE hx hr hE hn (.inr ⟨PM d,by simp_all,by rw[show(PM d).ver=d.rel.ver from rfl,<-DY.plc,<-(hE.cand d hd).2.2];exact hs⟩);refine⟨hI.inf,Ku.2 ⟨hI.viol,fun u hu=>?_⟩,hI.form⟩
 have:=(hI.inU ((AH E).map (·.path)) (fun h=>EC.1 (hI.path h)) (EC.1 (by grind [Jq]))).2 u hu
 exact EC.2 this
theorem fo(hx:AX x=0)(hr:Bu roots=0)(hd:Dz x dec)(hN:bn roots dec p needs){c:Cd}(hc:c∈Br x p){n:Nd}(hn:n∈needs)(hs:has n.rq.set c.place=false):Dr (HI n) p=true:=by
 obtain⟨c1,c2⟩:=GK hc;have hu:De dec c.rel.path=false:=by grind [bn.undone]
 have hE:=hd.snoc c2 hu;obtain⟨lg,y7⟩:=(hN.mem n).1 hn;have DY:=(BY hx).1 _ c2.1;have hI:=RE hx hr hE (NM lg) (.inr ⟨PM c,by grind [Dz.find],by grind [Jf.plc]⟩);cases rK:Dr (HI n) p with
 |true=>rfl
 |false=>
  exfalso
  have ND:n.rq.set≠[]/\En n.rq.set:=by
   rcases L4 lg with ⟨k,q,h1,rfl⟩ | ⟨c,hc,k,q,h1,rfl⟩
   .grind [ID]
   .exact((BY hx).1 _ (hd.cand c hc).1).set q (Ax h1)
  obtain⟨k,hk⟩:=cM ND.1 ND.2;have qr:=PE hk;have hV:=hd.valid hx;have o1:T3 (AH dec) p (Ll (AH dec) p (WV k)):=.ver hV (EN qr);have o2:T3 (AH dec) p (AH (dec++[c])):=by grind [T3.ver,Jf.val]
  have h1:=Kh o1 o2 (Jm rK);rw[hI.viol,hI.raw _ o1.val,Bq]at h1
  have:=h1 (Dm n.rq) (by grind [MQ])
  grind [Dm,HL,F3,Tx,GT]
theorem eX(hx:AX x=0)(hr:Bu roots=0)(hd:Dz x dec)(hN:bn roots dec p needs){n0:Nd}(h0:n0∈needs)(L:List (Nat×Cd))(hL:L.map (·.2)=Br x p)(hs:Eo x roots s)(BW:∀y∈L,y.1<s.drv.length)(t8:s.full=false->∀y∈L,B7 (DX s y.1) (AH (dec++[y.2]))=true/\Dr (DX s y.1) p=true) :
  Eo x roots (Dj x p n0 (L.map (·.1)) s).2/\Grow s (Dj x p n0 (L.map (·.1)) s).2/\(Dj x p n0 (L.map (·.1)) s).1<(Dj x p n0 (L.map (·.1)) s).2.drv.length /\
  ((Dj x p n0 (L.map (·.1)) s).2.full=false->B7 (DX (Dj x p n0 (L.map (·.1)) s).2 (Dj x p n0 (L.map (·.1)) s).1) (AH dec)=true):=by
 have hV:=hd.valid hx;have zo:Ch (AH dec) p=false:=by rw[F3];exact hN.undone
 obtain⟨wk,zm⟩:=(hN.mem n0).1 h0;have hI:=RE hx hr hd wk (.inl (by grind [Hj]));unfold Dj;obtain⟨a1,a2,a3⟩:=JP hs (hI.inf s.drv);have ag:=JQ s (OH n0) (HI n0);have a3:(Bx s n0).2.full=false->DX (Bx s n0).2 (Bx s n0).1=HI n0:=a3
 change Eo x roots (Bx s n0).2 at a1
 change (Bx s n0).1<(Bx s n0).2.drv.length at a2
 change Grow s (Bx s n0).2 at ag
 generalize Bx s n0=s1 at *
 -- the incompatibility of the places that are not available
 obtain⟨u,u0,u1,hu⟩:=cS hx p;have iZ:∀k:Int,0<=k->k<1000000->has (BC x p) k=false->A4 [(⟨p,false,EB (BC x p)⟩:Tm)] (Ll (AH dec) p (WV k))=true:=fun k k0 k1 hk=>by
  grind [Bq,CH,HL,EN,GT,FK,Ru]
 have oT:A4 [(⟨p,false,EB (BC x p)⟩:Tm)] (AH dec)=false:=by
  rw[Bn];intro h
  have:=Bq.1 h _ (Ae ..)
  rw[show(⟨p,false,EB (BC x p)⟩:Tm).path=p from rfl,Hj zo]at this;cases this
 have ou:T3 (AH dec) p (Ll (AH dec) p (WV u)):=.ver hV (EN ⟨u0,u1⟩);have CU:E3 p (BC x p)≠[]:=by
  have c1:=CJ (l:=[(⟨p,false,EB (BC x p)⟩:Tm)]) ou.val;have c2:=CJ (l:=[(⟨p,false,EB (BC x p)⟩:Tm)]) hV;rw[iZ u u0 u1 hu]at c1;rw[oT]at c2;unfold E3 PT;cases hc:CD [(⟨p,false,EB (BC x p)⟩:Tm)]with
  |none=>grind
  |some c=>
   rw[hc]at c2;intro e;have e:c=[]:=e;rw[e]at c2;cases c2
 have QO:∀S,FP S->A4 (E3 p (BC x p)) S=A4 [(⟨p,false,EB (BC x p)⟩:Tm)] S:=fun S v=>PU v CU;have tC:Dr (E3 p (BC x p)) p=true:=by
  cases h:Dr (E3 p (BC x p)) p with
  |true=>rfl
  |false=>
   have:=Kh ou (.self hV) (Jm h)
   rw[QO _ ou.val,QO _ hV,iZ u u0 u1 hu,oT]at this;simp_all
 have XN:BA x roots s1.2.drv ⟨2,p,0,0,0,0⟩=some (E3 p (BC x p)):=by
  unfold BA;rw[AB (show ¬((2:Int)=0) by decide),AB (show ¬((2:Int)=1) by decide),As rfl,As ⟨rfl,rfl,rfl,rfl⟩];unfold ne0;simp_all
 obtain⟨b1,b2,b3⟩:=JP a1 XN;have bg:=JQ s1.2 ⟨2,p,0,0,0,0⟩ (E3 p (BC x p));have b3:(D3 x p s1.2).2.full=false->DX (D3 x p s1.2).2 (D3 x p s1.2).1=E3 p (BC x p):=b3
 change Eo x roots (D3 x p s1.2).2 at b1
 change (D3 x p s1.2).1<(D3 x p s1.2).2.drv.length at b2
 change Grow s1.2 (D3 x p s1.2).2 at bg
 generalize D3 x p s1.2=s2 at *
 have tp:s2.2.full=false->s1.2.full=false/\s.full=false:=fun h=>by
  have h1:s1.2.full=false:=by
   cases e:s1.2.full with
   |false=>rfl
   |true=>rw[bg.full e]at h;cases h
  refine⟨h1,?_⟩;cases e:s.full with
  |false=>rfl
  |true=>rw[ag.full e]at h1;cases h1
 have main:=NH (D:=AH dec) (U:=aJ p dec) (p:=p) hV ((s2.1,fun k=>has (BC x p) k=false)::L.map fun y=>(y.1,fun k=>k=y.2.place)) (C:=fun k=>has n0.rq.set k=false) b1 (AA a2 bg.len)
  (fun y hy=>by
   rcases AM.1 hy with rfl | hy
   .exact b2
   .obtain⟨z,hz,rfl⟩:=Ar.1 hy;exact AA (BW z hz) (ag.trans bg).len) (fun hf=>by
   obtain⟨f1,f0⟩:=tp hf;refine⟨?_,fun y hy=>?_⟩
   .rw[bg.at a2,a3 f1];refine⟨hI.form,hI.inU _ (fun h=>Ah _ (EC.1 (hI.path h))) Wk,hI.viol,fun k k0 k1 hk=>?_⟩;have ok:T3 (AH dec) p (Ll (AH dec) p (WV k)):=.ver hV (EN ⟨k0,k1⟩);rw[hI.raw _ ok.val,Bq];intro t ht;have ai:=Bq.1 ((hI.raw _ hV).symm.trans hI.viol) t ht;unfold MQ at ht;have qy:CH (Dm n0.rq) (BD (Ll (AH dec) p (WV k)) (Dm n0.rq).path)=true:=by
     rw[show(Dm n0.rq).path=p from zm,HL zo];exact QY (.inr ⟨_,rfl,EN ⟨k0,k1⟩,by rw[show(⟨p,WV k⟩:Sl).ver=WV k from rfl,GT];exact hk⟩)
    split at ht
    .simp_all
    .rename_i hm;rcases AM.1 ht with rfl | ht
     .have CU:n0.path≠p:=fun e=>by
       have:=hI.path hm
       simp_all
      rw[show(⟨n0.path,false,[(n0.place,n0.place+1)]⟩:Tm).path=n0.path from rfl]at ai⊢;rw[ok.same _ CU];omega
     simp_all
   .rcases AM.1 hy with rfl | hy
    .show Zv _ _ p (DX s2.2 s2.1) _;rw[b3 hf];refine⟨L9 _,Tw (fun t ht=>by simp_all),tC,⟨_,ou,by rw[QO _ ou.val];simp_all⟩,fun k k0 k1 hk=>?_⟩;rw[QO _ (T3.ver hV (EN ⟨k0,k1⟩)).val];simp_all
    .obtain⟨z,hz,rfl⟩:=Ar.1 hy;show Zv _ _ p (DX s2.2 z.1) _;rw[(ag.trans bg).at (BW z hz)];obtain⟨e1,e2⟩:=t8 f0 z hz;have hzc:z.2∈Br x p:=aa1
     obtain⟨c1,c2⟩:=GK hzc
     have:=fV hx hd c2 (by rw[c1];exact hN.undone) (hs.forms z.1) e1 Wk
     simp_all)
 have y6:((s2.1,fun k=>has (BC x p) k=false)::L.map fun y=>(y.1,fun k=>k=y.2.place)).map (·.1)=s2.1::L.map (·.1):=by
  simp_all
 rw[y6]at main;obtain⟨m1,m2,m3,m4⟩:=main;refine⟨m1,(ag.trans bg).trans m2,m3,fun hf=>?_⟩;obtain⟨C',q1,q2⟩:=m4 hf;have hnc:Dr (DX (B2 p (s2.1::L.map (·.1)) s1.1 s2.2).2 (B2 p (s2.1::L.map (·.1)) s1.1 s2.2).1) p=false:=by
  rcases q2 with q2 | q2
  .exact q2
  .refine jD zo q1.form q1.none_ fun k k0 k1=>q1.cov k k0 k1 (q2 k ?_);cases rQ:has n0.rq.set k with
   |false=>simp_all
   |true=>
    cases ha:has (BC x p) k with
    |false=>simp_all
    |true=>
     obtain⟨c,hc,e⟩:=(UB hx).1 ha;rw[<-hL]at hc;obtain⟨z,hz,rfl⟩:=Ar.1 hc;exact .inr ⟨_,Ah _ (Ar.2 ⟨z,hz,rfl⟩),e.symm⟩
 refine Ku.2 ⟨q1.none_,fun t ht=>?_⟩
 have:=q1.inU.2 t ht
 rcases AM.1 this with e | h
 .exact absurd e (Jm hnc t ht)
 .exact EC.2 h
end
def FS(s:SS)(b:List Cd)(p:ByteArray)(needs:List Nd):List Cd->List Sk->Prop
 | [],sk=>sk=[]
 |c::cs,sk=>if(needs.all fun n=>has n.rq.set c.place)=true then ∃(k:Nat) (rest:List Sk),sk=⟨p,c.place,k⟩::rest/\(k<s.drv.length/\B7 (DX s k) (AH (b++[c]))=true)/\FS s b p needs cs rest
  else FS s b p needs cs sk
section
variable {s s' : SS}{b:List Cd}{p:ByteArray}{needs:List Nd}
theorem FS.out{c:Cd}(hc:¬(needs.all fun n=>has n.rq.set c.place)=true):∀{cs:List Cd} {sk:List Sk},FS s b p needs cs sk->FS s b p needs (cs++[c]) sk
 | [],sk,h=>by
  show(if _ then _ else _)
  grind
 |d::cs,sk,h=>by
  have h:if(needs.all fun n=>has n.rq.set d.place)=true then _ else _:=h
  show(if _ then _ else _)
  by_cases hd:(needs.all fun n=>has n.rq.set d.place)=true
  .rw[As hd]at h⊢;obtain⟨k,rest,h1,h2,h3⟩:=h;exact⟨k,rest,h1,h2,FS.out hc h3⟩
  .rw[AB hd]at h⊢;exact FS.out hc h
theorem FS.add{c:Cd}(hc:(needs.all fun n=>has n.rq.set c.place)=true){k:Nat}(hk:k<s.drv.length/\B7 (DX s k) (AH (b++[c]))=true):∀{cs:List Cd} {sk:List Sk},FS s b p needs cs sk->FS s b p needs (cs++[c]) (sk++[⟨p,c.place,k⟩])
 | [],sk,h=>by
  have h:sk=[]:=h;subst h;show(if _ then _ else _);rw[As hc];exact⟨k,[],rfl,hk,rfl⟩
 |d::cs,sk,h=>by
  have h:if(needs.all fun n=>has n.rq.set d.place)=true then _ else _:=h
  show(if _ then _ else _)
  by_cases hd:(needs.all fun n=>has n.rq.set d.place)=true
  .rw[As hd]at h⊢;obtain⟨j,rest,rfl,h2,h3⟩:=h;exact⟨j,_,rfl,h2,FS.add hc hk h3⟩
  .rw[AB hd]at h⊢;exact FS.add hc hk h
theorem FS.mono(hg:Grow s s'):∀{cs:List Cd} {sk:List Sk},FS s b p needs cs sk->FS s' b p needs cs sk
 | [],_,h=>h
 |d::cs,sk,h=>by
  have h:if(needs.all fun n=>has n.rq.set d.place)=true then _ else _:=h
  show(if _ then _ else _)
  by_cases hd:(needs.all fun n=>has n.rq.set d.place)=true
  .rw[As hd]at h⊢;obtain⟨j,rest,rfl,h2,h3⟩:=h;exact⟨j,rest,rfl,⟨AA h2.1 hg.len,by grind [Grow.at]⟩,h3.mono hg⟩
  .rw[AB hd]at h⊢;exact h.mono hg
end
structure pn(x:List Rl)(roots:List Rq)(s:SS)(b:List Cd)(c:Cd)(sk:List Sk)(p:ByteArray)(needs:List Nd)(pre post:List Cd):Prop where
 next:bn roots b p needs
 cands:Br x p=pre++c::post
 fit:∀n∈needs,has n.rq.set c.place=true
 noclash:DL b c=none
 skips:FS s b p needs pre sk
def Chain(x:List Rl)(roots:List Rq)(s:SS):List Cd->List Cd->List (List Sk)->Prop
 |b,[],[]=>F9 (FR roots b) (AH b)=none
 |b,c::t,sk::st=>(∃p needs pre post,pn x roots s b c sk p needs pre post)/\Chain x roots s (b++[c]) t st
 |_,_,_=>False
structure No(x:List Rl)(roots:List Rq)(ls:List (List Cd))(dec:List Cd)(s:SS)(st:List (List Sk))(o:JO):Prop where
 der:Eo x roots o.ss
 grow:Grow s o.ss
 no:o.found=false->o.dec=dec/\o.stack=st/\(o.ss.full=false->o.res<o.ss.drv.length/\B7 (DX o.ss o.res) (AH dec)=true)
 yes:o.found=true->o.ss.full=false/\∃t sl,o.dec=dec++t/\o.stack=st++sl/\Chain x roots o.ss dec t sl/\ls.head?=some o.dec
section
variable {rec:List Cd->SS->List (List Sk)->JO}{x:List Rl}{roots:List Rq}{p:ByteArray}{needs:List Nd}{n0:Nd}{dec:List Cd}{st:List (List Sk)}
def H3(rec:List Cd->SS->List (List Sk)->JO)(x:List Rl)(p:ByteArray)(needs:List Nd)(n0:Nd)(dec:List Cd)(st:List (List Sk))(c:Cd)(cs:List Cd)(reasons:List Nat)(skips:List Sk)(k:Nat)(s:SS):JO:=
 if Dr (DX s k) p=false then⟨k,false,s,dec,st⟩else Dy rec x p needs n0 dec st cs s (reasons++[k]) (skips++[⟨p,c.place,k⟩])
theorem Fu(c:Cd)(cs:List Cd)(s:SS)(reasons:List Nat)(skips:List Sk):Dy rec x p needs n0 dec st (c::cs) s reasons skips =
  if s.full=true then⟨0,false,s,dec,st⟩
  else match needs.find? fun n=>!has n.rq.set c.place with
   |some n=>Dy rec x p needs n0 dec st cs (Bx s n).2 (reasons++[(Bx s n).1]) skips
   |none=>match Nu s.drv (AH (dec++[c]))with
    |some k=>H3 rec x p needs n0 dec st c cs reasons skips k s
    |none=>match DL dec c with
     |some n=>H3 rec x p needs n0 dec st c cs reasons skips (Bx s n).1 (Bx s n).2
     |none=>if(rec (dec++[c]) s (st++[skips])).found=true then⟨0,true,(rec (dec++[c]) s (st++[skips])).ss,(rec (dec++[c]) s (st++[skips])).dec,(rec (dec++[c]) s (st++[skips])).stack⟩
      else if(rec (dec++[c]) s (st++[skips])).ss.full=true then⟨0,false,(rec (dec++[c]) s (st++[skips])).ss,dec,st⟩
      else H3 rec x p needs n0 dec st c cs reasons skips (rec (dec++[c]) s (st++[skips])).res (rec (dec++[c]) s (st++[skips])).ss:=rfl
theorem bY{s:SS}(hs:Eo x roots s){n:Nd}(h:∀d,BA x roots d (OH n)=some (HI n)):Eo x roots (Bx s n).2/\(Bx s n).1<(Bx s n).2.drv.length/\((Bx s n).2.full=false->DX (Bx s n).2 (Bx s n).1=HI n)/\Grow s (Bx s n).2:=by
 obtain⟨a1,a2,a3⟩:=JP hs (h s.drv);exact⟨a1,a2,a3,JQ _ _ _⟩
theorem No.grown{ls:List (List Cd)}{s s' : SS}{o:JO}(hg:Grow s s')(h:No x roots ls dec s' st o):No x roots ls dec s st o:=⟨h.der,hg.trans h.grow,h.no,h.yes⟩
theorem UE(hx:AX x=0)(hr:Bu roots=0)(hd:Dz x dec)(d9:Is roots dec)(hN:bn roots dec p needs)(h0:n0∈needs){lv:List Cd->List (List Cd)}(hlv:∀c∈Br x p,fD dec needs c=true->∀d∈lv (dec++[c]),Lf x roots (dec++[c]) d)
  (XS:∀c∈Br x p,fD dec needs c=true->∀s st,Eo x roots s->s.full=false->No x roots (lv (dec++[c])) (dec++[c]) s st (rec (dec++[c]) s st)) :
  ∀(cs:List Cd) {s:SS} (L:List (Nat×Cd)) {skips:List Sk},L.map (·.2)++cs=Br x p->Eo x roots s->(∀y∈L,y.1<s.drv.length)->(s.full=false->(∀y∈L,B7 (DX s y.1) (AH (dec++[y.2]))=true/\Dr (DX s y.1) p=true)/\FS s dec p needs (L.map (·.2)) skips) ->
   No x roots (((Br x p).map fun c=>if fD dec needs c then lv (dec++[c])else []).flatten) dec s st (Dy rec x p needs n0 dec st cs s (L.map (·.1)) skips)
 | [],s,L,skips,hL,hs,BW,t8=>by
  rw[B5]at hL;obtain⟨l1,l2,l3,l4⟩:=eX hx hr hd hN h0 L hL hs BW (fun hf=>(t8 hf).1);exact⟨l1,l2,fun _=>⟨rfl,rfl,fun hf=>⟨l3,l4 hf⟩⟩,fun h=>(by cases h)⟩
 |c::cs,s,L,skips,hL,hs,BW,t8=>by
  rw[Fu]
  by_cases hf:s.full=true
  .grind [No.mk,Grow.refl]
  rw[AB hf];have hf:s.full=false:=Wk
  obtain⟨zr,zt⟩:=t8 hf;have hc:c∈Br x p:=aa1
  obtain⟨c1,c2⟩:=GK hc;have hu:De dec c.rel.path=false:=by grind [bn.undone]
  have hE:=hd.snoc c2 hu
  -- on to the next candidate
  have go:∀(s' : SS) (k:Nat) (KP : List Sk),Eo x roots s'->Grow s s'->k<s'.drv.length->(s'.full=false->(B7 (DX s' k) (AH (dec++[c]))=true/\Dr (DX s' k) p=true)/\FS s' dec p needs (L.map (·.2)++[c]) KP) ->
    No x roots (((Br x p).map fun c=>if fD dec needs c then lv (dec++[c])else []).flatten) dec s st (Dy rec x p needs n0 dec st cs s' (L.map (·.1)++[k]) KP):=fun s' k KP ao hg hk CU=>by
   have:=UE hx hr hd d9 hN h0 hlv XS cs (s:=s') (L++[(k,c)]) (skips:=KP) Wk ao
    (fun y hy=>by
     rcases Bk.1 hy with hy | hy
     .exact AA (BW y hy) hg.len
     simp_all)
    (fun rN=>by
     grind [Grow.at])
   grind [No.grown]
  cases rO:needs.find? fun n=>!has n.rq.set c.place with
  |some n=>
   dsimp only;have lg:=B9 rO;have y7:=FW rO;have y7:has n.rq.set c.place=false:=Wk
   obtain⟨hn3,hn4⟩:=(hN.mem n).1 lg;obtain⟨e1,e2,e3⟩:=OM hx hr hE (NM hn3) ⟨c,by simp,by rw[c1,hn4],y7⟩<;>grind [bY,fo,FS.out,FS.mono]
  |none=>
   dsimp only;have mz:∀n∈needs,has n.rq.set c.place=true:=fun n hn=>by
    simp_all
   have GP:(needs.all fun n=>has n.rq.set c.place)=true:=Wk
   have rF:∀(s' : SS) (k:Nat),Eo x roots s'->Grow s s'->k<s'.drv.length->(s'.full=false->B7 (DX s' k) (AH (dec++[c]))=true) ->
     No x roots (((Br x p).map fun c=>if fD dec needs c then lv (dec++[c])else []).flatten) dec s st (H3 rec x p needs n0 dec st c cs (L.map (·.1)) skips k s'):=fun s' k ao hg hk he=>by
    unfold H3;cases rK:Dr (DX s' k) p with
    |false=>
     rw[As rfl];exact⟨ao,hg,fun _=>⟨rfl,rfl,fun rN=>⟨hk,im hx hd c2.1 (he rN) Wk⟩⟩,fun h=>(by cases h)⟩
    |true=>
     grind [FS.add,FS.mono]
   cases hen:Nu s.drv (AH (dec++[c]))with
   |some k=>
    grind [JU,Grow.refl]
   |none=>
    dsimp only;cases hcl:DL dec c with
    |some n=>
     dsimp only;obtain⟨m1,m2⟩:=Kp hcl;obtain⟨e1,e2,e3⟩:=OM hx hr hE (MB m1) m2<;>grind [bY]
    |none=>
     dsimp only;have DY:fD dec needs c=true:=OV.2 ⟨mz,hcl⟩;have hR:=XS c hc DY s (st++[skips]) hs hf;generalize rec (dec++[c]) s (st++[skips])=o at hR
     by_cases dX:o.found=true
     .rw[As dX];obtain⟨y1,t,sl,y2,y3,y4,y5⟩:=hR.yes dX;refine⟨hR.der,hR.grow,fun h=>(by cases h),fun _=>⟨y1,c::t,skips::sl,by simp_all,by simp_all,⟨⟨p,needs,L.map (·.2),cs,hN,hL.symm,mz,hcl,zt.mono hR.grow⟩,y4⟩,?_⟩⟩;show _=some o.dec;rw[<-hL,AG,CM,Bb,By];have ze:((L.map (·.2)).map fun c=>if fD dec needs c then lv (dec++[c])else []).flatten=[]:=by
       rw[List.flatten_eq_nil_iff];intro l hl;obtain⟨d,ld,rfl⟩:=Ar.1 hl;obtain⟨y,hy,rfl⟩:=Ar.1 ld;split
       .rename_i hoy;have hyc:y.2∈Br x p:=aa1
        refine La.2 fun d yE=>nh hx hs (BW y hy) (zr y hy).1 (hlv y.2 hyc hoy d yE)
       .rfl
      grind
     grind [No.no,No.mk,No.der,No.grow]
end
theorem SH(h:c.rel∈x/\c.rel.yanked=false)(hu:De dec c.rel.path=false):Fv x (dec++[c])<Fv x dec:=by
 have key:∀l:List Rl,(l.filter fun r=>!r.yanked&&!De (dec++[c]) r.path).length<=(l.filter fun r=>!r.yanked&&!De dec r.path).length /\
   (c.rel∈l->(l.filter fun r=>!r.yanked&&!De (dec++[c]) r.path).length<(l.filter fun r=>!r.yanked&&!De dec r.path).length):=by
  intro l
  induction l<;>grind [De]
 exact(key x).2 h.1
theorem Qk{x:List Rl}{roots:List Rq}(hx:AX x=0)(hr:Bu roots=0):∀(n:Nat) {dec:List Cd} {s:SS} {st:List (List Sk)},Dz x dec->Is roots dec->Eo x roots s->s.full=false->Fv x dec<n ->
  No x roots (NJ x roots n dec) dec s st (Cs x roots n dec s st)
 |0,_,_,_,_,_,_,_,h=>by omega
 |n+1,dec,s,st,hd,d9,hs,hf,hn=>by
  unfold Cs NJ;cases e:(Et roots dec).2 with
  |nil=>
   exact⟨hs,.refl s,fun h=>(by cases h),fun _=>⟨hf,[],[],by simp,by simp,Tp.1 e,rfl⟩⟩
  |cons n0 l=>
   have hN:=KF e;have next:∀c∈Br x (Et roots dec).1,fD dec (n0::l) c=true->Dz x (dec++[c])/\Is roots (dec++[c])/\Fv x (dec++[c])<n:=fun c hc DY=>by
    obtain⟨c1,c2⟩:=GK hc;have hu:De dec c.rel.path=false:=by grind [bn.undone]
    obtain⟨k1,k2⟩:=OV.1 DY;exact⟨hd.snoc c2 hu,d9.snoc hN c1 k1 k2,by have:=SH (dec:=dec) ⟨c2.1,c2.2.1⟩ hu;omega⟩
   exact UE hx hr hd d9 hN (Ae ..) (lv:=NJ x roots n) (fun c hc DY d ld=>Va (next c hc DY).1 (next c hc DY).2.1 d ld)
    (fun c hc DY s st hs hf=>Qk hx hr n (next c hc DY).1 (next c hc DY).2.1 hs hf (next c hc DY).2.2) _ [] rfl hs (fun y hy=>by cases hy) (fun _=>⟨fun y hy=>(by cases hy),rfl⟩)
theorem XD(x:List Rl)(dec:List Cd):Fv x dec<=x.length:=CL _ _
theorem Vo(hx:AX x=0)(hr:Bu roots=0):No x roots (NJ x roots (x.length+1) []) [] vv [] (EM x roots):=
 Qk hx hr _ (.nil x) (.nil roots) (.nil x roots) rfl (by grind [XD])
def MT(R:Nat):Nat:=[3,8,13,23,33,53,78,113,168,243,348,513,738,1053,1548,2223,3168].getD R 0
theorem lq:∀R≤16,3<=MT R/\∀k≤R,3+2*k+k*MT (R-k)<=MT R\/k=0:=aa2
section
variable {x:List Rl}{roots:List Rq}{p:ByteArray}{needs:List Nd}{n0:Nd}{dec:List Cd}{st:List (List Sk)}
theorem N2(i:Nf)(l:List Tm)(hf:s.full=false)(hc:s.infs.length<=65535):(DP s i l).2.full=false/\(DP s i l).2.infs.length<=s.infs.length+1:=⟨W3 i l hf B0,Zy s i l⟩
theorem Js:∀(l:List Nat) {k:Nat} {s:SS},s.full=false->s.infs.length+l.length<=65535->(B2 p l k s).2.full=false/\(B2 p l k s).2.infs.length<=s.infs.length+l.length
 | [],k,s,hf,_=>⟨hf,Ai _⟩
 |r::l,k,s,hf,hc=>by
  rw[AF]at hc⊢;unfold B2;split
  .simp_all
  split
  .obtain⟨h1,h2⟩:=Js l (k:=k) hf B0<;>grind
  split
  .obtain⟨h1,h2⟩:=Js l (k:=k) hf B0<;>grind
  .obtain⟨a1,a2⟩:=N2 ⟨3,p,0,0,(k:Nat),(r:Nat)⟩ (Bg (DX s k) (DX s r) p).1 hf B0;obtain⟨h1,h2⟩:=Js l (k:=(DP s ⟨3,p,0,0,(k:Nat),(r:Nat)⟩ (Bg (DX s k) (DX s r) p).1).1) a1 B0<;>grind
theorem Tf(reasons:List Nat)(hf:s.full=false)(hc:s.infs.length+(3+reasons.length)<=65535):(Dj x p n0 reasons s).2.full=false/\(Dj x p n0 reasons s).2.infs.length<=s.infs.length+(3+reasons.length):=by
 grind [Dj,N2,Bx,D3,Js]
theorem Sf{rec:List Cd->SS->List (List Sk)->JO}{B:Nat}(XS:∀c∈Br x p,∀s st,s.full=false->s.infs.length+B<=65535->(rec (dec++[c]) s st).ss.full=false/\(rec (dec++[c]) s st).ss.infs.length<=s.infs.length+B) :
  ∀(cs:List Cd) {s:SS} {reasons:List Nat} {skips:List Sk},(∀c∈cs,c∈Br x p)->s.full=false->s.infs.length+(3+(reasons.length+cs.length)+cs.length*(1+B))<=65535 ->
   (Dy rec x p needs n0 dec st cs s reasons skips).ss.full=false/\(Dy rec x p needs n0 dec st cs s reasons skips).ss.infs.length<=s.infs.length+(3+(reasons.length+cs.length)+cs.length*(1+B))
 | [],s,reasons,skips,_,hf,hc=>by
  simp only[A0,Dp,Nl]at hc⊢;exact Tf reasons hf hc
 |c::cs,s,reasons,skips,hm,hf,hc=>by
  rw[Fu,AB Wk];simp only[AF]at hc⊢;have Wf:(cs.length+1)*(1+B)=cs.length*(1+B)+(1+B):=aa1
  rw[Wf]at hc⊢
  have go:∀(s' : SS) (k:Nat) (KP : List Sk),s'.full=false->s'.infs.length<=s.infs.length+(1+B) ->
    (Dy rec x p needs n0 dec st cs s' (reasons++[k]) KP).ss.full=false/\(Dy rec x p needs n0 dec st cs s' (reasons++[k]) KP).ss.infs.length<=s.infs.length+(3+(reasons.length+(cs.length+1))+(cs.length*(1+B)+(1+B))):=fun s' k KP rN hl=>by
   have CF:(reasons++[k]).length=reasons.length+1:=aa0
   obtain⟨h1,h2⟩:=Sf XS cs (s:=s') (reasons:=reasons++[k]) (skips:=KP) (fun d hd=>hm d (Ah _ hd)) rN (by rw[CF];omega)<;>grind [List.mem_cons_of_mem]
  have rF:∀(s' : SS) (k:Nat),s'.full=false->s'.infs.length<=s.infs.length+(1+B) ->
    (H3 rec x p needs n0 dec st c cs reasons skips k s').ss.full=false/\(H3 rec x p needs n0 dec st c cs reasons skips k s').ss.infs.length<=s.infs.length+(3+(reasons.length+(cs.length+1))+(cs.length*(1+B)+(1+B))):=fun s' k rN hl=>by
   grind [H3]
  cases needs.find? fun n=>!has n.rq.set c.place with
  |some n=>
   obtain⟨a1,a2⟩:=N2 (OH n) (HI n) hf B0;exact go _ _ _ a1 (by show(DP s (OH n) (HI n)).2.infs.length<=_;omega)
  |none=>
   dsimp only;cases Nu s.drv (AH (dec++[c]))with
   |some k=>simp_all
   |none=>
    dsimp only;cases DL dec c with
    |some n=>
     obtain⟨a1,a2⟩:=N2 (OH n) (HI n) hf B0;exact rF _ _ a1 (by show(DP s (OH n) (HI n)).2.infs.length<=_;omega)
    |none=>
     grind
theorem XC{c:Cd}(hc:c∈Br x p)(hu:De dec p=false):Fv x (dec++[c])+(Br x p).length=Fv x dec:=by
 obtain⟨c1,_⟩:=GK hc;unfold Fv Br;rw[AW];have key:∀l:List Rl,(l.filter fun r=>!r.yanked&&!De (dec++[c]) r.path).length+(l.filter fun r=>decide (r.path=p)&&!r.yanked).length=(l.filter fun r=>!r.yanked&&!De dec r.path).length:=by
  intro l
  induction l<;>grind [De]
 simp_all
theorem TU:∀(n:Nat) {dec:List Cd} {s:SS} {st:List (List Sk)},s.full=false->Fv x dec<=16->s.infs.length+MT (Fv x dec)<=65535 ->
  (Cs x roots n dec s st).ss.full=false/\(Cs x roots n dec s st).ss.infs.length<=s.infs.length+MT (Fv x dec)
 |0,_,_,_,hf,_,_=>⟨hf,Nat.le_add_right ..⟩
 |n+1,dec,s,st,hf,hR,hc=>by
  unfold Cs;cases e:(Et roots dec).2 with
  |nil=>simp_all
  |cons n0 l=>
   have hN:=KF e;dsimp only;obtain⟨m1,m2⟩:=lq _ hR;cases hcs:Br x (Et roots dec).1 with
   |nil=>
    obtain⟨h1,h2⟩:=Tf (x:=x) (p:=(Et roots dec).1) (n0:=n0) (s:=s) [] hf aa1;refine⟨h1,?_⟩;show(Dj x (Et roots dec).1 n0 [] s).2.infs.length<=_
    grind
   |cons c0 cs0=>
    have Ad:∀c∈Br x (Et roots dec).1,Fv x (dec++[c])=Fv x dec-(Br x (Et roots dec).1).length/\(Br x (Et roots dec).1).length<=Fv x dec:=fun c hc=>by
     grind [XC,bn.undone]
    have tv:c0∈Br x (Et roots dec).1:=Wk
    have hk:=Ad c0 tv;have We:(Br x (Et roots dec).1).length≠0:=Wk
    have hm:=(m2 _ hk.2).resolve_right We;generalize hK:(Br x (Et roots dec).1).length=K at *
    have CF:(c0::cs0).length=K:=Wk
    have yv:3+(([]:List Nat).length+(c0::cs0).length)+(c0::cs0).length*(1+MT (Fv x dec-K))<=MT (Fv x dec):=by
     grind [Nat.mul_add]
    have AaZ:K<=K*(1+MT (Fv x dec-K)):=Nat.le_mul_of_pos_right _ B0;have hB:MT (Fv x dec-K)<=K*(1+MT (Fv x dec-K)):=by
     calc MT (Fv x dec-K)<=1+MT (Fv x dec-K):=B0
      _<=K*(1+MT (Fv x dec-K)):=Nat.le_mul_of_pos_left _ B0
    obtain⟨h1,h2⟩:=Sf (x:=x) (p:=(Et roots dec).1) (needs:=n0::l) (n0:=n0) (dec:=dec) (st:=st) (rec:=Cs x roots n) (B:=MT (Fv x dec-K)) (fun c hc s st hf hl=>by
     have:=Ad c hc
     have h3:=TU n (dec:=dec++[c]) (s:=s) (st:=st) hf B0 Wk;simp_all) (c0::cs0) (s:=s) (reasons:=[]) (skips:=[]) (fun c hc=>by simp_all) hf B0
    grind
theorem NT(h:x.length<=16):(EM x roots).ss.full=false:=by
 have hf:=XD x [];exact(TU (x:=x) (roots:=roots) _ (dec:=[]) (s:=vv) (st:=[]) rfl B0 (by
  have:∀R≤16,([]:List Nf).length+MT R<=65535:=aa2
  grind)).1
end
end Go.Eng
namespace Go.Eng
open Go.Lib
theorem Qm(c:UInt8):∀(s:List UInt8) (k:Nat),s.count c<=k->splitK [c] 0 k s=Fl c s
 | [],k,_=>by
  cases k with
  |zero=>rfl
  |succ k=>rfl
 |b::r,k,h=>by
  rw[Fl]
  by_cases e:b=c
  .subst e;rw[List.count_cons_self]at h;obtain⟨k',rfl⟩:∃k',k=k'+1:=⟨k-1,by omega⟩;rw[As rfl,splitK,index_one,indexByte];simp only[beq_self_eq_true,if_true];rw[AB aa2];show []::splitK [b] 0 k' r=_;rw[Qm b r k' B0]
  .have CU:(b == c)=false:=Wk
   rw[List.count_cons_of_ne B0]at h;have ih:=Qm c r k h;rw[AB e];cases k with
   |zero=>
    rw[<-ih];rfl
   |succ k=>
    rw[<-ih,splitK,splitK,index_one,index_one,indexByte,CU]
    by_cases h0:indexByte r c=-1
    .simp_all
    .have h1:(indexByte r c == -1)=false:=Wk
     have h2:=indexByte_ge r c;have h3:(indexByte r c+1 == -1)=false:=aa1
     simp only[Bool.false_eq_true,if_false,h1,h3];obtain⟨i,hi⟩:∃i:Nat,indexByte r c=i:=⟨(indexByte r c).toNat,by omega⟩<;>simp_all
theorem Xh(c:UInt8):∀(n:Nat) (s:List UInt8),s.length<=n->count s [c]=s.count c
 |n,s,hn=>by
  rcases Int.lt_or_le (indexByte s c) 0 with h | h
  .have h2:=indexByte_ge s c;have h3:indexByte s c=-1:=B0
   rw[count_miss (by grind [index_one])]
   symm
   rw[List.count_eq_zero];intro hm;obtain⟨k,hk,e⟩:=List.getElem_of_mem hm;exact indexByte_none h3 k Wk
  .obtain⟨i,hi⟩:∃i:Nat,indexByte s c=i:=⟨(indexByte s c).toNat,by omega⟩;obtain⟨h1,h2⟩:=indexByte_some hi;obtain⟨hl,hg⟩:=AE.1 h1;cases n with
   |zero=>omega
   |succ n=>
    have hc:=count_hit (s:=s) (sub:=[c]) (i:=i) aa0 (by grind [index_one]);rw[hc];have ih:=Xh c n (s.drop (i+1)) aa1;have ww:s=s.take i++c::s.drop (i+1):=by
     grind [List.drop_eq_getElem_cons,List.take_append_drop]
    grind [List.count_eq_zero,List.getElem_of_mem]
theorem ge(s:ByteArray)(c:UInt8):((splitB ⟨#[c]⟩ 0 (countB s ⟨#[c]⟩) s).map (·.data.toList))=Fl c s.data.toList:=by
 rw[splitB_data];refine Qm c _ _ ?_;show _<=count s.data.toList [c];rw[Xh c _ _ (Ai _)];omega
end Go.Eng
namespace Go.Eng
end Go.Eng
