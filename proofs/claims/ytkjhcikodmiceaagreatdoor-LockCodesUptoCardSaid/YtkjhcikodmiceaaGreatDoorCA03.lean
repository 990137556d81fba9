/- Lemmas 3. -/
import Derived.Test.YtkjhcikodmiceaaGreatDoorCA02
import Derived.Lib.SplitLaws
import Derived.Lib.IndexBytes
namespace Go.Eng
abbrev An2:=List Cd
abbrev An3:=ByteArray
abbrev An5:=List F
abbrev An7:=List Rq
abbrev An8:=List Sl
abbrev An9:=List Sk
abbrev Ao0:=List (List Sk)
abbrev Ao1:=List UInt8
abbrev Ao2:=List ByteArray
variable {x:An5}{dec:An2}{roots:An7}{c:Cd}{p:An3}{s:Ao1}{n:Nd}{E:An2}{needs:List Nd}{d:An2}{k:Nat}{r:F}{q:Rq}
structure Dy(x:An5)(dec:An2):Prop where
 cand:∀c∈dec,c.rel∈x/\c.rel.yanked=false/\c.place=plc c.rel.ver
 nodup:(dec.map fun c=>c.rel.path).Nodup
theorem Dy.nil(x:An5):Dy x []:=⟨fun _ h=>(by cases h),GX⟩
theorem Wn(h:J7 r):r.path≠mt:=fun e=>by
 have:=h.maj
 rw[e]at this;have h2:AR mt=none:=aa3
 simp_all
theorem J7.set{r:F}(h:J7 r):∀q∈r.reqs,q.set≠[]/\Ev q.set:=Jh h.reqs
theorem LZ(dec:An2):(AM dec).map (·.path)=dec.map fun c=>c.rel.path:=aa0
theorem O0:∀{D:An8},(D.map (·.path)).Nodup->∀{y:Sl},y∈D->Bw D y.path=some y
 | [],_,y,h=>by cases h
 |z::D,hn,y,h=>by
  simp only[A7,Gm]at hn;unfold Bw;rw[Fu];rcases AJ.1 h with rfl | h
  .simp_all
  .have:z.path≠y.path:=fun e=>hn.1 (Ap.2 ⟨y,h,e.symm⟩)
   rw[Al this];exact O0 hn.2 h
theorem Dy.find(h:Dy x dec)(hc:c∈dec):Bw (AM dec) c.rel.path=some (Sc c):=
 O0 (by rw[LZ];exact h.nodup) (y:=Sc c) (Ap.2 ⟨c,hc,rfl⟩)
theorem Dy.valid(hx:AU x=0)(h:Dy x dec):F6 (AM dec):=fun y hy=>by
 obtain⟨c,hc,rfl⟩:=Ap.1 hy;exact((BN hx).1 _ (h.cand c hc).1).val
theorem Dy.snoc(h:Dy x dec)(hc:c.rel∈x/\c.rel.yanked=false/\c.place=plc c.rel.ver)(hd:Dg dec c.rel.path=false):Dy x (dec++[c]):=by
 refine⟨fun d hd=>?_,?_⟩
 all_goals grind [Dg,Dy.cand,Dy.nodup]
theorem Nl(h:n∈CZ roots E):(∃k q,roots[k]?=some q/\n=⟨q,mt,0,(k:Nat)⟩)\/∃c∈E,∃k q,c.rel.reqs[k]?=some q/\n=⟨q,c.rel.path,c.place,(k:Nat)⟩:=by
 unfold CZ at h;rcases Bh.1 h with h | h
 .obtain⟨k,q,h1,h2⟩:=QQ h<;>grind [QQ]
 .obtain⟨l,hl,hn⟩:=GW.1 h;obtain⟨c,hc,rfl⟩:=Ap.1 hl;obtain⟨k,q,h1,h2⟩:=QQ hn<;>grind [QQ]
theorem Pr(h:n∈CZ roots dec):n∈CZ roots (dec++[c]):=by
 grind [CZ]
theorem N1(h:n∈Sz c):n∈CZ roots (dec++[c]):=by
 grind [CZ]
def Ok(n:Nd):List V:=if n.path=mt then [Do n.rq]else [⟨n.path,false,[(n.place,n.place+1)]⟩,Do n.rq]
theorem QC(n:Nd):It n=So (Ok n):=by grind [It,Ok,Ib,Dc]
theorem l6{s:AY}(h:s≠[])(hc:Ev s):∃k,has s k=true:=by
 match s,h,hc with
 |x::r,_,hc=>
  have:=Ep.low hc x (Ad ..)
  refine⟨x.1,?_⟩
  grind [has,BK]
theorem TW{o:Option Sl}(h:o=none\/∃y,o=some y/\Cf y.ver=true/\has q.set (place y.ver)=false):CP (Do q) o=true:=by
 rcases h with rfl | ⟨y,rfl,hv,hq⟩
 .rfl
 .show(Cf y.ver&&has (EJ q.set) (place y.ver))=true
  grind [JQ,FZ,Uk]
theorem Wl{y:Sl}(hq:has q.set (place y.ver)=true):CP (Do q) (some y)=false:=by
 show(Cf y.ver&&has (EJ q.set) (place y.ver))=false
 grind [FZ]
structure AdW(x:An5)(roots:An7)(S:An8)(n:Nd):Prop where
 inf:∀d,Cc x roots d (QD n)=some (It n)
 viol:A3 (It n) S=true
 raw:∀S',F6 S'->A3 (It n) S'=A3 (Ok n) S'
 form:Form (It n)
 inU:∀U:List An3,(n.path≠mt->n.path∈U)->n.rq.path∈U->Ub U (It n)
 path:n.path≠mt->Cb S n.path=true
theorem Ux(hx:AU x=0)(hr:Bb roots=0)(hE:Dy x E)(hn:n∈CZ roots E)(hv:Bw (AM E) n.rq.path=none\/∃y,Bw (AM E) n.rq.path=some y/\has n.rq.set (place y.ver)=false):AdW x roots (AM E) n:=by
 have hV:=hE.valid hx;have AbH:CP (Do n.rq) (Bw (AM E) n.rq.path)=true:=TW (hv.imp id fun⟨y,h1,h2⟩=>⟨y,h1,hV y (Gx h1),h2⟩)
 -- the raw list is A3 here,and not elsewhere
 have Pi:n.rq.set≠[]/\Ev n.rq.set:=by
  rcases Nl hn with ⟨k,q,h1,rfl⟩ | ⟨c,hc,k,q,h1,rfl⟩
  .grind [Jh]
  .exact((BN hx).1 _ (hE.cand c hc).1).set q (Ax h1)
 have rK:A3 (Ok n) (AM E)=true/\(n.path≠mt->Cb (AM E) n.path=true):=by
  rcases Nl hn with ⟨k,q,h1,rfl⟩ | ⟨c,hc,k,q,h1,rfl⟩
  .refine⟨?_,fun h=>absurd rfl h⟩;unfold Ok;rw[AO rfl,Bk];intro u hu;rw[AA.1 hu];exact AbH
  .have Ec:=Wn ((BN hx).1 _ (hE.cand c hc).1);refine⟨?_,fun _=>by grind [Kj,Dy.find]⟩;unfold Ok;rw[AB Ec,Bk];intro u hu;rcases AJ.1 hu with rfl | hu
   .show CP _ (Bw (AM E) c.rel.path)=true;rw[hE.find hc];show(Cf c.rel.ver&&has [(c.place,c.place+1)] (place c.rel.ver))=true;have EZ:=(BN hx).1 _ (hE.cand c hc).1;have hp:=JQ EZ.val;rw[EZ.val,(hE.cand c hc).2.2,EZ.plc]
    grind [has,BK]
   .rw[AA.1 hu];exact AbH
 have Ako:∃S',F6 S'/\A3 (Ok n) S'=false:=by
  unfold Ok;split
  .obtain⟨k,hk⟩:=l6 Pi.1 Pi.2;have nE:=RU hk;refine⟨[⟨n.rq.path,bV k⟩],fun y hy=>by grind [EU],?_⟩;rw[Bg];intro h
   have:=Bk.1 h (Do n.rq) (AA.2 rfl)
   grind [Do,Bw,Wl,Hk]
  .refine⟨[],fun y hy=>(by cases hy),?_⟩;rw[Bg];intro h
   have:=Bk.1 h _ (Ad ..)
   cases this
 obtain⟨rK,Afo⟩:=rK;have Ec:So (Ok n)≠[]:=by
  obtain⟨S',v',n'⟩:=Ako;have c1:=CR (l:=Ok n) hV;have c2:=CR (l:=Ok n) v';unfold So;cases hc:CK (Ok n)with
  |none=>simp_all
  |some c=>
   rw[hc,n']at c2;intro e;have e:c=[]:=e;rw[e]at c2;cases c2
 have Afs:∀S',F6 S'->A3 (It n) S'=A3 (Ok n) S':=fun S' v=>by grind [QC,Sp]
 refine⟨fun d=>?_,by simp_all,Afs,by grind [QC,Nr],fun U h1 h2=>?_,Afo⟩
 .rcases Nl hn with ⟨k,q,h1,rfl⟩ | ⟨c,hc,k,q,h1,rfl⟩
  .show Cc x roots d (if(mt:An3)=mt then⟨0,mt,0,(k:Nat),0,0⟩else _)=some (if(mt:An3)=mt then Ib q else _);rw[AO rfl,AO rfl];show(if mt=mt/\(0:Int)=0/\(0:Int)=0/\(0:Int)=0 then(E5 roots (k:Nat)).map Ib else none)=some (Ib q)
   grind [E5]
  .have EZ:=(BN hx).1 _ (hE.cand c hc).1;have kM:=Wn EZ;have hrel:FC x c.rel.path c.place=some c.rel:=by
    unfold FC;cases hf:x.find? fun r=>decide (r.path=c.rel.path)&&decide (plc r.ver=c.place)with
    |none=>
     grind [Dy.cand]
    |some r=>
     have h2:=Gk hf;simp only[Ao,AP]at h2;have rI:=BX hf;have Aks:=(BN hx).1 r rI;rw[lW (BN hx) rI (hE.cand c hc).1 h2.1 (by rw[<-Aks.plc,h2.2,(hE.cand c hc).2.2,EZ.plc])]
   grind [QD,It,Cc,E5,ne0,QC]
 .rw[QC];refine Wj fun u hu=>?_;unfold Ok at hu;split at hu
  .rw[AA.1 hu];exact h2
  .rename_i hm;rcases AJ.1 hu with rfl | hu
   .simp_all
   .rw[AA.1 hu];exact h2
structure gw(D:An8)(U:List An3)(p:An3)(t:List V)(C:Int->Prop):Prop where
 form:Form t
 inU:Ub U t
 conc:Dq t p=true
 one:∃S,Xb D p S/\A3 t S=true
 cov:∀k:Int,0<=k->k<1000000->C k->A3 t (MF D p (bV k))=true
structure gm(D:An8)(U:List An3)(p:An3)(t:List V)(C:Int->Prop):Prop where
 form:Form t
 inU:Ub U t
 none_:A3 t D=true
 cov:∀k:Int,0<=k->k<1000000->C k->A3 t (MF D p (bV k))=true
theorem Ew.forms{s:SS}(h:Ew x roots s):∀k,Form (D2 s k):=fun k=>by
 unfold D2;rw[List.getD_eq_getElem?_getD];cases e:s.drv[k]? with
 |none=>exact Vz
 |some t=>exact Ot (fun _ h=>by cases h) h.der t (Ax e)
theorem Yo{d:List (List V)}{r:Nat}(hk:k<d.length)(hr:r<d.length)(h0:(Bc (d.getD k []) (d.getD r []) p).2=0) :
  Cc x roots d ⟨3,p,0,0,(k:Nat),(r:Nat)⟩=some (Bc (d.getD k []) (d.getD r []) p).1:=by
 grind [E5,Int.toNat_natCast,Cc]
theorem Pl{x:An5}{roots:An7}{D:An8}{U:List An3}{p:An3}(hD:F6 D):∀(l:List (Nat×(Int->Prop))) {k:Nat} {s:SS} {C:Int->Prop},Ew x roots s->k<s.drv.length->(∀y∈l,y.1<s.drv.length) ->
  (s.full=false->gm D U p (D2 s k) C/\∀y∈l,gw D U p (D2 s y.1) y.2) ->
  Ew x roots (BT p (l.map (·.1)) k s).2/\Grow s (BT p (l.map (·.1)) k s).2/\(BT p (l.map (·.1)) k s).1<(BT p (l.map (·.1)) k s).2.drv.length /\
  ((BT p (l.map (·.1)) k s).2.full=false->∃C',gm D U p (D2 (BT p (l.map (·.1)) k s).2 (BT p (l.map (·.1)) k s).1) C' /\
   (Dq (D2 (BT p (l.map (·.1)) k s).2 (BT p (l.map (·.1)) k s).1) p=false\/∀j,C j\/(∃y∈l,y.2 j)->C' j))
 | [],k,s,C,hd,hk,_,hA=>⟨hd,.refl s,hk,fun hf=>⟨C,(hA hf).1,.inr fun j hj=>hj.elim id fun⟨y,hy,_⟩=>(by cases hy)⟩⟩
 |y::l,k,s,C,hd,hk,hl,hA=>by
  rw[A7]
  by_cases h1:s.full=true\/Dq (D2 s k) p=false
  .grind [BT.eq_def,Grow.refl]
  simp only[not_or,Mu,Tc]at h1;obtain⟨hf,aw⟩:=h1;obtain⟨ao,ny⟩:=hA hf;have hy:=ny y (Ad ..);have hi:¬(s.full=true\/Dq (D2 s k) p=false):=aa0
  by_cases h2:y.1=k
  .have e:BT p (y.1::l.map (·.1)) k s=BT p (l.map (·.1)) k s:=by grind [BT]
   rw[e];have di : gm D U p (D2 s k) fun j=>C j\/y.2 j:=⟨ao.form,ao.inU,ao.none_,fun j j0 j1 hj=>hj.elim (ao.cov j j0 j1) fun h=>by grind [gw.cov]⟩;obtain⟨i1,i2,i3,i4⟩:=Pl hD l hd hk (fun z hz=>hl z (Aj _ hz)) (fun _=>⟨di,fun z hz=>ny z (Aj _ hz)⟩);refine⟨i1,i2,i3,fun hf=>?_⟩;obtain⟨C',j1,j2⟩:=i4 hf;refine⟨C',j1,j2.imp id fun h j hj=>h j ?_⟩;rcases hj with hj | ⟨z,hz,hj⟩<;>grind
  .obtain⟨S2,o2,v2⟩:=hy.one;obtain⟨r1,r2⟩:=bq ao.form hy.form aw hy.conc (.self hD) ao.none_ o2 v2;have e:BT p (y.1::l.map (·.1)) k s=BT p (l.map (·.1)) (DT s ⟨3,p,0,0,k,y.1⟩ (Bc (D2 s k) (D2 s y.1) p).1).1 (DT s ⟨3,p,0,0,k,y.1⟩ (Bc (D2 s k) (D2 s y.1) p).1).2:=by
    grind [BT]
   rw[e];have hy1:=hl y (Ad ..);obtain⟨a1,a2,a3⟩:=KO hd (Yo (x:=x) (roots:=roots) hk hy1 r1);have hg:=KP s ⟨3,p,0,0,(k:Nat),(y.1:Nat)⟩ (Bc (D2 s k) (D2 s y.1) p).1;generalize iw : DT s ⟨3,p,0,0,(k:Nat),(y.1:Nat)⟩ (Bc (D2 s k) (D2 s y.1) p).1=s' at *
   have a3:s'.2.full=false->D2 s'.2 s'.1=(Bc (D2 s k) (D2 s y.1) p).1:=a3;obtain⟨i1,i2,i3,i4⟩:=Pl hD (C:=fun j=>C j\/y.2 j) l a1 a2 (fun z hz=>AF (hl z (Aj _ hz)) hg.len) (fun hf'=>by
    refine⟨?_,fun z hz=>by rw[hg.at (hl z (Aj _ hz))];exact ny z (Aj _ hz)⟩
    grind [OM,T1,EU,gm.mk,gm.inU,gw.inU,Xb.self,gm.none_,Xb.ver,gm.cov,gw.cov])
   refine⟨i1,hg.trans i2,i3,fun hf=>?_⟩;obtain⟨C',j1,j2⟩:=i4 hf;refine⟨C',j1,j2.imp id fun h j hj=>h j ?_⟩;rcases hj with hj | ⟨z,hz,hj⟩<;>grind
def I8(roots:An7)(dec:An2):Prop:=∀q∈Gf roots dec,∀d∈dec,d.rel.path=q.path->has q.set d.place=true
theorem I8.nil(roots:An7):I8 roots []:=fun _ _ d h=>by cases h
theorem WA(roots:An7)(dec:An2)(c:Cd):Gf roots (dec++[c])=Gf roots dec++c.rel.reqs:=by
 simp_all
theorem x8(c:Cd):(Sz c).map (·.rq)=c.rel.reqs:=UF (fun _ _=>rfl) _ _
theorem gR(h:DM dec c=none):∀q∈c.rel.reqs,∀d∈dec++[c],d.rel.path=q.path->has q.set d.place=true:=fun q hq d hd e=>by
 grind [x8,DM,li]
theorem LF(h:DM dec c=some n):n∈Sz c/\∃d∈dec++[c],d.rel.path=n.rq.path/\has n.rq.set d.place=false:=by
 grind [DM,li]
theorem I8.snoc(h:I8 roots dec)(hN:jJ roots dec p needs)(hc:c.rel.path=p)(hn:∀n∈needs,has n.rq.set c.place=true)(hk:DM dec c=none):I8 roots (dec++[c]):=by
 intro q hq d hd e;rw[WA]at hq;rcases Bh.1 hq with hq | hq
 .rcases Bh.1 hd with hd | hd
  .exact h q hq d hd e
  .rw[AA.1 hd]at e⊢;rw[<-Jv]at hq
   grind [jJ.mem]
 grind [gR]
def Xw(y:Sl):An8->An8
 | []=>[y]
 |z::l=>if E3 y.path z.path then y::z::l else z::Xw y l
def E1:An8->An8
 | []=>[]
 |y::l=>Xw y (E1 l)
theorem VU{y z:Sl}:∀{l:An8},z∈Xw y l↔z=y\/z∈l
 | []=>by simp[Xw]
 |u::l=>by
  unfold Xw;split
  .simp
  .rw[AJ,VU,AJ]
   grind
theorem F1{z:Sl}:∀{l:An8},z∈E1 l↔z∈l
 | []=>by simp[E1]
 |u::l=>by unfold E1;rw[VU,F1,AJ]
theorem dI{y:Sl}:∀{l:An8},Xg l->(∀z∈l,z.path≠y.path)->Xg (Xw y l)
 | [],_,_=>by grind [Xw]
 |u::l,h,hn=>by
  obtain⟨h1,h2⟩:=Dz.1 h;unfold Xw;split
  .grind [List.pairwise_cons,D3]
  .rename_i hb;refine Dz.2 ⟨fun z hz=>?_,dI h2 fun z hz=>hn z (Aj _ hz)⟩
   grind [VU,Iz]
theorem SL:∀{l:An8},(l.map (·.path)).Nodup->Xg (E1 l)
 | [],_=>List.Pairwise.nil
 |y::l,h=>by
  simp only[A7,Gm]at h;exact dI (SL h.2) fun z hz e=>h.1 (Ap.2 ⟨z,F1.1 hz,e⟩)
theorem VS:∀{l:An8} {b:Option An3},Xg l->(∀c,b=some c->∀y∈l,E3 c y.path=true)->K3 b l=true
 | [],_,_,_=>by unfold K3;rfl
 |y::l,b,h,hb=>by
  obtain⟨h1,h2⟩:=Dz.1 h;unfold K3;cases b with
  |none=>simpa using VS h2 fun c e z hz=>by simp_all
  |some c=>
   have:=hb c rfl y (Ad ..)
   simp only[this,Bool.true_and];exact VS h2 fun c e z hz=>by simp_all
theorem rV{l:An8}(h:Xg l):B5 l=true:=VS h fun _ e=>by cases e
theorem KX(hx:AU x=0)(hr:r∈x):BG x (DJ r)=some r:=by
 unfold BG;rw[AB (fun h=>h hx)];cases h:x.find? fun s=>decide (DJ s=DJ r)with
 |none=>
  grind
 |some s=>
  have h1:=Gk h;simp only[AP]at h1;rw[VW (BN hx).2 (BX h) hr h1]
theorem Dy.sorted(h:Dy x dec):Xg (E1 (AM dec)):=SL (by rw[LZ];exact h.nodup)
theorem Dy.findS(h:Dy x dec)(hc:c∈dec):Bw (E1 (AM dec)) c.rel.path=some (Sc c):=
 Ox h.sorted (y:=Sc c) (F1.2 (Ap.2 ⟨c,hc,rfl⟩))
theorem dP(hx:AU x=0)(h:Dy x dec)(hs:I8 roots dec)(hl:Gz (Gf roots dec) (AM dec)=none):vd x roots (E1 (AM dec)):=by
 have HE:∀q∈Gf roots dec,∃y,Bw (E1 (AM dec)) q.path=some y/\has q.set (place y.ver)=true:=fun q hq=>by
  have:=Wc hl q hq
  rw[LR]at this;obtain⟨y,hy,e⟩:=this;obtain⟨d,hd,rfl⟩:=Ap.1 hy;have e:d.rel.path=q.path:=e;refine⟨Sc d,by grind [Dy.findS],?_⟩;have h1:=hs q hq d hd e;have EZ:=(BN hx).1 _ (h.cand d hd).1;rw[(h.cand d hd).2.2,EZ.plc]at h1;exact h1
 refine⟨hx,rV h.sorted,fun y hy=>?_,fun q hq=>HE q (Bq _ hq),fun y hy r hr q hq=>?_⟩
 .obtain⟨d,hd,rfl⟩:=Ap.1 (F1.1 hy);exact⟨d.rel,KX hx (h.cand d hd).1,(h.cand d hd).2.1⟩
 .obtain⟨d,hd,rfl⟩:=Ap.1 (F1.1 hy)
  have:BG x (Sc d)=some d.rel:=KX hx (h.cand d hd).1
  rw[this]at hr;cases hr;exact HE q (BZ _ (GW.2 ⟨_,Ap.2 ⟨d,hd,rfl⟩,hq⟩))
def oF(dec:An2)(needs:List Nd)(c:Cd):Bool:=(needs.all fun n=>has n.rq.set c.place)&&(DM dec c).isNone
def Pm(x:An5)(roots:An7):Nat->An2->List (An2)
 |0,_=>[]
 |n+1,dec=>match(EA roots dec).2 with
  | []=>[dec]
  |n0::l=>((Bl x (EA roots dec).1).map fun c=>if oF dec (n0::l) c then Pm x roots n (dec++[c])else []).flatten
structure Lf(x:An5)(roots:An7)(dec d:An2):Prop where
 pre:dec <+: d
 ok:Dy x d
 sat:I8 roots d
 stop:Gz (Gf roots d) (AM d)=none
theorem G7(h:c∈Bl x p):c.rel.path=p/\(c.rel∈x/\c.rel.yanked=false/\c.place=plc c.rel.ver):=by
 grind [LC]
theorem QR:oF dec needs c=true↔(∀n∈needs,has n.rq.set c.place=true)/\DM dec c=none:=by
 grind [oF,Option.isNone_iff_eq_none]
theorem Yv{x:An5}{roots:An7}:∀{n:Nat} {dec:An2},Dy x dec->I8 roots dec->∀d∈Pm x roots n dec,Lf x roots dec d
 |0,_,_,_,d,hd=>by cases hd
 |n+1,dec,h,hs,d,hd=>by
  unfold Pm at hd;split at hd
  .grind [Wb,Lf.mk]
  .rename_i n0 l e;have hN:=L0 e;obtain⟨L,hL,hd⟩:=GW.1 hd;obtain⟨c,hc,rfl⟩:=Ap.1 hL;split at hd
   .rename_i EZ;obtain⟨h1,h2⟩:=QR.1 EZ;obtain⟨c1,c2⟩:=G7 hc;have nC:Dg dec c.rel.path=false:=by grind [jJ.undone]
    have:=Yv (n:=n) (h.snoc c2 nC) (hs.snoc hN c1 h1 h2) d hd
    grind [List.prefix_append,Lf.mk,Lf.pre,Lf.ok,Lf.sat,Lf.stop]
   simp_all
theorem Lf.sol(hx:AU x=0)(h:Lf x roots dec d):vd x roots (E1 (AM d)):=dP hx h.ok h.sat h.stop
theorem xH(hx:AU x=0){s:SS}(hd:Ew x roots s)(hk:k<s.drv.length)(he:BW (D2 s k) (AM dec)=true)(h:Lf x roots dec d):False:=by
 have hS:=h.sol hx;have hv:=ZZ (s:=E1 (AM d)) hS.inc (fun y hy=>F1.2 (by
  obtain⟨c,hc,rfl⟩:=Ap.1 hy;obtain⟨t,e⟩:=h.pre<;>grind)) he
 have hn:=M0 hS (d:=[]) (fun _ h=>by cases h) hd.der (D2 s k) (by
  simp_all)
 simp_all
theorem AbT(h:AU x=0):x.length<=256:=by
 grind [AU]
theorem rm{l:An5}{k:Int}:(l.map fun r=>(plc r.ver,plc r.ver+1)).any (BK k)=true↔∃r∈l,plc r.ver=k:=by
 rw[Cs];constructor
 .grind [D5]
 .rintro⟨r,hr,rfl⟩
  exact⟨_,Ap.2 ⟨r,hr,rfl⟩,D5.2 ⟨B6 _,by omega⟩⟩
theorem XV(hx:AU x=0){k:Int}:has (BA x p) k=true↔∃c∈Bl x p,c.place=k:=by
 unfold BA;rw[Hp];unfold has L5;rw[AB (fun h=>h hx)];simp only[Ao,AP];rw[rm];constructor
 .rintro⟨_,r,hr,rfl⟩
  simp only[C3,AP,Fp]at hr;exact⟨⟨plc r.ver,r⟩,LC.2 ⟨r,hr.1.1,hr.1.2,hr.2,rfl⟩,rfl⟩
 .rintro⟨c,hc,rfl⟩
  obtain⟨r,h1,h2,h3,rfl⟩:=LC.1 hc;have EZ:=(BN hx).1 r h1
  have:=JQ EZ.val
  grind [J7.plc]
theorem mi(hx:AU x=0)(p:An3):∃k:Int,0<=k/\k<10^6/\has (BA x p) k=false:=by
 apply AH;intro hn;have HE:∀k∈(List.range 257).map fun i:Nat=>(i:Int),k∈x.map fun r=>plc r.ver:=by
  intro k hk;obtain⟨i,hi,rfl⟩:=Ap.1 hk;have hi:=List.mem_range.1 hi;have hh:has (BA x p) (i:Int)=true:=by
   grind
  grind [XV,LC]
 have:=De (List.pairwise_map.2 (List.nodup_range.imp fun h e=>h (Int.ofNat.inj e))) HE
 grind [AbT]
theorem VX(dec:An2)(c:Cd):AM (dec++[c])=MF (AM dec) c.rel.path c.rel.ver:=aa0
theorem LL{t:List V}{S:An8}:BW t S=true↔A3 t S=true/\∀u∈t,Cb S u.path=true:=by
 grind [BW]
section
variable {x:An5}{roots:An7}{dec:An2}{p:An3}{needs:List Nd}
abbrev iR(p:An3)(dec:An2):List An3:=p::(AM dec).map (·.path)
theorem wk{c:Cd}{t:List V}(hf:Form t)(he:BW t (AM (dec++[c]))=true):Ub (iR c.rel.path dec) t:=by
 refine⟨EI hf,fun u hu=>?_⟩
 grind [LL,EL]
theorem qL(hx:AU x=0)(hd:Dy x dec){c:Cd}(hc:c.rel∈x){t:List V}(he:BW t (AM (dec++[c]))=true)(hn:Dq t c.rel.path=false):BW t (AM dec)=true:=by
 obtain⟨h1,h2⟩:=LL.1 he;have Ec:=Kf hn;rw[VX]at h1 h2;refine LL.2 ⟨?_,fun u hu=>?_⟩
 .rw[Lw (.self (hd.valid hx)) (.ver (hd.valid hx) ((BN hx).1 _ hc).val) Ec];exact h1
 grind [LR]
theorem o9(hx:AU x=0)(hd:Dy x dec){c:Cd}(hc:c.rel∈x/\c.rel.yanked=false/\c.place=plc c.rel.ver)(hu:Dg dec c.rel.path=false){t:List V}(hf:Form t)(he:BW t (AM (dec++[c]))=true)(hn:Dq t c.rel.path=true) :
  gw (AM dec) (iR c.rel.path dec) c.rel.path t fun k=>k=c.place:=by
 have EZ:=(BN hx).1 _ hc.1;have hV:=hd.valid hx;have h1:=(LL.1 he).1;rw[VX]at h1;refine⟨hf,wk hf he,hn,⟨_,.ver hV EZ.val,h1⟩,fun k k0 k1 e=>?_⟩
 grind [jv,Gu,EU,Hk,J7.val,J7.plc]
theorem QJ(hx:AU x=0)(hr:Bb roots=0){E:An2}(hE:Dy x E){n:Nd}(hn:n∈CZ roots E)(hv:∃d∈E,d.rel.path=n.rq.path/\has n.rq.set d.place=false) :
  (∀d,Cc x roots d (QD n)=some (It n))/\BW (It n) (AM E)=true/\Form (It n):=by
 obtain⟨d,hd,e,hs⟩:=hv;have EZ:=(BN hx).1 _ (hE.cand d hd).1;have hf:=hE.find hd;have hI:=Ux hx hr hE hn (.inr ⟨Sc d,by simp_all,by rw[show(Sc d).ver=d.rel.ver from rfl,<-EZ.plc,<-(hE.cand d hd).2.2];exact hs⟩);refine⟨hI.inf,LL.2 ⟨hI.viol,fun u hu=>?_⟩,hI.form⟩
 have:=(hI.inU ((AM E).map (·.path)) (fun h=>EL.1 (hI.path h)) (EL.1 (by grind [Kj]))).2 u hu
 exact EL.2 this
theorem oo(hx:AU x=0)(hr:Bb roots=0)(hd:Dy x dec)(hN:jJ roots dec p needs){c:Cd}(hc:c∈Bl x p){n:Nd}(hn:n∈needs)(hs:has n.rq.set c.place=false):Dq (It n) p=true:=by
 obtain⟨c1,c2⟩:=G7 hc;have hu:Dg dec c.rel.path=false:=by grind [jJ.undone]
 have hE:=hd.snoc c2 hu;obtain⟨vl,hn2⟩:=(hN.mem n).1 hn;have EZ:=(BN hx).1 _ c2.1;have hI:=Ux hx hr hE (Pr vl) (.inr ⟨Sc c,by grind [Dy.find],by grind [J7.plc]⟩);cases wP:Dq (It n) p with
 |true=>rfl
 |false=>
  exfalso
  have Pi:n.rq.set≠[]/\Ev n.rq.set:=by
   rcases Nl vl with ⟨k,q,h1,rfl⟩ | ⟨c,hc,k,q,h1,rfl⟩
   .grind [Jh]
   .exact((BN hx).1 _ (hd.cand c hc).1).set q (Ax h1)
  obtain⟨k,hk⟩:=l6 Pi.1 Pi.2;have nE:=RU hk;have hV:=hd.valid hx;have o1:Xb (AM dec) p (MF (AM dec) p (bV k)):=.ver hV (EU nE);have o2:Xb (AM dec) p (AM (dec++[c])):=by grind [Xb.ver,J7.val]
  have h1:=Lw o1 o2 (Kf wP);rw[hI.viol,hI.raw _ o1.val,Bk]at h1
  have:=h1 (Do n.rq) (by grind [Ok])
  grind [Do,Iv,Gu,Wl,Hk]
theorem nZ(hx:AU x=0)(hr:Bb roots=0)(hd:Dy x dec)(hN:jJ roots dec p needs){n0:Nd}(h0:n0∈needs)(L:List (Nat×Cd))(hL:L.map (·.2)=Bl x p){s:SS}(hs:Ew x roots s)(CL:∀y∈L,y.1<s.drv.length)
  (hre:s.full=false->∀y∈L,BW (D2 s y.1) (AM (dec++[y.2]))=true/\Dq (D2 s y.1) p=true) :
  Ew x roots (Dm x p n0 (L.map (·.1)) s).2/\Grow s (Dm x p n0 (L.map (·.1)) s).2/\(Dm x p n0 (L.map (·.1)) s).1<(Dm x p n0 (L.map (·.1)) s).2.drv.length /\
  ((Dm x p n0 (L.map (·.1)) s).2.full=false->BW (D2 (Dm x p n0 (L.map (·.1)) s).2 (Dm x p n0 (L.map (·.1)) s).1) (AM dec)=true):=by
 have hV:=hd.valid hx;have hpD:Cb (AM dec) p=false:=by rw[Gu];exact hN.undone
 obtain⟨hm0,hp0⟩:=(hN.mem n0).1 h0;have hI:=Ux hx hr hd hm0 (.inl (by grind [H2]));unfold Dm;obtain⟨a1,a2,a3⟩:=KO hs (hI.inf s.drv);have ag:=KP s (QD n0) (It n0);have a3:(Bx s n0).2.full=false->D2 (Bx s n0).2 (Bx s n0).1=It n0:=a3
 change Ew x roots (Bx s n0).2 at a1
 change (Bx s n0).1<(Bx s n0).2.drv.length at a2
 change Grow s (Bx s n0).2 at ag
 generalize Bx s n0=s1 at *
 -- the incompatibility of the places that are not available
 obtain⟨u,u0,u1,hu⟩:=mi hx p;have rK:∀k:Int,0<=k->k<1000000->has (BA x p) k=false->A3 [(⟨p,false,EJ (BA x p)⟩:V)] (MF (AM dec) p (bV k))=true:=fun k k0 k1 hk=>by
  grind [Bk,CP,Iv,EU,Hk,FZ,Uk]
 have zN:A3 [(⟨p,false,EJ (BA x p)⟩:V)] (AM dec)=false:=by
  rw[Bg];intro h
  have:=Bk.1 h _ (Ad ..)
  rw[show(⟨p,false,EJ (BA x p)⟩:V).path=p from rfl,H2 hpD]at this;cases this
 have ou:Xb (AM dec) p (MF (AM dec) p (bV u)):=.ver hV (EU ⟨u0,u1⟩);have Ec:FK p (BA x p)≠[]:=by
  have c1:=CR (l:=[(⟨p,false,EJ (BA x p)⟩:V)]) ou.val;have c2:=CR (l:=[(⟨p,false,EJ (BA x p)⟩:V)]) hV;rw[rK u u0 u1 hu]at c1;rw[zN]at c2;unfold FK So;cases hc:CK [(⟨p,false,EJ (BA x p)⟩:V)]with
  |none=>grind
  |some c=>
   rw[hc]at c2;intro e;have e:c=[]:=e;rw[e]at c2;cases c2
 have TL:∀S,F6 S->A3 (FK p (BA x p)) S=A3 [(⟨p,false,EJ (BA x p)⟩:V)] S:=fun S v=>Sp v Ec;have Af1:Dq (FK p (BA x p)) p=true:=by
  cases h:Dq (FK p (BA x p)) p with
  |true=>rfl
  |false=>
   have:=Lw ou (.self hV) (Kf h)
   rw[TL _ ou.val,TL _ hV,rK u u0 u1 hu,zN]at this;simp_all
 have dt:Cc x roots s1.2.drv ⟨2,p,0,0,0,0⟩=some (FK p (BA x p)):=by
  unfold Cc;rw[AB (show ¬((2:Int)=0) by decide),AB (show ¬((2:Int)=1) by decide),AO rfl,AO ⟨rfl,rfl,rfl,rfl⟩];unfold ne0;simp_all
 obtain⟨b1,b2,b3⟩:=KO a1 dt;have bg:=KP s1.2 ⟨2,p,0,0,0,0⟩ (FK p (BA x p));have b3:(En x p s1.2).2.full=false->D2 (En x p s1.2).2 (En x p s1.2).1=FK p (BA x p):=b3
 change Ew x roots (En x p s1.2).2 at b1
 change (En x p s1.2).1<(En x p s1.2).2.drv.length at b2
 change Grow s1.2 (En x p s1.2).2 at bg
 generalize En x p s1.2=s2 at *
 have AeT:s2.2.full=false->s1.2.full=false/\s.full=false:=fun h=>by
  have h1:s1.2.full=false:=by
   cases e:s1.2.full with
   |false=>rfl
   |true=>rw[bg.full e]at h;cases h
  refine⟨h1,?_⟩;cases e:s.full with
  |false=>rfl
  |true=>rw[ag.full e]at h1;cases h1
 have main:=Pl (D:=AM dec) (U:=iR p dec) (p:=p) hV ((s2.1,fun k=>has (BA x p) k=false)::L.map fun y=>(y.1,fun k=>k=y.2.place)) (C:=fun k=>has n0.rq.set k=false) b1 (AF a2 bg.len)
  (fun y hy=>by
   rcases AJ.1 hy with rfl | hy
   .exact b2
   .obtain⟨z,hz,rfl⟩:=Ap.1 hy;exact AF (CL z hz) (ag.trans bg).len) (fun hf=>by
   obtain⟨f1,f0⟩:=AeT hf;refine⟨?_,fun y hy=>?_⟩
   .rw[bg.at a2,a3 f1];refine⟨hI.form,hI.inU _ (fun h=>Aj _ (EL.1 (hI.path h))) aa0,hI.viol,fun k k0 k1 hk=>?_⟩;have ok:Xb (AM dec) p (MF (AM dec) p (bV k)):=.ver hV (EU ⟨k0,k1⟩);rw[hI.raw _ ok.val,Bk];intro t ht;have ir:=Bk.1 ((hI.raw _ hV).symm.trans hI.viol) t ht;unfold Ok at ht;have AbH:CP (Do n0.rq) (Bw (MF (AM dec) p (bV k)) (Do n0.rq).path)=true:=by
     rw[show(Do n0.rq).path=p from hp0,Iv hpD];exact TW (.inr ⟨_,rfl,EU ⟨k0,k1⟩,by rw[show(⟨p,bV k⟩:Sl).ver=bV k from rfl,Hk];exact hk⟩)
    split at ht
    .simp_all
    .rename_i hm;rcases AJ.1 ht with rfl | ht
     .have Ec:n0.path≠p:=fun e=>by
       have:=hI.path hm
       simp_all
      rw[show(⟨n0.path,false,[(n0.place,n0.place+1)]⟩:V).path=n0.path from rfl]at ir⊢;rw[ok.same _ Ec];omega
     simp_all
   .rcases AJ.1 hy with rfl | hy
    .show gw _ _ p (D2 s2.2 s2.1) _;rw[b3 hf];refine⟨Nr _,Wj (fun t ht=>by simp_all),Af1,⟨_,ou,by rw[TL _ ou.val];simp_all⟩,fun k k0 k1 hk=>?_⟩;rw[TL _ (Xb.ver hV (EU ⟨k0,k1⟩)).val];simp_all
    .obtain⟨z,hz,rfl⟩:=Ap.1 hy;show gw _ _ p (D2 s2.2 z.1) _;rw[(ag.trans bg).at (CL z hz)];obtain⟨e1,e2⟩:=hre f0 z hz;have hzc:z.2∈Bl x p:=aa2
     obtain⟨c1,c2⟩:=G7 hzc
     have:=o9 hx hd c2 (by rw[c1];exact hN.undone) (hs.forms z.1) e1 aa0
     simp_all)
 have Akh:((s2.1,fun k=>has (BA x p) k=false)::L.map fun y=>(y.1,fun k=>k=y.2.place)).map (·.1)=s2.1::L.map (·.1):=by
  simp_all
 rw[Akh]at main;obtain⟨m1,m2,m3,m4⟩:=main;refine⟨m1,(ag.trans bg).trans m2,m3,fun hf=>?_⟩;obtain⟨C',q1,q2⟩:=m4 hf;have hnc:Dq (D2 (BT p (s2.1::L.map (·.1)) s1.1 s2.2).2 (BT p (s2.1::L.map (·.1)) s1.1 s2.2).1) p=false:=by
  rcases q2 with q2 | q2
  .exact q2
  .refine sL hpD q1.form q1.none_ fun k k0 k1=>q1.cov k k0 k1 (q2 k ?_);cases hn0:has n0.rq.set k with
   |false=>simp_all
   |true=>
    cases ha:has (BA x p) k with
    |false=>simp_all
    |true=>
     obtain⟨c,hc,e⟩:=(XV hx).1 ha;rw[<-hL]at hc;obtain⟨z,hz,rfl⟩:=Ap.1 hc;exact .inr ⟨_,Aj _ (Ap.2 ⟨z,hz,rfl⟩),e.symm⟩
 refine LL.2 ⟨q1.none_,fun t ht=>?_⟩
 have:=q1.inU.2 t ht
 rcases AJ.1 this with e | h
 .exact absurd e (Kf hnc t ht)
 .exact EL.2 h
end
def Gg(s:SS)(b:An2)(p:An3)(needs:List Nd):An2->An9->Prop
 | [],sk=>sk=[]
 |c::cs,sk=>if(needs.all fun n=>has n.rq.set c.place)=true then ∃(k:Nat) (rest:An9),sk=⟨p,c.place,k⟩::rest/\(k<s.drv.length/\BW (D2 s k) (AM (b++[c]))=true)/\Gg s b p needs cs rest
  else Gg s b p needs cs sk
section
variable {s s' : SS}{b:An2}{p:An3}{needs:List Nd}
theorem Gg.out{c:Cd}(hc:¬(needs.all fun n=>has n.rq.set c.place)=true):∀{cs:An2} {sk:An9},Gg s b p needs cs sk->Gg s b p needs (cs++[c]) sk
 | [],sk,h=>by
  show(if _ then _ else _)
  grind
 |d::cs,sk,h=>by
  have h:if(needs.all fun n=>has n.rq.set d.place)=true then _ else _:=h
  show(if _ then _ else _)
  by_cases hd:(needs.all fun n=>has n.rq.set d.place)=true
  .rw[AO hd]at h⊢;obtain⟨k,rest,h1,h2,h3⟩:=h;exact⟨k,rest,h1,h2,Gg.out hc h3⟩
  .rw[AB hd]at h⊢;exact Gg.out hc h
theorem Gg.add{c:Cd}(hc:(needs.all fun n=>has n.rq.set c.place)=true){k:Nat}(hk:k<s.drv.length/\BW (D2 s k) (AM (b++[c]))=true):∀{cs:An2} {sk:An9},Gg s b p needs cs sk->Gg s b p needs (cs++[c]) (sk++[⟨p,c.place,k⟩])
 | [],sk,h=>by
  have h:sk=[]:=h;subst h;show(if _ then _ else _);rw[AO hc];exact⟨k,[],rfl,hk,rfl⟩
 |d::cs,sk,h=>by
  have h:if(needs.all fun n=>has n.rq.set d.place)=true then _ else _:=h
  show(if _ then _ else _)
  by_cases hd:(needs.all fun n=>has n.rq.set d.place)=true
  .rw[AO hd]at h⊢;obtain⟨j,rest,rfl,h2,h3⟩:=h;exact⟨j,_,rfl,h2,Gg.add hc hk h3⟩
  .rw[AB hd]at h⊢;exact Gg.add hc hk h
theorem Gg.mono(hg:Grow s s'):∀{cs:An2} {sk:An9},Gg s b p needs cs sk->Gg s' b p needs cs sk
 | [],_,h=>h
 |d::cs,sk,h=>by
  have h:if(needs.all fun n=>has n.rq.set d.place)=true then _ else _:=h
  show(if _ then _ else _)
  by_cases hd:(needs.all fun n=>has n.rq.set d.place)=true
  .rw[AO hd]at h⊢;obtain⟨j,rest,rfl,h2,h3⟩:=h;exact⟨j,rest,rfl,⟨AF h2.1 hg.len,by grind [Grow.at]⟩,h3.mono hg⟩
  .rw[AB hd]at h⊢;exact h.mono hg
end
structure Aar(x:An5)(roots:An7)(s:SS)(b:An2)(c:Cd)(sk:An9)(p:An3)(needs:List Nd)(pre post:An2):Prop where
 next:jJ roots b p needs
 cands:Bl x p=pre++c::post
 fit:∀n∈needs,has n.rq.set c.place=true
 noclash:DM b c=none
 skips:Gg s b p needs pre sk
def Jy(x:An5)(roots:An7)(s:SS):An2->An2->List (An9)->Prop
 |b,[],[]=>Gz (Gf roots b) (AM b)=none
 |b,c::t,sk::st=>(∃p needs pre post,Aar x roots s b c sk p needs pre post)/\Jy x roots s (b++[c]) t st
 |_,_,_=>False
structure OT(x:An5)(roots:An7)(ls:List (An2))(dec:An2)(s:SS)(st:List (An9))(o:JB):Prop where
 der:Ew x roots o.ss
 grow:Grow s o.ss
 no:o.found=false->o.dec=dec/\o.stack=st/\(o.ss.full=false->o.res<o.ss.drv.length/\BW (D2 o.ss o.res) (AM dec)=true)
 yes:o.found=true->o.ss.full=false/\∃t sl,o.dec=dec++t/\o.stack=st++sl/\Jy x roots o.ss dec t sl/\ls.head?=some o.dec
section
variable {rec:An2->SS->List (An9)->JB}{x:An5}{roots:An7}{p:An3}{needs:List Nd}{n0:Nd}{dec:An2}{st:List (An9)}
def IG(rec:An2->SS->List (An9)->JB)(x:An5)(p:An3)(needs:List Nd)(n0:Nd)(dec:An2)(st:List (An9))(c:Cd)(cs:An2)(reasons:List Nat)(skips:An9)(k:Nat)(s:SS):JB:=
 if Dq (D2 s k) p=false then⟨k,false,s,dec,st⟩else Dx rec x p needs n0 dec st cs s (reasons++[k]) (skips++[⟨p,c.place,k⟩])
theorem FI(c:Cd)(cs:An2)(s:SS)(reasons:List Nat)(skips:An9):Dx rec x p needs n0 dec st (c::cs) s reasons skips =
  if s.full=true then⟨0,false,s,dec,st⟩
  else match needs.find? fun n=>!has n.rq.set c.place with
   |some n=>Dx rec x p needs n0 dec st cs (Bx s n).2 (reasons++[(Bx s n).1]) skips
   |none=>match OZ s.drv (AM (dec++[c]))with
    |some k=>IG rec x p needs n0 dec st c cs reasons skips k s
    |none=>match DM dec c with
     |some n=>IG rec x p needs n0 dec st c cs reasons skips (Bx s n).1 (Bx s n).2
     |none=>if(rec (dec++[c]) s (st++[skips])).found=true then⟨0,true,(rec (dec++[c]) s (st++[skips])).ss,(rec (dec++[c]) s (st++[skips])).dec,(rec (dec++[c]) s (st++[skips])).stack⟩
      else if(rec (dec++[c]) s (st++[skips])).ss.full=true then⟨0,false,(rec (dec++[c]) s (st++[skips])).ss,dec,st⟩
      else IG rec x p needs n0 dec st c cs reasons skips (rec (dec++[c]) s (st++[skips])).res (rec (dec++[c]) s (st++[skips])).ss:=rfl
theorem kP{s:SS}(hs:Ew x roots s){n:Nd}(h:∀d,Cc x roots d (QD n)=some (It n)):Ew x roots (Bx s n).2/\(Bx s n).1<(Bx s n).2.drv.length/\((Bx s n).2.full=false->D2 (Bx s n).2 (Bx s n).1=It n)/\Grow s (Bx s n).2:=by
 obtain⟨a1,a2,a3⟩:=KO hs (h s.drv);exact⟨a1,a2,a3,KP _ _ _⟩
theorem OT.grown{ls:List (An2)}{s s' : SS}{o:JB}(hg:Grow s s')(h:OT x roots ls dec s' st o):OT x roots ls dec s st o:=⟨h.der,hg.trans h.grow,h.no,h.yes⟩
theorem XY(hx:AU x=0)(hr:Bb roots=0)(hd:Dy x dec)(nL:I8 roots dec)(hN:jJ roots dec p needs)(h0:n0∈needs){lv:An2->List (An2)}(hlv:∀c∈Bl x p,oF dec needs c=true->∀d∈lv (dec++[c]),Lf x roots (dec++[c]) d)
  (dA:∀c∈Bl x p,oF dec needs c=true->∀s st,Ew x roots s->s.full=false->OT x roots (lv (dec++[c])) (dec++[c]) s st (rec (dec++[c]) s st)) :
  ∀(cs:An2) {s:SS} (L:List (Nat×Cd)) {skips:An9},L.map (·.2)++cs=Bl x p->Ew x roots s->(∀y∈L,y.1<s.drv.length)->(s.full=false->(∀y∈L,BW (D2 s y.1) (AM (dec++[y.2]))=true/\Dq (D2 s y.1) p=true)/\Gg s dec p needs (L.map (·.2)) skips) ->
   OT x roots (((Bl x p).map fun c=>if oF dec needs c then lv (dec++[c])else []).flatten) dec s st (Dx rec x p needs n0 dec st cs s (L.map (·.1)) skips)
 | [],s,L,skips,hL,hs,CL,hre=>by
  rw[B9]at hL;obtain⟨l1,l2,l3,l4⟩:=nZ hx hr hd hN h0 L hL hs CL (fun hf=>(hre hf).1);exact⟨l1,l2,fun _=>⟨rfl,rfl,fun hf=>⟨l3,l4 hf⟩⟩,fun h=>(by cases h)⟩
 |c::cs,s,L,skips,hL,hs,CL,hre=>by
  rw[FI]
  by_cases hf:s.full=true
  .grind [OT.mk,Grow.refl]
  rw[AB hf];have hf:s.full=false:=aa0
  obtain⟨AkD,AkE⟩:=hre hf;have hc:c∈Bl x p:=aa2
  obtain⟨c1,c2⟩:=G7 hc;have hu:Dg dec c.rel.path=false:=by grind [jJ.undone]
  have hE:=hd.snoc c2 hu
  -- on to the next candidate
  have go:∀(s' : SS) (k:Nat) (Mc : An9),Ew x roots s'->Grow s s'->k<s'.drv.length->(s'.full=false->(BW (D2 s' k) (AM (dec++[c]))=true/\Dq (D2 s' k) p=true)/\Gg s' dec p needs (L.map (·.2)++[c]) Mc) ->
    OT x roots (((Bl x p).map fun c=>if oF dec needs c then lv (dec++[c])else []).flatten) dec s st (Dx rec x p needs n0 dec st cs s' (L.map (·.1)++[k]) Mc):=fun s' k Mc iw hg hk Ec=>by
   have:=XY hx hr hd nL hN h0 hlv dA cs (s:=s') (L++[(k,c)]) (skips:=Mc) aa0 iw
    (fun y hy=>by
     rcases Bh.1 hy with hy | hy
     .exact AF (CL y hy) hg.len
     simp_all)
    (fun hf'=>by
     grind [Grow.at])
   grind [OT.grown]
  cases hfd:needs.find? fun n=>!has n.rq.set c.place with
  |some n=>
   dsimp only;have vl:=BX hfd;have hn2:=Gk hfd;have hn2:has n.rq.set c.place=false:=aa0
   obtain⟨hn3,hn4⟩:=(hN.mem n).1 vl;obtain⟨e1,e2,e3⟩:=QJ hx hr hE (Pr hn3) ⟨c,by simp,by rw[c1,hn4],hn2⟩<;>grind [kP,oo,Gg.out,Gg.mono]
  |none=>
   dsimp only;have wV:∀n∈needs,has n.rq.set c.place=true:=fun n hn=>by
    simp_all
   have HE:(needs.all fun n=>has n.rq.set c.place)=true:=aa0
   have aft:∀(s' : SS) (k:Nat),Ew x roots s'->Grow s s'->k<s'.drv.length->(s'.full=false->BW (D2 s' k) (AM (dec++[c]))=true) ->
     OT x roots (((Bl x p).map fun c=>if oF dec needs c then lv (dec++[c])else []).flatten) dec s st (IG rec x p needs n0 dec st c cs (L.map (·.1)) skips k s'):=fun s' k iw hg hk he=>by
    unfold IG;cases wP:Dq (D2 s' k) p with
    |false=>
     rw[AO rfl];exact⟨iw,hg,fun _=>⟨rfl,rfl,fun hf'=>⟨hk,qL hx hd c2.1 (he hf') aa0⟩⟩,fun h=>(by cases h)⟩
    |true=>
     grind [Gg.add,Gg.mono]
   cases hen:OZ s.drv (AM (dec++[c]))with
   |some k=>
    grind [KV,Grow.refl]
   |none=>
    dsimp only;cases hcl:DM dec c with
    |some n=>
     dsimp only;obtain⟨m1,m2⟩:=LF hcl;obtain⟨e1,e2,e3⟩:=QJ hx hr hE (N1 m1) m2<;>grind [kP]
    |none=>
     dsimp only;have EZ:oF dec needs c=true:=QR.2 ⟨wV,hcl⟩;have hR:=dA c hc EZ s (st++[skips]) hs hf;generalize rec (dec++[c]) s (st++[skips])=o at hR
     by_cases nD:o.found=true
     .rw[AO nD];obtain⟨y1,t,sl,y2,y3,y4,y5⟩:=hR.yes nD;refine⟨hR.der,hR.grow,fun h=>(by cases h),fun _=>⟨y1,c::t,skips::sl,by simp_all,by simp_all,⟨⟨p,needs,L.map (·.2),cs,hN,hL.symm,wV,hcl,AkE.mono hR.grow⟩,y4⟩,?_⟩⟩;show _=some o.dec;rw[<-hL,Au,DQ,A7,BQ];have Akm:((L.map (·.2)).map fun c=>if oF dec needs c then lv (dec++[c])else []).flatten=[]:=by
       rw[List.flatten_eq_nil_iff];intro l hl;obtain⟨d,vg,rfl⟩:=Ap.1 hl;obtain⟨y,hy,rfl⟩:=Ap.1 vg;split
       .rename_i hoy;have hyc:y.2∈Bl x p:=aa2
        refine Mw.2 fun d Ak0=>xH hx hs (CL y hy) (AkD y hy).1 (hlv y.2 hyc hoy d Ak0)
       .rfl
      grind
     grind [OT.no,OT.mk,OT.der,OT.grow]
end
theorem VD(h:c.rel∈x/\c.rel.yanked=false)(hu:Dg dec c.rel.path=false):FJ x (dec++[c])<FJ x dec:=by
 have key:∀l:An5,(l.filter fun r=>!r.yanked&&!Dg (dec++[c]) r.path).length<=(l.filter fun r=>!r.yanked&&!Dg dec r.path).length /\
   (c.rel∈l->(l.filter fun r=>!r.yanked&&!Dg (dec++[c]) r.path).length<(l.filter fun r=>!r.yanked&&!Dg dec r.path).length):=by
  intro l
  induction l<;>grind [Dg]
 exact(key x).2 h.1
theorem SK{x:An5}{roots:An7}(hx:AU x=0)(hr:Bb roots=0):∀(n:Nat) {dec:An2} {s:SS} {st:List (An9)},Dy x dec->I8 roots dec->Ew x roots s->s.full=false->FJ x dec<n ->
  OT x roots (Pm x roots n dec) dec s st (Cw x roots n dec s st)
 |0,_,_,_,_,_,_,_,h=>by omega
 |n+1,dec,s,st,hd,nL,hs,hf,hn=>by
  unfold Cw Pm;cases e:(EA roots dec).2 with
  |nil=>
   exact⟨hs,.refl s,fun h=>(by cases h),fun _=>⟨hf,[],[],by simp,by simp,Wb.1 e,rfl⟩⟩
  |cons n0 l=>
   have hN:=L0 e;have next:∀c∈Bl x (EA roots dec).1,oF dec (n0::l) c=true->Dy x (dec++[c])/\I8 roots (dec++[c])/\FJ x (dec++[c])<n:=fun c hc EZ=>by
    obtain⟨c1,c2⟩:=G7 hc;have hu:Dg dec c.rel.path=false:=by grind [jJ.undone]
    obtain⟨k1,k2⟩:=QR.1 EZ;exact⟨hd.snoc c2 hu,nL.snoc hN c1 k1 k2,by have:=VD (dec:=dec) ⟨c2.1,c2.2.1⟩ hu;omega⟩
   exact XY hx hr hd nL hN (Ad ..) (lv:=Pm x roots n) (fun c hc EZ d vg=>Yv (next c hc EZ).1 (next c hc EZ).2.1 d vg)
    (fun c hc EZ s st hs hf=>SK hx hr n (next c hc EZ).1 (next c hc EZ).2.1 hs hf (next c hc EZ).2.2) _ [] rfl hs (fun y hy=>by cases hy) (fun _=>⟨fun y hy=>(by cases hy),rfl⟩)
theorem db(x:An5)(dec:An2):FJ x dec<=x.length:=CW _ _
theorem Zp(hx:AU x=0)(hr:Bb roots=0):OT x roots (Pm x roots (x.length+1) []) [] ss0 [] (ET x roots):=
 SK hx hr _ (.nil x) (.nil roots) (.nil x roots) rfl (by grind [db])
def MT(R:Nat):Nat:=[3,8,13,23,33,53,78,113,168,243,348,513,738,1053,1548,2223,3168].getD R 0
theorem vD:∀R≤16,3<=MT R/\∀k≤R,3+2*k+k*MT (R-k)<=MT R\/k=0:=aa3
section
variable {x:An5}{roots:An7}{p:An3}{needs:List Nd}{n0:Nd}{dec:An2}{st:List (An9)}
theorem PR{s:SS}(i:Nf)(l:List V)(hf:s.full=false)(hc:s.infs.length<=65535):(DT s i l).2.full=false/\(DT s i l).2.infs.length<=s.infs.length+1:=⟨ce i l hf I,gA s i l⟩
theorem Kn:∀(l:List Nat) {k:Nat} {s:SS},s.full=false->s.infs.length+l.length<=65535->(BT p l k s).2.full=false/\(BT p l k s).2.infs.length<=s.infs.length+l.length
 | [],k,s,hf,_=>⟨hf,Af _⟩
 |r::l,k,s,hf,hc=>by
  rw[AK]at hc⊢;unfold BT;split
  .simp_all
  split
  .obtain⟨h1,h2⟩:=Kn l (k:=k) hf I<;>grind
  split
  .obtain⟨h1,h2⟩:=Kn l (k:=k) hf I<;>grind
  .obtain⟨a1,a2⟩:=PR ⟨3,p,0,0,(k:Nat),(r:Nat)⟩ (Bc (D2 s k) (D2 s r) p).1 hf I;obtain⟨h1,h2⟩:=Kn l (k:=(DT s ⟨3,p,0,0,(k:Nat),(r:Nat)⟩ (Bc (D2 s k) (D2 s r) p).1).1) a1 I<;>grind
theorem V3{s:SS}(reasons:List Nat)(hf:s.full=false)(hc:s.infs.length+(3+reasons.length)<=65535):(Dm x p n0 reasons s).2.full=false/\(Dm x p n0 reasons s).2.infs.length<=s.infs.length+(3+reasons.length):=by
 grind [Dm,PR,Bx,En,Kn]
theorem U7{rec:An2->SS->List (An9)->JB}{B:Nat}(dA:∀c∈Bl x p,∀s st,s.full=false->s.infs.length+B<=65535->(rec (dec++[c]) s st).ss.full=false/\(rec (dec++[c]) s st).ss.infs.length<=s.infs.length+B) :
  ∀(cs:An2) {s:SS} {reasons:List Nat} {skips:An9},(∀c∈cs,c∈Bl x p)->s.full=false->s.infs.length+(3+(reasons.length+cs.length)+cs.length*(1+B))<=65535 ->
   (Dx rec x p needs n0 dec st cs s reasons skips).ss.full=false/\(Dx rec x p needs n0 dec st cs s reasons skips).ss.infs.length<=s.infs.length+(3+(reasons.length+cs.length)+cs.length*(1+B))
 | [],s,reasons,skips,_,hf,hc=>by
  simp only[A4,FF,Xm]at hc⊢;exact V3 reasons hf hc
 |c::cs,s,reasons,skips,hm,hf,hc=>by
  rw[FI,AB aa0];simp only[AK]at hc⊢;have dw:(cs.length+1)*(1+B)=cs.length*(1+B)+(1+B):=aa2
  rw[dw]at hc⊢
  have go:∀(s' : SS) (k:Nat) (Mc : An9),s'.full=false->s'.infs.length<=s.infs.length+(1+B) ->
    (Dx rec x p needs n0 dec st cs s' (reasons++[k]) Mc).ss.full=false/\(Dx rec x p needs n0 dec st cs s' (reasons++[k]) Mc).ss.infs.length<=s.infs.length+(3+(reasons.length+(cs.length+1))+(cs.length*(1+B)+(1+B))):=fun s' k Mc hf' hl=>by
   have CN:(reasons++[k]).length=reasons.length+1:=aa1
   obtain⟨h1,h2⟩:=U7 dA cs (s:=s') (reasons:=reasons++[k]) (skips:=Mc) (fun d hd=>hm d (Aj _ hd)) hf' (by rw[CN];omega)<;>grind [List.mem_cons_of_mem]
  have aft:∀(s' : SS) (k:Nat),s'.full=false->s'.infs.length<=s.infs.length+(1+B) ->
    (IG rec x p needs n0 dec st c cs reasons skips k s').ss.full=false/\(IG rec x p needs n0 dec st c cs reasons skips k s').ss.infs.length<=s.infs.length+(3+(reasons.length+(cs.length+1))+(cs.length*(1+B)+(1+B))):=fun s' k hf' hl=>by
   grind [IG]
  cases needs.find? fun n=>!has n.rq.set c.place with
  |some n=>
   obtain⟨a1,a2⟩:=PR (QD n) (It n) hf I;exact go _ _ _ a1 (by show(DT s (QD n) (It n)).2.infs.length<=_;omega)
  |none=>
   dsimp only;cases OZ s.drv (AM (dec++[c]))with
   |some k=>simp_all
   |none=>
    dsimp only;cases DM dec c with
    |some n=>
     obtain⟨a1,a2⟩:=PR (QD n) (It n) hf I;exact aft _ _ a1 (by show(DT s (QD n) (It n)).2.infs.length<=_;omega)
    |none=>
     grind
theorem da{c:Cd}(hc:c∈Bl x p)(hu:Dg dec p=false):FJ x (dec++[c])+(Bl x p).length=FJ x dec:=by
 obtain⟨c1,_⟩:=G7 hc;unfold FJ Bl;rw[Bs];have key:∀l:An5,(l.filter fun r=>!r.yanked&&!Dg (dec++[c]) r.path).length+(l.filter fun r=>decide (r.path=p)&&!r.yanked).length=(l.filter fun r=>!r.yanked&&!Dg dec r.path).length:=by
  intro l
  induction l<;>grind [Dg]
 simp_all
theorem WP:∀(n:Nat) {dec:An2} {s:SS} {st:List (An9)},s.full=false->FJ x dec<=16->s.infs.length+MT (FJ x dec)<=65535 ->
  (Cw x roots n dec s st).ss.full=false/\(Cw x roots n dec s st).ss.infs.length<=s.infs.length+MT (FJ x dec)
 |0,_,_,_,hf,_,_=>⟨hf,Nat.le_add_right ..⟩
 |n+1,dec,s,st,hf,hR,hc=>by
  unfold Cw;cases e:(EA roots dec).2 with
  |nil=>simp_all
  |cons n0 l=>
   have hN:=L0 e;dsimp only;obtain⟨m1,m2⟩:=vD _ hR;cases hcs:Bl x (EA roots dec).1 with
   |nil=>
    obtain⟨h1,h2⟩:=V3 (x:=x) (p:=(EA roots dec).1) (n0:=n0) (s:=s) [] hf aa2;refine⟨h1,?_⟩;show(Dm x (EA roots dec).1 n0 [] s).2.infs.length<=_
    grind
   |cons c0 cs0=>
    have Ab:∀c∈Bl x (EA roots dec).1,FJ x (dec++[c])=FJ x dec-(Bl x (EA roots dec).1).length/\(Bl x (EA roots dec).1).length<=FJ x dec:=fun c hc=>by
     grind [da,jJ.undone]
    have zA:c0∈Bl x (EA roots dec).1:=aa0
    have hk:=Ab c0 zA;have Xd:(Bl x (EA roots dec).1).length≠0:=aa0
    have hm:=(m2 _ hk.2).resolve_right Xd;generalize hK:(Bl x (EA roots dec).1).length=K at *
    have CN:(c0::cs0).length=K:=aa0
    have AjR:3+(([]:List Nat).length+(c0::cs0).length)+(c0::cs0).length*(1+MT (FJ x dec-K))<=MT (FJ x dec):=by
     grind [Nat.mul_add]
    have Amz:K<=K*(1+MT (FJ x dec-K)):=US _ I;have hB:MT (FJ x dec-K)<=K*(1+MT (FJ x dec-K)):=by
     calc MT (FJ x dec-K)<=1+MT (FJ x dec-K):=I
      _<=K*(1+MT (FJ x dec-K)):=Nat.le_mul_of_pos_left _ I
    obtain⟨h1,h2⟩:=U7 (x:=x) (p:=(EA roots dec).1) (needs:=n0::l) (n0:=n0) (dec:=dec) (st:=st) (rec:=Cw x roots n) (B:=MT (FJ x dec-K)) (fun c hc s st hf hl=>by
     have:=Ab c hc
     have h3:=WP n (dec:=dec++[c]) (s:=s) (st:=st) hf I aa0;simp_all) (c0::cs0) (s:=s) (reasons:=[]) (skips:=[]) (fun c hc=>by simp_all) hf I
    grind
theorem PF(h:x.length<=16):(ET x roots).ss.full=false:=by
 have hf:=db x [];exact(WP (x:=x) (roots:=roots) _ (dec:=[]) (s:=ss0) (st:=[]) rfl I (by
  have:∀R≤16,([]:List Nf).length+MT R<=65535:=aa3
  grind)).1
end
def kwW:List (Ao1):=[[97,110,100],[97,110,121],[97,115],[98,111,111,108],[100,101,112,114,101,99,97,116,101,100],[101,108,115,101],[101,120,112,111,114,116],[102,97,108,115,101],[102,110],[102,111,108,100],[102,114,111,109],[105,102],[105,109,112,111,114,116],[105,110],[105,110,116],[108,101,110,103,116,104],[108,101,116],[108,105,115,116],[109,97,116,99,104],[109,111,100,117,108,101],[110,111,110,101],[110,111,116],[111,114],[116,101,120,116],[116,104,101,110],[116,114,117,101],[116,121,112,101],[117,115,101]]
theorem nW:iD=32::kwW.flatMap (fun w=>w++[32]):=by decide +kernel
theorem Ac0:∀w∈kwW,∀c∈w,c≠32:=by decide +kernel
theorem Za:∀(s w r:Ao1),(∀c∈s,c≠32)->(∀c∈w,c≠32)->QV (s++[32]) (w++32::r)=decide (w=s)
 | [],[],r,_,_=>by simp[QV]
 | [],b::w,r,_,hw=>by
  grind [QV]
 |a::s,[],r,hs,_=>by
  grind [QV]
 |a::s,b::w,r,hs,hw=>by
  have ih:=Za s w r (fun c hc=>hs c (Aj _ hc)) (fun c hc=>hw c (Aj _ hc))
  grind [QV]
theorem dE(x:Ao1):∀(w r:Ao1),(∀c∈w,c≠32)->vt (32::x) (w++r)=vt (32::x) r
 | [],_,_=>rfl
 |b::w,r,h=>by
  have hb:=h b (Ad ..);rw[FN,vt,dE x w r (fun c hc=>h c (Aj _ hc))]
  grind [QV]
theorem Yn(s:Ao1)(hs:∀c∈s,c≠32):∀ws:List (Ao1),(∀w∈ws,∀c∈w,c≠32)->vt (32::(s++[32])) (32::ws.flatMap (fun w=>w++[32]))=ws.any (fun w=>decide (w=s))
 | [],_=>by
  cases s<;>grind [vt,QV]
 |w::ws,h=>by
  have hw:=h w (Ad ..);have ih:=Yn s hs ws (fun v hv=>h v (Aj _ hv))
  grind [vt,QV,Za,dE]
theorem yL(h:s.all FD=true):∀c∈s,c≠32:=fun c hc e=>by
 have:=AZ.1 h c hc
 rw[e]at this;exact absurd this aa3
theorem iC(h:s.all FD=true):Xx s=kwW.any (fun w=>decide (w=s)):=by
 unfold Xx;rw[nW,Yn s (yL h) kwW Ac0]
end Go.Eng
namespace Go.Eng
open Go.Lib
theorem SM(c:UInt8):∀(s:Ao1) (k:Nat),s.count c<=k->splitK [c] 0 k s=Cy c s
 | [],k,_=>by
  cases k with
  |zero=>rfl
  |succ k=>rfl
 |b::r,k,h=>by
  rw[Cy]
  by_cases e:b=c
  .subst e;rw[List.count_cons_self]at h;obtain⟨k',rfl⟩:∃k',k=k'+1:=⟨k-1,by omega⟩;rw[AO rfl,splitK,index_one,indexByte];simp only[beq_self_eq_true,if_true];rw[AB aa3];show []::splitK [b] 0 k' r=_;rw[SM b r k' I]
  .have Ec:(b == c)=false:=aa0
   rw[List.count_cons_of_ne I]at h;have ih:=SM c r k h;rw[AB e];cases k with
   |zero=>
    rw[<-ih];rfl
   |succ k=>
    rw[<-ih,splitK,splitK,index_one,index_one,indexByte,Ec]
    by_cases h0:indexByte r c=-1
    .simp_all
    .have h1:(indexByte r c == -1)=false:=aa0
     have h2:=indexByte_ge r c;have h3:(indexByte r c+1 == -1)=false:=aa2
     simp only[Bool.false_eq_true,if_false,h1,h3];obtain⟨i,hi⟩:∃i:Nat,indexByte r c=i:=⟨(indexByte r c).toNat,by omega⟩<;>simp_all
theorem cE(c:UInt8):∀(n:Nat) (s:Ao1),s.length<=n->count s [c]=s.count c
 |n,s,hn=>by
  rcases Int.lt_or_le (indexByte s c) 0 with h | h
  .have h2:=indexByte_ge s c;have h3:indexByte s c=-1:=I
   rw[count_miss (by grind [index_one])]
   symm
   rw[List.count_eq_zero];intro hm;obtain⟨k,hk,e⟩:=Om hm;exact indexByte_none h3 k aa0
  .obtain⟨i,hi⟩:∃i:Nat,indexByte s c=i:=⟨(indexByte s c).toNat,by omega⟩;obtain⟨h1,h2⟩:=indexByte_some hi;obtain⟨hl,hg⟩:=AN.1 h1;cases n with
   |zero=>omega
   |succ n=>
    have hc:=count_hit (s:=s) (sub:=[c]) (i:=i) aa1 (by grind [index_one]);rw[hc];have ih:=cE c n (s.drop (i+1)) aa2;have xh:s=s.take i++c::s.drop (i+1):=by
     grind [List.drop_eq_getElem_cons,List.take_append_drop]
    grind [List.count_eq_zero,List.getElem_of_mem]
theorem pn(s:An3)(c:UInt8):((splitB ⟨#[c]⟩ 0 (countB s ⟨#[c]⟩) s).map (·.data.toList))=Cy c s.data.toList:=by
 rw[splitB_data];refine SM c _ _ ?_;show _<=count s.data.toList [c];rw[cE c _ _ (Af _)];omega
end Go.Eng
namespace Go.Eng
variable (s:AY)(x:Int×Int)(k:Nat)
theorem rX{t:AY}(h:s.Perm t):(s.take k++([x]++s.drop k)).Perm (t++[x]):=by
 grind [List.take_append_drop]
theorem VV(hs:s.Pairwise fun a b=>a.1<=b.1)(h1:∀j (hj:j<s.length),k<=j->x.1<s[j].1)(h2:k=0\/∃h:k-1<s.length,s[k-1].1<=x.1):(s.take k++([x]++s.drop k)).Pairwise fun a b=>a.1<=b.1:=by
 have hlo:∀a∈s.take k,a.1<=x.1:=fun a ha=>by
  grind [List.getElem_of_mem,List.pairwise_iff_getElem]
 have hhi:∀b∈s.drop k,x.1<=b.1:=fun b hb=>by
  grind [List.getElem_of_mem]
 grind
end Go.Eng
