/- Lemmas 3. -/
import Derived.Test.YtkmnnpmneamgoaaGreatDoorPA02
namespace Go.Eng
variable {x:List Rl}{dec:List Cd}{roots:List Rq}{p:ByteArray}{c:Cd}{α:Type}{l:List α}{s:List UInt8}{needs:List Nd}{d:List Cd}{n:Int}{t:AH}
def IW(roots:List Rq)(dec:List Cd):Prop:=∀q∈GY roots dec,∀d∈dec,d.rel.path=q.path->has q.set d.place=true
theorem IW.nil(roots:List Rq):IW roots []:=fun _ _ d h=>by cases h
theorem UC(roots:List Rq)(dec:List Cd)(c:Cd):GY roots (dec++[c])=GY roots dec++c.rel.reqs:=by
 simp_all
theorem qK(c:Cd):(QI c).map (·.rq)=c.rel.reqs:=Ss (fun _ _=>rfl) _ _
theorem bn(h:Dq dec c=none):∀q∈c.rel.reqs,∀d∈dec++[c],d.rel.path=q.path->has q.set d.place=true:=fun q hq d hd e=>by
 grind [qK,Dq,d5]
theorem Lb{n:Nd}(h:Dq dec c=some n):n∈QI c/\∃d∈dec++[c],d.rel.path=n.rq.path/\has n.rq.set d.place=false:=by
 grind [Dq,d5]
theorem IW.snoc(h:IW roots dec)(hN:X8 roots dec p needs)(hc:c.rel.path=p)(hn:∀n∈needs,has n.rq.set c.place=true)(hk:Dq dec c=none):IW roots (dec++[c]):=by
 intro q hq d hd e;rw[UC]at hq;rcases Bc.1 hq with hq | hq
 .rcases Bc.1 hd with hd | hd
  .exact h q hq d hd e
  .rw[AD.1 hd]at e⊢;rw[<-Im]at hq
   grind [X8.mem]
 grind [bn]
def Vl(y:Sl):List Sl->List Sl
 | []=>[y]
 |z::l=>if Fp y.path z.path then y::z::l else z::Vl y l
def C3:List Sl->List Sl
 | []=>[]
 |y::l=>Vl y (C3 l)
theorem TX{y z:Sl}:∀{l:List Sl},z∈Vl y l↔z=y\/z∈l
 | []=>by simp[Vl]
 |u::l=>by
  unfold Vl;split
  .simp
  .rw[AF,TX,AF]
   grind
theorem Gp{z:Sl}:∀{l:List Sl},z∈C3 l↔z∈l
 | []=>by simp[C3]
 |u::l=>by unfold C3;rw[TX,Gp,AF]
theorem Zn{y:Sl}:∀{l:List Sl},WQ l->(∀z∈l,z.path≠y.path)->WQ (Vl y l)
 | [],_,_=>by grind [Vl]
 |u::l,h,hn=>by
  obtain⟨h1,h2⟩:=Dn.1 h;unfold Vl;split
  .grind [List.pairwise_cons,E5]
  .rename_i hb;refine Dn.2 ⟨fun z hz=>?_,Zn h2 fun z hz=>hn z (Ai _ hz)⟩
   grind [TX,JW]
theorem QT:∀{l:List Sl},(l.map (·.path)).Nodup->WQ (C3 l)
 | [],_=>List.Pairwise.nil
 |y::l,h=>by
  simp only[Bv,GK]at h;exact Zn (QT h.2) fun z hz e=>h.1 (Ar.2 ⟨z,Gp.1 hz,e⟩)
theorem TT:∀{l:List Sl} {b:Option ByteArray},WQ l->(∀c,b=some c->∀y∈l,Fp c y.path=true)->KK b l=true
 | [],_,_,_=>by unfold KK;rfl
 |y::l,b,h,hb=>by
  obtain⟨h1,h2⟩:=Dn.1 h;unfold KK;cases b with
  |none=>simpa using TT h2 fun c e z hz=>by simp_all
  |some c=>
   have:=hb c rfl y (Ah ..)
   simp only[this,Bool.true_and];exact TT h2 fun c e z hz=>by simp_all
theorem tZ{l:List Sl}(h:WQ l):Bp l=true:=TT h fun _ e=>by cases e
theorem KF(hx:Av x=0){r:Rl}(hr:r∈x):Bo x (Cq r)=some r:=by
 unfold Bo;rw[AI (fun h=>h hx)];cases h:x.find? fun s=>decide (Cq s=Cq r)with
 |none=>
  grind
 |some s=>
  have h1:=FM h;simp only[A8]at h1;rw[T0 (BC hx).2 (Bn h) hr h1]
theorem Dp.sorted(h:Dp x dec):WQ (C3 (Au dec)):=QT (by rw[Jv];exact h.nodup)
theorem Dp.findS(h:Dp x dec)(hc:c∈dec):AB (C3 (Au dec)) c.rel.path=some (Qs c):=
 NJ h.sorted (y:=Qs c) (Gp.2 (Ar.2 ⟨c,hc,rfl⟩))
theorem Zx(hx:Av x=0)(h:Dp x dec)(hs:IW roots dec)(hl:DF (GY roots dec) (Au dec)=none):ru x roots (C3 (Au dec)):=by
 have GI:∀q∈GY roots dec,∃y,AB (C3 (Au dec)) q.path=some y/\has q.set (place y.ver)=true:=fun q hq=>by
  have:=Uf hl q hq
  rw[Ln]at this;obtain⟨y,hy,e⟩:=this;obtain⟨d,hd,rfl⟩:=Ar.1 hy;have e:d.rel.path=q.path:=e;refine⟨Qs d,by grind [Dp.findS],?_⟩;have h1:=hs q hq d hd e;have Gv:=(BC hx).1 _ (h.cand d hd).1;rw[(h.cand d hd).2.2,Gv.plc]at h1;exact h1
 refine⟨hx,tZ h.sorted,fun y hy=>?_,fun q hq=>GI q (Bw _ hq),fun y hy r hr q hq=>?_⟩
 .obtain⟨d,hd,rfl⟩:=Ar.1 (Gp.1 hy);exact⟨d.rel,KF hx (h.cand d hd).1,(h.cand d hd).2.1⟩
 .obtain⟨d,hd,rfl⟩:=Ar.1 (Gp.1 hy)
  have:Bo x (Qs d)=some d.rel:=KF hx (h.cand d hd).1
  rw[this]at hr;cases hr;exact GI q (B8 _ (Fk.2 ⟨_,Ar.2 ⟨d,hd,rfl⟩,hq⟩))
def ZX(dec:List Cd)(needs:List Nd)(c:Cd):Bool:=(needs.all fun n=>has n.rq.set c.place)&&(Dq dec c).isNone
def CQ(x:List Rl)(roots:List Rq):Nat->List Cd->List (List Cd)
 |0,_=>[]
 |n+1,dec=>match(D5 roots dec).2 with
  | []=>[dec]
  |n0::l=>((Be x (D5 roots dec).1).map fun c=>if ZX dec (n0::l) c then CQ x roots n (dec++[c])else []).flatten
structure Lf(x:List Rl)(roots:List Rq)(dec d:List Cd):Prop where
 pre:dec <+: d
 ok:Dp x d
 sat:IW roots d
 stop:DF (GY roots d) (Au d)=none
theorem GB(h:c∈Be x p):c.rel.path=p/\(c.rel∈x/\c.rel.yanked=false/\c.place=plc c.rel.ver):=by
 grind [K9]
theorem Kc:ZX dec needs c=true↔(∀n∈needs,has n.rq.set c.place=true)/\Dq dec c=none:=by
 grind [ZX,Option.isNone_iff_eq_none]
theorem Wd{x:List Rl}{roots:List Rq}:∀{n:Nat} {dec:List Cd},Dp x dec->IW roots dec->∀d∈CQ x roots n dec,Lf x roots dec d
 |0,_,_,_,d,hd=>by cases hd
 |n+1,dec,h,hs,d,hd=>by
  unfold CQ at hd;split at hd
  .grind [Ue,Lf.mk]
  .rename_i n0 l e;have hN:=JA e;obtain⟨L,hL,hd⟩:=Fk.1 hd;obtain⟨c,hc,rfl⟩:=Ar.1 hL;split at hd
   .rename_i Gv;obtain⟨h1,h2⟩:=Kc.1 Gv;obtain⟨c1,c2⟩:=GB hc;have gG:Dv dec c.rel.path=false:=by grind [X8.undone]
    have:=Wd (n:=n) (h.snoc c2 gG) (hs.snoc hN c1 h1 h2) d hd
    grind [List.prefix_append,Lf.mk,Lf.pre,Lf.ok,Lf.sat,Lf.stop]
   simp_all
theorem Lf.sol(hx:Av x=0)(h:Lf x roots dec d):ru x roots (C3 (Au d)):=Zx hx h.ok h.sat h.stop
theorem qv(hx:Av x=0){s:SS}(hd:EJ x roots s){k:Nat}(hk:k<s.drv.length)(he:Bm (Em s k) (Au dec)=true)(h:Lf x roots dec d):False:=by
 have hS:=h.sol hx;have hv:=Xg (s:=C3 (Au d)) hS.inc (fun y hy=>Gp.2 (by
  obtain⟨c,hc,rfl⟩:=Ar.1 hy;obtain⟨t,e⟩:=h.pre<;>grind)) he
 have hn:=Mp hS (d:=[]) (fun _ h=>by cases h) hd.der (Em s k) (by
  simp_all)
 simp_all
theorem t8(h:Av x=0):x.length<=256:=by
 grind [Av]
theorem la{l:List Rl}{k:Int}:(l.map fun r=>(plc r.ver,plc r.ver+1)).any (BP k)=true↔∃r∈l,plc r.ver=k:=by
 rw[Bu];constructor
 .grind [Eo]
 .rintro⟨r,hr,rfl⟩
  exact⟨_,Ar.2 ⟨r,hr,rfl⟩,Eo.2 ⟨Ce _,by omega⟩⟩
theorem VG(hx:Av x=0){k:Int}:has (A4 x p) k=true↔∃c∈Be x p,c.place=k:=by
 unfold A4;rw[En];unfold has Io;rw[AI (fun h=>h hx)];simp only[Aj,A8];rw[la];constructor
 .rintro⟨_,r,hr,rfl⟩
  simp only[B6,A8,EI]at hr;exact⟨⟨plc r.ver,r⟩,K9.2 ⟨r,hr.1.1,hr.1.2,hr.2,rfl⟩,rfl⟩
 .rintro⟨c,hc,rfl⟩
  obtain⟨r,h1,h2,h3,rfl⟩:=K9.1 hc;have Gv:=(BC hx).1 r h1
  have:=JC Gv.val
  grind [JP.plc]
theorem fb(hx:Av x=0)(p:ByteArray):∃k:Int,0<=k/\k<1000000/\has (A4 x p) k=false:=by
 apply A9;intro hn;have GI:∀k∈(List.range 257).map fun i:Nat=>(i:Int),k∈x.map fun r=>plc r.ver:=by
  intro k hk;obtain⟨i,hi,rfl⟩:=Ar.1 hk;have hi:=Ks.1 hi;have hh:has (A4 x p) (i:Int)=true:=by
   grind
  grind [VG,K9]
 have:=CM (List.pairwise_map.2 (List.nodup_range.imp fun h e=>h (Int.ofNat.inj e))) GI
 grind [t8]
theorem T1(dec:List Cd)(c:Cd):Au (dec++[c])=ML (Au dec) c.rel.path c.rel.ver:=by simp_all
theorem Lj{t:List Tm}{S:List Sl}:Bm t S=true↔AT t S=true/\∀u∈t,BS S u.path=true:=by
 grind [Bm]
section
variable {x:List Rl}{roots:List Rq}{dec:List Cd}{p:ByteArray}{needs:List Nd}
abbrev cu(p:ByteArray)(dec:List Cd):List ByteArray:=p::(Au dec).map (·.path)
theorem pk{c:Cd}{t:List Tm}(hf:Form t)(he:Bm t (Au (dec++[c]))=true):PU (cu c.rel.path dec) t:=by
 refine⟨EZ hf,fun u hu=>?_⟩
 grind [Lj,E0]
theorem ky(hx:Av x=0)(hd:Dp x dec){c:Cd}(hc:c.rel∈x){t:List Tm}(he:Bm t (Au (dec++[c]))=true)(hn:DC t c.rel.path=false):Bm t (Au dec)=true:=by
 obtain⟨h1,h2⟩:=Lj.1 he;have D8:=JX hn;rw[T1]at h1 h2;refine Lj.2 ⟨?_,fun u hu=>?_⟩
 .rw[K5 (.self (hd.valid hx)) (.ver (hd.valid hx) ((BC hx).1 _ hc).val) D8];exact h1
 grind [Ln]
theorem iY(hx:Av x=0)(hd:Dp x dec){c:Cd}(hc:c.rel∈x/\c.rel.yanked=false/\c.place=plc c.rel.ver)(hu:Dv dec c.rel.path=false){t:List Tm}(hf:Form t)(he:Bm t (Au (dec++[c]))=true)(hn:DC t c.rel.path=true) :
  aL (Au dec) (cu c.rel.path dec) c.rel.path t fun k=>k=c.place:=by
 have Gv:=(BC hx).1 _ hc.1;have hV:=hd.valid hx;have h1:=(Lj.1 he).1;rw[T1]at h1;refine⟨hf,pk hf he,hn,⟨_,.ver hV Gv.val,h1⟩,fun k k0 k1 e=>?_⟩
 grind [cY,GQ,Ff,Hw,JP.val,JP.plc]
theorem Pr(hx:Av x=0)(hr:AL roots=0){E:List Cd}(hE:Dp x E){n:Nd}(hn:n∈CY roots E)(hv:∃d∈E,d.rel.path=n.rq.path/\has n.rq.set d.place=false) :
  (∀d,AM x roots d (Pl n)=some (Ik n))/\Bm (Ik n) (Au E)=true/\Form (Ik n):=by
 obtain⟨d,hd,e,hs⟩:=hv;have Gv:=(BC hx).1 _ (hE.cand d hd).1;have hf:=hE.find hd;have hI:=Si hx hr hE hn (.inr ⟨Qs d,by simp_all,by rw[show(Qs d).ver=d.rel.ver from rfl,<-Gv.plc,<-(hE.cand d hd).2.2];exact hs⟩);refine⟨hI.inf,Lj.2 ⟨hI.viol,fun u hu=>?_⟩,hI.form⟩
 have:=(hI.inU ((Au E).map (·.path)) (fun h=>E0.1 (hI.path h)) (E0.1 (by grind [J5]))).2 u hu
 exact E0.2 this
theorem io(hx:Av x=0)(hr:AL roots=0)(hd:Dp x dec)(hN:X8 roots dec p needs){c:Cd}(hc:c∈Be x p){n:Nd}(hn:n∈needs)(hs:has n.rq.set c.place=false):DC (Ik n) p=true:=by
 obtain⟨c1,c2⟩:=GB hc;have hu:Dv dec c.rel.path=false:=by grind [X8.undone]
 have hE:=hd.snoc c2 hu;obtain⟨n9,hn2⟩:=(hN.mem n).1 hn;have Gv:=(BC hx).1 _ c2.1;have hI:=Si hx hr hE (Ou n9) (.inr ⟨Qs c,by grind [Dp.find],by grind [JP.plc]⟩);cases vg:DC (Ik n) p with
 |true=>rfl
 |false=>
  exfalso
  have Od:n.rq.set≠[]/\Er n.rq.set:=by
   rcases KP n9 with ⟨k,q,h1,rfl⟩ | ⟨c,hc,k,q,h1,rfl⟩
   .grind [La]
   .exact((BC hx).1 _ (hd.cand c hc).1).set q (Ax h1)
  obtain⟨k,hk⟩:=eT Od.1 Od.2;have Y2:=N9 hk;have hV:=hd.valid hx;have o1:UZ (Au dec) p (ML (Au dec) p (cZ k)):=.ver hV (Ff Y2);have o2:UZ (Au dec) p (Au (dec++[c])):=by grind [UZ.ver,JP.val]
  have h1:=K5 o1 o2 (JX vg);rw[hI.viol,hI.raw _ o1.val,Bq]at h1
  have:=h1 (Du n.rq) (by grind [Ny])
  grind [Du,Jl,GQ,Um,Hw]
theorem ib(hx:Av x=0)(hr:AL roots=0)(hd:Dp x dec)(hN:X8 roots dec p needs){n0:Nd}(h0:n0∈needs)(L:List (Nat×Cd))(hL:L.map (·.2)=Be x p){s:SS}(hs:EJ x roots s)(E1:∀y∈L,y.1<s.drv.length)
  (x7:s.full=false->∀y∈L,Bm (Em s y.1) (Au (dec++[y.2]))=true/\DC (Em s y.1) p=true) :
  EJ x roots (Dx x p n0 (L.map (·.1)) s).2/\Grow s (Dx x p n0 (L.map (·.1)) s).2/\(Dx x p n0 (L.map (·.1)) s).1<(Dx x p n0 (L.map (·.1)) s).2.drv.length /\
  ((Dx x p n0 (L.map (·.1)) s).2.full=false->Bm (Em (Dx x p n0 (L.map (·.1)) s).2 (Dx x p n0 (L.map (·.1)) s).1) (Au dec)=true):=by
 have hV:=hd.valid hx;have hpD:BS (Au dec) p=false:=by rw[GQ];exact hN.undone
 obtain⟨xR,hp0⟩:=(hN.mem n0).1 h0;have hI:=Si hx hr hd xR (.inl (by grind [HZ]));unfold Dx;obtain⟨a1,a2,a3⟩:=Kv hs (hI.inf s.drv);have ag:=Kw s (Pl n0) (Ik n0);have a3:(By s n0).2.full=false->Em (By s n0).2 (By s n0).1=Ik n0:=a3
 change EJ x roots (By s n0).2 at a1
 change (By s n0).1<(By s n0).2.drv.length at a2
 change Grow s (By s n0).2 at ag
 generalize By s n0=s1 at *
 -- the incompatibility of the places that are not available
 obtain⟨u,u0,u1,hu⟩:=fb hx p;have lL:∀k:Int,0<=k->k<1000000->has (A4 x p) k=false->AT [(⟨p,false,BU (A4 x p)⟩:Tm)] (ML (Au dec) p (cZ k))=true:=fun k k0 k1 hk=>by
  grind [Bq,CW,Jl,Ff,Hw,Fx,Pj]
 have rT:AT [(⟨p,false,BU (A4 x p)⟩:Tm)] (Au dec)=false:=by
  rw[A2];intro h
  have:=Bq.1 h _ (Ah ..)
  rw[show(⟨p,false,BU (A4 x p)⟩:Tm).path=p from rfl,HZ hpD]at this;cases this
 have ou:UZ (Au dec) p (ML (Au dec) p (cZ u)):=.ver hV (Ff ⟨u0,u1⟩);have D8:D6 p (A4 x p)≠[]:=by
  have c1:=Da (l:=[(⟨p,false,BU (A4 x p)⟩:Tm)]) ou.val;have c2:=Da (l:=[(⟨p,false,BU (A4 x p)⟩:Tm)]) hV;rw[lL u u0 u1 hu]at c1;rw[rT]at c2;unfold D6 BT;cases hc:A3 [(⟨p,false,BU (A4 x p)⟩:Tm)]with
  |none=>grind
  |some c=>
   rw[hc]at c2;intro e;have e:c=[]:=e;rw[e]at c2;cases c2
 have Rw:∀S,Gt S->AT (D6 p (A4 x p)) S=AT [(⟨p,false,BU (A4 x p)⟩:Tm)] S:=fun S v=>QD v D8;have xz:DC (D6 p (A4 x p)) p=true:=by
  cases h:DC (D6 p (A4 x p)) p with
  |true=>rfl
  |false=>
   have:=K5 ou (.self hV) (JX h)
   rw[Rw _ ou.val,Rw _ hV,lL u u0 u1 hu,rT]at this;simp_all
 have Y3:AM x roots s1.2.drv ⟨2,p,0,0,0,0⟩=some (D6 p (A4 x p)):=by
  unfold AM;rw[AI (show ¬((2:Int)=0) by decide),AI (show ¬((2:Int)=1) by decide),AX rfl,AX ⟨rfl,rfl,rfl,rfl⟩];unfold Oo;simp_all
 obtain⟨b1,b2,b3⟩:=Kv a1 Y3;have bg:=Kw s1.2 ⟨2,p,0,0,0,0⟩ (D6 p (A4 x p));have b3:(Et x p s1.2).2.full=false->Em (Et x p s1.2).2 (Et x p s1.2).1=D6 p (A4 x p):=b3
 change EJ x roots (Et x p s1.2).2 at b1
 change (Et x p s1.2).1<(Et x p s1.2).2.drv.length at b2
 change Grow s1.2 (Et x p s1.2).2 at bg
 generalize Et x p s1.2=s2 at *
 have xf:s2.2.full=false->s1.2.full=false/\s.full=false:=fun h=>by
  have h1:s1.2.full=false:=by
   cases e:s1.2.full with
   |false=>rfl
   |true=>rw[bg.full e]at h;cases h
  refine⟨h1,?_⟩;cases e:s.full with
  |false=>rfl
  |true=>rw[ag.full e]at h1;cases h1
 have main:=Oi (D:=Au dec) (U:=cu p dec) (p:=p) hV ((s2.1,fun k=>has (A4 x p) k=false)::L.map fun y=>(y.1,fun k=>k=y.2.place)) (C:=fun k=>has n0.rq.set k=false) b1 (Cp a2 bg.len)
  (fun y hy=>by
   rcases AF.1 hy with rfl | hy
   .exact b2
   .obtain⟨z,hz,rfl⟩:=Ar.1 hy;exact Cp (E1 z hz) (ag.trans bg).len) (fun hf=>by
   obtain⟨f1,f0⟩:=xf hf;refine⟨?_,fun y hy=>?_⟩
   .rw[bg.at a2,a3 f1];refine⟨hI.form,hI.inU _ (fun h=>Ai _ (E0.1 (hI.path h))) (by simp_all),hI.viol,fun k k0 k1 hk=>?_⟩;have ok:UZ (Au dec) p (ML (Au dec) p (cZ k)):=.ver hV (Ff ⟨k0,k1⟩);rw[hI.raw _ ok.val,Bq];intro t ht;have bN:=Bq.1 ((hI.raw _ hV).symm.trans hI.viol) t ht;unfold Ny at ht;have tJ:CW (Du n0.rq) (AB (ML (Au dec) p (cZ k)) (Du n0.rq).path)=true:=by
     rw[show(Du n0.rq).path=p from hp0,Jl hpD];exact RF (.inr ⟨_,rfl,Ff ⟨k0,k1⟩,by rw[show(⟨p,cZ k⟩:Sl).ver=cZ k from rfl,Hw];exact hk⟩)
    split at ht
    .simp_all
    .rename_i hm;rcases AF.1 ht with rfl | ht
     .have D8:n0.path≠p:=fun e=>by
       have:=hI.path hm
       simp_all
      rw[show(⟨n0.path,false,[(n0.place,n0.place+1)]⟩:Tm).path=n0.path from rfl]at bN⊢;rw[ok.same _ D8];omega
     simp_all
   .rcases AF.1 hy with rfl | hy
    .show aL _ _ p (Em s2.2 s2.1) _;rw[b3 hf];refine⟨MK _,Ul (fun t ht=>by simp_all),xz,⟨_,ou,by rw[Rw _ ou.val];simp_all⟩,fun k k0 k1 hk=>?_⟩;rw[Rw _ (UZ.ver hV (Ff ⟨k0,k1⟩)).val];simp_all
    .obtain⟨z,hz,rfl⟩:=Ar.1 hy;show aL _ _ p (Em s2.2 z.1) _;rw[(ag.trans bg).at (E1 z hz)];obtain⟨e1,e2⟩:=x7 f0 z hz;have hzc:z.2∈Be x p:=by grind
     obtain⟨c1,c2⟩:=GB hzc
     have:=iY hx hd c2 (by rw[c1];exact hN.undone) (hs.forms z.1) e1 (by simp_all)
     simp_all)
 have Ace:((s2.1,fun k=>has (A4 x p) k=false)::L.map fun y=>(y.1,fun k=>k=y.2.place)).map (·.1)=s2.1::L.map (·.1):=by
  simp_all
 rw[Ace]at main;obtain⟨m1,m2,m3,m4⟩:=main;refine⟨m1,(ag.trans bg).trans m2,m3,fun hf=>?_⟩;obtain⟨C',q1,q2⟩:=m4 hf;have hnc:DC (Em (B4 p (s2.1::L.map (·.1)) s1.1 s2.2).2 (B4 p (s2.1::L.map (·.1)) s1.1 s2.2).1) p=false:=by
  rcases q2 with q2 | q2
  .exact q2
  .refine my hpD q1.form q1.none_ fun k k0 k1=>q1.cov k k0 k1 (q2 k ?_);cases vq:has n0.rq.set k with
   |false=>simp_all
   |true=>
    cases ha:has (A4 x p) k with
    |false=>simp_all
    |true=>
     obtain⟨c,hc,e⟩:=(VG hx).1 ha;rw[<-hL]at hc;obtain⟨z,hz,rfl⟩:=Ar.1 hc;exact .inr ⟨_,Ai _ (Ar.2 ⟨z,hz,rfl⟩),e.symm⟩
 refine Lj.2 ⟨q1.none_,fun t ht=>?_⟩
 have:=q1.inU.2 t ht
 rcases AF.1 this with e | h
 .exact absurd e (JX hnc t ht)
 .exact E0.2 h
end
def GG(s:SS)(b:List Cd)(p:ByteArray)(needs:List Nd):List Cd->List Sk->Prop
 | [],sk=>sk=[]
 |c::cs,sk=>if(needs.all fun n=>has n.rq.set c.place)=true then ∃(k:Nat) (rest:List Sk),sk=⟨p,c.place,k⟩::rest/\(k<s.drv.length/\Bm (Em s k) (Au (b++[c]))=true)/\GG s b p needs cs rest
  else GG s b p needs cs sk
section
variable {s s' : SS}{b:List Cd}{p:ByteArray}{needs:List Nd}
theorem GG.out{c:Cd}(hc:¬(needs.all fun n=>has n.rq.set c.place)=true):∀{cs:List Cd} {sk:List Sk},GG s b p needs cs sk->GG s b p needs (cs++[c]) sk
 | [],sk,h=>by
  show(if _ then _ else _)
  grind
 |d::cs,sk,h=>by
  have h:if(needs.all fun n=>has n.rq.set d.place)=true then _ else _:=h
  show(if _ then _ else _)
  by_cases hd:(needs.all fun n=>has n.rq.set d.place)=true
  .rw[AX hd]at h⊢;obtain⟨k,rest,h1,h2,h3⟩:=h;exact⟨k,rest,h1,h2,GG.out hc h3⟩
  .rw[AI hd]at h⊢;exact GG.out hc h
theorem GG.add{c:Cd}(hc:(needs.all fun n=>has n.rq.set c.place)=true){k:Nat}(hk:k<s.drv.length/\Bm (Em s k) (Au (b++[c]))=true):∀{cs:List Cd} {sk:List Sk},GG s b p needs cs sk->GG s b p needs (cs++[c]) (sk++[⟨p,c.place,k⟩])
 | [],sk,h=>by
  have h:sk=[]:=h;subst h;show(if _ then _ else _);rw[AX hc];exact⟨k,[],rfl,hk,rfl⟩
 |d::cs,sk,h=>by
  have h:if(needs.all fun n=>has n.rq.set d.place)=true then _ else _:=h
  show(if _ then _ else _)
  by_cases hd:(needs.all fun n=>has n.rq.set d.place)=true
  .rw[AX hd]at h⊢;obtain⟨j,rest,rfl,h2,h3⟩:=h;exact⟨j,_,rfl,h2,GG.add hc hk h3⟩
  .rw[AI hd]at h⊢;exact GG.add hc hk h
theorem GG.mono(hg:Grow s s'):∀{cs:List Cd} {sk:List Sk},GG s b p needs cs sk->GG s' b p needs cs sk
 | [],_,h=>h
 |d::cs,sk,h=>by
  have h:if(needs.all fun n=>has n.rq.set d.place)=true then _ else _:=h
  show(if _ then _ else _)
  by_cases hd:(needs.all fun n=>has n.rq.set d.place)=true
  .rw[AX hd]at h⊢;obtain⟨j,rest,rfl,h2,h3⟩:=h;exact⟨j,rest,rfl,⟨Cp h2.1 hg.len,by grind [Grow.at]⟩,h3.mono hg⟩
  .rw[AI hd]at h⊢;exact h.mono hg
end
structure sc(x:List Rl)(roots:List Rq)(s:SS)(b:List Cd)(c:Cd)(sk:List Sk)(p:ByteArray)(needs:List Nd)(pre post:List Cd):Prop where
 next:X8 roots b p needs
 cands:Be x p=pre++c::post
 fit:∀n∈needs,has n.rq.set c.place=true
 noclash:Dq b c=none
 skips:GG s b p needs pre sk
def JU(x:List Rl)(roots:List Rq)(s:SS):List Cd->List Cd->List (List Sk)->Prop
 |b,[],[]=>DF (GY roots b) (Au b)=none
 |b,c::t,sk::st=>(∃p needs pre post,sc x roots s b c sk p needs pre post)/\JU x roots s (b++[c]) t st
 |_,_,_=>False
structure NV(x:List Rl)(roots:List Rq)(ls:List (List Cd))(dec:List Cd)(s:SS)(st:List (List Sk))(o:Ku):Prop where
 der:EJ x roots o.ss
 grow:Grow s o.ss
 no:o.found=false->o.dec=dec/\o.stack=st/\(o.ss.full=false->o.res<o.ss.drv.length/\Bm (Em o.ss o.res) (Au dec)=true)
 yes:o.found=true->o.ss.full=false/\∃t sl,o.dec=dec++t/\o.stack=st++sl/\JU x roots o.ss dec t sl/\ls.head?=some o.dec
section
variable {rec:List Cd->SS->List (List Sk)->Ku}{x:List Rl}{roots:List Rq}{p:ByteArray}{needs:List Nd}{n0:Nd}{dec:List Cd}{st:List (List Sk)}
def Ix(rec:List Cd->SS->List (List Sk)->Ku)(x:List Rl)(p:ByteArray)(needs:List Nd)(n0:Nd)(dec:List Cd)(st:List (List Sk))(c:Cd)(cs:List Cd)(reasons:List Nat)(skips:List Sk)(k:Nat)(s:SS):Ku:=
 if DC (Em s k) p=false then⟨k,false,s,dec,st⟩else DR rec x p needs n0 dec st cs s (reasons++[k]) (skips++[⟨p,c.place,k⟩])
theorem FW(c:Cd)(cs:List Cd)(s:SS)(reasons:List Nat)(skips:List Sk):DR rec x p needs n0 dec st (c::cs) s reasons skips =
  if s.full=true then⟨0,false,s,dec,st⟩
  else match needs.find? fun n=>!has n.rq.set c.place with
   |some n=>DR rec x p needs n0 dec st cs (By s n).2 (reasons++[(By s n).1]) skips
   |none=>match N2 s.drv (Au (dec++[c]))with
    |some k=>Ix rec x p needs n0 dec st c cs reasons skips k s
    |none=>match Dq dec c with
     |some n=>Ix rec x p needs n0 dec st c cs reasons skips (By s n).1 (By s n).2
     |none=>if(rec (dec++[c]) s (st++[skips])).found=true then⟨0,true,(rec (dec++[c]) s (st++[skips])).ss,(rec (dec++[c]) s (st++[skips])).dec,(rec (dec++[c]) s (st++[skips])).stack⟩
      else if(rec (dec++[c]) s (st++[skips])).ss.full=true then⟨0,false,(rec (dec++[c]) s (st++[skips])).ss,dec,st⟩
      else Ix rec x p needs n0 dec st c cs reasons skips (rec (dec++[c]) s (st++[skips])).res (rec (dec++[c]) s (st++[skips])).ss:=rfl
theorem dU{s:SS}(hs:EJ x roots s){n:Nd}(h:∀d,AM x roots d (Pl n)=some (Ik n)):EJ x roots (By s n).2/\(By s n).1<(By s n).2.drv.length/\((By s n).2.full=false->Em (By s n).2 (By s n).1=Ik n)/\Grow s (By s n).2:=by
 obtain⟨a1,a2,a3⟩:=Kv hs (h s.drv);exact⟨a1,a2,a3,Kw _ _ _⟩
theorem NV.grown{ls:List (List Cd)}{s s' : SS}{o:Ku}(hg:Grow s s')(h:NV x roots ls dec s' st o):NV x roots ls dec s st o:=⟨h.der,hg.trans h.grow,h.no,h.yes⟩
theorem VK(hx:Av x=0)(hr:AL roots=0)(hd:Dp x dec)(gM:IW roots dec)(hN:X8 roots dec p needs)(h0:n0∈needs){lv:List Cd->List (List Cd)}(jy:∀c∈Be x p,ZX dec needs c=true->∀d∈lv (dec++[c]),Lf x roots (dec++[c]) d)
  (Vi:∀c∈Be x p,ZX dec needs c=true->∀s st,EJ x roots s->s.full=false->NV x roots (lv (dec++[c])) (dec++[c]) s st (rec (dec++[c]) s st)) :
  ∀(cs:List Cd) {s:SS} (L:List (Nat×Cd)) {skips:List Sk},L.map (·.2)++cs=Be x p->EJ x roots s->(∀y∈L,y.1<s.drv.length)->(s.full=false->(∀y∈L,Bm (Em s y.1) (Au (dec++[y.2]))=true/\DC (Em s y.1) p=true)/\GG s dec p needs (L.map (·.2)) skips) ->
   NV x roots (((Be x p).map fun c=>if ZX dec needs c then lv (dec++[c])else []).flatten) dec s st (DR rec x p needs n0 dec st cs s (L.map (·.1)) skips)
 | [],s,L,skips,hL,hs,E1,x7=>by
  rw[DV]at hL;obtain⟨l1,l2,l3,l4⟩:=ib hx hr hd hN h0 L hL hs E1 (fun hf=>(x7 hf).1);exact⟨l1,l2,fun _=>⟨rfl,rfl,fun hf=>⟨l3,l4 hf⟩⟩,fun h=>(by cases h)⟩
 |c::cs,s,L,skips,hL,hs,E1,x7=>by
  rw[FW]
  by_cases hf:s.full=true
  .grind [NV.mk,Grow.refl]
  rw[AI hf];have hf:s.full=false:=by simp_all
  obtain⟨Acz,AcA⟩:=x7 hf;have hc:c∈Be x p:=by grind
  obtain⟨c1,c2⟩:=GB hc;have hu:Dv dec c.rel.path=false:=by grind [X8.undone]
  have hE:=hd.snoc c2 hu
  -- on to the next candidate
  have go:∀(s' : SS) (k:Nat) (LG : List Sk),EJ x roots s'->Grow s s'->k<s'.drv.length->(s'.full=false->(Bm (Em s' k) (Au (dec++[c]))=true/\DC (Em s' k) p=true)/\GG s' dec p needs (L.map (·.2)++[c]) LG) ->
    NV x roots (((Be x p).map fun c=>if ZX dec needs c then lv (dec++[c])else []).flatten) dec s st (DR rec x p needs n0 dec st cs s' (L.map (·.1)++[k]) LG):=fun s' k LG gL hg hk D8=>by
   have:=VK hx hr hd gM hN h0 jy Vi cs (s:=s') (L++[(k,c)]) (skips:=LG) (by simp_all) gL
    (fun y hy=>by
     rcases Bc.1 hy with hy | hy
     .exact Cp (E1 y hy) hg.len
     simp_all)
    (fun vh=>by
     grind [Grow.at])
   grind [NV.grown]
  cases zw:needs.find? fun n=>!has n.rq.set c.place with
  |some n=>
   dsimp only;have n9:=Bn zw;have hn2:=FM zw;have hn2:has n.rq.set c.place=false:=by simp_all
   obtain⟨hn3,hn4⟩:=(hN.mem n).1 n9;obtain⟨e1,e2,e3⟩:=Pr hx hr hE (Ou hn3) ⟨c,by simp,by rw[c1,hn4],hn2⟩<;>grind [dU,io,GG.out,GG.mono]
  |none=>
   dsimp only;have pQ:∀n∈needs,has n.rq.set c.place=true:=fun n hn=>by
    simp_all
   have GI:(needs.all fun n=>has n.rq.set c.place)=true:=by simp_all
   have zd:∀(s' : SS) (k:Nat),EJ x roots s'->Grow s s'->k<s'.drv.length->(s'.full=false->Bm (Em s' k) (Au (dec++[c]))=true) ->
     NV x roots (((Be x p).map fun c=>if ZX dec needs c then lv (dec++[c])else []).flatten) dec s st (Ix rec x p needs n0 dec st c cs (L.map (·.1)) skips k s'):=fun s' k gL hg hk he=>by
    unfold Ix;cases vg:DC (Em s' k) p with
    |false=>
     rw[AX rfl];exact⟨gL,hg,fun _=>⟨rfl,rfl,fun vh=>⟨hk,ky hx hd c2.1 (he vh) (by simp_all)⟩⟩,fun h=>(by cases h)⟩
    |true=>
     grind [GG.add,GG.mono]
   cases hen:N2 s.drv (Au (dec++[c]))with
   |some k=>
    grind [KC,Grow.refl]
   |none=>
    dsimp only;cases hcl:Dq dec c with
    |some n=>
     dsimp only;obtain⟨m1,m2⟩:=Lb hcl;obtain⟨e1,e2,e3⟩:=Pr hx hr hE (Ng m1) m2<;>grind [dU]
    |none=>
     dsimp only;have Gv:ZX dec needs c=true:=Kc.2 ⟨pQ,hcl⟩;have hR:=Vi c hc Gv s (st++[skips]) hs hf;generalize rec (dec++[c]) s (st++[skips])=o at hR
     by_cases bJ:o.found=true
     .rw[AX bJ];obtain⟨y1,t,sl,y2,y3,y4,y5⟩:=hR.yes bJ;refine⟨hR.der,hR.grow,fun h=>(by cases h),fun _=>⟨y1,c::t,skips::sl,by simp_all,by simp_all,⟨⟨p,needs,L.map (·.2),cs,hN,hL.symm,pQ,hcl,AcA.mono hR.grow⟩,y4⟩,?_⟩⟩;show _=some o.dec;rw[<-hL,BD,Df,Bv,Cj];have xW:((L.map (·.2)).map fun c=>if ZX dec needs c then lv (dec++[c])else []).flatten=[]:=by
       rw[List.flatten_eq_nil_iff];intro l hl;obtain⟨d,lx,rfl⟩:=Ar.1 hl;obtain⟨y,hy,rfl⟩:=Ar.1 lx;split
       .rename_i hoy;have hyc:y.2∈Be x p:=by grind
        refine LZ.2 fun d AbX=>qv hx hs (E1 y hy) (Acz y hy).1 (jy y.2 hyc hoy d AbX)
       .rfl
      grind
     grind [NV.no,NV.mk,NV.der,NV.grow]
end
theorem N6(h:c.rel∈x/\c.rel.yanked=false)(hu:Dv dec c.rel.path=false):FK x (dec++[c])<FK x dec:=by
 have key:∀l:List Rl,(l.filter fun r=>!r.yanked&&!Dv (dec++[c]) r.path).length<=(l.filter fun r=>!r.yanked&&!Dv dec r.path).length /\
   (c.rel∈l->(l.filter fun r=>!r.yanked&&!Dv (dec++[c]) r.path).length<(l.filter fun r=>!r.yanked&&!Dv dec r.path).length):=by
  intro l
  induction l<;>grind [Dv]
 exact(key x).2 h.1
theorem QR{x:List Rl}{roots:List Rq}(hx:Av x=0)(hr:AL roots=0):∀(n:Nat) {dec:List Cd} {s:SS} {st:List (List Sk)},Dp x dec->IW roots dec->EJ x roots s->s.full=false->FK x dec<n ->
  NV x roots (CQ x roots n dec) dec s st (Cz x roots n dec s st)
 |0,_,_,_,_,_,_,_,h=>by omega
 |n+1,dec,s,st,hd,gM,hs,hf,hn=>by
  unfold Cz CQ;cases e:(D5 roots dec).2 with
  |nil=>
   exact⟨hs,.refl s,fun h=>(by cases h),fun _=>⟨hf,[],[],by simp,by simp,Ue.1 e,rfl⟩⟩
  |cons n0 l=>
   have hN:=JA e;have next:∀c∈Be x (D5 roots dec).1,ZX dec (n0::l) c=true->Dp x (dec++[c])/\IW roots (dec++[c])/\FK x (dec++[c])<n:=fun c hc Gv=>by
    obtain⟨c1,c2⟩:=GB hc;have hu:Dv dec c.rel.path=false:=by grind [X8.undone]
    obtain⟨k1,k2⟩:=Kc.1 Gv;exact⟨hd.snoc c2 hu,gM.snoc hN c1 k1 k2,by have:=N6 (dec:=dec) ⟨c2.1,c2.2.1⟩ hu;omega⟩
   exact VK hx hr hd gM hN (Ah ..) (lv:=CQ x roots n) (fun c hc Gv d lx=>Wd (next c hc Gv).1 (next c hc Gv).2.1 d lx)
    (fun c hc Gv s st hs hf=>QR hx hr n (next c hc Gv).1 (next c hc Gv).2.1 hs hf (next c hc Gv).2.2) _ [] rfl hs (fun y hy=>by cases hy) (fun _=>⟨fun y hy=>(by cases hy),rfl⟩)
theorem YQ(x:List Rl)(dec:List Cd):FK x dec<=x.length:=Dz _ _
theorem QS(hx:Av x=0)(hr:AL roots=0):NV x roots (CQ x roots (x.length+1) []) [] JT [] (EX x roots):=
 QR hx hr _ (.nil x) (.nil roots) (.nil x roots) rfl (by grind [YQ])
def ud:List (List UInt8):=[[97,110,100],[97,110,121],[97,115],[98,111,111,108],[100,101,112,114,101,99,97,116,101,100],[101,108,115,101],[101,120,112,111,114,116],[102,97,108,115,101],[102,110],[102,111,108,100],[102,114,111,109],[105,102],[105,109,112,111,114,116],[105,110],[105,110,116],[108,101,110,103,116,104],[108,101,116],[108,105,115,116],[109,97,116,99,104],[109,111,100,117,108,101],[110,111,110,101],[110,111,116],[111,114],[116,101,120,116],[116,104,101,110],[116,114,117,101],[116,121,112,101],[117,115,101]]
theorem hJ:ca=32::ud.flatMap (fun w=>w++[32]):=by decide +kernel
theorem ue:∀w∈ud,∀c∈w,c≠32:=by decide +kernel
theorem Wp:∀(s w r:List UInt8),(∀c∈s,c≠32)->(∀c∈w,c≠32)->PF (s++[32]) (w++32::r)=decide (w=s)
 | [],[],r,_,_=>by simp[PF]
 | [],b::w,r,_,hw=>by
  grind [PF]
 |a::s,[],r,hs,_=>by
  grind [PF]
 |a::s,b::w,r,hs,hw=>by
  have ih:=Wp s w r (fun c hc=>hs c (Ai _ hc)) (fun c hc=>hw c (Ai _ hc))
  grind [PF]
theorem Zh(x:List UInt8):∀(w r:List UInt8),(∀c∈w,c≠32)->oh (32::x) (w++r)=oh (32::x) r
 | [],_,_=>rfl
 |b::w,r,h=>by
  have hb:=h b (Ah ..);rw[F2,oh,Zh x w r (fun c hc=>h c (Ai _ hc))]
  grind [PF]
theorem V4(s:List UInt8)(hs:∀c∈s,c≠32):∀ws:List (List UInt8),(∀w∈ws,∀c∈w,c≠32)->oh (32::(s++[32])) (32::ws.flatMap (fun w=>w++[32]))=ws.any (fun w=>decide (w=s))
 | [],_=>by
  cases s<;>grind [oh,PF]
 |w::ws,h=>by
  have hw:=h w (Ah ..);have ih:=V4 s hs ws (fun v hv=>h v (Ai _ hv))
  grind [oh,PF,Wp,Zh]
theorem rm(h:s.all FU=true):∀c∈s,c≠32:=fun c hc e=>by
 have:=BO.1 h c hc
 rw[e]at this;exact absurd this aa2
theorem bZ(h:s.all FU=true):Vm s=ud.any (fun w=>decide (w=s)):=by
 unfold Vm;rw[hJ,V4 s (rm h) ud ue]
theorem lZ(s:AH)(x:Int×Int)(k:Nat)(h:s.Perm t):(s.take k++([x]++s.drop k)).Perm (t++[x]):=by
 grind [List.take_append_drop]
theorem TY(s:AH)(x:Int×Int)(k:Nat)(hs:s.Pairwise fun a b=>a.1<=b.1)(h1:∀j (hj:j<s.length),k<=j->x.1<s[j].1)(h2:k=0\/∃h:k-1<s.length,s[k-1].1<=x.1):(s.take k++([x]++s.drop k)).Pairwise fun a b=>a.1<=b.1:=by
 have xO:∀a∈s.take k,a.1<=x.1:=fun a ha=>by
  grind [List.getElem_of_mem,List.pairwise_iff_getElem]
 have hhi:∀b∈s.drop k,x.1<=b.1:=fun b hb=>by
  grind [List.getElem_of_mem]
 grind
def MT(R:Nat):Nat:=[3,8,13,23,33,53,78,113,168,243,348,513,738,1053,1548,2223,3168].getD R 0
theorem oy:∀R≤16,3<=MT R/\∀k≤R,3+2*k+k*MT (R-k)<=MT R\/k=0:=by decide
section
variable {x:List Rl}{roots:List Rq}{p:ByteArray}{needs:List Nd}{n0:Nd}{dec:List Cd}{st:List (List Sk)}
theorem OM{s:SS}(i:Nf)(l:List Tm)(hf:s.full=false)(hc:s.infs.length<=65535):(Eb s i l).2.full=false/\(Eb s i l).2.infs.length<=s.infs.length+1:=⟨Yd i l hf aa0,aP s i l⟩
theorem J7:∀(l:List Nat) {k:Nat} {s:SS},s.full=false->s.infs.length+l.length<=65535->(B4 p l k s).2.full=false/\(B4 p l k s).2.infs.length<=s.infs.length+l.length
 | [],k,s,hf,_=>⟨hf,Ao _⟩
 |r::l,k,s,hf,hc=>by
  rw[BF]at hc⊢;unfold B4;split
  .simp_all
  split
  .obtain⟨h1,h2⟩:=J7 l (k:=k) hf aa0<;>grind
  split
  .obtain⟨h1,h2⟩:=J7 l (k:=k) hf aa0<;>grind
  .obtain⟨a1,a2⟩:=OM ⟨3,p,0,0,(k:Nat),(r:Nat)⟩ (AQ (Em s k) (Em s r) p).1 hf aa0;obtain⟨h1,h2⟩:=J7 l (k:=(Eb s ⟨3,p,0,0,(k:Nat),(r:Nat)⟩ (AQ (Em s k) (Em s r) p).1).1) a1 aa0<;>grind
theorem T4{s:SS}(reasons:List Nat)(hf:s.full=false)(hc:s.infs.length+(3+reasons.length)<=65535):(Dx x p n0 reasons s).2.full=false/\(Dx x p n0 reasons s).2.infs.length<=s.infs.length+(3+reasons.length):=by
 grind [Dx,OM,By,Et,J7]
theorem SQ{rec:List Cd->SS->List (List Sk)->Ku}{B:Nat}(Vi:∀c∈Be x p,∀s st,s.full=false->s.infs.length+B<=65535->(rec (dec++[c]) s st).ss.full=false/\(rec (dec++[c]) s st).ss.infs.length<=s.infs.length+B) :
  ∀(cs:List Cd) {s:SS} {reasons:List Nat} {skips:List Sk},(∀c∈cs,c∈Be x p)->s.full=false->s.infs.length+(3+(reasons.length+cs.length)+cs.length*(1+B))<=65535 ->
   (DR rec x p needs n0 dec st cs s reasons skips).ss.full=false/\(DR rec x p needs n0 dec st cs s reasons skips).ss.infs.length<=s.infs.length+(3+(reasons.length+cs.length)+cs.length*(1+B))
 | [],s,reasons,skips,_,hf,hc=>by
  simp only[BX,HH,Nat.zero_mul]at hc⊢;exact T4 reasons hf hc
 |c::cs,s,reasons,skips,hm,hf,hc=>by
  rw[FW,AI (by simp_all)];simp only[BF]at hc⊢;have Xv:(cs.length+1)*(1+B)=cs.length*(1+B)+(1+B):=by grind
  rw[Xv]at hc⊢
  have go:∀(s' : SS) (k:Nat) (LG : List Sk),s'.full=false->s'.infs.length<=s.infs.length+(1+B) ->
    (DR rec x p needs n0 dec st cs s' (reasons++[k]) LG).ss.full=false/\(DR rec x p needs n0 dec st cs s' (reasons++[k]) LG).ss.infs.length<=s.infs.length+(3+(reasons.length+(cs.length+1))+(cs.length*(1+B)+(1+B))):=fun s' k LG vh hl=>by
   have CD:(reasons++[k]).length=reasons.length+1:=by simp
   obtain⟨h1,h2⟩:=SQ Vi cs (s:=s') (reasons:=reasons++[k]) (skips:=LG) (fun d hd=>hm d (Ai _ hd)) vh (by rw[CD];omega)<;>grind [List.mem_cons_of_mem]
  have zd:∀(s' : SS) (k:Nat),s'.full=false->s'.infs.length<=s.infs.length+(1+B) ->
    (Ix rec x p needs n0 dec st c cs reasons skips k s').ss.full=false/\(Ix rec x p needs n0 dec st c cs reasons skips k s').ss.infs.length<=s.infs.length+(3+(reasons.length+(cs.length+1))+(cs.length*(1+B)+(1+B))):=fun s' k vh hl=>by
   grind [Ix]
  cases needs.find? fun n=>!has n.rq.set c.place with
  |some n=>
   obtain⟨a1,a2⟩:=OM (Pl n) (Ik n) hf aa0;exact go _ _ _ a1 (by show(Eb s (Pl n) (Ik n)).2.infs.length<=_;omega)
  |none=>
   dsimp only;cases N2 s.drv (Au (dec++[c]))with
   |some k=>simp_all
   |none=>
    dsimp only;cases Dq dec c with
    |some n=>
     obtain⟨a1,a2⟩:=OM (Pl n) (Ik n) hf aa0;exact zd _ _ a1 (by show(Eb s (Pl n) (Ik n)).2.infs.length<=_;omega)
    |none=>
     grind
theorem YP{c:Cd}(hc:c∈Be x p)(hu:Dv dec p=false):FK x (dec++[c])+(Be x p).length=FK x dec:=by
 obtain⟨c1,_⟩:=GB hc;unfold FK Be;rw[BR];have key:∀l:List Rl,(l.filter fun r=>!r.yanked&&!Dv (dec++[c]) r.path).length+(l.filter fun r=>decide (r.path=p)&&!r.yanked).length=(l.filter fun r=>!r.yanked&&!Dv dec r.path).length:=by
  intro l
  induction l<;>grind [Dv]
 simp_all
theorem UO:∀(n:Nat) {dec:List Cd} {s:SS} {st:List (List Sk)},s.full=false->FK x dec<=16->s.infs.length+MT (FK x dec)<=65535 ->
  (Cz x roots n dec s st).ss.full=false/\(Cz x roots n dec s st).ss.infs.length<=s.infs.length+MT (FK x dec)
 |0,_,_,_,hf,_,_=>⟨hf,Nat.le_add_right ..⟩
 |n+1,dec,s,st,hf,hR,hc=>by
  unfold Cz;cases e:(D5 roots dec).2 with
  |nil=>simp_all
  |cons n0 l=>
   have hN:=JA e;dsimp only;obtain⟨m1,m2⟩:=oy _ hR;cases hcs:Be x (D5 roots dec).1 with
   |nil=>
    obtain⟨h1,h2⟩:=T4 (x:=x) (p:=(D5 roots dec).1) (n0:=n0) (s:=s) [] hf (by grind);refine⟨h1,?_⟩;show(Dx x (D5 roots dec).1 n0 [] s).2.infs.length<=_
    grind
   |cons c0 cs0=>
    have Ae:∀c∈Be x (D5 roots dec).1,FK x (dec++[c])=FK x dec-(Be x (D5 roots dec).1).length/\(Be x (D5 roots dec).1).length<=FK x dec:=fun c hc=>by
     grind [YP,X8.undone]
    have pG:c0∈Be x (D5 roots dec).1:=by simp_all
    have hk:=Ae c0 pG;have V1:(Be x (D5 roots dec).1).length≠0:=by simp_all
    have hm:=(m2 _ hk.2).resolve_right V1;generalize hK:(Be x (D5 roots dec).1).length=K at *
    have CD:(c0::cs0).length=K:=by simp_all
    have AbO:3+(([]:List Nat).length+(c0::cs0).length)+(c0::cs0).length*(1+MT (FK x dec-K))<=MT (FK x dec):=by
     grind [Nat.mul_add]
    have Ael:K<=K*(1+MT (FK x dec-K)):=Nat.le_mul_of_pos_right _ aa0;have hB:MT (FK x dec-K)<=K*(1+MT (FK x dec-K)):=by
     calc MT (FK x dec-K)<=1+MT (FK x dec-K):=by omega
      _<=K*(1+MT (FK x dec-K)):=Nat.le_mul_of_pos_left _ aa0
    obtain⟨h1,h2⟩:=SQ (x:=x) (p:=(D5 roots dec).1) (needs:=n0::l) (n0:=n0) (dec:=dec) (st:=st) (rec:=Cz x roots n) (B:=MT (FK x dec-K)) (fun c hc s st hf hl=>by
     have:=Ae c hc
     have h3:=UO n (dec:=dec++[c]) (s:=s) (st:=st) hf aa0 (by simp_all);simp_all) (c0::cs0) (s:=s) (reasons:=[]) (skips:=[]) (fun c hc=>by simp_all) hf aa0
    grind
theorem OB(h:x.length<=16):(EX x roots).ss.full=false:=by
 have hf:=YQ x [];exact(UO (x:=x) (roots:=roots) _ (dec:=[]) (s:=JT) (st:=[]) rfl aa0 (by
  have:∀R≤16,([]:List Nf).length+MT R<=65535:=by decide
  grind)).1
end
theorem Og(t:Tm):∀(A:List Tm) (k:Nat),k<=A.length->(∀j (h:j<A.length),j<k->Fp A[j].path t.path=true)->Hs t A=A.take k++Hs t (A.drop k)
 |A,0,_,_=>by simp
 | [],k+1,h,_=>by simp_all
 |u::r,k+1,h,hb=>by
  have h0:Fp u.path t.path=true:=hb 0 aa1 aa0;have ih:=Og t r k (by simp_all) (fun j hj hk=>hb (j+1) aa0 aa0);show(if _ then _ else _)=_;simp_all
theorem Pm(t:Tm)(A:List Tm)(k:Nat)(hk:k<=A.length)(hb:∀j (h:j<A.length),j<k->Fp A[j].path t.path=true)
  (hn:∀h:k<A.length,Fp A[k].path t.path=false/\A[k].path≠t.path):Hs t A=A.take k++([Dc t]++A.drop k):=by
 rw[Og t A k hk hb]
 congr 1
 by_cases h:k<A.length
 .obtain⟨h1,h2⟩:=hn h;rw[Ba h];show(if _ then _ else if _ then _ else _)=_;simp_all
 .rw[D0 aa0];rfl
theorem Sj(t:Tm)(A:List Tm)(k:Nat)(h:k<A.length)(hb:∀j (h:j<A.length),j<k->Fp A[j].path t.path=true)(he:A[k].path=t.path):Hs t A=A.set k (EB A[k] t):=by
 rw[Og t A k (Nat.le_of_lt h) hb,Ba h,List.set_eq_take_append_cons_drop,AX h]
 congr 1
 show(if _ then _ else if _ then _ else _)=_
 grind [DQ]
theorem FF(l:List Tm)(i:Nat)(h:i<l.length):CX (l.take (i+1))=Hs l[i] (CX (l.take i)):=by
 grind [CX,List.take_add_one]
theorem Zo(t:Tm):∀A:List Tm,(Hs t A).length<=A.length+1
 | []=>by simp[Hs]
 |u::r=>by
  have:=Zo t r
  show(if _ then _ else if _ then _ else _:List Tm).length<=_
  grind
theorem Ub(l:List Tm):∀i,i<=l.length->(CX (l.take i)).length<=i:=by
 intro i
 induction i<;>grind [CX,FF,Zo]
theorem Yq{f:Bool}{s:AH}(h:∀q,has s q=has t q):Dc ⟨p,f,s⟩=Dc ⟨p,f,t⟩:=by grind [Dc,FC,BG,En]
theorem mG{a b t:Tm}(h:Dc a=Dc b):BT [a,t]=BT [b,t]:=by
 grind [CX,Hs,BT,A3]
theorem pD(n q:Int)(h:0<=n/\n<1000000):has (Uc (canon [(n,1000000)]) (canon [(n+1,1000000)])) q=has [(n,n+1)] q:=by
 grind [gE,En,has,BP]
theorem mT:∀(n:Nat) (l:List Int),l.length<=n->∃k:Int,0<=k/\k<=n/\k∉l
 |0,l,h=>by
  have e:l=[]:=Aw aa0;exact⟨0,by omega,by omega,by simp_all⟩
 |n+1,l,h=>by
  by_cases hn:((n+1:Nat):Int)∈l
  .obtain⟨k,h1,h2,h3⟩:=mT n (l.erase ((n+1:Nat):Int)) (by rw[List.length_erase_of_mem hn];omega)<;>grind
  grind
theorem fK(x:List Rl)(p:ByteArray)(h:Av x=0->x.length<=256):((((Io x p).filter fun r=>!r.yanked).map fun r=>(plc r.ver,plc r.ver+1))).length<=256:=by
 grind [Io]
theorem qw(x:List Rl)(p q:ByteArray)(h:Av x=0->x.length<=256):D6 q (A4 x p)≠[]:=by
 have hl:=fK x p h;obtain⟨S,hS⟩:∃S,S=(((Io x p).filter fun r=>!r.yanked).map fun r=>(plc r.ver,plc r.ver+1)):=⟨_,rfl⟩;obtain⟨k,k1,k2,k3⟩:=mT 256 (S.map (·.1)) (by simp_all);have hk:has (BU (A4 x p)) k=true:=by
  grind [Fx,A4,En,has,BP,Pj]
 intro h0;have hc:A3 [⟨q,false,BU (A4 x p)⟩]=some [Dc ⟨q,false,BU (A4 x p)⟩]:=by
  have D8:(Dc ⟨q,false,BU (A4 x p)⟩).set≠[]:=fun e=>by
   have:has (canon (BU (A4 x p))) k=true:=by grind [En]
   rw[show canon (BU (A4 x p))=[]from e]at this
   grind [has]
  have h1:F4 (Dc ⟨q,false,BU (A4 x p)⟩)=false:=by
   grind [F4]
  show(if([Dc ⟨q,false,BU (A4 x p)⟩]).any F4 then none else some (([Dc ⟨q,false,BU (A4 x p)⟩]).filter fun t=>!FB t))=_;rw[AI (by simp_all)]
  rfl
 grind [D6,BT]
section
variable {x:List Rl}{roots:List Rq}{d:List (List Tm)}{i:Nf}
def FR(x:List Rl)(roots:List Rq)(d:List (List Tm))(i:Nf):List Tm:=if i.kind=2 then D6 i.path (A4 x i.path)else(AM x roots d i).getD []
theorem qd(h:i.kind=0):AM x roots d i=if i.path=mt/\i.place=0/\i.left=0/\i.right=0 then(DG roots i.number).map GF else none:=AX h
theorem bU(h:i.kind=1):AM x roots d i=if i.left=0/\i.right=0 then match Di x i.path i.place with
      |none=>none
      |some r=>match DG r.reqs i.number with
        |none=>none
        |some q=>Oo (BJ i.path i.place q)
    else none:=by grind [AM]
theorem t6(h:i.kind=2):AM x roots d i=if i.place=0/\i.number=0/\i.left=0/\i.right=0 then Oo (D6 i.path (A4 x i.path))else none:=by
 grind [AM]
theorem bV(h:i.kind=3):AM x roots d i=if i.place=0/\i.number=0 then match DG d i.left,DG d i.right with
      |some a,some b=>if(AQ a b i.path).2=0 then some (AQ a b i.path).1 else none
      |_,_=>none
    else none:=by grind [AM]
theorem AcS(h0:i.kind≠0)(h1:i.kind≠1)(h2:i.kind≠2)(h3:i.kind≠3):AM x roots d i=none:=by
 grind [AM]
theorem Zk(h:AM x roots d i=none)(h2:i.kind≠2):FR x roots d i=[]:=by grind [FR]
theorem lY{t:List Tm}(h:AM x roots d i=some t)(h2:i.kind≠2):FR x roots d i=t:=by grind [FR]
theorem gW{t:List Tm}(h:AM x roots d i=some t):FR x roots d i=t:=by
 grind [t6,Oo,FR]
theorem ui{l:List Tm}(h:l≠[]):Oo l=some l:=by
 grind [Oo]
end
theorem Py(h:n<0):DG l n=none:=AX h
theorem Pw(h:(l.length:Int)<=n):DG l n=none:=by
 grind [DG]
theorem Px(h0:¬n<0)(h:¬(l.length:Int)<=n):∃x,DG l n=some x/\l[n.toNat]?=some x/\x∈l:=by
 have hl:n.toNat<l.length:=by omega
 exact⟨l[n.toNat],by grind [DG],AR hl,Ak hl⟩
end Go.Eng
