/- Lemmas for the claims of this seat, without a condition: part 30 (S24, S25, LayDel, S26, S27, S30, S32, S33, S34, S35, S36). -/
import Derived.Test.YtkmnnpmneamgoaaGreatDoorA29
import Derived.Shelf.SlicesE.DeleteFunc
import Derived.Shelf.SlGeneric
import Derived.Ground.SlgfProg
namespace Go.Eng
open Go.Proofs
theorem NC{x:List Rl}{roots:List Rq}{n:Nat}{dec:List Cd}(h:(Dz roots dec).2=[]):B9 x roots (n+1) dec=[dec]:=by unfold B9;rw[h]
theorem Xy{x:List Rl}{roots:List Rq}{n:Nat}{dec:List Cd}{n0:Nd}{l:List Nd}(h:(Dz roots dec).2=n0::l) :
  B9 x roots (n+1) dec=Li (V1 x roots n dec (n0::l)) (Bm x (Dz roots dec).1) (Bm x (Dz roots dec).1).length:=by
 unfold B9 Li;rw[h,DU]
theorem yv{x:List Rl}{roots:List Rq}{C A:List (Value×AV)}{Y:Gh→World→Prop}{yl M:Nat}{ob:Bool→Obj}(hE:oT x roots C A)(FK:∀dec out,oY (vH roots C A yl (ob true) dec out) Y)
  (hy:∀dec out,dec.length≤256→out.length≤M→GH Tryz.prog Y yl [sl Aq (Dd (Ax dec))] (Ad (vH roots C A yl (ob true) dec out) Aa) (VQ roots C A yl M ob dec (out++[Dd (Ax dec)]))) :
  ∀(n:Nat) {dec:List Cd} {out:List (List Sl)},DX x dec→FB x dec<n→out.length≤M →
  FS Tryz.prog Y 63 (Ho yl) (Ad (vH roots C A yl (ob true) dec out) Aa) (VQ roots C A yl M ob dec (out++ND (B9 x roots n dec)))
 |0,_,_,_,h,_=>by omega
 |n+1,dec,out,hd,hn,hM=>by
  have hx:=hE.hx;have hr:=hE.hr;have ZX:=Iz hx;have hdl:=LQ hd;have ft:dec.length≤256:=by have:=ZX.1;omega
  have hrl:∀c∈dec,c.rel.reqs.length≤16:=fun c hc=>ZX.2 _ (hd.cand c hc).1;have Iy:=yw roots C A JA dec [] (Bh (Jm hr) (by decide)) (by omega) fun c hc=>Bh (hrl c hc) (by decide);obtain⟨N,hN⟩:∃N,N=(Dz roots dec).2:=⟨_,rfl⟩;obtain⟨q,hq⟩:∃q,q=(Dz roots dec).1:=⟨_,rfl⟩;rw[←hN,←hq]at Iy;have t8:N.length≤10000:=by
   have h1:=UV (roots:=roots) dec;have h2:(Db roots dec).length=(FD roots dec).length:=by rw[←KC,Lm]
   have h3:=eJ hrl;have h4:=Jm hr;rw[←hN]at h1;unfold FD at h2;rw[Ac]at h2;omega
  cases hNc:N with
  |nil =>
   rw[hNc]at hN Iy;have dz:=NC (x:=x) (n:=n) hN.symm;exact wT x roots C A Y yl M n ob dec out q [] rfl ft (by rw[K6];exact hd.nodup) (FK dec out) Iy dz (hy dec out ft hM)
  |cons n0 l =>
   rw[hNc]at hN Iy;have hNx:=HY hN.symm;have dz:=Xy (x:=x) (n:=n) hN.symm;rw[←hq]at hNx dz;have Pq:∀nd∈n0::l,nd∈Db roots dec:=fun nd h=>((hNx.mem nd).1 h).1;have few:∀nd∈Db roots dec,Cv nd.rq.set:=fun nd h=>by
    rcases KB h with ⟨k,r,h1,rfl⟩ | ⟨c,hc,k,r,h1,rfl⟩
    ·exact(hE.fr r (Av h1)).1
    ·exact((hE.fx _ (hd.cand c hc).1).2 r (Av h1)).1
   have bS:∀c∈Bm x q,DX x (dec++[c])∧c.rel.path=q∧c.rel∈x:=fun c hc=>by
    obtain⟨c1,c2⟩:=Gd hc;exact⟨hd.snoc c2 (by rw[c1];exact hNx.undone),c1,c2.1⟩
   have EB:∀(i:Nat) (h:i<(Bm x q).length),(Bm x q)[i]∈Bm x q:=fun i h=>AC h
   have hL:sy x roots C A Y yl M n ob dec q n0 l (Bm x q):={
    hdl:=ft
    hcl:=Bh (Pe x q) ZX.1
    hnl:=by rw[hNc]at t8;unfold Cv;omega
    hnq:=fun nd h=>few nd (Pq nd h)
    hcr:=fun i h=>by have:=ZX.2 _ (bS _ (EB i h)).2.2;omega
    hcs_:=fun i h r fJ=>((hE.fx _ (bS _ (EB i h)).2.2).2 r fJ).1
    hkey:=fun i h=>by
     have b:=(bS _ (EB i h)).2.1;unfold Ax;rw[AB,AB];show _=_++[[vs (Bm x q)[i].rel.path,vi (Bm x q)[i].rel.ver.a,vi (Bm x q)[i].rel.ver.b,vi (Bm x q)[i].rel.ver.c]];rw[b]
    ih:=fun i h F3 Aal zy=>by
     obtain⟨a,b,c3⟩:=bS _ (EB i h);obtain⟨_,c2⟩:=Gd (EB i h);have iR:FB x (dec++[(Bm x q)[i]])<n:=by have:=Nu (dec:=dec) ⟨c2.1,c2.2.1⟩ (by rw[b];exact hNx.undone);omega
     exact yv hE FK hy n a iR zy }
   by_cases hcs:Bm x q=[]
   ·exact wS x roots C A Y yl M n ob dec out q n0 l (Bm x q) hL (FK dec out) Iy hcs (hE.c3 q hcs) dz hM
   ·exact wR x roots C A Y yl M n ob dec out q n0 l (Bm x q) hL (FK dec out) Iy (hE.c1 q) (fun hc=>hcs (hE.c2 q hc)) dz hM
end Go.Eng

namespace Go.Eng
open Go.Proofs
theorem nS{r0:Nat}{Ph:Cx}{P:Program}{N:Nat}{fn:Func}{res:AV}{b rest:Code}{st:St}(σF σ:Hh)(H0 Hn:List (Nat×HO))(gf:Nat)(caps:List AV){O4 s:Nat}{ps:Array Tmp}{Eb body:Code}
  (hb:b=.block O4 (.rangeFunc (.tmp s) ps Eb body)) (k1:(DZ σF&&Dq st.h 0 0&&CZ σF 0 0)=true) (k2:E3 σF st.h=Ad H0 Aa) (k0:Ad H0 Aa r0=.free) (k3:∀o,(EH σ&&FA σ ((r0,o)::H0))=true) (k4:∀o,FA σ ((r0,o)::Hn)=true)
  (k5:ren (Ch σF) st.h (st.t s)=.clo gf caps)
  (k6:∀(l D:Nat) (f' : FuncId) (tm:Array Value),tm.size=N→MU P (fun g w=>∀i,BF g w (AK (Ad ((r0,.raw l (.loop (E2 f' tm ps Eb body D .ready)))::H0) Aa)) (ren (Ch σF) st.h (st.t i)) (tm.getD i undef)) σ gf
   (.v (.func (.yield l) #[] #[])::caps) (Ad ((r0,.raw l (.loop (E2 f' tm ps Eb body D .ready)))::H0) Aa) fun _ h'=>∃b,h'=Ad ((r0,.raw l (.loop (Tn f' tm ps Eb body D O4 b)))::Hn) Aa)
  (k7:Dx N rest=true) (k8:∀o,MX Ph rest (YD Ph fn.results.toList fun r=>GO r res) ⟨fun i=>ren (Ch σF) st.h (st.t i),Ad ((r0,o)::Hn) Aa⟩) (k9:Lz [] body=true:=by kernel_rfl):wZ r0 Ph P N fn res b rest st :=
 ⟨σF,σ,H0,Hn,O4,s,ps,Eb,body,gf,caps,hb,k1,k2,k0,k3,k4,k5,k6,k7,k9,k8⟩
abbrev oU:Hh:=[(1009,1009),(1000,1000),(1001,1001),(1002,1002),(1003,1003),(1004,1004),(1005,1005),(1007,1007),(1008,1008)]
abbrev oV:Hh:=[(1009,1009),(1000,1000),(1001,1001),(1002,1002),(1003,1003),(1004,1004),(1005,1005),(3,1006),(1007,1007),(1008,1008)]
abbrev uH(roots:List Rq)(C A:List (Value×AV))(out:List (List Sl)):List (Nat×HO) :=
 [(1000,.cells (OX roots C A JA [] 0)),(1001,.tok 6 0),(1002,.tok 1 0),(1003,.map Dj []),(1004,.arr 1 []),(1005,.cells [.ref 1000 0]),(1007,.cells [.slice (.id 1008 1) (out.map Cz)]),(1008,.tok 1 out.length)]
noncomputable abbrev zk(pl:O3)(l:Nat)(Y:Gh→World→Prop):Cx:=⟨Tryz.prog,i7,pl,true,0,fun l' σ' g w=>l'=l→σ'=oV→Y g w⟩
theorem lQ{roots:List Rq}{C A:List (Value×AV)}{o:List (List Sl)}{O:HO}{i:Nat}(h:AK (Ad ((1009,O)::uH roots C A o) Aa) i):i=1009∨i=1000∨i=1001∨i=1002∨i=1003∨i=1004∨i=1005∨i=1007∨i=1008:=by
 unfold AK at h
 by_cases e9:i=1009
 ·exact .inl e9
 by_cases e0:i=1000
 ·exact .inr (.inl e0)
 by_cases e1:i=1001
 ·exact .inr (.inr (.inl e1))
 by_cases e2:i=1002
 ·exact .inr (.inr (.inr (.inl e2)))
 by_cases e3:i=1003
 ·exact .inr (.inr (.inr (.inr (.inl e3))))
 by_cases e4:i=1004
 ·exact .inr (.inr (.inr (.inr (.inr (.inl e4)))))
 by_cases e5:i=1005
 ·exact .inr (.inr (.inr (.inr (.inr (.inr (.inl e5))))))
 by_cases e6:i=1007
 ·exact .inr (.inr (.inr (.inr (.inr (.inr (.inr (.inl e6)))))))
 by_cases e7:i=1008
 ·exact .inr (.inr (.inr (.inr (.inr (.inr (.inr (.inr e7)))))))
 exfalso;apply h
 simp only[Ad,Cc e9,Cc e0,Cc e1,Cc e2,Cc e3,Cc e4,Cc e5,Cc e6,Cc e7,D1];rfl
theorem lR{roots:List Rq}{C A:List (Value×AV)}{o o' : List (List Sl)}{yl:Nat}{ob ob' : Obj}{dec:List Cd}:∀i,AK (Ad ((1009,.raw yl ob)::uH roots C A o) Aa) i→AK (Ad (vH roots C A yl ob' dec o') Aa) i:=fun i h=>by
 rcases lQ h with rfl | rfl | rfl | rfl | rfl | rfl | rfl | rfl | rfl<;>(intro q;cases q)
theorem rO{roots:List Rq}{C A:List (Value×AV)}{o:List (List Sl)}{O:HO}:∀i,AK (Ad ((1009,O)::uH roots C A o) Aa) i→Gx oV i=Gx oU i:=fun i h=>by
 rcases lQ h with rfl | rfl | rfl | rfl | rfl | rfl | rfl | rfl | rfl<;>rfl
theorem gY{σ σ' : Hh}{U:Nat→Prop}(h:∀i,U i→Gx σ' i=Gx σ i){tm:Array Value}{env:Nat→AV} :
  ∀g w,(∀i,BF (CA σ g) w U (env i) (tm.getD i undef))→∀i,BF (CA σ' g) w U (env i) (tm.getD i undef):=fun g w q =>
 (kN (R:=fun _=>True) h g w ⟨trivial,q⟩).2
theorem s30(roots:List Rq)(C A:List (Value×AV))(s:SS)(dec:List Cd)(st:List (List Sk)):Bn Tryz.prog 30 [.ref 1000 0] (Ad (HL roots C A s dec st) Aa) fun r h'=>r=.clo 62 [.ref 2000 0]∧h'=Ad (HL roots C A s dec st++[(2000,.cells [.ref 1000 0])]) Aa:=by
 refine BD (Iv ⟨[],[],[],[],[],[],[],[],[],[],[]⟩) [(1000,1000),(1001,1001),(1002,1002),(1003,1003),(1004,1004),(1,2000)] rfl BS hm rfl Tryz.func30 (by kernel_rfl) rfl (Nz rfl) (by kernel_rfl) rfl ?_;exact Xi _ (Yi (.refl _) Zr)
set_option maxHeartbeats 4000000 in
theorem s62{x:List Rl}{roots:List Rq}{C A:List (Value×AV)}{Y0 Y:Gh→World→Prop}{yl M:Nat}{ob:Bool→Obj}(hE:oT x roots C A)(FK:∀dec out,oY (vH roots C A yl (ob true) dec out) Y)
  (hy:∀dec out,dec.length≤256→out.length≤M→GH Tryz.prog Y yl [sl Aq (Dd (Ax dec))] (Ad (vH roots C A yl (ob true) dec out) Aa) (VQ roots C A yl M ob dec (out++[Dd (Ax dec)])))
  (tr:∀g w,Y0 (CA oU g) w→Y (CA oV g) w) :
  MU Tryz.prog Y0 oU 62 [.v (.func (.yield yl) #[] #[]),.ref 1005 0] (Ad ((1009,.raw yl (ob true))::uH roots C A []) Aa) fun _ h'=>∃b,h'=Ad ((1009,.raw yl (ob b))::uH roots C A ((ND (B9 x roots (x.length+1) [])).take M)) Aa:=by
 have jZ:=yv hE FK hy (x.length+1) (dec:=[]) (out:=[]) (.nil x) (Nat.lt_succ_of_le (By _ _)) (AS _);refine bU (l:=yl) (zk ⟨[2],[],[],[],[],[],[],[],[],[],[]⟩ yl Y) oU oV rfl BS hm rfl Tryz.func62 (by kernel_rfl) rfl (Nz rfl) (by kernel_rfl) rfl rfl tr ?_;refine Yi ?_ ?_
 ·exact Nz rfl
 refine Xi (.geny oV 0) (Yi rfl (FS.imp (FS.pre jZ (fun g w q=>q yl rfl rfl)) ?_));intro v g q;have q1:=q.1;have q2:=q.2;subst q1;subst q2;exact⟨_,rfl⟩
theorem rP{roots:List Rq}{C A:List (Value×AV)}{yl:Nat}{o:Obj}{dec:List Cd}{out:List (List Sl)}{es:List (List AV)}{k:Nat}(h1:es=out.map Cz)(h2:k=out.length) :
  Ad [(1009,.raw yl o),(1000,.cells (OX roots C A JA dec 0)),(1001,.tok 6 0),(1002,.tok 1 0),(1003,.map Dj []),(1004,.arr 1 []),(1005,.cells [.ref 1000 0]),(1006,.cells [.clo 63 (Ho yl)]),(1007,.cells [.slice (.id 1008 1) es]),(1008,.tok 1 k)] Aa=Ad (vH roots C A yl o dec out) Aa:=by
 subst h1;subst h2;rfl
theorem VQ.eq{roots:List Rq}{C A:List (Value×AV)}{yl M:Nat}{ob:Bool→Obj}{dec:List Cd}{o:List (List Sl)}{r:AV}{h1 h2:Nat→HO}(hq:VQ roots C A yl M ob dec o r h1)(e:h2=h1):VQ roots C A yl M ob dec o r h2:=by subst e;exact hq
theorem VQ.at{roots:List Rq}{C A:List (Value×AV)}{yl M:Nat}{ob:Bool→Obj}{dec:List Cd}{out:List (List Sl)}{s:List Sl}(h:out.length=M):VQ roots C A yl M ob dec (out++[s]) (vb false) (Ad (vH roots C A yl (ob false) dec out) Aa):=by
 have q:=VQ.of_gt (roots:=roots) (C:=C) (A:=A) (yl:=yl) (M:=M) (ob:=ob) (dec:=dec) (o':=out++[s]) (o:=out++[s]) (by rw[Ac,As];omega) ⟨[],(CP _).symm⟩
 rwa [Gk h]at q
def ML(x:List Rl)(roots:List Rq)(m:Int):Int:=if CR x roots=false∨m<0∨1024<m then 1 else 0
def KQ(x:List Rl)(roots:List Rq)(m:Int):List (List Sl):=if ML x roots m=0 then(ND (B9 x roots (x.length+1) [])).take m.toNat else []
set_option maxHeartbeats 4000000 in
theorem nU(x:List Rl)(ifs:List (List AV))(roots:List Rq)(F7:Int)(hx:∀r∈x,Io r)(hr:∀q∈roots,Js q)(hv:CR x roots=true)(qz:0≤F7)(lz:F7≤1024) :
  PC 10 [MQ x ifs,sl Ah roots,vi F7] (.tup [sl Cz ((ND (B9 x roots (x.length+1) [])).take F7.toNat),vi 0]):=by
 obtain⟨v0,v1⟩:=HH hv;have Ku:=oP x ifs roots hx hr;rw[hv]at Ku;refine cN 1009 (bq ⟨[3,5],[],[],[],[],[],[],[(22,(8,0,60,1))],[],[],[1,2,3,8]⟩) (Iv FC) rfl BS rfl BS hm rfl rfl Tryz.func10 (by kernel_rfl) rfl (Nz rfl) (by kernel_rfl) 3 (fun _ _=>Zr) ?_;refine Xi ⟨[(1,sl Ah roots),(3,.ref 3 0),(5,.ref 5 0)],[(3,.ro (Ic x ifs)),(5,.ro [vi (F7:Int)])],Aa⟩ (Yi ⟨Z3,Z2,Fh,Tv⟩ ?_)
 refine Yi (Nz rfl) ?_;refine Xi .pure (Xi _ (Yi Ku ?_));refine Yi (fun h1=>?_) (fun h1=>?_)
 ·have h1:((F7:Int):Int)<(0:Int):=h1;exact absurd h1 (by omega)
 have h1:¬(((F7:Int):Int)<(0:Int)):=h1;refine Yi (fun h2=>?_) (fun h2=>?_)
 ·have h2:(1024:Int)<((F7:Int):Int):=h2;exact absurd h2 (by omega)
 have h2:¬((1024:Int)<((F7:Int):Int)):=h2;refine Xi ⟨[(1,sl Ah roots),(3,.ref 3 0),(5,.ref 5 0)],[(3,.ro (Ic x ifs)),(5,.ro [vi (F7:Int)])],Aa⟩ (Yi ⟨Z3,Z2,Fh,Tv⟩ ?_)
 refine Yi (Nz rfl) ?_;refine Xi (.gen [] 5) (Yi rfl ((su x ifs roots hx v0).imp ?_));intro v g q;refine BC q (fun L q=>?_);have q1:=q.2.1;have q2:=q.2.2;have qp:=q.1;subst q1;subst q2;have hE:=eF hx hr v0 v1 qp;refine Xi (.gen [(12400,1000),(12401,1001),(12402,1002),(12403,1003),(12404,1004)] 1) (Yi rfl (Bn.imp (s30 roots (mC x) (L.map (kA x)) JA [] []) ?_));intro v2 g2 q3;have wh:=q3.1;have wi:=q3.2;subst wh;subst wi;refine nS (r0:=1009) [(12400,1000),(12401,1001),(12402,1002),(12403,1003),(12404,1004),(12500,1005),(8,1007),(60,1008)] oU (uH roots (mC x) (L.map (kA x)) []) (uH roots (mC x) (L.map (kA x)) ((ND (B9 x roots (x.length+1) [])).take F7.toNat)) 62 [.ref 1005 0] rfl (by kernel_rfl) (by kernel_rfl) rfl (fun _=>by kernel_rfl) (fun _=>by kernel_rfl) (by kernel_rfl) (fun l9 D9 f9 yA oH=>s62 (M:=F7.toNat) (ob:=fun b=>.loop (Tn f9 yA _ _ _ D9 0 b)) hE (fun dec out=>gX (σ:=aO) (by kernel_rfl) lR) (fun dec out hdl HI=>di 1009 (σ:=aO) (Iv FC) rfl BS hm rfl (by kernel_rfl) rfl (by rfl) oH (by kernel_rfl) (by kernel_rfl) (by kernel_rfl) lR ?_) (gY rO)) (by kernel_rfl) (fun _=>?_)
 ·refine Yi rfl ?_;refine Yi (fun h9=>?_) (fun h9=>?_)
  ·have h9:((out.map Cz).length:Int)=F7:=h9;have e9:out.length=F7.toNat:=by rw[Lm]at h9;omega
   exact Yi rfl (VQ.at e9)
  have h9:¬((out.map Cz).length:Int)=F7:=h9;have l9' : out.length<F7.toNat:=by rw[Lm]at h9;omega
  have b9:BY 1 [Cz (Dd (Ax dec))]∧(out.map Cz).length=out.length∧((out.map Cz).length+([Cz (Dd (Ax dec))]:List (List AV)).length)*24≤140737488355328∧(out.map Cz).length+([Cz (Dd (Ax dec))]:List (List AV)).length≤9223372036854775807 :=
   ⟨⟨rfl,trivial⟩,Lm ..,by rw[Lm,As];omega,by rw[Lm,As];omega⟩
  refine Yi b9 ?_;refine Yi ?_ ?_
  ·exact Nz rfl
  have e9:(out++[Dd (Ax dec)]).map Cz=out.map Cz++[Cz (Dd (Ax dec))]:=by rw[AB];rfl
  have e8:(out++[Dd (Ax dec)]).length=(out.map Cz).length+1:=by rw[Ac,Lm];rfl
  exact Yi rfl (VQ.eq (VQ.of_le rfl (by rw[Ac,As];omega)) (rP e9.symm e8.symm))
 exact .refl _
set_option maxHeartbeats 4000000 in
theorem kS(x:List Rl)(ifs:List (List AV))(roots:List Rq)(F7:Int)(hx:∀r∈x,Io r)(hr:∀q∈roots,Js q)(uq:CR x roots=false∨F7<0∨1024<F7) :
  PC 10 [MQ x ifs,sl Ah roots,vi F7] (.tup [sl Cz ([]:List (List Sl)),vi 1]):=by
 have Ku:=oP x ifs roots hx hr;refine Ps ⟨[3,5],[],[],[],[],[],[],[],[],[],[1,2,3,8]⟩ Tryz.func10 rfl (Nz rfl) ?_;refine Xi ⟨[(1,sl Ah roots),(3,.ref 3 0),(5,.ref 5 0)],[(3,.ro (Ic x ifs)),(5,.ro [vi (F7:Int)])],Aa⟩ (Yi ⟨Z3,Z2,Fh,Tv⟩ ?_)
 refine Yi (Nz rfl) ?_;refine Cy (Bt (CR x roots)) (fun h1=>?_) (fun h1=>?_)
 ·have h1:(CR x roots)=true:=h1;have Re:=Ku;rw[show(CR x roots)=true from h1]at Re;refine Xi .pure (Xi _ (Yi Re ?_));refine Yi (fun h3=>?_) (fun h3=>?_)
  ·have h3:((F7:Int):Int)<(0:Int):=h3;refine Xi ⟨[],[],Aa⟩ (Yi ⟨Tv,Tv,Fh,Tv⟩ ?_)
   exact .tup ⟨.nil,.refl _,trivial⟩
  have h3:¬(((F7:Int):Int)<(0:Int)):=h3;refine Yi (fun h5=>?_) (fun h5=>?_)
  ·have h5:(1024:Int)<((F7:Int):Int):=h5;refine Xi ⟨[],[],Aa⟩ (Yi ⟨Tv,Tv,Fh,Tv⟩ ?_)
   exact .tup ⟨.nil,.refl _,trivial⟩
  have h5:¬((1024:Int)<((F7:Int):Int)):=h5;have vA:CR x roots=true:=h1;exact absurd uq (by rintro(c | c | c);exact absurd (c.symm.trans vA) (by decide);omega;omega)
 have h1:(CR x roots)=false:=h1;have xy:=Ku;rw[show(CR x roots)=false from h1]at xy;refine Xi .pure (Xi _ (Yi xy ?_));refine Xi ⟨[],[],Aa⟩ (Yi ⟨Tv,Tv,Fh,Tv⟩ ?_)
 exact .tup ⟨.nil,.refl _,trivial⟩
theorem yq(x:List Rl)(ifs:List (List AV))(roots:List Rq)(F7:Int)(hx:∀r∈x,Io r)(hr:∀q∈roots,Js q) :
  PC 10 [MQ x ifs,sl Ah roots,vi F7] (.tup [sl Cz (KQ x roots F7),vi (ML x roots F7)]):=by
 by_cases h:CR x roots=false∨F7<0∨1024<F7
 ·have h1:ML x roots F7=1:=by unfold ML;rw[Aw h]
  have h2:KQ x roots F7=[]:=by unfold KQ;rw[h1];rfl
  rw[h1,h2];exact kS x ifs roots F7 hx hr h
 ·have h1:ML x roots F7=0:=by unfold ML;rw[Am h]
  have h2:KQ x roots F7=(ND (B9 x roots (x.length+1) [])).take F7.toNat:=by unfold KQ;rw[h1,Aw rfl]
  rw[h1,h2];exact nU x ifs roots F7 hx hr (by cases e:CR x roots with | true=>rfl | false=>exact absurd (.inl e) h) (by omega) (by omega)
end Go.Eng

namespace Go.Proofs
open Go.Shelf
def Tryz.layDel_ren:Go.Shelf.Ren:=⟨fun | 10=>34 | 6=>78 | n=>n,fun | 22=>35 | 23=>3 | 25=>79 | 3=>3 | 4=>4 | 0=>0 | n=>n,fun | n=>n⟩
theorem Tryz.layDel:Go.Proofs.SlLaysH.n10 Tryz.prog Tryz.layDel_ren:={
 mixed:=by kernel_rfl
 f6:=⟨Tryz.f78.name,by decide,Tryz.func78.trans (congrArg some (by kernel_rfl))⟩
 f10:=⟨Tryz.f34.name,by decide,Tryz.func34.trans (congrArg some (by kernel_rfl))⟩
 t0:=Tryz.underlying0
 a0:=Tryz.isAgg0
 z0:=Tryz.sizeOf0
 v0:=Tryz.zeroValue0
 t3:=Tryz.underlying3
 a3:=Tryz.isAgg3
 z3:=Tryz.sizeOf3
 v3:=Tryz.zeroValue3
 t4:=Tryz.underlying4
 a4:=Tryz.isAgg4
 z4:=Tryz.sizeOf4
 v4:=Tryz.zeroValue4
 t22:=Tryz.underlying35
 a22:=Tryz.isAgg35
 z22:=Tryz.sizeOf35
 v22:=Tryz.zeroValue35
 a23:=Tryz.isAgg3
 z23:=Tryz.sizeOf3
 t25:=Tryz.underlying79
 a25:=Tryz.isAgg79
 z25:=Tryz.sizeOf79
 v25:=Tryz.zeroValue79 }
end Go.Proofs

namespace Go.Eng
open Go.Proofs Go.Shelf Go.RowKit Go.Lib Go.Sort
theorem ZO(v x:Int)(B o:Nat)(W:World)(hc:W.cell? ⟨B,o,none⟩=some (.int .i64 v)) :
  FnGives Tryz.prog 36 #[.pointer (some ⟨B,o,none⟩)] #[.int .i64 x] (.bool (decide (x=v))) W:=by
 show Calls Tryz.prog 36 #[.int .i64 x,.pointer (some ⟨B,o,none⟩)] W _
 go_enter Tryz.func36,Tryz.ntmps36
 go_wp2
 have e:(x == v)=decide (x=v):=rfl
 all_goals (go_ret;exact⟨by simp_all,0,rfl⟩)
theorem nN(v:Int)(B o:Nat)(w:World)(hB:B<w.heap.size)(CY:w.cell? ⟨B,o,none⟩=some (.int .i64 v)) :
  PredAt Tryz.prog 36 #[.pointer (some ⟨B,o,none⟩)] (Value.int .i64) (fun x=>decide (x=v)) w :=
 fun W x hb=>ZO v x B o W ((hb.cell (p:=⟨B,o,none⟩) hB).trans CY)
theorem nI(v:Int)(B o sI off size:Nat)(w:World)(hB:B<w.heap.size)(Dn:B≠sI)(CY:w.cell? ⟨B,o,none⟩=some (.int .i64 v)) :
  PredOver Tryz.prog 36 #[.pointer (some ⟨B,o,none⟩)] (Value.int .i64) (fun x=>decide (x=v)) sI off size w :=
 fun n os dk x _=>ZO v x B o _ (by
  unfold sortWorld;rw[cell?_grow _ _ _ (by show B<(putRow _ _ _ _ _).heap.size;rw[Go.Sort.size_putRow];exact hB),cell?_putRow_other _ _ sI off _ _ (Or.inl Dn)];exact CY)
abbrev Ca(zs:List Int)(v:Int):List Int:=zs.filter fun z=>!decide (z=v)
theorem s34(zs:List Int)(v:Int)(hl:Cv zs)(Dn:zs≠[]) :
  Bn Tryz.prog 34 [.msl 1000 zs.length,.clo 36 [.cptr [vi v]]] (Ad [(1000,.arr 1 (zs.map Ck))] Aa) fun r h'=>r=.msl 2000 (Ca zs v).length∧h'=Ad [(1000,.dead),(2000,.arr 1 ((Ca zs v).map Ck))] Aa:=by
 have hl:zs.length≤1073741824:=hl;have hE:Gb Tryz.prog 34:=eB 34 Tryz.func34 (by kernel_rfl) rfl;have HI:(Ca zs v).length≤zs.length:=By _ _;have Ik:=Yj (P:=Tryz.prog) (f:=34) (fF:=36) (caps:=[.cptr [vi v]]) (es:=zs.map Ck) (sz:=1) (n':=(Ca zs v).length) (Q:=fun EA=>EA=(Ca zs v++List.replicate (zs.length-(Ca zs v).length) 0).map Ck) hE (fun e=>Dn (EE.1 e)) (by rw[Lm];exact HI) ?_
 ·rw[Lm]at Ik;refine⟨hE,fun g w vals q1 q2 q3=>(Ik.2 g w vals q1 q2 q3).mono fun _ _ ⟨x,r,h',g',e1,⟨e2,EA,p1,p2⟩,rest⟩=>⟨x,r,h',g',e1,⟨e2,by
   rw[p2,p1,AB,Fe (by rw[Lm];exact Ak _),AI (by rw[Lm];exact Ak _)]⟩,rest⟩⟩
 ·intro g w b cap F lb hr hF hH hb hc hS Dt Rg ly;rw[Lm]at hF hc⊢;have rV:F.toList=zs.map fun z=>Value.int .i64 z:=OQ (by rw[←Mt];exact hr);have mR:F=zs.toArray.map fun z=>Value.int .i64 z:=Lv.1 (by rw[rV];simp);have tY:Holds (Value.int .i64) w b 0 zs.toArray:=fun j hj=>by
   have:=hH j (by rw[mR];simpa using hj)
   refine⟨this.1.trans ?_,this.2⟩;rw[mR,DH _ j (by simpa using hj),DH _ j hj];simp
  have Rg:lb.size=1:=Rg;have h0:=ly 0 (.cptr [vi v]) lb[0] rfl (Ba (by omega));obtain⟨B,o,hp,xq,CY⟩:∃B o,lb[0]=.pointer (some ⟨B,o,none⟩)∧g.S B o∧w.cell? ⟨B,o,none⟩=some (.int .i64 v):=by
   generalize lb[0]=x at h0;cases h0 with
   |cptr _ cs B o val CY El =>
    have a:=CY 0 (vi v) rfl;have e:=(El 0 (vi v) rfl).v_eq;exact⟨B,o,rfl,a.1,by rw[←e];exact a.2.1⟩
  have uN:lb=#[.pointer (some ⟨B,o,none⟩)]:=by
   refine RA (by simpa using Rg) fun i h1 h2=>?_
   have:i=0:=by omega
   subst this;exact hp
  have hB:=Dt B o xq;have zo:B≠b:=fun e=>hS o (e▸xq);rw[uN]
  have hcon:=AnyE.slices_DeleteFunc Tryz.layDel (Value.int .i64) (fun _=>rfl) (fun x=>decide (x=v)) 36 #[.pointer (some ⟨B,o,none⟩)] (enters_of Tryz.func36 (by kernel_rfl) rfl) 0 Tryz.zeroValue3 b 0 cap zs.toArray w
   (nN v B o w hB CY) (nI v B o b 0 zs.toArray.size w hB zo CY) tY (by simp;omega) (by simpa using hc)
  refine hcon.mono ?_
  rintro e w' ⟨rfl,q,rfl⟩
  have zl:(zs.toArray.toList.filter fun x=>!decide (x=v))=Ca zs v:=by simp
  rw[zl];refine⟨rfl,(Ca zs v++List.replicate (zs.length-(Ca zs v).length) 0).toArray.map fun z=>Value.int .i64 z,_,q,#[],?_,rfl,?_,fun cs hcs=>?_,fun g w _=>?_,?_⟩
  ·rw[mR];simp;omega
  ·simp;omega
  ·obtain⟨x,_,rfl⟩:=Ao.1 hcs;rfl
  ·rw[Mt];have e:((Ca zs v++List.replicate (zs.length-(Ca zs v).length) 0).toArray.map fun z=>Value.int .i64 z).toList=(Ca zs v++List.replicate (zs.length-(Ca zs v).length) 0).map fun z=>Value.int .i64 z:=by simp
   rw[e];exact PM _ _ _ _ fun x hx=>by
    obtain⟨z,_,rfl⟩:=Ao.1 hx;rfl
  ·rw[U3,grow_empty];simp
end Go.Eng

namespace Go.Eng
open Go.Proofs
theorem tD(l:List Int)(hl:Cv l):Bn Tryz.prog 35 [sl Ck l] (Ad [] Aa) fun r h'=>r=.msl 2000 l.length∧h'=Ad [(2000,.arr 1 (l.map Ck))] Aa:=by
 refine BD (Iv (rh 1)) [(2,2000)] rfl BS hm rfl Tryz.func35 (by kernel_rfl) rfl (Nz rfl) (by kernel_rfl) rfl ?_;have Ei:BY 1 (l.map Ck)∧([]:List (List AV)).length=0∧(([]:List (List AV)).length+(l.map Ck).length)*8≤140737488355328∧([]:List (List AV)).length+(l.map Ck).length≤9223372036854775807:=by
  refine⟨Es (enc:=Ck) (n:=1) (fun _=>rfl) l,rfl,?_,?_⟩<;>simp only[Ar,Lm]<;>unfold Cv at hl<;>omega
 have e1:AV.msl 2000 (([]:List (List AV)).length+(l.map Ck).length)=.msl 2000 l.length:=by simp
 refine Xi 0 ?_;refine Xi 0 ?_;refine Yi ?_ ?_
 ·intro _;refine Xi ⟨[(0,sl Ck l)],[],Aa⟩ (Yi ⟨Z1,Tv,Fh,Aj (by kernel_rfl)⟩ ?_)
  refine Xi 2 ?_;refine Yi Ei ?_;exact Xi _ (Yi (.refl _) (Yi e1 rfl))
 ·intro h;have h:l.map Ck=[]:=h;refine Yi ?_ ?_
  ·refine Xi ⟨[],[],Aa⟩ (Yi ⟨trivial,trivial,fun _=>.inl rfl,Aj (by kernel_rfl)⟩ ?_)
   refine Xi 2 ?_;exact Xi _ (Yi (.refl _) (Yi (show AV.msl 2000 0=_ by rw[EE.1 h];rfl) (show Ad [(2000,HO.arr 1 [])] Aa=_ by rw[h])))
  ·refine Xi ⟨[(0,sl Ck l)],[],Aa⟩ (Yi ⟨Z1,Tv,Fh,Aj (by kernel_rfl)⟩ ?_)
   refine Xi 2 ?_;refine Yi Ei ?_;exact Xi _ (Yi (.refl _) (Yi e1 rfl))
def QV(n i:Nat):List Int:=(List.range n).map fun k=>if k<i then(k:Int)else 0
@[simp] theorem VV (n i:Nat):(QV n i).length=n:=by unfold QV;simp
theorem fP(n:Nat):List.replicate ((n:Int)).toNat [vi 0]=(QV n 0).map Ck:=by
 rw[BT];refine List.ext_getElem (by simp[QV]) fun k h1 h2=>?_;simp[QV]
theorem kc{n i:Nat}(h:i<n):((QV n i).map Ck)[i]?=some [vi 0]:=by
 rw[AH,QV,AH,List.getElem?_range h];simp
theorem kd{n i:Nat}(_h:i<n):((QV n i).map Ck).set i [vi (i:Nat)]=(QV n (i+1)).map Ck:=by
 refine List.ext_getElem (by simp[QV]) fun k h1 h2=>?_;rw[List.getElem_set];simp only[QV,List.getElem_map,List.getElem_range]
 by_cases e:i=k
 ·subst e;rw[Aw rfl,Aw (by omega)]
 ·rw[Am e]
  by_cases q:k<i
  ·rw[Aw q,Aw (by omega)]
  ·rw[Am q,Am (by omega)]
def EW(roots:List Rq)(l:List Int):List Rq:=l.filterMap fun k=>roots[k.toNat]?
theorem Ze{roots:List Rq}{l:List Int}{j:Nat}{z:Int}{q:Rq}(h:l[j]?=some z)(hq:roots[z.toNat]?=some q):EW roots (l.take (j+1))=EW roots (l.take j)++[q]:=by
 unfold EW;rw[Bk,h,List.filterMap_append];simp[hq]
theorem cO(roots:List Rq)(l:List Int):(EW roots l).length≤l.length:=List.length_filterMap_le ..
theorem cP{roots:List Rq}{l:List Int}{q:Rq}(h:q∈EW roots l):q∈roots:=by
 unfold EW at h;obtain⟨k,_,hk⟩:=List.mem_filterMap.1 h;exact Av hk
def F6(x:List Rl)(roots:List Rq)(kept:List Int)(z:Int):List Int :=
 if Fu x (EW roots (Ca kept z))=0∧(Ft x (EW roots (Ca kept z))).found=false then Ca kept z else kept
def KZ(x:List Rl)(roots:List Rq):Nat→List Int→List Int
 |0,kept=>kept
 |i+1,kept=>KZ x roots i (F6 x roots kept (i:Nat))
def Ql(x:List Rl)(roots:List Rq):List Int:=KZ x roots roots.length (QV roots.length roots.length)
theorem LO{x:List Rl}{roots:List Rq}{i:Nat}{kept:List Int}(h:0<i):KZ x roots i kept=KZ x roots (i-1) (F6 x roots kept ((i:Int)-1)):=by
 obtain⟨m,rfl⟩:∃m,i=m+1:=⟨i-1,by omega⟩;rw[show(((m+1:Nat):Int)-1)=(m:Nat) by omega];rfl
def Kp(x:List Rl)(roots:List Rq):Int:=if Fu x roots≠0 then Fu x roots else if(Ft x roots).found=true then 8 else 0
def UA(x:List Rl)(roots:List Rq):List Int:=if Kp x roots=0 then Ql x roots else []
theorem U7{x:List Rl}(h:Fu x []=0):(Ft x []).found=true:=by
 unfold Fu at h;split at h
 ·rename_i hv;split at h
  ·cases h
  ·rename_i hf;unfold Ft;rw[Aw ⟨hv,by simpa using hf⟩]
   rfl
 ·cases h
theorem jx{x:List Rl}{roots:List Rq}(h1:Fu x roots=0)(h2:(Ft x roots).found=false):QV roots.length roots.length≠[]:=by
 intro e;have hl:=VV roots.length roots.length;rw[e]at hl;have hr:roots=[]:=AJ hl.symm;subst hr;rw[U7 h1]at h2;cases h2
theorem NS{x:List Rl}{roots:List Rq}{kept:List Int}{z:Int}(h:kept≠[]):F6 x roots kept z≠[]:=by
 unfold F6;split
 ·rename_i hc;intro e;rw[e]at hc
  have:=U7 (x:=x) hc.1
  rw[show EW roots []=[]from rfl]at hc;rw[this]at hc;cases hc.2
 ·exact h
structure aP(n:Nat)(kept:List Int):Prop where
 rng:∀z∈kept,0≤z∧z<n
 len:kept.length≤n
theorem aP.less{n:Nat}{kept:List Int}(h:aP n kept)(i:Int):aP n (Ca kept i) :=
 ⟨fun z hz=>h.rng z (BA.1 hz).1,Bh (By _ _) h.len⟩
theorem aP.step{n:Nat}{kept:List Int}(h:aP n kept)(x:List Rl)(roots:List Rq)(i:Int):aP n (F6 x roots kept i):=by
 unfold F6;split
 ·exact h.less _
 ·exact h
theorem aP.id(n:Nat):aP n (QV n n):=⟨fun z hz=>by
 unfold QV at hz;obtain⟨k,hk,rfl⟩:=Ao.1 hz;rw[NZ]at hk;rw[Aw hk];omega,by rw[VV];exact Ak _⟩
theorem d9{x:List Rl}{roots:List Rq}{e:Int}(h:Kp x roots=e)(he:e≠0):GO (.tup [.v (.slice none 0 0),vi e]) (.tup [sl Ck (UA x roots),vi (Kp x roots)]):=by
 unfold UA;rw[h,Am he];exact GO.tup ⟨.nil,.refl _,trivial⟩
theorem pH{x:List Rl}{roots:List Rq}{kept:List Int}(h:Kp x roots=0)(hk:kept=Ql x roots):GO (.tup [sl Ck kept,vi 0]) (.tup [sl Ck (UA x roots),vi (Kp x roots)]):=by
 unfold UA;rw[h,Aw rfl,hk];exact .refl _
set_option maxHeartbeats 4000000 in
theorem s13(x:List Rl)(ifs:List (List AV))(roots:List Rq)(hx:∀r∈x,Io r)(hr:∀q∈roots,Js q)(hn:roots.length≤1000000):PC 13 [MQ x ifs,sl Ah roots] (.tup [sl Ck (UA x roots),vi (Kp x roots)]):=by
 have uU:(roots.map Ah).length=roots.length:=Lm _;have dv:=sr x ifs roots hx hr;obtain⟨A0,oo⟩:∃A0,A0=Ft x roots:=⟨_,rfl⟩;obtain⟨e0,qi⟩:∃e0,e0=Fu x roots:=⟨_,rfl⟩;have dv:PC 21 [MQ x ifs,sl Ah roots] (.tup [.agg (Jb A0),vi e0]):=by rw[oo,qi];exact dv
 refine Ps ⟨[2],[(12,2)],[(30,1)],[(50,[10])],[],[],[],[],[],[(200012,8),(200016,11)],[2,4,7,11,12,14,16,21,22,23,24,25,26]⟩ Tryz.func13 rfl (Nz rfl) ?_;refine Yi (Nz rfl) ?_;refine Xi .pure (Xi _ (Yi dv ?_));refine Yi (Nz rfl) ?_;refine Xi ⟨[(1,sl Ah roots),(2,.ref 2 0),(6,.ref 6 0),(7,vi (e0:Int))],[(2,.ro (Ic x ifs)),(6,.cells (Jb A0))],Aa⟩ (Yi ⟨Z4,Z2,Fh,Tv⟩ ?_)
 refine Yi (fun h1=>?_) (fun h1=>?_)
 ·have h1:((e0:Int):Int)≠(0:Int):=h1;exact d9 (show Kp x roots=e0 by unfold Kp;rw[←qi,Aw h1]) h1
 have h1:((e0:Int):Int)=(0:Int):=Cm h1;refine Xi ⟨[(1,sl Ah roots),(2,.ref 2 0),(6,.ref 6 0)],[(2,.ro (Ic x ifs)),(6,.cells (Jb A0))],Aa⟩ (Yi ⟨Z3,Z2,Fh,Tv⟩ ?_)
 refine Yi (fun h3=>?_) (fun h3=>?_)
 ·have h3:A0.found=true:=h3;exact d9 (show Kp x roots=8 by unfold Kp;rw[←qi,←oo,Am (fun h=>h h1),Aw h3]) (by decide)
 have h3:A0.found=false:=h3;have tQ:=jx (qi.symm.trans h1) (show(Ft x roots).found=false by rw[←oo];exact h3);refine Yi (show(0:Int)≤(roots.map Ah).length∧((roots.map Ah).length:Int)≤(roots.map Ah).length∧((roots.map Ah).length:Int)*8≤140737488355328∧((roots.map Ah).length:Int)≤9223372036854775807 by rw[Lm];omega) ?_;refine Xi ⟨[(1,sl Ah roots),(2,.ref 2 0),(8,.msl 30 roots.length)],[(2,.ro (Ic x ifs)),(30,.arr 1 ((QV roots.length 0).map Ck))],Aa⟩ (Yi ⟨⟨Zr,Zr,⟨(show AV.msl 30 (List.replicate (((roots.map Ah).length:Nat):Int).toNat [vi 0]).length=.msl 30 roots.length by simp),rfl⟩,Tv⟩,⟨Zr,⟨(show HO.arr 1 (List.replicate (((roots.map Ah).length:Nat):Int).toNat [vi 0])=.arr 1 ((QV roots.length 0).map Ck) by rw[Lm,fP]),rfl⟩,Tv⟩,Fh,Tv⟩ ?_)
 refine Xi {q:Nat // q≤roots.length} (Xi (fun q=>⟨[(1,sl Ah roots),(2,.ref 2 0),(8,.msl 30 roots.length),(32,vi roots.length),(33,vi q.1)],[(2,.ro (Ic x ifs)),(30,.arr 1 ((QV roots.length q.1).map Ck))],Aa⟩) (Xi (fun q=>roots.length-q.1) (Yi (Xi ⟨0,AS _⟩ ?_) ?_)))
 ·exact⟨Z5,Z2,Fh,Tv⟩
 intro⟨i,i1⟩;have i1:i≤roots.length:=i1;refine Yi (fun h5=>?_) (fun h5=>?_)
 ·have h5:(i:Int)<(roots.length:Int):=h5;have n5:i<roots.length:=by omega
  have g5:roots[i]?=some roots[i]:=Ge n5
  skip
  refine Yi (by show(0:Int)≤i∧(i:Int)<(roots.length:Nat);omega) ?_;refine Yi (show roots.length=((QV roots.length i).map Ck).length by simp) (Xi [vi 0] (Yi (kc (show i<roots.length by omega)) (Yi (Nz rfl) ?_)));refine Xi ⟨[(1,sl Ah roots),(2,.ref 2 0),(8,.msl 30 roots.length),(32,vi roots.length),(33,vi i)],[(2,.ro (Ic x ifs)),(30,.arr 1 (((QV roots.length i).map Ck).set i [vi i]))],Aa⟩ (Yi ⟨Z5,Z2,Fh,Tv⟩ ?_)
  refine Yi (Ii i (by omega)) ?_;refine Xi ⟨i+1,by omega⟩ ?_;exact⟨Dl roots.length i (by omega),Z5,⟨Zr,⟨(Ae (HO.arr 1) (kd (show i<roots.length by have q:=h5;omega))),rfl⟩,Tv⟩,Fh,Tv⟩
 have h5:¬((i:Int)<(roots.length:Int)):=h5;have n5:¬i<roots.length:=by omega
 refine Yi (show roots.length=((QV roots.length i).map Ck).length by rw[Lm,VV]) ?_;refine Xi ⟨[(1,sl Ah roots),(2,.ref 2 0),(8,sl Ck (QV roots.length i))],[(2,.ro (Ic x ifs))],Aa⟩ (Yi ⟨Z3,Z1,Fh,Tv⟩ ?_)
 refine Yi (by show BQ (((roots.map Ah).length:Int)-(1:Int));unfold BQ;omega) ?_;refine Yi (Nz rfl) ?_;refine Xi {q:Nat×List Int // q.1≤roots.length∧aP roots.length q.2∧q.2≠[]∧KZ x roots q.1 q.2=Ql x roots} (Xi (fun q=>⟨[(1,sl Ah roots),(2,.ref 2 0),(8,sl Ck q.1.2),(10,.ref 10 0)],[(2,.ro (Ic x ifs)),(10,.cells [vi ((q.1.1:Int)-1)])],Aa⟩) (Xi (fun q=>q.1.1) (Yi (Xi ⟨(roots.length,QV roots.length roots.length),Ak _,.id _,tQ,rfl⟩ ?_) ?_)))
 ·exact⟨⟨Zr,Zr,⟨(show sl Ck (QV roots.length i)=sl Ck (QV roots.length roots.length) by rw[show i=roots.length by omega]),rfl⟩,Zr,Tv⟩,⟨Zr,⟨(show HO.cells [vi (((roots.map Ah).length:Int)-(1:Int))]=.cells [vi ((roots.length:Int)-1)] by rw[Lm]),rfl⟩,Tv⟩,Fh,Tv⟩
 intro⟨⟨i,kept⟩,i1,k1,k2,k3⟩;have i1:i≤roots.length:=i1;have k1:aP roots.length kept:=k1;have k2:kept≠[]:=k2;have k3:KZ x roots i kept=Ql x roots:=k3;have hll:(Ca kept ((i:Int)-1)).length≤roots.length:=(k1.less _).len;refine Yi (fun h7=>?_) (fun h7=>?_)
 ·have h7:(0:Int)≤(((i:Int)-1):Int):=h7;refine Xi (.gen [] 1) (Yi rfl (Bn.imp (tD kept (by have q:=k1.len;unfold Cv;omega)) ?_));intro v8 g8 q8;have q8a:=q8.1;have q8b:=q8.2;subst q8a;subst q8b;refine Xi (.gen [(14900,1000)] 1) (Yi rfl (Bn.imp (s34 kept ((i:Int)-1) (by have q:=k1.len;unfold Cv;omega) k2) ?_));intro v9 g9 q9;have wy:=q9.1;have wz:=q9.2;subst wy;subst wz;refine Yi (show(Ca kept ((i:Int)-1)).length=((Ca kept ((i:Int)-1)).map Ck).length by rw[Lm]) ?_;refine Xi ⟨[(1,sl Ah roots),(2,.ref 2 0),(8,sl Ck kept),(10,.ref 10 0),(11,sl Ck (Ca kept ((i:Int)-1)))],[(2,.ro (Ic x ifs)),(10,.ro [vi ((i:Int)-1)])],Aa⟩ (Yi ⟨Z5,Z2,Fh,Tv⟩ ?_)
  refine Xi {q:Nat // q≤(Ca kept ((i:Int)-1)).length} (Xi (fun q=>⟨[(1,sl Ah roots),(2,.ref 2 0),(8,sl Ck kept),(10,.ref 10 0),(11,sl Ck (Ca kept ((i:Int)-1))),(12,.slice (.id 12 2) ((EW roots ((Ca kept ((i:Int)-1)).take q.1)).map Ah)),(52,sl Ck (Ca kept ((i:Int)-1))),(53,vi ((Ca kept ((i:Int)-1)).map Ck).length),(54,vi q.1)],[(2,.ro (Ic x ifs)),(10,.ro [vi ((i:Int)-1)]),(12,.tok 2 (EW roots ((Ca kept ((i:Int)-1)).take q.1)).length)],Aa⟩) (Xi (fun q=>(Ca kept ((i:Int)-1)).length-q.1) (Yi (Xi ⟨0,AS _⟩ ?_) ?_)))
  ·exact⟨Z9,Z3,Fh,Tv⟩
  intro⟨j,j1⟩;have j1:j≤(Ca kept ((i:Int)-1)).length:=j1;refine Yi (fun QU=>?_) (fun QU=>?_)
  ·have QU:(j:Int)<(((Ca kept ((i:Int)-1)).map Ck).length:Int):=QU;have n10:j<(Ca kept ((i:Int)-1)).length:=by have q:=QU;rw[Lm]at q;omega
   have g10:(Ca kept ((i:Int)-1))[j]?=some (Ca kept ((i:Int)-1))[j]:=Ge n10;have nj:j<(Ca kept ((i:Int)-1)).length:=by have q:=QU;rw[Lm]at q;omega
   refine Xi [vi ((Ca kept ((i:Int)-1))[j])] (Yi (Yi (Nn j) (Dr (Ge nj))) (Yi rfl ?_));have oD:(EW roots ((Ca kept ((i:Int)-1)).take j)).length≤roots.length:=by have a:=cO roots ((Ca kept ((i:Int)-1)).take j);have b:=(k1.less ((i:Int)-1)).len;rw[AN]at a;omega
   have hz:=k1.rng _ (BA.1 (AC nj)).1;refine BC (show ∃rq,roots[((Ca kept ((i:Int)-1))[j]).toNat]?=some rq from⟨_,Ge (show((Ca kept ((i:Int)-1))[j]).toNat<roots.length by omega)⟩) (fun rq qL=>?_);refine Xi (Ah rq) (Yi (Yi hz.1 (Dr qL)) (Yi rfl ?_));refine Yi (Nz rfl) ?_;have dQ:BY 2 [(Ah rq)]∧((EW roots ((Ca kept ((i:Int)-1)).take j)).map Ah).length=(EW roots ((Ca kept ((i:Int)-1)).take j)).length∧(((EW roots ((Ca kept ((i:Int)-1)).take j)).map Ah).length+([(Ah rq)]:List (List AV)).length)*40≤140737488355328∧((EW roots ((Ca kept ((i:Int)-1)).take j)).map Ah).length+([(Ah rq)]:List (List AV)).length≤9223372036854775807:=⟨⟨rfl,trivial⟩,(by rw[Lm]),(by simp only[Lm,Al,Ar];omega),(by simp only[Lm,Al,Ar];omega)⟩;refine Yi dQ ?_;refine Xi ⟨[(1,sl Ah roots),(2,.ref 2 0),(8,sl Ck kept),(10,.ref 10 0),(11,sl Ck (Ca kept ((i:Int)-1))),(12,.slice (.id 12 2) (((EW roots ((Ca kept ((i:Int)-1)).take j)).map Ah)++[(Ah rq)])),(52,sl Ck (Ca kept ((i:Int)-1))),(53,vi ((Ca kept ((i:Int)-1)).map Ck).length),(54,vi j)],[(2,.ro (Ic x ifs)),(10,.ro [vi ((i:Int)-1)]),(12,.tok 2 (((EW roots ((Ca kept ((i:Int)-1)).take j)).map Ah).length+([(Ah rq)]:List (List AV)).length))],Aa⟩ (Yi ⟨Z9,Z3,Fh,Tv⟩ ?_)
   refine Yi (Ii j (by omega)) ?_;have jY:EW roots ((Ca kept ((i:Int)-1)).take (j+1))=EW roots ((Ca kept ((i:Int)-1)).take j)++[rq]:=Ze (Ge nj) qL;refine Xi ⟨j+1,nj⟩ ?_;exact⟨by show(Ca kept ((i:Int)-1)).length-(j+1)<(Ca kept ((i:Int)-1)).length-j;omega,⟨Zr,Zr,Zr,Zr,Zr,⟨(show AV.slice (.id 12 2) ((EW roots ((Ca kept ((i:Int)-1)).take j)).map Ah++[Ah rq])=.slice (.id 12 2) ((EW roots ((Ca kept ((i:Int)-1)).take (j+1))).map Ah) by rw[jY,AB];rfl),rfl⟩,Zr,Zr,Zr,Tv⟩,⟨Zr,Zr,⟨(show HO.tok 2 (((EW roots ((Ca kept ((i:Int)-1)).take j)).map Ah).length+([Ah rq]:List (List AV)).length)=.tok 2 (EW roots ((Ca kept ((i:Int)-1)).take (j+1))).length by rw[jY,Ac,Lm];rfl),rfl⟩,Tv⟩,Fh,Tv⟩
  have QU:¬((j:Int)<(((Ca kept ((i:Int)-1)).map Ck).length:Int)):=QU;have n10:¬j<(Ca kept ((i:Int)-1)).length:=by have q:=QU;rw[Lm]at q;omega
  refine Xi ⟨[(1,sl Ah roots),(2,.ref 2 0),(8,sl Ck kept),(10,.ref 10 0),(11,sl Ck (Ca kept ((i:Int)-1))),(12,.slice (.id 12 2) ((EW roots ((Ca kept ((i:Int)-1)).take j)).map Ah))],[(2,.ro (Ic x ifs)),(10,.ro [vi ((i:Int)-1)]),(12,.tok 2 (EW roots ((Ca kept ((i:Int)-1)).take j)).length)],Aa⟩ (Yi ⟨Z6,Z3,Fh,Tv⟩ ?_)
  refine Yi (Nz rfl) ?_;have hs:=sr x ifs (EW roots (Ca kept ((i:Int)-1))) hx (fun q hq=>hr q (cP hq));refine BC (show ∃A1,A1=Ft x (EW roots (Ca kept ((i:Int)-1)))from⟨_,rfl⟩) (fun A1 bI=>?_);refine BC (show ∃e1,e1=Fu x (EW roots (Ca kept ((i:Int)-1)))from⟨_,rfl⟩) (fun e1 qj=>?_);have hs:PC 21 [MQ x ifs,sl Ah (EW roots (Ca kept ((i:Int)-1)))] (.tup [.agg (Jb A1),vi e1]):=by rw[bI,qj];exact hs
  have hs:PC 21 [MQ x ifs,sl Ah (EW roots ((Ca kept ((i:Int)-1)).take j))] (.tup [.agg (Jb A1),vi e1]):=by rw[AI (by have q:=QU;rw[Lm]at q;omega)];exact hs
  refine Xi .pure (Xi _ (Yi hs ?_));refine Yi (Nz rfl) ?_;refine Xi ⟨[(1,sl Ah roots),(2,.ref 2 0),(8,sl Ck kept),(10,.ref 10 0),(11,sl Ck (Ca kept ((i:Int)-1))),(15,.ref 15 0),(16,vi (e1:Int))],[(2,.ro (Ic x ifs)),(10,.ro [vi ((i:Int)-1)]),(15,.cells (Jb A1))],Aa⟩ (Yi ⟨Z7,Z3,Fh,Tv⟩ ?_)
  refine Yi (fun Wm=>?_) (fun Wm=>?_)
  ·have Wm:((e1:Int):Int)=(0:Int):=Wm;refine Yi (fun mJ=>?_) (fun mJ=>?_)
   ·have mJ:A1.found=true:=mJ;refine Xi ⟨[(1,sl Ah roots),(2,.ref 2 0),(8,sl Ck kept),(10,.ref 10 0)],[(2,.ro (Ic x ifs)),(10,.ro [vi ((i:Int)-1)])],Aa⟩ (Yi ⟨Z4,Z2,Fh,Tv⟩ ?_)
    refine Xi ⟨[(1,sl Ah roots),(2,.ref 2 0),(8,sl Ck kept),(80,vi ((i:Int)-1))],[(2,.ro (Ic x ifs))],Aa⟩ (Yi ⟨Z4,Z1,Fh,Tv⟩ ?_)
    refine Yi (Nz rfl) ?_;refine Xi ⟨[(1,sl Ah roots),(2,.ref 2 0),(8,sl Ck kept),(10,.ref 10 0)],[(2,.ro (Ic x ifs)),(10,.cells [vi ((i:Int)-1)])],Aa⟩ (Yi ⟨Z4,Z2,Fh,Tv⟩ ?_)
    refine Yi (by show BQ ((((i:Int)-1):Int)-(1:Int));unfold BQ;omega) ?_;refine Yi (Nz rfl) ?_;have m0:0<i:=by omega
    have FK:F6 x roots kept ((i:Int)-1)=kept:=by unfold F6;rw[Am];rintro⟨c1,c2⟩;rw[←bI,mJ]at c2;cases c2
    have Dn:kept≠[]:=by rw[←FK];exact NS k2
    have qv:aP roots.length kept:=by rw[←FK];exact k1.step x roots _
    have IW:KZ x roots (i-1) kept=Ql x roots:=by rw[←k3,LO m0,FK]
    refine Xi ⟨(i-1,kept),by show i-1≤roots.length;omega,qv,Dn,IW⟩ ?_;exact⟨by show(i-1)<i;omega,Z4,⟨Zr,⟨(show HO.cells [vi (((i:Int)-1)-(1:Int))]=.cells [vi (((i-1:Nat):Int)-1)] by rw[show((i-1:Nat):Int)=(i:Int)-1 by omega]),rfl⟩,Tv⟩,Fh,Tv⟩
   have mJ:A1.found=false:=mJ;refine Xi ⟨[(1,sl Ah roots),(2,.ref 2 0),(10,.ref 10 0),(11,sl Ck (Ca kept ((i:Int)-1)))],[(2,.ro (Ic x ifs)),(10,.ro [vi ((i:Int)-1)])],Aa⟩ (Yi ⟨Z4,Z2,Fh,Tv⟩ ?_)
   refine Xi ⟨[(1,sl Ah roots),(2,.ref 2 0),(8,sl Ck (Ca kept ((i:Int)-1))),(10,.ref 10 0)],[(2,.ro (Ic x ifs)),(10,.ro [vi ((i:Int)-1)])],Aa⟩ (Yi ⟨Z4,Z2,Fh,Tv⟩ ?_)
   refine Xi ⟨[(1,sl Ah roots),(2,.ref 2 0),(8,sl Ck (Ca kept ((i:Int)-1))),(80,vi ((i:Int)-1))],[(2,.ro (Ic x ifs))],Aa⟩ (Yi ⟨Z4,Z1,Fh,Tv⟩ ?_)
   refine Yi (Nz rfl) ?_;refine Xi ⟨[(1,sl Ah roots),(2,.ref 2 0),(8,sl Ck (Ca kept ((i:Int)-1))),(10,.ref 10 0)],[(2,.ro (Ic x ifs)),(10,.cells [vi ((i:Int)-1)])],Aa⟩ (Yi ⟨Z4,Z2,Fh,Tv⟩ ?_)
   refine Yi (by show BQ ((((i:Int)-1):Int)-(1:Int));unfold BQ;omega) ?_;refine Yi (Nz rfl) ?_;have m0:0<i:=by omega
   have FK:F6 x roots kept ((i:Int)-1)=(Ca kept ((i:Int)-1)):=by unfold F6;rw[Aw ⟨by rw[←qj];exact Wm,by rw[←bI];exact mJ⟩]
   have Dn:(Ca kept ((i:Int)-1))≠[]:=by rw[←FK];exact NS k2
   have qv:aP roots.length (Ca kept ((i:Int)-1)):=by rw[←FK];exact k1.step x roots _
   have IW:KZ x roots (i-1) (Ca kept ((i:Int)-1))=Ql x roots:=by rw[←k3,LO m0,FK]
   refine Xi ⟨(i-1,(Ca kept ((i:Int)-1))),by show i-1≤roots.length;omega,qv,Dn,IW⟩ ?_;exact⟨by show(i-1)<i;omega,Z4,⟨Zr,⟨(show HO.cells [vi (((i:Int)-1)-(1:Int))]=.cells [vi (((i-1:Nat):Int)-1)] by rw[show((i-1:Nat):Int)=(i:Int)-1 by omega]),rfl⟩,Tv⟩,Fh,Tv⟩
  have Wm:¬(((e1:Int):Int)=(0:Int)):=Wm;refine Xi ⟨[(1,sl Ah roots),(2,.ref 2 0),(8,sl Ck kept),(10,.ref 10 0)],[(2,.ro (Ic x ifs)),(10,.ro [vi ((i:Int)-1)])],Aa⟩ (Yi ⟨Z4,Z2,Fh,Tv⟩ ?_)
  refine Xi ⟨[(1,sl Ah roots),(2,.ref 2 0),(8,sl Ck kept),(80,vi ((i:Int)-1))],[(2,.ro (Ic x ifs))],Aa⟩ (Yi ⟨Z4,Z1,Fh,Tv⟩ ?_)
  refine Yi (Nz rfl) ?_;refine Xi ⟨[(1,sl Ah roots),(2,.ref 2 0),(8,sl Ck kept),(10,.ref 10 0)],[(2,.ro (Ic x ifs)),(10,.cells [vi ((i:Int)-1)])],Aa⟩ (Yi ⟨Z4,Z2,Fh,Tv⟩ ?_)
  refine Yi (by show BQ ((((i:Int)-1):Int)-(1:Int));unfold BQ;omega) ?_;refine Yi (Nz rfl) ?_;have m0:0<i:=by omega
  have FK:F6 x roots kept ((i:Int)-1)=kept:=by unfold F6;rw[Am];rintro⟨c1,c2⟩;exact Wm (qj.trans c1)
  have Dn:kept≠[]:=by rw[←FK];exact NS k2
  have qv:aP roots.length kept:=by rw[←FK];exact k1.step x roots _
  have IW:KZ x roots (i-1) kept=Ql x roots:=by rw[←k3,LO m0,FK]
  refine Xi ⟨(i-1,kept),by show i-1≤roots.length;omega,qv,Dn,IW⟩ ?_;exact⟨by show(i-1)<i;omega,Z4,⟨Zr,⟨(show HO.cells [vi (((i:Int)-1)-(1:Int))]=.cells [vi (((i-1:Nat):Int)-1)] by rw[show((i-1:Nat):Int)=(i:Int)-1 by omega]),rfl⟩,Tv⟩,Fh,Tv⟩
 have h7:¬((0:Int)≤(((i:Int)-1):Int)):=h7;have hi:i=0:=by omega
 have dy:kept=Ql x roots:=by have q:=k3;rw[hi]at q;exact q
 exact pH (show Kp x roots=0 by unfold Kp;rw[←qi,←oo,Am (fun h=>h h1),Am (by rw[h3];decide)]) dy
end Go.Eng

namespace Go.Eng
open Go.Proofs
section
variable {x:List Rl}{roots:List Rq}
def O6(x:List Rl)(roots:List Rq):Prop:=∃s,lX x roots s
theorem X5(hv:CR x roots=true)(hx:x.length≤16):Fu x roots=0:=by
 unfold Fu;rw[Aw hv,NR hx];rfl
theorem MF(hv:CR x roots=true)(hx:x.length≤16):Ft x roots=aW x roots:=by
 unfold Ft;rw[Aw ⟨hv,NR hx⟩]
theorem Pn(hv:CR x roots=true)(hx:x.length≤16):(Ft x roots).found=true↔O6 x roots:=by
 obtain⟨h0,h1⟩:=HH hv;have hR:=MG h0 h1;have hf:=NR (roots:=roots) hx;rw[MF hv hx];unfold aW;generalize Eu x roots=o at *
 constructor
 ·intro h
  by_cases Qr:o.found=true
  ·obtain⟨_,t,sl,y2,y3,y4,y5⟩:=hR.yes Qr;have hm:o.dec∈B9 x roots (x.length+1) []:=List.mem_of_head? y5;exact⟨_,(GE (.nil x) (.nil roots) _ hm).sol h0⟩
  ·rw[Am Qr]at h;cases h
 ·rintro⟨s,hs⟩
  by_cases Qr:o.found=true
  ·rw[Aw Qr]
  ·have Qr:o.found=false:=by simpa using Qr
   obtain⟨n4,n5⟩:=(hR.no Qr).2.2 hf;have ne:Do o.ss o.res=[]:=by
    cases h:Do o.ss o.res with
    |nil=>rfl
    |cons u l =>
     rw[h]at n5
     have:=(K3.1 n5).2 u (Ab ..)
     cases this
   have uT:Do o.ss o.res∈o.ss.drv:=Av (EG n4)
   have:=Ja hs (fun _ h=>by cases h) hR.der.der _ uT
   rw[ne]at this;cases this
theorem aB(hv:CR x roots=true)(hx:x.length≤16):(NP x roots=0↔O6 x roots)∧(NP x roots=17↔¬O6 x roots):=by
 unfold NP;rw[X5 hv hx,Am (fun h=>h rfl),←Pn hv hx]
 by_cases h:(Ft x roots).found=true
 ·rw[Aw h];simp[h]
 ·rw[Am h];simp[h]
-- numbers and roots
end
end Go.Eng

namespace Go.Eng
open Go.Proofs
end Go.Eng

namespace Go.Eng
open Go.Proofs
section
variable {x:List Rl}{roots:List Rq}{dec:List Cd}
end
end Go.Eng

namespace Go.Eng
open Go.Proofs
end Go.Eng

namespace Go.Eng
open Go.Proofs
end Go.Eng

namespace Go.Eng
open Go.Proofs
end Go.Eng
