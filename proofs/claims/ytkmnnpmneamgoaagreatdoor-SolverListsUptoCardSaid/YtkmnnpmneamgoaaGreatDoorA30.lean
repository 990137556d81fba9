/- Lemmas for the claims of this seat, without a condition: part 30 (S24, S25, LayDel, S26, S27, S30). -/
import Derived.Test.YtkmnnpmneamgoaaGreatDoorA29
import Derived.Shelf.SlicesE.DeleteFunc
import Derived.Shelf.SlGeneric
import Derived.Ground.SlgfProg
namespace Go.Eng
open Go.Proofs
theorem Ti{x:List Rl}{roots:List Rq}{n:Nat}{dec:List Cd}(h:(EO roots dec).2=[]):BS x roots (n+1) dec=[dec]:=by unfold BS;rw[h]
theorem X1{x:List Rl}{roots:List Rq}{n:Nat}{dec:List Cd}{n0:Nd}{l:List Nd}(h:(EO roots dec).2=n0::l) :
  BS x roots (n+1) dec=Lw (Ro x roots n dec (n0::l)) (BH x (EO roots dec).1) (BH x (EO roots dec).1).length:=by
 unfold BS Lw;rw[h,Do]
theorem zP{x:List Rl}{roots:List Rq}{C A:List (Value×AV)}{Y:Gh→World→Prop}{yl M:Nat}{ob:Bool→Obj}(hE:pT x roots C A)(Gy:∀dec out,pZ (vH roots C A yl (ob true) dec out) Y)
  (hy:∀dec out,dec.length≤256→out.length≤M→GO Tryz.prog Y yl [sl Ah (Dm (Am dec))] (Af (vH roots C A yl (ob true) dec out) Aa) (VQ roots C A yl M ob dec (out++[Dm (Am dec)]))) :
  ∀(n:Nat) {dec:List Cd} {out:List (List Sl)},DY x dec→KE x dec<n→out.length≤M →
  FX Tryz.prog Y 63 (Hy yl) (Af (vH roots C A yl (ob true) dec out) Aa) (VQ roots C A yl M ob dec (out++LV (BS x roots n dec)))
 |0,_,_,_,h,_=>by omega
 |n+1,dec,out,hd,hn,hM=>by
  have hx:=hE.hx;have hr:=hE.hr;have QO:=Kd hx;have hdl:=L7 hd;have gn:dec.length≤256:=by have:=QO.1;omega
  have hrl:∀c∈dec,c.rel.reqs.length≤16:=fun c hc=>QO.2 _ (hd.cand c hc).1;have IG:=zQ roots C A J4 dec [] (Bu (JB hr) (by decide)) (by omega) fun c hc=>Bu (hrl c hc) (by decide);obtain⟨N,hN⟩:∃N,N=(EO roots dec).2:=⟨_,rfl⟩;obtain⟨q,hq⟩:∃q,q=(EO roots dec).1:=⟨_,rfl⟩;rw[←hN,←hq]at IG;have nH:N.length≤10000:=by
   have h1:=Vg (roots:=roots) dec;have h2:(Dp roots dec).length=(DD roots dec).length:=by rw[←Jf,Lm]
   have h3:=fG hrl;have h4:=JB hr;rw[←hN]at h1;unfold DD at h2;rw[Ad]at h2;omega
  cases hNc:N with
  |nil =>
   rw[hNc]at hN IG;have Jc:=Ti (x:=x) (n:=n) hN.symm;exact ym x roots C A Y yl M n ob dec out q [] rfl gn (by rw[Jv];exact hd.nodup) (Gy dec out) IG Jc (hy dec out gn hM)
  |cons n0 l =>
   rw[hNc]at hN IG;have hNx:=Jy hN.symm;have Jc:=X1 (x:=x) (n:=n) hN.symm;rw[←hq]at hNx Jc;have MJ:∀nd∈n0::l,nd∈Dp roots dec:=fun nd h=>((hNx.mem nd).1 h).1;have few:∀nd∈Dp roots dec,CK nd.rq.set:=fun nd h=>by
    rcases KL h with ⟨k,r,h1,rfl⟩ | ⟨c,hc,k,r,h1,rfl⟩
    ·exact(hE.fr r (Ay h1)).1
    ·exact((hE.fx _ (hd.cand c hc).1).2 r (Ay h1)).1
   have ct:∀c∈BH x q,DY x (dec++[c])∧c.rel.path=q∧c.rel∈x:=fun c hc=>by
    obtain⟨c1,c2⟩:=Hw hc;exact⟨hd.snoc c2 (by rw[c1];exact hNx.undone),c1,c2.1⟩
   have EN:∀(i:Nat) (h:i<(BH x q).length),(BH x q)[i]∈BH x q:=fun i h=>Aj h
   have hL:tU x roots C A Y yl M n ob dec q n0 l (BH x q):={
    hdl:=gn
    hcl:=Bu (Px x q) QO.1
    hnl:=by rw[hNc]at nH;unfold CK;omega
    hnq:=fun nd h=>few nd (MJ nd h)
    hcr:=fun i h=>by have:=QO.2 _ (ct _ (EN i h)).2.2;omega
    hcs_:=fun i h r gE=>((hE.fx _ (ct _ (EN i h)).2.2).2 r gE).1
    hkey:=fun i h=>by
     have b:=(ct _ (EN i h)).2.1;unfold Am;rw[AA,AA];show _=_++[[vs (BH x q)[i].rel.path,vi (BH x q)[i].rel.ver.a,vi (BH x q)[i].rel.ver.b,vi (BH x q)[i].rel.ver.c]];rw[b]
    ih:=fun i h FO Aby hM'=>by
     obtain⟨a,b,c3⟩:=ct _ (EN i h);obtain⟨_,c2⟩:=Hw (EN i h);have jz:KE x (dec++[(BH x q)[i]])<n:=by have:=Lg (dec:=dec) ⟨c2.1,c2.2.1⟩ (by rw[b];exact hNx.undone);omega
     exact zP hE Gy hy n a jz hM' }
   by_cases hcs:BH x q=[]
   ·exact yk x roots C A Y yl M n ob dec out q n0 l (BH x q) hL (Gy dec out) IG hcs (hE.c3 q hcs) Jc hM
   ·exact yj x roots C A Y yl M n ob dec out q n0 l (BH x q) hL (Gy dec out) IG (hE.c1 q) (fun hc=>hcs (hE.c2 q hc)) Jc hM
end Go.Eng

namespace Go.Eng
open Go.Proofs
theorem oV{r0:Nat}{PB:Cx}{P:Program}{N:Nat}{fn:Func}{res:AV}{b rest:Code}{st:St}(σF σ:Hq)(H0 Hn:List (Nat×HO))(gf:Nat)(caps:List AV){Pm s:Nat}{ps:Array Tmp}{Em body:Code}
  (hb:b=.block Pm (.rangeFunc (.tmp s) ps Em body)) (k1:(D4 σF&&DA st.h 0 0&&Dj σF 0 0)=true) (k2:Fc σF st.h=Af H0 Aa) (k0:Af H0 Aa r0=.free) (k3:∀o,(ES σ&&FD σ ((r0,o)::H0))=true) (k4:∀o,FD σ ((r0,o)::Hn)=true)
  (k5:ren (Cn σF) st.h (st.t s)=.clo gf caps)
  (k6:∀(l D:Nat) (f' : FuncId) (tm:Array Value),tm.size=N→M9 P (fun g w=>∀i,BI g w (AM (Af ((r0,.raw l (.loop (Fb f' tm ps Em body D .ready)))::H0) Aa)) (ren (Cn σF) st.h (st.t i)) (tm.getD i undef)) σ gf
   (.v (.func (.yield l) #[] #[])::caps) (Af ((r0,.raw l (.loop (Fb f' tm ps Em body D .ready)))::H0) Aa) fun _ h'=>∃b,h'=Af ((r0,.raw l (.loop (TM f' tm ps Em body D Pm b)))::Hn) Aa)
  (k7:DF N rest=true) (k8:∀o,MD PB rest (Y7 PB fn.results.toList fun r=>GU r res) ⟨fun i=>ren (Cn σF) st.h (st.t i),Af ((r0,o)::Hn) Aa⟩) (k9:LP [] body=true:=by kernel_rfl):yv r0 PB P N fn res b rest st :=
 ⟨σF,σ,H0,Hn,Pm,s,ps,Em,body,gf,caps,hb,k1,k2,k0,k3,k4,k5,k6,k7,k9,k8⟩
abbrev pW:Hq:=[(1009,1009),(1000,1000),(1001,1001),(1002,1002),(1003,1003),(1004,1004),(1005,1005),(1007,1007),(1008,1008)]
abbrev pX:Hq:=[(1009,1009),(1000,1000),(1001,1001),(1002,1002),(1003,1003),(1004,1004),(1005,1005),(3,1006),(1007,1007),(1008,1008)]
abbrev uH(roots:List Rq)(C A:List (Value×AV))(out:List (List Sl)):List (Nat×HO) :=
 [(1000,.cells (Pe roots C A J4 [] 0)),(1001,.tok 6 0),(1002,.tok 1 0),(1003,.map Dw []),(1004,.arr 1 []),(1005,.cells [.ref 1000 0]),(1007,.cells [.slice (.id 1008 1) (out.map Bs)]),(1008,.tok 1 out.length)]
noncomputable abbrev cxw(pl:QA)(l:Nat)(Y:Gh→World→Prop):Cx:=⟨Tryz.prog,jI,pl,true,0,fun l' σ' g w=>l'=l→σ'=pX→Y g w⟩
theorem mH{roots:List Rq}{C A:List (Value×AV)}{o:List (List Sl)}{O:HO}{i:Nat}(h:AM (Af ((1009,O)::uH roots C A o) Aa) i):i=1009∨i=1000∨i=1001∨i=1002∨i=1003∨i=1004∨i=1005∨i=1007∨i=1008:=by
 unfold AM at h
 by_cases e9:i=1009
 ·exact .inl e9
 by_cases e0:i=1000
 ·exact .inr (.inl e0)
 by_cases e1:i=1001
 ·exact .inr (.inr (.inl e1))
 by_cases e2:i=1002
 ·exact .inr (.inr (.inr (.inl e2)))
 by_cases e3:i=1003
 ·exact .inr (.inr (.inr (.inr (.inl e3))))
 by_cases e4:i=1004
 ·exact .inr (.inr (.inr (.inr (.inr (.inl e4)))))
 by_cases e5:i=1005
 ·exact .inr (.inr (.inr (.inr (.inr (.inr (.inl e5))))))
 by_cases e6:i=1007
 ·exact .inr (.inr (.inr (.inr (.inr (.inr (.inr (.inl e6)))))))
 by_cases e7:i=1008
 ·exact .inr (.inr (.inr (.inr (.inr (.inr (.inr (.inr e7)))))))
 exfalso;apply h
 simp only[Af,Ci e9,Ci e0,Ci e1,Ci e2,Ci e3,Ci e4,Ci e5,Ci e6,Ci e7,D7];rfl
theorem mI{roots:List Rq}{C A:List (Value×AV)}{o o' : List (List Sl)}{yl:Nat}{ob ob' : Obj}{dec:List Cd}:∀i,AM (Af ((1009,.raw yl ob)::uH roots C A o) Aa) i→AM (Af (vH roots C A yl ob' dec o') Aa) i:=fun i h=>by
 rcases mH h with rfl | rfl | rfl | rfl | rfl | rfl | rfl | rfl | rfl<;>(intro q;cases q)
theorem s5{roots:List Rq}{C A:List (Value×AV)}{o:List (List Sl)}{O:HO}:∀i,AM (Af ((1009,O)::uH roots C A o) Aa) i→GC pX i=GC pW i:=fun i h=>by
 rcases mH h with rfl | rfl | rfl | rfl | rfl | rfl | rfl | rfl | rfl<;>rfl
theorem iR{σ σ' : Hq}{U:Nat→Prop}(h:∀i,U i→GC σ' i=GC σ i){tm:Array Value}{env:Nat→AV} :
  ∀g w,(∀i,BI (CO σ g) w U (env i) (tm.getD i undef))→∀i,BI (CO σ' g) w U (env i) (tm.getD i undef):=fun g w q =>
 (lE (R:=fun _=>True) h g w ⟨trivial,q⟩).2
theorem s30(roots:List Rq)(C A:List (Value×AV))(s:SS)(dec:List Cd)(st:List (List Sk)):Bo Tryz.prog 30 [.ref 1000 0] (Af (HX roots C A s dec st) Aa) fun r h'=>r=.clo 62 [.ref 2000 0]∧h'=Af (HX roots C A s dec st++[(2000,.cells [.ref 1000 0])]) Aa:=by
 refine CF (MG ⟨[],[],[],[],[],[],[],[],[],[],[]⟩) [(1000,1000),(1001,1001),(1002,1002),(1003,1003),(1004,1004),(1,2000)] rfl CG hm rfl Tryz.func30 (by kernel_rfl) rfl (Nz rfl) (by kernel_rfl) rfl ?_;exact Xi _ (Yi (.refl _) Zr)
set_option maxHeartbeats 4000000 in
theorem s62{x:List Rl}{roots:List Rq}{C A:List (Value×AV)}{Y0 Y:Gh→World→Prop}{yl M:Nat}{ob:Bool→Obj}(hE:pT x roots C A)(Gy:∀dec out,pZ (vH roots C A yl (ob true) dec out) Y)
  (hy:∀dec out,dec.length≤256→out.length≤M→GO Tryz.prog Y yl [sl Ah (Dm (Am dec))] (Af (vH roots C A yl (ob true) dec out) Aa) (VQ roots C A yl M ob dec (out++[Dm (Am dec)])))
  (tr:∀g w,Y0 (CO pW g) w→Y (CO pX g) w) :
  M9 Tryz.prog Y0 pW 62 [.v (.func (.yield yl) #[] #[]),.ref 1005 0] (Af ((1009,.raw yl (ob true))::uH roots C A []) Aa) fun _ h'=>∃b,h'=Af ((1009,.raw yl (ob b))::uH roots C A ((LV (BS x roots (x.length+1) [])).take M)) Aa:=by
 have SW:=zP hE Gy hy (x.length+1) (dec:=[]) (out:=[]) (.nil x) (Nat.lt_succ_of_le (By _ _)) (AL _);refine cy (l:=yl) (cxw ⟨[2],[],[],[],[],[],[],[],[],[],[]⟩ yl Y) pW pX rfl CG hm rfl Tryz.func62 (by kernel_rfl) rfl (Nz rfl) (by kernel_rfl) rfl rfl tr ?_;refine Yi ?_ ?_
 ·exact Nz rfl
 refine Xi (.geny pX 0) (Yi rfl (FX.imp (FX.pre SW (fun g w q=>q yl rfl rfl)) ?_));intro v g q;have q1:=q.1;have q2:=q.2;subst q1;subst q2;exact⟨_,rfl⟩
theorem s7{roots:List Rq}{C A:List (Value×AV)}{yl:Nat}{o:Obj}{dec:List Cd}{out:List (List Sl)}{es:List (List AV)}{k:Nat}(h1:es=out.map Bs)(h2:k=out.length) :
  Af [(1009,.raw yl o),(1000,.cells (Pe roots C A J4 dec 0)),(1001,.tok 6 0),(1002,.tok 1 0),(1003,.map Dw []),(1004,.arr 1 []),(1005,.cells [.ref 1000 0]),(1006,.cells [.clo 63 (Hy yl)]),(1007,.cells [.slice (.id 1008 1) es]),(1008,.tok 1 k)] Aa=Af (vH roots C A yl o dec out) Aa:=by
 subst h1;subst h2;rfl
theorem VQ.eq{roots:List Rq}{C A:List (Value×AV)}{yl M:Nat}{ob:Bool→Obj}{dec:List Cd}{o:List (List Sl)}{r:AV}{h1 h2:Nat→HO}(hq:VQ roots C A yl M ob dec o r h1)(e:h2=h1):VQ roots C A yl M ob dec o r h2:=by subst e;exact hq
theorem VQ.at{roots:List Rq}{C A:List (Value×AV)}{yl M:Nat}{ob:Bool→Obj}{dec:List Cd}{out:List (List Sl)}{s:List Sl}(h:out.length=M):VQ roots C A yl M ob dec (out++[s]) (vb false) (Af (vH roots C A yl (ob false) dec out) Aa):=by
 have q:=VQ.of_gt (roots:=roots) (C:=C) (A:=A) (yl:=yl) (M:=M) (ob:=ob) (dec:=dec) (o':=out++[s]) (o:=out++[s]) (by rw[Ad,AC];omega) ⟨[],(CY _).symm⟩
 rwa [Gp h]at q
def H6(x:List Rl)(roots:List Rq)(m:Int):Int:=if CI x roots=false∨m<0∨1024<m then 1 else 0
def HW(x:List Rl)(roots:List Rq)(m:Int):List (List Sl):=if H6 x roots m=0 then(LV (BS x roots (x.length+1) [])).take m.toNat else []
set_option maxHeartbeats 4000000 in
theorem oX(x:List Rl)(ifs:List (List AV))(roots:List Rq)(EY:Int)(hx:∀r∈x,Gf r)(hr:∀q∈roots,H4 q)(hv:CI x roots=true)(aN:0≤EY)(PL:EY≤1024) :
  PC 10 [Mm x ifs,sl Ap roots,vi EY] (.tup [sl Bs ((LV (BS x roots (x.length+1) [])).take EY.toNat),vi 0]):=by
 obtain⟨v0,v1⟩:=My hv;have KF:=pQ x ifs roots hx hr;rw[hv]at KF;refine dv 1009 (dW ⟨[3,5],[],[],[],[],[],[],[(22,(8,0,60,1))],[],[],[1,2,3,8]⟩) (MG EI) rfl CG rfl CG hm rfl rfl Tryz.func10 (by kernel_rfl) rfl (Nz rfl) (by kernel_rfl) 3 (fun _ _=>Zr) ?_;refine Xi ⟨[(1,sl Ap roots),(3,.ref 3 0),(5,.ref 5 0)],[(3,.ro (Ic x ifs)),(5,.ro [vi (EY:Int)])],Aa⟩ (Yi ⟨Z3,Z2,Fh,Tv⟩ ?_)
 refine Yi (Nz rfl) ?_;refine Xi .pure (Xi _ (Yi KF ?_));refine Yi (fun h1=>?_) (fun h1=>?_)
 ·have h1:((EY:Int):Int)<(0:Int):=h1;exact absurd h1 (by omega)
 have h1:¬(((EY:Int):Int)<(0:Int)):=h1;refine Yi (fun h2=>?_) (fun h2=>?_)
 ·have h2:(1024:Int)<((EY:Int):Int):=h2;exact absurd h2 (by omega)
 have h2:¬((1024:Int)<((EY:Int):Int)):=h2;refine Xi ⟨[(1,sl Ap roots),(3,.ref 3 0),(5,.ref 5 0)],[(3,.ro (Ic x ifs)),(5,.ro [vi (EY:Int)])],Aa⟩ (Yi ⟨Z3,Z2,Fh,Tv⟩ ?_)
 refine Yi (Nz rfl) ?_;refine Xi (.gen [] 5) (Yi rfl ((tN x ifs roots hx v0).imp ?_));intro v g q;refine A8 q (fun L q=>?_);have q1:=q.2.1;have q2:=q.2.2;have qp:=q.1;subst q1;subst q2;have hE:=fC hx hr v0 v1 qp;refine Xi (.gen [(12400,1000),(12401,1001),(12402,1002),(12403,1003),(12404,1004)] 1) (Yi rfl (Bo.imp (s30 roots (mC x) (L.map (kA x)) J4 [] []) ?_));intro v2 g2 q3;have xA:=q3.1;have xB:=q3.2;subst xA;subst xB;refine oV (r0:=1009) [(12400,1000),(12401,1001),(12402,1002),(12403,1003),(12404,1004),(12500,1005),(8,1007),(60,1008)] pW (uH roots (mC x) (L.map (kA x)) []) (uH roots (mC x) (L.map (kA x)) ((LV (BS x roots (x.length+1) [])).take EY.toNat)) 62 [.ref 1005 0] rfl (by kernel_rfl) (by kernel_rfl) rfl (fun _=>by kernel_rfl) (fun _=>by kernel_rfl) (by kernel_rfl) (fun l9 D9 f9 zW pI=>s62 (M:=EY.toNat) (ob:=fun b=>.loop (TM f9 zW _ _ _ D9 0 b)) hE (fun dec out=>iQ (σ:=bw) (by kernel_rfl) mI) (fun dec out hdl Hs=>dR 1009 (σ:=bw) (MG EI) rfl CG hm rfl (by kernel_rfl) rfl (by rfl) pI (by kernel_rfl) (by kernel_rfl) (by kernel_rfl) mI ?_) (iR s5)) (by kernel_rfl) (fun _=>?_)
 ·refine Yi rfl ?_;refine Yi (fun h9=>?_) (fun h9=>?_)
  ·have h9:((out.map Bs).length:Int)=EY:=h9;have e9:out.length=EY.toNat:=by rw[Lm]at h9;omega
   exact Yi rfl (VQ.at e9)
  have h9:¬((out.map Bs).length:Int)=EY:=h9;have l9' : out.length<EY.toNat:=by rw[Lm]at h9;omega
  have b9:B1 1 [Bs (Dm (Am dec))]∧(out.map Bs).length=out.length∧((out.map Bs).length+([Bs (Dm (Am dec))]:List (List AV)).length)*24≤140737488355328∧(out.map Bs).length+([Bs (Dm (Am dec))]:List (List AV)).length≤9223372036854775807 :=
   ⟨⟨rfl,trivial⟩,Lm ..,by rw[Lm,AC];omega,by rw[Lm,AC];omega⟩
  refine Yi b9 ?_;refine Yi ?_ ?_
  ·exact Nz rfl
  have e9:(out++[Dm (Am dec)]).map Bs=out.map Bs++[Bs (Dm (Am dec))]:=by rw[AA];rfl
  have e8:(out++[Dm (Am dec)]).length=(out.map Bs).length+1:=by rw[Ad,Lm];rfl
  exact Yi rfl (VQ.eq (VQ.of_le rfl (by rw[Ad,AC];omega)) (s7 e9.symm e8.symm))
 exact .refl _
set_option maxHeartbeats 4000000 in
theorem lJ(x:List Rl)(ifs:List (List AV))(roots:List Rq)(EY:Int)(hx:∀r∈x,Gf r)(hr:∀q∈roots,H4 q)(wa:CI x roots=false∨EY<0∨1024<EY) :
  PC 10 [Mm x ifs,sl Ap roots,vi EY] (.tup [sl Bs ([]:List (List Sl)),vi 1]):=by
 have KF:=pQ x ifs roots hx hr;refine Ps ⟨[3,5],[],[],[],[],[],[],[],[],[],[1,2,3,8]⟩ Tryz.func10 rfl (Nz rfl) ?_;refine Xi ⟨[(1,sl Ap roots),(3,.ref 3 0),(5,.ref 5 0)],[(3,.ro (Ic x ifs)),(5,.ro [vi (EY:Int)])],Aa⟩ (Yi ⟨Z3,Z2,Fh,Tv⟩ ?_)
 refine Yi (Nz rfl) ?_;refine BG (Bt (CI x roots)) (fun h1=>?_) (fun h1=>?_)
 ·have h1:(CI x roots)=true:=h1;have N6:=KF;rw[show(CI x roots)=true from h1]at N6;refine Xi .pure (Xi _ (Yi N6 ?_));refine Yi (fun h3=>?_) (fun h3=>?_)
  ·have h3:((EY:Int):Int)<(0:Int):=h3;refine Xi ⟨[],[],Aa⟩ (Yi ⟨Tv,Tv,Fh,Tv⟩ ?_)
   exact .tup ⟨.nil,.refl _,trivial⟩
  have h3:¬(((EY:Int):Int)<(0:Int)):=h3;refine Yi (fun h5=>?_) (fun h5=>?_)
  ·have h5:(1024:Int)<((EY:Int):Int):=h5;refine Xi ⟨[],[],Aa⟩ (Yi ⟨Tv,Tv,Fh,Tv⟩ ?_)
   exact .tup ⟨.nil,.refl _,trivial⟩
  have h5:¬((1024:Int)<((EY:Int):Int)):=h5;have wX:CI x roots=true:=h1;exact absurd wa (by rintro(c | c | c);exact absurd (c.symm.trans wX) (by decide);omega;omega)
 have h1:(CI x roots)=false:=h1;have rf:=KF;rw[show(CI x roots)=false from h1]at rf;refine Xi .pure (Xi _ (Yi rf ?_));refine Xi ⟨[],[],Aa⟩ (Yi ⟨Tv,Tv,Fh,Tv⟩ ?_)
 exact .tup ⟨.nil,.refl _,trivial⟩
theorem zM(x:List Rl)(ifs:List (List AV))(roots:List Rq)(EY:Int)(hx:∀r∈x,Gf r)(hr:∀q∈roots,H4 q) :
  PC 10 [Mm x ifs,sl Ap roots,vi EY] (.tup [sl Bs (HW x roots EY),vi (H6 x roots EY)]):=by
 by_cases h:CI x roots=false∨EY<0∨1024<EY
 ·have h1:H6 x roots EY=1:=by unfold H6;rw[AB h]
  have h2:HW x roots EY=[]:=by unfold HW;rw[h1];rfl
  rw[h1,h2];exact lJ x ifs roots EY hx hr h
 ·have h1:H6 x roots EY=0:=by unfold H6;rw[Ar h]
  have h2:HW x roots EY=(LV (BS x roots (x.length+1) [])).take EY.toNat:=by unfold HW;rw[h1,AB rfl]
  rw[h1,h2];exact oX x ifs roots EY hx hr (by cases e:CI x roots with | true=>rfl | false=>exact absurd (.inl e) h) (by omega) (by omega)
end Go.Eng

namespace Go.Proofs
open Go.Shelf
def Tryz.layDel_ren:Go.Shelf.Ren:=⟨fun | 10=>34 | 6=>78 | n=>n,fun | 22=>35 | 23=>3 | 25=>79 | 3=>3 | 4=>4 | 0=>0 | n=>n,fun | n=>n⟩
theorem Tryz.layDel:Go.Proofs.SlLaysH.n10 Tryz.prog Tryz.layDel_ren:={
 mixed:=by kernel_rfl
 f6:=⟨Tryz.f78.name,by decide,Tryz.func78.trans (congrArg some (by kernel_rfl))⟩
 f10:=⟨Tryz.f34.name,by decide,Tryz.func34.trans (congrArg some (by kernel_rfl))⟩
 t0:=Tryz.underlying0
 a0:=Tryz.isAgg0
 z0:=Tryz.sizeOf0
 v0:=Tryz.zeroValue0
 t3:=Tryz.underlying3
 a3:=Tryz.isAgg3
 z3:=Tryz.sizeOf3
 v3:=Tryz.zeroValue3
 t4:=Tryz.underlying4
 a4:=Tryz.isAgg4
 z4:=Tryz.sizeOf4
 v4:=Tryz.zeroValue4
 t22:=Tryz.underlying35
 a22:=Tryz.isAgg35
 z22:=Tryz.sizeOf35
 v22:=Tryz.zeroValue35
 a23:=Tryz.isAgg3
 z23:=Tryz.sizeOf3
 t25:=Tryz.underlying79
 a25:=Tryz.isAgg79
 z25:=Tryz.sizeOf79
 v25:=Tryz.zeroValue79 }
end Go.Proofs

namespace Go.Eng
open Go.Proofs Go.Shelf Go.RowKit Go.Lib Go.Sort
theorem aF(v x:Int)(B o:Nat)(W:World)(hc:W.cell? ⟨B,o,none⟩=some (.int .i64 v)) :
  FnGives Tryz.prog 36 #[.pointer (some ⟨B,o,none⟩)] #[.int .i64 x] (.bool (decide (x=v))) W:=by
 show Calls Tryz.prog 36 #[.int .i64 x,.pointer (some ⟨B,o,none⟩)] W _
 go_enter Tryz.func36,Tryz.ntmps36
 go_wp2
 have e:(x == v)=decide (x=v):=rfl
 all_goals (go_ret;exact⟨by simp_all,0,rfl⟩)
theorem oM(v:Int)(B o:Nat)(w:World)(hB:B<w.heap.size)(Di:w.cell? ⟨B,o,none⟩=some (.int .i64 v)) :
  PredAt Tryz.prog 36 #[.pointer (some ⟨B,o,none⟩)] (Value.int .i64) (fun x=>decide (x=v)) w :=
 fun W x hb=>aF v x B o W ((hb.cell (p:=⟨B,o,none⟩) hB).trans Di)
theorem oJ(v:Int)(B o ua off size:Nat)(w:World)(hB:B<w.heap.size)(Dy:B≠ua)(Di:w.cell? ⟨B,o,none⟩=some (.int .i64 v)) :
  PredOver Tryz.prog 36 #[.pointer (some ⟨B,o,none⟩)] (Value.int .i64) (fun x=>decide (x=v)) ua off size w :=
 fun n os dk x _=>aF v x B o _ (by
  unfold sortWorld;rw[cell?_grow _ _ _ (by show B<(putRow _ _ _ _ _).heap.size;rw[Go.Sort.size_putRow];exact hB),cell?_putRow_other _ _ ua off _ _ (Or.inl Dy)];exact Di)
abbrev Cf(zs:List Int)(v:Int):List Int:=zs.filter fun z=>!decide (z=v)
theorem s34(zs:List Int)(v:Int)(hl:CK zs)(Dy:zs≠[]) :
  Bo Tryz.prog 34 [.msl 1000 zs.length,.clo 36 [.cptr [vi v]]] (Af [(1000,.arr 1 (zs.map Cr))] Aa) fun r h'=>r=.msl 2000 (Cf zs v).length∧h'=Af [(1000,.dead),(2000,.arr 1 ((Cf zs v).map Cr))] Aa:=by
 have hl:zs.length≤1073741824:=hl;have hE:Gd Tryz.prog 34:=fA 34 Tryz.func34 (by kernel_rfl) rfl;have Hs:(Cf zs v).length≤zs.length:=By _ _;have Iu:=YO (P:=Tryz.prog) (f:=34) (fF:=36) (caps:=[.cptr [vi v]]) (es:=zs.map Cr) (sz:=1) (n':=(Cf zs v).length) (Q:=fun EM=>EM=(Cf zs v++List.replicate (zs.length-(Cf zs v).length) 0).map Cr) hE (fun e=>Dy (EQ.1 e)) (by rw[Lm];exact Hs) ?_
 ·rw[Lm]at Iu;refine⟨hE,fun g w vals q1 q2 q3=>(Iu.2 g w vals q1 q2 q3).mono fun _ _ ⟨x,r,h',g',e1,⟨e2,EM,p1,p2⟩,rest⟩=>⟨x,r,h',g',e1,⟨e2,by
   rw[p2,p1,AA,D8 (by rw[Lm];exact Ao _),Az (by rw[Lm];exact Ao _)]⟩,rest⟩⟩
 ·intro g w b cap F lb hr hF hH hb hc hS Dz Rz ml;rw[Lm]at hF hc⊢;have vE:F.toList=zs.map fun z=>Value.int .i64 z:=O8 (by rw[←MI];exact hr);have nG:F=zs.toArray.map fun z=>Value.int .i64 z:=LK.1 (by rw[vE];simp);have vG:Holds (Value.int .i64) w b 0 zs.toArray:=fun j hj=>by
   have:=hH j (by rw[nG];simpa using hj)
   refine⟨this.1.trans ?_,this.2⟩;rw[nG,DN _ j (by simpa using hj),DN _ j hj];simp
  have Rz:lb.size=1:=Rz;have h0:=ml 0 (.cptr [vi v]) lb[0] rfl (Be (by omega));obtain⟨B,o,hp,yQ,Di⟩:∃B o,lb[0]=.pointer (some ⟨B,o,none⟩)∧g.S B o∧w.cell? ⟨B,o,none⟩=some (.int .i64 v):=by
   generalize lb[0]=x at h0;cases h0 with
   |cptr _ cs B o val Di Ez =>
    have a:=Di 0 (vi v) rfl;have e:=(Ez 0 (vi v) rfl).v_eq;exact⟨B,o,rfl,a.1,by rw[←e];exact a.2.1⟩
  have wu:lb=#[.pointer (some ⟨B,o,none⟩)]:=by
   refine RP (by simpa using Rz) fun i h1 h2=>?_
   have:i=0:=by omega
   subst this;exact hp
  have hB:=Dz B o yQ;have hBb:B≠b:=fun e=>hS o (e▸yQ);rw[wu]
  have hcon:=AnyE.slices_DeleteFunc Tryz.layDel (Value.int .i64) (fun _=>rfl) (fun x=>decide (x=v)) 36 #[.pointer (some ⟨B,o,none⟩)] (enters_of Tryz.func36 (by kernel_rfl) rfl) 0 Tryz.zeroValue3 b 0 cap zs.toArray w
   (oM v B o w hB Di) (oJ v B o b 0 zs.toArray.size w hB hBb Di) vG (by simp;omega) (by simpa using hc)
  refine hcon.mono ?_
  rintro e w' ⟨rfl,q,rfl⟩
  have efl:(zs.toArray.toList.filter fun x=>!decide (x=v))=Cf zs v:=by simp
  rw[efl];refine⟨rfl,(Cf zs v++List.replicate (zs.length-(Cf zs v).length) 0).toArray.map fun z=>Value.int .i64 z,_,q,#[],?_,rfl,?_,fun cs hcs=>?_,fun g w _=>?_,?_⟩
  ·rw[nG];simp;omega
  ·simp;omega
  ·obtain⟨x,_,rfl⟩:=Aq.1 hcs;rfl
  ·rw[MI];have e:((Cf zs v++List.replicate (zs.length-(Cf zs v).length) 0).toArray.map fun z=>Value.int .i64 z).toList=(Cf zs v++List.replicate (zs.length-(Cf zs v).length) 0).map fun z=>Value.int .i64 z:=by simp
   rw[e];exact Qf _ _ _ _ fun x hx=>by
    obtain⟨z,_,rfl⟩:=Aq.1 hx;rfl
  ·rw[Vq,grow_empty];simp
end Go.Eng

namespace Go.Eng
open Go.Proofs
theorem vf(l:List Int)(hl:CK l):Bo Tryz.prog 35 [sl Cr l] (Af [] Aa) fun r h'=>r=.msl 2000 l.length∧h'=Af [(2000,.arr 1 (l.map Cr))] Aa:=by
 refine CF (MG (sr 1)) [(2,2000)] rfl CG hm rfl Tryz.func35 (by kernel_rfl) rfl (Nz rfl) (by kernel_rfl) rfl ?_;have GI:B1 1 (l.map Cr)∧([]:List (List AV)).length=0∧(([]:List (List AV)).length+(l.map Cr).length)*8≤140737488355328∧([]:List (List AV)).length+(l.map Cr).length≤9223372036854775807:=by
  refine⟨DQ (enc:=Cr) (n:=1) (fun _=>rfl) l,rfl,?_,?_⟩<;>simp only[Al,Lm]<;>unfold CK at hl<;>omega
 have e1:AV.msl 2000 (([]:List (List AV)).length+(l.map Cr).length)=.msl 2000 l.length:=by simp
 refine Xi 0 ?_;refine Xi 0 ?_;refine Yi ?_ ?_
 ·intro _;refine Xi ⟨[(0,sl Cr l)],[],Aa⟩ (Yi ⟨Z1,Tv,Fh,As (by kernel_rfl)⟩ ?_)
  refine Xi 2 ?_;refine Yi GI ?_;exact Xi _ (Yi (.refl _) (Yi e1 rfl))
 ·intro h;have h:l.map Cr=[]:=h;refine Yi ?_ ?_
  ·refine Xi ⟨[],[],Aa⟩ (Yi ⟨trivial,trivial,fun _=>.inl rfl,As (by kernel_rfl)⟩ ?_)
   refine Xi 2 ?_;exact Xi _ (Yi (.refl _) (Yi (show AV.msl 2000 0=_ by rw[EQ.1 h];rfl) (show Af [(2000,HO.arr 1 [])] Aa=_ by rw[h])))
  ·refine Xi ⟨[(0,sl Cr l)],[],Aa⟩ (Yi ⟨Z1,Tv,Fh,As (by kernel_rfl)⟩ ?_)
   refine Xi 2 ?_;refine Yi GI ?_;exact Xi _ (Yi (.refl _) (Yi e1 rfl))
def Rm(n i:Nat):List Int:=(List.range n).map fun k=>if k<i then(k:Int)else 0
@[simp] theorem Wl (n i:Nat):(Rm n i).length=n:=by unfold Rm;simp
theorem gK(n:Nat):List.replicate ((n:Int)).toNat [vi 0]=(Rm n 0).map Cr:=by
 rw[A6];refine List.ext_getElem (by simp[Rm]) fun k h1 h2=>?_;simp[Rm]
theorem kO{n i:Nat}(h:i<n):((Rm n i).map Cr)[i]?=some [vi 0]:=by
 rw[AI,Rm,AI,List.getElem?_range h];simp
theorem kP{n i:Nat}(_h:i<n):((Rm n i).map Cr).set i [vi (i:Nat)]=(Rm n (i+1)).map Cr:=by
 refine List.ext_getElem (by simp[Rm]) fun k h1 h2=>?_;rw[List.getElem_set];simp only[Rm,LM,List.getElem_range]
 by_cases e:i=k
 ·subst e;rw[AB rfl,AB (by omega)]
 ·rw[Ar e]
  by_cases q:k<i
  ·rw[AB q,AB (by omega)]
  ·rw[Ar q,Ar (by omega)]
def E4(roots:List Rq)(l:List Int):List Rq:=l.filterMap fun k=>roots[k.toNat]?
theorem ZO{roots:List Rq}{l:List Int}{j:Nat}{z:Int}{q:Rq}(h:l[j]?=some z)(hq:roots[z.toNat]?=some q):E4 roots (l.take (j+1))=E4 roots (l.take j)++[q]:=by
 unfold E4;rw[Bb,h,List.filterMap_append];simp[hq]
theorem dw(roots:List Rq)(l:List Int):(E4 roots l).length≤l.length:=List.length_filterMap_le ..
theorem dx{roots:List Rq}{l:List Int}{q:Rq}(h:q∈E4 roots l):q∈roots:=by
 unfold E4 at h;obtain⟨k,_,hk⟩:=List.mem_filterMap.1 h;exact Ay hk
def F9(x:List Rl)(roots:List Rq)(kept:List Int)(z:Int):List Int :=
 if GF x (E4 roots (Cf kept z))=0∧(GE x (E4 roots (Cf kept z))).found=false then Cf kept z else kept
def Lc(x:List Rl)(roots:List Rq):Nat→List Int→List Int
 |0,kept=>kept
 |i+1,kept=>Lc x roots i (F9 x roots kept (i:Nat))
def QF(x:List Rl)(roots:List Rq):List Int:=Lc x roots roots.length (Rm roots.length roots.length)
theorem L5{x:List Rl}{roots:List Rq}{i:Nat}{kept:List Int}(h:0<i):Lc x roots i kept=Lc x roots (i-1) (F9 x roots kept ((i:Int)-1)):=by
 obtain⟨m,rfl⟩:∃m,i=m+1:=⟨i-1,by omega⟩;rw[show(((m+1:Nat):Int)-1)=(m:Nat) by omega];rfl
def KA(x:List Rl)(roots:List Rq):Int:=if GF x roots≠0 then GF x roots else if(GE x roots).found=true then 8 else 0
def US(x:List Rl)(roots:List Rq):List Int:=if KA x roots=0 then QF x roots else []
theorem Vu{x:List Rl}(h:GF x []=0):(GE x []).found=true:=by
 unfold GF at h;split at h
 ·rename_i hv;split at h
  ·cases h
  ·rename_i hf;unfold GE;rw[AB ⟨hv,by simpa using hf⟩]
   rfl
 ·cases h
theorem kg{x:List Rl}{roots:List Rq}(h1:GF x roots=0)(h2:(GE x roots).found=false):Rm roots.length roots.length≠[]:=by
 intro e;have hl:=Wl roots.length roots.length;rw[e]at hl;have hr:roots=[]:=AJ hl.symm;subst hr;rw[Vu h1]at h2;cases h2
theorem N3{x:List Rl}{roots:List Rq}{kept:List Int}{z:Int}(h:kept≠[]):F9 x roots kept z≠[]:=by
 unfold F9;split
 ·rename_i hc;intro e;rw[e]at hc
  have:=Vu (x:=x) hc.1
  rw[show E4 roots []=[]from rfl]at hc;rw[this]at hc;cases hc.2
 ·exact h
structure bx(n:Nat)(kept:List Int):Prop where
 rng:∀z∈kept,0≤z∧z<n
 len:kept.length≤n
theorem bx.less{n:Nat}{kept:List Int}(h:bx n kept)(i:Int):bx n (Cf kept i) :=
 ⟨fun z hz=>h.rng z (BL.1 hz).1,Bu (By _ _) h.len⟩
theorem bx.step{n:Nat}{kept:List Int}(h:bx n kept)(x:List Rl)(roots:List Rq)(i:Int):bx n (F9 x roots kept i):=by
 unfold F9;split
 ·exact h.less _
 ·exact h
theorem bx.id(n:Nat):bx n (Rm n n):=⟨fun z hz=>by
 unfold Rm at hz;obtain⟨k,hk,rfl⟩:=Aq.1 hz;rw[Oc]at hk;rw[AB hk];omega,by rw[Wl];exact Ao _⟩
theorem fq{x:List Rl}{roots:List Rq}{e:Int}(h:KA x roots=e)(he:e≠0):GU (.tup [.v (.slice none 0 0),vi e]) (.tup [sl Cr (US x roots),vi (KA x roots)]):=by
 unfold US;rw[h,Ar he];exact GU.tup ⟨.nil,.refl _,trivial⟩
theorem qz{x:List Rl}{roots:List Rq}{kept:List Int}(h:KA x roots=0)(hk:kept=QF x roots):GU (.tup [sl Cr kept,vi 0]) (.tup [sl Cr (US x roots),vi (KA x roots)]):=by
 unfold US;rw[h,AB rfl,hk];exact .refl _
set_option maxHeartbeats 4000000 in
theorem s13(x:List Rl)(ifs:List (List AV))(roots:List Rq)(hx:∀r∈x,Gf r)(hr:∀q∈roots,H4 q)(hn:roots.length≤1000000):PC 13 [Mm x ifs,sl Ap roots] (.tup [sl Cr (US x roots),vi (KA x roots)]):=by
 have tq:(roots.map Ap).length=roots.length:=Lm _;have nN:=tM x ifs roots hx hr;obtain⟨A0,pp⟩:∃A0,A0=GE x roots:=⟨_,rfl⟩;obtain⟨e0,rk⟩:∃e0,e0=GF x roots:=⟨_,rfl⟩;have nN:PC 21 [Mm x ifs,sl Ap roots] (.tup [.agg (Jo A0),vi e0]):=by rw[pp,rk];exact nN
 refine Ps ⟨[2],[(12,2)],[(30,1)],[(50,[10])],[],[],[],[],[],[(200012,8),(200016,11)],[2,4,7,11,12,14,16,21,22,23,24,25,26]⟩ Tryz.func13 rfl (Nz rfl) ?_;refine Yi (Nz rfl) ?_;refine Xi .pure (Xi _ (Yi nN ?_));refine Yi (Nz rfl) ?_;refine Xi ⟨[(1,sl Ap roots),(2,.ref 2 0),(6,.ref 6 0),(7,vi (e0:Int))],[(2,.ro (Ic x ifs)),(6,.cells (Jo A0))],Aa⟩ (Yi ⟨Z4,Z2,Fh,Tv⟩ ?_)
 refine Yi (fun h1=>?_) (fun h1=>?_)
 ·have h1:((e0:Int):Int)≠(0:Int):=h1;exact fq (show KA x roots=e0 by unfold KA;rw[←rk,AB h1]) h1
 have h1:((e0:Int):Int)=(0:Int):=Cs h1;refine Xi ⟨[(1,sl Ap roots),(2,.ref 2 0),(6,.ref 6 0)],[(2,.ro (Ic x ifs)),(6,.cells (Jo A0))],Aa⟩ (Yi ⟨Z3,Z2,Fh,Tv⟩ ?_)
 refine Yi (fun h3=>?_) (fun h3=>?_)
 ·have h3:A0.found=true:=h3;exact fq (show KA x roots=8 by unfold KA;rw[←rk,←pp,Ar (fun h=>h h1),AB h3]) (by decide)
 have h3:A0.found=false:=h3;have vv:=kg (rk.symm.trans h1) (show(GE x roots).found=false by rw[←pp];exact h3);refine Yi (show(0:Int)≤(roots.map Ap).length∧((roots.map Ap).length:Int)≤(roots.map Ap).length∧((roots.map Ap).length:Int)*8≤140737488355328∧((roots.map Ap).length:Int)≤9223372036854775807 by rw[Lm];omega) ?_;refine Xi ⟨[(1,sl Ap roots),(2,.ref 2 0),(8,.msl 30 roots.length)],[(2,.ro (Ic x ifs)),(30,.arr 1 ((Rm roots.length 0).map Cr))],Aa⟩ (Yi ⟨⟨Zr,Zr,⟨(show AV.msl 30 (List.replicate (((roots.map Ap).length:Nat):Int).toNat [vi 0]).length=.msl 30 roots.length by simp),rfl⟩,Tv⟩,⟨Zr,⟨(show HO.arr 1 (List.replicate (((roots.map Ap).length:Nat):Int).toNat [vi 0])=.arr 1 ((Rm roots.length 0).map Cr) by rw[Lm,gK]),rfl⟩,Tv⟩,Fh,Tv⟩ ?_)
 refine Xi {q:Nat // q≤roots.length} (Xi (fun q=>⟨[(1,sl Ap roots),(2,.ref 2 0),(8,.msl 30 roots.length),(32,vi roots.length),(33,vi q.1)],[(2,.ro (Ic x ifs)),(30,.arr 1 ((Rm roots.length q.1).map Cr))],Aa⟩) (Xi (fun q=>roots.length-q.1) (Yi (Xi ⟨0,AL _⟩ ?_) ?_)))
 ·exact⟨Z5,Z2,Fh,Tv⟩
 intro⟨i,i1⟩;have i1:i≤roots.length:=i1;refine Yi (fun h5=>?_) (fun h5=>?_)
 ·have h5:(i:Int)<(roots.length:Int):=h5;have n5:i<roots.length:=by omega
  have g5:roots[i]?=some roots[i]:=Ge n5
  skip
  refine Yi (by show(0:Int)≤i∧(i:Int)<(roots.length:Nat);omega) ?_;refine Yi (show roots.length=((Rm roots.length i).map Cr).length by simp) (Xi [vi 0] (Yi (kO (show i<roots.length by omega)) (Yi (Nz rfl) ?_)));refine Xi ⟨[(1,sl Ap roots),(2,.ref 2 0),(8,.msl 30 roots.length),(32,vi roots.length),(33,vi i)],[(2,.ro (Ic x ifs)),(30,.arr 1 (((Rm roots.length i).map Cr).set i [vi i]))],Aa⟩ (Yi ⟨Z5,Z2,Fh,Tv⟩ ?_)
  refine Yi (Ii i (by omega)) ?_;refine Xi ⟨i+1,by omega⟩ ?_;exact⟨Dl roots.length i (by omega),Z5,⟨Zr,⟨(Ac (HO.arr 1) (kP (show i<roots.length by have q:=h5;omega))),rfl⟩,Tv⟩,Fh,Tv⟩
 have h5:¬((i:Int)<(roots.length:Int)):=h5;have n5:¬i<roots.length:=by omega
 refine Yi (show roots.length=((Rm roots.length i).map Cr).length by rw[Lm,Wl]) ?_;refine Xi ⟨[(1,sl Ap roots),(2,.ref 2 0),(8,sl Cr (Rm roots.length i))],[(2,.ro (Ic x ifs))],Aa⟩ (Yi ⟨Z3,Z1,Fh,Tv⟩ ?_)
 refine Yi (by show Bf (((roots.map Ap).length:Int)-(1:Int));unfold Bf;omega) ?_;refine Yi (Nz rfl) ?_;refine Xi {q:Nat×List Int // q.1≤roots.length∧bx roots.length q.2∧q.2≠[]∧Lc x roots q.1 q.2=QF x roots} (Xi (fun q=>⟨[(1,sl Ap roots),(2,.ref 2 0),(8,sl Cr q.1.2),(10,.ref 10 0)],[(2,.ro (Ic x ifs)),(10,.cells [vi ((q.1.1:Int)-1)])],Aa⟩) (Xi (fun q=>q.1.1) (Yi (Xi ⟨(roots.length,Rm roots.length roots.length),Ao _,.id _,vv,rfl⟩ ?_) ?_)))
 ·exact⟨⟨Zr,Zr,⟨(show sl Cr (Rm roots.length i)=sl Cr (Rm roots.length roots.length) by rw[show i=roots.length by omega]),rfl⟩,Zr,Tv⟩,⟨Zr,⟨(show HO.cells [vi (((roots.map Ap).length:Int)-(1:Int))]=.cells [vi ((roots.length:Int)-1)] by rw[Lm]),rfl⟩,Tv⟩,Fh,Tv⟩
 intro⟨⟨i,kept⟩,i1,k1,k2,k3⟩;have i1:i≤roots.length:=i1;have k1:bx roots.length kept:=k1;have k2:kept≠[]:=k2;have k3:Lc x roots i kept=QF x roots:=k3;have hll:(Cf kept ((i:Int)-1)).length≤roots.length:=(k1.less _).len;refine Yi (fun h7=>?_) (fun h7=>?_)
 ·have h7:(0:Int)≤(((i:Int)-1):Int):=h7;refine Xi (.gen [] 1) (Yi rfl (Bo.imp (vf kept (by have q:=k1.len;unfold CK;omega)) ?_));intro v8 g8 q8;have q8a:=q8.1;have q8b:=q8.2;subst q8a;subst q8b;refine Xi (.gen [(14900,1000)] 1) (Yi rfl (Bo.imp (s34 kept ((i:Int)-1) (by have q:=k1.len;unfold CK;omega) k2) ?_));intro v9 g9 q9;have oP:=q9.1;have oQ:=q9.2;subst oP;subst oQ;refine Yi (show(Cf kept ((i:Int)-1)).length=((Cf kept ((i:Int)-1)).map Cr).length by rw[Lm]) ?_;refine Xi ⟨[(1,sl Ap roots),(2,.ref 2 0),(8,sl Cr kept),(10,.ref 10 0),(11,sl Cr (Cf kept ((i:Int)-1)))],[(2,.ro (Ic x ifs)),(10,.ro [vi ((i:Int)-1)])],Aa⟩ (Yi ⟨Z5,Z2,Fh,Tv⟩ ?_)
  refine Xi {q:Nat // q≤(Cf kept ((i:Int)-1)).length} (Xi (fun q=>⟨[(1,sl Ap roots),(2,.ref 2 0),(8,sl Cr kept),(10,.ref 10 0),(11,sl Cr (Cf kept ((i:Int)-1))),(12,.slice (.id 12 2) ((E4 roots ((Cf kept ((i:Int)-1)).take q.1)).map Ap)),(52,sl Cr (Cf kept ((i:Int)-1))),(53,vi ((Cf kept ((i:Int)-1)).map Cr).length),(54,vi q.1)],[(2,.ro (Ic x ifs)),(10,.ro [vi ((i:Int)-1)]),(12,.tok 2 (E4 roots ((Cf kept ((i:Int)-1)).take q.1)).length)],Aa⟩) (Xi (fun q=>(Cf kept ((i:Int)-1)).length-q.1) (Yi (Xi ⟨0,AL _⟩ ?_) ?_)))
  ·exact⟨Z9,Z3,Fh,Tv⟩
  intro⟨j,j1⟩;have j1:j≤(Cf kept ((i:Int)-1)).length:=j1;refine Yi (fun Wb=>?_) (fun Wb=>?_)
  ·have Wb:(j:Int)<(((Cf kept ((i:Int)-1)).map Cr).length:Int):=Wb;have n10:j<(Cf kept ((i:Int)-1)).length:=by have q:=Wb;rw[Lm]at q;omega
   have g10:(Cf kept ((i:Int)-1))[j]?=some (Cf kept ((i:Int)-1))[j]:=Ge n10;have nj:j<(Cf kept ((i:Int)-1)).length:=by have q:=Wb;rw[Lm]at q;omega
   refine Xi [vi ((Cf kept ((i:Int)-1))[j])] (Yi (Yi (Nn j) (B5 (Ge nj))) (Yi rfl ?_));have mo:(E4 roots ((Cf kept ((i:Int)-1)).take j)).length≤roots.length:=by have a:=dw roots ((Cf kept ((i:Int)-1)).take j);have b:=(k1.less ((i:Int)-1)).len;rw[AK]at a;omega
   have hz:=k1.rng _ (BL.1 (Aj nj)).1;refine A8 (show ∃rq,roots[((Cf kept ((i:Int)-1))[j]).toNat]?=some rq from⟨_,Ge (show((Cf kept ((i:Int)-1))[j]).toNat<roots.length by omega)⟩) (fun rq pF=>?_);refine Xi (Ap rq) (Yi (Yi hz.1 (B5 pF)) (Yi rfl ?_));refine Yi (Nz rfl) ?_;have eP:B1 2 [(Ap rq)]∧((E4 roots ((Cf kept ((i:Int)-1)).take j)).map Ap).length=(E4 roots ((Cf kept ((i:Int)-1)).take j)).length∧(((E4 roots ((Cf kept ((i:Int)-1)).take j)).map Ap).length+([(Ap rq)]:List (List AV)).length)*40≤140737488355328∧((E4 roots ((Cf kept ((i:Int)-1)).take j)).map Ap).length+([(Ap rq)]:List (List AV)).length≤9223372036854775807:=⟨⟨rfl,trivial⟩,(by rw[Lm]),(by simp only[Lm,Ak,Al];omega),(by simp only[Lm,Ak,Al];omega)⟩;refine Yi eP ?_;refine Xi ⟨[(1,sl Ap roots),(2,.ref 2 0),(8,sl Cr kept),(10,.ref 10 0),(11,sl Cr (Cf kept ((i:Int)-1))),(12,.slice (.id 12 2) (((E4 roots ((Cf kept ((i:Int)-1)).take j)).map Ap)++[(Ap rq)])),(52,sl Cr (Cf kept ((i:Int)-1))),(53,vi ((Cf kept ((i:Int)-1)).map Cr).length),(54,vi j)],[(2,.ro (Ic x ifs)),(10,.ro [vi ((i:Int)-1)]),(12,.tok 2 (((E4 roots ((Cf kept ((i:Int)-1)).take j)).map Ap).length+([(Ap rq)]:List (List AV)).length))],Aa⟩ (Yi ⟨Z9,Z3,Fh,Tv⟩ ?_)
   refine Yi (Ii j (by omega)) ?_;have kK:E4 roots ((Cf kept ((i:Int)-1)).take (j+1))=E4 roots ((Cf kept ((i:Int)-1)).take j)++[rq]:=ZO (Ge nj) pF;refine Xi ⟨j+1,nj⟩ ?_;exact⟨by show(Cf kept ((i:Int)-1)).length-(j+1)<(Cf kept ((i:Int)-1)).length-j;omega,⟨Zr,Zr,Zr,Zr,Zr,⟨(show AV.slice (.id 12 2) ((E4 roots ((Cf kept ((i:Int)-1)).take j)).map Ap++[Ap rq])=.slice (.id 12 2) ((E4 roots ((Cf kept ((i:Int)-1)).take (j+1))).map Ap) by rw[kK,AA];rfl),rfl⟩,Zr,Zr,Zr,Tv⟩,⟨Zr,Zr,⟨(show HO.tok 2 (((E4 roots ((Cf kept ((i:Int)-1)).take j)).map Ap).length+([Ap rq]:List (List AV)).length)=.tok 2 (E4 roots ((Cf kept ((i:Int)-1)).take (j+1))).length by rw[kK,Ad,Lm];rfl),rfl⟩,Tv⟩,Fh,Tv⟩
  have Wb:¬((j:Int)<(((Cf kept ((i:Int)-1)).map Cr).length:Int)):=Wb;have n10:¬j<(Cf kept ((i:Int)-1)).length:=by have q:=Wb;rw[Lm]at q;omega
  refine Xi ⟨[(1,sl Ap roots),(2,.ref 2 0),(8,sl Cr kept),(10,.ref 10 0),(11,sl Cr (Cf kept ((i:Int)-1))),(12,.slice (.id 12 2) ((E4 roots ((Cf kept ((i:Int)-1)).take j)).map Ap))],[(2,.ro (Ic x ifs)),(10,.ro [vi ((i:Int)-1)]),(12,.tok 2 (E4 roots ((Cf kept ((i:Int)-1)).take j)).length)],Aa⟩ (Yi ⟨Z6,Z3,Fh,Tv⟩ ?_)
  refine Yi (Nz rfl) ?_;have hs:=tM x ifs (E4 roots (Cf kept ((i:Int)-1))) hx (fun q hq=>hr q (dx hq));refine A8 (show ∃A1,A1=GE x (E4 roots (Cf kept ((i:Int)-1)))from⟨_,rfl⟩) (fun A1 cf=>?_);refine A8 (show ∃e1,e1=GF x (E4 roots (Cf kept ((i:Int)-1)))from⟨_,rfl⟩) (fun e1 rl=>?_);have hs:PC 21 [Mm x ifs,sl Ap (E4 roots (Cf kept ((i:Int)-1)))] (.tup [.agg (Jo A1),vi e1]):=by rw[cf,rl];exact hs
  have hs:PC 21 [Mm x ifs,sl Ap (E4 roots ((Cf kept ((i:Int)-1)).take j))] (.tup [.agg (Jo A1),vi e1]):=by rw[Az (by have q:=Wb;rw[Lm]at q;omega)];exact hs
  refine Xi .pure (Xi _ (Yi hs ?_));refine Yi (Nz rfl) ?_;refine Xi ⟨[(1,sl Ap roots),(2,.ref 2 0),(8,sl Cr kept),(10,.ref 10 0),(11,sl Cr (Cf kept ((i:Int)-1))),(15,.ref 15 0),(16,vi (e1:Int))],[(2,.ro (Ic x ifs)),(10,.ro [vi ((i:Int)-1)]),(15,.cells (Jo A1))],Aa⟩ (Yi ⟨Z7,Z3,Fh,Tv⟩ ?_)
  refine Yi (fun WO=>?_) (fun WO=>?_)
  ·have WO:((e1:Int):Int)=(0:Int):=WO;refine Yi (fun Xu=>?_) (fun Xu=>?_)
   ·have Xu:A1.found=true:=Xu;refine Xi ⟨[(1,sl Ap roots),(2,.ref 2 0),(8,sl Cr kept),(10,.ref 10 0)],[(2,.ro (Ic x ifs)),(10,.ro [vi ((i:Int)-1)])],Aa⟩ (Yi ⟨Z4,Z2,Fh,Tv⟩ ?_)
    refine Xi ⟨[(1,sl Ap roots),(2,.ref 2 0),(8,sl Cr kept),(80,vi ((i:Int)-1))],[(2,.ro (Ic x ifs))],Aa⟩ (Yi ⟨Z4,Z1,Fh,Tv⟩ ?_)
    refine Yi (Nz rfl) ?_;refine Xi ⟨[(1,sl Ap roots),(2,.ref 2 0),(8,sl Cr kept),(10,.ref 10 0)],[(2,.ro (Ic x ifs)),(10,.cells [vi ((i:Int)-1)])],Aa⟩ (Yi ⟨Z4,Z2,Fh,Tv⟩ ?_)
    refine Yi (by show Bf ((((i:Int)-1):Int)-(1:Int));unfold Bf;omega) ?_;refine Yi (Nz rfl) ?_;have nU:0<i:=by omega
    have Gy:F9 x roots kept ((i:Int)-1)=kept:=by unfold F9;rw[Ar];rintro⟨c1,c2⟩;rw[←cf,Xu]at c2;cases c2
    have Dy:kept≠[]:=by rw[←Gy];exact N3 k2
    have rD:bx roots.length kept:=by rw[←Gy];exact k1.step x roots _
    have GV:Lc x roots (i-1) kept=QF x roots:=by rw[←k3,L5 nU,Gy]
    refine Xi ⟨(i-1,kept),by show i-1≤roots.length;omega,rD,Dy,GV⟩ ?_;exact⟨by show(i-1)<i;omega,Z4,⟨Zr,⟨(show HO.cells [vi (((i:Int)-1)-(1:Int))]=.cells [vi (((i-1:Nat):Int)-1)] by rw[show((i-1:Nat):Int)=(i:Int)-1 by omega]),rfl⟩,Tv⟩,Fh,Tv⟩
   have Xu:A1.found=false:=Xu;refine Xi ⟨[(1,sl Ap roots),(2,.ref 2 0),(10,.ref 10 0),(11,sl Cr (Cf kept ((i:Int)-1)))],[(2,.ro (Ic x ifs)),(10,.ro [vi ((i:Int)-1)])],Aa⟩ (Yi ⟨Z4,Z2,Fh,Tv⟩ ?_)
   refine Xi ⟨[(1,sl Ap roots),(2,.ref 2 0),(8,sl Cr (Cf kept ((i:Int)-1))),(10,.ref 10 0)],[(2,.ro (Ic x ifs)),(10,.ro [vi ((i:Int)-1)])],Aa⟩ (Yi ⟨Z4,Z2,Fh,Tv⟩ ?_)
   refine Xi ⟨[(1,sl Ap roots),(2,.ref 2 0),(8,sl Cr (Cf kept ((i:Int)-1))),(80,vi ((i:Int)-1))],[(2,.ro (Ic x ifs))],Aa⟩ (Yi ⟨Z4,Z1,Fh,Tv⟩ ?_)
   refine Yi (Nz rfl) ?_;refine Xi ⟨[(1,sl Ap roots),(2,.ref 2 0),(8,sl Cr (Cf kept ((i:Int)-1))),(10,.ref 10 0)],[(2,.ro (Ic x ifs)),(10,.cells [vi ((i:Int)-1)])],Aa⟩ (Yi ⟨Z4,Z2,Fh,Tv⟩ ?_)
   refine Yi (by show Bf ((((i:Int)-1):Int)-(1:Int));unfold Bf;omega) ?_;refine Yi (Nz rfl) ?_;have nU:0<i:=by omega
   have Gy:F9 x roots kept ((i:Int)-1)=(Cf kept ((i:Int)-1)):=by unfold F9;rw[AB ⟨by rw[←rl];exact WO,by rw[←cf];exact Xu⟩]
   have Dy:(Cf kept ((i:Int)-1))≠[]:=by rw[←Gy];exact N3 k2
   have rD:bx roots.length (Cf kept ((i:Int)-1)):=by rw[←Gy];exact k1.step x roots _
   have GV:Lc x roots (i-1) (Cf kept ((i:Int)-1))=QF x roots:=by rw[←k3,L5 nU,Gy]
   refine Xi ⟨(i-1,(Cf kept ((i:Int)-1))),by show i-1≤roots.length;omega,rD,Dy,GV⟩ ?_;exact⟨by show(i-1)<i;omega,Z4,⟨Zr,⟨(show HO.cells [vi (((i:Int)-1)-(1:Int))]=.cells [vi (((i-1:Nat):Int)-1)] by rw[show((i-1:Nat):Int)=(i:Int)-1 by omega]),rfl⟩,Tv⟩,Fh,Tv⟩
  have WO:¬(((e1:Int):Int)=(0:Int)):=WO;refine Xi ⟨[(1,sl Ap roots),(2,.ref 2 0),(8,sl Cr kept),(10,.ref 10 0)],[(2,.ro (Ic x ifs)),(10,.ro [vi ((i:Int)-1)])],Aa⟩ (Yi ⟨Z4,Z2,Fh,Tv⟩ ?_)
  refine Xi ⟨[(1,sl Ap roots),(2,.ref 2 0),(8,sl Cr kept),(80,vi ((i:Int)-1))],[(2,.ro (Ic x ifs))],Aa⟩ (Yi ⟨Z4,Z1,Fh,Tv⟩ ?_)
  refine Yi (Nz rfl) ?_;refine Xi ⟨[(1,sl Ap roots),(2,.ref 2 0),(8,sl Cr kept),(10,.ref 10 0)],[(2,.ro (Ic x ifs)),(10,.cells [vi ((i:Int)-1)])],Aa⟩ (Yi ⟨Z4,Z2,Fh,Tv⟩ ?_)
  refine Yi (by show Bf ((((i:Int)-1):Int)-(1:Int));unfold Bf;omega) ?_;refine Yi (Nz rfl) ?_;have nU:0<i:=by omega
  have Gy:F9 x roots kept ((i:Int)-1)=kept:=by unfold F9;rw[Ar];rintro⟨c1,c2⟩;exact WO (rl.trans c1)
  have Dy:kept≠[]:=by rw[←Gy];exact N3 k2
  have rD:bx roots.length kept:=by rw[←Gy];exact k1.step x roots _
  have GV:Lc x roots (i-1) kept=QF x roots:=by rw[←k3,L5 nU,Gy]
  refine Xi ⟨(i-1,kept),by show i-1≤roots.length;omega,rD,Dy,GV⟩ ?_;exact⟨by show(i-1)<i;omega,Z4,⟨Zr,⟨(show HO.cells [vi (((i:Int)-1)-(1:Int))]=.cells [vi (((i-1:Nat):Int)-1)] by rw[show((i-1:Nat):Int)=(i:Int)-1 by omega]),rfl⟩,Tv⟩,Fh,Tv⟩
 have h7:¬((0:Int)≤(((i:Int)-1):Int)):=h7;have hi:i=0:=by omega
 have mj:kept=QF x roots:=by have q:=k3;rw[hi]at q;exact q
 exact qz (show KA x roots=0 by unfold KA;rw[←rk,←pp,Ar (fun h=>h h1),Ar (by rw[h3];decide)]) mj
end Go.Eng

namespace Go.Eng
open Go.Proofs
section
variable {x:List Rl}{roots:List Rq}
-- numbers and roots
end
end Go.Eng
