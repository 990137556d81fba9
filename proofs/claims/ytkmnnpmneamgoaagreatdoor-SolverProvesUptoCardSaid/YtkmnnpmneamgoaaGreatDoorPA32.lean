/- Lemmas 32. -/
import Derived.Test.YtkmnnpmneamgoaaGreatDoorPA31
import Derived.Test.YtkmnnpmneamgoaaGreatDoorPA14
import Derived.Shelf.SlicesE.DeleteFunc
import Derived.Shelf.SlGeneric
import Derived.Ground.SlgfProg
set_option maxHeartbeats 4000000
namespace Go.Eng
open Go.Proofs
variable {C A:List (Value×AV)}{roots:List Rq}{o:List (List Sl)}{dec:List Cd}{ob:Bool->Obj}{yl n M:Nat}{O:HO}(x:List Rl)(ifs:List (List AV))
theorem ce{x:List Rl}(h:(D5 roots dec).2=[]):CQ x roots (n+1) dec=[dec]:=by unfold CQ;rw[h]
theorem leaves_cons{x:List Rl}{n0:Nd}{l:List Nd}(h:(D5 roots dec).2=n0::l) :
  CQ x roots (n+1) dec=LL (XF x roots n dec (n0::l)) (Be x (D5 roots dec).1) (Be x (D5 roots dec).1).length:=by
 unfold CQ LL;rw[h,F3]
theorem s63{x:List Rl}{roots:List Rq}{C A:List (Value×AV)}{Y:Gh->World->Prop}{yl M:Nat}{ob:Bool->Obj}(hE:sa x roots C A)(Gw:∀dec out,vO (vH roots C A yl (ob true) dec out) Y)
  (hy:∀dec out,dec.length<=256->out.length<=M->G6 Tryz.prog Y yl [sl Ag (C3 (Au dec))] (Af (vH roots C A yl (ob true) dec out) Ae) (VQ roots C A yl M ob dec (out++[C3 (Au dec)]))) :
  ∀(n:Nat) {dec:List Cd} {out:List (List Sl)},Dp x dec->FK x dec<n->out.length<=M ->
  FZ Tryz.prog Y 63 (HU yl) (Af (vH roots C A yl (ob true) dec out) Ae) (VQ roots C A yl M ob dec (out++PR (CQ x roots n dec)))
 |0,_,_,_,h,_=>by omega
 |n+1,dec,out,hd,hn,hM=>by
  have hx:=hE.hx;have hr:=hE.hr;have Kl:=Fb hx;have hdl:=OZ hd;have ly:dec.length<=256:=by have:=Kl.1;omega
  have Jh:∀c∈dec,c.rel.reqs.length<=16:=fun c hc=>Kl.2 _ (hd.cand c hc).1;have IR:=s64 roots C A JT dec [] (Bl (JD hr) aa2) aa0 fun c hc=>Bl (Jh c hc) aa2;obtain⟨N,hN⟩:∃N,N=(D5 roots dec).2:=⟨_,rfl⟩;obtain⟨q,hq⟩:∃q,q=(D5 roots dec).1:=⟨_,rfl⟩;rw[<-hN,<-hq]at IR;have ve:N.length<=10000:=by
   have h1:=Wj (roots:=roots) dec;have h2:(CY roots dec).length=(GY roots dec).length:=by rw[<-Im,Lm]
   have h3:=kD Jh;have h4:=JD hr;rw[<-hN]at h1;unfold GY at h2;rw[Ay]at h2;omega
  cases hNc:N with
  |nil=>
   rw[hNc]at hN IR;have jy:=ce (x:=x) (n:=n) hN.symm;exact AdR x roots C A Y yl M n ob dec out q [] rfl ly (by rw[Jv];exact hd.nodup) (Gw dec out) IR jy (hy dec out ly hM)
  |cons n0 l=>
   rw[hNc]at hN IR;have nX:=JA hN.symm;have jy:=leaves_cons (x:=x) (n:=n) hN.symm;rw[<-hq]at nX jy;have Sh:∀nd∈n0::l,nd∈CY roots dec:=fun nd h=>((nX.mem nd).1 h).1;have few:∀nd∈CY roots dec,BL nd.rq.set:=fun nd h=>by
    rcases KP h with ⟨k,r,h1,rfl⟩ | ⟨c,hc,k,r,h1,rfl⟩
    .exact(hE.fr r (Ax h1)).1
    .exact((hE.fx _ (hd.cand c hc).1).2 r (Ax h1)).1
   have lN:∀c∈Be x q,Dp x (dec++[c])/\c.rel.path=q/\c.rel∈x:=fun c hc=>by
    obtain⟨c1,c2⟩:=GB hc;exact⟨hd.snoc c2 (by rw[c1];exact nX.undone),c1,c2.1⟩
   have Fu:∀(i:Nat) (h:i<(Be x q).length),(Be x q)[i]∈Be x q:=fun i h=>Ak h
   have hL:zR x roots C A Y yl M n ob dec q n0 l (Be x q):={
    hdl:=ly
    hcl:=Bl (Qb x q) Kl.1
    hnl:=by rw[hNc]at ve;unfold BL;omega
    hnq:=fun nd h=>few nd (Sh nd h)
    hcr:=fun i h=>by have:=Kl.2 _ (lN _ (Fu i h)).2.2;omega
    hcs_:=fun i h r Vh=>((hE.fx _ (lN _ (Fu i h)).2.2).2 r Vh).1
    hkey:=fun i h=>by
     have b:=(lN _ (Fu i h)).2.1;unfold Au;rw[BD,BD];show _=_++[[vs (Be x q)[i].rel.path,vi (Be x q)[i].rel.ver.a,vi (Be x q)[i].rel.ver.b,vi (Be x q)[i].rel.ver.c]];rw[b]
    ih:=fun i h Gv Ai0 hM'=>by
     obtain⟨a,b,c3⟩:=lN _ (Fu i h);obtain⟨_,c2⟩:=GB (Fu i h);have pR:FK x (dec++[(Be x q)[i]])<n:=by have:=N6 (dec:=dec) ⟨c2.1,c2.2.1⟩ (by rw[b];exact nX.undone);omega
     exact s63 hE Gw hy n a pR hM' }
   by_cases hcs:Be x q=[]
   .exact AdQ x roots C A Y yl M n ob dec out q n0 l (Be x q) hL (Gw dec out) IR hcs (hE.c3 q hcs) jy hM
   .exact AdP x roots C A Y yl M n ob dec out q n0 l (Be x q) hL (Gw dec out) IR (hE.c1 q) (fun hc=>hcs (hE.c2 q hc)) jy hM
theorem uy{r0:Nat}{Qh:Cx}{P:Program}{N:Nat}{fn:Func}{res:AV}{b rest:Code}{st:St}(σF σ:HJ)(H0 Hn:List (Nat×HO))(gf:Nat)(caps:List AV){PQ s:Nat}{ps:Array Tmp}{Es body:Code}
  (hb:b=.block PQ (.rangeFunc (.tmp s) ps Es body)) (k1:(D7 σF&&DL st.h 0 0&&CI σF 0 0)=true) (k2:Fo σF st.h=Af H0 Ae) (k0:Af H0 Ae r0=.free) (k3:∀o,(EU σ&&FJ σ ((r0,o)::H0))=true) (k4:∀o,FJ σ ((r0,o)::Hn)=true)
  (k5:ren (Cf σF) st.h (st.t s)=.clo gf caps)
  (k6:∀(l D:Nat) (f' : FuncId) (tm:Array Value),tm.size=N->NA P (fun g w=>∀i,AY g w (Az (Af ((r0,.raw l (.loop (Fv f' tm ps Es body D .ready)))::H0) Ae)) (ren (Cf σF) st.h (st.t i)) (tm.getD i undef)) σ gf
   (.v (.func (.yield l) #[] #[])::caps) (Af ((r0,.raw l (.loop (Fv f' tm ps Es body D .ready)))::H0) Ae) fun _ h'=>∃b,h'=Af ((r0,.raw l (.loop (Uy f' tm ps Es body D PQ b)))::Hn) Ae)
  (k7:Dr N rest=true) (k8:∀o,M0 Qh rest (bv Qh fn.results.toList fun r=>Ea r res) ⟨fun i=>ren (Cf σF) st.h (st.t i),Af ((r0,o)::Hn) Ae⟩) (k9:L5 [] body=true:=by kernel_rfl):RfB r0 Qh P N fn res b rest st:=
 ⟨σF,σ,H0,Hn,PQ,s,ps,Es,body,gf,caps,hb,k1,k2,k0,k3,k4,k5,k6,k7,k9,k8⟩
abbrev vL:HJ:=[(1009,1009),(1000,1000),(1001,1001),(1002,1002),(1003,1003),(1004,1004),(1005,1005),(1007,1007),(1008,1008)]
abbrev vM:HJ:=[(1009,1009),(1000,1000),(1001,1001),(1002,1002),(1003,1003),(1004,1004),(1005,1005),(3,1006),(1007,1007),(1008,1008)]
abbrev uH(roots:List Rq)(C A:List (Value×AV))(out:List (List Sl)):List (Nat×HO):=
 [(1000,.cells (PS roots C A JT [] 0)),(1001,.tok 6 0),(1002,.tok 1 0),(1003,.map Eh []),(1004,.arr 1 []),(1005,.cells [.ref 1000 0]),(1007,.cells [.slice (.id 1008 1) (out.map Dd)]),(1008,.tok 1 out.length)]
noncomputable abbrev cxw(pl:Md)(l:Nat)(Y:Gh->World->Prop):Cx:=⟨Tryz.prog,nK,pl,true,0,fun l' σ' g w=>l'=l->σ'=vM->Y g w⟩
theorem r7{i:Nat}(h:Az (Af ((1009,O)::uH roots C A o) Ae) i):i=1009\/i=1000\/i=1001\/i=1002\/i=1003\/i=1004\/i=1005\/i=1007\/i=1008:=by
 unfold Az at h
 by_cases e9:i=1009
 .exact .inl e9
 by_cases e0:i=1000
 .exact .inr (.inl e0)
 by_cases e1:i=1001
 .exact .inr (.inr (.inl e1))
 by_cases e2:i=1002
 .exact .inr (.inr (.inr (.inl e2)))
 by_cases e3:i=1003
 .exact .inr (.inr (.inr (.inr (.inl e3))))
 by_cases e4:i=1004
 .exact .inr (.inr (.inr (.inr (.inr (.inl e4)))))
 by_cases e5:i=1005
 .exact .inr (.inr (.inr (.inr (.inr (.inr (.inl e5))))))
 by_cases e6:i=1007
 .exact .inr (.inr (.inr (.inr (.inr (.inr (.inr (.inl e6)))))))
 by_cases e7:i=1008
 .exact .inr (.inr (.inr (.inr (.inr (.inr (.inr (.inr e7)))))))
 exfalso;apply h
 simp only[Af,CC e9,CC e0,CC e1,CC e2,CC e3,CC e4,CC e5,CC e6,CC e7,Gf];rfl
theorem r8{o':List (List Sl)}{ob ob' : Obj}:∀i,Az (Af ((1009,.raw yl ob)::uH roots C A o) Ae) i->Az (Af (vH roots C A yl ob' dec o') Ae) i:=fun i h=>by
 rcases r7 h with rfl | rfl | rfl | rfl | rfl | rfl | rfl | rfl | rfl<;>(intro q;cases q)
theorem y9:∀i,Az (Af ((1009,O)::uH roots C A o) Ae) i->G3 vM i=G3 vL i:=fun i h=>by
 rcases r7 h with rfl | rfl | rfl | rfl | rfl | rfl | rfl | rfl | rfl<;>rfl
theorem m6{σ σ' : HJ}{U:Nat->Prop}(h:∀i,U i->G3 σ' i=G3 σ i){tm:Array Value}{env:Nat->AV} :
  ∀g w,(∀i,AY (CF σ g) w U (env i) (tm.getD i undef))->∀i,AY (CF σ' g) w U (env i) (tm.getD i undef):=fun g w q=>
 (qJ (R:=fun _=>True) h g w ⟨trivial,q⟩).2
theorem s30(roots:List Rq)(C A:List (Value×AV))(s:SS)(dec:List Cd)(st:List (List Sk)):A6 Tryz.prog 30 [.ref 1000 0] (Af (Ie roots C A s dec st) Ae) fun r h'=>r=.clo 62 [.ref 2000 0]/\h'=Af (Ie roots C A s dec st++[(2000,.cells [.ref 1000 0])]) Ae:=by
 refine Bi (IB De) [(1000,1000),(1001,1001),(1002,1002),(1003,1003),(1004,1004),(1,2000)] rfl Bz hm rfl Tryz.func30 aa3 rfl (Nz rfl) aa3 rfl ?_;exact Xi _ (Yi (.refl _) Zr)
theorem s62{x:List Rl}{Y0 Y:Gh->World->Prop}(hE:sa x roots C A)(Gw:∀dec out,vO (vH roots C A yl (ob true) dec out) Y)(hy:∀dec out,dec.length<=256->out.length<=M->G6 Tryz.prog Y yl [sl Ag (C3 (Au dec))] (Af (vH roots C A yl (ob true) dec out) Ae) (VQ roots C A yl M ob dec (out++[C3 (Au dec)])))(tr:∀g w,Y0 (CF vL g) w->Y (CF vM g) w) :
  NA Tryz.prog Y0 vL 62 [.v (.func (.yield yl) #[] #[]),.ref 1005 0] (Af ((1009,.raw yl (ob true))::uH roots C A []) Ae) fun _ h'=>∃b,h'=Af ((1009,.raw yl (ob b))::uH roots C A ((PR (CQ x roots (x.length+1) [])).take M)) Ae:=by
 have pY:=s63 hE Gw hy (x.length+1) (dec:=[]) (out:=[]) (.nil x) (Nat.lt_succ_of_le (Dz _ _)) (Ap _);refine gQ (l:=yl) (cxw (pC [2] []) yl Y) vL vM rfl Bz hm rfl Tryz.func62 aa3 rfl (Nz rfl) aa3 rfl rfl tr (Yi ?_ ?_)
 .exact Nz rfl
 refine Xi (.geny vM 0) (Yi rfl (FZ.imp (FZ.pre pY (fun g w q=>q yl rfl rfl)) ?_));intro v g q;have q1:=q.1;have q2:=q.2;subst q1;subst q2;exact⟨_,rfl⟩
theorem za{o:Obj}{out:List (List Sl)}{es:List (List AV)}{k:Nat}(h1:es=out.map Dd)(h2:k=out.length) :
  Af [(1009,.raw yl o),(1000,.cells (PS roots C A JT dec 0)),(1001,.tok 6 0),(1002,.tok 1 0),(1003,.map Eh []),(1004,.arr 1 []),(1005,.cells [.ref 1000 0]),(1006,.cells [.clo 63 (HU yl)]),(1007,.cells [.slice (.id 1008 1) es]),(1008,.tok 1 k)] Ae=Af (vH roots C A yl o dec out) Ae:=by
 subst h1;subst h2;rfl
theorem VQ.eq{r:AV}{h1 h2:Nat->HO}(hq:VQ roots C A yl M ob dec o r h1)(e:h2=h1):VQ roots C A yl M ob dec o r h2:=by subst e;exact hq
theorem VQ.at{roots:List Rq}{C A:List (Value×AV)}{yl M:Nat}{ob:Bool->Obj}{dec:List Cd}{out:List (List Sl)}{s:List Sl}(h:out.length=M):VQ roots C A yl M ob dec (out++[s]) (vb false) (Af (vH roots C A yl (ob false) dec out) Ae):=by
 have q:=VQ.of_gt (roots:=roots) (C:=C) (A:=A) (yl:=yl) (M:=M) (ob:=ob) (dec:=dec) (o':=out++[s]) (o:=out++[s]) (by rw[Ay,AO];omega) ⟨[],(DV _).symm⟩
 rwa [JN h]at q
def aR(roots:List Rq)(m:Int):Int:=if DY x roots=false\/m<0\/1024<m then 1 else 0
def fu(roots:List Rq)(m:Int):List (List Sl):=if aR x roots m=0 then(PR (CQ x roots (x.length+1) [])).take m.toNat else []
theorem uA(roots:List Rq)(Gi:Int)(hx:∀r∈x,E4 r)(hr:∀q∈roots,HP q)(hv:DY x roots=true)(xR:0<=Gi)(zB:Gi<=1024) :
  PC 10 [Il x ifs,sl Ac roots,vi Gi] (.tup [sl Dd ((PR (CQ x roots (x.length+1) [])).take Gi.toNat),vi 0]):=by
 obtain⟨v0,v1⟩:=UX hv;have KG:=vF x ifs roots hx hr;rw[hv]at KG;refine iM 1009 (br ⟨[3,5],[],[],[],[],[],[],[(22,(8,0,60,1))],[],[],[1,2,3,8]⟩) (IB De) rfl Bz rfl Bz hm rfl rfl Tryz.func10 aa3 rfl (Nz rfl) aa3 3 (fun _ _=>Zr) (cU [(1,sl Ac roots),(3,.ref 3 0),(5,.ref 5 0)] [(3,.ro (Ic x ifs)),(5,.ro [vi (Gi:Int)])] Z3 Z2 (yN (Xi .pure (Xi _ (Yi KG (Yi (fun h1=>?_) (fun h1=>?_)))))))
 .have h1:((Gi:Int):Int)<(0:Int):=h1;exact absurd h1 aa0
 have h1:¬(((Gi:Int):Int)<(0:Int)):=h1;refine Yi (fun h2=>?_) (fun h2=>?_)
 .have h2:(1024:Int)<((Gi:Int):Int):=h2;exact absurd h2 aa0
 have h2:¬((1024:Int)<((Gi:Int):Int)):=h2;refine cU [(1,sl Ac roots),(3,.ref 3 0),(5,.ref 5 0)] [(3,.ro (Ic x ifs)),(5,.ro [vi (Gi:Int)])] Z3 Z2 (yN (Xi (.gen [] 5) (Yi rfl ((zO x ifs roots hx v0).imp ?_))));intro v g q;refine Al q (fun L q=>?_);have q1:=q.2.1;have q2:=q.2.2;have qp:=q.1;subst q1;subst q2;have hE:=kz hx hr v0 v1 qp;refine Xi (.gen [(12400,1000),(12401,1001),(12402,1002),(12403,1003),(12404,1004)] 1) (Yi rfl (A6.imp (s30 roots (mC x) (L.map (kA x)) JT [] []) ?_));intro v2 g2 q3;have q3a:=q3.1;have q3b:=q3.2;subst q3a;subst q3b;refine uy (r0:=1009) [(12400,1000),(12401,1001),(12402,1002),(12403,1003),(12404,1004),(12500,1005),(8,1007),(60,1008)] vL (uH roots (mC x) (L.map (kA x)) []) (uH roots (mC x) (L.map (kA x)) ((PR (CQ x roots (x.length+1) [])).take Gi.toNat)) 62 [.ref 1005 0] rfl aa3 aa3 rfl (fun _=>by kernel_rfl) (fun _=>by kernel_rfl) aa3 (fun l9 D9 f9 tm9 rV=>s62 (M:=Gi.toNat) (ob:=fun b=>.loop (Uy f9 tm9 _ _ _ D9 0 b)) hE (fun dec out=>m5 (σ:=fh) aa3 r8) (fun dec out hdl IF=>jo 1009 (σ:=fh) (IB De) rfl Bz hm rfl aa3 rfl (by rfl) rV aa3 aa3 aa3 r8 ?_) (m6 y9)) aa3 (fun _=>?_)
 .refine Yi rfl (Yi (fun h9=>?_) (fun h9=>?_))
  .have h9:((out.map Dd).length:Int)=Gi:=h9;have e9:out.length=Gi.toNat:=by rw[Lm]at h9;omega
   exact Yi rfl (VQ.at e9)
  have h9:¬((out.map Dd).length:Int)=Gi:=h9;have l9' : out.length<Gi.toNat:=by rw[Lm]at h9;omega
  have b9:A7 1 [Dd (C3 (Au dec))]/\(out.map Dd).length=out.length/\((out.map Dd).length+([Dd (C3 (Au dec))]:List (List AV)).length)*24<=140737488355328/\(out.map Dd).length+([Dd (C3 (Au dec))]:List (List AV)).length<=9223372036854775807:=
   ⟨⟨rfl,trivial⟩,Lm ..,by rw[Lm,AO];omega,by rw[Lm,AO];omega⟩
  refine Yi b9 (Yi ?_ ?_)
  .exact Nz rfl
  have e9:(out++[C3 (Au dec)]).map Dd=out.map Dd++[Dd (C3 (Au dec))]:=by rw[BD];rfl
  have e8:(out++[C3 (Au dec)]).length=(out.map Dd).length+1:=by rw[Ay,Lm];rfl
  exact Yi rfl (VQ.eq (VQ.of_le rfl (by rw[Ay,AO];omega)) (za e9.symm e8.symm))
 exact .refl _
theorem qO(roots:List Rq)(Gi:Int)(hx:∀r∈x,E4 r)(hr:∀q∈roots,HP q)(AbM:DY x roots=false\/Gi<0\/1024<Gi) :
  PC 10 [Il x ifs,sl Ac roots,vi Gi] (.tup [sl Dd ([]:List (List Sl)),vi 1]):=by
 have KG:=vF x ifs roots hx hr;refine Ps (pC [3,5] [1,2,3,8]) Tryz.func10 rfl (Nz rfl) (cU [(1,sl Ac roots),(3,.ref 3 0),(5,.ref 5 0)] [(3,.ro (Ic x ifs)),(5,.ro [vi (Gi:Int)])] Z3 Z2 (yN (AA (Bt (DY x roots)) (fun h1=>?_) (fun h1=>?_))))
 .have h1:(DY x roots)=true:=h1;have Pf:=KG;rw[show(DY x roots)=true from h1]at Pf;refine Xi .pure (Xi _ (Yi Pf (Yi (fun h3=>?_) (fun h3=>?_))))
  .have h3:((Gi:Int):Int)<(0:Int):=h3;refine cU [] [] Tv Tv ?_
   exact .tup ⟨.nil,.refl _,trivial⟩
  have h3:¬(((Gi:Int):Int)<(0:Int)):=h3;refine Yi (fun h5=>?_) (fun h5=>?_)
  .have h5:(1024:Int)<((Gi:Int):Int):=h5;refine cU [] [] Tv Tv ?_
   exact .tup ⟨.nil,.refl _,trivial⟩
  have h5:¬((1024:Int)<((Gi:Int):Int)):=h5;have hv1:DY x roots=true:=h1;exact absurd AbM (by rintro(c | c | c);exact absurd (c.symm.trans hv1) aa2;omega;omega)
 have h1:(DY x roots)=false:=h1;have rE:=KG;rw[show(DY x roots)=false from h1]at rE;refine Xi .pure (Xi _ (Yi rE (cU [] [] Tv Tv ?_)))
 exact .tup ⟨.nil,.refl _,trivial⟩
theorem s10(roots:List Rq)(Gi:Int)(hx:∀r∈x,E4 r)(hr:∀q∈roots,HP q) :
  PC 10 [Il x ifs,sl Ac roots,vi Gi] (.tup [sl Dd (fu x roots Gi),vi (aR x roots Gi)]):=by
 by_cases h:DY x roots=false\/Gi<0\/1024<Gi
 .have h1:aR x roots Gi=1:=by unfold aR;rw[AX h]
  have h2:fu x roots Gi=[]:=by unfold fu;rw[h1];rfl
  rw[h1,h2];exact qO x ifs roots Gi hx hr h
 .have h1:aR x roots Gi=0:=by unfold aR;rw[AI h]
  have h2:fu x roots Gi=(PR (CQ x roots (x.length+1) [])).take Gi.toNat:=by unfold fu;rw[h1,AX rfl]
  rw[h1,h2];exact uA x ifs roots Gi hx hr (by cases e:DY x roots with | true=>rfl | false=>exact absurd (.inl e) h) aa0 aa0
end Go.Eng
namespace Go.Proofs
open Go.Shelf
def Tryz.layDel_ren:Go.Shelf.Ren:=⟨fun | 10=>34 | 6=>78 | n=>n,fun | 22=>35 | 23=>3 | 25=>79 | 3=>3 | 4=>4 | 0=>0 | n=>n,fun | n=>n⟩
theorem Tryz.layDel:Go.Proofs.SlLaysH.n10 Tryz.prog Tryz.layDel_ren:={
 mixed:=by kernel_rfl
 f6:=⟨Tryz.f78.name,by decide,Go.Eng.A0a Tryz.func78⟩
 f10:=⟨Tryz.f34.name,by decide,Go.Eng.A0a Tryz.func34⟩
 t0:=Tryz.underlying0
 a0:=Tryz.isAgg0
 z0:=Tryz.sizeOf0
 v0:=Tryz.zeroValue0
 t3:=Tryz.underlying3
 a3:=Tryz.isAgg3
 z3:=Tryz.sizeOf3
 v3:=Tryz.zeroValue3
 t4:=Tryz.underlying4
 a4:=Tryz.isAgg4
 z4:=Tryz.sizeOf4
 v4:=Tryz.zeroValue4
 t22:=Tryz.underlying35
 a22:=Tryz.isAgg35
 z22:=Tryz.sizeOf35
 v22:=Tryz.zeroValue35
 a23:=Tryz.isAgg3
 z23:=Tryz.sizeOf3
 t25:=Tryz.underlying79
 a25:=Tryz.isAgg79
 z25:=Tryz.sizeOf79
 v25:=Tryz.zeroValue79 }
end Go.Proofs
namespace Go.Eng
open Go.Proofs Go.Shelf Go.RowKit Go.Lib Go.Sort
variable (zs:List Int)(v:Int)(B o:Nat)
theorem dE(x:Int)(B o:Nat)(W:World)(hc:W.cell? ⟨B,o,none⟩=some (.int .i64 v)) :
  FnGives Tryz.prog 36 #[.pointer (some ⟨B,o,none⟩)] #[.int .i64 x] (.bool (decide (x=v))) W:=by
 show Calls Tryz.prog 36 #[.int .i64 x,.pointer (some ⟨B,o,none⟩)] W _
 go_enter Tryz.func36,Tryz.ntmps36
 go_wp2
 have e:(x == v)=decide (x=v):=rfl
 all_goals (go_ret;exact⟨by simp_all,0,rfl⟩)
theorem ut(w:World)(hB:B<w.heap.size)(CT:w.cell? ⟨B,o,none⟩=some (.int .i64 v)) :
  PredAt Tryz.prog 36 #[.pointer (some ⟨B,o,none⟩)] (Value.int .i64) (fun x=>decide (x=v)) w:=
 fun W x hb=>dE v x B o W ((hb.cell (p:=⟨B,o,none⟩) hB).trans CT)
theorem uo(blk off size:Nat)(w:World)(hB:B<w.heap.size)(D8:B≠blk)(CT:w.cell? ⟨B,o,none⟩=some (.int .i64 v)) :
  PredOver Tryz.prog 36 #[.pointer (some ⟨B,o,none⟩)] (Value.int .i64) (fun x=>decide (x=v)) blk off size w:=
 fun n os dk x _=>dE v x B o _ (by
  unfold sortWorld;rw[cell?_grow _ _ _ (by show B<(putRow _ _ _ _ _).heap.size;rw[Go.Sort.size_putRow];exact hB),cell?_putRow_other _ _ blk off _ _ (Or.inl D8)];exact CT)
abbrev BW:List Int:=zs.filter fun z=>!decide (z=v)
theorem s34(hl:BL zs)(D8:zs≠[]) :
  A6 Tryz.prog 34 [.msl 1000 zs.length,.clo 36 [.cptr [vi v]]] (Af [(1000,.arr 1 (zs.map B7))] Ae) fun r h'=>r=.msl 2000 (BW zs v).length/\h'=Af [(1000,.dead),(2000,.arr 1 ((BW zs v).map B7))] Ae:=by
 have hl:zs.length<=1073741824:=hl;have hE:Gr Tryz.prog 34:=ku 34 Tryz.func34 aa3 rfl;have IF:(BW zs v).length<=zs.length:=Dz _ _;have KI:=aO (P:=Tryz.prog) (f:=34) (fF:=36) (caps:=[.cptr [vi v]]) (es:=zs.map B7) (sz:=1) (n':=(BW zs v).length) (Q:=fun E7=>E7=(BW zs v++List.replicate (zs.length-(BW zs v).length) 0).map B7) hE (fun e=>D8 (FQ.1 e)) (by rw[Lm];exact IF) ?_
 .rw[Lm]at KI;refine⟨hE,fun g w vals q1 q2 q3=>(KI.2 g w vals q1 q2 q3).mono fun _ _ ⟨x,r,h',g',e1,⟨e2,E7,p1,p2⟩,rest⟩=>⟨x,r,h',g',e1,⟨e2,by
   rw[p2,p1,BD,Mh (by rw[Lm];exact Ao _),Bd (by rw[Lm];exact Ao _)]⟩,rest⟩⟩
 .intro g w b cap F lb hr hF hH hb hc hS E1 bL rN;rw[Lm]at hF hc⊢;have hFl:F.toList=zs.map fun z=>Value.int .i64 z:=PI (by rw[<-M3];exact hr);have zq:F=zs.toArray.map fun z=>Value.int .i64 z:=Array.toList_inj.1 (by rw[hFl];simp);have hH2:Holds (Value.int .i64) w b 0 zs.toArray:=fun j hj=>by
   have:=hH j (by rw[zq];simpa using hj)
   refine⟨this.1.trans ?_,this.2⟩;rw[zq,getElem!_pos _ j (by simpa using hj),getElem!_pos _ j hj];simp
  have bL:lb.size=1:=bL;have h0:=rN 0 (.cptr [vi v]) lb[0] rfl (CK aa0);obtain⟨B,o,hp,hSB,CT⟩:∃B o,lb[0]=.pointer (some ⟨B,o,none⟩)/\g.S B o/\w.cell? ⟨B,o,none⟩=some (.int .i64 v):=by
   generalize lb[0]=x at h0;cases h0 with
   |cptr _ cs B o val CT Ef=>
    have a:=CT 0 (vi v) rfl;have e:=(Ef 0 (vi v) rfl).v_eq;exact⟨B,o,rfl,a.1,by rw[<-e];exact a.2.1⟩
  have hlb:lb=#[.pointer (some ⟨B,o,none⟩)]:=by
   refine Array.ext (by simpa using bL) fun i h1 h2=>?_
   have:i=0:=by omega
   subst this;exact hp
  have hB:=E1 B o hSB;have hBb:B≠b:=fun e=>hS o (e▸hSB);rw[hlb]
  have hcon:=AnyE.slices_DeleteFunc Tryz.layDel (Value.int .i64) (fun _=>rfl) (fun x=>decide (x=v)) 36 #[.pointer (some ⟨B,o,none⟩)] (enters_of Tryz.func36 aa3 rfl) 0 Tryz.zeroValue3 b 0 cap zs.toArray w
   (ut v B o w hB CT) (uo v B o b 0 zs.toArray.size w hB hBb CT) hH2 (by simp;omega) (by simpa using hc)
  refine hcon.mono ?_
  rintro e w' ⟨rfl,q,rfl⟩
  have efl:(zs.toArray.toList.filter fun x=>!decide (x=v))=BW zs v:=by simp
  rw[efl];refine⟨rfl,(BW zs v++List.replicate (zs.length-(BW zs v).length) 0).toArray.map fun z=>Value.int .i64 z,_,q,#[],?_,rfl,?_,fun cs hcs=>?_,fun g w _=>?_,?_⟩
  .rw[zq];simp;omega
  .simp;omega
  .obtain⟨x,_,rfl⟩:=Ar.1 hcs;rfl
  .rw[M3];have e:((BW zs v++List.replicate (zs.length-(BW zs v).length) 0).toArray.map fun z=>Value.int .i64 z).toList=(BW zs v++List.replicate (zs.length-(BW zs v).length) 0).map fun z=>Value.int .i64 z:=by simp
   rw[e];exact QL _ _ _ _ fun x hx=>by
    obtain⟨z,_,rfl⟩:=Ar.1 hx;rfl
  .rw[Ws,grow_empty];simp
end Go.Eng
namespace Go.Eng
open Go.Proofs
variable {kept:List Int}{n i:Nat}{z:Int}{q:Rq}(x:List Rl)(p:ByteArray)(l:List Int)(m:Int)(roots:List Rq)
theorem Ab1(hl:BL l):A6 Tryz.prog 35 [sl B7 l] (Af [] Ae) fun r h'=>r=.msl 2000 l.length/\h'=Af [(2000,.arr 1 (l.map B7))] Ae:=by
 refine Bi (IB (yy 1)) [(2,2000)] rfl Bz hm rfl Tryz.func35 aa3 rfl (Nz rfl) aa3 rfl ?_;have CO:A7 1 (l.map B7)/\([]:List (List AV)).length=0/\(([]:List (List AV)).length+(l.map B7).length)*8<=140737488355328/\([]:List (List AV)).length+(l.map B7).length<=9223372036854775807:=by
  refine⟨Cn (enc:=B7) (n:=1) (fun _=>rfl) l,rfl,?_,?_⟩<;>simp only[BX,Lm]<;>unfold BL at hl<;>omega
 have e1:AV.msl 2000 (([]:List (List AV)).length+(l.map B7).length)=.msl 2000 l.length:=by simp
 refine Xi 0 (Xi 0 (Yi ?_ ?_))
 .intro _;refine cU [(0,sl B7 l)] [] Z1 Tv (Xi 2 (Yi CO ?_));exact Xi _ (Yi (.refl _) (Yi e1 rfl))
 .intro h;have h:l.map B7=[]:=h;refine Yi ?_ ?_
  .refine Xi ⟨[],[],Ae⟩ (Yi ⟨trivial,trivial,fun _=>.inl rfl,Bg aa3⟩ ?_);refine Xi 2 ?_;exact Xi _ (Yi (.refl _) (Yi (show AV.msl 2000 0=_ by rw[FQ.1 h];rfl) (show Af [(2000,HO.arr 1 [])] Ae=_ by rw[h])))
  .refine cU [(0,sl B7 l)] [] Z1 Tv (Xi 2 (Yi CO ?_));exact Xi _ (Yi (.refl _) (Yi e1 rfl))
def RV(n i:Nat):List Int:=(List.range n).map fun k=>if k<i then(k:Int)else 0
@[simp] theorem Xy (n i:Nat):(RV n i).length=n:=by unfold RV;simp
theorem lS(n:Nat):List.replicate ((n:Int)).toNat [vi 0]=(RV n 0).map B7:=by
 rw[FI];refine List.ext_getElem (by simp[RV]) fun k h1 h2=>?_;simp[RV]
theorem p7(h:i<n):((RV n i).map B7)[i]?=some [vi 0]:=by
 rw[BA,RV,BA,List.getElem?_range h];simp
theorem p8(_h:i<n):((RV n i).map B7).set i [vi (i:Nat)]=(RV n (i+1)).map B7:=by
 refine List.ext_getElem (by simp[RV]) fun k h1 h2=>?_;rw[List.getElem_set];simp only[RV,List.getElem_map,List.getElem_range]
 by_cases e:i=k
 .subst e;rw[AX rfl,AX aa0]
 .rw[AI e]
  by_cases q:k<i
  .rw[AX q,AX aa0]
  .rw[AI q,AI aa0]
def Fc(l:List Int):List Rq:=l.filterMap fun k=>roots[k.toNat]?
theorem cy{roots:List Rq}{l:List Int}{j:Nat}(h:l[j]?=some z)(hq:roots[z.toNat]?=some q):Fc roots (l.take (j+1))=Fc roots (l.take j)++[q]:=by
 unfold Fc;rw[Ck,h,List.filterMap_append];simp[hq]
theorem iN(l:List Int):(Fc roots l).length<=l.length:=List.length_filterMap_le ..
theorem iO{roots:List Rq}{l:List Int}(h:q∈Fc roots l):q∈roots:=by
 unfold Fc at h;obtain⟨k,_,hk⟩:=OK.1 h;exact Ax hk
def Gg(kept:List Int)(z:Int):List Int:=
 if FS x (Fc roots (BW kept z))=0/\(Gy x (Fc roots (BW kept z))).found=false then BW kept z else kept
def Lg(x:List Rl)(roots:List Rq):Nat->List Int->List Int
 |0,kept=>kept
 |i+1,kept=>Lg x roots i (Gg x roots kept (i:Nat))
def Rn:List Int:=Lg x roots roots.length (RV roots.length roots.length)
theorem Mn{x:List Rl}{roots:List Rq}(h:0<i):Lg x roots i kept=Lg x roots (i-1) (Gg x roots kept ((i:Int)-1)):=by
 obtain⟨m,rfl⟩:∃m,i=m+1:=⟨i-1,by omega⟩;rw[show(((m+1:Nat):Int)-1)=(m:Nat) by omega];rfl
def KB:Int:=if FS x roots≠0 then FS x roots else if(Gy x roots).found=true then 8 else 0
def VS:List Int:=if KB x roots=0 then Rn x roots else []
theorem Wy{x:List Rl}(h:FS x []=0):(Gy x []).found=true:=by
 unfold FS at h;split at h
 .rename_i hv;split at h
  .cases h
  .rename_i hf;unfold Gy;rw[AX ⟨hv,by simpa using hf⟩]
   rfl
 .cases h
theorem o5{x:List Rl}{roots:List Rq}(h1:FS x roots=0)(h2:(Gy x roots).found=false):RV roots.length roots.length≠[]:=by
 intro e;have hl:=Xy roots.length roots.length;rw[e]at hl;have hr:roots=[]:=Aw hl.symm;subst hr;rw[Wy h1]at h2;cases h2
theorem OD{x:List Rl}{roots:List Rq}(h:kept≠[]):Gg x roots kept z≠[]:=by
 unfold Gg;split
 .rename_i hc;intro e;rw[e]at hc
  have:=Wy (x:=x) hc.1
  rw[show Fc roots []=[]from rfl]at hc;rw[this]at hc;cases hc.2
 .exact h
structure fj(n:Nat)(kept:List Int):Prop where
 rng:∀z∈kept,0<=z/\z<n
 len:kept.length<=n
theorem fj.less(h:fj n kept)(i:Int):fj n (BW kept i):=
 ⟨fun z hz=>h.rng z (B6.1 hz).1,Bl (Dz _ _) h.len⟩
theorem fj.step(h:fj n kept)(x:List Rl)(roots:List Rq)(i:Int):fj n (Gg x roots kept i):=by
 unfold Gg;split
 .exact h.less _
 .exact h
theorem fj.id(n:Nat):fj n (RV n n):=⟨fun z hz=>by
 unfold RV at hz;obtain⟨k,hk,rfl⟩:=Ar.1 hz;rw[Ks]at hk;rw[AX hk];omega,by rw[Xy];exact Ao _⟩
theorem kl{x:List Rl}{roots:List Rq}{e:Int}(h:KB x roots=e)(he:e≠0):Ea (.tup [nzA,vi e]) (.tup [sl B7 (VS x roots),vi (KB x roots)]):=by
 unfold VS;rw[h,AI he];exact Ea.tup ⟨.nil,.refl _,trivial⟩
theorem wF{x:List Rl}{roots:List Rq}(h:KB x roots=0)(hk:kept=Rn x roots):Ea (.tup [sl B7 kept,vi 0]) (.tup [sl B7 (VS x roots),vi (KB x roots)]):=by
 unfold VS;rw[h,AX rfl,hk];exact .refl _
theorem s13(ifs:List (List AV))(roots:List Rq)(hx:∀r∈x,E4 r)(hr:∀q∈roots,HP q)(hn:roots.length<=1000000):PC 13 [Il x ifs,sl Ac roots] (.tup [sl B7 (VS x roots),vi (KB x roots)]):=by
 have zC:(roots.map Ac).length=roots.length:=Lm _;have pG:=yY x ifs roots hx hr;obtain⟨A0,rC⟩:∃A0,A0=Gy x roots:=⟨_,rfl⟩;obtain⟨e0,xB⟩:∃e0,e0=FS x roots:=⟨_,rfl⟩;have pG:PC 21 [Il x ifs,sl Ac roots] (.tup [.agg (EM A0),vi e0]):=by rw[rC,xB];exact pG
 refine Ps ⟨[2],[(12,2)],[(30,1)],[(50,[10])],[],[],[],[],[],[(200012,8),(200016,11)],[2,4,7,11,12,14,16,21,22,23,24,25,26]⟩ Tryz.func13 rfl (Nz rfl) (yN (Xi .pure (Xi _ (Yi pG (yN (cU [(1,sl Ac roots),(2,.ref 2 0),(6,.ref 6 0),(7,vi (e0:Int))] [(2,.ro (Ic x ifs)),(6,.cells (EM A0))] Z4 Z2 (Yi (fun h1=>?_) (fun h1=>?_))))))))
 .have h1:((e0:Int):Int)≠(0:Int):=h1;exact kl (show KB x roots=e0 by unfold KB;rw[<-xB,AX h1]) h1
 have h1:((e0:Int):Int)=(0:Int):=A9 h1;refine cU [(1,sl Ac roots),(2,.ref 2 0),(6,.ref 6 0)] [(2,.ro (Ic x ifs)),(6,.cells (EM A0))] Z3 Z2 (Yi (fun h3=>?_) (fun h3=>?_))
 .have h3:A0.found=true:=h3;exact kl (show KB x roots=8 by unfold KB;rw[<-xB,<-rC,AI (fun h=>h h1),AX h3]) aa2
 have h3:A0.found=false:=h3;have Abh:=o5 (xB.symm.trans h1) (show(Gy x roots).found=false by rw[<-rC];exact h3);refine Yi (show(0:Int)<=(roots.map Ac).length/\((roots.map Ac).length:Int)<=(roots.map Ac).length/\((roots.map Ac).length:Int)*8<=140737488355328/\((roots.map Ac).length:Int)<=9223372036854775807 by rw[Lm];omega) (cU [(1,sl Ac roots),(2,.ref 2 0),(8,.msl 30 roots.length)] [(2,.ro (Ic x ifs)),(30,.arr 1 ((RV roots.length 0).map B7))] ⟨Zr,Zr,⟨(show AV.msl 30 (List.replicate (((roots.map Ac).length:Nat):Int).toNat [vi 0]).length=.msl 30 roots.length by simp),rfl⟩,Tv⟩ ⟨Zr,⟨(show HO.arr 1 (List.replicate (((roots.map Ac).length:Nat):Int).toNat [vi 0])=.arr 1 ((RV roots.length 0).map B7) by rw[Lm,lS]),rfl⟩,Tv⟩ ?_)
 refine Xi {q:Nat // q<=roots.length} (Xi (fun q=>⟨[(1,sl Ac roots),(2,.ref 2 0),(8,.msl 30 roots.length),(32,vi roots.length),(33,vi q.1)],[(2,.ro (Ic x ifs)),(30,.arr 1 ((RV roots.length q.1).map B7))],Ae⟩) (Xi (fun q=>roots.length-q.1) (Yi (Xi ⟨0,Ap _⟩ ?_) ?_)))
 .exact⟨Z5,Z2,Fh,Tv⟩
 intro⟨i,i1⟩;have i1:i<=roots.length:=i1;refine Yi (fun h5=>?_) (fun h5=>?_)
 .have h5:(i:Int)<(roots.length:Int):=h5;have n5:i<roots.length:=by omega
  have g5:roots[i]?=some roots[i]:=Ge n5
  skip
  refine Yi (by show(0:Int)<=i/\(i:Int)<(roots.length:Nat);omega) (Yi (show roots.length=((RV roots.length i).map B7).length by simp) (Xi [vi 0] (Yi (p7 (show i<roots.length by omega)) (yN (cU [(1,sl Ac roots),(2,.ref 2 0),(8,.msl 30 roots.length),(32,vi roots.length),(33,vi i)] [(2,.ro (Ic x ifs)),(30,.arr 1 (((RV roots.length i).map B7).set i [vi i]))] Z5 Z2 (Yi (Ii i aa0) (Xi ⟨i+1,by omega⟩ ?_)))))));exact⟨Dl roots.length i aa0,Z5,⟨Zr,⟨(Aa (HO.arr 1) (p8 (show i<roots.length by have q:=h5;omega))),rfl⟩,Tv⟩,Fh,Tv⟩
 have h5:¬((i:Int)<(roots.length:Int)):=h5;have n5:¬i<roots.length:=by omega
 refine Yi (show roots.length=((RV roots.length i).map B7).length by rw[Lm,Xy]) (cU [(1,sl Ac roots),(2,.ref 2 0),(8,sl B7 (RV roots.length i))] [(2,.ro (Ic x ifs))] Z3 Z1 (Yi (by show As (((roots.map Ac).length:Int)-(1:Int));unfold As;omega) ?_));refine yN (Xi {q:Nat×List Int // q.1<=roots.length/\fj roots.length q.2/\q.2≠[]/\Lg x roots q.1 q.2=Rn x roots} (Xi (fun q=>⟨[(1,sl Ac roots),(2,.ref 2 0),(8,sl B7 q.1.2),(10,.ref 10 0)],[(2,.ro (Ic x ifs)),(10,.cells [vi ((q.1.1:Int)-1)])],Ae⟩) (Xi (fun q=>q.1.1) (Yi (Xi ⟨(roots.length,RV roots.length roots.length),Ao _,.id _,Abh,rfl⟩ ?_) ?_))))
 .exact⟨⟨Zr,Zr,⟨(show sl B7 (RV roots.length i)=sl B7 (RV roots.length roots.length) by rw[show i=roots.length by omega]),rfl⟩,Zr,Tv⟩,⟨Zr,⟨(show HO.cells [vi (((roots.map Ac).length:Int)-(1:Int))]=.cells [vi ((roots.length:Int)-1)] by rw[Lm]),rfl⟩,Tv⟩,Fh,Tv⟩
 intro⟨⟨i,kept⟩,i1,k1,k2,k3⟩;have i1:i<=roots.length:=i1;have k1:fj roots.length kept:=k1;have k2:kept≠[]:=k2;have k3:Lg x roots i kept=Rn x roots:=k3;have hll:(BW kept ((i:Int)-1)).length<=roots.length:=(k1.less _).len;refine Yi (fun h7=>?_) (fun h7=>?_)
 .have h7:(0:Int)<=(((i:Int)-1):Int):=h7;refine Xi (.gen [] 1) (Yi rfl (A6.imp (Ab1 kept (by have q:=k1.len;unfold BL;omega)) ?_));intro v8 g8 q8;have q8a:=q8.1;have q8b:=q8.2;subst q8a;subst q8b;refine Xi (.gen [(14900,1000)] 1) (Yi rfl (A6.imp (s34 kept ((i:Int)-1) (by have q:=k1.len;unfold BL;omega) k2) ?_));intro v9 g9 q9;have q9a:=q9.1;have q9b:=q9.2;subst q9a;subst q9b;refine Yi (show(BW kept ((i:Int)-1)).length=((BW kept ((i:Int)-1)).map B7).length by rw[Lm]) ?_;refine cU [(1,sl Ac roots),(2,.ref 2 0),(8,sl B7 kept),(10,.ref 10 0),(11,sl B7 (BW kept ((i:Int)-1)))] [(2,.ro (Ic x ifs)),(10,.ro [vi ((i:Int)-1)])] Z5 Z2 (Xi {q:Nat // q<=(BW kept ((i:Int)-1)).length} (Xi (fun q=>⟨[(1,sl Ac roots),(2,.ref 2 0),(8,sl B7 kept),(10,.ref 10 0),(11,sl B7 (BW kept ((i:Int)-1))),(12,.slice (.id 12 2) ((Fc roots ((BW kept ((i:Int)-1)).take q.1)).map Ac)),(52,sl B7 (BW kept ((i:Int)-1))),(53,vi ((BW kept ((i:Int)-1)).map B7).length),(54,vi q.1)],[(2,.ro (Ic x ifs)),(10,.ro [vi ((i:Int)-1)]),(12,.tok 2 (Fc roots ((BW kept ((i:Int)-1)).take q.1)).length)],Ae⟩) (Xi (fun q=>(BW kept ((i:Int)-1)).length-q.1) (Yi (Xi ⟨0,Ap _⟩ ?_) ?_))))
  .exact⟨Z9,Z3,Fh,Tv⟩
  intro⟨j,j1⟩;have j1:j<=(BW kept ((i:Int)-1)).length:=j1;refine Yi (fun JR=>?_) (fun JR=>?_)
  .have JR:(j:Int)<(((BW kept ((i:Int)-1)).map B7).length:Int):=JR;have n10:j<(BW kept ((i:Int)-1)).length:=by have q:=JR;rw[Lm]at q;omega
   have g10:(BW kept ((i:Int)-1))[j]?=some (BW kept ((i:Int)-1))[j]:=Ge n10;have nj:j<(BW kept ((i:Int)-1)).length:=by have q:=JR;rw[Lm]at q;omega
   refine Xi [vi ((BW kept ((i:Int)-1))[j])] (Yi (Yi (Nn j) (Bk (Ge nj))) (Yi rfl ?_));have oa:(Fc roots ((BW kept ((i:Int)-1)).take j)).length<=roots.length:=by have a:=iN roots ((BW kept ((i:Int)-1)).take j);have b:=(k1.less ((i:Int)-1)).len;rw[Cy]at a;omega
   have hz:=k1.rng _ (B6.1 (Ak nj)).1;refine Al (show ∃rq,roots[((BW kept ((i:Int)-1))[j]).toNat]?=some rq from⟨_,Ge (show((BW kept ((i:Int)-1))[j]).toNat<roots.length by omega)⟩) (fun rq Vj=>?_);refine Xi (Ac rq) (Yi (Yi hz.1 (Bk Vj)) (Yi rfl (yN ?_)));have jR:A7 2 [(Ac rq)]/\((Fc roots ((BW kept ((i:Int)-1)).take j)).map Ac).length=(Fc roots ((BW kept ((i:Int)-1)).take j)).length/\(((Fc roots ((BW kept ((i:Int)-1)).take j)).map Ac).length+([(Ac rq)]:List (List AV)).length)*40<=140737488355328/\((Fc roots ((BW kept ((i:Int)-1)).take j)).map Ac).length+([(Ac rq)]:List (List AV)).length<=9223372036854775807:=⟨⟨rfl,trivial⟩,(by rw[Lm]),(by simp only[Lm,BF,BX];omega),(by simp only[Lm,BF,BX];omega)⟩;refine Yi jR (cU [(1,sl Ac roots),(2,.ref 2 0),(8,sl B7 kept),(10,.ref 10 0),(11,sl B7 (BW kept ((i:Int)-1))),(12,.slice (.id 12 2) (((Fc roots ((BW kept ((i:Int)-1)).take j)).map Ac)++[(Ac rq)])),(52,sl B7 (BW kept ((i:Int)-1))),(53,vi ((BW kept ((i:Int)-1)).map B7).length),(54,vi j)] [(2,.ro (Ic x ifs)),(10,.ro [vi ((i:Int)-1)]),(12,.tok 2 (((Fc roots ((BW kept ((i:Int)-1)).take j)).map Ac).length+([(Ac rq)]:List (List AV)).length))] Z9 Z3 (Yi (Ii j aa0) ?_));have tM:Fc roots ((BW kept ((i:Int)-1)).take (j+1))=Fc roots ((BW kept ((i:Int)-1)).take j)++[rq]:=cy (Ge nj) Vj;refine Xi ⟨j+1,nj⟩ ?_;exact⟨by show(BW kept ((i:Int)-1)).length-(j+1)<(BW kept ((i:Int)-1)).length-j;omega,⟨Zr,Zr,Zr,Zr,Zr,⟨(show AV.slice (.id 12 2) ((Fc roots ((BW kept ((i:Int)-1)).take j)).map Ac++[Ac rq])=.slice (.id 12 2) ((Fc roots ((BW kept ((i:Int)-1)).take (j+1))).map Ac) by rw[tM,BD];rfl),rfl⟩,Zr,Zr,Zr,Tv⟩,⟨Zr,Zr,⟨(show HO.tok 2 (((Fc roots ((BW kept ((i:Int)-1)).take j)).map Ac).length+([Ac rq]:List (List AV)).length)=.tok 2 (Fc roots ((BW kept ((i:Int)-1)).take (j+1))).length by rw[tM,Ay,Lm];rfl),rfl⟩,Tv⟩,Fh,Tv⟩
  have JR:¬((j:Int)<(((BW kept ((i:Int)-1)).map B7).length:Int)):=JR;have n10:¬j<(BW kept ((i:Int)-1)).length:=by have q:=JR;rw[Lm]at q;omega
  refine cU [(1,sl Ac roots),(2,.ref 2 0),(8,sl B7 kept),(10,.ref 10 0),(11,sl B7 (BW kept ((i:Int)-1))),(12,.slice (.id 12 2) ((Fc roots ((BW kept ((i:Int)-1)).take j)).map Ac))] [(2,.ro (Ic x ifs)),(10,.ro [vi ((i:Int)-1)]),(12,.tok 2 (Fc roots ((BW kept ((i:Int)-1)).take j)).length)] Z6 Z3 (yN ?_);have hs:=yY x ifs (Fc roots (BW kept ((i:Int)-1))) hx (fun q hq=>hr q (iO hq));refine Al (show ∃A1,A1=Gy x (Fc roots (BW kept ((i:Int)-1)))from⟨_,rfl⟩) (fun A1 nW=>?_);refine Al (show ∃e1,e1=FS x (Fc roots (BW kept ((i:Int)-1)))from⟨_,rfl⟩) (fun e1 xC=>?_);have hs:PC 21 [Il x ifs,sl Ac (Fc roots (BW kept ((i:Int)-1)))] (.tup [.agg (EM A1),vi e1]):=by rw[nW,xC];exact hs
  have hs:PC 21 [Il x ifs,sl Ac (Fc roots ((BW kept ((i:Int)-1)).take j))] (.tup [.agg (EM A1),vi e1]):=by rw[Bd (by have q:=JR;rw[Lm]at q;omega)];exact hs
  refine Xi .pure (Xi _ (Yi hs (yN (cU [(1,sl Ac roots),(2,.ref 2 0),(8,sl B7 kept),(10,.ref 10 0),(11,sl B7 (BW kept ((i:Int)-1))),(15,.ref 15 0),(16,vi (e1:Int))] [(2,.ro (Ic x ifs)),(10,.ro [vi ((i:Int)-1)]),(15,.cells (EM A1))] Z7 Z3 (Yi (fun Nx=>?_) (fun Nx=>?_))))))
  .have Nx:((e1:Int):Int)=(0:Int):=Nx;refine Yi (fun N8=>?_) (fun N8=>?_)
   .have N8:A1.found=true:=N8;refine cU [(1,sl Ac roots),(2,.ref 2 0),(8,sl B7 kept),(10,.ref 10 0)] [(2,.ro (Ic x ifs)),(10,.ro [vi ((i:Int)-1)])] Z4 Z2 (cU [(1,sl Ac roots),(2,.ref 2 0),(8,sl B7 kept),(80,vi ((i:Int)-1))] [(2,.ro (Ic x ifs))] Z4 Z1 (yN (cU [(1,sl Ac roots),(2,.ref 2 0),(8,sl B7 kept),(10,.ref 10 0)] [(2,.ro (Ic x ifs)),(10,.cells [vi ((i:Int)-1)])] Z4 Z2 (Yi (by show As ((((i:Int)-1):Int)-(1:Int));unfold As;omega) ?_))));refine yN ?_;have tw:0<i:=by omega
    have Gw:Gg x roots kept ((i:Int)-1)=kept:=by unfold Gg;rw[AI];rintro⟨c1,c2⟩;rw[<-nW,N8]at c2;cases c2
    have D8:kept≠[]:=by rw[<-Gw];exact OD k2
    have xL:fj roots.length kept:=by rw[<-Gw];exact k1.step x roots _
    have IE:Lg x roots (i-1) kept=Rn x roots:=by rw[<-k3,Mn tw,Gw]
    refine Xi ⟨(i-1,kept),by show i-1<=roots.length;omega,xL,D8,IE⟩ ?_;exact⟨by show(i-1)<i;omega,Z4,⟨Zr,⟨(show HO.cells [vi (((i:Int)-1)-(1:Int))]=.cells [vi (((i-1:Nat):Int)-1)] by rw[show((i-1:Nat):Int)=(i:Int)-1 by omega]),rfl⟩,Tv⟩,Fh,Tv⟩
   have N8:A1.found=false:=N8;refine cU [(1,sl Ac roots),(2,.ref 2 0),(10,.ref 10 0),(11,sl B7 (BW kept ((i:Int)-1)))] [(2,.ro (Ic x ifs)),(10,.ro [vi ((i:Int)-1)])] Z4 Z2 (cU [(1,sl Ac roots),(2,.ref 2 0),(8,sl B7 (BW kept ((i:Int)-1))),(10,.ref 10 0)] [(2,.ro (Ic x ifs)),(10,.ro [vi ((i:Int)-1)])] Z4 Z2 (cU [(1,sl Ac roots),(2,.ref 2 0),(8,sl B7 (BW kept ((i:Int)-1))),(80,vi ((i:Int)-1))] [(2,.ro (Ic x ifs))] Z4 Z1 (yN (cU [(1,sl Ac roots),(2,.ref 2 0),(8,sl B7 (BW kept ((i:Int)-1))),(10,.ref 10 0)] [(2,.ro (Ic x ifs)),(10,.cells [vi ((i:Int)-1)])] Z4 Z2 (Yi (by show As ((((i:Int)-1):Int)-(1:Int));unfold As;omega) ?_)))));refine yN ?_;have tw:0<i:=by omega
   have Gw:Gg x roots kept ((i:Int)-1)=(BW kept ((i:Int)-1)):=by unfold Gg;rw[AX ⟨by rw[<-xC];exact Nx,by rw[<-nW];exact N8⟩]
   have D8:(BW kept ((i:Int)-1))≠[]:=by rw[<-Gw];exact OD k2
   have xL:fj roots.length (BW kept ((i:Int)-1)):=by rw[<-Gw];exact k1.step x roots _
   have IE:Lg x roots (i-1) (BW kept ((i:Int)-1))=Rn x roots:=by rw[<-k3,Mn tw,Gw]
   refine Xi ⟨(i-1,(BW kept ((i:Int)-1))),by show i-1<=roots.length;omega,xL,D8,IE⟩ ?_;exact⟨by show(i-1)<i;omega,Z4,⟨Zr,⟨(show HO.cells [vi (((i:Int)-1)-(1:Int))]=.cells [vi (((i-1:Nat):Int)-1)] by rw[show((i-1:Nat):Int)=(i:Int)-1 by omega]),rfl⟩,Tv⟩,Fh,Tv⟩
  have Nx:¬(((e1:Int):Int)=(0:Int)):=Nx;refine cU [(1,sl Ac roots),(2,.ref 2 0),(8,sl B7 kept),(10,.ref 10 0)] [(2,.ro (Ic x ifs)),(10,.ro [vi ((i:Int)-1)])] Z4 Z2 (cU [(1,sl Ac roots),(2,.ref 2 0),(8,sl B7 kept),(80,vi ((i:Int)-1))] [(2,.ro (Ic x ifs))] Z4 Z1 (yN (cU [(1,sl Ac roots),(2,.ref 2 0),(8,sl B7 kept),(10,.ref 10 0)] [(2,.ro (Ic x ifs)),(10,.cells [vi ((i:Int)-1)])] Z4 Z2 (Yi (by show As ((((i:Int)-1):Int)-(1:Int));unfold As;omega) ?_))));refine yN ?_;have tw:0<i:=by omega
  have Gw:Gg x roots kept ((i:Int)-1)=kept:=by unfold Gg;rw[AI];rintro⟨c1,c2⟩;exact Nx (xC.trans c1)
  have D8:kept≠[]:=by rw[<-Gw];exact OD k2
  have xL:fj roots.length kept:=by rw[<-Gw];exact k1.step x roots _
  have IE:Lg x roots (i-1) kept=Rn x roots:=by rw[<-k3,Mn tw,Gw]
  refine Xi ⟨(i-1,kept),by show i-1<=roots.length;omega,xL,D8,IE⟩ ?_;exact⟨by show(i-1)<i;omega,Z4,⟨Zr,⟨(show HO.cells [vi (((i:Int)-1)-(1:Int))]=.cells [vi (((i-1:Nat):Int)-1)] by rw[show((i-1:Nat):Int)=(i:Int)-1 by omega]),rfl⟩,Tv⟩,Fh,Tv⟩
 have h7:¬((0:Int)<=(((i:Int)-1):Int)):=h7;have hi:i=0:=by omega
 have lD:kept=Rn x roots:=by have q:=k3;rw[hi]at q;exact q
 exact wF (show KB x roots=0 by unfold KB;rw[<-xB,<-rC,AI (fun h=>h h1),AI (by rw[h3];decide)]) lD
theorem s15(m:List Int)(hl:BL l):PC 15 [sl B7 l,sl B7 m] (vb (decide (l=m))):=by
 refine Ps De Tryz.func15 rfl (Nz rfl) (Yi ?_ ?_)
 .intro h;have h:¬((l.map B7).length:Int)=(m.map B7).length:=h
  have:l≠m:=fun e=>h (by rw[e])
  rw[AP this];exact .refl _
 .intro h;have h:¬((l.map B7).length:Int)≠(m.map B7).length:=h;have CD:l.length=m.length:=by simp at h;omega
  refine Xi {i:Nat // i<=l.length/\l.take i=m.take i} (Xi (fun i=>⟨[(0,sl B7 l),(1,sl B7 m),(12,vi (l.map B7).length),(13,vi i.1)],[],Ae⟩) (Xi (fun i=>l.length-i.1) (Yi (Xi ⟨0,by simp⟩ ?_) ?_)))
  .exact⟨Z4,Tv,Fh,Tv⟩
  .intro⟨i,h1,h2⟩;refine Yi ?_ ?_
   .intro h;have h:(i:Int)<(l.map B7).length:=h;have h:i<l.length:=by simpa using h
    have h' : i<m.length:=by omega
    have hg:l[i]?=some l[i]:=Ge h;have lA : m[i]?=some m[i]:=Ge h';refine Xi (B7 l[i]) (Yi (Yi (Nn i) (by simp[hg])) (Yi rfl ?_));refine Xi (B7 m[i]) (Yi (Yi (Nn i) (by simp[lA])) (Yi rfl ?_));refine Yi ?_ ?_
    .intro h5;refine Yi aa3 ?_;have h5:(l[i]:Int)≠(m[i]:Int):=h5
     have:l≠m:=fun e=>h5 (by subst e;rfl)
     rw[AP this];exact .refl _
    .intro h5;have h5:¬(l[i]:Int)≠(m[i]:Int):=h5;have e:l[i]=m[i]:=by have:=Cc.1 h5;omega
     refine Yi aa3 (Yi (by show As ((i:Int)+1);unfold BL at hl;unfold As;omega) (Xi ⟨i+1,by omega,?_⟩ ?_))
     .rw[Ck,Ck,h2,hg,lA,e]
     .exact⟨Dl l.length i aa0,Z4,Tv,Fh,Tv⟩
   .intro h;have h:¬(i:Int)<(l.map B7).length:=h;have h:¬i<l.length:=by simpa using h
    have e:l=m:=by
     rw[<-Bd (l:=l) (i:=i) aa0,h2,Bd aa0]
    rw[Bs e];exact .refl _
abbrev pa:ByteArray:=⟨#[97,47,118,49]⟩
abbrev pb:ByteArray:=⟨#[98,47,118,49]⟩
abbrev pc:ByteArray:=⟨#[99,47,118,49]⟩
abbrev oo:Ver:=⟨1,m,0⟩
abbrev cM(q:List Rq):Rl:=⟨p,oo m,q,mt,mt,mt,false⟩
abbrev fg:List Rl:=[cM pa 0 [⟨pb,[(0,1)]⟩],cM pa 1 [⟨pb,[(1000,1000000)]⟩],cM pb 0 [],cM pb 1 []]
abbrev Jd:Rq:=⟨pa,[(0,1000000)]⟩
abbrev LC:Rq:=⟨pb,[(1000,1000000)]⟩
abbrev m0:Rq:=⟨pc,[(0,1000000)]⟩
abbrev Sa:List Sl:=[⟨pa,oo 1⟩,⟨pb,oo 1⟩]
theorem dz:∀r∈fg,E4 r:=by
 refine DT.2 ⟨⟨by decide,by decide⟩,DT.2 ⟨⟨by decide,by decide⟩,DT.2 ⟨⟨by decide,by decide⟩,DT.2 ⟨⟨by decide,by decide⟩,List.forall_mem_nil _⟩⟩⟩⟩
abbrev nh(b:Int):List AV:=[vs p,vi 1,vi b,vi 0,yn,vs mt,vs mt,vs mt,vb false]
abbrev nT:List AV:=[.slice .none [Am (cM pa 0 [⟨pb,[(0,1)]⟩]),Am (cM pa 1 [⟨pb,[(1000,1000000)]⟩]),nh pb 0,nh pb 1],yn]
theorem SA:Ea (.agg nT) (Il fg []):=
 have h (p:ByteArray) (b:Int):L4 (nh p b) (Am (cM p b [])):=⟨.refl _,.refl _,.refl _,.refl _,.nil,.refl _,.refl _,.refl _,.refl _,trivial⟩
 Ea.agg ⟨Ea.slice ⟨.refl _,.refl _,h pb 0,h pb 1,trivial⟩,.nil,trivial⟩
theorem yZ:PC 24 [vi m] (.agg [vi 1,vi m,vi 0]):=by
 refine Ps De Tryz.func24 rfl (Nz rfl) (yN (yN ?_));exact .refl _
theorem s8  : PC 8 [] (vb true):=by
 have hq:∀q∈[Jd,LC,m0],HP q:=DT.2 ⟨⟨by decide,by decide⟩,DT.2 ⟨⟨by decide,by decide⟩,DT.2 ⟨⟨by decide,by decide⟩,List.forall_mem_nil _⟩⟩⟩;have hqa:∀q∈[Jd],HP q:=fun q h=>hq q (by simp at h;subst h;simp);have hqb:∀q∈[Jd,LC],HP q:=fun q h=>hq q (by simp at h;rcases h with rfl | rfl<;>simp)
 obtain⟨A,hA⟩:∃A,A=Gy fg [Jd,LC]:=⟨_,rfl⟩;have a1:A.found=true:=by rw[hA];kernel_rfl
 have a2:A.sel=Sa:=by rw[hA];kernel_rfl
 have a3:A.skips.length=1:=by rw[hA];kernel_rfl
 have a4:FS fg [Jd,LC]=0:=by kernel_rfl
 have OG:=yY fg [] [Jd,LC] dz hqb;have OG:=OG.args (args':=[.agg nT,sl Ac [Jd,LC]]) ⟨SA,.refl _,trivial⟩;unfold XY at OG;rw[<-hA,a4,show EM A=[vb A.found,sl Ag A.sel,sl AG A.infs,sl AN A.skips]from rfl,a1,a2]at OG;have a5:nA fg [Jd,LC]=0:=by unfold nA;rw[a4,<-hA,a1];rfl
 have a6:qW fg [Jd,LC]=Sa:=by unfold qW;rw[a5,<-hA,a2];rfl
 have Sg:=s16 fg [] [Jd,LC] dz hqb;rw[a5,a6]at Sg;have Sg:=Sg.args (args':=[.agg nT,sl Ac [Jd,LC]]) ⟨SA,.refl _,trivial⟩;have JR:=s10 fg [] [Jd] 9 dz hqa;rw[show aR fg [Jd] 9=0 by kernel_rfl]at JR;obtain⟨L,hL⟩:∃L,L=fu fg [Jd] 9:=⟨_,rfl⟩;have hLl:L.length=2:=by rw[hL];kernel_rfl
 rw[<-hL]at JR;have JR:=JR.args (args':=[.agg nT,sl Ac [Jd],vi 9]) ⟨SA,.refl _,.refl _,trivial⟩;have Nx:=s13 fg [] [Jd,LC,m0] dz hq aa2;rw[show KB fg [Jd,LC,m0]=0 by kernel_rfl,show VS fg [Jd,LC,m0]=[2] by kernel_rfl]at Nx;have Nx:=Nx.args (args':=[.agg nT,sl Ac [Jd,LC,m0]]) ⟨SA,.refl _,trivial⟩;have kU:=c27 Sa Sa aa2;rw[Bs rfl]at kU;have L7:=s15 [2] [2] aa2;rw[Bs rfl]at L7;generalize A.infs=F at OG;generalize A.skips=K at OG a3;have hLi:((L.map Dd).length:Int)=2:=by rw[Lm,hLl];rfl
 have hKi:((K.map AN).length:Int)=1:=by rw[Lm,a3];rfl
 refine Ps ⟨[],[],[],[],[],[],[],[],[(65,3)],[],[2,3,4,5,6,7,8,9]⟩ Tryz.func8 rfl (Nz rfl) (cU [(1,.v (.func (.func 24) #[] #[]))] [] Z1 Tv (Xi .pure (Xi _ (Yi (yZ 0) (Xi .pure (Xi _ (Yi (yZ 1) (Xi .pure (Xi _ (Yi (yZ 0) (Xi .pure (Xi _ (Yi (yZ 1) (yN (cU [(1,.v (.func (.func 24) #[] #[])),(2,.ref 2 0)] [(2,.cells [.slice (.id 33 9) [[vs ⟨#[97,47,118,49]⟩,vi 1,vi 0,vi 0,.slice .none [[vs ⟨#[98,47,118,49]⟩,.slice .none [[vi 0,vi 1]]]],vs ⟨#[]⟩,vs ⟨#[]⟩,vs ⟨#[]⟩,vb false],[vs ⟨#[97,47,118,49]⟩,vi 1,vi 1,vi 0,.slice .none [[vs ⟨#[98,47,118,49]⟩,.slice .none [[vi 1000,vi 1000000]]]],vs ⟨#[]⟩,vs ⟨#[]⟩,vs ⟨#[]⟩,vb false],[vs ⟨#[98,47,118,49]⟩,vi 1,vi 0,vi 0,nzA,vs ⟨#[]⟩,vs ⟨#[]⟩,vs ⟨#[]⟩,vb false],[vs ⟨#[98,47,118,49]⟩,vi 1,vi 1,vi 0,nzA,vs ⟨#[]⟩,vs ⟨#[]⟩,vs ⟨#[]⟩,vb false]],nzA]),(33,.tok 9 4)] Z2 Z2 (cU [(1,.v (.func (.func 24) #[] #[])),(2,.ref 2 0),(3,.slice (.id 36 2) [[vi 0,vi 1000000]])] [(2,.cells [.slice (.id 33 9) [[vs ⟨#[97,47,118,49]⟩,vi 1,vi 0,vi 0,.slice .none [[vs ⟨#[98,47,118,49]⟩,.slice .none [[vi 0,vi 1]]]],vs ⟨#[]⟩,vs ⟨#[]⟩,vs ⟨#[]⟩,vb false],[vs ⟨#[97,47,118,49]⟩,vi 1,vi 1,vi 0,.slice .none [[vs ⟨#[98,47,118,49]⟩,.slice .none [[vi 1000,vi 1000000]]]],vs ⟨#[]⟩,vs ⟨#[]⟩,vs ⟨#[]⟩,vb false],[vs ⟨#[98,47,118,49]⟩,vi 1,vi 0,vi 0,nzA,vs ⟨#[]⟩,vs ⟨#[]⟩,vs ⟨#[]⟩,vb false],[vs ⟨#[98,47,118,49]⟩,vi 1,vi 1,vi 0,nzA,vs ⟨#[]⟩,vs ⟨#[]⟩,vs ⟨#[]⟩,vb false]],nzA]),(33,.tok 9 4),(36,.tok 2 1)] Z3 Z3 (cU [(1,.v (.func (.func 24) #[] #[])),(2,.ref 2 0),(3,.slice (.id 36 2) [[vi 0,vi 1000000]]),(4,.slice (.id 42 2) [[vs ⟨#[97,47,118,49]⟩,.slice .none [[vi 0,vi 1000000]]],[vs ⟨#[98,47,118,49]⟩,.slice .none [[vi 1000,vi 1000000]]]])] [(2,.cells [.slice (.id 33 9) [[vs ⟨#[97,47,118,49]⟩,vi 1,vi 0,vi 0,.slice .none [[vs ⟨#[98,47,118,49]⟩,.slice .none [[vi 0,vi 1]]]],vs ⟨#[]⟩,vs ⟨#[]⟩,vs ⟨#[]⟩,vb false],[vs ⟨#[97,47,118,49]⟩,vi 1,vi 1,vi 0,.slice .none [[vs ⟨#[98,47,118,49]⟩,.slice .none [[vi 1000,vi 1000000]]]],vs ⟨#[]⟩,vs ⟨#[]⟩,vs ⟨#[]⟩,vb false],[vs ⟨#[98,47,118,49]⟩,vi 1,vi 0,vi 0,nzA,vs ⟨#[]⟩,vs ⟨#[]⟩,vs ⟨#[]⟩,vb false],[vs ⟨#[98,47,118,49]⟩,vi 1,vi 1,vi 0,nzA,vs ⟨#[]⟩,vs ⟨#[]⟩,vs ⟨#[]⟩,vb false]],nzA]),(33,.tok 9 4),(36,.tok 2 1),(42,.tok 2 2)] Z4 Z4 (yN (Xi .pure (Xi _ (Yi OG (yN (cU [(1,.v (.func (.func 24) #[] #[])),(2,.ref 2 0),(3,.slice (.id 36 2) [[vi 0,vi 1000000]]),(4,.slice (.id 42 2) [[vs ⟨#[97,47,118,49]⟩,.slice .none [[vi 0,vi 1000000]]],[vs ⟨#[98,47,118,49]⟩,.slice .none [[vi 1000,vi 1000000]]]]),(5,.ref 5 0),(6,vi 0)] [(2,.cells [.slice (.id 33 9) [[vs ⟨#[97,47,118,49]⟩,vi 1,vi 0,vi 0,.slice .none [[vs ⟨#[98,47,118,49]⟩,.slice .none [[vi 0,vi 1]]]],vs ⟨#[]⟩,vs ⟨#[]⟩,vs ⟨#[]⟩,vb false],[vs ⟨#[97,47,118,49]⟩,vi 1,vi 1,vi 0,.slice .none [[vs ⟨#[98,47,118,49]⟩,.slice .none [[vi 1000,vi 1000000]]]],vs ⟨#[]⟩,vs ⟨#[]⟩,vs ⟨#[]⟩,vb false],[vs ⟨#[98,47,118,49]⟩,vi 1,vi 0,vi 0,nzA,vs ⟨#[]⟩,vs ⟨#[]⟩,vs ⟨#[]⟩,vb false],[vs ⟨#[98,47,118,49]⟩,vi 1,vi 1,vi 0,nzA,vs ⟨#[]⟩,vs ⟨#[]⟩,vs ⟨#[]⟩,vb false]],nzA]),(5,.cells [vb true,sl Ag Sa,sl AG F,sl AN K]),(33,.tok 9 4),(36,.tok 2 1),(42,.tok 2 2)] Z6 Z5 (yN (Yi ⟨Ce _,by decide,by decide⟩ (Yi (DT.2 ⟨rfl,DT.2 ⟨rfl,List.forall_mem_nil _⟩⟩) ?_))))))))))))))))))))))))));refine Xi _ (Yi JR (Yi aa3 (cU [(1,.v (.func (.func 24) #[] #[])),(2,.ref 2 0),(3,.slice (.id 36 2) [[vi 0,vi 1000000]]),(4,.slice (.id 42 2) [[vs ⟨#[97,47,118,49]⟩,.slice .none [[vi 0,vi 1000000]]],[vs ⟨#[98,47,118,49]⟩,.slice .none [[vi 1000,vi 1000000]]]]),(5,.ref 5 0),(6,vi 0),(7,sl Dd L),(8,vi 0)] [(2,.cells [.slice (.id 33 9) [[vs ⟨#[97,47,118,49]⟩,vi 1,vi 0,vi 0,.slice .none [[vs ⟨#[98,47,118,49]⟩,.slice .none [[vi 0,vi 1]]]],vs ⟨#[]⟩,vs ⟨#[]⟩,vs ⟨#[]⟩,vb false],[vs ⟨#[97,47,118,49]⟩,vi 1,vi 1,vi 0,.slice .none [[vs ⟨#[98,47,118,49]⟩,.slice .none [[vi 1000,vi 1000000]]]],vs ⟨#[]⟩,vs ⟨#[]⟩,vs ⟨#[]⟩,vb false],[vs ⟨#[98,47,118,49]⟩,vi 1,vi 0,vi 0,nzA,vs ⟨#[]⟩,vs ⟨#[]⟩,vs ⟨#[]⟩,vb false],[vs ⟨#[98,47,118,49]⟩,vi 1,vi 1,vi 0,nzA,vs ⟨#[]⟩,vs ⟨#[]⟩,vs ⟨#[]⟩,vb false]],nzA]),(5,.cells [vb true,sl Ag Sa,sl AG F,sl AN K]),(33,.tok 9 4),(36,.tok 2 1),(42,.tok 2 2)] Z8 Z5 (yN (Xi .pure (Xi _ (Yi Sg (cU [(1,.v (.func (.func 24) #[] #[])),(2,.ref 2 0),(3,.slice (.id 36 2) [[vi 0,vi 1000000]]),(4,.slice (.id 42 2) [[vs ⟨#[97,47,118,49]⟩,.slice .none [[vi 0,vi 1000000]]],[vs ⟨#[98,47,118,49]⟩,.slice .none [[vi 1000,vi 1000000]]]]),(5,.ref 5 0),(6,vi 0),(7,sl Dd L),(8,vi 0),(9,sl Ag Sa),(10,vi 0)] [(2,.cells [.slice (.id 33 9) [[vs ⟨#[97,47,118,49]⟩,vi 1,vi 0,vi 0,.slice .none [[vs ⟨#[98,47,118,49]⟩,.slice .none [[vi 0,vi 1]]]],vs ⟨#[]⟩,vs ⟨#[]⟩,vs ⟨#[]⟩,vb false],[vs ⟨#[97,47,118,49]⟩,vi 1,vi 1,vi 0,.slice .none [[vs ⟨#[98,47,118,49]⟩,.slice .none [[vi 1000,vi 1000000]]]],vs ⟨#[]⟩,vs ⟨#[]⟩,vs ⟨#[]⟩,vb false],[vs ⟨#[98,47,118,49]⟩,vi 1,vi 0,vi 0,nzA,vs ⟨#[]⟩,vs ⟨#[]⟩,vs ⟨#[]⟩,vb false],[vs ⟨#[98,47,118,49]⟩,vi 1,vi 1,vi 0,nzA,vs ⟨#[]⟩,vs ⟨#[]⟩,vs ⟨#[]⟩,vb false]],nzA]),(5,.cells [vb true,sl Ag Sa,sl AG F,sl AN K]),(33,.tok 9 4),(36,.tok 2 1),(42,.tok 2 2)] Z10 Z5 (yN (Xi _ (Xi _ (Yi aa3 (Yi (sU [Jd,LC] aa2) ?_)))))))))))));have b1:A7 2 [[vs ⟨#[99,47,118,49]⟩,.slice .none [[vi 0,vi 1000000]]]]/\([Jd,LC].map Ac).length=([Jd,LC].map Ac).length/\(([Jd,LC].map Ac).length+([[vs ⟨#[99,47,118,49]⟩,.slice .none [[vi 0,vi 1000000]]]]:List (List AV)).length)*40<=140737488355328/\([Jd,LC].map Ac).length+([[vs ⟨#[99,47,118,49]⟩,.slice .none [[vi 0,vi 1000000]]]]:List (List AV)).length<=9223372036854775807:=⟨⟨rfl,trivial⟩,rfl,(by simp only[Lm,BF,BX];omega),(by simp only[Lm,BF,BX];omega)⟩;refine Yi b1 (Xi _ (Yi Nx (Yi aa3 (cU [(1,.v (.func (.func 24) #[] #[])),(5,.ref 5 0),(6,vi 0),(7,sl Dd L),(8,vi 0),(9,sl Ag Sa),(10,vi 0),(11,sl B7 [2]),(12,vi 0)] [(5,.cells [vb true,sl Ag Sa,sl AG F,sl AN K])] Z9 Z1 (Yi (fun _=>?_) (fun h=>absurd aa2 h))))));refine Yi (fun _=>?_) (fun h=>absurd h aa2);refine Yi (fun h2=>?_) (fun h2=>?_)
 .have h2:((K.map AN).length:Int)=(1:Int):=h2;refine Xi _ (Yi kU (Yi (fun _=>?_) (fun h=>absurd aa2 h)));refine Yi (fun h3=>?_) (fun h3=>?_)
  .have h3:((L.map Dd).length:Int)=(2:Int):=h3;refine Yi (fun _=>?_) (fun h=>absurd aa2 h);refine Yi (fun h4=>?_) (fun h4=>?_)
   .have h4:((Sa.map Ag).length:Int)=(2:Int):=h4;refine Xi (Ag (⟨pa,oo 1⟩:Sl)) (Yi ⟨by decide,rfl⟩ (Yi rfl ?_));refine yN (Xi _ (Yi (yZ 1) (Yi (fun h5=>?_) (fun h5=>?_))))
    .have h5:((⟨pa,oo 1⟩:Sl).ver.a:Int)=1/\((⟨pa,oo 1⟩:Sl).ver.b:Int)=1/\((⟨pa,oo 1⟩:Sl).ver.c:Int)=0/\True:=h5;refine Yi (fun _=>?_) (fun h=>absurd aa2 h);refine Xi _ (Yi L7 (Yi aa3 ?_));exact .refl _
    have h5:¬(((⟨pa,oo 1⟩:Sl).ver.a:Int)=1/\((⟨pa,oo 1⟩:Sl).ver.b:Int)=1/\((⟨pa,oo 1⟩:Sl).ver.c:Int)=0/\True):=h5;refine Yi aa3 ?_;exact absurd (⟨rfl,rfl,rfl,trivial⟩) h5
   have h4:¬(((Sa.map Ag).length:Int)=(2:Int)):=h4;refine Yi aa3 ?_;exact absurd rfl h4
  have h3:¬(((L.map Dd).length:Int)=(2:Int)):=h3;refine Yi aa3 ?_;exact absurd hLi h3
 have h2:¬(((K.map AN).length:Int)=(1:Int)):=h2;refine Yi aa3 ?_;exact absurd hKi h2
section
variable {x:List Rl}{roots:List Rq}
theorem aq(hv:DY x roots=true)(hx:x.length<=16):FS x roots=0:=by
 unfold FS;rw[AX hv,OB hx];rfl
theorem jc(hv:DY x roots=true)(hx:x.length<=16):Gy x roots=fC x roots:=by
 unfold Gy;rw[AX ⟨hv,OB hx⟩]
-- numbers and roots
end
end Go.Eng
