/- Lemmas 30. -/
import Derived.Test.YtjhkbdgingfbaaaGreatDoorHA29
set_option maxHeartbeats 16000000
namespace Go.Eng
open Go.Proofs
variable {C A:List (Value×AV)}{o:List (List Sl)}{dec:List Cd}{yl:Nat}{O:HO}(x:List Rl)(ifs:List (List AV))(roots:List Rq)(m Gs:Int)
theorem Adp(C A:List (Value×AV))(Y:Gh->World->Prop)(yl M n:Nat)(ob:Bool->Obj)(dec:List Cd)(out:List (List Sl))(p:ByteArray)(n0:Nd)(l:List Nd)(cs:List Cd)(hL:LvV x roots C A Y yl M n ob dec p n0 l cs)(Il:wk (vH roots C A yl (ob true) dec out) Y)(Ji:Bb Tryz.prog 132 [.ref 1000 0] (Ag (Iq roots C A Kl dec []) Ad) fun r h'=>r=.tup [vs p,sl A6 (n0::l)]/\h'=Ag (Iq roots C A Kl dec []) Ad)(ik:cs=[])(tu:∀a,(Value.string p,a)∉C)(qc:Cn x roots (n+1) dec=Mn (Yu x roots n dec (n0::l)) cs cs.length)(hM:out.length<=M) :
  Gb Tryz.prog Y 131 (Oo yl) (Ag (vH roots C A yl (ob true) dec out) Ad) (VQ roots C A yl M ob dec (out++Qq (Cn x roots (n+1) dec))):=by
 obtain⟨hdl,hcl,hnl,hnq,hcr,hcs_,hkey,ih⟩:=hL;have hdl:dec.length<=256:=hdl;have hcl:cs.length<=256:=hcl;refine Qu (l:=yl) (cxv (pC [8] [1,2,4,6,8,9,10,11,12,13,14,15,16,17]) yl Y) fX fX rfl Cu hm rfl Tryz.func131 aa0 rfl (Nz rfl) aa0 rfl rfl Il (cU [(0,.ref 1005 0),(1,.cptr [.v (.func (.yield yl) #[] #[])]),(2,.ref 1006 0)] [(1000,.cells (Qh roots C A Kl dec 0)),(1001,.tok 6 0),(1002,.tok 1 0),(1003,.map Em []),(1004,.arr 1 []),(1005,.cells [.ref 1000 0]),(1006,.cells [.clo 131 [.ref 1005 0,.cptr [.v (.func (.yield yl) #[] #[])],.ref 1006 0]]),(1007,.cells [.slice (.id 1008 1) (out.map DN)]),(1008,.tok 1 out.length),(1009,.raw yl (ob true))] Z3 Z10 (Xi (.gen VX 0) (Yi rfl (Bb.imp Ji ?_))));intro v1 g1 q1;have dA:=q1.1;have dB:=q1.2;subst dA;subst dB;refine cU [(0,.ref 1005 0),(1,.cptr [.v (.func (.yield yl) #[] #[])]),(2,.ref 1006 0),(4,vs p),(5,sl A6 (n0::l))] [(1000,.cells (Qh roots C A Kl dec 0)),(1001,.tok 6 0),(1002,.tok 1 0),(1003,.map Em []),(1004,.arr 1 []),(1005,.cells [.ref 1000 0]),(1006,.cells [.clo 131 [.ref 1005 0,.cptr [.v (.func (.yield yl) #[] #[])],.ref 1006 0]]),(1007,.cells [.slice (.id 1008 1) (out.map DN)]),(1008,.tok 1 out.length),(1009,.raw yl (ob true))] Z5 Z10 (Yi (fun h2=>?_) (fun h2=>?_))
 .have h2:(((n0::l).map A6).length:Int)=(0:Int):=h2;exact absurd h2 (by simp;omega)
 have h2:¬((((n0::l).map A6).length:Int)=(0:Int)):=h2;refine cU [(0,.ref 1005 0),(2,.ref 1006 0),(4,vs p),(5,sl A6 (n0::l))] [(1000,.cells (Qh roots C A Kl dec 0)),(1001,.tok 6 0),(1002,.tok 1 0),(1003,.map Em []),(1004,.arr 1 []),(1005,.cells [.ref 1000 0]),(1006,.cells [.clo 131 [.ref 1005 0,.cptr [.v (.func (.yield yl) #[] #[])],.ref 1006 0]]),(1007,.cells [.slice (.id 1008 1) (out.map DN)]),(1008,.tok 1 out.length),(1009,.raw yl (ob true))] Z4 Z10 (Yi (fun a ha=>?_) (fun JH=>?_))
 .exact absurd ha (tu a)
 refine Xi {q:Nat×List (List Sl) // q.1<=cs.length/\q.2=out++Qq (Mn (Yu x roots n dec (n0::l)) cs q.1)/\q.2.length<=M} (Xi (fun q=>⟨[(0,.ref 1005 0),(2,.ref 1006 0),(4,vs p),(5,sl A6 (n0::l)),(37,nzA),(38,vi 0),(39,vi q.1.1)],[(1000,.cells (Qh roots C A Kl dec 0)),(1001,.tok 6 0),(1002,.tok 1 0),(1003,.map Em []),(1004,.arr 1 []),(1005,.cells [.ref 1000 0]),(1006,.cells [.clo 131 [.ref 1005 0,.cptr [.v (.func (.yield yl) #[] #[])],.ref 1006 0]]),(1007,.cells [.slice (.id 1008 1) (q.1.2.map DN)]),(1008,.tok 1 q.1.2.length),(1009,.raw yl (ob true))],Ad⟩) (Xi (fun q=>cs.length-q.1.1) (Yi (Xi ⟨(0,out),AE _,by rw[Xp];simp,hM⟩ ?_) ?_)))
 .exact⟨Z7,Z10,Fh,BQ aa0⟩
 intro⟨⟨i,o⟩,j1,j2,j3⟩;have j1:i<=cs.length:=j1;have j2:o=out++Qq (Mn (Yu x roots n dec (n0::l)) cs i):=j2;have j3:o.length<=M:=j3;refine Yi (fun h3=>?_) (fun h3=>?_)
 .have h3:(i:Int)<(0:Int):=h3;exact absurd h3 (by have q:=j1;rw[ik,Ax]at q;omega)
 have h3:¬((i:Int)<(0:Int)):=h3;have hj:i=cs.length:=by have q:=j1;rw[ik,Ax]at q;rw[ik,Ax];omega
 have eo:o=out++Qq (Cn x roots (n+1) dec):=by rw[j2,hj,<-qc]
 exact VQ.of_le eo j3
theorem Adq(C A:List (Value×AV))(Y:Gh->World->Prop)(yl M n:Nat)(ob:Bool->Obj)(dec:List Cd)(out:List (List Sl))(p:ByteArray)(N:List Nd)(hN:N=[])(hdl:dec.length<=256)(hn:((AG dec).map (·.path)).Nodup)(Il:wk (vH roots C A yl (ob true) dec out) Y)(Ji:Bb Tryz.prog 132 [.ref 1000 0] (Ag (Iq roots C A Kl dec []) Ad) fun r h'=>r=.tup [vs p,sl A6 N]/\h'=Ag (Iq roots C A Kl dec []) Ad)(eK:Cn x roots (n+1) dec=[dec])(hy:G4 Tryz.prog Y yl [sl Ao (DO (AG dec))] (Ag (vH roots C A yl (ob true) dec out) Ad) (VQ roots C A yl M ob dec (out++[DO (AG dec)]))) :
  Gb Tryz.prog Y 131 (Oo yl) (Ag (vH roots C A yl (ob true) dec out) Ad) (VQ roots C A yl M ob dec (out++Qq (Cn x roots (n+1) dec))):=by
 have Z0:Cw (AG dec):=by unfold Cw AG;rw[Lm];omega
 have Vw:(AG dec).length=((DO (AG dec)).map Ao).length:=(Mk (AG dec)).length_eq.symm.trans (Lm ..).symm;refine Qu (l:=yl) (cxv ⟨[],[],[],[],[],[],[],[],[],[(200005,6)],[1,2,3,4,5,6,10,11,13,14,15,17]⟩ yl Y) fX fX rfl Cu hm rfl Tryz.func131 aa0 rfl (Nz rfl) aa0 rfl rfl Il (cU [(0,.ref 1005 0),(1,.cptr [.v (.func (.yield yl) #[] #[])]),(2,.ref 1006 0)] [(1000,.cells (Qh roots C A Kl dec 0)),(1001,.tok 6 0),(1002,.tok 1 0),(1003,.map Em []),(1004,.arr 1 []),(1005,.cells [.ref 1000 0]),(1006,.cells [.clo 131 [.ref 1005 0,.cptr [.v (.func (.yield yl) #[] #[])],.ref 1006 0]]),(1007,.cells [.slice (.id 1008 1) (out.map DN)]),(1008,.tok 1 out.length),(1009,.raw yl (ob true))] Z3 Z10 (Xi (.gen VX 0) (Yi rfl (Bb.imp Ji ?_))));intro v1 g1 q1;have dA:=q1.1;have dB:=q1.2;subst dA;subst dB;refine cU [(0,.ref 1005 0),(1,.cptr [.v (.func (.yield yl) #[] #[])]),(2,.ref 1006 0),(4,vs p),(5,sl A6 N)] [(1000,.cells (Qh roots C A Kl dec 0)),(1001,.tok 6 0),(1002,.tok 1 0),(1003,.map Em []),(1004,.arr 1 []),(1005,.cells [.ref 1000 0]),(1006,.cells [.clo 131 [.ref 1005 0,.cptr [.v (.func (.yield yl) #[] #[])],.ref 1006 0]]),(1007,.cells [.slice (.id 1008 1) (out.map DN)]),(1008,.tok 1 out.length),(1009,.raw yl (ob true))] Z5 Z10 (Yi (fun h2=>?_) (fun h2=>?_))
 .have h2:((N.map A6).length:Int)=(0:Int):=h2;refine cU [(0,.ref 1005 0),(1,.cptr [.v (.func (.yield yl) #[] #[])])] [(1000,.cells (Qh roots C A Kl dec 0)),(1001,.tok 6 0),(1002,.tok 1 0),(1003,.map Em []),(1004,.arr 1 []),(1005,.cells [.ref 1000 0]),(1006,.cells [.clo 131 [.ref 1005 0,.cptr [.v (.func (.yield yl) #[] #[])],.ref 1006 0]]),(1007,.cells [.slice (.id 1008 1) (out.map DN)]),(1008,.tok 1 out.length),(1009,.raw yl (ob true))] Z2 Z10 (Xi (.gen [] 1) (Yi rfl (Bb.imp (zf (AG dec) Z0) ?_)));intro v3 g3 q3;have q3a:=q3.1;have q3b:=q3.2;subst q3a;subst q3b;refine cU [(1,.cptr [.v (.func (.yield yl) #[] #[])]),(6,.msl 12600 (AG dec).length)] [(1000,.cells (Qh roots C A Kl dec 0)),(1001,.tok 6 0),(1002,.tok 1 0),(1003,.map Em []),(1004,.arr 1 []),(1005,.cells [.ref 1000 0]),(1006,.cells [.clo 131 [.ref 1005 0,.cptr [.v (.func (.yield yl) #[] #[])],.ref 1006 0]]),(1007,.cells [.slice (.id 1008 1) (out.map DN)]),(1008,.tok 1 out.length),(1009,.raw yl (ob true)),(12600,.arr 4 ((AG dec).map Ao))] Z2 Z11 (Xi (.gen [(12600,1000)] 0) (Yi rfl (Bb.imp (s47 133 Tryz.closure133 (enters_of Tryz.func133 aa0 rfl) (AG dec) Z0 hn) ?_)));intro v4 g4 q4;have yI:=q4.1;have yJ:=q4.2;subst yI;subst yJ;refine Yi (show(AG dec).length=((DO (AG dec)).map Ao).length from Vw) (cU [(1,.cptr [.v (.func (.yield yl) #[] #[])]),(6,sl Ao (DO (AG dec)))] [(1000,.cells (Qh roots C A Kl dec 0)),(1001,.tok 6 0),(1002,.tok 1 0),(1003,.map Em []),(1004,.arr 1 []),(1005,.cells [.ref 1000 0]),(1006,.cells [.clo 131 [.ref 1005 0,.cptr [.v (.func (.yield yl) #[] #[])],.ref 1006 0]]),(1007,.cells [.slice (.id 1008 1) (out.map DN)]),(1008,.tok 1 out.length),(1009,.raw yl (ob true))] Z2 Z10 (Xi (.gen fX 0) (Yi rfl (G4.imp (G4.pre hy (fun g w q=>q rfl rfl)) ?_))));intro v5 g5 q5;have q5a:=q5.1;have q5b:=q5.2;subst q5a;subst q5b;have eL:out++Qq (Cn x roots (n+1) dec)=out++[DO (AG dec)]:=by rw[eK];rfl
  exact eL▸Zr
 have h2:¬(((N.map A6).length:Int)=(0:Int)):=h2;exact absurd (by rw[hN];rfl) h2
theorem c8{x:List Rl}{roots:List Rq}{n:Nat}(h:(D6 roots dec).2=[]):Cn x roots (n+1) dec=[dec]:=by unfold Cn;rw[h]
theorem leaves_cons{x:List Rl}{roots:List Rq}{n:Nat}{n0:Nd}{l:List Nd}(h:(D6 roots dec).2=n0::l) :
  Cn x roots (n+1) dec=Mn (Yu x roots n dec (n0::l)) (Bo x (D6 roots dec).1) (Bo x (D6 roots dec).1).length:=by
 unfold Cn Mn;rw[h,CK]
theorem s63{x:List Rl}{roots:List Rq}{C A:List (Value×AV)}{Y:Gh->World->Prop}{yl M:Nat}{ob:Bool->Obj}(hE:wg x roots C A)(Il:∀dec out,wk (vH roots C A yl (ob true) dec out) Y)
  (hy:∀dec out,dec.length<=256->out.length<=M->G4 Tryz.prog Y yl [sl Ao (DO (AG dec))] (Ag (vH roots C A yl (ob true) dec out) Ad) (VQ roots C A yl M ob dec (out++[DO (AG dec)]))) :
  ∀(n:Nat) {dec:List Cd} {out:List (List Sl)},EG x dec->FI x dec<n->out.length<=M ->
  Gb Tryz.prog Y 131 (Oo yl) (Ag (vH roots C A yl (ob true) dec out) Ad) (VQ roots C A yl M ob dec (out++Qq (Cn x roots n dec)))
 |0,_,_,_,h,_=>by omega
 |n+1,dec,out,hd,hn,hM=>by
  have hx:=hE.hx;have hr:=hE.hr;have cP:=M6 hx;have hdl:=TP hd;have mg:dec.length<=256:=by have:=cP.1;omega
  have Uk:∀c∈dec,c.rel.reqs.length<=16:=fun c hc=>cP.2 _ (hd.cand c hc).1;have Ji:=s64 roots C A Kl dec [] (A9 (LI hr) Cl) ch fun c hc=>A9 (Uk c hc) Cl;obtain⟨N,hN⟩:∃N,N=(D6 roots dec).2:=⟨_,rfl⟩;obtain⟨q,hq⟩:∃q,q=(D6 roots dec).1:=⟨_,rfl⟩;rw[<-hN,<-hq]at Ji;have xo:N.length<=10000:=by
   have h1:=WO (roots:=roots) dec;have h2:(Dh roots dec).length=(Hr roots dec).length:=by rw[<-Ly,Lm]
   have h3:=lL Uk;have h4:=LI hr;rw[<-hN]at h1;unfold Hr at h2;rw[Ac]at h2;omega
  cases hNc:N with
  |nil=>
   rw[hNc]at hN Ji;have eK:=c8 (x:=x) (n:=n) hN.symm;exact Adq x roots C A Y yl M n ob dec out q [] rfl mg (by rw[Mb];exact hd.nodup) (Il dec out) Ji eK (hy dec out mg hM)
  |cons n0 l=>
   rw[hNc]at hN Ji;have ic:=J4 hN.symm;have eK:=leaves_cons (x:=x) (n:=n) hN.symm;rw[<-hq]at ic eK;have PI:∀nd∈n0::l,nd∈Dh roots dec:=fun nd h=>((ic.mem nd).1 h).1;have few:∀nd∈Dh roots dec,Cw nd.rq.set:=fun nd h=>by
    rcases Lx h with ⟨k,r,h1,rfl⟩ | ⟨c,hc,k,r,h1,rfl⟩
    .exact(hE.fr r (Av h1)).1
    .exact((hE.fx _ (hd.cand c hc).1).2 r (Av h1)).1
   have iw:∀c∈Bo x q,EG x (dec++[c])/\c.rel.path=q/\c.rel∈x:=fun c hc=>by
    obtain⟨c1,c2⟩:=Hu hc;exact⟨hd.snoc c2 (by rw[c1];exact ic.undone),c1,c2.1⟩
   have E1:∀(i:Nat) (h:i<(Bo x q).length),(Bo x q)[i]∈Bo x q:=fun i h=>Aq h
   have hL:LvV x roots C A Y yl M n ob dec q n0 l (Bo x q):={
    hdl:=mg
    hcl:=A9 (QA x q) cP.1
    hnl:=by rw[hNc]at xo;unfold Cw;omega
    hnq:=fun nd h=>few nd (PI nd h)
    hcr:=fun i h=>by have:=cP.2 _ (iw _ (E1 i h)).2.2;omega
    hcs_:=fun i h r qj=>((hE.fx _ (iw _ (E1 i h)).2.2).2 r qj).1
    hkey:=fun i h=>by
     have b:=(iw _ (E1 i h)).2.1;unfold AG;rw[Az,Az];show _=_++[[vs (Bo x q)[i].rel.path,vi (Bo x q)[i].rel.ver.a,vi (Bo x q)[i].rel.ver.b,vi (Bo x q)[i].rel.ver.c]];rw[b]
    ih:=fun i h FY AgI hM'=>by
     obtain⟨a,b,c3⟩:=iw _ (E1 i h);obtain⟨_,c2⟩:=Hu (E1 i h);have oU:FI x (dec++[(Bo x q)[i]])<n:=by have:=OA (dec:=dec) ⟨c2.1,c2.2.1⟩ (by rw[b];exact ic.undone);omega
     exact s63 hE Il hy n a oU hM' }
   by_cases hcs:Bo x q=[]
   .exact Adp x roots C A Y yl M n ob dec out q n0 l (Bo x q) hL (Il dec out) Ji hcs (hE.c3 q hcs) eK hM
   .exact Ado x roots C A Y yl M n ob dec out q n0 l (Bo x q) hL (Il dec out) Ji (hE.c1 q) (fun hc=>hcs (hE.c2 q hc)) eK hM
theorem uQ{r0:Nat}{QD:Cx}{P:Program}{N:Nat}{fn:Func}{res:AV}{b rest:Code}{st:St}(σF σ:HU)(H0 Hn:List (Nat×HO))(gf:Nat)(caps:List AV){Qo s:Nat}{ps:Array Tmp}{Ew body:Code}
  (hb:b=.block Qo (.rangeFunc (.tmp s) ps Ew body)) (k1:(Ef σF&&DC st.h 0 0&&De σF 0 0)=true) (k2:Ft σF st.h=Ag H0 Ad) (k0:Ag H0 Ad r0=.free) (k3:∀o,(E4 σ&&FH σ ((r0,o)::H0))=true) (k4:∀o,FH σ ((r0,o)::Hn)=true)
  (k5:ren (Cc σF) st.h (st.t s)=.clo gf caps)
  (k6:∀(l D:Nat) (f' : FuncId) (tm:Array Value),tm.size=N->NY P (fun g w=>∀i,Br g w (AN (Ag ((r0,.raw l (.loop (Fs f' tm ps Ew body D .ready)))::H0) Ad)) (ren (Cc σF) st.h (st.t i)) (tm.getD i undef)) σ gf
   (.v (.func (.yield l) #[] #[])::caps) (Ag ((r0,.raw l (.loop (Fs f' tm ps Ew body D .ready)))::H0) Ad) fun _ h'=>∃b,h'=Ag ((r0,.raw l (.loop (U2 f' tm ps Ew body D Qo b)))::Hn) Ad)
  (k7:DJ N rest=true) (k8:∀o,NZ QD rest (ct QD fn.results.toList fun r=>EY r res) ⟨fun i=>ren (Cc σF) st.h (st.t i),Ag ((r0,o)::Hn) Ad⟩) (k9:MB [] body=true:=by kernel_rfl):RfB r0 QD P N fn res b rest st:=
 ⟨σF,σ,H0,Hn,Qo,s,ps,Ew,body,gf,caps,hb,k1,k2,k0,k3,k4,k5,k6,k7,k9,k8⟩
abbrev wh:HU:=[(1009,1009),(1000,1000),(1001,1001),(1002,1002),(1003,1003),(1004,1004),(1005,1005),(1007,1007),(1008,1008)]
abbrev wi:HU:=[(1009,1009),(1000,1000),(1001,1001),(1002,1002),(1003,1003),(1004,1004),(1005,1005),(3,1006),(1007,1007),(1008,1008)]
abbrev uH(C A:List (Value×AV))(out:List (List Sl)):List (Nat×HO):=
 [(1000,.cells (Qh roots C A Kl [] 0)),(1001,.tok 6 0),(1002,.tok 1 0),(1003,.map Em []),(1004,.arr 1 []),(1005,.cells [.ref 1000 0]),(1007,.cells [.slice (.id 1008 1) (out.map DN)]),(1008,.tok 1 out.length)]
noncomputable abbrev cxw(pl:Qn)(l:Nat)(Y:Gh->World->Prop):Cx:=⟨Tryz.prog,og,pl,true,0,fun l' σ' g w=>l'=l->σ'=wi->Y g w⟩
theorem sf{roots:List Rq}{i:Nat}(h:AN (Ag ((1009,O)::uH roots C A o) Ad) i):i=1009\/i=1000\/i=1001\/i=1002\/i=1003\/i=1004\/i=1005\/i=1007\/i=1008:=by
 unfold AN at h
 by_cases e9:i=1009
 .exact .inl e9
 by_cases e0:i=1000
 .exact .inr (.inl e0)
 by_cases e1:i=1001
 .exact .inr (.inr (.inl e1))
 by_cases e2:i=1002
 .exact .inr (.inr (.inr (.inl e2)))
 by_cases e3:i=1003
 .exact .inr (.inr (.inr (.inr (.inl e3))))
 by_cases e4:i=1004
 .exact .inr (.inr (.inr (.inr (.inr (.inl e4)))))
 by_cases e5:i=1005
 .exact .inr (.inr (.inr (.inr (.inr (.inr (.inl e5))))))
 by_cases e6:i=1007
 .exact .inr (.inr (.inr (.inr (.inr (.inr (.inr (.inl e6)))))))
 by_cases e7:i=1008
 .exact .inr (.inr (.inr (.inr (.inr (.inr (.inr (.inr e7)))))))
 exfalso;apply h
 simp only[Ag,B9 e9,B9 e0,B9 e1,B9 e2,B9 e3,B9 e4,B9 e5,B9 e6,B9 e7,Eh];rfl
theorem si{roots:List Rq}{o':List (List Sl)}{ob ob' : Obj}:∀i,AN (Ag ((1009,.raw yl ob)::uH roots C A o) Ad) i->AN (Ag (vH roots C A yl ob' dec o') Ad) i:=fun i h=>by
 rcases sf h with rfl | rfl | rfl | rfl | rfl | rfl | rfl | rfl | rfl<;>(intro q;cases q)
theorem zj{roots:List Rq}:∀i,AN (Ag ((1009,O)::uH roots C A o) Ad) i->GS wi i=GS wh i:=fun i h=>by
 rcases sf h with rfl | rfl | rfl | rfl | rfl | rfl | rfl | rfl | rfl<;>rfl
theorem nM{σ σ' : HU}{U:Nat->Prop}(h:∀i,U i->GS σ' i=GS σ i){tm:Array Value}{env:Nat->AV} :
  ∀g w,(∀i,Br (CL σ g) w U (env i) (tm.getD i undef))->∀i,Br (CL σ' g) w U (env i) (tm.getD i undef):=fun g w q=>
 (ra (R:=fun _=>True) h g w ⟨trivial,q⟩).2
theorem s30(C A:List (Value×AV))(s:SS)(dec:List Cd)(st:List (List Sk)):Bb Tryz.prog 77 [.ref 1000 0] (Ag (Iq roots C A s dec st) Ad) fun r h'=>r=.clo 130 [.ref 2000 0]/\h'=Ag (Iq roots C A s dec st++[(2000,.cells [.ref 1000 0])]) Ad:=by
 refine Cm (MC DU) [(1000,1000),(1001,1001),(1002,1002),(1003,1003),(1004,1004),(1,2000)] rfl Cu hm rfl Tryz.func77 aa0 rfl (Nz rfl) aa0 rfl ?_;exact Xi _ (Yi (.refl _) Zr)
theorem s62{x:List Rl}{roots:List Rq}{Y0 Y:Gh->World->Prop}{M:Nat}{ob:Bool->Obj}(hE:wg x roots C A)(Il:∀dec out,wk (vH roots C A yl (ob true) dec out) Y)(hy:∀dec out,dec.length<=256->out.length<=M->G4 Tryz.prog Y yl [sl Ao (DO (AG dec))] (Ag (vH roots C A yl (ob true) dec out) Ad) (VQ roots C A yl M ob dec (out++[DO (AG dec)])))(tr:∀g w,Y0 (CL wh g) w->Y (CL wi g) w) :
  NY Tryz.prog Y0 wh 130 [.v (.func (.yield yl) #[] #[]),.ref 1005 0] (Ag ((1009,.raw yl (ob true))::uH roots C A []) Ad) fun _ h'=>∃b,h'=Ag ((1009,.raw yl (ob b))::uH roots C A ((Qq (Cn x roots (x.length+1) [])).take M)) Ad:=by
 have qk:=s63 hE Il hy (x.length+1) (dec:=[]) (out:=[]) (.nil x) (Nat.lt_succ_of_le (BC _ _)) (AE _);refine iB (l:=yl) (cxw (pC [2] []) yl Y) wh wi rfl Cu hm rfl Tryz.func130 aa0 rfl (Nz rfl) aa0 rfl rfl tr (Yi ?_ ?_)
 .exact Nz rfl
 refine Xi (.geny wi 0) (Yi rfl (Gb.imp (Gb.pre qk (fun g w q=>q yl rfl rfl)) ?_));intro v g q;have q1:=q.1;have q2:=q.2;subst q1;subst q2;exact⟨_,rfl⟩
theorem zk{roots:List Rq}{o:Obj}{out:List (List Sl)}{es:List (List AV)}{k:Nat}(h1:es=out.map DN)(h2:k=out.length) :
  Ag [(1009,.raw yl o),(1000,.cells (Qh roots C A Kl dec 0)),(1001,.tok 6 0),(1002,.tok 1 0),(1003,.map Em []),(1004,.arr 1 []),(1005,.cells [.ref 1000 0]),(1006,.cells [.clo 131 (Oo yl)]),(1007,.cells [.slice (.id 1008 1) es]),(1008,.tok 1 k)] Ad=Ag (vH roots C A yl o dec out) Ad:=by
 subst h1;subst h2;rfl
theorem VQ.eq{roots:List Rq}{M:Nat}{ob:Bool->Obj}{r:AV}{h1 h2:Nat->HO}(hq:VQ roots C A yl M ob dec o r h1)(e:h2=h1):VQ roots C A yl M ob dec o r h2:=by subst e;exact hq
theorem VQ.at{roots:List Rq}{C A:List (Value×AV)}{yl M:Nat}{ob:Bool->Obj}{dec:List Cd}{out:List (List Sl)}{s:List Sl}(h:out.length=M):VQ roots C A yl M ob dec (out++[s]) (vb false) (Ag (vH roots C A yl (ob false) dec out) Ad):=by
 have q:=VQ.of_gt (roots:=roots) (C:=C) (A:=A) (yl:=yl) (M:=M) (ob:=ob) (dec:=dec) (o':=out++[s]) (o:=out++[s]) (by rw[Ac,AJ];omega) ⟨[],(BZ _).symm⟩
 rwa [Ev h]at q
def XG:Int:=if Du x roots=false\/m<0\/1024<m then 1 else 0
def bR:List (List Sl):=if XG x roots m=0 then(Qq (Cn x roots (x.length+1) [])).take m.toNat else []
theorem uS(hx:∀r∈x,Jw r)(hr:∀q∈roots,NQ q)(hv:Du x roots=true)(vG:0<=Gs)(rR:Gs<=1024) :
  PC 35 [LO x ifs,sl A2 roots,vi Gs] (.tup [sl DN ((Qq (Cn x roots (x.length+1) [])).take Gs.toNat),vi 0]):=by
 obtain⟨v0,v1⟩:=Ke hv;have M3:=wa x ifs roots hx hr;rw[hv]at M3;refine ju 1009 (dY ⟨[3,5],[],[],[],[],[],[],[(22,(8,0,60,1))],[],[],[1,2,3,8]⟩) (MC DU) rfl Cu rfl Cu hm rfl rfl Tryz.func35 aa0 rfl (Nz rfl) aa0 3 (fun _ _=>Zr) (cU [(1,sl A2 roots),(3,.ref 3 0),(5,.ref 5 0)] [(3,.ro (Ic x ifs)),(5,.ro [vi (Gs:Int)])] Z3 Z2 (yN (Xi .pure (Xi _ (Yi M3 (Yi (fun h1=>?_) (fun h1=>?_)))))))
 .have h1:((Gs:Int):Int)<(0:Int):=h1;exact absurd h1 ch
 have h1:¬(((Gs:Int):Int)<(0:Int)):=h1;refine Yi (fun h2=>?_) (fun h2=>?_)
 .have h2:(1024:Int)<((Gs:Int):Int):=h2;exact absurd h2 ch
 have h2:¬((1024:Int)<((Gs:Int):Int)):=h2;refine cU [(1,sl A2 roots),(3,.ref 3 0),(5,.ref 5 0)] [(3,.ro (Ic x ifs)),(5,.ro [vi (Gs:Int)])] Z3 Z2 (yN (Xi (.gen [] 5) (Yi rfl ((s29 x ifs roots hx v0).imp ?_))));intro v g q;refine BA q (fun L q=>?_);have q1:=q.2.1;have q2:=q.2.2;have qp:=q.1;subst q1;subst q2;have hE:=lI hx hr v0 v1 qp;refine Xi (.gen [(12400,1000),(12401,1001),(12402,1002),(12403,1003),(12404,1004)] 1) (Yi rfl (Bb.imp (s30 roots (mC x) (L.map (kA x)) Kl [] []) ?_));intro v2 g2 q3;have q3a:=q3.1;have q3b:=q3.2;subst q3a;subst q3b;refine uQ (r0:=1009) [(12400,1000),(12401,1001),(12402,1002),(12403,1003),(12404,1004),(12500,1005),(8,1007),(60,1008)] wh (uH roots (mC x) (L.map (kA x)) []) (uH roots (mC x) (L.map (kA x)) ((Qq (Cn x roots (x.length+1) [])).take Gs.toNat)) 130 [.ref 1005 0] rfl aa0 aa0 rfl (fun _=>by kernel_rfl) (fun _=>by kernel_rfl) aa0 (fun l9 D9 f9 tm9 vQ=>s62 (M:=Gs.toNat) (ob:=fun b=>.loop (U2 f9 tm9 _ _ _ D9 0 b)) hE (fun dec out=>nL (σ:=fX) aa0 si) (fun dec out hdl Hp=>j9 1009 (σ:=fX) (MC DU) rfl Cu hm rfl aa0 rfl (by rfl) vQ aa0 aa0 aa0 si ?_) (nM zj)) aa0 (fun _=>?_)
 .refine Yi rfl (Yi (fun h9=>?_) (fun h9=>?_))
  .have h9:((out.map DN).length:Int)=Gs:=h9;have e9:out.length=Gs.toNat:=by rw[Lm]at h9;omega
   exact Yi rfl (VQ.at e9)
  have h9:¬((out.map DN).length:Int)=Gs:=h9;have l9' : out.length<Gs.toNat:=by rw[Lm]at h9;omega
  have b9:CR 1 [DN (DO (AG dec))]/\(out.map DN).length=out.length/\((out.map DN).length+([DN (DO (AG dec))]:List (List AV)).length)*24<=140737488355328/\(out.map DN).length+([DN (DO (AG dec))]:List (List AV)).length<=9223372036854775807:=
   ⟨⟨rfl,trivial⟩,Lm ..,by rw[Lm,AJ];omega,by rw[Lm,AJ];omega⟩
  refine Yi b9 (Yi ?_ ?_)
  .exact Nz rfl
  have e9:(out++[DO (AG dec)]).map DN=out.map DN++[DN (DO (AG dec))]:=by rw[Az];rfl
  have e8:(out++[DO (AG dec)]).length=(out.map DN).length+1:=by rw[Ac,Lm];rfl
  exact Yi rfl (VQ.eq (VQ.of_le rfl (by rw[Ac,AJ];omega)) (zk e9.symm e8.symm))
 exact .refl _
theorem rf(hx:∀r∈x,Jw r)(hr:∀q∈roots,NQ q)(md:Du x roots=false\/Gs<0\/1024<Gs) :
  PC 35 [LO x ifs,sl A2 roots,vi Gs] (.tup [sl DN ([]:List (List Sl)),vi 1]):=by
 have M3:=wa x ifs roots hx hr;refine Ps (pC [3,5] [1,2,3,8]) Tryz.func35 rfl (Nz rfl) (cU [(1,sl A2 roots),(3,.ref 3 0),(5,.ref 5 0)] [(3,.ro (Ic x ifs)),(5,.ro [vi (Gs:Int)])] Z3 Z2 (yN (BL (Bt (Du x roots)) (fun h1=>?_) (fun h1=>?_))))
 .have h1:(Du x roots)=true:=h1;have kg:=M3;rw[show(Du x roots)=true from h1]at kg;refine Xi .pure (Xi _ (Yi kg (Yi (fun h3=>?_) (fun h3=>?_))))
  .have h3:((Gs:Int):Int)<(0:Int):=h3;refine cU [] [] Tv Tv ?_
   exact .tup ⟨.nil,.refl _,trivial⟩
  have h3:¬(((Gs:Int):Int)<(0:Int)):=h3;refine Yi (fun h5=>?_) (fun h5=>?_)
  .have h5:(1024:Int)<((Gs:Int):Int):=h5;refine cU [] [] Tv Tv ?_
   exact .tup ⟨.nil,.refl _,trivial⟩
  have h5:¬((1024:Int)<((Gs:Int):Int)):=h5;have hv1:Du x roots=true:=h1;exact absurd md (by rintro(c | c | c);exact absurd (c.symm.trans hv1) Cl;omega;omega)
 have h1:(Du x roots)=false:=h1;have rN:=M3;rw[show(Du x roots)=false from h1]at rN;refine Xi .pure (Xi _ (Yi rN (cU [] [] Tv Tv ?_)))
 exact .tup ⟨.nil,.refl _,trivial⟩
theorem s10(hx:∀r∈x,Jw r)(hr:∀q∈roots,NQ q) :
  PC 35 [LO x ifs,sl A2 roots,vi Gs] (.tup [sl DN (bR x roots Gs),vi (XG x roots Gs)]):=by
 by_cases h:Du x roots=false\/Gs<0\/1024<Gs
 .have h1:XG x roots Gs=1:=by unfold XG;rw[As h]
  have h2:bR x roots Gs=[]:=by unfold bR;rw[h1];rfl
  rw[h1,h2];exact rf x ifs roots Gs hx hr h
 .have h1:XG x roots Gs=0:=by unfold XG;rw[Ah h]
  have h2:bR x roots Gs=(Qq (Cn x roots (x.length+1) [])).take Gs.toNat:=by unfold bR;rw[h1,As rfl]
  rw[h1,h2];exact uS x ifs roots Gs hx hr (by cases e:Du x roots with | true=>rfl | false=>exact absurd (.inl e) h) ch ch
end Go.Eng
namespace Go.Eng
section
variable {x:List Rl}{roots:List Rq}
def O0(x:List Rl)(roots:List Rq):Prop:=∃s,oH x roots s
theorem YR(hv:Du x roots=true)(hx:x.length<=16):Jo x roots=0:=by
 unfold Jo;rw[As hv,OR hx];rfl
theorem Mj(hv:Du x roots=true)(hx:x.length<=16):Jn x roots=gm x roots:=by
 unfold Jn;rw[As ⟨hv,OR hx⟩]
theorem Oz(hv:Du x roots=true)(hx:x.length<=16):(Jn x roots).found=true↔O0 x roots:=by
 obtain⟨h0,h1⟩:=Ke hv;have hR:=NO h0 h1;have hf:=OR (roots:=roots) hx;rw[Mj hv hx];unfold gm;generalize E6 x roots=o at *
 constructor
 .intro h
  by_cases Sa:o.found=true
  .obtain⟨_,t,sl,y2,y3,y4,y5⟩:=hR.yes Sa;have hm:o.dec∈Cn x roots (x.length+1) []:=List.mem_of_head? y5;exact⟨_,(JJ (.nil x) (.nil roots) _ hm).sol h0⟩
  .rw[Ah Sa]at h;cases h
 .rintro⟨s,hs⟩
  by_cases Sa:o.found=true
  .rw[As Sa]
  .have Sa:o.found=false:=by simpa using Sa
   obtain⟨n4,n5⟩:=(hR.no Sa).2.2 hf;have tX:Eo o.ss o.res=[]:=by
    cases h:Eo o.ss o.res with
    |nil=>rfl
    |cons u l=>
     rw[h]at n5
     have:=(L4.1 n5).2 u (Ab ..)
     cases this
   have qd:Eo o.ss o.res∈o.ss.drv:=Av (E3 n4)
   have:=JS hs (fun _ h=>by cases h) hR.der.der _ qd
   rw[tX]at this;cases this
theorem Vc(hv:Du x roots=true)(hx:x.length<=16):(OP x roots=0↔O0 x roots)/\(OP x roots=17↔¬O0 x roots):=by
 unfold OP;rw[YR hv hx,Ah (fun h=>h rfl),<-Oz hv hx]
 by_cases h:(Jn x roots).found=true
 .rw[As h];simp[h]
 .rw[Ah h];simp[h]
theorem KT(hv:Du x roots=true)(hx:x.length<=16):Cn x roots (x.length+1) []≠[]↔O0 x roots:=by
 obtain⟨h0,h1⟩:=Ke hv;constructor
 .intro h;cases hl:Cn x roots (x.length+1) []with
  |nil=>exact absurd hl h
  |cons d L=>
   have hm:d∈Cn x roots (x.length+1) []:=by rw[hl];exact Ab ..
   exact⟨_,(JJ (.nil x) (.nil roots) _ hm).sol h0⟩
 .intro h e;have hf:=(Oz hv hx).2 h;have hR:=NO h0 h1;rw[Mj hv hx]at hf;unfold gm at hf
  by_cases Sa:(E6 x roots).found=true
  .obtain⟨_,t,sl,y2,y3,y4,y5⟩:=hR.yes Sa;have hm:=List.mem_of_head? y5;rw[e]at hm;cases hm
  .rw[Ah Sa]at hf;cases hf
theorem Xb(hv:Du x roots=true)(hx:x.length<=16){d:List Cd}{l:List (List Cd)}(h:Cn x roots (x.length+1) []=d::l):OP x roots=0/\Mh x roots=DO (AG d):=by
 obtain⟨h0,h1⟩:=Ke hv;have hF:O0 x roots:=(KT hv hx).1 (by rw[h];exact Jd _ _);have hE:=(Vc hv hx).1.2 hF;refine⟨hE,?_⟩;have hf:=(Oz hv hx).2 hF;have hR:=NO h0 h1;unfold Mh;rw[hE,As rfl,Mj hv hx];rw[Mj hv hx]at hf;unfold gm at hf⊢
 by_cases Sa:(E6 x roots).found=true
 .rw[As Sa];obtain⟨_,t,sl,y2,y3,y4,y5⟩:=hR.yes Sa;rw[h]at y5;cases y5;rfl
 .rw[Ah Sa]at hf;cases hf
theorem nV(h:Du x roots=false):OP x roots≠0/\Mh x roots=[]:=by
 have h2:Jo x roots=1:=by unfold Jo;rw[h];rfl
 have h3:OP x roots=1:=by unfold OP;rw[h2];rfl
 exact⟨by rw[h3];decide,by unfold Mh;rw[h3];rfl⟩
end
theorem UA{x:List Rl}{roots:List Rq}:∀{n:Nat} {dec:List Cd},∀d∈Cn x roots n dec,dec <+: d
 |0,_,_,h=>by cases h
 |n+1,dec,d,h=>by
  unfold Cn at h;split at h
  .rw[Aj.1 h];exact List.prefix_refl _
  .obtain⟨l,hl,hd⟩:=DQ.1 h;obtain⟨c,_,rfl⟩:=Ak.1 hl;split at hd
   .exact(Kf _ _).trans (UA d hd)
   .cases hd
end Go.Eng
namespace Go.Eng
open Go.Proofs
variable {m:List (ByteArray×ByteArray)}{k:ByteArray}{i:Nat}{caps:List AV}{α β:Type}{fF:Nat}(x:List Rl)(f:α->β)(enc:β->List AV)(l:List ByteArray)
theorem uB{l:List α}(h:i<l.length):((l.take i).map f).map enc++[enc (f l[i])]=((l.take (i+1)).map f).map enc:=by
 rw[AZ,Ge h,Pb,Az,Az];rfl
theorem uA(l:List α)(i:Nat):(((l.take i).map f).map enc).length<=l.length:=by
 rw[Lm,Lm,AA];omega
def Im(s:Sl):Bool:=match Bs s.path with
 |none=>true
 |some m=>!B3 s.ver||decide (s.ver.a≠m)
def Ha(l:List Sl):Bool:=B6 l&&!l.any Im
def GZ(l:List Cp):Int:=if 1024<(l.length:Int)then 7 else if Ha (l.map Es)=true then 0 else 1
theorem kX(c:Cp):PC 64 [.agg (BY c)] (.agg (Ao (Es c))):=by
 refine Ps DU Tryz.func64 rfl (Nz rfl) (yN (yN (yN ?_)));exact .refl _
theorem XL(l:List Cp)(hl:Cw l):PC 49 [sl BY l] (sl Ao (l.map Es)):=by
 have tU:l.length<=1073741824:=hl;refine Ps (pT [] [(3,4)] []) Tryz.func49 rfl (Nz rfl) (Xi {q:Nat // q<=l.length} (Xi (fun q=>⟨[(3,.slice (.id 3 4) (((l.take q.1).map Es).map Ao)),(6,sl BY l),(7,vi (l.map BY).length),(8,vi q.1)],[(3,.tok 4 (((l.take q.1).map Es).map Ao).length)],Ad⟩) (Xi (fun q=>l.length-q.1) (Yi (Xi ⟨0,AE _⟩ ?_) ?_))))
 .exact⟨Z4,Z1,Fh,Tv⟩
 intro⟨i,i1⟩;have i1:i<=l.length:=i1;have hln:=uA Es Ao l i;refine Yi (fun h1=>?_) (fun h1=>?_)
 .have h1:(i:Int)<((l.map BY).length:Int):=h1;have n1:=Lu h1;refine Xi (BY l[i]) (Yi (Y4 n1) (Yi rfl (yN (yN (yN (Xi .pure (Xi _ (Yi (kX l[i]) ?_))))))));have b2:CR 4 [(Ao (Es l[i]))]/\(((l.take i).map Es).map Ao).length=(((l.take i).map Es).map Ao).length/\((((l.take i).map Es).map Ao).length+([(Ao (Es l[i]))]:List (List AV)).length)*40<=140737488355328/\(((l.take i).map Es).map Ao).length+([(Ao (Es l[i]))]:List (List AV)).length<=9223372036854775807:=⟨⟨rfl,trivial⟩,rfl,(by simp only[Lm,Al,Ax,AA];omega),(by simp only[Lm,Al,Ax,AA];omega)⟩;refine Yi b2 (Yi (Ii i ch) ?_);have ew:=uB Es Ao n1;refine Xi ⟨i+1,by omega⟩ ?_;exact⟨Dl l.length i ch,⟨⟨(Aa (AV.slice (.id 3 4)) ew),rfl⟩,Zr,Zr,Zr,Tv⟩,⟨⟨(show HO.tok 4 ((((l.take i).map Es).map Ao).length+([(Ao (Es l[i]))]:List (List AV)).length)=.tok 4 (((l.take (i+1)).map Es).map Ao).length from Aa (HO.tok 4) (Ac.symm.trans (Aa List.length ew))),rfl⟩,Tv⟩,Fh,Tv⟩
 have h1:¬((i:Int)<((l.map BY).length:Int)):=h1;have n1:=Ip h1;exact EY.of_eq (show AV.slice .none (((l.take i).map Es).map Ao)=sl Ao (l.map Es) by rw[AB ch])
theorem Wb(s:List Sl)(hs:Cw s):PC 41 [sl Ao s] (vb (B6 s)):=by
 unfold Cw at hs;refine Ps DU Tryz.func41 rfl (Nz rfl) ?_;refine Xi {i:Nat // 1<=i/\(s=[]\/i<=s.length)/\B6 s=(match s[i-1]? with | none=>true | some y=>Lt (some y.path) (s.drop i))} (Xi (fun i=>⟨[(0,sl Ao s),(3,vi i.1)],[],Ad⟩) (Xi (fun i=>s.length-i.1) (Yi (Xi ⟨1,Ai _,by cases s with | nil=>exact .inl rfl | cons _ _=>exact .inr B0,by cases s<;>rfl⟩ ?_) ?_)))
 .exact⟨Z2,Tv,Fh,Tv⟩
 intro⟨i,h1,h2,h3⟩;refine Yi ?_ ?_
 .intro h;have h:i<s.length:=by simpa using h
  have hg:s[i]?=some s[i]:=Ge h;have h' : i-1<s.length:=by omega
  have VK : s[i-1]?=some s[i-1]:=Ge h';have e1:((i:Int)-1).toNat=i-1:=by omega
  have aq:B6 s=(FQ s[i-1].path s[i].path&&Lt (some s[i].path) (s.drop (i+1))):=by
   rw[h3,VK]
   have:=aw s (i-1) ch
   simp only[show i-1+1=i by omega,show i-1+2=i+1 by omega]at this;exact this
  refine Yi (by show A5 ((i:Int)-1);unfold A5;omega) (Xi (Ao s[i-1]) (Yi (Yi (by show(0:Int)<=(i:Int)-1;omega) (by show(s.map Ao)[((i:Int)-1).toNat]?=_;rw[e1];simp[VK])) (Yi rfl (Xi (Ao s[i]) (Yi (Yi (Nn i) (by simp[hg])) (Yi rfl ?_))))));refine Yi ?_ ?_
  .intro h4;rw[<-Hy]at h4;refine Yi aa0 ?_;exact .of_eq (Aa vb (show false=B6 s by rw[aq,h4];rfl))
  .intro h4;rw[<-Hy,RK]at h4;refine Yi aa0 (Yi (Ii i ch) (Xi ⟨i+1,by omega,.inr ch,by rw[aq,h4,show i+1-1=i by omega,hg];rfl⟩ ?_));exact⟨Dl s.length i ch,Z2,Tv,Fh,Tv⟩
 .intro h;have h:¬i<s.length:=by simpa using h
  have tQ:B6 s=true:=by
   rcases h2 with h2 | h2
   .rw[h2];rfl
   .have e:i=s.length:=by omega
    rw[h3,e,List.drop_length];cases s[s.length-1]?<;>rfl
  exact .of_eq (Aa vb tQ.symm)
theorem wy(s:Sl)(hs:Er s.path):PC 92 [.agg (Ao s)] (vb (Im s)):=by
 refine Ps DU Tryz.func92 rfl (Nz rfl) (BL (Rj (Bs s.path)) (fun h1=>?_) (fun h1=>?_))
 .refine BA h1 (fun m h1=>?_);have rM:=(show PC 93 [vs s.path] (match Bs s.path with | some m=>.tup [vs (Q0 s.path),vi m,vi 0] | none=>.tup [vs ⟨#[]⟩,vi 0,vi 4])from Zn s.path hs);rw[h1]at rM;refine Xi .pure (Xi _ (Yi rM (Yi (fun h=>absurd h Cl) (fun _=>?_))));refine yN (BL (Bt (B3 s.ver)) (fun h2=>?_) (fun h2=>?_))
  .have h2:(B3 s.ver)=true:=h2;refine Xi .pure (Xi _ (Yi (cb h2 (gH s.ver)) (Yi (fun h3=>?_) (fun h3=>?_))))
   .have h3:(s.ver.a:Int)≠(m:Int):=h3;exact EY.of_eq (show vb true=vb (Im s) by unfold Im;rw[h1];simp[h2,h3])
   have h3:(s.ver.a:Int)=(m:Int):=Bc h3;exact EY.of_eq (show vb false=vb (Im s) by unfold Im;rw[h1];simp[h2,h3])
  have h2:(B3 s.ver)=false:=h2;refine Xi .pure (Xi _ (Yi (cb h2 (gH s.ver)) ?_));exact EY.of_eq (show vb true=vb (Im s) by unfold Im;rw[h1];simp[h2])
 have rM:=(show PC 93 [vs s.path] (match Bs s.path with | some m=>.tup [vs (Q0 s.path),vi m,vi 0] | none=>.tup [vs ⟨#[]⟩,vi 0,vi 4])from Zn s.path hs);rw[h1]at rM;refine Xi .pure (Xi _ (Yi rM (Yi (fun _=>?_) (fun h=>absurd Cl h))));exact EY.of_eq (show vb true=vb (Im s) by unfold Im;rw[h1])
theorem zq(hs:DD caps)(l:List (Sl))(p:Sl->Bool)(hF:∀x∈l,PC fF ([.agg (Ao x)]++caps) (vb (p x)))(hl:l.length<9223372036854775807) :
  PC 151 [sl Ao l,.clo fF caps] (vi (IL p l 0)):=by
 refine Ps DU Tryz.func151 rfl (Nz rfl) (Xi {i:Nat // i<=l.length/\∀j (hj:j<l.length),j<i->p l[j]=false} (Xi (fun i=>⟨[(0,sl Ao l),(1,.clo fF caps),(7,vi (l.map Ao).length),(8,vi i.1)],[],Ad⟩) (Xi (fun i=>l.length-i.1) (Yi (Xi ⟨0,by simp⟩ ?_) ?_))))
 .exact⟨⟨Zr,⟨rfl,hs.ids _⟩,Zr,Zr,Tv⟩,Tv,Fh,Tv⟩
 .intro⟨i,h1,h2⟩;refine Yi ?_ ?_
  .intro h;have h:(i:Int)<(l.map Ao).length:=h;have h:i<l.length:=by simpa using h
   have hg:l[i]?=some l[i]:=Ge h;refine Xi (Ao l[i]) (Yi (Yi (Nn i) (by simp[hg])) (Yi rfl (yN ?_)));have CQ:∀h,PC fF ([.agg (Ao l[i])]++caps.map (str0 h)) (vb (p l[i])):=fun h=>by rw[hs.map];exact hF l[i] (Aq _)
   cases hp:p l[i]with
   |true=>
    rw[hp]at CQ;refine Xi .pure (Xi (vb true) (Yi (CQ _) ?_));rw[Jk h (fun j hj Iu=>h2 j hj Iu) hp,EU];exact .refl _
   |false=>
    rw[hp]at CQ;refine Xi .pure (Xi (vb false) (Yi (CQ _) (Yi (Ii i ch) (Xi ⟨i+1,by omega,fun j hj Iu=>?_⟩ ?_))))
    .by_cases e:j=i
     .subst e;exact hp
     .exact h2 j hj ch
    .exact⟨Dl l.length i ch,⟨Zr,⟨rfl,hs.ids _⟩,Zr,Zr,Tv⟩,Tv,Fh,Tv⟩
  .intro h;have h:¬(i:Int)<(l.map Ao).length:=h;have h:¬i<l.length:=by simpa using h
   rw[Gq fun j hj=>h2 j hj ch];exact .refl _
theorem z91(hs:DD caps)(l:List (Sl))(p:Sl->Bool)(hF:∀x∈l,PC fF ([.agg (Ao x)]++caps) (vb (p x)))(hl:Cw l) :
  PC 91 [sl Ao l,.clo fF caps] (vb (l.any p)):=by
 refine Ps DU Tryz.func91 rfl (Nz rfl) ?_;have hi:=zq hs l p hF (by unfold Cw at hl;omega);have CQ:∀h,PC 151 [sl Ao l,.clo fF (caps.map (str0 h))] (vi (IL p l 0)):=fun h=>by rw[hs.map];exact hi
 refine Xi .pure (Xi _ (Yi (CQ _) ?_));have ha:=IM (p:=p) l 0 (By 0);refine Yi ?_ ?_
 .intro h;have h:(0:Int)<=IL p l 0:=h;rw[<-ha,Ap h];exact .refl _
 .intro h;have h:¬(0:Int)<=IL p l 0:=h;rw[<-ha,Am h];exact .refl _
theorem EY.fn(f:Nat):EY (.v (.func (.func f) #[] #[])) (.clo f []):=fun _ _ _ _ h=>by cases h;exact .clo _ f [] #[] rfl (fun i av x h=>by cases h)
theorem DD.nil:DD []:=fun _ hc=>absurd hc List.not_mem_nil
theorem kN(l:List Sl)(hl:Cw l)(hs:∀s∈l,Er s.path):PC 91 [sl Ao l,.v (.func (.func 92) #[] #[])] (vb (l.any Im)):=
 (z91 (fF:=92) DD.nil l Im (fun s h=>wy s (hs s h)) hl).args ⟨.refl _,.fn _,trivial⟩
theorem XM(l:List Sl)(hl:Cw l)(hs:∀s∈l,Er s.path):PC 53 [sl Ao l] (vb (Ha l)):=by
 refine Ps DU Tryz.func53 rfl (Nz rfl) (BL (Bt (B6 l)) (fun h1=>?_) (fun h1=>?_))
 .have h1:(B6 l)=true:=h1;refine Xi .pure (Xi _ (Yi (cb h1 (Wb l hl)) (BL (Bt (l.any Im)) (fun h2=>?_) (fun h2=>?_))))
  .have h2:(l.any Im)=true:=h2;refine Xi .pure (Xi _ (Yi (cb h2 (kN l hl hs)) ?_));exact EY.of_eq (show vb false=vb (Ha l) by unfold Ha;simp[h1,h2])
  have h2:(l.any Im)=false:=h2;refine Xi .pure (Xi _ (Yi (cb h2 (kN l hl hs)) ?_));exact EY.of_eq (show vb true=vb (Ha l) by unfold Ha;simp[h1,h2])
 have h1:(B6 l)=false:=h1;refine Xi .pure (Xi _ (Yi (cb h1 (Wb l hl)) ?_));exact EY.of_eq (show vb false=vb (Ha l) by unfold Ha;simp[h1])
theorem Pj(l:List Cp)(hl:Cw l)(hs:∀c∈l,Er c.path):PC 20 [sl BY l] (vi (GZ l)):=by
 refine Ps DU Tryz.func20 rfl (Nz rfl) (Yi (fun h1=>?_) (fun h1=>?_))
 .have h1:(1024:Int)<((l.map BY).length:Int):=h1;have n1:1024<l.length:=by have q:=h1;rw[Lm]at q;omega
  exact EY.of_eq (show vi 7=vi (GZ l) by rw[GZ,As (by have q:=h1;rw[Lm]at q;exact q)])
 have h1:¬((1024:Int)<((l.map BY).length:Int)):=h1;have n1:¬1024<l.length:=by have q:=h1;rw[Lm]at q;omega
 refine Xi .pure (Xi _ (Yi (XL l hl) (BL (Bt (Ha (l.map Es))) (fun h3=>?_) (fun h3=>?_))))
 .have h3:(Ha (l.map Es))=true:=h3;refine Xi .pure (Xi _ (Yi (cb h3 (XM (l.map Es) (by unfold Cw;rw[Lm];exact hl) (fun s q=>by obtain⟨c,q1,rfl⟩:=Ak.1 q;exact hs c q1))) ?_));exact EY.of_eq (show vi 0=vi (GZ l) by rw[GZ,Ah (by have q:=h1;rw[Lm]at q;exact q),As h3])
 have h3:(Ha (l.map Es))=false:=h3;refine Xi .pure (Xi _ (Yi (cb h3 (XM (l.map Es) (by unfold Cw;rw[Lm];exact hl) (fun s q=>by obtain⟨c,q1,rfl⟩:=Ak.1 q;exact hs c q1))) ?_));exact EY.of_eq (show vi 1=vi (GZ l) by rw[GZ,Ah (by have q:=h1;rw[Lm]at q;exact q),Ah (by rw[h3];decide)])
abbrev fJ:EN:=⟨false,[.str]⟩
abbrev vv(k:ByteArray):ByteArray×ByteArray->Bool:=fun p=>decide (p.1=k)
def SW:List (ByteArray×ByteArray):=l.foldl (fun m a=>if m.any (vv (EB a))=true then m else m++[(EB a,a)]) []
abbrev VF(m:List (ByteArray×ByteArray)):List (Value×AV):=m.map fun p=>(.string p.1,vs p.2)
theorem TR{l:List ByteArray}(h:i<l.length):SW (l.take (i+1))=if(SW (l.take i)).any (vv (EB l[i]))=true then SW (l.take i)else SW (l.take i)++[(EB l[i],l[i])]:=by
 unfold SW;rw[AZ,Ge h,Ir];rfl
theorem dZ:m.any (vv k)=true↔∃a,(Value.string k,a)∈VF m:=by
 rw[AX];constructor
 .rintro⟨p,hp,e⟩
  have e:=BO e;exact⟨vs p.2,Ak.2 ⟨p,hp,by rw[e]⟩⟩
 .rintro⟨a,ha⟩
  obtain⟨p,hp,e⟩:=Ak.1 ha;simp only[ES,Value.string.injEq]at e;exact⟨p,hp,Ap e.1⟩
theorem pL{x:ByteArray}(h:∀a,(Value.string k,a)∉VF m):Ff (VF m) (.string k) (vs x)=VF (m++[(k,x)]):=by
 rw[Ff,Ah (fun⟨a,ha⟩=>h a ha)];unfold VF;rw[Az];rfl
def TS(k:ByteArray):Option ByteArray:=l.find? fun a=>decide (EB a=k)
theorem lB(l:List ByteArray):∀i,(∀p∈SW (l.take i),TS (l.take i) p.1=some p.2)/\∀k x,TS (l.take i) k=some x->(k,x)∈SW (l.take i)
 |0=>⟨fun _ h=>(by cases h),fun _ _ h=>(by cases h)⟩
 |i+1=>by
  obtain⟨h1,h2⟩:=lB l i
  by_cases h:i<l.length
  .have e:∀k,TS (l.take (i+1)) k=(TS (l.take i) k).or (if EB l[i]=k then some l[i]else none):=fun k=>by
    unfold TS;rw[AZ,Ge h,List.find?_append];simp only[Pb,D7,List.find?_nil]
    by_cases q:EB l[i]=k
    .rw[Ap q,As q]
    .rw[Am q,Ah q]
   rw[TR h]
   by_cases hm:(SW (l.take i)).any (vv (EB l[i]))=true
   .rw[As hm];refine⟨fun p hp=>by rw[e,h1 p hp];rfl,fun k x hk=>?_⟩;rw[e]at hk;cases hd:TS (l.take i) k with
    |some y=>rw[hd]at hk;cases hk;exact h2 k _ hd
    |none=>
     rw[hd]at hk
     by_cases q:EB l[i]=k
     .obtain⟨p,hp,ep⟩:=AX.1 hm;have ep:=BO ep
      have:=h1 p hp
      rw[ep,q,hd]at this;cases this
     .rw[Ah q]at hk;cases hk
   .rw[Ah hm];have hn:TS (l.take i) (EB l[i])=none:=by
     cases hd:TS (l.take i) (EB l[i])with
     |none=>rfl
     |some y=>exact absurd (AX.2 ⟨_,h2 _ _ hd,Ap rfl⟩) hm
    refine⟨fun p hp=>?_,fun k x hk=>?_⟩
    .rcases AT.1 hp with hp | hp
     .rw[e,h1 p hp];rfl
     .rw[Aj.1 hp];show TS (l.take (i+1)) (EB l[i])=some l[i];rw[e,hn,As rfl];rfl
    .rw[e]at hk;cases hd:TS (l.take i) k with
     |some y=>rw[hd]at hk;cases hk;exact AT.2 (.inl (h2 k _ hd))
     |none=>
      rw[hd]at hk
      by_cases q:EB l[i]=k
      .rw[As q]at hk;cases hk;subst q;exact AT.2 (.inr (Aj.2 rfl))
      .rw[Ah q]at hk;cases hk
  .rw[AB ch]at h1 h2⊢;exact⟨h1,h2⟩
theorem d5{l:List ByteArray}{a:AV}(h:(Value.string k,a)∈VF (SW l)):∃x,a=vs x/\TS l k=some x:=by
 obtain⟨p,hp,e⟩:=Ak.1 h;simp only[ES,Value.string.injEq]at e;have q:=(lB l l.length).1;rw[CK]at q;exact⟨p.2,e.2.symm,by rw[<-e.1];exact q p hp⟩
theorem d4{l:List ByteArray}(h:∀a,(Value.string k,a)∉VF (SW l)):TS l k=none:=by
 cases hd:TS l k with
 |none=>rfl
 |some x=>
  have q:=(lB l l.length).2 k x;rw[CK]at q;exact absurd (Ak.2 ⟨_,q hd,rfl⟩) (h (vs x))
def WM(y:Sl):Option Cp:=(DH x y).bind fun r=>(TS l r.arch).map fun b=>⟨y.path,y.ver,b⟩
def OH(x:List Rl)(l:List ByteArray):List Sl->Option (List Cp)
 | []=>some []
 |y::s=>(WM x l y).bind fun c=>(OH x l s).map (c :: ·)
theorem YA(x:List Rl)(l:List ByteArray):∀(s t:List Sl),OH x l (s++t)=(OH x l s).bind fun a=>(OH x l t).map (a++·)
 | [],t=>by show OH x l t=(some []).bind _;simp
 |y::s,t=>by
  show(WM x l y).bind (fun c=>(OH x l (s++t)).map (c :: ·))=Option.bind ((WM x l y).bind fun c=>(OH x l s).map (c :: ·)) _;rw[YA x l s t];cases WM x l y with
  |none=>rfl
  |some c=>
   cases OH x l s with
   |none=>rfl
   |some a=>cases OH x l t<;>rfl
theorem mV{x:List Rl}{l:List ByteArray}{s:List Sl}(h:i<s.length){N:List Cp}{c:Cp}(hN:OH x l (s.take i)=some N)(hc:WM x l s[i]=some c):OH x l (s.take (i+1))=some (N++[c]):=by
 rw[AZ,Ge h,YA,hN];show Option.map _ ((WM x l s[i]).bind _)=_;rw[hc];rfl
theorem UI{x:List Rl}{l:List ByteArray}{s:List Sl}(h:i<s.length)(hc:WM x l s[i]=none):OH x l s=none:=by
 have e:s=s.take i++s[i]::s.drop (i+1):=by rw[<-AY h,Fi]
 rw[e,YA];cases OH x l (s.take i)with
 |none=>rfl
 |some a=>show Option.map _ ((WM x l s[i]).bind _)=_;rw[hc];rfl
theorem fe{x:List Rl}{l:List ByteArray}:∀{s:List Sl} {N:List Cp},OH x l s=some N->N.length=s.length
 | [],N,h=>by cases h;rfl
 |y::s,N,h=>by
  have h:(WM x l y).bind (fun c=>(OH x l s).map (c :: ·))=some N:=h;cases hc:WM x l y with
  |none=>rw[hc]at h;cases h
  |some c=>
   rw[hc]at h;have h:(OH x l s).map (c :: ·)=some N:=h;obtain⟨M,h1,rfl⟩:=AD.1 h;rw[Al,fe h1];rfl
def Yz(s:List Sl):Option (List Cp)×Int:=
 if Bd x≠0\/B6 s=false then(none,1)else if 1024<(s.length:Int)then(none,7)else match OH x l s with
  |none=>(none,6)
  |some c=>(some c,0)
def mkV(p:Option (List Cp)×Int):AV:=.tup [sl BY (p.1.getD []),vi p.2]
theorem wA(hl:Cw l)(hs:∀a∈l,a.size<=100000000):PC 42 [sl BJ l] (.cmap fJ (VF (SW l))):=by
 have tU:l.length<=1073741824:=hl;refine Ps ⟨[],[],[],[],[9],[],[],[],[],[],[]⟩ Tryz.func42 rfl (Nz rfl) (Xi {q:Nat // q<=l.length} (Xi (fun q=>⟨[(3,.mref 9),(10,sl BJ l),(11,vi (l.map BJ).length),(12,vi q.1)],[(9,.map fJ (VF (SW (l.take q.1))))],Ad⟩) (Xi (fun q=>l.length-q.1) (Yi (Xi ⟨0,AE _⟩ ?_) ?_))))
 .exact⟨Z4,Z1,Fh,Tv⟩
 intro⟨i,i1⟩;have i1:i<=l.length:=i1;refine Yi (fun h1=>?_) (fun h1=>?_)
 .have h1:(i:Int)<((l.map BJ).length:Int):=h1;have n1:=Lu h1;refine Xi (BJ l[i]) (Yi (Y4 n1) (Yi rfl (Xi .pure (Xi _ (Yi (Wc l[i] (hs _ (Aq n1))) (Yi (fun a ha=>?_) (fun JH=>?_)))))))
  .have h2:(SW (l.take i)).any (vv (EB l[i]))=true:=dZ.2 ⟨a,ha⟩;refine Yi (Ii i ch) (Xi ⟨i+1,n1⟩ ?_);exact⟨Dl l.length i ch,Z4,⟨⟨(show HO.map fJ (VF (SW (l.take i)))=.map fJ (VF (SW (l.take (i+1))))from Aa (fun z=>HO.map fJ (VF z)) ((TR n1).trans (As h2)).symm),rfl⟩,Tv⟩,Fh,Tv⟩
  have h2:¬(SW (l.take i)).any (vv (EB l[i]))=true:=fun e=>by obtain⟨a,ha⟩:=dZ.1 e;exact JH a ha
  refine Yi (Ii i ch) (Xi ⟨i+1,n1⟩ ?_);exact⟨Dl l.length i ch,Z4,⟨⟨(show HO.map fJ (Ff (VF (SW (l.take i))) (.string (EB l[i])) (vs l[i]))=.map fJ (VF (SW (l.take (i+1))))from Aa (HO.map fJ) ((pL JH).trans (Aa VF ((TR n1).trans (Ah h2)).symm))),rfl⟩,Tv⟩,Fh,Tv⟩
 have h1:¬((i:Int)<((l.map BJ).length:Int)):=h1;have n1:=Ip h1;exact EY.of_eq (show AV.cmap fJ (VF (SW (l.take i)))=.cmap fJ (VF (SW l)) by rw[AB (Hh (Ip h1))])
theorem kU(ifs:List (List AV))(s:List Sl)(l:List ByteArray)(hx:∀r∈x,Jw r)(hs:Cw s)(hl:Cw l)(ha:∀a∈l,a.size<=100000000):PC 12 [.agg (Ic x ifs),sl Ao s,sl BJ l] (mkV (Yz x l s)):=by
 have hs0:s.length<=1073741824:=hs;refine Ps (pT [3] [(9,5)] [4,5,11,14]) Tryz.func12 rfl (Nz rfl) (yN (Xi .pure (Xi _ (Yi (wV Zn x ifs hx) (Yi (fun h1=>?_) (fun h1=>?_))))))
 .have h1:((Bd x):Int)≠(0:Int):=h1;have e:Yz x l s=(none,1):=by rw[Yz,As (.inl h1)]
  rw[e];exact .tup ⟨.nil,.refl _,trivial⟩
 have h1:((Bd x):Int)=(0:Int):=Bc h1;refine BL (Bt (B6 s)) (fun h3=>?_) (fun h3=>?_)
 .have h3:(B6 s)=true:=h3;refine Xi .pure (Xi _ (Yi (cb h3 (Wb s hs)) (Yi (fun h4=>?_) (fun h4=>?_))))
  .have h4:(1024:Int)<((s.map Ao).length:Int):=h4;have n4:1024<s.length:=by have q:=h4;rw[Lm]at q;omega
   refine cU [] [] Tv Tv ?_
   have e:Yz x l s=(none,7):=by rw[Yz,Ah (fun c=>c.elim (fun c=>c h1) (fun c=>by rw[h3]at c;cases c)),As (by have q:=h4;rw[Lm]at q;exact q)]
   rw[e];exact .tup ⟨.nil,.refl _,trivial⟩
  have h4:¬((1024:Int)<((s.map Ao).length:Int)):=h4;have n4:¬1024<s.length:=by have q:=h4;rw[Lm]at q;omega
  refine cU [(1,sl Ao s),(2,sl BJ l),(3,.ref 3 0)] [(3,.ro (Ic x ifs))] Z3 Z1 (Xi .pure (Xi _ (Yi (wA l hl ha) (Xi {q:Nat×List Cp // q.1<=s.length/\OH x l (s.take q.1)=some q.2} (Xi (fun q=>⟨[(3,.ref 3 0),(8,.cmap fJ (VF (SW l))),(9,.slice (.id 9 5) (q.1.2.map BY)),(29,sl Ao s),(30,vi (s.map Ao).length),(31,vi q.1.1)],[(3,.ro (Ic x ifs)),(9,.tok 5 q.1.2.length)],Ad⟩) (Xi (fun q=>s.length-q.1.1) (Yi (Xi ⟨(0,[]),AE _,rfl⟩ ?_) ?_)))))))
  .exact⟨Z6,Z2,Fh,Tv⟩
  intro⟨⟨i,N⟩,i1,i2⟩;have i1:i<=s.length:=i1;have i2:OH x l (s.take i)=some N:=i2;have i3:N.length<=s.length:=by rw[fe i2,AA];omega
  refine Yi (fun h6=>?_) (fun h6=>?_)
  .have h6:(i:Int)<((s.map Ao).length:Int):=h6;have n6:=Lu h6;refine Xi (Ao s[i]) (Yi (Y4 n6) (Yi rfl (yN (yN (yN (yN (BL (Rj (DH x ⟨s[i].path,s[i].ver⟩)) (fun h7=>?_) (fun h7=>?_))))))))
   .refine BA h7 (fun r h7=>?_);have rN:=c53 x ifs s[i].path s[i].ver (c84 x ifs hx) hx;rw[h7]at rN;refine Xi .pure (Xi _ (Yi rN (yN (cU [(3,.ref 3 0),(8,.cmap fJ (VF (SW l))),(9,.slice (.id 9 5) (N.map BY)),(11,.ref 11 0),(12,.ref 12 0),(13,vb true),(29,sl Ao s),(30,vi (s.map Ao).length),(31,vi i)] [(3,.ro (Ic x ifs)),(9,.tok 5 N.length),(11,.cells (Ao s[i])),(12,.cells (BS r))] Z9 Z4 (Yi (fun a ha=>?_) (fun JH=>?_))))))
    .refine BA (d5 ha) (fun bb hb=>?_);have h8:TS l r.arch=some bb:=hb.2;have eb:=hb.1;subst eb;refine cU [(3,.ref 3 0),(8,.cmap fJ (VF (SW l))),(9,.slice (.id 9 5) (N.map BY)),(11,.ref 11 0),(14,vs bb),(29,sl Ao s),(30,vi (s.map Ao).length),(31,vi i)] [(3,.ro (Ic x ifs)),(9,.tok 5 N.length),(11,.cells (Ao s[i]))] Z8 Z3 (yN (Yi (gA rfl ch Cl) (Yi (Ii i ch) (Xi ⟨(i+1,N++[(⟨s[i].path,s[i].ver,bb⟩:Cp)]),n6,mV n6 i2 (by rw[WM,show DH x s[i]=some r from h7];show Option.map _ (TS l r.arch)=_;rw[h8];rfl)⟩ ?_))));exact⟨Dl s.length i ch,⟨Zr,Zr,⟨(show AV.slice (.id 9 5) ((N.map BY)++[[vs s[i].path,vi s[i].ver.a,vi s[i].ver.b,vi s[i].ver.c,vs bb]])=.slice (.id 9 5) ((N++[(⟨s[i].path,s[i].ver,bb⟩:Cp)]).map BY) by rw[Az];rfl),rfl⟩,Zr,Zr,Zr,Tv⟩,⟨Zr,⟨hkA,rfl⟩,Tv⟩,Fh,Tv⟩
    have h8:TS l r.arch=none:=d4 JH;have e:Yz x l s=(none,6):=by rw[Yz,Ah (fun c=>c.elim (fun c=>c h1) (fun c=>by rw[h3]at c;cases c)),Ah (by have q:=h4;rw[Lm]at q;exact q),UI n6 (by rw[WM,show DH x s[i]=some r from h7];show Option.map _ (TS l r.arch)=_;rw[h8];rfl)]
    rw[e];exact .tup ⟨.nil,.refl _,trivial⟩
   have rN:=c53 x ifs s[i].path s[i].ver (c84 x ifs hx) hx;rw[h7]at rN;refine Xi .pure (Xi _ (Yi rN (yN (cU [(3,.ref 3 0),(8,.cmap fJ (VF (SW l))),(9,.slice (.id 9 5) (N.map BY)),(11,.ref 11 0),(12,.ref 12 0),(13,vb false),(29,sl Ao s),(30,vi (s.map Ao).length),(31,vi i)] [(3,.ro (Ic x ifs)),(9,.tok 5 N.length),(11,.cells (Ao s[i])),(12,.cells [vs ⟨#[]⟩,vi 0,vi 0,vi 0,nzA,vs ⟨#[]⟩,vs ⟨#[]⟩,vs ⟨#[]⟩,vb false])] Z9 Z4 (Yi (fun a ha=>?_) (fun JH=>?_))))))
   .refine BA (d5 ha) (fun bb hb=>?_);have Vs:TS l ⟨#[]⟩=some bb:=hb.2;have eb:=hb.1;subst eb;have e:Yz x l s=(none,6):=by rw[Yz,Ah (fun c=>c.elim (fun c=>c h1) (fun c=>by rw[h3]at c;cases c)),Ah (by have q:=h4;rw[Lm]at q;exact q),UI n6 (by rw[WM,show DH x s[i]=none from h7];rfl)]
    rw[e];exact .tup ⟨.nil,.refl _,trivial⟩
   have Vs:TS l ⟨#[]⟩=none:=d4 JH;have e:Yz x l s=(none,6):=by rw[Yz,Ah (fun c=>c.elim (fun c=>c h1) (fun c=>by rw[h3]at c;cases c)),Ah (by have q:=h4;rw[Lm]at q;exact q),UI n6 (by rw[WM,show DH x s[i]=none from h7];rfl)]
   rw[e];exact .tup ⟨.nil,.refl _,trivial⟩
  have h6:¬((i:Int)<((s.map Ao).length:Int)):=h6;have n6:=Ip h6;have i4:OH x l s=some N:=by rw[AB (Hh (Ip h6))]at i2;exact i2
  have e:Yz x l s=(some N,0):=by rw[Yz,Ah (fun c=>c.elim (fun c=>c h1) (fun c=>by rw[h3]at c;cases c)),Ah (by have q:=h4;rw[Lm]at q;exact q),i4]
  rw[e];exact .refl _
 have h3:(B6 s)=false:=h3;refine Xi .pure (Xi _ (Yi (cb h3 (Wb s hs)) ?_));have e:Yz x l s=(none,1):=by rw[Yz,As (.inr h3)]
 rw[e];exact .tup ⟨.nil,.refl _,trivial⟩
end Go.Eng
