/- Lemmas 22. -/
import Derived.Test.YteaiieomnhbmgaaGreatDoorBA21
set_option maxHeartbeats 16000000
namespace Go.Eng
open Go.Proofs
variable {k o sz:Nat}(l:List Nd)(n:Nd)
theorem xn{h:Nat->HO}{r:Nat}{cs:List AV}{K:(Nat->HO)->Prop}(c1:h o=.cells cs)(c2:JX cs k=BE)(c3:h r=.free)(hk:K (AL (AL h r (.var sz 0 0)) o (.cells (EV cs k (.slice (.ver r sz 0) []))))):y8 h o k r sz K:=by
 grind [y8]
theorem xJ{r0:Nat}{jq:Cx}{P:Program}{N:Nat}{fn:Func}{σ:Jk}{Q:AV->(Nat->HO)->Prop}{b rest:Code}{st:St}(cs:List AV)(c1:st.h o=.cells cs)(c2:JX cs k=BE)(c3:st.h r0=.free)(σF σr:Jk)(H0 Hn:List (Nat×HO))(gf:Nat)(caps:List AV){ur s:Nat}{ps:Array Tmp}{GT body:Code}(hb:b=.block ur (.rangeFunc (.tmp s) ps GT body))(k1:(Er σF&&D3 (AL (AL st.h r0 (.var sz 0 0)) o (.cells (EV cs k (.slice (.ver r0 sz 0) [])))) 0 0&&Di σF 0 0)=true)(k2:Fv σF (AL (AL st.h r0 (.var sz 0 0)) o (.cells (EV cs k (.slice (.ver r0 sz 0) []))))=Ai H0 Ac)(k3:(GX σr&&IL σr H0)=true)(k4:IL σr Hn=true)(k5:ren (Cy σF) (AL (AL st.h r0 (.var sz 0 0)) o (.cells (EV cs k (.slice (.ver r0 sz 0) [])))) (st.t s)=.clo gf caps)(k6:∀(l D:Nat) (f' : FuncId) (tm:Array Value),tm.size=N->ZK P (fun g w=>w.heap[l]?=some (.loop (Is f' tm ps GT body D .ready))/\∀i,Ba g w (AI (Ai H0 Ac)) (ren (Cy σF) (AL (AL st.h r0 (.var sz 0 0)) o (.cells (EV cs k (.slice (.ver r0 sz 0) [])))) (st.t i)) (tm.getD i undef)) σr gf
   (.v (.func (.yield l) #[] #[])::caps) (Ai H0 Ac) fun _ h'=>h'=Ai Hn Ac)(k7:Ey N rest=true)(k8:QD jq rest (ap jq fn.results.toList σr fun r h'=>Q (ren (Cy σ) (D8 σF 0 0 (AL (AL st.h r0 (.var sz 0 0)) o (.cells (EV cs k (.slice (.ver r0 sz 0) [])))) h') (ren (Fb σF 0 0) h' r)) (Fv σ (D8 σF 0 0 (AL (AL st.h r0 (.var sz 0 0)) o (.cells (EV cs k (.slice (.ver r0 sz 0) [])))) h')))
   ⟨fun i=>ren (Cy σF) (AL (AL st.h r0 (.var sz 0 0)) o (.cells (EV cs k (.slice (.ver r0 sz 0) [])))) (st.t i),Ai Hn Ac⟩)(k9:Pj [] body=false:=by kernel_rfl):RfV o k r0 sz jq P N fn σ Q b rest st:=
 xn c1 c2 c3 ⟨σF,σr,H0,Hn,ur,s,ps,GT,body,gf,caps,hb,k1,k2,k3,k4,k5,k6,k7,k9,k8⟩
section
variable {roots:List Rq}{C A:List (Value×AV)}{s:SS}{dec:List Cd}{st:List (List Sk)}{n:Nd}
theorem U9{m:Nat}{p:CS}{o:List Nd}(e:HD roots dec (m+1)=(p,o)){es:C0}(h1:es=o.map Bj)(h2:k=es.length) :
  Ai [(1000,.cells (srC roots C A s dec st.length)),(1001,.tok 6 s.infs.length),(1002,.tok 1 s.drv.length),(1003,.map Fw (Fy 0 s.infs)),(1004,.arr 1 (st.map Bc)),
   (1005,.cells [.ref 1000 0]),(1006,.cells [vs p]),(1007,.cells [.slice (.ver 1008 5 (m+1)) es]),(1008,.var 5 (m+1) k),(1009,.cells [.ref 1000 0])] Ac=Ai (qK roots C A s dec st (m+1)) Ac:=by
 grind
theorem oQ{a:CS×List Nd}(h:Dn dec n.rq.path=true):Ep dec a n=(a.1,a.2):=by grind [Ep]
theorem sO{o:List Nd}(h:¬(0:Int)<((o.map Bj).length:Int)):o=[]:=by
 simp_all
theorem sV{a:CS×List Nd}(h:(0:Int)<((a.2.map Bj).length:Int))(hb:Dz a.1 n.rq.path=true):Ep dec a n=(a.1,a.2):=by grind [Ep]
theorem oR{a:CS×List Nd}(hd:Dn dec n.rq.path=false)(_:(0:Int)<((a.2.map Bj).length:Int))(hb:Dz a.1 n.rq.path=false)(hs:Dz n.rq.path a.1=true):Ep dec a n=(n.rq.path,[n]):=by
 grind [Ep]
theorem oT{a:CS×List Nd}(hd:Dn dec n.rq.path=false)(hb:Dz a.1 n.rq.path=false)(hs:Dz n.rq.path a.1=false):Ep dec a n=(n.rq.path,a.2++[n]):=by
 grind [Ep]
theorem sX{a:CS×List Nd}(hd:Dn dec n.rq.path=false)(h:¬(0:Int)<((a.2.map Bj).length:Int)):Ep dec a n=(n.rq.path,a.2++[n]):=by
 grind [sO,Ep]
theorem sW(a:CS×List Nd)(n:Nd):(Ep dec a n).2.length<=a.2.length+1:=by
 grind [Ep]
theorem gV:∀(m:Nat),(HD roots dec m).2.length<=m
 |0=>Ap _
 |m+1=>by
  have ih:=gV m
  grind [HD,List.take_add_one,sW]
theorem cz:∀{l l' : List (Nat×HO)},l.map Prod.fst=l'.map Prod.fst->(∀p∈l',p.2≠.free)->∀i,AI (Ai l Ac) i->AI (Ai l' Ac) i
 | [],[],_,_,_,h=>h
 |(a,o)::l,(a',o')::l',e,h,i,hu=>by
  rw[BB,BB]at e
  injection e with e1 e2
  have e1:a=a':=e1;subst e1;unfold AI at *
  by_cases q:i=a
  .grind [Ai,Nat.beq_refl,List.mem_cons_self]
  .simp only[Ai,DF q,F1]at hu⊢;exact cz e2 (fun p hp=>h p (Ao _ hp)) i hu
theorem oP(m:Nat):∀i,AI (Ai (qK roots C A s dec st 0) Ac) i->AI (Ai (qK roots C A s dec st m) Ac) i:=cz rfl (by
 simp_all)
theorem iu:∀{l:List Cd},(∀c∈l,c.rel.reqs.length<=1073741824)->((l.map fun c=>c.rel.reqs.length)).sum<=l.length*1073741824
 | [],_=>by simp
 |c::l,h=>by
  have h1:=h c (Af ..);have h2:=iu fun c hc=>h c (Ao _ hc)
  grind
theorem kh(hr:roots.length<=1073741824)(hd:dec.length<=1000)(h:∀c∈dec,c.rel.reqs.length<=1073741824):(Dw roots dec).length<=1074815565824:=by
 rw[<-bP]
 grind [FK,iu]
end
theorem bv:l.map Bj++[Bj n]=(l++[n]).map Bj:=by simp_all
theorem PR:(l.map Bj).length+([Bj n]:C0).length=(l.map Bj++[Bj n]).length:=Ak.symm
attribute [local irreducible] RfV y8 HD Dw Ep
theorem s64(roots:List Rq)(C A:List (Value×AV))(s:SS)(dec:List Cd)(st:List (List Sk))(hr:roots.length<=1073741824)(hd:dec.length<=1000)(uG:∀c∈dec,c.rel.reqs.length<=1073741824) :
  AP Tryz.prog 186 [.ref 1000 0] (Ai (Jv roots C A s dec st) Ac) fun r h'=>r=.tup [vs (D4 roots dec).1,sl Bj (D4 roots dec).2]/\h'=Ai (Jv roots C A s dec st) Ac:=by
 refine iQ 5 0 9 5 (LB C3) (LB C3) cS rfl Ck rfl Ck hm rfl rfl Tryz.func186 Wk rfl (Nz rfl) Wk rfl 3 (yN (Xi (.gen cS 1) (Yi rfl (AP.imp (AgE roots C A s dec st) ?_))));intro v1 g1 q1;have te:=q1.1;have tf:=q1.2;subst te;subst tf;refine xJ [BE] Wk Wk Wk [(1000,1000),(1001,1001),(1002,1002),(1003,1003),(1004,1004),(10800,1005),(4,1006),(5,1007),(9,1008),(1,1009)] cR (qK roots C A s dec st 0) (qK roots C A s dec st (Dw roots dec).length) 301 [.ref 1005 0] rfl Wk Wk Wk Wk Wk (fun l9 D9 f9 tm9 htm=>AgI l9 roots C A s dec st hr (AH hd Cl) uG fun m n hn=>lr (σ:=cR) 1007 0 1008 (LB ⟨[],[(43,5)],[],[],[],[],[],[],[],[(500005,60001007)],[5]⟩) rfl Ck hm rfl rfl rfl htm Wk Wk Wk (oP m) ?_) Wk ?_
 .have hml:m<(Dw roots dec).length:=(Bf.1 hn).1;have hol:=gV (roots:=roots) (dec:=dec) m;have hnl:=kh hr hd uG;have hF:=oO hn;refine yN (Yi ⟨rfl,rfl⟩ (cU [(1,.ref 1009 0),(4,.ref 1006 0),(5,.ref 1007 0),(6,.ref 6 0)] [(6,.cells (Bj n)),(60,.tok 5 ((HD roots dec m).2.map Bj).length),(1000,.cells (srM roots C A s dec 1004 st.length)),(1001,.tok 6 s.infs.length),(1002,.tok 1 s.drv.length),(1003,.map Fw (Fy 0 s.infs)),(1004,.arr 1 (st.map Bc)),(1005,.cells [.ref 1000 0]),(1006,.cells [vs (HD roots dec m).1]),(1007,.cells [.slice (.id 60 5) ((HD roots dec m).2.map Bj)]),(1008,.vox m),(1009,.cells [.ref 1000 0])] Z4 Z12 (AN (Bt (Dn dec n.rq.path)) (fun h2=>?_) (fun h2=>?_))))
  .have uE:=(AbB roots C A s dec st n.rq.path (AH hd Cl));rw[show(Dn dec n.rq.path)=true from h2]at uE;refine Xi (.gen cS 0) (Yi rfl (AP.imp uE ?_));intro v4 g4 q4;have q4a:=q4.1;have q4b:=q4.2;subst q4a;subst q4b;refine Yi ⟨rfl,rfl⟩ ?_
   -- [('(Dn dec n.rq.path)=true',True)]
   exact⟨rfl,U9 (hF.trans (oQ h2)) rfl rfl⟩
  have hc5:=(AbB roots C A s dec st n.rq.path (AH hd Cl));rw[show(Dn dec n.rq.path)=false from h2]at hc5;refine Xi (.gen cS 0) (Yi rfl (AP.imp hc5 ?_));intro v6 g6 q6;have q6a:=q6.1;have q6b:=q6.2;subst q6a;subst q6b;refine Yi (fun h7=>?_) (fun h7=>?_)
  .have n7:0<(HD roots dec m).2.length:=by simp_all
   refine Yi (fun h8=>?_) (fun h8=>?_)
   .have h8:Dz (HD roots dec m).1 n.rq.path=true:=(Ec _ _).trans h8;refine Yi ⟨rfl,rfl⟩ ?_
    -- [('(Dn dec n.rq.path)=true',False),('(0:Int)<(((HD roots dec m).2.map Bj).length:Int)',True),('Dz (HD roots dec m).1 n.rq.path=true',True)]
    exact⟨rfl,U9 (hF.trans (sV h7 h8)) rfl rfl⟩
   have h8:Dz (HD roots dec m).1 n.rq.path=false:=(Ec _ _).trans (Bb.2 h8);refine Yi (fun _=>?_) (fun hf=>absurd h7 hf);refine Yi (fun h9=>?_) (fun h9=>?_)
   .have h9:Dz n.rq.path (HD roots dec m).1=true:=(Ec _ _).trans h9;refine yN (yN (yN ?_));have VQ:Bi 5 [(Bj n)]/\([(Bj n)]:C0).length*72<=140737488355328/\([(Bj n)]:C0).length<=9223372036854775807:=⟨⟨rfl,trivial⟩,(by simp_all),(by simp_all)⟩;refine Yi VQ (yN (Yi ⟨rfl,rfl⟩ ?_))
    -- [('(Dn dec n.rq.path)=true',False),('(0:Int)<(((HD roots dec m).2.map Bj).length:Int)',True),('Dz (HD roots dec m).1 n.rq.path=true',False),('Dz n.rq.path (HD roots dec m).1=true',True)]
    exact⟨rfl,U9 (hF.trans (oR h2 h7 h8 h9)) rfl rfl⟩
   have h9:Dz n.rq.path (HD roots dec m).1=false:=(Ec _ _).trans (Bb.2 h9);refine yN (yN ?_);have lU:Bi 5 [(Bj n)]/\((HD roots dec m).2.map Bj).length=((HD roots dec m).2.map Bj).length/\(((HD roots dec m).2.map Bj).length+([(Bj n)]:C0).length)*72<=140737488355328/\((HD roots dec m).2.map Bj).length+([(Bj n)]:C0).length<=9223372036854775807:=⟨⟨rfl,trivial⟩,rfl,(by grind),(by grind)⟩;refine Yi lU (yN (Yi ⟨(PR _ n).symm,rfl⟩ ?_))
   -- [('(Dn dec n.rq.path)=true',False),('(0:Int)<(((HD roots dec m).2.map Bj).length:Int)',True),('Dz (HD roots dec m).1 n.rq.path=true',False),('Dz n.rq.path (HD roots dec m).1=true',False)]
   exact⟨rfl,U9 (hF.trans (oT h2 h8 h9)) (bv _ n) (PR _ n)⟩
  have n7:¬0<(HD roots dec m).2.length:=by simp_all
  refine Yi (fun hf=>absurd hf h7) (fun _=>?_);refine yN (yN ?_);have qx:Bi 5 [(Bj n)]/\((HD roots dec m).2.map Bj).length=((HD roots dec m).2.map Bj).length/\(((HD roots dec m).2.map Bj).length+([(Bj n)]:C0).length)*72<=140737488355328/\((HD roots dec m).2.map Bj).length+([(Bj n)]:C0).length<=9223372036854775807:=⟨⟨rfl,trivial⟩,rfl,(by simp_all),(by simp_all)⟩;refine Yi qx (yN (Yi ⟨(PR _ n).symm,rfl⟩ ?_))
  -- [('(Dn dec n.rq.path)=true',False),('(0:Int)<(((HD roots dec m).2.map Bj).length:Int)',False)]
  exact⟨rfl,U9 (hF.trans (sX h2 h7)) (bv _ n) (PR _ n)⟩
 refine Yi Wk ?_;exact C2 (.refl _) ⟨show AV.tup [vs (HD roots dec (Dw roots dec).length).1,sl Bj (HD roots dec (Dw roots dec).length).2]=_ by grind [sU],rfl⟩
end Go.Eng
namespace Go.Eng
open Go.Proofs
variable {α:Type}(x:List Rl)(roots:List Rq)
theorem Xc(pr:α->Bool)(l:List α):(∃(k:Nat) (n:α),Je pr l 0=(k:Nat)/\l[k]?=some n/\l.find? pr=some n)\/(Je pr l 0=-1/\l.find? pr=none):=by
 have key:∀(l:List α) (b:Nat),(∃(k:Nat) (n:α),Je pr l (b:Nat)=((b+k:Nat):Int)/\l[k]?=some n/\l.find? pr=some n)\/(Je pr l (b:Nat)=-1/\l.find? pr=none):=by
  intro l
  induction l with
  |nil=>intro b;exact .inr Zr
  |cons y l ih=>
   intro b;cases h:pr y with
   |true=>exact .inl ⟨0,y,by unfold Je;simp_all,rfl,by simp_all⟩
   |false=>
    have e:Je pr (y::l) (b:Nat)=Je pr l ((b+1:Nat):Int):=by
     conv=>lhs;unfold Je
     simp_all
    have e2:(y::l).find? pr=l.find? pr:=by simp_all
    rcases ih (b+1)with ⟨k,n,h1,h2,h3⟩ | ⟨h1,h2⟩
    .exact .inl ⟨k+1,n,by omega,by simp_all,by simp_all⟩
    simp_all
 have:=key l 0
 simp_all
section
variable {rec:List Cd->SS->List (List Sk)->KY}{x:List Rl}{p:CS}{N:List Nd}{n0:Nd}{dec:List Cd}{st:List (List Sk)}{cs:List Cd}{i:Nat}{S:SS}{rs:List Nat}{sk:List Sk}
theorem ml(h:¬i<cs.length):DS rec x p N n0 dec st (cs.drop i) S rs sk=⟨(DG x p n0 rs S).1,false,(DG x p n0 rs S).2,dec,st⟩:=by
 rw[Bq ch];rfl
theorem ru(h:i<cs.length)(hf:S.full=true):DS rec x p N n0 dec st (cs.drop i) S rs sk=⟨0,false,S,dec,st⟩:=by
 grind [List.drop_eq_getElem_cons,FM]
theorem zJ(h:i<cs.length)(hf:S.full=false){n:Nd}(hn:N.find? (fun n=>!has n.rq.set cs[i].place)=some n):DS rec x p N n0 dec st (cs.drop i) S rs sk=DS rec x p N n0 dec st (cs.drop (i+1)) (Bu S n).2 (rs++[(Bu S n).1]) sk:=by
 grind [List.drop_eq_getElem_cons,FM]
theorem Yp(h:i<cs.length)(hf:S.full=false)(hn:N.find? (fun n=>!has n.rq.set cs[i].place)=none){k:Nat}(he:Oi S.drv (Aw (dec++[cs[i]]))=some k):DS rec x p N n0 dec st (cs.drop i) S rs sk=IH rec x p N n0 dec st cs[i] (cs.drop (i+1)) rs sk k S:=by
 grind [List.drop_eq_getElem_cons,FM]
theorem aa(h:i<cs.length)(hf:S.full=false)(hn:N.find? (fun n=>!has n.rq.set cs[i].place)=none)(he:Oi S.drv (Aw (dec++[cs[i]]))=none){n:Nd}(hc:CY dec cs[i]=some n) :
  DS rec x p N n0 dec st (cs.drop i) S rs sk=IH rec x p N n0 dec st cs[i] (cs.drop (i+1)) rs sk (Bu S n).1 (Bu S n).2:=by
 grind [List.drop_eq_getElem_cons,FM]
theorem Yq(h:i<cs.length)(hf:S.full=false)(hn:N.find? (fun n=>!has n.rq.set cs[i].place)=none)(he:Oi S.drv (Aw (dec++[cs[i]]))=none)(hc:CY dec cs[i]=none){o:KY}(ho:o=rec (dec++[cs[i]]) S (st++[sk])) :
  DS rec x p N n0 dec st (cs.drop i) S rs sk=if o.found=true then⟨0,true,o.ss,o.dec,o.stack⟩else if o.ss.full=true then⟨0,false,o.ss,dec,st⟩else IH rec x p N n0 dec st cs[i] (cs.drop (i+1)) rs sk o.res o.ss:=by
 grind [List.drop_eq_getElem_cons,FM]
theorem fP{c:Cd}{l:List Cd}{k:Nat}(h:DM (Ef S k) p=false):IH rec x p N n0 dec st c l rs sk k S=⟨k,false,S,dec,st⟩:=by grind [IH]
theorem X8{c:Cd}{l:List Cd}{k:Nat}(h:DM (Ef S k) p=true):IH rec x p N n0 dec st c l rs sk k S=DS rec x p N n0 dec st l S (rs++[k]) (sk++[⟨p,c.place,(k:Nat)⟩]):=by grind [IH]
end
theorem T3{x:List Rl}{dec:List Cd}(h:De x dec):dec.length<=x.length:=by
 have h1:=IB (m:=x.map (·.path)) h.nodup fun p hp=>by
  grind [De.cand]
 simp_all
theorem WL(p:CS):(Bx x p).length<=x.length:=by
 grind [Bx]
theorem eQ(o:Option α):(∃x,o=some x)\/o=none:=by
 cases o<;>simp_all
theorem AaD{T st:List (List Sk)}{sk:List Sk}(h:T=st++[sk]):((T.map Bc).take ((T.length:Int)-1).toNat)=st.map Bc/\((T.length:Int)-1).toNat=st.length:=by
 simp_all
abbrev HV(A:List (Value×AV))(p:CS)(V:AV):Prop:=(∀a,(Value.string p,a)∈A->a=V)/\((∀a,(Value.string p,a)∉A)->V=BE)/\∀h,PC 261 [vs p,str h V] (sl AG (H2 p (B6 x p)))
abbrev lH(n:Nd):Prop:=∀d,DX x roots d (Ox n)=some (Ib n)
structure Lvl(x:List Rl)(roots:List Rq)(C A:List (Value×AV))(n:Nat)(dec:List Cd)(p:CS)(n0:Nd)(l:List Nd)(V:AV)(cs:List Cd):Prop where
 hx:AC x=0
 hr:AR roots=0
 hdl:dec.length<=256
 hcl:cs.length<=256
 hcs:cs=Bx x p
 hnl:(n0::l).length<9223372036854775807
 hnq:∀n∈n0::l,BJ n.rq.set
 hnp:∀n∈n0::l,Av (n.place+1)
 hex:∀(i:Nat) (h:i<cs.length),∀nd∈n0::l,has nd.rq.set cs[i].place=false->lH x roots nd/\True
 hcx:∀(i:Nat) (h:i<cs.length) (nc:Nd),CY dec cs[i]=some nc->lH x roots nc/\True
 hcq:∀(i:Nat) (h:i<cs.length) (nc:Nd),nc∈Qf cs[i]->BJ nc.rq.set
 hcp_:∀(i:Nat) (h:i<cs.length) (nc:Nd),nc∈Qf cs[i]->Av (nc.place+1)
 hcr:∀(i:Nat) (h:i<cs.length),cs[i].rel.reqs.length<=1073741824
 hcs_:∀(i:Nat) (h:i<cs.length),∀q∈cs[i].rel.reqs,BJ q.set
 hkey:∀(i:Nat) (h:i<cs.length),(Aw dec).map Ab++[[vs p,vi cs[i].rel.ver.a,vi cs[i].rel.ver.b,vi cs[i].rel.ver.c]]=(Aw (dec++[cs[i]])).map Ab
 hinf0:lH x roots n0
 hV:HV x A p V
 ih:∀c∈Bx x p,bS dec (n0::l) c=true->∀(S:SS) (EC : List (List Sk)),EC.length=dec.length+1->Lt x roots S->S.full=false ->
  AP Tryz.prog 137 [.ref 1000 0] (Ai (Jv roots C A S (dec++[c]) EC) Ac) (cX roots C A (CL x roots n (dec++[c]) S EC))/\Lt x roots (CL x roots n (dec++[c]) S EC).ss /\
  (S.drv.length<=(CL x roots n (dec++[c]) S EC).ss.drv.length/\((CL x roots n (dec++[c]) S EC).found=false->(CL x roots n (dec++[c]) S EC).ss.full=false->(CL x roots n (dec++[c]) S EC).res<(CL x roots n (dec++[c]) S EC).ss.drv.length)) /\
  ((CL x roots n (dec++[c]) S EC).found=false->(CL x roots n (dec++[c]) S EC).stack=EC)
theorem AgQ(C A:List (Value×AV))(n:Nat)(s:SS)(dec:List Cd)(st:List (List Sk))(p:CS)(n0:Nd)(l:List Nd)(V:AV)(cs:List Cd)(R O:KY)(hL:Lvl x roots C A n dec p n0 l V cs)(hs:Lt x roots s)(KR:st.length=dec.length)(SK:AP Tryz.prog 186 [.ref 1000 0] (Ai (Jv roots C A s dec st) Ac) fun r h'=>r=.tup [vs p,sl Bj (n0::l)]/\h'=Ai (Jv roots C A s dec st) Ac)(hC1:∀a,(Value.string p,a)∈C->a=sl AJ cs)(hC2:¬∀a,(Value.string p,a)∉C)(hR:DS (CL x roots n) x p (n0::l) n0 dec st cs s [] []=R)(gw:O=R) :
  AP Tryz.prog 137 [.ref 1000 0] (Ai (Jv roots C A s dec st) Ac) (cX roots C A O):=by
 obtain⟨hx,hr,hdl,hcl,hcs,hnl,hnq,hnp,hex,hcx,hcq,hcp_,hcr,hcs_,hkey,hinf0,⟨hV1,hV2,hV3⟩,ih⟩:=hL;have aM:∀(i:Nat) (h:i<cs.length),cs[i]∈Bx x p:=fun i h=>by simp_all
 have yT:∀(i:Nat) (h:i<cs.length),BJ (Aw (dec++[cs[i]])):=fun i h=>by grind
 clear hcs
 refine BO (LB ⟨[9],[(6,1),(7,3),(145,1)],[],[],[],[],[],[],[(60,3),(101,3)],[(300001,500091000),(300026,500091000),(300029,500091000)],[1,5,12,15,17,21,23,24,25,26,28,29,31,32,33]⟩) [(1000,1000),(1001,1001),(1002,1002),(1003,1003),(1004,1004),(500,2000)] rfl Ck hm rfl Tryz.func137 Wk rfl (Nz rfl) Wk rfl (Yi (show st.length=(st.map Bc).length by simp) (cU [(0,.ref 1000 0)] [(500,.arr 1 (st.map Bc)),(1000,.cells (srM roots C A s dec 500 st.length)),(1001,.tok 6 s.infs.length),(1002,.tok 1 s.drv.length),(1003,.map Fw (Fy 0 s.infs)),(1004,.dead)] Z1 Z6 (Xi (.gen cV 0) (Yi rfl (AP.imp SK ?_)))));intro v1 g1 q1;have te:=q1.1;have tf:=q1.2;subst te;subst tf;refine Yi (fun h2=>?_) (fun h2=>?_)
 .exact absurd h2 (by grind)
 refine cU [(0,.ref 1000 0),(4,vs p),(5,sl Bj (n0::l)),(6,.slice (.id 6 1) [])] [(6,.tok 1 0),(500,.arr 1 (st.map Bc)),(1000,.cells (srM roots C A s dec 500 st.length)),(1001,.tok 6 s.infs.length),(1002,.tok 1 s.drv.length),(1003,.map Fw (Fy 0 s.infs)),(1004,.dead)] Z4 Z7 (Yi (fun a ha=>?_) (fun OX=>?_))
 .have ea:=hC1 a ha;subst ea;refine Xi {q:Nat×SS×List Nat×List Sk // q.1<=cs.length/\DS (CL x roots n) x p (n0::l) n0 dec st (cs.drop q.1) q.2.1 q.2.2.1 q.2.2.2=R/\Lt x roots q.2.1/\(∀r∈q.2.2.1,r<q.2.1.drv.length)/\q.2.2.1.length<=q.1/\q.2.2.2.length<=q.1} (Xi (fun q=>⟨[(0,.ref 1000 0),(4,vs p),(5,sl Bj (n0::l)),(6,.slice (.id 6 1) (q.1.2.2.1.map CG)),(7,.slice (.id 7 3) (q.1.2.2.2.map Cj)),(32,sl AJ cs),(33,vi (cs.map AJ).length),(34,vi q.1.1)],[(6,.tok 1 q.1.2.2.1.length),(7,.tok 3 q.1.2.2.2.length),(500,.arr 1 (st.map Bc)),(1000,.cells (srM roots C A q.1.2.1 dec 500 st.length)),(1001,.tok 6 q.1.2.1.infs.length),(1002,.tok 1 q.1.2.1.drv.length),(1003,.map Fw (Fy 0 q.1.2.1.infs)),(1004,.dead)],Ac⟩) (Xi (fun q=>cs.length-q.1.1) (Yi (Xi ⟨(0,s,[],[]),Al _,hR,hs,fun r h=>(by cases h),Ap _,Ap _⟩ ?_) ?_)))
  .exact⟨Z8,Z8,Fh,A4 Wk⟩
  intro⟨⟨i,S,rs,sk⟩,j1,j2,j3,j4,j5,j6⟩;have j5:rs.length<=i:=j5;have j6:sk.length<=i:=j6;have hw:=j3.dl;have YM:∀t∈S.drv,lG t:=fun t ht=>by have q:=j3.der.few hx hr t ht;grind
  refine Yi (fun h3=>?_) (fun h3=>?_)
  .have h3:(i:Int)<((cs.map AJ).length:Int):=h3;have n3:=DK h3;refine Xi (AJ cs[i]) (Yi (FJ n3) (Yi rfl (yN (yN (Yi (fun h4=>?_) (fun h4=>?_))))))
   .have eR:R=⟨0,false,S,dec,st⟩:=by rw[<-j2];exact ru n3 h4
    exact C2 (.refl _) (Oa (gw.trans eR))
   have rS:=s86 (fF:=188) (caps:=[.cptr (AJ cs[i])]) (fun c hc=>by obtain rfl:=AK.1 hc;intro h;rfl) (n0::l) (fun n=>!has n.rq.set cs[i].place) (fun n hn=>s87 n cs[i] (hnq n hn)) hnl;refine AN (Xc (fun n=>!has n.rq.set cs[i].place) (n0::l)) (fun h6=>?_) (fun h6=>?_)
   .refine AX h6 (fun k86 h6=>AX h6 (fun nd h6=>?_));rw[h6.1]at rS;refine C1 (C2 rS (cU [(0,.ref 1000 0),(4,vs p),(5,sl Bj (n0::l)),(6,.slice (.id 6 1) (rs.map CG)),(7,.slice (.id 7 3) (sk.map Cj)),(9,.ref 9 0),(10,vi (k86:Nat)),(32,sl AJ cs),(33,vi (cs.map AJ).length),(34,vi i)] [(6,.tok 1 rs.length),(7,.tok 3 sk.length),(9,.ro (AJ cs[i])),(500,.arr 1 (st.map Bc)),(1000,.cells (srM roots C A S dec 500 st.length)),(1001,.tok 6 S.infs.length),(1002,.tok 1 S.drv.length),(1003,.map Fw (Fy 0 S.infs)),(1004,.dead)] Z10 Z9 (Yi (fun _=>?_) (fun hf=>absurd (show(0:Int)<=((k86:Nat):Int) by omega) hf))));refine Xi (Bj nd) (Yi (Yi (show(0:Int)<=((k86:Nat):Int) by omega) (Ed h6.2.1)) (Yi rfl (yN ?_)));have wM:=hex i n3 nd (BA h6.2.2) (by grind);obtain⟨b1,b2,b3⟩:=j3.add (wM.1 S.drv)
    change Lt x roots (Bu S nd).2 at b1
    change (Bu S nd).1<(Bu S nd).2.drv.length at b2
    change S.drv.length<=(Bu S nd).2.drv.length at b3
    refine Xi (.gen cV 0) (Yi rfl (AP.imp (s88 roots C A S dec st nd hw.1 hw.2.1 j3.nodup (hnq nd (AB h6.2.1)) (hnp nd (AB h6.2.1))) ?_));intro v7 g7 q7;have q7a:=q7.1;have q7b:=q7.2;subst q7a;subst q7b;refine Yi (cI rfl ch Cl) (Yi (Ii i ch) ?_);have YL:S.full=false:=by omega
    have eN:DS (CL x roots n) x p (n0::l) n0 dec st (cs.drop (i+1)) (Bu S nd).2 (rs++[(Bu S nd).1]) sk=R:=by rw[<-zJ n3 YL h6.2.2];exact j2
    refine Xi ⟨(i+1,(Bu S nd).2,rs++[(Bu S nd).1],sk),Fo n3,eN,b1,fun r h=>(Bh.1 h).elim (fun h=>BY (j4 r h) b3) (fun h=>by simp_all),(by simp_all),Nat.le_succ_of_le j6⟩ ?_;exact⟨Dl cs.length i ch,⟨Zr,Zr,Zr,⟨(show AV.slice (.id 6 1) (rs.map CG++[[vi (((Bu S nd).1:Nat):Int)]])=.slice (.id 6 1) ((rs++[(Bu S nd).1]).map CG) by simp_all),rfl⟩,Zr,Zr,Zr,Zr,Tv⟩,⟨⟨(show HO.tok 1 ((rs.map CG).length+([[vi (((Bu S nd).1:Nat):Int)]]:C0).length)=.tok 1 (rs++[(Bu S nd).1]).length by simp),rfl⟩,Zr,Zr,Zr,Zr,Zr,Zr,Zr,Tv⟩,Fh,A4 Wk⟩
   skip
   rw[h6.1]at rS;refine C1 (C2 rS (cU [(0,.ref 1000 0),(4,vs p),(5,sl Bj (n0::l)),(6,.slice (.id 6 1) (rs.map CG)),(7,.slice (.id 7 3) (sk.map Cj)),(9,.ref 9 0),(10,vi (-1)),(32,sl AJ cs),(33,vi (cs.map AJ).length),(34,vi i)] [(6,.tok 1 rs.length),(7,.tok 3 sk.length),(9,.ro (AJ cs[i])),(500,.arr 1 (st.map Bc)),(1000,.cells (srM roots C A S dec 500 st.length)),(1001,.tok 6 S.infs.length),(1002,.tok 1 S.drv.length),(1003,.map Fw (Fy 0 S.infs)),(1004,.dead)] Z10 Z9 (Yi (fun h=>absurd h Cl) (fun _=>?_))));refine Xi _ (C2 Wk (Yi (wj (Aw dec) (by grind)) (yN ?_)));have VQ:Bi 4 [[vs p,vi cs[i].rel.ver.a,vi cs[i].rel.ver.b,vi cs[i].rel.ver.c]]/\((Aw dec).map Ab).length=((Aw dec).map Ab).length/\(((Aw dec).map Ab).length+([[vs p,vi cs[i].rel.ver.a,vi cs[i].rel.ver.b,vi cs[i].rel.ver.c]]:C0).length)*40<=140737488355328/\((Aw dec).map Ab).length+([[vs p,vi cs[i].rel.ver.a,vi cs[i].rel.ver.b,vi cs[i].rel.ver.c]]:C0).length<=9223372036854775807:=⟨⟨rfl,trivial⟩,rfl,(by grind),(by grind)⟩;refine Yi VQ (Yi Wk (cU [(0,.ref 1000 0),(4,vs p),(5,sl Bj (n0::l)),(6,.slice (.id 6 1) (rs.map CG)),(7,.slice (.id 7 3) (sk.map Cj)),(9,.ref 9 0),(11,.slice (.id 16000 4) ((Aw (dec++[cs[i]])).map Ab)),(32,sl AJ cs),(33,vi (cs.map AJ).length),(34,vi i)] [(6,.tok 1 rs.length),(7,.tok 3 sk.length),(9,.ro (AJ cs[i])),(500,.arr 1 (st.map Bc)),(1000,.cells (srM roots C A S dec 500 st.length)),(1001,.tok 6 S.infs.length),(1002,.tok 1 S.drv.length),(1003,.map Fw (Fy 0 S.infs)),(1004,.dead),(16000,.tok 4 ((Aw (dec++[cs[i]])).map Ab).length)] ⟨Zr,Zr,Zr,Zr,Zr,Zr,⟨(show(.slice (.id 16000 4) (((Aw dec).map Ab)++[[vs p,vi cs[i].rel.ver.a,vi cs[i].rel.ver.b,vi cs[i].rel.ver.c]]):AV)=.slice (.id 16000 4) ((Aw (dec++[cs[i]])).map Ab) by grind),rfl⟩,Zr,Zr,Zr,Tv⟩ ⟨Zr,Zr,Zr,Zr,Zr,Zr,Zr,Zr,Zr,⟨(show(.tok 4 (((Aw dec).map Ab).length+([[vs p,vi cs[i].rel.ver.a,vi cs[i].rel.ver.b,vi cs[i].rel.ver.c]]:C0).length):HO)=.tok 4 ((Aw (dec++[cs[i]])).map Ab).length by simp_all),rfl⟩,Tv⟩ ?_))
   have rT:=s89 roots C A S dec st (Aw (dec++[cs[i]])) hw.2.2 YM (yT i n3);refine AN (eQ (Oi S.drv (Aw (dec++[cs[i]])))) (fun FH=>?_) (fun FH=>?_)
   .refine AX FH (fun ke FH=>?_);have eV:mN S.drv (Aw (dec++[cs[i]]))=.tup [vi (ke:Nat),vb true]:=by simp_all
    rw[eV]at rT;refine Xi (.gen cV 0) (Yi rfl (AP.imp rT ?_));intro v12 g12 td;have xB:=td.1;have xC:=td.2;subst xB;subst xC;refine yN ?_;have YK:=s69 roots C A S dec st cs[i] ch (hcr i n3) (hcs_ i n3);refine AN (eQ (CY dec cs[i])) (fun K9=>?_) (fun K9=>?_)
    .refine AX K9 (fun nc K9=>?_);have eW:wl (CY dec cs[i])=.tup [.agg (Bj nc),vb true]:=by rw[K9];rfl
     rw[eW]at YK;refine Xi (.gen cV 0) (Yi rfl (AP.imp YK ?_));intro v14 g14 q14;have xD:=q14.1;have xE:=q14.2;subst xD;subst xE;refine yN (cU [(0,.ref 1000 0),(4,vs p),(5,sl Bj (n0::l)),(6,.slice (.id 6 1) (rs.map CG)),(7,.slice (.id 7 3) (sk.map Cj)),(9,.ref 9 0),(11,.slice (.id 16000 4) ((Aw (dec++[cs[i]])).map Ab)),(12,vi (ke:Nat)),(13,vb true),(14,.ref 14 0),(15,vb true),(32,sl AJ cs),(33,vi (cs.map AJ).length),(34,vi i)] [(6,.tok 1 rs.length),(7,.tok 3 sk.length),(9,.ro (AJ cs[i])),(14,.cells (Bj nc)),(500,.arr 1 (st.map Bc)),(1000,.cells (srM roots C A S dec 500 st.length)),(1001,.tok 6 S.infs.length),(1002,.tok 1 S.drv.length),(1003,.map Fw (Fy 0 S.infs)),(1004,.dead),(16000,.tok 4 ((Aw (dec++[cs[i]])).map Ab).length)] ⟨Zr,Zr,Zr,Zr,Zr,Zr,Zr,Zr,Zr,Zr,Zr,Zr,Zr,Zr,Tv⟩ Z11 (cU [(0,.ref 1000 0),(4,vs p),(5,sl Bj (n0::l)),(6,.slice (.id 6 1) (rs.map CG)),(7,.slice (.id 7 3) (sk.map Cj)),(9,.ref 9 0),(12,vi (ke:Nat)),(32,sl AJ cs),(33,vi (cs.map AJ).length),(34,vi i)] [(6,.tok 1 rs.length),(7,.tok 3 sk.length),(9,.ro (AJ cs[i])),(500,.arr 1 (st.map Bc)),(1000,.cells (srM roots C A S dec 500 st.length)),(1001,.tok 6 S.infs.length),(1002,.tok 1 S.drv.length),(1003,.map Fw (Fy 0 S.infs)),(1004,.dead)] Z10 Z9 (Xi (Dg (Ef S ke)) (Yi (Yi (show(0:Int)<=((ke:Nat):Int) by omega) (Ed (EF (K7 FH).1))) (Yi rfl ?_)))));have YL:S.full=false:=by omega
     have cM:ke<S.drv.length:=(K7 FH).1;have gE:=j3.der.few hx hr;refine AN (Bt (DM (Ef S ke) p)) (fun Tb=>?_) (fun Tb=>?_)
     .refine C1 (C2 (cb Tb (qM (Ef S ke) p (F7 (gE _ (AB (EF cM)))))) (cU [(0,.ref 1000 0),(4,vs p),(5,sl Bj (n0::l)),(6,.slice (.id 6 1) (rs.map CG)),(7,.slice (.id 7 3) (sk.map Cj)),(9,.ref 9 0),(12,vi (ke:Nat)),(32,sl AJ cs),(33,vi (cs.map AJ).length),(34,vi i)] [(6,.tok 1 rs.length),(7,.tok 3 sk.length),(9,.ro (AJ cs[i])),(500,.arr 1 (st.map Bc)),(1000,.cells (srM roots C A S dec 500 st.length)),(1001,.tok 6 S.infs.length),(1002,.tok 1 S.drv.length),(1003,.map Fw (Fy 0 S.infs)),(1004,.dead)] Z10 Z9 (Yi (cI rfl ch Cl) (Yi (cI rfl ch Cl) (Yi (Ii i ch) ?_)))));have eA:=(Yp (rec:=CL x roots n) (x:=x) (p:=p) (n0:=n0) (st:=st) (rs:=rs) (sk:=sk) n3 YL h6.2 FH);have eN:DS (CL x roots n) x p (n0::l) n0 dec st (cs.drop (i+1)) S (rs++[ke]) (sk++[(⟨p,cs[i].place,(ke:Nat)⟩:Sk)])=R:=by rw[<-X8 (c:=cs[i]) Tb,<-eA];exact j2
      refine Xi ⟨(i+1,S,rs++[ke],sk++[(⟨p,cs[i].place,(ke:Nat)⟩:Sk)]),Fo n3,eN,j3,fun r h=>(Bh.1 h).elim ((fun r h=>j4 r h) r) (fun h=>by simp_all),(by simp_all),(by simp_all)⟩ ?_;exact⟨Dl cs.length i ch,⟨Zr,Zr,Zr,⟨(show AV.slice (.id 6 1) (rs.map CG++[[vi ((ke:Nat):Int)]])=.slice (.id 6 1) ((rs++[ke]).map CG) by simp_all),rfl⟩,⟨(show AV.slice (.id 7 3) (sk.map Cj++[[vs p,vi cs[i].place,vi ((ke:Nat):Int)]])=.slice (.id 7 3) ((sk++[(⟨p,cs[i].place,(ke:Nat)⟩:Sk)]).map Cj) by simp_all),rfl⟩,Zr,Zr,Zr,Tv⟩,⟨⟨(show HO.tok 1 ((rs.map CG).length+([[vi ((ke:Nat):Int)]]:C0).length)=.tok 1 (rs++[ke]).length by simp),rfl⟩,⟨(show HO.tok 3 ((sk.map Cj).length+([[vs p,vi cs[i].place,vi ((ke:Nat):Int)]]:C0).length)=.tok 3 (sk++[(⟨p,cs[i].place,(ke:Nat)⟩:Sk)]).length by simp),rfl⟩,Zr,Zr,Zr,Zr,Zr,Zr,Tv⟩,Fh,A4 Wk⟩
     refine C1 (C2 (cb Tb (qM (Ef S ke) p (F7 (gE _ (AB (EF cM)))))) (cU [(12,vi (ke:Nat))] [(500,.arr 1 (st.map Bc)),(1000,.cells (srM roots C A S dec 500 st.length)),(1001,.tok 6 S.infs.length),(1002,.tok 1 S.drv.length),(1003,.map Fw (Fy 0 S.infs)),(1004,.dead)] Z1 Z6 ?_))
     have eA:=(Yp (rec:=CL x roots n) (x:=x) (p:=p) (n0:=n0) (st:=st) (rs:=rs) (sk:=sk) n3 YL h6.2 FH);have eR:R=⟨ke,false,S,dec,st⟩:=by rw[<-j2];rw[eA];exact fP Tb
     exact C2 (.refl _) (Oa (gw.trans eR))
    skip
    have eW:wl (CY dec cs[i])=.tup [.agg [vs ⟨#[]⟩,BE,vs ⟨#[]⟩,vi 0,vi 0],vb false]:=by rw[K9];rfl
    rw[eW]at YK;refine Xi (.gen cV 0) (Yi rfl (AP.imp YK ?_));intro v20 g20 q20;have Ag1:=q20.1;have Ag2:=q20.2;subst Ag1;subst Ag2;refine yN (cU [(0,.ref 1000 0),(4,vs p),(5,sl Bj (n0::l)),(6,.slice (.id 6 1) (rs.map CG)),(7,.slice (.id 7 3) (sk.map Cj)),(9,.ref 9 0),(11,.slice (.id 16000 4) ((Aw (dec++[cs[i]])).map Ab)),(12,vi (ke:Nat)),(13,vb true),(14,.ref 14 0),(15,vb false),(32,sl AJ cs),(33,vi (cs.map AJ).length),(34,vi i)] [(6,.tok 1 rs.length),(7,.tok 3 sk.length),(9,.ro (AJ cs[i])),(14,.cells [vs ⟨#[]⟩,BE,vs ⟨#[]⟩,vi 0,vi 0]),(500,.arr 1 (st.map Bc)),(1000,.cells (srM roots C A S dec 500 st.length)),(1001,.tok 6 S.infs.length),(1002,.tok 1 S.drv.length),(1003,.map Fw (Fy 0 S.infs)),(1004,.dead),(16000,.tok 4 ((Aw (dec++[cs[i]])).map Ab).length)] ⟨Zr,Zr,Zr,Zr,Zr,Zr,Zr,Zr,Zr,Zr,Zr,Zr,Zr,Zr,Tv⟩ Z11 (cU [(0,.ref 1000 0),(4,vs p),(5,sl Bj (n0::l)),(6,.slice (.id 6 1) (rs.map CG)),(7,.slice (.id 7 3) (sk.map Cj)),(9,.ref 9 0),(12,vi (ke:Nat)),(32,sl AJ cs),(33,vi (cs.map AJ).length),(34,vi i)] [(6,.tok 1 rs.length),(7,.tok 3 sk.length),(9,.ro (AJ cs[i])),(500,.arr 1 (st.map Bc)),(1000,.cells (srM roots C A S dec 500 st.length)),(1001,.tok 6 S.infs.length),(1002,.tok 1 S.drv.length),(1003,.map Fw (Fy 0 S.infs)),(1004,.dead)] Z10 Z9 (Xi (Dg (Ef S ke)) (Yi (Yi (show(0:Int)<=((ke:Nat):Int) by omega) (Ed (EF (K7 FH).1))) (Yi rfl ?_)))));have YL:S.full=false:=by omega
    have cM:ke<S.drv.length:=(K7 FH).1;have gE:=j3.der.few hx hr;refine AN (Bt (DM (Ef S ke) p)) (fun cK=>?_) (fun cK=>?_)
    .refine C1 (C2 (cb cK (qM (Ef S ke) p (F7 (gE _ (AB (EF cM)))))) (cU [(0,.ref 1000 0),(4,vs p),(5,sl Bj (n0::l)),(6,.slice (.id 6 1) (rs.map CG)),(7,.slice (.id 7 3) (sk.map Cj)),(9,.ref 9 0),(12,vi (ke:Nat)),(32,sl AJ cs),(33,vi (cs.map AJ).length),(34,vi i)] [(6,.tok 1 rs.length),(7,.tok 3 sk.length),(9,.ro (AJ cs[i])),(500,.arr 1 (st.map Bc)),(1000,.cells (srM roots C A S dec 500 st.length)),(1001,.tok 6 S.infs.length),(1002,.tok 1 S.drv.length),(1003,.map Fw (Fy 0 S.infs)),(1004,.dead)] Z10 Z9 (Yi (cI rfl ch Cl) (Yi (cI rfl ch Cl) (Yi (Ii i ch) ?_)))));have eA:=(Yp (rec:=CL x roots n) (x:=x) (p:=p) (n0:=n0) (st:=st) (rs:=rs) (sk:=sk) n3 YL h6.2 FH);have eN:DS (CL x roots n) x p (n0::l) n0 dec st (cs.drop (i+1)) S (rs++[ke]) (sk++[(⟨p,cs[i].place,(ke:Nat)⟩:Sk)])=R:=by rw[<-X8 (c:=cs[i]) cK,<-eA];exact j2
     refine Xi ⟨(i+1,S,rs++[ke],sk++[(⟨p,cs[i].place,(ke:Nat)⟩:Sk)]),Fo n3,eN,j3,fun r h=>(Bh.1 h).elim ((fun r h=>j4 r h) r) (fun h=>by simp_all),(by simp_all),(by simp_all)⟩ ?_;exact⟨Dl cs.length i ch,⟨Zr,Zr,Zr,⟨(show AV.slice (.id 6 1) (rs.map CG++[[vi ((ke:Nat):Int)]])=.slice (.id 6 1) ((rs++[ke]).map CG) by simp_all),rfl⟩,⟨(show AV.slice (.id 7 3) (sk.map Cj++[[vs p,vi cs[i].place,vi ((ke:Nat):Int)]])=.slice (.id 7 3) ((sk++[(⟨p,cs[i].place,(ke:Nat)⟩:Sk)]).map Cj) by simp_all),rfl⟩,Zr,Zr,Zr,Tv⟩,⟨⟨(show HO.tok 1 ((rs.map CG).length+([[vi ((ke:Nat):Int)]]:C0).length)=.tok 1 (rs++[ke]).length by simp),rfl⟩,⟨(show HO.tok 3 ((sk.map Cj).length+([[vs p,vi cs[i].place,vi ((ke:Nat):Int)]]:C0).length)=.tok 3 (sk++[(⟨p,cs[i].place,(ke:Nat)⟩:Sk)]).length by simp),rfl⟩,Zr,Zr,Zr,Zr,Zr,Zr,Tv⟩,Fh,A4 Wk⟩
    refine C1 (C2 (cb cK (qM (Ef S ke) p (F7 (gE _ (AB (EF cM)))))) (cU [(12,vi (ke:Nat))] [(500,.arr 1 (st.map Bc)),(1000,.cells (srM roots C A S dec 500 st.length)),(1001,.tok 6 S.infs.length),(1002,.tok 1 S.drv.length),(1003,.map Fw (Fy 0 S.infs)),(1004,.dead)] Z1 Z6 ?_))
    have eA:=(Yp (rec:=CL x roots n) (x:=x) (p:=p) (n0:=n0) (st:=st) (rs:=rs) (sk:=sk) n3 YL h6.2 FH);have eR:R=⟨ke,false,S,dec,st⟩:=by rw[<-j2];rw[eA];exact fP cK
    exact C2 (.refl _) (Oa (gw.trans eR))
   skip
   have eV:mN S.drv (Aw (dec++[cs[i]]))=.tup [vi 0,vb false]:=by simp_all
   rw[eV]at rT;refine Xi (.gen cV 0) (Yi rfl (AP.imp rT ?_));intro v26 g26 q26;have Ag5:=q26.1;have Ag6:=q26.2;subst Ag5;subst Ag6;refine yN ?_;have YK:=s69 roots C A S dec st cs[i] ch (hcr i n3) (hcs_ i n3);refine AN (eQ (CY dec cs[i])) (fun Tc=>?_) (fun Tc=>?_)
   .refine AX Tc (fun nc Tc=>?_);have eW:wl (CY dec cs[i])=.tup [.agg (Bj nc),vb true]:=by rw[Tc];rfl
    rw[eW]at YK;refine Xi (.gen cV 0) (Yi rfl (AP.imp YK ?_));intro v28 g28 q28;have Ag7:=q28.1;have Ag8:=q28.2;subst Ag7;subst Ag8;refine yN (cU [(0,.ref 1000 0),(4,vs p),(5,sl Bj (n0::l)),(6,.slice (.id 6 1) (rs.map CG)),(7,.slice (.id 7 3) (sk.map Cj)),(9,.ref 9 0),(11,.slice (.id 16000 4) ((Aw (dec++[cs[i]])).map Ab)),(12,vi 0),(13,vb false),(14,.ref 14 0),(15,vb true),(32,sl AJ cs),(33,vi (cs.map AJ).length),(34,vi i)] [(6,.tok 1 rs.length),(7,.tok 3 sk.length),(9,.ro (AJ cs[i])),(14,.cells (Bj nc)),(500,.arr 1 (st.map Bc)),(1000,.cells (srM roots C A S dec 500 st.length)),(1001,.tok 6 S.infs.length),(1002,.tok 1 S.drv.length),(1003,.map Fw (Fy 0 S.infs)),(1004,.dead),(16000,.tok 4 ((Aw (dec++[cs[i]])).map Ab).length)] ⟨Zr,Zr,Zr,Zr,Zr,Zr,Zr,Zr,Zr,Zr,Zr,Zr,Zr,Zr,Tv⟩ Z11 (yN ?_));have wM:=hcx i n3 nc Tc;obtain⟨b1,b2,b3⟩:=j3.add (wM.1 S.drv)
    change Lt x roots (Bu S nc).2 at b1
    change (Bu S nc).1<(Bu S nc).2.drv.length at b2
    change S.drv.length<=(Bu S nc).2.drv.length at b3
    refine Xi (.gen cV 0) (Yi rfl (AP.imp (s88 roots C A S dec st nc hw.1 hw.2.1 j3.nodup (hcq i n3 nc (Ly Tc).1) (hcp_ i n3 nc (Ly Tc).1)) ?_));intro v29 g29 q29;have Ag9:=q29.1;have Aga:=q29.2;subst Ag9;subst Aga;refine cU [(0,.ref 1000 0),(4,vs p),(5,sl Bj (n0::l)),(6,.slice (.id 6 1) (rs.map CG)),(7,.slice (.id 7 3) (sk.map Cj)),(9,.ref 9 0),(12,vi ((Bu S nc).1:Nat)),(32,sl AJ cs),(33,vi (cs.map AJ).length),(34,vi i)] [(6,.tok 1 rs.length),(7,.tok 3 sk.length),(9,.ro (AJ cs[i])),(500,.arr 1 (st.map Bc)),(1000,.cells [sl As roots,.cmap B4 C,.cmap B4 A,.slice (.id 1001 6) ((Bu S nc).2.infs.map Dy),.slice (.id 1002 1) ((Bu S nc).2.drv.map Dg),.mref 1003,vb (Bu S nc).2.full,sl AJ dec,sl Ab (Aw dec),.msl 500 st.length]),(1001,.tok 6 (Bu S nc).2.infs.length),(1002,.tok 1 (Bu S nc).2.drv.length),(1003,.map Fw (Fy 0 (Bu S nc).2.infs)),(1004,.dead)] Z10 Z9 (Xi (Dg (Ef (Bu S nc).2 (Bu S nc).1)) (Yi (Yi (show(0:Int)<=(((Bu S nc).1:Nat):Int) by omega) (Ed (EF b2))) (Yi rfl ?_)));have YL:S.full=false:=by omega
    have cM:(Bu S nc).1<(Bu S nc).2.drv.length:=b2;have gE:=b1.der.few hx hr;refine AN (Bt (DM (Ef (Bu S nc).2 (Bu S nc).1) p)) (fun qz=>?_) (fun qz=>?_)
    .refine C1 (C2 (cb qz (qM (Ef (Bu S nc).2 (Bu S nc).1) p (F7 (gE _ (AB (EF cM)))))) (cU [(0,.ref 1000 0),(4,vs p),(5,sl Bj (n0::l)),(6,.slice (.id 6 1) (rs.map CG)),(7,.slice (.id 7 3) (sk.map Cj)),(9,.ref 9 0),(12,vi ((Bu S nc).1:Nat)),(32,sl AJ cs),(33,vi (cs.map AJ).length),(34,vi i)] [(6,.tok 1 rs.length),(7,.tok 3 sk.length),(9,.ro (AJ cs[i])),(500,.arr 1 (st.map Bc)),(1000,.cells [sl As roots,.cmap B4 C,.cmap B4 A,.slice (.id 1001 6) ((Bu S nc).2.infs.map Dy),.slice (.id 1002 1) ((Bu S nc).2.drv.map Dg),.mref 1003,vb (Bu S nc).2.full,sl AJ dec,sl Ab (Aw dec),.msl 500 st.length]),(1001,.tok 6 (Bu S nc).2.infs.length),(1002,.tok 1 (Bu S nc).2.drv.length),(1003,.map Fw (Fy 0 (Bu S nc).2.infs)),(1004,.dead)] Z10 Z9 (Yi (cI rfl ch Cl) (Yi (cI rfl ch Cl) (Yi (Ii i ch) ?_)))));have eA:=(aa (rec:=CL x roots n) (x:=x) (p:=p) (n0:=n0) (st:=st) (rs:=rs) (sk:=sk) n3 YL h6.2 FH Tc);have eN:DS (CL x roots n) x p (n0::l) n0 dec st (cs.drop (i+1)) (Bu S nc).2 (rs++[(Bu S nc).1]) (sk++[(⟨p,cs[i].place,((Bu S nc).1:Nat)⟩:Sk)])=R:=by rw[<-X8 (c:=cs[i]) qz,<-eA];exact j2
     refine Xi ⟨(i+1,(Bu S nc).2,rs++[(Bu S nc).1],sk++[(⟨p,cs[i].place,((Bu S nc).1:Nat)⟩:Sk)]),Fo n3,eN,b1,fun r h=>(Bh.1 h).elim ((fun r h=>BY (j4 r h) b3) r) (fun h=>by simp_all),(by simp_all),(by simp_all)⟩ ?_;exact⟨Dl cs.length i ch,⟨Zr,Zr,Zr,⟨(show AV.slice (.id 6 1) (rs.map CG++[[vi (((Bu S nc).1:Nat):Int)]])=.slice (.id 6 1) ((rs++[(Bu S nc).1]).map CG) by simp_all),rfl⟩,⟨(show AV.slice (.id 7 3) (sk.map Cj++[[vs p,vi cs[i].place,vi (((Bu S nc).1:Nat):Int)]])=.slice (.id 7 3) ((sk++[(⟨p,cs[i].place,((Bu S nc).1:Nat)⟩:Sk)]).map Cj) by simp_all),rfl⟩,Zr,Zr,Zr,Tv⟩,⟨⟨(show HO.tok 1 ((rs.map CG).length+([[vi (((Bu S nc).1:Nat):Int)]]:C0).length)=.tok 1 (rs++[(Bu S nc).1]).length by simp),rfl⟩,⟨(show HO.tok 3 ((sk.map Cj).length+([[vs p,vi cs[i].place,vi (((Bu S nc).1:Nat):Int)]]:C0).length)=.tok 3 (sk++[(⟨p,cs[i].place,((Bu S nc).1:Nat)⟩:Sk)]).length by simp),rfl⟩,Zr,Zr,Zr,Zr,Zr,Zr,Tv⟩,Fh,A4 Wk⟩
    refine C1 (C2 (cb qz (qM (Ef (Bu S nc).2 (Bu S nc).1) p (F7 (gE _ (AB (EF cM)))))) (cU [(12,vi ((Bu S nc).1:Nat))] [(500,.arr 1 (st.map Bc)),(1000,.cells [sl As roots,.cmap B4 C,.cmap B4 A,.slice (.id 1001 6) ((Bu S nc).2.infs.map Dy),.slice (.id 1002 1) ((Bu S nc).2.drv.map Dg),.mref 1003,vb (Bu S nc).2.full,sl AJ dec,sl Ab (Aw dec),.msl 500 st.length]),(1001,.tok 6 (Bu S nc).2.infs.length),(1002,.tok 1 (Bu S nc).2.drv.length),(1003,.map Fw (Fy 0 (Bu S nc).2.infs)),(1004,.dead)] Z1 Z6 ?_))
    have eA:=(aa (rec:=CL x roots n) (x:=x) (p:=p) (n0:=n0) (st:=st) (rs:=rs) (sk:=sk) n3 YL h6.2 FH Tc);have eR:R=⟨(Bu S nc).1,false,(Bu S nc).2,dec,st⟩:=by rw[<-j2];rw[eA];exact fP qz
    exact C2 (.refl _) (Oa (gw.trans eR))
   skip
   have eW:wl (CY dec cs[i])=.tup [.agg [vs ⟨#[]⟩,BE,vs ⟨#[]⟩,vi 0,vi 0],vb false]:=by rw[Tc];rfl
   rw[eW]at YK;refine Xi (.gen cV 0) (Yi rfl (AP.imp YK ?_));intro v35 g35 q35;have Agf:=q35.1;have Agg:=q35.2;subst Agf;subst Agg;refine yN (cU [(0,.ref 1000 0),(4,vs p),(5,sl Bj (n0::l)),(6,.slice (.id 6 1) (rs.map CG)),(7,.slice (.id 7 3) (sk.map Cj)),(9,.ref 9 0),(11,.slice (.id 16000 4) ((Aw (dec++[cs[i]])).map Ab)),(12,vi 0),(13,vb false),(14,.ref 14 0),(15,vb false),(32,sl AJ cs),(33,vi (cs.map AJ).length),(34,vi i)] [(6,.tok 1 rs.length),(7,.tok 3 sk.length),(9,.ro (AJ cs[i])),(14,.cells [vs ⟨#[]⟩,BE,vs ⟨#[]⟩,vi 0,vi 0]),(500,.arr 1 (st.map Bc)),(1000,.cells (srM roots C A S dec 500 st.length)),(1001,.tok 6 S.infs.length),(1002,.tok 1 S.drv.length),(1003,.map Fw (Fy 0 S.infs)),(1004,.dead),(16000,.tok 4 ((Aw (dec++[cs[i]])).map Ab).length)] ⟨Zr,Zr,Zr,Zr,Zr,Zr,Zr,Zr,Zr,Zr,Zr,Zr,Zr,Zr,Tv⟩ Z11 (Yi Wk (cU [(0,.ref 1000 0),(4,vs p),(5,sl Bj (n0::l)),(6,.slice (.id 6 1) (rs.map CG)),(7,.slice (.id 7 3) (sk.map Cj)),(9,.ref 9 0),(11,.slice (.id 16000 4) ((Aw (dec++[cs[i]])).map Ab)),(16,sl AJ dec),(17,sl Ab (Aw dec)),(32,sl AJ cs),(33,vi (cs.map AJ).length),(34,vi i)] [(6,.tok 1 rs.length),(7,.tok 3 sk.length),(9,.ro (AJ cs[i])),(500,.arr 1 (st.map Bc)),(1000,.cells (srM roots C A S dec 500 st.length)),(1001,.tok 6 S.infs.length),(1002,.tok 1 S.drv.length),(1003,.map Fw (Fy 0 S.infs)),(1004,.dead),(16000,.tok 4 ((Aw (dec++[cs[i]])).map Ab).length)] Z12 Z10 (Xi _ (C2 Wk (Yi (AbJ dec ch) (yN ?_)))))));have b36:Bi 10 [(AJ cs[i])]/\(dec.map AJ).length=(dec.map AJ).length/\((dec.map AJ).length+([(AJ cs[i])]:C0).length)*128<=140737488355328/\(dec.map AJ).length+([(AJ cs[i])]:C0).length<=9223372036854775807:=⟨⟨rfl,trivial⟩,rfl,(by grind),(by simp_all)⟩;refine Yi b36 (yN (yN (Yi Wk ?_)));have b37:Bi 1 [[sl Cj sk]]/\(st.map Bc).length=st.length/\((st.map Bc).length+([[sl Cj sk]]:C0).length)*24<=140737488355328/\(st.map Bc).length+([[sl Cj sk]]:C0).length<=9223372036854775807:=⟨⟨rfl,trivial⟩,(by simp_all),(by grind),(by simp_all)⟩;refine Yi b37 (yN (cU [(0,.ref 1000 0),(4,vs p),(5,sl Bj (n0::l)),(6,.slice (.id 6 1) (rs.map CG)),(7,.slice (.id 7 3) (sk.map Cj)),(9,.ref 9 0),(16,sl AJ dec),(17,sl Ab (Aw dec)),(32,sl AJ cs),(33,vi (cs.map AJ).length),(34,vi i)] [(6,.tok 1 rs.length),(7,.tok 3 sk.length),(9,.ro (AJ cs[i])),(500,.arr 1 ((st.map Bc)++[[sl Cj sk]])),(1000,.cells [sl As roots,.cmap B4 C,.cmap B4 A,.slice (.id 1001 6) (S.infs.map Dy),.slice (.id 1002 1) (S.drv.map Dg),.mref 1003,vb S.full,.slice (.id 20100 10) ((dec.map AJ)++[(AJ cs[i])]),.slice (.id 16000 4) ((Aw (dec++[cs[i]])).map Ab),.msl 500 ((st.map Bc).length+([[sl Cj sk]]:C0).length)]),(1001,.tok 6 S.infs.length),(1002,.tok 1 S.drv.length),(1003,.map Fw (Fy 0 S.infs)),(1004,.dead),(16000,.tok 4 ((Aw (dec++[cs[i]])).map Ab).length),(20100,.tok 10 ((dec.map AJ).length+([(AJ cs[i])]:C0).length))] Z11 Z11 (cU [(0,.ref 1000 0),(4,vs p),(5,sl Bj (n0::l)),(6,.slice (.id 6 1) (rs.map CG)),(7,.slice (.id 7 3) (sk.map Cj)),(9,.ref 9 0),(16,sl AJ dec),(17,sl Ab (Aw dec)),(32,sl AJ cs),(33,vi (cs.map AJ).length),(34,vi i)] [(6,.tok 1 rs.length),(7,.tok 3 sk.length),(9,.ro (AJ cs[i])),(500,.arr 1 ((st++[sk]).map Bc)),(1000,.cells [sl As roots,.cmap B4 C,.cmap B4 A,.slice (.id 1001 6) (S.infs.map Dy),.slice (.id 1002 1) (S.drv.map Dg),.mref 1003,vb S.full,.slice (.id 20100 10) ((dec++[cs[i]]).map AJ),.slice (.id 16000 4) ((Aw (dec++[cs[i]])).map Ab),.msl 500 (st++[sk]).length]),(1001,.tok 6 S.infs.length),(1002,.tok 1 S.drv.length),(1003,.map Fw (Fy 0 S.infs)),(1004,.dead),(16000,.tok 4 ((Aw (dec++[cs[i]])).map Ab).length),(20100,.tok 10 ((dec++[cs[i]]).map AJ).length)] Z11 ⟨Zr,Zr,Zr,⟨(show(.arr 1 ((st.map Bc)++[[sl Cj sk]]):HO)=.arr 1 ((st++[sk]).map Bc) by simp),rfl⟩,⟨(show(.cells [sl As roots,.cmap B4 C,.cmap B4 A,.slice (.id 1001 6) (S.infs.map Dy),.slice (.id 1002 1) (S.drv.map Dg),.mref 1003,vb S.full,.slice (.id 20100 10) ((dec.map AJ)++[(AJ cs[i])]),.slice (.id 16000 4) ((Aw (dec++[cs[i]])).map Ab),.msl 500 ((st.map Bc).length+([[sl Cj sk]]:C0).length)]:HO)=.cells [sl As roots,.cmap B4 C,.cmap B4 A,.slice (.id 1001 6) (S.infs.map Dy),.slice (.id 1002 1) (S.drv.map Dg),.mref 1003,vb S.full,.slice (.id 20100 10) ((dec++[cs[i]]).map AJ),.slice (.id 16000 4) ((Aw (dec++[cs[i]])).map Ab),.msl 500 (st++[sk]).length] by simp),rfl⟩,Zr,Zr,Zr,Zr,Zr,⟨(show(.tok 10 ((dec.map AJ).length+([(AJ cs[i])]:C0).length):HO)=.tok 10 ((dec++[cs[i]]).map AJ).length by simp),rfl⟩,Tv⟩ ?_)))
   have GG:bS dec (n0::l) cs[i]=true:=IC.2 ⟨fun n hn=>by grind,Tc⟩;have nK:=ih cs[i] (aM i n3) GG S (st++[sk]) (by simp_all) j3 ch;refine AX (show ∃o,o=CL x roots n (dec++[cs[i]]) S (st++[sk])from⟨_,rfl⟩) (fun o ho=>?_);rw[<-ho]at nK;have ZE:AP Tryz.prog 137 [.ref 1000 0] (Ai (Jv roots C A S (dec++[cs[i]]) (st++[sk])) Ac) (fun r h'=>r=.tup [vi (o.res:Nat),vb o.found]/\h'=Ai (srE roots C A o.ss o.dec o.stack) Ac):=nK.1;have hrs:=nK.2.1;have hrn:=nK.2.2.1;refine AN (Bt o.found) (fun wA=>?_) (fun wA=>?_)
   .skip
    rw[wA]at ZE;refine Xi (.gen cV 1) (Yi rfl (AP.imp ZE ?_));intro v39 g39 q39;have Agh:=q39.1;have Agi:=q39.2;subst Agh;subst Agi;refine cU [(0,.ref 1000 0),(4,vs p),(5,sl Bj (n0::l)),(6,.slice (.id 6 1) (rs.map CG)),(7,.slice (.id 7 3) (sk.map Cj)),(9,.ref 9 0),(12,vi (o.res:Nat)),(16,sl AJ dec),(17,sl Ab (Aw dec)),(18,vb true),(32,sl AJ cs),(33,vi (cs.map AJ).length),(34,vi i)] [(6,.tok 1 rs.length),(7,.tok 3 sk.length),(9,.ro (AJ cs[i])),(1000,.cells (srM roots C A o.ss o.dec 22200 o.stack.length)),(1001,.tok 6 o.ss.infs.length),(1002,.tok 1 o.ss.drv.length),(1003,.map Fw (Fy 0 o.ss.infs)),(1004,.dead),(22200,.arr 1 (o.stack.map Bc))] Z13 Z9 (Yi (show o.stack.length=(o.stack.map Bc).length by simp) (cU [] [(500,.arr 1 (o.stack.map Bc)),(1000,.cells (srM roots C A o.ss o.dec 500 o.stack.length)),(1001,.tok 6 o.ss.infs.length),(1002,.tok 1 o.ss.drv.length),(1003,.map Fw (Fy 0 o.ss.infs)),(1004,.dead)] Tv Z6 ?_))
    have YL:S.full=false:=by omega
    have eR:R=⟨0,true,o.ss,o.dec,o.stack⟩:=by rw[<-j2];rw[Yq (sk:=sk) n3 YL h6.2 FH Tc ho,Ay wA]
    exact C2 (.refl _) (Oa (gw.trans eR))
   skip
   rw[wA]at ZE;have hrk:=nK.2.2.2 wA;have Ou:o.stack.length=st.length+1:=by simp_all
   refine Xi (.gen cV 1) (Yi rfl (AP.imp ZE ?_));intro v41 g41 q41;have Agj:=q41.1;have Agk:=q41.2;subst Agj;subst Agk;refine cU [(0,.ref 1000 0),(4,vs p),(5,sl Bj (n0::l)),(6,.slice (.id 6 1) (rs.map CG)),(7,.slice (.id 7 3) (sk.map Cj)),(9,.ref 9 0),(12,vi (o.res:Nat)),(16,sl AJ dec),(17,sl Ab (Aw dec)),(18,vb false),(32,sl AJ cs),(33,vi (cs.map AJ).length),(34,vi i)] [(6,.tok 1 rs.length),(7,.tok 3 sk.length),(9,.ro (AJ cs[i])),(1000,.cells (srM roots C A o.ss o.dec 22200 o.stack.length)),(1001,.tok 6 o.ss.infs.length),(1002,.tok 1 o.ss.drv.length),(1003,.map Fw (Fy 0 o.ss.infs)),(1004,.dead),(22200,.arr 1 (o.stack.map Bc))] Z13 Z9 (yN (yN (cU [(0,.ref 1000 0),(4,vs p),(5,sl Bj (n0::l)),(6,.slice (.id 6 1) (rs.map CG)),(7,.slice (.id 7 3) (sk.map Cj)),(9,.ref 9 0),(12,vi (o.res:Nat)),(32,sl AJ cs),(33,vi (cs.map AJ).length),(34,vi i)] [(6,.tok 1 rs.length),(7,.tok 3 sk.length),(9,.ro (AJ cs[i])),(1000,.cells (srM roots C A o.ss dec 22200 o.stack.length)),(1001,.tok 6 o.ss.infs.length),(1002,.tok 1 o.ss.drv.length),(1003,.map Fw (Fy 0 o.ss.infs)),(1004,.dead),(22200,.arr 1 (o.stack.map Bc))] Z10 Z9 (Yi (by show Av ((o.stack.length:Int)-(1:Int));unfold Av;omega) (Yi ⟨(show o.stack.length=(o.stack.map Bc).length by simp),(show(0:Int)<=o.stack.length-1 by omega),(show(o.stack.length-1:Int)<=((o.stack.map Bc).length:Nat) by grind)⟩ (yN (Yi Wk (Yi (show(o.stack.length-1:Int).toNat=(((o.stack.map Bc).take (o.stack.length-1:Int).toNat):C0).length by simp) ?_))))))));have Akp:((o.stack.map Bc).take ((o.stack.length:Int)-1).toNat)=st.map Bc/\((o.stack.length:Int)-1).toNat=st.length:=AaD hrk;refine cU [(0,.ref 1000 0),(4,vs p),(5,sl Bj (n0::l)),(6,.slice (.id 6 1) (rs.map CG)),(7,.slice (.id 7 3) (sk.map Cj)),(9,.ref 9 0),(12,vi (o.res:Nat)),(32,sl AJ cs),(33,vi (cs.map AJ).length),(34,vi i)] [(6,.tok 1 rs.length),(7,.tok 3 sk.length),(9,.ro (AJ cs[i])),(500,.arr 1 (st.map Bc)),(1000,.cells (srM roots C A o.ss dec 500 st.length)),(1001,.tok 6 o.ss.infs.length),(1002,.tok 1 o.ss.drv.length),(1003,.map Fw (Fy 0 o.ss.infs)),(1004,.dead)] Z10 ⟨Zr,Zr,Zr,⟨(show(.arr 1 ((o.stack.map Bc).take (o.stack.length-1:Int).toNat):HO)=.arr 1 (st.map Bc) by simp_all),rfl⟩,⟨(show(.cells (srM roots C A o.ss dec 500 (o.stack.length-1:Int).toNat):HO)=.cells (srM roots C A o.ss dec 500 st.length) by simp_all),rfl⟩,Zr,Zr,Zr,Zr,Tv⟩ ?_
   refine Yi (fun h42=>?_) (fun h42=>?_)
   .have YL:S.full=false:=by omega
    have eR:R=⟨0,false,o.ss,dec,st⟩:=by rw[<-j2];rw[Yq (sk:=sk) n3 YL h6.2 FH Tc ho,Az (by simp_all),Ay h42]
    exact C2 (.refl _) (Oa (gw.trans eR))
   have Uz:o.ss.full=false:=h42;refine cU [(0,.ref 1000 0),(4,vs p),(5,sl Bj (n0::l)),(6,.slice (.id 6 1) (rs.map CG)),(7,.slice (.id 7 3) (sk.map Cj)),(9,.ref 9 0),(12,vi (o.res:Nat)),(32,sl AJ cs),(33,vi (cs.map AJ).length),(34,vi i)] [(6,.tok 1 rs.length),(7,.tok 3 sk.length),(9,.ro (AJ cs[i])),(500,.arr 1 (st.map Bc)),(1000,.cells (srM roots C A o.ss dec 500 st.length)),(1001,.tok 6 o.ss.infs.length),(1002,.tok 1 o.ss.drv.length),(1003,.map Fw (Fy 0 o.ss.infs)),(1004,.dead)] Z10 Z9 (Xi (Dg (Ef o.ss o.res)) (Yi (Yi (show(0:Int)<=((o.res:Nat):Int) by omega) (Ed (EF (hrn.2 wA Uz)))) (Yi rfl ?_)));have YL:S.full=false:=by omega
   have cM:o.res<o.ss.drv.length:=(hrn.2 wA Uz);have gE:=hrs.der.few hx hr;refine AN (Bt (DM (Ef o.ss o.res) p)) (fun z6=>?_) (fun z6=>?_)
   .refine C1 (C2 (cb z6 (qM (Ef o.ss o.res) p (F7 (gE _ (AB (EF cM)))))) (cU [(0,.ref 1000 0),(4,vs p),(5,sl Bj (n0::l)),(6,.slice (.id 6 1) (rs.map CG)),(7,.slice (.id 7 3) (sk.map Cj)),(9,.ref 9 0),(12,vi (o.res:Nat)),(32,sl AJ cs),(33,vi (cs.map AJ).length),(34,vi i)] [(6,.tok 1 rs.length),(7,.tok 3 sk.length),(9,.ro (AJ cs[i])),(500,.arr 1 (st.map Bc)),(1000,.cells (srM roots C A o.ss dec 500 st.length)),(1001,.tok 6 o.ss.infs.length),(1002,.tok 1 o.ss.drv.length),(1003,.map Fw (Fy 0 o.ss.infs)),(1004,.dead)] Z10 Z9 (Yi (cI rfl ch Cl) (Yi (cI rfl ch Cl) (Yi (Ii i ch) ?_)))));have eA:=(Yq (rec:=CL x roots n) (x:=x) (p:=p) (n0:=n0) (st:=st) (rs:=rs) (sk:=sk) n3 YL h6.2 FH Tc ho);rw[Az (by simp_all),Az (by simp_all)]at eA;have eN:DS (CL x roots n) x p (n0::l) n0 dec st (cs.drop (i+1)) o.ss (rs++[o.res]) (sk++[(⟨p,cs[i].place,(o.res:Nat)⟩:Sk)])=R:=by rw[<-X8 (c:=cs[i]) z6,<-eA];exact j2
    refine Xi ⟨(i+1,o.ss,rs++[o.res],sk++[(⟨p,cs[i].place,(o.res:Nat)⟩:Sk)]),Fo n3,eN,hrs,fun r h=>(Bh.1 h).elim ((fun r h=>BY (j4 r h) hrn.1) r) (fun h=>by simp_all),(by simp_all),(by simp_all)⟩ ?_;exact⟨Dl cs.length i ch,⟨Zr,Zr,Zr,⟨(show AV.slice (.id 6 1) (rs.map CG++[[vi ((o.res:Nat):Int)]])=.slice (.id 6 1) ((rs++[o.res]).map CG) by simp_all),rfl⟩,⟨(show AV.slice (.id 7 3) (sk.map Cj++[[vs p,vi cs[i].place,vi ((o.res:Nat):Int)]])=.slice (.id 7 3) ((sk++[(⟨p,cs[i].place,(o.res:Nat)⟩:Sk)]).map Cj) by simp_all),rfl⟩,Zr,Zr,Zr,Tv⟩,⟨⟨(show HO.tok 1 ((rs.map CG).length+([[vi ((o.res:Nat):Int)]]:C0).length)=.tok 1 (rs++[o.res]).length by simp),rfl⟩,⟨(show HO.tok 3 ((sk.map Cj).length+([[vs p,vi cs[i].place,vi ((o.res:Nat):Int)]]:C0).length)=.tok 3 (sk++[(⟨p,cs[i].place,(o.res:Nat)⟩:Sk)]).length by simp),rfl⟩,Zr,Zr,Zr,Zr,Zr,Zr,Tv⟩,Fh,A4 Wk⟩
   refine C1 (C2 (cb z6 (qM (Ef o.ss o.res) p (F7 (gE _ (AB (EF cM)))))) (cU [(12,vi (o.res:Nat))] [(500,.arr 1 (st.map Bc)),(1000,.cells (srM roots C A o.ss dec 500 st.length)),(1001,.tok 6 o.ss.infs.length),(1002,.tok 1 o.ss.drv.length),(1003,.map Fw (Fy 0 o.ss.infs)),(1004,.dead)] Z1 Z6 ?_))
   have eA:=(Yq (rec:=CL x roots n) (x:=x) (p:=p) (n0:=n0) (st:=st) (rs:=rs) (sk:=sk) n3 YL h6.2 FH Tc ho);rw[Az (by simp_all),Az (by simp_all)]at eA;have eR:R=⟨o.res,false,o.ss,dec,st⟩:=by rw[<-j2];rw[eA];exact fP z6
   exact C2 (.refl _) (Oa (gw.trans eR))
  have n3:=B5 h3;refine Xi (Bj n0) (Yi (Yi (show(0:Int)<=0 by decide) rfl) (Yi rfl (yN (Xi (.gen cV 0) (Yi rfl (AP.imp (s91 x roots C A S dec st p n0 rs V hx hr j3 hinf0 j4 ch (hnq n0 (Af ..)) (hnp n0 (Af ..)) hV1 hV2 hV3) ?_))))));intro v49 g49 q49;have Agl:=q49.1;have Agm:=q49.2;subst Agl;subst Agm;have hj:¬i<cs.length:=by omega
  have eR:R=⟨(DG x p n0 rs S).1,false,(DG x p n0 rs S).2,dec,st⟩:=by rw[<-j2];exact ml hj
  exact C2 (.refl _) (Oa (gw.trans eR))
 exact absurd OX hC2
end Go.Eng
