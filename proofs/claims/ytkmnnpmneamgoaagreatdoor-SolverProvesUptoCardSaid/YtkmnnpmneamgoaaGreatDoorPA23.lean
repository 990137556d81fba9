/- Lemmas 23. -/
import Derived.Test.YtkmnnpmneamgoaaGreatDoorPA22
set_option maxHeartbeats 16000000
namespace Go.Eng
open Go.Proofs
variable {k o sz:Nat}(l:List Nd)(n:Nd)
theorem uj{h:Nat->HO}{r:Nat}{cs:List AV}{K:(Nat->HO)->Prop}(c1:h o=.cells cs)(c2:JB cs k=nzA)(c3:h r=.free)(hk:K (AC (AC h r (.var sz 0 0)) o (.cells (EO cs k (.slice (.ver r sz 0) []))))):vE h o k r sz K:=by
 grind [vE]
theorem uz{r0:Nat}{Qh:Cx}{P:Program}{N:Nat}{fn:Func}{σ:HJ}{Q:AV->(Nat->HO)->Prop}{b rest:Code}{st:St}(cs:List AV)(c1:st.h o=.cells cs)(c2:JB cs k=nzA)(c3:st.h r0=.free)(σF σr:HJ)(H0 Hn:List (Nat×HO))(gf:Nat)(caps:List AV){PQ s:Nat}{ps:Array Tmp}{Es body:Code}(hb:b=.block PQ (.rangeFunc (.tmp s) ps Es body))(k1:(D7 σF&&DL (AC (AC st.h r0 (.var sz 0 0)) o (.cells (EO cs k (.slice (.ver r0 sz 0) [])))) 0 0&&CI σF 0 0)=true)(k2:Fo σF (AC (AC st.h r0 (.var sz 0 0)) o (.cells (EO cs k (.slice (.ver r0 sz 0) []))))=Af H0 Ae)(k3:(EU σr&&FJ σr H0)=true)(k4:FJ σr Hn=true)(k5:ren (Cf σF) (AC (AC st.h r0 (.var sz 0 0)) o (.cells (EO cs k (.slice (.ver r0 sz 0) [])))) (st.t s)=.clo gf caps)(k6:∀(l D:Nat) (f' : FuncId) (tm:Array Value),tm.size=N->NA P (fun g w=>w.heap[l]?=some (.loop (Fv f' tm ps Es body D .ready))/\∀i,AY g w (Az (Af H0 Ae)) (ren (Cf σF) (AC (AC st.h r0 (.var sz 0 0)) o (.cells (EO cs k (.slice (.ver r0 sz 0) [])))) (st.t i)) (tm.getD i undef)) σr gf
   (.v (.func (.yield l) #[] #[])::caps) (Af H0 Ae) fun _ h'=>h'=Af Hn Ae)(k7:Dr N rest=true)(k8:M0 Qh rest (Vc Qh fn.results.toList σr fun r h'=>Q (ren (Cf σ) (Ec σF 0 0 (AC (AC st.h r0 (.var sz 0 0)) o (.cells (EO cs k (.slice (.ver r0 sz 0) [])))) h') (ren (Ft σF 0 0) h' r)) (Fo σ (Ec σF 0 0 (AC (AC st.h r0 (.var sz 0 0)) o (.cells (EO cs k (.slice (.ver r0 sz 0) [])))) h')))
   ⟨fun i=>ren (Cf σF) (AC (AC st.h r0 (.var sz 0 0)) o (.cells (EO cs k (.slice (.ver r0 sz 0) [])))) (st.t i),Af Hn Ae⟩)(k9:L5 [] body=false:=by kernel_rfl):zU o k r0 sz Qh P N fn σ Q b rest st:=
 uj c1 c2 c3 ⟨σF,σr,H0,Hn,PQ,s,ps,Es,body,gf,caps,hb,k1,k2,k3,k4,k5,k6,k7,k9,k8⟩
section
variable {roots:List Rq}{C A:List (Value×AV)}{s:SS}{dec:List Cd}{st:List (List Sk)}{n:Nd}
theorem Uk{m:Nat}{p:ByteArray}{o:List Nd}(e:HL roots dec (m+1)=(p,o)){es:List (List AV)}(h1:es=o.map AU)(h2:k=es.length) :
  Af [(1000,.cells (PS roots C A s dec st.length)),(1001,.tok 6 s.infs.length),(1002,.tok 1 s.drv.length),(1003,.map Eh (FP 0 s.infs)),(1004,.arr 1 (st.map A5)),
   (1005,.cells [.ref 1000 0]),(1006,.cells [vs p]),(1007,.cells [.slice (.ver 1008 5 (m+1)) es]),(1008,.var 5 (m+1) k),(1009,.cells [.ref 1000 0])] Ae=Af (ol roots C A s dec st (m+1)) Ae:=by
 grind
theorem mD{a:ByteArray×List Nd}(h:Dv dec n.rq.path=true):Ep dec a n=(a.1,a.2):=by grind [Ep]
theorem qt{o:List Nd}(h:¬(0:Int)<((o.map AU).length:Int)):o=[]:=by
 simp_all
theorem qA{a:ByteArray×List Nd}(h:(0:Int)<((a.2.map AU).length:Int))(hb:Fp a.1 n.rq.path=true):Ep dec a n=(a.1,a.2):=by grind [Ep]
theorem mE{a:ByteArray×List Nd}(hd:Dv dec n.rq.path=false)(_:(0:Int)<((a.2.map AU).length:Int))(hb:Fp a.1 n.rq.path=false)(hs:Fp n.rq.path a.1=true):Ep dec a n=(n.rq.path,[n]):=by
 grind [Ep]
theorem mF{a:ByteArray×List Nd}(hd:Dv dec n.rq.path=false)(hb:Fp a.1 n.rq.path=false)(hs:Fp n.rq.path a.1=false):Ep dec a n=(n.rq.path,a.2++[n]):=by
 grind [Ep]
theorem qC{a:ByteArray×List Nd}(hd:Dv dec n.rq.path=false)(h:¬(0:Int)<((a.2.map AU).length:Int)):Ep dec a n=(n.rq.path,a.2++[n]):=by
 grind [qt,Ep]
theorem qB(a:ByteArray×List Nd)(n:Nd):(Ep dec a n).2.length<=a.2.length+1:=by
 grind [Ep]
theorem d9:∀(m:Nat),(HL roots dec m).2.length<=m
 |0=>Ao _
 |m+1=>by
  have ih:=d9 m
  grind [HL,List.take_add_one,qB]
theorem ay:∀{l l' : List (Nat×HO)},l.map Prod.fst=l'.map Prod.fst->(∀p∈l',p.2≠.free)->∀i,Az (Af l Ae) i->Az (Af l' Ae) i
 | [],[],_,_,_,h=>h
 |(a,o)::l,(a',o')::l',e,h,i,hu=>by
  rw[Bv,Bv]at e
  injection e with e1 e2
  have e1:a=a':=e1;subst e1;unfold Az at *
  by_cases q:i=a
  .grind [Af,Nat.beq_refl,List.mem_cons_self]
  .simp only[Af,CC q,Gf]at hu⊢;exact ay e2 (fun p hp=>h p (Ai _ hp)) i hu
theorem mB(m:Nat):∀i,Az (Af (ol roots C A s dec st 0) Ae) i->Az (Af (ol roots C A s dec st m) Ae) i:=ay rfl (by
 simp_all)
theorem eX:∀{l:List Cd},(∀c∈l,c.rel.reqs.length<=1073741824)->((l.map fun c=>c.rel.reqs.length)).sum<=l.length*1073741824
 | [],_=>by simp
 |c::l,h=>by
  have h1:=h c (Ah ..);have h2:=eX fun c hc=>h c (Ai _ hc)
  grind
theorem iq(hr:roots.length<=1073741824)(hd:dec.length<=1000)(h:∀c∈dec,c.rel.reqs.length<=1073741824):(CY roots dec).length<=1074815565824:=by
 rw[<-ZV]
 grind [FV,eX]
end
theorem ZE:l.map AU++[AU n]=(l++[n]).map AU:=by simp_all
theorem Po:(l.map AU).length+([AU n]:List (List AV)).length=(l.map AU++[AU n]).length:=Ay.symm
attribute [local irreducible] zU vE HL CY Ep
theorem s64(roots:List Rq)(C A:List (Value×AV))(s:SS)(dec:List Cd)(st:List (List Sk))(hr:roots.length<=1073741824)(hd:dec.length<=1000)(rH:∀c∈dec,c.rel.reqs.length<=1073741824) :
  A6 Tryz.prog 64 [.ref 1000 0] (Af (Ie roots C A s dec st) Ae) fun r h'=>r=.tup [vs (D5 roots dec).1,sl AU (D5 roots dec).2]/\h'=Af (Ie roots C A s dec st) Ae:=by
 refine fp 5 0 9 5 (IB De) (IB De) Vv rfl Bz rfl Bz hm rfl rfl Tryz.func64 aa3 rfl (Nz rfl) aa3 rfl 3 (yN (Xi (.gen Vv 1) (Yi rfl (A6.imp (AdI roots C A s dec st) ?_))));intro v1 g1 q1;have cG:=q1.1;have cH:=q1.2;subst cG;subst cH;refine uz [nzA] aa3 aa3 aa3 [(1000,1000),(1001,1001),(1002,1002),(1003,1003),(1004,1004),(10800,1005),(4,1006),(5,1007),(9,1008),(1,1009)] aJ (ol roots C A s dec st 0) (ol roots C A s dec st (CY roots dec).length) 170 [.ref 1005 0] rfl aa3 aa3 aa3 aa3 aa3 (fun l9 D9 f9 tm9 rV=>AdJ l9 roots C A s dec st hr (Bl hd aa2) rH fun m n hn=>jp (σ:=aJ) 1007 0 1008 (IB ⟨[],[(43,5)],[],[],[],[],[],[],[],[(500005,60001007)],[5]⟩) rfl Bz hm rfl rfl rfl rV aa3 aa3 aa3 (mB m) ?_) aa3 ?_
 .have zC:m<(CY roots dec).length:=(Bb.1 hn).1;have hol:=d9 (roots:=roots) (dec:=dec) m;have hnl:=iq hr hd rH;have hF:=mA hn;refine yN (Yi ⟨rfl,rfl⟩ (cU [(1,.ref 1009 0),(4,.ref 1006 0),(5,.ref 1007 0),(6,.ref 6 0)] [(6,.cells (AU n)),(60,.tok 5 ((HL roots dec m).2.map AU).length),(1000,.cells (srM roots C A s dec 1004 st.length)),(1001,.tok 6 s.infs.length),(1002,.tok 1 s.drv.length),(1003,.map Eh (FP 0 s.infs)),(1004,.arr 1 (st.map A5)),(1005,.cells [.ref 1000 0]),(1006,.cells [vs (HL roots dec m).1]),(1007,.cells [.slice (.id 60 5) ((HL roots dec m).2.map AU)]),(1008,.vox m),(1009,.cells [.ref 1000 0])] Z4 Z12 (AA (Bt (Dv dec n.rq.path)) (fun h2=>?_) (fun h2=>?_))))
  .have dK:=(yU roots C A s dec st n.rq.path (Bl hd aa2));rw[show(Dv dec n.rq.path)=true from h2]at dK;refine Xi (.gen Vv 0) (Yi rfl (A6.imp dK ?_));intro v4 g4 q4;have yA:=q4.1;have yB:=q4.2;subst yA;subst yB;refine Yi ⟨rfl,rfl⟩ ?_
   -- [('(Dv dec n.rq.path)=true',True)]
   exact⟨rfl,Uk (hF.trans (mD h2)) rfl rfl⟩
  have dL:=(yU roots C A s dec st n.rq.path (Bl hd aa2));rw[show(Dv dec n.rq.path)=false from h2]at dL;refine Xi (.gen Vv 0) (Yi rfl (A6.imp dL ?_));intro v6 g6 q6;have q6a:=q6.1;have q6b:=q6.2;subst q6a;subst q6b;refine Yi (fun h7=>?_) (fun h7=>?_)
  .have n7:0<(HL roots dec m).2.length:=by simp_all
   refine Yi (fun h8=>?_) (fun h8=>?_)
   .have h8:Fp (HL roots dec m).1 n.rq.path=true:=(Ew _ _).trans h8;refine Yi ⟨rfl,rfl⟩ ?_
    -- [('(Dv dec n.rq.path)=true',False),('(0:Int)<(((HL roots dec m).2.map AU).length:Int)',True),('Fp (HL roots dec m).1 n.rq.path=true',True)]
    exact⟨rfl,Uk (hF.trans (qA h7 h8)) rfl rfl⟩
   have h8:Fp (HL roots dec m).1 n.rq.path=false:=(Ew _ _).trans (A2.2 h8);refine Yi (fun _=>?_) (fun hf=>absurd h7 hf);refine Yi (fun h9=>?_) (fun h9=>?_)
   .have h9:Fp n.rq.path (HL roots dec m).1=true:=(Ew _ _).trans h9;refine yN (yN (yN ?_));have U0:A7 5 [(AU n)]/\([(AU n)]:List (List AV)).length*72<=140737488355328/\([(AU n)]:List (List AV)).length<=9223372036854775807:=⟨⟨rfl,trivial⟩,(by simp_all),(by simp_all)⟩;refine Yi U0 (yN (Yi ⟨rfl,rfl⟩ ?_))
    -- [('(Dv dec n.rq.path)=true',False),('(0:Int)<(((HL roots dec m).2.map AU).length:Int)',True),('Fp (HL roots dec m).1 n.rq.path=true',False),('Fp n.rq.path (HL roots dec m).1=true',True)]
    exact⟨rfl,Uk (hF.trans (mE h2 h7 h8 h9)) rfl rfl⟩
   have h9:Fp n.rq.path (HL roots dec m).1=false:=(Ew _ _).trans (A2.2 h9);refine yN (yN ?_);have jR:A7 5 [(AU n)]/\((HL roots dec m).2.map AU).length=((HL roots dec m).2.map AU).length/\(((HL roots dec m).2.map AU).length+([(AU n)]:List (List AV)).length)*72<=140737488355328/\((HL roots dec m).2.map AU).length+([(AU n)]:List (List AV)).length<=9223372036854775807:=⟨⟨rfl,trivial⟩,rfl,(by grind),(by grind)⟩;refine Yi jR (yN (Yi ⟨(Po _ n).symm,rfl⟩ ?_))
   -- [('(Dv dec n.rq.path)=true',False),('(0:Int)<(((HL roots dec m).2.map AU).length:Int)',True),('Fp (HL roots dec m).1 n.rq.path=true',False),('Fp n.rq.path (HL roots dec m).1=true',False)]
   exact⟨rfl,Uk (hF.trans (mF h2 h8 h9)) (ZE _ n) (Po _ n)⟩
  have n7:¬0<(HL roots dec m).2.length:=by simp_all
  refine Yi (fun hf=>absurd hf h7) (fun _=>?_);refine yN (yN ?_);have uT:A7 5 [(AU n)]/\((HL roots dec m).2.map AU).length=((HL roots dec m).2.map AU).length/\(((HL roots dec m).2.map AU).length+([(AU n)]:List (List AV)).length)*72<=140737488355328/\((HL roots dec m).2.map AU).length+([(AU n)]:List (List AV)).length<=9223372036854775807:=⟨⟨rfl,trivial⟩,rfl,(by simp_all),(by simp_all)⟩;refine Yi uT (yN (Yi ⟨(Po _ n).symm,rfl⟩ ?_))
  -- [('(Dv dec n.rq.path)=true',False),('(0:Int)<(((HL roots dec m).2.map AU).length:Int)',False)]
  exact⟨rfl,Uk (hF.trans (qC h2 h7)) (ZE _ n) (Po _ n)⟩
 refine Yi aa3 ?_;exact Xi _ (Yi (.refl _) ⟨show AV.tup [vs (HL roots dec (CY roots dec).length).1,sl AU (HL roots dec (CY roots dec).length).2]=_ by grind [qz],rfl⟩)
end Go.Eng
namespace Go.Eng
open Go.Proofs
variable {α:Type}(x:List Rl)(roots:List Rq)
theorem gS(pr:α->Bool)(l:List α):(∃(k:Nat) (n:α),KJ pr l 0=(k:Nat)/\l[k]?=some n/\l.find? pr=some n)\/(KJ pr l 0=-1/\l.find? pr=none):=by
 have key:∀(l:List α) (b:Nat),(∃(k:Nat) (n:α),KJ pr l (b:Nat)=((b+k:Nat):Int)/\l[k]?=some n/\l.find? pr=some n)\/(KJ pr l (b:Nat)=-1/\l.find? pr=none):=by
  intro l
  induction l with
  |nil=>intro b;exact .inr Zr
  |cons y l ih=>
   intro b;cases h:pr y with
   |true=>exact .inl ⟨0,y,by unfold KJ;simp_all,rfl,by simp_all⟩
   |false=>
    have e:KJ pr (y::l) (b:Nat)=KJ pr l ((b+1:Nat):Int):=by
     conv=>lhs;unfold KJ
     simp_all
    have e2:(y::l).find? pr=l.find? pr:=by simp_all
    rcases ih (b+1)with ⟨k,n,h1,h2,h3⟩ | ⟨h1,h2⟩
    .exact .inl ⟨k+1,n,by omega,by simp_all,by simp_all⟩
    simp_all
 have:=key l 0
 simp_all
section
variable {rec:List Cd->SS->List (List Sk)->Ku}{x:List Rl}{p:ByteArray}{N:List Nd}{n0:Nd}{dec:List Cd}{st:List (List Sk)}{cs:List Cd}{i:Nat}{S:SS}{rs:List Nat}{sk:List Sk}
theorem j9(h:¬i<cs.length):DR rec x p N n0 dec st (cs.drop i) S rs sk=⟨(Dx x p n0 rs S).1,false,(Dx x p n0 rs S).2,dec,st⟩:=by
 rw[D0 aa0];rfl
theorem oP(h:i<cs.length)(hf:S.full=true):DR rec x p N n0 dec st (cs.drop i) S rs sk=⟨0,false,S,dec,st⟩:=by
 grind [List.drop_eq_getElem_cons,FW]
theorem wC(h:i<cs.length)(hf:S.full=false){n:Nd}(hn:N.find? (fun n=>!has n.rq.set cs[i].place)=some n):DR rec x p N n0 dec st (cs.drop i) S rs sk=DR rec x p N n0 dec st (cs.drop (i+1)) (By S n).2 (rs++[(By S n).1]) sk:=by
 grind [List.drop_eq_getElem_cons,FW]
theorem W7(h:i<cs.length)(hf:S.full=false)(hn:N.find? (fun n=>!has n.rq.set cs[i].place)=none){k:Nat}(he:N2 S.drv (Au (dec++[cs[i]]))=some k):DR rec x p N n0 dec st (cs.drop i) S rs sk=Ix rec x p N n0 dec st cs[i] (cs.drop (i+1)) rs sk k S:=by
 grind [List.drop_eq_getElem_cons,FW]
theorem Yt(h:i<cs.length)(hf:S.full=false)(hn:N.find? (fun n=>!has n.rq.set cs[i].place)=none)(he:N2 S.drv (Au (dec++[cs[i]]))=none){n:Nd}(hc:Dq dec cs[i]=some n) :
  DR rec x p N n0 dec st (cs.drop i) S rs sk=Ix rec x p N n0 dec st cs[i] (cs.drop (i+1)) rs sk (By S n).1 (By S n).2:=by
 grind [List.drop_eq_getElem_cons,FW]
theorem W8(h:i<cs.length)(hf:S.full=false)(hn:N.find? (fun n=>!has n.rq.set cs[i].place)=none)(he:N2 S.drv (Au (dec++[cs[i]]))=none)(hc:Dq dec cs[i]=none){o:Ku}(ho:o=rec (dec++[cs[i]]) S (st++[sk])) :
  DR rec x p N n0 dec st (cs.drop i) S rs sk=if o.found=true then⟨0,true,o.ss,o.dec,o.stack⟩else if o.ss.full=true then⟨0,false,o.ss,dec,st⟩else Ix rec x p N n0 dec st cs[i] (cs.drop (i+1)) rs sk o.res o.ss:=by
 grind [List.drop_eq_getElem_cons,FW]
theorem db{c:Cd}{l:List Cd}{k:Nat}(h:DC (Em S k) p=false):Ix rec x p N n0 dec st c l rs sk k S=⟨k,false,S,dec,st⟩:=by grind [Ix]
theorem WV{c:Cd}{l:List Cd}{k:Nat}(h:DC (Em S k) p=true):Ix rec x p N n0 dec st c l rs sk k S=DR rec x p N n0 dec st l S (rs++[k]) (sk++[⟨p,c.place,(k:Nat)⟩]):=by grind [Ix]
end
theorem OZ{x:List Rl}{dec:List Cd}(h:Dp x dec):dec.length<=x.length:=by
 have h1:=CM (m:=x.map (·.path)) h.nodup fun p hp=>by
  grind [Dp.cand]
 simp_all
theorem Qb(p:ByteArray):(Be x p).length<=x.length:=by
 grind [Be]
theorem XL(o:Option α):(∃x,o=some x)\/o=none:=by
 cases o<;>simp_all
theorem xY{T st:List (List Sk)}{sk:List Sk}(h:T=st++[sk]):((T.map A5).take ((T.length:Int)-1).toNat)=st.map A5/\((T.length:Int)-1).toNat=st.length:=by
 simp_all
abbrev HV(A:List (Value×AV))(p:ByteArray)(V:AV):Prop:=(∀a,(Value.string p,a)∈A->a=V)/\((∀a,(Value.string p,a)∉A)->V=nzA)/\∀h,PC 137 [vs p,str h V] (sl Ad (D6 p (A4 x p)))
abbrev jD(n:Nd):Prop:=∀d,AM x roots d (Pl n)=some (Ik n)
structure zS(x:List Rl)(roots:List Rq)(C A:List (Value×AV))(n:Nat)(dec:List Cd)(p:ByteArray)(n0:Nd)(l:List Nd)(V:AV)(cs:List Cd):Prop where
 hx:Av x=0
 hr:AL roots=0
 hdl:dec.length<=256
 hcl:cs.length<=256
 hcs:cs=Be x p
 hnl:(n0::l).length<9223372036854775807
 hnq:∀n∈n0::l,BL n.rq.set
 hnp:∀n∈n0::l,As (n.place+1)
 hex:∀(i:Nat) (h:i<cs.length),∀nd∈n0::l,has nd.rq.set cs[i].place=false->jD x roots nd/\True
 hcx:∀(i:Nat) (h:i<cs.length) (nc:Nd),Dq dec cs[i]=some nc->jD x roots nc/\True
 hcq:∀(i:Nat) (h:i<cs.length) (nc:Nd),nc∈QI cs[i]->BL nc.rq.set
 hcp_:∀(i:Nat) (h:i<cs.length) (nc:Nd),nc∈QI cs[i]->As (nc.place+1)
 hcr:∀(i:Nat) (h:i<cs.length),cs[i].rel.reqs.length<=1073741824
 hcs_:∀(i:Nat) (h:i<cs.length),∀q∈cs[i].rel.reqs,BL q.set
 hkey:∀(i:Nat) (h:i<cs.length),(Au dec).map Ag++[[vs p,vi cs[i].rel.ver.a,vi cs[i].rel.ver.b,vi cs[i].rel.ver.c]]=(Au (dec++[cs[i]])).map Ag
 hinf0:jD x roots n0
 hV:HV x A p V
 ih:∀c∈Be x p,ZX dec (n0::l) c=true->∀(S:SS) (EA : List (List Sk)),EA.length=dec.length+1->K6 x roots S->S.full=false ->
  A6 Tryz.prog 45 [.ref 1000 0] (Af (Ie roots C A S (dec++[c]) EA) Ae) (aM roots C A (Cz x roots n (dec++[c]) S EA))/\K6 x roots (Cz x roots n (dec++[c]) S EA).ss /\
  (S.drv.length<=(Cz x roots n (dec++[c]) S EA).ss.drv.length/\((Cz x roots n (dec++[c]) S EA).found=false->(Cz x roots n (dec++[c]) S EA).ss.full=false->(Cz x roots n (dec++[c]) S EA).res<(Cz x roots n (dec++[c]) S EA).ss.drv.length)) /\
  ((Cz x roots n (dec++[c]) S EA).found=false->(Cz x roots n (dec++[c]) S EA).stack=EA)
theorem AdL(C A:List (Value×AV))(n:Nat)(s:SS)(dec:List Cd)(st:List (List Sk))(p:ByteArray)(n0:Nd)(l:List Nd)(V:AV)(cs:List Cd)(R O:Ku)(hL:zS x roots C A n dec p n0 l V cs)(hs:K6 x roots s)(Gw:st.length=dec.length)(IR:A6 Tryz.prog 64 [.ref 1000 0] (Af (Ie roots C A s dec st) Ae) fun r h'=>r=.tup [vs p,sl AU (n0::l)]/\h'=Af (Ie roots C A s dec st) Ae)(hC1:∀a,(Value.string p,a)∈C->a=sl At cs)(tf:¬∀a,(Value.string p,a)∉C)(hR:DR (Cz x roots n) x p (n0::l) n0 dec st cs s [] []=R)(dH:O=R) :
  A6 Tryz.prog 45 [.ref 1000 0] (Af (Ie roots C A s dec st) Ae) (aM roots C A O):=by
 obtain⟨hx,hr,hdl,hcl,hcs,hnl,hnq,hnp,hex,hcx,hcq,hcp_,hcr,hcs_,hkey,hinf0,⟨w8,w9,xa⟩,ih⟩:=hL;have rG:∀(i:Nat) (h:i<cs.length),cs[i]∈Be x p:=fun i h=>by simp_all
 have lD:∀(i:Nat) (h:i<cs.length),BL (Au (dec++[cs[i]])):=fun i h=>by grind
 clear hcs
 refine Bi (IB ⟨[9],[(6,1),(7,3),(145,1)],[],[],[],[],[],[],[(60,3),(101,3)],[(300001,500091000),(300026,500091000),(300029,500091000)],[1,5,12,15,17,21,23,24,25,26,28,29,31,32,33]⟩) [(1000,1000),(1001,1001),(1002,1002),(1003,1003),(1004,1004),(500,2000)] rfl Bz hm rfl Tryz.func45 aa3 rfl (Nz rfl) aa3 rfl (Yi (show st.length=(st.map A5).length by simp) (cU [(0,.ref 1000 0)] [(500,.arr 1 (st.map A5)),(1000,.cells (srM roots C A s dec 500 st.length)),(1001,.tok 6 s.infs.length),(1002,.tok 1 s.drv.length),(1003,.map Eh (FP 0 s.infs)),(1004,.dead)] Z1 Z6 (Xi (.gen aK 0) (Yi rfl (A6.imp IR ?_)))));intro v1 g1 q1;have cG:=q1.1;have cH:=q1.2;subst cG;subst cH;refine Yi (fun h2=>?_) (fun h2=>?_)
 .exact absurd h2 (by grind)
 refine cU [(0,.ref 1000 0),(4,vs p),(5,sl AU (n0::l)),(6,.slice (.id 6 1) [])] [(6,.tok 1 0),(500,.arr 1 (st.map A5)),(1000,.cells (srM roots C A s dec 500 st.length)),(1001,.tok 6 s.infs.length),(1002,.tok 1 s.drv.length),(1003,.map Eh (FP 0 s.infs)),(1004,.dead)] Z4 Z7 (Yi (fun a ha=>?_) (fun Me=>?_))
 .have ea:=hC1 a ha;subst ea;refine Xi {q:Nat×SS×List Nat×List Sk // q.1<=cs.length/\DR (Cz x roots n) x p (n0::l) n0 dec st (cs.drop q.1) q.2.1 q.2.2.1 q.2.2.2=R/\K6 x roots q.2.1/\(∀r∈q.2.2.1,r<q.2.1.drv.length)/\q.2.2.1.length<=q.1/\q.2.2.2.length<=q.1} (Xi (fun q=>⟨[(0,.ref 1000 0),(4,vs p),(5,sl AU (n0::l)),(6,.slice (.id 6 1) (q.1.2.2.1.map Cs)),(7,.slice (.id 7 3) (q.1.2.2.2.map AN)),(32,sl At cs),(33,vi (cs.map At).length),(34,vi q.1.1)],[(6,.tok 1 q.1.2.2.1.length),(7,.tok 3 q.1.2.2.2.length),(500,.arr 1 (st.map A5)),(1000,.cells (srM roots C A q.1.2.1 dec 500 st.length)),(1001,.tok 6 q.1.2.1.infs.length),(1002,.tok 1 q.1.2.1.drv.length),(1003,.map Eh (FP 0 q.1.2.1.infs)),(1004,.dead)],Ae⟩) (Xi (fun q=>cs.length-q.1.1) (Yi (Xi ⟨(0,s,[],[]),Ap _,hR,hs,fun r h=>(by cases h),Ao _,Ao _⟩ ?_) ?_)))
  .exact⟨Z8,Z8,Fh,Bg aa3⟩
  intro⟨⟨i,S,rs,sk⟩,j1,j2,j3,j4,j5,j6⟩;have j5:rs.length<=i:=j5;have j6:sk.length<=i:=j6;have hw:=j3.dl;have vl:∀t∈S.drv,PT t:=fun t ht=>by have q:=j3.der.few hx hr t ht;grind
  refine Yi (fun h3=>?_) (fun h3=>?_)
  .have h3:(i:Int)<((cs.map At).length:Int):=h3;have n3:=Ok h3;refine Xi (At cs[i]) (Yi (TZ n3) (Yi rfl (yN (yN (Yi (fun h4=>?_) (fun h4=>?_))))))
   .have eR:R=⟨0,false,S,dec,st⟩:=by rw[<-j2];exact oP n3 h4
    exact Xi _ (Yi (.refl _) (NT (dH.trans eR)))
   have bH:=s86 (fF:=87) (caps:=[.cptr (At cs[i])]) (fun c hc=>by obtain rfl:=AD.1 hc;intro h;rfl) (n0::l) (fun n=>!has n.rq.set cs[i].place) (fun n hn=>s87 n cs[i] (hnq n hn)) hnl;refine AA (gS (fun n=>!has n.rq.set cs[i].place) (n0::l)) (fun h6=>?_) (fun h6=>?_)
   .refine Al h6 (fun k86 h6=>Al h6 (fun nd h6=>?_));rw[h6.1]at bH;refine Xi .pure (Xi _ (Yi bH (cU [(0,.ref 1000 0),(4,vs p),(5,sl AU (n0::l)),(6,.slice (.id 6 1) (rs.map Cs)),(7,.slice (.id 7 3) (sk.map AN)),(9,.ref 9 0),(10,vi (k86:Nat)),(32,sl At cs),(33,vi (cs.map At).length),(34,vi i)] [(6,.tok 1 rs.length),(7,.tok 3 sk.length),(9,.ro (At cs[i])),(500,.arr 1 (st.map A5)),(1000,.cells (srM roots C A S dec 500 st.length)),(1001,.tok 6 S.infs.length),(1002,.tok 1 S.drv.length),(1003,.map Eh (FP 0 S.infs)),(1004,.dead)] Z10 Z9 (Yi (fun _=>?_) (fun hf=>absurd (show(0:Int)<=((k86:Nat):Int) by omega) hf)))));refine Xi (AU nd) (Yi (Yi (show(0:Int)<=((k86:Nat):Int) by omega) (Bk h6.2.1)) (Yi rfl (yN ?_)));have tA:=hex i n3 nd (Bn h6.2.2) (by grind);obtain⟨b1,b2,b3⟩:=j3.add (tA.1 S.drv)
    change K6 x roots (By S nd).2 at b1
    change (By S nd).1<(By S nd).2.drv.length at b2
    change S.drv.length<=(By S nd).2.drv.length at b3
    refine Xi (.gen aK 0) (Yi rfl (A6.imp (s88 roots C A S dec st nd hw.1 hw.2.1 j3.nodup (hnq nd (Ax h6.2.1)) (hnp nd (Ax h6.2.1))) ?_));intro v7 g7 q7;have q7a:=q7.1;have q7b:=q7.2;subst q7a;subst q7b;refine Yi (js rfl aa0 aa2) (Yi (Ii i aa0) ?_);have Y1:S.full=false:=by omega
    have eN:DR (Cz x roots n) x p (n0::l) n0 dec st (cs.drop (i+1)) (By S nd).2 (rs++[(By S nd).1]) sk=R:=by rw[<-wC n3 Y1 h6.2.2];exact j2
    refine Xi ⟨(i+1,(By S nd).2,rs++[(By S nd).1],sk),DB n3,eN,b1,fun r h=>(Bc.1 h).elim (fun h=>Cp (j4 r h) b3) (fun h=>by simp_all),(by simp_all),Nat.le_succ_of_le j6⟩ ?_;exact⟨Dl cs.length i aa0,⟨Zr,Zr,Zr,⟨(show AV.slice (.id 6 1) (rs.map Cs++[[vi (((By S nd).1:Nat):Int)]])=.slice (.id 6 1) ((rs++[(By S nd).1]).map Cs) by simp_all),rfl⟩,Zr,Zr,Zr,Zr,Tv⟩,⟨⟨(show HO.tok 1 ((rs.map Cs).length+([[vi (((By S nd).1:Nat):Int)]]:List (List AV)).length)=.tok 1 (rs++[(By S nd).1]).length by simp),rfl⟩,Zr,Zr,Zr,Zr,Zr,Zr,Zr,Tv⟩,Fh,Bg aa3⟩
   skip
   rw[h6.1]at bH;refine Xi .pure (Xi _ (Yi bH (cU [(0,.ref 1000 0),(4,vs p),(5,sl AU (n0::l)),(6,.slice (.id 6 1) (rs.map Cs)),(7,.slice (.id 7 3) (sk.map AN)),(9,.ref 9 0),(10,vi (-1)),(32,sl At cs),(33,vi (cs.map At).length),(34,vi i)] [(6,.tok 1 rs.length),(7,.tok 3 sk.length),(9,.ro (At cs[i])),(500,.arr 1 (st.map A5)),(1000,.cells (srM roots C A S dec 500 st.length)),(1001,.tok 6 S.infs.length),(1002,.tok 1 S.drv.length),(1003,.map Eh (FP 0 S.infs)),(1004,.dead)] Z10 Z9 (Yi (fun h=>absurd h aa2) (fun _=>?_)))));refine Xi _ (Xi _ (Yi aa3 (Yi (sT (Au dec) (by grind)) (yN ?_))));have U0:A7 4 [[vs p,vi cs[i].rel.ver.a,vi cs[i].rel.ver.b,vi cs[i].rel.ver.c]]/\((Au dec).map Ag).length=((Au dec).map Ag).length/\(((Au dec).map Ag).length+([[vs p,vi cs[i].rel.ver.a,vi cs[i].rel.ver.b,vi cs[i].rel.ver.c]]:List (List AV)).length)*40<=140737488355328/\((Au dec).map Ag).length+([[vs p,vi cs[i].rel.ver.a,vi cs[i].rel.ver.b,vi cs[i].rel.ver.c]]:List (List AV)).length<=9223372036854775807:=⟨⟨rfl,trivial⟩,rfl,(by grind),(by grind)⟩;refine Yi U0 (Yi aa3 (cU [(0,.ref 1000 0),(4,vs p),(5,sl AU (n0::l)),(6,.slice (.id 6 1) (rs.map Cs)),(7,.slice (.id 7 3) (sk.map AN)),(9,.ref 9 0),(11,.slice (.id 16000 4) ((Au (dec++[cs[i]])).map Ag)),(32,sl At cs),(33,vi (cs.map At).length),(34,vi i)] [(6,.tok 1 rs.length),(7,.tok 3 sk.length),(9,.ro (At cs[i])),(500,.arr 1 (st.map A5)),(1000,.cells (srM roots C A S dec 500 st.length)),(1001,.tok 6 S.infs.length),(1002,.tok 1 S.drv.length),(1003,.map Eh (FP 0 S.infs)),(1004,.dead),(16000,.tok 4 ((Au (dec++[cs[i]])).map Ag).length)] ⟨Zr,Zr,Zr,Zr,Zr,Zr,⟨(show(.slice (.id 16000 4) (((Au dec).map Ag)++[[vs p,vi cs[i].rel.ver.a,vi cs[i].rel.ver.b,vi cs[i].rel.ver.c]]):AV)=.slice (.id 16000 4) ((Au (dec++[cs[i]])).map Ag) by grind),rfl⟩,Zr,Zr,Zr,Tv⟩ ⟨Zr,Zr,Zr,Zr,Zr,Zr,Zr,Zr,Zr,⟨(show(.tok 4 (((Au dec).map Ag).length+([[vs p,vi cs[i].rel.ver.a,vi cs[i].rel.ver.b,vi cs[i].rel.ver.c]]:List (List AV)).length):HO)=.tok 4 ((Au (dec++[cs[i]])).map Ag).length by simp_all),rfl⟩,Tv⟩ ?_))
   have Lo:=s89 roots C A S dec st (Au (dec++[cs[i]])) hw.2.2 vl (lD i n3);refine AA (XL (N2 S.drv (Au (dec++[cs[i]])))) (fun Jr=>?_) (fun Jr=>?_)
   .refine Al Jr (fun ke Jr=>?_);have eV:kw S.drv (Au (dec++[cs[i]]))=.tup [vi (ke:Nat),vb true]:=by simp_all
    rw[eV]at Lo;refine Xi (.gen aK 0) (Yi rfl (A6.imp Lo ?_));intro v12 g12 LB;have cD:=LB.1;have cE:=LB.2;subst cD;subst cE;refine yN ?_;have Pg:=s69 roots C A S dec st cs[i] aa0 (hcr i n3) (hcs_ i n3);refine AA (XL (Dq dec cs[i])) (fun Nx=>?_) (fun Nx=>?_)
    .refine Al Nx (fun nc Nx=>?_);have eW:oV (Dq dec cs[i])=.tup [.agg (AU nc),vb true]:=by rw[Nx];rfl
     rw[eW]at Pg;refine Xi (.gen aK 0) (Yi rfl (A6.imp Pg ?_));intro v14 g14 q14;have Ad5:=q14.1;have Ad6:=q14.2;subst Ad5;subst Ad6;refine yN (cU [(0,.ref 1000 0),(4,vs p),(5,sl AU (n0::l)),(6,.slice (.id 6 1) (rs.map Cs)),(7,.slice (.id 7 3) (sk.map AN)),(9,.ref 9 0),(11,.slice (.id 16000 4) ((Au (dec++[cs[i]])).map Ag)),(12,vi (ke:Nat)),(13,vb true),(14,.ref 14 0),(15,vb true),(32,sl At cs),(33,vi (cs.map At).length),(34,vi i)] [(6,.tok 1 rs.length),(7,.tok 3 sk.length),(9,.ro (At cs[i])),(14,.cells (AU nc)),(500,.arr 1 (st.map A5)),(1000,.cells (srM roots C A S dec 500 st.length)),(1001,.tok 6 S.infs.length),(1002,.tok 1 S.drv.length),(1003,.map Eh (FP 0 S.infs)),(1004,.dead),(16000,.tok 4 ((Au (dec++[cs[i]])).map Ag).length)] ⟨Zr,Zr,Zr,Zr,Zr,Zr,Zr,Zr,Zr,Zr,Zr,Zr,Zr,Zr,Tv⟩ Z11 (cU [(0,.ref 1000 0),(4,vs p),(5,sl AU (n0::l)),(6,.slice (.id 6 1) (rs.map Cs)),(7,.slice (.id 7 3) (sk.map AN)),(9,.ref 9 0),(12,vi (ke:Nat)),(32,sl At cs),(33,vi (cs.map At).length),(34,vi i)] [(6,.tok 1 rs.length),(7,.tok 3 sk.length),(9,.ro (At cs[i])),(500,.arr 1 (st.map A5)),(1000,.cells (srM roots C A S dec 500 st.length)),(1001,.tok 6 S.infs.length),(1002,.tok 1 S.drv.length),(1003,.map Eh (FP 0 S.infs)),(1004,.dead)] Z10 Z9 (Xi (Aq (Em S ke)) (Yi (Yi (show(0:Int)<=((ke:Nat):Int) by omega) (Bk (Fg (KC Jr).1))) (Yi rfl ?_)))));have Y1:S.full=false:=by omega
     have aD:ke<S.drv.length:=(KC Jr).1;have Y4:=j3.der.few hx hr;refine AA (Bt (DC (Em S ke) p)) (fun L7=>?_) (fun L7=>?_)
     .refine Xi .pure (Xi _ (Yi (cb L7 (om (Em S ke) p (Gn (Y4 _ (Ax (Fg aD)))))) (cU [(0,.ref 1000 0),(4,vs p),(5,sl AU (n0::l)),(6,.slice (.id 6 1) (rs.map Cs)),(7,.slice (.id 7 3) (sk.map AN)),(9,.ref 9 0),(12,vi (ke:Nat)),(32,sl At cs),(33,vi (cs.map At).length),(34,vi i)] [(6,.tok 1 rs.length),(7,.tok 3 sk.length),(9,.ro (At cs[i])),(500,.arr 1 (st.map A5)),(1000,.cells (srM roots C A S dec 500 st.length)),(1001,.tok 6 S.infs.length),(1002,.tok 1 S.drv.length),(1003,.map Eh (FP 0 S.infs)),(1004,.dead)] Z10 Z9 (Yi (js rfl aa0 aa2) (Yi (js rfl aa0 aa2) (Yi (Ii i aa0) ?_))))));have eA:=(W7 (rec:=Cz x roots n) (x:=x) (p:=p) (n0:=n0) (st:=st) (rs:=rs) (sk:=sk) n3 Y1 h6.2 Jr);have eN:DR (Cz x roots n) x p (n0::l) n0 dec st (cs.drop (i+1)) S (rs++[ke]) (sk++[(⟨p,cs[i].place,(ke:Nat)⟩:Sk)])=R:=by rw[<-WV (c:=cs[i]) L7,<-eA];exact j2
      refine Xi ⟨(i+1,S,rs++[ke],sk++[(⟨p,cs[i].place,(ke:Nat)⟩:Sk)]),DB n3,eN,j3,fun r h=>(Bc.1 h).elim ((fun r h=>j4 r h) r) (fun h=>by simp_all),(by simp_all),(by simp_all)⟩ ?_;exact⟨Dl cs.length i aa0,⟨Zr,Zr,Zr,⟨(show AV.slice (.id 6 1) (rs.map Cs++[[vi ((ke:Nat):Int)]])=.slice (.id 6 1) ((rs++[ke]).map Cs) by simp_all),rfl⟩,⟨(show AV.slice (.id 7 3) (sk.map AN++[[vs p,vi cs[i].place,vi ((ke:Nat):Int)]])=.slice (.id 7 3) ((sk++[(⟨p,cs[i].place,(ke:Nat)⟩:Sk)]).map AN) by simp_all),rfl⟩,Zr,Zr,Zr,Tv⟩,⟨⟨(show HO.tok 1 ((rs.map Cs).length+([[vi ((ke:Nat):Int)]]:List (List AV)).length)=.tok 1 (rs++[ke]).length by simp),rfl⟩,⟨(show HO.tok 3 ((sk.map AN).length+([[vs p,vi cs[i].place,vi ((ke:Nat):Int)]]:List (List AV)).length)=.tok 3 (sk++[(⟨p,cs[i].place,(ke:Nat)⟩:Sk)]).length by simp),rfl⟩,Zr,Zr,Zr,Zr,Zr,Zr,Tv⟩,Fh,Bg aa3⟩
     refine Xi .pure (Xi _ (Yi (cb L7 (om (Em S ke) p (Gn (Y4 _ (Ax (Fg aD)))))) (cU [(12,vi (ke:Nat))] [(500,.arr 1 (st.map A5)),(1000,.cells (srM roots C A S dec 500 st.length)),(1001,.tok 6 S.infs.length),(1002,.tok 1 S.drv.length),(1003,.map Eh (FP 0 S.infs)),(1004,.dead)] Z1 Z6 ?_)))
     have eA:=(W7 (rec:=Cz x roots n) (x:=x) (p:=p) (n0:=n0) (st:=st) (rs:=rs) (sk:=sk) n3 Y1 h6.2 Jr);have eR:R=⟨ke,false,S,dec,st⟩:=by rw[<-j2];rw[eA];exact db L7
     exact Xi _ (Yi (.refl _) (NT (dH.trans eR)))
    skip
    have eW:oV (Dq dec cs[i])=.tup [.agg [vs ⟨#[]⟩,nzA,vs ⟨#[]⟩,vi 0,vi 0],vb false]:=by rw[Nx];rfl
    rw[eW]at Pg;refine Xi (.gen aK 0) (Yi rfl (A6.imp Pg ?_));intro v20 g20 q20;have Ad7:=q20.1;have Ad8:=q20.2;subst Ad7;subst Ad8;refine yN (cU [(0,.ref 1000 0),(4,vs p),(5,sl AU (n0::l)),(6,.slice (.id 6 1) (rs.map Cs)),(7,.slice (.id 7 3) (sk.map AN)),(9,.ref 9 0),(11,.slice (.id 16000 4) ((Au (dec++[cs[i]])).map Ag)),(12,vi (ke:Nat)),(13,vb true),(14,.ref 14 0),(15,vb false),(32,sl At cs),(33,vi (cs.map At).length),(34,vi i)] [(6,.tok 1 rs.length),(7,.tok 3 sk.length),(9,.ro (At cs[i])),(14,.cells [vs ⟨#[]⟩,nzA,vs ⟨#[]⟩,vi 0,vi 0]),(500,.arr 1 (st.map A5)),(1000,.cells (srM roots C A S dec 500 st.length)),(1001,.tok 6 S.infs.length),(1002,.tok 1 S.drv.length),(1003,.map Eh (FP 0 S.infs)),(1004,.dead),(16000,.tok 4 ((Au (dec++[cs[i]])).map Ag).length)] ⟨Zr,Zr,Zr,Zr,Zr,Zr,Zr,Zr,Zr,Zr,Zr,Zr,Zr,Zr,Tv⟩ Z11 (cU [(0,.ref 1000 0),(4,vs p),(5,sl AU (n0::l)),(6,.slice (.id 6 1) (rs.map Cs)),(7,.slice (.id 7 3) (sk.map AN)),(9,.ref 9 0),(12,vi (ke:Nat)),(32,sl At cs),(33,vi (cs.map At).length),(34,vi i)] [(6,.tok 1 rs.length),(7,.tok 3 sk.length),(9,.ro (At cs[i])),(500,.arr 1 (st.map A5)),(1000,.cells (srM roots C A S dec 500 st.length)),(1001,.tok 6 S.infs.length),(1002,.tok 1 S.drv.length),(1003,.map Eh (FP 0 S.infs)),(1004,.dead)] Z10 Z9 (Xi (Aq (Em S ke)) (Yi (Yi (show(0:Int)<=((ke:Nat):Int) by omega) (Bk (Fg (KC Jr).1))) (Yi rfl ?_)))));have Y1:S.full=false:=by omega
    have aD:ke<S.drv.length:=(KC Jr).1;have Y4:=j3.der.few hx hr;refine AA (Bt (DC (Em S ke) p)) (fun OG=>?_) (fun OG=>?_)
    .refine Xi .pure (Xi _ (Yi (cb OG (om (Em S ke) p (Gn (Y4 _ (Ax (Fg aD)))))) (cU [(0,.ref 1000 0),(4,vs p),(5,sl AU (n0::l)),(6,.slice (.id 6 1) (rs.map Cs)),(7,.slice (.id 7 3) (sk.map AN)),(9,.ref 9 0),(12,vi (ke:Nat)),(32,sl At cs),(33,vi (cs.map At).length),(34,vi i)] [(6,.tok 1 rs.length),(7,.tok 3 sk.length),(9,.ro (At cs[i])),(500,.arr 1 (st.map A5)),(1000,.cells (srM roots C A S dec 500 st.length)),(1001,.tok 6 S.infs.length),(1002,.tok 1 S.drv.length),(1003,.map Eh (FP 0 S.infs)),(1004,.dead)] Z10 Z9 (Yi (js rfl aa0 aa2) (Yi (js rfl aa0 aa2) (Yi (Ii i aa0) ?_))))));have eA:=(W7 (rec:=Cz x roots n) (x:=x) (p:=p) (n0:=n0) (st:=st) (rs:=rs) (sk:=sk) n3 Y1 h6.2 Jr);have eN:DR (Cz x roots n) x p (n0::l) n0 dec st (cs.drop (i+1)) S (rs++[ke]) (sk++[(⟨p,cs[i].place,(ke:Nat)⟩:Sk)])=R:=by rw[<-WV (c:=cs[i]) OG,<-eA];exact j2
     refine Xi ⟨(i+1,S,rs++[ke],sk++[(⟨p,cs[i].place,(ke:Nat)⟩:Sk)]),DB n3,eN,j3,fun r h=>(Bc.1 h).elim ((fun r h=>j4 r h) r) (fun h=>by simp_all),(by simp_all),(by simp_all)⟩ ?_;exact⟨Dl cs.length i aa0,⟨Zr,Zr,Zr,⟨(show AV.slice (.id 6 1) (rs.map Cs++[[vi ((ke:Nat):Int)]])=.slice (.id 6 1) ((rs++[ke]).map Cs) by simp_all),rfl⟩,⟨(show AV.slice (.id 7 3) (sk.map AN++[[vs p,vi cs[i].place,vi ((ke:Nat):Int)]])=.slice (.id 7 3) ((sk++[(⟨p,cs[i].place,(ke:Nat)⟩:Sk)]).map AN) by simp_all),rfl⟩,Zr,Zr,Zr,Tv⟩,⟨⟨(show HO.tok 1 ((rs.map Cs).length+([[vi ((ke:Nat):Int)]]:List (List AV)).length)=.tok 1 (rs++[ke]).length by simp),rfl⟩,⟨(show HO.tok 3 ((sk.map AN).length+([[vs p,vi cs[i].place,vi ((ke:Nat):Int)]]:List (List AV)).length)=.tok 3 (sk++[(⟨p,cs[i].place,(ke:Nat)⟩:Sk)]).length by simp),rfl⟩,Zr,Zr,Zr,Zr,Zr,Zr,Tv⟩,Fh,Bg aa3⟩
    refine Xi .pure (Xi _ (Yi (cb OG (om (Em S ke) p (Gn (Y4 _ (Ax (Fg aD)))))) (cU [(12,vi (ke:Nat))] [(500,.arr 1 (st.map A5)),(1000,.cells (srM roots C A S dec 500 st.length)),(1001,.tok 6 S.infs.length),(1002,.tok 1 S.drv.length),(1003,.map Eh (FP 0 S.infs)),(1004,.dead)] Z1 Z6 ?_)))
    have eA:=(W7 (rec:=Cz x roots n) (x:=x) (p:=p) (n0:=n0) (st:=st) (rs:=rs) (sk:=sk) n3 Y1 h6.2 Jr);have eR:R=⟨ke,false,S,dec,st⟩:=by rw[<-j2];rw[eA];exact db OG
    exact Xi _ (Yi (.refl _) (NT (dH.trans eR)))
   skip
   have eV:kw S.drv (Au (dec++[cs[i]]))=.tup [vi 0,vb false]:=by simp_all
   rw[eV]at Lo;refine Xi (.gen aK 0) (Yi rfl (A6.imp Lo ?_));intro v26 g26 q26;have Ad9:=q26.1;have Ada:=q26.2;subst Ad9;subst Ada;refine yN ?_;have Pg:=s69 roots C A S dec st cs[i] aa0 (hcr i n3) (hcs_ i n3);refine AA (XL (Dq dec cs[i])) (fun Qp=>?_) (fun Qp=>?_)
   .refine Al Qp (fun nc Qp=>?_);have eW:oV (Dq dec cs[i])=.tup [.agg (AU nc),vb true]:=by rw[Qp];rfl
    rw[eW]at Pg;refine Xi (.gen aK 0) (Yi rfl (A6.imp Pg ?_));intro v28 g28 q28;have Adb:=q28.1;have Adc:=q28.2;subst Adb;subst Adc;refine yN (cU [(0,.ref 1000 0),(4,vs p),(5,sl AU (n0::l)),(6,.slice (.id 6 1) (rs.map Cs)),(7,.slice (.id 7 3) (sk.map AN)),(9,.ref 9 0),(11,.slice (.id 16000 4) ((Au (dec++[cs[i]])).map Ag)),(12,vi 0),(13,vb false),(14,.ref 14 0),(15,vb true),(32,sl At cs),(33,vi (cs.map At).length),(34,vi i)] [(6,.tok 1 rs.length),(7,.tok 3 sk.length),(9,.ro (At cs[i])),(14,.cells (AU nc)),(500,.arr 1 (st.map A5)),(1000,.cells (srM roots C A S dec 500 st.length)),(1001,.tok 6 S.infs.length),(1002,.tok 1 S.drv.length),(1003,.map Eh (FP 0 S.infs)),(1004,.dead),(16000,.tok 4 ((Au (dec++[cs[i]])).map Ag).length)] ⟨Zr,Zr,Zr,Zr,Zr,Zr,Zr,Zr,Zr,Zr,Zr,Zr,Zr,Zr,Tv⟩ Z11 (yN ?_));have tA:=hcx i n3 nc Qp;obtain⟨b1,b2,b3⟩:=j3.add (tA.1 S.drv)
    change K6 x roots (By S nc).2 at b1
    change (By S nc).1<(By S nc).2.drv.length at b2
    change S.drv.length<=(By S nc).2.drv.length at b3
    refine Xi (.gen aK 0) (Yi rfl (A6.imp (s88 roots C A S dec st nc hw.1 hw.2.1 j3.nodup (hcq i n3 nc (Lb Qp).1) (hcp_ i n3 nc (Lb Qp).1)) ?_));intro v29 g29 q29;have Ade:=q29.1;have Adf:=q29.2;subst Ade;subst Adf;refine cU [(0,.ref 1000 0),(4,vs p),(5,sl AU (n0::l)),(6,.slice (.id 6 1) (rs.map Cs)),(7,.slice (.id 7 3) (sk.map AN)),(9,.ref 9 0),(12,vi ((By S nc).1:Nat)),(32,sl At cs),(33,vi (cs.map At).length),(34,vi i)] [(6,.tok 1 rs.length),(7,.tok 3 sk.length),(9,.ro (At cs[i])),(500,.arr 1 (st.map A5)),(1000,.cells [sl Ac roots,.cmap Cv C,.cmap Cv A,.slice (.id 1001 6) ((By S nc).2.infs.map AG),.slice (.id 1002 1) ((By S nc).2.drv.map Aq),.mref 1003,vb (By S nc).2.full,sl At dec,sl Ag (Au dec),.msl 500 st.length]),(1001,.tok 6 (By S nc).2.infs.length),(1002,.tok 1 (By S nc).2.drv.length),(1003,.map Eh (FP 0 (By S nc).2.infs)),(1004,.dead)] Z10 Z9 (Xi (Aq (Em (By S nc).2 (By S nc).1)) (Yi (Yi (show(0:Int)<=(((By S nc).1:Nat):Int) by omega) (Bk (Fg b2))) (Yi rfl ?_)));have Y1:S.full=false:=by omega
    have aD:(By S nc).1<(By S nc).2.drv.length:=b2;have Y4:=b1.der.few hx hr;refine AA (Bt (DC (Em (By S nc).2 (By S nc).1) p)) (fun wQ=>?_) (fun wQ=>?_)
    .refine Xi .pure (Xi _ (Yi (cb wQ (om (Em (By S nc).2 (By S nc).1) p (Gn (Y4 _ (Ax (Fg aD)))))) (cU [(0,.ref 1000 0),(4,vs p),(5,sl AU (n0::l)),(6,.slice (.id 6 1) (rs.map Cs)),(7,.slice (.id 7 3) (sk.map AN)),(9,.ref 9 0),(12,vi ((By S nc).1:Nat)),(32,sl At cs),(33,vi (cs.map At).length),(34,vi i)] [(6,.tok 1 rs.length),(7,.tok 3 sk.length),(9,.ro (At cs[i])),(500,.arr 1 (st.map A5)),(1000,.cells [sl Ac roots,.cmap Cv C,.cmap Cv A,.slice (.id 1001 6) ((By S nc).2.infs.map AG),.slice (.id 1002 1) ((By S nc).2.drv.map Aq),.mref 1003,vb (By S nc).2.full,sl At dec,sl Ag (Au dec),.msl 500 st.length]),(1001,.tok 6 (By S nc).2.infs.length),(1002,.tok 1 (By S nc).2.drv.length),(1003,.map Eh (FP 0 (By S nc).2.infs)),(1004,.dead)] Z10 Z9 (Yi (js rfl aa0 aa2) (Yi (js rfl aa0 aa2) (Yi (Ii i aa0) ?_))))));have eA:=(Yt (rec:=Cz x roots n) (x:=x) (p:=p) (n0:=n0) (st:=st) (rs:=rs) (sk:=sk) n3 Y1 h6.2 Jr Qp);have eN:DR (Cz x roots n) x p (n0::l) n0 dec st (cs.drop (i+1)) (By S nc).2 (rs++[(By S nc).1]) (sk++[(⟨p,cs[i].place,((By S nc).1:Nat)⟩:Sk)])=R:=by rw[<-WV (c:=cs[i]) wQ,<-eA];exact j2
     refine Xi ⟨(i+1,(By S nc).2,rs++[(By S nc).1],sk++[(⟨p,cs[i].place,((By S nc).1:Nat)⟩:Sk)]),DB n3,eN,b1,fun r h=>(Bc.1 h).elim ((fun r h=>Cp (j4 r h) b3) r) (fun h=>by simp_all),(by simp_all),(by simp_all)⟩ ?_;exact⟨Dl cs.length i aa0,⟨Zr,Zr,Zr,⟨(show AV.slice (.id 6 1) (rs.map Cs++[[vi (((By S nc).1:Nat):Int)]])=.slice (.id 6 1) ((rs++[(By S nc).1]).map Cs) by simp_all),rfl⟩,⟨(show AV.slice (.id 7 3) (sk.map AN++[[vs p,vi cs[i].place,vi (((By S nc).1:Nat):Int)]])=.slice (.id 7 3) ((sk++[(⟨p,cs[i].place,((By S nc).1:Nat)⟩:Sk)]).map AN) by simp_all),rfl⟩,Zr,Zr,Zr,Tv⟩,⟨⟨(show HO.tok 1 ((rs.map Cs).length+([[vi (((By S nc).1:Nat):Int)]]:List (List AV)).length)=.tok 1 (rs++[(By S nc).1]).length by simp),rfl⟩,⟨(show HO.tok 3 ((sk.map AN).length+([[vs p,vi cs[i].place,vi (((By S nc).1:Nat):Int)]]:List (List AV)).length)=.tok 3 (sk++[(⟨p,cs[i].place,((By S nc).1:Nat)⟩:Sk)]).length by simp),rfl⟩,Zr,Zr,Zr,Zr,Zr,Zr,Tv⟩,Fh,Bg aa3⟩
    refine Xi .pure (Xi _ (Yi (cb wQ (om (Em (By S nc).2 (By S nc).1) p (Gn (Y4 _ (Ax (Fg aD)))))) (cU [(12,vi ((By S nc).1:Nat))] [(500,.arr 1 (st.map A5)),(1000,.cells [sl Ac roots,.cmap Cv C,.cmap Cv A,.slice (.id 1001 6) ((By S nc).2.infs.map AG),.slice (.id 1002 1) ((By S nc).2.drv.map Aq),.mref 1003,vb (By S nc).2.full,sl At dec,sl Ag (Au dec),.msl 500 st.length]),(1001,.tok 6 (By S nc).2.infs.length),(1002,.tok 1 (By S nc).2.drv.length),(1003,.map Eh (FP 0 (By S nc).2.infs)),(1004,.dead)] Z1 Z6 ?_)))
    have eA:=(Yt (rec:=Cz x roots n) (x:=x) (p:=p) (n0:=n0) (st:=st) (rs:=rs) (sk:=sk) n3 Y1 h6.2 Jr Qp);have eR:R=⟨(By S nc).1,false,(By S nc).2,dec,st⟩:=by rw[<-j2];rw[eA];exact db wQ
    exact Xi _ (Yi (.refl _) (NT (dH.trans eR)))
   skip
   have eW:oV (Dq dec cs[i])=.tup [.agg [vs ⟨#[]⟩,nzA,vs ⟨#[]⟩,vi 0,vi 0],vb false]:=by rw[Qp];rfl
   rw[eW]at Pg;refine Xi (.gen aK 0) (Yi rfl (A6.imp Pg ?_));intro v35 g35 q35;have Adi:=q35.1;have Adj:=q35.2;subst Adi;subst Adj;refine yN (cU [(0,.ref 1000 0),(4,vs p),(5,sl AU (n0::l)),(6,.slice (.id 6 1) (rs.map Cs)),(7,.slice (.id 7 3) (sk.map AN)),(9,.ref 9 0),(11,.slice (.id 16000 4) ((Au (dec++[cs[i]])).map Ag)),(12,vi 0),(13,vb false),(14,.ref 14 0),(15,vb false),(32,sl At cs),(33,vi (cs.map At).length),(34,vi i)] [(6,.tok 1 rs.length),(7,.tok 3 sk.length),(9,.ro (At cs[i])),(14,.cells [vs ⟨#[]⟩,nzA,vs ⟨#[]⟩,vi 0,vi 0]),(500,.arr 1 (st.map A5)),(1000,.cells (srM roots C A S dec 500 st.length)),(1001,.tok 6 S.infs.length),(1002,.tok 1 S.drv.length),(1003,.map Eh (FP 0 S.infs)),(1004,.dead),(16000,.tok 4 ((Au (dec++[cs[i]])).map Ag).length)] ⟨Zr,Zr,Zr,Zr,Zr,Zr,Zr,Zr,Zr,Zr,Zr,Zr,Zr,Zr,Tv⟩ Z11 (Yi aa3 (cU [(0,.ref 1000 0),(4,vs p),(5,sl AU (n0::l)),(6,.slice (.id 6 1) (rs.map Cs)),(7,.slice (.id 7 3) (sk.map AN)),(9,.ref 9 0),(11,.slice (.id 16000 4) ((Au (dec++[cs[i]])).map Ag)),(16,sl At dec),(17,sl Ag (Au dec)),(32,sl At cs),(33,vi (cs.map At).length),(34,vi i)] [(6,.tok 1 rs.length),(7,.tok 3 sk.length),(9,.ro (At cs[i])),(500,.arr 1 (st.map A5)),(1000,.cells (srM roots C A S dec 500 st.length)),(1001,.tok 6 S.infs.length),(1002,.tok 1 S.drv.length),(1003,.map Eh (FP 0 S.infs)),(1004,.dead),(16000,.tok 4 ((Au (dec++[cs[i]])).map Ag).length)] Z12 Z10 (Xi _ (Xi _ (Yi aa3 (Yi (uD dec aa0) (yN ?_))))))));have b36:A7 10 [(At cs[i])]/\(dec.map At).length=(dec.map At).length/\((dec.map At).length+([(At cs[i])]:List (List AV)).length)*128<=140737488355328/\(dec.map At).length+([(At cs[i])]:List (List AV)).length<=9223372036854775807:=⟨⟨rfl,trivial⟩,rfl,(by grind),(by simp_all)⟩;refine Yi b36 (yN (yN (Yi aa3 ?_)));have b37:A7 1 [[sl AN sk]]/\(st.map A5).length=st.length/\((st.map A5).length+([[sl AN sk]]:List (List AV)).length)*24<=140737488355328/\(st.map A5).length+([[sl AN sk]]:List (List AV)).length<=9223372036854775807:=⟨⟨rfl,trivial⟩,(by simp_all),(by grind),(by simp_all)⟩;refine Yi b37 (yN (cU [(0,.ref 1000 0),(4,vs p),(5,sl AU (n0::l)),(6,.slice (.id 6 1) (rs.map Cs)),(7,.slice (.id 7 3) (sk.map AN)),(9,.ref 9 0),(16,sl At dec),(17,sl Ag (Au dec)),(32,sl At cs),(33,vi (cs.map At).length),(34,vi i)] [(6,.tok 1 rs.length),(7,.tok 3 sk.length),(9,.ro (At cs[i])),(500,.arr 1 ((st.map A5)++[[sl AN sk]])),(1000,.cells [sl Ac roots,.cmap Cv C,.cmap Cv A,.slice (.id 1001 6) (S.infs.map AG),.slice (.id 1002 1) (S.drv.map Aq),.mref 1003,vb S.full,.slice (.id 20100 10) ((dec.map At)++[(At cs[i])]),.slice (.id 16000 4) ((Au (dec++[cs[i]])).map Ag),.msl 500 ((st.map A5).length+([[sl AN sk]]:List (List AV)).length)]),(1001,.tok 6 S.infs.length),(1002,.tok 1 S.drv.length),(1003,.map Eh (FP 0 S.infs)),(1004,.dead),(16000,.tok 4 ((Au (dec++[cs[i]])).map Ag).length),(20100,.tok 10 ((dec.map At).length+([(At cs[i])]:List (List AV)).length))] Z11 Z11 (cU [(0,.ref 1000 0),(4,vs p),(5,sl AU (n0::l)),(6,.slice (.id 6 1) (rs.map Cs)),(7,.slice (.id 7 3) (sk.map AN)),(9,.ref 9 0),(16,sl At dec),(17,sl Ag (Au dec)),(32,sl At cs),(33,vi (cs.map At).length),(34,vi i)] [(6,.tok 1 rs.length),(7,.tok 3 sk.length),(9,.ro (At cs[i])),(500,.arr 1 ((st++[sk]).map A5)),(1000,.cells [sl Ac roots,.cmap Cv C,.cmap Cv A,.slice (.id 1001 6) (S.infs.map AG),.slice (.id 1002 1) (S.drv.map Aq),.mref 1003,vb S.full,.slice (.id 20100 10) ((dec++[cs[i]]).map At),.slice (.id 16000 4) ((Au (dec++[cs[i]])).map Ag),.msl 500 (st++[sk]).length]),(1001,.tok 6 S.infs.length),(1002,.tok 1 S.drv.length),(1003,.map Eh (FP 0 S.infs)),(1004,.dead),(16000,.tok 4 ((Au (dec++[cs[i]])).map Ag).length),(20100,.tok 10 ((dec++[cs[i]]).map At).length)] Z11 ⟨Zr,Zr,Zr,⟨(show(.arr 1 ((st.map A5)++[[sl AN sk]]):HO)=.arr 1 ((st++[sk]).map A5) by simp),rfl⟩,⟨(show(.cells [sl Ac roots,.cmap Cv C,.cmap Cv A,.slice (.id 1001 6) (S.infs.map AG),.slice (.id 1002 1) (S.drv.map Aq),.mref 1003,vb S.full,.slice (.id 20100 10) ((dec.map At)++[(At cs[i])]),.slice (.id 16000 4) ((Au (dec++[cs[i]])).map Ag),.msl 500 ((st.map A5).length+([[sl AN sk]]:List (List AV)).length)]:HO)=.cells [sl Ac roots,.cmap Cv C,.cmap Cv A,.slice (.id 1001 6) (S.infs.map AG),.slice (.id 1002 1) (S.drv.map Aq),.mref 1003,vb S.full,.slice (.id 20100 10) ((dec++[cs[i]]).map At),.slice (.id 16000 4) ((Au (dec++[cs[i]])).map Ag),.msl 500 (st++[sk]).length] by simp),rfl⟩,Zr,Zr,Zr,Zr,Zr,⟨(show(.tok 10 ((dec.map At).length+([(At cs[i])]:List (List AV)).length):HO)=.tok 10 ((dec++[cs[i]]).map At).length by simp),rfl⟩,Tv⟩ ?_)))
   have Gv:ZX dec (n0::l) cs[i]=true:=Kc.2 ⟨fun n hn=>by grind,Qp⟩;have Za:=ih cs[i] (rG i n3) Gv S (st++[sk]) (by simp_all) j3 aa0;refine Al (show ∃o,o=Cz x roots n (dec++[cs[i]]) S (st++[sk])from⟨_,rfl⟩) (fun o ho=>?_);rw[<-ho]at Za;have pY:A6 Tryz.prog 45 [.ref 1000 0] (Af (Ie roots C A S (dec++[cs[i]]) (st++[sk])) Ae) (fun r h'=>r=.tup [vi (o.res:Nat),vb o.found]/\h'=Af (zP roots C A o.ss o.dec o.stack) Ae):=Za.1;have hrs:=Za.2.1;have hrn:=Za.2.2.1;refine AA (Bt o.found) (fun gD=>?_) (fun gD=>?_)
   .skip
    rw[gD]at pY;refine Xi (.gen aK 1) (Yi rfl (A6.imp pY ?_));intro v39 g39 q39;have Adk:=q39.1;have Adl:=q39.2;subst Adk;subst Adl;refine cU [(0,.ref 1000 0),(4,vs p),(5,sl AU (n0::l)),(6,.slice (.id 6 1) (rs.map Cs)),(7,.slice (.id 7 3) (sk.map AN)),(9,.ref 9 0),(12,vi (o.res:Nat)),(16,sl At dec),(17,sl Ag (Au dec)),(18,vb true),(32,sl At cs),(33,vi (cs.map At).length),(34,vi i)] [(6,.tok 1 rs.length),(7,.tok 3 sk.length),(9,.ro (At cs[i])),(1000,.cells (srM roots C A o.ss o.dec 22200 o.stack.length)),(1001,.tok 6 o.ss.infs.length),(1002,.tok 1 o.ss.drv.length),(1003,.map Eh (FP 0 o.ss.infs)),(1004,.dead),(22200,.arr 1 (o.stack.map A5))] Z13 Z9 (Yi (show o.stack.length=(o.stack.map A5).length by simp) (cU [] [(500,.arr 1 (o.stack.map A5)),(1000,.cells (srM roots C A o.ss o.dec 500 o.stack.length)),(1001,.tok 6 o.ss.infs.length),(1002,.tok 1 o.ss.drv.length),(1003,.map Eh (FP 0 o.ss.infs)),(1004,.dead)] Tv Z6 ?_))
    have Y1:S.full=false:=by omega
    have eR:R=⟨0,true,o.ss,o.dec,o.stack⟩:=by rw[<-j2];rw[W8 (sk:=sk) n3 Y1 h6.2 Jr Qp ho,AX gD]
    exact Xi _ (Yi (.refl _) (NT (dH.trans eR)))
   skip
   rw[gD]at pY;have hrk:=Za.2.2.2 gD;have Zc:o.stack.length=st.length+1:=by simp_all
   refine Xi (.gen aK 1) (Yi rfl (A6.imp pY ?_));intro v41 g41 q41;have Ado:=q41.1;have Adp:=q41.2;subst Ado;subst Adp;refine cU [(0,.ref 1000 0),(4,vs p),(5,sl AU (n0::l)),(6,.slice (.id 6 1) (rs.map Cs)),(7,.slice (.id 7 3) (sk.map AN)),(9,.ref 9 0),(12,vi (o.res:Nat)),(16,sl At dec),(17,sl Ag (Au dec)),(18,vb false),(32,sl At cs),(33,vi (cs.map At).length),(34,vi i)] [(6,.tok 1 rs.length),(7,.tok 3 sk.length),(9,.ro (At cs[i])),(1000,.cells (srM roots C A o.ss o.dec 22200 o.stack.length)),(1001,.tok 6 o.ss.infs.length),(1002,.tok 1 o.ss.drv.length),(1003,.map Eh (FP 0 o.ss.infs)),(1004,.dead),(22200,.arr 1 (o.stack.map A5))] Z13 Z9 (yN (yN (cU [(0,.ref 1000 0),(4,vs p),(5,sl AU (n0::l)),(6,.slice (.id 6 1) (rs.map Cs)),(7,.slice (.id 7 3) (sk.map AN)),(9,.ref 9 0),(12,vi (o.res:Nat)),(32,sl At cs),(33,vi (cs.map At).length),(34,vi i)] [(6,.tok 1 rs.length),(7,.tok 3 sk.length),(9,.ro (At cs[i])),(1000,.cells (srM roots C A o.ss dec 22200 o.stack.length)),(1001,.tok 6 o.ss.infs.length),(1002,.tok 1 o.ss.drv.length),(1003,.map Eh (FP 0 o.ss.infs)),(1004,.dead),(22200,.arr 1 (o.stack.map A5))] Z10 Z9 (Yi (by show As ((o.stack.length:Int)-(1:Int));unfold As;omega) (Yi ⟨(show o.stack.length=(o.stack.map A5).length by simp),(show(0:Int)<=o.stack.length-1 by omega),(show(o.stack.length-1:Int)<=((o.stack.map A5).length:Nat) by grind)⟩ (yN (Yi aa3 (Yi (show(o.stack.length-1:Int).toNat=(((o.stack.map A5).take (o.stack.length-1:Int).toNat):List (List AV)).length by simp) ?_))))))));have Ahz:((o.stack.map A5).take ((o.stack.length:Int)-1).toNat)=st.map A5/\((o.stack.length:Int)-1).toNat=st.length:=xY hrk;refine cU [(0,.ref 1000 0),(4,vs p),(5,sl AU (n0::l)),(6,.slice (.id 6 1) (rs.map Cs)),(7,.slice (.id 7 3) (sk.map AN)),(9,.ref 9 0),(12,vi (o.res:Nat)),(32,sl At cs),(33,vi (cs.map At).length),(34,vi i)] [(6,.tok 1 rs.length),(7,.tok 3 sk.length),(9,.ro (At cs[i])),(500,.arr 1 (st.map A5)),(1000,.cells (srM roots C A o.ss dec 500 st.length)),(1001,.tok 6 o.ss.infs.length),(1002,.tok 1 o.ss.drv.length),(1003,.map Eh (FP 0 o.ss.infs)),(1004,.dead)] Z10 ⟨Zr,Zr,Zr,⟨(show(.arr 1 ((o.stack.map A5).take (o.stack.length-1:Int).toNat):HO)=.arr 1 (st.map A5) by simp_all),rfl⟩,⟨(show(.cells (srM roots C A o.ss dec 500 (o.stack.length-1:Int).toNat):HO)=.cells (srM roots C A o.ss dec 500 st.length) by simp_all),rfl⟩,Zr,Zr,Zr,Zr,Tv⟩ ?_
   refine Yi (fun h42=>?_) (fun h42=>?_)
   .have Y1:S.full=false:=by omega
    have eR:R=⟨0,false,o.ss,dec,st⟩:=by rw[<-j2];rw[W8 (sk:=sk) n3 Y1 h6.2 Jr Qp ho,AI (by simp_all),AX h42]
    exact Xi _ (Yi (.refl _) (NT (dH.trans eR)))
   have bJ:o.ss.full=false:=h42;refine cU [(0,.ref 1000 0),(4,vs p),(5,sl AU (n0::l)),(6,.slice (.id 6 1) (rs.map Cs)),(7,.slice (.id 7 3) (sk.map AN)),(9,.ref 9 0),(12,vi (o.res:Nat)),(32,sl At cs),(33,vi (cs.map At).length),(34,vi i)] [(6,.tok 1 rs.length),(7,.tok 3 sk.length),(9,.ro (At cs[i])),(500,.arr 1 (st.map A5)),(1000,.cells (srM roots C A o.ss dec 500 st.length)),(1001,.tok 6 o.ss.infs.length),(1002,.tok 1 o.ss.drv.length),(1003,.map Eh (FP 0 o.ss.infs)),(1004,.dead)] Z10 Z9 (Xi (Aq (Em o.ss o.res)) (Yi (Yi (show(0:Int)<=((o.res:Nat):Int) by omega) (Bk (Fg (hrn.2 gD bJ)))) (Yi rfl ?_)));have Y1:S.full=false:=by omega
   have aD:o.res<o.ss.drv.length:=(hrn.2 gD bJ);have Y4:=hrs.der.few hx hr;refine AA (Bt (DC (Em o.ss o.res) p)) (fun pz=>?_) (fun pz=>?_)
   .refine Xi .pure (Xi _ (Yi (cb pz (om (Em o.ss o.res) p (Gn (Y4 _ (Ax (Fg aD)))))) (cU [(0,.ref 1000 0),(4,vs p),(5,sl AU (n0::l)),(6,.slice (.id 6 1) (rs.map Cs)),(7,.slice (.id 7 3) (sk.map AN)),(9,.ref 9 0),(12,vi (o.res:Nat)),(32,sl At cs),(33,vi (cs.map At).length),(34,vi i)] [(6,.tok 1 rs.length),(7,.tok 3 sk.length),(9,.ro (At cs[i])),(500,.arr 1 (st.map A5)),(1000,.cells (srM roots C A o.ss dec 500 st.length)),(1001,.tok 6 o.ss.infs.length),(1002,.tok 1 o.ss.drv.length),(1003,.map Eh (FP 0 o.ss.infs)),(1004,.dead)] Z10 Z9 (Yi (js rfl aa0 aa2) (Yi (js rfl aa0 aa2) (Yi (Ii i aa0) ?_))))));have eA:=(W8 (rec:=Cz x roots n) (x:=x) (p:=p) (n0:=n0) (st:=st) (rs:=rs) (sk:=sk) n3 Y1 h6.2 Jr Qp ho);rw[AI (by simp_all),AI (by simp_all)]at eA;have eN:DR (Cz x roots n) x p (n0::l) n0 dec st (cs.drop (i+1)) o.ss (rs++[o.res]) (sk++[(⟨p,cs[i].place,(o.res:Nat)⟩:Sk)])=R:=by rw[<-WV (c:=cs[i]) pz,<-eA];exact j2
    refine Xi ⟨(i+1,o.ss,rs++[o.res],sk++[(⟨p,cs[i].place,(o.res:Nat)⟩:Sk)]),DB n3,eN,hrs,fun r h=>(Bc.1 h).elim ((fun r h=>Cp (j4 r h) hrn.1) r) (fun h=>by simp_all),(by simp_all),(by simp_all)⟩ ?_;exact⟨Dl cs.length i aa0,⟨Zr,Zr,Zr,⟨(show AV.slice (.id 6 1) (rs.map Cs++[[vi ((o.res:Nat):Int)]])=.slice (.id 6 1) ((rs++[o.res]).map Cs) by simp_all),rfl⟩,⟨(show AV.slice (.id 7 3) (sk.map AN++[[vs p,vi cs[i].place,vi ((o.res:Nat):Int)]])=.slice (.id 7 3) ((sk++[(⟨p,cs[i].place,(o.res:Nat)⟩:Sk)]).map AN) by simp_all),rfl⟩,Zr,Zr,Zr,Tv⟩,⟨⟨(show HO.tok 1 ((rs.map Cs).length+([[vi ((o.res:Nat):Int)]]:List (List AV)).length)=.tok 1 (rs++[o.res]).length by simp),rfl⟩,⟨(show HO.tok 3 ((sk.map AN).length+([[vs p,vi cs[i].place,vi ((o.res:Nat):Int)]]:List (List AV)).length)=.tok 3 (sk++[(⟨p,cs[i].place,(o.res:Nat)⟩:Sk)]).length by simp),rfl⟩,Zr,Zr,Zr,Zr,Zr,Zr,Tv⟩,Fh,Bg aa3⟩
   refine Xi .pure (Xi _ (Yi (cb pz (om (Em o.ss o.res) p (Gn (Y4 _ (Ax (Fg aD)))))) (cU [(12,vi (o.res:Nat))] [(500,.arr 1 (st.map A5)),(1000,.cells (srM roots C A o.ss dec 500 st.length)),(1001,.tok 6 o.ss.infs.length),(1002,.tok 1 o.ss.drv.length),(1003,.map Eh (FP 0 o.ss.infs)),(1004,.dead)] Z1 Z6 ?_)))
   have eA:=(W8 (rec:=Cz x roots n) (x:=x) (p:=p) (n0:=n0) (st:=st) (rs:=rs) (sk:=sk) n3 Y1 h6.2 Jr Qp ho);rw[AI (by simp_all),AI (by simp_all)]at eA;have eR:R=⟨o.res,false,o.ss,dec,st⟩:=by rw[<-j2];rw[eA];exact db pz
   exact Xi _ (Yi (.refl _) (NT (dH.trans eR)))
  have n3:=Oj h3;refine Xi (AU n0) (Yi (Yi (show(0:Int)<=0 by decide) rfl) (Yi rfl (yN (Xi (.gen aK 0) (Yi rfl (A6.imp (s91 x roots C A S dec st p n0 rs V hx hr j3 hinf0 j4 aa0 (hnq n0 (Ah ..)) (hnp n0 (Ah ..)) w8 w9 xa) ?_))))));intro v49 g49 q49;have Adq:=q49.1;have Adr:=q49.2;subst Adq;subst Adr;have hj:¬i<cs.length:=by omega
  have eR:R=⟨(Dx x p n0 rs S).1,false,(Dx x p n0 rs S).2,dec,st⟩:=by rw[<-j2];exact j9 hj
  exact Xi _ (Yi (.refl _) (NT (dH.trans eR)))
 exact absurd Me tf
end Go.Eng
