/- Lemmas for the claims of this seat, without a condition: part 26 (S10, S8b). -/
import Derived.Test.YtddfphmpfnmknaaGreatDoorGA25
namespace Go.Eng
open Go.Proofs
variable {k o sz:Nat}(l:List Nd)(n:Nd)
theorem sL{h:Nat→HO}{r:Nat}{cs:List AV}{K:(Nat→HO)→Prop}(c1:h o=.cells cs)(c2:JV cs k=Ce)(c3:h r=.free)(hk:K (A0 (A0 h r (.var sz 0 0)) o (.cells (E1 cs k (.slice (.ver r sz 0) []))))):ue h o k r sz K:=by
 unfold ue;rw[c1];show match JV cs k with
  |.v (.slice none 0 0)=>match h r with
   |.free=>K (A0 (A0 h r (.var sz 0 0)) o (.cells (E1 cs k (.slice (.ver r sz 0) []))))
   |_=>False
  |_=>False
 rw[c2,c3];exact hk
theorem s9{r0:Nat}{fT:Cx}{P:Program}{N:Nat}{fn:Func}{σ:JO}{Q:AV→(Nat→HO)→Prop}{b rest:Code}{st:St}(cs:List AV)(c1:st.h o=.cells cs)(c2:JV cs k=Ce)(c3:st.h r0=.free)(σF σr:JO)(H0 Hn:List (Nat×HO))(gf:Nat)(caps:List AV){qc s:Nat}{ps:Array Tmp}{Hh body:Code}(hb:b=.block qc (.rangeFunc (.tmp s) ps Hh body))(k1:(EK σF&&DR (A0 (A0 st.h r0 (.var sz 0 0)) o (.cells (E1 cs k (.slice (.ver r0 sz 0) [])))) 0 0&&DD σF 0 0)=true)(k2:F4 σF (A0 (A0 st.h r0 (.var sz 0 0)) o (.cells (E1 cs k (.slice (.ver r0 sz 0) []))))=Ak H0 Af)(k3:(Hm σr&&Ji σr H0)=true)(k4:Ji σr Hn=true)(k5:ren (CC σF) (A0 (A0 st.h r0 (.var sz 0 0)) o (.cells (E1 cs k (.slice (.ver r0 sz 0) [])))) (st.t s)=.clo gf caps)(k6:∀(l D:Nat) (f' : FuncId) (tm:Array Value),tm.size=N→YT P (fun g w=>w.heap[l]?=some (.loop (IL f' tm ps Hh body D .ready))∧∀i,BP g w (AT (Ak H0 Af)) (ren (CC σF) (A0 (A0 st.h r0 (.var sz 0 0)) o (.cells (E1 cs k (.slice (.ver r0 sz 0) [])))) (st.t i)) (tm.getD i undef)) σr gf
   (.v (.func (.yield l) #[] #[])::caps) (Ak H0 Af) fun _ h'=>h'=Ak Hn Af)(k7:ES N rest=true)(k8:Re fT rest (Zi fT fn.results.toList σr fun r h'=>Q (ren (CC σ) (Eu σF 0 0 (A0 (A0 st.h r0 (.var sz 0 0)) o (.cells (E1 cs k (.slice (.ver r0 sz 0) [])))) h') (ren (FC σF 0 0) h' r)) (F4 σ (Eu σF 0 0 (A0 (A0 st.h r0 (.var sz 0 0)) o (.cells (E1 cs k (.slice (.ver r0 sz 0) [])))) h')))
   ⟨fun i=>ren (CC σF) (A0 (A0 st.h r0 (.var sz 0 0)) o (.cells (E1 cs k (.slice (.ver r0 sz 0) [])))) (st.t i),Ak Hn Af⟩)(k9:PD [] body=false:=by kernel_rfl):yL o k r0 sz fT P N fn σ Q b rest st :=
 sL c1 c2 c3 ⟨σF,σr,H0,Hn,qc,s,ps,Hh,body,gf,caps,hb,k1,k2,k3,k4,k5,k6,k7,k9,k8⟩
section
variable {roots:List Rq}{C A:List (Value×AV)}{s:SS}{dec:List Cd}{st:List (List Sk)}{n:Nd}
theorem U6{m:Nat}{p:ByteArray}{o:List Nd}(e:Hj roots dec (m+1)=(p,o)){es:List (List AV)}(h1:es=o.map Br)(h2:k=es.length) :
  Ak [(1000,.cells (yD roots C A s dec st.length)),(1001,.tok 6 s.infs.length),(1002,.tok 1 s.drv.length),(1003,.map FY (F3 0 s.infs)),(1004,.arr 1 (st.map Bl)),
   (1005,.cells [.ref 1000 0]),(1006,.cells [vs p]),(1007,.cells [.slice (.ver 1008 5 (m+1)) es]),(1008,.var 5 (m+1) k),(1009,.cells [.ref 1000 0])] Af=Ak (lN roots C A s dec st (m+1)) Af:=by
 subst h1;subst h2
 rw[show lN roots C A s dec st (m+1)=[(1000,.cells (yD roots C A s dec st.length)),(1001,.tok 6 s.infs.length),(1002,.tok 1 s.drv.length),(1003,.map FY (F3 0 s.infs)),(1004,.arr 1 (st.map Bl)),
   (1005,.cells [.ref 1000 0]),(1006,.cells [vs (Hj roots dec (m+1)).1]),(1007,.cells [.slice (.ver 1008 5 (m+1)) ((Hj roots dec (m+1)).2.map Br)]),(1008,.var 5 (m+1) ((Hj roots dec (m+1)).2.map Br).length),(1009,.cells [.ref 1000 0])]from rfl,e]
theorem lP{a:ByteArray×List Nd}(h:CV dec n.rq.path=true):EH dec a n=(a.1,a.2):=by unfold EH;rw[Al (.inl h)]
theorem lB{o:List Nd}(h:(0:Int)<((o.map Br).length:Int)):o≠[]:=fun e=>by subst e;simp at h
theorem o8{o:List Nd}(h:¬(0:Int)<((o.map Br).length:Int)):o=[]:=by
 cases o with
 |nil=>rfl
 |cons y l=>exact absurd B0 h
theorem pg{a:ByteArray×List Nd}(h:(0:Int)<((a.2.map Br).length:Int))(hb:DL a.1 n.rq.path=true):EH dec a n=(a.1,a.2):=by unfold EH;rw[Al (.inr ⟨lB h,hb⟩)]
theorem lQ{a:ByteArray×List Nd}(hd:CV dec n.rq.path=false)(h:(0:Int)<((a.2.map Br).length:Int))(hb:DL a.1 n.rq.path=false)(hs:DL n.rq.path a.1=true):EH dec a n=(n.rq.path,[n]):=by
 unfold EH;rw[Ae (by rw[hd,hb];simp),Al ⟨lB h,hs⟩]
theorem lR{a:ByteArray×List Nd}(hd:CV dec n.rq.path=false)(hb:DL a.1 n.rq.path=false)(hs:DL n.rq.path a.1=false):EH dec a n=(n.rq.path,a.2++[n]):=by
 unfold EH;rw[Ae (by rw[hd,hb];simp),Ae (by rw[hs];simp)]
theorem pi{a:ByteArray×List Nd}(hd:CV dec n.rq.path=false)(h:¬(0:Int)<((a.2.map Br).length:Int)):EH dec a n=(n.rq.path,a.2++[n]):=by
 have:=o8 h
 unfold EH;rw[Ae (by rw[hd,this];simp),Ae (by rw[this];simp)]
theorem ph(a:ByteArray×List Nd)(n:Nd):(EH dec a n).2.length≤a.2.length+1:=by
 unfold EH;split
 ·omega
 ·split
  ·simp
  ·simp
theorem ee:∀(m:Nat),(Hj roots dec m).2.length≤m
 |0=>Ao _
 |m+1=>by
  have ih:=ee m;cases h:(DI roots dec)[m]? with
  |none =>
   have e:Hj roots dec (m+1)=Hj roots dec m:=by unfold Hj;rw[Be,h];simp
   rw[e];omega
  |some n=>rw[aF h];exact Bf (ph _ _) (ER ih)
theorem bn:∀{l l' : List (Nat×HO)},l.map Prod.fst=l'.map Prod.fst→(∀p∈l',p.2≠.free)→∀i,AT (Ak l Af) i→AT (Ak l' Af) i
 | [],[],_,_,_,h=>h
 |(a,o)::l,(a',o')::l',e,h,i,hu=>by
  rw[AJ,AJ]at e
  injection e with e1 e2
  have e1:a=a':=e1;subst e1;unfold AT at *
  by_cases q:i=a
  ·subst q;simp only[Ak,Dh,KF];exact h _ (Aa ..)
  ·simp only[Ak,CX q,EM]at hu⊢;exact bn e2 (fun p hp=>h p (Ah _ hp)) i hu
theorem lO(m:Nat):∀i,AT (Ak (lN roots C A s dec st 0) Af) i→AT (Ak (lN roots C A s dec st m) Af) i:=bn rfl (by
 repeat (first | exact CI _ | refine Dr.2 ⟨by simp,?_⟩))
theorem fe:∀{l:List Cd},(∀c∈l,c.rel.reqs.length≤1073741824)→((l.map fun c=>c.rel.reqs.length)).sum≤l.length*1073741824
 | [],_=>by simp
 |c::l,h=>by
  have h1:=h c (Aa ..);have h2:=fe fun c hc=>h c (Ah _ hc);rw[AJ,List.sum_cons,Av];omega
theorem g8(hr:roots.length≤1073741824)(hd:dec.length≤1000)(h:∀c∈dec,c.rel.reqs.length≤1073741824):(DI roots dec).length≤1074815565824:=by
 rw[←aI];unfold Gj;rw[Dp]
 have:=fe h
 have:=Bk 1073741824 hd
 omega
end
theorem aq:l.map Br++[Br n]=(l++[n]).map Br:=by rw[As];rfl
theorem Qm:(l.map Br).length+([Br n]:List (List AV)).length=(l.map Br++[Br n]).length:=Ad.symm
attribute [local irreducible] yL ue Hj DI EH
set_option maxHeartbeats 4000000 in
theorem s64(roots:List Rq)(C A:List (Value×AV))(s:SS)(dec:List Cd)(st:List (List Sk))(hr:roots.length≤1073741824)(hd:dec.length≤1000)(qm:∀c∈dec,c.rel.reqs.length≤1073741824) :
  A1 Tryz.prog 87 [.ref 1000 0] (Ak (JW roots C A s dec st) Af) fun r h'=>r=.tup [vs (Em roots dec).1,sl Br (Em roots dec).2]∧h'=Ak (JW roots C A s dec st) Af:=by
 refine fu 5 0 9 5 (KV D3) (KV D3) bA rfl Co rfl Co hm rfl rfl Tryz.func87 Wk rfl (Nz rfl) Wk rfl 3 (yN (Xi (.gen bA 1) (Yi rfl (A1.imp (AbY roots C A s dec st) ?_))));intro v1 g1 q1;have pz:=q1.1;have pA:=q1.2;subst pz;subst pA;refine s9 [Ce] Wk Wk Wk [(1000,1000),(1001,1001),(1002,1002),(1003,1003),(1004,1004),(10800,1005),(4,1006),(5,1007),(9,1008),(1,1009)] bz (lN roots C A s dec st 0) (lN roots C A s dec st (DI roots dec).length) 170 [.ref 1005 0] rfl Wk Wk Wk Wk Wk (fun l9 D9 f9 tm9 yi=>Ac1 l9 roots C A s dec st hr (Bf hd Cl) qm fun m n hn=>iT (σ:=bz) 1007 0 1008 (KV ⟨[],[(43,5)],[],[],[],[],[],[],[],[(500005,60001007)],[5]⟩) rfl Co hm rfl rfl rfl yi Wk Wk Wk (lO m) ?_) Wk ?_
 ·have hml:m<(DI roots dec).length:=(Aw.1 hn).1;have hol:=ee (roots:=roots) (dec:=dec) m;have hnl:=g8 hr hd qm;have hF:=aF hn;refine yN (Yi ⟨rfl,rfl⟩ (cU [(1,.ref 1009 0),(4,.ref 1006 0),(5,.ref 1007 0),(6,.ref 6 0)] [(6,.cells (Br n)),(60,.tok 5 ((Hj roots dec m).2.map Br).length),(1000,.cells (srM roots C A s dec 1004 st.length)),(1001,.tok 6 s.infs.length),(1002,.tok 1 s.drv.length),(1003,.map FY (F3 0 s.infs)),(1004,.arr 1 (st.map Bl)),(1005,.cells [.ref 1000 0]),(1006,.cells [vs (Hj roots dec m).1]),(1007,.cells [.slice (.id 60 5) ((Hj roots dec m).2.map Br)]),(1008,.vox m),(1009,.cells [.ref 1000 0])] Z4 Z12 (BF (Bt (CV dec n.rq.path)) (fun h2=>?_) (fun h2=>?_))))
  ·have h2:(CV dec n.rq.path)=true:=h2;have WP:=(xa roots C A s dec st n.rq.path (Bf hd Cl));rw[show(CV dec n.rq.path)=true from h2]at WP;refine Xi (.gen bA 0) (Yi rfl (A1.imp WP ?_));intro v4 g4 q4;have q4a:=q4.1;have q4b:=q4.2;subst q4a;subst q4b;refine Yi ⟨rfl,rfl⟩ ?_
   -- [('(CV dec n.rq.path)=true',True)]
   exact⟨rfl,U6 (hF.trans (lP h2)) rfl rfl⟩
  have h2:(CV dec n.rq.path)=false:=h2;have vA:=(xa roots C A s dec st n.rq.path (Bf hd Cl));rw[show(CV dec n.rq.path)=false from h2]at vA;refine Xi (.gen bA 0) (Yi rfl (A1.imp vA ?_));intro v6 g6 q6;have q6a:=q6.1;have q6b:=q6.2;subst q6a;subst q6b;refine Yi (fun h7=>?_) (fun h7=>?_)
  ·have h7:(0:Int)<(((Hj roots dec m).2.map Br).length:Int):=h7;have n7:0<(Hj roots dec m).2.length:=by have q:=h7;rw[Lm]at q;omega
   refine Yi (fun h8=>?_) (fun h8=>?_)
   ·have h8:DL (Hj roots dec m).1 n.rq.path=true:=(Ed _ _).trans h8;refine Yi ⟨rfl,rfl⟩ ?_
    -- [('(CV dec n.rq.path)=true',False),('(0:Int)<(((Hj roots dec m).2.map Br).length:Int)',True),('DL (Hj roots dec m).1 n.rq.path=true',True)]
    exact⟨rfl,U6 (hF.trans (pg h7 h8)) rfl rfl⟩
   have h8:DL (Hj roots dec m).1 n.rq.path=false:=(Ed _ _).trans (AI.2 h8);refine Yi (fun _=>?_) (fun hf=>absurd h7 hf);refine Yi (fun h9=>?_) (fun h9=>?_)
   ·have h9:DL n.rq.path (Hj roots dec m).1=true:=(Ed _ _).trans h9;refine yN (yN (yN ?_));have YO:Cf 5 [(Br n)]∧([(Br n)]:List (List AV)).length*72≤140737488355328∧([(Br n)]:List (List AV)).length≤9223372036854775807:=⟨⟨rfl,trivial⟩,(by simp only[Av,Ax];omega),(by simp only[Av,Ax];omega)⟩;refine Yi YO (yN (Yi ⟨rfl,rfl⟩ ?_))
    -- [('(CV dec n.rq.path)=true',False),('(0:Int)<(((Hj roots dec m).2.map Br).length:Int)',True),('DL (Hj roots dec m).1 n.rq.path=true',False),('DL n.rq.path (Hj roots dec m).1=true',True)]
    exact⟨rfl,U6 (hF.trans (lQ h2 h7 h8 h9)) rfl rfl⟩
   have h9:DL n.rq.path (Hj roots dec m).1=false:=(Ed _ _).trans (AI.2 h9);refine yN (yN ?_);have jw:Cf 5 [(Br n)]∧((Hj roots dec m).2.map Br).length=((Hj roots dec m).2.map Br).length∧(((Hj roots dec m).2.map Br).length+([(Br n)]:List (List AV)).length)*72≤140737488355328∧((Hj roots dec m).2.map Br).length+([(Br n)]:List (List AV)).length≤9223372036854775807:=⟨⟨rfl,trivial⟩,rfl,(by simp only[Lm,Av,Ax];omega),(by simp only[Lm,Av,Ax];omega)⟩;refine Yi jw (yN (Yi ⟨(Qm _ n).symm,rfl⟩ ?_))
   -- [('(CV dec n.rq.path)=true',False),('(0:Int)<(((Hj roots dec m).2.map Br).length:Int)',True),('DL (Hj roots dec m).1 n.rq.path=true',False),('DL n.rq.path (Hj roots dec m).1=true',False)]
   exact⟨rfl,U6 (hF.trans (lR h2 h8 h9)) (aq _ n) (Qm _ n)⟩
  have h7:¬((0:Int)<(((Hj roots dec m).2.map Br).length:Int)):=h7;have n7:¬0<(Hj roots dec m).2.length:=by have q:=h7;rw[Lm]at q;omega
  refine Yi (fun hf=>absurd hf h7) (fun _=>?_);refine yN (yN ?_);have tD:Cf 5 [(Br n)]∧((Hj roots dec m).2.map Br).length=((Hj roots dec m).2.map Br).length∧(((Hj roots dec m).2.map Br).length+([(Br n)]:List (List AV)).length)*72≤140737488355328∧((Hj roots dec m).2.map Br).length+([(Br n)]:List (List AV)).length≤9223372036854775807:=⟨⟨rfl,trivial⟩,rfl,(by simp only[Lm,Av,Ax];omega),(by simp only[Lm,Av,Ax];omega)⟩;refine Yi tD (yN (Yi ⟨(Qm _ n).symm,rfl⟩ ?_))
  -- [('(CV dec n.rq.path)=true',False),('(0:Int)<(((Hj roots dec m).2.map Br).length:Int)',False)]
  exact⟨rfl,U6 (hF.trans (pi h2 h7)) (aq _ n) (Qm _ n)⟩
 refine Yi Wk ?_;exact Xi _ (Yi (.refl _) ⟨show AV.tup [vs (Hj roots dec (DI roots dec).length).1,sl Br (Hj roots dec (DI roots dec).length).2]=_ by rw[pf (Ao _)],rfl⟩)
end Go.Eng
namespace Go.Eng
open Go.Proofs
theorem gJ{α:Type}(pr:α→Bool)(l:List α):(∃(k:Nat) (n:α),Lc pr l 0=(k:Nat)∧l[k]?=some n∧l.find? pr=some n)∨(Lc pr l 0=-1∧l.find? pr=none):=by
 have key:∀(l:List α) (b:Nat),(∃(k:Nat) (n:α),Lc pr l (b:Nat)=((b+k:Nat):Int)∧l[k]?=some n∧l.find? pr=some n)∨(Lc pr l (b:Nat)=-1∧l.find? pr=none):=by
  intro l
  induction l with
  |nil=>intro b;exact .inr Zr
  |cons y l ih =>
   intro b;cases h:pr y with
   |true=>exact .inl ⟨0,y,by unfold Lc;rw[Al h];rfl,rfl,by rw[ED,h]⟩
   |false =>
    have e:Lc pr (y::l) (b:Nat)=Lc pr l ((b+1:Nat):Int):=by
     conv=>lhs;unfold Lc
     rw[Ae (by rw[h];decide)];rw[show((b+1:Nat):Int)=(b:Int)+1 by omega]
    have e2:(y::l).find? pr=l.find? pr:=by rw[ED,h]
    rcases ih (b+1)with ⟨k,n,h1,h2,h3⟩ | ⟨h1,h2⟩
    ·exact .inl ⟨k+1,n,by rw[e,h1];congr 1;omega,by simpa using h2,by rw[e2];exact h3⟩
    ·exact .inr ⟨by rw[e];exact h1,by rw[e2];exact h2⟩
 have:=key l 0
 simpa using this
section
variable {rec:List Cd→SS→List (List Sk)→Kx}{x:List Rl}{p:ByteArray}{N:List Nd}{n0:Nd}{dec:List Cd}{st:List (List Sk)}{cs:List Cd}{i:Nat}{S:SS}{rs:List Nat}{sk:List Sk}
theorem jF(h:¬i<cs.length):DX rec x p N n0 dec st (cs.drop i) S rs sk=⟨(DZ x p n0 rs S).1,false,(DZ x p n0 rs S).2,dec,st⟩:=by
 rw[CK ch];rfl
theorem nP(h:i<cs.length)(hf:S.full=true):DX rec x p N n0 dec st (cs.drop i) S rs sk=⟨0,false,S,dec,st⟩:=by
 rw[AP h,Gm,Al hf]
theorem uN(h:i<cs.length)(hf:S.full=false){n:Nd}(hn:N.find? (fun n=>!has n.rq.set cs[i].place)=some n):DX rec x p N n0 dec st (cs.drop i) S rs sk=DX rec x p N n0 dec st (cs.drop (i+1)) (BH S n).2 (rs++[(BH S n).1]) sk:=by
 rw[AP h,Gm,Ae (by rw[hf];decide),hn]
theorem XX(h:i<cs.length)(hf:S.full=false)(hn:N.find? (fun n=>!has n.rq.set cs[i].place)=none){k:Nat}(he:OG S.drv (AD (dec++[cs[i]]))=some k):DX rec x p N n0 dec st (cs.drop i) S rs sk=Je rec x p N n0 dec st cs[i] (cs.drop (i+1)) rs sk k S:=by
 rw[AP h,Gm,Ae (by rw[hf];decide),hn];dsimp only;rw[he]
theorem Y7(h:i<cs.length)(hf:S.full=false)(hn:N.find? (fun n=>!has n.rq.set cs[i].place)=none)(he:OG S.drv (AD (dec++[cs[i]]))=none){n:Nd}(hc:Dc dec cs[i]=some n) :
  DX rec x p N n0 dec st (cs.drop i) S rs sk=Je rec x p N n0 dec st cs[i] (cs.drop (i+1)) rs sk (BH S n).1 (BH S n).2:=by
 rw[AP h,Gm,Ae (by rw[hf];decide),hn];dsimp only;rw[he];dsimp only;rw[hc]
theorem XY(h:i<cs.length)(hf:S.full=false)(hn:N.find? (fun n=>!has n.rq.set cs[i].place)=none)(he:OG S.drv (AD (dec++[cs[i]]))=none)(hc:Dc dec cs[i]=none){o:Kx}(ho:o=rec (dec++[cs[i]]) S (st++[sk])) :
  DX rec x p N n0 dec st (cs.drop i) S rs sk=if o.found=true then⟨0,true,o.ss,o.dec,o.stack⟩else if o.ss.full=true then⟨0,false,o.ss,dec,st⟩else Je rec x p N n0 dec st cs[i] (cs.drop (i+1)) rs sk o.res o.ss:=by
 rw[ho,AP h,Gm,Ae (by rw[hf];decide),hn];dsimp only;rw[he];dsimp only;rw[hc]
theorem dv{c:Cd}{l:List Cd}{k:Nat}(h:Dm (D7 S k) p=false):Je rec x p N n0 dec st c l rs sk k S=⟨k,false,S,dec,st⟩:=by unfold Je;rw[Al h]
theorem XN{c:Cd}{l:List Cd}{k:Nat}(h:Dm (D7 S k) p=true):Je rec x p N n0 dec st c l rs sk k S=DX rec x p N n0 dec st l S (rs++[k]) (sk++[⟨p,c.place,(k:Nat)⟩]):=by unfold Je;rw[Ae (by rw[h];decide)]
end
theorem Ud{x:List Rl}{dec:List Cd}(h:Ef x dec):dec.length≤x.length:=by
 have h1:=I8 (m:=x.map (·.path)) h.nodup fun p hp=>by
  obtain⟨c,hc,rfl⟩:=Am.1 hp;exact Am.2 ⟨c.rel,(h.cand c hc).1,rfl⟩
 rw[Lm,Lm]at h1;exact h1
theorem Wy(x:List Rl)(p:ByteArray):(BJ x p).length≤x.length:=by
 unfold BJ;rw[Lm];exact BC _ _
end Go.Eng
