/- Lemmas for the claims of this seat, without a condition: part 25 (S10, S8b). -/
import Derived.Test.YtkmnnpmneamgoaaGreatDoorA24
namespace Go.Eng
open Go.Proofs
theorem nC{h:Nat→HO}{o k r sz:Nat}{cs:List AV}{K:(Nat→HO)→Prop}(c1:h o=.cells cs)(c2:IX cs k=.v (.slice none 0 0))(c3:h r=.free)(hk:K (AT (AT h r (.var sz 0 0)) o (.cells (Er cs k (.slice (.ver r sz 0) []))))):oN h o k r sz K:=by
 unfold oN;rw[c1];show match IX cs k with
  |.v (.slice none 0 0)=>match h r with
   |.free=>K (AT (AT h r (.var sz 0 0)) o (.cells (Er cs k (.slice (.ver r sz 0) []))))
   |_=>False
  |_=>False
 rw[c2,c3];exact hk
theorem nT{o k r0 sz:Nat}{Ph:Cx}{P:Program}{N:Nat}{fn:Func}{σ:Hh}{Q:AV→(Nat→HO)→Prop}{b rest:Code}{st:St}(cs:List AV)(c1:st.h o=.cells cs)(c2:IX cs k=.v (.slice none 0 0))(c3:st.h r0=.free)(σF σr:Hh)(H0 Hn:List (Nat×HO))(gf:Nat)(caps:List AV)
  {O4 s:Nat} {ps:Array Tmp} {Eb body:Code} (hb:b=.block O4 (.rangeFunc (.tmp s) ps Eb body)) (k1:(DZ σF&&Dq (AT (AT st.h r0 (.var sz 0 0)) o (.cells (Er cs k (.slice (.ver r0 sz 0) [])))) 0 0&&CZ σF 0 0)=true) (k2:E3 σF (AT (AT st.h r0 (.var sz 0 0)) o (.cells (Er cs k (.slice (.ver r0 sz 0) []))))=Ad H0 Aa) (k3:(EH σr&&FA σr H0)=true) (k4:FA σr Hn=true)
  (k5:ren (Ch σF) (AT (AT st.h r0 (.var sz 0 0)) o (.cells (Er cs k (.slice (.ver r0 sz 0) [])))) (st.t s)=.clo gf caps)
  (k6:∀(l D:Nat) (f' : FuncId) (tm:Array Value),tm.size=N→MU P (fun g w=>w.heap[l]?=some (.loop (E2 f' tm ps Eb body D .ready))∧∀i,BF g w (AK (Ad H0 Aa)) (ren (Ch σF) (AT (AT st.h r0 (.var sz 0 0)) o (.cells (Er cs k (.slice (.ver r0 sz 0) [])))) (st.t i)) (tm.getD i undef)) σr gf
   (.v (.func (.yield l) #[] #[])::caps) (Ad H0 Aa) fun _ h'=>h'=Ad Hn Aa)
  (k7:Dx N rest=true) (k8:MX Ph rest (TV Ph fn.results.toList σr fun r h'=>Q (ren (Ch σ) (D2 σF 0 0 (AT (AT st.h r0 (.var sz 0 0)) o (.cells (Er cs k (.slice (.ver r0 sz 0) [])))) h') (ren (E7 σF 0 0) h' r)) (E3 σ (D2 σF 0 0 (AT (AT st.h r0 (.var sz 0 0)) o (.cells (Er cs k (.slice (.ver r0 sz 0) [])))) h')))
   ⟨fun i=>ren (Ch σF) (AT (AT st.h r0 (.var sz 0 0)) o (.cells (Er cs k (.slice (.ver r0 sz 0) [])))) (st.t i),Ad Hn Aa⟩) (k9:Lz [] body=false:=by kernel_rfl):sC o k r0 sz Ph P N fn σ Q b rest st :=
 nC c1 c2 c3 ⟨σF,σr,H0,Hn,O4,s,ps,Eb,body,gf,caps,hb,k1,k2,k3,k4,k5,k6,k7,k9,k8⟩
section
variable {roots:List Rq}{C A:List (Value×AV)}{s:SS}{dec:List Cd}{st:List (List Sk)}{n:Nd}
theorem S8{m:Nat}{p:ByteArray}{o:List Nd}(e:FR roots dec (m+1)=(p,o)){es:List (List AV)}{k:Nat}(h1:es=o.map AQ)(h2:k=es.length) :
  Ad [(1000,.cells (OX roots C A s dec st.length)),(1001,.tok 6 s.infs.length),(1002,.tok 1 s.drv.length),(1003,.map Dj (DT 0 s.infs)),(1004,.arr 1 (st.map AP)),
   (1005,.cells [.ref 1000 0]),(1006,.cells [vs p]),(1007,.cells [.slice (.ver 1008 5 (m+1)) es]),(1008,.var 5 (m+1) k),(1009,.cells [.ref 1000 0])] Aa=Ad (gA roots C A s dec st (m+1)) Aa:=by
 subst h1;subst h2
 rw[show gA roots C A s dec st (m+1)=[(1000,.cells (OX roots C A s dec st.length)),(1001,.tok 6 s.infs.length),(1002,.tok 1 s.drv.length),(1003,.map Dj (DT 0 s.infs)),(1004,.arr 1 (st.map AP)),
   (1005,.cells [.ref 1000 0]),(1006,.cells [vs (FR roots dec (m+1)).1]),(1007,.cells [.slice (.ver 1008 5 (m+1)) ((FR roots dec (m+1)).2.map AQ)]),(1008,.var 5 (m+1) ((FR roots dec (m+1)).2.map AQ).length),(1009,.cells [.ref 1000 0])]from rfl,e]
theorem gD{a:ByteArray×List Nd}(h:CD dec n.rq.path=true):Ea dec a n=(a.1,a.2):=by unfold Ea;rw[Aw (.inl h)]
theorem gn{o:List Nd}(h:(0:Int)<((o.map AQ).length:Int)):o≠[]:=fun e=>by subst e;simp at h
theorem kw{o:List Nd}(h:¬(0:Int)<((o.map AQ).length:Int)):o=[]:=by
 cases o with
 |nil=>rfl
 |cons y l=>exact absurd (by simp) h
theorem kE{a:ByteArray×List Nd}(h:(0:Int)<((a.2.map AQ).length:Int))(hb:FV a.1 n.rq.path=true):Ea dec a n=(a.1,a.2):=by unfold Ea;rw[Aw (.inr ⟨gn h,hb⟩)]
theorem gE{a:ByteArray×List Nd}(hd:CD dec n.rq.path=false)(h:(0:Int)<((a.2.map AQ).length:Int))(hb:FV a.1 n.rq.path=false)(hs:FV n.rq.path a.1=true):Ea dec a n=(n.rq.path,[n]):=by
 unfold Ea;rw[Am (by rw[hd,hb];simp),Aw ⟨gn h,hs⟩]
theorem gF{a:ByteArray×List Nd}(hd:CD dec n.rq.path=false)(hb:FV a.1 n.rq.path=false)(hs:FV n.rq.path a.1=false):Ea dec a n=(n.rq.path,a.2++[n]):=by
 unfold Ea;rw[Am (by rw[hd,hb];simp),Am (by rw[hs];simp)]
theorem kG{a:ByteArray×List Nd}(hd:CD dec n.rq.path=false)(h:¬(0:Int)<((a.2.map AQ).length:Int)):Ea dec a n=(n.rq.path,a.2++[n]):=by
 have:=kw h
 unfold Ea;rw[Am (by rw[hd,this];simp),Am (by rw[this];simp)]
theorem kF(a:ByteArray×List Nd)(n:Nd):(Ea dec a n).2.length≤a.2.length+1:=by
 unfold Ea;split
 ·omega
 ·split
  ·simp
  ·simp
theorem an:∀(m:Nat),(FR roots dec m).2.length≤m
 |0=>Ak _
 |m+1=>by
  have ih:=an m;cases h:(Db roots dec)[m]? with
  |none =>
   have e:FR roots dec (m+1)=FR roots dec m:=by unfold FR;rw[Bk,h];simp
   rw[e];omega
  |some n=>rw[XQ h];exact Bh (kF _ _) (Eg ih)
theorem X9:∀{l l' : List (Nat×HO)},l.map Prod.fst=l'.map Prod.fst→(∀p∈l',p.2≠.free)→∀i,AK (Ad l Aa) i→AK (Ad l' Aa) i
 | [],[],_,_,_,h=>h
 |(a,o)::l,(a',o')::l',e,h,i,hu=>by
  rw[AM,AM]at e
  injection e with e1 e2
  have e1:a=a':=e1;subst e1;unfold AK at *
  by_cases q:i=a
  ·subst q;simp only[Ad,CU,JE];exact h _ (Ab ..)
  ·simp only[Ad,Cc q,D1]at hu⊢;exact X9 e2 (fun p hp=>h p (Ag _ hp)) i hu
theorem gC(m:Nat):∀i,AK (Ad (gA roots C A s dec st 0) Aa) i→AK (Ad (gA roots C A s dec st m) Aa) i:=X9 rfl (by
 repeat (first | exact MV _ | refine Ds.2 ⟨by simp,?_⟩))
theorem aF:∀{l:List Cd},(∀c∈l,c.rel.reqs.length≤1073741824)→((l.map fun c=>c.rel.reqs.length)).sum≤l.length*1073741824
 | [],_=>by simp
 |c::l,h=>by
  have h1:=h c (Ab ..);have h2:=aF fun c hc=>h c (Ag _ hc);rw[AM,List.sum_cons,Al];omega
theorem cr(hr:roots.length≤1073741824)(hd:dec.length≤1000)(h:∀c∈dec,c.rel.reqs.length≤1073741824):(Db roots dec).length≤1074815565824:=by
 rw[←XT];unfold EC;rw[DU]
 have:=aF h
 have:=Bc 1073741824 hd
 omega
end
theorem XE(l:List Nd)(n:Nd):l.map AQ++[AQ n]=(l++[n]).map AQ:=by rw[AB];rfl
theorem OC(l:List Nd)(n:Nd):(l.map AQ).length+([AQ n]:List (List AV)).length=(l.map AQ++[AQ n]).length:=Ac.symm
attribute [local irreducible] sC oN FR Db Ea
set_option maxHeartbeats 4000000 in
theorem yw(roots:List Rq)(C A:List (Value×AV))(s:SS)(dec:List Cd)(st:List (List Sk))(hr:roots.length≤1073741824)(hd:dec.length≤1000)(oz:∀c∈dec,c.rel.reqs.length≤1073741824) :
  Bn Tryz.prog 64 [.ref 1000 0] (Ad (HL roots C A s dec st) Aa) fun r h'=>r=.tup [vs (Dz roots dec).1,sl AQ (Dz roots dec).2]∧h'=Ad (HL roots C A s dec st) Aa:=by
 refine aR 5 0 9 5 (Iv ⟨[],[],[],[],[],[],[],[],[],[],[]⟩) (Iv FC) Ue rfl BS rfl BS hm rfl rfl Tryz.func64 (by kernel_rfl) rfl (Nz rfl) (by kernel_rfl) rfl 3 ?_;refine Yi (Nz rfl) ?_;refine Xi (.gen Ue 1) (Yi rfl (Bn.imp (wK roots C A s dec st) ?_));intro v1 g1 q1;have Zj:=q1.1;have Zk:=q1.2;subst Zj;subst Zk;refine nT [.v (.slice none 0 0)] (by kernel_rfl) (by kernel_rfl) (by kernel_rfl) [(1000,1000),(1001,1001),(1002,1002),(1003,1003),(1004,1004),(10800,1005),(4,1006),(5,1007),(9,1008),(1,1009)] Yd (gA roots C A s dec st 0) (gA roots C A s dec st (Db roots dec).length) 170 [.ref 1005 0] rfl (by kernel_rfl) (by kernel_rfl) (by kernel_rfl) (by kernel_rfl) (by kernel_rfl) (fun l9 D9 f9 yA oH=>wL l9 roots C A s dec st hr (Bh hd (by decide)) oz fun m n hn=>dj (σ:=Yd) 1007 0 1008 (Iv ⟨[],[(43,5)],[],[],[],[],[],[],[],[(500005,60001007)],[5]⟩) rfl BS hm rfl rfl rfl oH (by kernel_rfl) (by kernel_rfl) (by kernel_rfl) (gC m) ?_) (by kernel_rfl) ?_
 ·have uU:m<(Db roots dec).length:=(At.1 hn).1;have sb:=an (roots:=roots) (dec:=dec) m;have hnl:=cr hr hd oz;have hF:=XQ hn;refine Yi (Nz rfl) ?_;refine Yi ⟨rfl,rfl⟩ ?_;refine Xi ⟨[(1,.ref 1009 0),(4,.ref 1006 0),(5,.ref 1007 0),(6,.ref 6 0)],[(6,.cells (AQ n)),(60,.tok 5 ((FR roots dec m).2.map AQ).length),(1000,.cells (srM roots C A s dec 1004 st.length)),(1001,.tok 6 s.infs.length),(1002,.tok 1 s.drv.length),(1003,.map Dj (DT 0 s.infs)),(1004,.arr 1 (st.map AP)),(1005,.cells [.ref 1000 0]),(1006,.cells [vs (FR roots dec m).1]),(1007,.cells [.slice (.id 60 5) ((FR roots dec m).2.map AQ)]),(1008,.vox m),(1009,.cells [.ref 1000 0])],Aa⟩ (Yi ⟨Z4,Z12,Fh,Aj (by kernel_rfl)⟩ ?_)
  refine Cy (Bt (CD dec n.rq.path)) (fun h2=>?_) (fun h2=>?_)
  ·have h2:(CD dec n.rq.path)=true:=h2;have qa:=(rF roots C A s dec st n.rq.path (Bh hd (by decide)));rw[show(CD dec n.rq.path)=true from h2]at qa;refine Xi (.gen Ue 0) (Yi rfl (Bn.imp qa ?_));intro v4 g4 q4;have rk:=q4.1;have rl:=q4.2;subst rk;subst rl;refine Yi ⟨rfl,rfl⟩ ?_
   -- [('(CD dec n.rq.path)=true',True)]
   exact⟨rfl,S8 (hF.trans (gD h2)) rfl rfl⟩
  have h2:(CD dec n.rq.path)=false:=h2;have qd:=(rF roots C A s dec st n.rq.path (Bh hd (by decide)));rw[show(CD dec n.rq.path)=false from h2]at qd;refine Xi (.gen Ue 0) (Yi rfl (Bn.imp qd ?_));intro v6 g6 q6;have wu:=q6.1;have wv:=q6.2;subst wu;subst wv;refine Yi (fun h7=>?_) (fun h7=>?_)
  ·have h7:(0:Int)<(((FR roots dec m).2.map AQ).length:Int):=h7;have n7:0<(FR roots dec m).2.length:=by have q:=h7;rw[Lm]at q;omega
   refine Yi (fun h8=>?_) (fun h8=>?_)
   ·have h8:FV (FR roots dec m).1 n.rq.path=true:=(G1 _ _).trans h8;refine Yi ⟨rfl,rfl⟩ ?_
    -- [('(CD dec n.rq.path)=true',False),('(0:Int)<(((FR roots dec m).2.map AQ).length:Int)',True),('FV (FR roots dec m).1 n.rq.path=true',True)]
    exact⟨rfl,S8 (hF.trans (kE h7 h8)) rfl rfl⟩
   have h8:FV (FR roots dec m).1 n.rq.path=false:=(G1 _ _).trans (AL.2 h8);refine Yi (fun _=>?_) (fun hf=>absurd h7 hf);refine Yi (fun h9=>?_) (fun h9=>?_)
   ·have h9:FV n.rq.path (FR roots dec m).1=true:=(G1 _ _).trans h9;refine Yi (Nz rfl) ?_;refine Yi (Nz rfl) ?_;refine Yi (Nz rfl) ?_;have ZE:BY 5 [(AQ n)]∧([(AQ n)]:List (List AV)).length*72≤140737488355328∧([(AQ n)]:List (List AV)).length≤9223372036854775807:=⟨⟨rfl,trivial⟩,(by simp only[Al,Ar];omega),(by simp only[Al,Ar];omega)⟩;refine Yi ZE ?_;refine Yi (Nz rfl) ?_;refine Yi ⟨rfl,rfl⟩ ?_
    -- [('(CD dec n.rq.path)=true',False),('(0:Int)<(((FR roots dec m).2.map AQ).length:Int)',True),('FV (FR roots dec m).1 n.rq.path=true',False),('FV n.rq.path (FR roots dec m).1=true',True)]
    exact⟨rfl,S8 (hF.trans (gE h2 h7 h8 h9)) rfl rfl⟩
   have h9:FV n.rq.path (FR roots dec m).1=false:=(G1 _ _).trans (AL.2 h9);refine Yi (Nz rfl) ?_;refine Yi (Nz rfl) ?_;have dQ:BY 5 [(AQ n)]∧((FR roots dec m).2.map AQ).length=((FR roots dec m).2.map AQ).length∧(((FR roots dec m).2.map AQ).length+([(AQ n)]:List (List AV)).length)*72≤140737488355328∧((FR roots dec m).2.map AQ).length+([(AQ n)]:List (List AV)).length≤9223372036854775807:=⟨⟨rfl,trivial⟩,rfl,(by simp only[Lm,Al,Ar];omega),(by simp only[Lm,Al,Ar];omega)⟩;refine Yi dQ ?_;refine Yi (Nz rfl) ?_;refine Yi ⟨(OC _ n).symm,rfl⟩ ?_
   -- [('(CD dec n.rq.path)=true',False),('(0:Int)<(((FR roots dec m).2.map AQ).length:Int)',True),('FV (FR roots dec m).1 n.rq.path=true',False),('FV n.rq.path (FR roots dec m).1=true',False)]
   exact⟨rfl,S8 (hF.trans (gF h2 h8 h9)) (XE _ n) (OC _ n)⟩
  have h7:¬((0:Int)<(((FR roots dec m).2.map AQ).length:Int)):=h7;have n7:¬0<(FR roots dec m).2.length:=by have q:=h7;rw[Lm]at q;omega
  refine Yi (fun hf=>absurd hf h7) (fun _=>?_);refine Yi (Nz rfl) ?_;refine Yi (Nz rfl) ?_;have rR:BY 5 [(AQ n)]∧((FR roots dec m).2.map AQ).length=((FR roots dec m).2.map AQ).length∧(((FR roots dec m).2.map AQ).length+([(AQ n)]:List (List AV)).length)*72≤140737488355328∧((FR roots dec m).2.map AQ).length+([(AQ n)]:List (List AV)).length≤9223372036854775807:=⟨⟨rfl,trivial⟩,rfl,(by simp only[Lm,Al,Ar];omega),(by simp only[Lm,Al,Ar];omega)⟩;refine Yi rR ?_;refine Yi (Nz rfl) ?_;refine Yi ⟨(OC _ n).symm,rfl⟩ ?_
  -- [('(CD dec n.rq.path)=true',False),('(0:Int)<(((FR roots dec m).2.map AQ).length:Int)',False)]
  exact⟨rfl,S8 (hF.trans (kG h2 h7)) (XE _ n) (OC _ n)⟩
 refine Yi (by kernel_rfl) ?_;exact Xi _ (Yi (.refl _) ⟨show AV.tup [vs (FR roots dec (Db roots dec).length).1,sl AQ (FR roots dec (Db roots dec).length).2]=_ by rw[kD (Ak _)],rfl⟩)
end Go.Eng

namespace Go.Eng
open Go.Proofs
theorem bW{α:Type}(pr:α→Bool)(l:List α):(∃(k:Nat) (n:α),Jz pr l 0=(k:Nat)∧l[k]?=some n∧l.find? pr=some n)∨(Jz pr l 0=-1∧l.find? pr=none):=by
 have key:∀(l:List α) (b:Nat),(∃(k:Nat) (n:α),Jz pr l (b:Nat)=((b+k:Nat):Int)∧l[k]?=some n∧l.find? pr=some n)∨(Jz pr l (b:Nat)=-1∧l.find? pr=none):=by
  intro l
  induction l with
  |nil=>intro b;exact .inr Zr
  |cons y l ih =>
   intro b;cases h:pr y with
   |true=>exact .inl ⟨0,y,by unfold Jz;rw[Aw h];rfl,rfl,by rw[FG,h]⟩
   |false =>
    have e:Jz pr (y::l) (b:Nat)=Jz pr l ((b+1:Nat):Int):=by
     conv=>lhs;unfold Jz
     rw[Am (by rw[h];decide)];rw[show((b+1:Nat):Int)=(b:Int)+1 by omega]
    have e2:(y::l).find? pr=l.find? pr:=by rw[FG,h]
    rcases ih (b+1)with ⟨k,n,h1,h2,h3⟩ | ⟨h1,h2⟩
    ·exact .inl ⟨k+1,n,by rw[e,h1];congr 1;omega,by simpa using h2,by rw[e2];exact h3⟩
    ·exact .inr ⟨by rw[e];exact h1,by rw[e2];exact h2⟩
 have:=key l 0
 simpa using this
section
variable {rec:List Cd→SS→List (List Sk)→Ju}{x:List Rl}{p:ByteArray}{N:List Nd}{n0:Nd}{dec:List Cd}{st:List (List Sk)}{cs:List Cd}{i:Nat}{S:SS}{rs:List Nat}{sk:List Sk}
theorem dZ(h:¬i<cs.length):DB rec x p N n0 dec st (cs.drop i) S rs sk=⟨(DD x p n0 rs S).1,false,(DD x p n0 rs S).2,dec,st⟩:=by
 rw[Kc (by omega)];rfl
theorem jq(h:i<cs.length)(hf:S.full=true):DB rec x p N n0 dec st (cs.drop i) S rs sk=⟨0,false,S,dec,st⟩:=by
 rw[Br h,FQ,Aw hf]
theorem pF(h:i<cs.length)(hf:S.full=false){n:Nd}(hn:N.find? (fun n=>!has n.rq.set cs[i].place)=some n):DB rec x p N n0 dec st (cs.drop i) S rs sk=DB rec x p N n0 dec st (cs.drop (i+1)) (A8 S n).2 (rs++[(A8 S n).1]) sk:=by
 rw[Br h,FQ,Am (by rw[hf];decide),hn]
theorem Vy(h:i<cs.length)(hf:S.full=false)(hn:N.find? (fun n=>!has n.rq.set cs[i].place)=none){k:Nat}(he:Nr S.drv (Ax (dec++[cs[i]]))=some k):DB rec x p N n0 dec st (cs.drop i) S rs sk=Ib rec x p N n0 dec st cs[i] (cs.drop (i+1)) rs sk k S:=by
 rw[Br h,FQ,Am (by rw[hf];decide),hn];dsimp only;rw[he]
theorem WG(h:i<cs.length)(hf:S.full=false)(hn:N.find? (fun n=>!has n.rq.set cs[i].place)=none)(he:Nr S.drv (Ax (dec++[cs[i]]))=none){n:Nd}(hc:Dw dec cs[i]=some n) :
  DB rec x p N n0 dec st (cs.drop i) S rs sk=Ib rec x p N n0 dec st cs[i] (cs.drop (i+1)) rs sk (A8 S n).1 (A8 S n).2:=by
 rw[Br h,FQ,Am (by rw[hf];decide),hn];dsimp only;rw[he];dsimp only;rw[hc]
theorem Vz(h:i<cs.length)(hf:S.full=false)(hn:N.find? (fun n=>!has n.rq.set cs[i].place)=none)(he:Nr S.drv (Ax (dec++[cs[i]]))=none)(hc:Dw dec cs[i]=none){o:Ju}(ho:o=rec (dec++[cs[i]]) S (st++[sk])) :
  DB rec x p N n0 dec st (cs.drop i) S rs sk=if o.found=true then⟨0,true,o.ss,o.dec,o.stack⟩else if o.ss.full=true then⟨0,false,o.ss,dec,st⟩else Ib rec x p N n0 dec st cs[i] (cs.drop (i+1)) rs sk o.res o.ss:=by
 rw[ho,Br h,FQ,Am (by rw[hf];decide),hn];dsimp only;rw[he];dsimp only;rw[hc]
theorem Zz{c:Cd}{l:List Cd}{k:Nat}(h:Cq (Do S k) p=false):Ib rec x p N n0 dec st c l rs sk k S=⟨k,false,S,dec,st⟩:=by unfold Ib;rw[Aw h]
theorem Vs{c:Cd}{l:List Cd}{k:Nat}(h:Cq (Do S k) p=true):Ib rec x p N n0 dec st c l rs sk k S=DB rec x p N n0 dec st l S (rs++[k]) (sk++[⟨p,c.place,(k:Nat)⟩]):=by unfold Ib;rw[Am (by rw[h];decide)]
end
theorem LQ{x:List Rl}{dec:List Cd}(h:DX x dec):dec.length≤x.length:=by
 have h1:=GV (m:=x.map (·.path)) h.nodup fun p hp=>by
  obtain⟨c,hc,rfl⟩:=Ao.1 hp;exact Ao.2 ⟨c.rel,(h.cand c hc).1,rfl⟩
 rw[Lm,Lm]at h1;exact h1
theorem Pe(x:List Rl)(p:ByteArray):(Bm x p).length≤x.length:=by
 unfold Bm;rw[Lm];exact By _ _
end Go.Eng
