/- Lemmas for the claims of this seat, without a condition: part 30 (S10, S8b). -/
import Derived.Test.YtmcbkdbfaneofaaGreatDoorBA29
import Derived.Test.YtmcbkdbfaneofaaGreatDoorBA04
namespace Go.Eng
open Go.Proofs
theorem pF{h:Nat→HO}{o k r sz:Nat}{cs:List AV}{K:(Nat→HO)→Prop}(c1:h o=.cells cs)(c2:Jp cs k=.v (.slice none 0 0))(c3:h r=.free)(hk:K (A2 (A2 h r (.var sz 0 0)) o (.cells (EM cs k (.slice (.ver r sz 0) []))))):qD h o k r sz K:=by
 unfold qD;rw[c1];show match Jp cs k with
  |.v (.slice none 0 0)=>match h r with
   |.free=>K (A2 (A2 h r (.var sz 0 0)) o (.cells (EM cs k (.slice (.ver r sz 0) []))))
   |_=>False
  |_=>False
 rw[c2,c3];exact hk
theorem pS{o k r0 sz:Nat}{cK:Cx}{P:Program}{N:Nat}{fn:Func}{σ:Ji}{Q:AV→(Nat→HO)→Prop}{b rest:Code}{st:St}(cs:List AV)(c1:st.h o=.cells cs)(c2:Jp cs k=.v (.slice none 0 0))(c3:st.h r0=.free)(σF σr:Ji)(H0 Hn:List (Nat×HO))(gf:Nat)(caps:List AV)
  {mT s:Nat} {ps:Array Tmp} {GU body:Code} (hb:b=.block mT (.rangeFunc (.tmp s) ps GU body)) (k1:(Ey σF&&DP (A2 (A2 st.h r0 (.var sz 0 0)) o (.cells (EM cs k (.slice (.ver r0 sz 0) [])))) 0 0&&DB σF 0 0)=true) (k2:FO σF (A2 (A2 st.h r0 (.var sz 0 0)) o (.cells (EM cs k (.slice (.ver r0 sz 0) []))))=Ap H0 Ab) (k3:(G0 σr&&IR σr H0)=true) (k4:IR σr Hn=true)
  (k5:ren (CB σF) (A2 (A2 st.h r0 (.var sz 0 0)) o (.cells (EM cs k (.slice (.ver r0 sz 0) [])))) (st.t s)=.clo gf caps)
  (k6:∀(l D:Nat) (f' : FuncId) (tm:Array Value),tm.size=N→Xt P (fun g w=>w.heap[l]?=some (.loop (Ik f' tm ps GU body D .ready))∧∀i,BP g w (AW (Ap H0 Ab)) (ren (CB σF) (A2 (A2 st.h r0 (.var sz 0 0)) o (.cells (EM cs k (.slice (.ver r0 sz 0) [])))) (st.t i)) (tm.getD i undef)) σr gf
   (.v (.func (.yield l) #[] #[])::caps) (Ap H0 Ab) fun _ h'=>h'=Ap Hn Ab)
  (k7:EE N rest=true) (k8:RW cK rest (XT cK fn.results.toList σr fun r h'=>Q (ren (CB σ) (Eh σF 0 0 (A2 (A2 st.h r0 (.var sz 0 0)) o (.cells (EM cs k (.slice (.ver r0 sz 0) [])))) h') (ren (Fl σF 0 0) h' r)) (FO σ (Eh σF 0 0 (A2 (A2 st.h r0 (.var sz 0 0)) o (.cells (EM cs k (.slice (.ver r0 sz 0) [])))) h')))
   ⟨fun i=>ren (CB σF) (A2 (A2 st.h r0 (.var sz 0 0)) o (.cells (EM cs k (.slice (.ver r0 sz 0) [])))) (st.t i),Ap Hn Ab⟩) (k9:OX [] body=false:=by kernel_rfl):uR o k r0 sz cK P N fn σ Q b rest st :=
 pF c1 c2 c3 ⟨σF,σr,H0,Hn,mT,s,ps,GU,body,gf,caps,hb,k1,k2,k3,k4,k5,k6,k7,k9,k8⟩
section
variable {roots:List Rq}{C A:List (Value×AV)}{s:SS}{dec:List Cd}{st:List (List Sk)}{n:Nd}
theorem Ud{m:Nat}{p:ByteArray}{o:List Nd}(e:Gr roots dec (m+1)=(p,o)){es:List (List AV)}{k:Nat}(h1:es=o.map Bf)(h2:k=es.length) :
  Ap [(1000,.cells (uL roots C A s dec st.length)),(1001,.tok 6 s.infs.length),(1002,.tok 1 s.drv.length),(1003,.map D4 (D6 0 s.infs)),(1004,.arr 1 (st.map AX)),
   (1005,.cells [.ref 1000 0]),(1006,.cells [vs p]),(1007,.cells [.slice (.ver 1008 5 (m+1)) es]),(1008,.var 5 (m+1) k),(1009,.cells [.ref 1000 0])] Ab=Ap (iZ roots C A s dec st (m+1)) Ab:=by
 subst h1;subst h2
 rw[show iZ roots C A s dec st (m+1)=[(1000,.cells (uL roots C A s dec st.length)),(1001,.tok 6 s.infs.length),(1002,.tok 1 s.drv.length),(1003,.map D4 (D6 0 s.infs)),(1004,.arr 1 (st.map AX)),
   (1005,.cells [.ref 1000 0]),(1006,.cells [vs (Gr roots dec (m+1)).1]),(1007,.cells [.slice (.ver 1008 5 (m+1)) ((Gr roots dec (m+1)).2.map Bf)]),(1008,.var 5 (m+1) ((Gr roots dec (m+1)).2.map Bf).length),(1009,.cells [.ref 1000 0])]from rfl,e]
theorem i9{a:ByteArray×List Nd}(h:Du dec n.rq.path=true):Eu dec a n=(a.1,a.2):=by unfold Eu;rw[Au (.inl h)]
theorem iP{o:List Nd}(h:(0:Int)<((o.map Bf).length:Int)):o≠[]:=fun e=>by subst e;simp at h
theorem l7{o:List Nd}(h:¬(0:Int)<((o.map Bf).length:Int)):o=[]:=by
 cases o with
 |nil=>rfl
 |cons y l=>exact absurd (by simp) h
theorem mf{a:ByteArray×List Nd}(h:(0:Int)<((a.2.map Bf).length:Int))(hb:EJ a.1 n.rq.path=true):Eu dec a n=(a.1,a.2):=by unfold Eu;rw[Au (.inr ⟨iP h,hb⟩)]
theorem jc{a:ByteArray×List Nd}(hd:Du dec n.rq.path=false)(h:(0:Int)<((a.2.map Bf).length:Int))(hb:EJ a.1 n.rq.path=false)(hs:EJ n.rq.path a.1=true):Eu dec a n=(n.rq.path,[n]):=by
 unfold Eu;rw[Al (by rw[hd,hb];simp),Au ⟨iP h,hs⟩]
theorem jd{a:ByteArray×List Nd}(hd:Du dec n.rq.path=false)(hb:EJ a.1 n.rq.path=false)(hs:EJ n.rq.path a.1=false):Eu dec a n=(n.rq.path,a.2++[n]):=by
 unfold Eu;rw[Al (by rw[hd,hb];simp),Al (by rw[hs];simp)]
theorem mh{a:ByteArray×List Nd}(hd:Du dec n.rq.path=false)(h:¬(0:Int)<((a.2.map Bf).length:Int)):Eu dec a n=(n.rq.path,a.2++[n]):=by
 have:=l7 h
 unfold Eu;rw[Al (by rw[hd,this];simp),Al (by rw[this];simp)]
theorem mg(a:ByteArray×List Nd)(n:Nd):(Eu dec a n).2.length≤a.2.length+1:=by
 unfold Eu;split
 ·omega
 ·split
  ·simp
  ·simp
theorem bF:∀(m:Nat),(Gr roots dec m).2.length≤m
 |0=>Am _
 |m+1=>by
  have ih:=bF m;cases h:(DE roots dec)[m]? with
  |none =>
   have e:Gr roots dec (m+1)=Gr roots dec m:=by unfold Gr;rw[BA,h];simp
   rw[e];omega
  |some n=>rw[YO h];exact AT (mg _ _) (DT ih)
theorem Y8:∀{l l' : List (Nat×HO)},l.map Prod.fst=l'.map Prod.fst→(∀p∈l',p.2≠.free)→∀i,AW (Ap l Ab) i→AW (Ap l' Ab) i
 | [],[],_,_,_,h=>h
 |(a,o)::l,(a',o')::l',e,h,i,hu=>by
  rw[AQ,AQ]at e
  injection e with e1 e2
  have e1:a=a':=e1;subst e1;unfold AW at *
  by_cases q:i=a
  ·subst q;simp only[Ap,Dg,J9];exact h _ (Ac ..)
  ·simp only[Ap,CV q,Ez]at hu⊢;exact Y8 e2 (fun p hp=>h p (Ah _ hp)) i hu
theorem i7(m:Nat):∀i,AW (Ap (iZ roots C A s dec st 0) Ab) i→AW (Ap (iZ roots C A s dec st m) Ab) i:=Y8 rfl (by
 repeat (first | exact BV _ | refine BD.2 ⟨by simp,?_⟩))
theorem bY:∀{l:List Cd},(∀c∈l,c.rel.reqs.length≤1073741824)→((l.map fun c=>c.rel.reqs.length)).sum≤l.length*1073741824
 | [],_=>by simp
 |c::l,h=>by
  have h1:=h c (Ac ..);have h2:=bY fun c hc=>h c (Ah _ hc);rw[AQ,List.sum_cons,Av];omega
theorem dD(hr:roots.length≤1073741824)(hd:dec.length≤1000)(h:∀c∈dec,c.rel.reqs.length≤1073741824):(DE roots dec).length≤1074815565824:=by
 rw[←YR];unfold Fo;rw[Dq]
 have:=bY h
 have:=Bn 1073741824 hd
 omega
end
theorem YE(l:List Nd)(n:Nd):l.map Bf++[Bf n]=(l++[n]).map Bf:=by rw[AG];rfl
theorem Py(l:List Nd)(n:Nd):(l.map Bf).length+([Bf n]:List (List AV)).length=(l.map Bf++[Bf n]).length:=Ad.symm
attribute [local irreducible] uR qD Gr DE Eu
set_option maxHeartbeats 4000000 in
theorem s64(roots:List Rq)(C A:List (Value×AV))(s:SS)(dec:List Cd)(st:List (List Sk))(hr:roots.length≤1073741824)(hd:dec.length≤1000)(m7:∀c∈dec,c.rel.reqs.length≤1073741824) :
  Bj Tryz.prog 119 [.ref 1000 0] (Ap (Jq roots C A s dec st) Ab) fun r h'=>r=.tup [vs (GW roots dec).1,sl Bf (GW roots dec).2]∧h'=Ap (Jq roots C A s dec st) Ab:=by
 refine cj 5 0 9 5 (M4 ⟨[],[],[],[],[],[],[],[],[],[],[]⟩) (M4 EY) Zg rfl CX rfl CX hm rfl rfl Tryz.func119 (by kernel_rfl) rfl (Nz rfl) (by kernel_rfl) rfl 3 ?_;refine Yi (Nz rfl) ?_;refine Xi (.gen Zg 1) (Yi rfl (Bj.imp (yH roots C A s dec st) ?_));intro v1 g1 q1;have jA:=q1.1;have jB:=q1.2;subst jA;subst jB;refine pS [.v (.slice none 0 0)] (by kernel_rfl) (by kernel_rfl) (by kernel_rfl) [(1000,1000),(1001,1001),(1002,1002),(1003,1003),(1004,1004),(10800,1005),(4,1006),(5,1007),(9,1008),(1,1009)] Zf (iZ roots C A s dec st 0) (iZ roots C A s dec st (DE roots dec).length) 192 [.ref 1005 0] rfl (by kernel_rfl) (by kernel_rfl) (by kernel_rfl) (by kernel_rfl) (by kernel_rfl) (fun l9 D9 f9 tm9 uq=>yI l9 roots C A s dec st hr (AT hd (by decide)) m7 fun m n hn=>eZ (σ:=Zf) 1007 0 1008 (M4 ⟨[],[(43,5)],[],[],[],[],[],[],[],[(500005,60001007)],[5]⟩) rfl CX hm rfl rfl rfl uq (by kernel_rfl) (by kernel_rfl) (by kernel_rfl) (i7 m) ?_) (by kernel_rfl) ?_
 ·have zO:m<(DE roots dec).length:=(Aw.1 hn).1;have hol:=bF (roots:=roots) (dec:=dec) m;have hnl:=dD hr hd m7;have hF:=YO hn;refine Yi (Nz rfl) ?_;refine Yi ⟨rfl,rfl⟩ ?_;refine Xi ⟨[(1,.ref 1009 0),(4,.ref 1006 0),(5,.ref 1007 0),(6,.ref 6 0)],[(6,.cells (Bf n)),(60,.tok 5 ((Gr roots dec m).2.map Bf).length),(1000,.cells (srM roots C A s dec 1004 st.length)),(1001,.tok 6 s.infs.length),(1002,.tok 1 s.drv.length),(1003,.map D4 (D6 0 s.infs)),(1004,.arr 1 (st.map AX)),(1005,.cells [.ref 1000 0]),(1006,.cells [vs (Gr roots dec m).1]),(1007,.cells [.slice (.id 60 5) ((Gr roots dec m).2.map Bf)]),(1008,.vox m),(1009,.cells [.ref 1000 0])],Ab⟩ (Yi ⟨Z4,Z12,Fh,Az (by kernel_rfl)⟩ ?_)
  refine Bp (Bt (Du dec n.rq.path)) (fun h2=>?_) (fun h2=>?_)
  ·have h2:(Du dec n.rq.path)=true:=h2;have zw:=(tG roots C A s dec st n.rq.path (AT hd (by decide)));rw[show(Du dec n.rq.path)=true from h2]at zw;refine Xi (.gen Zg 0) (Yi rfl (Bj.imp zw ?_));intro v4 g4 q4;have yt:=q4.1;have yu:=q4.2;subst yt;subst yu;refine Yi ⟨rfl,rfl⟩ ?_
   -- [('(Du dec n.rq.path)=true',True)]
   exact⟨rfl,Ud (hF.trans (i9 h2)) rfl rfl⟩
  have h2:(Du dec n.rq.path)=false:=h2;have zx:=(tG roots C A s dec st n.rq.path (AT hd (by decide)));rw[show(Du dec n.rq.path)=false from h2]at zx;refine Xi (.gen Zg 0) (Yi rfl (Bj.imp zx ?_));intro v6 g6 q6;have yv:=q6.1;have yw:=q6.2;subst yv;subst yw;refine Yi (fun h7=>?_) (fun h7=>?_)
  ·have h7:(0:Int)<(((Gr roots dec m).2.map Bf).length:Int):=h7;have n7:0<(Gr roots dec m).2.length:=by have q:=h7;rw[Lm]at q;omega
   refine Yi (fun h8=>?_) (fun h8=>?_)
   ·have h8:EJ (Gr roots dec m).1 n.rq.path=true:=(EX _ _).trans h8;refine Yi ⟨rfl,rfl⟩ ?_
    -- [('(Du dec n.rq.path)=true',False),('(0:Int)<(((Gr roots dec m).2.map Bf).length:Int)',True),('EJ (Gr roots dec m).1 n.rq.path=true',True)]
    exact⟨rfl,Ud (hF.trans (mf h7 h8)) rfl rfl⟩
   have h8:EJ (Gr roots dec m).1 n.rq.path=false:=(EX _ _).trans (AD.2 h8);refine Yi (fun _=>?_) (fun hf=>absurd h7 hf);refine Yi (fun h9=>?_) (fun h9=>?_)
   ·have h9:EJ n.rq.path (Gr roots dec m).1=true:=(EX _ _).trans h9;refine Yi (Nz rfl) ?_;refine Yi (Nz rfl) ?_;refine Yi (Nz rfl) ?_;have Za:Da 5 [(Bf n)]∧([(Bf n)]:List (List AV)).length*72≤140737488355328∧([(Bf n)]:List (List AV)).length≤9223372036854775807:=⟨⟨rfl,trivial⟩,(by simp only[Av,AE];omega),(by simp only[Av,AE];omega)⟩;refine Yi Za ?_;refine Yi (Nz rfl) ?_;refine Yi ⟨rfl,rfl⟩ ?_
    -- [('(Du dec n.rq.path)=true',False),('(0:Int)<(((Gr roots dec m).2.map Bf).length:Int)',True),('EJ (Gr roots dec m).1 n.rq.path=true',False),('EJ n.rq.path (Gr roots dec m).1=true',True)]
    exact⟨rfl,Ud (hF.trans (jc h2 h7 h8 h9)) rfl rfl⟩
   have h9:EJ n.rq.path (Gr roots dec m).1=false:=(EX _ _).trans (AD.2 h9);refine Yi (Nz rfl) ?_;refine Yi (Nz rfl) ?_;have nY:Da 5 [(Bf n)]∧((Gr roots dec m).2.map Bf).length=((Gr roots dec m).2.map Bf).length∧(((Gr roots dec m).2.map Bf).length+([(Bf n)]:List (List AV)).length)*72≤140737488355328∧((Gr roots dec m).2.map Bf).length+([(Bf n)]:List (List AV)).length≤9223372036854775807:=⟨⟨rfl,trivial⟩,rfl,(by simp only[Lm,Av,AE];omega),(by simp only[Lm,Av,AE];omega)⟩;refine Yi nY ?_;refine Yi (Nz rfl) ?_;refine Yi ⟨(Py _ n).symm,rfl⟩ ?_
   -- [('(Du dec n.rq.path)=true',False),('(0:Int)<(((Gr roots dec m).2.map Bf).length:Int)',True),('EJ (Gr roots dec m).1 n.rq.path=true',False),('EJ n.rq.path (Gr roots dec m).1=true',False)]
   exact⟨rfl,Ud (hF.trans (jd h2 h8 h9)) (YE _ n) (Py _ n)⟩
  have h7:¬((0:Int)<(((Gr roots dec m).2.map Bf).length:Int)):=h7;have n7:¬0<(Gr roots dec m).2.length:=by have q:=h7;rw[Lm]at q;omega
  refine Yi (fun hf=>absurd hf h7) (fun _=>?_);refine Yi (Nz rfl) ?_;refine Yi (Nz rfl) ?_;have tU:Da 5 [(Bf n)]∧((Gr roots dec m).2.map Bf).length=((Gr roots dec m).2.map Bf).length∧(((Gr roots dec m).2.map Bf).length+([(Bf n)]:List (List AV)).length)*72≤140737488355328∧((Gr roots dec m).2.map Bf).length+([(Bf n)]:List (List AV)).length≤9223372036854775807:=⟨⟨rfl,trivial⟩,rfl,(by simp only[Lm,Av,AE];omega),(by simp only[Lm,Av,AE];omega)⟩;refine Yi tU ?_;refine Yi (Nz rfl) ?_;refine Yi ⟨(Py _ n).symm,rfl⟩ ?_
  -- [('(Du dec n.rq.path)=true',False),('(0:Int)<(((Gr roots dec m).2.map Bf).length:Int)',False)]
  exact⟨rfl,Ud (hF.trans (mh h2 h7)) (YE _ n) (Py _ n)⟩
 refine Yi (by kernel_rfl) ?_;exact Xi _ (Yi (.refl _) ⟨show AV.tup [vs (Gr roots dec (DE roots dec).length).1,sl Bf (Gr roots dec (DE roots dec).length).2]=_ by rw[me (Am _)],rfl⟩)
end Go.Eng
namespace Go.Eng
open Go.Proofs
theorem dh{α:Type}(pr:α→Bool)(l:List α):(∃(k:Nat) (n:α),Iv pr l 0=(k:Nat)∧l[k]?=some n∧l.find? pr=some n)∨(Iv pr l 0=-1∧l.find? pr=none):=by
 have key:∀(l:List α) (b:Nat),(∃(k:Nat) (n:α),Iv pr l (b:Nat)=((b+k:Nat):Int)∧l[k]?=some n∧l.find? pr=some n)∨(Iv pr l (b:Nat)=-1∧l.find? pr=none):=by
  intro l
  induction l with
  |nil=>intro b;exact .inr Zr
  |cons y l ih =>
   intro b;cases h:pr y with
   |true=>exact .inl ⟨0,y,by unfold Iv;rw[Au h];rfl,rfl,by rw[FK,h]⟩
   |false =>
    have e:Iv pr (y::l) (b:Nat)=Iv pr l ((b+1:Nat):Int):=by
     conv=>lhs;unfold Iv
     rw[Al (by rw[h];decide)];rw[show((b+1:Nat):Int)=(b:Int)+1 by omega]
    have e2:(y::l).find? pr=l.find? pr:=by rw[FK,h]
    rcases ih (b+1)with ⟨k,n,h1,h2,h3⟩ | ⟨h1,h2⟩
    ·exact .inl ⟨k+1,n,by rw[e,h1];congr 1;omega,by simpa using h2,by rw[e2];exact h3⟩
    ·exact .inr ⟨by rw[e];exact h1,by rw[e2];exact h2⟩
 have:=key l 0
 simpa using this
section
variable {rec:List Cd→SS→List (List Sk)→Km}{x:List Rl}{p:ByteArray}{N:List Nd}{n0:Nd}{dec:List Cd}{st:List (List Sk)}{cs:List Cd}{i:Nat}{S:SS}{rs:List Nat}{sk:List Sk}
theorem fQ(h:¬i<cs.length):Ec rec x p N n0 dec st (cs.drop i) S rs sk=⟨(Ee x p n0 rs S).1,false,(Ee x p n0 rs S).2,dec,st⟩:=by
 rw[DJ (by omega)];rfl
theorem kV(h:i<cs.length)(hf:S.full=true):Ec rec x p N n0 dec st (cs.drop i) S rs sk=⟨0,false,S,dec,st⟩:=by
 rw[Bd h,GB,Au hf]
theorem rp(h:i<cs.length)(hf:S.full=false){n:Nd}(hn:N.find? (fun n=>!has n.rq.set cs[i].place)=some n):Ec rec x p N n0 dec st (cs.drop i) S rs sk=Ec rec x p N n0 dec st (cs.drop (i+1)) (Br S n).2 (rs++[(Br S n).1]) sk:=by
 rw[Bd h,GB,Al (by rw[hf];decide),hn]
theorem Wx(h:i<cs.length)(hf:S.full=false)(hn:N.find? (fun n=>!has n.rq.set cs[i].place)=none){k:Nat}(he:Pc S.drv (AO (dec++[cs[i]]))=some k):Ec rec x p N n0 dec st (cs.drop i) S rs sk=J5 rec x p N n0 dec st cs[i] (cs.drop (i+1)) rs sk k S:=by
 rw[Bd h,GB,Al (by rw[hf];decide),hn];dsimp only;rw[he]
theorem XK(h:i<cs.length)(hf:S.full=false)(hn:N.find? (fun n=>!has n.rq.set cs[i].place)=none)(he:Pc S.drv (AO (dec++[cs[i]]))=none){n:Nd}(hc:Ej dec cs[i]=some n) :
  Ec rec x p N n0 dec st (cs.drop i) S rs sk=J5 rec x p N n0 dec st cs[i] (cs.drop (i+1)) rs sk (Br S n).1 (Br S n).2:=by
 rw[Bd h,GB,Al (by rw[hf];decide),hn];dsimp only;rw[he];dsimp only;rw[hc]
theorem Wy(h:i<cs.length)(hf:S.full=false)(hn:N.find? (fun n=>!has n.rq.set cs[i].place)=none)(he:Pc S.drv (AO (dec++[cs[i]]))=none)(hc:Ej dec cs[i]=none){o:Km}(ho:o=rec (dec++[cs[i]]) S (st++[sk])) :
  Ec rec x p N n0 dec st (cs.drop i) S rs sk=if o.found=true then⟨0,true,o.ss,o.dec,o.stack⟩else if o.ss.full=true then⟨0,false,o.ss,dec,st⟩else J5 rec x p N n0 dec st cs[i] (cs.drop (i+1)) rs sk o.res o.ss:=by
 rw[ho,Bd h,GB,Al (by rw[hf];decide),hn];dsimp only;rw[he];dsimp only;rw[hc]
theorem aS{c:Cd}{l:List Cd}{k:Nat}(h:Dm (DV S k) p=false):J5 rec x p N n0 dec st c l rs sk k S=⟨k,false,S,dec,st⟩:=by unfold J5;rw[Au h]
theorem Wp{c:Cd}{l:List Cd}{k:Nat}(h:Dm (DV S k) p=true):J5 rec x p N n0 dec st c l rs sk k S=Ec rec x p N n0 dec st l S (rs++[k]) (sk++[⟨p,c.place,(k:Nat)⟩]):=by unfold J5;rw[Al (by rw[h];decide)]
end
theorem XP{x:List Rl}{dec:List Cd}(h:ER x dec):dec.length≤x.length:=by
 have h1:=IJ (m:=x.map (·.path)) h.nodup fun p hp=>by
  obtain⟨c,hc,rfl⟩:=Ao.1 hp;exact Ao.2 ⟨c.rel,(h.cand c hc).1,rfl⟩
 rw[Lm,Lm]at h1;exact h1
theorem Vk(x:List Rl)(p:ByteArray):(Cw x p).length≤x.length:=by
 unfold Cw;rw[Lm];exact BE _ _
end Go.Eng
