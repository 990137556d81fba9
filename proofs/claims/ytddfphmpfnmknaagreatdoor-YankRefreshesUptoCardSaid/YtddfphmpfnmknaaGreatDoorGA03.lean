/- Lemmas for the claims of this seat, without a condition: part 3 (Q2, Q3, Q4, P15, Q5). -/
import Derived.Test.YtddfphmpfnmknaaGreatDoorGA02
namespace Go.Eng
variable {p:ByteArray}{x:List Rl}{dec:List Cd}{roots:List Rq}{D:List Sl}{t:List Tm}{c:Cd}{d:List (List Tm)}{n:Nd}{s:SS}{k:Nat}{S:List Sl}{E:List Cd}{needs:List Nd}{v v':Ver}{s':SS}{r:Rl}{q:Rq}
theorem Qy(f:Rq→Nat→Nd):∀(l:List Rq) (i k:Nat),(Ma f i l)[k]?=(l[k]?).map fun q=>f q (i+k)
 | [],i,k=>by simp[Ma]
 |q::l,i,0=>by simp[Ma]
 |q::l,i,k+1=>by
  have h:=Qy f l (i+1) k;simp only[Ma,EP,h];rw[show i+1+k=i+(k+1) by omega]
theorem LA(f:Rq→Nat→Nd):∀(l:List Rq) (i:Nat),(Ma f i l).length=l.length
 | [],_=>rfl
 |_::l,i=>by simp[Ma,LA f l (i+1)]
theorem aE{f:Rq→Nat→Nd}{l:List Rq}(h:n∈Ma f 0 l):∃k q,l[k]?=some q∧n=f q k:=by
 obtain⟨k,hk⟩:=Cg.1 h;rw[Qy,AW]at hk;obtain⟨q,h1,h2⟩:=hk;exact⟨k,q,h1,by rw[←h2,Bi]⟩
theorem TA{f:Rq→Nat→Nd}(hf:∀q i,(f q i).rq=q):∀(l:List Rq) (i:Nat),(Ma f i l).map (·.rq)=l
 | [],_=>rfl
 |q::l,i=>by simp[Ma,hf,TA hf l (i+1)]
abbrev Eo(roots:List Rq)(dec:List Cd):List Rq:=roots++(dec.map fun c=>c.rel.reqs).flatten
theorem Ly(roots:List Rq)(dec:List Cd):(DI roots dec).map (·.rq)=Eo roots dec:=by
 unfold DI aX;rw[As,TA (fun _ _=>rfl),TO,BE]
 congr 2
 exact Bd fun c _=>TA (fun _ _=>rfl) _ _
theorem Gq(dec:List Cd)(p:ByteArray):CA (AD dec) p=CV dec p:=by
 unfold CA CV AD;rw[List.any_map];rfl
theorem Kk(before:List Sl):∀{l:List Rq} {a p:ByteArray},CH before l (some a)=some p→p=a∨DL p a=true
 | [],a,p,h=>by cases h;exact .inl rfl
 |q::l,a,p,h=>by
  unfold CH at h;split at h
  ·exact Kk before h
  ·dsimp only at h;split at h
   ·rename_i hb;rcases Kk before h with e | e
    ·exact .inr (by rw[e];exact hb)
    ·exact .inr (DQ e hb)
   ·exact Kk before h
theorem Jn(before:List Sl):∀{l:List Rq} {a:ByteArray},CH before l (some a)≠none
 | [],a=>by simp[CH]
 |q::l,a=>by
  unfold CH;split
  ·exact Jn before
  ·dsimp only;split<;>exact Jn before
theorem PT(e:n.rq.path≠p)(L:List Nd):((n::L).filter fun n=>decide (n.rq.path=p))=L.filter fun n=>decide (n.rq.path=p):=by rw[CE,Ae (by simpa using e)]
theorem X5(e:n.rq.path=p)(L:List Nd):((n::L).filter fun n=>decide (n.rq.path=p))=n::L.filter fun n=>decide (n.rq.path=p):=by rw[CE,Al (by simpa using e)]
theorem NN(dec:List Cd):∀(L:List Nd) (a:ByteArray×List Nd),(a.2≠[]→CV dec a.1=false) →
  L.foldl (EH dec) a=match CH (AD dec) (L.map (·.rq)) (if a.2=[]then none else some a.1)with
   |none=>a
   |some p=>(p,(if a.2≠[]∧a.1=p then a.2 else [])++L.filter fun n=>decide (n.rq.path=p))
 | [],a,h=>by
  obtain⟨p,o⟩:=a;cases o with
  |nil=>simp[CH]
  |cons n o=>simp[CH]
 |n::L,a,h=>by
  obtain⟨p0,o⟩:=a;rw[EE,AJ];have ww:∀(acc:Option ByteArray) (l:List Rq),(∀p,acc=some p→CV dec p=false)→∀p,CH (AD dec) l acc=some p→CV dec p=false:=fun acc l ha p hp=>by
   have:=((KO (AD dec) (l:=l) (acc:=acc) (fun p e=>by rw[Gq];exact ha p e)).1 p hp).1
   rw[Gq]at this;exact this
  cases hd:CV dec n.rq.path with
  |true =>
   have e1:EH dec (p0,o) n=(p0,o):=by unfold EH;rw[Al (.inl hd)]
   have e2:CH (AD dec) (n.rq::L.map (·.rq)) (if o=[]then none else some p0)=CH (AD dec) (L.map (·.rq)) (if o=[]then none else some p0):=by
    conv=>lhs;unfold CH
    rw[Al (by rw[Gq];exact hd)]
   rw[e1,e2,NN dec L (p0,o) h];dsimp only;cases hg:CH (AD dec) (L.map (·.rq)) (if o=[]then none else some p0)with
   |none=>rfl
   |some p =>
    dsimp only;have hp:=ww _ _ (fun q e=>by
     split at e
     ·cases e
     ·rename_i ho;cases e;exact h ho) p hg
    have DM:n.rq.path≠p:=fun e=>by rw[e,hp]at hd;cases hd
    rw[PT DM]
  |false =>
   have Oh:CA (AD dec) n.rq.path=false:=by rw[Gq];exact hd
   by_cases ho:o=[]
   ·subst ho;have e1:EH dec (p0,[]) n=(n.rq.path,[n]):=by
     unfold EH;rw[Ae (by simp[hd]),Ae B0];rfl
    have e2:CH (AD dec) (n.rq::L.map (·.rq)) none=CH (AD dec) (L.map (·.rq)) (some n.rq.path):=by
     conv=>lhs;unfold CH
     rw[Ae (by rw[Oh];decide)]
    rw[e1,NN dec L (n.rq.path,[n]) (fun _=>hd),Al rfl,e2];rw[Ae B0];cases hg:CH (AD dec) (L.map (·.rq)) (some n.rq.path)with
    |none=>exact absurd hg (Jn _)
    |some p =>
     dsimp only;rw[Ae (show ¬(([]:List Nd)≠[]∧p0=p)from fun h=>h.1 rfl)]
     by_cases e:n.rq.path=p
     ·rw[X5 e,Al ⟨by simp,e⟩];rfl
     ·rw[PT e,Ae (fun h=>e h.2)]
   ·have hif:(if o=[]then none else some p0)=some p0:=Ae ho;rw[hif];cases hb:DL p0 n.rq.path with
    |true =>
     have e1:EH dec (p0,o) n=(p0,o):=by unfold EH;rw[Al (.inr ⟨ho,hb⟩)]
     have Uy:DL n.rq.path p0=false:=Lo hb;have e2:CH (AD dec) (n.rq::L.map (·.rq)) (some p0)=CH (AD dec) (L.map (·.rq)) (some p0):=by
      conv=>lhs;unfold CH
      rw[Ae (by rw[Oh];decide)];dsimp only;rw[Ae (by rw[Uy];decide)]
     rw[e1,e2,NN dec L (p0,o) h];dsimp only;rw[hif];cases hg:CH (AD dec) (L.map (·.rq)) (some p0)with
     |none=>rfl
     |some p =>
      dsimp only;have DM:n.rq.path≠p:=fun e=>by
       rcases Kk _ hg with e3 | e3
       ·rw[e,e3,CO]at hb;cases hb
       ·rw[e,Lo e3]at hb;cases hb
      rw[PT DM]
    |false =>
     cases Uy:DL n.rq.path p0 with
     |true =>
      have e1:EH dec (p0,o) n=(n.rq.path,[n]):=by
       unfold EH;rw[Ae (by simp[hd,hb]),Al ⟨ho,Uy⟩]
      have e2:CH (AD dec) (n.rq::L.map (·.rq)) (some p0)=CH (AD dec) (L.map (·.rq)) (some n.rq.path):=by
       conv=>lhs;unfold CH
       rw[Ae (by rw[Oh];decide)];dsimp only;rw[Al Uy]
      rw[e1,e2,NN dec L (n.rq.path,[n]) (fun _=>hd),Ae B0];cases hg:CH (AD dec) (L.map (·.rq)) (some n.rq.path)with
      |none=>exact absurd hg (Jn _)
      |some p =>
       dsimp only;have DM:p0≠p:=fun e=>by
        rcases Kk _ hg with e3 | e3
        ·rw[e,e3,CO]at Uy;cases Uy
        ·rw[e]at Uy;rw[Lo e3]at Uy;cases Uy
       rw[Ae (show ¬(o≠[]∧p0=p)from fun h=>DM h.2)]
       by_cases e:n.rq.path=p
       ·rw[X5 e,Al ⟨by simp,e⟩];rfl
       ·rw[PT e,Ae (fun h=>e h.2)]
     |false =>
      have e0:n.rq.path=p0:=G6 Uy hb;have e1:EH dec (p0,o) n=(p0,o++[n]):=by
       unfold EH;rw[Ae (by simp[hd,hb]),Ae (by simp[Uy]),e0]
      have e2:CH (AD dec) (n.rq::L.map (·.rq)) (some p0)=CH (AD dec) (L.map (·.rq)) (some p0):=by
       conv=>lhs;unfold CH
       rw[Ae (by rw[Oh];decide)];dsimp only;rw[Ae (by rw[Uy];decide)]
      rw[e1,e2,NN dec L (p0,o++[n]) (fun _=>by rw[←e0];exact hd),Ae B0];cases hg:CH (AD dec) (L.map (·.rq)) (some p0)with
      |none=>exact absurd hg (Jn _)
      |some p =>
       dsimp only
       by_cases e:p0=p
       ·rw[X5 (e0.trans e),Al ⟨by simp,e⟩,Al ⟨ho,e⟩,Bx];rfl
       ·rw[PT (fun h=>e (e0.symm.trans h)),Ae (fun h=>e h.2),Ae (fun h=>e h.2)]
theorem U2(roots:List Rq)(dec:List Cd):Em roots dec=match Iy (Eo roots dec) (AD dec)with
  |none=>(mt,[])
  |some p=>(p,(DI roots dec).filter fun n=>decide (n.rq.path=p)):=by
 unfold Em Iy;rw[NN dec _ (mt,[]) (fun h=>absurd rfl h),Al rfl,Ly];cases CH (AD dec) (Eo roots dec) none with
 |none=>rfl
 |some p=>dsimp only;rw[Ae B0];rfl
theorem Pa:(Em roots dec).2=[]↔Iy (Eo roots dec) (AD dec)=none:=by
 rw[U2];cases h:Iy (Eo roots dec) (AD dec)with
 |none=>simp
 |some p =>
  simp only[reduceCtorEq,iff_false];obtain⟨_,q,hq,e⟩:=U3 h;rw[←Ly]at hq;obtain⟨n,hn,rfl⟩:=Am.1 hq;exact List.ne_nil_of_mem (BM.2 ⟨hn,by simpa using e⟩)
structure ns(roots:List Rq)(dec:List Cd)(p:ByteArray)(l:List Nd):Prop where
 next:Iy (Eo roots dec) (AD dec)=some p
 undone:CV dec p=false
 mem:∀n,n∈l↔n∈DI roots dec∧n.rq.path=p
theorem Kl{n0:Nd}{l:List Nd}(h:(Em roots dec).2=n0::l):ns roots dec (Em roots dec).1 (n0::l):=by
 rw[←h];rw[U2]at *
 cases hp:Iy (Eo roots dec) (AD dec)with
 |none=>rw[hp]at h;cases h
 |some p =>
  dsimp only;refine⟨hp,by rw[←Gq];exact(U3 hp).1,fun n=>?_⟩;rw[BM];simp
theorem HA:c∈BJ x p↔∃r∈x,r.path=p∧r.yanked=false∧c=⟨plc r.ver,r⟩:=by
 unfold BJ;simp only[Am,BM,Ai,Az,Dd];constructor
 ·rintro⟨r,⟨h1,h2,h3⟩,rfl⟩;exact⟨r,h1,h2,h3,rfl⟩
 ·rintro⟨r,h1,h2,h3,rfl⟩;exact⟨r,⟨h1,h2,h3⟩,rfl⟩
theorem NS{i:Nf}:∀{l:List Nf} {k m:Nat},MI i k l=some m→∃j,m=k+j∧l[j]?=some i
 | [],_,_,h=>by cases h
 |y::l,k,m,h=>by
  unfold MI at h;split at h
  ·rename_i e;cases h;exact⟨0,rfl,by rw[←e];rfl⟩
  ·obtain⟨j,h1,h2⟩:=NS h;exact⟨j+1,by omega,h2⟩
theorem RK{i:Nf}:∀{l:List Nf} {k:Nat},MI i k l=none→i∉l
 | [],_,_=>by simp
 |y::l,k,h=>by
  unfold MI at h;split at h
  ·cases h
  ·rename_i e
   have:=RK h
   simp only[AF,not_or];exact⟨fun e'=>e e'.symm,this⟩
theorem SK{α:Type}{d d' : List α}{i:Int}{a:α}(h:Km d i=some a)(hp:d <+: d'):Km d' i=some a:=by
 unfold Km at *
 split at h
 ·cases h
 ·rename_i hi;rw[Ae hi];obtain⟨t,rfl⟩:=hp;rw[A2 (Aw.1 h).1];exact h
theorem ZY{d':List (List Tm)}{i:Nf}{o:List Tm}(h:Eb x roots d i=some o)(hp:d <+: d'):Eb x roots d' i=some o:=by
 unfold Eb at *
 split
 ·rename_i e;rw[Al e]at h;exact h
 rename_i e0;rw[Ae e0]at h;split
 ·rename_i e;rw[Al e]at h;exact h
 rename_i e1;rw[Ae e1]at h;split
 ·rename_i e;rw[Al e]at h;exact h
 rename_i e2;rw[Ae e2]at h;split
 ·rename_i e;rw[Al e]at h;split
  ·rename_i e4;rw[Al e4]at h;cases ha:Km d i.left with
   |none=>rw[ha]at h;cases h
   |some a =>
    cases hb:Km d i.right with
    |none=>rw[ha,hb]at h;cases h
    |some b =>
     rw[ha,hb]at h;rw[SK ha hp,SK hb hp];exact h
  ·rename_i e4;rw[Ae e4]at h;cases h
 ·rename_i e;rw[Ae e]at h;cases h
structure FU(x:List Rl)(roots:List Rq)(s:SS):Prop where
 der:Ds x roots s.infs []=some s.drv
 len:s.infs.length≤65536
theorem FU.dlen(h:FU x roots s):s.drv.length=s.infs.length:=by simpa using JQ h.der
theorem FU.nil(x:List Rl)(roots:List Rq):FU x roots xk:=⟨rfl,by simp⟩
theorem FU.at{x:List Rl}{roots:List Rq}{s:SS}(h:FU x roots s){k:Nat}{i:Nf}(hk:s.infs[k]?=some i):Eb x roots s.drv i=some (s.drv.getD k []):=by
 have h1:=Oa h.der (k+1);have h0:=Oa h.der k;have DJ:=(Aw.1 hk).1;rw[Be,hk,Hw,h0]at h1;have h1:Ds x roots [i] (s.drv.take k)=some (s.drv.take (k+1)):=h1;unfold Ds at h1;cases hi:Eb x roots (s.drv.take k) i with
 |none=>rw[hi]at h1;cases h1
 |some t =>
  rw[hi]at h1;have h1:some (s.drv.take k++[t])=some (s.drv.take (k+1)):=h1;have hd:k<s.drv.length:=by rw[h.dlen];exact DJ
  have:t=s.drv[k]:=by
   have h2:=Cr h1;rw[D6 hd]at h2;exact List.singleton_inj.1 (List.append_cancel_left h2)
  rw[ZY hi (List.take_prefix ..),this];simp[List.getD_eq_getElem?_getD,hd]
structure Grow(s s' : SS):Prop where
 pre:s.drv <+: s'.drv
 preI:s.infs <+: s'.infs
 full:s.full=true→s'.full=true
theorem Grow.refl(s:SS):Grow s s:=⟨NX,NX,id⟩
theorem Grow.trans{a b c:SS}(h:Grow a b)(k:Grow b c):Grow a c:=⟨h.pre.trans k.pre,h.preI.trans k.preI,fun e=>k.full (h.full e)⟩
theorem Grow.at(h:Grow s s')(hk:k<s.drv.length):D7 s' k=D7 s k:=by
 obtain⟨t,e⟩:=h.pre;unfold D7;rw[←e,B6,B6,A2 hk]
theorem Grow.len(h:Grow s s'):s.drv.length≤s'.drv.length:=h.pre.length_le
theorem Ln(s:SS)(i:Nf)(l:List Tm):Grow s (Es s i l).2:=by
 unfold Es;split
 ·exact .refl s
 ·split
  ·exact⟨NX,NX,fun _=>rfl⟩
  ·exact⟨Pu ..,Pu ..,id⟩
theorem Ll(h:FU x roots s){i:Nf}{l:List Tm}(hi:Eb x roots s.drv i=some l) :
  FU x roots (Es s i l).2∧(Es s i l).1<(Es s i l).2.drv.length∧((Es s i l).2.full=false→D7 (Es s i l).2 (Es s i l).1=l):=by
 have hdl:=h.dlen;unfold Es;split
 ·rename_i k hk;obtain⟨j,e,hj⟩:=NS hk
  have:k=j:=by omega
  subst this;have DJ:=(Aw.1 hj).1;refine⟨h,by show k<s.drv.length;omega,fun _=>?_⟩
  have:=h.at hj
  rw[hi]at this;exact(Cr this).symm
 ·rename_i hk;split
  ·rename_i hf;exact⟨⟨h.der,h.len⟩,by show s.infs.length-1<s.drv.length;omega,fun e=>by cases e⟩
  ·rename_i hf;refine⟨⟨?_,by show(s.infs++[i]).length≤65536;rw[Ad];simp;omega⟩,by show s.infs.length<(s.drv++[l]).length;rw[Ad];simp;omega,fun _=>?_⟩
   ·show Ds x roots (s.infs++[i]) []=some (s.drv++[l]);rw[Hw,h.der];show Ds x roots [i] s.drv=_;unfold Ds;rw[hi];rfl
   ·show(s.drv++[l]).getD s.infs.length []=l;rw[←hdl];simp[List.getD_eq_getElem?_getD]
theorem bF(s:SS)(i:Nf)(l:List Tm):(Es s i l).2.infs.length≤s.infs.length+1:=by
 unfold Es;split
 ·simp
 ·split<;>simp
theorem Y0(i:Nf)(l:List Tm)(hf:s.full=false)(hc:s.infs.length<65536):(Es s i l).2.full=false:=by
 unfold Es;split
 ·exact hf
 ·split
  ·omega
  ·exact hf
theorem Uh(S:List Sl):∀{l:List (List Tm)} {i k:Nat},PM S i l=some k→∃j,k=i+j∧∃t,l[j]?=some t∧CQ t S=true
 | [],_,_,h=>by cases h
 |t::l,i,k,h=>by
  unfold PM at h;split at h
  ·rename_i e;cases h;exact⟨0,rfl,t,rfl,e⟩
  ·obtain⟨j,h1,t',h2,h3⟩:=Uh S h;exact⟨j+1,by omega,t',h2,h3⟩
theorem Ls(h:OG d S=some k):k<d.length∧CQ (d.getD k []) S=true:=by
 obtain⟨j,h1,t,h2,h3⟩:=Uh S h
 have:k=j:=by omega
 subst this;refine⟨(Aw.1 h2).1,?_⟩;rw[B6,h2];exact h3
theorem MP:∀{l:List Rq} {b:Option ByteArray},Ek b l=0→∀q∈l,q.set≠[]∧E2 q.set
 | [],_,_,q,hq=>by cases hq
 |r::l,b,h,q,hq=>by
  unfold Ek at h;split at h
  ·rename_i e;rcases AF.1 hq with rfl | hq
   ·unfold GK at e
    by_cases h1:(Bu q.path).isNone=true
    ·rw[Al h1]at e;exact absurd e Cl
    rw[Ae h1]at e;cases hE:q.set.isEmpty with
    |true=>rw[hE]at e;simp at e
    |false =>
     cases hD:decide (q.set=canon q.set)with
     |false=>rw[hD]at e;simp at e
     |true =>
      have h3:q.set=canon q.set:=A4 hD;exact⟨by simpa using hE,by rw[h3];exact Cs _⟩
   ·exact MP h q hq
  ·rename_i e;exact absurd h e
theorem LV{l:List Rq}(h:Bn l=0):∀q∈l,q.set≠[]∧E2 q.set:=by
 unfold Bn at h;split at h
 ·cases h
 ·exact MP h
abbrev QR(k:Int):Ver:=⟨0,k / 1000,k % 1000⟩
theorem HJ(k:Int):place (QR k)=k:=by unfold place;show 1000*(k / 1000)+k % 1000=k;omega
theorem Fw{k:Int}(h:0≤k∧k<1000000):Cj (QR k)=true:=by
 unfold Cj okPart;simp only[Ai];exact⟨⟨Aq ch,Aq ch⟩,Aq ch⟩
structure YV(D:List Sl)(p:ByteArray)(S:List Sl):Prop where
 val:GG S
 same:∀q,q≠p→Bv S q=Bv D q
abbrev K7(D:List Sl)(p:ByteArray)(v:Ver):List Sl:=D++[⟨p,v⟩]
theorem KW(a b:List Sl)(p:ByteArray):Bv (a++b) p=(Bv a p).or (Bv b p):=by
 unfold Bv;rw[List.find?_append]
theorem Im{s:List Sl}(h:CA s p=false):Bv s p=none:=by
 rw[KJ]at h;cases e:Bv s p with
 |none=>rfl
 |some y=>rw[e]at h;cases h
theorem YV.self(h:GG D):YV D p D:=⟨h,fun _ _=>rfl⟩
theorem YV.ver(h:GG D)(hv:Cj v=true):YV D p (K7 D p v):=by
 refine⟨fun y hy=>?_,fun q hq=>?_⟩
 ·rcases AY.1 hy with hy | hy
  ·exact h y hy
  ·rw[Ar.1 hy];exact hv
 ·rw[KW]
  have:Bv [(⟨p,v⟩:Sl)] q=none:=by unfold Bv;simp[Ne.symm hq]
  rw[this,Option.or_none]
theorem I0(hp:CA D p=false)(v:Ver):Bv (K7 D p v) p=some ⟨p,v⟩:=by
 rw[KW,Im hp];unfold Bv;simp
theorem Sx(hp:CA D p=false)(hv:Cj v=true)(yj : Cj v'=true)(e:place v=place v')(q:ByteArray)(t:Tm) :
  Dy t (Bv (K7 D p v) q)=Dy t (Bv (K7 D p v') q):=by
 by_cases hq:q=p
 ·subst hq;rw[I0 hp,I0 hp];show(Cj v&&has t.set (place v))=(Cj v'&&has t.set (place v'));rw[hv,yj,e]
 ·have h1:∀w:Ver,Bv (K7 D p w) q=Bv D q:=fun w=>by
   rw[KW]
   have:Bv [(⟨p,w⟩:Sl)] q=none:=by unfold Bv;simp[Ne.symm hq]
   rw[this,Option.or_none]
  rw[h1,h1]
theorem dq(hp:CA D p=false)(hv:Cj v=true)(yj : Cj v'=true)(e:place v=place v')(t:List Tm):Bh t (K7 D p v)=Bh t (K7 D p v'):=by
 rw[B2,BI,BI];exact⟨fun h u hu=>by rw[←Sx hp hv yj e];exact h u hu,fun h u hu=>by rw[Sx hp hv yj e];exact h u hu⟩
theorem LL{S':List Sl}(h:YV D p S)(h' : YV D p S')(ht:∀u∈t,u.path≠p):Bh t S=Bh t S':=by
 rw[B2,BI,BI];exact⟨fun k u hu=>by rw[h'.same _ (ht u hu),←h.same _ (ht u hu)];exact k u hu,fun k u hu=>by rw[h.same _ (ht u hu),←h'.same _ (ht u hu)];exact k u hu⟩
theorem KE(h:Dm t p=false):∀u∈t,u.path≠p:=fun u hu e=>by
 unfold Dm at h;rw[De]at h;exact h u hu (by simpa using e)
theorem Uc(h:Dm t p=true):∃u∈t,u.path=p:=by
 unfold Dm at h;rw[A5]at h;obtain⟨u,hu,e⟩:=h;exact⟨u,hu,by simpa using e⟩
theorem VA(hf:LP t)(hc:Dm t p=true):∃u r,FS t p=some (u,r)∧u.path=p∧∀v∈r,v.path≠p:=by
 obtain⟨u,hu,e⟩:=Uc hc;have hs:=Fk hf;have rY:=(F9 hs).1 hu;rw[e]at rY;refine⟨u,Gf t p,?_,e,fun v hv=>?_⟩
 ·unfold FS;rw[show Db t=some t from hf];dsimp only;rw[rY]
 ·have:=(BM.1 hv).2
  simpa using this
theorem YD{b:List Tm}(kG:LP t)(rX:LP b)(hct:Dm t p=true)(hcb:Dm b p=true){S1 S2:List Sl}(h1:YV D p S1)(v1:Bh t S1=true)(h2:YV D p S2)(v2:Bh b S2=true) :
  (BO t b p).2=0∧∀S,YV D p S→Bh t S=true∨Bh b S=true→Bh (BO t b p).1 S=true:=by
 obtain⟨u,r,e1,pu,nr⟩:=VA kG hct;obtain⟨w,m,e2,pw,nm⟩:=VA rX hcb;have key:∀S,YV D p S→Bh t S=true∨Bh b S=true→Bh (r++m++[Dw u w]) S=true:=fun S hS hv=>by
  have r1:Bh r S=true:=by
   rw[LL hS h1 nr];rw[(Gd h1.val e1).1,Ai]at v1;exact v1.2
  have m1:Bh m S=true:=by
   rw[LL hS h2 nm];rw[(Gd h2.val e2).1,Ai]at v2;exact v2.2
  rw[Hy,Hy,r1,m1];simp only[EB];rw[BI];intro y hy;rw[Ar.1 hy,show(Dw u w).path=p from pu,Oi,Cq];rcases hv with hv | hv
  ·rw[(Gd hS.val e1).1,Ai]at hv;exact .inl hv.1
  ·rw[(Gd hS.val e2).1,Ai]at hv;exact .inr hv.1
 unfold BO;rw[e1,e2];dsimp only;have c1:=Dk (l:=r++m++[Dw u w]) h1.val;rw[key S1 h1 (.inl v1)]at c1;cases hc:Db (r++m++[Dw u w])with
 |none=>rw[hc]at c1;cases c1
 |some o =>
  dsimp only;refine⟨rfl,fun S hS hv=>?_⟩;have c2:=Dk (l:=r++m++[Dw u w]) hS.val;rw[hc,key S hS hv]at c2;exact c2.symm
theorem lK(hp:CA D p=false)(hf:LP t)(h0:Bh t D=true)(hk:∀k:Int,0≤k→k<1000000→Bh t (K7 D p (QR k))=true):Dm t p=false:=by
 rw[AI];intro hc;obtain⟨u,hu,e⟩:=Uc hc;have ha:u.absent=true:=by
  have:=BI.1 h0 u hu
  rw[e,Im hp]at this;exact this
 have hs:∀k:Int,0≤k→k<1000000→has u.set k=true:=fun k k0 k1=>by
  have:=BI.1 (hk k k0 k1) u hu
  rw[e,I0 hp]at this;unfold Dy at this;rw[Ai]at this
  have:=this.2
  rw[show(⟨p,QR k⟩:Sl).ver=QR k from rfl,HJ]at this;exact this
 have tQ:E2 u.set:=Ch.canon (Fk hf) u hu;have ZK:u.set=[(0,1000000)]:=by
  refine Ig tQ ⟨by decide,by decide,by decide,trivial⟩ fun k=>?_;rw[B2];constructor
  ·intro h
   have:=M2 h
   unfold has;simp[BS,this.1,this.2]
  ·intro h
   have:=M2 h
   exact hs k this.1 this.2
 have xY:G5 u=true:=by unfold G5;rw[ha,ZK];rfl
 have x6:Db t=some t:=hf;unfold Db at x6;split at x6
 ·cases x6
 ·have e2:=Cr x6;rw[←e2]at hu
  have:=(BM.1 hu).2
  rw[xY]at this;cases this
structure Ef(x:List Rl)(dec:List Cd):Prop where
 cand:∀c∈dec,c.rel∈x∧c.rel.yanked=false∧c.place=plc c.rel.ver
 nodup:(dec.map fun c=>c.rel.path).Nodup
theorem Ef.nil(x:List Rl):Ef x []:=⟨fun _ h=>(by cases h),FI⟩
theorem Va(h:TR r):r.path≠mt:=fun e=>by
 have:=h.maj
 rw[e]at this;have h2:Bu mt=none:=by decide
 rw[h2]at this;cases this
theorem TR.set{r:Rl}(h:TR r):∀q∈r.reqs,q.set≠[]∧E2 q.set:=LV h.reqs
theorem L7(dec:List Cd):(AD dec).map (·.path)=dec.map fun c=>c.rel.path:=by unfold AD;rw[BE];rfl
theorem OH:∀{D:List Sl},(D.map (·.path)).Nodup→∀{y:Sl},y∈D→Bv D y.path=some y
 | [],_,y,h=>by cases h
 |z::D,hn,y,h=>by
  simp only[AJ,Df]at hn;unfold Bv;rw[ED];rcases AF.1 h with rfl | h
  ·rw[Aq rfl]
  ·have:z.path≠y.path:=fun e=>hn.1 (Am.2 ⟨y,h,e.symm⟩)
   rw[Ap this];exact OH hn.2 h
theorem Ef.find(h:Ef x dec)(hc:c∈dec):Bv (AD dec) c.rel.path=some (N1 c) :=
 OH (by rw[L7];exact h.nodup) (y:=N1 c) (Am.2 ⟨c,hc,rfl⟩)
theorem Ef.valid(hx:AN x=0)(h:Ef x dec):GG (AD dec):=fun y hy=>by
 obtain⟨c,hc,rfl⟩:=Am.1 hy;exact((Ct hx).1 _ (h.cand c hc).1).val
theorem Ef.snoc(h:Ef x dec)(hc:c.rel∈x∧c.rel.yanked=false∧c.place=plc c.rel.ver)(hd:CV dec c.rel.path=false):Ef x (dec++[c]):=by
 refine⟨fun d hd=>?_,?_⟩
 ·rcases AY.1 hd with hd | hd
  ·exact h.cand d hd
  ·rw[Ar.1 hd];exact hc
 ·rw[As,GU];refine⟨h.nodup,by simp,fun a ha b hb e=>?_⟩;obtain⟨d,ov,rfl⟩:=Am.1 ha;simp only[AJ,FA,Ar]at hb;unfold CV at hd;rw[De]at hd;exact hd d ov (by simpa using e.trans hb)
theorem Ng(h:n∈DI roots E):(∃k q,roots[k]?=some q∧n=⟨q,mt,0,(k:Nat)⟩)∨∃c∈E,∃k q,c.rel.reqs[k]?=some q∧n=⟨q,c.rel.path,c.place,(k:Nat)⟩:=by
 unfold DI at h;rcases AY.1 h with h | h
 ·obtain⟨k,q,h1,h2⟩:=aE h;exact .inl ⟨k,q,h1,h2⟩
 ·obtain⟨l,hl,hn⟩:=Eh.1 h;obtain⟨c,hc,rfl⟩:=Am.1 hl;obtain⟨k,q,h1,h2⟩:=aE hn;exact .inr ⟨c,hc,k,q,h1,h2⟩
theorem OY(h:n∈DI roots dec):n∈DI roots (dec++[c]):=by
 unfold DI at *
 rw[As,Cn,←Bx];exact Bp _ h
theorem NM(h:n∈QA c):n∈DI roots (dec++[c]):=by
 unfold DI;rw[As,Cn,←Bx];exact Bj _ (by simpa using h)
def N3(n:Nd):List Tm:=if n.path=mt then [DS n.rq]else [⟨n.path,false,[(n.place,n.place+1)]⟩,DS n.rq]
theorem Qi(n:Nd):Ir n=RH (N3 n):=by unfold Ir N3 Ko EI;split<;>rfl
theorem fb{s:Bb}(h:s≠[])(hc:E2 s):∃k,has s k=true:=by
 match s,h,hc with
 |x::r,_,hc =>
  have:=Fc.low hc x (Aa ..)
  refine⟨x.1,?_⟩;unfold has;have h1:BS x.1 x=true:=DY.2 ⟨BK _,this.2.1⟩;simp only[BX,h1,Bool.true_or,Bool.and_true,Ai,Az];omega
theorem SL{o:Option Sl}(h:o=none∨∃y,o=some y∧Cj y.ver=true∧has q.set (place y.ver)=false):Dy (DS q) o=true:=by
 rcases h with rfl | ⟨y,rfl,hv,hq⟩
 ·rfl
 ·show(Cj y.ver&&has (EJ q.set) (place y.ver))=true
  have:=Kn hv
  rw[hv,Ga,hq];unfold MG;simp[this.1,this.2]
theorem U8{y:Sl}(hq:has q.set (place y.ver)=true):Dy (DS q) (some y)=false:=by
 show(Cj y.ver&&has (EJ q.set) (place y.ver))=false;rw[Ga,hq];simp
structure uj(x:List Rl)(roots:List Rq)(S:List Sl)(n:Nd):Prop where
 inf:∀d,Eb x roots d (N0 n)=some (Ir n)
 viol:Bh (Ir n) S=true
 raw:∀S',GG S'→Bh (Ir n) S'=Bh (N3 n) S'
 form:LP (Ir n)
 inU:∀U:List ByteArray,(n.path≠mt→n.path∈U)→n.rq.path∈U→Wf U (Ir n)
 path:n.path≠mt→CA S n.path=true
theorem Tt(hx:AN x=0)(hr:Bn roots=0)(hE:Ef x E)(hn:n∈DI roots E)(hv:Bv (AD E) n.rq.path=none∨∃y,Bv (AD E) n.rq.path=some y∧has n.rq.set (place y.ver)=false):uj x roots (AD E) n:=by
 have hV:=hE.valid hx;have kQ:Dy (DS n.rq) (Bv (AD E) n.rq.path)=true:=SL (hv.imp id fun⟨y,h1,h2⟩=>⟨y,h1,hV y (Kd h1),h2⟩)
 -- the raw list is Bh here,and not elsewhere
 have OO:n.rq.set≠[]∧E2 n.rq.set:=by
  rcases Ng hn with ⟨k,q,h1,rfl⟩ | ⟨c,hc,k,q,h1,rfl⟩
  ·exact LV hr q (Ay h1)
  ·exact((Ct hx).1 _ (hE.cand c hc).1).set q (Ay h1)
 have Yj:Bh (N3 n) (AD E)=true∧(n.path≠mt→CA (AD E) n.path=true):=by
  rcases Ng hn with ⟨k,q,h1,rfl⟩ | ⟨c,hc,k,q,h1,rfl⟩
  ·refine⟨?_,fun h=>absurd rfl h⟩;unfold N3;rw[Al rfl,BI];intro u hu;rw[Ar.1 hu];exact kQ
  ·have DM:=Va ((Ct hx).1 _ (hE.cand c hc).1);refine⟨?_,fun _=>by rw[KJ,hE.find hc];rfl⟩;unfold N3;rw[Ae DM,BI];intro u hu;rcases AF.1 hu with rfl | hu
   ·show Dy _ (Bv (AD E) c.rel.path)=true;rw[hE.find hc];show(Cj c.rel.ver&&has [(c.place,c.place+1)] (place c.rel.ver))=true;have Gs:=(Ct hx).1 _ (hE.cand c hc).1;have hp:=Kn Gs.val;rw[Gs.val,(hE.cand c hc).2.2,Gs.plc];unfold has;simp[BS,hp.1,hp.2];omega
   ·rw[Ar.1 hu];exact kQ
 have AaG:∃S',GG S'∧Bh (N3 n) S'=false:=by
  unfold N3;split
  ·obtain⟨k,hk⟩:=fb OO.1 OO.2;have bt:=M2 hk;refine⟨[⟨n.rq.path,QR k⟩],fun y hy=>by rw[Ar.1 hy];exact Fw bt,?_⟩;rw[AI];intro h
   have:=BI.1 h (DS n.rq) (Ar.2 rfl)
   rw[show(DS n.rq).path=n.rq.path from rfl,show Bv [(⟨n.rq.path,QR k⟩:Sl)] n.rq.path=some ⟨n.rq.path,QR k⟩ by unfold Bv;simp,U8 (by rw[show(⟨n.rq.path,QR k⟩:Sl).ver=QR k from rfl,HJ];exact hk)]at this;cases this
  ·refine⟨[],fun y hy=>(by cases hy),?_⟩;rw[AI];intro h
   have:=BI.1 h _ (Aa ..)
   cases this
 obtain⟨Yj,wh⟩:=Yj;have DM:RH (N3 n)≠[]:=by
  obtain⟨S',v',n'⟩:=AaG;have c1:=Dk (l:=N3 n) hV;have c2:=Dk (l:=N3 n) v';unfold RH;cases hc:Db (N3 n)with
  |none=>rw[hc,Yj]at c1;cases c1
  |some c =>
   rw[hc,n']at c2;intro e;have e:c=[]:=e;rw[e]at c2;cases c2
 have qw:∀S',GG S'→Bh (Ir n) S'=Bh (N3 n) S':=fun S' v=>by rw[Qi];exact RI v DM
 refine⟨fun d=>?_,by rw[qw _ hV];exact Yj,qw,by rw[Qi];exact Nh _,fun U h1 h2=>?_,wh⟩
 ·rcases Ng hn with ⟨k,q,h1,rfl⟩ | ⟨c,hc,k,q,h1,rfl⟩
  ·show Eb x roots d (if(mt:ByteArray)=mt then⟨0,mt,0,(k:Nat),0,0⟩else _)=some (if(mt:ByteArray)=mt then Ko q else _);rw[Al rfl,Al rfl];show(if mt=mt∧(0:Int)=0∧(0:Int)=0∧(0:Int)=0 then(Km roots (k:Nat)).map Ko else none)=some (Ko q);rw[Al ⟨rfl,rfl,rfl,rfl⟩];unfold Km;rw[Ae ch,A7,h1];rfl
  ·have Gs:=(Ct hx).1 _ (hE.cand c hc).1;have VG:=Va Gs;have AaR:QB x c.rel.path c.place=some c.rel:=by
    unfold QB;cases hf:x.find? fun r=>decide (r.path=c.rel.path)&&decide (plc r.ver=c.place)with
    |none =>
     rw[DC]at hf;exact absurd (by simp[(hE.cand c hc).2.2]) (hf c.rel (hE.cand c hc).1)
    |some r =>
     have h2:=Fg hf;simp only[Ai,Az]at h2;have gF:=Cw hf;have AaK:=(Ct hx).1 r gF;rw[eX (Ct hx) gF (hE.cand c hc).1 h2.1 (by rw[←AaK.plc,h2.2,(hE.cand c hc).2.2,Gs.plc])]
   have e1:N0 ⟨q,c.rel.path,c.place,(k:Nat)⟩=⟨1,c.rel.path,c.place,(k:Nat),0,0⟩:=by unfold N0;rw[Ae VG]
   have e2:Ir ⟨q,c.rel.path,c.place,(k:Nat)⟩=EI c.rel.path c.place q:=by unfold Ir;rw[Ae VG]
   rw[e1,e2];unfold Eb;rw[Ae (show ¬((1:Int)=0) by decide),Al rfl,Al ⟨rfl,rfl⟩];dsimp only;rw[AaR];dsimp only;unfold Km;rw[Ae ch,A7,h1];dsimp only;unfold gX;rw[Ae];rw[Gp,←e2,Qi];exact DM
 ·rw[Qi];refine U7 fun u hu=>?_;unfold N3 at hu;split at hu
  ·rw[Ar.1 hu];exact h2
  ·rename_i hm;rcases AF.1 hu with rfl | hu
   ·exact h1 hm
   ·rw[Ar.1 hu];exact h2
structure nt(D:List Sl)(U:List ByteArray)(p:ByteArray)(t:List Tm)(C:Int→Prop):Prop where
 form:LP t
 inU:Wf U t
 conc:Dm t p=true
 one:∃S,YV D p S∧Bh t S=true
 cov:∀k:Int,0≤k→k<1000000→C k→Bh t (K7 D p (QR k))=true
structure qR(D:List Sl)(U:List ByteArray)(p:ByteArray)(t:List Tm)(C:Int→Prop):Prop where
 form:LP t
 inU:Wf U t
 none_:Bh t D=true
 cov:∀k:Int,0≤k→k<1000000→C k→Bh t (K7 D p (QR k))=true
theorem FU.forms(h:FU x roots s):∀k,LP (D7 s k):=fun k=>by
 unfold D7;rw[B6];cases e:s.drv[k]? with
 |none=>exact PZ
 |some t=>exact N9 (fun _ h=>by cases h) h.der t (Ay e)
theorem WU{r:Nat}(hk:k<d.length)(hr:r<d.length)(h0:(BO (d.getD k []) (d.getD r []) p).2=0) :
  Eb x roots d ⟨3,p,0,0,(k:Nat),(r:Nat)⟩=some (BO (d.getD k []) (d.getD r []) p).1:=by
 have e:∀j:Nat,j<d.length→Km d (j:Nat)=some (d.getD j []):=fun j hj=>by
  unfold Km;rw[Ae ch,A7,B6,AE hj];rfl
 unfold Eb;rw[Ae (show ¬((3:Int)=0) by decide),Ae (show ¬((3:Int)=1) by decide),Ae (show ¬((3:Int)=2) by decide),Al rfl,Al ⟨rfl,rfl⟩];dsimp only;rw[e k hk,e r hr];dsimp only;rw[Al h0]
theorem OT{x:List Rl}{roots:List Rq}{D:List Sl}{U:List ByteArray}{p:ByteArray}(hD:GG D):∀(l:List (Nat×(Int→Prop))) {k:Nat} {s:SS} {C:Int→Prop},FU x roots s→k<s.drv.length→(∀y∈l,y.1<s.drv.length) →
  (s.full=false→qR D U p (D7 s k) C∧∀y∈l,nt D U p (D7 s y.1) y.2) →
  FU x roots (Cc p (l.map (·.1)) k s).2∧Grow s (Cc p (l.map (·.1)) k s).2∧(Cc p (l.map (·.1)) k s).1<(Cc p (l.map (·.1)) k s).2.drv.length ∧
  ((Cc p (l.map (·.1)) k s).2.full=false→∃C',qR D U p (D7 (Cc p (l.map (·.1)) k s).2 (Cc p (l.map (·.1)) k s).1) C' ∧
   (Dm (D7 (Cc p (l.map (·.1)) k s).2 (Cc p (l.map (·.1)) k s).1) p=false∨∀j,C j∨(∃y∈l,y.2 j)→C' j))
 | [],k,s,C,hd,hk,_,hA=>⟨hd,.refl s,hk,fun hf=>⟨C,(hA hf).1,.inr fun j hj=>hj.elim id fun⟨y,hy,_⟩=>(by cases hy)⟩⟩
 |y::l,k,s,C,hd,hk,hl,hA=>by
  rw[AJ]
  by_cases h1:s.full=true∨Dm (D7 s k) p=false
  ·have e:Cc p (y.1::l.map (·.1)) k s=(k,s):=by unfold Cc;rw[Al h1]
   rw[e];refine⟨hd,.refl s,hk,fun hf=>⟨C,(hA hf).1,.inl (h1.resolve_left fun e=>?_)⟩⟩;have hf:s.full=false:=hf;rw[e]at hf;cases hf
  simp only[not_or,Bool.not_eq_true,Bool.not_eq_false]at h1;obtain⟨hf,NY⟩:=h1;obtain⟨oh,z7⟩:=hA hf;have hy:=z7 y (Aa ..);have hi:¬(s.full=true∨Dm (D7 s k) p=false):=by rw[hf,NY];simp
  by_cases h2:y.1=k
  ·have e:Cc p (y.1::l.map (·.1)) k s=Cc p (l.map (·.1)) k s:=by conv=>lhs;unfold Cc;rw[Ae hi,Al h2]
   rw[e];have hA' : qR D U p (D7 s k) fun j=>C j∨y.2 j:=⟨oh.form,oh.inU,oh.none_,fun j j0 j1 hj=>hj.elim (oh.cov j j0 j1) fun h=>by rw[←h2];exact hy.cov j j0 j1 h⟩;obtain⟨i1,i2,i3,i4⟩:=OT hD l hd hk (fun z hz=>hl z (Ah _ hz)) (fun _=>⟨hA',fun z hz=>z7 z (Ah _ hz)⟩);refine⟨i1,i2,i3,fun hf=>?_⟩;obtain⟨C',j1,j2⟩:=i4 hf;refine⟨C',j1,j2.imp id fun h j hj=>h j ?_⟩;rcases hj with hj | ⟨z,hz,hj⟩
   ·exact .inl (.inl hj)
   ·rcases AF.1 hz with rfl | hz
    ·exact .inl (.inr hj)
    ·exact .inr ⟨z,hz,hj⟩
  ·obtain⟨S2,o2,v2⟩:=hy.one;obtain⟨r1,r2⟩:=YD oh.form hy.form NY hy.conc (.self hD) oh.none_ o2 v2;have e:Cc p (y.1::l.map (·.1)) k s=Cc p (l.map (·.1)) (Es s ⟨3,p,0,0,k,y.1⟩ (BO (D7 s k) (D7 s y.1) p).1).1 (Es s ⟨3,p,0,0,k,y.1⟩ (BO (D7 s k) (D7 s y.1) p).1).2:=by
    conv=>lhs;unfold Cc;rw[Ae hi,Ae h2,Ae (fun h=>h r1)]
   rw[e];have hy1:=hl y (Aa ..);obtain⟨a1,a2,a3⟩:=Ll hd (WU (x:=x) (roots:=roots) hk hy1 r1);have hg:=Ln s ⟨3,p,0,0,(k:Nat),(y.1:Nat)⟩ (BO (D7 s k) (D7 s y.1) p).1;generalize VH : Es s ⟨3,p,0,0,(k:Nat),(y.1:Nat)⟩ (BO (D7 s k) (D7 s y.1) p).1=s' at *
   have a3:s'.2.full=false→D7 s'.2 s'.1=(BO (D7 s k) (D7 s y.1) p).1:=a3;obtain⟨i1,i2,i3,i4⟩:=OT hD (C:=fun j=>C j∨y.2 j) l a1 a2 (fun z hz=>BD (hl z (Ah _ hz)) hg.len) (fun ZI=>by
    refine⟨?_,fun z hz=>by rw[hg.at (hl z (Ah _ hz))];exact z7 z (Ah _ hz)⟩;rw[a3 ZI];exact⟨Ou _ _ _,SO oh.inU hy.inU,r2 D (.self hD) (.inl oh.none_),fun j j0 j1 hj=>r2 _ (.ver hD (Fw ⟨j0,j1⟩)) (hj.imp (oh.cov j j0 j1) (hy.cov j j0 j1))⟩)
   refine⟨i1,hg.trans i2,i3,fun hf=>?_⟩;obtain⟨C',j1,j2⟩:=i4 hf;refine⟨C',j1,j2.imp id fun h j hj=>h j ?_⟩;rcases hj with hj | ⟨z,hz,hj⟩
   ·exact .inl (.inl hj)
   ·rcases AF.1 hz with rfl | hz
    ·exact .inl (.inr hj)
    ·exact .inr ⟨z,hz,hj⟩
def IM(roots:List Rq)(dec:List Cd):Prop:=∀q∈Eo roots dec,∀d∈dec,d.rel.path=q.path→has q.set d.place=true
theorem IM.nil(roots:List Rq):IM roots []:=fun _ _ d h=>by cases h
theorem c9(roots:List Rq)(dec:List Cd)(c:Cd):Eo roots (dec++[c])=Eo roots dec++c.rel.reqs:=by
 unfold Eo;rw[As,Cn,Bx];simp
theorem pB(c:Cd):(QA c).map (·.rq)=c.rel.reqs:=TA (fun _ _=>rfl) _ _
theorem bQ(h:Dc dec c=none):∀q∈c.rel.reqs,∀d∈dec++[c],d.rel.path=q.path→has q.set d.place=true:=fun q hq d hd e=>by
 rw[←pB]at hq;obtain⟨n,hn,rfl⟩:=Am.1 hq;unfold Dc at h;rw[DC]at h
 have:=h n hn
 unfold UW at this;rw[Bool.not_eq_true,De]at this
 have:=this d hd
 rw[e]at this;simpa using this
theorem LW(h:Dc dec c=some n):n∈QA c∧∃d∈dec++[c],d.rel.path=n.rq.path∧has n.rq.set d.place=false:=by
 unfold Dc at h;have h1:=Fg h;refine⟨Cw h,?_⟩;unfold UW at h1;rw[A5]at h1;obtain⟨d,hd,e⟩:=h1;simp only[Ai,Az,Dd]at e;exact⟨d,hd,e⟩
theorem IM.snoc(h:IM roots dec)(hN:ns roots dec p needs)(hc:c.rel.path=p)(hn:∀n∈needs,has n.rq.set c.place=true)(hk:Dc dec c=none):IM roots (dec++[c]):=by
 intro q hq d hd e;rw[c9]at hq;rcases AY.1 hq with hq | hq
 ·rcases AY.1 hd with hd | hd
  ·exact h q hq d hd e
  ·rw[Ar.1 hd]at e⊢;rw[←Ly]at hq;obtain⟨n,ZP,rfl⟩:=Am.1 hq;exact hn n ((hN.mem n).2 ⟨ZP,by rw[←e,hc]⟩)
 ·exact bQ hk q hq d hd e
def Wa(y:Sl):List Sl→List Sl
 | []=>[y]
 |z::l=>if DL y.path z.path then y::z::l else z::Wa y l
def Ey:List Sl→List Sl
 | []=>[]
 |y::l=>Wa y (Ey l)
theorem UJ{y z:Sl}:∀{l:List Sl},z∈Wa y l↔z=y∨z∈l
 | []=>by simp[Wa]
 |u::l=>by
  unfold Wa;split
  ·simp
  ·rw[AF,UJ,AF];constructor
   ·rintro(h | h | h)
    ·exact .inr (.inl h)
    ·exact .inl h
    ·exact .inr (.inr h)
   ·rintro(h | h | h)
    ·exact .inr (.inl h)
    ·exact .inl h
    ·exact .inr (.inr h)
theorem He{z:Sl}:∀{l:List Sl},z∈Ey l↔z∈l
 | []=>by simp[Ey]
 |u::l=>by unfold Ey;rw[UJ,He,AF]
theorem ZZ{y:Sl}:∀{l:List Sl},QY l→(∀z∈l,z.path≠y.path)→QY (Wa y l)
 | [],_,_=>by simp[Wa,QY]
 |u::l,h,hn=>by
  obtain⟨h1,h2⟩:=Bz.1 h;unfold Wa;split
  ·rename_i hb;refine Bz.2 ⟨fun z hz=>?_,h⟩;rcases AF.1 hz with rfl | hz
   ·exact hb
   ·exact DQ hb (h1 z hz)
  ·rename_i hb;refine Bz.2 ⟨fun z hz=>?_,ZZ h2 fun z hz=>hn z (Ah _ hz)⟩;rcases UJ.1 hz with rfl | hz
   ·cases e:DL u.path z.path with
    |true=>rfl
    |false =>
     have hb:DL z.path u.path=false:=by simpa using hb
     exact absurd (G6 e hb) (hn u (Aa ..))
   ·exact h1 z hz
theorem NU:∀{l:List Sl},(l.map (·.path)).Nodup→QY (Ey l)
 | [],_=>List.Pairwise.nil
 |y::l,h=>by
  simp only[AJ,Df]at h;exact ZZ (NU h.2) fun z hz e=>h.1 (Am.2 ⟨z,He.1 hz,e⟩)
theorem UG:∀{l:List Sl} {b:Option ByteArray},QY l→(∀c,b=some c→∀y∈l,DL c y.path=true)→M5 b l=true
 | [],_,_,_=>by unfold M5;rfl
 |y::l,b,h,hb=>by
  obtain⟨h1,h2⟩:=Bz.1 h;unfold M5;cases b with
  |none=>simpa using UG h2 fun c e z hz=>by cases e;exact h1 z hz
  |some c =>
   have:=hb c rfl y (Aa ..)
   simp only[this,EB];exact UG h2 fun c e z hz=>by cases e;exact h1 z hz
theorem cr{l:List Sl}(h:QY l):DG l=true:=UG h fun _ e=>by cases e
theorem G9(hx:AN x=0)(hr:r∈x):CY x (Fa r)=some r:=by
 unfold CY;rw[Ae (fun h=>h hx)];cases h:x.find? fun s=>decide (Fa s=Fa r)with
 |none =>
  rw[DC]at h;exact absurd B0 (h r hr)
 |some s =>
  have h1:=Fg h;simp only[Az]at h1;rw[UN (Ct hx).2 (Cw h) hr h1]
theorem Ef.sorted(h:Ef x dec):QY (Ey (AD dec)):=NU (by rw[L7];exact h.nodup)
theorem Ef.findS(h:Ef x dec)(hc:c∈dec):Bv (Ey (AD dec)) c.rel.path=some (N1 c) :=
 Oe h.sorted (y:=N1 c) (He.2 (Am.2 ⟨c,hc,rfl⟩))
theorem lp(hx:AN x=0)(h:Ef x dec)(hs:IM roots dec)(hl:Iy (Eo roots dec) (AD dec)=none):qb x roots (Ey (AD dec)):=by
 have Gr:∀q∈Eo roots dec,∃y,Bv (Ey (AD dec)) q.path=some y∧has q.set (place y.ver)=true:=fun q hq=>by
  have:=cL hl q hq
  rw[L4]at this;obtain⟨y,hy,e⟩:=this;obtain⟨d,hd,rfl⟩:=Am.1 hy;have e:d.rel.path=q.path:=e;refine⟨N1 d,by rw[←e];exact h.findS hd,?_⟩;have h1:=hs q hq d hd e;have Gs:=(Ct hx).1 _ (h.cand d hd).1;rw[(h.cand d hd).2.2,Gs.plc]at h1;exact h1
 refine⟨hx,cr h.sorted,fun y hy=>?_,fun q hq=>Gr q (Bp _ hq),fun y hy r hr q hq=>?_⟩
 ·obtain⟨d,hd,rfl⟩:=Am.1 (He.1 hy);exact⟨d.rel,G9 hx (h.cand d hd).1,(h.cand d hd).2.1⟩
 ·obtain⟨d,hd,rfl⟩:=Am.1 (He.1 hy)
  have:CY x (N1 d)=some d.rel:=G9 hx (h.cand d hd).1
  rw[this]at hr;cases hr;exact Gr q (Bj _ (Eh.2 ⟨_,Am.2 ⟨d,hd,rfl⟩,hq⟩))
def aK(dec:List Cd)(needs:List Nd)(c:Cd):Bool:=(needs.all fun n=>has n.rq.set c.place)&&(Dc dec c).isNone
def CG(x:List Rl)(roots:List Rq):Nat→List Cd→List (List Cd)
 |0,_=>[]
 |n+1,dec=>match(Em roots dec).2 with
  | []=>[dec]
  |n0::l=>((BJ x (Em roots dec).1).map fun c=>if aK dec (n0::l) c then CG x roots n (dec++[c])else []).flatten
structure Lf(x:List Rl)(roots:List Rq)(dec d:List Cd):Prop where
 pre:dec <+: d
 ok:Ef x d
 sat:IM roots d
 stop:Iy (Eo roots d) (AD d)=none
theorem I5(h:c∈BJ x p):c.rel.path=p∧(c.rel∈x∧c.rel.yanked=false∧c.place=plc c.rel.ver):=by
 obtain⟨r,h1,h2,h3,rfl⟩:=HA.1 h;exact⟨h2,h1,h3,rfl⟩
theorem I9:aK dec needs c=true↔(∀n∈needs,has n.rq.set c.place=true)∧Dc dec c=none:=by
 unfold aK;rw[Ai,AZ,Option.isNone_iff_eq_none]
theorem HW{x:List Rl}{roots:List Rq}:∀{n:Nat} {dec:List Cd},Ef x dec→IM roots dec→∀d∈CG x roots n dec,Lf x roots dec d
 |0,_,_,_,d,hd=>by cases hd
 |n+1,dec,h,hs,d,hd=>by
  unfold CG at hd;split at hd
  ·rename_i e;rw[Ar.1 hd];exact⟨NX,h,hs,Pa.1 e⟩
  ·rename_i n0 l e;have hN:=Kl e;obtain⟨L,hL,hd⟩:=Eh.1 hd;obtain⟨c,hc,rfl⟩:=Am.1 hL;split at hd
   ·rename_i Gs;obtain⟨h1,h2⟩:=I9.1 Gs;obtain⟨c1,c2⟩:=I5 hc;have gy:CV dec c.rel.path=false:=by rw[c1];exact hN.undone
    have:=HW (n:=n) (h.snoc c2 gy) (hs.snoc hN c1 h1 h2) d hd
    exact⟨(Pu _ _).trans this.pre,this.ok,this.sat,this.stop⟩
   ·cases hd
theorem Lf.sol(hx:AN x=0){d:List Cd}(h:Lf x roots dec d):qb x roots (Ey (AD d)):=lp hx h.ok h.sat h.stop
theorem pc(hx:AN x=0)(hd:FU x roots s)(hk:k<s.drv.length){d:List Cd}(he:CQ (D7 s k) (AD dec)=true)(h:Lf x roots dec d):False:=by
 have hS:=h.sol hx;have hv:=X2 (s:=Ey (AD d)) hS.inc (fun y hy=>He.2 (by
  obtain⟨c,hc,rfl⟩:=Am.1 hy;obtain⟨t,e⟩:=h.pre;exact Am.2 ⟨c,by rw[←e];exact Bp _ hc,rfl⟩)) he
 have hn:=Ih hS (d:=[]) (fun _ h=>by cases h) hd.der (D7 s k) (by
  unfold D7;rw[B6,AE hk];exact Aj hk)
 rw[hv]at hn;cases hn
end Go.Eng
