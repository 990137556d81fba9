/- Lemmas for the claims of this seat, without a condition: part 3 (Q2, Q3, Q4, P15, Q5, Q6). -/
import Derived.Test.YtmcbkdbfaneofaaGreatDoorA02
namespace Go.Eng
theorem PH(f:Rq→Nat→Nd):∀(l:List Rq) (i k:Nat),(MG f i l)[k]?=(l[k]?).map fun q=>f q (i+k)
 | [],i,k=>by simp[MG]
 |q::l,i,0=>by simp[MG]
 |q::l,i,k+1=>by
  have h:=PH f l (i+1) k;simp only[MG,EE,h];rw[show i+1+k=i+(k+1) by omega]
theorem K6(f:Rq→Nat→Nd):∀(l:List Rq) (i:Nat),(MG f i l).length=l.length
 | [],_=>rfl
 |_::l,i=>by simp[MG,K6 f l (i+1)]
theorem YZ{f:Rq→Nat→Nd}{l:List Rq}{n:Nd}(h:n∈MG f 0 l):∃k q,l[k]?=some q∧n=f q k:=by
 obtain⟨k,hk⟩:=Ck.1 h;rw[PH,AY]at hk;obtain⟨q,h1,h2⟩:=hk;exact⟨k,q,h1,by rw[←h2,Bk]⟩
theorem SA{f:Rq→Nat→Nd}(hf:∀q i,(f q i).rq=q):∀(l:List Rq) (i:Nat),(MG f i l).map (·.rq)=l
 | [],_=>rfl
 |q::l,i=>by simp[MG,hf,SA hf l (i+1)]
abbrev Ie(roots:List Rq)(dec:List Cd):List Rq:=roots++(dec.map fun c=>c.rel.reqs).flatten
theorem M9(roots:List Rq)(dec:List Cd):(DD roots dec).map (·.rq)=Ie roots dec:=by
 unfold DD Zf;rw[AH,SA (fun _ _=>rfl),SL,BW]
 congr 2
 exact Bn fun c _=>SA (fun _ _=>rfl) _ _
theorem Gf(dec:List Cd)(p:ByteArray):CQ (AO dec) p=Dt dec p:=by
 unfold CQ Dt AO;rw[List.any_map];rfl
theorem JR(before:List Sl):∀{l:List Rq} {a p:ByteArray},DE before l (some a)=some p→p=a∨EM p a=true
 | [],a,p,h=>by cases h;exact .inl rfl
 |q::l,a,p,h=>by
  unfold DE at h;split at h
  ·exact JR before h
  ·dsimp only at h;split at h
   ·rename_i hb;rcases JR before h with e | e
    ·exact .inr (by rw[e];exact hb)
    ·exact .inr (Ep e hb)
   ·exact JR before h
theorem IV(before:List Sl):∀{l:List Rq} {a:ByteArray},DE before l (some a)≠none
 | [],a=>by simp[DE]
 |q::l,a=>by
  unfold DE;split
  ·exact IV before
  ·dsimp only;split<;>exact IV before
theorem Pf{n:Nd}{p:ByteArray}(e:n.rq.path≠p)(L:List Nd):((n::L).filter fun n=>decide (n.rq.path=p))=L.filter fun n=>decide (n.rq.path=p):=by rw[ED,Ao (by simpa using e)]
theorem WN{n:Nd}{p:ByteArray}(e:n.rq.path=p)(L:List Nd):((n::L).filter fun n=>decide (n.rq.path=p))=n::L.filter fun n=>decide (n.rq.path=p):=by rw[ED,Ax (by simpa using e)]
theorem Nb(dec:List Cd):∀(L:List Nd) (a:ByteArray×List Nd),(a.2≠[]→Dt dec a.1=false) →
  L.foldl (Et dec) a=match DE (AO dec) (L.map (·.rq)) (if a.2=[]then none else some a.1)with
   |none=>a
   |some p=>(p,(if a.2≠[]∧a.1=p then a.2 else [])++L.filter fun n=>decide (n.rq.path=p))
 | [],a,h=>by
  obtain⟨p,o⟩:=a;cases o with
  |nil=>simp[DE]
  |cons n o=>simp[DE]
 |n::L,a,h=>by
  obtain⟨p0,o⟩:=a;rw[FQ,AS];have sQ:∀(acc:Option ByteArray) (l:List Rq),(∀p,acc=some p→Dt dec p=false)→∀p,DE (AO dec) l acc=some p→Dt dec p=false:=fun acc l ha p hp=>by
   have:=((Km (AO dec) (l:=l) (acc:=acc) (fun p e=>by rw[Gf];exact ha p e)).1 p hp).1
   rw[Gf]at this;exact this
  cases hd:Dt dec n.rq.path with
  |true =>
   have e1:Et dec (p0,o) n=(p0,o):=by unfold Et;rw[Ax (.inl hd)]
   have e2:DE (AO dec) (n.rq::L.map (·.rq)) (if o=[]then none else some p0)=DE (AO dec) (L.map (·.rq)) (if o=[]then none else some p0):=by
    conv=>lhs;unfold DE
    rw[Ax (by rw[Gf];exact hd)]
   rw[e1,e2,Nb dec L (p0,o) h];dsimp only;cases hg:DE (AO dec) (L.map (·.rq)) (if o=[]then none else some p0)with
   |none=>rfl
   |some p =>
    dsimp only;have hp:=sQ _ _ (fun q e=>by
     split at e
     ·cases e
     ·rename_i ho;cases e;exact h ho) p hg
    have DL:n.rq.path≠p:=fun e=>by rw[e,hp]at hd;cases hd
    rw[Pf DL]
  |false =>
   have Sb:CQ (AO dec) n.rq.path=false:=by rw[Gf];exact hd
   by_cases ho:o=[]
   ·subst ho;have e1:Et dec (p0,[]) n=(n.rq.path,[n]):=by
     unfold Et;rw[Ao (by simp[hd]),Ao (by simp)];rfl
    have e2:DE (AO dec) (n.rq::L.map (·.rq)) none=DE (AO dec) (L.map (·.rq)) (some n.rq.path):=by
     conv=>lhs;unfold DE
     rw[Ao (by rw[Sb];decide)]
    rw[e1,Nb dec L (n.rq.path,[n]) (fun _=>hd),Ax rfl,e2];rw[Ao (by simp)];cases hg:DE (AO dec) (L.map (·.rq)) (some n.rq.path)with
    |none=>exact absurd hg (IV _)
    |some p =>
     dsimp only;rw[Ao (show ¬(([]:List Nd)≠[]∧p0=p)from fun h=>h.1 rfl)]
     by_cases e:n.rq.path=p
     ·rw[WN e,Ax ⟨by simp,e⟩];rfl
     ·rw[Pf e,Ao (fun h=>e h.2)]
   ·have zL:(if o=[]then none else some p0)=some p0:=Ao ho;rw[zL];cases hb:EM p0 n.rq.path with
    |true =>
     have e1:Et dec (p0,o) n=(p0,o):=by unfold Et;rw[Ax (.inr ⟨ho,hb⟩)]
     have UW:EM n.rq.path p0=false:=Qi hb;have e2:DE (AO dec) (n.rq::L.map (·.rq)) (some p0)=DE (AO dec) (L.map (·.rq)) (some p0):=by
      conv=>lhs;unfold DE
      rw[Ao (by rw[Sb];decide)];dsimp only;rw[Ao (by rw[UW];decide)]
     rw[e1,e2,Nb dec L (p0,o) h];dsimp only;rw[zL];cases hg:DE (AO dec) (L.map (·.rq)) (some p0)with
     |none=>rfl
     |some p =>
      dsimp only;have DL:n.rq.path≠p:=fun e=>by
       rcases JR _ hg with e3 | e3
       ·rw[e,e3,CW]at hb;cases hb
       ·rw[e,Qi e3]at hb;cases hb
      rw[Pf DL]
    |false =>
     cases UW:EM n.rq.path p0 with
     |true =>
      have e1:Et dec (p0,o) n=(n.rq.path,[n]):=by
       unfold Et;rw[Ao (by simp[hd,hb]),Ax ⟨ho,UW⟩]
      have e2:DE (AO dec) (n.rq::L.map (·.rq)) (some p0)=DE (AO dec) (L.map (·.rq)) (some n.rq.path):=by
       conv=>lhs;unfold DE
       rw[Ao (by rw[Sb];decide)];dsimp only;rw[Ax UW]
      rw[e1,e2,Nb dec L (n.rq.path,[n]) (fun _=>hd),Ao (by simp)];cases hg:DE (AO dec) (L.map (·.rq)) (some n.rq.path)with
      |none=>exact absurd hg (IV _)
      |some p =>
       dsimp only;have DL:p0≠p:=fun e=>by
        rcases JR _ hg with e3 | e3
        ·rw[e,e3,CW]at UW;cases UW
        ·rw[e]at UW;rw[Qi e3]at UW;cases UW
       rw[Ao (show ¬(o≠[]∧p0=p)from fun h=>DL h.2)]
       by_cases e:n.rq.path=p
       ·rw[WN e,Ax ⟨by simp,e⟩];rfl
       ·rw[Pf e,Ao (fun h=>e h.2)]
     |false =>
      have e0:n.rq.path=p0:=HT UW hb;have e1:Et dec (p0,o) n=(p0,o++[n]):=by
       unfold Et;rw[Ao (by simp[hd,hb]),Ao (by simp[UW]),e0]
      have e2:DE (AO dec) (n.rq::L.map (·.rq)) (some p0)=DE (AO dec) (L.map (·.rq)) (some p0):=by
       conv=>lhs;unfold DE
       rw[Ao (by rw[Sb];decide)];dsimp only;rw[Ao (by rw[UW];decide)]
      rw[e1,e2,Nb dec L (p0,o++[n]) (fun _=>by rw[←e0];exact hd),Ao (by simp)];cases hg:DE (AO dec) (L.map (·.rq)) (some p0)with
      |none=>exact absurd hg (IV _)
      |some p =>
       dsimp only
       by_cases e:p0=p
       ·rw[WN (e0.trans e),Ax ⟨by simp,e⟩,Ax ⟨ho,e⟩,AM];rfl
       ·rw[Pf (fun h=>e (e0.symm.trans h)),Ao (fun h=>e h.2),Ao (fun h=>e h.2)]
theorem Ua(roots:List Rq)(dec:List Cd):G1 roots dec=match K4 (Ie roots dec) (AO dec)with
  |none=>(mt,[])
  |some p=>(p,(DD roots dec).filter fun n=>decide (n.rq.path=p)):=by
 unfold G1 K4;rw[Nb dec _ (mt,[]) (fun h=>absurd rfl h),Ax rfl,M9];cases DE (AO dec) (Ie roots dec) none with
 |none=>rfl
 |some p=>dsimp only;rw[Ao (by simp)];rfl
theorem Ub{roots:List Rq}{dec:List Cd}:(G1 roots dec).2=[]↔K4 (Ie roots dec) (AO dec)=none:=by
 rw[Ua];cases h:K4 (Ie roots dec) (AO dec)with
 |none=>simp
 |some p =>
  simp only[reduceCtorEq,iff_false];obtain⟨_,q,hq,e⟩:=Uc h;rw[←M9]at hq;obtain⟨n,hn,rfl⟩:=Ar.1 hq;exact List.ne_nil_of_mem (Bo.2 ⟨hn,by simpa using e⟩)
structure qe(roots:List Rq)(dec:List Cd)(p:ByteArray)(l:List Nd):Prop where
 next:K4 (Ie roots dec) (AO dec)=some p
 undone:Dt dec p=false
 mem:∀n,n∈l↔n∈DD roots dec∧n.rq.path=p
theorem Oo{roots:List Rq}{dec:List Cd}{n0:Nd}{l:List Nd}(h:(G1 roots dec).2=n0::l):qe roots dec (G1 roots dec).1 (n0::l):=by
 rw[←h];rw[Ua]at *
 cases hp:K4 (Ie roots dec) (AO dec)with
 |none=>rw[hp]at h;cases h
 |some p =>
  dsimp only;refine⟨hp,by rw[←Gf];exact(Uc hp).1,fun n=>?_⟩;rw[Bo];simp
theorem Lo{x:List Rl}{p:ByteArray}{c:Cd}:c∈Cw x p↔∃r∈x,r.path=p∧r.yanked=false∧c=⟨plc r.ver,r⟩:=by
 unfold Cw;simp only[Ar,Bo,Ah,AB,Da];constructor
 ·rintro⟨r,⟨h1,h2,h3⟩,rfl⟩;exact⟨r,h1,h2,h3,rfl⟩
 ·rintro⟨r,h1,h2,h3,rfl⟩;exact⟨r,⟨h1,h2,h3⟩,rfl⟩
theorem Nj{i:Nf}:∀{l:List Nf} {k m:Nat},L6 i k l=some m→∃j,m=k+j∧l[j]?=some i
 | [],_,_,h=>by cases h
 |y::l,k,m,h=>by
  unfold L6 at h;split at h
  ·rename_i e;cases h;exact⟨0,rfl,by rw[←e];rfl⟩
  ·obtain⟨j,h1,h2⟩:=Nj h;exact⟨j+1,by omega,h2⟩
theorem QM{i:Nf}:∀{l:List Nf} {k:Nat},L6 i k l=none→i∉l
 | [],_,_=>by simp
 |y::l,k,h=>by
  unfold L6 at h;split at h
  ·cases h
  ·rename_i e
   have:=QM h
   simp only[Av,not_or];exact⟨fun e'=>e e'.symm,this⟩
theorem RM{α:Type}{d d' : List α}{i:Int}{a:α}(h:JS d i=some a)(hp:d <+: d'):JS d' i=some a:=by
 unfold JS at *
 split at h
 ·cases h
 ·rename_i hi;rw[Ao hi];obtain⟨t,rfl⟩:=hp;rw[A4 (Aw.1 h).1];exact h
theorem Yx{x:List Rl}{roots:List Rq}{d d' : List (List Tm)}{i:Nf}{o:List Tm}(h:DY x roots d i=some o)(hp:d <+: d'):DY x roots d' i=some o:=by
 unfold DY at *
 split
 ·rename_i e;rw[Ax e]at h;exact h
 rename_i e0;rw[Ao e0]at h;split
 ·rename_i e;rw[Ax e]at h;exact h
 rename_i e1;rw[Ao e1]at h;split
 ·rename_i e;rw[Ax e]at h;exact h
 rename_i e2;rw[Ao e2]at h;split
 ·rename_i e;rw[Ax e]at h;split
  ·rename_i e4;rw[Ax e4]at h;cases ha:JS d i.left with
   |none=>rw[ha]at h;cases h
   |some a =>
    cases hb:JS d i.right with
    |none=>rw[ha,hb]at h;cases h
    |some b =>
     rw[ha,hb]at h;rw[RM ha hp,RM hb hp];exact h
  ·rename_i e4;rw[Ao e4]at h;cases h
 ·rename_i e;rw[Ao e]at h;cases h
structure FG(x:List Rl)(roots:List Rq)(s:SS):Prop where
 der:Ds x roots s.infs []=some s.drv
 len:s.infs.length≤65536
theorem FG.dlen{x:List Rl}{roots:List Rq}{s:SS}(h:FG x roots s):s.drv.length=s.infs.length:=by simpa using Jk h.der
theorem FG.nil(x:List Rl)(roots:List Rq):FG x roots uW:=⟨rfl,by simp⟩
theorem FG.at{x:List Rl}{roots:List Rq}{s:SS}(h:FG x roots s){k:Nat}{i:Nf}(hk:s.infs[k]?=some i):DY x roots s.drv i=some (s.drv.getD k []):=by
 have h1:=NA h.der (k+1);have h0:=NA h.der k;have DF:=(Aw.1 hk).1;rw[BC,hk,Hj,h0]at h1;have h1:Ds x roots [i] (s.drv.take k)=some (s.drv.take (k+1)):=h1;unfold Ds at h1;cases hi:DY x roots (s.drv.take k) i with
 |none=>rw[hi]at h1;cases h1
 |some t =>
  rw[hi]at h1;have h1:some (s.drv.take k++[t])=some (s.drv.take (k+1)):=h1;have hd:k<s.drv.length:=by rw[h.dlen];exact DF
  have:t=s.drv[k]:=by
   have h2:=BA h1;rw[EV hd]at h2;exact List.singleton_inj.1 (List.append_cancel_left h2)
  rw[Yx hi (List.take_prefix ..),this];simp[List.getD_eq_getElem?_getD,hd]
structure Grow(s s' : SS):Prop where
 pre:s.drv <+: s'.drv
 preI:s.infs <+: s'.infs
 full:s.full=true→s'.full=true
theorem Grow.refl(s:SS):Grow s s:=⟨No,No,id⟩
theorem Grow.trans{a b c:SS}(h:Grow a b)(k:Grow b c):Grow a c:=⟨h.pre.trans k.pre,h.preI.trans k.preI,fun e=>k.full (h.full e)⟩
theorem Grow.at{s s' : SS}(h:Grow s s'){k:Nat}(hk:k<s.drv.length):DT s' k=DT s k:=by
 obtain⟨t,e⟩:=h.pre;unfold DT;rw[←e,BY,BY,A4 hk]
theorem Grow.len{s s' : SS}(h:Grow s s'):s.drv.length≤s'.drv.length:=h.pre.length_le
theorem KP(s:SS)(i:Nf)(l:List Tm):Grow s (El s i l).2:=by
 unfold El;split
 ·exact .refl s
 ·split
  ·exact⟨No,No,fun _=>rfl⟩
  ·exact⟨OK ..,OK ..,id⟩
theorem KO{x:List Rl}{roots:List Rq}{s:SS}(h:FG x roots s){i:Nf}{l:List Tm}(hi:DY x roots s.drv i=some l) :
  FG x roots (El s i l).2∧(El s i l).1<(El s i l).2.drv.length∧((El s i l).2.full=false→DT (El s i l).2 (El s i l).1=l):=by
 have hdl:=h.dlen;unfold El;split
 ·rename_i k hk;obtain⟨j,e,hj⟩:=Nj hk
  have:k=j:=by omega
  subst this;have DF:=(Aw.1 hj).1;refine⟨h,by show k<s.drv.length;omega,fun _=>?_⟩
  have:=h.at hj
  rw[hi]at this;exact(BA this).symm
 ·rename_i hk;split
  ·rename_i hf;exact⟨⟨h.der,h.len⟩,by show s.infs.length-1<s.drv.length;omega,fun e=>by cases e⟩
  ·rename_i hf;refine⟨⟨?_,by show(s.infs++[i]).length≤65536;rw[Ad];simp;omega⟩,by show s.infs.length<(s.drv++[l]).length;rw[Ad];simp;omega,fun _=>?_⟩
   ·show Ds x roots (s.infs++[i]) []=some (s.drv++[l]);rw[Hj,h.der];show Ds x roots [i] s.drv=_;unfold Ds;rw[hi];rfl
   ·show(s.drv++[l]).getD s.infs.length []=l;rw[←hdl];simp[List.getD_eq_getElem?_getD]
theorem Tl(S:List Sl):∀{l:List (List Tm)} {i k:Nat},OY S i l=some k→∃j,k=i+j∧∃t,l[j]?=some t∧CN t S=true
 | [],_,_,h=>by cases h
 |t::l,i,k,h=>by
  unfold OY at h;split at h
  ·rename_i e;cases h;exact⟨0,rfl,t,rfl,e⟩
  ·obtain⟨j,h1,t',h2,h3⟩:=Tl S h;exact⟨j+1,by omega,t',h2,h3⟩
theorem KU{d:List (List Tm)}{S:List Sl}{k:Nat}(h:OZ d S=some k):k<d.length∧CN (d.getD k []) S=true:=by
 obtain⟨j,h1,t,h2,h3⟩:=Tl S h
 have:k=j:=by omega
 subst this;refine⟨(Aw.1 h2).1,?_⟩;rw[BY,h2];exact h3
theorem Mf:∀{l:List Rq} {b:Option ByteArray},Ec b l=0→∀q∈l,q.set≠[]∧EQ q.set
 | [],_,_,q,hq=>by cases hq
 |r::l,b,h,q,hq=>by
  unfold Ec at h;split at h
  ·rename_i e;rcases Av.1 hq with rfl | hq
   ·unfold Gi at e
    by_cases h1:(Bi q.path).isNone=true
    ·rw[Ax h1]at e;exact absurd e (by decide)
    rw[Ao h1]at e;cases hE:q.set.isEmpty with
    |true=>rw[hE]at e;simp at e
    |false =>
     cases hD:decide (q.set=canon q.set)with
     |false=>rw[hD]at e;simp at e
     |true =>
      have h3:q.set=canon q.set:=BD hD;exact⟨by simpa using hE,by rw[h3];exact Cv _⟩
   ·exact Mf h q hq
  ·rename_i e;exact absurd h e
theorem Lq{l:List Rq}(h:By l=0):∀q∈l,q.set≠[]∧EQ q.set:=by
 unfold By at h;split at h
 ·cases h
 ·exact Mf h
abbrev PW(k:Int):Ver:=⟨0,k / 1000,k % 1000⟩
theorem Hv(k:Int):place (PW k)=k:=by unfold place;show 1000*(k / 1000)+k % 1000=k;omega
theorem Fe{k:Int}(h:0≤k∧k<1000000):Cy (PW k)=true:=by
 unfold Cy okPart;simp only[Ah];exact⟨⟨At (by omega),At (by omega)⟩,At (by omega)⟩
structure XC(D:List Sl)(p:ByteArray)(S:List Sl):Prop where
 val:Gt S
 same:∀q,q≠p→Cn S q=Cn D q
abbrev KC(D:List Sl)(p:ByteArray)(v:Ver):List Sl:=D++[⟨p,v⟩]
theorem Ku(a b:List Sl)(p:ByteArray):Cn (a++b) p=(Cn a p).or (Cn b p):=by
 unfold Cn;rw[List.find?_append]
theorem HZ{s:List Sl}{p:ByteArray}(h:CQ s p=false):Cn s p=none:=by
 rw[Kh]at h;cases e:Cn s p with
 |none=>rfl
 |some y=>rw[e]at h;cases h
theorem XC.self{D:List Sl}{p:ByteArray}(h:Gt D):XC D p D:=⟨h,fun _ _=>rfl⟩
theorem XC.ver{D:List Sl}{p:ByteArray}(h:Gt D){v:Ver}(hv:Cy v=true):XC D p (KC D p v):=by
 refine⟨fun y hy=>?_,fun q hq=>?_⟩
 ·rcases A6.1 hy with hy | hy
  ·exact h y hy
  ·rw[As.1 hy];exact hv
 ·rw[Ku]
  have:Cn [(⟨p,v⟩:Sl)] q=none:=by unfold Cn;simp[Ne.symm hq]
  rw[this,Option.or_none]
theorem ID{D:List Sl}{p:ByteArray}(hp:CQ D p=false)(v:Ver):Cn (KC D p v) p=some ⟨p,v⟩:=by
 rw[Ku,HZ hp];unfold Cn;simp
theorem RA{D:List Sl}{p:ByteArray}(hp:CQ D p=false){v v' : Ver}(hv:Cy v=true)(uy : Cy v'=true)(e:place v=place v')(q:ByteArray)(t:Tm) :
  Dx t (Cn (KC D p v) q)=Dx t (Cn (KC D p v') q):=by
 by_cases hq:q=p
 ·subst hq;rw[ID hp,ID hp];show(Cy v&&has t.set (place v))=(Cy v'&&has t.set (place v'));rw[hv,uy,e]
 ·have h1:∀w:Ver,Cn (KC D p w) q=Cn D q:=fun w=>by
   rw[Ku]
   have:Cn [(⟨p,w⟩:Sl)] q=none:=by unfold Cn;simp[Ne.symm hq]
   rw[this,Option.or_none]
  rw[h1,h1]
theorem aT{D:List Sl}{p:ByteArray}(hp:CQ D p=false){v v' : Ver}(hv:Cy v=true)(uy : Cy v'=true)(e:place v=place v')(t:List Tm):Bp t (KC D p v)=Bp t (KC D p v'):=by
 rw[B1,BL,BL];exact⟨fun h u hu=>by rw[←RA hp hv uy e];exact h u hu,fun h u hu=>by rw[RA hp hv uy e];exact h u hu⟩
theorem Li{D S S' : List Sl}{p:ByteArray}(h:XC D p S)(h' : XC D p S'){t:List Tm}(ht:∀u∈t,u.path≠p):Bp t S=Bp t S':=by
 rw[B1,BL,BL];exact⟨fun k u hu=>by rw[h'.same _ (ht u hu),←h.same _ (ht u hu)];exact k u hu,fun k u hu=>by rw[h.same _ (ht u hu),←h'.same _ (ht u hu)];exact k u hu⟩
theorem Kd{t:List Tm}{p:ByteArray}(h:Dk t p=false):∀u∈t,u.path≠p:=fun u hu e=>by
 unfold Dk at h;rw[FH]at h;exact h u hu (by simpa using e)
theorem Tf{t:List Tm}{p:ByteArray}(h:Dk t p=true):∃u∈t,u.path=p:=by
 unfold Dk at h;rw[Bb]at h;obtain⟨u,hu,e⟩:=h;exact⟨u,hu,by simpa using e⟩
theorem UF{t:List Tm}{p:ByteArray}(hf:Lk t)(hc:Dk t p=true):∃u r,FF t p=some (u,r)∧u.path=p∧∀v∈r,v.path≠p:=by
 obtain⟨u,hu,e⟩:=Tf hc;have hs:=E2 hf;have o7:=(FZ hs).1 hu;rw[e]at o7;refine⟨u,F6 t p,?_,e,fun v hv=>?_⟩
 ·unfold FF;rw[show C3 t=some t from hf];dsimp only;rw[o7]
 ·have:=(Bo.1 hv).2
  simpa using this
theorem Xl{D:List Sl}{p:ByteArray}{t b:List Tm}(hJ:Lk t)(o6:Lk b)(hct:Dk t p=true)(wQ:Dk b p=true){S1 S2:List Sl}(h1:XC D p S1)(v1:Bp t S1=true)(h2:XC D p S2)(v2:Bp b S2=true) :
  (BH t b p).2=0∧∀S,XC D p S→Bp t S=true∨Bp b S=true→Bp (BH t b p).1 S=true:=by
 obtain⟨u,r,e1,pu,nr⟩:=UF hJ hct;obtain⟨w,m,e2,pw,nm⟩:=UF o6 wQ;have key:∀S,XC D p S→Bp t S=true∨Bp b S=true→Bp (r++m++[Dv u w]) S=true:=fun S hS hv=>by
  have r1:Bp r S=true:=by
   rw[Li hS h1 nr];rw[(F5 h1.val e1).1,Ah]at v1;exact v1.2
  have m1:Bp m S=true:=by
   rw[Li hS h2 nm];rw[(F5 h2.val e2).1,Ah]at v2;exact v2.2
  rw[Hl,Hl,r1,m1];simp only[EP];rw[BL];intro y hy;rw[As.1 hy,show(Dv u w).path=p from pu,NI,CF];rcases hv with hv | hv
  ·rw[(F5 hS.val e1).1,Ah]at hv;exact .inl hv.1
  ·rw[(F5 hS.val e2).1,Ah]at hv;exact .inr hv.1
 unfold BH;rw[e1,e2];dsimp only;have c1:=Dj (l:=r++m++[Dv u w]) h1.val;rw[key S1 h1 (.inl v1)]at c1;cases hc:C3 (r++m++[Dv u w])with
 |none=>rw[hc]at c1;cases c1
 |some o =>
  dsimp only;refine⟨rfl,fun S hS hv=>?_⟩;have c2:=Dj (l:=r++m++[Dv u w]) hS.val;rw[hc,key S hS hv]at c2;exact c2.symm
theorem jd{D:List Sl}{p:ByteArray}(hp:CQ D p=false){t:List Tm}(hf:Lk t)(h0:Bp t D=true)(hk:∀k:Int,0≤k→k<1000000→Bp t (KC D p (PW k))=true):Dk t p=false:=by
 rw[AF];intro hc;obtain⟨u,hu,e⟩:=Tf hc;have ha:u.absent=true:=by
  have:=BL.1 h0 u hu
  rw[e,HZ hp]at this;exact this
 have hs:∀k:Int,0≤k→k<1000000→has u.set k=true:=fun k k0 k1=>by
  have:=BL.1 (hk k k0 k1) u hu
  rw[e,ID hp]at this;unfold Dx at this;rw[Ah]at this
  have:=this.2
  rw[show(⟨p,PW k⟩:Sl).ver=PW k from rfl,Hv]at this;exact this
 have qo:EQ u.set:=Cp.canon (E2 hf) u hu;have ia:u.set=[(0,1000000)]:=by
  refine HU qo ⟨by decide,by decide,by decide,trivial⟩ fun k=>?_;rw[B1];constructor
  ·intro h
   have:=Ms h
   unfold has;simp[BU,this.1,this.2]
  ·intro h
   have:=Ms h
   exact hs k this.1 this.2
 have rU:GT u=true:=by unfold GT;rw[ha,ia];rfl
 have uk:C3 t=some t:=hf;unfold C3 at uk;split at uk
 ·cases uk
 ·have e2:=BA uk;rw[←e2]at hu
  have:=(Bo.1 hu).2
  rw[rU]at this;cases this
structure ER(x:List Rl)(dec:List Cd):Prop where
 cand:∀c∈dec,c.rel∈x∧c.rel.yanked=false∧c.place=plc c.rel.ver
 nodup:(dec.map fun c=>c.rel.path).Nodup
theorem ER.nil(x:List Rl):ER x []:=⟨fun _ h=>(by cases h),Fu⟩
theorem Uk{r:Rl}(h:SN r):r.path≠mt:=fun e=>by
 have:=h.maj
 rw[e]at this;have h2:Bi mt=none:=by decide
 rw[h2]at this;cases this
theorem SN.set{r:Rl}(h:SN r):∀q∈r.reqs,q.set≠[]∧EQ q.set:=Lq h.reqs
theorem Od(dec:List Cd):(AO dec).map (·.path)=dec.map fun c=>c.rel.path:=by unfold AO;rw[BW];rfl
theorem N3:∀{D:List Sl},(D.map (·.path)).Nodup→∀{y:Sl},y∈D→Cn D y.path=some y
 | [],_,y,h=>by cases h
 |z::D,hn,y,h=>by
  simp only[AS,Db]at hn;unfold Cn;rw[FO];rcases Av.1 h with rfl | h
  ·rw[At rfl]
  ·have:z.path≠y.path:=fun e=>hn.1 (Ar.2 ⟨y,h,e.symm⟩)
   rw[Aj this];exact N3 hn.2 h
theorem ER.find{x:List Rl}{dec:List Cd}(h:ER x dec){c:Cd}(hc:c∈dec):Cn (AO dec) c.rel.path=some (TW c) :=
 N3 (by rw[Od];exact h.nodup) (y:=TW c) (Ar.2 ⟨c,hc,rfl⟩)
theorem ER.valid{x:List Rl}(hx:A9 x=0){dec:List Cd}(h:ER x dec):Gt (AO dec):=fun y hy=>by
 obtain⟨c,hc,rfl⟩:=Ar.1 hy;exact((Dc hx).1 _ (h.cand c hc).1).val
theorem ER.snoc{x:List Rl}{dec:List Cd}(h:ER x dec){c:Cd}(hc:c.rel∈x∧c.rel.yanked=false∧c.place=plc c.rel.ver)(hd:Dt dec c.rel.path=false):ER x (dec++[c]):=by
 refine⟨fun d hd=>?_,?_⟩
 ·rcases A6.1 hd with hd | hd
  ·exact h.cand d hd
  ·rw[As.1 hd];exact hc
 ·rw[AH,ET];refine⟨h.nodup,by simp,fun a ha b hb e=>?_⟩;obtain⟨d,lz,rfl⟩:=Ar.1 ha;simp only[AS,Fm,As]at hb;unfold Dt at hd;rw[FH]at hd;exact hd d lz (by simpa using e.trans hb)
theorem MF{roots:List Rq}{E:List Cd}{n:Nd}(h:n∈DD roots E):(∃k q,roots[k]?=some q∧n=⟨q,mt,0,(k:Nat)⟩)∨∃c∈E,∃k q,c.rel.reqs[k]?=some q∧n=⟨q,c.rel.path,c.place,(k:Nat)⟩:=by
 unfold DD at h;rcases A6.1 h with h | h
 ·obtain⟨k,q,h1,h2⟩:=YZ h;exact .inl ⟨k,q,h1,h2⟩
 ·obtain⟨l,hl,hn⟩:=EF.1 h;obtain⟨c,hc,rfl⟩:=Ar.1 hl;obtain⟨k,q,h1,h2⟩:=YZ hn;exact .inr ⟨c,hc,k,q,h1,h2⟩
theorem Ol{roots:List Rq}{dec:List Cd}{c:Cd}{n:Nd}(h:n∈DD roots dec):n∈DD roots (dec++[c]):=by
 unfold DD at *
 rw[AH,CU,←AM];exact Br _ h
theorem Na{roots:List Rq}{dec:List Cd}{c:Cd}{n:Nd}(h:n∈QP c):n∈DD roots (dec++[c]):=by
 unfold DD;rw[AH,CU,←AM];exact Bv _ (by simpa using h)
def Nu(n:Nd):List Tm:=if n.path=mt then [DP n.rq]else [⟨n.path,false,[(n.place,n.place+1)]⟩,DP n.rq]
theorem Pu(n:Nd):Jo n=QJ (Nu n):=by unfold Jo Nu JV Eu;split<;>rfl
theorem cg{s:Bg}(h:s≠[])(hc:EQ s):∃k,has s k=true:=by
 match s,h,hc with
 |x::r,_,hc =>
  have:=EY.low hc x (Ac ..)
  refine⟨x.1,?_⟩;unfold has;have h1:BU x.1 x=true:=DS.2 ⟨AZ _,this.2.1⟩;simp only[Cf,h1,Bool.true_or,Bool.and_true,Ah,AB];omega
theorem RN{q:Rq}{o:Option Sl}(h:o=none∨∃y,o=some y∧Cy y.ver=true∧has q.set (place y.ver)=false):Dx (DP q) o=true:=by
 rcases h with rfl | ⟨y,rfl,hv,hq⟩
 ·rfl
 ·show(Cy y.ver&&has (Ev q.set) (place y.ver))=true
  have:=JU hv
  rw[hv,F0,hq];unfold L4;simp[this.1,this.2]
theorem Ui{q:Rq}{y:Sl}(hq:has q.set (place y.ver)=true):Dx (DP q) (some y)=false:=by
 show(Cy y.ver&&has (Ev q.set) (place y.ver))=false;rw[F0,hq];simp
structure qO(x:List Rl)(roots:List Rq)(S:List Sl)(n:Nd):Prop where
 inf:∀d,DY x roots d (TS n)=some (Jo n)
 viol:Bp (Jo n) S=true
 raw:∀S',Gt S'→Bp (Jo n) S'=Bp (Nu n) S'
 form:Lk (Jo n)
 inU:∀U:List ByteArray,(n.path≠mt→n.path∈U)→n.rq.path∈U→Vb U (Jo n)
 path:n.path≠mt→CQ S n.path=true
theorem Sr{x:List Rl}{roots:List Rq}(hx:A9 x=0)(hr:By roots=0){E:List Cd}(hE:ER x E){n:Nd}(hn:n∈DD roots E)
  (hv:Cn (AO E) n.rq.path=none∨∃y,Cn (AO E) n.rq.path=some y∧has n.rq.set (place y.ver)=false):qO x roots (AO E) n:=by
 have hV:=hE.valid hx;have ip:Dx (DP n.rq) (Cn (AO E) n.rq.path)=true:=RN (hv.imp id fun⟨y,h1,h2⟩=>⟨y,h1,hV y (JI h1),h2⟩)
 -- the raw list is Bp here,and not elsewhere
 have N9:n.rq.set≠[]∧EQ n.rq.set:=by
  rcases MF hn with ⟨k,q,h1,rfl⟩ | ⟨c,hc,k,q,h1,rfl⟩
  ·exact Lq hr q (AA h1)
  ·exact((Dc hx).1 _ (hE.cand c hc).1).set q (AA h1)
 have W3:Bp (Nu n) (AO E)=true∧(n.path≠mt→CQ (AO E) n.path=true):=by
  rcases MF hn with ⟨k,q,h1,rfl⟩ | ⟨c,hc,k,q,h1,rfl⟩
  ·refine⟨?_,fun h=>absurd rfl h⟩;unfold Nu;rw[Ax rfl,BL];intro u hu;rw[As.1 hu];exact ip
  ·have DL:=Uk ((Dc hx).1 _ (hE.cand c hc).1);refine⟨?_,fun _=>by rw[Kh,hE.find hc];rfl⟩;unfold Nu;rw[Ao DL,BL];intro u hu;rcases Av.1 hu with rfl | hu
   ·show Dx _ (Cn (AO E) c.rel.path)=true;rw[hE.find hc];show(Cy c.rel.ver&&has [(c.place,c.place+1)] (place c.rel.ver))=true;have GW:=(Dc hx).1 _ (hE.cand c hc).1;have hp:=JU GW.val;rw[GW.val,(hE.cand c hc).2.2,GW.plc];unfold has;simp[BU,hp.1,hp.2];omega
   ·rw[As.1 hu];exact ip
 have xf:∃S',Gt S'∧Bp (Nu n) S'=false:=by
  unfold Nu;split
  ·obtain⟨k,hk⟩:=cg N9.1 N9.2;have Zn:=Ms hk;refine⟨[⟨n.rq.path,PW k⟩],fun y hy=>by rw[As.1 hy];exact Fe Zn,?_⟩;rw[AF];intro h
   have:=BL.1 h (DP n.rq) (As.2 rfl)
   rw[show(DP n.rq).path=n.rq.path from rfl,show Cn [(⟨n.rq.path,PW k⟩:Sl)] n.rq.path=some ⟨n.rq.path,PW k⟩ by unfold Cn;simp,Ui (by rw[show(⟨n.rq.path,PW k⟩:Sl).ver=PW k from rfl,Hv];exact hk)]at this;cases this
  ·refine⟨[],fun y hy=>(by cases hy),?_⟩;rw[AF];intro h
   have:=BL.1 h _ (Ac ..)
   cases this
 obtain⟨W3,sF⟩:=W3;have DL:QJ (Nu n)≠[]:=by
  obtain⟨S',v',n'⟩:=xf;have c1:=Dj (l:=Nu n) hV;have c2:=Dj (l:=Nu n) v';unfold QJ;cases hc:C3 (Nu n)with
  |none=>rw[hc,W3]at c1;cases c1
  |some c =>
   rw[hc,n']at c2;intro e;have e:c=[]:=e;rw[e]at c2;cases c2
 have nv:∀S',Gt S'→Bp (Jo n) S'=Bp (Nu n) S':=fun S' v=>by rw[Pu];exact QK v DL
 refine⟨fun d=>?_,by rw[nv _ hV];exact W3,nv,by rw[Pu];exact MH _,fun U h1 h2=>?_,sF⟩
 ·rcases MF hn with ⟨k,q,h1,rfl⟩ | ⟨c,hc,k,q,h1,rfl⟩
  ·show DY x roots d (if(mt:ByteArray)=mt then⟨0,mt,0,(k:Nat),0,0⟩else _)=some (if(mt:ByteArray)=mt then JV q else _);rw[Ax rfl,Ax rfl];show(if mt=mt∧(0:Int)=0∧(0:Int)=0∧(0:Int)=0 then(JS roots (k:Nat)).map JV else none)=some (JV q);rw[Ax ⟨rfl,rfl,rfl,rfl⟩];unfold JS;rw[Ao (by omega),Ba,h1];rfl
  ·have GW:=(Dc hx).1 _ (hE.cand c hc).1;have UJ:=Uk GW;have xq:PK x c.rel.path c.place=some c.rel:=by
    unfold PK;cases hf:x.find? fun r=>decide (r.path=c.rel.path)&&decide (plc r.ver=c.place)with
    |none =>
     rw[D0]at hf;exact absurd (by simp[(hE.cand c hc).2.2]) (hf c.rel (hE.cand c hc).1)
    |some r =>
     have h2:=FP hf;simp only[Ah,AB]at h2;have iu:=CR hf;have xj:=(Dc hx).1 r iu;rw[cd (Dc hx) iu (hE.cand c hc).1 h2.1 (by rw[←xj.plc,h2.2,(hE.cand c hc).2.2,GW.plc])]
   have e1:TS ⟨q,c.rel.path,c.place,(k:Nat)⟩=⟨1,c.rel.path,c.place,(k:Nat),0,0⟩:=by unfold TS;rw[Ao UJ]
   have e2:Jo ⟨q,c.rel.path,c.place,(k:Nat)⟩=Eu c.rel.path c.place q:=by unfold Jo;rw[Ao UJ]
   rw[e1,e2];unfold DY;rw[Ao (show ¬((1:Int)=0) by decide),Ax rfl,Ax ⟨rfl,rfl⟩];dsimp only;rw[xq];dsimp only;unfold JS;rw[Ao (by omega),Ba,h1];dsimp only;unfold dJ;rw[Ao];rw[Gc,←e2,Pu];exact DL
 ·rw[Pu];refine Uh fun u hu=>?_;unfold Nu at hu;split at hu
  ·rw[As.1 hu];exact h2
  ·rename_i hm;rcases Av.1 hu with rfl | hu
   ·exact h1 hm
   ·rw[As.1 hu];exact h2
structure kB(D:List Sl)(U:List ByteArray)(p:ByteArray)(t:List Tm)(C:Int→Prop):Prop where
 form:Lk t
 inU:Vb U t
 conc:Dk t p=true
 one:∃S,XC D p S∧Bp t S=true
 cov:∀k:Int,0≤k→k<1000000→C k→Bp t (KC D p (PW k))=true
structure nR(D:List Sl)(U:List ByteArray)(p:ByteArray)(t:List Tm)(C:Int→Prop):Prop where
 form:Lk t
 inU:Vb U t
 none_:Bp t D=true
 cov:∀k:Int,0≤k→k<1000000→C k→Bp t (KC D p (PW k))=true
theorem FG.forms{x:List Rl}{roots:List Rq}{s:SS}(h:FG x roots s):∀k,Lk (DT s k):=fun k=>by
 unfold DT;rw[BY];cases e:s.drv[k]? with
 |none=>exact Pl
 |some t=>exact Ny (fun _ h=>by cases h) h.der t (AA e)
theorem VL{x:List Rl}{roots:List Rq}{d:List (List Tm)}{k r:Nat}{p:ByteArray}(hk:k<d.length)(hr:r<d.length)(h0:(BH (d.getD k []) (d.getD r []) p).2=0) :
  DY x roots d ⟨3,p,0,0,(k:Nat),(r:Nat)⟩=some (BH (d.getD k []) (d.getD r []) p).1:=by
 have e:∀j:Nat,j<d.length→JS d (j:Nat)=some (d.getD j []):=fun j hj=>by
  unfold JS;rw[Ao (by omega),Ba,BY,AE hj];rfl
 unfold DY;rw[Ao (show ¬((3:Int)=0) by decide),Ao (show ¬((3:Int)=1) by decide),Ao (show ¬((3:Int)=2) by decide),Ax rfl,Ax ⟨rfl,rfl⟩];dsimp only;rw[e k hk,e r hr];dsimp only;rw[Ax h0]
theorem Oe{x:List Rl}{roots:List Rq}{D:List Sl}{U:List ByteArray}{p:ByteArray}(hD:Gt D):∀(l:List (Nat×(Int→Prop))) {k:Nat} {s:SS} {C:Int→Prop},FG x roots s→k<s.drv.length→(∀y∈l,y.1<s.drv.length) →
  (s.full=false→nR D U p (DT s k) C∧∀y∈l,kB D U p (DT s y.1) y.2) →
  FG x roots (Cs p (l.map (·.1)) k s).2∧Grow s (Cs p (l.map (·.1)) k s).2∧(Cs p (l.map (·.1)) k s).1<(Cs p (l.map (·.1)) k s).2.drv.length ∧
  ((Cs p (l.map (·.1)) k s).2.full=false→∃C',nR D U p (DT (Cs p (l.map (·.1)) k s).2 (Cs p (l.map (·.1)) k s).1) C' ∧
   (Dk (DT (Cs p (l.map (·.1)) k s).2 (Cs p (l.map (·.1)) k s).1) p=false∨∀j,C j∨(∃y∈l,y.2 j)→C' j))
 | [],k,s,C,hd,hk,_,hA=>⟨hd,.refl s,hk,fun hf=>⟨C,(hA hf).1,.inr fun j hj=>hj.elim id fun⟨y,hy,_⟩=>(by cases hy)⟩⟩
 |y::l,k,s,C,hd,hk,hl,hA=>by
  rw[AS]
  by_cases h1:s.full=true∨Dk (DT s k) p=false
  ·have e:Cs p (y.1::l.map (·.1)) k s=(k,s):=by unfold Cs;rw[Ax h1]
   rw[e];refine⟨hd,.refl s,hk,fun hf=>⟨C,(hA hf).1,.inl (h1.resolve_left fun e=>?_)⟩⟩;have hf:s.full=false:=hf;rw[e]at hf;cases hf
  simp only[not_or,Bool.not_eq_true,Bool.not_eq_false]at h1;obtain⟨hf,OD⟩:=h1;obtain⟨WU,lp⟩:=hA hf;have hy:=lp y (Ac ..);have hi:¬(s.full=true∨Dk (DT s k) p=false):=by rw[hf,OD];simp
  by_cases h2:y.1=k
  ·have e:Cs p (y.1::l.map (·.1)) k s=Cs p (l.map (·.1)) k s:=by conv=>lhs;unfold Cs;rw[Ao hi,Ax h2]
   rw[e];have hA' : nR D U p (DT s k) fun j=>C j∨y.2 j:=⟨WU.form,WU.inU,WU.none_,fun j j0 j1 hj=>hj.elim (WU.cov j j0 j1) fun h=>by rw[←h2];exact hy.cov j j0 j1 h⟩;obtain⟨i1,i2,i3,i4⟩:=Oe hD l hd hk (fun z hz=>hl z (Af _ hz)) (fun _=>⟨hA',fun z hz=>lp z (Af _ hz)⟩);refine⟨i1,i2,i3,fun hf=>?_⟩;obtain⟨C',j1,j2⟩:=i4 hf;refine⟨C',j1,j2.imp id fun h j hj=>h j ?_⟩;rcases hj with hj | ⟨z,hz,hj⟩
   ·exact .inl (.inl hj)
   ·rcases Av.1 hz with rfl | hz
    ·exact .inl (.inr hj)
    ·exact .inr ⟨z,hz,hj⟩
  ·obtain⟨S2,o2,v2⟩:=hy.one;obtain⟨r1,r2⟩:=Xl WU.form hy.form OD hy.conc (.self hD) WU.none_ o2 v2;have e:Cs p (y.1::l.map (·.1)) k s=Cs p (l.map (·.1)) (El s ⟨3,p,0,0,k,y.1⟩ (BH (DT s k) (DT s y.1) p).1).1 (El s ⟨3,p,0,0,k,y.1⟩ (BH (DT s k) (DT s y.1) p).1).2:=by
    conv=>lhs;unfold Cs;rw[Ao hi,Ao h2,Ao (fun h=>h r1)]
   rw[e];have hy1:=hl y (Ac ..);obtain⟨a1,a2,a3⟩:=KO hd (VL (x:=x) (roots:=roots) hk hy1 r1);have hg:=KP s ⟨3,p,0,0,(k:Nat),(y.1:Nat)⟩ (BH (DT s k) (DT s y.1) p).1;generalize Xx : El s ⟨3,p,0,0,(k:Nat),(y.1:Nat)⟩ (BH (DT s k) (DT s y.1) p).1=s' at *
   have a3:s'.2.full=false→DT s'.2 s'.1=(BH (DT s k) (DT s y.1) p).1:=a3;obtain⟨i1,i2,i3,i4⟩:=Oe hD (C:=fun j=>C j∨y.2 j) l a1 a2 (fun z hz=>BT (hl z (Af _ hz)) hg.len) (fun ft=>by
    refine⟨?_,fun z hz=>by rw[hg.at (hl z (Af _ hz))];exact lp z (Af _ hz)⟩;rw[a3 ft];exact⟨NR _ _ _,RQ WU.inU hy.inU,r2 D (.self hD) (.inl WU.none_),fun j j0 j1 hj=>r2 _ (.ver hD (Fe ⟨j0,j1⟩)) (hj.imp (WU.cov j j0 j1) (hy.cov j j0 j1))⟩)
   refine⟨i1,hg.trans i2,i3,fun hf=>?_⟩;obtain⟨C',j1,j2⟩:=i4 hf;refine⟨C',j1,j2.imp id fun h j hj=>h j ?_⟩;rcases hj with hj | ⟨z,hz,hj⟩
   ·exact .inl (.inl hj)
   ·rcases Av.1 hz with rfl | hz
    ·exact .inl (.inr hj)
    ·exact .inr ⟨z,hz,hj⟩
def Ja(roots:List Rq)(dec:List Cd):Prop:=∀q∈Ie roots dec,∀d∈dec,d.rel.path=q.path→has q.set d.place=true
theorem Ja.nil(roots:List Rq):Ja roots []:=fun _ _ d h=>by cases h
theorem aM(roots:List Rq)(dec:List Cd)(c:Cd):Ie roots (dec++[c])=Ie roots dec++c.rel.reqs:=by
 unfold Ie;rw[AH,CU,AM];simp
theorem mB(c:Cd):(QP c).map (·.rq)=c.rel.reqs:=SA (fun _ _=>rfl) _ _
theorem ZK{dec:List Cd}{c:Cd}(h:Ei dec c=none):∀q∈c.rel.reqs,∀d∈dec++[c],d.rel.path=q.path→has q.set d.place=true:=fun q hq d hd e=>by
 rw[←mB]at hq;obtain⟨n,hn,rfl⟩:=Ar.1 hq;unfold Ei at h;rw[D0]at h
 have:=h n hn
 unfold bL at this;rw[Bool.not_eq_true,FH]at this
 have:=this d hd
 rw[e]at this;simpa using this
theorem Lr{dec:List Cd}{c:Cd}{n:Nd}(h:Ei dec c=some n):n∈QP c∧∃d∈dec++[c],d.rel.path=n.rq.path∧has n.rq.set d.place=false:=by
 unfold Ei at h;have h1:=FP h;refine⟨CR h,?_⟩;unfold bL at h1;rw[Bb]at h1;obtain⟨d,hd,e⟩:=h1;simp only[Ah,AB,Da]at e;exact⟨d,hd,e⟩
theorem Ja.snoc{roots:List Rq}{dec:List Cd}(h:Ja roots dec){p:ByteArray}{needs:List Nd}(hN:qe roots dec p needs){c:Cd}(hc:c.rel.path=p)(hn:∀n∈needs,has n.rq.set c.place=true)(hk:Ei dec c=none):Ja roots (dec++[c]):=by
 intro q hq d hd e;rw[aM]at hq;rcases A6.1 hq with hq | hq
 ·rcases A6.1 hd with hd | hd
  ·exact h q hq d hd e
  ·rw[As.1 hd]at e⊢;rw[←M9]at hq;obtain⟨n,Yo,rfl⟩:=Ar.1 hq;exact hn n ((hN.mem n).2 ⟨Yo,by rw[←e,hc]⟩)
 ·exact ZK hk q hq d hd e
def U3(y:Sl):List Sl→List Sl
 | []=>[y]
 |z::l=>if EM y.path z.path then y::z::l else z::U3 y l
def Gm:List Sl→List Sl
 | []=>[]
 |y::l=>U3 y (Gm l)
theorem TT{y z:Sl}:∀{l:List Sl},z∈U3 y l↔z=y∨z∈l
 | []=>by simp[U3]
 |u::l=>by
  unfold U3;split
  ·simp
  ·rw[Av,TT,Av];constructor
   ·rintro(h | h | h)
    ·exact .inr (.inl h)
    ·exact .inl h
    ·exact .inr (.inr h)
   ·rintro(h | h | h)
    ·exact .inr (.inl h)
    ·exact .inl h
    ·exact .inr (.inr h)
theorem IF{z:Sl}:∀{l:List Sl},z∈Gm l↔z∈l
 | []=>by simp[Gm]
 |u::l=>by unfold Gm;rw[TT,IF,Av]
theorem Yy{y:Sl}:∀{l:List Sl},Ws l→(∀z∈l,z.path≠y.path)→Ws (U3 y l)
 | [],_,_=>by simp[U3,Ws]
 |u::l,h,hn=>by
  obtain⟨h1,h2⟩:=BP.1 h;unfold U3;split
  ·rename_i hb;refine BP.2 ⟨fun z hz=>?_,h⟩;rcases Av.1 hz with rfl | hz
   ·exact hb
   ·exact Ep hb (h1 z hz)
  ·rename_i hb;refine BP.2 ⟨fun z hz=>?_,Yy h2 fun z hz=>hn z (Af _ hz)⟩;rcases TT.1 hz with rfl | hz
   ·cases e:EM u.path z.path with
    |true=>rfl
    |false =>
     have hb:EM z.path u.path=false:=by simpa using hb
     exact absurd (HT e hb) (hn u (Ac ..))
   ·exact h1 z hz
theorem QY:∀{l:List Sl},(l.map (·.path)).Nodup→Ws (Gm l)
 | [],_=>List.Pairwise.nil
 |y::l,h=>by
  simp only[AS,Db]at h;exact Yy (QY h.2) fun z hz e=>h.1 (Ar.2 ⟨z,IF.1 hz,e⟩)
theorem TP:∀{l:List Sl} {b:Option ByteArray},Ws l→(∀c,b=some c→∀y∈l,EM c y.path=true)→Io b l=true
 | [],_,_,_=>by unfold Io;rfl
 |y::l,b,h,hb=>by
  obtain⟨h1,h2⟩:=BP.1 h;unfold Io;cases b with
  |none=>simpa using TP h2 fun c e z hz=>by cases e;exact h1 z hz
  |some c =>
   have:=hb c rfl y (Ac ..)
   simp only[this,EP];exact TP h2 fun c e z hz=>by cases e;exact h1 z hz
theorem py{l:List Sl}(h:Ws l):Es l=true:=TP h fun _ e=>by cases e
theorem Vy{x:List Rl}(hx:A9 x=0){r:Rl}(hr:r∈x):N2 x (Gl r)=some r:=by
 unfold N2;rw[Ao (fun h=>h hx)];cases h:x.find? fun s=>decide (Gl s=Gl r)with
 |none =>
  rw[D0]at h;exact absurd (by simp) (h r hr)
 |some s =>
  have h1:=FP h;simp only[AB]at h1;rw[TY (Dc hx).2 (CR h) hr h1]
theorem ER.sorted{x:List Rl}{dec:List Cd}(h:ER x dec):Ws (Gm (AO dec)):=QY (by rw[Od];exact h.nodup)
theorem ER.findS{x:List Rl}{dec:List Cd}(h:ER x dec){c:Cd}(hc:c∈dec):Cn (Gm (AO dec)) c.rel.path=some (TW c) :=
 NF h.sorted (y:=TW c) (IF.2 (Ar.2 ⟨c,hc,rfl⟩))
theorem iL{x:List Rl}{roots:List Rq}(hx:A9 x=0){dec:List Cd}(h:ER x dec)(hs:Ja roots dec)(hl:K4 (Ie roots dec) (AO dec)=none):qf x roots (Gm (AO dec)):=by
 have Fp:∀q∈Ie roots dec,∃y,Cn (Gm (AO dec)) q.path=some y∧has q.set (place y.ver)=true:=fun q hq=>by
  have:=az hl q hq
  rw[Lx]at this;obtain⟨y,hy,e⟩:=this;obtain⟨d,hd,rfl⟩:=Ar.1 hy;have e:d.rel.path=q.path:=e;refine⟨TW d,by rw[←e];exact h.findS hd,?_⟩;have h1:=hs q hq d hd e;have GW:=(Dc hx).1 _ (h.cand d hd).1;rw[(h.cand d hd).2.2,GW.plc]at h1;exact h1
 refine⟨hx,py h.sorted,fun y hy=>?_,fun q hq=>Fp q (Br _ hq),fun y hy r hr q hq=>?_⟩
 ·obtain⟨d,hd,rfl⟩:=Ar.1 (IF.1 hy);exact⟨d.rel,Vy hx (h.cand d hd).1,(h.cand d hd).2.1⟩
 ·obtain⟨d,hd,rfl⟩:=Ar.1 (IF.1 hy)
  have:N2 x (TW d)=some d.rel:=Vy hx (h.cand d hd).1
  rw[this]at hr;cases hr;exact Fp q (Bv _ (EF.2 ⟨_,Ar.2 ⟨d,hd,rfl⟩,hq⟩))
def dU(dec:List Cd)(needs:List Nd)(c:Cd):Bool:=(needs.all fun n=>has n.rq.set c.place)&&(Ei dec c).isNone
def Of(x:List Rl)(roots:List Rq):Nat→List Cd→List (List Cd)
 |0,_=>[]
 |n+1,dec=>match(G1 roots dec).2 with
  | []=>[dec]
  |n0::l=>((Cw x (G1 roots dec).1).map fun c=>if dU dec (n0::l) c then Of x roots n (dec++[c])else []).flatten
structure Lf(x:List Rl)(roots:List Rq)(dec d:List Cd):Prop where
 pre:dec <+: d
 ok:ER x d
 sat:Ja roots d
 stop:K4 (Ie roots d) (AO d)=none
theorem Kb{x:List Rl}{p:ByteArray}{c:Cd}(h:c∈Cw x p):c.rel.path=p∧(c.rel∈x∧c.rel.yanked=false∧c.place=plc c.rel.ver):=by
 obtain⟨r,h1,h2,h3,rfl⟩:=Lo.1 h;exact⟨h2,h1,h3,rfl⟩
theorem PI{dec:List Cd}{needs:List Nd}{c:Cd}:dU dec needs c=true↔(∀n∈needs,has n.rq.set c.place=true)∧Ei dec c=none:=by
 unfold dU;rw[Ah,AR,Option.isNone_iff_eq_none]
theorem VT{x:List Rl}{roots:List Rq}:∀{n:Nat} {dec:List Cd},ER x dec→Ja roots dec→∀d∈Of x roots n dec,Lf x roots dec d
 |0,_,_,_,d,hd=>by cases hd
 |n+1,dec,h,hs,d,hd=>by
  unfold Of at hd;split at hd
  ·rename_i e;rw[As.1 hd];exact⟨No,h,hs,Ub.1 e⟩
  ·rename_i n0 l e;have hN:=Oo e;obtain⟨L,hL,hd⟩:=EF.1 hd;obtain⟨c,hc,rfl⟩:=Ar.1 hL;split at hd
   ·rename_i GW;obtain⟨h1,h2⟩:=PI.1 GW;obtain⟨c1,c2⟩:=Kb hc;have dh:Dt dec c.rel.path=false:=by rw[c1];exact hN.undone
    have:=VT (n:=n) (h.snoc c2 dh) (hs.snoc hN c1 h1 h2) d hd
    exact⟨(OK _ _).trans this.pre,this.ok,this.sat,this.stop⟩
   ·cases hd
theorem Lf.sol{x:List Rl}{roots:List Rq}(hx:A9 x=0){dec d:List Cd}(h:Lf x roots dec d):qf x roots (Gm (AO d)):=iL hx h.ok h.sat h.stop
theorem mc{x:List Rl}{roots:List Rq}(hx:A9 x=0){s:SS}(hd:FG x roots s){k:Nat}(hk:k<s.drv.length){dec d:List Cd}(he:CN (DT s k) (AO dec)=true)(h:Lf x roots dec d):False:=by
 have hS:=h.sol hx;have hv:=WK (s:=Gm (AO d)) hS.inc (fun y hy=>IF.2 (by
  obtain⟨c,hc,rfl⟩:=Ar.1 hy;obtain⟨t,e⟩:=h.pre;exact Ar.2 ⟨c,by rw[←e];exact Br _ hc,rfl⟩)) he
 have hn:=Mj hS (d:=[]) (fun _ h=>by cases h) hd.der (DT s k) (by
  unfold DT;rw[BY,AE hk];exact Ak hk)
 rw[hv]at hn;cases hn
theorem pA{x:List Rl}(h:A9 x=0):x.length≤256:=by
 unfold A9 at h;split at h
 ·cases h
 ·omega
theorem gU{l:List Rl}{k:Int}:(l.map fun r=>(plc r.ver,plc r.ver+1)).any (BU k)=true↔∃r∈l,plc r.ver=k:=by
 rw[Bb];constructor
 ·rintro⟨y,hy,h⟩
  obtain⟨r,hr,rfl⟩:=Ar.1 hy
  have:=DS.1 h
  exact⟨r,hr,by have h1:=this.1;have h2:=this.2;dsimp only at h1 h2;omega⟩
 ·rintro⟨r,hr,rfl⟩
  exact⟨_,Ar.2 ⟨r,hr,rfl⟩,DS.2 ⟨AZ _,by dsimp only;omega⟩⟩
theorem Vk{x:List Rl}(hx:A9 x=0){p:ByteArray}{k:Int}:has (Ci x p) k=true↔∃c∈Cw x p,c.place=k:=by
 unfold Ci;rw[HA];unfold has KB;rw[Ao (fun h=>h hx)];simp only[Ah,AB];rw[gU];constructor
 ·rintro⟨_,r,hr,rfl⟩
  simp only[Bo,AB,Da]at hr;exact⟨⟨plc r.ver,r⟩,Lo.2 ⟨r,hr.1.1,hr.1.2,hr.2,rfl⟩,rfl⟩
 ·rintro⟨c,hc,rfl⟩
  obtain⟨r,h1,h2,h3,rfl⟩:=Lo.1 hc;have GW:=(Dc hx).1 r h1
  have:=JU GW.val
  rw[←GW.plc]at this;refine⟨⟨this.1,this.2⟩,r,?_,rfl⟩;simp only[Bo,AB,Da];exact⟨⟨h1,h2⟩,h3⟩
theorem cq{x:List Rl}(hx:A9 x=0)(p:ByteArray):∃k:Int,0≤k∧k<1000000∧has (Ci x p) k=false:=by
 apply Bj;intro hn;have Fp:∀k∈(List.range 257).map fun i:Nat=>(i:Int),k∈x.map fun r=>plc r.ver:=by
  intro k hk;obtain⟨i,hi,rfl⟩:=Ar.1 hk;have hi:=List.mem_range.1 hi;have hh:has (Ci x p) (i:Int)=true:=by
   cases e:has (Ci x p) (i:Int)with
   |true=>rfl
   |false=>exact absurd ⟨(i:Int),by omega,by omega,e⟩ hn
  obtain⟨c,hc,e⟩:=(Vk hx).1 hh;obtain⟨r,h1,_,_,rfl⟩:=Lo.1 hc;exact Ar.2 ⟨r,h1,e⟩
 have:=IJ (List.pairwise_map.2 (List.nodup_range.imp fun h e=>h (Int.ofNat.inj e))) Fp
 rw[Bh,Bh,Rm]at this
 have:=pA hx
 omega
theorem LB(dec:List Cd)(c:Cd):AO (dec++[c])=KC (AO dec) c.rel.path c.rel.ver:=by unfold AO KC;rw[AH];rfl
theorem M0{t:List Tm}{S:List Sl}:CN t S=true↔Bp t S=true∧∀u∈t,CQ S u.path=true:=by
 unfold CN;rw[Ah,Da,FH];simp
section
variable {x:List Rl}{roots:List Rq}{dec:List Cd}{p:ByteArray}{needs:List Nd}
abbrev aE(p:ByteArray)(dec:List Cd):List ByteArray:=p::(AO dec).map (·.path)
theorem kY{c:Cd}{t:List Tm}(hf:Lk t)(he:CN t (AO (dec++[c]))=true):Vb (aE c.rel.path dec) t:=by
 refine⟨E2 hf,fun u hu=>?_⟩
 have:=(M0.1 he).2 u hu
 rw[Hz,LB,AH]at this;rcases A6.1 this with h | h
 ·exact Af _ h
 ·rw[AS,Fm,As]at h;rw[h];exact Ac ..
theorem gC(hx:A9 x=0)(hd:ER x dec){c:Cd}(hc:c.rel∈x){t:List Tm}(he:CN t (AO (dec++[c]))=true)(hn:Dk t c.rel.path=false):CN t (AO dec)=true:=by
 obtain⟨h1,h2⟩:=M0.1 he;have DL:=Kd hn;rw[LB]at h1 h2;refine M0.2 ⟨?_,fun u hu=>?_⟩
 ·rw[Li (.self (hd.valid hx)) (.ver (hd.valid hx) ((Dc hx).1 _ hc).val) DL];exact h1
 ·have:=h2 u hu
  rw[TC,CF]at this;rcases this with h | h
  ·exact h
  ·rw[Lx]at h;obtain⟨y,hy,e⟩:=h;rw[As.1 hy]at e;exact absurd e.symm (DL u hu)
theorem eJ(hx:A9 x=0)(hd:ER x dec){c:Cd}(hc:c.rel∈x∧c.rel.yanked=false∧c.place=plc c.rel.ver)(hu:Dt dec c.rel.path=false){t:List Tm}(hf:Lk t)(he:CN t (AO (dec++[c]))=true)(hn:Dk t c.rel.path=true) :
  kB (AO dec) (aE c.rel.path dec) c.rel.path t fun k=>k=c.place:=by
 have GW:=(Dc hx).1 _ hc.1;have hV:=hd.valid hx;have h1:=(M0.1 he).1;rw[LB]at h1;refine⟨hf,kY hf he,hn,⟨_,.ver hV GW.val,h1⟩,fun k k0 k1 e=>?_⟩;subst e;rw[aT (by rw[Gf];exact hu) (Fe ⟨k0,k1⟩) GW.val (by rw[Hv,hc.2.2,GW.plc])];exact h1
theorem PB(hx:A9 x=0)(hr:By roots=0){E:List Cd}(hE:ER x E){n:Nd}(hn:n∈DD roots E)(hv:∃d∈E,d.rel.path=n.rq.path∧has n.rq.set d.place=false) :
  (∀d,DY x roots d (TS n)=some (Jo n))∧CN (Jo n) (AO E)=true∧Lk (Jo n):=by
 obtain⟨d,hd,e,hs⟩:=hv;have GW:=(Dc hx).1 _ (hE.cand d hd).1;have hf:=hE.find hd;have hI:=Sr hx hr hE hn (.inr ⟨TW d,by rw[←e];exact hf,by rw[show(TW d).ver=d.rel.ver from rfl,←GW.plc,←(hE.cand d hd).2.2];exact hs⟩);refine⟨hI.inf,M0.2 ⟨hI.viol,fun u hu=>?_⟩,hI.form⟩
 have:=(hI.inU ((AO E).map (·.path)) (fun h=>Hz.1 (hI.path h)) (Hz.1 (by rw[Kh,←e,hf];rfl))).2 u hu
 exact Hz.2 this
theorem dK(hx:A9 x=0)(hr:By roots=0)(hd:ER x dec)(hN:qe roots dec p needs){c:Cd}(hc:c∈Cw x p){n:Nd}(hn:n∈needs)(hs:has n.rq.set c.place=false):Dk (Jo n) p=true:=by
 obtain⟨c1,c2⟩:=Kb hc;have hu:Dt dec c.rel.path=false:=by rw[c1];exact hN.undone
 have hE:=hd.snoc c2 hu;obtain⟨fu,lD⟩:=(hN.mem n).1 hn;have GW:=(Dc hx).1 _ c2.1;have hI:=Sr hx hr hE (Ol fu) (.inr ⟨TW c,by rw[lD,←c1];exact hE.find (by simp),by rw[show(TW c).ver=c.rel.ver from rfl,←GW.plc,←c2.2.2];exact hs⟩);cases qn:Dk (Jo n) p with
 |true=>rfl
 |false =>
  exfalso
  have N9:n.rq.set≠[]∧EQ n.rq.set:=by
   rcases MF fu with ⟨k,q,h1,rfl⟩ | ⟨c,hc,k,q,h1,rfl⟩
   ·exact Lq hr q (AA h1)
   ·exact((Dc hx).1 _ (hd.cand c hc).1).set q (AA h1)
  obtain⟨k,hk⟩:=cg N9.1 N9.2;have Zn:=Ms hk;have hV:=hd.valid hx;have o1:XC (AO dec) p (KC (AO dec) p (PW k)):=.ver hV (Fe Zn);have o2:XC (AO dec) p (AO (dec++[c])):=by rw[LB,c1];exact .ver hV GW.val
  have h1:=Li o1 o2 (Kd qn);rw[hI.viol,hI.raw _ o1.val,BL]at h1
  have:=h1 (DP n.rq) (by unfold Nu;split<;>simp)
  rw[show(DP n.rq).path=p from lD,ID (by rw[Gf];exact hN.undone),Ui (by rw[show(⟨p,PW k⟩:Sl).ver=PW k from rfl,Hv];exact hk)]at this;cases this
theorem dC(hx:A9 x=0)(hr:By roots=0)(hd:ER x dec)(hN:qe roots dec p needs){n0:Nd}(h0:n0∈needs)(L:List (Nat×Cd))(hL:L.map (·.2)=Cw x p){s:SS}(hs:FG x roots s)(DF:∀y∈L,y.1<s.drv.length)
  (sK:s.full=false→∀y∈L,CN (DT s y.1) (AO (dec++[y.2]))=true∧Dk (DT s y.1) p=true) :
  FG x roots (Ed x p n0 (L.map (·.1)) s).2∧Grow s (Ed x p n0 (L.map (·.1)) s).2∧(Ed x p n0 (L.map (·.1)) s).1<(Ed x p n0 (L.map (·.1)) s).2.drv.length ∧
  ((Ed x p n0 (L.map (·.1)) s).2.full=false→CN (DT (Ed x p n0 (L.map (·.1)) s).2 (Ed x p n0 (L.map (·.1)) s).1) (AO dec)=true):=by
 have hV:=hd.valid hx;have qy:CQ (AO dec) p=false:=by rw[Gf];exact hN.undone
 obtain⟨uo,iq⟩:=(hN.mem n0).1 h0;have hI:=Sr hx hr hd uo (.inl (by rw[iq];exact HZ qy));unfold Ed;obtain⟨a1,a2,a3⟩:=KO hs (hI.inf s.drv);have ag:=KP s (TS n0) (Jo n0);have a3:(Bw s n0).2.full=false→DT (Bw s n0).2 (Bw s n0).1=Jo n0:=a3
 change FG x roots (Bw s n0).2 at a1
 change (Bw s n0).1<(Bw s n0).2.drv.length at a2
 change Grow s (Bw s n0).2 at ag
 generalize Bw s n0=s1 at *
 -- the incompatibility of the places that are not available
 obtain⟨u,u0,u1,hu⟩:=cq hx p;have W3:∀k:Int,0≤k→k<1000000→has (Ci x p) k=false→Bp [(⟨p,false,Ev (Ci x p)⟩:Tm)] (KC (AO dec) p (PW k))=true:=fun k k0 k1 hk=>by
  rw[BL];intro t ht;rw[As.1 ht];show Dx _ (Cn (KC (AO dec) p (PW k)) p)=true;rw[ID qy];show(Cy (PW k)&&has (Ev (Ci x p)) (place (PW k)))=true;rw[Fe ⟨k0,k1⟩,Hv,F0,hk];unfold L4;simp[k0,k1]
 have nu:Bp [(⟨p,false,Ev (Ci x p)⟩:Tm)] (AO dec)=false:=by
  rw[AF];intro h
  have:=BL.1 h _ (Ac ..)
  rw[show(⟨p,false,Ev (Ci x p)⟩:Tm).path=p from rfl,HZ qy]at this;cases this
 have ou:XC (AO dec) p (KC (AO dec) p (PW u)):=.ver hV (Fe ⟨u0,u1⟩);have DL:Ip p (Ci x p)≠[]:=by
  have c1:=Dj (l:=[(⟨p,false,Ev (Ci x p)⟩:Tm)]) ou.val;have c2:=Dj (l:=[(⟨p,false,Ev (Ci x p)⟩:Tm)]) hV;rw[W3 u u0 u1 hu]at c1;rw[nu]at c2;unfold Ip QJ;cases hc:C3 [(⟨p,false,Ev (Ci x p)⟩:Tm)]with
  |none=>rw[hc]at c1;cases c1
  |some c =>
   rw[hc]at c2;intro e;have e:c=[]:=e;rw[e]at c2;cases c2
 have LU:∀S,Gt S→Bp (Ip p (Ci x p)) S=Bp [(⟨p,false,Ev (Ci x p)⟩:Tm)] S:=fun S v=>QK v DL;have r6:Dk (Ip p (Ci x p)) p=true:=by
  cases h:Dk (Ip p (Ci x p)) p with
  |true=>rfl
  |false =>
   have:=Li ou (.self hV) (Kd h)
   rw[LU _ ou.val,LU _ hV,W3 u u0 u1 hu,nu]at this;cases this
 have pe:DY x roots s1.2.drv ⟨2,p,0,0,0,0⟩=some (Ip p (Ci x p)):=by
  unfold DY;rw[Ao (show ¬((2:Int)=0) by decide),Ao (show ¬((2:Int)=1) by decide),Ax rfl,Ax ⟨rfl,rfl,rfl,rfl⟩];unfold dJ;rw[Ao (by rw[Gc];exact DL)]
 obtain⟨b1,b2,b3⟩:=KO a1 pe;have bg:=KP s1.2 ⟨2,p,0,0,0,0⟩ (Ip p (Ci x p));have b3:(Ew x p s1.2).2.full=false→DT (Ew x p s1.2).2 (Ew x p s1.2).1=Ip p (Ci x p):=b3
 change FG x roots (Ew x p s1.2).2 at b1
 change (Ew x p s1.2).1<(Ew x p s1.2).2.drv.length at b2
 change Grow s1.2 (Ew x p s1.2).2 at bg
 generalize Ew x p s1.2=s2 at *
 have rY:s2.2.full=false→s1.2.full=false∧s.full=false:=fun h=>by
  have h1:s1.2.full=false:=by
   cases e:s1.2.full with
   |false=>rfl
   |true=>rw[bg.full e]at h;cases h
  refine⟨h1,?_⟩;cases e:s.full with
  |false=>rfl
  |true=>rw[ag.full e]at h1;cases h1
 have main:=Oe (D:=AO dec) (U:=aE p dec) (p:=p) hV ((s2.1,fun k=>has (Ci x p) k=false)::L.map fun y=>(y.1,fun k=>k=y.2.place)) (C:=fun k=>has n0.rq.set k=false) b1 (BT a2 bg.len)
  (fun y hy=>by
   rcases Av.1 hy with rfl | hy
   ·exact b2
   ·obtain⟨z,hz,rfl⟩:=Ar.1 hy;exact BT (DF z hz) (ag.trans bg).len) (fun hf=>by
   obtain⟨f1,f0⟩:=rY hf;refine⟨?_,fun y hy=>?_⟩
   ·rw[bg.at a2,a3 f1];refine⟨hI.form,hI.inU _ (fun h=>Af _ (Hz.1 (hI.path h))) (by rw[iq];exact Ac ..),hI.viol,fun k k0 k1 hk=>?_⟩;have ok:XC (AO dec) p (KC (AO dec) p (PW k)):=.ver hV (Fe ⟨k0,k1⟩);rw[hI.raw _ ok.val,BL];intro t ht;have W0:=BL.1 ((hI.raw _ hV).symm.trans hI.viol) t ht;unfold Nu at ht;have ip:Dx (DP n0.rq) (Cn (KC (AO dec) p (PW k)) (DP n0.rq).path)=true:=by
     rw[show(DP n0.rq).path=p from iq,ID qy];exact RN (.inr ⟨_,rfl,Fe ⟨k0,k1⟩,by rw[show(⟨p,PW k⟩:Sl).ver=PW k from rfl,Hv];exact hk⟩)
    split at ht
    ·rw[As.1 ht];exact ip
    ·rename_i hm;rcases Av.1 ht with rfl | ht
     ·have DL:n0.path≠p:=fun e=>by
       have:=hI.path hm
       rw[e,qy]at this;cases this
      rw[show(⟨n0.path,false,[(n0.place,n0.place+1)]⟩:Tm).path=n0.path from rfl]at W0⊢;rw[ok.same _ DL];exact W0
     ·rw[As.1 ht];exact ip
   ·rcases Av.1 hy with rfl | hy
    ·show kB _ _ p (DT s2.2 s2.1) _;rw[b3 hf];refine⟨MH _,Uh (fun t ht=>by rw[As.1 ht];exact Ac ..),r6,⟨_,ou,by rw[LU _ ou.val];exact W3 u u0 u1 hu⟩,fun k k0 k1 hk=>?_⟩;rw[LU _ (XC.ver hV (Fe ⟨k0,k1⟩)).val];exact W3 k k0 k1 hk
    ·obtain⟨z,hz,rfl⟩:=Ar.1 hy;show kB _ _ p (DT s2.2 z.1) _;rw[(ag.trans bg).at (DF z hz)];obtain⟨e1,e2⟩:=sK f0 z hz;have hzc:z.2∈Cw x p:=by rw[←hL];exact Ar.2 ⟨z,hz,rfl⟩
     obtain⟨c1,c2⟩:=Kb hzc
     have:=eJ hx hd c2 (by rw[c1];exact hN.undone) (hs.forms z.1) e1 (by rw[c1];exact e2)
     rw[c1]at this;exact this)
 have xb:((s2.1,fun k=>has (Ci x p) k=false)::L.map fun y=>(y.1,fun k=>k=y.2.place)).map (·.1)=s2.1::L.map (·.1):=by
  rw[AS,BW];rfl
 rw[xb]at main;obtain⟨m1,m2,m3,m4⟩:=main;refine⟨m1,(ag.trans bg).trans m2,m3,fun hf=>?_⟩;obtain⟨C',q1,q2⟩:=m4 hf;have hnc:Dk (DT (Cs p (s2.1::L.map (·.1)) s1.1 s2.2).2 (Cs p (s2.1::L.map (·.1)) s1.1 s2.2).1) p=false:=by
  rcases q2 with q2 | q2
  ·exact q2
  ·refine jd qy q1.form q1.none_ fun k k0 k1=>q1.cov k k0 k1 (q2 k ?_);cases uq:has n0.rq.set k with
   |false=>exact .inl rfl
   |true =>
    cases ha:has (Ci x p) k with
    |false=>exact .inr ⟨_,Ac ..,ha⟩
    |true =>
     obtain⟨c,hc,e⟩:=(Vk hx).1 ha;rw[←hL]at hc;obtain⟨z,hz,rfl⟩:=Ar.1 hc;exact .inr ⟨_,Af _ (Ar.2 ⟨z,hz,rfl⟩),e.symm⟩
 refine M0.2 ⟨q1.none_,fun t ht=>?_⟩
 have:=q1.inU.2 t ht
 rcases Av.1 this with e | h
 ·exact absurd e (Kd hnc t ht)
 ·exact Hz.2 h
end
end Go.Eng
