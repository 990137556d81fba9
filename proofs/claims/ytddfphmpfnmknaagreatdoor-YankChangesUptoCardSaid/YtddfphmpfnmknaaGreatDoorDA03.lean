/- Lemmas for the claims of this seat, without a condition: part 3 (Q2, Q3, Q4, P15, Q5, Q6). -/
import Derived.Test.YtddfphmpfnmknaaGreatDoorDA02
namespace Go.Eng
theorem Po(f:Rq→Nat→Nd):∀(l:List Rq) (i k:Nat),(Mo f i l)[k]?=(l[k]?).map fun q=>f q (i+k)
 | [],i,k=>by simp[Mo]
 |q::l,i,0=>by simp[Mo]
 |q::l,i,k+1=>by
  have h:=Po f l (i+1) k;simp only[Mo,Ez,h];rw[show i+1+k=i+(k+1) by omega]
theorem KP(f:Rq→Nat→Nd):∀(l:List Rq) (i:Nat),(Mo f i l).length=l.length
 | [],_=>rfl
 |_::l,i=>by simp[Mo,KP f l (i+1)]
theorem YD{f:Rq→Nat→Nd}{l:List Rq}{n:Nd}(h:n∈Mo f 0 l):∃k q,l[k]?=some q∧n=f q k:=by
 obtain⟨k,hk⟩:=B9.1 h;rw[Po,AU]at hk;obtain⟨q,h1,h2⟩:=hk;exact⟨k,q,h1,by rw[←h2,Bl]⟩
theorem Sg{f:Rq→Nat→Nd}(hf:∀q i,(f q i).rq=q):∀(l:List Rq) (i:Nat),(Mo f i l).map (·.rq)=l
 | [],_=>rfl
 |q::l,i=>by simp[Mo,hf,Sg hf l (i+1)]
abbrev H2(roots:List Rq)(dec:List Cd):List Rq:=roots++(dec.map fun c=>c.rel.reqs).flatten
theorem MU(roots:List Rq)(dec:List Cd):(Dx roots dec).map (·.rq)=H2 roots dec:=by
 unfold Dx YU;rw[Ay,Sg (fun _ _=>rfl),Sv,BQ]
 congr 2
 exact Be fun c _=>Sg (fun _ _=>rfl) _ _
theorem F5(dec:List Cd)(p:ByteArray):CJ (AO dec) p=Do dec p:=by
 unfold CJ Do AO;rw[List.any_map];rfl
theorem JD(before:List Sl):∀{l:List Rq} {a p:ByteArray},Dy before l (some a)=some p→p=a∨Eg p a=true
 | [],a,p,h=>by cases h;exact .inl rfl
 |q::l,a,p,h=>by
  unfold Dy at h;split at h
  ·exact JD before h
  ·dsimp only at h;split at h
   ·rename_i hb;rcases JD before h with e | e
    ·exact .inr (by rw[e];exact hb)
    ·exact .inr (DX e hb)
   ·exact JD before h
theorem IJ(before:List Sl):∀{l:List Rq} {a:ByteArray},Dy before l (some a)≠none
 | [],a=>by simp[Dy]
 |q::l,a=>by
  unfold Dy;split
  ·exact IJ before
  ·dsimp only;split<;>exact IJ before
theorem OP{n:Nd}{p:ByteArray}(e:n.rq.path≠p)(L:List Nd):((n::L).filter fun n=>decide (n.rq.path=p))=L.filter fun n=>decide (n.rq.path=p):=by rw[Ch,Aj (by simpa using e)]
theorem WC{n:Nd}{p:ByteArray}(e:n.rq.path=p)(L:List Nd):((n::L).filter fun n=>decide (n.rq.path=p))=n::L.filter fun n=>decide (n.rq.path=p):=by rw[Ch,Ap (by simpa using e)]
theorem MW(dec:List Cd):∀(L:List Nd) (a:ByteArray×List Nd),(a.2≠[]→Do dec a.1=false) →
  L.foldl (Er dec) a=match Dy (AO dec) (L.map (·.rq)) (if a.2=[]then none else some a.1)with
   |none=>a
   |some p=>(p,(if a.2≠[]∧a.1=p then a.2 else [])++L.filter fun n=>decide (n.rq.path=p))
 | [],a,h=>by
  obtain⟨p,o⟩:=a;cases o with
  |nil=>simp[Dy]
  |cons n o=>simp[Dy]
 |n::L,a,h=>by
  obtain⟨p0,o⟩:=a;rw[Eo,AP];have sq:∀(acc:Option ByteArray) (l:List Rq),(∀p,acc=some p→Do dec p=false)→∀p,Dy (AO dec) l acc=some p→Do dec p=false:=fun acc l ha p hp=>by
   have:=((J8 (AO dec) (l:=l) (acc:=acc) (fun p e=>by rw[F5];exact ha p e)).1 p hp).1
   rw[F5]at this;exact this
  cases hd:Do dec n.rq.path with
  |true =>
   have e1:Er dec (p0,o) n=(p0,o):=by unfold Er;rw[Ap (.inl hd)]
   have e2:Dy (AO dec) (n.rq::L.map (·.rq)) (if o=[]then none else some p0)=Dy (AO dec) (L.map (·.rq)) (if o=[]then none else some p0):=by
    conv=>lhs;unfold Dy
    rw[Ap (by rw[F5];exact hd)]
   rw[e1,e2,MW dec L (p0,o) h];dsimp only;cases hg:Dy (AO dec) (L.map (·.rq)) (if o=[]then none else some p0)with
   |none=>rfl
   |some p =>
    dsimp only;have hp:=sq _ _ (fun q e=>by
     split at e
     ·cases e
     ·rename_i ho;cases e;exact h ho) p hg
    have DF:n.rq.path≠p:=fun e=>by rw[e,hp]at hd;cases hd
    rw[OP DF]
  |false =>
   have RK:CJ (AO dec) n.rq.path=false:=by rw[F5];exact hd
   by_cases ho:o=[]
   ·subst ho;have e1:Er dec (p0,[]) n=(n.rq.path,[n]):=by
     unfold Er;rw[Aj (by simp[hd]),Aj (by simp)];rfl
    have e2:Dy (AO dec) (n.rq::L.map (·.rq)) none=Dy (AO dec) (L.map (·.rq)) (some n.rq.path):=by
     conv=>lhs;unfold Dy
     rw[Aj (by rw[RK];decide)]
    rw[e1,MW dec L (n.rq.path,[n]) (fun _=>hd),Ap rfl,e2];rw[Aj (by simp)];cases hg:Dy (AO dec) (L.map (·.rq)) (some n.rq.path)with
    |none=>exact absurd hg (IJ _)
    |some p =>
     dsimp only;rw[Aj (show ¬(([]:List Nd)≠[]∧p0=p)from fun h=>h.1 rfl)]
     by_cases e:n.rq.path=p
     ·rw[WC e,Ap ⟨by simp,e⟩];rfl
     ·rw[OP e,Aj (fun h=>e h.2)]
   ·have zJ:(if o=[]then none else some p0)=some p0:=Aj ho;rw[zJ];cases hb:Eg p0 n.rq.path with
    |true =>
     have e1:Er dec (p0,o) n=(p0,o):=by unfold Er;rw[Ap (.inr ⟨ho,hb⟩)]
     have Tq:Eg n.rq.path p0=false:=MG hb;have e2:Dy (AO dec) (n.rq::L.map (·.rq)) (some p0)=Dy (AO dec) (L.map (·.rq)) (some p0):=by
      conv=>lhs;unfold Dy
      rw[Aj (by rw[RK];decide)];dsimp only;rw[Aj (by rw[Tq];decide)]
     rw[e1,e2,MW dec L (p0,o) h];dsimp only;rw[zJ];cases hg:Dy (AO dec) (L.map (·.rq)) (some p0)with
     |none=>rfl
     |some p =>
      dsimp only;have DF:n.rq.path≠p:=fun e=>by
       rcases JD _ hg with e3 | e3
       ·rw[e,e3,Dd]at hb;cases hb
       ·rw[e,MG e3]at hb;cases hb
      rw[OP DF]
    |false =>
     cases Tq:Eg n.rq.path p0 with
     |true =>
      have e1:Er dec (p0,o) n=(n.rq.path,[n]):=by
       unfold Er;rw[Aj (by simp[hd,hb]),Ap ⟨ho,Tq⟩]
      have e2:Dy (AO dec) (n.rq::L.map (·.rq)) (some p0)=Dy (AO dec) (L.map (·.rq)) (some n.rq.path):=by
       conv=>lhs;unfold Dy
       rw[Aj (by rw[RK];decide)];dsimp only;rw[Ap Tq]
      rw[e1,e2,MW dec L (n.rq.path,[n]) (fun _=>hd),Aj (by simp)];cases hg:Dy (AO dec) (L.map (·.rq)) (some n.rq.path)with
      |none=>exact absurd hg (IJ _)
      |some p =>
       dsimp only;have DF:p0≠p:=fun e=>by
        rcases JD _ hg with e3 | e3
        ·rw[e,e3,Dd]at Tq;cases Tq
        ·rw[e]at Tq;rw[MG e3]at Tq;cases Tq
       rw[Aj (show ¬(o≠[]∧p0=p)from fun h=>DF h.2)]
       by_cases e:n.rq.path=p
       ·rw[WC e,Ap ⟨by simp,e⟩];rfl
       ·rw[OP e,Aj (fun h=>e h.2)]
     |false =>
      have e0:n.rq.path=p0:=HH Tq hb;have e1:Er dec (p0,o) n=(p0,o++[n]):=by
       unfold Er;rw[Aj (by simp[hd,hb]),Aj (by simp[Tq]),e0]
      have e2:Dy (AO dec) (n.rq::L.map (·.rq)) (some p0)=Dy (AO dec) (L.map (·.rq)) (some p0):=by
       conv=>lhs;unfold Dy
       rw[Aj (by rw[RK];decide)];dsimp only;rw[Aj (by rw[Tq];decide)]
      rw[e1,e2,MW dec L (p0,o++[n]) (fun _=>by rw[←e0];exact hd),Aj (by simp)];cases hg:Dy (AO dec) (L.map (·.rq)) (some p0)with
      |none=>exact absurd hg (IJ _)
      |some p =>
       dsimp only
       by_cases e:p0=p
       ·rw[WC (e0.trans e),Ap ⟨by simp,e⟩,Ap ⟨ho,e⟩,BM];rfl
       ·rw[OP (fun h=>e (e0.symm.trans h)),Aj (fun h=>e h.2),Aj (fun h=>e h.2)]
theorem TT(roots:List Rq)(dec:List Cd):GT roots dec=match KN (H2 roots dec) (AO dec)with
  |none=>(mt,[])
  |some p=>(p,(Dx roots dec).filter fun n=>decide (n.rq.path=p)):=by
 unfold GT KN;rw[MW dec _ (mt,[]) (fun h=>absurd rfl h),Ap rfl,MU];cases Dy (AO dec) (H2 roots dec) none with
 |none=>rfl
 |some p=>dsimp only;rw[Aj (by simp)];rfl
theorem TU{roots:List Rq}{dec:List Cd}:(GT roots dec).2=[]↔KN (H2 roots dec) (AO dec)=none:=by
 rw[TT];cases h:KN (H2 roots dec) (AO dec)with
 |none=>simp
 |some p =>
  simp only[reduceCtorEq,iff_false];obtain⟨_,q,hq,e⟩:=TV h;rw[←MU]at hq;obtain⟨n,hn,rfl⟩:=Am.1 hq;exact List.ne_nil_of_mem (BO.2 ⟨hn,by simpa using e⟩)
structure pM(roots:List Rq)(dec:List Cd)(p:ByteArray)(l:List Nd):Prop where
 next:KN (H2 roots dec) (AO dec)=some p
 undone:Do dec p=false
 mem:∀n,n∈l↔n∈Dx roots dec∧n.rq.path=p
theorem N8{roots:List Rq}{dec:List Cd}{n0:Nd}{l:List Nd}(h:(GT roots dec).2=n0::l):pM roots dec (GT roots dec).1 (n0::l):=by
 rw[←h];rw[TT]at *
 cases hp:KN (H2 roots dec) (AO dec)with
 |none=>rw[hp]at h;cases h
 |some p =>
  dsimp only;refine⟨hp,by rw[←F5];exact(TV hp).1,fun n=>?_⟩;rw[BO];simp
theorem K7{x:List Rl}{p:ByteArray}{c:Cd}:c∈Co x p↔∃r∈x,r.path=p∧r.yanked=false∧c=⟨plc r.ver,r⟩:=by
 unfold Co;simp only[Am,BO,Ah,Au,CT];constructor
 ·rintro⟨r,⟨h1,h2,h3⟩,rfl⟩;exact⟨r,h1,h2,h3,rfl⟩
 ·rintro⟨r,h1,h2,h3,rfl⟩;exact⟨r,⟨h1,h2,h3⟩,rfl⟩
theorem M2{i:Nf}:∀{l:List Nf} {k m:Nat},LQ i k l=some m→∃j,m=k+j∧l[j]?=some i
 | [],_,_,h=>by cases h
 |y::l,k,m,h=>by
  unfold LQ at h;split at h
  ·rename_i e;cases h;exact⟨0,rfl,by rw[←e];rfl⟩
  ·obtain⟨j,h1,h2⟩:=M2 h;exact⟨j+1,by omega,h2⟩
theorem Qq{i:Nf}:∀{l:List Nf} {k:Nat},LQ i k l=none→i∉l
 | [],_,_=>by simp
 |y::l,k,h=>by
  unfold LQ at h;split at h
  ·cases h
  ·rename_i e
   have:=Qq h
   simp only[AA,not_or];exact⟨fun e'=>e e'.symm,this⟩
theorem Rv{α:Type}{d d' : List α}{i:Int}{a:α}(h:JE d i=some a)(hp:d <+: d'):JE d' i=some a:=by
 unfold JE at *
 split at h
 ·cases h
 ·rename_i hi;rw[Aj hi];obtain⟨t,rfl⟩:=hp;rw[A2 (As.1 h).1];exact h
theorem Yh{x:List Rl}{roots:List Rq}{d d' : List (List Tm)}{i:Nf}{o:List Tm}(h:DW x roots d i=some o)(hp:d <+: d'):DW x roots d' i=some o:=by
 unfold DW at *
 split
 ·rename_i e;rw[Ap e]at h;exact h
 rename_i e0;rw[Aj e0]at h;split
 ·rename_i e;rw[Ap e]at h;exact h
 rename_i e1;rw[Aj e1]at h;split
 ·rename_i e;rw[Ap e]at h;exact h
 rename_i e2;rw[Aj e2]at h;split
 ·rename_i e;rw[Ap e]at h;split
  ·rename_i e4;rw[Ap e4]at h;cases ha:JE d i.left with
   |none=>rw[ha]at h;cases h
   |some a =>
    cases hb:JE d i.right with
    |none=>rw[ha,hb]at h;cases h
    |some b =>
     rw[ha,hb]at h;rw[Rv ha hp,Rv hb hp];exact h
  ·rename_i e4;rw[Aj e4]at h;cases h
 ·rename_i e;rw[Aj e]at h;cases h
structure FC(x:List Rl)(roots:List Rq)(s:SS):Prop where
 der:Dn x roots s.infs []=some s.drv
 len:s.infs.length≤65536
theorem FC.dlen{x:List Rl}{roots:List Rq}{s:SS}(h:FC x roots s):s.drv.length=s.infs.length:=by simpa using I9 h.der
theorem FC.nil(x:List Rl)(roots:List Rq):FC x roots uF:=⟨rfl,by simp⟩
theorem FC.at{x:List Rl}{roots:List Rq}{s:SS}(h:FC x roots s){k:Nat}{i:Nf}(hk:s.infs[k]?=some i):DW x roots s.drv i=some (s.drv.getD k []):=by
 have h1:=Nj h.der (k+1);have h0:=Nj h.der k;have DB:=(As.1 hk).1;rw[Bk,hk,G8,h0]at h1;have h1:Dn x roots [i] (s.drv.take k)=some (s.drv.take (k+1)):=h1;unfold Dn at h1;cases hi:DW x roots (s.drv.take k) i with
 |none=>rw[hi]at h1;cases h1
 |some t =>
  rw[hi]at h1;have h1:some (s.drv.take k++[t])=some (s.drv.take (k+1)):=h1;have hd:k<s.drv.length:=by rw[h.dlen];exact DB
  have:t=s.drv[k]:=by
   have h2:=Ca h1;rw[Kv hd]at h2;exact List.singleton_inj.1 (List.append_cancel_left h2)
  rw[Yh hi (List.take_prefix ..),this];simp[List.getD_eq_getElem?_getD,hd]
structure Grow(s s' : SS):Prop where
 pre:s.drv <+: s'.drv
 preI:s.infs <+: s'.infs
 full:s.full=true→s'.full=true
theorem Grow.refl(s:SS):Grow s s:=⟨M6,M6,id⟩
theorem Grow.trans{a b c:SS}(h:Grow a b)(k:Grow b c):Grow a c:=⟨h.pre.trans k.pre,h.preI.trans k.preI,fun e=>k.full (h.full e)⟩
theorem Grow.at{s s' : SS}(h:Grow s s'){k:Nat}(hk:k<s.drv.length):DP s' k=DP s k:=by
 obtain⟨t,e⟩:=h.pre;unfold DP;rw[←e,BX,BX,A2 hk]
theorem Grow.len{s s' : SS}(h:Grow s s'):s.drv.length≤s'.drv.length:=h.pre.length_le
theorem KA(s:SS)(i:Nf)(l:List Tm):Grow s (Em s i l).2:=by
 unfold Em;split
 ·exact .refl s
 ·split
  ·exact⟨M6,M6,fun _=>rfl⟩
  ·exact⟨Ot ..,Ot ..,id⟩
theorem Kz{x:List Rl}{roots:List Rq}{s:SS}(h:FC x roots s){i:Nf}{l:List Tm}(hi:DW x roots s.drv i=some l) :
  FC x roots (Em s i l).2∧(Em s i l).1<(Em s i l).2.drv.length∧((Em s i l).2.full=false→DP (Em s i l).2 (Em s i l).1=l):=by
 have hdl:=h.dlen;unfold Em;split
 ·rename_i k hk;obtain⟨j,e,hj⟩:=M2 hk
  have:k=j:=by omega
  subst this;have DB:=(As.1 hj).1;refine⟨h,by show k<s.drv.length;omega,fun _=>?_⟩
  have:=h.at hj
  rw[hi]at this;exact(Ca this).symm
 ·rename_i hk;split
  ·rename_i hf;exact⟨⟨h.der,h.len⟩,by show s.infs.length-1<s.drv.length;omega,fun e=>by cases e⟩
  ·rename_i hf;refine⟨⟨?_,by show(s.infs++[i]).length≤65536;rw[Ae];simp;omega⟩,by show s.infs.length<(s.drv++[l]).length;rw[Ae];simp;omega,fun _=>?_⟩
   ·show Dn x roots (s.infs++[i]) []=some (s.drv++[l]);rw[G8,h.der];show Dn x roots [i] s.drv=_;unfold Dn;rw[hi];rfl
   ·show(s.drv++[l]).getD s.infs.length []=l;rw[←hdl];simp[List.getD_eq_getElem?_getD]
theorem SZ(S:List Sl):∀{l:List (List Tm)} {i k:Nat},OI S i l=some k→∃j,k=i+j∧∃t,l[j]?=some t∧CG t S=true
 | [],_,_,h=>by cases h
 |t::l,i,k,h=>by
  unfold OI at h;split at h
  ·rename_i e;cases h;exact⟨0,rfl,t,rfl,e⟩
  ·obtain⟨j,h1,t',h2,h3⟩:=SZ S h;exact⟨j+1,by omega,t',h2,h3⟩
theorem KF{d:List (List Tm)}{S:List Sl}{k:Nat}(h:OJ d S=some k):k<d.length∧CG (d.getD k []) S=true:=by
 obtain⟨j,h1,t,h2,h3⟩:=SZ S h
 have:k=j:=by omega
 subst this;refine⟨(As.1 h2).1,?_⟩;rw[BX,h2];exact h3
theorem LY:∀{l:List Rq} {b:Option ByteArray},D8 b l=0→∀q∈l,q.set≠[]∧EM q.set
 | [],_,_,q,hq=>by cases hq
 |r::l,b,h,q,hq=>by
  unfold D8 at h;split at h
  ·rename_i e;rcases AA.1 hq with rfl | hq
   ·unfold F9 at e
    by_cases h1:(Bu q.path).isNone=true
    ·rw[Ap h1]at e;exact absurd e (by decide)
    rw[Aj h1]at e;cases hE:q.set.isEmpty with
    |true=>rw[hE]at e;simp at e
    |false =>
     cases hD:decide (q.set=canon q.set)with
     |false=>rw[hD]at e;simp at e
     |true =>
      have h3:q.set=canon q.set:=A5 hD;exact⟨by simpa using hE,by rw[h3];exact Ck _⟩
   ·exact LY h q hq
  ·rename_i e;exact absurd h e
theorem La{l:List Rq}(h:Bp l=0):∀q∈l,q.set≠[]∧EM q.set:=by
 unfold Bp at h;split at h
 ·cases h
 ·exact LY h
abbrev PH(k:Int):Ver:=⟨0,k / 1000,k % 1000⟩
theorem Hi(k:Int):place (PH k)=k:=by unfold place;show 1000*(k / 1000)+k % 1000=k;omega
theorem Fb{k:Int}(h:0≤k∧k<1000000):Cr (PH k)=true:=by
 unfold Cr okPart;simp only[Ah];exact⟨⟨Ar (by omega),Ar (by omega)⟩,Ar (by omega)⟩
structure Xp(D:List Sl)(p:ByteArray)(S:List Sl):Prop where
 val:Gm S
 same:∀q,q≠p→B4 S q=B4 D q
abbrev Ko(D:List Sl)(p:ByteArray)(v:Ver):List Sl:=D++[⟨p,v⟩]
theorem Kh(a b:List Sl)(p:ByteArray):B4 (a++b) p=(B4 a p).or (B4 b p):=by
 unfold B4;rw[List.find?_append]
theorem HN{s:List Sl}{p:ByteArray}(h:CJ s p=false):B4 s p=none:=by
 rw[J4]at h;cases e:B4 s p with
 |none=>rfl
 |some y=>rw[e]at h;cases h
theorem Xp.self{D:List Sl}{p:ByteArray}(h:Gm D):Xp D p D:=⟨h,fun _ _=>rfl⟩
theorem Xp.ver{D:List Sl}{p:ByteArray}(h:Gm D){v:Ver}(hv:Cr v=true):Xp D p (Ko D p v):=by
 refine⟨fun y hy=>?_,fun q hq=>?_⟩
 ·rcases A1.1 hy with hy | hy
  ·exact h y hy
  ·rw[Aq.1 hy];exact hv
 ·rw[Kh]
  have:B4 [(⟨p,v⟩:Sl)] q=none:=by unfold B4;simp[Ne.symm hq]
  rw[this,Option.or_none]
theorem Is{D:List Sl}{p:ByteArray}(hp:CJ D p=false)(v:Ver):B4 (Ko D p v) p=some ⟨p,v⟩:=by
 rw[Kh,HN hp];unfold B4;simp
theorem Rg{D:List Sl}{p:ByteArray}(hp:CJ D p=false){v v' : Ver}(hv:Cr v=true)(uq : Cr v'=true)(e:place v=place v')(q:ByteArray)(t:Tm) :
  Ds t (B4 (Ko D p v) q)=Ds t (B4 (Ko D p v') q):=by
 by_cases hq:q=p
 ·subst hq;rw[Is hp,Is hp];show(Cr v&&has t.set (place v))=(Cr v'&&has t.set (place v'));rw[hv,uq,e]
 ·have h1:∀w:Ver,B4 (Ko D p w) q=B4 D q:=fun w=>by
   rw[Kh]
   have:B4 [(⟨p,w⟩:Sl)] q=none:=by unfold B4;simp[Ne.symm hq]
   rw[this,Option.or_none]
  rw[h1,h1]
theorem ax{D:List Sl}{p:ByteArray}(hp:CJ D p=false){v v' : Ver}(hv:Cr v=true)(uq : Cr v'=true)(e:place v=place v')(t:List Tm):Bf t (Ko D p v)=Bf t (Ko D p v'):=by
 rw[BR,BE,BE];exact⟨fun h u hu=>by rw[←Rg hp hv uq e];exact h u hu,fun h u hu=>by rw[Rg hp hv uq e];exact h u hu⟩
theorem K3{D S S' : List Sl}{p:ByteArray}(h:Xp D p S)(h' : Xp D p S'){t:List Tm}(ht:∀u∈t,u.path≠p):Bf t S=Bf t S':=by
 rw[BR,BE,BE];exact⟨fun k u hu=>by rw[h'.same _ (ht u hu),←h.same _ (ht u hu)];exact k u hu,fun k u hu=>by rw[h.same _ (ht u hu),←h'.same _ (ht u hu)];exact k u hu⟩
theorem JY{t:List Tm}{p:ByteArray}(h:De t p=false):∀u∈t,u.path≠p:=fun u hu e=>by
 unfold De at h;rw[FD]at h;exact h u hu (by simpa using e)
theorem SU{t:List Tm}{p:ByteArray}(h:De t p=true):∃u∈t,u.path=p:=by
 unfold De at h;rw[Bc]at h;obtain⟨u,hu,e⟩:=h;exact⟨u,hu,by simpa using e⟩
theorem Uo{t:List Tm}{p:ByteArray}(hf:K5 t)(hc:De t p=true):∃u r,FB t p=some (u,r)∧u.path=p∧∀v∈r,v.path≠p:=by
 obtain⟨u,hu,e⟩:=SU hc;have hs:=E2 hf;have om:=(FR hs).1 hu;rw[e]at om;refine⟨u,FY t p,?_,e,fun v hv=>?_⟩
 ·unfold FB;rw[show CR t=some t from hf];dsimp only;rw[om]
 ·have:=(BO.1 hv).2
  simpa using this
theorem W6{D:List Sl}{p:ByteArray}{t b:List Tm}(gC:K5 t)(ol:K5 b)(hct:De t p=true)(wK:De b p=true){S1 S2:List Sl}(h1:Xp D p S1)(v1:Bf t S1=true)(h2:Xp D p S2)(v2:Bf b S2=true) :
  (Bz t b p).2=0∧∀S,Xp D p S→Bf t S=true∨Bf b S=true→Bf (Bz t b p).1 S=true:=by
 obtain⟨u,r,e1,pu,nr⟩:=Uo gC hct;obtain⟨w,m,e2,pw,nm⟩:=Uo ol wK;have key:∀S,Xp D p S→Bf t S=true∨Bf b S=true→Bf (r++m++[Dq u w]) S=true:=fun S hS hv=>by
  have r1:Bf r S=true:=by
   rw[K3 hS h1 nr];rw[(FX h1.val e1).1,Ah]at v1;exact v1.2
  have m1:Bf m S=true:=by
   rw[K3 hS h2 nm];rw[(FX h2.val e2).1,Ah]at v2;exact v2.2
  rw[Ha,Ha,r1,m1];simp only[EL];rw[BE];intro y hy;rw[Aq.1 hy,show(Dq u w).path=p from pu,Nr,Cj];rcases hv with hv | hv
  ·rw[(FX hS.val e1).1,Ah]at hv;exact .inl hv.1
  ·rw[(FX hS.val e2).1,Ah]at hv;exact .inr hv.1
 unfold Bz;rw[e1,e2];dsimp only;have c1:=Dc (l:=r++m++[Dq u w]) h1.val;rw[key S1 h1 (.inl v1)]at c1;cases hc:CR (r++m++[Dq u w])with
 |none=>rw[hc]at c1;cases c1
 |some o =>
  dsimp only;refine⟨rfl,fun S hS hv=>?_⟩;have c2:=Dc (l:=r++m++[Dq u w]) hS.val;rw[hc,key S hS hv]at c2;exact c2.symm
theorem iz{D:List Sl}{p:ByteArray}(hp:CJ D p=false){t:List Tm}(hf:K5 t)(h0:Bf t D=true)(hk:∀k:Int,0≤k→k<1000000→Bf t (Ko D p (PH k))=true):De t p=false:=by
 rw[AK];intro hc;obtain⟨u,hu,e⟩:=SU hc;have ha:u.absent=true:=by
  have:=BE.1 h0 u hu
  rw[e,HN hp]at this;exact this
 have hs:∀k:Int,0≤k→k<1000000→has u.set k=true:=fun k k0 k1=>by
  have:=BE.1 (hk k k0 k1) u hu
  rw[e,Is hp]at this;unfold Ds at this;rw[Ah]at this
  have:=this.2
  rw[show(⟨p,PH k⟩:Sl).ver=PH k from rfl,Hi]at this;exact this
 have pW:EM u.set:=Cc.canon (E2 hf) u hu;have gD:u.set=[(0,1000000)]:=by
  refine HI pW ⟨by decide,by decide,by decide,trivial⟩ fun k=>?_;rw[BR];constructor
  ·intro h
   have:=Ma h
   unfold has;simp[BL,this.1,this.2]
  ·intro h
   have:=Ma h
   exact hs k this.1 this.2
 have rl:GL u=true:=by unfold GL;rw[ha,gD];rfl
 have uf:CR t=some t:=hf;unfold CR at uf;split at uf
 ·cases uf
 ·have e2:=Ca uf;rw[←e2]at hu
  have:=(BO.1 hu).2
  rw[rl]at this;cases this
structure EN(x:List Rl)(dec:List Cd):Prop where
 cand:∀c∈dec,c.rel∈x∧c.rel.yanked=false∧c.place=plc c.rel.ver
 nodup:(dec.map fun c=>c.rel.path).Nodup
theorem EN.nil(x:List Rl):EN x []:=⟨fun _ h=>(by cases h),Fp⟩
theorem T2{r:Rl}(h:Sx r):r.path≠mt:=fun e=>by
 have:=h.maj
 rw[e]at this;have h2:Bu mt=none:=by decide
 rw[h2]at this;cases this
theorem Sx.set{r:Rl}(h:Sx r):∀q∈r.reqs,q.set≠[]∧EM q.set:=La h.reqs
theorem NZ(dec:List Cd):(AO dec).map (·.path)=dec.map fun c=>c.rel.path:=by unfold AO;rw[BQ];rfl
theorem NN:∀{D:List Sl},(D.map (·.path)).Nodup→∀{y:Sl},y∈D→B4 D y.path=some y
 | [],_,y,h=>by cases h
 |z::D,hn,y,h=>by
  simp only[AP,CU]at hn;unfold B4;rw[E0];rcases AA.1 h with rfl | h
  ·rw[Ar rfl]
  ·have:z.path≠y.path:=fun e=>hn.1 (Am.2 ⟨y,h,e.symm⟩)
   rw[Ao this];exact NN hn.2 h
theorem EN.find{x:List Rl}{dec:List Cd}(h:EN x dec){c:Cd}(hc:c∈dec):B4 (AO dec) c.rel.path=some (TH c) :=
 NN (by rw[NZ];exact h.nodup) (y:=TH c) (Am.2 ⟨c,hc,rfl⟩)
theorem EN.valid{x:List Rl}(hx:AQ x=0){dec:List Cd}(h:EN x dec):Gm (AO dec):=fun y hy=>by
 obtain⟨c,hc,rfl⟩:=Am.1 hy;exact((CF hx).1 _ (h.cand c hc).1).val
theorem EN.snoc{x:List Rl}{dec:List Cd}(h:EN x dec){c:Cd}(hc:c.rel∈x∧c.rel.yanked=false∧c.place=plc c.rel.ver)(hd:Do dec c.rel.path=false):EN x (dec++[c]):=by
 refine⟨fun d hd=>?_,?_⟩
 ·rcases A1.1 hd with hd | hd
  ·exact h.cand d hd
  ·rw[Aq.1 hd];exact hc
 ·rw[Ay,GB];refine⟨h.nodup,by simp,fun a ha b hb e=>?_⟩;obtain⟨d,kL,rfl⟩:=Am.1 ha;simp only[AP,Fg,Aq]at hb;unfold Do at hd;rw[FD]at hd;exact hd d kL (by simpa using e.trans hb)
theorem Mn{roots:List Rq}{E:List Cd}{n:Nd}(h:n∈Dx roots E):(∃k q,roots[k]?=some q∧n=⟨q,mt,0,(k:Nat)⟩)∨∃c∈E,∃k q,c.rel.reqs[k]?=some q∧n=⟨q,c.rel.path,c.place,(k:Nat)⟩:=by
 unfold Dx at h;rcases A1.1 h with h | h
 ·obtain⟨k,q,h1,h2⟩:=YD h;exact .inl ⟨k,q,h1,h2⟩
 ·obtain⟨l,hl,hn⟩:=EA.1 h;obtain⟨c,hc,rfl⟩:=Am.1 hl;obtain⟨k,q,h1,h2⟩:=YD hn;exact .inr ⟨c,hc,k,q,h1,h2⟩
theorem N5{roots:List Rq}{dec:List Cd}{c:Cd}{n:Nd}(h:n∈Dx roots dec):n∈Dx roots (dec++[c]):=by
 unfold Dx at *
 rw[Ay,CL,←BM];exact Bn _ h
theorem MV{roots:List Rq}{dec:List Cd}{c:Cd}{n:Nd}(h:n∈Qt c):n∈Dx roots (dec++[c]):=by
 unfold Dx;rw[Ay,CL,←BM];exact Bg _ (by simpa using h)
def Nb(n:Nd):List Tm:=if n.path=mt then [DJ n.rq]else [⟨n.path,false,[(n.place,n.place+1)]⟩,DJ n.rq]
theorem Pb(n:Nd):Jf n=Qo (Nb n):=by unfold Jf Nb JH Es;split<;>rfl
theorem bB{s:Ba}(h:s≠[])(hc:EM s):∃k,has s k=true:=by
 match s,h,hc with
 |x::r,_,hc =>
  have:=EW.low hc x (Ab ..)
  refine⟨x.1,?_⟩;unfold has;have h1:BL x.1 x=true:=DN.2 ⟨BJ _,this.2.1⟩;simp only[B6,h1,Bool.true_or,Bool.and_true,Ah,Au];omega
theorem Rw{q:Rq}{o:Option Sl}(h:o=none∨∃y,o=some y∧Cr y.ver=true∧has q.set (place y.ver)=false):Ds (DJ q) o=true:=by
 rcases h with rfl | ⟨y,rfl,hv,hq⟩
 ·rfl
 ·show(Cr y.ver&&has (Et q.set) (place y.ver))=true
  have:=JG hv
  rw[hv,FS,hq];unfold LO;simp[this.1,this.2]
theorem T0{q:Rq}{y:Sl}(hq:has q.set (place y.ver)=true):Ds (DJ q) (some y)=false:=by
 show(Cr y.ver&&has (Et q.set) (place y.ver))=false;rw[FS,hq];simp
structure qm(x:List Rl)(roots:List Rq)(S:List Sl)(n:Nd):Prop where
 inf:∀d,DW x roots d (TB n)=some (Jf n)
 viol:Bf (Jf n) S=true
 raw:∀S',Gm S'→Bf (Jf n) S'=Bf (Nb n) S'
 form:K5 (Jf n)
 inU:∀U:List ByteArray,(n.path≠mt→n.path∈U)→n.rq.path∈U→UR U (Jf n)
 path:n.path≠mt→CJ S n.path=true
theorem RZ{x:List Rl}{roots:List Rq}(hx:AQ x=0)(hr:Bp roots=0){E:List Cd}(hE:EN x E){n:Nd}(hn:n∈Dx roots E)
  (hv:B4 (AO E) n.rq.path=none∨∃y,B4 (AO E) n.rq.path=some y∧has n.rq.set (place y.ver)=false):qm x roots (AO E) n:=by
 have hV:=hE.valid hx;have gK:Ds (DJ n.rq) (B4 (AO E) n.rq.path)=true:=Rw (hv.imp id fun⟨y,h1,h2⟩=>⟨y,h1,hV y (Ju h1),h2⟩)
 -- the raw list is Bf here,and not elsewhere
 have NT:n.rq.set≠[]∧EM n.rq.set:=by
  rcases Mn hn with ⟨k,q,h1,rfl⟩ | ⟨c,hc,k,q,h1,rfl⟩
  ·exact La hr q (Av h1)
  ·exact((CF hx).1 _ (hE.cand c hc).1).set q (Av h1)
 have WO:Bf (Nb n) (AO E)=true∧(n.path≠mt→CJ (AO E) n.path=true):=by
  rcases Mn hn with ⟨k,q,h1,rfl⟩ | ⟨c,hc,k,q,h1,rfl⟩
  ·refine⟨?_,fun h=>absurd rfl h⟩;unfold Nb;rw[Ap rfl,BE];intro u hu;rw[Aq.1 hu];exact gK
  ·have DF:=T2 ((CF hx).1 _ (hE.cand c hc).1);refine⟨?_,fun _=>by rw[J4,hE.find hc];rfl⟩;unfold Nb;rw[Aj DF,BE];intro u hu;rcases AA.1 hu with rfl | hu
   ·show Ds _ (B4 (AO E) c.rel.path)=true;rw[hE.find hc];show(Cr c.rel.ver&&has [(c.place,c.place+1)] (place c.rel.ver))=true;have GO:=(CF hx).1 _ (hE.cand c hc).1;have hp:=JG GO.val;rw[GO.val,(hE.cand c hc).2.2,GO.plc];unfold has;simp[BL,hp.1,hp.2];omega
   ·rw[Aq.1 hu];exact gK
 have xb:∃S',Gm S'∧Bf (Nb n) S'=false:=by
  unfold Nb;split
  ·obtain⟨k,hk⟩:=bB NT.1 NT.2;have Y3:=Ma hk;refine⟨[⟨n.rq.path,PH k⟩],fun y hy=>by rw[Aq.1 hy];exact Fb Y3,?_⟩;rw[AK];intro h
   have:=BE.1 h (DJ n.rq) (Aq.2 rfl)
   rw[show(DJ n.rq).path=n.rq.path from rfl,show B4 [(⟨n.rq.path,PH k⟩:Sl)] n.rq.path=some ⟨n.rq.path,PH k⟩ by unfold B4;simp,T0 (by rw[show(⟨n.rq.path,PH k⟩:Sl).ver=PH k from rfl,Hi];exact hk)]at this;cases this
  ·refine⟨[],fun y hy=>(by cases hy),?_⟩;rw[AK];intro h
   have:=BE.1 h _ (Ab ..)
   cases this
 obtain⟨WO,r7⟩:=WO;have DF:Qo (Nb n)≠[]:=by
  obtain⟨S',v',n'⟩:=xb;have c1:=Dc (l:=Nb n) hV;have c2:=Dc (l:=Nb n) v';unfold Qo;cases hc:CR (Nb n)with
  |none=>rw[hc,WO]at c1;cases c1
  |some c =>
   rw[hc,n']at c2;intro e;have e:c=[]:=e;rw[e]at c2;cases c2
 have mH:∀S',Gm S'→Bf (Jf n) S'=Bf (Nb n) S':=fun S' v=>by rw[Pb];exact Qp v DF
 refine⟨fun d=>?_,by rw[mH _ hV];exact WO,mH,by rw[Pb];exact Mp _,fun U h1 h2=>?_,r7⟩
 ·rcases Mn hn with ⟨k,q,h1,rfl⟩ | ⟨c,hc,k,q,h1,rfl⟩
  ·show DW x roots d (if(mt:ByteArray)=mt then⟨0,mt,0,(k:Nat),0,0⟩else _)=some (if(mt:ByteArray)=mt then JH q else _);rw[Ap rfl,Ap rfl];show(if mt=mt∧(0:Int)=0∧(0:Int)=0∧(0:Int)=0 then(JE roots (k:Nat)).map JH else none)=some (JH q);rw[Ap ⟨rfl,rfl,rfl,rfl⟩];unfold JE;rw[Aj (by omega),Bj,h1];rfl
  ·have GO:=(CF hx).1 _ (hE.cand c hc).1;have Us:=T2 GO;have xm:Pr x c.rel.path c.place=some c.rel:=by
    unfold Pr;cases hf:x.find? fun r=>decide (r.path=c.rel.path)&&decide (plc r.ver=c.place)with
    |none =>
     rw[DC]at hf;exact absurd (by simp[(hE.cand c hc).2.2]) (hf c.rel (hE.cand c hc).1)
    |some r =>
     have h2:=E1 hf;simp only[Ah,Au]at h2;have gM:=Cn hf;have xf:=(CF hx).1 r gM;rw[bz (CF hx) gM (hE.cand c hc).1 h2.1 (by rw[←xf.plc,h2.2,(hE.cand c hc).2.2,GO.plc])]
   have e1:TB ⟨q,c.rel.path,c.place,(k:Nat)⟩=⟨1,c.rel.path,c.place,(k:Nat),0,0⟩:=by unfold TB;rw[Aj Us]
   have e2:Jf ⟨q,c.rel.path,c.place,(k:Nat)⟩=Es c.rel.path c.place q:=by unfold Jf;rw[Aj Us]
   rw[e1,e2];unfold DW;rw[Aj (show ¬((1:Int)=0) by decide),Ap rfl,Ap ⟨rfl,rfl⟩];dsimp only;rw[xm];dsimp only;unfold JE;rw[Aj (by omega),Bj,h1];dsimp only;unfold c9;rw[Aj];rw[F4,←e2,Pb];exact DF
 ·rw[Pb];refine TZ fun u hu=>?_;unfold Nb at hu;split at hu
  ·rw[Aq.1 hu];exact h2
  ·rename_i hm;rcases AA.1 hu with rfl | hu
   ·exact h1 hm
   ·rw[Aq.1 hu];exact h2
structure jT(D:List Sl)(U:List ByteArray)(p:ByteArray)(t:List Tm)(C:Int→Prop):Prop where
 form:K5 t
 inU:UR U t
 conc:De t p=true
 one:∃S,Xp D p S∧Bf t S=true
 cov:∀k:Int,0≤k→k<1000000→C k→Bf t (Ko D p (PH k))=true
structure m6(D:List Sl)(U:List ByteArray)(p:ByteArray)(t:List Tm)(C:Int→Prop):Prop where
 form:K5 t
 inU:UR U t
 none_:Bf t D=true
 cov:∀k:Int,0≤k→k<1000000→C k→Bf t (Ko D p (PH k))=true
theorem FC.forms{x:List Rl}{roots:List Rq}{s:SS}(h:FC x roots s):∀k,K5 (DP s k):=fun k=>by
 unfold DP;rw[BX];cases e:s.drv[k]? with
 |none=>exact OV
 |some t=>exact Ni (fun _ h=>by cases h) h.der t (Av e)
theorem Vp{x:List Rl}{roots:List Rq}{d:List (List Tm)}{k r:Nat}{p:ByteArray}(hk:k<d.length)(hr:r<d.length)(h0:(Bz (d.getD k []) (d.getD r []) p).2=0) :
  DW x roots d ⟨3,p,0,0,(k:Nat),(r:Nat)⟩=some (Bz (d.getD k []) (d.getD r []) p).1:=by
 have e:∀j:Nat,j<d.length→JE d (j:Nat)=some (d.getD j []):=fun j hj=>by
  unfold JE;rw[Aj (by omega),Bj,BX,Ax hj];rfl
 unfold DW;rw[Aj (show ¬((3:Int)=0) by decide),Aj (show ¬((3:Int)=1) by decide),Aj (show ¬((3:Int)=2) by decide),Ap rfl,Ap ⟨rfl,rfl⟩];dsimp only;rw[e k hk,e r hr];dsimp only;rw[Ap h0]
theorem N0{x:List Rl}{roots:List Rq}{D:List Sl}{U:List ByteArray}{p:ByteArray}(hD:Gm D):∀(l:List (Nat×(Int→Prop))) {k:Nat} {s:SS} {C:Int→Prop},FC x roots s→k<s.drv.length→(∀y∈l,y.1<s.drv.length) →
  (s.full=false→m6 D U p (DP s k) C∧∀y∈l,jT D U p (DP s y.1) y.2) →
  FC x roots (Ci p (l.map (·.1)) k s).2∧Grow s (Ci p (l.map (·.1)) k s).2∧(Ci p (l.map (·.1)) k s).1<(Ci p (l.map (·.1)) k s).2.drv.length ∧
  ((Ci p (l.map (·.1)) k s).2.full=false→∃C',m6 D U p (DP (Ci p (l.map (·.1)) k s).2 (Ci p (l.map (·.1)) k s).1) C' ∧
   (De (DP (Ci p (l.map (·.1)) k s).2 (Ci p (l.map (·.1)) k s).1) p=false∨∀j,C j∨(∃y∈l,y.2 j)→C' j))
 | [],k,s,C,hd,hk,_,hA=>⟨hd,.refl s,hk,fun hf=>⟨C,(hA hf).1,.inr fun j hj=>hj.elim id fun⟨y,hy,_⟩=>(by cases hy)⟩⟩
 |y::l,k,s,C,hd,hk,hl,hA=>by
  rw[AP]
  by_cases h1:s.full=true∨De (DP s k) p=false
  ·have e:Ci p (y.1::l.map (·.1)) k s=(k,s):=by unfold Ci;rw[Ap h1]
   rw[e];refine⟨hd,.refl s,hk,fun hf=>⟨C,(hA hf).1,.inl (h1.resolve_left fun e=>?_)⟩⟩;have hf:s.full=false:=hf;rw[e]at hf;cases hf
  simp only[not_or,Bool.not_eq_true,Bool.not_eq_false]at h1;obtain⟨hf,Mb⟩:=h1;obtain⟨kF,wk⟩:=hA hf;have hy:=wk y (Ab ..);have hi:¬(s.full=true∨De (DP s k) p=false):=by rw[hf,Mb];simp
  by_cases h2:y.1=k
  ·have e:Ci p (y.1::l.map (·.1)) k s=Ci p (l.map (·.1)) k s:=by conv=>lhs;unfold Ci;rw[Aj hi,Ap h2]
   rw[e];have hA' : m6 D U p (DP s k) fun j=>C j∨y.2 j:=⟨kF.form,kF.inU,kF.none_,fun j j0 j1 hj=>hj.elim (kF.cov j j0 j1) fun h=>by rw[←h2];exact hy.cov j j0 j1 h⟩;obtain⟨i1,i2,i3,i4⟩:=N0 hD l hd hk (fun z hz=>hl z (Ai _ hz)) (fun _=>⟨hA',fun z hz=>wk z (Ai _ hz)⟩);refine⟨i1,i2,i3,fun hf=>?_⟩;obtain⟨C',j1,j2⟩:=i4 hf;refine⟨C',j1,j2.imp id fun h j hj=>h j ?_⟩;rcases hj with hj | ⟨z,hz,hj⟩
   ·exact .inl (.inl hj)
   ·rcases AA.1 hz with rfl | hz
    ·exact .inl (.inr hj)
    ·exact .inr ⟨z,hz,hj⟩
  ·obtain⟨S2,o2,v2⟩:=hy.one;obtain⟨r1,r2⟩:=W6 kF.form hy.form Mb hy.conc (.self hD) kF.none_ o2 v2;have e:Ci p (y.1::l.map (·.1)) k s=Ci p (l.map (·.1)) (Em s ⟨3,p,0,0,k,y.1⟩ (Bz (DP s k) (DP s y.1) p).1).1 (Em s ⟨3,p,0,0,k,y.1⟩ (Bz (DP s k) (DP s y.1) p).1).2:=by
    conv=>lhs;unfold Ci;rw[Aj hi,Aj h2,Aj (fun h=>h r1)]
   rw[e];have hy1:=hl y (Ab ..);obtain⟨a1,a2,a3⟩:=Kz hd (Vp (x:=x) (roots:=roots) hk hy1 r1);have hg:=KA s ⟨3,p,0,0,(k:Nat),(y.1:Nat)⟩ (Bz (DP s k) (DP s y.1) p).1;generalize Xl : Em s ⟨3,p,0,0,(k:Nat),(y.1:Nat)⟩ (Bz (DP s k) (DP s y.1) p).1=s' at *
   have a3:s'.2.full=false→DP s'.2 s'.1=(Bz (DP s k) (DP s y.1) p).1:=a3;obtain⟨i1,i2,i3,i4⟩:=N0 hD (C:=fun j=>C j∨y.2 j) l a1 a2 (fun z hz=>BB (hl z (Ai _ hz)) hg.len) (fun d8=>by
    refine⟨?_,fun z hz=>by rw[hg.at (hl z (Ai _ hz))];exact wk z (Ai _ hz)⟩;rw[a3 d8];exact⟨NA _ _ _,Rz kF.inU hy.inU,r2 D (.self hD) (.inl kF.none_),fun j j0 j1 hj=>r2 _ (.ver hD (Fb ⟨j0,j1⟩)) (hj.imp (kF.cov j j0 j1) (hy.cov j j0 j1))⟩)
   refine⟨i1,hg.trans i2,i3,fun hf=>?_⟩;obtain⟨C',j1,j2⟩:=i4 hf;refine⟨C',j1,j2.imp id fun h j hj=>h j ?_⟩;rcases hj with hj | ⟨z,hz,hj⟩
   ·exact .inl (.inl hj)
   ·rcases AA.1 hz with rfl | hz
    ·exact .inl (.inr hj)
    ·exact .inr ⟨z,hz,hj⟩
def IZ(roots:List Rq)(dec:List Cd):Prop:=∀q∈H2 roots dec,∀d∈dec,d.rel.path=q.path→has q.set d.place=true
theorem IZ.nil(roots:List Rq):IZ roots []:=fun _ _ d h=>by cases h
theorem aj(roots:List Rq)(dec:List Cd)(c:Cd):H2 roots (dec++[c])=H2 roots dec++c.rel.reqs:=by
 unfold H2;rw[Ay,CL,BM];simp
theorem lQ(c:Cd):(Qt c).map (·.rq)=c.rel.reqs:=Sg (fun _ _=>rfl) _ _
theorem Zn{dec:List Cd}{c:Cd}(h:Ek dec c=none):∀q∈c.rel.reqs,∀d∈dec++[c],d.rel.path=q.path→has q.set d.place=true:=fun q hq d hd e=>by
 rw[←lQ]at hq;obtain⟨n,hn,rfl⟩:=Am.1 hq;unfold Ek at h;rw[DC]at h
 have:=h n hn
 unfold bf at this;rw[Bool.not_eq_true,FD]at this
 have:=this d hd
 rw[e]at this;simpa using this
theorem Lb{dec:List Cd}{c:Cd}{n:Nd}(h:Ek dec c=some n):n∈Qt c∧∃d∈dec++[c],d.rel.path=n.rq.path∧has n.rq.set d.place=false:=by
 unfold Ek at h;have h1:=E1 h;refine⟨Cn h,?_⟩;unfold bf at h1;rw[Bc]at h1;obtain⟨d,hd,e⟩:=h1;simp only[Ah,Au,CT]at e;exact⟨d,hd,e⟩
theorem IZ.snoc{roots:List Rq}{dec:List Cd}(h:IZ roots dec){p:ByteArray}{needs:List Nd}(hN:pM roots dec p needs){c:Cd}(hc:c.rel.path=p)(hn:∀n∈needs,has n.rq.set c.place=true)(hk:Ek dec c=none):IZ roots (dec++[c]):=by
 intro q hq d hd e;rw[aj]at hq;rcases A1.1 hq with hq | hq
 ·rcases A1.1 hd with hd | hd
  ·exact h q hq d hd e
  ·rw[Aq.1 hd]at e⊢;rw[←MU]at hq;obtain⟨n,X9,rfl⟩:=Am.1 hq;exact hn n ((hN.mem n).2 ⟨X9,by rw[←e,hc]⟩)
 ·exact Zn hk q hq d hd e
def UK(y:Sl):List Sl→List Sl
 | []=>[y]
 |z::l=>if Eg y.path z.path then y::z::l else z::UK y l
def Gf:List Sl→List Sl
 | []=>[]
 |y::l=>UK y (Gf l)
theorem TE{y z:Sl}:∀{l:List Sl},z∈UK y l↔z=y∨z∈l
 | []=>by simp[UK]
 |u::l=>by
  unfold UK;split
  ·simp
  ·rw[AA,TE,AA];constructor
   ·rintro(h | h | h)
    ·exact .inr (.inl h)
    ·exact .inl h
    ·exact .inr (.inr h)
   ·rintro(h | h | h)
    ·exact .inr (.inl h)
    ·exact .inl h
    ·exact .inr (.inr h)
theorem Iu{z:Sl}:∀{l:List Sl},z∈Gf l↔z∈l
 | []=>by simp[Gf]
 |u::l=>by unfold Gf;rw[TE,Iu,AA]
theorem Yj{y:Sl}:∀{l:List Sl},Wf l→(∀z∈l,z.path≠y.path)→Wf (UK y l)
 | [],_,_=>by simp[UK,Wf]
 |u::l,h,hn=>by
  obtain⟨h1,h2⟩:=BG.1 h;unfold UK;split
  ·rename_i hb;refine BG.2 ⟨fun z hz=>?_,h⟩;rcases AA.1 hz with rfl | hz
   ·exact hb
   ·exact DX hb (h1 z hz)
  ·rename_i hb;refine BG.2 ⟨fun z hz=>?_,Yj h2 fun z hz=>hn z (Ai _ hz)⟩;rcases TE.1 hz with rfl | hz
   ·cases e:Eg u.path z.path with
    |true=>rfl
    |false =>
     have hb:Eg z.path u.path=false:=by simpa using hb
     exact absurd (HH e hb) (hn u (Ab ..))
   ·exact h1 z hz
theorem QE:∀{l:List Sl},(l.map (·.path)).Nodup→Wf (Gf l)
 | [],_=>List.Pairwise.nil
 |y::l,h=>by
  simp only[AP,CU]at h;exact Yj (QE h.2) fun z hz e=>h.1 (Am.2 ⟨z,Iu.1 hz,e⟩)
theorem Tz:∀{l:List Sl} {b:Option ByteArray},Wf l→(∀c,b=some c→∀y∈l,Eg c y.path=true)→Me b l=true
 | [],_,_,_=>by unfold Me;rfl
 |y::l,b,h,hb=>by
  obtain⟨h1,h2⟩:=BG.1 h;unfold Me;cases b with
  |none=>simpa using Tz h2 fun c e z hz=>by cases e;exact h1 z hz
  |some c =>
   have:=hb c rfl y (Ab ..)
   simp only[this,EL];exact Tz h2 fun c e z hz=>by cases e;exact h1 z hz
theorem gX{l:List Sl}(h:Wf l):CO l=true:=Tz h fun _ e=>by cases e
theorem KH{x:List Rl}(hx:AQ x=0){r:Rl}(hr:r∈x):CK x (EY r)=some r:=by
 unfold CK;rw[Aj (fun h=>h hx)];cases h:x.find? fun s=>decide (EY s=EY r)with
 |none =>
  rw[DC]at h;exact absurd (by simp) (h r hr)
 |some s =>
  have h1:=E1 h;simp only[Au]at h1;rw[TJ (CF hx).2 (Cn h) hr h1]
theorem EN.sorted{x:List Rl}{dec:List Cd}(h:EN x dec):Wf (Gf (AO dec)):=QE (by rw[NZ];exact h.nodup)
theorem EN.findS{x:List Rl}{dec:List Cd}(h:EN x dec){c:Cd}(hc:c∈dec):B4 (Gf (AO dec)) c.rel.path=some (TH c) :=
 No h.sorted (y:=TH c) (Iu.2 (Am.2 ⟨c,hc,rfl⟩))
theorem ic{x:List Rl}{roots:List Rq}(hx:AQ x=0){dec:List Cd}(h:EN x dec)(hs:IZ roots dec)(hl:KN (H2 roots dec) (AO dec)=none):pN x roots (Gf (AO dec)):=by
 have F6:∀q∈H2 roots dec,∃y,B4 (Gf (AO dec)) q.path=some y∧has q.set (place y.ver)=true:=fun q hq=>by
  have:=ZV hl q hq
  rw[Lk]at this;obtain⟨y,hy,e⟩:=this;obtain⟨d,hd,rfl⟩:=Am.1 hy;have e:d.rel.path=q.path:=e;refine⟨TH d,by rw[←e];exact h.findS hd,?_⟩;have h1:=hs q hq d hd e;have GO:=(CF hx).1 _ (h.cand d hd).1;rw[(h.cand d hd).2.2,GO.plc]at h1;exact h1
 refine⟨hx,gX h.sorted,fun y hy=>?_,fun q hq=>F6 q (Bn _ hq),fun y hy r hr q hq=>?_⟩
 ·obtain⟨d,hd,rfl⟩:=Am.1 (Iu.1 hy);exact⟨d.rel,KH hx (h.cand d hd).1,(h.cand d hd).2.1⟩
 ·obtain⟨d,hd,rfl⟩:=Am.1 (Iu.1 hy)
  have:CK x (TH d)=some d.rel:=KH hx (h.cand d hd).1
  rw[this]at hr;cases hr;exact F6 q (Bg _ (EA.2 ⟨_,Am.2 ⟨d,hd,rfl⟩,hq⟩))
def dp(dec:List Cd)(needs:List Nd)(c:Cd):Bool:=(needs.all fun n=>has n.rq.set c.place)&&(Ek dec c).isNone
def N1(x:List Rl)(roots:List Rq):Nat→List Cd→List (List Cd)
 |0,_=>[]
 |n+1,dec=>match(GT roots dec).2 with
  | []=>[dec]
  |n0::l=>((Co x (GT roots dec).1).map fun c=>if dp dec (n0::l) c then N1 x roots n (dec++[c])else []).flatten
structure Lf(x:List Rl)(roots:List Rq)(dec d:List Cd):Prop where
 pre:dec <+: d
 ok:EN x d
 sat:IZ roots d
 stop:KN (H2 roots d) (AO d)=none
theorem JX{x:List Rl}{p:ByteArray}{c:Cd}(h:c∈Co x p):c.rel.path=p∧(c.rel∈x∧c.rel.yanked=false∧c.place=plc c.rel.ver):=by
 obtain⟨r,h1,h2,h3,rfl⟩:=K7.1 h;exact⟨h2,h1,h3,rfl⟩
theorem Pp{dec:List Cd}{needs:List Nd}{c:Cd}:dp dec needs c=true↔(∀n∈needs,has n.rq.set c.place=true)∧Ek dec c=none:=by
 unfold dp;rw[Ah,AY,Option.isNone_iff_eq_none]
theorem Vx{x:List Rl}{roots:List Rq}:∀{n:Nat} {dec:List Cd},EN x dec→IZ roots dec→∀d∈N1 x roots n dec,Lf x roots dec d
 |0,_,_,_,d,hd=>by cases hd
 |n+1,dec,h,hs,d,hd=>by
  unfold N1 at hd;split at hd
  ·rename_i e;rw[Aq.1 hd];exact⟨M6,h,hs,TU.1 e⟩
  ·rename_i n0 l e;have hN:=N8 e;obtain⟨L,hL,hd⟩:=EA.1 hd;obtain⟨c,hc,rfl⟩:=Am.1 hL;split at hd
   ·rename_i GO;obtain⟨h1,h2⟩:=Pp.1 GO;obtain⟨c1,c2⟩:=JX hc;have cC:Do dec c.rel.path=false:=by rw[c1];exact hN.undone
    have:=Vx (n:=n) (h.snoc c2 cC) (hs.snoc hN c1 h1 h2) d hd
    exact⟨(Ot _ _).trans this.pre,this.ok,this.sat,this.stop⟩
   ·cases hd
theorem Lf.sol{x:List Rl}{roots:List Rq}(hx:AQ x=0){dec d:List Cd}(h:Lf x roots dec d):pN x roots (Gf (AO d)):=ic hx h.ok h.sat h.stop
theorem lw{x:List Rl}{roots:List Rq}(hx:AQ x=0){s:SS}(hd:FC x roots s){k:Nat}(hk:k<s.drv.length){dec d:List Cd}(he:CG (DP s k) (AO dec)=true)(h:Lf x roots dec d):False:=by
 have hS:=h.sol hx;have hv:=Wz (s:=Gf (AO d)) hS.inc (fun y hy=>Iu.2 (by
  obtain⟨c,hc,rfl⟩:=Am.1 hy;obtain⟨t,e⟩:=h.pre;exact Am.2 ⟨c,by rw[←e];exact Bn _ hc,rfl⟩)) he
 have hn:=L0 hS (d:=[]) (fun _ h=>by cases h) hd.der (DP s k) (by
  unfold DP;rw[BX,Ax hk];exact At hk)
 rw[hv]at hn;cases hn
theorem oQ{x:List Rl}(h:AQ x=0):x.length≤256:=by
 unfold AQ at h;split at h
 ·cases h
 ·omega
theorem gw{l:List Rl}{k:Int}:(l.map fun r=>(plc r.ver,plc r.ver+1)).any (BL k)=true↔∃r∈l,plc r.ver=k:=by
 rw[Bc];constructor
 ·rintro⟨y,hy,h⟩
  obtain⟨r,hr,rfl⟩:=Am.1 hy
  have:=DN.1 h
  exact⟨r,hr,by have h1:=this.1;have h2:=this.2;dsimp only at h1 h2;omega⟩
 ·rintro⟨r,hr,rfl⟩
  exact⟨_,Am.2 ⟨r,hr,rfl⟩,DN.2 ⟨BJ _,by dsimp only;omega⟩⟩
theorem U0{x:List Rl}(hx:AQ x=0){p:ByteArray}{k:Int}:has (B8 x p) k=true↔∃c∈Co x p,c.place=k:=by
 unfold B8;rw[Hp];unfold has Kn;rw[Aj (fun h=>h hx)];simp only[Ah,Au];rw[gw];constructor
 ·rintro⟨_,r,hr,rfl⟩
  simp only[BO,Au,CT]at hr;exact⟨⟨plc r.ver,r⟩,K7.2 ⟨r,hr.1.1,hr.1.2,hr.2,rfl⟩,rfl⟩
 ·rintro⟨c,hc,rfl⟩
  obtain⟨r,h1,h2,h3,rfl⟩:=K7.1 hc;have GO:=(CF hx).1 r h1
  have:=JG GO.val
  rw[←GO.plc]at this;refine⟨⟨this.1,this.2⟩,r,?_,rfl⟩;simp only[BO,Au,CT];exact⟨⟨h1,h2⟩,h3⟩
theorem bG{x:List Rl}(hx:AQ x=0)(p:ByteArray):∃k:Int,0≤k∧k<1000000∧has (B8 x p) k=false:=by
 apply AN;intro hn;have F6:∀k∈(List.range 257).map fun i:Nat=>(i:Int),k∈x.map fun r=>plc r.ver:=by
  intro k hk;obtain⟨i,hi,rfl⟩:=Am.1 hk;have hi:=List.mem_range.1 hi;have hh:has (B8 x p) (i:Int)=true:=by
   cases e:has (B8 x p) (i:Int)with
   |true=>rfl
   |false=>exact absurd ⟨(i:Int),by omega,by omega,e⟩ hn
  obtain⟨c,hc,e⟩:=(U0 hx).1 hh;obtain⟨r,h1,_,_,rfl⟩:=K7.1 hc;exact Am.2 ⟨r,h1,e⟩
 have:=Iy (List.pairwise_map.2 (List.nodup_range.imp fun h e=>h (Int.ofNat.inj e))) F6
 rw[Bb,Bb,QS]at this
 have:=oQ hx
 omega
theorem Ll(dec:List Cd)(c:Cd):AO (dec++[c])=Ko (AO dec) c.rel.path c.rel.ver:=by unfold AO Ko;rw[Ay];rfl
theorem MK{t:List Tm}{S:List Sl}:CG t S=true↔Bf t S=true∧∀u∈t,CJ S u.path=true:=by
 unfold CG;rw[Ah,CT,FD];simp
section
variable {x:List Rl}{roots:List Rq}{dec:List Cd}{p:ByteArray}{needs:List Nd}
abbrev Z0(p:ByteArray)(dec:List Cd):List ByteArray:=p::(AO dec).map (·.path)
theorem kl{c:Cd}{t:List Tm}(hf:K5 t)(he:CG t (AO (dec++[c]))=true):UR (Z0 c.rel.path dec) t:=by
 refine⟨E2 hf,fun u hu=>?_⟩
 have:=(MK.1 he).2 u hu
 rw[Ho,Ll,Ay]at this;rcases A1.1 this with h | h
 ·exact Ai _ h
 ·rw[AP,Fg,Aq]at h;rw[h];exact Ab ..
theorem fJ(hx:AQ x=0)(hd:EN x dec){c:Cd}(hc:c.rel∈x){t:List Tm}(he:CG t (AO (dec++[c]))=true)(hn:De t c.rel.path=false):CG t (AO dec)=true:=by
 obtain⟨h1,h2⟩:=MK.1 he;have DF:=JY hn;rw[Ll]at h1 h2;refine MK.2 ⟨?_,fun u hu=>?_⟩
 ·rw[K3 (.self (hd.valid hx)) (.ver (hd.valid hx) ((CF hx).1 _ hc).val) DF];exact h1
 ·have:=h2 u hu
  rw[Tn,Cj]at this;rcases this with h | h
  ·exact h
  ·rw[Lk]at h;obtain⟨y,hy,e⟩:=h;rw[Aq.1 hy]at e;exact absurd e.symm (DF u hu)
theorem dI(hx:AQ x=0)(hd:EN x dec){c:Cd}(hc:c.rel∈x∧c.rel.yanked=false∧c.place=plc c.rel.ver)(hu:Do dec c.rel.path=false){t:List Tm}(hf:K5 t)(he:CG t (AO (dec++[c]))=true)(hn:De t c.rel.path=true) :
  jT (AO dec) (Z0 c.rel.path dec) c.rel.path t fun k=>k=c.place:=by
 have GO:=(CF hx).1 _ hc.1;have hV:=hd.valid hx;have h1:=(MK.1 he).1;rw[Ll]at h1;refine⟨hf,kl hf he,hn,⟨_,.ver hV GO.val,h1⟩,fun k k0 k1 e=>?_⟩;subst e;rw[ax (by rw[F5];exact hu) (Fb ⟨k0,k1⟩) GO.val (by rw[Hi,hc.2.2,GO.plc])];exact h1
theorem Pj(hx:AQ x=0)(hr:Bp roots=0){E:List Cd}(hE:EN x E){n:Nd}(hn:n∈Dx roots E)(hv:∃d∈E,d.rel.path=n.rq.path∧has n.rq.set d.place=false) :
  (∀d,DW x roots d (TB n)=some (Jf n))∧CG (Jf n) (AO E)=true∧K5 (Jf n):=by
 obtain⟨d,hd,e,hs⟩:=hv;have GO:=(CF hx).1 _ (hE.cand d hd).1;have hf:=hE.find hd;have hI:=RZ hx hr hE hn (.inr ⟨TH d,by rw[←e];exact hf,by rw[show(TH d).ver=d.rel.ver from rfl,←GO.plc,←(hE.cand d hd).2.2];exact hs⟩);refine⟨hI.inf,MK.2 ⟨hI.viol,fun u hu=>?_⟩,hI.form⟩
 have:=(hI.inU ((AO E).map (·.path)) (fun h=>Ho.1 (hI.path h)) (Ho.1 (by rw[J4,←e,hf];rfl))).2 u hu
 exact Ho.2 this
theorem da(hx:AQ x=0)(hr:Bp roots=0)(hd:EN x dec)(hN:pM roots dec p needs){c:Cd}(hc:c∈Co x p){n:Nd}(hn:n∈needs)(hs:has n.rq.set c.place=false):De (Jf n) p=true:=by
 obtain⟨c1,c2⟩:=JX hc;have hu:Do dec c.rel.path=false:=by rw[c1];exact hN.undone
 have hE:=hd.snoc c2 hu;obtain⟨ee,kP⟩:=(hN.mem n).1 hn;have GO:=(CF hx).1 _ c2.1;have hI:=RZ hx hr hE (N5 ee) (.inr ⟨TH c,by rw[kP,←c1];exact hE.find (by simp),by rw[show(TH c).ver=c.rel.ver from rfl,←GO.plc,←c2.2.2];exact hs⟩);cases pV:De (Jf n) p with
 |true=>rfl
 |false =>
  exfalso
  have NT:n.rq.set≠[]∧EM n.rq.set:=by
   rcases Mn ee with ⟨k,q,h1,rfl⟩ | ⟨c,hc,k,q,h1,rfl⟩
   ·exact La hr q (Av h1)
   ·exact((CF hx).1 _ (hd.cand c hc).1).set q (Av h1)
  obtain⟨k,hk⟩:=bB NT.1 NT.2;have Y3:=Ma hk;have hV:=hd.valid hx;have o1:Xp (AO dec) p (Ko (AO dec) p (PH k)):=.ver hV (Fb Y3);have o2:Xp (AO dec) p (AO (dec++[c])):=by rw[Ll,c1];exact .ver hV GO.val
  have h1:=K3 o1 o2 (JY pV);rw[hI.viol,hI.raw _ o1.val,BE]at h1
  have:=h1 (DJ n.rq) (by unfold Nb;split<;>simp)
  rw[show(DJ n.rq).path=p from kP,Is (by rw[F5];exact hN.undone),T0 (by rw[show(⟨p,PH k⟩:Sl).ver=PH k from rfl,Hi];exact hk)]at this;cases this
theorem cU(hx:AQ x=0)(hr:Bp roots=0)(hd:EN x dec)(hN:pM roots dec p needs){n0:Nd}(h0:n0∈needs)(L:List (Nat×Cd))(hL:L.map (·.2)=Co x p){s:SS}(hs:FC x roots s)(DB:∀y∈L,y.1<s.drv.length)
  (sc:s.full=false→∀y∈L,CG (DP s y.1) (AO (dec++[y.2]))=true∧De (DP s y.1) p=true) :
  FC x roots (Ec x p n0 (L.map (·.1)) s).2∧Grow s (Ec x p n0 (L.map (·.1)) s).2∧(Ec x p n0 (L.map (·.1)) s).1<(Ec x p n0 (L.map (·.1)) s).2.drv.length ∧
  ((Ec x p n0 (L.map (·.1)) s).2.full=false→CG (DP (Ec x p n0 (L.map (·.1)) s).2 (Ec x p n0 (L.map (·.1)) s).1) (AO dec)=true):=by
 have hV:=hd.valid hx;have p9:CJ (AO dec) p=false:=by rw[F5];exact hN.undone
 obtain⟨uj,r6⟩:=(hN.mem n0).1 h0;have hI:=RZ hx hr hd uj (.inl (by rw[r6];exact HN p9));unfold Ec;obtain⟨a1,a2,a3⟩:=Kz hs (hI.inf s.drv);have ag:=KA s (TB n0) (Jf n0);have a3:(Bm s n0).2.full=false→DP (Bm s n0).2 (Bm s n0).1=Jf n0:=a3
 change FC x roots (Bm s n0).2 at a1
 change (Bm s n0).1<(Bm s n0).2.drv.length at a2
 change Grow s (Bm s n0).2 at ag
 generalize Bm s n0=s1 at *
 -- the incompatibility of the places that are not available
 obtain⟨u,u0,u1,hu⟩:=bG hx p;have WO:∀k:Int,0≤k→k<1000000→has (B8 x p) k=false→Bf [(⟨p,false,Et (B8 x p)⟩:Tm)] (Ko (AO dec) p (PH k))=true:=fun k k0 k1 hk=>by
  rw[BE];intro t ht;rw[Aq.1 ht];show Ds _ (B4 (Ko (AO dec) p (PH k)) p)=true;rw[Is p9];show(Cr (PH k)&&has (Et (B8 x p)) (place (PH k)))=true;rw[Fb ⟨k0,k1⟩,Hi,FS,hk];unfold LO;simp[k0,k1]
 have mG:Bf [(⟨p,false,Et (B8 x p)⟩:Tm)] (AO dec)=false:=by
  rw[AK];intro h
  have:=BE.1 h _ (Ab ..)
  rw[show(⟨p,false,Et (B8 x p)⟩:Tm).path=p from rfl,HN p9]at this;cases this
 have ou:Xp (AO dec) p (Ko (AO dec) p (PH u)):=.ver hV (Fb ⟨u0,u1⟩);have DF:Ig p (B8 x p)≠[]:=by
  have c1:=Dc (l:=[(⟨p,false,Et (B8 x p)⟩:Tm)]) ou.val;have c2:=Dc (l:=[(⟨p,false,Et (B8 x p)⟩:Tm)]) hV;rw[WO u u0 u1 hu]at c1;rw[mG]at c2;unfold Ig Qo;cases hc:CR [(⟨p,false,Et (B8 x p)⟩:Tm)]with
  |none=>rw[hc]at c1;cases c1
  |some c =>
   rw[hc]at c2;intro e;have e:c=[]:=e;rw[e]at c2;cases c2
 have LF:∀S,Gm S→Bf (Ig p (B8 x p)) S=Bf [(⟨p,false,Et (B8 x p)⟩:Tm)] S:=fun S v=>Qp v DF;have rC:De (Ig p (B8 x p)) p=true:=by
  cases h:De (Ig p (B8 x p)) p with
  |true=>rfl
  |false =>
   have:=K3 ou (.self hV) (JY h)
   rw[LF _ ou.val,LF _ hV,WO u u0 u1 hu,mG]at this;cases this
 have ov:DW x roots s1.2.drv ⟨2,p,0,0,0,0⟩=some (Ig p (B8 x p)):=by
  unfold DW;rw[Aj (show ¬((2:Int)=0) by decide),Aj (show ¬((2:Int)=1) by decide),Ap rfl,Ap ⟨rfl,rfl,rfl,rfl⟩];unfold c9;rw[Aj (by rw[F4];exact DF)]
 obtain⟨b1,b2,b3⟩:=Kz a1 ov;have bg:=KA s1.2 ⟨2,p,0,0,0,0⟩ (Ig p (B8 x p));have b3:(Eu x p s1.2).2.full=false→DP (Eu x p s1.2).2 (Eu x p s1.2).1=Ig p (B8 x p):=b3
 change FC x roots (Eu x p s1.2).2 at b1
 change (Eu x p s1.2).1<(Eu x p s1.2).2.drv.length at b2
 change Grow s1.2 (Eu x p s1.2).2 at bg
 generalize Eu x p s1.2=s2 at *
 have rt:s2.2.full=false→s1.2.full=false∧s.full=false:=fun h=>by
  have h1:s1.2.full=false:=by
   cases e:s1.2.full with
   |false=>rfl
   |true=>rw[bg.full e]at h;cases h
  refine⟨h1,?_⟩;cases e:s.full with
  |false=>rfl
  |true=>rw[ag.full e]at h1;cases h1
 have main:=N0 (D:=AO dec) (U:=Z0 p dec) (p:=p) hV ((s2.1,fun k=>has (B8 x p) k=false)::L.map fun y=>(y.1,fun k=>k=y.2.place)) (C:=fun k=>has n0.rq.set k=false) b1 (BB a2 bg.len)
  (fun y hy=>by
   rcases AA.1 hy with rfl | hy
   ·exact b2
   ·obtain⟨z,hz,rfl⟩:=Am.1 hy;exact BB (DB z hz) (ag.trans bg).len) (fun hf=>by
   obtain⟨f1,f0⟩:=rt hf;refine⟨?_,fun y hy=>?_⟩
   ·rw[bg.at a2,a3 f1];refine⟨hI.form,hI.inU _ (fun h=>Ai _ (Ho.1 (hI.path h))) (by rw[r6];exact Ab ..),hI.viol,fun k k0 k1 hk=>?_⟩;have ok:Xp (AO dec) p (Ko (AO dec) p (PH k)):=.ver hV (Fb ⟨k0,k1⟩);rw[hI.raw _ ok.val,BE];intro t ht;have WM:=BE.1 ((hI.raw _ hV).symm.trans hI.viol) t ht;unfold Nb at ht;have gK:Ds (DJ n0.rq) (B4 (Ko (AO dec) p (PH k)) (DJ n0.rq).path)=true:=by
     rw[show(DJ n0.rq).path=p from r6,Is p9];exact Rw (.inr ⟨_,rfl,Fb ⟨k0,k1⟩,by rw[show(⟨p,PH k⟩:Sl).ver=PH k from rfl,Hi];exact hk⟩)
    split at ht
    ·rw[Aq.1 ht];exact gK
    ·rename_i hm;rcases AA.1 ht with rfl | ht
     ·have DF:n0.path≠p:=fun e=>by
       have:=hI.path hm
       rw[e,p9]at this;cases this
      rw[show(⟨n0.path,false,[(n0.place,n0.place+1)]⟩:Tm).path=n0.path from rfl]at WM⊢;rw[ok.same _ DF];exact WM
     ·rw[Aq.1 ht];exact gK
   ·rcases AA.1 hy with rfl | hy
    ·show jT _ _ p (DP s2.2 s2.1) _;rw[b3 hf];refine⟨Mp _,TZ (fun t ht=>by rw[Aq.1 ht];exact Ab ..),rC,⟨_,ou,by rw[LF _ ou.val];exact WO u u0 u1 hu⟩,fun k k0 k1 hk=>?_⟩;rw[LF _ (Xp.ver hV (Fb ⟨k0,k1⟩)).val];exact WO k k0 k1 hk
    ·obtain⟨z,hz,rfl⟩:=Am.1 hy;show jT _ _ p (DP s2.2 z.1) _;rw[(ag.trans bg).at (DB z hz)];obtain⟨e1,e2⟩:=sc f0 z hz;have hzc:z.2∈Co x p:=by rw[←hL];exact Am.2 ⟨z,hz,rfl⟩
     obtain⟨c1,c2⟩:=JX hzc
     have:=dI hx hd c2 (by rw[c1];exact hN.undone) (hs.forms z.1) e1 (by rw[c1];exact e2)
     rw[c1]at this;exact this)
 have w7:((s2.1,fun k=>has (B8 x p) k=false)::L.map fun y=>(y.1,fun k=>k=y.2.place)).map (·.1)=s2.1::L.map (·.1):=by
  rw[AP,BQ];rfl
 rw[w7]at main;obtain⟨m1,m2,m3,m4⟩:=main;refine⟨m1,(ag.trans bg).trans m2,m3,fun hf=>?_⟩;obtain⟨C',q1,q2⟩:=m4 hf;have hnc:De (DP (Ci p (s2.1::L.map (·.1)) s1.1 s2.2).2 (Ci p (s2.1::L.map (·.1)) s1.1 s2.2).1) p=false:=by
  rcases q2 with q2 | q2
  ·exact q2
  ·refine iz p9 q1.form q1.none_ fun k k0 k1=>q1.cov k k0 k1 (q2 k ?_);cases uk:has n0.rq.set k with
   |false=>exact .inl rfl
   |true =>
    cases ha:has (B8 x p) k with
    |false=>exact .inr ⟨_,Ab ..,ha⟩
    |true =>
     obtain⟨c,hc,e⟩:=(U0 hx).1 ha;rw[←hL]at hc;obtain⟨z,hz,rfl⟩:=Am.1 hc;exact .inr ⟨_,Ai _ (Am.2 ⟨z,hz,rfl⟩),e.symm⟩
 refine MK.2 ⟨q1.none_,fun t ht=>?_⟩
 have:=q1.inU.2 t ht
 rcases AA.1 this with e | h
 ·exact absurd e (JY hnc t ht)
 ·exact Ho.2 h
end
end Go.Eng
