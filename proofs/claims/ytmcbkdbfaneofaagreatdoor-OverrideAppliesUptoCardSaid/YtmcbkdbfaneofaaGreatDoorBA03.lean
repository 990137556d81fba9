/- Lemmas for the claims of this seat, without a condition: part 3 (Q2, Q3, Q4, P15, Q5, Q6). -/
import Derived.Test.YtmcbkdbfaneofaaGreatDoorBA02
namespace Go.Eng
theorem PJ(f:Rq→Nat→Nd):∀(l:List Rq) (i k:Nat),(MJ f i l)[k]?=(l[k]?).map fun q=>f q (i+k)
 | [],i,k=>by simp[MJ]
 |q::l,i,0=>by simp[MJ]
 |q::l,i,k+1=>by
  have h:=PJ f l (i+1) k;simp only[MJ,EB,h];rw[show i+1+k=i+(k+1) by omega]
theorem K5(f:Rq→Nat→Nd):∀(l:List Rq) (i:Nat),(MJ f i l).length=l.length
 | [],_=>rfl
 |_::l,i=>by simp[MJ,K5 f l (i+1)]
theorem YN{f:Rq→Nat→Nd}{l:List Rq}{n:Nd}(h:n∈MJ f 0 l):∃k q,l[k]?=some q∧n=f q k:=by
 obtain⟨k,hk⟩:=Ch.1 h;rw[PJ,AY]at hk;obtain⟨q,h1,h2⟩:=hk;exact⟨k,q,h1,by rw[←h2,Bo]⟩
theorem Sz{f:Rq→Nat→Nd}(hf:∀q i,(f q i).rq=q):∀(l:List Rq) (i:Nat),(MJ f i l).map (·.rq)=l
 | [],_=>rfl
 |q::l,i=>by simp[MJ,hf,Sz hf l (i+1)]
abbrev H8(roots:List Rq)(dec:List Cd):List Rq:=roots++(dec.map fun c=>c.rel.reqs).flatten
theorem Ni(roots:List Rq)(dec:List Cd):(DE roots dec).map (·.rq)=H8 roots dec:=by
 unfold DE Y4;rw[AG,Sz (fun _ _=>rfl),SJ,BU]
 congr 2
 exact Bk fun c _=>Sz (fun _ _=>rfl) _ _
theorem F9(dec:List Cd)(p:ByteArray):CT (AO dec) p=Du dec p:=by
 unfold CT Du AO;rw[List.any_map];rfl
theorem JO(before:List Sl):∀{l:List Rq} {a p:ByteArray},DF before l (some a)=some p→p=a∨EJ p a=true
 | [],a,p,h=>by cases h;exact .inl rfl
 |q::l,a,p,h=>by
  unfold DF at h;split at h
  ·exact JO before h
  ·dsimp only at h;split at h
   ·rename_i hb;rcases JO before h with e | e
    ·exact .inr (by rw[e];exact hb)
    ·exact .inr (EK e hb)
   ·exact JO before h
theorem IV(before:List Sl):∀{l:List Rq} {a:ByteArray},DF before l (some a)≠none
 | [],a=>by simp[DF]
 |q::l,a=>by
  unfold DF;split
  ·exact IV before
  ·dsimp only;split<;>exact IV before
theorem Pi{n:Nd}{p:ByteArray}(e:n.rq.path≠p)(L:List Nd):((n::L).filter fun n=>decide (n.rq.path=p))=L.filter fun n=>decide (n.rq.path=p):=by rw[D8,Al (by simpa using e)]
theorem WF{n:Nd}{p:ByteArray}(e:n.rq.path=p)(L:List Nd):((n::L).filter fun n=>decide (n.rq.path=p))=n::L.filter fun n=>decide (n.rq.path=p):=by rw[D8,Au (by simpa using e)]
theorem Nk(dec:List Cd):∀(L:List Nd) (a:ByteArray×List Nd),(a.2≠[]→Du dec a.1=false) →
  L.foldl (Eu dec) a=match DF (AO dec) (L.map (·.rq)) (if a.2=[]then none else some a.1)with
   |none=>a
   |some p=>(p,(if a.2≠[]∧a.1=p then a.2 else [])++L.filter fun n=>decide (n.rq.path=p))
 | [],a,h=>by
  obtain⟨p,o⟩:=a;cases o with
  |nil=>simp[DF]
  |cons n o=>simp[DF]
 |n::L,a,h=>by
  obtain⟨p0,o⟩:=a;rw[FL,AQ];have sK:∀(acc:Option ByteArray) (l:List Rq),(∀p,acc=some p→Du dec p=false)→∀p,DF (AO dec) l acc=some p→Du dec p=false:=fun acc l ha p hp=>by
   have:=((Kg (AO dec) (l:=l) (acc:=acc) (fun p e=>by rw[F9];exact ha p e)).1 p hp).1
   rw[F9]at this;exact this
  cases hd:Du dec n.rq.path with
  |true =>
   have e1:Eu dec (p0,o) n=(p0,o):=by unfold Eu;rw[Au (.inl hd)]
   have e2:DF (AO dec) (n.rq::L.map (·.rq)) (if o=[]then none else some p0)=DF (AO dec) (L.map (·.rq)) (if o=[]then none else some p0):=by
    conv=>lhs;unfold DF
    rw[Au (by rw[F9];exact hd)]
   rw[e1,e2,Nk dec L (p0,o) h];dsimp only;cases hg:DF (AO dec) (L.map (·.rq)) (if o=[]then none else some p0)with
   |none=>rfl
   |some p =>
    dsimp only;have hp:=sK _ _ (fun q e=>by
     split at e
     ·cases e
     ·rename_i ho;cases e;exact h ho) p hg
    have DM:n.rq.path≠p:=fun e=>by rw[e,hp]at hd;cases hd
    rw[Pi DM]
  |false =>
   have Sb:CT (AO dec) n.rq.path=false:=by rw[F9];exact hd
   by_cases ho:o=[]
   ·subst ho;have e1:Eu dec (p0,[]) n=(n.rq.path,[n]):=by
     unfold Eu;rw[Al (by simp[hd]),Al (by simp)];rfl
    have e2:DF (AO dec) (n.rq::L.map (·.rq)) none=DF (AO dec) (L.map (·.rq)) (some n.rq.path):=by
     conv=>lhs;unfold DF
     rw[Al (by rw[Sb];decide)]
    rw[e1,Nk dec L (n.rq.path,[n]) (fun _=>hd),Au rfl,e2];rw[Al (by simp)];cases hg:DF (AO dec) (L.map (·.rq)) (some n.rq.path)with
    |none=>exact absurd hg (IV _)
    |some p =>
     dsimp only;rw[Al (show ¬(([]:List Nd)≠[]∧p0=p)from fun h=>h.1 rfl)]
     by_cases e:n.rq.path=p
     ·rw[WF e,Au ⟨by simp,e⟩];rfl
     ·rw[Pi e,Al (fun h=>e h.2)]
   ·have zI:(if o=[]then none else some p0)=some p0:=Al ho;rw[zI];cases hb:EJ p0 n.rq.path with
    |true =>
     have e1:Eu dec (p0,o) n=(p0,o):=by unfold Eu;rw[Au (.inr ⟨ho,hb⟩)]
     have UR:EJ n.rq.path p0=false:=Qk hb;have e2:DF (AO dec) (n.rq::L.map (·.rq)) (some p0)=DF (AO dec) (L.map (·.rq)) (some p0):=by
      conv=>lhs;unfold DF
      rw[Al (by rw[Sb];decide)];dsimp only;rw[Al (by rw[UR];decide)]
     rw[e1,e2,Nk dec L (p0,o) h];dsimp only;rw[zI];cases hg:DF (AO dec) (L.map (·.rq)) (some p0)with
     |none=>rfl
     |some p =>
      dsimp only;have DM:n.rq.path≠p:=fun e=>by
       rcases JO _ hg with e3 | e3
       ·rw[e,e3,Dk]at hb;cases hb
       ·rw[e,Qk e3]at hb;cases hb
      rw[Pi DM]
    |false =>
     cases UR:EJ n.rq.path p0 with
     |true =>
      have e1:Eu dec (p0,o) n=(n.rq.path,[n]):=by
       unfold Eu;rw[Al (by simp[hd,hb]),Au ⟨ho,UR⟩]
      have e2:DF (AO dec) (n.rq::L.map (·.rq)) (some p0)=DF (AO dec) (L.map (·.rq)) (some n.rq.path):=by
       conv=>lhs;unfold DF
       rw[Al (by rw[Sb];decide)];dsimp only;rw[Au UR]
      rw[e1,e2,Nk dec L (n.rq.path,[n]) (fun _=>hd),Al (by simp)];cases hg:DF (AO dec) (L.map (·.rq)) (some n.rq.path)with
      |none=>exact absurd hg (IV _)
      |some p =>
       dsimp only;have DM:p0≠p:=fun e=>by
        rcases JO _ hg with e3 | e3
        ·rw[e,e3,Dk]at UR;cases UR
        ·rw[e]at UR;rw[Qk e3]at UR;cases UR
       rw[Al (show ¬(o≠[]∧p0=p)from fun h=>DM h.2)]
       by_cases e:n.rq.path=p
       ·rw[WF e,Au ⟨by simp,e⟩];rfl
       ·rw[Pi e,Al (fun h=>e h.2)]
     |false =>
      have e0:n.rq.path=p0:=HP UR hb;have e1:Eu dec (p0,o) n=(p0,o++[n]):=by
       unfold Eu;rw[Al (by simp[hd,hb]),Al (by simp[UR]),e0]
      have e2:DF (AO dec) (n.rq::L.map (·.rq)) (some p0)=DF (AO dec) (L.map (·.rq)) (some p0):=by
       conv=>lhs;unfold DF
       rw[Al (by rw[Sb];decide)];dsimp only;rw[Al (by rw[UR];decide)]
      rw[e1,e2,Nk dec L (p0,o++[n]) (fun _=>by rw[←e0];exact hd),Al (by simp)];cases hg:DF (AO dec) (L.map (·.rq)) (some p0)with
      |none=>exact absurd hg (IV _)
      |some p =>
       dsimp only
       by_cases e:p0=p
       ·rw[WF (e0.trans e),Au ⟨by simp,e⟩,Au ⟨ho,e⟩,AN];rfl
       ·rw[Pi (fun h=>e (e0.symm.trans h)),Al (fun h=>e h.2),Al (fun h=>e h.2)]
theorem T8(roots:List Rq)(dec:List Cd):GW roots dec=match K2 (H8 roots dec) (AO dec)with
  |none=>(mt,[])
  |some p=>(p,(DE roots dec).filter fun n=>decide (n.rq.path=p)):=by
 unfold GW K2;rw[Nk dec _ (mt,[]) (fun h=>absurd rfl h),Au rfl,Ni];cases DF (AO dec) (H8 roots dec) none with
 |none=>rfl
 |some p=>dsimp only;rw[Al (by simp)];rfl
theorem T9{roots:List Rq}{dec:List Cd}:(GW roots dec).2=[]↔K2 (H8 roots dec) (AO dec)=none:=by
 rw[T8];cases h:K2 (H8 roots dec) (AO dec)with
 |none=>simp
 |some p =>
  simp only[reduceCtorEq,iff_false];obtain⟨_,q,hq,e⟩:=Ua h;rw[←Ni]at hq;obtain⟨n,hn,rfl⟩:=Ao.1 hq;exact List.ne_nil_of_mem (Bu.2 ⟨hn,by simpa using e⟩)
structure qa(roots:List Rq)(dec:List Cd)(p:ByteArray)(l:List Nd):Prop where
 next:K2 (H8 roots dec) (AO dec)=some p
 undone:Du dec p=false
 mem:∀n,n∈l↔n∈DE roots dec∧n.rq.path=p
theorem Ow{roots:List Rq}{dec:List Cd}{n0:Nd}{l:List Nd}(h:(GW roots dec).2=n0::l):qa roots dec (GW roots dec).1 (n0::l):=by
 rw[←h];rw[T8]at *
 cases hp:K2 (H8 roots dec) (AO dec)with
 |none=>rw[hp]at h;cases h
 |some p =>
  dsimp only;refine⟨hp,by rw[←F9];exact(Ua hp).1,fun n=>?_⟩;rw[Bu];simp
theorem Lj{x:List Rl}{p:ByteArray}{c:Cd}:c∈Cw x p↔∃r∈x,r.path=p∧r.yanked=false∧c=⟨plc r.ver,r⟩:=by
 unfold Cw;simp only[Ao,Bu,Ai,Ay,C3];constructor
 ·rintro⟨r,⟨h1,h2,h3⟩,rfl⟩;exact⟨r,h1,h2,h3,rfl⟩
 ·rintro⟨r,h1,h2,h3,rfl⟩;exact⟨r,⟨h1,h2,h3⟩,rfl⟩
theorem Nr{i:Nf}:∀{l:List Nf} {k m:Nat},L7 i k l=some m→∃j,m=k+j∧l[j]?=some i
 | [],_,_,h=>by cases h
 |y::l,k,m,h=>by
  unfold L7 at h;split at h
  ·rename_i e;cases h;exact⟨0,rfl,by rw[←e];rfl⟩
  ·obtain⟨j,h1,h2⟩:=Nr h;exact⟨j+1,by omega,h2⟩
theorem QO{i:Nf}:∀{l:List Nf} {k:Nat},L7 i k l=none→i∉l
 | [],_,_=>by simp
 |y::l,k,h=>by
  unfold L7 at h;split at h
  ·cases h
  ·rename_i e
   have:=QO h
   simp only[AC,not_or];exact⟨fun e'=>e e'.symm,this⟩
theorem RL{α:Type}{d d' : List α}{i:Int}{a:α}(h:JP d i=some a)(hp:d <+: d'):JP d' i=some a:=by
 unfold JP at *
 split at h
 ·cases h
 ·rename_i hi;rw[Al hi];obtain⟨t,rfl⟩:=hp;rw[A3 (Aw.1 h).1];exact h
theorem Ys{x:List Rl}{roots:List Rq}{d d' : List (List Tm)}{i:Nf}{o:List Tm}(h:D1 x roots d i=some o)(hp:d <+: d'):D1 x roots d' i=some o:=by
 unfold D1 at *
 split
 ·rename_i e;rw[Au e]at h;exact h
 rename_i e0;rw[Al e0]at h;split
 ·rename_i e;rw[Au e]at h;exact h
 rename_i e1;rw[Al e1]at h;split
 ·rename_i e;rw[Au e]at h;exact h
 rename_i e2;rw[Al e2]at h;split
 ·rename_i e;rw[Au e]at h;split
  ·rename_i e4;rw[Au e4]at h;cases ha:JP d i.left with
   |none=>rw[ha]at h;cases h
   |some a =>
    cases hb:JP d i.right with
    |none=>rw[ha,hb]at h;cases h
    |some b =>
     rw[ha,hb]at h;rw[RL ha hp,RL hb hp];exact h
  ·rename_i e4;rw[Al e4]at h;cases h
 ·rename_i e;rw[Al e]at h;cases h
structure FD(x:List Rl)(roots:List Rq)(s:SS):Prop where
 der:Dt x roots s.infs []=some s.drv
 len:s.infs.length≤65536
theorem FD.dlen{x:List Rl}{roots:List Rq}{s:SS}(h:FD x roots s):s.drv.length=s.infs.length:=by simpa using Jk h.der
theorem FD.nil(x:List Rl)(roots:List Rq):FD x roots uN:=⟨rfl,by simp⟩
theorem FD.at{x:List Rl}{roots:List Rq}{s:SS}(h:FD x roots s){k:Nat}{i:Nf}(hk:s.infs[k]?=some i):D1 x roots s.drv i=some (s.drv.getD k []):=by
 have h1:=NG h.der (k+1);have h0:=NG h.der k;have DH:=(Aw.1 hk).1;rw[BA,hk,He,h0]at h1;have h1:Dt x roots [i] (s.drv.take k)=some (s.drv.take (k+1)):=h1;unfold Dt at h1;cases hi:D1 x roots (s.drv.take k) i with
 |none=>rw[hi]at h1;cases h1
 |some t =>
  rw[hi]at h1;have h1:some (s.drv.take k++[t])=some (s.drv.take (k+1)):=h1;have hd:k<s.drv.length:=by rw[h.dlen];exact DH
  have:t=s.drv[k]:=by
   have h2:=Bv h1;rw[KF hd]at h2;exact List.singleton_inj.1 (List.append_cancel_left h2)
  rw[Ys hi (List.take_prefix ..),this];simp[List.getD_eq_getElem?_getD,hd]
structure Grow(s s' : SS):Prop where
 pre:s.drv <+: s'.drv
 preI:s.infs <+: s'.infs
 full:s.full=true→s'.full=true
theorem Grow.refl(s:SS):Grow s s:=⟨Nu,Nu,id⟩
theorem Grow.trans{a b c:SS}(h:Grow a b)(k:Grow b c):Grow a c:=⟨h.pre.trans k.pre,h.preI.trans k.preI,fun e=>k.full (h.full e)⟩
theorem Grow.at{s s' : SS}(h:Grow s s'){k:Nat}(hk:k<s.drv.length):DV s' k=DV s k:=by
 obtain⟨t,e⟩:=h.pre;unfold DV;rw[←e,BX,BX,A3 hk]
theorem Grow.len{s s' : SS}(h:Grow s s'):s.drv.length≤s'.drv.length:=h.pre.length_le
theorem KM(s:SS)(i:Nf)(l:List Tm):Grow s (Em s i l).2:=by
 unfold Em;split
 ·exact .refl s
 ·split
  ·exact⟨Nu,Nu,fun _=>rfl⟩
  ·exact⟨ON ..,ON ..,id⟩
theorem KL{x:List Rl}{roots:List Rq}{s:SS}(h:FD x roots s){i:Nf}{l:List Tm}(hi:D1 x roots s.drv i=some l) :
  FD x roots (Em s i l).2∧(Em s i l).1<(Em s i l).2.drv.length∧((Em s i l).2.full=false→DV (Em s i l).2 (Em s i l).1=l):=by
 have hdl:=h.dlen;unfold Em;split
 ·rename_i k hk;obtain⟨j,e,hj⟩:=Nr hk
  have:k=j:=by omega
  subst this;have DH:=(Aw.1 hj).1;refine⟨h,by show k<s.drv.length;omega,fun _=>?_⟩
  have:=h.at hj
  rw[hi]at this;exact(Bv this).symm
 ·rename_i hk;split
  ·rename_i hf;exact⟨⟨h.der,h.len⟩,by show s.infs.length-1<s.drv.length;omega,fun e=>by cases e⟩
  ·rename_i hf;refine⟨⟨?_,by show(s.infs++[i]).length≤65536;rw[Ad];simp;omega⟩,by show s.infs.length<(s.drv++[l]).length;rw[Ad];simp;omega,fun _=>?_⟩
   ·show Dt x roots (s.infs++[i]) []=some (s.drv++[l]);rw[He,h.der];show Dt x roots [i] s.drv=_;unfold Dt;rw[hi];rfl
   ·show(s.drv++[l]).getD s.infs.length []=l;rw[←hdl];simp[List.getD_eq_getElem?_getD]
theorem Ti(S:List Sl):∀{l:List (List Tm)} {i k:Nat},Pb S i l=some k→∃j,k=i+j∧∃t,l[j]?=some t∧CP t S=true
 | [],_,_,h=>by cases h
 |t::l,i,k,h=>by
  unfold Pb at h;split at h
  ·rename_i e;cases h;exact⟨0,rfl,t,rfl,e⟩
  ·obtain⟨j,h1,t',h2,h3⟩:=Ti S h;exact⟨j+1,by omega,t',h2,h3⟩
theorem KR{d:List (List Tm)}{S:List Sl}{k:Nat}(h:Pc d S=some k):k<d.length∧CP (d.getD k []) S=true:=by
 obtain⟨j,h1,t,h2,h3⟩:=Ti S h
 have:k=j:=by omega
 subst this;refine⟨(Aw.1 h2).1,?_⟩;rw[BX,h2];exact h3
theorem Mi:∀{l:List Rq} {b:Option ByteArray},Ed b l=0→∀q∈l,q.set≠[]∧EQ q.set
 | [],_,_,q,hq=>by cases hq
 |r::l,b,h,q,hq=>by
  unfold Ed at h;split at h
  ·rename_i e;rcases AC.1 hq with rfl | hq
   ·unfold Gb at e
    by_cases h1:(Bh q.path).isNone=true
    ·rw[Au h1]at e;exact absurd e (by decide)
    rw[Al h1]at e;cases hE:q.set.isEmpty with
    |true=>rw[hE]at e;simp at e
    |false =>
     cases hD:decide (q.set=canon q.set)with
     |false=>rw[hD]at e;simp at e
     |true =>
      have h3:q.set=canon q.set:=BC hD;exact⟨by simpa using hE,by rw[h3];exact Cs _⟩
   ·exact Mi h q hq
  ·rename_i e;exact absurd h e
theorem Ll{l:List Rq}(h:Bx l=0):∀q∈l,q.set≠[]∧EQ q.set:=by
 unfold Bx at h;split at h
 ·cases h
 ·exact Mi h
abbrev PZ(k:Int):Ver:=⟨0,k / 1000,k % 1000⟩
theorem Hr(k:Int):place (PZ k)=k:=by unfold place;show 1000*(k / 1000)+k % 1000=k;omega
theorem Fd{k:Int}(h:0≤k∧k<1000000):Cy (PZ k)=true:=by
 unfold Cy okPart;simp only[Ai];exact⟨⟨At (by omega),At (by omega)⟩,At (by omega)⟩
structure Xv(D:List Sl)(p:ByteArray)(S:List Sl):Prop where
 val:Gm S
 same:∀q,q≠p→Ck S q=Ck D q
abbrev Kz(D:List Sl)(p:ByteArray)(v:Ver):List Sl:=D++[⟨p,v⟩]
theorem Kq(a b:List Sl)(p:ByteArray):Ck (a++b) p=(Ck a p).or (Ck b p):=by
 unfold Ck;rw[List.find?_append]
theorem HU{s:List Sl}{p:ByteArray}(h:CT s p=false):Ck s p=none:=by
 rw[Kc]at h;cases e:Ck s p with
 |none=>rfl
 |some y=>rw[e]at h;cases h
theorem Xv.self{D:List Sl}{p:ByteArray}(h:Gm D):Xv D p D:=⟨h,fun _ _=>rfl⟩
theorem Xv.ver{D:List Sl}{p:ByteArray}(h:Gm D){v:Ver}(hv:Cy v=true):Xv D p (Kz D p v):=by
 refine⟨fun y hy=>?_,fun q hq=>?_⟩
 ·rcases Ba.1 hy with hy | hy
  ·exact h y hy
  ·rw[As.1 hy];exact hv
 ·rw[Kq]
  have:Ck [(⟨p,v⟩:Sl)] q=none:=by unfold Ck;simp[Ne.symm hq]
  rw[this,Option.or_none]
theorem IC{D:List Sl}{p:ByteArray}(hp:CT D p=false)(v:Ver):Ck (Kz D p v) p=some ⟨p,v⟩:=by
 rw[Kq,HU hp];unfold Ck;simp
theorem RB{D:List Sl}{p:ByteArray}(hp:CT D p=false){v v' : Ver}(hv:Cy v=true)(ur : Cy v'=true)(e:place v=place v')(q:ByteArray)(t:Tm) :
  Dy t (Ck (Kz D p v) q)=Dy t (Ck (Kz D p v') q):=by
 by_cases hq:q=p
 ·subst hq;rw[IC hp,IC hp];show(Cy v&&has t.set (place v))=(Cy v'&&has t.set (place v'));rw[hv,ur,e]
 ·have h1:∀w:Ver,Ck (Kz D p w) q=Ck D q:=fun w=>by
   rw[Kq]
   have:Ck [(⟨p,w⟩:Sl)] q=none:=by unfold Ck;simp[Ne.symm hq]
   rw[this,Option.or_none]
  rw[h1,h1]
theorem aO{D:List Sl}{p:ByteArray}(hp:CT D p=false){v v' : Ver}(hv:Cy v=true)(ur : Cy v'=true)(e:place v=place v')(t:List Tm):Bm t (Kz D p v)=Bm t (Kz D p v'):=by
 rw[BZ,BK,BK];exact⟨fun h u hu=>by rw[←RB hp hv ur e];exact h u hu,fun h u hu=>by rw[RB hp hv ur e];exact h u hu⟩
theorem Ld{D S S' : List Sl}{p:ByteArray}(h:Xv D p S)(h' : Xv D p S'){t:List Tm}(ht:∀u∈t,u.path≠p):Bm t S=Bm t S':=by
 rw[BZ,BK,BK];exact⟨fun k u hu=>by rw[h'.same _ (ht u hu),←h.same _ (ht u hu)];exact k u hu,fun k u hu=>by rw[h.same _ (ht u hu),←h'.same _ (ht u hu)];exact k u hu⟩
theorem J8{t:List Tm}{p:ByteArray}(h:Dm t p=false):∀u∈t,u.path≠p:=fun u hu e=>by
 unfold Dm at h;rw[FE]at h;exact h u hu (by simpa using e)
theorem Td{t:List Tm}{p:ByteArray}(h:Dm t p=true):∃u∈t,u.path=p:=by
 unfold Dm at h;rw[A8]at h;obtain⟨u,hu,e⟩:=h;exact⟨u,hu,by simpa using e⟩
theorem UA{t:List Tm}{p:ByteArray}(hf:Lh t)(hc:Dm t p=true):∃u r,FC t p=some (u,r)∧u.path=p∧∀v∈r,v.path≠p:=by
 obtain⟨u,hu,e⟩:=Td hc;have hs:=E1 hf;have oY:=(FV hs).1 hu;rw[e]at oY;refine⟨u,F1 t p,?_,e,fun v hv=>?_⟩
 ·unfold FC;rw[show CZ t=some t from hf];dsimp only;rw[oY]
 ·have:=(Bu.1 hv).2
  simpa using this
theorem Xb{D:List Sl}{p:ByteArray}{t b:List Tm}(gQ:Lh t)(oX:Lh b)(hct:Dm t p=true)(wH:Dm b p=true){S1 S2:List Sl}(h1:Xv D p S1)(v1:Bm t S1=true)(h2:Xv D p S2)(v2:Bm b S2=true) :
  (BF t b p).2=0∧∀S,Xv D p S→Bm t S=true∨Bm b S=true→Bm (BF t b p).1 S=true:=by
 obtain⟨u,r,e1,pu,nr⟩:=UA gQ hct;obtain⟨w,m,e2,pw,nm⟩:=UA oX wH;have key:∀S,Xv D p S→Bm t S=true∨Bm b S=true→Bm (r++m++[Dw u w]) S=true:=fun S hS hv=>by
  have r1:Bm r S=true:=by
   rw[Ld hS h1 nr];rw[(F0 h1.val e1).1,Ai]at v1;exact v1.2
  have m1:Bm m S=true:=by
   rw[Ld hS h2 nm];rw[(F0 h2.val e2).1,Ai]at v2;exact v2.2
  rw[Hh,Hh,r1,m1];simp only[EP];rw[BK];intro y hy;rw[As.1 hy,show(Dw u w).path=p from pu,NN,CG];rcases hv with hv | hv
  ·rw[(F0 hS.val e1).1,Ai]at hv;exact .inl hv.1
  ·rw[(F0 hS.val e2).1,Ai]at hv;exact .inr hv.1
 unfold BF;rw[e1,e2];dsimp only;have c1:=Dj (l:=r++m++[Dw u w]) h1.val;rw[key S1 h1 (.inl v1)]at c1;cases hc:CZ (r++m++[Dw u w])with
 |none=>rw[hc]at c1;cases c1
 |some o =>
  dsimp only;refine⟨rfl,fun S hS hv=>?_⟩;have c2:=Dj (l:=r++m++[Dw u w]) hS.val;rw[hc,key S hS hv]at c2;exact c2.symm
theorem iX{D:List Sl}{p:ByteArray}(hp:CT D p=false){t:List Tm}(hf:Lh t)(h0:Bm t D=true)(hk:∀k:Int,0≤k→k<1000000→Bm t (Kz D p (PZ k))=true):Dm t p=false:=by
 rw[AD];intro hc;obtain⟨u,hu,e⟩:=Td hc;have ha:u.absent=true:=by
  have:=BK.1 h0 u hu
  rw[e,HU hp]at this;exact this
 have hs:∀k:Int,0≤k→k<1000000→has u.set k=true:=fun k k0 k1=>by
  have:=BK.1 (hk k k0 k1) u hu
  rw[e,IC hp]at this;unfold Dy at this;rw[Ai]at this
  have:=this.2
  rw[show(⟨p,PZ k⟩:Sl).ver=PZ k from rfl,Hr]at this;exact this
 have qk:EQ u.set:=Cm.canon (E1 hf) u hu;have gR:u.set=[(0,1000000)]:=by
  refine HQ qk ⟨by decide,by decide,by decide,trivial⟩ fun k=>?_;rw[BZ];constructor
  ·intro h
   have:=Mu h
   unfold has;simp[BR,this.1,this.2]
  ·intro h
   have:=Mu h
   exact hs k this.1 this.2
 have rP:GO u=true:=by unfold GO;rw[ha,gR];rfl
 have uf:CZ t=some t:=hf;unfold CZ at uf;split at uf
 ·cases uf
 ·have e2:=Bv uf;rw[←e2]at hu
  have:=(Bu.1 hu).2
  rw[rP]at this;cases this
structure ER(x:List Rl)(dec:List Cd):Prop where
 cand:∀c∈dec,c.rel∈x∧c.rel.yanked=false∧c.place=plc c.rel.ver
 nodup:(dec.map fun c=>c.rel.path).Nodup
theorem ER.nil(x:List Rl):ER x []:=⟨fun _ h=>(by cases h),Fs⟩
theorem Uh{r:Rl}(h:SM r):r.path≠mt:=fun e=>by
 have:=h.maj
 rw[e]at this;have h2:Bh mt=none:=by decide
 rw[h2]at this;cases this
theorem SM.set{r:Rl}(h:SM r):∀q∈r.reqs,q.set≠[]∧EQ q.set:=Ll h.reqs
theorem Oi(dec:List Cd):(AO dec).map (·.path)=dec.map fun c=>c.rel.path:=by unfold AO;rw[BU];rfl
theorem Ls:∀{D:List Sl},(D.map (·.path)).Nodup→∀{y:Sl},y∈D→Ck D y.path=some y
 | [],_,y,h=>by cases h
 |z::D,hn,y,h=>by
  simp only[AQ,CI]at hn;unfold Ck;rw[FK];rcases AC.1 h with rfl | h
  ·rw[At rfl]
  ·have:z.path≠y.path:=fun e=>hn.1 (Ao.2 ⟨y,h,e.symm⟩)
   rw[Aj this];exact Ls hn.2 h
theorem ER.find{x:List Rl}{dec:List Cd}(h:ER x dec){c:Cd}(hc:c∈dec):Ck (AO dec) c.rel.path=some (TY c) :=
 Ls (by rw[Oi];exact h.nodup) (y:=TY c) (Ao.2 ⟨c,hc,rfl⟩)
theorem ER.valid{x:List Rl}(hx:A6 x=0){dec:List Cd}(h:ER x dec):Gm (AO dec):=fun y hy=>by
 obtain⟨c,hc,rfl⟩:=Ao.1 hy;exact((CO hx).1 _ (h.cand c hc).1).val
theorem ER.snoc{x:List Rl}{dec:List Cd}(h:ER x dec){c:Cd}(hc:c.rel∈x∧c.rel.yanked=false∧c.place=plc c.rel.ver)(hd:Du dec c.rel.path=false):ER x (dec++[c]):=by
 refine⟨fun d hd=>?_,?_⟩
 ·rcases Ba.1 hd with hd | hd
  ·exact h.cand d hd
  ·rw[As.1 hd];exact hc
 ·rw[AG,Gy];refine⟨h.nodup,by simp,fun a ha b hb e=>?_⟩;obtain⟨d,lz,rfl⟩:=Ao.1 ha;simp only[AQ,Fk,As]at hb;unfold Du at hd;rw[FE]at hd;exact hd d lz (by simpa using e.trans hb)
theorem MI{roots:List Rq}{E:List Cd}{n:Nd}(h:n∈DE roots E):(∃k q,roots[k]?=some q∧n=⟨q,mt,0,(k:Nat)⟩)∨∃c∈E,∃k q,c.rel.reqs[k]?=some q∧n=⟨q,c.rel.path,c.place,(k:Nat)⟩:=by
 unfold DE at h;rcases Ba.1 h with h | h
 ·obtain⟨k,q,h1,h2⟩:=YN h;exact .inl ⟨k,q,h1,h2⟩
 ·obtain⟨l,hl,hn⟩:=EC.1 h;obtain⟨c,hc,rfl⟩:=Ao.1 hl;obtain⟨k,q,h1,h2⟩:=YN hn;exact .inr ⟨c,hc,k,q,h1,h2⟩
theorem Ot{roots:List Rq}{dec:List Cd}{c:Cd}{n:Nd}(h:n∈DE roots dec):n∈DE roots (dec++[c]):=by
 unfold DE at *
 rw[AG,CU,←AN];exact Bz _ h
theorem Nj{roots:List Rq}{dec:List Cd}{c:Cd}{n:Nd}(h:n∈QR c):n∈DE roots (dec++[c]):=by
 unfold DE;rw[AG,CU,←AN];exact Bq _ (by simpa using h)
def NA(n:Nd):List Tm:=if n.path=mt then [DQ n.rq]else [⟨n.path,false,[(n.place,n.place+1)]⟩,DQ n.rq]
theorem Px(n:Nd):Jo n=QM (NA n):=by unfold Jo NA JS Ev;split<;>rfl
theorem bV{s:Bc}(h:s≠[])(hc:EQ s):∃k,has s k=true:=by
 match s,h,hc with
 |x::r,_,hc =>
  have:=EV.low hc x (Ac ..)
  refine⟨x.1,?_⟩;unfold has;have h1:BR x.1 x=true:=DU.2 ⟨AZ _,this.2.1⟩;simp only[Cc,h1,Bool.true_or,RV,Ai,Ay];omega
theorem RM{q:Rq}{o:Option Sl}(h:o=none∨∃y,o=some y∧Cy y.ver=true∧has q.set (place y.ver)=false):Dy (DQ q) o=true:=by
 rcases h with rfl | ⟨y,rfl,hv,hq⟩
 ·rfl
 ·show(Cy y.ver&&has (En q.set) (place y.ver))=true
  have:=JR hv
  rw[hv,FW,hq];unfold L5;simp[this.1,this.2]
theorem Uf{q:Rq}{y:Sl}(hq:has q.set (place y.ver)=true):Dy (DQ q) (some y)=false:=by
 show(Cy y.ver&&has (En q.set) (place y.ver))=false;rw[FW,hq];simp
structure qL(x:List Rl)(roots:List Rq)(S:List Sl)(n:Nd):Prop where
 inf:∀d,D1 x roots d (TT n)=some (Jo n)
 viol:Bm (Jo n) S=true
 raw:∀S',Gm S'→Bm (Jo n) S'=Bm (NA n) S'
 form:Lh (Jo n)
 inU:∀U:List ByteArray,(n.path≠mt→n.path∈U)→n.rq.path∈U→U7 U (Jo n)
 path:n.path≠mt→CT S n.path=true
theorem Sq{x:List Rl}{roots:List Rq}(hx:A6 x=0)(hr:Bx roots=0){E:List Cd}(hE:ER x E){n:Nd}(hn:n∈DE roots E)
  (hv:Ck (AO E) n.rq.path=none∨∃y,Ck (AO E) n.rq.path=some y∧has n.rq.set (place y.ver)=false):qL x roots (AO E) n:=by
 have hV:=hE.valid hx;have ib:Dy (DQ n.rq) (Ck (AO E) n.rq.path)=true:=RM (hv.imp id fun⟨y,h1,h2⟩=>⟨y,h1,hV y (JD h1),h2⟩)
 -- the raw list is Bm here,and not elsewhere
 have Oe:n.rq.set≠[]∧EQ n.rq.set:=by
  rcases MI hn with ⟨k,q,h1,rfl⟩ | ⟨c,hc,k,q,h1,rfl⟩
  ·exact Ll hr q (Ax h1)
  ·exact((CO hx).1 _ (hE.cand c hc).1).set q (Ax h1)
 have WT:Bm (NA n) (AO E)=true∧(n.path≠mt→CT (AO E) n.path=true):=by
  rcases MI hn with ⟨k,q,h1,rfl⟩ | ⟨c,hc,k,q,h1,rfl⟩
  ·refine⟨?_,fun h=>absurd rfl h⟩;unfold NA;rw[Au rfl,BK];intro u hu;rw[As.1 hu];exact ib
  ·have DM:=Uh ((CO hx).1 _ (hE.cand c hc).1);refine⟨?_,fun _=>by rw[Kc,hE.find hc];rfl⟩;unfold NA;rw[Al DM,BK];intro u hu;rcases AC.1 hu with rfl | hu
   ·show Dy _ (Ck (AO E) c.rel.path)=true;rw[hE.find hc];show(Cy c.rel.ver&&has [(c.place,c.place+1)] (place c.rel.ver))=true;have GR:=(CO hx).1 _ (hE.cand c hc).1;have hp:=JR GR.val;rw[GR.val,(hE.cand c hc).2.2,GR.plc];unfold has;simp[BR,hp.1,hp.2];omega
   ·rw[As.1 hu];exact ib
 have w7:∃S',Gm S'∧Bm (NA n) S'=false:=by
  unfold NA;split
  ·obtain⟨k,hk⟩:=bV Oe.1 Oe.2;have Zc:=Mu hk;refine⟨[⟨n.rq.path,PZ k⟩],fun y hy=>by rw[As.1 hy];exact Fd Zc,?_⟩;rw[AD];intro h
   have:=BK.1 h (DQ n.rq) (As.2 rfl)
   rw[show(DQ n.rq).path=n.rq.path from rfl,show Ck [(⟨n.rq.path,PZ k⟩:Sl)] n.rq.path=some ⟨n.rq.path,PZ k⟩ by unfold Ck;simp,Uf (by rw[show(⟨n.rq.path,PZ k⟩:Sl).ver=PZ k from rfl,Hr];exact hk)]at this;cases this
  ·refine⟨[],fun y hy=>(by cases hy),?_⟩;rw[AD];intro h
   have:=BK.1 h _ (Ac ..)
   cases this
 obtain⟨WT,sw⟩:=WT;have DM:QM (NA n)≠[]:=by
  obtain⟨S',v',n'⟩:=w7;have c1:=Dj (l:=NA n) hV;have c2:=Dj (l:=NA n) v';unfold QM;cases hc:CZ (NA n)with
  |none=>rw[hc,WT]at c1;cases c1
  |some c =>
   rw[hc,n']at c2;intro e;have e:c=[]:=e;rw[e]at c2;cases c2
 have nq:∀S',Gm S'→Bm (Jo n) S'=Bm (NA n) S':=fun S' v=>by rw[Px];exact QN v DM
 refine⟨fun d=>?_,by rw[nq _ hV];exact WT,nq,by rw[Px];exact MK _,fun U h1 h2=>?_,sw⟩
 ·rcases MI hn with ⟨k,q,h1,rfl⟩ | ⟨c,hc,k,q,h1,rfl⟩
  ·show D1 x roots d (if(mt:ByteArray)=mt then⟨0,mt,0,(k:Nat),0,0⟩else _)=some (if(mt:ByteArray)=mt then JS q else _);rw[Au rfl,Au rfl];show(if mt=mt∧(0:Int)=0∧(0:Int)=0∧(0:Int)=0 then(JP roots (k:Nat)).map JS else none)=some (JS q);rw[Au ⟨rfl,rfl,rfl,rfl⟩];unfold JP;rw[Al (by omega),Bl,h1];rfl
  ·have GR:=(CO hx).1 _ (hE.cand c hc).1;have UE:=Uh GR;have xj:PM x c.rel.path c.place=some c.rel:=by
    unfold PM;cases hf:x.find? fun r=>decide (r.path=c.rel.path)&&decide (plc r.ver=c.place)with
    |none =>
     rw[D2]at hf;exact absurd (by simp[(hE.cand c hc).2.2]) (hf c.rel (hE.cand c hc).1)
    |some r =>
     have h2:=E0 hf;simp only[Ai,Ay]at h2;have ig:=Cu hf;have xb:=(CO hx).1 r ig;rw[bS (CO hx) ig (hE.cand c hc).1 h2.1 (by rw[←xb.plc,h2.2,(hE.cand c hc).2.2,GR.plc])]
   have e1:TT ⟨q,c.rel.path,c.place,(k:Nat)⟩=⟨1,c.rel.path,c.place,(k:Nat),0,0⟩:=by unfold TT;rw[Al UE]
   have e2:Jo ⟨q,c.rel.path,c.place,(k:Nat)⟩=Ev c.rel.path c.place q:=by unfold Jo;rw[Al UE]
   rw[e1,e2];unfold D1;rw[Al (show ¬((1:Int)=0) by decide),Au rfl,Au ⟨rfl,rfl⟩];dsimp only;rw[xj];dsimp only;unfold JP;rw[Al (by omega),Bl,h1];dsimp only;unfold dA;rw[Al];rw[F7,←e2,Px];exact DM
 ·rw[Px];refine Ue fun u hu=>?_;unfold NA at hu;split at hu
  ·rw[As.1 hu];exact h2
  ·rename_i hm;rcases AC.1 hu with rfl | hu
   ·exact h1 hm
   ·rw[As.1 hu];exact h2
structure kD(D:List Sl)(U:List ByteArray)(p:ByteArray)(t:List Tm)(C:Int→Prop):Prop where
 form:Lh t
 inU:U7 U t
 conc:Dm t p=true
 one:∃S,Xv D p S∧Bm t S=true
 cov:∀k:Int,0≤k→k<1000000→C k→Bm t (Kz D p (PZ k))=true
structure nK(D:List Sl)(U:List ByteArray)(p:ByteArray)(t:List Tm)(C:Int→Prop):Prop where
 form:Lh t
 inU:U7 U t
 none_:Bm t D=true
 cov:∀k:Int,0≤k→k<1000000→C k→Bm t (Kz D p (PZ k))=true
theorem FD.forms{x:List Rl}{roots:List Rq}{s:SS}(h:FD x roots s):∀k,Lh (DV s k):=fun k=>by
 unfold DV;rw[BX];cases e:s.drv[k]? with
 |none=>exact Po
 |some t=>exact NF (fun _ h=>by cases h) h.der t (Ax e)
theorem VF{x:List Rl}{roots:List Rq}{d:List (List Tm)}{k r:Nat}{p:ByteArray}(hk:k<d.length)(hr:r<d.length)(h0:(BF (d.getD k []) (d.getD r []) p).2=0) :
  D1 x roots d ⟨3,p,0,0,(k:Nat),(r:Nat)⟩=some (BF (d.getD k []) (d.getD r []) p).1:=by
 have e:∀j:Nat,j<d.length→JP d (j:Nat)=some (d.getD j []):=fun j hj=>by
  unfold JP;rw[Al (by omega),Bl,BX,AB hj];rfl
 unfold D1;rw[Al (show ¬((3:Int)=0) by decide),Al (show ¬((3:Int)=1) by decide),Al (show ¬((3:Int)=2) by decide),Au rfl,Au ⟨rfl,rfl⟩];dsimp only;rw[e k hk,e r hr];dsimp only;rw[Au h0]
theorem Oj{x:List Rl}{roots:List Rq}{D:List Sl}{U:List ByteArray}{p:ByteArray}(hD:Gm D):∀(l:List (Nat×(Int→Prop))) {k:Nat} {s:SS} {C:Int→Prop},FD x roots s→k<s.drv.length→(∀y∈l,y.1<s.drv.length) →
  (s.full=false→nK D U p (DV s k) C∧∀y∈l,kD D U p (DV s y.1) y.2) →
  FD x roots (Cp p (l.map (·.1)) k s).2∧Grow s (Cp p (l.map (·.1)) k s).2∧(Cp p (l.map (·.1)) k s).1<(Cp p (l.map (·.1)) k s).2.drv.length ∧
  ((Cp p (l.map (·.1)) k s).2.full=false→∃C',nK D U p (DV (Cp p (l.map (·.1)) k s).2 (Cp p (l.map (·.1)) k s).1) C' ∧
   (Dm (DV (Cp p (l.map (·.1)) k s).2 (Cp p (l.map (·.1)) k s).1) p=false∨∀j,C j∨(∃y∈l,y.2 j)→C' j))
 | [],k,s,C,hd,hk,_,hA=>⟨hd,.refl s,hk,fun hf=>⟨C,(hA hf).1,.inr fun j hj=>hj.elim id fun⟨y,hy,_⟩=>(by cases hy)⟩⟩
 |y::l,k,s,C,hd,hk,hl,hA=>by
  rw[AQ]
  by_cases h1:s.full=true∨Dm (DV s k) p=false
  ·have e:Cp p (y.1::l.map (·.1)) k s=(k,s):=by unfold Cp;rw[Au h1]
   rw[e];refine⟨hd,.refl s,hk,fun hf=>⟨C,(hA hf).1,.inl (h1.resolve_left fun e=>?_)⟩⟩;have hf:s.full=false:=hf;rw[e]at hf;cases hf
  simp only[not_or,Bool.not_eq_true,Bool.not_eq_false]at h1;obtain⟨hf,OH⟩:=h1;obtain⟨Zb,lp⟩:=hA hf;have hy:=lp y (Ac ..);have hi:¬(s.full=true∨Dm (DV s k) p=false):=by rw[hf,OH];simp
  by_cases h2:y.1=k
  ·have e:Cp p (y.1::l.map (·.1)) k s=Cp p (l.map (·.1)) k s:=by conv=>lhs;unfold Cp;rw[Al hi,Au h2]
   rw[e];have hA' : nK D U p (DV s k) fun j=>C j∨y.2 j:=⟨Zb.form,Zb.inU,Zb.none_,fun j j0 j1 hj=>hj.elim (Zb.cov j j0 j1) fun h=>by rw[←h2];exact hy.cov j j0 j1 h⟩;obtain⟨i1,i2,i3,i4⟩:=Oj hD l hd hk (fun z hz=>hl z (Ah _ hz)) (fun _=>⟨hA',fun z hz=>lp z (Ah _ hz)⟩);refine⟨i1,i2,i3,fun hf=>?_⟩;obtain⟨C',j1,j2⟩:=i4 hf;refine⟨C',j1,j2.imp id fun h j hj=>h j ?_⟩;rcases hj with hj | ⟨z,hz,hj⟩
   ·exact .inl (.inl hj)
   ·rcases AC.1 hz with rfl | hz
    ·exact .inl (.inr hj)
    ·exact .inr ⟨z,hz,hj⟩
  ·obtain⟨S2,o2,v2⟩:=hy.one;obtain⟨r1,r2⟩:=Xb Zb.form hy.form OH hy.conc (.self hD) Zb.none_ o2 v2;have e:Cp p (y.1::l.map (·.1)) k s=Cp p (l.map (·.1)) (Em s ⟨3,p,0,0,k,y.1⟩ (BF (DV s k) (DV s y.1) p).1).1 (Em s ⟨3,p,0,0,k,y.1⟩ (BF (DV s k) (DV s y.1) p).1).2:=by
    conv=>lhs;unfold Cp;rw[Al hi,Al h2,Al (fun h=>h r1)]
   rw[e];have hy1:=hl y (Ac ..);obtain⟨a1,a2,a3⟩:=KL hd (VF (x:=x) (roots:=roots) hk hy1 r1);have hg:=KM s ⟨3,p,0,0,(k:Nat),(y.1:Nat)⟩ (BF (DV s k) (DV s y.1) p).1;generalize Xo : Em s ⟨3,p,0,0,(k:Nat),(y.1:Nat)⟩ (BF (DV s k) (DV s y.1) p).1=s' at *
   have a3:s'.2.full=false→DV s'.2 s'.1=(BF (DV s k) (DV s y.1) p).1:=a3;obtain⟨i1,i2,i3,i4⟩:=Oj hD (C:=fun j=>C j∨y.2 j) l a1 a2 (fun z hz=>BQ (hl z (Ah _ hz)) hg.len) (fun fh=>by
    refine⟨?_,fun z hz=>by rw[hg.at (hl z (Ah _ hz))];exact lp z (Ah _ hz)⟩;rw[a3 fh];exact⟨NX _ _ _,RP Zb.inU hy.inU,r2 D (.self hD) (.inl Zb.none_),fun j j0 j1 hj=>r2 _ (.ver hD (Fd ⟨j0,j1⟩)) (hj.imp (Zb.cov j j0 j1) (hy.cov j j0 j1))⟩)
   refine⟨i1,hg.trans i2,i3,fun hf=>?_⟩;obtain⟨C',j1,j2⟩:=i4 hf;refine⟨C',j1,j2.imp id fun h j hj=>h j ?_⟩;rcases hj with hj | ⟨z,hz,hj⟩
   ·exact .inl (.inl hj)
   ·rcases AC.1 hz with rfl | hz
    ·exact .inl (.inr hj)
    ·exact .inr ⟨z,hz,hj⟩
def I9(roots:List Rq)(dec:List Cd):Prop:=∀q∈H8 roots dec,∀d∈dec,d.rel.path=q.path→has q.set d.place=true
theorem I9.nil(roots:List Rq):I9 roots []:=fun _ _ d h=>by cases h
theorem aG(roots:List Rq)(dec:List Cd)(c:Cd):H8 roots (dec++[c])=H8 roots dec++c.rel.reqs:=by
 unfold H8;rw[AG,CU,AN];simp
theorem my(c:Cd):(QR c).map (·.rq)=c.rel.reqs:=Sz (fun _ _=>rfl) _ _
theorem ZA{dec:List Cd}{c:Cd}(h:Ej dec c=none):∀q∈c.rel.reqs,∀d∈dec++[c],d.rel.path=q.path→has q.set d.place=true:=fun q hq d hd e=>by
 rw[←my]at hq;obtain⟨n,hn,rfl⟩:=Ao.1 hq;unfold Ej at h;rw[D2]at h
 have:=h n hn
 unfold bB at this;rw[Bool.not_eq_true,FE]at this
 have:=this d hd
 rw[e]at this;simpa using this
theorem Ln{dec:List Cd}{c:Cd}{n:Nd}(h:Ej dec c=some n):n∈QR c∧∃d∈dec++[c],d.rel.path=n.rq.path∧has n.rq.set d.place=false:=by
 unfold Ej at h;have h1:=E0 h;refine⟨Cu h,?_⟩;unfold bB at h1;rw[A8]at h1;obtain⟨d,hd,e⟩:=h1;simp only[Ai,Ay,C3]at e;exact⟨d,hd,e⟩
theorem I9.snoc{roots:List Rq}{dec:List Cd}(h:I9 roots dec){p:ByteArray}{needs:List Nd}(hN:qa roots dec p needs){c:Cd}(hc:c.rel.path=p)(hn:∀n∈needs,has n.rq.set c.place=true)(hk:Ej dec c=none):I9 roots (dec++[c]):=by
 intro q hq d hd e;rw[aG]at hq;rcases Ba.1 hq with hq | hq
 ·rcases Ba.1 hd with hd | hd
  ·exact h q hq d hd e
  ·rw[As.1 hd]at e⊢;rw[←Ni]at hq;obtain⟨n,Yj,rfl⟩:=Ao.1 hq;exact hn n ((hN.mem n).2 ⟨Yj,by rw[←e,hc]⟩)
 ·exact ZA hk q hq d hd e
def UX(y:Sl):List Sl→List Sl
 | []=>[y]
 |z::l=>if EJ y.path z.path then y::z::l else z::UX y l
def Gg:List Sl→List Sl
 | []=>[]
 |y::l=>UX y (Gg l)
theorem TU{y z:Sl}:∀{l:List Sl},z∈UX y l↔z=y∨z∈l
 | []=>by simp[UX]
 |u::l=>by
  unfold UX;split
  ·simp
  ·rw[AC,TU,AC];constructor
   ·rintro(h | h | h)
    ·exact .inr (.inl h)
    ·exact .inl h
    ·exact .inr (.inr h)
   ·rintro(h | h | h)
    ·exact .inr (.inl h)
    ·exact .inl h
    ·exact .inr (.inr h)
theorem IE{z:Sl}:∀{l:List Sl},z∈Gg l↔z∈l
 | []=>by simp[Gg]
 |u::l=>by unfold Gg;rw[TU,IE,AC]
theorem Yt{y:Sl}:∀{l:List Sl},Wj l→(∀z∈l,z.path≠y.path)→Wj (UX y l)
 | [],_,_=>by simp[UX,Wj]
 |u::l,h,hn=>by
  obtain⟨h1,h2⟩:=CD.1 h;unfold UX;split
  ·rename_i hb;refine CD.2 ⟨fun z hz=>?_,h⟩;rcases AC.1 hz with rfl | hz
   ·exact hb
   ·exact EK hb (h1 z hz)
  ·rename_i hb;refine CD.2 ⟨fun z hz=>?_,Yt h2 fun z hz=>hn z (Ah _ hz)⟩;rcases TU.1 hz with rfl | hz
   ·cases e:EJ u.path z.path with
    |true=>rfl
    |false =>
     have hb:EJ z.path u.path=false:=by simpa using hb
     exact absurd (HP e hb) (hn u (Ac ..))
   ·exact h1 z hz
theorem QY:∀{l:List Sl},(l.map (·.path)).Nodup→Wj (Gg l)
 | [],_=>List.Pairwise.nil
 |y::l,h=>by
  simp only[AQ,CI]at h;exact Yt (QY h.2) fun z hz e=>h.1 (Ao.2 ⟨z,IE.1 hz,e⟩)
theorem TQ:∀{l:List Sl} {b:Option ByteArray},Wj l→(∀c,b=some c→∀y∈l,EJ c y.path=true)→In b l=true
 | [],_,_,_=>by unfold In;rfl
 |y::l,b,h,hb=>by
  obtain⟨h1,h2⟩:=CD.1 h;unfold In;cases b with
  |none=>simpa using TQ h2 fun c e z hz=>by cases e;exact h1 z hz
  |some c =>
   have:=hb c rfl y (Ac ..)
   simp only[this,EP];exact TQ h2 fun c e z hz=>by cases e;exact h1 z hz
theorem pq{l:List Sl}(h:Wj l):Et l=true:=TQ h fun _ e=>by cases e
theorem Vu{x:List Rl}(hx:A6 x=0){r:Rl}(hr:r∈x):N8 x (Gf r)=some r:=by
 unfold N8;rw[Al (fun h=>h hx)];cases h:x.find? fun s=>decide (Gf s=Gf r)with
 |none =>
  rw[D2]at h;exact absurd (by simp) (h r hr)
 |some s =>
  have h1:=E0 h;simp only[Ay]at h1;rw[T0 (CO hx).2 (Cu h) hr h1]
theorem ER.sorted{x:List Rl}{dec:List Cd}(h:ER x dec):Wj (Gg (AO dec)):=QY (by rw[Oi];exact h.nodup)
theorem ER.findS{x:List Rl}{dec:List Cd}(h:ER x dec){c:Cd}(hc:c∈dec):Ck (Gg (AO dec)) c.rel.path=some (TY c) :=
 NK h.sorted (y:=TY c) (IE.2 (Ao.2 ⟨c,hc,rfl⟩))
theorem iC{x:List Rl}{roots:List Rq}(hx:A6 x=0){dec:List Cd}(h:ER x dec)(hs:I9 roots dec)(hl:K2 (H8 roots dec) (AO dec)=none):qb x roots (Gg (AO dec)):=by
 have Fm:∀q∈H8 roots dec,∃y,Ck (Gg (AO dec)) q.path=some y∧has q.set (place y.ver)=true:=fun q hq=>by
  have:=ap hl q hq
  rw[Lv]at this;obtain⟨y,hy,e⟩:=this;obtain⟨d,hd,rfl⟩:=Ao.1 hy;have e:d.rel.path=q.path:=e;refine⟨TY d,by rw[←e];exact h.findS hd,?_⟩;have h1:=hs q hq d hd e;have GR:=(CO hx).1 _ (h.cand d hd).1;rw[(h.cand d hd).2.2,GR.plc]at h1;exact h1
 refine⟨hx,pq h.sorted,fun y hy=>?_,fun q hq=>Fm q (Bz _ hq),fun y hy r hr q hq=>?_⟩
 ·obtain⟨d,hd,rfl⟩:=Ao.1 (IE.1 hy);exact⟨d.rel,Vu hx (h.cand d hd).1,(h.cand d hd).2.1⟩
 ·obtain⟨d,hd,rfl⟩:=Ao.1 (IE.1 hy)
  have:N8 x (TY d)=some d.rel:=Vu hx (h.cand d hd).1
  rw[this]at hr;cases hr;exact Fm q (Bq _ (EC.2 ⟨_,Ao.2 ⟨d,hd,rfl⟩,hq⟩))
def dL(dec:List Cd)(needs:List Nd)(c:Cd):Bool:=(needs.all fun n=>has n.rq.set c.place)&&(Ej dec c).isNone
def Ok(x:List Rl)(roots:List Rq):Nat→List Cd→List (List Cd)
 |0,_=>[]
 |n+1,dec=>match(GW roots dec).2 with
  | []=>[dec]
  |n0::l=>((Cw x (GW roots dec).1).map fun c=>if dL dec (n0::l) c then Ok x roots n (dec++[c])else []).flatten
structure Lf(x:List Rl)(roots:List Rq)(dec d:List Cd):Prop where
 pre:dec <+: d
 ok:ER x d
 sat:I9 roots d
 stop:K2 (H8 roots d) (AO d)=none
theorem J6{x:List Rl}{p:ByteArray}{c:Cd}(h:c∈Cw x p):c.rel.path=p∧(c.rel∈x∧c.rel.yanked=false∧c.place=plc c.rel.ver):=by
 obtain⟨r,h1,h2,h3,rfl⟩:=Lj.1 h;exact⟨h2,h1,h3,rfl⟩
theorem PK{dec:List Cd}{needs:List Nd}{c:Cd}:dL dec needs c=true↔(∀n∈needs,has n.rq.set c.place=true)∧Ej dec c=none:=by
 unfold dL;rw[Ai,AS,Option.isNone_iff_eq_none]
theorem VM{x:List Rl}{roots:List Rq}:∀{n:Nat} {dec:List Cd},ER x dec→I9 roots dec→∀d∈Ok x roots n dec,Lf x roots dec d
 |0,_,_,_,d,hd=>by cases hd
 |n+1,dec,h,hs,d,hd=>by
  unfold Ok at hd;split at hd
  ·rename_i e;rw[As.1 hd];exact⟨Nu,h,hs,T9.1 e⟩
  ·rename_i n0 l e;have hN:=Ow e;obtain⟨L,hL,hd⟩:=EC.1 hd;obtain⟨c,hc,rfl⟩:=Ao.1 hL;split at hd
   ·rename_i GR;obtain⟨h1,h2⟩:=PK.1 GR;obtain⟨c1,c2⟩:=J6 hc;have cZ:Du dec c.rel.path=false:=by rw[c1];exact hN.undone
    have:=VM (n:=n) (h.snoc c2 cZ) (hs.snoc hN c1 h1 h2) d hd
    exact⟨(ON _ _).trans this.pre,this.ok,this.sat,this.stop⟩
   ·cases hd
theorem Lf.sol{x:List Rl}{roots:List Rq}(hx:A6 x=0){dec d:List Cd}(h:Lf x roots dec d):qb x roots (Gg (AO d)):=iC hx h.ok h.sat h.stop
theorem ma{x:List Rl}{roots:List Rq}(hx:A6 x=0){s:SS}(hd:FD x roots s){k:Nat}(hk:k<s.drv.length){dec d:List Cd}(he:CP (DV s k) (AO dec)=true)(h:Lf x roots dec d):False:=by
 have hS:=h.sol hx;have hv:=WC (s:=Gg (AO d)) hS.inc (fun y hy=>IE.2 (by
  obtain⟨c,hc,rfl⟩:=Ao.1 hy;obtain⟨t,e⟩:=h.pre;exact Ao.2 ⟨c,by rw[←e];exact Bz _ hc,rfl⟩)) he
 have hn:=Ml hS (d:=[]) (fun _ h=>by cases h) hd.der (DV s k) (by
  unfold DV;rw[BX,AB hk];exact Ak hk)
 rw[hv]at hn;cases hn
theorem pv{x:List Rl}(h:A6 x=0):x.length≤256:=by
 unfold A6 at h;split at h
 ·cases h
 ·omega
theorem gK{l:List Rl}{k:Int}:(l.map fun r=>(plc r.ver,plc r.ver+1)).any (BR k)=true↔∃r∈l,plc r.ver=k:=by
 rw[A8];constructor
 ·rintro⟨y,hy,h⟩
  obtain⟨r,hr,rfl⟩:=Ao.1 hy
  have:=DU.1 h
  exact⟨r,hr,by have h1:=this.1;have h2:=this.2;dsimp only at h1 h2;omega⟩
 ·rintro⟨r,hr,rfl⟩
  exact⟨_,Ao.2 ⟨r,hr,rfl⟩,DU.2 ⟨AZ _,by dsimp only;omega⟩⟩
theorem Vg{x:List Rl}(hx:A6 x=0){p:ByteArray}{k:Int}:has (Cg x p) k=true↔∃c∈Cw x p,c.place=k:=by
 unfold Cg;rw[Hw];unfold has Ky;rw[Al (fun h=>h hx)];simp only[Ai,Ay];rw[gK];constructor
 ·rintro⟨_,r,hr,rfl⟩
  simp only[Bu,Ay,C3]at hr;exact⟨⟨plc r.ver,r⟩,Lj.2 ⟨r,hr.1.1,hr.1.2,hr.2,rfl⟩,rfl⟩
 ·rintro⟨c,hc,rfl⟩
  obtain⟨r,h1,h2,h3,rfl⟩:=Lj.1 hc;have GR:=(CO hx).1 r h1
  have:=JR GR.val
  rw[←GR.plc]at this;refine⟨⟨this.1,this.2⟩,r,?_,rfl⟩;simp only[Bu,Ay,C3];exact⟨⟨h1,h2⟩,h3⟩
theorem cd{x:List Rl}(hx:A6 x=0)(p:ByteArray):∃k:Int,0≤k∧k<1000000∧has (Cg x p) k=false:=by
 apply A9;intro hn;have Fm:∀k∈(List.range 257).map fun i:Nat=>(i:Int),k∈x.map fun r=>plc r.ver:=by
  intro k hk;obtain⟨i,hi,rfl⟩:=Ao.1 hk;have hi:=List.mem_range.1 hi;have hh:has (Cg x p) (i:Int)=true:=by
   cases e:has (Cg x p) (i:Int)with
   |true=>rfl
   |false=>exact absurd ⟨(i:Int),by omega,by omega,e⟩ hn
  obtain⟨c,hc,e⟩:=(Vg hx).1 hh;obtain⟨r,h1,_,_,rfl⟩:=Lj.1 hc;exact Ao.2 ⟨r,h1,e⟩
 have:=IJ (List.pairwise_map.2 (List.nodup_range.imp fun h e=>h (Int.ofNat.inj e))) Fm
 rw[Bg,Bg,Rm]at this
 have:=pv hx
 omega
theorem LA(dec:List Cd)(c:Cd):AO (dec++[c])=Kz (AO dec) c.rel.path c.rel.ver:=by unfold AO Kz;rw[AG];rfl
theorem M5{t:List Tm}{S:List Sl}:CP t S=true↔Bm t S=true∧∀u∈t,CT S u.path=true:=by
 unfold CP;rw[Ai,C3,FE];simp
section
variable {x:List Rl}{roots:List Rq}{dec:List Cd}{p:ByteArray}{needs:List Nd}
abbrev ay(p:ByteArray)(dec:List Cd):List ByteArray:=p::(AO dec).map (·.path)
theorem la{c:Cd}{t:List Tm}(hf:Lh t)(he:CP t (AO (dec++[c]))=true):U7 (ay c.rel.path dec) t:=by
 refine⟨E1 hf,fun u hu=>?_⟩
 have:=(M5.1 he).2 u hu
 rw[Hv,LA,AG]at this;rcases Ba.1 this with h | h
 ·exact Ah _ h
 ·rw[AQ,Fk,As]at h;rw[h];exact Ac ..
theorem gn(hx:A6 x=0)(hd:ER x dec){c:Cd}(hc:c.rel∈x){t:List Tm}(he:CP t (AO (dec++[c]))=true)(hn:Dm t c.rel.path=false):CP t (AO dec)=true:=by
 obtain⟨h1,h2⟩:=M5.1 he;have DM:=J8 hn;rw[LA]at h1 h2;refine M5.2 ⟨?_,fun u hu=>?_⟩
 ·rw[Ld (.self (hd.valid hx)) (.ver (hd.valid hx) ((CO hx).1 _ hc).val) DM];exact h1
 ·have:=h2 u hu
  rw[TB,CG]at this;rcases this with h | h
  ·exact h
  ·rw[Lv]at h;obtain⟨y,hy,e⟩:=h;rw[As.1 hy]at e;exact absurd e.symm (DM u hu)
theorem ee(hx:A6 x=0)(hd:ER x dec){c:Cd}(hc:c.rel∈x∧c.rel.yanked=false∧c.place=plc c.rel.ver)(hu:Du dec c.rel.path=false){t:List Tm}(hf:Lh t)(he:CP t (AO (dec++[c]))=true)(hn:Dm t c.rel.path=true) :
  kD (AO dec) (ay c.rel.path dec) c.rel.path t fun k=>k=c.place:=by
 have GR:=(CO hx).1 _ hc.1;have hV:=hd.valid hx;have h1:=(M5.1 he).1;rw[LA]at h1;refine⟨hf,la hf he,hn,⟨_,.ver hV GR.val,h1⟩,fun k k0 k1 e=>?_⟩;subst e;rw[aO (by rw[F9];exact hu) (Fd ⟨k0,k1⟩) GR.val (by rw[Hr,hc.2.2,GR.plc])];exact h1
theorem PE(hx:A6 x=0)(hr:Bx roots=0){E:List Cd}(hE:ER x E){n:Nd}(hn:n∈DE roots E)(hv:∃d∈E,d.rel.path=n.rq.path∧has n.rq.set d.place=false) :
  (∀d,D1 x roots d (TT n)=some (Jo n))∧CP (Jo n) (AO E)=true∧Lh (Jo n):=by
 obtain⟨d,hd,e,hs⟩:=hv;have GR:=(CO hx).1 _ (hE.cand d hd).1;have hf:=hE.find hd;have hI:=Sq hx hr hE hn (.inr ⟨TY d,by rw[←e];exact hf,by rw[show(TY d).ver=d.rel.ver from rfl,←GR.plc,←(hE.cand d hd).2.2];exact hs⟩);refine⟨hI.inf,M5.2 ⟨hI.viol,fun u hu=>?_⟩,hI.form⟩
 have:=(hI.inU ((AO E).map (·.path)) (fun h=>Hv.1 (hI.path h)) (Hv.1 (by rw[Kc,←e,hf];rfl))).2 u hu
 exact Hv.2 this
theorem dB(hx:A6 x=0)(hr:Bx roots=0)(hd:ER x dec)(hN:qa roots dec p needs){c:Cd}(hc:c∈Cw x p){n:Nd}(hn:n∈needs)(hs:has n.rq.set c.place=false):Dm (Jo n) p=true:=by
 obtain⟨c1,c2⟩:=J6 hc;have hu:Du dec c.rel.path=false:=by rw[c1];exact hN.undone
 have hE:=hd.snoc c2 hu;obtain⟨fj,lD⟩:=(hN.mem n).1 hn;have GR:=(CO hx).1 _ c2.1;have hI:=Sq hx hr hE (Ot fj) (.inr ⟨TY c,by rw[lD,←c1];exact hE.find (by simp),by rw[show(TY c).ver=c.rel.ver from rfl,←GR.plc,←c2.2.2];exact hs⟩);cases qj:Dm (Jo n) p with
 |true=>rfl
 |false =>
  exfalso
  have Oe:n.rq.set≠[]∧EQ n.rq.set:=by
   rcases MI fj with ⟨k,q,h1,rfl⟩ | ⟨c,hc,k,q,h1,rfl⟩
   ·exact Ll hr q (Ax h1)
   ·exact((CO hx).1 _ (hd.cand c hc).1).set q (Ax h1)
  obtain⟨k,hk⟩:=bV Oe.1 Oe.2;have Zc:=Mu hk;have hV:=hd.valid hx;have o1:Xv (AO dec) p (Kz (AO dec) p (PZ k)):=.ver hV (Fd Zc);have o2:Xv (AO dec) p (AO (dec++[c])):=by rw[LA,c1];exact .ver hV GR.val
  have h1:=Ld o1 o2 (J8 qj);rw[hI.viol,hI.raw _ o1.val,BK]at h1
  have:=h1 (DQ n.rq) (by unfold NA;split<;>simp)
  rw[show(DQ n.rq).path=p from lD,IC (by rw[F9];exact hN.undone),Uf (by rw[show(⟨p,PZ k⟩:Sl).ver=PZ k from rfl,Hr];exact hk)]at this;cases this
theorem du(hx:A6 x=0)(hr:Bx roots=0)(hd:ER x dec)(hN:qa roots dec p needs){n0:Nd}(h0:n0∈needs)(L:List (Nat×Cd))(hL:L.map (·.2)=Cw x p){s:SS}(hs:FD x roots s)(DH:∀y∈L,y.1<s.drv.length)
  (sD:s.full=false→∀y∈L,CP (DV s y.1) (AO (dec++[y.2]))=true∧Dm (DV s y.1) p=true) :
  FD x roots (Ee x p n0 (L.map (·.1)) s).2∧Grow s (Ee x p n0 (L.map (·.1)) s).2∧(Ee x p n0 (L.map (·.1)) s).1<(Ee x p n0 (L.map (·.1)) s).2.drv.length ∧
  ((Ee x p n0 (L.map (·.1)) s).2.full=false→CP (DV (Ee x p n0 (L.map (·.1)) s).2 (Ee x p n0 (L.map (·.1)) s).1) (AO dec)=true):=by
 have hV:=hd.valid hx;have qu:CT (AO dec) p=false:=by rw[F9];exact hN.undone
 obtain⟨uj,ic⟩:=(hN.mem n0).1 h0;have hI:=Sq hx hr hd uj (.inl (by rw[ic];exact HU qu));unfold Ee;obtain⟨a1,a2,a3⟩:=KL hs (hI.inf s.drv);have ag:=KM s (TT n0) (Jo n0);have a3:(Br s n0).2.full=false→DV (Br s n0).2 (Br s n0).1=Jo n0:=a3
 change FD x roots (Br s n0).2 at a1
 change (Br s n0).1<(Br s n0).2.drv.length at a2
 change Grow s (Br s n0).2 at ag
 generalize Br s n0=s1 at *
 -- the incompatibility of the places that are not available
 obtain⟨u,u0,u1,hu⟩:=cd hx p;have WT:∀k:Int,0≤k→k<1000000→has (Cg x p) k=false→Bm [(⟨p,false,En (Cg x p)⟩:Tm)] (Kz (AO dec) p (PZ k))=true:=fun k k0 k1 hk=>by
  rw[BK];intro t ht;rw[As.1 ht];show Dy _ (Ck (Kz (AO dec) p (PZ k)) p)=true;rw[IC qu];show(Cy (PZ k)&&has (En (Cg x p)) (place (PZ k)))=true;rw[Fd ⟨k0,k1⟩,Hr,FW,hk];unfold L5;simp[k0,k1]
 have np:Bm [(⟨p,false,En (Cg x p)⟩:Tm)] (AO dec)=false:=by
  rw[AD];intro h
  have:=BK.1 h _ (Ac ..)
  rw[show(⟨p,false,En (Cg x p)⟩:Tm).path=p from rfl,HU qu]at this;cases this
 have ou:Xv (AO dec) p (Kz (AO dec) p (PZ u)):=.ver hV (Fd ⟨u0,u1⟩);have DM:Io p (Cg x p)≠[]:=by
  have c1:=Dj (l:=[(⟨p,false,En (Cg x p)⟩:Tm)]) ou.val;have c2:=Dj (l:=[(⟨p,false,En (Cg x p)⟩:Tm)]) hV;rw[WT u u0 u1 hu]at c1;rw[np]at c2;unfold Io QM;cases hc:CZ [(⟨p,false,En (Cg x p)⟩:Tm)]with
  |none=>rw[hc]at c1;cases c1
  |some c =>
   rw[hc]at c2;intro e;have e:c=[]:=e;rw[e]at c2;cases c2
 have LV:∀S,Gm S→Bm (Io p (Cg x p)) S=Bm [(⟨p,false,En (Cg x p)⟩:Tm)] S:=fun S v=>QN v DM;have rX:Dm (Io p (Cg x p)) p=true:=by
  cases h:Dm (Io p (Cg x p)) p with
  |true=>rfl
  |false =>
   have:=Ld ou (.self hV) (J8 h)
   rw[LV _ ou.val,LV _ hV,WT u u0 u1 hu,np]at this;cases this
 have o6:D1 x roots s1.2.drv ⟨2,p,0,0,0,0⟩=some (Io p (Cg x p)):=by
  unfold D1;rw[Al (show ¬((2:Int)=0) by decide),Al (show ¬((2:Int)=1) by decide),Au rfl,Au ⟨rfl,rfl,rfl,rfl⟩];unfold dA;rw[Al (by rw[F7];exact DM)]
 obtain⟨b1,b2,b3⟩:=KL a1 o6;have bg:=KM s1.2 ⟨2,p,0,0,0,0⟩ (Io p (Cg x p));have b3:(Ew x p s1.2).2.full=false→DV (Ew x p s1.2).2 (Ew x p s1.2).1=Io p (Cg x p):=b3
 change FD x roots (Ew x p s1.2).2 at b1
 change (Ew x p s1.2).1<(Ew x p s1.2).2.drv.length at b2
 change Grow s1.2 (Ew x p s1.2).2 at bg
 generalize Ew x p s1.2=s2 at *
 have rT:s2.2.full=false→s1.2.full=false∧s.full=false:=fun h=>by
  have h1:s1.2.full=false:=by
   cases e:s1.2.full with
   |false=>rfl
   |true=>rw[bg.full e]at h;cases h
  refine⟨h1,?_⟩;cases e:s.full with
  |false=>rfl
  |true=>rw[ag.full e]at h1;cases h1
 have main:=Oj (D:=AO dec) (U:=ay p dec) (p:=p) hV ((s2.1,fun k=>has (Cg x p) k=false)::L.map fun y=>(y.1,fun k=>k=y.2.place)) (C:=fun k=>has n0.rq.set k=false) b1 (BQ a2 bg.len)
  (fun y hy=>by
   rcases AC.1 hy with rfl | hy
   ·exact b2
   ·obtain⟨z,hz,rfl⟩:=Ao.1 hy;exact BQ (DH z hz) (ag.trans bg).len) (fun hf=>by
   obtain⟨f1,f0⟩:=rT hf;refine⟨?_,fun y hy=>?_⟩
   ·rw[bg.at a2,a3 f1];refine⟨hI.form,hI.inU _ (fun h=>Ah _ (Hv.1 (hI.path h))) (by rw[ic];exact Ac ..),hI.viol,fun k k0 k1 hk=>?_⟩;have ok:Xv (AO dec) p (Kz (AO dec) p (PZ k)):=.ver hV (Fd ⟨k0,k1⟩);rw[hI.raw _ ok.val,BK];intro t ht;have WR:=BK.1 ((hI.raw _ hV).symm.trans hI.viol) t ht;unfold NA at ht;have ib:Dy (DQ n0.rq) (Ck (Kz (AO dec) p (PZ k)) (DQ n0.rq).path)=true:=by
     rw[show(DQ n0.rq).path=p from ic,IC qu];exact RM (.inr ⟨_,rfl,Fd ⟨k0,k1⟩,by rw[show(⟨p,PZ k⟩:Sl).ver=PZ k from rfl,Hr];exact hk⟩)
    split at ht
    ·rw[As.1 ht];exact ib
    ·rename_i hm;rcases AC.1 ht with rfl | ht
     ·have DM:n0.path≠p:=fun e=>by
       have:=hI.path hm
       rw[e,qu]at this;cases this
      rw[show(⟨n0.path,false,[(n0.place,n0.place+1)]⟩:Tm).path=n0.path from rfl]at WR⊢;rw[ok.same _ DM];exact WR
     ·rw[As.1 ht];exact ib
   ·rcases AC.1 hy with rfl | hy
    ·show kD _ _ p (DV s2.2 s2.1) _;rw[b3 hf];refine⟨MK _,Ue (fun t ht=>by rw[As.1 ht];exact Ac ..),rX,⟨_,ou,by rw[LV _ ou.val];exact WT u u0 u1 hu⟩,fun k k0 k1 hk=>?_⟩;rw[LV _ (Xv.ver hV (Fd ⟨k0,k1⟩)).val];exact WT k k0 k1 hk
    ·obtain⟨z,hz,rfl⟩:=Ao.1 hy;show kD _ _ p (DV s2.2 z.1) _;rw[(ag.trans bg).at (DH z hz)];obtain⟨e1,e2⟩:=sD f0 z hz;have hzc:z.2∈Cw x p:=by rw[←hL];exact Ao.2 ⟨z,hz,rfl⟩
     obtain⟨c1,c2⟩:=J6 hzc
     have:=ee hx hd c2 (by rw[c1];exact hN.undone) (hs.forms z.1) e1 (by rw[c1];exact e2)
     rw[c1]at this;exact this)
 have wX:((s2.1,fun k=>has (Cg x p) k=false)::L.map fun y=>(y.1,fun k=>k=y.2.place)).map (·.1)=s2.1::L.map (·.1):=by
  rw[AQ,BU];rfl
 rw[wX]at main;obtain⟨m1,m2,m3,m4⟩:=main;refine⟨m1,(ag.trans bg).trans m2,m3,fun hf=>?_⟩;obtain⟨C',q1,q2⟩:=m4 hf;have hnc:Dm (DV (Cp p (s2.1::L.map (·.1)) s1.1 s2.2).2 (Cp p (s2.1::L.map (·.1)) s1.1 s2.2).1) p=false:=by
  rcases q2 with q2 | q2
  ·exact q2
  ·refine iX qu q1.form q1.none_ fun k k0 k1=>q1.cov k k0 k1 (q2 k ?_);cases uk:has n0.rq.set k with
   |false=>exact .inl rfl
   |true =>
    cases ha:has (Cg x p) k with
    |false=>exact .inr ⟨_,Ac ..,ha⟩
    |true =>
     obtain⟨c,hc,e⟩:=(Vg hx).1 ha;rw[←hL]at hc;obtain⟨z,hz,rfl⟩:=Ao.1 hc;exact .inr ⟨_,Ah _ (Ao.2 ⟨z,hz,rfl⟩),e.symm⟩
 refine M5.2 ⟨q1.none_,fun t ht=>?_⟩
 have:=q1.inU.2 t ht
 rcases AC.1 this with e | h
 ·exact absurd e (J8 hnc t ht)
 ·exact Hv.2 h
end
end Go.Eng
