/- Lemmas for the claims of this seat, without a condition: part 25 (O9, O10, R14, R15, R16, R17, R18, R19, R20, R21, R22, R23, O11, O12, O13, O14, O16, O17). -/
import Derived.Test.YtmcbkdbfaneofaaGreatDoorDA24
import Derived.Test.YtmcbkdbfaneofaaGreatDoorDA03
set_option maxHeartbeats 4000000
namespace Go.Eng
structure OC{α β:Type}(c:α→α→Int)(R:α→α→Prop)(key:α→β):Prop where
 lt:∀a b,c a b<0↔R a b
 eq:∀a b,c a b=0↔key a=key b
 tr:∀a b d,R a b→R b d→R a d
 irr:∀a b,key a=key b→¬R a b
 tri:∀a b,¬R a b→key a≠key b→R b a
 cl:∀a b d,key a=key b→R a d→R b d
section
variable {α β:Type}{c:α→α→Int}{R:α→α→Prop}{key:α→β}
theorem OC.gt(h:OC c R key){a b:α}(h1:¬c a b<0)(h2:¬c a b=0):R b a:=h.tri a b (fun q=>h1 ((h.lt a b).2 q)) (fun q=>h2 ((h.eq a b).2 q))
theorem H4(h:OC c R key):∀(n:Nat) (a b:List α),a.length+b.length≤n→a.Pairwise R→b.Pairwise R→(Cs c n a b).Pairwise R
 |0,_,_,_,_,_=>.nil
 |n+1,a,b,hn,ha,hb=>by
  cases a with
  |nil =>
   cases b with
   |nil=>exact .nil
   |cons y b =>
    simp only[At,AC]at hn;obtain⟨h1,h2⟩:=BX.1 hb;show(y::Cs c n [] b).Pairwise R;refine .cons (fun z hz=>?_) (H4 h n [] b (by simp only[AC];omega) ha h2);rcases ES n [] b z hz with hz | hz
    ·cases hz
    ·exact h1 z hz
  |cons x a =>
   obtain⟨g1,g2⟩:=BX.1 ha;cases b with
   |nil =>
    simp only[At,AC]at hn;show(x::Cs c n a []).Pairwise R;refine .cons (fun z hz=>?_) (H4 h n a [] (by simp only[AC];omega) g2 hb);rcases ES n a [] z hz with hz | hz
    ·exact g1 z hz
    ·cases hz
   |cons y b =>
    obtain⟨h1,h2⟩:=BX.1 hb;simp only[At]at hn;show(if c x y<0 then x::Cs c n a (y::b)else if c x y=0 then y::Cs c n a b else y::Cs c n (x::a) b).Pairwise R;split
    ·rename_i e;have e:=(h.lt x y).1 e;refine .cons (fun z hz=>?_) (H4 h n a (y::b) (by simp only[At];omega) g2 hb);rcases ES n a (y::b) z hz with hz | hz
     ·exact g1 z hz
     ·rcases Au.1 hz with rfl | hz
      ·exact e
      ·exact h.tr _ _ _ e (h1 z hz)
    ·split
     ·rename_i e;have e:=(h.eq x y).1 e;refine .cons (fun z hz=>?_) (H4 h n a b (by omega) g2 h2);rcases ES n a b z hz with hz | hz
      ·exact h.cl x y z e (g1 z hz)
      ·exact h1 z hz
     ·rename_i e1 e2;have e:=h.gt e1 e2;refine .cons (fun z hz=>?_) (H4 h n (x::a) b (by simp only[At];omega) ha h2);rcases ES n (x::a) b z hz with hz | hz
      ·rcases Au.1 hz with rfl | hz
       ·exact e
       ·exact h.tr _ _ _ e (g1 z hz)
      ·exact h1 z hz
theorem NA(h:OC c R key){a b:List α}(ha:a.Pairwise R)(hb:b.Pairwise R):(AU c a b).Pairwise R:=H4 h _ a b (Ak _) ha hb
theorem H3(h:OC c R key):∀(n:Nat) (a b:List α),a.length+b.length≤n→a.Pairwise R→b.Pairwise R→∀r,r∈Cs c n a b↔r∈b∨(r∈a∧∀s∈b,key r≠key s)
 |0,a,b,hn,_,_,r=>by
  have ha:a=[]:=AB (by omega);have hb:b=[]:=AB (by omega);subst ha;subst hb;simp[Cs]
 |n+1,a,b,hn,ha,hb,r=>by
  cases a with
  |nil =>
   cases b with
   |nil=>simp[Cs]
   |cons y b =>
    simp only[At,AC]at hn;obtain⟨h1,h2⟩:=BX.1 hb;show r∈y::Cs c n [] b↔_;rw[Au,H3 h n [] b (by simp only[AC];omega) ha h2];simp
  |cons x a =>
   obtain⟨g1,g2⟩:=BX.1 ha;cases b with
   |nil =>
    simp only[At,AC]at hn;show r∈x::Cs c n a []↔_;rw[Au,H3 h n a [] (by simp only[AC];omega) g2 hb];simp
   |cons y b =>
    obtain⟨h1,h2⟩:=BX.1 hb;simp only[At]at hn;show r∈(if c x y<0 then x::Cs c n a (y::b)else if c x y=0 then y::Cs c n a b else y::Cs c n (x::a) b)↔_;split
    ·rename_i e;have e:=(h.lt x y).1 e;rw[Au,H3 h n a (y::b) (by simp only[At];omega) g2 hb];constructor
     ·rintro(rfl | hr | ⟨hr,hk⟩)
      ·refine .inr ⟨Aa ..,fun s hs=>?_⟩;intro hk;rcases Au.1 hs with rfl | hs
       ·exact h.irr _ _ hk e
       ·exact h.irr _ _ hk (h.tr _ _ _ e (h1 s hs))
      ·exact .inl hr
      ·exact .inr ⟨Af _ hr,hk⟩
     ·rintro(hr | ⟨hr,hk⟩)
      ·exact .inr (.inl hr)
      ·rcases Au.1 hr with rfl | hr
       ·exact .inl rfl
       ·exact .inr (.inr ⟨hr,hk⟩)
    ·split
     ·rename_i e;have e:=(h.eq x y).1 e;rw[Au,H3 h n a b (by omega) g2 h2];constructor
      ·rintro(rfl | hr | ⟨hr,hk⟩)
       ·exact .inl (Aa ..)
       ·exact .inl (Af _ hr)
       ·refine .inr ⟨Af _ hr,fun s hs=>?_⟩;rcases Au.1 hs with rfl | hs
        ·exact fun q=>h.irr _ _ q.symm (h.cl _ _ _ e (g1 r hr))
        ·exact hk s hs
      ·rintro(hr | ⟨hr,hk⟩)
       ·exact(Au.1 hr).imp id .inl
       ·rcases Au.1 hr with rfl | hr
        ·exact absurd e (hk y (Aa ..))
        ·exact .inr (.inr ⟨hr,fun s hs=>hk s (Af _ hs)⟩)
     ·rename_i e1 e2;have e:=h.gt e1 e2;rw[Au,H3 h n (x::a) b (by simp only[At];omega) ha h2];constructor
      ·rintro(rfl | hr | ⟨hr,hk⟩)
       ·exact .inl (Aa ..)
       ·exact .inl (Af _ hr)
       ·refine .inr ⟨hr,fun s hs=>?_⟩;rcases Au.1 hs with rfl | hs
        ·intro q;rcases Au.1 hr with rfl | hr
         ·exact h.irr _ _ q.symm e
         ·exact h.irr _ _ q.symm (h.tr _ _ _ e (g1 r hr))
        ·exact hk s hs
      ·rintro(hr | ⟨hr,hk⟩)
       ·exact(Au.1 hr).imp id .inl
       ·exact .inr (.inr ⟨hr,fun s hs=>hk s (Af _ hs)⟩)
theorem Jh(h:OC c R key){a b:List α}(ha:a.Pairwise R)(hb:b.Pairwise R)(r:α):r∈AU c a b↔r∈b∨(r∈a∧∀s∈b,key r≠key s):=H3 h _ a b (Ak _) ha hb r
theorem cc(h:OC c R key){a:List α}(ha:a.Pairwise R):(a.map key).Nodup:=by
 unfold List.Nodup;rw[List.pairwise_map];exact ha.imp fun q e=>h.irr _ _ e q
end
/-! The three comparisons. -/
def cj(a b:Sl):Prop:=Ff a.path b.path=true∨(a.path=b.path∧dx a.ver b.ver)
abbrev nF(a b:Sl):Prop:=Ff a.path b.path=true
theorem RS{a b:Int}:FO a b<0↔a<b:=by
 unfold FO;split
 ·rename_i h;simp[h]
 ·rename_i h;split<;>simp[h]
theorem Gd{a b:Int}:FO a b=0↔a=b:=by
 unfold FO;split
 ·rename_i h;simp;omega
 ·rename_i h;split
  ·rename_i h2;simp;omega
  ·rename_i h2;simp;omega
theorem d4{a b:Ver}:LH a b<0↔dx a b:=by
 refine⟨ZN,fun h=>?_⟩;unfold LH;rcases h with h | ⟨h1,h | ⟨h2,h⟩⟩
 ·rw[Az (fun c=>by have:=Gd.1 c;omega)];exact RS.2 h
 ·rw[Al (fun c=>c (Gd.2 h1)),Az (fun c=>by have:=Gd.1 c;omega)];exact RS.2 h
 ·rw[Al (fun c=>c (Gd.2 h1)),Al (fun c=>c (Gd.2 h2))];exact RS.2 h
theorem YH{a b:Ver}:LH a b=0↔a=b:=by
 refine⟨UC,fun h=>?_⟩;subst h;unfold LH;rw[Al (fun c=>c (Gd.2 rfl)),Al (fun c=>c (Gd.2 rfl))];exact Gd.2 rfl
theorem RU{a b:Sl}:E2 a b<0↔cj a b:=by
 unfold E2 cj
 by_cases h:a.path=b.path
 ·rw[Al (fun c=>c (HY.2 h)),d4];exact⟨fun q=>.inr ⟨h,q⟩,fun q=>q.elim (fun q=>by rw[h,CY]at q;cases q) (·.2)⟩
 ·rw[Az (fun c=>h (HY.1 c)),WW];exact⟨.inl,fun q=>q.elim id fun q=>absurd q.1 h⟩
theorem RV{a b:Sl}:E2 a b=0↔a=b:=by
 unfold E2
 by_cases h:a.path=b.path
 ·rw[Al (fun c=>c (HY.2 h)),YH];constructor
  ·intro q;cases a;cases b;simp_all
  ·rintro rfl;rfl
 ·rw[Az (fun c=>h (HY.1 c))];exact⟨fun q=>absurd (HY.1 q) h,fun q=>absurd (Ac Sl.path q) h⟩
theorem cn{a b d:Sl}(h:cj a b)(k:cj b d):cj a d:=by
 rcases h with h | ⟨h1,h2⟩
 ·rcases k with k | ⟨k1,k2⟩
  ·exact .inl (Eb h k)
  ·exact .inl (k1▸h)
 ·rcases k with k | ⟨k1,k2⟩
  ·exact .inl (h1▸k)
  ·exact .inr ⟨h1.trans k1,U2 h2 k2⟩
theorem kc(a:Sl):¬cj a a:=by
 rintro(h | ⟨_,h⟩)
 ·rw[CY]at h;cases h
 ·unfold dx at h;omega
theorem ah{a b:Sl}(h:¬cj a b)(hk:a≠b):cj b a:=by
 unfold cj at *
 by_cases e:a.path=b.path
 ·refine .inr ⟨e.symm,?_⟩;have h2:¬dx a.ver b.ver:=fun q=>h (.inr ⟨e,q⟩);have h3:a.ver≠b.ver:=fun q=>hk (by cases a;cases b;simp_all);unfold dx at *
  by_cases q1:a.ver.a=b.ver.a
  ·by_cases q2:a.ver.b=b.ver.b
   ·by_cases q3:a.ver.c=b.ver.c
    ·exact absurd (by cases ha:a.ver;cases hb:b.ver;simp_all) h3
    ·omega
   ·omega
  ·omega
 ·cases q:Ff b.path a.path with
  |true=>exact .inl rfl
  |false =>
   cases p:Ff a.path b.path with
   |true=>exact absurd (.inl p) h
   |false=>exact absurd (Hp p q) e
theorem q8:OC E2 cj (fun s:Sl=>s) where
 lt _ _:=RU
 eq _ _:=RV
 tr _ _ _:=cn
 irr a b e:=by subst e;exact kc a
 tri _ _:=ah
 cl _ _ _ e h:=by subst e;exact h
theorem xX:OC Cv XI F6 where
 lt a b:=RU (a:=F6 a) (b:=F6 b)
 eq a b:=RV (a:=F6 a) (b:=F6 b)
 tr _ _ _:=U0
 irr _ _ e h:=Jf h e
 tri a b h e:=ah (a:=F6 a) (b:=F6 b) h e
 cl a b d e h:=show cj (F6 b) (F6 d)from(show F6 a=F6 b from e)▸h
theorem oQ:OC Kp nF (fun s:Sl=>s.path) where
 lt _ _:=WW
 eq _ _:=HY
 tr _ _ _:=Eb
 irr a b e h:=by rw[nF,e,CY]at h;cases h
 tri a b h e:=by
  cases q:Ff b.path a.path with
  |true=>exact q
  |false =>
   cases p:Ff a.path b.path with
   |true=>exact absurd p h
   |false=>exact absurd (Hp p q) e
 cl a b d e h:=by rw[nF,←e];exact h
/-! Pins. -/
/-! What the reference makes of a list. -/
theorem MH{α:Type}{l:List α}{i:Nat}(h:i<l.length):l.take (i+1)=l.take i++[l[i]]:=Ke h
theorem D1{w:Wk}(h:BU w=0):A9 w.rep=0∧GF E2 w.exc=true∧GF Kp w.pin=true∧∀s∈w.pin,s∉w.exc:=by
 unfold BU at h;split at h
 ·cases h
 ·rename_i h1;split at h
  ·cases h
  ·rename_i h2;simp only[not_or,BL]at h1;refine⟨h1.1,by simpa using h1.2.1,by simpa using h1.2.2,fun s hs he=>h2 (A7.2 ⟨s,hs,Aw he⟩)⟩
theorem UQ{c:Sl→Sl→Int}{R:Sl→Sl→Prop}{β:Type}{key:Sl→β}(hc:OC c R key){l:List Sl}(h:GF c l=true):l.Pairwise R:=by
 have h:=Hz.1 h;rw[Bc];have step:∀(d i:Nat) (h1:i+d+1<l.length),R (l[i]'(by omega)) l[i+d+1]:=by
  intro d
  induction d with
  |zero =>
   intro i h1
   have:=(h (i+1) h1).2 (by omega)
   exact(hc.lt _ _).1 this
  |succ d ih =>
   intro i h1
   have:=(h (i+(d+1)+1) h1).2 (by omega)
   have e:=(hc.lt _ _).1 this;exact hc.tr _ _ _ (ih i (by omega)) e
 intro i j hi hj UN
 have:=step (j-i-1) i (by omega)
 have e:i+(j-i-1)+1=j:=by omega
 simp only[e]at this;exact this
theorem Ig{w:Wk}(h:BU w=0):w.pin.Pairwise nF:=UQ oQ (D1 h).2.2.1
theorem FY{w:Wk}(h:BU w=0):w.exc.Pairwise cj:=UQ q8 (D1 h).2.1
end Go.Eng
namespace Go.Eng
open Go.Proofs
def ZT(p:ByteArray)(r:Rl):Bool:=decide (r.path=p)&&!r.yanked
def rF(r:Rl):Int×Int:=(plc r.ver,plc r.ver+1)
theorem bj{x:List Rl}{p:ByteArray}(h:A9 x=0):B8 x p=canon ((x.filter (ZT p)).map rF):=by
 unfold B8 J5;rw[Al (not_not_intro h),List.filter_filter]
 congr 3
 funext r
 unfold ZT;rw[Bool.and_comm]
abbrev tD(b:Wk):Sl→Bool:=fun y=>!decide (y∈b.exc)&&!decide (y∈b.pin)
abbrev vw(b:Wk):Sl→Bool:=fun y=>(kE b.pin y.path).isNone&&!decide (y∈b.exc)
theorem Zs{l:List Sl}{p:ByteArray}:kE l p=none↔∀s∈l,s.path≠p:=by
 unfold kE;rw[Ek];exact⟨fun h s hs=>by simpa using h s hs,fun h s hs=>by simpa using h s hs⟩
theorem pF{b:Wk}{y:Sl}:tD b y=true↔y∉b.exc∧y∉b.pin:=by unfold tD;simp
theorem ra{b:Wk}{y:Sl}:vw b y=true↔kE b.pin y.path=none∧y∉b.exc:=by unfold vw;simp
theorem V9{o l:List Sl}{y:Sl}:y∈Fq l o↔y∈l∧y∉o:=by unfold Fq kept;simp
theorem jw{a b:Wk}(ha:BU a=0)(hb:BU b=0)(y:Sl):y∈Fq (AU E2 a.exc b.exc) b.pin↔y∈b.exc++a.exc.filter (tD b):=by
 have hd:=(D1 hb).2.2.2;rw[V9,Jh q8 (FY ha) (FY hb),A3,Bx,pF];constructor
 ·rintro⟨h | ⟨h,hn⟩,hp⟩
  ·exact .inl h
  ·exact .inr ⟨h,fun q=>hn y q rfl,hp⟩
 ·rintro(h | ⟨h,hn⟩)
  ·exact⟨.inl h,fun q=>hd y q h⟩
  ·exact⟨.inr ⟨h,fun s hs e=>hn.1 (by rw[show y=s from e];exact hs)⟩,hn.2⟩
theorem jv{a b:Wk}(ha:BU a=0)(hb:BU b=0):(Fq (AU E2 a.exc b.exc) b.pin).Pairwise cj:=List.Pairwise.filter _ (NA q8 (FY ha) (FY hb))
theorem SV{a b:Wk}(ha:BU a=0):(Fq a.pin b.exc).Pairwise nF:=List.Pairwise.filter _ (Ig ha)
theorem kF{a b:Wk}(ha:BU a=0)(hb:BU b=0)(y:Sl):y∈AU Kp (Fq a.pin b.exc) b.pin↔y∈b.pin++a.pin.filter (vw b):=by
 rw[Jh oQ (SV ha) (Ig hb),V9,A3,Bx,ra,Zs];constructor
 ·rintro(h | ⟨⟨h,he⟩,hn⟩)
  ·exact .inl h
  ·exact .inr ⟨h,fun s hs e=>hn s hs e.symm,he⟩
 ·rintro(h | ⟨h,hn⟩)
  ·exact .inl h
  ·exact .inr ⟨⟨h,hn.2⟩,fun s hs e=>hn.1 s hs e.symm⟩
instance:DecidableEq Rq:=fun x y=>decidable_of_iff (x.path=y.path∧x.set=y.set) ⟨fun⟨h1,h2⟩=>by cases x;cases y;simp_all,fun h=>by subst h;exact Zr⟩
instance:DecidableEq Rl:=fun x y=>decidable_of_iff (x.path=y.path∧x.ver=y.ver∧x.reqs=y.reqs∧x.arch=y.arch∧x.ifc=y.ifc∧x.cert=y.cert∧x.yanked=y.yanked) ⟨fun⟨h1,h2,h3,h4,h5,h6,h7⟩=>by cases x;cases y;simp_all,fun h=>by subst h;exact⟨rfl,rfl,rfl,rfl,rfl,rfl,rfl⟩⟩
theorem rv{a b:Rq}(h1:a.path=b.path)(h2:a.set=b.set):a=b:=by cases a;cases b;simp_all
theorem lW{a b:Rl}(h1:a.path=b.path)(h2:a.ver=b.ver)(h3:a.arch=b.arch)(h4:a.ifc=b.ifc)(h5:a.cert=b.cert)(h6:a.yanked=b.yanked)(h7:a.reqs=b.reqs):a=b:=by cases a;cases b;simp_all
theorem ZC{a b:Ver}(h:a.a=b.a∧a.b=b.b∧a.c=b.c∧True):a=b:=by cases a;cases b;simp_all
theorem iG{a b:Ver}(h:¬(a.a=b.a∧a.b=b.b∧a.c=b.c∧True)):a≠b:=fun e=>h (by subst e;exact⟨rfl,rfl,rfl,trivial⟩)
theorem Rr{α:Type}{a b:List α}(hl:a.length=b.length)(h:∀j (hj:j<a.length),a[j]=b[j]'(hl▸hj)):a=b:=List.ext_getElem hl fun j h1 _=>h j h1
theorem WO{α:Type}{a b:List α}{i:Nat}{ha:i<a.length}{hb:i<b.length}(h:a[i]≠b[i]):a≠b:=fun e=>by subst e;exact h rfl
theorem sv(a b:List Rq)(ha:Cn a)(hs:∀q∈a,Cn q.set):PC 69 [sl AN a,sl AN b] (vb (decide (a=b))):=by
 have pT:a.length≤1073741824:=ha;refine Ps ⟨[],[],[],[],[],[],[],[],[],[],[5,7]⟩ Tryz.func69 rfl (Nz rfl) ?_;refine Yi (fun h1=>?_) (fun h1=>?_)
 ·have h1:((a.map AN).length:Int)≠((b.map AN).length:Int):=h1;exact .of_eq (show vb false=vb (decide (a=b)) by rw[Ap (fun e=>absurd (Ac (fun z=>((z.map AN).length:Int)) e) h1)])
 have h1:((a.map AN).length:Int)=((b.map AN).length:Int):=Br h1;have hl:a.length=b.length:=by have q:=h1;rw[Lm,Lm]at q;omega
 refine Xi {q:Nat // q≤a.length∧∀j (hj:j<a.length),j<q→a[j]=b[j]'(hl▸hj)} (Xi (fun q=>⟨[(0,sl AN a),(1,sl AN b),(5,vi q.1)],[],Ab⟩) (Xi (fun q=>a.length-q.1) (Yi (Xi ⟨0,AM _,fun _ _ h=>absurd h (Du _)⟩ ?_) ?_)))
 ·exact⟨Z3,Tv,Fh,Tv⟩
 intro⟨i,i1,i2⟩;have i1:i≤a.length:=i1;have i2:∀j (hj:j<a.length),j<i→a[j]=b[j]'(hl▸hj):=i2;refine Yi (fun h3=>?_) (fun h3=>?_)
 ·have h3:(i:Int)<((a.map AN).length:Int):=h3;have n3:=Jy h3;have bN:i<b.length:=by have q:=h3;rw[Lm]at q;omega
  refine Xi (AN a[i]) (Yi (NP n3) (Yi rfl ?_));refine Xi (AN b[i]) (Yi (NP bN) (Yi rfl ?_));refine Yi (fun h5=>?_) (fun h5=>?_)
  ·have h5:(a[i].path:ByteArray)≠b[i].path:=h5;refine Yi (by kernel_rfl) ?_;refine Xi ⟨[],[],Ab⟩ (Yi ⟨Tv,Tv,Fh,Tv⟩ ?_)
   exact .of_eq (show vb false=vb (decide (a=b)) by rw[Ap (WO (i:=i) (ha:=n3) (hb:=bN) (fun e=>h5 (Ac Rq.path e)))])
  have h5:(a[i].path:ByteArray)=b[i].path:=Br h5;refine Xi (AN a[i]) (Yi (NP n3) (Yi rfl ?_));refine Xi (AN b[i]) (Yi (NP bN) (Yi rfl ?_));refine BN (Bt (decide (a[i].set=b[i].set))) (fun h7=>?_) (fun h7=>?_)
  ·have h7:(decide (a[i].set=b[i].set))=true:=h7;refine Xi _ (Yi (cb h7 (wL a[i].set b[i].set (hs _ (Ao n3)))) ?_);refine Yi (by kernel_rfl) ?_;refine Xi ⟨[(0,sl AN a),(1,sl AN b),(5,vi i)],[],Ab⟩ (Yi ⟨Z3,Tv,Fh,Tv⟩ ?_)
   refine Yi (Ii i (by omega)) ?_;refine Xi ⟨i+1,n3,fun j hj HL=>if e:j<i then i2 j hj e else by
     have e:j=i:=by omega
     subst e;exact rv h5 (BG h7)⟩ ?_
   exact⟨Dl a.length i (by omega),Z3,Tv,Fh,Tv⟩
  have h7:(decide (a[i].set=b[i].set))=false:=h7;refine Xi _ (Yi (cb h7 (wL a[i].set b[i].set (hs _ (Ao n3)))) ?_);refine Yi (by kernel_rfl) ?_;refine Xi ⟨[],[],Ab⟩ (Yi ⟨Tv,Tv,Fh,Tv⟩ ?_)
  exact .of_eq (show vb false=vb (decide (a=b)) by rw[Ap (WO (i:=i) (ha:=n3) (hb:=bN) (fun e=>Jz h7 (Ac Rq.set e)))])
 have h3:¬((i:Int)<((a.map AN).length:Int)):=h3;have n3:=Jx h3;exact .of_eq (show vb true=vb (decide (a=b)) by rw[Aw (Rr hl fun j hj=>i2 j hj (by have q:=h3;rw[Lm]at q;omega))])
theorem sq(r s:Rl)(hr:Cn r.reqs)(hs:∀q∈r.reqs,Cn q.set):PC 23 [.agg (Ah r),.agg (Ah s)] (vb (decide (r=s))):=by
 refine Ps ⟨[2,3],[],[],[],[],[],[],[],[],[],[]⟩ Tryz.func23 rfl (Nz rfl) ?_;refine Yi (fun h1=>?_) (fun h1=>?_)
 ·have h1:(r.path:ByteArray)=s.path:=h1;refine Yi (Nz rfl) ?_;refine Yi (Nz rfl) ?_;refine Yi (fun h2=>?_) (fun h2=>?_)
  ·have h2:(r.ver.a:Int)=s.ver.a∧(r.ver.b:Int)=s.ver.b∧(r.ver.c:Int)=s.ver.c∧True:=h2;refine Yi (fun h3=>?_) (fun h3=>?_)
   ·have h3:(r.arch:ByteArray)=s.arch:=h3;refine Yi (fun h4=>?_) (fun h4=>?_)
    ·have h4:(r.ifc:ByteArray)=s.ifc:=h4;refine Yi (fun h5=>?_) (fun h5=>?_)
     ·have h5:(r.cert:ByteArray)=s.cert:=h5;refine Yi (fun h6=>?_) (fun h6=>?_)
      ·have h6:r.yanked=true:=h6;refine Yi (fun h7=>?_) (fun h7=>?_)
       ·have h7:s.yanked=true:=h7;refine BN (Bt (decide (r.reqs=s.reqs))) (fun h8=>?_) (fun h8=>?_)
        ·have h8:(decide (r.reqs=s.reqs))=true:=h8;refine Xi .pure (Xi _ (Yi (cb h8 (sv r.reqs s.reqs hr hs)) ?_));exact .of_eq (show vb true=vb (decide (r=s)) by rw[Aw (lW h1 (ZC h2) h3 h4 h5 (by rw[h6,h7]) (BG h8))])
        have h8:(decide (r.reqs=s.reqs))=false:=h8;refine Xi .pure (Xi _ (Yi (cb h8 (sv r.reqs s.reqs hr hs)) ?_));exact .of_eq (show vb false=vb (decide (r=s)) by rw[Ap (fun e=>Jz h8 (Ac Rl.reqs e))])
       have h7:s.yanked=false:=h7;exact .of_eq (show vb false=vb (decide (r=s)) by rw[Ap (fun e=>by have q:=Ac Rl.yanked e;rw[h6,h7]at q;cases q)])
      have h6:r.yanked=false:=h6;refine Yi (fun M0=>?_) (fun M0=>?_)
      ·have M0:s.yanked=true:=M0;exact .of_eq (show vb false=vb (decide (r=s)) by rw[Ap (fun e=>by have q:=Ac Rl.yanked e;rw[h6,M0]at q;cases q)])
      have M0:s.yanked=false:=M0;refine BN (Bt (decide (r.reqs=s.reqs))) (fun jA=>?_) (fun jA=>?_)
      ·have jA:(decide (r.reqs=s.reqs))=true:=jA;refine Xi .pure (Xi _ (Yi (cb jA (sv r.reqs s.reqs hr hs)) ?_));exact .of_eq (show vb true=vb (decide (r=s)) by rw[Aw (lW h1 (ZC h2) h3 h4 h5 (by rw[h6,M0]) (BG jA))])
      have jA:(decide (r.reqs=s.reqs))=false:=jA;refine Xi .pure (Xi _ (Yi (cb jA (sv r.reqs s.reqs hr hs)) ?_));exact .of_eq (show vb false=vb (decide (r=s)) by rw[Ap (fun e=>Jz jA (Ac Rl.reqs e))])
     have h5:¬(r.cert:ByteArray)=s.cert:=h5;exact .of_eq (show vb false=vb (decide (r=s)) by rw[Ap (fun e=>h5 (Ac Rl.cert e))])
    have h4:¬(r.ifc:ByteArray)=s.ifc:=h4;exact .of_eq (show vb false=vb (decide (r=s)) by rw[Ap (fun e=>h4 (Ac Rl.ifc e))])
   have h3:¬(r.arch:ByteArray)=s.arch:=h3;exact .of_eq (show vb false=vb (decide (r=s)) by rw[Ap (fun e=>h3 (Ac Rl.arch e))])
  have h2:¬((r.ver.a:Int)=s.ver.a∧(r.ver.b:Int)=s.ver.b∧(r.ver.c:Int)=s.ver.c∧True):=h2;exact .of_eq (show vb false=vb (decide (r=s)) by rw[Ap (fun e=>iG h2 (Ac Rl.ver e))])
 have h1:¬(r.path:ByteArray)=s.path:=h1;exact .of_eq (show vb false=vb (decide (r=s)) by rw[Ap (fun e=>h1 (Ac Rl.path e))])
theorem xO(a b:List Rl)(ha:Cn a)(hr:∀r∈a,Cn r.reqs∧∀q∈r.reqs,Cn q.set):PC 15 [sl Ah a,sl Ah b] (vb (decide (a=b))):=by
 have pT:a.length≤1073741824:=ha;refine Ps ⟨[],[],[],[],[],[],[],[],[],[],[5,7]⟩ Tryz.func15 rfl (Nz rfl) ?_;refine Yi (fun h1=>?_) (fun h1=>?_)
 ·have h1:((a.map Ah).length:Int)≠((b.map Ah).length:Int):=h1;exact .of_eq (show vb false=vb (decide (a=b)) by rw[Ap (fun e=>absurd (Ac (fun z=>((z.map Ah).length:Int)) e) h1)])
 have h1:((a.map Ah).length:Int)=((b.map Ah).length:Int):=Br h1;have hl:a.length=b.length:=by have q:=h1;rw[Lm,Lm]at q;omega
 refine Xi {q:Nat // q≤a.length∧∀j (hj:j<a.length),j<q→a[j]=b[j]'(hl▸hj)} (Xi (fun q=>⟨[(0,sl Ah a),(1,sl Ah b),(5,vi q.1)],[],Ab⟩) (Xi (fun q=>a.length-q.1) (Yi (Xi ⟨0,AM _,fun _ _ h=>absurd h (Du _)⟩ ?_) ?_)))
 ·exact⟨Z3,Tv,Fh,Tv⟩
 intro⟨i,i1,i2⟩;have i1:i≤a.length:=i1;have i2:∀j (hj:j<a.length),j<i→a[j]=b[j]'(hl▸hj):=i2;refine Yi (fun h3=>?_) (fun h3=>?_)
 ·have h3:(i:Int)<((a.map Ah).length:Int):=h3;have n3:=Jy h3;have bN:i<b.length:=by have q:=h3;rw[Lm]at q;omega
  refine Xi (Ah a[i]) (Yi (NP n3) (Yi rfl ?_));refine Yi (Nz rfl) ?_;refine Xi (Ah b[i]) (Yi (NP bN) (Yi rfl ?_));refine Yi (Nz rfl) ?_;refine BN (Bt (decide (a[i]=b[i]))) (fun h4=>?_) (fun h4=>?_)
  ·have h4:(decide (a[i]=b[i]))=true:=h4;refine Xi _ (Yi (cb h4 (sq a[i] b[i] (hr _ (Ao n3)).1 (hr _ (Ao n3)).2)) ?_);refine Yi (by kernel_rfl) ?_;refine Xi ⟨[(0,sl Ah a),(1,sl Ah b),(5,vi i)],[],Ab⟩ (Yi ⟨Z3,Tv,Fh,Tv⟩ ?_)
   refine Yi (Ii i (by omega)) ?_;refine Xi ⟨i+1,n3,fun j hj HL=>if e:j<i then i2 j hj e else by
     have e:j=i:=by omega
     subst e;exact BG h4⟩ ?_
   exact⟨Dl a.length i (by omega),Z3,Tv,Fh,Tv⟩
  have h4:(decide (a[i]=b[i]))=false:=h4;refine Xi _ (Yi (cb h4 (sq a[i] b[i] (hr _ (Ao n3)).1 (hr _ (Ao n3)).2)) ?_);refine Yi (by kernel_rfl) ?_;refine Xi ⟨[],[],Ab⟩ (Yi ⟨Tv,Tv,Fh,Tv⟩ ?_)
  exact .of_eq (show vb false=vb (decide (a=b)) by rw[Ap (WO (i:=i) (ha:=n3) (hb:=bN) (Jz h4))])
 have h3:¬((i:Int)<((a.map Ah).length:Int)):=h3;have n3:=Jx h3;exact .of_eq (show vb true=vb (decide (a=b)) by rw[Aw (Rr hl fun j hj=>i2 j hj (by have q:=h3;rw[Lm]at q;omega))])
theorem su(a b:List Sl)(ha:Cn a):PC 65 [sl Ae a,sl Ae b] (vb (decide (a=b))):=by
 have pT:a.length≤1073741824:=ha;refine Ps ⟨[],[],[],[],[],[],[],[],[],[],[5,7]⟩ Tryz.func65 rfl (Nz rfl) ?_;refine Yi (fun h1=>?_) (fun h1=>?_)
 ·have h1:((a.map Ae).length:Int)≠((b.map Ae).length:Int):=h1;exact .of_eq (show vb false=vb (decide (a=b)) by rw[Ap (fun e=>absurd (Ac (fun z=>((z.map Ae).length:Int)) e) h1)])
 have h1:((a.map Ae).length:Int)=((b.map Ae).length:Int):=Br h1;have hl:a.length=b.length:=by have q:=h1;rw[Lm,Lm]at q;omega
 refine Xi {q:Nat // q≤a.length∧∀j (hj:j<a.length),j<q→a[j]=b[j]'(hl▸hj)} (Xi (fun q=>⟨[(0,sl Ae a),(1,sl Ae b),(5,vi q.1)],[],Ab⟩) (Xi (fun q=>a.length-q.1) (Yi (Xi ⟨0,AM _,fun _ _ h=>absurd h (Du _)⟩ ?_) ?_)))
 ·exact⟨Z3,Tv,Fh,Tv⟩
 intro⟨i,i1,i2⟩;have i1:i≤a.length:=i1;have i2:∀j (hj:j<a.length),j<i→a[j]=b[j]'(hl▸hj):=i2;refine Yi (fun h3=>?_) (fun h3=>?_)
 ·have h3:(i:Int)<((a.map Ae).length:Int):=h3;have n3:=Jy h3;have bN:i<b.length:=by have q:=h3;rw[Lm]at q;omega
  refine Xi (Ae a[i]) (Yi (NP n3) (Yi rfl ?_));refine Yi (Nz rfl) ?_;refine Xi (Ae b[i]) (Yi (NP bN) (Yi rfl ?_));refine Yi (Nz rfl) ?_;refine Yi (fun h4=>?_) (fun h4=>?_)
  ·have h4:(a[i].path:ByteArray)=b[i].path∧(a[i].ver.a:Int)=b[i].ver.a∧(a[i].ver.b:Int)=b[i].ver.b∧(a[i].ver.c:Int)=b[i].ver.c∧True:=h4;refine Yi (by kernel_rfl) ?_;refine Xi ⟨[(0,sl Ae a),(1,sl Ae b),(5,vi i)],[],Ab⟩ (Yi ⟨Z3,Tv,Fh,Tv⟩ ?_)
   refine Yi (Ii i (by omega)) ?_;refine Xi ⟨i+1,n3,fun j hj HL=>if e:j<i then i2 j hj e else by
     have e:j=i:=by omega
     subst e;exact ii h4⟩ ?_
   exact⟨Dl a.length i (by omega),Z3,Tv,Fh,Tv⟩
  have h4:¬((a[i].path:ByteArray)=b[i].path∧(a[i].ver.a:Int)=b[i].ver.a∧(a[i].ver.b:Int)=b[i].ver.b∧(a[i].ver.c:Int)=b[i].ver.c∧True):=h4;refine Yi (by kernel_rfl) ?_;refine Xi ⟨[],[],Ab⟩ (Yi ⟨Tv,Tv,Fh,Tv⟩ ?_)
  exact .of_eq (show vb false=vb (decide (a=b)) by rw[Ap (WO (i:=i) (ha:=n3) (hb:=bN) (lX h4))])
 have h3:¬((i:Int)<((a.map Ae).length:Int)):=h3;have n3:=Jx h3;exact .of_eq (show vb true=vb (decide (a=b)) by rw[Aw (Rr hl fun j hj=>i2 j hj (by have q:=h3;rw[Lm]at q;omega))])
def Ma(a b:Wk):Bool:=decide (a.rep=b.rep)&&decide (a.exc=b.exc)&&decide (a.pin=b.pin)
theorem Ty(a:Wk):Ma a a=true:=by unfold Ma;simp
abbrev ZF(l:List Rl):Prop:=∀r∈l,Cn r.reqs∧∀q∈r.reqs,Cn q.set
theorem xP(a b:Wk)(hA:WD a)(hr:ZF a.rep):PC 19 [.agg (Bg a),.agg (Bg b)] (vb (Ma a b)):=by
 refine Ps ⟨[2,3],[],[],[],[],[],[],[],[],[],[]⟩ Tryz.func19 rfl (Nz rfl) ?_;refine BN (Bt (decide (a.rep=b.rep))) (fun h1=>?_) (fun h1=>?_)
 ·have h1:(decide (a.rep=b.rep))=true:=h1;refine Xi .pure (Xi _ (Yi (cb h1 (xO a.rep b.rep hA.reps hr)) ?_));refine BN (Bt (decide (a.exc=b.exc))) (fun h2=>?_) (fun h2=>?_)
  ·have h2:(decide (a.exc=b.exc))=true:=h2;refine Xi .pure (Xi _ (Yi (cb h2 (su a.exc b.exc hA.exc)) ?_));refine BN (Bt (decide (a.pin=b.pin))) (fun h3=>?_) (fun h3=>?_)
   ·have h3:(decide (a.pin=b.pin))=true:=h3;refine Xi .pure (Xi _ (Yi (cb h3 (su a.pin b.pin hA.pin)) ?_));exact .of_eq (show vb true=vb (Ma a b) by unfold Ma;rw[h1,h2,h3];rfl)
   have h3:(decide (a.pin=b.pin))=false:=h3;refine Xi .pure (Xi _ (Yi (cb h3 (su a.pin b.pin hA.pin)) ?_));exact .of_eq (show vb false=vb (Ma a b) by unfold Ma;rw[h1,h2,h3];simp)
  have h2:(decide (a.exc=b.exc))=false:=h2;refine Xi .pure (Xi _ (Yi (cb h2 (su a.exc b.exc hA.exc)) ?_));exact .of_eq (show vb false=vb (Ma a b) by unfold Ma;rw[h1,h2];simp)
 have h1:(decide (a.rep=b.rep))=false:=h1;refine Xi .pure (Xi _ (Yi (cb h1 (xO a.rep b.rep hA.reps hr)) ?_));exact .of_eq (show vb false=vb (Ma a b) by unfold Ma;rw[h1];simp)
structure Mv where
 path:ByteArray
 a:Int
 b:Int
abbrev EL(m:Mv):List AV:=[vs m.path,vi m.a,vi m.b]
abbrev plP(s:Sl):Value×AV:=(.string s.path,vi (place s.ver))
abbrev Jk(l:List Sl):List (Value×AV):=l.map plP
def Ph(l:List Sl)(p:ByteArray):Int:=match Cb l p with | some s=>place s.ver | none=>-1
def Wc(l m:List Sl)(p:ByteArray):Option Mv:=if Ph l p≠Ph m p then some ⟨p,Ph l p,Ph m p⟩else none
abbrev L1(l m:List Sl)(ps:List ByteArray):List Mv:=ps.filterMap (Wc l m)
structure NW(l:List Sl):Prop where
 few:Cn l
 val:∀s∈l,CM s.ver=true
 inc:l.Pairwise nF
theorem NW.step{l:List Sl}(h:NW l){i:Nat}(hi:i<l.length)(h0:0<i):Ff (l[i-1]'(by omega)).path l[i].path=true:=(Bc.1 h.inc) (i-1) i (by omega) hi (by omega)
theorem gN{l:List Sl}(h:NW l){i:Nat}(hi:i<l.length):∀b,(Value.string l[i].path,b)∉Jk (l.take i):=fun b hb=>by
 obtain⟨s,hs,e⟩:=Am.1 hb;obtain⟨j,hj,rfl⟩:=Dz.1 hs;rw[Kc]at e;rw[AJ]at hj;have q:=(Bc.1 h.inc) j i (by omega) hi (by omega);have e2:l[j].path=l[i].path:=by injection e with e1;injection e1
 rw[nF,e2,CY]at q;cases q
theorem nM{l:List Sl}(h:NW l){p:ByteArray}{a:AV}(ha:(Value.string p,a)∈Jk l):a=vi (Ph l p):=by
 obtain⟨s,hs,e⟩:=Am.1 ha;have e1:s.path=p:=by injection e with e1;injection e1
 have e2:vi (place s.ver)=a:=by injection e
 rw[←e2];unfold Ph;rw[←e1,Nm (cc oQ h.inc) hs]
theorem nN{l:List Sl}{p:ByteArray}(h:∀a,(Value.string p,a)∉Jk l):Ph l p=-1:=by
 unfold Ph;rw[show Cb l p=none from Ek.2 fun s hs e=>h _ (Am.2 ⟨s,hs,by rw[←BG e]⟩)]
theorem ap{l m:List Sl}{ps:List ByteArray}{k:Nat}(h:k<ps.length):L1 l m (ps.take (k+1))=L1 l m (ps.take k)++(Wc l m ps[k]).toList:=by
 unfold L1;rw[MH h,List.filterMap_append]
 congr 1
theorem qT(l:List Sl)(hl:NW l):Be Tryz.prog 101 [sl Ae l] (Aj [] Ab) fun r h'=>r=.tup [.mref 2000,vb true]∧h'=Aj [(2000,.map C3 (Jk l))] Ab:=by
 have hfl:l.length≤1073741824:=hl.few;refine Cm (Mo ⟨[],[],[],[],[],[],[],[],[],[],[6,7,8]⟩) [(9,2000)] rfl CL hm rfl Tryz.func101 (by kernel_rfl) rfl (Nz rfl) (by kernel_rfl) rfl ?_;refine Xi {q:Nat // q≤l.length} (Xi (fun q=>⟨[(0,sl Ae l),(4,.mref 9),(10,sl Ae l),(11,vi (l.map Ae).length),(12,vi q.1)],[(9,.map C3 (Jk (l.take q.1)))],Ab⟩) (Xi (fun q=>l.length-q.1) (Yi (Xi ⟨0,AM _⟩ ?_) ?_)))
 ·exact⟨Z5,Z1,Fh,Ax (by kernel_rfl)⟩
 intro⟨i,i1⟩;have i1:i≤l.length:=i1;refine Yi (fun h1=>?_) (fun h1=>?_)
 ·have h1:(i:Int)<((l.map Ae).length:Int):=h1;have n1:=Jy h1;refine Xi (Ae l[i]) (Yi (NP n1) (Yi rfl ?_));refine Yi (Nz rfl) ?_;refine Yi (Nz rfl) ?_;refine Yi (Nz rfl) ?_;refine Xi .pure (Xi _ (Yi (by have q:=rM l[i].ver;rw[Az (hl.val _ (Ao n1)),Az (hl.val _ (Ao n1))]at q;exact q) ?_));refine Xi ⟨[(0,sl Ae l),(4,.mref 9),(5,vi i),(6,.ref 6 0),(7,vi (place l[i].ver)),(8,vi 0),(10,sl Ae l),(11,vi (l.map Ae).length),(12,vi i)],[(6,.cells (Ae l[i])),(9,.map C3 (Jk (l.take i)))],Ab⟩ (Yi ⟨Z9,Z2,Fh,Ax (by kernel_rfl)⟩ ?_)
  refine Yi (fun h=>absurd h (by decide)) (fun _=>?_);refine Yi (fun h2=>?_) (fun h2=>?_)
  ·have h2:(0:Int)<(i:Int):=h2;refine Yi (by show BY ((i:Int)-(1:Int));unfold BY;omega) ?_;have fq:0<i:=by omega
   refine Xi (Ae (l[i-1])) (Yi (Yi (show(0:Int)≤(i:Int)-1 by omega) (by rw[show((i:Int)-1).toNat=i-1 by omega];exact Cg (Ge (by omega)))) (Yi rfl ?_));refine Yi (fun h3=>?_) (fun h3=>?_)
   ·have h3:Ff (l[i-1]).path l[i].path=false:=(HW _ _).trans h3;exact absurd (hl.step n1 fq) (by rw[h3];decide)
   have h3:Ff (l[i-1]).path l[i].path=true:=(HW _ _).trans (by simpa using h3);refine Yi (by kernel_rfl) ?_;refine Xi ⟨[(0,sl Ae l),(4,.mref 9),(6,.ref 6 0),(7,vi (place l[i].ver)),(10,sl Ae l),(11,vi (l.map Ae).length),(12,vi i)],[(6,.cells (Ae l[i])),(9,.map C3 (Jk (l.take i)))],Ab⟩ (Yi ⟨Z7,Z2,Fh,Ax (by kernel_rfl)⟩ ?_)
   refine Yi (Ii i (by omega)) ?_;refine Xi ⟨i+1,n1⟩ ?_;exact⟨Dl l.length i (by omega),Z5,⟨⟨(show HO.map C3 (EP (Jk (l.take i)) (.string l[i].path) (vi (place l[i].ver)))=.map C3 (Jk (l.take (i+1))) by rw[Ky (gN hl n1),MH n1];unfold Jk;rw[AH];rfl),rfl⟩,Tv⟩,Fh,Ax (by kernel_rfl)⟩
  have h2:¬((0:Int)<(i:Int)):=h2;refine Yi (by kernel_rfl) ?_;refine Xi ⟨[(0,sl Ae l),(4,.mref 9),(6,.ref 6 0),(7,vi (place l[i].ver)),(10,sl Ae l),(11,vi (l.map Ae).length),(12,vi i)],[(6,.cells (Ae l[i])),(9,.map C3 (Jk (l.take i)))],Ab⟩ (Yi ⟨Z7,Z2,Fh,Ax (by kernel_rfl)⟩ ?_)
  refine Yi (Ii i (by omega)) ?_;refine Xi ⟨i+1,n1⟩ ?_;exact⟨Dl l.length i (by omega),Z5,⟨⟨(show HO.map C3 (EP (Jk (l.take i)) (.string l[i].path) (vi (place l[i].ver)))=.map C3 (Jk (l.take (i+1))) by rw[Ky (gN hl n1),MH n1];unfold Jk;rw[AH];rfl),rfl⟩,Tv⟩,Fh,Ax (by kernel_rfl)⟩
 have h1:¬((i:Int)<((l.map Ae).length:Int)):=h1;have n1:=Jx h1;have ei:l.take i=l:=AT (by have q:=h1;rw[Lm]at q;omega);exact Xi _ (Yi (.refl _) ⟨rfl,show Aj [(2000,HO.map C3 (Jk (l.take i)))] Ab=Aj [(2000,.map C3 (Jk l))] Ab by rw[ei]⟩)
theorem qU(l:List Sl)(p:ByteArray)(hl:NW l):PC 103 [.cmap C3 (Jk l),vs p] (vi (Ph l p)):=by
 refine Ps ⟨[],[],[],[],[],[],[],[],[],[],[4]⟩ Tryz.func103 rfl (Nz rfl) ?_;refine Yi (fun a ha=>?_) (fun QZ=>?_)
 ·have ea:=nM hl ha;subst ea;exact .refl _
 refine Xi ⟨[],[],Ab⟩ (Yi ⟨Tv,Tv,Fh,Tv⟩ ?_)
 exact .of_eq (show vi (-1)=vi (Ph l p) by rw[nN QZ])
theorem o75(l m:List Sl)(t:List ByteArray)(hl:NW l)(xu:NW m)(zt:l.length+m.length≤1073741824)(DD:l++m≠[])(hp:t.Perm ((l++m).map (·.path)))(ht:(t.map ZL).Pairwise fun a b=>a≤b):PC 75 [sl Ae l,sl Ae m] (.tup [sl EL (L1 l m (B7 t)),vi 0]):=by
 obtain⟨LM,mR⟩:∃LM,LM=l++m:=⟨_,rfl⟩;have hm:=xu;rw[←mR]at hp;have wZ:LM.length=l.length+m.length:=by rw[mR,Ad]
 have r4:l.length≤1073741824:=hl.few;have lA:m.length≤1073741824:=xu.few;refine FZ (dn ⟨[],[(14,3)],[(10,1)],[(34,[12000,12500])],[],[],[],[],[],[],[3,6,7,8,9,11,13,14,15,16,17,18,19,21]⟩) rfl CL Go.Eng.hm rfl Tryz.func75 (by kernel_rfl) rfl (Nz rfl) (by kernel_rfl) ?_;refine Xi (.gen [] 1) (Yi rfl (Be.to2 (qT l hl) ?_));refine Xi (.gen [] 1) (Yi rfl (Be.to2 (qT m hm) ?_));refine Xi ⟨[(0,sl Ae l),(1,sl Ae m),(6,.mref 12000),(7,vb true),(8,.mref 12500),(9,vb true)],[(12000,.map C3 (Jk l)),(12500,.map C3 (Jk m))],Ab⟩ (Yi ⟨Z6,Z2,Fh,Tv⟩ ?_)
 refine Xi ⟨[(0,sl Ae l),(1,sl Ae m),(6,.mref 12000),(8,.mref 12500),(10,.msl 10 0)],[(10,.arr 1 []),(12000,.map C3 (Jk l)),(12500,.map C3 (Jk m))],Ab⟩ (Yi ⟨Z5,Z3,Fh,Tv⟩ ?_)
 refine Xi (.gen [] 1) (Yi rfl (Be.to2 (pq l hl.few) ?_));have b4:Dp 4 (m.map Ae)∧(l.map Ae).length=(l.map Ae).length∧((l.map Ae).length+(m.map Ae).length)*40≤140737488355328∧(l.map Ae).length+(m.map Ae).length≤9223372036854775807:=⟨(Ez (enc:=Ae) (n:=4) (fun _=>rfl) m),rfl,(by simp only[Lm];omega),(by simp only[Lm];omega)⟩;refine Yi b4 ?_;refine Xi {q:Nat×List ByteArray // q.1≤LM.length∧q.2=(LM.take q.1).map (·.path)} (Xi (fun q=>⟨[(6,.mref 12000),(8,.mref 12500),(10,.msl 10 q.1.2.length),(37,.slice (.id 13500 4) (LM.map Ae)),(38,vi (LM.length:Nat)),(39,vi q.1.1)],[(10,.arr 1 (q.1.2.map DL)),(12000,.rom C3 (Jk l)),(12500,.rom C3 (Jk m)),(13500,.tok 4 LM.length)],Ab⟩) (Xi (fun q=>LM.length-q.1.1) (Yi (Xi ⟨(0,[]),AM _,rfl⟩ ?_) ?_)))
 ·exact⟨⟨Zr,Zr,Zr,⟨(show AV.slice (.id 13500 4) (l.map Ae++m.map Ae)=.slice (.id 13500 4) (LM.map Ae) by rw[mR,AH]),rfl⟩,⟨(show vi ((l.map Ae++m.map Ae:List (List AV)).length:Int)=vi ((LM.length:Nat):Int) by rw[mR,Ad,Ad,Lm,Lm]),rfl⟩,Zr,Tv⟩,⟨Zr,Zr,Zr,⟨(show HO.tok 4 ((l.map Ae).length+(m.map Ae).length)=.tok 4 LM.length by rw[mR,Ad,Lm,Lm]),rfl⟩,Tv⟩,Fh,Tv⟩
 intro⟨⟨i,P⟩,i1,i2⟩;have i1:i≤LM.length:=i1;have i2:P=(LM.take i).map (·.path):=i2;have i3:P.length≤i:=by rw[i2,Lm,AJ];omega
 refine Xi ⟨[(6,.mref 12000),(8,.mref 12500),(10,.msl 10 P.length),(37,.slice (.id 13500 4) (LM.map Ae)),(38,vi (LM.length:Nat)),(39,vi i)],[(10,.arr 1 (P.map DL)),(12000,.rom C3 (Jk l)),(12500,.rom C3 (Jk m)),(13500,.tok 4 LM.length)],Ab⟩ (Yi ⟨Z6,Z4,Fh,Tv⟩ ?_)
 refine Yi (fun h5=>?_) (fun h5=>?_)
 ·have h5:(i:Int)<((LM.length:Nat):Int):=h5;have n5:i<LM.length:=by omega
  refine Xi ⟨[(6,.mref 12000),(8,.mref 12500),(10,.msl 10 P.length),(37,.slice (.id 13500 4) (LM.map Ae)),(38,vi (LM.length:Nat)),(39,vi i)],[(10,.arr 1 (P.map DL)),(12000,.rom C3 (Jk l)),(12500,.rom C3 (Jk m)),(13500,.tok 4 LM.length)],Ab⟩ (Yi ⟨Z6,Z4,Fh,Tv⟩ ?_)
  refine Xi (Ae LM[i]) (Yi (NP n5) (Yi rfl ?_));refine Yi (Nz rfl) ?_;refine Yi (Nz rfl) ?_;refine Xi ⟨[(6,.mref 12000),(8,.mref 12500),(10,.msl 10 P.length),(12,.ref 12 0),(37,.slice (.id 13500 4) (LM.map Ae)),(38,vi (LM.length:Nat)),(39,vi i)],[(10,.arr 1 (P.map DL)),(12,.cells (Ae LM[i])),(12000,.rom C3 (Jk l)),(12500,.rom C3 (Jk m)),(13500,.tok 4 LM.length)],Ab⟩ (Yi ⟨Z7,Z5,Fh,Tv⟩ ?_)
  have b6:Dp 1 [[vs LM[i].path]]∧(P.map DL).length=P.length∧((P.map DL).length+([[vs LM[i].path]]:List (List AV)).length)*16≤140737488355328∧(P.map DL).length+([[vs LM[i].path]]:List (List AV)).length≤9223372036854775807:=⟨⟨rfl,trivial⟩,(by rw[Lm]),(by simp only[Lm,At,AC];omega),(by simp only[Lm,At,AC];omega)⟩;refine Yi b6 ?_;refine Yi (Ii i (by omega)) ?_;refine Xi ⟨(i+1,P++[LM[i].path]),n5,by show P++[LM[i].path]=_;rw[MH n5,AH,i2];rfl⟩ ?_;exact⟨Dl LM.length i (by omega),⟨Zr,Zr,⟨(show AV.msl 10 ((P.map DL).length+([[vs LM[i].path]]:List (List AV)).length)=.msl 10 (P++[LM[i].path]).length by rw[Ad,Lm];rfl),rfl⟩,Zr,Zr,Zr,Tv⟩,⟨⟨(show HO.arr 1 (P.map DL++[[vs LM[i].path]])=.arr 1 ((P++[LM[i].path]).map DL) by rw[AH];rfl),rfl⟩,Zr,Zr,Zr,Tv⟩,Fh,Tv⟩
 have h5:¬((i:Int)<((LM.length:Nat):Int)):=h5;have rS:P=LM.map (·.path):=by rw[i2,AT (by have q:=h5;omega)]
 have w6:Cn P:=by unfold Cn;rw[rS,Lm,mR,Ad];exact zt
 have w7:P≠[]:=fun e=>by rw[rS]at e;exact DD (by rw[←mR];exact Dr.1 e)
 have tR:t.length=P.length:=by rw[rS];exact hp.length_eq
 have nt:t.length≤1073741824:=by rw[tR];exact w6
 have uP:t≠[]:=fun e=>w7 (AB (by rw[←tR,e];rfl));have hcl:(B7 t).length≤t.length:=by unfold B7;rw[Lm];exact A5 (Qr _) (by rw[Lm];exact Ak _)
 refine Xi ⟨[(6,.mref 12000),(8,.mref 12500),(10,.msl 10 P.length)],[(10,.arr 1 (P.map DL)),(12000,.rom C3 (Jk l)),(12500,.rom C3 (Jk m))],Ab⟩ (Yi ⟨Z3,Z3,Fh,Tv⟩ ?_)
 refine Xi (.gen [(10,1000)] 0) (Yi rfl (Be.to2 (u7 P t w6 w7 (by rw[rS];exact hp) ht) ?_));refine Xi ⟨[(6,.mref 12000),(8,.mref 12500),(10,.msl 10 P.length),(13,.v (.func (.func 103) #[] #[]))],[(10,.arr 1 (t.map DL)),(12000,.rom C3 (Jk l)),(12500,.rom C3 (Jk m))],Ab⟩ (Yi ⟨Z4,Z3,Fh,Tv⟩ ?_)
 refine Xi ⟨[(6,.mref 12000),(8,.mref 12500),(10,.msl 10 t.length),(13,.v (.func (.func 103) #[] #[])),(14,.slice (.id 14 3) [])],[(10,.arr 1 (t.map DL)),(14,.tok 3 0),(12000,.rom C3 (Jk l)),(12500,.rom C3 (Jk m))],Ab⟩ (Yi ⟨⟨Zr,Zr,⟨(Ac (AV.msl 10) tR.symm),rfl⟩,Zr,Zr,Tv⟩,Z4,Fh,Tv⟩ ?_)
 refine Xi (.gen [(10,1000)] 1) (Yi rfl (Be.to2 (u9 t (by unfold Cn;omega) uP) ?_));refine Xi {q:Nat×List Mv // q.1≤(B7 t).length∧q.2=L1 l m ((B7 t).take q.1)} (Xi (fun q=>⟨[(6,.mref 12000),(8,.mref 12500),(13,.v (.func (.func 103) #[] #[])),(14,.slice (.id 14 3) (q.1.2.map EL)),(52,.msl 15200 (B7 t).length),(53,vi (B7 t).length),(54,vi q.1.1)],[(14,.tok 3 q.1.2.length),(12000,.rom C3 (Jk l)),(12500,.rom C3 (Jk m)),(15200,.arr 1 ((B7 t).map DL))],Ab⟩) (Xi (fun q=>(B7 t).length-q.1.1) (Yi (Xi ⟨(0,[]),AM _,rfl⟩ ?_) ?_)))
 ·exact⟨Z7,Z4,Fh,Tv⟩
 intro⟨⟨k,O⟩,k1,k2⟩;have k1:k≤(B7 t).length:=k1;have k2:O=L1 l m ((B7 t).take k):=k2;have k3:O.length≤k:=by rw[k2];exact A5 (List.length_filterMap_le ..) (by rw[AJ];omega)
 refine Xi ⟨[(6,.mref 12000),(8,.mref 12500),(13,.v (.func (.func 103) #[] #[])),(14,.slice (.id 14 3) (O.map EL)),(52,.msl 15200 (B7 t).length),(53,vi (B7 t).length),(54,vi k)],[(14,.tok 3 O.length),(12000,.rom C3 (Jk l)),(12500,.rom C3 (Jk m)),(15200,.arr 1 ((B7 t).map DL))],Ab⟩ (Yi ⟨Z7,Z4,Fh,Tv⟩ ?_)
 refine Yi (fun Sq=>?_) (fun Sq=>?_)
 ·have Sq:(k:Int)<((B7 t).length:Int):=Sq;have nb:k<(B7 t).length:=by omega
  have n10:=nb;have gb:(B7 t)[k]?=some (B7 t)[k]:=Ge nb;refine Xi ⟨[(6,.mref 12000),(8,.mref 12500),(13,.v (.func (.func 103) #[] #[])),(14,.slice (.id 14 3) (O.map EL)),(52,.msl 15200 (B7 t).length),(53,vi (B7 t).length),(54,vi k)],[(14,.tok 3 O.length),(12000,.rom C3 (Jk l)),(12500,.rom C3 (Jk m)),(15200,.arr 1 ((B7 t).map DL))],Ab⟩ (Yi ⟨Z7,Z4,Fh,Tv⟩ ?_)
  refine Yi (by show(0:Int)≤k∧(k:Int)<((B7 t).length:Nat);omega) ?_;refine Yi (show(B7 t).length=((B7 t).map DL).length by rw[Lm]) (Xi (DL ((B7 t)[k])) (Yi (Cg gb) ?_));refine Xi ⟨[(6,.mref 12000),(8,.mref 12500),(13,.v (.func (.func 103) #[] #[])),(14,.slice (.id 14 3) (O.map EL)),(16,vs ((B7 t)[k])),(52,.msl 15200 (B7 t).length),(53,vi (B7 t).length),(54,vi k)],[(14,.tok 3 O.length),(12000,.rom C3 (Jk l)),(12500,.rom C3 (Jk m)),(15200,.arr 1 ((B7 t).map DL))],Ab⟩ (Yi ⟨Z8,Z4,Fh,Tv⟩ ?_)
  refine Xi .pure (Xi _ (Yi (qU l (B7 t)[k] hl) ?_));refine Xi .pure (Xi _ (Yi (qU m (B7 t)[k] hm) ?_));refine Yi (Nz rfl) ?_;refine Xi ⟨[(6,.mref 12000),(8,.mref 12500),(13,.v (.func (.func 103) #[] #[])),(14,.slice (.id 14 3) (O.map EL)),(17,.ref 17 0),(52,.msl 15200 (B7 t).length),(53,vi (B7 t).length),(54,vi k)],[(14,.tok 3 O.length),(17,.cells [vs ((B7 t)[k]),vi (Ph l (B7 t)[k]),vi (Ph m (B7 t)[k])]),(12000,.rom C3 (Jk l)),(12500,.rom C3 (Jk m)),(15200,.arr 1 ((B7 t).map DL))],Ab⟩ (Yi ⟨Z8,Z5,Fh,Tv⟩ ?_)
  refine Yi (fun Jr=>?_) (fun Jr=>?_)
  ·have Jr:((Ph l (B7 t)[k]):Int)≠((Ph m (B7 t)[k]):Int):=Jr;refine Xi ⟨[(6,.mref 12000),(8,.mref 12500),(13,.v (.func (.func 103) #[] #[])),(14,.slice (.id 14 3) (O.map EL)),(17,.ref 17 0),(52,.msl 15200 (B7 t).length),(53,vi (B7 t).length),(54,vi k)],[(14,.tok 3 O.length),(17,.cells [vs ((B7 t)[k]),vi (Ph l (B7 t)[k]),vi (Ph m (B7 t)[k])]),(12000,.rom C3 (Jk l)),(12500,.rom C3 (Jk m)),(15200,.arr 1 ((B7 t).map DL))],Ab⟩ (Yi ⟨Z8,Z5,Fh,Tv⟩ ?_)
   refine Yi (Nz rfl) ?_;refine Yi (Pf rfl (by omega) (by decide)) ?_;refine Yi (Ii k (by omega)) ?_;have eO:=ap (l:=l) (m:=m) n10;have eM:Wc l m (B7 t)[k]=some ⟨(B7 t)[k],(Ph l (B7 t)[k]),(Ph m (B7 t)[k])⟩:=Az Jr;rw[eM]at eO;refine Xi ⟨(k+1,(O++[(⟨(B7 t)[k],(Ph l (B7 t)[k]),(Ph m (B7 t)[k])⟩:Mv)])),n10,by show(O++[(⟨(B7 t)[k],(Ph l (B7 t)[k]),(Ph m (B7 t)[k])⟩:Mv)])=_;rw[eO,k2];rfl⟩ ?_;exact⟨by show(B7 t).length-(k+1)<(B7 t).length-k;omega,⟨Zr,Zr,Zr,⟨(show AV.slice (.id 14 3) (O.map EL++[[vs (B7 t)[k],vi (Ph l (B7 t)[k]),vi (Ph m (B7 t)[k])]])=.slice (.id 14 3) ((O++[(⟨(B7 t)[k],(Ph l (B7 t)[k]),(Ph m (B7 t)[k])⟩:Mv)]).map EL) by rw[AH];rfl),rfl⟩,Zr,Zr,Zr,Tv⟩,⟨⟨T5,rfl⟩,Zr,Zr,Zr,Tv⟩,Fh,Tv⟩
  have Jr:((Ph l (B7 t)[k]):Int)=((Ph m (B7 t)[k]):Int):=Br Jr;refine Yi (Ii k (by omega)) ?_;have eO:=ap (l:=l) (m:=m) n10;have eM:Wc l m (B7 t)[k]=none:=Al (fun c=>c Jr);rw[eM]at eO;rw[show(none:Option Mv).toList=[]from rfl,B3]at eO;refine Xi ⟨(k+1,O),n10,by show O=_;rw[eO,k2]⟩ ?_;exact⟨by show(B7 t).length-(k+1)<(B7 t).length-k;omega,Z7,Z4,Fh,Tv⟩
 have Sq:¬((k:Int)<((B7 t).length:Int)):=Sq;refine Xi ⟨[(14,.slice (.id 14 3) (O.map EL))],[(14,.tok 3 O.length)],Ab⟩ (Yi ⟨Z1,Z1,Fh,Tv⟩ ?_)
 have ek:(B7 t).take k=B7 t:=AT (by omega);have eO:O=L1 l m (B7 t):=by rw[k2,ek]
 exact .of_eq (Ac (fun z=>AV.tup [sl EL z,vi 0]) eO)
def EA(w:Wk):Bool:=w.exc.all (fun s=>decide (s.path.size≤100))&&w.pin.all (fun s=>decide (s.path.size≤100))&&(Jo w.rep 8&&decide (w.exc.length≤12)&&decide (w.pin.length≤8))
theorem dF{l:List Sl}{i:Nat}(h:i<l.length)(hb:¬(l[i].path.size:Int)≤100):(l.all fun s=>decide (s.path.size≤100))=false:=by
 rw[List.all_eq_false];exact⟨l[i],Ao h,by simp;omega⟩
theorem LE{l:List Sl}(h:∀j (hj:j<l.length),(l[j].path.size:Int)≤100):(l.all fun s=>decide (s.path.size≤100))=true:=by
 rw[Bq];intro s hs;obtain⟨j,hj,rfl⟩:=Dz.1 hs
 have:=h j hj
 simp;omega
structure Lr(w:Wk):Prop where
 rep:w.rep.length≤1048576
 exc:w.exc.length≤1048576
 pin:w.pin.length≤1048576
 rl:∀r∈w.rep,Cn r.reqs∧Ka r
 excs:∀s∈w.exc,Gn s.path
 pins:∀s∈w.pin,Gn s.path
theorem Lr.few{w:Wk}(h:Lr w):WD w:=⟨fun r hr=>(h.rl r hr).2,A5 h.rep (by decide),A5 h.exc (by decide),A5 h.pin (by decide),h.excs,h.pins⟩
theorem Lr.qs{w:Wk}(h:Lr w):ZF w.rep:=fun r hr=>⟨(h.rl r hr).1,fun q hq=>((h.rl r hr).2.2 q hq).1⟩
theorem Lr.rq{w:Wk}(h:Lr w):∀r∈w.rep,Cn r.reqs:=fun r hr=>(h.rl r hr).1
theorem lS(w:Wk)(hW:Lr w):PC 16 [.agg (Bg w)] (vb (EA w)):=by
 have rU:w.exc.length≤1048576:=hW.exc;have hW2:w.pin.length≤1048576:=hW.pin;refine Ps ⟨[1],[],[],[],[],[],[],[],[],[],[3,5,8,10]⟩ Tryz.func16 rfl (Nz rfl) ?_;refine Xi {q:Nat // q≤w.exc.length∧∀j (hj:j<w.exc.length),j<q→(w.exc[j].path.size:Int)≤100} (Xi (fun q=>⟨[(1,.ref 1 0),(3,vi q.1)],[(1,.ro (Bg w))],Ab⟩) (Xi (fun q=>w.exc.length-q.1) (Yi (Xi ⟨0,AM _,fun _ _ h=>absurd h (Du _)⟩ ?_) ?_)))
 ·exact⟨Z2,Z1,Fh,Tv⟩
 intro⟨i,i1,i2⟩;have i1:i≤w.exc.length:=i1;have i2:∀j (hj:j<w.exc.length),j<i→(w.exc[j].path.size:Int)≤100:=i2;refine Yi (fun h1=>?_) (fun h1=>?_)
 ·have h1:(i:Int)<((w.exc.map Ae).length:Int):=h1;have n1:=Jy h1;refine Xi (Ae w.exc[i]) (Yi (NP n1) (Yi rfl ?_));refine Yi (fun h2=>?_) (fun h2=>?_)
  ·have h2:(100:Int)<(w.exc[i].path.size:Int):=h2;refine Xi ⟨[],[],Ab⟩ (Yi ⟨Tv,Tv,Fh,Tv⟩ ?_)
   exact .of_eq (show vb false=vb (EA w) by unfold EA;rw[dF (l:=w.exc) n1 (TQ.2 h2),Bool.false_and,Bool.false_and])
  have h2:¬((100:Int)<(w.exc[i].path.size:Int)):=h2;refine Xi ⟨[(1,.ref 1 0),(3,vi i)],[(1,.ro (Bg w))],Ab⟩ (Yi ⟨Z2,Z1,Fh,Tv⟩ ?_)
  refine Yi (Ii i (by omega)) ?_;refine Xi ⟨i+1,n1,fun j hj HL=>if e:j<i then i2 j hj e else by
    have e:j=i:=by omega
    subst e;exact Int.not_lt.1 h2⟩ ?_
  exact⟨Dl w.exc.length i (by omega),Z2,Z1,Fh,Tv⟩
 have h1:¬((i:Int)<((w.exc.map Ae).length:Int)):=h1;have n1:=Jx h1;refine Xi {q:Nat // q≤w.pin.length∧∀j (hj:j<w.pin.length),j<q→(w.pin[j].path.size:Int)≤100} (Xi (fun q=>⟨[(1,.ref 1 0),(4,vi q.1)],[(1,.ro (Bg w))],Ab⟩) (Xi (fun q=>w.pin.length-q.1) (Yi (Xi ⟨0,AM _,fun _ _ h=>absurd h (Du _)⟩ ?_) ?_)))
 ·exact⟨Z2,Z1,Fh,Tv⟩
 intro⟨k,k1,k2⟩;have k1:k≤w.pin.length:=k1;have k2:∀j (hj:j<w.pin.length),j<k→(w.pin[j].path.size:Int)≤100:=k2;refine Yi (fun h5=>?_) (fun h5=>?_)
 ·have h5:(k:Int)<((w.pin.map Ae).length:Int):=h5;have n5:=Jy h5;refine Xi (Ae w.pin[k]) (Yi (NP n5) (Yi rfl ?_));refine Yi (fun h6=>?_) (fun h6=>?_)
  ·have h6:(100:Int)<(w.pin[k].path.size:Int):=h6;refine Xi ⟨[],[],Ab⟩ (Yi ⟨Tv,Tv,Fh,Tv⟩ ?_)
   exact .of_eq (show vb false=vb (EA w) by unfold EA;rw[dF (l:=w.pin) n5 (TQ.2 h6),DH,Bool.false_and])
  have h6:¬((100:Int)<(w.pin[k].path.size:Int)):=h6;refine Xi ⟨[(1,.ref 1 0),(4,vi k)],[(1,.ro (Bg w))],Ab⟩ (Yi ⟨Z2,Z1,Fh,Tv⟩ ?_)
  refine Yi (Ii k (by omega)) ?_;refine Xi ⟨k+1,n5,fun j hj HL=>if e:j<k then k2 j hj e else by
    have e:j=k:=by omega
    subst e;exact Int.not_lt.1 h6⟩ ?_
  exact⟨Dl w.pin.length k (by omega),Z2,Z1,Fh,Tv⟩
 have h5:¬((k:Int)<((w.pin.map Ae).length:Int)):=h5;have n5:=Jx h5;refine BN (Bt (Jo w.rep 8)) (fun h9=>?_) (fun h9=>?_)
 ·have h9:(Jo w.rep 8)=true:=h9;refine Xi .pure (Xi _ (Yi (cb h9 (wI w.rep 8 (A5 hW.rep (by decide)) hW.rq)) ?_));refine Yi (fun Sq=>?_) (fun Sq=>?_)
  ·have Sq:((w.exc.map Ae).length:Int)≤(12:Int):=Sq;refine Yi (fun Jr=>?_) (fun Jr=>?_)
   ·have Jr:((w.pin.map Ae).length:Int)≤(8:Int):=Jr;have e1:=LE fun j hj=>i2 j hj (by have q:=h1;rw[Lm]at q;omega);have e2:=LE fun j hj=>k2 j hj (by have q:=h5;rw[Lm]at q;omega);exact .of_eq (show vb true=vb (EA w) by unfold EA;rw[e1,e2,h9,Aw (by have q:=Sq;rw[Lm]at q;omega),Aw (by have q:=Jr;rw[Lm]at q;omega)];rfl)
   have Jr:¬(((w.pin.map Ae).length:Int)≤(8:Int)):=Jr;have e1:=LE fun j hj=>i2 j hj (by have q:=h1;rw[Lm]at q;omega);have e2:=LE fun j hj=>k2 j hj (by have q:=h5;rw[Lm]at q;omega);exact .of_eq (show vb false=vb (EA w) by unfold EA;rw[e1,e2,h9,Aw (by have q:=Sq;rw[Lm]at q;omega),Ap (by have q:=Jr;rw[Lm]at q;omega)];simp)
  have Sq:¬(((w.exc.map Ae).length:Int)≤(12:Int)):=Sq;have e1:=LE fun j hj=>i2 j hj (by have q:=h1;rw[Lm]at q;omega);have e2:=LE fun j hj=>k2 j hj (by have q:=h5;rw[Lm]at q;omega);exact .of_eq (show vb false=vb (EA w) by unfold EA;rw[e1,e2,h9,Ap (by have q:=Sq;rw[Lm]at q;omega)];simp)
 have h9:(Jo w.rep 8)=false:=h9;refine Xi .pure (Xi _ (Yi (cb h9 (wI w.rep 8 (A5 hW.rep (by decide)) hW.rq)) ?_));have e1:=LE fun j hj=>i2 j hj (by have q:=h1;rw[Lm]at q;omega);have e2:=LE fun j hj=>k2 j hj (by have q:=h5;rw[Lm]at q;omega);exact .of_eq (show vb false=vb (EA w) by unfold EA;rw[e1,e2,h9];simp)
theorem o34(x y:List Rl)(ifs sj:List (List AV))(roots:List Rq)(w:Wk)(a b:List Sl)(ms:List Mv)(Jr:PC 11 [Rb x ifs,.agg (Bg w)] (.tup [Rb y sj,vi 0]))(h1:PC 30 [Rb x ifs,sl AN roots] (.tup [sl Ae a,vi 0]))(h2:PC 30 [Rb y sj,sl AN roots] (.tup [sl Ae b,vi 0]))(rQ:PC 75 [sl Ae a,sl Ae b] (.tup [sl EL ms,vi 0])):PC 34 [Rb x ifs,sl AN roots,.agg (Bg w)] (.tup [sl EL ms,vi 0]):=by
 refine Ps ⟨[3,5,8],[],[],[],[],[],[],[],[],[],[2,5,8]⟩ Tryz.func34 rfl (Nz rfl) ?_;refine Yi (Nz rfl) ?_;refine Yi (Nz rfl) ?_;refine Xi .pure (Xi _ (Yi Jr ?_));refine Yi (Nz rfl) ?_;refine Xi ⟨[(1,sl AN roots),(3,.ref 3 0),(8,.ref 8 0),(9,vi 0)],[(3,.ro (Ic x ifs)),(8,.ro [sl Ah y,.slice .none sj])],Ab⟩ (Yi ⟨Z4,Z2,Fh,Tv⟩ ?_)
 refine Yi (fun h=>absurd h (by decide)) (fun _=>?_);refine Yi (Nz rfl) ?_;refine Xi .pure (Xi _ (Yi h1 ?_));refine Xi ⟨[(1,sl AN roots),(8,.ref 8 0),(9,vi 0),(10,sl Ae a)],[(8,.ro [sl Ah y,.slice .none sj])],Ab⟩ (Yi ⟨Z4,Z1,Fh,Tv⟩ ?_)
 refine Yi (fun h=>absurd h (by decide)) (fun _=>?_);refine Yi (Nz rfl) ?_;refine Xi .pure (Xi _ (Yi h2 ?_));refine Xi ⟨[(9,vi 0),(10,sl Ae a),(11,sl Ae b)],[],Ab⟩ (Yi ⟨Z3,Tv,Fh,Tv⟩ ?_)
 refine Yi (fun h=>absurd h (by decide)) (fun _=>?_);refine Xi .pure (Xi _ (Yi rQ ?_));exact .refl _
end Go.Eng
