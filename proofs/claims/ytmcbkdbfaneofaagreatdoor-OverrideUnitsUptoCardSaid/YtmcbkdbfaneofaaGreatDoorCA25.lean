/- Lemmas for the claims of this seat, without a condition: part 25 (O9, O10, R14, R15, R16, R17, R18, R19, R20, R21, R22, R23, O11, O12, O13, O14, O16, O17, S15). -/
import Derived.Test.YtmcbkdbfaneofaaGreatDoorCA24
import Derived.Test.YtmcbkdbfaneofaaGreatDoorCA03
set_option maxHeartbeats 4000000
namespace Go.Eng
structure OC{α β:Type}(c:α→α→Int)(R:α→α→Prop)(key:α→β):Prop where
 lt:∀a b,c a b<0↔R a b
 eq:∀a b,c a b=0↔key a=key b
 tr:∀a b d,R a b→R b d→R a d
 irr:∀a b,key a=key b→¬R a b
 tri:∀a b,¬R a b→key a≠key b→R b a
 cl:∀a b d,key a=key b→R a d→R b d
section
variable {α β:Type}{c:α→α→Int}{R:α→α→Prop}{key:α→β}
theorem OC.gt(h:OC c R key){a b:α}(h1:¬c a b<0)(h2:¬c a b=0):R b a:=h.tri a b (fun q=>h1 ((h.lt a b).2 q)) (fun q=>h2 ((h.eq a b).2 q))
theorem HZ(h:OC c R key):∀(n:Nat) (a b:List α),a.length+b.length≤n→a.Pairwise R→b.Pairwise R→(Cs c n a b).Pairwise R
 |0,_,_,_,_,_=>.nil
 |n+1,a,b,hn,ha,hb=>by
  cases a with
  |nil =>
   cases b with
   |nil=>exact .nil
   |cons y b =>
    simp only[At,AC]at hn;obtain⟨h1,h2⟩:=BQ.1 hb;show(y::Cs c n [] b).Pairwise R;refine .cons (fun z hz=>?_) (HZ h n [] b (by simp only[AC];omega) ha h2);rcases EN n [] b z hz with hz | hz
    ·cases hz
    ·exact h1 z hz
  |cons x a =>
   obtain⟨g1,g2⟩:=BQ.1 ha;cases b with
   |nil =>
    simp only[At,AC]at hn;show(x::Cs c n a []).Pairwise R;refine .cons (fun z hz=>?_) (HZ h n a [] (by simp only[AC];omega) g2 hb);rcases EN n a [] z hz with hz | hz
    ·exact g1 z hz
    ·cases hz
   |cons y b =>
    obtain⟨h1,h2⟩:=BQ.1 hb;simp only[At]at hn;show(if c x y<0 then x::Cs c n a (y::b)else if c x y=0 then y::Cs c n a b else y::Cs c n (x::a) b).Pairwise R;split
    ·rename_i e;have e:=(h.lt x y).1 e;refine .cons (fun z hz=>?_) (HZ h n a (y::b) (by simp only[At];omega) g2 hb);rcases EN n a (y::b) z hz with hz | hz
     ·exact g1 z hz
     ·rcases Au.1 hz with rfl | hz
      ·exact e
      ·exact h.tr _ _ _ e (h1 z hz)
    ·split
     ·rename_i e;have e:=(h.eq x y).1 e;refine .cons (fun z hz=>?_) (HZ h n a b (by omega) g2 h2);rcases EN n a b z hz with hz | hz
      ·exact h.cl x y z e (g1 z hz)
      ·exact h1 z hz
     ·rename_i e1 e2;have e:=h.gt e1 e2;refine .cons (fun z hz=>?_) (HZ h n (x::a) b (by simp only[At];omega) ha h2);rcases EN n (x::a) b z hz with hz | hz
      ·rcases Au.1 hz with rfl | hz
       ·exact e
       ·exact h.tr _ _ _ e (g1 z hz)
      ·exact h1 z hz
theorem Zb(h:OC c R key){a b:List α}(ha:a.Pairwise R)(hb:b.Pairwise R):(A5 c a b).Pairwise R:=HZ h _ a b (Aj _) ha hb
theorem HY(h:OC c R key):∀(n:Nat) (a b:List α),a.length+b.length≤n→a.Pairwise R→b.Pairwise R→∀r,r∈Cs c n a b↔r∈b∨(r∈a∧∀s∈b,key r≠key s)
 |0,a,b,hn,_,_,r=>by
  have ha:a=[]:=AB (by omega);have hb:b=[]:=AB (by omega);subst ha;subst hb;simp[Cs]
 |n+1,a,b,hn,ha,hb,r=>by
  cases a with
  |nil =>
   cases b with
   |nil=>simp[Cs]
   |cons y b =>
    simp only[At,AC]at hn;obtain⟨h1,h2⟩:=BQ.1 hb;show r∈y::Cs c n [] b↔_;rw[Au,HY h n [] b (by simp only[AC];omega) ha h2];simp
  |cons x a =>
   obtain⟨g1,g2⟩:=BQ.1 ha;cases b with
   |nil =>
    simp only[At,AC]at hn;show r∈x::Cs c n a []↔_;rw[Au,HY h n a [] (by simp only[AC];omega) g2 hb];simp
   |cons y b =>
    obtain⟨h1,h2⟩:=BQ.1 hb;simp only[At]at hn;show r∈(if c x y<0 then x::Cs c n a (y::b)else if c x y=0 then y::Cs c n a b else y::Cs c n (x::a) b)↔_;split
    ·rename_i e;have e:=(h.lt x y).1 e;rw[Au,HY h n a (y::b) (by simp only[At];omega) g2 hb];constructor
     ·rintro(rfl | hr | ⟨hr,hk⟩)
      ·refine .inr ⟨Aa ..,fun s hs=>?_⟩;intro hk;rcases Au.1 hs with rfl | hs
       ·exact h.irr _ _ hk e
       ·exact h.irr _ _ hk (h.tr _ _ _ e (h1 s hs))
      ·exact .inl hr
      ·exact .inr ⟨Af _ hr,hk⟩
     ·rintro(hr | ⟨hr,hk⟩)
      ·exact .inr (.inl hr)
      ·rcases Au.1 hr with rfl | hr
       ·exact .inl rfl
       ·exact .inr (.inr ⟨hr,hk⟩)
    ·split
     ·rename_i e;have e:=(h.eq x y).1 e;rw[Au,HY h n a b (by omega) g2 h2];constructor
      ·rintro(rfl | hr | ⟨hr,hk⟩)
       ·exact .inl (Aa ..)
       ·exact .inl (Af _ hr)
       ·refine .inr ⟨Af _ hr,fun s hs=>?_⟩;rcases Au.1 hs with rfl | hs
        ·exact fun q=>h.irr _ _ q.symm (h.cl _ _ _ e (g1 r hr))
        ·exact hk s hs
      ·rintro(hr | ⟨hr,hk⟩)
       ·exact(Au.1 hr).imp id .inl
       ·rcases Au.1 hr with rfl | hr
        ·exact absurd e (hk y (Aa ..))
        ·exact .inr (.inr ⟨hr,fun s hs=>hk s (Af _ hs)⟩)
     ·rename_i e1 e2;have e:=h.gt e1 e2;rw[Au,HY h n (x::a) b (by simp only[At];omega) ha h2];constructor
      ·rintro(rfl | hr | ⟨hr,hk⟩)
       ·exact .inl (Aa ..)
       ·exact .inl (Af _ hr)
       ·refine .inr ⟨hr,fun s hs=>?_⟩;rcases Au.1 hs with rfl | hs
        ·intro q;rcases Au.1 hr with rfl | hr
         ·exact h.irr _ _ q.symm e
         ·exact h.irr _ _ q.symm (h.tr _ _ _ e (g1 r hr))
        ·exact hk s hs
      ·rintro(hr | ⟨hr,hk⟩)
       ·exact(Au.1 hr).imp id .inl
       ·exact .inr (.inr ⟨hr,fun s hs=>hk s (Af _ hs)⟩)
theorem Za(h:OC c R key){a b:List α}(ha:a.Pairwise R)(hb:b.Pairwise R)(r:α):r∈A5 c a b↔r∈b∨(r∈a∧∀s∈b,key r≠key s):=HY h _ a b (Aj _) ha hb r
theorem ab(h:OC c R key):∀{a b:List α},a.Pairwise R→b.Pairwise R→(∀y,y∈a↔y∈b)→a=b
 | [],[],_,_,_=>rfl
 | [],y::b,_,_,e=>absurd ((e y).2 (Aa ..)) (by simp)
 |x::a,[],_,_,e=>absurd ((e x).1 (Aa ..)) (by simp)
 |x::a,y::b,ha,hb,e=>by
  obtain⟨g1,g2⟩:=BQ.1 ha;obtain⟨h1,h2⟩:=BQ.1 hb;have zJ:x=y:=by
   rcases Au.1 ((e x).1 (Aa ..))with q | q
   ·exact q
   ·rcases Au.1 ((e y).2 (Aa ..))with p | p
    ·exact p.symm
    ·exact absurd (h.tr _ _ _ (g1 y p) (h1 x q)) (h.irr _ _ rfl)
  subst zJ;rw[ab h g2 h2 fun z=>?_];constructor
  ·intro hz;rcases Au.1 ((e z).1 (Af _ hz))with q | q
   ·subst q;exact absurd (g1 z hz) (h.irr _ _ rfl)
   ·exact q
  ·intro hz;rcases Au.1 ((e z).2 (Af _ hz))with q | q
   ·subst q;exact absurd (h1 z hz) (h.irr _ _ rfl)
   ·exact q
theorem bZ(h:OC c R key){a:List α}(ha:a.Pairwise R):(a.map key).Nodup:=by
 unfold List.Nodup;rw[List.pairwise_map];exact ha.imp fun q e=>h.irr _ _ e q
end
/-! The three comparisons. -/
def du(a b:Sl):Prop:=Fa a.path b.path=true∨(a.path=b.path∧dv a.ver b.ver)
abbrev oy(a b:Sl):Prop:=Fa a.path b.path=true
theorem RU{a b:Int}:FH a b<0↔a<b:=by
 unfold FH;split
 ·rename_i h;simp[h]
 ·rename_i h;split<;>simp[h]
theorem F4{a b:Int}:FH a b=0↔a=b:=by
 unfold FH;split
 ·rename_i h;simp;omega
 ·rename_i h;split
  ·rename_i h2;simp;omega
  ·rename_i h2;simp;omega
theorem dY{a b:Ver}:LD a b<0↔dv a b:=by
 refine⟨ZM,fun h=>?_⟩;unfold LD;rcases h with h | ⟨h1,h | ⟨h2,h⟩⟩
 ·rw[Aw (fun c=>by have:=F4.1 c;omega)];exact RU.2 h
 ·rw[Ak (fun c=>c (F4.2 h1)),Aw (fun c=>by have:=F4.1 c;omega)];exact RU.2 h
 ·rw[Ak (fun c=>c (F4.2 h1)),Ak (fun c=>c (F4.2 h2))];exact RU.2 h
theorem YH{a b:Ver}:LD a b=0↔a=b:=by
 refine⟨UD,fun h=>?_⟩;subst h;unfold LD;rw[Ak (fun c=>c (F4.2 rfl)),Ak (fun c=>c (F4.2 rfl))];exact F4.2 rfl
theorem WX{a b:Sl}:F5 a b<0↔du a b:=by
 unfold F5 du
 by_cases h:a.path=b.path
 ·rw[Ak (fun c=>c (HR.2 h)),dY];exact⟨fun q=>.inr ⟨h,q⟩,fun q=>q.elim (fun q=>by rw[h,CY]at q;cases q) (·.2)⟩
 ·rw[Aw (fun c=>h (HR.1 c)),WW];exact⟨.inl,fun q=>q.elim id fun q=>absurd q.1 h⟩
theorem RW{a b:Sl}:F5 a b=0↔a=b:=by
 unfold F5
 by_cases h:a.path=b.path
 ·rw[Ak (fun c=>c (HR.2 h)),YH];constructor
  ·intro q;cases a;cases b;simp_all
  ·rintro rfl;rfl
 ·rw[Aw (fun c=>h (HR.1 c))];exact⟨fun q=>absurd (HR.1 q) h,fun q=>absurd (Ac Sl.path q) h⟩
theorem cg{a b d:Sl}(h:du a b)(k:du b d):du a d:=by
 rcases h with h | ⟨h1,h2⟩
 ·rcases k with k | ⟨k1,k2⟩
  ·exact .inl (D8 h k)
  ·exact .inl (k1▸h)
 ·rcases k with k | ⟨k1,k2⟩
  ·exact .inl (h1▸k)
  ·exact .inr ⟨h1.trans k1,U5 h2 k2⟩
theorem jT(a:Sl):¬du a a:=by
 rintro(h | ⟨_,h⟩)
 ·rw[CY]at h;cases h
 ·unfold dv at h;omega
theorem ai{a b:Sl}(h:¬du a b)(hk:a≠b):du b a:=by
 unfold du at *
 by_cases e:a.path=b.path
 ·refine .inr ⟨e.symm,?_⟩;have h2:¬dv a.ver b.ver:=fun q=>h (.inr ⟨e,q⟩);have h3:a.ver≠b.ver:=fun q=>hk (by cases a;cases b;simp_all);unfold dv at *
  by_cases q1:a.ver.a=b.ver.a
  ·by_cases q2:a.ver.b=b.ver.b
   ·by_cases q3:a.ver.c=b.ver.c
    ·exact absurd (by cases ha:a.ver;cases hb:b.ver;simp_all) h3
    ·omega
   ·omega
  ·omega
 ·cases q:Fa b.path a.path with
  |true=>exact .inl rfl
  |false =>
   cases p:Fa a.path b.path with
   |true=>exact absurd (.inl p) h
   |false=>exact absurd (Hi p q) e
theorem xG:OC F5 du (fun s:Sl=>s) where
 lt _ _:=WX
 eq _ _:=RW
 tr _ _ _:=cg
 irr a b e:=by subst e;exact jT a
 tri _ _:=ai
 cl _ _ _ e h:=by subst e;exact h
theorem ocR:OC CP ah Jh where
 lt a b:=WX (a:=Jh a) (b:=Jh b)
 eq a b:=RW (a:=Jh a) (b:=Jh b)
 tr _ _ _:=U4
 irr _ _ e h:=K2 h e
 tri a b h e:=ai (a:=Jh a) (b:=Jh b) h e
 cl a b d e h:=show du (Jh b) (Jh d)from(show Jh a=Jh b from e)▸h
theorem uY:OC No oy (fun s:Sl=>s.path) where
 lt _ _:=WW
 eq _ _:=HR
 tr _ _ _:=D8
 irr a b e h:=by rw[oy,e,CY]at h;cases h
 tri a b h e:=by
  cases q:Fa b.path a.path with
  |true=>exact q
  |false =>
   cases p:Fa a.path b.path with
   |true=>exact absurd p h
   |false=>exact absurd (Hi p q) e
 cl a b d e h:=by rw[oy,←e];exact h
/-! Pins. -/
/-! What the reference makes of a list. -/
theorem MI{α:Type}{l:List α}{i:Nat}(h:i<l.length):l.take (i+1)=l.take i++[l[i]]:=J7 h
theorem GY{w:Wk}(h:B4 w=0):Bb w.rep=0∧Hs F5 w.exc=true∧Hs No w.pin=true∧∀s∈w.pin,s∉w.exc:=by
 unfold B4 at h;split at h
 ·cases h
 ·rename_i h1;split at h
  ·cases h
  ·rename_i h2;simp only[not_or,Cg]at h1;refine⟨h1.1,by simpa using h1.2.1,by simpa using h1.2.2,fun s hs he=>h2 (Ba.2 ⟨s,hs,AA he⟩)⟩
theorem UR{c:Sl→Sl→Int}{R:Sl→Sl→Prop}{β:Type}{key:Sl→β}(hc:OC c R key){l:List Sl}(h:Hs c l=true):l.Pairwise R:=by
 have h:=Jb.1 h;rw[Bh];have step:∀(d i:Nat) (h1:i+d+1<l.length),R (l[i]'(by omega)) l[i+d+1]:=by
  intro d
  induction d with
  |zero =>
   intro i h1
   have:=(h (i+1) h1).2 (by omega)
   exact(hc.lt _ _).1 this
  |succ d ih =>
   intro i h1
   have:=(h (i+(d+1)+1) h1).2 (by omega)
   have e:=(hc.lt _ _).1 this;exact hc.tr _ _ _ (ih i (by omega)) e
 intro i j hi hj UO
 have:=step (j-i-1) i (by omega)
 have e:i+(j-i-1)+1=j:=by omega
 simp only[e]at this;exact this
theorem Ud{w:Wk}(h:B4 w=0):w.pin.Pairwise oy:=UR uY (GY h).2.2.1
theorem TX{w:Wk}(h:B4 w=0):w.exc.Pairwise du:=UR xG (GY h).2.1
end Go.Eng
namespace Go.Eng
open Go.Proofs
def ZS(p:ByteArray)(r:Rl):Bool:=decide (r.path=p)&&!r.yanked
def rj(r:Rl):Int×Int:=(plc r.ver,plc r.ver+1)
theorem bl{x:List Rl}{p:ByteArray}(h:Bb x=0):B7 x p=canon ((x.filter (ZS p)).map rj):=by
 unfold B7 JW;rw[Ak (not_not_intro h),List.filter_filter]
 congr 3
 funext r
 unfold ZS;rw[Bool.and_comm]
instance:DecidableEq Rq:=fun x y=>decidable_of_iff (x.path=y.path∧x.set=y.set) ⟨fun⟨h1,h2⟩=>by cases x;cases y;simp_all,fun h=>by subst h;exact Zr⟩
instance:DecidableEq Rl:=fun x y=>decidable_of_iff (x.path=y.path∧x.ver=y.ver∧x.reqs=y.reqs∧x.arch=y.arch∧x.ifc=y.ifc∧x.cert=y.cert∧x.yanked=y.yanked) ⟨fun⟨h1,h2,h3,h4,h5,h6,h7⟩=>by cases x;cases y;simp_all,fun h=>by subst h;exact⟨rfl,rfl,rfl,rfl,rfl,rfl,rfl⟩⟩
theorem rb{a b:Rq}(h1:a.path=b.path)(h2:a.set=b.set):a=b:=by cases a;cases b;simp_all
theorem lH{a b:Rl}(h1:a.path=b.path)(h2:a.ver=b.ver)(h3:a.arch=b.arch)(h4:a.ifc=b.ifc)(h5:a.cert=b.cert)(h6:a.yanked=b.yanked)(h7:a.reqs=b.reqs):a=b:=by cases a;cases b;simp_all
theorem iy{a b:Ver}(h:a.a=b.a∧a.b=b.b∧a.c=b.c∧True):a=b:=by cases a;cases b;simp_all
theorem nO{a b:Ver}(h:¬(a.a=b.a∧a.b=b.b∧a.c=b.c∧True)):a≠b:=fun e=>h (by subst e;exact⟨rfl,rfl,rfl,trivial⟩)
theorem Rs{α:Type}{a b:List α}(hl:a.length=b.length)(h:∀j (hj:j<a.length),a[j]=b[j]'(hl▸hj)):a=b:=List.ext_getElem hl fun j h1 _=>h j h1
theorem WO{α:Type}{a b:List α}{i:Nat}{ha:i<a.length}{hb:i<b.length}(h:a[i]≠b[i]):a≠b:=fun e=>by subst e;exact h rfl
theorem r8(a b:List Rq)(ha:Cp a)(hs:∀q∈a,Cp q.set):PC 69 [sl AM a,sl AM b] (vb (decide (a=b))):=by
 have pG:a.length≤1073741824:=ha;refine Ps ⟨[],[],[],[],[],[],[],[],[],[],[5,7]⟩ Tryz.func69 rfl (Nz rfl) ?_;refine Yi (fun h1=>?_) (fun h1=>?_)
 ·have h1:((a.map AM).length:Int)≠((b.map AM).length:Int):=h1;exact .of_eq (show vb false=vb (decide (a=b)) by rw[Ap (fun e=>absurd (Ac (fun z=>((z.map AM).length:Int)) e) h1)])
 have h1:((a.map AM).length:Int)=((b.map AM).length:Int):=Bq h1;have hl:a.length=b.length:=by have q:=h1;rw[Lm,Lm]at q;omega
 refine Xi {q:Nat // q≤a.length∧∀j (hj:j<a.length),j<q→a[j]=b[j]'(hl▸hj)} (Xi (fun q=>⟨[(0,sl AM a),(1,sl AM b),(5,vi q.1)],[],Ab⟩) (Xi (fun q=>a.length-q.1) (Yi (Xi ⟨0,AN _,fun _ _ h=>absurd h (Dt _)⟩ ?_) ?_)))
 ·exact⟨Z3,Tv,Fh,Tv⟩
 intro⟨i,i1,i2⟩;have i1:i≤a.length:=i1;have i2:∀j (hj:j<a.length),j<i→a[j]=b[j]'(hl▸hj):=i2;refine Yi (fun h3=>?_) (fun h3=>?_)
 ·have h3:(i:Int)<((a.map AM).length:Int):=h3;have n3:=KZ h3;have bN:i<b.length:=by have q:=h3;rw[Lm]at q;omega
  refine Xi (AM a[i]) (Yi (Pi n3) (Yi rfl ?_));refine Xi (AM b[i]) (Yi (Pi bN) (Yi rfl ?_));refine Yi (fun h5=>?_) (fun h5=>?_)
  ·have h5:(a[i].path:ByteArray)≠b[i].path:=h5;refine Yi (by kernel_rfl) ?_;refine Xi ⟨[],[],Ab⟩ (Yi ⟨Tv,Tv,Fh,Tv⟩ ?_)
   exact .of_eq (show vb false=vb (decide (a=b)) by rw[Ap (WO (i:=i) (ha:=n3) (hb:=bN) (fun e=>h5 (Ac Rq.path e)))])
  have h5:(a[i].path:ByteArray)=b[i].path:=Bq h5;refine Xi (AM a[i]) (Yi (Pi n3) (Yi rfl ?_));refine Xi (AM b[i]) (Yi (Pi bN) (Yi rfl ?_));refine BV (Bt (decide (a[i].set=b[i].set))) (fun h7=>?_) (fun h7=>?_)
  ·have h7:(decide (a[i].set=b[i].set))=true:=h7;refine Xi _ (Yi (cb h7 (wu a[i].set b[i].set (hs _ (Aq n3)))) ?_);refine Yi (by kernel_rfl) ?_;refine Xi ⟨[(0,sl AM a),(1,sl AM b),(5,vi i)],[],Ab⟩ (Yi ⟨Z3,Tv,Fh,Tv⟩ ?_)
   refine Yi (Ii i (by omega)) ?_;refine Xi ⟨i+1,n3,fun j hj HT=>if e:j<i then i2 j hj e else by
     have e:j=i:=by omega
     subst e;exact rb h5 (BJ h7)⟩ ?_
   exact⟨Dl a.length i (by omega),Z3,Tv,Fh,Tv⟩
  have h7:(decide (a[i].set=b[i].set))=false:=h7;refine Xi _ (Yi (cb h7 (wu a[i].set b[i].set (hs _ (Aq n3)))) ?_);refine Yi (by kernel_rfl) ?_;refine Xi ⟨[],[],Ab⟩ (Yi ⟨Tv,Tv,Fh,Tv⟩ ?_)
  exact .of_eq (show vb false=vb (decide (a=b)) by rw[Ap (WO (i:=i) (ha:=n3) (hb:=bN) (fun e=>Jv h7 (Ac Rq.set e)))])
 have h3:¬((i:Int)<((a.map AM).length:Int)):=h3;have n3:=KY h3;exact .of_eq (show vb true=vb (decide (a=b)) by rw[AA (Rs hl fun j hj=>i2 j hj (by have q:=h3;rw[Lm]at q;omega))])
theorem xy(r s:Rl)(hr:Cp r.reqs)(hs:∀q∈r.reqs,Cp q.set):PC 23 [.agg (Ai r),.agg (Ai s)] (vb (decide (r=s))):=by
 refine Ps ⟨[2,3],[],[],[],[],[],[],[],[],[],[]⟩ Tryz.func23 rfl (Nz rfl) ?_;refine Yi (fun h1=>?_) (fun h1=>?_)
 ·have h1:(r.path:ByteArray)=s.path:=h1;refine Yi (Nz rfl) ?_;refine Yi (Nz rfl) ?_;refine Yi (fun h2=>?_) (fun h2=>?_)
  ·have h2:(r.ver.a:Int)=s.ver.a∧(r.ver.b:Int)=s.ver.b∧(r.ver.c:Int)=s.ver.c∧True:=h2;refine Yi (fun h3=>?_) (fun h3=>?_)
   ·have h3:(r.arch:ByteArray)=s.arch:=h3;refine Yi (fun h4=>?_) (fun h4=>?_)
    ·have h4:(r.ifc:ByteArray)=s.ifc:=h4;refine Yi (fun h5=>?_) (fun h5=>?_)
     ·have h5:(r.cert:ByteArray)=s.cert:=h5;refine Yi (fun h6=>?_) (fun h6=>?_)
      ·have h6:r.yanked=true:=h6;refine Yi (fun h7=>?_) (fun h7=>?_)
       ·have h7:s.yanked=true:=h7;refine BV (Bt (decide (r.reqs=s.reqs))) (fun h8=>?_) (fun h8=>?_)
        ·have h8:(decide (r.reqs=s.reqs))=true:=h8;refine Xi .pure (Xi _ (Yi (cb h8 (r8 r.reqs s.reqs hr hs)) ?_));exact .of_eq (show vb true=vb (decide (r=s)) by rw[AA (lH h1 (iy h2) h3 h4 h5 (by rw[h6,h7]) (BJ h8))])
        have h8:(decide (r.reqs=s.reqs))=false:=h8;refine Xi .pure (Xi _ (Yi (cb h8 (r8 r.reqs s.reqs hr hs)) ?_));exact .of_eq (show vb false=vb (decide (r=s)) by rw[Ap (fun e=>Jv h8 (Ac Rl.reqs e))])
       have h7:s.yanked=false:=h7;exact .of_eq (show vb false=vb (decide (r=s)) by rw[Ap (fun e=>by have q:=Ac Rl.yanked e;rw[h6,h7]at q;cases q)])
      have h6:r.yanked=false:=h6;refine Yi (fun M1=>?_) (fun M1=>?_)
      ·have M1:s.yanked=true:=M1;exact .of_eq (show vb false=vb (decide (r=s)) by rw[Ap (fun e=>by have q:=Ac Rl.yanked e;rw[h6,M1]at q;cases q)])
      have M1:s.yanked=false:=M1;refine BV (Bt (decide (r.reqs=s.reqs))) (fun jo=>?_) (fun jo=>?_)
      ·have jo:(decide (r.reqs=s.reqs))=true:=jo;refine Xi .pure (Xi _ (Yi (cb jo (r8 r.reqs s.reqs hr hs)) ?_));exact .of_eq (show vb true=vb (decide (r=s)) by rw[AA (lH h1 (iy h2) h3 h4 h5 (by rw[h6,M1]) (BJ jo))])
      have jo:(decide (r.reqs=s.reqs))=false:=jo;refine Xi .pure (Xi _ (Yi (cb jo (r8 r.reqs s.reqs hr hs)) ?_));exact .of_eq (show vb false=vb (decide (r=s)) by rw[Ap (fun e=>Jv jo (Ac Rl.reqs e))])
     have h5:¬(r.cert:ByteArray)=s.cert:=h5;exact .of_eq (show vb false=vb (decide (r=s)) by rw[Ap (fun e=>h5 (Ac Rl.cert e))])
    have h4:¬(r.ifc:ByteArray)=s.ifc:=h4;exact .of_eq (show vb false=vb (decide (r=s)) by rw[Ap (fun e=>h4 (Ac Rl.ifc e))])
   have h3:¬(r.arch:ByteArray)=s.arch:=h3;exact .of_eq (show vb false=vb (decide (r=s)) by rw[Ap (fun e=>h3 (Ac Rl.arch e))])
  have h2:¬((r.ver.a:Int)=s.ver.a∧(r.ver.b:Int)=s.ver.b∧(r.ver.c:Int)=s.ver.c∧True):=h2;exact .of_eq (show vb false=vb (decide (r=s)) by rw[Ap (fun e=>nO h2 (Ac Rl.ver e))])
 have h1:¬(r.path:ByteArray)=s.path:=h1;exact .of_eq (show vb false=vb (decide (r=s)) by rw[Ap (fun e=>h1 (Ac Rl.path e))])
theorem xx(a b:List Rl)(ha:Cp a)(hr:∀r∈a,Cp r.reqs∧∀q∈r.reqs,Cp q.set):PC 15 [sl Ai a,sl Ai b] (vb (decide (a=b))):=by
 have pG:a.length≤1073741824:=ha;refine Ps ⟨[],[],[],[],[],[],[],[],[],[],[5,7]⟩ Tryz.func15 rfl (Nz rfl) ?_;refine Yi (fun h1=>?_) (fun h1=>?_)
 ·have h1:((a.map Ai).length:Int)≠((b.map Ai).length:Int):=h1;exact .of_eq (show vb false=vb (decide (a=b)) by rw[Ap (fun e=>absurd (Ac (fun z=>((z.map Ai).length:Int)) e) h1)])
 have h1:((a.map Ai).length:Int)=((b.map Ai).length:Int):=Bq h1;have hl:a.length=b.length:=by have q:=h1;rw[Lm,Lm]at q;omega
 refine Xi {q:Nat // q≤a.length∧∀j (hj:j<a.length),j<q→a[j]=b[j]'(hl▸hj)} (Xi (fun q=>⟨[(0,sl Ai a),(1,sl Ai b),(5,vi q.1)],[],Ab⟩) (Xi (fun q=>a.length-q.1) (Yi (Xi ⟨0,AN _,fun _ _ h=>absurd h (Dt _)⟩ ?_) ?_)))
 ·exact⟨Z3,Tv,Fh,Tv⟩
 intro⟨i,i1,i2⟩;have i1:i≤a.length:=i1;have i2:∀j (hj:j<a.length),j<i→a[j]=b[j]'(hl▸hj):=i2;refine Yi (fun h3=>?_) (fun h3=>?_)
 ·have h3:(i:Int)<((a.map Ai).length:Int):=h3;have n3:=KZ h3;have bN:i<b.length:=by have q:=h3;rw[Lm]at q;omega
  refine Xi (Ai a[i]) (Yi (Pi n3) (Yi rfl ?_));refine Yi (Nz rfl) ?_;refine Xi (Ai b[i]) (Yi (Pi bN) (Yi rfl ?_));refine Yi (Nz rfl) ?_;refine BV (Bt (decide (a[i]=b[i]))) (fun h4=>?_) (fun h4=>?_)
  ·have h4:(decide (a[i]=b[i]))=true:=h4;refine Xi _ (Yi (cb h4 (xy a[i] b[i] (hr _ (Aq n3)).1 (hr _ (Aq n3)).2)) ?_);refine Yi (by kernel_rfl) ?_;refine Xi ⟨[(0,sl Ai a),(1,sl Ai b),(5,vi i)],[],Ab⟩ (Yi ⟨Z3,Tv,Fh,Tv⟩ ?_)
   refine Yi (Ii i (by omega)) ?_;refine Xi ⟨i+1,n3,fun j hj HT=>if e:j<i then i2 j hj e else by
     have e:j=i:=by omega
     subst e;exact BJ h4⟩ ?_
   exact⟨Dl a.length i (by omega),Z3,Tv,Fh,Tv⟩
  have h4:(decide (a[i]=b[i]))=false:=h4;refine Xi _ (Yi (cb h4 (xy a[i] b[i] (hr _ (Aq n3)).1 (hr _ (Aq n3)).2)) ?_);refine Yi (by kernel_rfl) ?_;refine Xi ⟨[],[],Ab⟩ (Yi ⟨Tv,Tv,Fh,Tv⟩ ?_)
  exact .of_eq (show vb false=vb (decide (a=b)) by rw[Ap (WO (i:=i) (ha:=n3) (hb:=bN) (Jv h4))])
 have h3:¬((i:Int)<((a.map Ai).length:Int)):=h3;have n3:=KY h3;exact .of_eq (show vb true=vb (decide (a=b)) by rw[AA (Rs hl fun j hj=>i2 j hj (by have q:=h3;rw[Lm]at q;omega))])
theorem r7(a b:List Sl)(ha:Cp a):PC 65 [sl Ae a,sl Ae b] (vb (decide (a=b))):=by
 have pG:a.length≤1073741824:=ha;refine Ps ⟨[],[],[],[],[],[],[],[],[],[],[5,7]⟩ Tryz.func65 rfl (Nz rfl) ?_;refine Yi (fun h1=>?_) (fun h1=>?_)
 ·have h1:((a.map Ae).length:Int)≠((b.map Ae).length:Int):=h1;exact .of_eq (show vb false=vb (decide (a=b)) by rw[Ap (fun e=>absurd (Ac (fun z=>((z.map Ae).length:Int)) e) h1)])
 have h1:((a.map Ae).length:Int)=((b.map Ae).length:Int):=Bq h1;have hl:a.length=b.length:=by have q:=h1;rw[Lm,Lm]at q;omega
 refine Xi {q:Nat // q≤a.length∧∀j (hj:j<a.length),j<q→a[j]=b[j]'(hl▸hj)} (Xi (fun q=>⟨[(0,sl Ae a),(1,sl Ae b),(5,vi q.1)],[],Ab⟩) (Xi (fun q=>a.length-q.1) (Yi (Xi ⟨0,AN _,fun _ _ h=>absurd h (Dt _)⟩ ?_) ?_)))
 ·exact⟨Z3,Tv,Fh,Tv⟩
 intro⟨i,i1,i2⟩;have i1:i≤a.length:=i1;have i2:∀j (hj:j<a.length),j<i→a[j]=b[j]'(hl▸hj):=i2;refine Yi (fun h3=>?_) (fun h3=>?_)
 ·have h3:(i:Int)<((a.map Ae).length:Int):=h3;have n3:=KZ h3;have bN:i<b.length:=by have q:=h3;rw[Lm]at q;omega
  refine Xi (Ae a[i]) (Yi (Pi n3) (Yi rfl ?_));refine Yi (Nz rfl) ?_;refine Xi (Ae b[i]) (Yi (Pi bN) (Yi rfl ?_));refine Yi (Nz rfl) ?_;refine Yi (fun h4=>?_) (fun h4=>?_)
  ·have h4:(a[i].path:ByteArray)=b[i].path∧(a[i].ver.a:Int)=b[i].ver.a∧(a[i].ver.b:Int)=b[i].ver.b∧(a[i].ver.c:Int)=b[i].ver.c∧True:=h4;refine Yi (by kernel_rfl) ?_;refine Xi ⟨[(0,sl Ae a),(1,sl Ae b),(5,vi i)],[],Ab⟩ (Yi ⟨Z3,Tv,Fh,Tv⟩ ?_)
   refine Yi (Ii i (by omega)) ?_;refine Xi ⟨i+1,n3,fun j hj HT=>if e:j<i then i2 j hj e else by
     have e:j=i:=by omega
     subst e;exact gZ h4⟩ ?_
   exact⟨Dl a.length i (by omega),Z3,Tv,Fh,Tv⟩
  have h4:¬((a[i].path:ByteArray)=b[i].path∧(a[i].ver.a:Int)=b[i].ver.a∧(a[i].ver.b:Int)=b[i].ver.b∧(a[i].ver.c:Int)=b[i].ver.c∧True):=h4;refine Yi (by kernel_rfl) ?_;refine Xi ⟨[],[],Ab⟩ (Yi ⟨Tv,Tv,Fh,Tv⟩ ?_)
  exact .of_eq (show vb false=vb (decide (a=b)) by rw[Ap (WO (i:=i) (ha:=n3) (hb:=bN) (lI h4))])
 have h3:¬((i:Int)<((a.map Ae).length:Int)):=h3;have n3:=KY h3;exact .of_eq (show vb true=vb (decide (a=b)) by rw[AA (Rs hl fun j hj=>i2 j hj (by have q:=h3;rw[Lm]at q;omega))])
def Ma(a b:Wk):Bool:=decide (a.rep=b.rep)&&decide (a.exc=b.exc)&&decide (a.pin=b.pin)
theorem NP(a:Wk):Ma a a=true:=by unfold Ma;simp
abbrev kO(l:List Rl):Prop:=∀r∈l,Cp r.reqs∧∀q∈r.reqs,Cp q.set
theorem uN(a b:Wk)(hA:aV a)(hr:kO a.rep):PC 19 [.agg (Bx a),.agg (Bx b)] (vb (Ma a b)):=by
 refine Ps ⟨[2,3],[],[],[],[],[],[],[],[],[],[]⟩ Tryz.func19 rfl (Nz rfl) ?_;refine BV (Bt (decide (a.rep=b.rep))) (fun h1=>?_) (fun h1=>?_)
 ·have h1:(decide (a.rep=b.rep))=true:=h1;refine Xi .pure (Xi _ (Yi (cb h1 (xx a.rep b.rep hA.reps hr)) ?_));refine BV (Bt (decide (a.exc=b.exc))) (fun h2=>?_) (fun h2=>?_)
  ·have h2:(decide (a.exc=b.exc))=true:=h2;refine Xi .pure (Xi _ (Yi (cb h2 (r7 a.exc b.exc hA.exc)) ?_));refine BV (Bt (decide (a.pin=b.pin))) (fun h3=>?_) (fun h3=>?_)
   ·have h3:(decide (a.pin=b.pin))=true:=h3;refine Xi .pure (Xi _ (Yi (cb h3 (r7 a.pin b.pin hA.pin)) ?_));exact .of_eq (show vb true=vb (Ma a b) by unfold Ma;rw[h1,h2,h3];rfl)
   have h3:(decide (a.pin=b.pin))=false:=h3;refine Xi .pure (Xi _ (Yi (cb h3 (r7 a.pin b.pin hA.pin)) ?_));exact .of_eq (show vb false=vb (Ma a b) by unfold Ma;rw[h1,h2,h3];simp)
  have h2:(decide (a.exc=b.exc))=false:=h2;refine Xi .pure (Xi _ (Yi (cb h2 (r7 a.exc b.exc hA.exc)) ?_));exact .of_eq (show vb false=vb (Ma a b) by unfold Ma;rw[h1,h2];simp)
 have h1:(decide (a.rep=b.rep))=false:=h1;refine Xi .pure (Xi _ (Yi (cb h1 (xx a.rep b.rep hA.reps hr)) ?_));exact .of_eq (show vb false=vb (Ma a b) by unfold Ma;rw[h1];simp)
structure Mv where
 path:ByteArray
 a:Int
 b:Int
abbrev EG(m:Mv):List AV:=[vs m.path,vi m.a,vi m.b]
abbrev plP(s:Sl):Value×AV:=(.string s.path,vi (place s.ver))
abbrev Ji(l:List Sl):List (Value×AV):=l.map plP
def Pj(l:List Sl)(p:ByteArray):Int:=match Ca l p with | some s=>place s.ver | none=>-1
def We(l m:List Sl)(p:ByteArray):Option Mv:=if Pj l p≠Pj m p then some ⟨p,Pj l p,Pj m p⟩else none
abbrev L1(l m:List Sl)(ps:List ByteArray):List Mv:=ps.filterMap (We l m)
structure NZ(l:List Sl):Prop where
 few:Cp l
 val:∀s∈l,CL s.ver=true
 inc:l.Pairwise oy
theorem NZ.step{l:List Sl}(h:NZ l){i:Nat}(hi:i<l.length)(h0:0<i):Fa (l[i-1]'(by omega)).path l[i].path=true:=(Bh.1 h.inc) (i-1) i (by omega) hi (by omega)
theorem gH{l:List Sl}(h:NZ l){i:Nat}(hi:i<l.length):∀b,(Value.string l[i].path,b)∉Ji (l.take i):=fun b hb=>by
 obtain⟨s,hs,e⟩:=Am.1 hb;obtain⟨j,hj,rfl⟩:=DP.1 hs;rw[J5]at e;rw[AJ]at hj;have q:=(Bh.1 h.inc) j i (by omega) hi (by omega);have e2:l[j].path=l[i].path:=by injection e with e1;injection e1
 rw[oy,e2,CY]at q;cases q
theorem nx{l:List Sl}(h:NZ l){p:ByteArray}{a:AV}(ha:(Value.string p,a)∈Ji l):a=vi (Pj l p):=by
 obtain⟨s,hs,e⟩:=Am.1 ha;have e1:s.path=p:=by injection e with e1;injection e1
 have e2:vi (place s.ver)=a:=by injection e
 rw[←e2];unfold Pj;rw[←e1,Nq (bZ uY h.inc) hs]
theorem ny{l:List Sl}{p:ByteArray}(h:∀a,(Value.string p,a)∉Ji l):Pj l p=-1:=by
 unfold Pj;rw[show Ca l p=none from ES.2 fun s hs e=>h _ (Am.2 ⟨s,hs,by rw[←BJ e]⟩)]
theorem ap{l m:List Sl}{ps:List ByteArray}{k:Nat}(h:k<ps.length):L1 l m (ps.take (k+1))=L1 l m (ps.take k)++(We l m ps[k]).toList:=by
 unfold L1;rw[MI h,List.filterMap_append]
 congr 1
theorem qG(l:List Sl)(hl:NZ l):Bd Tryz.prog 101 [sl Ae l] (Ah [] Ab) fun r h'=>r=.tup [.mref 2000,vb true]∧h'=Ah [(2000,.map C3 (Ji l))] Ab:=by
 have hfl:l.length≤1073741824:=hl.few;refine Cm (Mo ⟨[],[],[],[],[],[],[],[],[],[],[6,7,8]⟩) [(9,2000)] rfl CK hm rfl Tryz.func101 (by kernel_rfl) rfl (Nz rfl) (by kernel_rfl) rfl ?_;refine Xi {q:Nat // q≤l.length} (Xi (fun q=>⟨[(0,sl Ae l),(4,.mref 9),(10,sl Ae l),(11,vi (l.map Ae).length),(12,vi q.1)],[(9,.map C3 (Ji (l.take q.1)))],Ab⟩) (Xi (fun q=>l.length-q.1) (Yi (Xi ⟨0,AN _⟩ ?_) ?_)))
 ·exact⟨Z5,Z1,Fh,Ax (by kernel_rfl)⟩
 intro⟨i,i1⟩;have i1:i≤l.length:=i1;refine Yi (fun h1=>?_) (fun h1=>?_)
 ·have h1:(i:Int)<((l.map Ae).length:Int):=h1;have n1:=KZ h1;refine Xi (Ae l[i]) (Yi (Pi n1) (Yi rfl ?_));refine Yi (Nz rfl) ?_;refine Yi (Nz rfl) ?_;refine Yi (Nz rfl) ?_;refine Xi .pure (Xi _ (Yi (by have q:=ru l[i].ver;rw[Aw (hl.val _ (Aq n1)),Aw (hl.val _ (Aq n1))]at q;exact q) ?_));refine Xi ⟨[(0,sl Ae l),(4,.mref 9),(5,vi i),(6,.ref 6 0),(7,vi (place l[i].ver)),(8,vi 0),(10,sl Ae l),(11,vi (l.map Ae).length),(12,vi i)],[(6,.cells (Ae l[i])),(9,.map C3 (Ji (l.take i)))],Ab⟩ (Yi ⟨Z9,Z2,Fh,Ax (by kernel_rfl)⟩ ?_)
  refine Yi (fun h=>absurd h (by decide)) (fun _=>?_);refine Yi (fun h2=>?_) (fun h2=>?_)
  ·have h2:(0:Int)<(i:Int):=h2;refine Yi (by show B1 ((i:Int)-(1:Int));unfold B1;omega) ?_;have fm:0<i:=by omega
   refine Xi (Ae (l[i-1])) (Yi (Yi (show(0:Int)≤(i:Int)-1 by omega) (by rw[show((i:Int)-1).toNat=i-1 by omega];exact Cf (Ge (by omega)))) (Yi rfl ?_));refine Yi (fun h3=>?_) (fun h3=>?_)
   ·have h3:Fa (l[i-1]).path l[i].path=false:=(HP _ _).trans h3;exact absurd (hl.step n1 fm) (by rw[h3];decide)
   have h3:Fa (l[i-1]).path l[i].path=true:=(HP _ _).trans (by simpa using h3);refine Yi (by kernel_rfl) ?_;refine Xi ⟨[(0,sl Ae l),(4,.mref 9),(6,.ref 6 0),(7,vi (place l[i].ver)),(10,sl Ae l),(11,vi (l.map Ae).length),(12,vi i)],[(6,.cells (Ae l[i])),(9,.map C3 (Ji (l.take i)))],Ab⟩ (Yi ⟨Z7,Z2,Fh,Ax (by kernel_rfl)⟩ ?_)
   refine Yi (Ii i (by omega)) ?_;refine Xi ⟨i+1,n1⟩ ?_;exact⟨Dl l.length i (by omega),Z5,⟨⟨(show HO.map C3 (EK (Ji (l.take i)) (.string l[i].path) (vi (place l[i].ver)))=.map C3 (Ji (l.take (i+1))) by rw[Kr (gH hl n1),MI n1];unfold Ji;rw[AH];rfl),rfl⟩,Tv⟩,Fh,Ax (by kernel_rfl)⟩
  have h2:¬((0:Int)<(i:Int)):=h2;refine Yi (by kernel_rfl) ?_;refine Xi ⟨[(0,sl Ae l),(4,.mref 9),(6,.ref 6 0),(7,vi (place l[i].ver)),(10,sl Ae l),(11,vi (l.map Ae).length),(12,vi i)],[(6,.cells (Ae l[i])),(9,.map C3 (Ji (l.take i)))],Ab⟩ (Yi ⟨Z7,Z2,Fh,Ax (by kernel_rfl)⟩ ?_)
  refine Yi (Ii i (by omega)) ?_;refine Xi ⟨i+1,n1⟩ ?_;exact⟨Dl l.length i (by omega),Z5,⟨⟨(show HO.map C3 (EK (Ji (l.take i)) (.string l[i].path) (vi (place l[i].ver)))=.map C3 (Ji (l.take (i+1))) by rw[Kr (gH hl n1),MI n1];unfold Ji;rw[AH];rfl),rfl⟩,Tv⟩,Fh,Ax (by kernel_rfl)⟩
 have h1:¬((i:Int)<((l.map Ae).length:Int)):=h1;have n1:=KY h1;have ei:l.take i=l:=AT (by have q:=h1;rw[Lm]at q;omega);exact Xi _ (Yi (.refl _) ⟨rfl,show Ah [(2000,HO.map C3 (Ji (l.take i)))] Ab=Ah [(2000,.map C3 (Ji l))] Ab by rw[ei]⟩)
theorem qH(l:List Sl)(p:ByteArray)(hl:NZ l):PC 103 [.cmap C3 (Ji l),vs p] (vi (Pj l p)):=by
 refine Ps ⟨[],[],[],[],[],[],[],[],[],[],[4]⟩ Tryz.func103 rfl (Nz rfl) ?_;refine Yi (fun a ha=>?_) (fun Ra=>?_)
 ·have ea:=nx hl ha;subst ea;exact .refl _
 refine Xi ⟨[],[],Ab⟩ (Yi ⟨Tv,Tv,Fh,Tv⟩ ?_)
 exact .of_eq (show vi (-1)=vi (Pj l p) by rw[ny Ra])
theorem o75(l m:List Sl)(t:List ByteArray)(hl:NZ l)(xc:NZ m)(za:l.length+m.length≤1073741824)(Dz:l++m≠[])(hp:t.Perm ((l++m).map (·.path)))(ht:(t.map ZJ).Pairwise fun a b=>a≤b):PC 75 [sl Ae l,sl Ae m] (.tup [sl EG (L1 l m (B6 t)),vi 0]):=by
 obtain⟨LM,mD⟩:∃LM,LM=l++m:=⟨_,rfl⟩;have hm:=xc;rw[←mD]at hp;have wI:LM.length=l.length+m.length:=by rw[mD,Ad]
 have rL:l.length≤1073741824:=hl.few;have li:m.length≤1073741824:=xc.few;refine FQ (di ⟨[],[(14,3)],[(10,1)],[(34,[12000,12500])],[],[],[],[],[],[],[3,6,7,8,9,11,13,14,15,16,17,18,19,21]⟩) rfl CK Go.Eng.hm rfl Tryz.func75 (by kernel_rfl) rfl (Nz rfl) (by kernel_rfl) ?_;refine Xi (.gen [] 1) (Yi rfl (Bd.to2 (qG l hl) ?_));refine Xi (.gen [] 1) (Yi rfl (Bd.to2 (qG m hm) ?_));refine Xi ⟨[(0,sl Ae l),(1,sl Ae m),(6,.mref 12000),(7,vb true),(8,.mref 12500),(9,vb true)],[(12000,.map C3 (Ji l)),(12500,.map C3 (Ji m))],Ab⟩ (Yi ⟨Z6,Z2,Fh,Tv⟩ ?_)
 refine Xi ⟨[(0,sl Ae l),(1,sl Ae m),(6,.mref 12000),(8,.mref 12500),(10,.msl 10 0)],[(10,.arr 1 []),(12000,.map C3 (Ji l)),(12500,.map C3 (Ji m))],Ab⟩ (Yi ⟨Z5,Z3,Fh,Tv⟩ ?_)
 refine Xi (.gen [] 1) (Yi rfl (Bd.to2 (pd l hl.few) ?_));have b4:Do 4 (m.map Ae)∧(l.map Ae).length=(l.map Ae).length∧((l.map Ae).length+(m.map Ae).length)*40≤140737488355328∧(l.map Ae).length+(m.map Ae).length≤9223372036854775807:=⟨(Eu (enc:=Ae) (n:=4) (fun _=>rfl) m),rfl,(by simp only[Lm];omega),(by simp only[Lm];omega)⟩;refine Yi b4 ?_;refine Xi {q:Nat×List ByteArray // q.1≤LM.length∧q.2=(LM.take q.1).map (·.path)} (Xi (fun q=>⟨[(6,.mref 12000),(8,.mref 12500),(10,.msl 10 q.1.2.length),(37,.slice (.id 13500 4) (LM.map Ae)),(38,vi (LM.length:Nat)),(39,vi q.1.1)],[(10,.arr 1 (q.1.2.map DI)),(12000,.rom C3 (Ji l)),(12500,.rom C3 (Ji m)),(13500,.tok 4 LM.length)],Ab⟩) (Xi (fun q=>LM.length-q.1.1) (Yi (Xi ⟨(0,[]),AN _,rfl⟩ ?_) ?_)))
 ·exact⟨⟨Zr,Zr,Zr,⟨(show AV.slice (.id 13500 4) (l.map Ae++m.map Ae)=.slice (.id 13500 4) (LM.map Ae) by rw[mD,AH]),rfl⟩,⟨(show vi ((l.map Ae++m.map Ae:List (List AV)).length:Int)=vi ((LM.length:Nat):Int) by rw[mD,Ad,Ad,Lm,Lm]),rfl⟩,Zr,Tv⟩,⟨Zr,Zr,Zr,⟨(show HO.tok 4 ((l.map Ae).length+(m.map Ae).length)=.tok 4 LM.length by rw[mD,Ad,Lm,Lm]),rfl⟩,Tv⟩,Fh,Tv⟩
 intro⟨⟨i,P⟩,i1,i2⟩;have i1:i≤LM.length:=i1;have i2:P=(LM.take i).map (·.path):=i2;have i3:P.length≤i:=by rw[i2,Lm,AJ];omega
 refine Xi ⟨[(6,.mref 12000),(8,.mref 12500),(10,.msl 10 P.length),(37,.slice (.id 13500 4) (LM.map Ae)),(38,vi (LM.length:Nat)),(39,vi i)],[(10,.arr 1 (P.map DI)),(12000,.rom C3 (Ji l)),(12500,.rom C3 (Ji m)),(13500,.tok 4 LM.length)],Ab⟩ (Yi ⟨Z6,Z4,Fh,Tv⟩ ?_)
 refine Yi (fun h5=>?_) (fun h5=>?_)
 ·have h5:(i:Int)<((LM.length:Nat):Int):=h5;have n5:i<LM.length:=by omega
  refine Xi ⟨[(6,.mref 12000),(8,.mref 12500),(10,.msl 10 P.length),(37,.slice (.id 13500 4) (LM.map Ae)),(38,vi (LM.length:Nat)),(39,vi i)],[(10,.arr 1 (P.map DI)),(12000,.rom C3 (Ji l)),(12500,.rom C3 (Ji m)),(13500,.tok 4 LM.length)],Ab⟩ (Yi ⟨Z6,Z4,Fh,Tv⟩ ?_)
  refine Xi (Ae LM[i]) (Yi (Pi n5) (Yi rfl ?_));refine Yi (Nz rfl) ?_;refine Yi (Nz rfl) ?_;refine Xi ⟨[(6,.mref 12000),(8,.mref 12500),(10,.msl 10 P.length),(12,.ref 12 0),(37,.slice (.id 13500 4) (LM.map Ae)),(38,vi (LM.length:Nat)),(39,vi i)],[(10,.arr 1 (P.map DI)),(12,.cells (Ae LM[i])),(12000,.rom C3 (Ji l)),(12500,.rom C3 (Ji m)),(13500,.tok 4 LM.length)],Ab⟩ (Yi ⟨Z7,Z5,Fh,Tv⟩ ?_)
  have b6:Do 1 [[vs LM[i].path]]∧(P.map DI).length=P.length∧((P.map DI).length+([[vs LM[i].path]]:List (List AV)).length)*16≤140737488355328∧(P.map DI).length+([[vs LM[i].path]]:List (List AV)).length≤9223372036854775807:=⟨⟨rfl,trivial⟩,(by rw[Lm]),(by simp only[Lm,At,AC];omega),(by simp only[Lm,At,AC];omega)⟩;refine Yi b6 ?_;refine Yi (Ii i (by omega)) ?_;refine Xi ⟨(i+1,P++[LM[i].path]),n5,by show P++[LM[i].path]=_;rw[MI n5,AH,i2];rfl⟩ ?_;exact⟨Dl LM.length i (by omega),⟨Zr,Zr,⟨(show AV.msl 10 ((P.map DI).length+([[vs LM[i].path]]:List (List AV)).length)=.msl 10 (P++[LM[i].path]).length by rw[Ad,Lm];rfl),rfl⟩,Zr,Zr,Zr,Tv⟩,⟨⟨(show HO.arr 1 (P.map DI++[[vs LM[i].path]])=.arr 1 ((P++[LM[i].path]).map DI) by rw[AH];rfl),rfl⟩,Zr,Zr,Zr,Tv⟩,Fh,Tv⟩
 have h5:¬((i:Int)<((LM.length:Nat):Int)):=h5;have rD:P=LM.map (·.path):=by rw[i2,AT (by have q:=h5;omega)]
 have wJ:Cp P:=by unfold Cp;rw[rD,Lm,mD,Ad];exact za
 have wK:P≠[]:=fun e=>by rw[rD]at e;exact Dz (by rw[←mD];exact Dq.1 e)
 have tv:t.length=P.length:=by rw[rD];exact hp.length_eq
 have m5:t.length≤1073741824:=by rw[tv];exact wJ
 have uy:t≠[]:=fun e=>wK (AB (by rw[←tv,e];rfl));have hcl:(B6 t).length≤t.length:=by unfold B6;rw[Lm];exact A3 (Qt _) (by rw[Lm];exact Aj _)
 refine Xi ⟨[(6,.mref 12000),(8,.mref 12500),(10,.msl 10 P.length)],[(10,.arr 1 (P.map DI)),(12000,.rom C3 (Ji l)),(12500,.rom C3 (Ji m))],Ab⟩ (Yi ⟨Z3,Z3,Fh,Tv⟩ ?_)
 refine Xi (.gen [(10,1000)] 0) (Yi rfl (Bd.to2 (uL P t wJ wK (by rw[rD];exact hp) ht) ?_));refine Xi ⟨[(6,.mref 12000),(8,.mref 12500),(10,.msl 10 P.length),(13,.v (.func (.func 103) #[] #[]))],[(10,.arr 1 (t.map DI)),(12000,.rom C3 (Ji l)),(12500,.rom C3 (Ji m))],Ab⟩ (Yi ⟨Z4,Z3,Fh,Tv⟩ ?_)
 refine Xi ⟨[(6,.mref 12000),(8,.mref 12500),(10,.msl 10 t.length),(13,.v (.func (.func 103) #[] #[])),(14,.slice (.id 14 3) [])],[(10,.arr 1 (t.map DI)),(14,.tok 3 0),(12000,.rom C3 (Ji l)),(12500,.rom C3 (Ji m))],Ab⟩ (Yi ⟨⟨Zr,Zr,⟨(Ac (AV.msl 10) tv.symm),rfl⟩,Zr,Zr,Tv⟩,Z4,Fh,Tv⟩ ?_)
 refine Xi (.gen [(10,1000)] 1) (Yi rfl (Bd.to2 (uM t (by unfold Cp;omega) uy) ?_));refine Xi {q:Nat×List Mv // q.1≤(B6 t).length∧q.2=L1 l m ((B6 t).take q.1)} (Xi (fun q=>⟨[(6,.mref 12000),(8,.mref 12500),(13,.v (.func (.func 103) #[] #[])),(14,.slice (.id 14 3) (q.1.2.map EG)),(52,.msl 15200 (B6 t).length),(53,vi (B6 t).length),(54,vi q.1.1)],[(14,.tok 3 q.1.2.length),(12000,.rom C3 (Ji l)),(12500,.rom C3 (Ji m)),(15200,.arr 1 ((B6 t).map DI))],Ab⟩) (Xi (fun q=>(B6 t).length-q.1.1) (Yi (Xi ⟨(0,[]),AN _,rfl⟩ ?_) ?_)))
 ·exact⟨Z7,Z4,Fh,Tv⟩
 intro⟨⟨k,O⟩,k1,k2⟩;have k1:k≤(B6 t).length:=k1;have k2:O=L1 l m ((B6 t).take k):=k2;have k3:O.length≤k:=by rw[k2];exact A3 (List.length_filterMap_le ..) (by rw[AJ];omega)
 refine Xi ⟨[(6,.mref 12000),(8,.mref 12500),(13,.v (.func (.func 103) #[] #[])),(14,.slice (.id 14 3) (O.map EG)),(52,.msl 15200 (B6 t).length),(53,vi (B6 t).length),(54,vi k)],[(14,.tok 3 O.length),(12000,.rom C3 (Ji l)),(12500,.rom C3 (Ji m)),(15200,.arr 1 ((B6 t).map DI))],Ab⟩ (Yi ⟨Z7,Z4,Fh,Tv⟩ ?_)
 refine Yi (fun Sr=>?_) (fun Sr=>?_)
 ·have Sr:(k:Int)<((B6 t).length:Int):=Sr;have nb:k<(B6 t).length:=by omega
  have n10:=nb;have gb:(B6 t)[k]?=some (B6 t)[k]:=Ge nb;refine Xi ⟨[(6,.mref 12000),(8,.mref 12500),(13,.v (.func (.func 103) #[] #[])),(14,.slice (.id 14 3) (O.map EG)),(52,.msl 15200 (B6 t).length),(53,vi (B6 t).length),(54,vi k)],[(14,.tok 3 O.length),(12000,.rom C3 (Ji l)),(12500,.rom C3 (Ji m)),(15200,.arr 1 ((B6 t).map DI))],Ab⟩ (Yi ⟨Z7,Z4,Fh,Tv⟩ ?_)
  refine Yi (by show(0:Int)≤k∧(k:Int)<((B6 t).length:Nat);omega) ?_;refine Yi (show(B6 t).length=((B6 t).map DI).length by rw[Lm]) (Xi (DI ((B6 t)[k])) (Yi (Cf gb) ?_));refine Xi ⟨[(6,.mref 12000),(8,.mref 12500),(13,.v (.func (.func 103) #[] #[])),(14,.slice (.id 14 3) (O.map EG)),(16,vs ((B6 t)[k])),(52,.msl 15200 (B6 t).length),(53,vi (B6 t).length),(54,vi k)],[(14,.tok 3 O.length),(12000,.rom C3 (Ji l)),(12500,.rom C3 (Ji m)),(15200,.arr 1 ((B6 t).map DI))],Ab⟩ (Yi ⟨Z8,Z4,Fh,Tv⟩ ?_)
  refine Xi .pure (Xi _ (Yi (qH l (B6 t)[k] hl) ?_));refine Xi .pure (Xi _ (Yi (qH m (B6 t)[k] hm) ?_));refine Yi (Nz rfl) ?_;refine Xi ⟨[(6,.mref 12000),(8,.mref 12500),(13,.v (.func (.func 103) #[] #[])),(14,.slice (.id 14 3) (O.map EG)),(17,.ref 17 0),(52,.msl 15200 (B6 t).length),(53,vi (B6 t).length),(54,vi k)],[(14,.tok 3 O.length),(17,.cells [vs ((B6 t)[k]),vi (Pj l (B6 t)[k]),vi (Pj m (B6 t)[k])]),(12000,.rom C3 (Ji l)),(12500,.rom C3 (Ji m)),(15200,.arr 1 ((B6 t).map DI))],Ab⟩ (Yi ⟨Z8,Z5,Fh,Tv⟩ ?_)
  refine Yi (fun Jp=>?_) (fun Jp=>?_)
  ·have Jp:((Pj l (B6 t)[k]):Int)≠((Pj m (B6 t)[k]):Int):=Jp;refine Xi ⟨[(6,.mref 12000),(8,.mref 12500),(13,.v (.func (.func 103) #[] #[])),(14,.slice (.id 14 3) (O.map EG)),(17,.ref 17 0),(52,.msl 15200 (B6 t).length),(53,vi (B6 t).length),(54,vi k)],[(14,.tok 3 O.length),(17,.cells [vs ((B6 t)[k]),vi (Pj l (B6 t)[k]),vi (Pj m (B6 t)[k])]),(12000,.rom C3 (Ji l)),(12500,.rom C3 (Ji m)),(15200,.arr 1 ((B6 t).map DI))],Ab⟩ (Yi ⟨Z8,Z5,Fh,Tv⟩ ?_)
   refine Yi (Nz rfl) ?_;refine Yi (Pf rfl (by omega) (by decide)) ?_;refine Yi (Ii k (by omega)) ?_;have eO:=ap (l:=l) (m:=m) n10;have eM:We l m (B6 t)[k]=some ⟨(B6 t)[k],(Pj l (B6 t)[k]),(Pj m (B6 t)[k])⟩:=Aw Jp;rw[eM]at eO;refine Xi ⟨(k+1,(O++[(⟨(B6 t)[k],(Pj l (B6 t)[k]),(Pj m (B6 t)[k])⟩:Mv)])),n10,by show(O++[(⟨(B6 t)[k],(Pj l (B6 t)[k]),(Pj m (B6 t)[k])⟩:Mv)])=_;rw[eO,k2];rfl⟩ ?_;exact⟨by show(B6 t).length-(k+1)<(B6 t).length-k;omega,⟨Zr,Zr,Zr,⟨(show AV.slice (.id 14 3) (O.map EG++[[vs (B6 t)[k],vi (Pj l (B6 t)[k]),vi (Pj m (B6 t)[k])]])=.slice (.id 14 3) ((O++[(⟨(B6 t)[k],(Pj l (B6 t)[k]),(Pj m (B6 t)[k])⟩:Mv)]).map EG) by rw[AH];rfl),rfl⟩,Zr,Zr,Zr,Tv⟩,⟨⟨T5,rfl⟩,Zr,Zr,Zr,Tv⟩,Fh,Tv⟩
  have Jp:((Pj l (B6 t)[k]):Int)=((Pj m (B6 t)[k]):Int):=Bq Jp;refine Yi (Ii k (by omega)) ?_;have eO:=ap (l:=l) (m:=m) n10;have eM:We l m (B6 t)[k]=none:=Ak (fun c=>c Jp);rw[eM]at eO;rw[show(none:Option Mv).toList=[]from rfl,BZ]at eO;refine Xi ⟨(k+1,O),n10,by show O=_;rw[eO,k2]⟩ ?_;exact⟨by show(B6 t).length-(k+1)<(B6 t).length-k;omega,Z7,Z4,Fh,Tv⟩
 have Sr:¬((k:Int)<((B6 t).length:Int)):=Sr;refine Xi ⟨[(14,.slice (.id 14 3) (O.map EG))],[(14,.tok 3 O.length)],Ab⟩ (Yi ⟨Z1,Z1,Fh,Tv⟩ ?_)
 have ek:(B6 t).take k=B6 t:=AT (by omega);have eO:O=L1 l m (B6 t):=by rw[k2,ek]
 exact .of_eq (Ac (fun z=>AV.tup [sl EG z,vi 0]) eO)
def FK(w:Wk):Bool:=w.exc.all (fun s=>decide (s.path.size≤100))&&w.pin.all (fun s=>decide (s.path.size≤100))&&(Jm w.rep 8&&decide (w.exc.length≤12)&&decide (w.pin.length≤8))
theorem dD{l:List Sl}{i:Nat}(h:i<l.length)(hb:¬(l[i].path.size:Int)≤100):(l.all fun s=>decide (s.path.size≤100))=false:=by
 rw[List.all_eq_false];exact⟨l[i],Aq h,by simp;omega⟩
theorem LB{l:List Sl}(h:∀j (hj:j<l.length),(l[j].path.size:Int)≤100):(l.all fun s=>decide (s.path.size≤100))=true:=by
 rw[Bp];intro s hs;obtain⟨j,hj,rfl⟩:=DP.1 hs
 have:=h j hj
 simp;omega
structure Pk(w:Wk):Prop where
 rep:w.rep.length≤1048576
 exc:w.exc.length≤1048576
 pin:w.pin.length≤1048576
 rl:∀r∈w.rep,Cp r.reqs∧J3 r
 excs:∀s∈w.exc,Gg s.path
 pins:∀s∈w.pin,Gg s.path
theorem Pk.few{w:Wk}(h:Pk w):aV w:=⟨fun r hr=>(h.rl r hr).2,A3 h.rep (by decide),A3 h.exc (by decide),A3 h.pin (by decide),h.excs,h.pins⟩
theorem Pk.qs{w:Wk}(h:Pk w):kO w.rep:=fun r hr=>⟨(h.rl r hr).1,fun q hq=>((h.rl r hr).2.2 q hq).1⟩
theorem Pk.rq{w:Wk}(h:Pk w):∀r∈w.rep,Cp r.reqs:=fun r hr=>(h.rl r hr).1
theorem r6(w:Wk)(hW:Pk w):PC 16 [.agg (Bx w)] (vb (FK w)):=by
 have rF:w.exc.length≤1048576:=hW.exc;have hW2:w.pin.length≤1048576:=hW.pin;refine Ps ⟨[1],[],[],[],[],[],[],[],[],[],[3,5,8,10]⟩ Tryz.func16 rfl (Nz rfl) ?_;refine Xi {q:Nat // q≤w.exc.length∧∀j (hj:j<w.exc.length),j<q→(w.exc[j].path.size:Int)≤100} (Xi (fun q=>⟨[(1,.ref 1 0),(3,vi q.1)],[(1,.ro (Bx w))],Ab⟩) (Xi (fun q=>w.exc.length-q.1) (Yi (Xi ⟨0,AN _,fun _ _ h=>absurd h (Dt _)⟩ ?_) ?_)))
 ·exact⟨Z2,Z1,Fh,Tv⟩
 intro⟨i,i1,i2⟩;have i1:i≤w.exc.length:=i1;have i2:∀j (hj:j<w.exc.length),j<i→(w.exc[j].path.size:Int)≤100:=i2;refine Yi (fun h1=>?_) (fun h1=>?_)
 ·have h1:(i:Int)<((w.exc.map Ae).length:Int):=h1;have n1:=KZ h1;refine Xi (Ae w.exc[i]) (Yi (Pi n1) (Yi rfl ?_));refine Yi (fun h2=>?_) (fun h2=>?_)
  ·have h2:(100:Int)<(w.exc[i].path.size:Int):=h2;refine Xi ⟨[],[],Ab⟩ (Yi ⟨Tv,Tv,Fh,Tv⟩ ?_)
   exact .of_eq (show vb false=vb (FK w) by unfold FK;rw[dD (l:=w.exc) n1 (TO.2 h2),Bool.false_and,Bool.false_and])
  have h2:¬((100:Int)<(w.exc[i].path.size:Int)):=h2;refine Xi ⟨[(1,.ref 1 0),(3,vi i)],[(1,.ro (Bx w))],Ab⟩ (Yi ⟨Z2,Z1,Fh,Tv⟩ ?_)
  refine Yi (Ii i (by omega)) ?_;refine Xi ⟨i+1,n1,fun j hj HT=>if e:j<i then i2 j hj e else by
    have e:j=i:=by omega
    subst e;exact Int.not_lt.1 h2⟩ ?_
  exact⟨Dl w.exc.length i (by omega),Z2,Z1,Fh,Tv⟩
 have h1:¬((i:Int)<((w.exc.map Ae).length:Int)):=h1;have n1:=KY h1;refine Xi {q:Nat // q≤w.pin.length∧∀j (hj:j<w.pin.length),j<q→(w.pin[j].path.size:Int)≤100} (Xi (fun q=>⟨[(1,.ref 1 0),(4,vi q.1)],[(1,.ro (Bx w))],Ab⟩) (Xi (fun q=>w.pin.length-q.1) (Yi (Xi ⟨0,AN _,fun _ _ h=>absurd h (Dt _)⟩ ?_) ?_)))
 ·exact⟨Z2,Z1,Fh,Tv⟩
 intro⟨k,k1,k2⟩;have k1:k≤w.pin.length:=k1;have k2:∀j (hj:j<w.pin.length),j<k→(w.pin[j].path.size:Int)≤100:=k2;refine Yi (fun h5=>?_) (fun h5=>?_)
 ·have h5:(k:Int)<((w.pin.map Ae).length:Int):=h5;have n5:=KZ h5;refine Xi (Ae w.pin[k]) (Yi (Pi n5) (Yi rfl ?_));refine Yi (fun h6=>?_) (fun h6=>?_)
  ·have h6:(100:Int)<(w.pin[k].path.size:Int):=h6;refine Xi ⟨[],[],Ab⟩ (Yi ⟨Tv,Tv,Fh,Tv⟩ ?_)
   exact .of_eq (show vb false=vb (FK w) by unfold FK;rw[dD (l:=w.pin) n5 (TO.2 h6),DE,Bool.false_and])
  have h6:¬((100:Int)<(w.pin[k].path.size:Int)):=h6;refine Xi ⟨[(1,.ref 1 0),(4,vi k)],[(1,.ro (Bx w))],Ab⟩ (Yi ⟨Z2,Z1,Fh,Tv⟩ ?_)
  refine Yi (Ii k (by omega)) ?_;refine Xi ⟨k+1,n5,fun j hj HT=>if e:j<k then k2 j hj e else by
    have e:j=k:=by omega
    subst e;exact Int.not_lt.1 h6⟩ ?_
  exact⟨Dl w.pin.length k (by omega),Z2,Z1,Fh,Tv⟩
 have h5:¬((k:Int)<((w.pin.map Ae).length:Int)):=h5;have n5:=KY h5;refine BV (Bt (Jm w.rep 8)) (fun h9=>?_) (fun h9=>?_)
 ·have h9:(Jm w.rep 8)=true:=h9;refine Xi .pure (Xi _ (Yi (cb h9 (wq w.rep 8 (A3 hW.rep (by decide)) hW.rq)) ?_));refine Yi (fun Sr=>?_) (fun Sr=>?_)
  ·have Sr:((w.exc.map Ae).length:Int)≤(12:Int):=Sr;refine Yi (fun Jp=>?_) (fun Jp=>?_)
   ·have Jp:((w.pin.map Ae).length:Int)≤(8:Int):=Jp;have e1:=LB fun j hj=>i2 j hj (by have q:=h1;rw[Lm]at q;omega);have e2:=LB fun j hj=>k2 j hj (by have q:=h5;rw[Lm]at q;omega);exact .of_eq (show vb true=vb (FK w) by unfold FK;rw[e1,e2,h9,AA (by have q:=Sr;rw[Lm]at q;omega),AA (by have q:=Jp;rw[Lm]at q;omega)];rfl)
   have Jp:¬(((w.pin.map Ae).length:Int)≤(8:Int)):=Jp;have e1:=LB fun j hj=>i2 j hj (by have q:=h1;rw[Lm]at q;omega);have e2:=LB fun j hj=>k2 j hj (by have q:=h5;rw[Lm]at q;omega);exact .of_eq (show vb false=vb (FK w) by unfold FK;rw[e1,e2,h9,AA (by have q:=Sr;rw[Lm]at q;omega),Ap (by have q:=Jp;rw[Lm]at q;omega)];simp)
  have Sr:¬(((w.exc.map Ae).length:Int)≤(12:Int)):=Sr;have e1:=LB fun j hj=>i2 j hj (by have q:=h1;rw[Lm]at q;omega);have e2:=LB fun j hj=>k2 j hj (by have q:=h5;rw[Lm]at q;omega);exact .of_eq (show vb false=vb (FK w) by unfold FK;rw[e1,e2,h9,Ap (by have q:=Sr;rw[Lm]at q;omega)];simp)
 have h9:(Jm w.rep 8)=false:=h9;refine Xi .pure (Xi _ (Yi (cb h9 (wq w.rep 8 (A3 hW.rep (by decide)) hW.rq)) ?_));have e1:=LB fun j hj=>i2 j hj (by have q:=h1;rw[Lm]at q;omega);have e2:=LB fun j hj=>k2 j hj (by have q:=h5;rw[Lm]at q;omega);exact .of_eq (show vb false=vb (FK w) by unfold FK;rw[e1,e2,h9];simp)
theorem zU(x y:List Rl)(ifs rY:List (List AV))(roots:List Rq)(w:Wk)(a b:List Sl)(ms:List Mv)(Jp:PC 11 [Rd x ifs,.agg (Bx w)] (.tup [Rd y rY,vi 0]))(h1:PC 30 [Rd x ifs,sl AM roots] (.tup [sl Ae a,vi 0]))(h2:PC 30 [Rd y rY,sl AM roots] (.tup [sl Ae b,vi 0]))(rA:PC 75 [sl Ae a,sl Ae b] (.tup [sl EG ms,vi 0])):PC 34 [Rd x ifs,sl AM roots,.agg (Bx w)] (.tup [sl EG ms,vi 0]):=by
 refine Ps ⟨[3,5,8],[],[],[],[],[],[],[],[],[],[2,5,8]⟩ Tryz.func34 rfl (Nz rfl) ?_;refine Yi (Nz rfl) ?_;refine Yi (Nz rfl) ?_;refine Xi .pure (Xi _ (Yi Jp ?_));refine Yi (Nz rfl) ?_;refine Xi ⟨[(1,sl AM roots),(3,.ref 3 0),(8,.ref 8 0),(9,vi 0)],[(3,.ro (Ic x ifs)),(8,.ro [sl Ai y,.slice .none rY])],Ab⟩ (Yi ⟨Z4,Z2,Fh,Tv⟩ ?_)
 refine Yi (fun h=>absurd h (by decide)) (fun _=>?_);refine Yi (Nz rfl) ?_;refine Xi .pure (Xi _ (Yi h1 ?_));refine Xi ⟨[(1,sl AM roots),(8,.ref 8 0),(9,vi 0),(10,sl Ae a)],[(8,.ro [sl Ai y,.slice .none rY])],Ab⟩ (Yi ⟨Z4,Z1,Fh,Tv⟩ ?_)
 refine Yi (fun h=>absurd h (by decide)) (fun _=>?_);refine Yi (Nz rfl) ?_;refine Xi .pure (Xi _ (Yi h2 ?_));refine Xi ⟨[(9,vi 0),(10,sl Ae a),(11,sl Ae b)],[],Ab⟩ (Yi ⟨Z3,Tv,Fh,Tv⟩ ?_)
 refine Yi (fun h=>absurd h (by decide)) (fun _=>?_);refine Xi .pure (Xi _ (Yi rA ?_));exact .refl _
end Go.Eng
namespace Go.Proofs
open Go.Shelf Go.RowKit Go.Lib Go.Sort
abbrev OneC:Type:={v:Value // v.oneCell'=true}
def SlA:Type:=ByteArray×OneC×OneC×OneC
instance:Inhabited SlA:=⟨⟨ByteArray.empty,⟨.bool false,rfl⟩,⟨.bool false,rfl⟩,⟨.bool false,rfl⟩⟩⟩
def encSlA(x:SlA):List Value:=[.string x.1,x.2.1.1,x.2.2.1.1,x.2.2.2.1]
def cfSlA(x y:SlA):Int:=Lib.compareBytes x.1.data.toList y.1.data.toList
abbrev CmpSlA(k:Nat):Prop:=∀(x y:SlA) (W:World),Calls Tryz.prog k #[.agg #[.string x.1,x.2.1.1,x.2.2.1.1,x.2.2.2.1],.agg #[.string y.1,y.2.1.1,y.2.2.1.1,y.2.2.2.1]] W fun e w'=>e=.returned (.int .i64 (cfSlA x y))∧∃q os',w'=grow (W.drewN q) os'
theorem Tryz.closure99:CmpSlA 99:=fun x y W=>by
 have hcon:=fun W'=>Any.strings_Compare Tryz.layCompare x.1 y.1 W';obtain⟨a,⟨b,hb⟩,⟨c,hc⟩,⟨d,hd⟩⟩:=x;obtain⟨a',⟨b',mG⟩,⟨c',nZ⟩,⟨d',jz⟩⟩:=y;dsimp only at hcon
 change ∀W',Calls Tryz.prog 100 _ _ _ at hcon
 unfold cfSlA;dsimp only;generalize Lib.compareBytes a.data.toList a'.data.toList=r at hcon⊢
 go_enter Tryz.func99,Tryz.ntmps99
 go_wp2_with (go_at_call 100;refine(hcon _).mono ?_;rintro e w' ⟨rfl,rfl⟩)
 go_ret
 exact⟨rfl,0,_,by rw[alloc_eq_grow,alloc_eq_grow,grow_grow];rfl⟩
end Go.Proofs
namespace Go.Eng
open Go.Proofs Go.Shelf Go.RowKit Go.Lib Go.Sort
theorem aj(x y:SlA):ltOf cfSlA x y=Fa x.1 y.1:=SW _ _
theorem ic:SWO (ltOf cfSlA) where
 irrefl x:=by rw[aj];exact CY _
 trans x y z h1 h2:=by rw[aj]at *;exact D8 h1 h2
 ntrans x y z h1 h2:=by
  rw[aj]at *
  rw[AI];intro h;cases ov:Fa y.1 x.1 with
  |true=>have:=D8 ov h;rw[h2]at this;cases this
  |false =>
   have e:=Hi h1 ov;rw[e]at h;rw[h2]at h;cases h
theorem s92(k:Nat)(hc:CmpSlA k)(eg:∀args w,(callFunc k args).run Tryz.prog w=.ok (.enter k args) w)(l:List Sl)(hl:Cp l)(lim:Nat)(Xs:lim<100) :
  Bd Tryz.prog 129 [.msl 1000 l.length,vi 0,vi l.length,vi lim,.v (TY k)] (Ah [(1000,.arr 4 (l.map Ae))] Ab) fun r h' =>
   r=.tup []∧∃l' : List Sl,l'.Perm l∧l'.Pairwise (fun x y=>Fa y.path x.path=false)∧h'=Ah [(1000,.arr 4 (l'.map Ae))] Ab:=by
 have hl:l.length≤1073741824:=hl;have hE:FS Tryz.prog 129:=dj 129 Tryz.func129 (by kernel_rfl) rfl;have G2:=I3 (P:=Tryz.prog) (f:=129) (α:=SlA) (rest:=[.int .i64 0,.int .i64 l.length,.int .i64 lim,TY k]) hE Ae encSlA (k:=4) (fun _=>rfl) (fun _=>rfl) (ltOf cfSlA) (fun x a=>a.1=x.path) l (by omega) ?_ ?_ ?_
 ·refine⟨hE,fun g w vals q1 q2 q3=>(G2.2 g w vals q1 q2 q3).mono fun _ _ ⟨v,r,h',g',e1,⟨e2,l',p1,⟨al,a1,a2,a3⟩,p2⟩,rest⟩=>⟨v,r,h',g',e1,⟨e2,l',p1,?_,p2⟩,rest⟩⟩;rw[Bh]at a3⊢;intro i j hi hj UO
  have:=a3 i j (by omega) (by omega) UO
  rw[aj]at this;have e1:=a2 i _ _ (Ge hi) (Ge (by omega));have e2:=a2 j _ _ (Ge hj) (Ge (by omega));rw[←e1,←e2];exact this
 ·intro x hx g w vs hr
  match vs,hr with
  | [a,b,c,d],hr =>
   have h1:=(hr.2.2 0 (Go.Eng.vs x.path) a rfl rfl).v_eq;subst h1;exact⟨⟨x.path,⟨b,hr.2.1 b (by simp)⟩,⟨c,hr.2.1 c (by simp)⟩,⟨d,hr.2.1 d (by simp)⟩⟩,rfl,rfl⟩
  | [],hr=>have:=hr.1;simp at this
  | [_],hr=>have:=hr.1;simp at this
  | [_,_],hr=>have:=hr.1;simp at this
  | [_,_,_],hr=>have:=hr.1;simp at this
  |_::_::_::_::_::_,hr=>have:=hr.1;simp at this
 ·intro w b cap d hH hb EB hdl;have fb:CmpLays Tryz.prog k #[] encSlA 4 cfSlA b 0 d.size w:=fun _ _ _ _ x y=>hc x y _;have hp:=AnyQ.pdqsortCmpFunc_all Tryz.layPdqSel 4 Tryz.isAgg51 Tryz.sizeOf51 encSlA cfSlA k #[] ic b 0 cap d w eg fb ⟨fun _=>rfl,fun x v hv=>by
    simp only[encSlA,Au,Lq,or_false]at hv;rcases hv with rfl | rfl | rfl | rfl
    ·rfl
    ·exact x.2.1.2
    ·exact x.2.2.1.2
    ·exact x.2.2.2.2,hH,hb⟩ (d.size+1) 0 d.size lim d w (by omega) rfl (SWK.start hH) (AN _) (Aj _) EB (by omega) (Or.inl rfl)
  rw[hdl]at hp⊢;refine hp.mono ?_
  rintro e w' ⟨rfl,n,os,rfl⟩
  have h:=pdq_sorts (ltOf cfSlA) ic d 0 d.size lim true true (AN _) (Aj _) (Or.inl rfl);rw[hdl]at h;exact⟨rfl,_,n,os,h.1,h.2,rfl⟩
 ·intro e w;subst e;exact AnyF.pdqsortCmpFunc_none Tryz.layPdqSel none 0 lim (TY k) w
theorem Uf{l l' : List Sl}(h1:Vx l)(h2:Vx l')(hm:∀y,y∈l↔y∈l'):l=l':=by
 induction l generalizing l' with
 |nil =>
  cases l' with
  |nil=>rfl
  |cons y l'=>have:=(hm y).2 (Aa ..);cases this
 |cons x l ih =>
  cases l' with
  |nil=>have:=(hm x).1 (Aa ..);cases this
  |cons y l' =>
   obtain⟨a1,a2⟩:=BQ.1 h1;obtain⟨b1,b2⟩:=BQ.1 h2;have e:x=y:=by
    rcases Au.1 ((hm x).1 (Aa ..))with e | e
    ·exact e
    ·rcases Au.1 ((hm y).2 (Aa ..))with e2 | e2
     ·exact e2.symm
     ·have c1:=b1 x e;have c2:=a1 y e2
      have:=D8 c1 c2
      rw[CY]at this;cases this
   subst e
   congr 1
   refine ih a2 b2 fun z=>⟨fun hz=>?_,fun hz=>?_⟩
   ·rcases Au.1 ((hm z).1 (Af _ hz))with e | e
    ·subst e
     have:=a1 z hz
     rw[CY]at this;cases this
    ·exact e
   ·rcases Au.1 ((hm z).2 (Af _ hz))with e | e
    ·subst e
     have:=b1 z hz
     rw[CY]at this;cases this
    ·exact e
theorem hJ{l l' : List Sl}(hn:(l.map (·.path)).Nodup)(hp:l'.Perm l)(hs:l'.Pairwise fun x y=>Fa y.path x.path=false):l'=FO l:=by
 refine Uf ?_ (PY hn) fun y=>by rw[hp.mem_iff,H4]
 have Xu : (l'.map (·.path)).Nodup:=(hp.map (·.path)).nodup_iff.2 hn;show l'.Pairwise _;rw[Bh]at hs⊢;intro i j hi hj UO;cases hb:Fa l'[i].path l'[j].path with
 |true=>rfl
 |false =>
  have e:=Hi hb (hs i j hi hj UO)
  have:=(Bh.1 Xu) i j (by simpa using hi) (by simpa using hj) UO
  simp at this;exact absurd e this
theorem s47(k:Nat)(hc:CmpSlA k)(eg:∀args w,(callFunc k args).run Tryz.prog w=.ok (.enter k args) w)(l:List Sl)(hl:Cp l)(hn:(l.map (·.path)).Nodup) :
  Bd Tryz.prog 98 [.msl 1000 l.length,.v (TY k)] (Ah [(1000,.arr 4 (l.map Ae))] Ab) fun r h' =>
   r=.tup []∧h'=Ah [(1000,.arr 4 ((FO l).map Ae))] Ab:=by
 obtain⟨lim,Xs,hb⟩:=l8 l.length hl;refine Cm (Mo Gc) [(1000,1000)] rfl CK hm rfl Tryz.func98 (by kernel_rfl) rfl (Nz rfl) (by kernel_rfl) rfl ?_;refine Xi .pure (Xi _ (Yi (hb) ?_));refine Xi (.gen [(1000,1000)] 0) (Yi rfl ((s92 k hc eg l hl lim Xs).imp ?_));intro r h' hq;refine Dn hq.2 (fun l' PD=>?_);have e:=hJ hn PD.1 PD.2.1;refine Xi (.tup []) (Yi ?_ (Yi rfl ?_))
 ·exact .refl _
 ·rw[PD.2.2,e];rfl
end Go.Eng
