/- Lemmas for the claims of this seat, without a condition: part 25 (O9, O10, R14, R15, R16, R17, R18, R19, R20, R21, R22, R23, O11, O12, O13, O14, O16, O17). -/
import Derived.Test.YtmcbkdbfaneofaaGreatDoorFA24
import Derived.Test.YtmcbkdbfaneofaaGreatDoorFA03
set_option maxHeartbeats 4000000
namespace Go.Eng
structure OC{α β:Type}(c:α→α→Int)(R:α→α→Prop)(key:α→β):Prop where
 lt:∀a b,c a b<0↔R a b
 eq:∀a b,c a b=0↔key a=key b
 tr:∀a b d,R a b→R b d→R a d
 irr:∀a b,key a=key b→¬R a b
 tri:∀a b,¬R a b→key a≠key b→R b a
 cl:∀a b d,key a=key b→R a d→R b d
section
variable {α β:Type}{c:α→α→Int}{R:α→α→Prop}{key:α→β}
theorem OC.gt(h:OC c R key){a b:α}(h1:¬c a b<0)(h2:¬c a b=0):R b a:=h.tri a b (fun q=>h1 ((h.lt a b).2 q)) (fun q=>h2 ((h.eq a b).2 q))
theorem H7(h:OC c R key):∀(n:Nat) (a b:List α),a.length+b.length≤n→a.Pairwise R→b.Pairwise R→(Cu c n a b).Pairwise R
 |0,_,_,_,_,_=>.nil
 |n+1,a,b,hn,ha,hb=>by
  cases a with
  |nil =>
   cases b with
   |nil=>exact .nil
   |cons y b =>
    simp only[Au,AD]at hn;obtain⟨h1,h2⟩:=BX.1 hb;show(y::Cu c n [] b).Pairwise R;refine .cons (fun z hz=>?_) (H7 h n [] b (by simp only[AD];omega) ha h2);rcases EX n [] b z hz with hz | hz
    ·cases hz
    ·exact h1 z hz
  |cons x a =>
   obtain⟨g1,g2⟩:=BX.1 ha;cases b with
   |nil =>
    simp only[Au,AD]at hn;show(x::Cu c n a []).Pairwise R;refine .cons (fun z hz=>?_) (H7 h n a [] (by simp only[AD];omega) g2 hb);rcases EX n a [] z hz with hz | hz
    ·exact g1 z hz
    ·cases hz
   |cons y b =>
    obtain⟨h1,h2⟩:=BX.1 hb;simp only[Au]at hn;show(if c x y<0 then x::Cu c n a (y::b)else if c x y=0 then y::Cu c n a b else y::Cu c n (x::a) b).Pairwise R;split
    ·rename_i e;have e:=(h.lt x y).1 e;refine .cons (fun z hz=>?_) (H7 h n a (y::b) (by simp only[Au];omega) g2 hb);rcases EX n a (y::b) z hz with hz | hz
     ·exact g1 z hz
     ·rcases As.1 hz with rfl | hz
      ·exact e
      ·exact h.tr _ _ _ e (h1 z hz)
    ·split
     ·rename_i e;have e:=(h.eq x y).1 e;refine .cons (fun z hz=>?_) (H7 h n a b (by omega) g2 h2);rcases EX n a b z hz with hz | hz
      ·exact h.cl x y z e (g1 z hz)
      ·exact h1 z hz
     ·rename_i e1 e2;have e:=h.gt e1 e2;refine .cons (fun z hz=>?_) (H7 h n (x::a) b (by simp only[Au];omega) ha h2);rcases EX n (x::a) b z hz with hz | hz
      ·rcases As.1 hz with rfl | hz
       ·exact e
       ·exact h.tr _ _ _ e (g1 z hz)
      ·exact h1 z hz
theorem Zw(h:OC c R key){a b:List α}(ha:a.Pairwise R)(hb:b.Pairwise R):(A3 c a b).Pairwise R:=H7 h _ a b (Ak _) ha hb
theorem H6(h:OC c R key):∀(n:Nat) (a b:List α),a.length+b.length≤n→a.Pairwise R→b.Pairwise R→∀r,r∈Cu c n a b↔r∈b∨(r∈a∧∀s∈b,key r≠key s)
 |0,a,b,hn,_,_,r=>by
  have ha:a=[]:=AC (by omega);have hb:b=[]:=AC (by omega);subst ha;subst hb;simp[Cu]
 |n+1,a,b,hn,ha,hb,r=>by
  cases a with
  |nil =>
   cases b with
   |nil=>simp[Cu]
   |cons y b =>
    simp only[Au,AD]at hn;obtain⟨h1,h2⟩:=BX.1 hb;show r∈y::Cu c n [] b↔_;rw[As,H6 h n [] b (by simp only[AD];omega) ha h2];simp
  |cons x a =>
   obtain⟨g1,g2⟩:=BX.1 ha;cases b with
   |nil =>
    simp only[Au,AD]at hn;show r∈x::Cu c n a []↔_;rw[As,H6 h n a [] (by simp only[AD];omega) g2 hb];simp
   |cons y b =>
    obtain⟨h1,h2⟩:=BX.1 hb;simp only[Au]at hn;show r∈(if c x y<0 then x::Cu c n a (y::b)else if c x y=0 then y::Cu c n a b else y::Cu c n (x::a) b)↔_;split
    ·rename_i e;have e:=(h.lt x y).1 e;rw[As,H6 h n a (y::b) (by simp only[Au];omega) g2 hb];constructor
     ·rintro(rfl | hr | ⟨hr,hk⟩)
      ·refine .inr ⟨Ab ..,fun s hs=>?_⟩;intro hk;rcases As.1 hs with rfl | hs
       ·exact h.irr _ _ hk e
       ·exact h.irr _ _ hk (h.tr _ _ _ e (h1 s hs))
      ·exact .inl hr
      ·exact .inr ⟨Af _ hr,hk⟩
     ·rintro(hr | ⟨hr,hk⟩)
      ·exact .inr (.inl hr)
      ·rcases As.1 hr with rfl | hr
       ·exact .inl rfl
       ·exact .inr (.inr ⟨hr,hk⟩)
    ·split
     ·rename_i e;have e:=(h.eq x y).1 e;rw[As,H6 h n a b (by omega) g2 h2];constructor
      ·rintro(rfl | hr | ⟨hr,hk⟩)
       ·exact .inl (Ab ..)
       ·exact .inl (Af _ hr)
       ·refine .inr ⟨Af _ hr,fun s hs=>?_⟩;rcases As.1 hs with rfl | hs
        ·exact fun q=>h.irr _ _ q.symm (h.cl _ _ _ e (g1 r hr))
        ·exact hk s hs
      ·rintro(hr | ⟨hr,hk⟩)
       ·exact(As.1 hr).imp id .inl
       ·rcases As.1 hr with rfl | hr
        ·exact absurd e (hk y (Ab ..))
        ·exact .inr (.inr ⟨hr,fun s hs=>hk s (Af _ hs)⟩)
     ·rename_i e1 e2;have e:=h.gt e1 e2;rw[As,H6 h n (x::a) b (by simp only[Au];omega) ha h2];constructor
      ·rintro(rfl | hr | ⟨hr,hk⟩)
       ·exact .inl (Ab ..)
       ·exact .inl (Af _ hr)
       ·refine .inr ⟨hr,fun s hs=>?_⟩;rcases As.1 hs with rfl | hs
        ·intro q;rcases As.1 hr with rfl | hr
         ·exact h.irr _ _ q.symm e
         ·exact h.irr _ _ q.symm (h.tr _ _ _ e (g1 r hr))
        ·exact hk s hs
      ·rintro(hr | ⟨hr,hk⟩)
       ·exact(As.1 hr).imp id .inl
       ·exact .inr (.inr ⟨hr,fun s hs=>hk s (Af _ hs)⟩)
theorem Zv(h:OC c R key){a b:List α}(ha:a.Pairwise R)(hb:b.Pairwise R)(r:α):r∈A3 c a b↔r∈b∨(r∈a∧∀s∈b,key r≠key s):=H6 h _ a b (Ak _) ha hb r
theorem I3(h:OC c R key){a:List α}(ha:a.Pairwise R):(a.map key).Nodup:=by
 unfold List.Nodup;rw[List.pairwise_map];exact ha.imp fun q e=>h.irr _ _ e q
theorem XP{l:List α}(hn:(l.map key).Nodup){a b:α}(ha:a∈l)(hb:b∈l)(e:key a=key b):a=b:=by
 induction l with
 |nil=>cases ha
 |cons x l ih =>
  rw[AN,CA]at hn;rcases As.1 ha with h1 | h1
  ·rcases As.1 hb with h2 | h2
   ·rw[h1,h2]
   ·subst h1;exact absurd (e▸List.mem_map_of_mem h2) hn.1
  ·rcases As.1 hb with h2 | h2
   ·subst h2;exact absurd (e▸List.mem_map_of_mem h1) hn.1
   ·exact ih hn.2 h1 h2
end
/-! The three comparisons. -/
def oy(a b:Sl):Prop:=Fl a.path b.path=true∨(a.path=b.path∧gK a.ver b.ver)
abbrev py(a b:Sl):Prop:=Fl a.path b.path=true
theorem Sj{a b:Int}:FS a b<0↔a<b:=by
 unfold FS;split
 ·rename_i h;simp[h]
 ·rename_i h;split<;>simp[h]
theorem Gi{a b:Int}:FS a b=0↔a=b:=by
 unfold FS;split
 ·rename_i h;simp;omega
 ·rename_i h;split
  ·rename_i h2;simp;omega
  ·rename_i h2;simp;omega
theorem fg{a b:Ver}:LV a b<0↔gK a b:=by
 refine⟨am,fun h=>?_⟩;unfold LV;rcases h with h | ⟨h1,h | ⟨h2,h⟩⟩
 ·rw[Aw (fun c=>by have:=Gi.1 c;omega)];exact Sj.2 h
 ·rw[Ai (fun c=>c (Gi.2 h1)),Aw (fun c=>by have:=Gi.1 c;omega)];exact Sj.2 h
 ·rw[Ai (fun c=>c (Gi.2 h1)),Ai (fun c=>c (Gi.2 h2))];exact Sj.2 h
theorem YX{a b:Ver}:LV a b=0↔a=b:=by
 refine⟨UQ,fun h=>?_⟩;subst h;unfold LV;rw[Ai (fun c=>c (Gi.2 rfl)),Ai (fun c=>c (Gi.2 rfl))];exact Gi.2 rfl
theorem W8{a b:Sl}:Gw a b<0↔oy a b:=by
 unfold Gw oy
 by_cases h:a.path=b.path
 ·rw[Ai (fun c=>c (HZ.2 h)),fg];exact⟨fun q=>.inr ⟨h,q⟩,fun q=>q.elim (fun q=>by rw[h,Di]at q;cases q) (·.2)⟩
 ·rw[Aw (fun c=>h (HZ.1 c)),W7];exact⟨.inl,fun q=>q.elim id fun q=>absurd q.1 h⟩
theorem YW{a b:Sl}:Gw a b=0↔a=b:=by
 unfold Gw
 by_cases h:a.path=b.path
 ·rw[Ai (fun c=>c (HZ.2 h)),YX];constructor
  ·intro q;cases a;cases b;simp_all
  ·rintro rfl;rfl
 ·rw[Aw (fun c=>h (HZ.1 c))];exact⟨fun q=>absurd (HZ.1 q) h,fun q=>absurd (Ac Sl.path q) h⟩
theorem kS{a b:Sl}(h:¬oy a b)(hk:a≠b):oy b a:=by
 unfold oy at *
 by_cases e:a.path=b.path
 ·refine .inr ⟨e.symm,?_⟩;have h2:¬gK a.ver b.ver:=fun q=>h (.inr ⟨e,q⟩);have h3:a.ver≠b.ver:=fun q=>hk (by cases a;cases b;simp_all);unfold gK at *
  by_cases q1:a.ver.a=b.ver.a
  ·by_cases q2:a.ver.b=b.ver.b
   ·by_cases q3:a.ver.c=b.ver.c
    ·exact absurd (by cases ha:a.ver;cases hb:b.ver;simp_all) h3
    ·omega
   ·omega
  ·omega
 ·cases q:Fl b.path a.path with
  |true=>exact .inl rfl
  |false =>
   cases p:Fl a.path b.path with
   |true=>exact absurd (.inl p) h
   |false=>exact absurd (Hs p q) e
theorem rQ:OC Cs TZ EG where
 lt a b:=W8 (a:=EG a) (b:=EG b)
 eq a b:=YW (a:=EG a) (b:=EG b)
 tr _ _ _:=Vb
 irr _ _ e h:=G1 h e
 tri a b h e:=kS (a:=EG a) (b:=EG b) h e
 cl a b d e h:=show oy (EG b) (EG d)from(show EG a=EG b from e)▸h
theorem tn:OC PE py (fun s:Sl=>s.path) where
 lt _ _:=W7
 eq _ _:=HZ
 tr _ _ _:=EB
 irr a b e h:=by rw[py,e,Di]at h;cases h
 tri a b h e:=by
  cases q:Fl b.path a.path with
  |true=>exact q
  |false =>
   cases p:Fl a.path b.path with
   |true=>exact absurd p h
   |false=>exact absurd (Hs p q) e
 cl a b d e h:=by rw[py,←e];exact h
/-! Pins. -/
def Jq(pins:List Sl)(r:Rl):Option Rl :=
 match ZO pins r.path with
 |none=>some r
 |some p=>if p=EG r then some { r with yanked:=false }else none
def jl(s:Sl)(r:Rl):Rl:=if EG r=s then { r with yanked:=false }else r
theorem jj{s:Sl}:∀{B:List Rl} {i:Nat} (hi:i<B.length),EG B[i]=s→(B.map EG).Nodup→Pl B i=B.map (jl s):=by
 intro B i hi hs hn;rw[bu (Ge hi)];refine List.ext_getElem (by simp) fun j h1 h2=>?_;rw[List.getElem_set,GN];have hj:j<B.length:=by simpa using h1
 by_cases e:i=j
 ·subst e;rw[Aw rfl];unfold jl;rw[Aw hs]
 ·rw[Ai e];unfold jl;rw[Ai];intro q
  have:=(A7.1 hn)
  rcases Nat.lt_or_gt_of_ne e with z | z
  ·exact this i j (by simpa using hi) (by simpa using hj) z (by rw[GN,GN,hs,q])
  ·exact this j i (by simpa using hj) (by simpa using hi) z (by rw[GN,GN,hs,q])
theorem J3{α β:Type}{q:α→Bool}{f:α→β}{g:α→Option β}(h:∀x,(if q x=true then some (f x)else none)=g x):∀l:List α,(l.filter q).map f=l.filterMap g
 | []=>rfl
 |x::l=>by
  rw[M1,←h x,DN];cases e:q x with
  |true=>simp only[Kz,AN,J3 h l]
  |false=>simp only[Cy,Fg,J3 h l]
theorem iw(s:Sl)(r:Rl):(if(!DU s r)=true then some (jl s r)else none)=Jq [s] r:=by
 unfold DU jl Jq ZO
 by_cases h:r.path=s.path
 ·have h' : s.path=r.path:=h.symm
  by_cases e:EG r=s
  ·subst e;simp
  ·have e' : ¬s=EG r:=fun q=>e q.symm;simp[h,e,e']
 ·have e:¬EG r=s:=fun q=>h (by rw[←q]);have h' : ¬s.path=r.path:=fun q=>h q.symm;simp[h,h',e]
theorem dy{s:Sl}{l:List Sl}(hs:∀t∈l,t.path≠s.path)(r:Rl):(Jq [s] r).bind (Jq l)=Jq (s::l) r:=by
 unfold Jq ZO
 by_cases h:s.path=r.path
 ·by_cases e:s=EG r
  ·subst e;have OK:l.find? (fun y=>decide (y.path=r.path))=none:=by
    rw[DB];intro y hy;simpa using hs y hy
   simp[OK]
  ·simp[h,e]
 ·simp[h]
theorem iv{B:List Rl}{s:Sl}(hB:(B.map EG).Nodup):Lz B s=if s∈B.map EG then some (B.filterMap (Jq [s]))else none:=by
 have hK:((kept (DU s) B).map EG).Nodup:=List.Sublist.nodup (List.Sublist.map _ List.filter_sublist) hB;have fZ:∀r,EG r=s→DU s r=false:=fun r e=>by unfold DU;simp[e]
 unfold Lz;rcases Lb (fun r=>decide (EG r=s)) (kept (DU s) B)with ⟨e,OK⟩ | ⟨i,hi,e,hp,_⟩
 ·have e2:LN s (kept (DU s) B)<0:=by unfold LN;rw[e];decide
  rw[Aw e2,Ai];intro hm;obtain⟨r,hr,rs⟩:=Al.1 hm;have mn:r∈kept (DU s) B:=By.2 ⟨hr,by rw[fZ r rs];rfl⟩;obtain⟨j,hj,ej⟩:=CQ.1 mn
  have:=OK j hj
  rw[ej,Ax rs]at this;cases this
 ·have e2:LN s (kept (DU s) B)=(i:Int):=e;have hp:EG (kept (DU s) B)[i]=s:=Bq hp;rw[Ai (by rw[e2];omega),Aw,e2,show((i:Nat):Int).toNat=i from rfl,jj hi hp hK]
  ·exact Ac some (J3 (iw s) B)
  ·exact Al.2 ⟨_,(By.1 (Ap hi)).1,hp⟩
theorem Ym{pins:List Sl}{r r' : Rl}(h:Jq pins r=some r'):EG r'=EG r:=by
 unfold Jq at h;split at h
 ·cases h;rfl
 ·split at h
  ·cases h;rfl
  ·cases h
theorem IH{f:Rl→Option Rl}(hf:∀r r',f r=some r'→EG r'=EG r):∀B:List Rl,((B.filterMap f).map EG).Sublist (B.map EG)
 | []=>.slnil
 |r::B=>by
  rw[M1,AN];cases e:f r with
  |none=>exact .cons _ (IH hf B)
  |some r'=>rw[AN,hf r r' e];exact .cons_cons _ (IH hf B)
theorem aY:∀{pins:List Sl} {B:List Rl},(pins.map (·.path)).Nodup→(B.map EG).Nodup→HG pins B=if ∀s∈pins,s∈B.map EG then some (B.filterMap (Jq pins))else none
 | [],B,_,_=>by
  rw[Aw (fun s hs=>by cases hs)];show some B=some _;rw[show B.filterMap (Jq [])=B from List.filterMap_some ..]
 |s::l,B,hn,hB=>by
  rw[AN,CA]at hn;have hs:∀t∈l,t.path≠s.path:=fun t ht e=>hn.1 (e▸List.mem_map_of_mem ht);show(Lz B s).bind (HG l)=_;rw[iv hB]
  by_cases h:s∈B.map EG
  ·rw[Aw h,RR];have XJ:=IH (fun r r' e=>Ym (pins:=[s]) e) B;rw[aY hn.2 (XJ.nodup hB),List.filterMap_filterMap];have e1:(fun x=>(Jq [s] x).bind (Jq l))=Jq (s::l):=funext (dy hs);rw[e1];have e2:(∀t∈l,t∈(B.filterMap (Jq [s])).map EG)↔∀t∈s::l,t∈B.map EG:=by
    constructor
    ·intro q t ht;rcases As.1 ht with rfl | ht
     ·exact h
     ·exact XJ.subset (q t ht)
    ·intro q t ht;obtain⟨r,hr,e⟩:=Al.1 (q t (Af _ ht));refine Al.2 ⟨r,List.mem_filterMap.2 ⟨r,hr,?_⟩,e⟩;unfold Jq ZO
     have:¬s.path=r.path:=fun p=>hs t ht (by rw[←e];exact p.symm)
     simp[this]
   by_cases q:∀t∈l,t∈(B.filterMap (Jq [s])).map EG
   ·rw[Aw q,Aw (e2.1 q)]
   ·rw[Ai q,Ai (fun p=>q (e2.2 p))]
  ·rw[Ai h,Ai (fun q=>h (q s (Ab ..)))];rfl
theorem ZC{α β:Type}{f:α→β}{l:List α}(h:(l.map f).Nodup):l.Nodup:=by
 unfold List.Nodup at *
 rw[List.pairwise_map]at h;exact h.imp fun q e=>q (Ac f e)
theorem iy{pins:List Sl}{p:ByteArray}{s:Sl}(h:ZO pins p=some s):s∈pins∧s.path=p:=by
 unfold ZO at h;exact⟨BO h,by simpa using DK h⟩
theorem Vl{pins:List Sl}(hn:(pins.map (·.path)).Nodup){s:Sl}(hs:s∈pins):ZO pins s.path=some s:=K5 hn hs
/-! What the reference makes of a list. -/
abbrev rS(w:Wk)(l:List Rl):List Rl:=(kept (Jc w) l).filterMap (Jq w.pin)
theorem MT{α:Type}{l:List α}{i:Nat}(h:i<l.length):l.take (i+1)=l.take i++[l[i]]:=Kl h
theorem Iq{w:Wk}(h:CW w=0):A5 w.rep=0∧HB Gw w.exc=true∧HB PE w.pin=true∧∀s∈w.pin,s∉w.exc:=by
 unfold CW at h;split at h
 ·cases h
 ·rename_i h1;split at h
  ·cases h
  ·rename_i h2;simp only[not_or,BM]at h1;refine⟨h1.1,by simpa using h1.2.1,by simpa using h1.2.2,fun s hs he=>h2 (Bc.2 ⟨s,hs,Ax he⟩)⟩
theorem cG{c:Sl→Sl→Int}{R:Sl→Sl→Prop}{β:Type}{key:Sl→β}(hc:OC c R key){l:List Sl}(h:HB c l=true):l.Pairwise R:=by
 have h:=Jj.1 h;rw[A7];have step:∀(d i:Nat) (h1:i+d+1<l.length),R (l[i]'(by omega)) l[i+d+1]:=by
  intro d
  induction d with
  |zero =>
   intro i h1
   have:=(h (i+1) h1).2 (by omega)
   exact(hc.lt _ _).1 this
  |succ d ih =>
   intro i h1
   have:=(h (i+(d+1)+1) h1).2 (by omega)
   have e:=(hc.lt _ _).1 this;exact hc.tr _ _ _ (ih i (by omega)) e
 intro i j hi hj QL
 have:=step (j-i-1) i (by omega)
 have e:i+(j-i-1)+1=j:=by omega
 simp only[e]at this;exact this
theorem Nm{w:Wk}(h:CW w=0):w.pin.Pairwise py:=cG tn (Iq h).2.2.1
theorem NP{x:List Rl}{w:Wk}(hx:A5 x=0)(h:CW w=0):(A3 Cs x w.rep).Pairwise TZ:=Zw rQ (B9 hx).2 (B9 (Iq h).1).2
end Go.Eng
namespace Go.Eng
open Go.Proofs
def aw(p:ByteArray)(r:Rl):Bool:=decide (r.path=p)&&!r.yanked
def sq(r:Rl):Int×Int:=(plc r.ver,plc r.ver+1)
theorem bO{x:List Rl}{p:ByteArray}(h:A5 x=0):B8 x p=canon ((x.filter (aw p)).map sq):=by
 unfold B8 Kc;rw[Ai (not_not_intro h),List.filter_filter]
 congr 3
 funext r
 unfold aw;rw[Bool.and_comm]
theorem dh{α:Type}(o:Option α):(∃x,o=some x)∨o=none:=by
 cases o with
 |none=>exact .inr rfl
 |some x=>exact .inl ⟨x,rfl⟩
instance:DecidableEq Rq:=fun x y=>decidable_of_iff (x.path=y.path∧x.set=y.set) ⟨fun⟨h1,h2⟩=>by cases x;cases y;simp_all,fun h=>by subst h;exact Zr⟩
instance:DecidableEq Rl:=fun x y=>decidable_of_iff (x.path=y.path∧x.ver=y.ver∧x.reqs=y.reqs∧x.arch=y.arch∧x.ifc=y.ifc∧x.cert=y.cert∧x.yanked=y.yanked) ⟨fun⟨h1,h2,h3,h4,h5,h6,h7⟩=>by cases x;cases y;simp_all,fun h=>by subst h;exact⟨rfl,rfl,rfl,rfl,rfl,rfl,rfl⟩⟩
theorem sd{a b:Rq}(h1:a.path=b.path)(h2:a.set=b.set):a=b:=by cases a;cases b;simp_all
theorem mF{a b:Rl}(h1:a.path=b.path)(h2:a.ver=b.ver)(h3:a.arch=b.arch)(h4:a.ifc=b.ifc)(h5:a.cert=b.cert)(h6:a.yanked=b.yanked)(h7:a.reqs=b.reqs):a=b:=by cases a;cases b;simp_all
theorem jp{a b:Ver}(h:a.a=b.a∧a.b=b.b∧a.c=b.c∧True):a=b:=by cases a;cases b;simp_all
theorem oY{a b:Ver}(h:¬(a.a=b.a∧a.b=b.b∧a.c=b.c∧True)):a≠b:=fun e=>h (by subst e;exact⟨rfl,rfl,rfl,trivial⟩)
theorem RD{α:Type}{a b:List α}(hl:a.length=b.length)(h:∀j (hj:j<a.length),a[j]=b[j]'(hl▸hj)):a=b:=List.ext_getElem hl fun j h1 _=>h j h1
theorem WY{α:Type}{a b:List α}{i:Nat}{ha:i<a.length}{hb:i<b.length}(h:a[i]≠b[i]):a≠b:=fun e=>by subst e;exact h rfl
theorem ti(a b:List Rq)(ha:Ci a)(hs:∀q∈a,Ci q.set):PC 69 [sl AE a,sl AE b] (vb (decide (a=b))):=by
 have qA:a.length≤1073741824:=ha;refine Ps ⟨[],[],[],[],[],[],[],[],[],[],[5,7]⟩ Tryz.func69 rfl (Nz rfl) ?_;refine Yi (fun h1=>?_) (fun h1=>?_)
 ·have h1:((a.map AE).length:Int)≠((b.map AE).length:Int):=h1;exact .of_eq (show vb false=vb (decide (a=b)) by rw[Aq (fun e=>absurd (Ac (fun z=>((z.map AE).length:Int)) e) h1)])
 have h1:((a.map AE).length:Int)=((b.map AE).length:Int):=Bn h1;have hl:a.length=b.length:=by have q:=h1;rw[Lm,Lm]at q;omega
 refine Xi {q:Nat // q≤a.length∧∀j (hj:j<a.length),j<q→a[j]=b[j]'(hl▸hj)} (Xi (fun q=>⟨[(0,sl AE a),(1,sl AE b),(5,vi q.1)],[],Aa⟩) (Xi (fun q=>a.length-q.1) (Yi (Xi ⟨0,AL _,fun _ _ h=>absurd h (Du _)⟩ ?_) ?_)))
 ·exact⟨Z3,Tv,Fh,Tv⟩
 intro⟨i,i1,i2⟩;have i1:i≤a.length:=i1;have i2:∀j (hj:j<a.length),j<i→a[j]=b[j]'(hl▸hj):=i2;refine Yi (fun h3=>?_) (fun h3=>?_)
 ·have h3:(i:Int)<((a.map AE).length:Int):=h3;have n3:=Ka h3;have cu:i<b.length:=by have q:=h3;rw[Lm]at q;omega
  refine Xi (AE a[i]) (Yi (OO n3) (Yi rfl ?_));refine Xi (AE b[i]) (Yi (OO cu) (Yi rfl ?_));refine Yi (fun h5=>?_) (fun h5=>?_)
  ·have h5:(a[i].path:ByteArray)≠b[i].path:=h5;refine Yi (by kernel_rfl) ?_;refine Xi ⟨[],[],Aa⟩ (Yi ⟨Tv,Tv,Fh,Tv⟩ ?_)
   exact .of_eq (show vb false=vb (decide (a=b)) by rw[Aq (WY (i:=i) (ha:=n3) (hb:=cu) (fun e=>h5 (Ac Rq.path e)))])
  have h5:(a[i].path:ByteArray)=b[i].path:=Bn h5;refine Xi (AE a[i]) (Yi (OO n3) (Yi rfl ?_));refine Xi (AE b[i]) (Yi (OO cu) (Yi rfl ?_));refine BH (Bt (decide (a[i].set=b[i].set))) (fun h7=>?_) (fun h7=>?_)
  ·have h7:(decide (a[i].set=b[i].set))=true:=h7;refine Xi _ (Yi (cb h7 (xC a[i].set b[i].set (hs _ (Ap n3)))) ?_);refine Yi (by kernel_rfl) ?_;refine Xi ⟨[(0,sl AE a),(1,sl AE b),(5,vi i)],[],Aa⟩ (Yi ⟨Z3,Tv,Fh,Tv⟩ ?_)
   refine Yi (Ii i (by omega)) ?_;refine Xi ⟨i+1,n3,fun j hj H2=>if e:j<i then i2 j hj e else by
     have e:j=i:=by omega
     subst e;exact sd h5 (Bq h7)⟩ ?_
   exact⟨Dl a.length i (by omega),Z3,Tv,Fh,Tv⟩
  have h7:(decide (a[i].set=b[i].set))=false:=h7;refine Xi _ (Yi (cb h7 (xC a[i].set b[i].set (hs _ (Ap n3)))) ?_);refine Yi (by kernel_rfl) ?_;refine Xi ⟨[],[],Aa⟩ (Yi ⟨Tv,Tv,Fh,Tv⟩ ?_)
  exact .of_eq (show vb false=vb (decide (a=b)) by rw[Aq (WY (i:=i) (ha:=n3) (hb:=cu) (fun e=>FZ h7 (Ac Rq.set e)))])
 have h3:¬((i:Int)<((a.map AE).length:Int)):=h3;have n3:=KC h3;exact .of_eq (show vb true=vb (decide (a=b)) by rw[Ax (RD hl fun j hj=>i2 j hj (by have q:=h3;rw[Lm]at q;omega))])
theorem wh(r s:Rl)(hr:Ci r.reqs)(hs:∀q∈r.reqs,Ci q.set):PC 23 [.agg (Ah r),.agg (Ah s)] (vb (decide (r=s))):=by
 refine Ps ⟨[2,3],[],[],[],[],[],[],[],[],[],[]⟩ Tryz.func23 rfl (Nz rfl) ?_;refine Yi (fun h1=>?_) (fun h1=>?_)
 ·have h1:(r.path:ByteArray)=s.path:=h1;refine Yi (Nz rfl) ?_;refine Yi (Nz rfl) ?_;refine Yi (fun h2=>?_) (fun h2=>?_)
  ·have h2:(r.ver.a:Int)=s.ver.a∧(r.ver.b:Int)=s.ver.b∧(r.ver.c:Int)=s.ver.c∧True:=h2;refine Yi (fun h3=>?_) (fun h3=>?_)
   ·have h3:(r.arch:ByteArray)=s.arch:=h3;refine Yi (fun h4=>?_) (fun h4=>?_)
    ·have h4:(r.ifc:ByteArray)=s.ifc:=h4;refine Yi (fun h5=>?_) (fun h5=>?_)
     ·have h5:(r.cert:ByteArray)=s.cert:=h5;refine Yi (fun h6=>?_) (fun h6=>?_)
      ·have h6:r.yanked=true:=h6;refine Yi (fun h7=>?_) (fun h7=>?_)
       ·have h7:s.yanked=true:=h7;refine BH (Bt (decide (r.reqs=s.reqs))) (fun h8=>?_) (fun h8=>?_)
        ·have h8:(decide (r.reqs=s.reqs))=true:=h8;refine Xi .pure (Xi _ (Yi (cb h8 (ti r.reqs s.reqs hr hs)) ?_));exact .of_eq (show vb true=vb (decide (r=s)) by rw[Ax (mF h1 (jp h2) h3 h4 h5 (by rw[h6,h7]) (Bq h8))])
        have h8:(decide (r.reqs=s.reqs))=false:=h8;refine Xi .pure (Xi _ (Yi (cb h8 (ti r.reqs s.reqs hr hs)) ?_));exact .of_eq (show vb false=vb (decide (r=s)) by rw[Aq (fun e=>FZ h8 (Ac Rl.reqs e))])
       have h7:s.yanked=false:=h7;exact .of_eq (show vb false=vb (decide (r=s)) by rw[Aq (fun e=>by have q:=Ac Rl.yanked e;rw[h6,h7]at q;cases q)])
      have h6:r.yanked=false:=h6;refine Yi (fun Nc=>?_) (fun Nc=>?_)
      ·have Nc:s.yanked=true:=Nc;exact .of_eq (show vb false=vb (decide (r=s)) by rw[Aq (fun e=>by have q:=Ac Rl.yanked e;rw[h6,Nc]at q;cases q)])
      have Nc:s.yanked=false:=Nc;refine BH (Bt (decide (r.reqs=s.reqs))) (fun kf=>?_) (fun kf=>?_)
      ·have kf:(decide (r.reqs=s.reqs))=true:=kf;refine Xi .pure (Xi _ (Yi (cb kf (ti r.reqs s.reqs hr hs)) ?_));exact .of_eq (show vb true=vb (decide (r=s)) by rw[Ax (mF h1 (jp h2) h3 h4 h5 (by rw[h6,Nc]) (Bq kf))])
      have kf:(decide (r.reqs=s.reqs))=false:=kf;refine Xi .pure (Xi _ (Yi (cb kf (ti r.reqs s.reqs hr hs)) ?_));exact .of_eq (show vb false=vb (decide (r=s)) by rw[Aq (fun e=>FZ kf (Ac Rl.reqs e))])
     have h5:¬(r.cert:ByteArray)=s.cert:=h5;exact .of_eq (show vb false=vb (decide (r=s)) by rw[Aq (fun e=>h5 (Ac Rl.cert e))])
    have h4:¬(r.ifc:ByteArray)=s.ifc:=h4;exact .of_eq (show vb false=vb (decide (r=s)) by rw[Aq (fun e=>h4 (Ac Rl.ifc e))])
   have h3:¬(r.arch:ByteArray)=s.arch:=h3;exact .of_eq (show vb false=vb (decide (r=s)) by rw[Aq (fun e=>h3 (Ac Rl.arch e))])
  have h2:¬((r.ver.a:Int)=s.ver.a∧(r.ver.b:Int)=s.ver.b∧(r.ver.c:Int)=s.ver.c∧True):=h2;exact .of_eq (show vb false=vb (decide (r=s)) by rw[Aq (fun e=>oY h2 (Ac Rl.ver e))])
 have h1:¬(r.path:ByteArray)=s.path:=h1;exact .of_eq (show vb false=vb (decide (r=s)) by rw[Aq (fun e=>h1 (Ac Rl.path e))])
theorem yJ(a b:List Rl)(ha:Ci a)(hr:∀r∈a,Ci r.reqs∧∀q∈r.reqs,Ci q.set):PC 15 [sl Ah a,sl Ah b] (vb (decide (a=b))):=by
 have qA:a.length≤1073741824:=ha;refine Ps ⟨[],[],[],[],[],[],[],[],[],[],[5,7]⟩ Tryz.func15 rfl (Nz rfl) ?_;refine Yi (fun h1=>?_) (fun h1=>?_)
 ·have h1:((a.map Ah).length:Int)≠((b.map Ah).length:Int):=h1;exact .of_eq (show vb false=vb (decide (a=b)) by rw[Aq (fun e=>absurd (Ac (fun z=>((z.map Ah).length:Int)) e) h1)])
 have h1:((a.map Ah).length:Int)=((b.map Ah).length:Int):=Bn h1;have hl:a.length=b.length:=by have q:=h1;rw[Lm,Lm]at q;omega
 refine Xi {q:Nat // q≤a.length∧∀j (hj:j<a.length),j<q→a[j]=b[j]'(hl▸hj)} (Xi (fun q=>⟨[(0,sl Ah a),(1,sl Ah b),(5,vi q.1)],[],Aa⟩) (Xi (fun q=>a.length-q.1) (Yi (Xi ⟨0,AL _,fun _ _ h=>absurd h (Du _)⟩ ?_) ?_)))
 ·exact⟨Z3,Tv,Fh,Tv⟩
 intro⟨i,i1,i2⟩;have i1:i≤a.length:=i1;have i2:∀j (hj:j<a.length),j<i→a[j]=b[j]'(hl▸hj):=i2;refine Yi (fun h3=>?_) (fun h3=>?_)
 ·have h3:(i:Int)<((a.map Ah).length:Int):=h3;have n3:=Ka h3;have cu:i<b.length:=by have q:=h3;rw[Lm]at q;omega
  refine Xi (Ah a[i]) (Yi (OO n3) (Yi rfl ?_));refine Yi (Nz rfl) ?_;refine Xi (Ah b[i]) (Yi (OO cu) (Yi rfl ?_));refine Yi (Nz rfl) ?_;refine BH (Bt (decide (a[i]=b[i]))) (fun h4=>?_) (fun h4=>?_)
  ·have h4:(decide (a[i]=b[i]))=true:=h4;refine Xi _ (Yi (cb h4 (wh a[i] b[i] (hr _ (Ap n3)).1 (hr _ (Ap n3)).2)) ?_);refine Yi (by kernel_rfl) ?_;refine Xi ⟨[(0,sl Ah a),(1,sl Ah b),(5,vi i)],[],Aa⟩ (Yi ⟨Z3,Tv,Fh,Tv⟩ ?_)
   refine Yi (Ii i (by omega)) ?_;refine Xi ⟨i+1,n3,fun j hj H2=>if e:j<i then i2 j hj e else by
     have e:j=i:=by omega
     subst e;exact Bq h4⟩ ?_
   exact⟨Dl a.length i (by omega),Z3,Tv,Fh,Tv⟩
  have h4:(decide (a[i]=b[i]))=false:=h4;refine Xi _ (Yi (cb h4 (wh a[i] b[i] (hr _ (Ap n3)).1 (hr _ (Ap n3)).2)) ?_);refine Yi (by kernel_rfl) ?_;refine Xi ⟨[],[],Aa⟩ (Yi ⟨Tv,Tv,Fh,Tv⟩ ?_)
  exact .of_eq (show vb false=vb (decide (a=b)) by rw[Aq (WY (i:=i) (ha:=n3) (hb:=cu) (FZ h4))])
 have h3:¬((i:Int)<((a.map Ah).length:Int)):=h3;have n3:=KC h3;exact .of_eq (show vb true=vb (decide (a=b)) by rw[Ax (RD hl fun j hj=>i2 j hj (by have q:=h3;rw[Lm]at q;omega))])
theorem th(a b:List Sl)(ha:Ci a):PC 65 [sl Ae a,sl Ae b] (vb (decide (a=b))):=by
 have qA:a.length≤1073741824:=ha;refine Ps ⟨[],[],[],[],[],[],[],[],[],[],[5,7]⟩ Tryz.func65 rfl (Nz rfl) ?_;refine Yi (fun h1=>?_) (fun h1=>?_)
 ·have h1:((a.map Ae).length:Int)≠((b.map Ae).length:Int):=h1;exact .of_eq (show vb false=vb (decide (a=b)) by rw[Aq (fun e=>absurd (Ac (fun z=>((z.map Ae).length:Int)) e) h1)])
 have h1:((a.map Ae).length:Int)=((b.map Ae).length:Int):=Bn h1;have hl:a.length=b.length:=by have q:=h1;rw[Lm,Lm]at q;omega
 refine Xi {q:Nat // q≤a.length∧∀j (hj:j<a.length),j<q→a[j]=b[j]'(hl▸hj)} (Xi (fun q=>⟨[(0,sl Ae a),(1,sl Ae b),(5,vi q.1)],[],Aa⟩) (Xi (fun q=>a.length-q.1) (Yi (Xi ⟨0,AL _,fun _ _ h=>absurd h (Du _)⟩ ?_) ?_)))
 ·exact⟨Z3,Tv,Fh,Tv⟩
 intro⟨i,i1,i2⟩;have i1:i≤a.length:=i1;have i2:∀j (hj:j<a.length),j<i→a[j]=b[j]'(hl▸hj):=i2;refine Yi (fun h3=>?_) (fun h3=>?_)
 ·have h3:(i:Int)<((a.map Ae).length:Int):=h3;have n3:=Ka h3;have cu:i<b.length:=by have q:=h3;rw[Lm]at q;omega
  refine Xi (Ae a[i]) (Yi (OO n3) (Yi rfl ?_));refine Yi (Nz rfl) ?_;refine Xi (Ae b[i]) (Yi (OO cu) (Yi rfl ?_));refine Yi (Nz rfl) ?_;refine Yi (fun h4=>?_) (fun h4=>?_)
  ·have h4:(a[i].path:ByteArray)=b[i].path∧(a[i].ver.a:Int)=b[i].ver.a∧(a[i].ver.b:Int)=b[i].ver.b∧(a[i].ver.c:Int)=b[i].ver.c∧True:=h4;refine Yi (by kernel_rfl) ?_;refine Xi ⟨[(0,sl Ae a),(1,sl Ae b),(5,vi i)],[],Aa⟩ (Yi ⟨Z3,Tv,Fh,Tv⟩ ?_)
   refine Yi (Ii i (by omega)) ?_;refine Xi ⟨i+1,n3,fun j hj H2=>if e:j<i then i2 j hj e else by
     have e:j=i:=by omega
     subst e;exact iU h4⟩ ?_
   exact⟨Dl a.length i (by omega),Z3,Tv,Fh,Tv⟩
  have h4:¬((a[i].path:ByteArray)=b[i].path∧(a[i].ver.a:Int)=b[i].ver.a∧(a[i].ver.b:Int)=b[i].ver.b∧(a[i].ver.c:Int)=b[i].ver.c∧True):=h4;refine Yi (by kernel_rfl) ?_;refine Xi ⟨[],[],Aa⟩ (Yi ⟨Tv,Tv,Fh,Tv⟩ ?_)
  exact .of_eq (show vb false=vb (decide (a=b)) by rw[Aq (WY (i:=i) (ha:=n3) (hb:=cu) (mG h4))])
 have h3:¬((i:Int)<((a.map Ae).length:Int)):=h3;have n3:=KC h3;exact .of_eq (show vb true=vb (decide (a=b)) by rw[Ax (RD hl fun j hj=>i2 j hj (by have q:=h3;rw[Lm]at q;omega))])
def Mn(a b:Wk):Bool:=decide (a.rep=b.rep)&&decide (a.exc=b.exc)&&decide (a.pin=b.pin)
theorem ZU(a:Wk):Mn a a=true:=by unfold Mn;simp
abbrev RM(l:List Rl):Prop:=∀r∈l,Ci r.reqs∧∀q∈r.reqs,Ci q.set
theorem o19(a b:Wk)(hA:bE a)(hr:RM a.rep):PC 19 [.agg (Bu a),.agg (Bu b)] (vb (Mn a b)):=by
 refine Ps ⟨[2,3],[],[],[],[],[],[],[],[],[],[]⟩ Tryz.func19 rfl (Nz rfl) ?_;refine BH (Bt (decide (a.rep=b.rep))) (fun h1=>?_) (fun h1=>?_)
 ·have h1:(decide (a.rep=b.rep))=true:=h1;refine Xi .pure (Xi _ (Yi (cb h1 (yJ a.rep b.rep hA.reps hr)) ?_));refine BH (Bt (decide (a.exc=b.exc))) (fun h2=>?_) (fun h2=>?_)
  ·have h2:(decide (a.exc=b.exc))=true:=h2;refine Xi .pure (Xi _ (Yi (cb h2 (th a.exc b.exc hA.exc)) ?_));refine BH (Bt (decide (a.pin=b.pin))) (fun h3=>?_) (fun h3=>?_)
   ·have h3:(decide (a.pin=b.pin))=true:=h3;refine Xi .pure (Xi _ (Yi (cb h3 (th a.pin b.pin hA.pin)) ?_));exact .of_eq (show vb true=vb (Mn a b) by unfold Mn;rw[h1,h2,h3];rfl)
   have h3:(decide (a.pin=b.pin))=false:=h3;refine Xi .pure (Xi _ (Yi (cb h3 (th a.pin b.pin hA.pin)) ?_));exact .of_eq (show vb false=vb (Mn a b) by unfold Mn;rw[h1,h2,h3];simp)
  have h2:(decide (a.exc=b.exc))=false:=h2;refine Xi .pure (Xi _ (Yi (cb h2 (th a.exc b.exc hA.exc)) ?_));exact .of_eq (show vb false=vb (Mn a b) by unfold Mn;rw[h1,h2];simp)
 have h1:(decide (a.rep=b.rep))=false:=h1;refine Xi .pure (Xi _ (Yi (cb h1 (yJ a.rep b.rep hA.reps hr)) ?_));exact .of_eq (show vb false=vb (Mn a b) by unfold Mn;rw[h1];simp)
structure Mv where
 path:ByteArray
 a:Int
 b:Int
abbrev EP(m:Mv):List AV:=[vs m.path,vi m.a,vi m.b]
abbrev plP(s:Sl):Value×AV:=(.string s.path,vi (place s.ver))
abbrev Jr(l:List Sl):List (Value×AV):=l.map plP
def Pu(l:List Sl)(p:ByteArray):Int:=match Cc l p with | some s=>place s.ver | none=>-1
def Wo(l m:List Sl)(p:ByteArray):Option Mv:=if Pu l p≠Pu m p then some ⟨p,Pu l p,Pu m p⟩else none
abbrev Mf(l m:List Sl)(ps:List ByteArray):List Mv:=ps.filterMap (Wo l m)
structure N8(l:List Sl):Prop where
 few:Ci l
 val:∀s∈l,CO s.ver=true
 inc:l.Pairwise py
theorem N8.step{l:List Sl}(h:N8 l){i:Nat}(hi:i<l.length)(h0:0<i):Fl (l[i-1]'(by omega)).path l[i].path=true:=(A7.1 h.inc) (i-1) i (by omega) hi (by omega)
theorem iB{l:List Sl}(h:N8 l){i:Nat}(hi:i<l.length):∀b,(Value.string l[i].path,b)∉Jr (l.take i):=fun b hb=>by
 obtain⟨s,hs,e⟩:=Al.1 hb;obtain⟨j,hj,rfl⟩:=CQ.1 hs;rw[Kj]at e;rw[AJ]at hj;have q:=(A7.1 h.inc) j i (by omega) hi (by omega);have e2:l[j].path=l[i].path:=by injection e with e1;injection e1
 rw[py,e2,Di]at q;cases q
theorem oG{l:List Sl}(h:N8 l){p:ByteArray}{a:AV}(ha:(Value.string p,a)∈Jr l):a=vi (Pu l p):=by
 obtain⟨s,hs,e⟩:=Al.1 ha;have e1:s.path=p:=by injection e with e1;injection e1
 have e2:vi (place s.ver)=a:=by injection e
 rw[←e2];unfold Pu;rw[←e1,K5 (I3 tn h.inc) hs]
theorem oH{l:List Sl}{p:ByteArray}(h:∀a,(Value.string p,a)∉Jr l):Pu l p=-1:=by
 unfold Pu;rw[show Cc l p=none from DB.2 fun s hs e=>h _ (Al.2 ⟨s,hs,by rw[←Bq e]⟩)]
theorem aO{l m:List Sl}{ps:List ByteArray}{k:Nat}(h:k<ps.length):Mf l m (ps.take (k+1))=Mf l m (ps.take k)++(Wo l m ps[k]).toList:=by
 unfold Mf;rw[MT h,List.filterMap_append]
 congr 1
theorem rK(l:List Sl)(hl:N8 l):Be Tryz.prog 101 [sl Ae l] (Aj [] Aa) fun r h'=>r=.tup [.mref 2000,vb true]∧h'=Aj [(2000,.map C3 (Jr l))] Aa:=by
 have hfl:l.length≤1073741824:=hl.few;refine Co (MA ⟨[],[],[],[],[],[],[],[],[],[],[6,7,8]⟩) [(9,2000)] rfl CD hm rfl Tryz.func101 (by kernel_rfl) rfl (Nz rfl) (by kernel_rfl) rfl ?_;refine Xi {q:Nat // q≤l.length} (Xi (fun q=>⟨[(0,sl Ae l),(4,.mref 9),(10,sl Ae l),(11,vi (l.map Ae).length),(12,vi q.1)],[(9,.map C3 (Jr (l.take q.1)))],Aa⟩) (Xi (fun q=>l.length-q.1) (Yi (Xi ⟨0,AL _⟩ ?_) ?_)))
 ·exact⟨Z5,Z1,Fh,Az (by kernel_rfl)⟩
 intro⟨i,i1⟩;have i1:i≤l.length:=i1;refine Yi (fun h1=>?_) (fun h1=>?_)
 ·have h1:(i:Int)<((l.map Ae).length:Int):=h1;have n1:=Ka h1;refine Xi (Ae l[i]) (Yi (OO n1) (Yi rfl ?_));refine Yi (Nz rfl) ?_;refine Yi (Nz rfl) ?_;refine Yi (Nz rfl) ?_;refine Xi .pure (Xi _ (Yi (by have q:=sA l[i].ver;rw[Aw (hl.val _ (Ap n1)),Aw (hl.val _ (Ap n1))]at q;exact q) ?_));refine Xi ⟨[(0,sl Ae l),(4,.mref 9),(5,vi i),(6,.ref 6 0),(7,vi (place l[i].ver)),(8,vi 0),(10,sl Ae l),(11,vi (l.map Ae).length),(12,vi i)],[(6,.cells (Ae l[i])),(9,.map C3 (Jr (l.take i)))],Aa⟩ (Yi ⟨Z9,Z2,Fh,Az (by kernel_rfl)⟩ ?_)
  refine Yi (fun h=>absurd h (by decide)) (fun _=>?_);refine Yi (fun h2=>?_) (fun h2=>?_)
  ·have h2:(0:Int)<(i:Int):=h2;refine Yi (by show B3 ((i:Int)-(1:Int));unfold B3;omega) ?_;have fX:0<i:=by omega
   refine Xi (Ae (l[i-1])) (Yi (Yi (show(0:Int)≤(i:Int)-1 by omega) (by rw[show((i:Int)-1).toNat=i-1 by omega];exact Ch (Ge (by omega)))) (Yi rfl ?_));refine Yi (fun h3=>?_) (fun h3=>?_)
   ·have h3:Fl (l[i-1]).path l[i].path=false:=(HX _ _).trans h3;exact absurd (hl.step n1 fX) (by rw[h3];decide)
   have h3:Fl (l[i-1]).path l[i].path=true:=(HX _ _).trans (by simpa using h3);refine Yi (by kernel_rfl) ?_;refine Xi ⟨[(0,sl Ae l),(4,.mref 9),(6,.ref 6 0),(7,vi (place l[i].ver)),(10,sl Ae l),(11,vi (l.map Ae).length),(12,vi i)],[(6,.cells (Ae l[i])),(9,.map C3 (Jr (l.take i)))],Aa⟩ (Yi ⟨Z7,Z2,Fh,Az (by kernel_rfl)⟩ ?_)
   refine Yi (Ii i (by omega)) ?_;refine Xi ⟨i+1,n1⟩ ?_;exact⟨Dl l.length i (by omega),Z5,⟨⟨(show HO.map C3 (ET (Jr (l.take i)) (.string l[i].path) (vi (place l[i].ver)))=.map C3 (Jr (l.take (i+1))) by rw[KF (iB hl n1),MT n1];unfold Jr;rw[AH];rfl),rfl⟩,Tv⟩,Fh,Az (by kernel_rfl)⟩
  have h2:¬((0:Int)<(i:Int)):=h2;refine Yi (by kernel_rfl) ?_;refine Xi ⟨[(0,sl Ae l),(4,.mref 9),(6,.ref 6 0),(7,vi (place l[i].ver)),(10,sl Ae l),(11,vi (l.map Ae).length),(12,vi i)],[(6,.cells (Ae l[i])),(9,.map C3 (Jr (l.take i)))],Aa⟩ (Yi ⟨Z7,Z2,Fh,Az (by kernel_rfl)⟩ ?_)
  refine Yi (Ii i (by omega)) ?_;refine Xi ⟨i+1,n1⟩ ?_;exact⟨Dl l.length i (by omega),Z5,⟨⟨(show HO.map C3 (ET (Jr (l.take i)) (.string l[i].path) (vi (place l[i].ver)))=.map C3 (Jr (l.take (i+1))) by rw[KF (iB hl n1),MT n1];unfold Jr;rw[AH];rfl),rfl⟩,Tv⟩,Fh,Az (by kernel_rfl)⟩
 have h1:¬((i:Int)<((l.map Ae).length:Int)):=h1;have n1:=KC h1;have ei:l.take i=l:=AS (by have q:=h1;rw[Lm]at q;omega);exact Xi _ (Yi (.refl _) ⟨rfl,show Aj [(2000,HO.map C3 (Jr (l.take i)))] Aa=Aj [(2000,.map C3 (Jr l))] Aa by rw[ei]⟩)
theorem rL(l:List Sl)(p:ByteArray)(hl:N8 l):PC 103 [.cmap C3 (Jr l),vs p] (vi (Pu l p)):=by
 refine Ps ⟨[],[],[],[],[],[],[],[],[],[],[4]⟩ Tryz.func103 rfl (Nz rfl) ?_;refine Yi (fun a ha=>?_) (fun OK=>?_)
 ·have ea:=oG hl ha;subst ea;exact .refl _
 refine Xi ⟨[],[],Aa⟩ (Yi ⟨Tv,Tv,Fh,Tv⟩ ?_)
 exact .of_eq (show vi (-1)=vi (Pu l p) by rw[oH OK])
theorem o75(l m:List Sl)(t:List ByteArray)(hl:N8 l)(yk:N8 m)(hfs:l.length+m.length≤1073741824)(DE:l++m≠[])(hp:t.Perm ((l++m).map (·.path)))(ht:(t.map ah).Pairwise fun a b=>a≤b):PC 75 [sl Ae l,sl Ae m] (.tup [sl EP (Mf l m (B7 t)),vi 0]):=by
 obtain⟨LM,nD⟩:∃LM,LM=l++m:=⟨_,rfl⟩;have hm:=yk;rw[←nD]at hp;have xR:LM.length=l.length+m.length:=by rw[nD,Ad]
 have sQ:l.length≤1073741824:=hl.few;have mh:m.length≤1073741824:=yk.few;refine EU (YZ ⟨[],[(14,3)],[(10,1)],[(34,[12000,12500])],[],[],[],[],[],[],[3,6,7,8,9,11,13,14,15,16,17,18,19,21]⟩) rfl CD Go.Eng.hm rfl Tryz.func75 (by kernel_rfl) rfl (Nz rfl) (by kernel_rfl) ?_;refine Xi (.gen [] 1) (Yi rfl (Be.to2 (rK l hl) ?_));refine Xi (.gen [] 1) (Yi rfl (Be.to2 (rK m hm) ?_));refine Xi ⟨[(0,sl Ae l),(1,sl Ae m),(6,.mref 12000),(7,vb true),(8,.mref 12500),(9,vb true)],[(12000,.map C3 (Jr l)),(12500,.map C3 (Jr m))],Aa⟩ (Yi ⟨Z6,Z2,Fh,Tv⟩ ?_)
 refine Xi ⟨[(0,sl Ae l),(1,sl Ae m),(6,.mref 12000),(8,.mref 12500),(10,.msl 10 0)],[(10,.arr 1 []),(12000,.map C3 (Jr l)),(12500,.map C3 (Jr m))],Aa⟩ (Yi ⟨Z5,Z3,Fh,Tv⟩ ?_)
 refine Xi (.gen [] 1) (Yi rfl (Be.to2 (p9 l hl.few) ?_));have b4:Dn 4 (m.map Ae)∧(l.map Ae).length=(l.map Ae).length∧((l.map Ae).length+(m.map Ae).length)*40≤140737488355328∧(l.map Ae).length+(m.map Ae).length≤9223372036854775807:=⟨(EE (enc:=Ae) (n:=4) (fun _=>rfl) m),rfl,(by simp only[Lm];omega),(by simp only[Lm];omega)⟩;refine Yi b4 ?_;refine Xi {q:Nat×List ByteArray // q.1≤LM.length∧q.2=(LM.take q.1).map (·.path)} (Xi (fun q=>⟨[(6,.mref 12000),(8,.mref 12500),(10,.msl 10 q.1.2.length),(37,.slice (.id 13500 4) (LM.map Ae)),(38,vi (LM.length:Nat)),(39,vi q.1.1)],[(10,.arr 1 (q.1.2.map DP)),(12000,.rom C3 (Jr l)),(12500,.rom C3 (Jr m)),(13500,.tok 4 LM.length)],Aa⟩) (Xi (fun q=>LM.length-q.1.1) (Yi (Xi ⟨(0,[]),AL _,rfl⟩ ?_) ?_)))
 ·exact⟨⟨Zr,Zr,Zr,⟨(show AV.slice (.id 13500 4) (l.map Ae++m.map Ae)=.slice (.id 13500 4) (LM.map Ae) by rw[nD,AH]),rfl⟩,⟨(show vi ((l.map Ae++m.map Ae:List (List AV)).length:Int)=vi ((LM.length:Nat):Int) by rw[nD,Ad,Ad,Lm,Lm]),rfl⟩,Zr,Tv⟩,⟨Zr,Zr,Zr,⟨(show HO.tok 4 ((l.map Ae).length+(m.map Ae).length)=.tok 4 LM.length by rw[nD,Ad,Lm,Lm]),rfl⟩,Tv⟩,Fh,Tv⟩
 intro⟨⟨i,P⟩,i1,i2⟩;have i1:i≤LM.length:=i1;have i2:P=(LM.take i).map (·.path):=i2;have i3:P.length≤i:=by rw[i2,Lm,AJ];omega
 refine Xi ⟨[(6,.mref 12000),(8,.mref 12500),(10,.msl 10 P.length),(37,.slice (.id 13500 4) (LM.map Ae)),(38,vi (LM.length:Nat)),(39,vi i)],[(10,.arr 1 (P.map DP)),(12000,.rom C3 (Jr l)),(12500,.rom C3 (Jr m)),(13500,.tok 4 LM.length)],Aa⟩ (Yi ⟨Z6,Z4,Fh,Tv⟩ ?_)
 refine Yi (fun h5=>?_) (fun h5=>?_)
 ·have h5:(i:Int)<((LM.length:Nat):Int):=h5;have n5:i<LM.length:=by omega
  refine Xi ⟨[(6,.mref 12000),(8,.mref 12500),(10,.msl 10 P.length),(37,.slice (.id 13500 4) (LM.map Ae)),(38,vi (LM.length:Nat)),(39,vi i)],[(10,.arr 1 (P.map DP)),(12000,.rom C3 (Jr l)),(12500,.rom C3 (Jr m)),(13500,.tok 4 LM.length)],Aa⟩ (Yi ⟨Z6,Z4,Fh,Tv⟩ ?_)
  refine Xi (Ae LM[i]) (Yi (OO n5) (Yi rfl ?_));refine Yi (Nz rfl) ?_;refine Yi (Nz rfl) ?_;refine Xi ⟨[(6,.mref 12000),(8,.mref 12500),(10,.msl 10 P.length),(12,.ref 12 0),(37,.slice (.id 13500 4) (LM.map Ae)),(38,vi (LM.length:Nat)),(39,vi i)],[(10,.arr 1 (P.map DP)),(12,.cells (Ae LM[i])),(12000,.rom C3 (Jr l)),(12500,.rom C3 (Jr m)),(13500,.tok 4 LM.length)],Aa⟩ (Yi ⟨Z7,Z5,Fh,Tv⟩ ?_)
  have b6:Dn 1 [[vs LM[i].path]]∧(P.map DP).length=P.length∧((P.map DP).length+([[vs LM[i].path]]:List (List AV)).length)*16≤140737488355328∧(P.map DP).length+([[vs LM[i].path]]:List (List AV)).length≤9223372036854775807:=⟨⟨rfl,trivial⟩,(by rw[Lm]),(by simp only[Lm,Au,AD];omega),(by simp only[Lm,Au,AD];omega)⟩;refine Yi b6 ?_;refine Yi (Ii i (by omega)) ?_;refine Xi ⟨(i+1,P++[LM[i].path]),n5,by show P++[LM[i].path]=_;rw[MT n5,AH,i2];rfl⟩ ?_;exact⟨Dl LM.length i (by omega),⟨Zr,Zr,⟨(show AV.msl 10 ((P.map DP).length+([[vs LM[i].path]]:List (List AV)).length)=.msl 10 (P++[LM[i].path]).length by rw[Ad,Lm];rfl),rfl⟩,Zr,Zr,Zr,Tv⟩,⟨⟨(show HO.arr 1 (P.map DP++[[vs LM[i].path]])=.arr 1 ((P++[LM[i].path]).map DP) by rw[AH];rfl),rfl⟩,Zr,Zr,Zr,Tv⟩,Fh,Tv⟩
 have h5:¬((i:Int)<((LM.length:Nat):Int)):=h5;have sI:P=LM.map (·.path):=by rw[i2,AS (by have q:=h5;omega)]
 have xS:Ci P:=by unfold Ci;rw[sI,Lm,nD,Ad];exact hfs
 have xT:P≠[]:=fun e=>by rw[sI]at e;exact DE (by rw[←nD];exact Dr.1 e)
 have uI:t.length=P.length:=by rw[sI];exact hp.length_eq
 have oc:t.length≤1073741824:=by rw[uI];exact xS
 have vQ:t≠[]:=fun e=>xT (AC (by rw[←uI,e];rfl));have hcl:(B7 t).length≤t.length:=by unfold B7;rw[Lm];exact AU (QF _) (by rw[Lm];exact Ak _)
 refine Xi ⟨[(6,.mref 12000),(8,.mref 12500),(10,.msl 10 P.length)],[(10,.arr 1 (P.map DP)),(12000,.rom C3 (Jr l)),(12500,.rom C3 (Jr m))],Aa⟩ (Yi ⟨Z3,Z3,Fh,Tv⟩ ?_)
 refine Xi (.gen [(10,1000)] 0) (Yi rfl (Be.to2 (we P t xS xT (by rw[sI];exact hp) ht) ?_));refine Xi ⟨[(6,.mref 12000),(8,.mref 12500),(10,.msl 10 P.length),(13,.v (.func (.func 103) #[] #[]))],[(10,.arr 1 (t.map DP)),(12000,.rom C3 (Jr l)),(12500,.rom C3 (Jr m))],Aa⟩ (Yi ⟨Z4,Z3,Fh,Tv⟩ ?_)
 refine Xi ⟨[(6,.mref 12000),(8,.mref 12500),(10,.msl 10 t.length),(13,.v (.func (.func 103) #[] #[])),(14,.slice (.id 14 3) [])],[(10,.arr 1 (t.map DP)),(14,.tok 3 0),(12000,.rom C3 (Jr l)),(12500,.rom C3 (Jr m))],Aa⟩ (Yi ⟨⟨Zr,Zr,⟨(Ac (AV.msl 10) uI.symm),rfl⟩,Zr,Zr,Tv⟩,Z4,Fh,Tv⟩ ?_)
 refine Xi (.gen [(10,1000)] 1) (Yi rfl (Be.to2 (wg t (by unfold Ci;omega) vQ) ?_));refine Xi {q:Nat×List Mv // q.1≤(B7 t).length∧q.2=Mf l m ((B7 t).take q.1)} (Xi (fun q=>⟨[(6,.mref 12000),(8,.mref 12500),(13,.v (.func (.func 103) #[] #[])),(14,.slice (.id 14 3) (q.1.2.map EP)),(52,.msl 15200 (B7 t).length),(53,vi (B7 t).length),(54,vi q.1.1)],[(14,.tok 3 q.1.2.length),(12000,.rom C3 (Jr l)),(12500,.rom C3 (Jr m)),(15200,.arr 1 ((B7 t).map DP))],Aa⟩) (Xi (fun q=>(B7 t).length-q.1.1) (Yi (Xi ⟨(0,[]),AL _,rfl⟩ ?_) ?_)))
 ·exact⟨Z7,Z4,Fh,Tv⟩
 intro⟨⟨k,O⟩,k1,k2⟩;have k1:k≤(B7 t).length:=k1;have k2:O=Mf l m ((B7 t).take k):=k2;have k3:O.length≤k:=by rw[k2];exact AU (List.length_filterMap_le ..) (by rw[AJ];omega)
 refine Xi ⟨[(6,.mref 12000),(8,.mref 12500),(13,.v (.func (.func 103) #[] #[])),(14,.slice (.id 14 3) (O.map EP)),(52,.msl 15200 (B7 t).length),(53,vi (B7 t).length),(54,vi k)],[(14,.tok 3 O.length),(12000,.rom C3 (Jr l)),(12500,.rom C3 (Jr m)),(15200,.arr 1 ((B7 t).map DP))],Aa⟩ (Yi ⟨Z7,Z4,Fh,Tv⟩ ?_)
 refine Yi (fun SG=>?_) (fun SG=>?_)
 ·have SG:(k:Int)<((B7 t).length:Int):=SG;have nb:k<(B7 t).length:=by omega
  have n10:=nb;have gb:(B7 t)[k]?=some (B7 t)[k]:=Ge nb;refine Xi ⟨[(6,.mref 12000),(8,.mref 12500),(13,.v (.func (.func 103) #[] #[])),(14,.slice (.id 14 3) (O.map EP)),(52,.msl 15200 (B7 t).length),(53,vi (B7 t).length),(54,vi k)],[(14,.tok 3 O.length),(12000,.rom C3 (Jr l)),(12500,.rom C3 (Jr m)),(15200,.arr 1 ((B7 t).map DP))],Aa⟩ (Yi ⟨Z7,Z4,Fh,Tv⟩ ?_)
  refine Yi (by show(0:Int)≤k∧(k:Int)<((B7 t).length:Nat);omega) ?_;refine Yi (show(B7 t).length=((B7 t).map DP).length by rw[Lm]) (Xi (DP ((B7 t)[k])) (Yi (Ch gb) ?_));refine Xi ⟨[(6,.mref 12000),(8,.mref 12500),(13,.v (.func (.func 103) #[] #[])),(14,.slice (.id 14 3) (O.map EP)),(16,vs ((B7 t)[k])),(52,.msl 15200 (B7 t).length),(53,vi (B7 t).length),(54,vi k)],[(14,.tok 3 O.length),(12000,.rom C3 (Jr l)),(12500,.rom C3 (Jr m)),(15200,.arr 1 ((B7 t).map DP))],Aa⟩ (Yi ⟨Z8,Z4,Fh,Tv⟩ ?_)
  refine Xi .pure (Xi _ (Yi (rL l (B7 t)[k] hl) ?_));refine Xi .pure (Xi _ (Yi (rL m (B7 t)[k] hm) ?_));refine Yi (Nz rfl) ?_;refine Xi ⟨[(6,.mref 12000),(8,.mref 12500),(13,.v (.func (.func 103) #[] #[])),(14,.slice (.id 14 3) (O.map EP)),(17,.ref 17 0),(52,.msl 15200 (B7 t).length),(53,vi (B7 t).length),(54,vi k)],[(14,.tok 3 O.length),(17,.cells [vs ((B7 t)[k]),vi (Pu l (B7 t)[k]),vi (Pu m (B7 t)[k])]),(12000,.rom C3 (Jr l)),(12500,.rom C3 (Jr m)),(15200,.arr 1 ((B7 t).map DP))],Aa⟩ (Yi ⟨Z8,Z5,Fh,Tv⟩ ?_)
  refine Yi (fun GK=>?_) (fun GK=>?_)
  ·have GK:((Pu l (B7 t)[k]):Int)≠((Pu m (B7 t)[k]):Int):=GK;refine Xi ⟨[(6,.mref 12000),(8,.mref 12500),(13,.v (.func (.func 103) #[] #[])),(14,.slice (.id 14 3) (O.map EP)),(17,.ref 17 0),(52,.msl 15200 (B7 t).length),(53,vi (B7 t).length),(54,vi k)],[(14,.tok 3 O.length),(17,.cells [vs ((B7 t)[k]),vi (Pu l (B7 t)[k]),vi (Pu m (B7 t)[k])]),(12000,.rom C3 (Jr l)),(12500,.rom C3 (Jr m)),(15200,.arr 1 ((B7 t).map DP))],Aa⟩ (Yi ⟨Z8,Z5,Fh,Tv⟩ ?_)
   refine Yi (Nz rfl) ?_;refine Yi (Pr rfl (by omega) (by decide)) ?_;refine Yi (Ii k (by omega)) ?_;have eO:=aO (l:=l) (m:=m) n10;have eM:Wo l m (B7 t)[k]=some ⟨(B7 t)[k],(Pu l (B7 t)[k]),(Pu m (B7 t)[k])⟩:=Aw GK;rw[eM]at eO;refine Xi ⟨(k+1,(O++[(⟨(B7 t)[k],(Pu l (B7 t)[k]),(Pu m (B7 t)[k])⟩:Mv)])),n10,by show(O++[(⟨(B7 t)[k],(Pu l (B7 t)[k]),(Pu m (B7 t)[k])⟩:Mv)])=_;rw[eO,k2];rfl⟩ ?_;exact⟨by show(B7 t).length-(k+1)<(B7 t).length-k;omega,⟨Zr,Zr,Zr,⟨(show AV.slice (.id 14 3) (O.map EP++[[vs (B7 t)[k],vi (Pu l (B7 t)[k]),vi (Pu m (B7 t)[k])]])=.slice (.id 14 3) ((O++[(⟨(B7 t)[k],(Pu l (B7 t)[k]),(Pu m (B7 t)[k])⟩:Mv)]).map EP) by rw[AH];rfl),rfl⟩,Zr,Zr,Zr,Tv⟩,⟨⟨Ui,rfl⟩,Zr,Zr,Zr,Tv⟩,Fh,Tv⟩
  have GK:((Pu l (B7 t)[k]):Int)=((Pu m (B7 t)[k]):Int):=Bn GK;refine Yi (Ii k (by omega)) ?_;have eO:=aO (l:=l) (m:=m) n10;have eM:Wo l m (B7 t)[k]=none:=Ai (fun c=>c GK);rw[eM]at eO;rw[show(none:Option Mv).toList=[]from rfl,B2]at eO;refine Xi ⟨(k+1,O),n10,by show O=_;rw[eO,k2]⟩ ?_;exact⟨by show(B7 t).length-(k+1)<(B7 t).length-k;omega,Z7,Z4,Fh,Tv⟩
 have SG:¬((k:Int)<((B7 t).length:Int)):=SG;refine Xi ⟨[(14,.slice (.id 14 3) (O.map EP))],[(14,.tok 3 O.length)],Aa⟩ (Yi ⟨Z1,Z1,Fh,Tv⟩ ?_)
 have ek:(B7 t).take k=B7 t:=AS (by omega);have eO:O=Mf l m (B7 t):=by rw[k2,ek]
 exact .of_eq (Ac (fun z=>AV.tup [sl EP z,vi 0]) eO)
def D5(w:Wk):Bool:=w.exc.all (fun s=>decide (s.path.size≤100))&&w.pin.all (fun s=>decide (s.path.size≤100))&&(DX w.rep 8&&decide (w.exc.length≤12)&&decide (w.pin.length≤8))
theorem d8{l:List Sl}{i:Nat}(h:i<l.length)(hb:¬(l[i].path.size:Int)≤100):(l.all fun s=>decide (s.path.size≤100))=false:=by
 rw[List.all_eq_false];exact⟨l[i],Ap h,by simp;omega⟩
theorem LR{l:List Sl}(h:∀j (hj:j<l.length),(l[j].path.size:Int)≤100):(l.all fun s=>decide (s.path.size≤100))=true:=by
 rw[Bs];intro s hs;obtain⟨j,hj,rfl⟩:=CQ.1 hs
 have:=h j hj
 simp;omega
structure LO(w:Wk):Prop where
 rep:w.rep.length≤1048576
 exc:w.exc.length≤1048576
 pin:w.pin.length≤1048576
 rl:∀r∈w.rep,Ci r.reqs∧IB r
 excs:∀s∈w.exc,Gr s.path
 pins:∀s∈w.pin,Gr s.path
theorem LO.few{w:Wk}(h:LO w):bE w:=⟨fun r hr=>(h.rl r hr).2,AU h.rep (by decide),AU h.exc (by decide),AU h.pin (by decide),h.excs,h.pins⟩
theorem LO.qs{w:Wk}(h:LO w):RM w.rep:=fun r hr=>⟨(h.rl r hr).1,fun q hq=>((h.rl r hr).2.2 q hq).1⟩
theorem LO.rq{w:Wk}(h:LO w):∀r∈w.rep,Ci r.reqs:=fun r hr=>(h.rl r hr).1
theorem yK(w:Wk)(hW:LO w):PC 16 [.agg (Bu w)] (vb (D5 w)):=by
 have sK:w.exc.length≤1048576:=hW.exc;have hW2:w.pin.length≤1048576:=hW.pin;refine Ps ⟨[1],[],[],[],[],[],[],[],[],[],[3,5,8,10]⟩ Tryz.func16 rfl (Nz rfl) ?_;refine Xi {q:Nat // q≤w.exc.length∧∀j (hj:j<w.exc.length),j<q→(w.exc[j].path.size:Int)≤100} (Xi (fun q=>⟨[(1,.ref 1 0),(3,vi q.1)],[(1,.ro (Bu w))],Aa⟩) (Xi (fun q=>w.exc.length-q.1) (Yi (Xi ⟨0,AL _,fun _ _ h=>absurd h (Du _)⟩ ?_) ?_)))
 ·exact⟨Z2,Z1,Fh,Tv⟩
 intro⟨i,i1,i2⟩;have i1:i≤w.exc.length:=i1;have i2:∀j (hj:j<w.exc.length),j<i→(w.exc[j].path.size:Int)≤100:=i2;refine Yi (fun h1=>?_) (fun h1=>?_)
 ·have h1:(i:Int)<((w.exc.map Ae).length:Int):=h1;have n1:=Ka h1;refine Xi (Ae w.exc[i]) (Yi (OO n1) (Yi rfl ?_));refine Yi (fun h2=>?_) (fun h2=>?_)
  ·have h2:(100:Int)<(w.exc[i].path.size:Int):=h2;refine Xi ⟨[],[],Aa⟩ (Yi ⟨Tv,Tv,Fh,Tv⟩ ?_)
   exact .of_eq (show vb false=vb (D5 w) by unfold D5;rw[d8 (l:=w.exc) n1 (T2.2 h2),Bool.false_and,Bool.false_and])
  have h2:¬((100:Int)<(w.exc[i].path.size:Int)):=h2;refine Xi ⟨[(1,.ref 1 0),(3,vi i)],[(1,.ro (Bu w))],Aa⟩ (Yi ⟨Z2,Z1,Fh,Tv⟩ ?_)
  refine Yi (Ii i (by omega)) ?_;refine Xi ⟨i+1,n1,fun j hj H2=>if e:j<i then i2 j hj e else by
    have e:j=i:=by omega
    subst e;exact Int.not_lt.1 h2⟩ ?_
  exact⟨Dl w.exc.length i (by omega),Z2,Z1,Fh,Tv⟩
 have h1:¬((i:Int)<((w.exc.map Ae).length:Int)):=h1;have n1:=KC h1;refine Xi {q:Nat // q≤w.pin.length∧∀j (hj:j<w.pin.length),j<q→(w.pin[j].path.size:Int)≤100} (Xi (fun q=>⟨[(1,.ref 1 0),(4,vi q.1)],[(1,.ro (Bu w))],Aa⟩) (Xi (fun q=>w.pin.length-q.1) (Yi (Xi ⟨0,AL _,fun _ _ h=>absurd h (Du _)⟩ ?_) ?_)))
 ·exact⟨Z2,Z1,Fh,Tv⟩
 intro⟨k,k1,k2⟩;have k1:k≤w.pin.length:=k1;have k2:∀j (hj:j<w.pin.length),j<k→(w.pin[j].path.size:Int)≤100:=k2;refine Yi (fun h5=>?_) (fun h5=>?_)
 ·have h5:(k:Int)<((w.pin.map Ae).length:Int):=h5;have n5:=Ka h5;refine Xi (Ae w.pin[k]) (Yi (OO n5) (Yi rfl ?_));refine Yi (fun h6=>?_) (fun h6=>?_)
  ·have h6:(100:Int)<(w.pin[k].path.size:Int):=h6;refine Xi ⟨[],[],Aa⟩ (Yi ⟨Tv,Tv,Fh,Tv⟩ ?_)
   exact .of_eq (show vb false=vb (D5 w) by unfold D5;rw[d8 (l:=w.pin) n5 (T2.2 h6),DJ,Bool.false_and])
  have h6:¬((100:Int)<(w.pin[k].path.size:Int)):=h6;refine Xi ⟨[(1,.ref 1 0),(4,vi k)],[(1,.ro (Bu w))],Aa⟩ (Yi ⟨Z2,Z1,Fh,Tv⟩ ?_)
  refine Yi (Ii k (by omega)) ?_;refine Xi ⟨k+1,n5,fun j hj H2=>if e:j<k then k2 j hj e else by
    have e:j=k:=by omega
    subst e;exact Int.not_lt.1 h6⟩ ?_
  exact⟨Dl w.pin.length k (by omega),Z2,Z1,Fh,Tv⟩
 have h5:¬((k:Int)<((w.pin.map Ae).length:Int)):=h5;have n5:=KC h5;refine BH (Bt (DX w.rep 8)) (fun h9=>?_) (fun h9=>?_)
 ·have h9:(DX w.rep 8)=true:=h9;refine Xi .pure (Xi _ (Yi (cb h9 (uv w.rep 8 (AU hW.rep (by decide)) hW.rq)) ?_));refine Yi (fun SG=>?_) (fun SG=>?_)
  ·have SG:((w.exc.map Ae).length:Int)≤(12:Int):=SG;refine Yi (fun GK=>?_) (fun GK=>?_)
   ·have GK:((w.pin.map Ae).length:Int)≤(8:Int):=GK;have e1:=LR fun j hj=>i2 j hj (by have q:=h1;rw[Lm]at q;omega);have e2:=LR fun j hj=>k2 j hj (by have q:=h5;rw[Lm]at q;omega);exact .of_eq (show vb true=vb (D5 w) by unfold D5;rw[e1,e2,h9,Ax (by have q:=SG;rw[Lm]at q;omega),Ax (by have q:=GK;rw[Lm]at q;omega)];rfl)
   have GK:¬(((w.pin.map Ae).length:Int)≤(8:Int)):=GK;have e1:=LR fun j hj=>i2 j hj (by have q:=h1;rw[Lm]at q;omega);have e2:=LR fun j hj=>k2 j hj (by have q:=h5;rw[Lm]at q;omega);exact .of_eq (show vb false=vb (D5 w) by unfold D5;rw[e1,e2,h9,Ax (by have q:=SG;rw[Lm]at q;omega),Aq (by have q:=GK;rw[Lm]at q;omega)];simp)
  have SG:¬(((w.exc.map Ae).length:Int)≤(12:Int)):=SG;have e1:=LR fun j hj=>i2 j hj (by have q:=h1;rw[Lm]at q;omega);have e2:=LR fun j hj=>k2 j hj (by have q:=h5;rw[Lm]at q;omega);exact .of_eq (show vb false=vb (D5 w) by unfold D5;rw[e1,e2,h9,Aq (by have q:=SG;rw[Lm]at q;omega)];simp)
 have h9:(DX w.rep 8)=false:=h9;refine Xi .pure (Xi _ (Yi (cb h9 (uv w.rep 8 (AU hW.rep (by decide)) hW.rq)) ?_));have e1:=LR fun j hj=>i2 j hj (by have q:=h1;rw[Lm]at q;omega);have e2:=LR fun j hj=>k2 j hj (by have q:=h5;rw[Lm]at q;omega);exact .of_eq (show vb false=vb (D5 w) by unfold D5;rw[e1,e2,h9];simp)
theorem pB(x:List Rl)(ifs:List (List AV))(w:Wk)(hL:Z0 x [])(hW:LO w):PC 10 [JP x ifs,.agg (Bu w)] (vb (DX x 16&&D5 w)):=by
 have xM:PC 36 [JP x ifs,.v (.slice none 0 0)] (vb (DX x 16)):=by
  have q:=(hL.c11 ifs).args (args':=[JP x ifs,.v (.slice none 0 0)]) ⟨.refl _,.nil,trivial⟩;rw[show Et []=true from rfl,Bool.and_true]at q;exact q
 refine Ps ⟨[2,3],[],[],[],[],[],[],[],[],[],[]⟩ Tryz.func10 rfl (Nz rfl) ?_;refine Yi (Nz rfl) ?_;refine BH (Bt (DX x 16)) (fun h1=>?_) (fun h1=>?_)
 ·have h1:(DX x 16)=true:=h1;refine Xi .pure (Xi _ (Yi (cb h1 xM) ?_));refine Yi (Nz rfl) ?_;refine BH (Bt (D5 w)) (fun h2=>?_) (fun h2=>?_)
  ·have h2:(D5 w)=true:=h2;refine Xi .pure (Xi _ (Yi (cb h2 (yK w hW)) ?_));exact .of_eq (show vb true=vb (DX x 16&&D5 w) by rw[h1,h2];rfl)
  have h2:(D5 w)=false:=h2;refine Xi .pure (Xi _ (Yi (cb h2 (yK w hW)) ?_));exact .of_eq (show vb false=vb (DX x 16&&D5 w) by rw[h1,h2];rfl)
 have h1:(DX x 16)=false:=h1;refine Xi .pure (Xi _ (Yi (cb h1 xM) ?_));exact .of_eq (show vb false=vb (DX x 16&&D5 w) by rw[h1];rfl)
theorem o34(x y:List Rl)(ifs tb:List (List AV))(roots:List Rq)(w:Wk)(a b:List Sl)(ms:List Mv)(GK:PC 11 [JP x ifs,.agg (Bu w)] (.tup [JP y tb,vi 0]))(h1:PC 30 [JP x ifs,sl AE roots] (.tup [sl Ae a,vi 0]))(h2:PC 30 [JP y tb,sl AE roots] (.tup [sl Ae b,vi 0]))(sG:PC 75 [sl Ae a,sl Ae b] (.tup [sl EP ms,vi 0])):PC 34 [JP x ifs,sl AE roots,.agg (Bu w)] (.tup [sl EP ms,vi 0]):=by
 refine Ps ⟨[3,5,8],[],[],[],[],[],[],[],[],[],[2,5,8]⟩ Tryz.func34 rfl (Nz rfl) ?_;refine Yi (Nz rfl) ?_;refine Yi (Nz rfl) ?_;refine Xi .pure (Xi _ (Yi GK ?_));refine Yi (Nz rfl) ?_;refine Xi ⟨[(1,sl AE roots),(3,.ref 3 0),(8,.ref 8 0),(9,vi 0)],[(3,.ro (Ic x ifs)),(8,.ro [sl Ah y,.slice .none tb])],Aa⟩ (Yi ⟨Z4,Z2,Fh,Tv⟩ ?_)
 refine Yi (fun h=>absurd h (by decide)) (fun _=>?_);refine Yi (Nz rfl) ?_;refine Xi .pure (Xi _ (Yi h1 ?_));refine Xi ⟨[(1,sl AE roots),(8,.ref 8 0),(9,vi 0),(10,sl Ae a)],[(8,.ro [sl Ah y,.slice .none tb])],Aa⟩ (Yi ⟨Z4,Z1,Fh,Tv⟩ ?_)
 refine Yi (fun h=>absurd h (by decide)) (fun _=>?_);refine Yi (Nz rfl) ?_;refine Xi .pure (Xi _ (Yi h2 ?_));refine Xi ⟨[(9,vi 0),(10,sl Ae a),(11,sl Ae b)],[],Aa⟩ (Yi ⟨Z3,Tv,Fh,Tv⟩ ?_)
 refine Yi (fun h=>absurd h (by decide)) (fun _=>?_);refine Xi .pure (Xi _ (Yi sG ?_));exact .refl _
end Go.Eng
