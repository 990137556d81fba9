/- Lemmas for the claims of this seat, without a condition: part 25 (O9, O10, R14, R15, R16, R17, R18, R19, R20, R21, R22, R23, O11, O12, O13, O14, O16, O17). -/
import Derived.Test.YtmcbkdbfaneofaaGreatDoorEA24
import Derived.Test.YtmcbkdbfaneofaaGreatDoorEA03
set_option maxHeartbeats 4000000
namespace Go.Eng
structure OC{α β:Type}(c:α→α→Int)(R:α→α→Prop)(key:α→β):Prop where
 lt:∀a b,c a b<0↔R a b
 eq:∀a b,c a b=0↔key a=key b
 tr:∀a b d,R a b→R b d→R a d
 irr:∀a b,key a=key b→¬R a b
 tri:∀a b,¬R a b→key a≠key b→R b a
 cl:∀a b d,key a=key b→R a d→R b d
section
variable {α β:Type}{c:α→α→Int}{R:α→α→Prop}{key:α→β}
theorem OC.gt(h:OC c R key){a b:α}(h1:¬c a b<0)(h2:¬c a b=0):R b a:=h.tri a b (fun q=>h1 ((h.lt a b).2 q)) (fun q=>h2 ((h.eq a b).2 q))
theorem H5(h:OC c R key):∀(n:Nat) (a b:List α),a.length+b.length≤n→a.Pairwise R→b.Pairwise R→(Ct c n a b).Pairwise R
 |0,_,_,_,_,_=>.nil
 |n+1,a,b,hn,ha,hb=>by
  cases a with
  |nil =>
   cases b with
   |nil=>exact .nil
   |cons y b =>
    simp only[Au,AC]at hn;obtain⟨h1,h2⟩:=BI.1 hb;show(y::Ct c n [] b).Pairwise R;refine .cons (fun z hz=>?_) (H5 h n [] b (by simp only[AC];omega) ha h2);rcases ES n [] b z hz with hz | hz
    ·cases hz
    ·exact h1 z hz
  |cons x a =>
   obtain⟨g1,g2⟩:=BI.1 ha;cases b with
   |nil =>
    simp only[Au,AC]at hn;show(x::Ct c n a []).Pairwise R;refine .cons (fun z hz=>?_) (H5 h n a [] (by simp only[AC];omega) g2 hb);rcases ES n a [] z hz with hz | hz
    ·exact g1 z hz
    ·cases hz
   |cons y b =>
    obtain⟨h1,h2⟩:=BI.1 hb;simp only[Au]at hn;show(if c x y<0 then x::Ct c n a (y::b)else if c x y=0 then y::Ct c n a b else y::Ct c n (x::a) b).Pairwise R;split
    ·rename_i e;have e:=(h.lt x y).1 e;refine .cons (fun z hz=>?_) (H5 h n a (y::b) (by simp only[Au];omega) g2 hb);rcases ES n a (y::b) z hz with hz | hz
     ·exact g1 z hz
     ·rcases Aq.1 hz with rfl | hz
      ·exact e
      ·exact h.tr _ _ _ e (h1 z hz)
    ·split
     ·rename_i e;have e:=(h.eq x y).1 e;refine .cons (fun z hz=>?_) (H5 h n a b (by omega) g2 h2);rcases ES n a b z hz with hz | hz
      ·exact h.cl x y z e (g1 z hz)
      ·exact h1 z hz
     ·rename_i e1 e2;have e:=h.gt e1 e2;refine .cons (fun z hz=>?_) (H5 h n (x::a) b (by simp only[Au];omega) ha h2);rcases ES n (x::a) b z hz with hz | hz
      ·rcases Aq.1 hz with rfl | hz
       ·exact e
       ·exact h.tr _ _ _ e (g1 z hz)
      ·exact h1 z hz
theorem Tr(h:OC c R key){a b:List α}(ha:a.Pairwise R)(hb:b.Pairwise R):(AX c a b).Pairwise R:=H5 h _ a b (Aj _) ha hb
theorem H4(h:OC c R key):∀(n:Nat) (a b:List α),a.length+b.length≤n→a.Pairwise R→b.Pairwise R→∀r,r∈Ct c n a b↔r∈b∨(r∈a∧∀s∈b,key r≠key s)
 |0,a,b,hn,_,_,r=>by
  have ha:a=[]:=AB (by omega);have hb:b=[]:=AB (by omega);subst ha;subst hb;simp[Ct]
 |n+1,a,b,hn,ha,hb,r=>by
  cases a with
  |nil =>
   cases b with
   |nil=>simp[Ct]
   |cons y b =>
    simp only[Au,AC]at hn;obtain⟨h1,h2⟩:=BI.1 hb;show r∈y::Ct c n [] b↔_;rw[Aq,H4 h n [] b (by simp only[AC];omega) ha h2];simp
  |cons x a =>
   obtain⟨g1,g2⟩:=BI.1 ha;cases b with
   |nil =>
    simp only[Au,AC]at hn;show r∈x::Ct c n a []↔_;rw[Aq,H4 h n a [] (by simp only[AC];omega) g2 hb];simp
   |cons y b =>
    obtain⟨h1,h2⟩:=BI.1 hb;simp only[Au]at hn;show r∈(if c x y<0 then x::Ct c n a (y::b)else if c x y=0 then y::Ct c n a b else y::Ct c n (x::a) b)↔_;split
    ·rename_i e;have e:=(h.lt x y).1 e;rw[Aq,H4 h n a (y::b) (by simp only[Au];omega) g2 hb];constructor
     ·rintro(rfl | hr | ⟨hr,hk⟩)
      ·refine .inr ⟨Aa ..,fun s hs=>?_⟩;intro hk;rcases Aq.1 hs with rfl | hs
       ·exact h.irr _ _ hk e
       ·exact h.irr _ _ hk (h.tr _ _ _ e (h1 s hs))
      ·exact .inl hr
      ·exact .inr ⟨Ae _ hr,hk⟩
     ·rintro(hr | ⟨hr,hk⟩)
      ·exact .inr (.inl hr)
      ·rcases Aq.1 hr with rfl | hr
       ·exact .inl rfl
       ·exact .inr (.inr ⟨hr,hk⟩)
    ·split
     ·rename_i e;have e:=(h.eq x y).1 e;rw[Aq,H4 h n a b (by omega) g2 h2];constructor
      ·rintro(rfl | hr | ⟨hr,hk⟩)
       ·exact .inl (Aa ..)
       ·exact .inl (Ae _ hr)
       ·refine .inr ⟨Ae _ hr,fun s hs=>?_⟩;rcases Aq.1 hs with rfl | hs
        ·exact fun q=>h.irr _ _ q.symm (h.cl _ _ _ e (g1 r hr))
        ·exact hk s hs
      ·rintro(hr | ⟨hr,hk⟩)
       ·exact(Aq.1 hr).imp id .inl
       ·rcases Aq.1 hr with rfl | hr
        ·exact absurd e (hk y (Aa ..))
        ·exact .inr (.inr ⟨hr,fun s hs=>hk s (Ae _ hs)⟩)
     ·rename_i e1 e2;have e:=h.gt e1 e2;rw[Aq,H4 h n (x::a) b (by simp only[Au];omega) ha h2];constructor
      ·rintro(rfl | hr | ⟨hr,hk⟩)
       ·exact .inl (Aa ..)
       ·exact .inl (Ae _ hr)
       ·refine .inr ⟨hr,fun s hs=>?_⟩;rcases Aq.1 hs with rfl | hs
        ·intro q;rcases Aq.1 hr with rfl | hr
         ·exact h.irr _ _ q.symm e
         ·exact h.irr _ _ q.symm (h.tr _ _ _ e (g1 r hr))
        ·exact hk s hs
      ·rintro(hr | ⟨hr,hk⟩)
       ·exact(Aq.1 hr).imp id .inl
       ·exact .inr (.inr ⟨hr,fun s hs=>hk s (Ae _ hs)⟩)
theorem Tq(h:OC c R key){a b:List α}(ha:a.Pairwise R)(hb:b.Pairwise R)(r:α):r∈AX c a b↔r∈b∨(r∈a∧∀s∈b,key r≠key s):=H4 h _ a b (Aj _) ha hb r
theorem aC(h:OC c R key):∀{a b:List α},a.Pairwise R→b.Pairwise R→(∀y,y∈a↔y∈b)→a=b
 | [],[],_,_,_=>rfl
 | [],y::b,_,_,e=>absurd ((e y).2 (Aa ..)) (by simp)
 |x::a,[],_,_,e=>absurd ((e x).1 (Aa ..)) (by simp)
 |x::a,y::b,ha,hb,e=>by
  obtain⟨g1,g2⟩:=BI.1 ha;obtain⟨h1,h2⟩:=BI.1 hb;have hxy:x=y:=by
   rcases Aq.1 ((e x).1 (Aa ..))with q | q
   ·exact q
   ·rcases Aq.1 ((e y).2 (Aa ..))with p | p
    ·exact p.symm
    ·exact absurd (h.tr _ _ _ (g1 y p) (h1 x q)) (h.irr _ _ rfl)
  subst hxy;rw[aC h g2 h2 fun z=>?_];constructor
  ·intro hz;rcases Aq.1 ((e z).1 (Ae _ hz))with q | q
   ·subst q;exact absurd (g1 z hz) (h.irr _ _ rfl)
   ·exact q
  ·intro hz;rcases Aq.1 ((e z).2 (Ae _ hz))with q | q
   ·subst q;exact absurd (h1 z hz) (h.irr _ _ rfl)
   ·exact q
theorem I3(h:OC c R key){a:List α}(ha:a.Pairwise R):(a.map key).Nodup:=by
 unfold List.Nodup;rw[List.pairwise_map];exact ha.imp fun q e=>h.irr _ _ e q
end
/-! The three comparisons. -/
def nV(a b:Sl):Prop:=Fg a.path b.path=true∨(a.path=b.path∧gw a.ver b.ver)
abbrev pd(a b:Sl):Prop:=Fg a.path b.path=true
theorem Sj{a b:Int}:FN a b<0↔a<b:=by
 unfold FN;split
 ·rename_i h;simp[h]
 ·rename_i h;split<;>simp[h]
theorem Ga{a b:Int}:FN a b=0↔a=b:=by
 unfold FN;split
 ·rename_i h;simp;omega
 ·rename_i h;split
  ·rename_i h2;simp;omega
  ·rename_i h2;simp;omega
theorem eX{a b:Ver}:LW a b<0↔gw a b:=by
 refine⟨af,fun h=>?_⟩;unfold LW;rcases h with h | ⟨h1,h | ⟨h2,h⟩⟩
 ·rw[Aw (fun c=>by have:=Ga.1 c;omega)];exact Sj.2 h
 ·rw[Ah (fun c=>c (Ga.2 h1)),Aw (fun c=>by have:=Ga.1 c;omega)];exact Sj.2 h
 ·rw[Ah (fun c=>c (Ga.2 h1)),Ah (fun c=>c (Ga.2 h2))];exact Sj.2 h
theorem YY{a b:Ver}:LW a b=0↔a=b:=by
 refine⟨US,fun h=>?_⟩;subst h;unfold LW;rw[Ah (fun c=>c (Ga.2 rfl)),Ah (fun c=>c (Ga.2 rfl))];exact Ga.2 rfl
theorem Xd{a b:Sl}:Gr a b<0↔nV a b:=by
 unfold Gr nV
 by_cases h:a.path=b.path
 ·rw[Ah (fun c=>c (HX.2 h)),eX];exact⟨fun q=>.inr ⟨h,q⟩,fun q=>q.elim (fun q=>by rw[h,Dg]at q;cases q) (·.2)⟩
 ·rw[Aw (fun c=>h (HX.1 c)),Xc];exact⟨.inl,fun q=>q.elim id fun q=>absurd q.1 h⟩
theorem YX{a b:Sl}:Gr a b=0↔a=b:=by
 unfold Gr
 by_cases h:a.path=b.path
 ·rw[Ah (fun c=>c (HX.2 h)),YY];constructor
  ·intro q;cases a;cases b;simp_all
  ·rintro rfl;rfl
 ·rw[Aw (fun c=>h (HX.1 c))];exact⟨fun q=>absurd (HX.1 q) h,fun q=>absurd (Ac Sl.path q) h⟩
theorem kz{a b:Sl}(h:¬nV a b)(hk:a≠b):nV b a:=by
 unfold nV at *
 by_cases e:a.path=b.path
 ·refine .inr ⟨e.symm,?_⟩;have h2:¬gw a.ver b.ver:=fun q=>h (.inr ⟨e,q⟩);have h3:a.ver≠b.ver:=fun q=>hk (by cases a;cases b;simp_all);unfold gw at *
  by_cases q1:a.ver.a=b.ver.a
  ·by_cases q2:a.ver.b=b.ver.b
   ·by_cases q3:a.ver.c=b.ver.c
    ·exact absurd (by cases ha:a.ver;cases hb:b.ver;simp_all) h3
    ·omega
   ·omega
  ·omega
 ·cases q:Fg b.path a.path with
  |true=>exact .inl rfl
  |false =>
   cases p:Fg a.path b.path with
   |true=>exact absurd (.inl p) h
   |false=>exact absurd (Hp p q) e
theorem n8:OC B5 RC EU where
 lt a b:=Xd (a:=EU a) (b:=EU b)
 eq a b:=YX (a:=EU a) (b:=EU b)
 tr _ _ _:=Vh
 irr _ _ e h:=Jl h e
 tri a b h e:=kz (a:=EU a) (b:=EU b) h e
 cl a b d e h:=show nV (EU b) (EU d)from(show EU a=EU b from e)▸h
theorem rv:OC PH pd (fun s:Sl=>s.path) where
 lt _ _:=Xc
 eq _ _:=HX
 tr _ _ _:=Ev
 irr a b e h:=by rw[pd,e,Dg]at h;cases h
 tri a b h e:=by
  cases q:Fg b.path a.path with
  |true=>exact q
  |false =>
   cases p:Fg a.path b.path with
   |true=>exact absurd p h
   |false=>exact absurd (Hp p q) e
 cl a b d e h:=by rw[pd,←e];exact h
/-! Pins. -/
def Jq(pins:List Sl)(r:Rl):Option Rl :=
 match ib pins r.path with
 |none=>some r
 |some p=>if p=EU r then some { r with yanked:=false }else none
def iW(s:Sl)(r:Rl):Rl:=if EU r=s then { r with yanked:=false }else r
theorem iU{s:Sl}:∀{B:List Rl} {i:Nat} (hi:i<B.length),EU B[i]=s→(B.map EU).Nodup→Pk B i=B.map (iW s):=by
 intro B i hi hs hn;rw[bn (Ge hi)];refine List.ext_getElem (by simp) fun j h1 h2=>?_;rw[List.getElem_set,GI];have hj:j<B.length:=by simpa using h1
 by_cases e:i=j
 ·subst e;rw[Aw rfl];unfold iW;rw[Aw hs]
 ·rw[Ah e];unfold iW;rw[Ah];intro q
  have:=(Bc.1 hn)
  rcases Nat.lt_or_gt_of_ne e with z | z
  ·exact this i j (by simpa using hi) (by simpa using hj) z (by rw[GI,GI,hs,q])
  ·exact this j i (by simpa using hj) (by simpa using hi) z (by rw[GI,GI,hs,q])
theorem JX{α β:Type}{q:α→Bool}{f:α→β}{g:α→Option β}(h:∀x,(if q x=true then some (f x)else none)=g x):∀l:List α,(l.filter q).map f=l.filterMap g
 | []=>rfl
 |x::l=>by
  rw[M4,←h x,DK];cases e:q x with
  |true=>simp only[Kw,AN,JX h l]
  |false=>simp only[Cw,Fc,JX h l]
theorem ia(s:Sl)(r:Rl):(if(!DS s r)=true then some (iW s r)else none)=Jq [s] r:=by
 unfold DS iW Jq ib
 by_cases h:r.path=s.path
 ·have h' : s.path=r.path:=h.symm
  by_cases e:EU r=s
  ·subst e;simp
  ·have e' : ¬s=EU r:=fun q=>e q.symm;simp[h,e,e']
 ·have e:¬EU r=s:=fun q=>h (by rw[←q]);have h' : ¬s.path=r.path:=fun q=>h q.symm;simp[h,h',e]
theorem dn{s:Sl}{l:List Sl}(hs:∀t∈l,t.path≠s.path)(r:Rl):(Jq [s] r).bind (Jq l)=Jq (s::l) r:=by
 unfold Jq ib
 by_cases h:s.path=r.path
 ·by_cases e:s=EU r
  ·subst e;have OL:l.find? (fun y=>decide (y.path=r.path))=none:=by
    rw[Em];intro y hy;simpa using hs y hy
   simp[OL]
  ·simp[h,e]
 ·simp[h]
theorem hJ{B:List Rl}{s:Sl}(hB:(B.map EU).Nodup):LA B s=if s∈B.map EU then some (B.filterMap (Jq [s]))else none:=by
 have hK:((kept (DS s) B).map EU).Nodup:=List.Sublist.nodup (List.Sublist.map _ List.filter_sublist) hB;have fP:∀r,EU r=s→DS s r=false:=fun r e=>by unfold DS;simp[e]
 unfold LA;rcases K7 (fun r=>decide (EU r=s)) (kept (DS s) B)with ⟨e,OL⟩ | ⟨i,hi,e,hp,_⟩
 ·have e2:LO s (kept (DS s) B)<0:=by unfold LO;rw[e];decide
  rw[Aw e2,Ah];intro hm;obtain⟨r,hr,rs⟩:=Ak.1 hm;have lX:r∈kept (DS s) B:=Bo.2 ⟨hr,by rw[fP r rs];rfl⟩;obtain⟨j,hj,ej⟩:=Dy.1 lX
  have:=OL j hj
  rw[ej,Ax rs]at this;cases this
 ·have e2:LO s (kept (DS s) B)=(i:Int):=e;have hp:EU (kept (DS s) B)[i]=s:=BF hp;rw[Ah (by rw[e2];omega),Aw,e2,show((i:Nat):Int).toNat=i from rfl,iU hi hp hK]
  ·exact Ac some (JX (ia s) B)
  ·exact Ak.2 ⟨_,(Bo.1 (Ap hi)).1,hp⟩
theorem Yo{pins:List Sl}{r r' : Rl}(h:Jq pins r=some r'):EU r'=EU r:=by
 unfold Jq at h;split at h
 ·cases h;rfl
 ·split at h
  ·cases h;rfl
  ·cases h
theorem IE{f:Rl→Option Rl}(hf:∀r r',f r=some r'→EU r'=EU r):∀B:List Rl,((B.filterMap f).map EU).Sublist (B.map EU)
 | []=>.slnil
 |r::B=>by
  rw[M4,AN];cases e:f r with
  |none=>exact .cons _ (IE hf B)
  |some r'=>rw[AN,hf r r' e];exact .cons_cons _ (IE hf B)
theorem Ww:∀{pins:List Sl} {B:List Rl},(pins.map (·.path)).Nodup→(B.map EU).Nodup→HE pins B=if ∀s∈pins,s∈B.map EU then some (B.filterMap (Jq pins))else none
 | [],B,_,_=>by
  rw[Aw (fun s hs=>by cases hs)];show some B=some _;rw[show B.filterMap (Jq [])=B from List.filterMap_some ..]
 |s::l,B,hn,hB=>by
  rw[AN,CF]at hn;have hs:∀t∈l,t.path≠s.path:=fun t ht e=>hn.1 (e▸List.mem_map_of_mem ht);show(LA B s).bind (HE l)=_;rw[hJ hB]
  by_cases h:s∈B.map EU
  ·rw[Aw h,RQ];have XM:=IE (fun r r' e=>Yo (pins:=[s]) e) B;rw[Ww hn.2 (XM.nodup hB),List.filterMap_filterMap];have e1:(fun x=>(Jq [s] x).bind (Jq l))=Jq (s::l):=funext (dn hs);rw[e1];have e2:(∀t∈l,t∈(B.filterMap (Jq [s])).map EU)↔∀t∈s::l,t∈B.map EU:=by
    constructor
    ·intro q t ht;rcases Aq.1 ht with rfl | ht
     ·exact h
     ·exact XM.subset (q t ht)
    ·intro q t ht;obtain⟨r,hr,e⟩:=Ak.1 (q t (Ae _ ht));refine Ak.2 ⟨r,Hg.2 ⟨r,hr,?_⟩,e⟩;unfold Jq ib
     have:¬s.path=r.path:=fun p=>hs t ht (by rw[←e];exact p.symm)
     simp[this]
   by_cases q:∀t∈l,t∈(B.filterMap (Jq [s])).map EU
   ·rw[Aw q,Aw (e2.1 q)]
   ·rw[Ah q,Ah (fun p=>q (e2.2 p))]
  ·rw[Ah h,Ah (fun q=>h (q s (Aa ..)))];rfl
theorem dp{pins:List Sl}(hn:(pins.map (·.path)).Nodup){s:Sl}(hs:s∈pins):ib pins s.path=some s:=KY hn hs
/-! What the reference makes of a list. -/
abbrev ry(w:Wk)(l:List Rl):List Rl:=(kept (GX w) l).filterMap (Jq w.pin)
theorem MX{α:Type}{l:List α}{i:Nat}(h:i<l.length):l.take (i+1)=l.take i++[l[i]]:=Kh h
theorem Io{w:Wk}(h:CQ w=0):A4 w.rep=0∧Hz Gr w.exc=true∧Hz PH w.pin=true∧∀s∈w.pin,s∉w.exc:=by
 unfold CQ at h;split at h
 ·cases h
 ·rename_i h1;split at h
  ·cases h
  ·rename_i h2;simp only[not_or,BT]at h1;refine⟨h1.1,by simpa using h1.2.1,by simpa using h1.2.2,fun s hs he=>h2 (Bb.2 ⟨s,hs,Ax he⟩)⟩
theorem cy{c:Sl→Sl→Int}{R:Sl→Sl→Prop}{β:Type}{key:Sl→β}(hc:OC c R key){l:List Sl}(h:Hz c l=true):l.Pairwise R:=by
 have h:=Ji.1 h;rw[Bc];have step:∀(d i:Nat) (h1:i+d+1<l.length),R (l[i]'(by omega)) l[i+d+1]:=by
  intro d
  induction d with
  |zero =>
   intro i h1
   have:=(h (i+1) h1).2 (by omega)
   exact(hc.lt _ _).1 this
  |succ d ih =>
   intro i h1
   have:=(h (i+(d+1)+1) h1).2 (by omega)
   have e:=(hc.lt _ _).1 this;exact hc.tr _ _ _ (ih i (by omega)) e
 intro i j hi hj U4
 have:=step (j-i-1) i (by omega)
 have e:i+(j-i-1)+1=j:=by omega
 simp only[e]at this;exact this
theorem Kb{w:Wk}(h:CQ w=0):w.pin.Pairwise pd:=cy rv (Io h).2.2.1
theorem Lh{x:List Rl}{w:Wk}(hx:A4 x=0)(h:CQ w=0):(AX B5 x w.rep).Pairwise RC:=Tr n8 (Cg hx).2 (Cg (Io h).1).2
end Go.Eng
namespace Go.Eng
open Go.Proofs
def ap(p:ByteArray)(r:Rl):Bool:=decide (r.path=p)&&!r.yanked
def rY(r:Rl):Int×Int:=(plc r.ver,plc r.ver+1)
theorem bH{x:List Rl}{p:ByteArray}(h:A4 x=0):B8 x p=canon ((x.filter (ap p)).map rY):=by
 unfold B8 J8;rw[Ah (not_not_intro h),List.filter_filter]
 congr 3
 funext r
 unfold ap;rw[Bool.and_comm]
instance:DecidableEq Rq:=fun x y=>decidable_of_iff (x.path=y.path∧x.set=y.set) ⟨fun⟨h1,h2⟩=>by cases x;cases y;simp_all,fun h=>by subst h;exact Zr⟩
instance:DecidableEq Rl:=fun x y=>decidable_of_iff (x.path=y.path∧x.ver=y.ver∧x.reqs=y.reqs∧x.arch=y.arch∧x.ifc=y.ifc∧x.cert=y.cert∧x.yanked=y.yanked) ⟨fun⟨h1,h2,h3,h4,h5,h6,h7⟩=>by cases x;cases y;simp_all,fun h=>by subst h;exact⟨rfl,rfl,rfl,rfl,rfl,rfl,rfl⟩⟩
theorem rQ{a b:Rq}(h1:a.path=b.path)(h2:a.set=b.set):a=b:=by cases a;cases b;simp_all
theorem mj{a b:Rl}(h1:a.path=b.path)(h2:a.ver=b.ver)(h3:a.arch=b.arch)(h4:a.ifc=b.ifc)(h5:a.cert=b.cert)(h6:a.yanked=b.yanked)(h7:a.reqs=b.reqs):a=b:=by cases a;cases b;simp_all
theorem i9{a b:Ver}(h:a.a=b.a∧a.b=b.b∧a.c=b.c∧True):a=b:=by cases a;cases b;simp_all
theorem oF{a b:Ver}(h:¬(a.a=b.a∧a.b=b.b∧a.c=b.c∧True)):a≠b:=fun e=>h (by subst e;exact⟨rfl,rfl,rfl,trivial⟩)
theorem RB{α:Type}{a b:List α}(hl:a.length=b.length)(h:∀j (hj:j<a.length),a[j]=b[j]'(hl▸hj)):a=b:=List.ext_getElem hl fun j h1 _=>h j h1
theorem W5{α:Type}{a b:List α}{i:Nat}{ha:i<a.length}{hb:i<b.length}(h:a[i]≠b[i]):a≠b:=fun e=>by subst e;exact h rfl
theorem sR(a b:List Rq)(ha:Cm a)(hs:∀q∈a,Cm q.set):PC 69 [sl AM a,sl AM b] (vb (decide (a=b))):=by
 have qf:a.length≤1073741824:=ha;refine Ps ⟨[],[],[],[],[],[],[],[],[],[],[5,7]⟩ Tryz.func69 rfl (Nz rfl) ?_;refine Yi (fun h1=>?_) (fun h1=>?_)
 ·have h1:((a.map AM).length:Int)≠((b.map AM).length:Int):=h1;exact .of_eq (show vb false=vb (decide (a=b)) by rw[Ar (fun e=>absurd (Ac (fun z=>((z.map AM).length:Int)) e) h1)])
 have h1:((a.map AM).length:Int)=((b.map AM).length:Int):=Bn h1;have hl:a.length=b.length:=by have q:=h1;rw[Lm,Lm]at q;omega
 refine Xi {q:Nat // q≤a.length∧∀j (hj:j<a.length),j<q→a[j]=b[j]'(hl▸hj)} (Xi (fun q=>⟨[(0,sl AM a),(1,sl AM b),(5,vi q.1)],[],Ab⟩) (Xi (fun q=>a.length-q.1) (Yi (Xi ⟨0,AO _,fun _ _ h=>absurd h (Dt _)⟩ ?_) ?_)))
 ·exact⟨Z3,Tv,Fh,Tv⟩
 intro⟨i,i1,i2⟩;have i1:i≤a.length:=i1;have i2:∀j (hj:j<a.length),j<i→a[j]=b[j]'(hl▸hj):=i2;refine Yi (fun h3=>?_) (fun h3=>?_)
 ·have h3:(i:Int)<((a.map AM).length:Int):=h3;have n3:=Ld h3;have cj:i<b.length:=by have q:=h3;rw[Lm]at q;omega
  refine Xi (AM a[i]) (Yi (Pu n3) (Yi rfl ?_));refine Xi (AM b[i]) (Yi (Pu cj) (Yi rfl ?_));refine Yi (fun h5=>?_) (fun h5=>?_)
  ·have h5:(a[i].path:ByteArray)≠b[i].path:=h5;refine Yi (by kernel_rfl) ?_;refine Xi ⟨[],[],Ab⟩ (Yi ⟨Tv,Tv,Fh,Tv⟩ ?_)
   exact .of_eq (show vb false=vb (decide (a=b)) by rw[Ar (W5 (i:=i) (ha:=n3) (hb:=cj) (fun e=>h5 (Ac Rq.path e)))])
  have h5:(a[i].path:ByteArray)=b[i].path:=Bn h5;refine Xi (AM a[i]) (Yi (Pu n3) (Yi rfl ?_));refine Xi (AM b[i]) (Yi (Pu cj) (Yi rfl ?_));refine BU (Bt (decide (a[i].set=b[i].set))) (fun h7=>?_) (fun h7=>?_)
  ·have h7:(decide (a[i].set=b[i].set))=true:=h7;refine Xi _ (Yi (cb h7 (xa a[i].set b[i].set (hs _ (Ap n3)))) ?_);refine Yi (by kernel_rfl) ?_;refine Xi ⟨[(0,sl AM a),(1,sl AM b),(5,vi i)],[],Ab⟩ (Yi ⟨Z3,Tv,Fh,Tv⟩ ?_)
   refine Yi (Ii i (by omega)) ?_;refine Xi ⟨i+1,n3,fun j hj HZ=>if e:j<i then i2 j hj e else by
     have e:j=i:=by omega
     subst e;exact rQ h5 (BF h7)⟩ ?_
   exact⟨Dl a.length i (by omega),Z3,Tv,Fh,Tv⟩
  have h7:(decide (a[i].set=b[i].set))=false:=h7;refine Xi _ (Yi (cb h7 (xa a[i].set b[i].set (hs _ (Ap n3)))) ?_);refine Yi (by kernel_rfl) ?_;refine Xi ⟨[],[],Ab⟩ (Yi ⟨Tv,Tv,Fh,Tv⟩ ?_)
  exact .of_eq (show vb false=vb (decide (a=b)) by rw[Ar (W5 (i:=i) (ha:=n3) (hb:=cj) (fun e=>JC h7 (Ac Rq.set e)))])
 have h3:¬((i:Int)<((a.map AM).length:Int)):=h3;have n3:=Lc h3;exact .of_eq (show vb true=vb (decide (a=b)) by rw[Ax (RB hl fun j hj=>i2 j hj (by have q:=h3;rw[Lm]at q;omega))])
theorem yf(r s:Rl)(hr:Cm r.reqs)(hs:∀q∈r.reqs,Cm q.set):PC 23 [.agg (Al r),.agg (Al s)] (vb (decide (r=s))):=by
 refine Ps ⟨[2,3],[],[],[],[],[],[],[],[],[],[]⟩ Tryz.func23 rfl (Nz rfl) ?_;refine Yi (fun h1=>?_) (fun h1=>?_)
 ·have h1:(r.path:ByteArray)=s.path:=h1;refine Yi (Nz rfl) ?_;refine Yi (Nz rfl) ?_;refine Yi (fun h2=>?_) (fun h2=>?_)
  ·have h2:(r.ver.a:Int)=s.ver.a∧(r.ver.b:Int)=s.ver.b∧(r.ver.c:Int)=s.ver.c∧True:=h2;refine Yi (fun h3=>?_) (fun h3=>?_)
   ·have h3:(r.arch:ByteArray)=s.arch:=h3;refine Yi (fun h4=>?_) (fun h4=>?_)
    ·have h4:(r.ifc:ByteArray)=s.ifc:=h4;refine Yi (fun h5=>?_) (fun h5=>?_)
     ·have h5:(r.cert:ByteArray)=s.cert:=h5;refine Yi (fun h6=>?_) (fun h6=>?_)
      ·have h6:r.yanked=true:=h6;refine Yi (fun h7=>?_) (fun h7=>?_)
       ·have h7:s.yanked=true:=h7;refine BU (Bt (decide (r.reqs=s.reqs))) (fun h8=>?_) (fun h8=>?_)
        ·have h8:(decide (r.reqs=s.reqs))=true:=h8;refine Xi .pure (Xi _ (Yi (cb h8 (sR r.reqs s.reqs hr hs)) ?_));exact .of_eq (show vb true=vb (decide (r=s)) by rw[Ax (mj h1 (i9 h2) h3 h4 h5 (by rw[h6,h7]) (BF h8))])
        have h8:(decide (r.reqs=s.reqs))=false:=h8;refine Xi .pure (Xi _ (Yi (cb h8 (sR r.reqs s.reqs hr hs)) ?_));exact .of_eq (show vb false=vb (decide (r=s)) by rw[Ar (fun e=>JC h8 (Ac Rl.reqs e))])
       have h7:s.yanked=false:=h7;exact .of_eq (show vb false=vb (decide (r=s)) by rw[Ar (fun e=>by have q:=Ac Rl.yanked e;rw[h6,h7]at q;cases q)])
      have h6:r.yanked=false:=h6;refine Yi (fun Lw=>?_) (fun Lw=>?_)
      ·have Lw:s.yanked=true:=Lw;exact .of_eq (show vb false=vb (decide (r=s)) by rw[Ar (fun e=>by have q:=Ac Rl.yanked e;rw[h6,Lw]at q;cases q)])
      have Lw:s.yanked=false:=Lw;refine BU (Bt (decide (r.reqs=s.reqs))) (fun jS=>?_) (fun jS=>?_)
      ·have jS:(decide (r.reqs=s.reqs))=true:=jS;refine Xi .pure (Xi _ (Yi (cb jS (sR r.reqs s.reqs hr hs)) ?_));exact .of_eq (show vb true=vb (decide (r=s)) by rw[Ax (mj h1 (i9 h2) h3 h4 h5 (by rw[h6,Lw]) (BF jS))])
      have jS:(decide (r.reqs=s.reqs))=false:=jS;refine Xi .pure (Xi _ (Yi (cb jS (sR r.reqs s.reqs hr hs)) ?_));exact .of_eq (show vb false=vb (decide (r=s)) by rw[Ar (fun e=>JC jS (Ac Rl.reqs e))])
     have h5:¬(r.cert:ByteArray)=s.cert:=h5;exact .of_eq (show vb false=vb (decide (r=s)) by rw[Ar (fun e=>h5 (Ac Rl.cert e))])
    have h4:¬(r.ifc:ByteArray)=s.ifc:=h4;exact .of_eq (show vb false=vb (decide (r=s)) by rw[Ar (fun e=>h4 (Ac Rl.ifc e))])
   have h3:¬(r.arch:ByteArray)=s.arch:=h3;exact .of_eq (show vb false=vb (decide (r=s)) by rw[Ar (fun e=>h3 (Ac Rl.arch e))])
  have h2:¬((r.ver.a:Int)=s.ver.a∧(r.ver.b:Int)=s.ver.b∧(r.ver.c:Int)=s.ver.c∧True):=h2;exact .of_eq (show vb false=vb (decide (r=s)) by rw[Ar (fun e=>oF h2 (Ac Rl.ver e))])
 have h1:¬(r.path:ByteArray)=s.path:=h1;exact .of_eq (show vb false=vb (decide (r=s)) by rw[Ar (fun e=>h1 (Ac Rl.path e))])
theorem rn(a b:List Rl)(ha:Cm a)(hr:∀r∈a,Cm r.reqs∧∀q∈r.reqs,Cm q.set):PC 15 [sl Al a,sl Al b] (vb (decide (a=b))):=by
 have qf:a.length≤1073741824:=ha;refine Ps ⟨[],[],[],[],[],[],[],[],[],[],[5,7]⟩ Tryz.func15 rfl (Nz rfl) ?_;refine Yi (fun h1=>?_) (fun h1=>?_)
 ·have h1:((a.map Al).length:Int)≠((b.map Al).length:Int):=h1;exact .of_eq (show vb false=vb (decide (a=b)) by rw[Ar (fun e=>absurd (Ac (fun z=>((z.map Al).length:Int)) e) h1)])
 have h1:((a.map Al).length:Int)=((b.map Al).length:Int):=Bn h1;have hl:a.length=b.length:=by have q:=h1;rw[Lm,Lm]at q;omega
 refine Xi {q:Nat // q≤a.length∧∀j (hj:j<a.length),j<q→a[j]=b[j]'(hl▸hj)} (Xi (fun q=>⟨[(0,sl Al a),(1,sl Al b),(5,vi q.1)],[],Ab⟩) (Xi (fun q=>a.length-q.1) (Yi (Xi ⟨0,AO _,fun _ _ h=>absurd h (Dt _)⟩ ?_) ?_)))
 ·exact⟨Z3,Tv,Fh,Tv⟩
 intro⟨i,i1,i2⟩;have i1:i≤a.length:=i1;have i2:∀j (hj:j<a.length),j<i→a[j]=b[j]'(hl▸hj):=i2;refine Yi (fun h3=>?_) (fun h3=>?_)
 ·have h3:(i:Int)<((a.map Al).length:Int):=h3;have n3:=Ld h3;have cj:i<b.length:=by have q:=h3;rw[Lm]at q;omega
  refine Xi (Al a[i]) (Yi (Pu n3) (Yi rfl ?_));refine Yi (Nz rfl) ?_;refine Xi (Al b[i]) (Yi (Pu cj) (Yi rfl ?_));refine Yi (Nz rfl) ?_;refine BU (Bt (decide (a[i]=b[i]))) (fun h4=>?_) (fun h4=>?_)
  ·have h4:(decide (a[i]=b[i]))=true:=h4;refine Xi _ (Yi (cb h4 (yf a[i] b[i] (hr _ (Ap n3)).1 (hr _ (Ap n3)).2)) ?_);refine Yi (by kernel_rfl) ?_;refine Xi ⟨[(0,sl Al a),(1,sl Al b),(5,vi i)],[],Ab⟩ (Yi ⟨Z3,Tv,Fh,Tv⟩ ?_)
   refine Yi (Ii i (by omega)) ?_;refine Xi ⟨i+1,n3,fun j hj HZ=>if e:j<i then i2 j hj e else by
     have e:j=i:=by omega
     subst e;exact BF h4⟩ ?_
   exact⟨Dl a.length i (by omega),Z3,Tv,Fh,Tv⟩
  have h4:(decide (a[i]=b[i]))=false:=h4;refine Xi _ (Yi (cb h4 (yf a[i] b[i] (hr _ (Ap n3)).1 (hr _ (Ap n3)).2)) ?_);refine Yi (by kernel_rfl) ?_;refine Xi ⟨[],[],Ab⟩ (Yi ⟨Tv,Tv,Fh,Tv⟩ ?_)
  exact .of_eq (show vb false=vb (decide (a=b)) by rw[Ar (W5 (i:=i) (ha:=n3) (hb:=cj) (JC h4))])
 have h3:¬((i:Int)<((a.map Al).length:Int)):=h3;have n3:=Lc h3;exact .of_eq (show vb true=vb (decide (a=b)) by rw[Ax (RB hl fun j hj=>i2 j hj (by have q:=h3;rw[Lm]at q;omega))])
theorem sQ(a b:List Sl)(ha:Cm a):PC 65 [sl Af a,sl Af b] (vb (decide (a=b))):=by
 have qf:a.length≤1073741824:=ha;refine Ps ⟨[],[],[],[],[],[],[],[],[],[],[5,7]⟩ Tryz.func65 rfl (Nz rfl) ?_;refine Yi (fun h1=>?_) (fun h1=>?_)
 ·have h1:((a.map Af).length:Int)≠((b.map Af).length:Int):=h1;exact .of_eq (show vb false=vb (decide (a=b)) by rw[Ar (fun e=>absurd (Ac (fun z=>((z.map Af).length:Int)) e) h1)])
 have h1:((a.map Af).length:Int)=((b.map Af).length:Int):=Bn h1;have hl:a.length=b.length:=by have q:=h1;rw[Lm,Lm]at q;omega
 refine Xi {q:Nat // q≤a.length∧∀j (hj:j<a.length),j<q→a[j]=b[j]'(hl▸hj)} (Xi (fun q=>⟨[(0,sl Af a),(1,sl Af b),(5,vi q.1)],[],Ab⟩) (Xi (fun q=>a.length-q.1) (Yi (Xi ⟨0,AO _,fun _ _ h=>absurd h (Dt _)⟩ ?_) ?_)))
 ·exact⟨Z3,Tv,Fh,Tv⟩
 intro⟨i,i1,i2⟩;have i1:i≤a.length:=i1;have i2:∀j (hj:j<a.length),j<i→a[j]=b[j]'(hl▸hj):=i2;refine Yi (fun h3=>?_) (fun h3=>?_)
 ·have h3:(i:Int)<((a.map Af).length:Int):=h3;have n3:=Ld h3;have cj:i<b.length:=by have q:=h3;rw[Lm]at q;omega
  refine Xi (Af a[i]) (Yi (Pu n3) (Yi rfl ?_));refine Yi (Nz rfl) ?_;refine Xi (Af b[i]) (Yi (Pu cj) (Yi rfl ?_));refine Yi (Nz rfl) ?_;refine Yi (fun h4=>?_) (fun h4=>?_)
  ·have h4:(a[i].path:ByteArray)=b[i].path∧(a[i].ver.a:Int)=b[i].ver.a∧(a[i].ver.b:Int)=b[i].ver.b∧(a[i].ver.c:Int)=b[i].ver.c∧True:=h4;refine Yi (by kernel_rfl) ?_;refine Xi ⟨[(0,sl Af a),(1,sl Af b),(5,vi i)],[],Ab⟩ (Yi ⟨Z3,Tv,Fh,Tv⟩ ?_)
   refine Yi (Ii i (by omega)) ?_;refine Xi ⟨i+1,n3,fun j hj HZ=>if e:j<i then i2 j hj e else by
     have e:j=i:=by omega
     subst e;exact iE h4⟩ ?_
   exact⟨Dl a.length i (by omega),Z3,Tv,Fh,Tv⟩
  have h4:¬((a[i].path:ByteArray)=b[i].path∧(a[i].ver.a:Int)=b[i].ver.a∧(a[i].ver.b:Int)=b[i].ver.b∧(a[i].ver.c:Int)=b[i].ver.c∧True):=h4;refine Yi (by kernel_rfl) ?_;refine Xi ⟨[],[],Ab⟩ (Yi ⟨Tv,Tv,Fh,Tv⟩ ?_)
  exact .of_eq (show vb false=vb (decide (a=b)) by rw[Ar (W5 (i:=i) (ha:=n3) (hb:=cj) (ml h4))])
 have h3:¬((i:Int)<((a.map Af).length:Int)):=h3;have n3:=Lc h3;exact .of_eq (show vb true=vb (decide (a=b)) by rw[Ax (RB hl fun j hj=>i2 j hj (by have q:=h3;rw[Lm]at q;omega))])
def Mq(a b:Wk):Bool:=decide (a.rep=b.rep)&&decide (a.exc=b.exc)&&decide (a.pin=b.pin)
theorem ZQ(a:Wk):Mq a a=true:=by unfold Mq;simp
abbrev RL(l:List Rl):Prop:=∀r∈l,Cm r.reqs∧∀q∈r.reqs,Cm q.set
theorem o19(a b:Wk)(hA:bv a)(hr:RL a.rep):PC 19 [.agg (BK a),.agg (BK b)] (vb (Mq a b)):=by
 refine Ps ⟨[2,3],[],[],[],[],[],[],[],[],[],[]⟩ Tryz.func19 rfl (Nz rfl) ?_;refine BU (Bt (decide (a.rep=b.rep))) (fun h1=>?_) (fun h1=>?_)
 ·have h1:(decide (a.rep=b.rep))=true:=h1;refine Xi .pure (Xi _ (Yi (cb h1 (rn a.rep b.rep hA.reps hr)) ?_));refine BU (Bt (decide (a.exc=b.exc))) (fun h2=>?_) (fun h2=>?_)
  ·have h2:(decide (a.exc=b.exc))=true:=h2;refine Xi .pure (Xi _ (Yi (cb h2 (sQ a.exc b.exc hA.exc)) ?_));refine BU (Bt (decide (a.pin=b.pin))) (fun h3=>?_) (fun h3=>?_)
   ·have h3:(decide (a.pin=b.pin))=true:=h3;refine Xi .pure (Xi _ (Yi (cb h3 (sQ a.pin b.pin hA.pin)) ?_));exact .of_eq (show vb true=vb (Mq a b) by unfold Mq;rw[h1,h2,h3];rfl)
   have h3:(decide (a.pin=b.pin))=false:=h3;refine Xi .pure (Xi _ (Yi (cb h3 (sQ a.pin b.pin hA.pin)) ?_));exact .of_eq (show vb false=vb (Mq a b) by unfold Mq;rw[h1,h2,h3];simp)
  have h2:(decide (a.exc=b.exc))=false:=h2;refine Xi .pure (Xi _ (Yi (cb h2 (sQ a.exc b.exc hA.exc)) ?_));exact .of_eq (show vb false=vb (Mq a b) by unfold Mq;rw[h1,h2];simp)
 have h1:(decide (a.rep=b.rep))=false:=h1;refine Xi .pure (Xi _ (Yi (cb h1 (rn a.rep b.rep hA.reps hr)) ?_));exact .of_eq (show vb false=vb (Mq a b) by unfold Mq;rw[h1];simp)
structure Mv where
 path:ByteArray
 a:Int
 b:Int
abbrev EK(m:Mv):List AV:=[vs m.path,vi m.a,vi m.b]
abbrev plP(s:Sl):Value×AV:=(.string s.path,vi (place s.ver))
abbrev Jr(l:List Sl):List (Value×AV):=l.map plP
def Pv(l:List Sl)(p:ByteArray):Int:=match Cb l p with | some s=>place s.ver | none=>-1
def Wq(l m:List Sl)(p:ByteArray):Option Mv:=if Pv l p≠Pv m p then some ⟨p,Pv l p,Pv m p⟩else none
abbrev Mi(l m:List Sl)(ps:List ByteArray):List Mv:=ps.filterMap (Wq l m)
structure N9(l:List Sl):Prop where
 few:Cm l
 val:∀s∈l,CN s.ver=true
 inc:l.Pairwise pd
theorem N9.step{l:List Sl}(h:N9 l){i:Nat}(hi:i<l.length)(h0:0<i):Fg (l[i-1]'(by omega)).path l[i].path=true:=(Bc.1 h.inc) (i-1) i (by omega) hi (by omega)
theorem ig{l:List Sl}(h:N9 l){i:Nat}(hi:i<l.length):∀b,(Value.string l[i].path,b)∉Jr (l.take i):=fun b hb=>by
 obtain⟨s,hs,e⟩:=Ak.1 hb;obtain⟨j,hj,rfl⟩:=Dy.1 hs;rw[Kf]at e;rw[AJ]at hj;have q:=(Bc.1 h.inc) j i (by omega) hi (by omega);have e2:l[j].path=l[i].path:=by injection e with e1;injection e1
 rw[pd,e2,Dg]at q;cases q
theorem oe{l:List Sl}(h:N9 l){p:ByteArray}{a:AV}(ha:(Value.string p,a)∈Jr l):a=vi (Pv l p):=by
 obtain⟨s,hs,e⟩:=Ak.1 ha;have e1:s.path=p:=by injection e with e1;injection e1
 have e2:vi (place s.ver)=a:=by injection e
 rw[←e2];unfold Pv;rw[←e1,KY (I3 rv h.inc) hs]
theorem og{l:List Sl}{p:ByteArray}(h:∀a,(Value.string p,a)∉Jr l):Pv l p=-1:=by
 unfold Pv;rw[show Cb l p=none from Em.2 fun s hs e=>h _ (Ak.2 ⟨s,hs,by rw[←BF e]⟩)]
theorem aK{l m:List Sl}{ps:List ByteArray}{k:Nat}(h:k<ps.length):Mi l m (ps.take (k+1))=Mi l m (ps.take k)++(Wq l m ps[k]).toList:=by
 unfold Mi;rw[MX h,List.filterMap_append]
 congr 1
theorem rk(l:List Sl)(hl:N9 l):Be Tryz.prog 101 [sl Af l] (Ai [] Ab) fun r h'=>r=.tup [.mref 2000,vb true]∧h'=Ai [(2000,.map C3 (Jr l))] Ab:=by
 have hfl:l.length≤1073741824:=hl.few;refine Co (MF ⟨[],[],[],[],[],[],[],[],[],[],[6,7,8]⟩) [(9,2000)] rfl CB hm rfl Tryz.func101 (by kernel_rfl) rfl (Nz rfl) (by kernel_rfl) rfl ?_;refine Xi {q:Nat // q≤l.length} (Xi (fun q=>⟨[(0,sl Af l),(4,.mref 9),(10,sl Af l),(11,vi (l.map Af).length),(12,vi q.1)],[(9,.map C3 (Jr (l.take q.1)))],Ab⟩) (Xi (fun q=>l.length-q.1) (Yi (Xi ⟨0,AO _⟩ ?_) ?_)))
 ·exact⟨Z5,Z1,Fh,Ay (by kernel_rfl)⟩
 intro⟨i,i1⟩;have i1:i≤l.length:=i1;refine Yi (fun h1=>?_) (fun h1=>?_)
 ·have h1:(i:Int)<((l.map Af).length:Int):=h1;have n1:=Ld h1;refine Xi (Af l[i]) (Yi (Pu n1) (Yi rfl ?_));refine Yi (Nz rfl) ?_;refine Yi (Nz rfl) ?_;refine Yi (Nz rfl) ?_;refine Xi .pure (Xi _ (Yi (by have q:=r9 l[i].ver;rw[Aw (hl.val _ (Ap n1)),Aw (hl.val _ (Ap n1))]at q;exact q) ?_));refine Xi ⟨[(0,sl Af l),(4,.mref 9),(5,vi i),(6,.ref 6 0),(7,vi (place l[i].ver)),(8,vi 0),(10,sl Af l),(11,vi (l.map Af).length),(12,vi i)],[(6,.cells (Af l[i])),(9,.map C3 (Jr (l.take i)))],Ab⟩ (Yi ⟨Z9,Z2,Fh,Ay (by kernel_rfl)⟩ ?_)
  refine Yi (fun h=>absurd h (by decide)) (fun _=>?_);refine Yi (fun h2=>?_) (fun h2=>?_)
  ·have h2:(0:Int)<(i:Int):=h2;refine Yi (by show B2 ((i:Int)-(1:Int));unfold B2;omega) ?_;have fO:0<i:=by omega
   refine Xi (Af (l[i-1])) (Yi (Yi (show(0:Int)≤(i:Int)-1 by omega) (by rw[show((i:Int)-1).toNat=i-1 by omega];exact Ch (Ge (by omega)))) (Yi rfl ?_));refine Yi (fun h3=>?_) (fun h3=>?_)
   ·have h3:Fg (l[i-1]).path l[i].path=false:=(HU _ _).trans h3;exact absurd (hl.step n1 fO) (by rw[h3];decide)
   have h3:Fg (l[i-1]).path l[i].path=true:=(HU _ _).trans (by simpa using h3);refine Yi (by kernel_rfl) ?_;refine Xi ⟨[(0,sl Af l),(4,.mref 9),(6,.ref 6 0),(7,vi (place l[i].ver)),(10,sl Af l),(11,vi (l.map Af).length),(12,vi i)],[(6,.cells (Af l[i])),(9,.map C3 (Jr (l.take i)))],Ab⟩ (Yi ⟨Z7,Z2,Fh,Ay (by kernel_rfl)⟩ ?_)
   refine Yi (Ii i (by omega)) ?_;refine Xi ⟨i+1,n1⟩ ?_;exact⟨Dl l.length i (by omega),Z5,⟨⟨(show HO.map C3 (EO (Jr (l.take i)) (.string l[i].path) (vi (place l[i].ver)))=.map C3 (Jr (l.take (i+1))) by rw[KB (ig hl n1),MX n1];unfold Jr;rw[AH];rfl),rfl⟩,Tv⟩,Fh,Ay (by kernel_rfl)⟩
  have h2:¬((0:Int)<(i:Int)):=h2;refine Yi (by kernel_rfl) ?_;refine Xi ⟨[(0,sl Af l),(4,.mref 9),(6,.ref 6 0),(7,vi (place l[i].ver)),(10,sl Af l),(11,vi (l.map Af).length),(12,vi i)],[(6,.cells (Af l[i])),(9,.map C3 (Jr (l.take i)))],Ab⟩ (Yi ⟨Z7,Z2,Fh,Ay (by kernel_rfl)⟩ ?_)
  refine Yi (Ii i (by omega)) ?_;refine Xi ⟨i+1,n1⟩ ?_;exact⟨Dl l.length i (by omega),Z5,⟨⟨(show HO.map C3 (EO (Jr (l.take i)) (.string l[i].path) (vi (place l[i].ver)))=.map C3 (Jr (l.take (i+1))) by rw[KB (ig hl n1),MX n1];unfold Jr;rw[AH];rfl),rfl⟩,Tv⟩,Fh,Ay (by kernel_rfl)⟩
 have h1:¬((i:Int)<((l.map Af).length:Int)):=h1;have n1:=Lc h1;have ei:l.take i=l:=AT (by have q:=h1;rw[Lm]at q;omega);exact Xi _ (Yi (.refl _) ⟨rfl,show Ai [(2000,HO.map C3 (Jr (l.take i)))] Ab=Ai [(2000,.map C3 (Jr l))] Ab by rw[ei]⟩)
theorem rm(l:List Sl)(p:ByteArray)(hl:N9 l):PC 103 [.cmap C3 (Jr l),vs p] (vi (Pv l p)):=by
 refine Ps ⟨[],[],[],[],[],[],[],[],[],[],[4]⟩ Tryz.func103 rfl (Nz rfl) ?_;refine Yi (fun a ha=>?_) (fun OL=>?_)
 ·have ea:=oe hl ha;subst ea;exact .refl _
 refine Xi ⟨[],[],Ab⟩ (Yi ⟨Tv,Tv,Fh,Tv⟩ ?_)
 exact .of_eq (show vi (-1)=vi (Pv l p) by rw[og OL])
theorem o75(l m:List Sl)(t:List ByteArray)(hl:N9 l)(xO:N9 m)(zL:l.length+m.length≤1073741824)(DC:l++m≠[])(hp:t.Perm ((l++m).map (·.path)))(ht:(t.map ab).Pairwise fun a b=>a≤b):PC 75 [sl Af l,sl Af m] (.tup [sl EK (Mi l m (B7 t)),vi 0]):=by
 obtain⟨LM,ne⟩:∃LM,LM=l++m:=⟨_,rfl⟩;have hm:=xO;rw[←ne]at hp;have xp:LM.length=l.length+m.length:=by rw[ne,Ad]
 have sw:l.length≤1073741824:=hl.few;have lR:m.length≤1073741824:=xO.few;refine EP (Y0 ⟨[],[(14,3)],[(10,1)],[(34,[12000,12500])],[],[],[],[],[],[],[3,6,7,8,9,11,13,14,15,16,17,18,19,21]⟩) rfl CB Go.Eng.hm rfl Tryz.func75 (by kernel_rfl) rfl (Nz rfl) (by kernel_rfl) ?_;refine Xi (.gen [] 1) (Yi rfl (Be.to2 (rk l hl) ?_));refine Xi (.gen [] 1) (Yi rfl (Be.to2 (rk m hm) ?_));refine Xi ⟨[(0,sl Af l),(1,sl Af m),(6,.mref 12000),(7,vb true),(8,.mref 12500),(9,vb true)],[(12000,.map C3 (Jr l)),(12500,.map C3 (Jr m))],Ab⟩ (Yi ⟨Z6,Z2,Fh,Tv⟩ ?_)
 refine Xi ⟨[(0,sl Af l),(1,sl Af m),(6,.mref 12000),(8,.mref 12500),(10,.msl 10 0)],[(10,.arr 1 []),(12000,.map C3 (Jr l)),(12500,.map C3 (Jr m))],Ab⟩ (Yi ⟨Z5,Z3,Fh,Tv⟩ ?_)
 refine Xi (.gen [] 1) (Yi rfl (Be.to2 (pN l hl.few) ?_));have b4:Do 4 (m.map Af)∧(l.map Af).length=(l.map Af).length∧((l.map Af).length+(m.map Af).length)*40≤140737488355328∧(l.map Af).length+(m.map Af).length≤9223372036854775807:=⟨(Ez (enc:=Af) (n:=4) (fun _=>rfl) m),rfl,(by simp only[Lm];omega),(by simp only[Lm];omega)⟩;refine Yi b4 ?_;refine Xi {q:Nat×List ByteArray // q.1≤LM.length∧q.2=(LM.take q.1).map (·.path)} (Xi (fun q=>⟨[(6,.mref 12000),(8,.mref 12500),(10,.msl 10 q.1.2.length),(37,.slice (.id 13500 4) (LM.map Af)),(38,vi (LM.length:Nat)),(39,vi q.1.1)],[(10,.arr 1 (q.1.2.map DM)),(12000,.rom C3 (Jr l)),(12500,.rom C3 (Jr m)),(13500,.tok 4 LM.length)],Ab⟩) (Xi (fun q=>LM.length-q.1.1) (Yi (Xi ⟨(0,[]),AO _,rfl⟩ ?_) ?_)))
 ·exact⟨⟨Zr,Zr,Zr,⟨(show AV.slice (.id 13500 4) (l.map Af++m.map Af)=.slice (.id 13500 4) (LM.map Af) by rw[ne,AH]),rfl⟩,⟨(show vi ((l.map Af++m.map Af:List (List AV)).length:Int)=vi ((LM.length:Nat):Int) by rw[ne,Ad,Ad,Lm,Lm]),rfl⟩,Zr,Tv⟩,⟨Zr,Zr,Zr,⟨(show HO.tok 4 ((l.map Af).length+(m.map Af).length)=.tok 4 LM.length by rw[ne,Ad,Lm,Lm]),rfl⟩,Tv⟩,Fh,Tv⟩
 intro⟨⟨i,P⟩,i1,i2⟩;have i1:i≤LM.length:=i1;have i2:P=(LM.take i).map (·.path):=i2;have i3:P.length≤i:=by rw[i2,Lm,AJ];omega
 refine Xi ⟨[(6,.mref 12000),(8,.mref 12500),(10,.msl 10 P.length),(37,.slice (.id 13500 4) (LM.map Af)),(38,vi (LM.length:Nat)),(39,vi i)],[(10,.arr 1 (P.map DM)),(12000,.rom C3 (Jr l)),(12500,.rom C3 (Jr m)),(13500,.tok 4 LM.length)],Ab⟩ (Yi ⟨Z6,Z4,Fh,Tv⟩ ?_)
 refine Yi (fun h5=>?_) (fun h5=>?_)
 ·have h5:(i:Int)<((LM.length:Nat):Int):=h5;have n5:i<LM.length:=by omega
  refine Xi ⟨[(6,.mref 12000),(8,.mref 12500),(10,.msl 10 P.length),(37,.slice (.id 13500 4) (LM.map Af)),(38,vi (LM.length:Nat)),(39,vi i)],[(10,.arr 1 (P.map DM)),(12000,.rom C3 (Jr l)),(12500,.rom C3 (Jr m)),(13500,.tok 4 LM.length)],Ab⟩ (Yi ⟨Z6,Z4,Fh,Tv⟩ ?_)
  refine Xi (Af LM[i]) (Yi (Pu n5) (Yi rfl ?_));refine Yi (Nz rfl) ?_;refine Yi (Nz rfl) ?_;refine Xi ⟨[(6,.mref 12000),(8,.mref 12500),(10,.msl 10 P.length),(12,.ref 12 0),(37,.slice (.id 13500 4) (LM.map Af)),(38,vi (LM.length:Nat)),(39,vi i)],[(10,.arr 1 (P.map DM)),(12,.cells (Af LM[i])),(12000,.rom C3 (Jr l)),(12500,.rom C3 (Jr m)),(13500,.tok 4 LM.length)],Ab⟩ (Yi ⟨Z7,Z5,Fh,Tv⟩ ?_)
  have b6:Do 1 [[vs LM[i].path]]∧(P.map DM).length=P.length∧((P.map DM).length+([[vs LM[i].path]]:List (List AV)).length)*16≤140737488355328∧(P.map DM).length+([[vs LM[i].path]]:List (List AV)).length≤9223372036854775807:=⟨⟨rfl,trivial⟩,(by rw[Lm]),(by simp only[Lm,Au,AC];omega),(by simp only[Lm,Au,AC];omega)⟩;refine Yi b6 ?_;refine Yi (Ii i (by omega)) ?_;refine Xi ⟨(i+1,P++[LM[i].path]),n5,by show P++[LM[i].path]=_;rw[MX n5,AH,i2];rfl⟩ ?_;exact⟨Dl LM.length i (by omega),⟨Zr,Zr,⟨(show AV.msl 10 ((P.map DM).length+([[vs LM[i].path]]:List (List AV)).length)=.msl 10 (P++[LM[i].path]).length by rw[Ad,Lm];rfl),rfl⟩,Zr,Zr,Zr,Tv⟩,⟨⟨(show HO.arr 1 (P.map DM++[[vs LM[i].path]])=.arr 1 ((P++[LM[i].path]).map DM) by rw[AH];rfl),rfl⟩,Zr,Zr,Zr,Tv⟩,Fh,Tv⟩
 have h5:¬((i:Int)<((LM.length:Nat):Int)):=h5;have sj:P=LM.map (·.path):=by rw[i2,AT (by have q:=h5;omega)]
 have xq:Cm P:=by unfold Cm;rw[sj,Lm,ne,Ad];exact zL
 have xr:P≠[]:=fun e=>by rw[sj]at e;exact DC (by rw[←ne];exact Dq.1 e)
 have uj:t.length=P.length:=by rw[sj];exact hp.length_eq
 have nK:t.length≤1073741824:=by rw[uj];exact xq
 have vl:t≠[]:=fun e=>xr (AB (by rw[←uj,e];rfl));have hcl:(B7 t).length≤t.length:=by unfold B7;rw[Lm];exact AU (QH _) (by rw[Lm];exact Aj _)
 refine Xi ⟨[(6,.mref 12000),(8,.mref 12500),(10,.msl 10 P.length)],[(10,.arr 1 (P.map DM)),(12000,.rom C3 (Jr l)),(12500,.rom C3 (Jr m))],Ab⟩ (Yi ⟨Z3,Z3,Fh,Tv⟩ ?_)
 refine Xi (.gen [(10,1000)] 0) (Yi rfl (Be.to2 (vF P t xq xr (by rw[sj];exact hp) ht) ?_));refine Xi ⟨[(6,.mref 12000),(8,.mref 12500),(10,.msl 10 P.length),(13,.v (.func (.func 103) #[] #[]))],[(10,.arr 1 (t.map DM)),(12000,.rom C3 (Jr l)),(12500,.rom C3 (Jr m))],Ab⟩ (Yi ⟨Z4,Z3,Fh,Tv⟩ ?_)
 refine Xi ⟨[(6,.mref 12000),(8,.mref 12500),(10,.msl 10 t.length),(13,.v (.func (.func 103) #[] #[])),(14,.slice (.id 14 3) [])],[(10,.arr 1 (t.map DM)),(14,.tok 3 0),(12000,.rom C3 (Jr l)),(12500,.rom C3 (Jr m))],Ab⟩ (Yi ⟨⟨Zr,Zr,⟨(Ac (AV.msl 10) uj.symm),rfl⟩,Zr,Zr,Tv⟩,Z4,Fh,Tv⟩ ?_)
 refine Xi (.gen [(10,1000)] 1) (Yi rfl (Be.to2 (vG t (by unfold Cm;omega) vl) ?_));refine Xi {q:Nat×List Mv // q.1≤(B7 t).length∧q.2=Mi l m ((B7 t).take q.1)} (Xi (fun q=>⟨[(6,.mref 12000),(8,.mref 12500),(13,.v (.func (.func 103) #[] #[])),(14,.slice (.id 14 3) (q.1.2.map EK)),(52,.msl 15200 (B7 t).length),(53,vi (B7 t).length),(54,vi q.1.1)],[(14,.tok 3 q.1.2.length),(12000,.rom C3 (Jr l)),(12500,.rom C3 (Jr m)),(15200,.arr 1 ((B7 t).map DM))],Ab⟩) (Xi (fun q=>(B7 t).length-q.1.1) (Yi (Xi ⟨(0,[]),AO _,rfl⟩ ?_) ?_)))
 ·exact⟨Z7,Z4,Fh,Tv⟩
 intro⟨⟨k,O⟩,k1,k2⟩;have k1:k≤(B7 t).length:=k1;have k2:O=Mi l m ((B7 t).take k):=k2;have k3:O.length≤k:=by rw[k2];exact AU (List.length_filterMap_le ..) (by rw[AJ];omega)
 refine Xi ⟨[(6,.mref 12000),(8,.mref 12500),(13,.v (.func (.func 103) #[] #[])),(14,.slice (.id 14 3) (O.map EK)),(52,.msl 15200 (B7 t).length),(53,vi (B7 t).length),(54,vi k)],[(14,.tok 3 O.length),(12000,.rom C3 (Jr l)),(12500,.rom C3 (Jr m)),(15200,.arr 1 ((B7 t).map DM))],Ab⟩ (Yi ⟨Z7,Z4,Fh,Tv⟩ ?_)
 refine Yi (fun SG=>?_) (fun SG=>?_)
 ·have SG:(k:Int)<((B7 t).length:Int):=SG;have nb:k<(B7 t).length:=by omega
  have n10:=nb;have gb:(B7 t)[k]?=some (B7 t)[k]:=Ge nb;refine Xi ⟨[(6,.mref 12000),(8,.mref 12500),(13,.v (.func (.func 103) #[] #[])),(14,.slice (.id 14 3) (O.map EK)),(52,.msl 15200 (B7 t).length),(53,vi (B7 t).length),(54,vi k)],[(14,.tok 3 O.length),(12000,.rom C3 (Jr l)),(12500,.rom C3 (Jr m)),(15200,.arr 1 ((B7 t).map DM))],Ab⟩ (Yi ⟨Z7,Z4,Fh,Tv⟩ ?_)
  refine Yi (by show(0:Int)≤k∧(k:Int)<((B7 t).length:Nat);omega) ?_;refine Yi (show(B7 t).length=((B7 t).map DM).length by rw[Lm]) (Xi (DM ((B7 t)[k])) (Yi (Ch gb) ?_));refine Xi ⟨[(6,.mref 12000),(8,.mref 12500),(13,.v (.func (.func 103) #[] #[])),(14,.slice (.id 14 3) (O.map EK)),(16,vs ((B7 t)[k])),(52,.msl 15200 (B7 t).length),(53,vi (B7 t).length),(54,vi k)],[(14,.tok 3 O.length),(12000,.rom C3 (Jr l)),(12500,.rom C3 (Jr m)),(15200,.arr 1 ((B7 t).map DM))],Ab⟩ (Yi ⟨Z8,Z4,Fh,Tv⟩ ?_)
  refine Xi .pure (Xi _ (Yi (rm l (B7 t)[k] hl) ?_));refine Xi .pure (Xi _ (Yi (rm m (B7 t)[k] hm) ?_));refine Yi (Nz rfl) ?_;refine Xi ⟨[(6,.mref 12000),(8,.mref 12500),(13,.v (.func (.func 103) #[] #[])),(14,.slice (.id 14 3) (O.map EK)),(17,.ref 17 0),(52,.msl 15200 (B7 t).length),(53,vi (B7 t).length),(54,vi k)],[(14,.tok 3 O.length),(17,.cells [vs ((B7 t)[k]),vi (Pv l (B7 t)[k]),vi (Pv m (B7 t)[k])]),(12000,.rom C3 (Jr l)),(12500,.rom C3 (Jr m)),(15200,.arr 1 ((B7 t).map DM))],Ab⟩ (Yi ⟨Z8,Z5,Fh,Tv⟩ ?_)
  refine Yi (fun Hu=>?_) (fun Hu=>?_)
  ·have Hu:((Pv l (B7 t)[k]):Int)≠((Pv m (B7 t)[k]):Int):=Hu;refine Xi ⟨[(6,.mref 12000),(8,.mref 12500),(13,.v (.func (.func 103) #[] #[])),(14,.slice (.id 14 3) (O.map EK)),(17,.ref 17 0),(52,.msl 15200 (B7 t).length),(53,vi (B7 t).length),(54,vi k)],[(14,.tok 3 O.length),(17,.cells [vs ((B7 t)[k]),vi (Pv l (B7 t)[k]),vi (Pv m (B7 t)[k])]),(12000,.rom C3 (Jr l)),(12500,.rom C3 (Jr m)),(15200,.arr 1 ((B7 t).map DM))],Ab⟩ (Yi ⟨Z8,Z5,Fh,Tv⟩ ?_)
   refine Yi (Nz rfl) ?_;refine Yi (Pr rfl (by omega) (by decide)) ?_;refine Yi (Ii k (by omega)) ?_;have eO:=aK (l:=l) (m:=m) n10;have eM:Wq l m (B7 t)[k]=some ⟨(B7 t)[k],(Pv l (B7 t)[k]),(Pv m (B7 t)[k])⟩:=Aw Hu;rw[eM]at eO;refine Xi ⟨(k+1,(O++[(⟨(B7 t)[k],(Pv l (B7 t)[k]),(Pv m (B7 t)[k])⟩:Mv)])),n10,by show(O++[(⟨(B7 t)[k],(Pv l (B7 t)[k]),(Pv m (B7 t)[k])⟩:Mv)])=_;rw[eO,k2];rfl⟩ ?_;exact⟨by show(B7 t).length-(k+1)<(B7 t).length-k;omega,⟨Zr,Zr,Zr,⟨(show AV.slice (.id 14 3) (O.map EK++[[vs (B7 t)[k],vi (Pv l (B7 t)[k]),vi (Pv m (B7 t)[k])]])=.slice (.id 14 3) ((O++[(⟨(B7 t)[k],(Pv l (B7 t)[k]),(Pv m (B7 t)[k])⟩:Mv)]).map EK) by rw[AH];rfl),rfl⟩,Zr,Zr,Zr,Tv⟩,⟨⟨Uk,rfl⟩,Zr,Zr,Zr,Tv⟩,Fh,Tv⟩
  have Hu:((Pv l (B7 t)[k]):Int)=((Pv m (B7 t)[k]):Int):=Bn Hu;refine Yi (Ii k (by omega)) ?_;have eO:=aK (l:=l) (m:=m) n10;have eM:Wq l m (B7 t)[k]=none:=Ah (fun c=>c Hu);rw[eM]at eO;rw[show(none:Option Mv).toList=[]from rfl,B1]at eO;refine Xi ⟨(k+1,O),n10,by show O=_;rw[eO,k2]⟩ ?_;exact⟨by show(B7 t).length-(k+1)<(B7 t).length-k;omega,Z7,Z4,Fh,Tv⟩
 have SG:¬((k:Int)<((B7 t).length:Int)):=SG;refine Xi ⟨[(14,.slice (.id 14 3) (O.map EK))],[(14,.tok 3 O.length)],Ab⟩ (Yi ⟨Z1,Z1,Fh,Tv⟩ ?_)
 have ek:(B7 t).take k=B7 t:=AT (by omega);have eO:O=Mi l m (B7 t):=by rw[k2,ek]
 exact .of_eq (Ac (fun z=>AV.tup [sl EK z,vi 0]) eO)
def D3(w:Wk):Bool:=w.exc.all (fun s=>decide (s.path.size≤100))&&w.pin.all (fun s=>decide (s.path.size≤100))&&(DV w.rep 8&&decide (w.exc.length≤12)&&decide (w.pin.length≤8))
theorem dZ{l:List Sl}{i:Nat}(h:i<l.length)(hb:¬(l[i].path.size:Int)≤100):(l.all fun s=>decide (s.path.size≤100))=false:=by
 rw[List.all_eq_false];exact⟨l[i],Ap h,by simp;omega⟩
theorem LT{l:List Sl}(h:∀j (hj:j<l.length),(l[j].path.size:Int)≤100):(l.all fun s=>decide (s.path.size≤100))=true:=by
 rw[Br];intro s hs;obtain⟨j,hj,rfl⟩:=Dy.1 hs
 have:=h j hj
 simp;omega
structure LP(w:Wk):Prop where
 rep:w.rep.length≤1048576
 exc:w.exc.length≤1048576
 pin:w.pin.length≤1048576
 rl:∀r∈w.rep,Cm r.reqs∧IR r
 excs:∀s∈w.exc,Gk s.path
 pins:∀s∈w.pin,Gk s.path
theorem LP.few{w:Wk}(h:LP w):bv w:=⟨fun r hr=>(h.rl r hr).2,AU h.rep (by decide),AU h.exc (by decide),AU h.pin (by decide),h.excs,h.pins⟩
theorem LP.qs{w:Wk}(h:LP w):RL w.rep:=fun r hr=>⟨(h.rl r hr).1,fun q hq=>((h.rl r hr).2.2 q hq).1⟩
theorem LP.rq{w:Wk}(h:LP w):∀r∈w.rep,Cm r.reqs:=fun r hr=>(h.rl r hr).1
theorem ye(w:Wk)(hW:LP w):PC 16 [.agg (BK w)] (vb (D3 w)):=by
 have sn:w.exc.length≤1048576:=hW.exc;have hW2:w.pin.length≤1048576:=hW.pin;refine Ps ⟨[1],[],[],[],[],[],[],[],[],[],[3,5,8,10]⟩ Tryz.func16 rfl (Nz rfl) ?_;refine Xi {q:Nat // q≤w.exc.length∧∀j (hj:j<w.exc.length),j<q→(w.exc[j].path.size:Int)≤100} (Xi (fun q=>⟨[(1,.ref 1 0),(3,vi q.1)],[(1,.ro (BK w))],Ab⟩) (Xi (fun q=>w.exc.length-q.1) (Yi (Xi ⟨0,AO _,fun _ _ h=>absurd h (Dt _)⟩ ?_) ?_)))
 ·exact⟨Z2,Z1,Fh,Tv⟩
 intro⟨i,i1,i2⟩;have i1:i≤w.exc.length:=i1;have i2:∀j (hj:j<w.exc.length),j<i→(w.exc[j].path.size:Int)≤100:=i2;refine Yi (fun h1=>?_) (fun h1=>?_)
 ·have h1:(i:Int)<((w.exc.map Af).length:Int):=h1;have n1:=Ld h1;refine Xi (Af w.exc[i]) (Yi (Pu n1) (Yi rfl ?_));refine Yi (fun h2=>?_) (fun h2=>?_)
  ·have h2:(100:Int)<(w.exc[i].path.size:Int):=h2;refine Xi ⟨[],[],Ab⟩ (Yi ⟨Tv,Tv,Fh,Tv⟩ ?_)
   exact .of_eq (show vb false=vb (D3 w) by unfold D3;rw[dZ (l:=w.exc) n1 (T6.2 h2),Bool.false_and,Bool.false_and])
  have h2:¬((100:Int)<(w.exc[i].path.size:Int)):=h2;refine Xi ⟨[(1,.ref 1 0),(3,vi i)],[(1,.ro (BK w))],Ab⟩ (Yi ⟨Z2,Z1,Fh,Tv⟩ ?_)
  refine Yi (Ii i (by omega)) ?_;refine Xi ⟨i+1,n1,fun j hj HZ=>if e:j<i then i2 j hj e else by
    have e:j=i:=by omega
    subst e;exact Int.not_lt.1 h2⟩ ?_
  exact⟨Dl w.exc.length i (by omega),Z2,Z1,Fh,Tv⟩
 have h1:¬((i:Int)<((w.exc.map Af).length:Int)):=h1;have n1:=Lc h1;refine Xi {q:Nat // q≤w.pin.length∧∀j (hj:j<w.pin.length),j<q→(w.pin[j].path.size:Int)≤100} (Xi (fun q=>⟨[(1,.ref 1 0),(4,vi q.1)],[(1,.ro (BK w))],Ab⟩) (Xi (fun q=>w.pin.length-q.1) (Yi (Xi ⟨0,AO _,fun _ _ h=>absurd h (Dt _)⟩ ?_) ?_)))
 ·exact⟨Z2,Z1,Fh,Tv⟩
 intro⟨k,k1,k2⟩;have k1:k≤w.pin.length:=k1;have k2:∀j (hj:j<w.pin.length),j<k→(w.pin[j].path.size:Int)≤100:=k2;refine Yi (fun h5=>?_) (fun h5=>?_)
 ·have h5:(k:Int)<((w.pin.map Af).length:Int):=h5;have n5:=Ld h5;refine Xi (Af w.pin[k]) (Yi (Pu n5) (Yi rfl ?_));refine Yi (fun h6=>?_) (fun h6=>?_)
  ·have h6:(100:Int)<(w.pin[k].path.size:Int):=h6;refine Xi ⟨[],[],Ab⟩ (Yi ⟨Tv,Tv,Fh,Tv⟩ ?_)
   exact .of_eq (show vb false=vb (D3 w) by unfold D3;rw[dZ (l:=w.pin) n5 (T6.2 h6),DH,Bool.false_and])
  have h6:¬((100:Int)<(w.pin[k].path.size:Int)):=h6;refine Xi ⟨[(1,.ref 1 0),(4,vi k)],[(1,.ro (BK w))],Ab⟩ (Yi ⟨Z2,Z1,Fh,Tv⟩ ?_)
  refine Yi (Ii k (by omega)) ?_;refine Xi ⟨k+1,n5,fun j hj HZ=>if e:j<k then k2 j hj e else by
    have e:j=k:=by omega
    subst e;exact Int.not_lt.1 h6⟩ ?_
  exact⟨Dl w.pin.length k (by omega),Z2,Z1,Fh,Tv⟩
 have h5:¬((k:Int)<((w.pin.map Af).length:Int)):=h5;have n5:=Lc h5;refine BU (Bt (DV w.rep 8)) (fun h9=>?_) (fun h9=>?_)
 ·have h9:(DV w.rep 8)=true:=h9;refine Xi .pure (Xi _ (Yi (cb h9 (t7 w.rep 8 (AU hW.rep (by decide)) hW.rq)) ?_));refine Yi (fun SG=>?_) (fun SG=>?_)
  ·have SG:((w.exc.map Af).length:Int)≤(12:Int):=SG;refine Yi (fun Hu=>?_) (fun Hu=>?_)
   ·have Hu:((w.pin.map Af).length:Int)≤(8:Int):=Hu;have e1:=LT fun j hj=>i2 j hj (by have q:=h1;rw[Lm]at q;omega);have e2:=LT fun j hj=>k2 j hj (by have q:=h5;rw[Lm]at q;omega);exact .of_eq (show vb true=vb (D3 w) by unfold D3;rw[e1,e2,h9,Ax (by have q:=SG;rw[Lm]at q;omega),Ax (by have q:=Hu;rw[Lm]at q;omega)];rfl)
   have Hu:¬(((w.pin.map Af).length:Int)≤(8:Int)):=Hu;have e1:=LT fun j hj=>i2 j hj (by have q:=h1;rw[Lm]at q;omega);have e2:=LT fun j hj=>k2 j hj (by have q:=h5;rw[Lm]at q;omega);exact .of_eq (show vb false=vb (D3 w) by unfold D3;rw[e1,e2,h9,Ax (by have q:=SG;rw[Lm]at q;omega),Ar (by have q:=Hu;rw[Lm]at q;omega)];simp)
  have SG:¬(((w.exc.map Af).length:Int)≤(12:Int)):=SG;have e1:=LT fun j hj=>i2 j hj (by have q:=h1;rw[Lm]at q;omega);have e2:=LT fun j hj=>k2 j hj (by have q:=h5;rw[Lm]at q;omega);exact .of_eq (show vb false=vb (D3 w) by unfold D3;rw[e1,e2,h9,Ar (by have q:=SG;rw[Lm]at q;omega)];simp)
 have h9:(DV w.rep 8)=false:=h9;refine Xi .pure (Xi _ (Yi (cb h9 (t7 w.rep 8 (AU hW.rep (by decide)) hW.rq)) ?_));have e1:=LT fun j hj=>i2 j hj (by have q:=h1;rw[Lm]at q;omega);have e2:=LT fun j hj=>k2 j hj (by have q:=h5;rw[Lm]at q;omega);exact .of_eq (show vb false=vb (D3 w) by unfold D3;rw[e1,e2,h9];simp)
theorem pg(x:List Rl)(ifs:List (List AV))(w:Wk)(hL:dW x [])(hW:LP w):PC 10 [I2 x ifs,.agg (BK w)] (vb (DV x 16&&D3 w)):=by
 have xk:PC 36 [I2 x ifs,.v (.slice none 0 0)] (vb (DV x 16)):=by
  have q:=(hL.c11 ifs).args (args':=[I2 x ifs,.v (.slice none 0 0)]) ⟨.refl _,.nil,trivial⟩;rw[show GT []=true from rfl,Bool.and_true]at q;exact q
 refine Ps ⟨[2,3],[],[],[],[],[],[],[],[],[],[]⟩ Tryz.func10 rfl (Nz rfl) ?_;refine Yi (Nz rfl) ?_;refine BU (Bt (DV x 16)) (fun h1=>?_) (fun h1=>?_)
 ·have h1:(DV x 16)=true:=h1;refine Xi .pure (Xi _ (Yi (cb h1 xk) ?_));refine Yi (Nz rfl) ?_;refine BU (Bt (D3 w)) (fun h2=>?_) (fun h2=>?_)
  ·have h2:(D3 w)=true:=h2;refine Xi .pure (Xi _ (Yi (cb h2 (ye w hW)) ?_));exact .of_eq (show vb true=vb (DV x 16&&D3 w) by rw[h1,h2];rfl)
  have h2:(D3 w)=false:=h2;refine Xi .pure (Xi _ (Yi (cb h2 (ye w hW)) ?_));exact .of_eq (show vb false=vb (DV x 16&&D3 w) by rw[h1,h2];rfl)
 have h1:(DV x 16)=false:=h1;refine Xi .pure (Xi _ (Yi (cb h1 xk) ?_));exact .of_eq (show vb false=vb (DV x 16&&D3 w) by rw[h1];rfl)
theorem o34(x y:List Rl)(ifs sL:List (List AV))(roots:List Rq)(w:Wk)(a b:List Sl)(ms:List Mv)(Hu:PC 11 [I2 x ifs,.agg (BK w)] (.tup [I2 y sL,vi 0]))(h1:PC 30 [I2 x ifs,sl AM roots] (.tup [sl Af a,vi 0]))(h2:PC 30 [I2 y sL,sl AM roots] (.tup [sl Af b,vi 0]))(se:PC 75 [sl Af a,sl Af b] (.tup [sl EK ms,vi 0])):PC 34 [I2 x ifs,sl AM roots,.agg (BK w)] (.tup [sl EK ms,vi 0]):=by
 refine Ps ⟨[3,5,8],[],[],[],[],[],[],[],[],[],[2,5,8]⟩ Tryz.func34 rfl (Nz rfl) ?_;refine Yi (Nz rfl) ?_;refine Yi (Nz rfl) ?_;refine Xi .pure (Xi _ (Yi Hu ?_));refine Yi (Nz rfl) ?_;refine Xi ⟨[(1,sl AM roots),(3,.ref 3 0),(8,.ref 8 0),(9,vi 0)],[(3,.ro (Ic x ifs)),(8,.ro [sl Al y,.slice .none sL])],Ab⟩ (Yi ⟨Z4,Z2,Fh,Tv⟩ ?_)
 refine Yi (fun h=>absurd h (by decide)) (fun _=>?_);refine Yi (Nz rfl) ?_;refine Xi .pure (Xi _ (Yi h1 ?_));refine Xi ⟨[(1,sl AM roots),(8,.ref 8 0),(9,vi 0),(10,sl Af a)],[(8,.ro [sl Al y,.slice .none sL])],Ab⟩ (Yi ⟨Z4,Z1,Fh,Tv⟩ ?_)
 refine Yi (fun h=>absurd h (by decide)) (fun _=>?_);refine Yi (Nz rfl) ?_;refine Xi .pure (Xi _ (Yi h2 ?_));refine Xi ⟨[(9,vi 0),(10,sl Af a),(11,sl Af b)],[],Ab⟩ (Yi ⟨Z3,Tv,Fh,Tv⟩ ?_)
 refine Yi (fun h=>absurd h (by decide)) (fun _=>?_);refine Xi .pure (Xi _ (Yi se ?_));exact .refl _
end Go.Eng
