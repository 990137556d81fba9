/- Lemmas for the claims of this seat, without a condition: part 27 (O9, O10, R14, R15, R16, R17, R18, R19, R20, R21, R22, R23, O11, O12, O13, O14). -/
import Derived.Test.YtmcbkdbfaneofaaGreatDoorBA26
import Derived.Test.YtmcbkdbfaneofaaGreatDoorBA03
set_option maxHeartbeats 4000000
namespace Go.Eng
structure OC{α β:Type}(c:α→α→Int)(R:α→α→Prop)(key:α→β):Prop where
 lt:∀a b,c a b<0↔R a b
 eq:∀a b,c a b=0↔key a=key b
 tr:∀a b d,R a b→R b d→R a d
 irr:∀a b,key a=key b→¬R a b
 tri:∀a b,¬R a b→key a≠key b→R b a
 cl:∀a b d,key a=key b→R a d→R b d
section
variable {α β:Type}{c:α→α→Int}{R:α→α→Prop}{key:α→β}
theorem OC.gt(h:OC c R key){a b:α}(h1:¬c a b<0)(h2:¬c a b=0):R b a:=h.tri a b (fun q=>h1 ((h.lt a b).2 q)) (fun q=>h2 ((h.eq a b).2 q))
theorem IA(h:OC c R key):∀(n:Nat) (a b:List α),a.length+b.length≤n→a.Pairwise R→b.Pairwise R→(Db c n a b).Pairwise R
 |0,_,_,_,_,_=>.nil
 |n+1,a,b,hn,ha,hb=>by
  cases a with
  |nil =>
   cases b with
   |nil=>exact .nil
   |cons y b =>
    simp only[Av,AE]at hn;obtain⟨h1,h2⟩:=CD.1 hb;show(y::Db c n [] b).Pairwise R;refine .cons (fun z hz=>?_) (IA h n [] b (by simp only[AE];omega) ha h2);rcases E9 n [] b z hz with hz | hz
    ·cases hz
    ·exact h1 z hz
  |cons x a =>
   obtain⟨g1,g2⟩:=CD.1 ha;cases b with
   |nil =>
    simp only[Av,AE]at hn;show(x::Db c n a []).Pairwise R;refine .cons (fun z hz=>?_) (IA h n a [] (by simp only[AE];omega) g2 hb);rcases E9 n a [] z hz with hz | hz
    ·exact g1 z hz
    ·cases hz
   |cons y b =>
    obtain⟨h1,h2⟩:=CD.1 hb;simp only[Av]at hn;show(if c x y<0 then x::Db c n a (y::b)else if c x y=0 then y::Db c n a b else y::Db c n (x::a) b).Pairwise R;split
    ·rename_i e;have e:=(h.lt x y).1 e;refine .cons (fun z hz=>?_) (IA h n a (y::b) (by simp only[Av];omega) g2 hb);rcases E9 n a (y::b) z hz with hz | hz
     ·exact g1 z hz
     ·rcases AC.1 hz with rfl | hz
      ·exact e
      ·exact h.tr _ _ _ e (h1 z hz)
    ·split
     ·rename_i e;have e:=(h.eq x y).1 e;refine .cons (fun z hz=>?_) (IA h n a b (by omega) g2 h2);rcases E9 n a b z hz with hz | hz
      ·exact h.cl x y z e (g1 z hz)
      ·exact h1 z hz
     ·rename_i e1 e2;have e:=h.gt e1 e2;refine .cons (fun z hz=>?_) (IA h n (x::a) b (by simp only[Av];omega) ha h2);rcases E9 n (x::a) b z hz with hz | hz
      ·rcases AC.1 hz with rfl | hz
       ·exact e
       ·exact h.tr _ _ _ e (g1 z hz)
      ·exact h1 z hz
theorem ah(h:OC c R key){a b:List α}(ha:a.Pairwise R)(hb:b.Pairwise R):(A4 c a b).Pairwise R:=IA h _ a b (Am _) ha hb
theorem QD(h:OC c R key){a:List α}(ha:a.Pairwise R):(a.map key).Nodup:=by
 unfold List.Nodup;rw[List.pairwise_map];exact ha.imp fun q e=>h.irr _ _ e q
end
/-! The three comparisons. -/
def qB(a b:Sl):Prop:=EJ a.path b.path=true∨(a.path=b.path∧iF a.ver b.ver)
abbrev qA(a b:Sl):Prop:=EJ a.path b.path=true
theorem Tb{a b:Int}:E8 a b<0↔a<b:=by
 unfold E8;split
 ·rename_i h;simp[h]
 ·rename_i h;split<;>simp[h]
theorem GD{a b:Int}:E8 a b=0↔a=b:=by
 unfold E8;split
 ·rename_i h;simp;omega
 ·rename_i h;split
  ·rename_i h2;simp;omega
  ·rename_i h2;simp;omega
theorem fZ{a b:Ver}:GY a b<0↔iF a b:=by
 refine⟨aW,fun h=>?_⟩;unfold GY;rcases h with h | ⟨h1,h | ⟨h2,h⟩⟩
 ·rw[Au (fun c=>by have:=GD.1 c;omega)];exact Tb.2 h
 ·rw[Al (fun c=>c (GD.2 h1)),Au (fun c=>by have:=GD.1 c;omega)];exact Tb.2 h
 ·rw[Al (fun c=>c (GD.2 h1)),Al (fun c=>c (GD.2 h2))];exact Tb.2 h
theorem ZC{a b:Ver}:GY a b=0↔a=b:=by
 refine⟨Vr,fun h=>?_⟩;subst h;unfold GY;rw[Al (fun c=>c (GD.2 rfl)),Al (fun c=>c (GD.2 rfl))];exact GD.2 rfl
theorem fU{a b:Sl}:Gn a b<0↔qB a b:=by
 unfold Gn qB
 by_cases h:a.path=b.path
 ·rw[Al (fun c=>c (GC.2 h)),fZ];exact⟨fun q=>.inr ⟨h,q⟩,fun q=>q.elim (fun q=>by rw[h,Dk]at q;cases q) (·.2)⟩
 ·rw[Au (fun c=>h (GC.1 c)),Mj];exact⟨.inl,fun q=>q.elim id fun q=>absurd q.1 h⟩
theorem N7{a b:Sl}:Gn a b=0↔a=b:=by
 unfold Gn
 by_cases h:a.path=b.path
 ·rw[Al (fun c=>c (GC.2 h)),ZC];constructor
  ·intro q;cases a;cases b;simp_all
  ·rintro rfl;rfl
 ·rw[Au (fun c=>h (GC.1 c))];exact⟨fun q=>absurd (GC.1 q) h,fun q=>absurd (Aa Sl.path q) h⟩
theorem lV{a b:Sl}(h:¬qB a b)(hk:a≠b):qB b a:=by
 unfold qB at *
 by_cases e:a.path=b.path
 ·refine .inr ⟨e.symm,?_⟩;have h2:¬iF a.ver b.ver:=fun q=>h (.inr ⟨e,q⟩);have h3:a.ver≠b.ver:=fun q=>hk (by cases a;cases b;simp_all);unfold iF at *
  by_cases q1:a.ver.a=b.ver.a
  ·by_cases q2:a.ver.b=b.ver.b
   ·by_cases q3:a.ver.c=b.ver.c
    ·exact absurd (by cases ha:a.ver;cases hb:b.ver;simp_all) h3
    ·omega
   ·omega
  ·omega
 ·cases q:EJ b.path a.path with
  |true=>exact .inl rfl
  |false =>
   cases p:EJ a.path b.path with
   |true=>exact absurd (.inl p) h
   |false=>exact absurd (HP p q) e
theorem ocR:OC Ca af DR where
 lt a b:=fU (a:=DR a) (b:=DR b)
 eq a b:=N7 (a:=DR a) (b:=DR b)
 tr _ _ _:=VO
 irr _ _ e h:=LC h e
 tri a b h e:=lV (a:=DR a) (b:=DR b) h e
 cl a b d e h:=show qB (DR b) (DR d)from(show DR a=DR b from e)▸h
theorem xT:OC Lo qA (fun s:Sl=>s.path) where
 lt _ _:=Mj
 eq _ _:=GC
 tr _ _ _:=EK
 irr a b e h:=by rw[qA,e,Dk]at h;cases h
 tri a b h e:=by
  cases q:EJ b.path a.path with
  |true=>exact q
  |false =>
   cases p:EJ a.path b.path with
   |true=>exact absurd p h
   |false=>exact absurd (HP p q) e
 cl a b d e h:=by rw[qA,←e];exact h
/-! Pins. -/
def IY(pins:List Sl)(r:Rl):Option Rl :=
 match Nx pins r.path with
 |none=>some r
 |some p=>if p=DR r then some { r with yanked:=false }else none
def j9(s:Sl)(r:Rl):Rl:=if DR r=s then { r with yanked:=false }else r
theorem j7{s:Sl}:∀{B:List Rl} {i:Nat} (hi:i<B.length),DR B[i]=s→(B.map DR).Nodup→PW B i=B.map (j9 s):=by
 intro B i hi hs hn;rw[cc (Ge hi)];refine List.ext_getElem (by simp) fun j h1 h2=>?_;rw[List.getElem_set,G4];have hj:j<B.length:=by simpa using h1
 by_cases e:i=j
 ·subst e;rw[Au rfl];unfold j9;rw[Au hs]
 ·rw[Al e];unfold j9;rw[Al];intro q
  have:=(Be.1 hn)
  rcases Nat.lt_or_gt_of_ne e with z | z
  ·exact this i j (by simpa using hi) (by simpa using hj) z (by rw[G4,G4,hs,q])
  ·exact this j i (by simpa using hj) (by simpa using hi) z (by rw[G4,G4,hs,q])
theorem Kp{α β:Type}{q:α→Bool}{f:α→β}{g:α→Option β}(h:∀x,(if q x=true then some (f x)else none)=g x):∀l:List α,(l.filter q).map f=l.filterMap g
 | []=>rfl
 |x::l=>by
  rw[List.filterMap_cons,←h x,D8];cases e:q x with
  |true=>simp only[Og,AQ,Kp h l]
  |false=>simp only[Df,Gd,Kp h l]
theorem jq(s:Sl)(r:Rl):(if(!DZ s r)=true then some (j9 s r)else none)=IY [s] r:=by
 unfold DZ j9 IY Nx
 by_cases h:r.path=s.path
 ·have h' : s.path=r.path:=h.symm
  by_cases e:DR r=s
  ·subst e;simp
  ·have e' : ¬s=DR r:=fun q=>e q.symm;simp[h,e,e']
 ·have e:¬DR r=s:=fun q=>h (by rw[←q]);have h' : ¬s.path=r.path:=fun q=>h q.symm;simp[h,h',e]
theorem d5{s:Sl}{l:List Sl}(hs:∀t∈l,t.path≠s.path)(r:Rl):(IY [s] r).bind (IY l)=IY (s::l) r:=by
 unfold IY Nx
 by_cases h:s.path=r.path
 ·by_cases e:s=DR r
  ·subst e;have Od:l.find? (fun y=>decide (y.path=r.path))=none:=by
    rw[D2];intro y hy;simpa using hs y hy
   simp[Od]
  ·simp[h,e]
 ·simp[h]
theorem jo{B:List Rl}{s:Sl}(hB:(B.map DR).Nodup):LX B s=if s∈B.map DR then some (B.filterMap (IY [s]))else none:=by
 have hK:((kept (DZ s) B).map DR).Nodup:=List.Sublist.nodup (List.Sublist.map _ List.filter_sublist) hB;have gX:∀r,DR r=s→DZ s r=false:=fun r e=>by unfold DZ;simp[e]
 unfold LX;rcases Ly (fun r=>decide (DR r=s)) (kept (DZ s) B)with ⟨e,Od⟩ | ⟨i,hi,e,hp,_⟩
 ·have e2:Mb s (kept (DZ s) B)<0:=by unfold Mb;rw[e];decide
  rw[Au e2,Al];intro hm;obtain⟨r,hr,rs⟩:=Ao.1 hm;have nl:r∈kept (DZ s) B:=Bu.2 ⟨hr,by rw[gX r rs];rfl⟩;obtain⟨j,hj,ej⟩:=Ce.1 nl
  have:=Od j hj
  rw[ej,At rs]at this;cases this
 ·have e2:Mb s (kept (DZ s) B)=(i:Int):=e;have hp:DR (kept (DZ s) B)[i]=s:=BC hp;rw[Al (by rw[e2];omega),Au,e2,show((i:Nat):Int).toNat=i from rfl,j7 hi hp hK]
  ·exact Aa some (Kp (jq s) B)
  ·exact Ao.2 ⟨_,(Bu.1 (Ak hi)).1,hp⟩
theorem jp{pins:List Sl}{r r' : Rl}(h:IY pins r=some r'):DR r'=DR r:=by
 unfold IY at h;split at h
 ·cases h;rfl
 ·split at h
  ·cases h;rfl
  ·cases h
theorem I4{f:Rl→Option Rl}(hf:∀r r',f r=some r'→DR r'=DR r):∀B:List Rl,((B.filterMap f).map DR).Sublist (B.map DR)
 | []=>.slnil
 |r::B=>by
  rw[List.filterMap_cons,AQ];cases e:f r with
  |none=>exact .cons _ (I4 hf B)
  |some r'=>rw[AQ,hf r r' e];exact .cons_cons _ (I4 hf B)
theorem bL:∀{pins:List Sl} {B:List Rl},(pins.map (·.path)).Nodup→(B.map DR).Nodup→H5 pins B=if ∀s∈pins,s∈B.map DR then some (B.filterMap (IY pins))else none
 | [],B,_,_=>by
  rw[Au (fun s hs=>by cases hs)];show some B=some _;rw[show B.filterMap (IY [])=B from List.filterMap_some ..]
 |s::l,B,hn,hB=>by
  rw[AQ,CI]at hn;have hs:∀t∈l,t.path≠s.path:=fun t ht e=>hn.1 (e▸List.mem_map_of_mem ht);show(LX B s).bind (H5 l)=_;rw[jo hB]
  by_cases h:s∈B.map DR
  ·rw[Au h,SL];have TM:=I4 (fun r r' e=>jp (pins:=[s]) e) B;rw[bL hn.2 (TM.nodup hB),List.filterMap_filterMap];have e1:(fun x=>(IY [s] x).bind (IY l))=IY (s::l):=funext (d5 hs);rw[e1];have e2:(∀t∈l,t∈(B.filterMap (IY [s])).map DR)↔∀t∈s::l,t∈B.map DR:=by
    constructor
    ·intro q t ht;rcases AC.1 ht with rfl | ht
     ·exact h
     ·exact TM.subset (q t ht)
    ·intro q t ht;obtain⟨r,hr,e⟩:=Ao.1 (q t (Ah _ ht));refine Ao.2 ⟨r,List.mem_filterMap.2 ⟨r,hr,?_⟩,e⟩;unfold IY Nx
     have:¬s.path=r.path:=fun p=>hs t ht (by rw[←e];exact p.symm)
     simp[this]
   by_cases q:∀t∈l,t∈(B.filterMap (IY [s])).map DR
   ·rw[Au q,Au (e2.1 q)]
   ·rw[Al q,Al (fun p=>q (e2.2 p))]
  ·rw[Al h,Al (fun q=>h (q s (Ac ..)))];rfl
def TH(pins:List Sl)(r:Rl):Bool:=decide (Nx pins r.path=some (DR r))
theorem aq{α β:Type}{f:α→β}{l:List α}(h:(l.map f).Nodup):l.Nodup:=by
 unfold List.Nodup at *
 rw[List.pairwise_map]at h;exact h.imp fun q e=>q (Aa f e)
theorem jr{pins:List Sl}{p:ByteArray}{s:Sl}(h:Nx pins p=some s):s∈pins∧s.path=p:=by
 unfold Nx at h;exact⟨Cu h,by simpa using E0 h⟩
theorem d7{pins:List Sl}(hn:(pins.map (·.path)).Nodup){s:Sl}(hs:s∈pins):Nx pins s.path=some s:=Ls hn hs
theorem ga{pins:List Sl}{B:List Rl}(hn:(pins.map (·.path)).Nodup)(hB:(B.map DR).Nodup):(B.filter (TH pins)).length=pins.length↔∀s∈pins,s∈B.map DR:=by
 have hL:((B.filter (TH pins)).map DR).Nodup:=List.Sublist.nodup (List.Sublist.map _ List.filter_sublist) hB;have TM:∀s∈(B.filter (TH pins)).map DR,s∈pins:=fun s hs=>by
  obtain⟨r,hr,rfl⟩:=Ao.1 hs;exact(jr (BC (Bu.1 hr).2)).1
 have CF:=K4 hL TM;rw[Lm]at CF;constructor
 ·intro h s hs;apply A9;intro Od;have h2:=K4 (l:=s::(B.filter (TH pins)).map DR) (m:=pins) (CI.2 ⟨fun q=>Od (by
   obtain⟨r,hr,e⟩:=Ao.1 q;exact Ao.2 ⟨r,(Bu.1 hr).1,e⟩),hL⟩) (fun t ht=>by
    rcases AC.1 ht with rfl | ht
    ·exact hs
    ·exact TM t ht)
  rw[Av,Lm]at h2;omega
 ·intro h;have h2:=K4 (l:=pins) (m:=(B.filter (TH pins)).map DR) (aq hn) (fun s hs=>by
   obtain⟨r,hr,e⟩:=Ao.1 (h s hs);refine Ao.2 ⟨r,Bu.2 ⟨hr,At ?_⟩,e⟩;subst e;exact d7 hn hs)
  rw[Lm]at h2;omega
/-! What the reference makes of a list. -/
abbrev dQ(w:Wk)(l:List Rl):List Rl:=(kept (Ih w) l).filterMap (IY w.pin)
abbrev cJ(w:Wk)(l:List Rl):Nat:=((kept (Ih w) l).filter (TH w.pin)).length
theorem Jy{α:Type}{l:List α}{i:Nat}(h:i<l.length):l.take (i+1)=l.take i++[l[i]]:=KF h
theorem No{w:Wk}{l:List Rl}{i:Nat}(h:i<l.length):dQ w (l.take (i+1))=dQ w (l.take i)++(if Ih w l[i]=true then []else(IY w.pin l[i]).toList):=by
 unfold dQ kept;rw[Jy h,DA,List.filterMap_append]
 congr 1
 cases e:Ih w l[i]with
 |true=>simp[e]
 |false=>simp[e,List.filterMap_cons];cases IY w.pin l[i]<;>rfl
theorem M3{w:Wk}{l:List Rl}{i:Nat}(h:i<l.length):cJ w (l.take (i+1))=cJ w (l.take i)+(if Ih w l[i]=true then 0 else if TH w.pin l[i]=true then 1 else 0):=by
 unfold cJ kept;rw[Jy h,DA,DA,Ad]
 congr 1
 cases e:Ih w l[i]with
 |true=>simp[e]
 |false=>cases e2:TH w.pin l[i]<;>simp[e,e2]
theorem Rt{w:Wk}(h:Ct w=0):A6 w.rep=0∧Ha Gn w.exc=true∧Ha Lo w.pin=true∧∀s∈w.pin,s∉w.exc:=by
 unfold Ct at h;split at h
 ·cases h
 ·rename_i h1;split at h
  ·cases h
  ·rename_i h2;simp only[not_or,B1]at h1;refine⟨h1.1,by simpa using h1.2.1,by simpa using h1.2.2,fun s hs he=>h2 (A8.2 ⟨s,hs,At he⟩)⟩
theorem di{c:Sl→Sl→Int}{R:Sl→Sl→Prop}{β:Type}{key:Sl→β}(hc:OC c R key){l:List Sl}(h:Ha c l=true):l.Pairwise R:=by
 have h:=GH.1 h;rw[Be];have step:∀(d i:Nat) (h1:i+d+1<l.length),R (l[i]'(by omega)) l[i+d+1]:=by
  intro d
  induction d with
  |zero =>
   intro i h1
   have:=(h (i+1) h1).2 (by omega)
   exact(hc.lt _ _).1 this
  |succ d ih =>
   intro i h1
   have:=(h (i+(d+1)+1) h1).2 (by omega)
   have e:=(hc.lt _ _).1 this;exact hc.tr _ _ _ (ih i (by omega)) e
 intro i j hi hj VB
 have:=step (j-i-1) i (by omega)
 have e:i+(j-i-1)+1=j:=by omega
 simp only[e]at this;exact this
theorem U2{w:Wk}(h:Ct w=0):w.pin.Pairwise qA:=di xT (Rt h).2.2.1
theorem an{x:List Rl}{w:Wk}(hx:A6 x=0)(h:Ct w=0):(A4 Ca x w.rep).Pairwise af:=ah ocR (CO hx).2 (CO (Rt h).1).2
theorem Y2{x:List Rl}{w:Wk}(hx:A6 x=0)(h:Ct w=0){A:List Rl}(hA:A=A4 Ca x w.rep) :
  H5 w.pin (kept (Ih w) A)=if cJ w A=w.pin.length then some (dQ w A)else none:=by
 have hp:(w.pin.map (·.path)).Nodup:=QD xT (U2 h);have hB:((kept (Ih w) A).map DR).Nodup:=QD ocR (List.Pairwise.filter _ (by rw[hA];exact an hx h));rw[bL hp hB]
 by_cases q:∀s∈w.pin,s∈(kept (Ih w) A).map DR
 ·rw[Au q,Au ((ga hp hB).2 q)]
 ·rw[Al q,Al (fun c=>q ((ga hp hB).1 c))]
end Go.Eng
namespace Go.Eng
open Go.Proofs
theorem NR{a b:List Rl}{i k:Nat}(hi:i<a.length)(h:¬k<b.length∨HZ (DR a[i]) (DR (b.getD k ⟨mt,⟨0,0,0⟩,[],mt,mt,mt,false⟩))=true):A4 Ca (a.drop i) (b.drop k)=a[i]::A4 Ca (a.drop (i+1)) (b.drop k):=by
 have ha:0<(a.drop i).length:=by rw[Ar];omega
 have e0:(a.drop i)[0]=a[i]:=by rw[Gx];rfl
 have e1:(a.drop i).drop 1=a.drop (i+1):=Ds
 by_cases hk:k<b.length
 ·have hb:0<(b.drop k).length:=by rw[Ar];omega
  have hl:=h.resolve_left (fun c=>c hk);rw[BX,Ge hk]at hl;have e2:(b.drop k)[0]=b[k]:=by rw[Gx];rfl
  rw[Fa ha hb,Au (by rw[e0,e2];exact Nc.1 hl),e0,e1]
 ·have e:b.drop k=[]:=DJ (by omega);rw[e,ME ha,e0,e1]
theorem NS{a b:List Rl}{i k:Nat}(hk:k<b.length)(h:¬i<a.length∨(∃hi:i<a.length,HZ (DR a[i]) (DR b[k])=false∧DR a[i]≠DR b[k])):A4 Ca (a.drop i) (b.drop k)=b[k]::A4 Ca (a.drop i) (b.drop (k+1)):=by
 have hb:0<(b.drop k).length:=by rw[Ar];omega
 have e0:(b.drop k)[0]=b[k]:=by rw[Gx];rfl
 have e1:(b.drop k).drop 1=b.drop (k+1):=Ds;rcases h with h | ⟨hi,hl,hn⟩
 ·have e:a.drop i=[]:=DJ (by omega);rw[e,MF hb,e0,e1]
 ·have ha:0<(a.drop i).length:=by rw[Ar];omega
  have e2:(a.drop i)[0]=a[i]:=by rw[Gx];rfl
  have n1:¬Ca a[i] b[k]<0:=fun c=>by have:=Nc.2 (show Gn (DR a[i]) (DR b[k])<0 from c);rw[hl]at this;cases this
  have n2:¬Ca a[i] b[k]=0:=fun c=>hn (N7.1 c);rw[Fa ha hb,Al (by rw[e0,e2];exact n1),Al (by rw[e0,e2];exact n2),e0,e1]
theorem U0{a b:List Rl}{i k:Nat}(hi:i<a.length)(hk:k<b.length)(h:DR a[i]=DR b[k]):A4 Ca (a.drop i) (b.drop k)=b[k]::A4 Ca (a.drop (i+1)) (b.drop (k+1)):=by
 have hb:0<(b.drop k).length:=by rw[Ar];omega
 have e0:(b.drop k)[0]=b[k]:=by rw[Gx];rfl
 have e1:(b.drop k).drop 1=b.drop (k+1):=Ds;have ha:0<(a.drop i).length:=by rw[Ar];omega
 have e2:(a.drop i)[0]=a[i]:=by rw[Gx];rfl
 have e3:(a.drop i).drop 1=a.drop (i+1):=Ds;have z:Ca a[i] b[k]=0:=N7.2 (show DR a[i]=DR b[k]from h);rw[Fa ha hb,Al (by rw[e0,e2,z];decide),Au (by rw[e0,e2];exact z),e0,e1,e3]
theorem o48(a b:List Rl)(ha:Ci a)(hb:Ci b):PC 48 [sl Ag a,sl Ag b] (sl Ag (A4 Ca a b)):=by
 have ha:a.length≤1073741824:=ha;have hb:b.length≤1073741824:=hb;refine Ps ⟨[],[],[],[],[],[],[],[],[],[],[5,7,8,9]⟩ Tryz.func48 rfl (Nz rfl) ?_;refine Xi {q:Nat×Nat×List Rl // q.1≤a.length∧q.2.1≤b.length∧q.2.2++A4 Ca (a.drop q.1) (b.drop q.2.1)=A4 Ca a b∧q.2.2.length≤q.1+q.2.1} (Xi (fun q=>⟨[(0,sl Ag a),(1,sl Ag b),(5,.slice (.id 8 9) (q.1.2.2.map Ag)),(6,vi q.1.1),(7,vi q.1.2.1)],[(8,.tok 9 q.1.2.2.length)],Ab⟩) (Xi (fun q=>(a.length+b.length)-(q.1.1+q.1.2.1)) (Yi (Xi ⟨(0,0,[]),AF _,AF _,rfl,Am _⟩ ?_) ?_)))
 ·exact⟨Z5,Z1,Fh,Tv⟩
 intro⟨⟨i,k,O⟩,k1,k2,k3,k4⟩;have k1:i≤a.length:=k1;have k2:k≤b.length:=k2;have k3:O++A4 Ca (a.drop i) (b.drop k)=A4 Ca a b:=k3;have k4:O.length≤i+k:=k4;refine Yi (fun h1=>?_) (fun h1=>?_)
 ·have h1:(i:Int)<((a.map Ag).length:Int):=h1;have n1:=Iy h1;have hi:i<a.length:=by have q:=h1;rw[Lm]at q;omega
  refine Yi (fun h2=>?_) (fun h2=>?_)
  ·have h2:(k:Int)=((b.map Ag).length:Int):=h2;refine Yi (by kernel_rfl) ?_;refine Xi ⟨[(0,sl Ag a),(1,sl Ag b),(5,.slice (.id 8 9) (O.map Ag)),(6,vi i),(7,vi k)],[(8,.tok 9 O.length)],Ab⟩ (Yi ⟨Z5,Z1,Fh,Tv⟩ ?_)
   refine Xi (Ag a[i]) (Yi (J3 hi) (Yi rfl ?_));refine Yi (Nz rfl) ?_;refine Yi (Mg rfl (by omega) (by decide)) ?_;refine Yi (Ii i (by omega)) ?_;have eM:=NR (a:=a) (b:=b) (i:=i) (k:=k) hi (.inl (by have q:=h2;rw[Lm]at q;omega));refine Xi ⟨(i+1,k,(O++[a[i]])),by show i+1≤a.length;omega,by show k≤b.length;omega,by show(O++[a[i]])++_=_;rw[←k3,eM,AN];rfl,by show(O++[a[i]]).length≤i+1+(k);rw[Ad,Aq];omega⟩ ?_;exact⟨by show(a.length+b.length)-((i+1)+k)<(a.length+b.length)-(i+k);omega,⟨Zr,Zr,⟨RT,rfl⟩,Zr,Zr,Tv⟩,⟨⟨Qc,rfl⟩,Tv⟩,Fh,Tv⟩
  have h2:¬((k:Int)=((b.map Ag).length:Int)):=h2;have hk:k<b.length:=by have q:=h2;rw[Lm]at q;omega
  refine Yi (fun _=>?_) (fun hf=>absurd h1 hf);refine Xi (Ag a[i]) (Yi (J3 hi) (Yi rfl ?_));refine Yi (Nz rfl) ?_;refine Xi _ (Yi (qG a[i]) ?_);refine Xi (Ag b[k]) (Yi (J3 hk) (Yi rfl ?_));refine Yi (Nz rfl) ?_;refine Xi _ (Yi (qG b[k]) ?_);refine Bp (Bt (HZ (DR a[i]) (DR b[k]))) (fun h5=>?_) (fun h5=>?_)
  ·have h5:(HZ (DR a[i]) (DR b[k]))=true:=h5;refine Xi _ (Yi (cb h5 (uB (DR a[i]) (DR b[k]))) ?_);refine Yi (by kernel_rfl) ?_;refine Xi ⟨[(0,sl Ag a),(1,sl Ag b),(5,.slice (.id 8 9) (O.map Ag)),(6,vi i),(7,vi k)],[(8,.tok 9 O.length)],Ab⟩ (Yi ⟨Z5,Z1,Fh,Tv⟩ ?_)
   refine Xi (Ag a[i]) (Yi (J3 hi) (Yi rfl ?_));refine Yi (Nz rfl) ?_;refine Yi (Mg rfl (by omega) (by decide)) ?_;refine Yi (Ii i (by omega)) ?_;have eM:=NR (a:=a) (b:=b) (i:=i) (k:=k) hi (.inr (by rw[BX,Ge hk];exact h5));refine Xi ⟨(i+1,k,(O++[a[i]])),by show i+1≤a.length;omega,by show k≤b.length;omega,by show(O++[a[i]])++_=_;rw[←k3,eM,AN];rfl,by show(O++[a[i]]).length≤i+1+(k);rw[Ad,Aq];omega⟩ ?_;exact⟨by show(a.length+b.length)-((i+1)+k)<(a.length+b.length)-(i+k);omega,⟨Zr,Zr,⟨RT,rfl⟩,Zr,Zr,Tv⟩,⟨⟨Qc,rfl⟩,Tv⟩,Fh,Tv⟩
  have h5:(HZ (DR a[i]) (DR b[k]))=false:=h5;refine Xi _ (Yi (cb h5 (uB (DR a[i]) (DR b[k]))) ?_);refine Yi (by kernel_rfl) ?_;refine Xi ⟨[(0,sl Ag a),(1,sl Ag b),(5,.slice (.id 8 9) (O.map Ag)),(6,vi i),(7,vi k)],[(8,.tok 9 O.length)],Ab⟩ (Yi ⟨Z5,Z1,Fh,Tv⟩ ?_)
  refine Yi (fun _=>?_) (fun hf=>absurd h1 hf);refine Xi (Ag a[i]) (Yi (J3 hi) (Yi rfl ?_));refine Yi (Nz rfl) ?_;refine Xi _ (Yi (qG a[i]) ?_);refine Xi (Ag b[k]) (Yi (J3 hk) (Yi rfl ?_));refine Yi (Nz rfl) ?_;refine Xi _ (Yi (qG b[k]) ?_);refine Yi (fun h8=>?_) (fun h8=>?_)
  ·have h8:((DR a[i]).path:ByteArray)=(DR b[k]).path∧((DR a[i]).ver.a:Int)=(DR b[k]).ver.a∧((DR a[i]).ver.b:Int)=(DR b[k]).ver.b∧((DR a[i]).ver.c:Int)=(DR b[k]).ver.c∧True:=h8;refine Yi (by kernel_rfl) ?_;refine Xi ⟨[(0,sl Ag a),(1,sl Ag b),(5,.slice (.id 8 9) (O.map Ag)),(6,vi i),(7,vi k)],[(8,.tok 9 O.length)],Ab⟩ (Yi ⟨Z5,Z1,Fh,Tv⟩ ?_)
   refine Yi (Ii i (by omega)) ?_;refine Xi ⟨[(0,sl Ag a),(1,sl Ag b),(5,.slice (.id 8 9) (O.map Ag)),(6,vi (i+1)),(7,vi k)],[(8,.tok 9 O.length)],Ab⟩ (Yi ⟨Z5,Z1,Fh,Tv⟩ ?_)
   refine Xi (Ag b[k]) (Yi (J3 hk) (Yi rfl ?_));refine Yi (Nz rfl) ?_;refine Yi (Mg rfl (by omega) (by decide)) ?_;refine Yi (Ii k (by omega)) ?_;have eM:=U0 (a:=a) (b:=b) (i:=i) (k:=k) hi hk (MR.1 h8);refine Xi ⟨(i+1,k+1,(O++[b[k]])),by show i+1≤a.length;omega,by show k+1≤b.length;omega,by show(O++[b[k]])++_=_;rw[←k3,eM,AN];rfl,by show(O++[b[k]]).length≤i+1+(k+1);rw[Ad,Aq];omega⟩ ?_;exact⟨by show(a.length+b.length)-((i+1)+(k+1))<(a.length+b.length)-(i+k);omega,⟨Zr,Zr,⟨RT,rfl⟩,Zr,Zr,Tv⟩,⟨⟨Qc,rfl⟩,Tv⟩,Fh,Tv⟩
  have h8:¬(((DR a[i]).path:ByteArray)=(DR b[k]).path∧((DR a[i]).ver.a:Int)=(DR b[k]).ver.a∧((DR a[i]).ver.b:Int)=(DR b[k]).ver.b∧((DR a[i]).ver.c:Int)=(DR b[k]).ver.c∧True):=h8;refine Yi (by kernel_rfl) ?_;refine Xi ⟨[(0,sl Ag a),(1,sl Ag b),(5,.slice (.id 8 9) (O.map Ag)),(6,vi i),(7,vi k)],[(8,.tok 9 O.length)],Ab⟩ (Yi ⟨Z5,Z1,Fh,Tv⟩ ?_)
  refine Xi (Ag b[k]) (Yi (J3 hk) (Yi rfl ?_));refine Yi (Nz rfl) ?_;refine Yi (Mg rfl (by omega) (by decide)) ?_;refine Yi (Ii k (by omega)) ?_;have eM:=NS (a:=a) (b:=b) (i:=i) (k:=k) hk (.inr ⟨hi,h5,fun c=>h8 (MR.2 c)⟩);refine Xi ⟨(i,k+1,(O++[b[k]])),by show i≤a.length;omega,by show k+1≤b.length;omega,by show(O++[b[k]])++_=_;rw[←k3,eM,AN];rfl,by show(O++[b[k]]).length≤i+(k+1);rw[Ad,Aq];omega⟩ ?_;exact⟨by show(a.length+b.length)-(i+(k+1))<(a.length+b.length)-(i+k);omega,⟨Zr,Zr,⟨RT,rfl⟩,Zr,Zr,Tv⟩,⟨⟨Qc,rfl⟩,Tv⟩,Fh,Tv⟩
 have h1:¬((i:Int)<((a.map Ag).length:Int)):=h1;have n1:=Ix h1;refine Yi (fun Pt=>?_) (fun Pt=>?_)
 ·have Pt:(k:Int)<((b.map Ag).length:Int):=Pt;have n13:=Iy Pt;have hk:k<b.length:=by have q:=Pt;rw[Lm]at q;omega
  refine Yi (fun Ya=>?_) (fun Ya=>?_)
  ·have Ya:(k:Int)=((b.map Ag).length:Int):=Ya;exact absurd Ya (Int.ne_of_lt Pt)
  have Ya:¬((k:Int)=((b.map Ag).length:Int)):=Ya;have hk:k<b.length:=by have q:=Ya;rw[Lm]at q;omega
  refine Yi (fun hf=>absurd hf h1) (fun _=>?_);refine Yi (by kernel_rfl) ?_;refine Xi ⟨[(0,sl Ag a),(1,sl Ag b),(5,.slice (.id 8 9) (O.map Ag)),(6,vi i),(7,vi k)],[(8,.tok 9 O.length)],Ab⟩ (Yi ⟨Z5,Z1,Fh,Tv⟩ ?_)
  refine Yi (fun hf=>absurd hf h1) (fun _=>?_);refine Yi (by kernel_rfl) ?_;refine Xi ⟨[(0,sl Ag a),(1,sl Ag b),(5,.slice (.id 8 9) (O.map Ag)),(6,vi i),(7,vi k)],[(8,.tok 9 O.length)],Ab⟩ (Yi ⟨Z5,Z1,Fh,Tv⟩ ?_)
  refine Xi (Ag b[k]) (Yi (J3 hk) (Yi rfl ?_));refine Yi (Nz rfl) ?_;refine Yi (Mg rfl (by omega) (by decide)) ?_;refine Yi (Ii k (by omega)) ?_;have eM:=NS (a:=a) (b:=b) (i:=i) (k:=k) hk (.inl (by have q:=h1;rw[Lm]at q;omega));refine Xi ⟨(i,k+1,(O++[b[k]])),by show i≤a.length;omega,by show k+1≤b.length;omega,by show(O++[b[k]])++_=_;rw[←k3,eM,AN];rfl,by show(O++[b[k]]).length≤i+(k+1);rw[Ad,Aq];omega⟩ ?_;exact⟨by show(a.length+b.length)-(i+(k+1))<(a.length+b.length)-(i+k);omega,⟨Zr,Zr,⟨RT,rfl⟩,Zr,Zr,Tv⟩,⟨⟨Qc,rfl⟩,Tv⟩,Fh,Tv⟩
 have Pt:¬((k:Int)<((b.map Ag).length:Int)):=Pt;have n13:=Ix Pt;have eA:a.drop i=[]:=DJ (by have q:=h1;rw[Lm]at q;omega);have eB:b.drop k=[]:=DJ (by have q:=Pt;rw[Lm]at q;omega);have eO:O=A4 Ca a b:=by rw[←k3,eA,eB,Om,BS]
 exact .of_eq (Aa (fun z=>sl Ag z) eO)
def bh(p:ByteArray)(r:Rl):Bool:=decide (r.path=p)&&!r.yanked
def tO(r:Rl):Int×Int:=(plc r.ver,plc r.ver+1)
theorem cz{x:List Rl}{p:ByteArray}(h:A6 x=0):Cg x p=canon ((x.filter (bh p)).map tO):=by
 unfold Cg Ky;rw[Al (not_not_intro h),List.filter_filter]
 congr 3
 funext r
 unfold bh;rw[Bool.and_comm]
theorem dO{α:Type}(o:Option α):(∃x,o=some x)∨o=none:=by
 cases o with
 |none=>exact .inr rfl
 |some x=>exact .inl ⟨x,rfl⟩
theorem o12(x:List Rl)(ifs:List (List AV))(w:Wk)(hx:∀r∈x,Jg r)(il:Ci x)(Ks:x.length+w.rep.length≤1073741824)(hW:Xs w)(kk:Ci ifs)(qq:∀c∈ifs,c.length=5):PC 12 [M8 x ifs,.agg (BH w)] (Kn x ifs w):=by
 obtain⟨A0,hA⟩:∃A,A=A4 Ca x w.rep:=⟨_,rfl⟩;have xf:w.pin.length≤1073741824:=hW.pin;have AbD:ifs.length≤1073741824:=kk;have lp:A0.length≤1073741824:=by rw[hA];exact AT (LD x w.rep) Ks
 have h48:PC 48 [sl Ag x,sl Ag w.rep] (sl Ag A0):=by rw[hA];exact o48 x w.rep il hW.reps
 refine Ps ⟨[2,3],[],[],[],[],[],[],[(9,(8,0,85,9))],[],[],[4,7,10,12,13,14,15,16,17,18,21,22,24]⟩ Tryz.func12 rfl (Nz rfl) ?_;refine Yi (Nz rfl) ?_;refine Xi .pure (Xi _ (Yi (y7 x ifs hx) ?_));refine Yi (fun h1=>?_) (fun h1=>?_)
 ·have h1:((A6 x):Int)≠(0:Int):=h1;refine Yi (Nz rfl) ?_;refine Yi (Nz rfl) ?_;exact Gz (XC h1) (by decide)
 have h1:((A6 x):Int)=(0:Int):=A9 h1;refine Yi (Nz rfl) ?_;refine Xi .pure (Xi _ (Yi (o14 w hW) ?_));refine Xi ⟨[(2,.ref 2 0),(3,.ref 3 0),(4,.ref 4 0),(6,vi (Ct w))],[(2,.ro (Ic x ifs)),(3,.ro (BH w)),(4,.cells [.v (.slice none 0 0),.v (.slice none 0 0)])],Ab⟩ (Yi ⟨Z4,Z3,Fh,Tv⟩ ?_)
 refine Yi (fun h3=>?_) (fun h3=>?_)
 ·have h3:((Ct w):Int)≠(0:Int):=h3;refine Yi (Nz rfl) ?_;refine Yi (Nz rfl) ?_;exact Gz (XD h1 h3) h3
 have h3:((Ct w):Int)=(0:Int):=A9 h3;refine Xi .pure (Xi _ (Yi h48 ?_));refine Xi ⟨[(2,.ref 2 0),(3,.ref 3 0),(4,.ref 4 0),(7,sl Ag A0)],[(2,.ro (Ic x ifs)),(3,.ro (BH w)),(4,.cells [.v (.slice none 0 0),.v (.slice none 0 0)])],Ab⟩ (Yi ⟨Z4,Z3,Fh,Tv⟩ ?_)
 refine Yi (fun h5=>?_) (fun h5=>?_)
 ·have h5:(256:Int)<((A0.map Ag).length:Int):=h5;have n5:256<A0.length:=by have q:=h5;rw[Lm]at q;omega
  refine Yi (Nz rfl) ?_;refine Yi (Nz rfl) ?_;exact Gz (XE h1 h3 hA (by have q:=h5;rw[Lm]at q;exact q)) (by decide)
 have h5:¬((256:Int)<((A0.map Ag).length:Int)):=h5;have n5:¬256<A0.length:=by have q:=h5;rw[Lm]at q;omega
 have b7:Da 5 ifs∧([]:List (List AV)).length=0∧(([]:List (List AV)).length+(ifs:List (List AV)).length)*112≤140737488355328∧([]:List (List AV)).length+(ifs:List (List AV)).length≤9223372036854775807:=⟨(KN qq),(by first | (simp;done) | (rw[Lm];assumption)),(by simp only[AE];omega),(by simp only[AE];omega)⟩
 refine Yi b7 ?_;refine Yi (Nz rfl) ?_;refine Xi ⟨[(3,.ref 3 0),(4,.ref 4 0),(7,sl Ag A0),(8,.ref 8 0)],[(3,.ro (BH w)),(4,.cells [.v (.slice none 0 0),.v (.slice none 0 0)]),(8,.cells [.v (.slice none 0 0),.slice (.id 33 5) ([]++ifs)]),(33,.tok 5 (([]:List (List AV)).length+(ifs:List (List AV)).length))],Ab⟩ (Yi ⟨Z4,Z4,Fh,Tv⟩ ?_)
 refine Xi {q:Nat×Nat×List Rl // q.1≤A0.length∧q.2.1=cJ w (A0.take q.1)∧q.2.2=dQ w (A0.take q.1)} (Xi (fun q=>⟨[(3,.ref 3 0),(4,.ref 4 0),(7,sl Ag A0),(8,.ref 8 0),(9,vi q.1.2.1),(10,vi q.1.1)],[(3,.ro (BH w)),(4,.cells [.v (.slice none 0 0),.v (.slice none 0 0)]),(8,.cells [.slice (.id 85 9) (q.1.2.2.map Ag),.slice (.id 33 5) ([]++ifs)]),(33,.tok 5 (([]:List (List AV)).length+(ifs:List (List AV)).length)),(85,.tok 9 q.1.2.2.length)],Ab⟩) (Xi (fun q=>A0.length-q.1.1) (Yi (Xi ⟨(0,0,[]),AF _,rfl,rfl⟩ ?_) ?_)))
 ·exact⟨Z6,Z5,Fh,Tv⟩
 intro⟨⟨i,n,O⟩,k1,k2,k3⟩;have k1:i≤A0.length:=k1;have k2:n=cJ w (A0.take i):=k2;have k3:O=dQ w (A0.take i):=k3;have kn:n≤i:=by rw[k2];exact AT (BE _ _) (AT (IG _ _) (by rw[AH];omega))
 have kO:O.length≤i:=by rw[k3];exact AT (List.length_filterMap_le ..) (AT (IG _ _) (by rw[AH];omega))
 refine Xi ⟨[(3,.ref 3 0),(4,.ref 4 0),(7,sl Ag A0),(8,.ref 8 0),(9,vi n),(10,vi i)],[(3,.ro (BH w)),(4,.cells [.v (.slice none 0 0),.v (.slice none 0 0)]),(8,.cells [.slice (.id 85 9) (O.map Ag),.slice (.id 33 5) ([]++ifs)]),(33,.tok 5 (([]:List (List AV)).length+(ifs:List (List AV)).length)),(85,.tok 9 O.length)],Ab⟩ (Yi ⟨Z6,Z5,Fh,Tv⟩ ?_)
 refine Yi (fun h8=>?_) (fun h8=>?_)
 ·have h8:(i:Int)<((A0.map Ag).length:Int):=h8;have n8:=Iy h8;refine Xi ⟨[(3,.ref 3 0),(4,.ref 4 0),(7,sl Ag A0),(8,.ref 8 0),(9,vi n),(10,vi i)],[(3,.ro (BH w)),(4,.cells [.v (.slice none 0 0),.v (.slice none 0 0)]),(8,.cells [.slice (.id 85 9) (O.map Ag),.slice (.id 33 5) ([]++ifs)]),(33,.tok 5 (([]:List (List AV)).length+(ifs:List (List AV)).length)),(85,.tok 9 O.length)],Ab⟩ (Yi ⟨Z6,Z5,Fh,Tv⟩ ?_)
  refine Xi (Ag A0[i]) (Yi (J3 n8) (Yi rfl ?_));refine Yi (Nz rfl) ?_;refine Yi (Nz rfl) ?_;refine Xi ⟨[(3,.ref 3 0),(4,.ref 4 0),(7,sl Ag A0),(8,.ref 8 0),(9,vi n),(10,vi i),(11,.ref 11 0)],[(3,.ro (BH w)),(4,.cells [.v (.slice none 0 0),.v (.slice none 0 0)]),(8,.cells [.slice (.id 85 9) (O.map Ag),.slice (.id 33 5) ([]++ifs)]),(11,.cells (Ag A0[i])),(33,.tok 5 (([]:List (List AV)).length+(ifs:List (List AV)).length)),(85,.tok 9 O.length)],Ab⟩ (Yi ⟨Z7,Z6,Fh,Tv⟩ ?_)
  refine Yi (Nz rfl) ?_;refine Xi _ (Yi (qG A0[i]) ?_);refine Bp (Bt (decide (DR A0[i]∈w.exc))) (fun h9=>?_) (fun h9=>?_)
  ·have h9:(decide (DR A0[i]∈w.exc))=true:=h9;refine Xi _ (Yi (cb h9 (uz w.exc (DR A0[i]) hW.exc)) ?_);refine Yi (by kernel_rfl) ?_;refine Xi ⟨[(3,.ref 3 0),(4,.ref 4 0),(7,sl Ag A0),(8,.ref 8 0),(9,vi n),(10,vi i)],[(3,.ro (BH w)),(4,.cells [.v (.slice none 0 0),.v (.slice none 0 0)]),(8,.cells [.slice (.id 85 9) (O.map Ag),.slice (.id 33 5) ([]++ifs)]),(33,.tok 5 (([]:List (List AV)).length+(ifs:List (List AV)).length)),(85,.tok 9 O.length)],Ab⟩ (Yi ⟨Z6,Z5,Fh,Tv⟩ ?_)
   refine Yi (Ii i (by omega)) ?_;have eE:Ih w A0[i]=true:=h9;have eO:=No (w:=w) (l:=A0) n8;have eN:=M3 (w:=w) (l:=A0) n8;rw[eE,Au rfl]at eO eN;rw[BS]at eO;refine Xi ⟨(i+1,n,O),n8,by show n=_;rw[eN,k2];rfl,by show O=_;rw[eO,k3]⟩ ?_;exact⟨Dl A0.length i (by omega),Z6,Z5,Fh,Tv⟩
  have h9:(decide (DR A0[i]∈w.exc))=false:=h9;refine Xi _ (Yi (cb h9 (uz w.exc (DR A0[i]) hW.exc)) ?_);refine Yi (by kernel_rfl) ?_;refine Xi ⟨[(3,.ref 3 0),(4,.ref 4 0),(7,sl Ag A0),(8,.ref 8 0),(9,vi n),(10,vi i),(11,.ref 11 0)],[(3,.ro (BH w)),(4,.cells [.v (.slice none 0 0),.v (.slice none 0 0)]),(8,.cells [.slice (.id 85 9) (O.map Ag),.slice (.id 33 5) ([]++ifs)]),(11,.cells (Ag A0[i])),(33,.tok 5 (([]:List (List AV)).length+(ifs:List (List AV)).length)),(85,.tok 9 O.length)],Ab⟩ (Yi ⟨Z7,Z6,Fh,Tv⟩ ?_)
  refine Bp (dO (Nx w.pin A0[i].path)) (fun Hm=>?_) (fun Hm=>?_)
  ·refine BM Hm (fun p Hm=>?_);have gM:=(o51 w.pin A0[i].path hW.pin);rw[Hm]at gM;refine Xi .pure (Xi _ (Yi gM ?_));refine Yi (Nz rfl) ?_;refine Xi ⟨[(3,.ref 3 0),(4,.ref 4 0),(7,sl Ag A0),(8,.ref 8 0),(9,vi n),(10,vi i),(11,.ref 11 0),(12,.ref 12 0),(13,vb true)],[(3,.ro (BH w)),(4,.cells [.v (.slice none 0 0),.v (.slice none 0 0)]),(8,.cells [.slice (.id 85 9) (O.map Ag),.slice (.id 33 5) ([]++ifs)]),(11,.cells (Ag A0[i])),(12,.cells (Ae p)),(33,.tok 5 (([]:List (List AV)).length+(ifs:List (List AV)).length)),(85,.tok 9 O.length)],Ab⟩ (Yi ⟨Z9,Z7,Fh,Tv⟩ ?_)
   refine Yi (Nz rfl) ?_;refine Yi (Nz rfl) ?_;refine Xi _ (Yi (qG A0[i]) ?_);refine Yi (fun Iu=>?_) (fun Iu=>?_)
   ·have Iu:(p.path:ByteArray)=(DR A0[i]).path∧(p.ver.a:Int)=(DR A0[i]).ver.a∧(p.ver.b:Int)=(DR A0[i]).ver.b∧(p.ver.c:Int)=(DR A0[i]).ver.c∧True:=Iu;refine Yi (by kernel_rfl) ?_;refine Xi ⟨[(3,.ref 3 0),(4,.ref 4 0),(7,sl Ag A0),(8,.ref 8 0),(9,vi n),(10,vi i),(11,.ref 11 0),(13,vb true)],[(3,.ro (BH w)),(4,.cells [.v (.slice none 0 0),.v (.slice none 0 0)]),(8,.cells [.slice (.id 85 9) (O.map Ag),.slice (.id 33 5) ([]++ifs)]),(11,.cells (Ag A0[i])),(33,.tok 5 (([]:List (List AV)).length+(ifs:List (List AV)).length)),(85,.tok 9 O.length)],Ab⟩ (Yi ⟨Z8,Z6,Fh,Tv⟩ ?_)
    refine Yi (Ii n (by omega)) ?_;refine Yi (Nz rfl) ?_;refine Xi ⟨[(3,.ref 3 0),(4,.ref 4 0),(7,sl Ag A0),(8,.ref 8 0),(9,vi (n+1)),(10,vi i),(11,.ref 11 0)],[(3,.ro (BH w)),(4,.cells [.v (.slice none 0 0),.v (.slice none 0 0)]),(8,.cells [.slice (.id 85 9) (O.map Ag),.slice (.id 33 5) ([]++ifs)]),(11,.cells [vs A0[i].path,vi A0[i].ver.a,vi A0[i].ver.b,vi A0[i].ver.c,sl AM A0[i].reqs,vs A0[i].arch,vs A0[i].ifc,vs A0[i].cert,vb false]),(33,.tok 5 (([]:List (List AV)).length+(ifs:List (List AV)).length)),(85,.tok 9 O.length)],Ab⟩ (Yi ⟨Z7,Z6,Fh,Tv⟩ ?_)
    refine Yi (Nz rfl) ?_;refine Yi (Mg rfl (by omega) (by decide)) ?_;refine Yi (Nz rfl) ?_;refine Xi ⟨[(3,.ref 3 0),(4,.ref 4 0),(7,sl Ag A0),(8,.ref 8 0),(9,vi (n+1)),(10,vi i)],[(3,.ro (BH w)),(4,.cells [.v (.slice none 0 0),.v (.slice none 0 0)]),(8,.cells [.slice (.id 85 9) ((O.map Ag)++[[vs A0[i].path,vi A0[i].ver.a,vi A0[i].ver.b,vi A0[i].ver.c,sl AM A0[i].reqs,vs A0[i].arch,vs A0[i].ifc,vs A0[i].cert,vb false]]),.slice (.id 33 5) ([]++ifs)]),(33,.tok 5 (([]:List (List AV)).length+(ifs:List (List AV)).length)),(85,.tok 9 ((O.map Ag).length+([[vs A0[i].path,vi A0[i].ver.a,vi A0[i].ver.b,vi A0[i].ver.c,sl AM A0[i].reqs,vs A0[i].arch,vs A0[i].ifc,vs A0[i].cert,vb false]]:List (List AV)).length))],Ab⟩ (Yi ⟨Z6,Z5,Fh,Tv⟩ ?_)
    refine Yi (Ii i (by omega)) ?_;have eE:Ih w A0[i]=false:=h9;have eO:=No (w:=w) (l:=A0) n8;have eN:=M3 (w:=w) (l:=A0) n8;rw[eE,Al (by decide)]at eO eN;have ep:p=DR A0[i]:=MR.1 Iu;have eG:IY w.pin A0[i]=some { A0[i]with yanked:=false }:=by unfold IY;rw[Hm];show(if p=DR A0[i]then _ else none)=_;rw[Au ep]
    have eH:TH w.pin A0[i]=true:=At (by rw[Hm,ep]);rw[eG]at eO;rw[eH]at eN;refine Xi ⟨(i+1,n+1,(O++[({ A0[i]with yanked:=false }:Rl)])),n8,by show n+1=_;rw[eN,k2];rfl,by show(O++[({ A0[i]with yanked:=false }:Rl)])=_;rw[eO,k3];rfl⟩ ?_;exact⟨Dl A0.length i (by omega),Z6,⟨Zr,Zr,⟨(show HO.cells [AV.slice (.id 85 9) (O.map Ag++[Ag ({ A0[i]with yanked:=false }:Rl)]),AV.slice (.id 33 5) (([]:List (List AV))++ifs)]=.cells [.slice (.id 85 9) ((O++[({ A0[i]with yanked:=false }:Rl)]).map Ag),.slice (.id 33 5) (([]:List (List AV))++ifs)] by rw[AG];rfl),rfl⟩,Zr,⟨Qc,rfl⟩,Tv⟩,Fh,Tv⟩
   have Iu:¬((p.path:ByteArray)=(DR A0[i]).path∧(p.ver.a:Int)=(DR A0[i]).ver.a∧(p.ver.b:Int)=(DR A0[i]).ver.b∧(p.ver.c:Int)=(DR A0[i]).ver.c∧True):=Iu;refine Yi (by kernel_rfl) ?_;refine Xi ⟨[(3,.ref 3 0),(4,.ref 4 0),(7,sl Ag A0),(8,.ref 8 0),(9,vi n),(10,vi i)],[(3,.ro (BH w)),(4,.cells [.v (.slice none 0 0),.v (.slice none 0 0)]),(8,.cells [.slice (.id 85 9) (O.map Ag),.slice (.id 33 5) ([]++ifs)]),(33,.tok 5 (([]:List (List AV)).length+(ifs:List (List AV)).length)),(85,.tok 9 O.length)],Ab⟩ (Yi ⟨Z6,Z5,Fh,Tv⟩ ?_)
   refine Yi (Ii i (by omega)) ?_;have eE:Ih w A0[i]=false:=h9;have eO:=No (w:=w) (l:=A0) n8;have eN:=M3 (w:=w) (l:=A0) n8;rw[eE,Al (by decide)]at eO eN;have ep:¬p=DR A0[i]:=fun q=>Iu (MR.2 q);have eG:IY w.pin A0[i]=none:=by unfold IY;rw[Hm];show(if p=DR A0[i]then _ else none)=_;rw[Al ep]
   have eH:TH w.pin A0[i]=false:=Aj (by rw[Hm];exact fun q=>ep (Bv q));rw[eG]at eO;rw[eH]at eN;rw[show(none:Option Rl).toList=[]from rfl,BS]at eO;refine Xi ⟨(i+1,n,O),n8,by show n=_;rw[eN,k2];rfl,by show O=_;rw[eO,k3]⟩ ?_;exact⟨Dl A0.length i (by omega),Z6,Z5,Fh,Tv⟩
  have gM:=(o51 w.pin A0[i].path hW.pin);rw[Hm]at gM;refine Xi .pure (Xi _ (Yi gM ?_));refine Yi (Nz rfl) ?_;refine Xi ⟨[(3,.ref 3 0),(4,.ref 4 0),(7,sl Ag A0),(8,.ref 8 0),(9,vi n),(10,vi i),(11,.ref 11 0),(12,.ref 12 0),(13,vb false)],[(3,.ro (BH w)),(4,.cells [.v (.slice none 0 0),.v (.slice none 0 0)]),(8,.cells [.slice (.id 85 9) (O.map Ag),.slice (.id 33 5) ([]++ifs)]),(11,.cells (Ag A0[i])),(12,.cells (Ae zSl)),(33,.tok 5 (([]:List (List AV)).length+(ifs:List (List AV)).length)),(85,.tok 9 O.length)],Ab⟩ (Yi ⟨Z9,Z7,Fh,Tv⟩ ?_)
  refine Yi (by kernel_rfl) ?_;refine Xi ⟨[(3,.ref 3 0),(4,.ref 4 0),(7,sl Ag A0),(8,.ref 8 0),(9,vi n),(10,vi i),(11,.ref 11 0),(13,vb false)],[(3,.ro (BH w)),(4,.cells [.v (.slice none 0 0),.v (.slice none 0 0)]),(8,.cells [.slice (.id 85 9) (O.map Ag),.slice (.id 33 5) ([]++ifs)]),(11,.cells (Ag A0[i])),(33,.tok 5 (([]:List (List AV)).length+(ifs:List (List AV)).length)),(85,.tok 9 O.length)],Ab⟩ (Yi ⟨Z8,Z6,Fh,Tv⟩ ?_)
  refine Xi ⟨[(3,.ref 3 0),(4,.ref 4 0),(7,sl Ag A0),(8,.ref 8 0),(9,vi n),(10,vi i),(11,.ref 11 0)],[(3,.ro (BH w)),(4,.cells [.v (.slice none 0 0),.v (.slice none 0 0)]),(8,.cells [.slice (.id 85 9) (O.map Ag),.slice (.id 33 5) ([]++ifs)]),(11,.cells (Ag A0[i])),(33,.tok 5 (([]:List (List AV)).length+(ifs:List (List AV)).length)),(85,.tok 9 O.length)],Ab⟩ (Yi ⟨Z7,Z6,Fh,Tv⟩ ?_)
  refine Yi (Nz rfl) ?_;refine Yi (Mg rfl (by omega) (by decide)) ?_;refine Yi (Nz rfl) ?_;refine Xi ⟨[(3,.ref 3 0),(4,.ref 4 0),(7,sl Ag A0),(8,.ref 8 0),(9,vi n),(10,vi i)],[(3,.ro (BH w)),(4,.cells [.v (.slice none 0 0),.v (.slice none 0 0)]),(8,.cells [.slice (.id 85 9) ((O.map Ag)++[(Ag A0[i])]),.slice (.id 33 5) ([]++ifs)]),(33,.tok 5 (([]:List (List AV)).length+(ifs:List (List AV)).length)),(85,.tok 9 ((O.map Ag).length+([(Ag A0[i])]:List (List AV)).length))],Ab⟩ (Yi ⟨Z6,Z5,Fh,Tv⟩ ?_)
  refine Yi (Ii i (by omega)) ?_;have eE:Ih w A0[i]=false:=h9;have eO:=No (w:=w) (l:=A0) n8;have eN:=M3 (w:=w) (l:=A0) n8;rw[eE,Al (by decide)]at eO eN;have eG:IY w.pin A0[i]=some A0[i]:=by unfold IY;rw[Hm]
  have eH:TH w.pin A0[i]=false:=Aj (by rw[Hm];exact fun q=>by cases q);rw[eG]at eO;rw[eH]at eN;refine Xi ⟨(i+1,n,(O++[A0[i]])),n8,by show n=_;rw[eN,k2];rfl,by show(O++[A0[i]])=_;rw[eO,k3];rfl⟩ ?_;exact⟨Dl A0.length i (by omega),Z6,⟨Zr,Zr,⟨(show HO.cells [AV.slice (.id 85 9) (O.map Ag++[Ag A0[i]]),AV.slice (.id 33 5) (([]:List (List AV))++ifs)]=.cells [.slice (.id 85 9) ((O++[A0[i]]).map Ag),.slice (.id 33 5) (([]:List (List AV))++ifs)] by rw[AG];rfl),rfl⟩,Zr,⟨Qc,rfl⟩,Tv⟩,Fh,Tv⟩
 have h8:¬((i:Int)<((A0.map Ag).length:Int)):=h8;have n8:=Ix h8;refine Xi ⟨[(3,.ref 3 0),(4,.ref 4 0),(8,.ref 8 0),(9,vi n)],[(3,.ro (BH w)),(4,.cells [.v (.slice none 0 0),.v (.slice none 0 0)]),(8,.cells [.slice (.id 85 9) (O.map Ag),.slice (.id 33 5) ([]++ifs)]),(33,.tok 5 (([]:List (List AV)).length+(ifs:List (List AV)).length)),(85,.tok 9 O.length)],Ab⟩ (Yi ⟨Z4,Z5,Fh,Tv⟩ ?_)
 refine Yi (fun oN=>?_) (fun oN=>?_)
 ·have oN:(n:Int)≠((w.pin.map Ae).length:Int):=oN;refine Yi (Nz rfl) ?_;refine Yi (Nz rfl) ?_;have hi:A0.take i=A0:=AL (by have q:=h8;rw[Lm]at q;omega);rw[hi]at k2 k3;have eP:=Y2 h1 h3 hA;rw[Al (fun q=>by have z:=oN;rw[Lm]at z;omega)]at eP;exact Gz (OU h1 h3 hA (by have q:=h5;rw[Lm]at q;exact q) eP) (by decide)
 have oN:(n:Int)=((w.pin.map Ae).length:Int):=A9 oN;refine Xi ⟨[(4,.ref 4 0),(8,.ref 8 0)],[(4,.cells [.v (.slice none 0 0),.v (.slice none 0 0)]),(8,.cells [.slice (.id 85 9) (O.map Ag),.slice (.id 33 5) ([]++ifs)]),(33,.tok 5 (([]:List (List AV)).length+(ifs:List (List AV)).length)),(85,.tok 9 O.length)],Ab⟩ (Yi ⟨Z2,Z4,Fh,Tv⟩ ?_)
 refine Yi (Nz rfl) ?_;refine Yi (Nz rfl) ?_;refine Yi (Nz rfl) ?_;have hi:A0.take i=A0:=AL (by have q:=h8;rw[Lm]at q;omega);rw[hi]at k2 k3;have eP:=Y2 h1 h3 hA;rw[Au (by have z:=oN;rw[Lm]at z;omega)]at eP;have eR:=OU h1 h3 hA (by have q:=h5;rw[Lm]at q;exact q) eP;exact .of_eq (show _=Kn x ifs w by unfold Kn;rw[eR,k3];rfl)
instance:DecidableEq Rq:=fun x y=>decidable_of_iff (x.path=y.path∧x.set=y.set) ⟨fun⟨h1,h2⟩=>by cases x;cases y;simp_all,fun h=>by subst h;exact Zr⟩
instance:DecidableEq Rl:=fun x y=>decidable_of_iff (x.path=y.path∧x.ver=y.ver∧x.reqs=y.reqs∧x.arch=y.arch∧x.ifc=y.ifc∧x.cert=y.cert∧x.yanked=y.yanked) ⟨fun⟨h1,h2,h3,h4,h5,h6,h7⟩=>by cases x;cases y;simp_all,fun h=>by subst h;exact⟨rfl,rfl,rfl,rfl,rfl,rfl,rfl⟩⟩
theorem tE{a b:Rq}(h1:a.path=b.path)(h2:a.set=b.set):a=b:=by cases a;cases b;simp_all
theorem nG{a b:Rl}(h1:a.path=b.path)(h2:a.ver=b.ver)(h3:a.arch=b.arch)(h4:a.ifc=b.ifc)(h5:a.cert=b.cert)(h6:a.yanked=b.yanked)(h7:a.reqs=b.reqs):a=b:=by cases a;cases b;simp_all
theorem kf{a b:Ver}(h:a.a=b.a∧a.b=b.b∧a.c=b.c∧True):a=b:=by cases a;cases b;simp_all
theorem p6{a b:Ver}(h:¬(a.a=b.a∧a.b=b.b∧a.c=b.c∧True)):a≠b:=fun e=>h (by subst e;exact⟨rfl,rfl,rfl,trivial⟩)
theorem Sx{α:Type}{a b:List α}(hl:a.length=b.length)(h:∀j (hj:j<a.length),a[j]=b[j]'(hl▸hj)):a=b:=List.ext_getElem hl fun j h1 _=>h j h1
theorem XF{α:Type}{a b:List α}{i:Nat}{ha:i<a.length}{hb:i<b.length}(h:a[i]≠b[i]):a≠b:=fun e=>by subst e;exact h rfl
theorem uD(a b:List Rq)(ha:Ci a)(hs:∀q∈a,Ci q.set):PC 69 [sl AM a,sl AM b] (vb (decide (a=b))):=by
 have rP:a.length≤1073741824:=ha;refine Ps ⟨[],[],[],[],[],[],[],[],[],[],[5,7]⟩ Tryz.func69 rfl (Nz rfl) ?_;refine Yi (fun h1=>?_) (fun h1=>?_)
 ·have h1:((a.map AM).length:Int)≠((b.map AM).length:Int):=h1;exact .of_eq (show vb false=vb (decide (a=b)) by rw[Aj (fun e=>absurd (Aa (fun z=>((z.map AM).length:Int)) e) h1)])
 have h1:((a.map AM).length:Int)=((b.map AM).length:Int):=A9 h1;have hl:a.length=b.length:=by have q:=h1;rw[Lm,Lm]at q;omega
 refine Xi {q:Nat // q≤a.length∧∀j (hj:j<a.length),j<q→a[j]=b[j]'(hl▸hj)} (Xi (fun q=>⟨[(0,sl AM a),(1,sl AM b),(5,vi q.1)],[],Ab⟩) (Xi (fun q=>a.length-q.1) (Yi (Xi ⟨0,AF _,fun _ _ h=>absurd h (Cr _)⟩ ?_) ?_)))
 ·exact⟨Z3,Tv,Fh,Tv⟩
 intro⟨i,i1,i2⟩;have i1:i≤a.length:=i1;have i2:∀j (hj:j<a.length),j<i→a[j]=b[j]'(hl▸hj):=i2;refine Yi (fun h3=>?_) (fun h3=>?_)
 ·have h3:(i:Int)<((a.map AM).length:Int):=h3;have n3:=Iy h3;have c8:i<b.length:=by have q:=h3;rw[Lm]at q;omega
  refine Xi (AM a[i]) (Yi (J3 n3) (Yi rfl ?_));refine Xi (AM b[i]) (Yi (J3 c8) (Yi rfl ?_));refine Yi (fun h5=>?_) (fun h5=>?_)
  ·have h5:(a[i].path:ByteArray)≠b[i].path:=h5;refine Yi (by kernel_rfl) ?_;refine Xi ⟨[],[],Ab⟩ (Yi ⟨Tv,Tv,Fh,Tv⟩ ?_)
   exact .of_eq (show vb false=vb (decide (a=b)) by rw[Aj (XF (i:=i) (ha:=n3) (hb:=c8) (fun e=>h5 (Aa Rq.path e)))])
  have h5:(a[i].path:ByteArray)=b[i].path:=A9 h5;refine Xi (AM a[i]) (Yi (J3 n3) (Yi rfl ?_));refine Xi (AM b[i]) (Yi (J3 c8) (Yi rfl ?_));refine Bp (Bt (decide (a[i].set=b[i].set))) (fun h7=>?_) (fun h7=>?_)
  ·have h7:(decide (a[i].set=b[i].set))=true:=h7;refine Xi _ (Yi (cb h7 (wa a[i].set b[i].set (hs _ (Ak n3)))) ?_);refine Yi (by kernel_rfl) ?_;refine Xi ⟨[(0,sl AM a),(1,sl AM b),(5,vi i)],[],Ab⟩ (Yi ⟨Z3,Tv,Fh,Tv⟩ ?_)
   refine Yi (Ii i (by omega)) ?_;refine Xi ⟨i+1,n3,fun j hj GF=>if e:j<i then i2 j hj e else by
     have e:j=i:=by omega
     subst e;exact tE h5 (BC h7)⟩ ?_
   exact⟨Dl a.length i (by omega),Z3,Tv,Fh,Tv⟩
  have h7:(decide (a[i].set=b[i].set))=false:=h7;refine Xi _ (Yi (cb h7 (wa a[i].set b[i].set (hs _ (Ak n3)))) ?_);refine Yi (by kernel_rfl) ?_;refine Xi ⟨[],[],Ab⟩ (Yi ⟨Tv,Tv,Fh,Tv⟩ ?_)
  exact .of_eq (show vb false=vb (decide (a=b)) by rw[Aj (XF (i:=i) (ha:=n3) (hb:=c8) (fun e=>HG h7 (Aa Rq.set e)))])
 have h3:¬((i:Int)<((a.map AM).length:Int)):=h3;have n3:=Ix h3;exact .of_eq (show vb true=vb (decide (a=b)) by rw[At (Sx hl fun j hj=>i2 j hj (by have q:=h3;rw[Lm]at q;omega))])
theorem o23(r s:Rl)(hr:Ci r.reqs)(hs:∀q∈r.reqs,Ci q.set):PC 23 [.agg (Ag r),.agg (Ag s)] (vb (decide (r=s))):=by
 refine Ps ⟨[2,3],[],[],[],[],[],[],[],[],[],[]⟩ Tryz.func23 rfl (Nz rfl) ?_;refine Yi (fun h1=>?_) (fun h1=>?_)
 ·have h1:(r.path:ByteArray)=s.path:=h1;refine Yi (Nz rfl) ?_;refine Yi (Nz rfl) ?_;refine Yi (fun h2=>?_) (fun h2=>?_)
  ·have h2:(r.ver.a:Int)=s.ver.a∧(r.ver.b:Int)=s.ver.b∧(r.ver.c:Int)=s.ver.c∧True:=h2;refine Yi (fun h3=>?_) (fun h3=>?_)
   ·have h3:(r.arch:ByteArray)=s.arch:=h3;refine Yi (fun h4=>?_) (fun h4=>?_)
    ·have h4:(r.ifc:ByteArray)=s.ifc:=h4;refine Yi (fun h5=>?_) (fun h5=>?_)
     ·have h5:(r.cert:ByteArray)=s.cert:=h5;refine Yi (fun h6=>?_) (fun h6=>?_)
      ·have h6:r.yanked=true:=h6;refine Yi (fun h7=>?_) (fun h7=>?_)
       ·have h7:s.yanked=true:=h7;refine Bp (Bt (decide (r.reqs=s.reqs))) (fun h8=>?_) (fun h8=>?_)
        ·have h8:(decide (r.reqs=s.reqs))=true:=h8;refine Xi .pure (Xi _ (Yi (cb h8 (uD r.reqs s.reqs hr hs)) ?_));exact .of_eq (show vb true=vb (decide (r=s)) by rw[At (nG h1 (kf h2) h3 h4 h5 (by rw[h6,h7]) (BC h8))])
        have h8:(decide (r.reqs=s.reqs))=false:=h8;refine Xi .pure (Xi _ (Yi (cb h8 (uD r.reqs s.reqs hr hs)) ?_));exact .of_eq (show vb false=vb (decide (r=s)) by rw[Aj (fun e=>HG h8 (Aa Rl.reqs e))])
       have h7:s.yanked=false:=h7;exact .of_eq (show vb false=vb (decide (r=s)) by rw[Aj (fun e=>by have q:=Aa Rl.yanked e;rw[h6,h7]at q;cases q)])
      have h6:r.yanked=false:=h6;refine Yi (fun Iu=>?_) (fun Iu=>?_)
      ·have Iu:s.yanked=true:=Iu;exact .of_eq (show vb false=vb (decide (r=s)) by rw[Aj (fun e=>by have q:=Aa Rl.yanked e;rw[h6,Iu]at q;cases q)])
      have Iu:s.yanked=false:=Iu;refine Bp (Bt (decide (r.reqs=s.reqs))) (fun Ya=>?_) (fun Ya=>?_)
      ·have Ya:(decide (r.reqs=s.reqs))=true:=Ya;refine Xi .pure (Xi _ (Yi (cb Ya (uD r.reqs s.reqs hr hs)) ?_));exact .of_eq (show vb true=vb (decide (r=s)) by rw[At (nG h1 (kf h2) h3 h4 h5 (by rw[h6,Iu]) (BC Ya))])
      have Ya:(decide (r.reqs=s.reqs))=false:=Ya;refine Xi .pure (Xi _ (Yi (cb Ya (uD r.reqs s.reqs hr hs)) ?_));exact .of_eq (show vb false=vb (decide (r=s)) by rw[Aj (fun e=>HG Ya (Aa Rl.reqs e))])
     have h5:¬(r.cert:ByteArray)=s.cert:=h5;exact .of_eq (show vb false=vb (decide (r=s)) by rw[Aj (fun e=>h5 (Aa Rl.cert e))])
    have h4:¬(r.ifc:ByteArray)=s.ifc:=h4;exact .of_eq (show vb false=vb (decide (r=s)) by rw[Aj (fun e=>h4 (Aa Rl.ifc e))])
   have h3:¬(r.arch:ByteArray)=s.arch:=h3;exact .of_eq (show vb false=vb (decide (r=s)) by rw[Aj (fun e=>h3 (Aa Rl.arch e))])
  have h2:¬((r.ver.a:Int)=s.ver.a∧(r.ver.b:Int)=s.ver.b∧(r.ver.c:Int)=s.ver.c∧True):=h2;exact .of_eq (show vb false=vb (decide (r=s)) by rw[Aj (fun e=>p6 h2 (Aa Rl.ver e))])
 have h1:¬(r.path:ByteArray)=s.path:=h1;exact .of_eq (show vb false=vb (decide (r=s)) by rw[Aj (fun e=>h1 (Aa Rl.path e))])
theorem xG(a b:List Rl)(ha:Ci a)(hr:∀r∈a,Ci r.reqs∧∀q∈r.reqs,Ci q.set):PC 15 [sl Ag a,sl Ag b] (vb (decide (a=b))):=by
 have rP:a.length≤1073741824:=ha;refine Ps ⟨[],[],[],[],[],[],[],[],[],[],[5,7]⟩ Tryz.func15 rfl (Nz rfl) ?_;refine Yi (fun h1=>?_) (fun h1=>?_)
 ·have h1:((a.map Ag).length:Int)≠((b.map Ag).length:Int):=h1;exact .of_eq (show vb false=vb (decide (a=b)) by rw[Aj (fun e=>absurd (Aa (fun z=>((z.map Ag).length:Int)) e) h1)])
 have h1:((a.map Ag).length:Int)=((b.map Ag).length:Int):=A9 h1;have hl:a.length=b.length:=by have q:=h1;rw[Lm,Lm]at q;omega
 refine Xi {q:Nat // q≤a.length∧∀j (hj:j<a.length),j<q→a[j]=b[j]'(hl▸hj)} (Xi (fun q=>⟨[(0,sl Ag a),(1,sl Ag b),(5,vi q.1)],[],Ab⟩) (Xi (fun q=>a.length-q.1) (Yi (Xi ⟨0,AF _,fun _ _ h=>absurd h (Cr _)⟩ ?_) ?_)))
 ·exact⟨Z3,Tv,Fh,Tv⟩
 intro⟨i,i1,i2⟩;have i1:i≤a.length:=i1;have i2:∀j (hj:j<a.length),j<i→a[j]=b[j]'(hl▸hj):=i2;refine Yi (fun h3=>?_) (fun h3=>?_)
 ·have h3:(i:Int)<((a.map Ag).length:Int):=h3;have n3:=Iy h3;have c8:i<b.length:=by have q:=h3;rw[Lm]at q;omega
  refine Xi (Ag a[i]) (Yi (J3 n3) (Yi rfl ?_));refine Yi (Nz rfl) ?_;refine Xi (Ag b[i]) (Yi (J3 c8) (Yi rfl ?_));refine Yi (Nz rfl) ?_;refine Bp (Bt (decide (a[i]=b[i]))) (fun h4=>?_) (fun h4=>?_)
  ·have h4:(decide (a[i]=b[i]))=true:=h4;refine Xi _ (Yi (cb h4 (o23 a[i] b[i] (hr _ (Ak n3)).1 (hr _ (Ak n3)).2)) ?_);refine Yi (by kernel_rfl) ?_;refine Xi ⟨[(0,sl Ag a),(1,sl Ag b),(5,vi i)],[],Ab⟩ (Yi ⟨Z3,Tv,Fh,Tv⟩ ?_)
   refine Yi (Ii i (by omega)) ?_;refine Xi ⟨i+1,n3,fun j hj GF=>if e:j<i then i2 j hj e else by
     have e:j=i:=by omega
     subst e;exact BC h4⟩ ?_
   exact⟨Dl a.length i (by omega),Z3,Tv,Fh,Tv⟩
  have h4:(decide (a[i]=b[i]))=false:=h4;refine Xi _ (Yi (cb h4 (o23 a[i] b[i] (hr _ (Ak n3)).1 (hr _ (Ak n3)).2)) ?_);refine Yi (by kernel_rfl) ?_;refine Xi ⟨[],[],Ab⟩ (Yi ⟨Tv,Tv,Fh,Tv⟩ ?_)
  exact .of_eq (show vb false=vb (decide (a=b)) by rw[Aj (XF (i:=i) (ha:=n3) (hb:=c8) (HG h4))])
 have h3:¬((i:Int)<((a.map Ag).length:Int)):=h3;have n3:=Ix h3;exact .of_eq (show vb true=vb (decide (a=b)) by rw[At (Sx hl fun j hj=>i2 j hj (by have q:=h3;rw[Lm]at q;omega))])
theorem uC(a b:List Sl)(ha:Ci a):PC 65 [sl Ae a,sl Ae b] (vb (decide (a=b))):=by
 have rP:a.length≤1073741824:=ha;refine Ps ⟨[],[],[],[],[],[],[],[],[],[],[5,7]⟩ Tryz.func65 rfl (Nz rfl) ?_;refine Yi (fun h1=>?_) (fun h1=>?_)
 ·have h1:((a.map Ae).length:Int)≠((b.map Ae).length:Int):=h1;exact .of_eq (show vb false=vb (decide (a=b)) by rw[Aj (fun e=>absurd (Aa (fun z=>((z.map Ae).length:Int)) e) h1)])
 have h1:((a.map Ae).length:Int)=((b.map Ae).length:Int):=A9 h1;have hl:a.length=b.length:=by have q:=h1;rw[Lm,Lm]at q;omega
 refine Xi {q:Nat // q≤a.length∧∀j (hj:j<a.length),j<q→a[j]=b[j]'(hl▸hj)} (Xi (fun q=>⟨[(0,sl Ae a),(1,sl Ae b),(5,vi q.1)],[],Ab⟩) (Xi (fun q=>a.length-q.1) (Yi (Xi ⟨0,AF _,fun _ _ h=>absurd h (Cr _)⟩ ?_) ?_)))
 ·exact⟨Z3,Tv,Fh,Tv⟩
 intro⟨i,i1,i2⟩;have i1:i≤a.length:=i1;have i2:∀j (hj:j<a.length),j<i→a[j]=b[j]'(hl▸hj):=i2;refine Yi (fun h3=>?_) (fun h3=>?_)
 ·have h3:(i:Int)<((a.map Ae).length:Int):=h3;have n3:=Iy h3;have c8:i<b.length:=by have q:=h3;rw[Lm]at q;omega
  refine Xi (Ae a[i]) (Yi (J3 n3) (Yi rfl ?_));refine Yi (Nz rfl) ?_;refine Xi (Ae b[i]) (Yi (J3 c8) (Yi rfl ?_));refine Yi (Nz rfl) ?_;refine Yi (fun h4=>?_) (fun h4=>?_)
  ·have h4:(a[i].path:ByteArray)=b[i].path∧(a[i].ver.a:Int)=b[i].ver.a∧(a[i].ver.b:Int)=b[i].ver.b∧(a[i].ver.c:Int)=b[i].ver.c∧True:=h4;refine Yi (by kernel_rfl) ?_;refine Xi ⟨[(0,sl Ae a),(1,sl Ae b),(5,vi i)],[],Ab⟩ (Yi ⟨Z3,Tv,Fh,Tv⟩ ?_)
   refine Yi (Ii i (by omega)) ?_;refine Xi ⟨i+1,n3,fun j hj GF=>if e:j<i then i2 j hj e else by
     have e:j=i:=by omega
     subst e;exact bW h4⟩ ?_
   exact⟨Dl a.length i (by omega),Z3,Tv,Fh,Tv⟩
  have h4:¬((a[i].path:ByteArray)=b[i].path∧(a[i].ver.a:Int)=b[i].ver.a∧(a[i].ver.b:Int)=b[i].ver.b∧(a[i].ver.c:Int)=b[i].ver.c∧True):=h4;refine Yi (by kernel_rfl) ?_;refine Xi ⟨[],[],Ab⟩ (Yi ⟨Tv,Tv,Fh,Tv⟩ ?_)
  exact .of_eq (show vb false=vb (decide (a=b)) by rw[Aj (XF (i:=i) (ha:=n3) (hb:=c8) (jN h4))])
 have h3:¬((i:Int)<((a.map Ae).length:Int)):=h3;have n3:=Ix h3;exact .of_eq (show vb true=vb (decide (a=b)) by rw[At (Sx hl fun j hj=>i2 j hj (by have q:=h3;rw[Lm]at q;omega))])
def MP(a b:Wk):Bool:=decide (a.rep=b.rep)&&decide (a.exc=b.exc)&&decide (a.pin=b.pin)
theorem aK(a:Wk):MP a a=true:=by unfold MP;simp
abbrev Xr(l:List Rl):Prop:=∀r∈l,Ci r.reqs∧∀q∈r.reqs,Ci q.set
theorem o19(a b:Wk)(hA:Xs a)(hr:Xr a.rep):PC 19 [.agg (BH a),.agg (BH b)] (vb (MP a b)):=by
 refine Ps ⟨[2,3],[],[],[],[],[],[],[],[],[],[]⟩ Tryz.func19 rfl (Nz rfl) ?_;refine Bp (Bt (decide (a.rep=b.rep))) (fun h1=>?_) (fun h1=>?_)
 ·have h1:(decide (a.rep=b.rep))=true:=h1;refine Xi .pure (Xi _ (Yi (cb h1 (xG a.rep b.rep hA.reps hr)) ?_));refine Bp (Bt (decide (a.exc=b.exc))) (fun h2=>?_) (fun h2=>?_)
  ·have h2:(decide (a.exc=b.exc))=true:=h2;refine Xi .pure (Xi _ (Yi (cb h2 (uC a.exc b.exc hA.exc)) ?_));refine Bp (Bt (decide (a.pin=b.pin))) (fun h3=>?_) (fun h3=>?_)
   ·have h3:(decide (a.pin=b.pin))=true:=h3;refine Xi .pure (Xi _ (Yi (cb h3 (uC a.pin b.pin hA.pin)) ?_));exact .of_eq (show vb true=vb (MP a b) by unfold MP;rw[h1,h2,h3];rfl)
   have h3:(decide (a.pin=b.pin))=false:=h3;refine Xi .pure (Xi _ (Yi (cb h3 (uC a.pin b.pin hA.pin)) ?_));exact .of_eq (show vb false=vb (MP a b) by unfold MP;rw[h1,h2,h3];simp)
  have h2:(decide (a.exc=b.exc))=false:=h2;refine Xi .pure (Xi _ (Yi (cb h2 (uC a.exc b.exc hA.exc)) ?_));exact .of_eq (show vb false=vb (MP a b) by unfold MP;rw[h1,h2];simp)
 have h1:(decide (a.rep=b.rep))=false:=h1;refine Xi .pure (Xi _ (Yi (cb h1 (xG a.rep b.rep hA.reps hr)) ?_));exact .of_eq (show vb false=vb (MP a b) by unfold MP;rw[h1];simp)
end Go.Eng
