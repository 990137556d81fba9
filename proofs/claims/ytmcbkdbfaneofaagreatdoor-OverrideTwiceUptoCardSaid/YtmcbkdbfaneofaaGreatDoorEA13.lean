/- Lemmas for the claims of this seat, without a condition: part 13 (EngZC). -/
import Derived.Test.YtmcbkdbfaneofaaGreatDoorEA12
namespace Go.Eng
section
variable {P:Program}{N:Nat}{ds:List Deferred}{w0:World}{g0:Gh}{h0 h:Nat→HO}{st:St}{g:Gh}{a:Act}{w:World}
theorem ao(hI:DJ w0 g0 h0 h g w)(r:Nat):∃g',DJ w0 g0 h0 (ft h r) g' w∧Le h g w (ft h r) g' w:=by
 unfold ft;split
 ·rename_i cs e0;have ho:=hI.objs r;rw[e0]at ho;obtain⟨t1,b,E,vs,a1,a2,a3,a4,a5⟩:=ho;have hl:(h r).live:=by rw[e0];trivial
  have DI:=(hI.loc r b hl a1).1;have hs:=Pj hI a4
  obtain⟨k1,k2⟩:=hI.upd r (.ro (cs.map (str h))) (g.ρ r) (g.ln r) (g.tk r) none (g.more b cs.length) w none ⟨rfl,rfl,rfl,Aj _⟩ (fun _ _ _=>rfl) (fun b e=>by cases e) (fun _ _ h=>.inl h)
   (fun b' o hs=>hs.elim .inl (fun hs=>.inr ⟨by rw[hs.1];exact DI,.inr ⟨hl,by rw[hs.1];exact a1⟩⟩)) (fun b o e=>by cases e) (fun b hh _=>by cases hh) (by simp)
   (fun _=>⟨rfl,Aj _,fun _=>rfl,fun _=>rfl⟩) (fun hg hk=>by
    obtain⟨u1,u2,u3,u4⟩:=Bz g r (g.ρ r) (g.ln r) (g.tk r) none (g.more b cs.length);exact⟨u3.trans t1,b,u1.trans a2,BH.cptr_row a3 (hs.mono hk (fun _ h=>h) (fun _ h=>h.elim)) (fun o ho=>.inr ⟨rfl,by simpa using ho⟩)⟩)
  exact⟨_,k1,k2⟩
 ·rename_i sh B3 e0;have ho:=hI.objs r;rw[e0]at ho;obtain⟨t1,b,es,ck,a1,a2,a3,a4,a5,a6⟩:=ho;obtain⟨g1,i1,i2,i3⟩:=QU hI e0 a1 a2 a3 a4 a5 t1;exact⟨g1,i1,i2⟩
 ·rename_i sh B3 e0;have ho:=hI.objs r;rw[e0]at ho;obtain⟨t1,b,es,ck,a1,a2,a3,a4,a5,a6⟩:=ho;obtain⟨g1,i1,i2,i3⟩:=Wp hI e0 a1 a2 a3 a4 a5 t1;exact⟨g1,i1,i2⟩
 ·exact⟨g,hI,.refl _ _ _⟩
theorem MI:∀(l:List Nat) {h:Nat→HO} {g:Gh},DJ w0 g0 h0 h g w→∃g',DJ w0 g0 h0 (OI h l) g' w∧Le h g w (OI h l) g' w
 | [],_,g,hI=>⟨g,hI,.refl _ _ _⟩
 |r::l,_,_,hI =>
  let ⟨_,i1,i2⟩:=ao hI r
  let ⟨g2,j1,j2⟩:=MI l i1
  ⟨g2,j1,i2.trans j2⟩
theorem KG:∀(cs:List AV) (k:Nat) (v:AV) (i:Nat) (av:AV),(Ey cs k v)[i]?=some av→(i=k∧av=v)∨cs[i]?=some av
 | [],_,_,_,_,h=>by simp[Ey]at h
 |c::cs,0,v,i,av,h=>by
  unfold Ey at h;cases i with
  |zero=>simp only[A8,Bm]at h;exact .inl ⟨rfl,h.symm⟩
  |succ i=>exact .inr h
 |c::cs,k+1,v,i,av,h=>by
  unfold Ey at h;cases i with
  |zero=>exact .inr h
  |succ i =>
   rcases KG cs k v i av (by simpa using h)with ⟨e1,e2⟩ | e
   ·exact .inl ⟨by omega,e2⟩
   ·exact .inr (by simpa using e)
theorem KH:∀(cs:List AV) (k:Nat) (v:AV),(Ey cs k v).length=cs.length
 | [],_,_=>rfl
 |_::_,0,_=>rfl
 |_::cs,k+1,v=>by unfold Ey;simp[KH cs k v]
theorem X7:∀(cs:List AV) (k:Nat) (x:Value),I0 cs k=.v x→cs[k]?=some (.v x)
 | [],_,_,h=>by simp[I0]at h
 |_::_,0,_,h=>by unfold I0 at h;simp[h]
 |_::cs,k+1,x,h=>by unfold I0 at h;simpa using X7 cs k x h
theorem oC(hI:DJ w0 g0 h0 h g w)(r k j sz:Nat):∃g',DJ w0 g0 h0 (s9 h r k j sz) g' w∧Le h g w (s9 h r k j sz) g' w:=by
 have same:∃g',DJ w0 g0 h0 h g' w∧Le h g w h g' w:=⟨g,hI,.refl _ _ _⟩;unfold s9;split
 ·rename_i cs e0;split
  ·rename_i e1;split
   ·rename_i hj;have DC:r≠j:=fun e=>by rw[e,hj]at e0;cases e0
    obtain⟨g1,i1,i2,i3⟩:=NT hI (sz:=sz) (es:=[]) (a:=none) hj (by simp) rfl (.snil _ _ _);have ho:=i1.objs r;rw[BY _ _ _ _ DC,e0]at ho;obtain⟨t1,b,E,vs,a1,a2,a3,a4,a5⟩:=ho;have hl:(AW h j (.tok sz 0) r).live:=by rw[BY _ _ _ _ DC,e0];trivial
    have DI:=(i1.loc r b hl a1).1;have XG:=X7 cs k _ e1
    obtain⟨k1,k2⟩:=i1.upd r (.cells (Ey cs k (.slice (.id j sz) []))) (g1.ρ r) (g1.ln r) (g1.tk r) (g1.own r) g1.S w none ⟨rfl,rfl,rfl,Aj _⟩ (fun _ _ _=>rfl) (fun b e=>by cases e) (fun _ _ h=>h) (fun _ _ h=>.inl h)
     (fun b o e=>by cases e) (fun b' _ e=>⟨(i1.loc r b' hl e).1,.inl ⟨hl,e⟩⟩) (by simp) (fun _=>⟨rfl,Aj _,fun _=>rfl,fun _=>rfl⟩) (fun hg hk=>by
      obtain⟨u1,u2,u3,u4⟩:=Bz g1 r (g1.ρ r) (g1.ln r) (g1.tk r) (g1.own r) g1.S;have K5:∀i,AR (AW h j (.tok sz 0)) i→AR (AW (AW h j (.tok sz 0)) r (.cells (Ey cs k (.slice (.id j sz) [])))) i:=fun i hi=>DP (by simp) i hi;refine⟨u3.trans t1,b,E,vs,u4.trans a1,u1.trans a2,a3,⟨by rw[KH];exact a4.1,a4.2.1,fun i av x q1 q2=>?_⟩,a5⟩;rcases KG cs k _ i av q1 with ⟨rfl,rfl⟩ | q
      ·have:=(a4.2.2 i _ x XG q2).v_eq
       subst this;exact i3.mono hk K5 hg
      ·exact(a4.2.2 i av x q q2).mono hk K5 hg)
    exact⟨_,k1,i2.trans k2⟩
   ·exact same
  ·exact same
 ·exact same
theorem il{cx:Cx}{o:Oper}(hS:SR N ds w0 g0 h0 st g a w):∃g',SR N ds w0 g0 h0 (ik cx o st) g' a w:=by
 unfold ik;split
 ·exact⟨g,hS⟩
 ·rename_i d _;split
  ·obtain⟨g',h1,h2⟩:=oC hS.inv _ _ _ _;exact⟨g',h1,hS.le.trans h2,hS.dfs,hS.size,fun i=>(hS.slots i).le h2⟩
  split
  ·exact⟨g,hS⟩
  ·obtain⟨g',h1,h2⟩:=MI (mF cx.pl.fz d) hS.inv;exact⟨g',h1,hS.le.trans h2,hS.dfs,hS.size,fun i=>(hS.slots i).le h2⟩
theorem TA:∀(cs:List AV) (k:Nat) (r n:Nat),I0 cs k=.msl r n→cs[k]?=some (.msl r n)
 | [],_,_,_,h=>by simp[I0]at h
 |_::_,0,_,_,h=>by unfold I0 at h;simp[h]
 |_::cs,k+1,r,n,h=>by unfold I0 at h;simpa using TA cs k r n h
theorem VR(hI:DJ w0 g0 h0 h g w){r sz:Nat}{es:List (List AV)}(hr:h r=.arr sz es) :
  ∃g',DJ w0 g0 h0 (AW h r (.tok sz es.length)) g' w∧Le h g w (AW h r (.tok sz es.length)) g' w∧BH g' w (AR (AW h r (.tok sz es.length))) (.slice (.id r sz) es) (g.ρ r)∧g.ln r=es.length:=by
 have ho:=hI.objs r;rw[hr]at ho;obtain⟨t1,l1,al,a2⟩:=ho;have hl:(h r).live:=by rw[hr];trivial
 rcases a2 with ⟨b1,b2,b3⟩ | ⟨b,cap,E,vs,b1,b2,b3,b4,b5,b6,b7⟩
 ·subst b1
  obtain⟨k1,k2⟩:=hI.upd r (.tok sz 0) (g.ρ r) (g.ln r) (g.tk r) (g.own r) g.S w none ⟨rfl,rfl,rfl,Aj _⟩ (fun _ _ _=>rfl) (fun b e=>by cases e) (fun _ _ h=>h) (fun _ _ h=>.inl h)
   (fun b o e=>by cases e) (fun b' _ e=>⟨(hI.loc r b' hl e).1,.inl ⟨hl,e⟩⟩) (by simp) (fun _=>⟨rfl,Aj _,fun _=>rfl,fun _=>rfl⟩) (fun hg hk=>by
    obtain⟨u1,u2,u3,u4⟩:=Bz g r (g.ρ r) (g.ln r) (g.tk r) (g.own r) g.S;exact⟨u3.trans t1,u2.trans l1,none,0,u1.trans b2,.inl ⟨rfl,u4.trans b3⟩⟩)
  refine⟨_,k1,k2,?_,l1⟩;rw[b2];exact .tok _ r sz [] _ (.snil _ _ _) (by simp) (by unfold AR;rw[AC,Bd];simp) (by simp[Gh.upd,t1]) (by simp) (fun _=>by simp[Gh.upd])
 ·have DI:=(hI.loc r b hl b2).1
  obtain⟨k1,k2⟩:=hI.upd r (.tok sz es.length) (g.ρ r) (g.ln r) (g.tk r) (g.own r) (g.more b (es.length*sz)) w none ⟨rfl,rfl,rfl,Aj _⟩ (fun _ _ _=>rfl) (fun b e=>by cases e) (fun _ _ h=>.inl h)
   (fun b' o hs=>hs.elim .inl (fun hs=>.inr ⟨by rw[hs.1];exact DI,.inr ⟨hl,by rw[hs.1];exact b2⟩⟩)) (fun b o e=>by cases e) (fun b' _ e=>⟨(hI.loc r b' hl e).1,.inl ⟨hl,e⟩⟩) (by simp)
   (fun _=>⟨rfl,Aj _,fun _=>rfl,fun _=>rfl⟩) (fun hg hk=>by
    obtain⟨u1,u2,u3,u4⟩:=Bz g r (g.ρ r) (g.ln r) (g.tk r) (g.own r) (g.more b (es.length*sz));exact⟨u3.trans t1,u2.trans l1,_,cap,u1.trans b1,.inr ⟨b3,b,E,vs,0,rfl,u4.trans b2,b4,by rw[b5,Bi],fun o ho=>by
     rcases ho with ho | ⟨_,ho⟩
     ·exact absurd ho (b7 o)
     ·omega⟩⟩)
  refine⟨_,k1,k2,?_,l1⟩;rw[b1];exact .tok _ r sz es _ (BH.slice_row b4 al b3 (b6.mono k2.keeps (fun _ h=>h) (fun _ h=>h.elim)) (fun o ho=>.inr ⟨rfl,ho⟩)) al (by unfold AR;rw[Bd];simp) (by simp[Gh.upd,t1]) (by simp[Gh.upd,l1]) (fun _=>by simp[Gh.upd])
theorem DJ.move{w0:World}{g0:Gh}{h0 h:Nat→HO}{g:Gh}{w:World}(hI:DJ w0 g0 h0 h g w)(r r2:Nat)(DC:r2≠r)(hf:h r2=.free)(hl:(h r).live){b:Nat}(ho:g.own r=some b)(o' : HO)(x:Value)(n:Nat)(t:Bool)(hn:o'≠.free)
  (Jf:EY g w (g.upd r2 x n t (some b) g.S) w→Eg (g.upd r2 x n t (some b) g.S) w (AR (AW (AW h r .dead) r2 o')) r2 o') :
  DJ w0 g0 h0 (AW (AW h r .dead) r2 o') (g.upd r2 x n t (some b) g.S) w∧Le h g w (AW (AW h r .dead) r2 o') (g.upd r2 x n t (some b) g.S) w:=by
 have dM:JU g (g.upd r2 x n t (some b) g.S) (AR h):=by
  intro i hi;have e:i≠r2:=fun e=>hi (by rw[e];exact hf);refine⟨by simp[Gh.upd,e],by simp[Gh.upd,e],fun _=>by simp[Gh.upd,e],fun _=>by simp[Gh.upd,e]⟩
 have hK:EY g w (g.upd r2 x n t (some b) g.S) w:=fun b o hb=>⟨hb,rfl,fun _ _ h=>h⟩;have K5:∀i,AR h i→AR (AW (AW h r .dead) r2 o') i:=fun i hi=>DP hn i (DP (by simp) i hi);have key:∀i,i≠r2→(AW (AW h r .dead) r2 o' i).live→i≠r∧(h i).live:=fun i h2 hl=>by
  rw[BY _ _ _ _ h2]at hl
  by_cases e:i=r
  ·subst e;rw[Bd]at hl;exact hl.elim
  ·rw[BY _ _ _ _ e]at hl;exact⟨e,hl⟩
 have own:∀i,i≠r2→(g.upd r2 x n t (some b) g.S).own i=g.own i:=fun i e=>by simp[Gh.upd,e]
 have TF:(g.upd r2 x n t (some b) g.S).own r2=some b:=by simp[Gh.upd]
 refine⟨⟨hI.os,hI.tape,hI.output,hI.size,hI.frame,hI.slt,fun i=>?_,fun i j c hi hj ei ej=>?_,fun i c hi ei=>?_,hI.sg,hI.glob.keep hK⟩,dM,K5,hK⟩
 ·by_cases e:i=r2
  ·subst e;rw[Bd];exact Jf hK
  ·rw[BY _ _ _ _ e]
   by_cases e1:i=r
   ·subst e1;rw[Bd];trivial
   ·rw[BY _ _ _ _ e1];exact(hI.objs i).same hK K5 dM (by simp[Gh.upd,e]) (by simp[Gh.upd,e]) (by simp[Gh.upd,e]) (by simp[Gh.upd,e]) (fun b hl hb=>⟨rfl,fun k hk=>hk⟩)
 ·by_cases e1:i=r2<;>by_cases e2:j=r2
  ·exact e1.trans e2.symm
  ·subst e1;rw[TF]at ei;rw[own j e2]at ej;cases ei;obtain⟨a1,a2⟩:=key j e2 hj;exact absurd (hI.inj j r _ a2 hl ej ho) a1
  ·subst e2;rw[TF]at ej;rw[own i e1]at ei;cases ej;obtain⟨a1,a2⟩:=key i e1 hi;exact absurd (hI.inj i r _ a2 hl ei ho) a1
  ·rw[own i e1]at ei;rw[own j e2]at ej;exact hI.inj i j c (key i e1 hi).2 (key j e2 hj).2 ei ej
 ·by_cases e1:i=r2
  ·subst e1;rw[TF]at ei;cases ei;exact hI.loc r _ hl ho
  ·rw[own i e1]at ei;exact hI.loc i c (key i e1 hi).2 ei
theorem mE(hS:SR N ds w0 g0 h0 st g a w){s k:Nat}{K:St→Prop}(hk:tf st s k K):∃Ea g',SR N ds w0 g0 h0 Ea g' a w∧K Ea:=by
 have same:K st→∃Ea g',SR N ds w0 g0 h0 Ea g' a w∧K Ea:=fun hk=>⟨st,g,hS,hk⟩;unfold tf at hk;split at hk
 ·rename_i r n ht;have WP:=hS.slots s;rw[ht]at WP;split at hk
  ·rename_i sz es hr;have ho:=hS.inv.objs r;rw[hr]at ho;obtain⟨t1,l1,al,a2⟩:=ho;have hl:(st.h r).live:=by rw[hr];trivial
   have J3:n=es.length→a.tmps.getD s undef=g.ρ r:=fun hn=>by
    generalize a.tmps.getD s undef=x at WP;cases WP with
    |msl _ r n a cap hu ht XJ ha hx=>exact hx (hn.trans l1.symm)
   have fin:∀(h' : Nat→HO) (v:AV) (g' : Gh),DJ w0 g0 h0 h' g' w→Le st.h g w h' g' w→BH g' w (AR h') v (a.tmps.getD s undef)→SR N ds w0 g0 h0 ⟨G1 st.t s v,h'⟩ g' a w:=fun h' v g' i1 i2 i3=>by
    refine⟨i1,hS.le.trans i2,hS.dfs,hS.size,fun i=>?_⟩;show BH g' w (AR h') (G1 st.t s v i) _
    by_cases e:i=s
    ·subst e
     have:G1 st.t i v i=v:=by unfold G1;simp
     rw[this];exact i3
    ·have:G1 st.t s v i=st.t i:=by unfold G1;simp[CL e]
     rw[this];exact(hS.slots i).le i2
   split at hk
   ·obtain⟨hn,hk⟩:=hk;obtain⟨g1,i1,i2,i3,i4⟩:=VR hS.inv hr
    obtain⟨k1,k2⟩:=i1.upd r .dead (g1.ρ r) (g1.ln r) (g1.tk r) (g1.own r) g1.S w none ⟨rfl,rfl,rfl,Aj _⟩ (fun _ _ _=>rfl) (fun b e=>by cases e) (fun _ _ h=>h) (fun _ _ h=>.inl h) (fun b o e=>by cases e) (fun b hh _=>by cases hh) (by simp)
     (fun _=>⟨rfl,Aj _,fun _=>rfl,fun _=>rfl⟩) (fun _ _=>trivial)
    exact⟨_,_,fin _ _ _ k1 (i2.trans k2) (by rw[J3 hn];exact(i3.slice_none.up _).le k2),hk⟩
   ·rename_i k;split at hk
    ·exact same hk
    ·rename_i hb;have DC:k+1≠r:=fun e=>by rw[e]at hb;exact absurd (CW r) (by rw[hb];decide)
     split at hk
     ·rename_i hf;obtain⟨hn,hk⟩:=hk;rcases a2 with ⟨b1,b2,b3⟩ | ⟨b,cap,E,vs,b1,b2,b3,b4,b5,b6,b7⟩
      ·subst b1;have hv:=J3 hn
       obtain⟨k1,k2⟩:=hS.inv.upd r .dead (g.ρ r) (g.ln r) (g.tk r) (g.own r) g.S w none ⟨rfl,rfl,rfl,Aj _⟩ (fun _ _ _=>rfl) (fun b e=>by cases e) (fun _ _ h=>h) (fun _ _ h=>.inl h) (fun b o e=>by cases e) (fun b hh _=>by cases hh) (by simp)
        (fun _=>⟨rfl,Aj _,fun _=>rfl,fun _=>rfl⟩) (fun _ _=>trivial)
       have uE:AW st.h r .dead (k+1)=.free:=by rw[BY _ _ _ _ DC];exact hf
       obtain⟨m1,m2⟩:=k1.upd (k+1) (.arr sz []) (.slice none 0 0) 0 true none (g.upd r (g.ρ r) (g.ln r) (g.tk r) (g.own r) g.S).S w none ⟨rfl,rfl,rfl,Aj _⟩ (fun _ _ _=>rfl) (fun b e=>by cases e) (fun _ _ h=>h) (fun _ _ h=>.inl h) (fun b o e=>by cases e) (fun b _ e=>by cases e) (by simp)
        (fun hu=>absurd uE hu) (fun _ _=>by
         obtain⟨u1,u2,u3,u4⟩:=Bz (g.upd r (g.ρ r) (g.ln r) (g.tk r) (g.own r) g.S) (k+1) (.slice none 0 0) 0 true none (g.upd r (g.ρ r) (g.ln r) (g.tk r) (g.own r) g.S).S;exact⟨u3,u2,by simp,.inl ⟨rfl,u1,u4⟩⟩)
       refine⟨_,_,fin _ _ _ m1 (k2.trans m2) ?_,hk⟩;rw[hv,b2,hn];exact .msl _ (k+1) 0 none 0 (by unfold AR;rw[Bd];simp) (by simp[Gh.upd]) (AO _) (.inl rfl) (fun _=>by simp[Gh.upd])
      ·have hv:=J3 hn;obtain⟨m1,m2⟩:=hS.inv.move r (k+1) DC hf hl b2 (.arr sz es) (g.ρ r) es.length true (by simp) (fun HQ=>by
        obtain⟨u1,u2,u3,u4⟩:=Bz g (k+1) (g.ρ r) es.length true (some b) g.S;exact⟨u3,u2,al,.inr ⟨b,cap,E,vs,u1.trans b1,u4,b3,b4,b5,b6.mono HQ (fun _ h=>h) (fun _ h=>h.elim),b7⟩⟩)
       refine⟨_,_,fin _ _ _ m1 m2 ?_,hk⟩;rw[hv,b1,hn];exact .msl _ (k+1) es.length _ cap (by unfold AR;rw[Bd];simp) (by simp[Gh.upd]) (by simp[Gh.upd]) (.inr ⟨b,rfl⟩) (fun _=>by simp[Gh.upd])
     ·exact hk.elim
  ·exact same hk
 ·exact same hk
theorem mD(hS:SR N ds w0 g0 h0 st g a w){o k j:Nat}{K:(Nat→HO)→Prop}(hk:te st.h o k j K):∃h' g',SR N ds w0 g0 h0 ⟨st.t,h'⟩ g' a w∧K h':=by
 unfold te at hk;split at hk
 ·rename_i cs e0;split at hk
  ·rename_i r n e1;split at hk
   ·rename_i sz es e2;split at hk
    ·rename_i hf;obtain⟨hn,hk⟩:=hk;have ho:=hS.inv.objs r;rw[e2]at ho;obtain⟨t1,l1,al,a2⟩:=ho;have hl:(st.h r).live:=by rw[e2];trivial
     have DC:j≠r:=fun e=>by rw[e,e2]at hf;cases hf
     have jh:o≠r:=fun e=>by rw[e,e2]at e0;cases e0
     have kd:o≠j:=fun e=>by rw[e,hf]at e0;cases e0
     -- the array goes to the new id,which stands for the same slice
     have step:∃g1,DJ w0 g0 h0 (AW (AW st.h r .dead) j (.arr sz es)) g1 w∧Le st.h g w (AW (AW st.h r .dead) j (.arr sz es)) g1 w∧g1.tk j=true∧g1.ln j=es.length∧g1.ρ j=g.ρ r:=by
      rcases a2 with ⟨b1,b2,b3⟩ | ⟨b,cap,E,vs,b1,b2,b3,b4,b5,b6,b7⟩
      ·subst b1
       obtain⟨k1,k2⟩:=hS.inv.upd r .dead (g.ρ r) (g.ln r) (g.tk r) (g.own r) g.S w none ⟨rfl,rfl,rfl,Aj _⟩ (fun _ _ _=>rfl) (fun b e=>by cases e) (fun _ _ h=>h) (fun _ _ h=>.inl h) (fun b o e=>by cases e) (fun b hh _=>by cases hh) (by simp)
        (fun _=>⟨rfl,Aj _,fun _=>rfl,fun _=>rfl⟩) (fun _ _=>trivial)
       have uE:AW st.h r .dead j=.free:=by rw[BY _ _ _ _ DC];exact hf
       obtain⟨m1,m2⟩:=k1.upd j (.arr sz []) (.slice none 0 0) 0 true none (g.upd r (g.ρ r) (g.ln r) (g.tk r) (g.own r) g.S).S w none ⟨rfl,rfl,rfl,Aj _⟩ (fun _ _ _=>rfl) (fun b e=>by cases e) (fun _ _ h=>h) (fun _ _ h=>.inl h) (fun b o e=>by cases e) (fun b _ e=>by cases e) (by simp)
        (fun hu=>absurd uE hu) (fun _ _=>by
         obtain⟨u1,u2,u3,u4⟩:=Bz (g.upd r (g.ρ r) (g.ln r) (g.tk r) (g.own r) g.S) j (.slice none 0 0) 0 true none (g.upd r (g.ρ r) (g.ln r) (g.tk r) (g.own r) g.S).S;exact⟨u3,u2,by simp,.inl ⟨rfl,u1,u4⟩⟩)
       exact⟨_,m1,k2.trans m2,by simp[Gh.upd],by simp[Gh.upd],by simp[Gh.upd,b2]⟩
      ·obtain⟨m1,m2⟩:=hS.inv.move r j DC hf hl b2 (.arr sz es) (g.ρ r) es.length true (by simp) (fun HQ=>by
        obtain⟨u1,u2,u3,u4⟩:=Bz g j (g.ρ r) es.length true (some b) g.S;exact⟨u3,u2,al,.inr ⟨b,cap,E,vs,u1.trans b1,u4,b3,b4,b5,b6.mono HQ (fun _ h=>h) (fun _ h=>h.elim),b7⟩⟩)
       exact⟨_,m1,m2,by simp[Gh.upd],by simp[Gh.upd],by simp[Gh.upd]⟩
     obtain⟨g1,i1,i2,j1,j2,j3⟩:=step
     -- the cell
     have ho:=hS.inv.objs o;rw[e0]at ho;have xR:=i1.objs o;rw[BY _ _ _ _ kd,BY _ _ _ _ jh,e0]at xR;obtain⟨t2,b,E,vs,c1,c2,c3,c4,c5⟩:=xR;obtain⟨_,b',E',dR,jC,yT,w6,yV,_⟩:=ho;have hb:b'=b:=by
      have h2:=i2.gh o (by unfold AR;rw[e0];simp);have h3:=h2.2.2.1 (by assumption);rw[h3,yT]at c2;cases c2;rfl
     subst hb;rw[c3]at w6;cases w6;have cn:(AW (AW st.h r .dead) j (.arr sz es) o).live:=by rw[BY _ _ _ _ kd,BY _ _ _ _ jh,e0];trivial
     have XG:=TA cs k _ _ e1
     obtain⟨k1,k2⟩:=i1.upd o (.cells (Ey cs k (.msl j n))) (g1.ρ o) (g1.ln o) (g1.tk o) (g1.own o) g1.S w none ⟨rfl,rfl,rfl,Aj _⟩ (fun _ _ _=>rfl) (fun b e=>by cases e) (fun _ _ h=>h) (fun _ _ h=>.inl h)
      (fun b o e=>by cases e) (fun b' _ e=>⟨(i1.loc o b' cn e).1,.inl ⟨cn,e⟩⟩) (by simp) (fun _=>⟨rfl,Aj _,fun _=>rfl,fun _=>rfl⟩) (fun hg Ul=>by
       obtain⟨u1,u2,u3,u4⟩:=Bz g1 o (g1.ρ o) (g1.ln o) (g1.tk o) (g1.own o) g1.S;have K5:∀i,AR (AW (AW st.h r .dead) j (.arr sz es)) i→AR (AW (AW (AW st.h r .dead) j (.arr sz es)) o (.cells (Ey cs k (.msl j n)))) i:=fun i hi=>DP (by simp) i hi;refine⟨u3.trans t2,_,E,vs,u4.trans c1,u1.trans c2,c3,⟨by rw[KH];exact c4.1,c4.2.1,fun i av x q1 q2=>?_⟩,c5⟩;rcases KG cs k _ i av q1 with ⟨rfl,rfl⟩ | q
       ·have hx:=yV.2.2 i _ x XG q2;have hm:BH g1 w (AR (AW (AW st.h r .dead) j (.arr sz es))) (.msl j n) x:=by
         cases hx with
         |msl _ _ _ a cap hu ht' XJ ha LG =>
         refine .msl _ _ _ _ _ (by unfold AR;rw[Bd];simp) j1 (by omega) ha (fun e=>?_);rw[j3];exact LG (hn.trans l1.symm)
        exact hm.mono Ul K5 hg
       ·exact(c4.2.2 i av x q q2).mono Ul K5 hg)
     exact⟨_,_,⟨k1,hS.le.trans (i2.trans k2),hS.dfs,hS.size,fun i=>(hS.slots i).le (i2.trans k2)⟩,hk⟩
    ·exact hk.elim
   ·exact hk.elim
  ·exact hk.elim
 ·exact hk.elim
theorem Oi{h:Nat→HO}(hI:DJ w0 g0 h0 h g w){o k:Nat}{cs:List AV}(e0:h o=.cells cs){old new:AV}(hk:cs[k]?=some old)(D4:∀x:Value,BH g w (AR h) old x→BH g w (AR h) new x) :
  ∃g',DJ w0 g0 h0 (AW h o (.cells (Ey cs k new))) g' w∧Le h g w (AW h o (.cells (Ey cs k new))) g' w:=by
 have ho:=hI.objs o;rw[e0]at ho;obtain⟨t1,b,E,vs,a1,a2,a3,a4,a5⟩:=ho;have hl:(h o).live:=by rw[e0];trivial
 obtain⟨k1,k2⟩:=hI.upd o (.cells (Ey cs k new)) (g.ρ o) (g.ln o) (g.tk o) (g.own o) g.S w none ⟨rfl,rfl,rfl,Aj _⟩ (fun _ _ _=>rfl) (fun b e=>by cases e) (fun _ _ h=>h) (fun _ _ h=>.inl h)
  (fun b o e=>by cases e) (fun b' _ e=>⟨(hI.loc o b' hl e).1,.inl ⟨hl,e⟩⟩) (by simp) (fun _=>⟨rfl,Aj _,fun _=>rfl,fun _=>rfl⟩) (fun hg Ul=>by
   obtain⟨u1,u2,u3,u4⟩:=Bz g o (g.ρ o) (g.ln o) (g.tk o) (g.own o) g.S;have K5:∀i,AR h i→AR (AW h o (.cells (Ey cs k new))) i:=fun i hi=>DP (by simp) i hi;refine⟨u3.trans t1,b,E,vs,u4.trans a1,u1.trans a2,a3,⟨by rw[KH];exact a4.1,a4.2.1,fun i av x q1 q2=>?_⟩,a5⟩;rcases KG cs k _ i av q1 with ⟨rfl,rfl⟩ | q
   ·exact(D4 x (a4.2.2 i _ x hk q2)).mono Ul K5 hg
   ·exact(a4.2.2 i av x q q2).mono Ul K5 hg)
 exact⟨_,k1,k2⟩
theorem I7:∀(cs:List AV) (k:Nat) (a:AV),I0 cs k=a→a≠.junk→cs[k]?=some a
 | [],_,a,h,hn=>by simp only[I0]at h;exact absurd h.symm hn
 |_::_,0,_,h,_=>by unfold I0 at h;simp[h]
 |_::cs,k+1,a,h,hn=>by unfold I0 at h;simpa using I7 cs k a h hn
theorem DJ.moveV{h:Nat→HO}(hI:DJ w0 g0 h0 h g w)(r r2 v:Nat)(DC:r2≠r)(hf:h r2=.vox v)(hl:(h r).live)(o' : HO)(x:Value)(n:Nat)(hv:v<n)(hn:o'≠.free)
  (Jf:EY g w (g.upd r2 x n true (g.own r) g.S) w→Eg (g.upd r2 x n true (g.own r) g.S) w (AR (AW (AW h r .dead) r2 o')) r2 o') :
  DJ w0 g0 h0 (AW (AW h r .dead) r2 o') (g.upd r2 x n true (g.own r) g.S) w∧Le h g w (AW (AW h r .dead) r2 o') (g.upd r2 x n true (g.own r) g.S) w:=by
 have lX:=hI.objs r2;rw[hf]at lX;obtain⟨xZ,cn⟩:=lX;have dM:JU g (g.upd r2 x n true (g.own r) g.S) (AR h):=by
  intro i hi
  by_cases e:i=r2
  ·subst e;refine⟨by simp[Gh.upd,xZ],by simp[Gh.upd];omega,fun e=>(by rw[xZ]at e;cases e),fun e=>?_⟩;simp[Gh.upd]at e;omega
  ·exact⟨by simp[Gh.upd,e],by simp[Gh.upd,e],fun _=>by simp[Gh.upd,e],fun _=>by simp[Gh.upd,e]⟩
 have hK:EY g w (g.upd r2 x n true (g.own r) g.S) w:=fun b o hb=>⟨hb,rfl,fun _ _ h=>h⟩;have K5:∀i,AR h i→AR (AW (AW h r .dead) r2 o') i:=fun i hi=>DP hn i (DP (by simp) i hi);have key:∀i,i≠r2→(AW (AW h r .dead) r2 o' i).live→i≠r∧(h i).live:=fun i h2 hl=>by
  rw[BY _ _ _ _ h2]at hl
  by_cases e:i=r
  ·subst e;rw[Bd]at hl;exact hl.elim
  ·rw[BY _ _ _ _ e]at hl;exact⟨e,hl⟩
 have own:∀i,i≠r2→(g.upd r2 x n true (g.own r) g.S).own i=g.own i:=fun i e=>by simp[Gh.upd,e]
 have TF:(g.upd r2 x n true (g.own r) g.S).own r2=g.own r:=by simp[Gh.upd]
 refine⟨⟨hI.os,hI.tape,hI.output,hI.size,hI.frame,hI.slt,fun i=>?_,fun i j c hi hj ei ej=>?_,fun i c hi ei=>?_,hI.sg,hI.glob.keep hK⟩,dM,K5,hK⟩
 ·by_cases e:i=r2
  ·subst e;rw[Bd];exact Jf hK
  ·rw[BY _ _ _ _ e]
   by_cases e1:i=r
   ·subst e1;rw[Bd];trivial
   ·rw[BY _ _ _ _ e1];exact(hI.objs i).same hK K5 dM (by simp[Gh.upd,e]) (by simp[Gh.upd,e]) (by simp[Gh.upd,e]) (by simp[Gh.upd,e]) (fun b hl hb=>⟨rfl,fun k hk=>hk⟩)
 ·by_cases e1:i=r2<;>by_cases e2:j=r2
  ·exact e1.trans e2.symm
  ·subst e1;rw[TF]at ei;rw[own j e2]at ej;obtain⟨a1,a2⟩:=key j e2 hj;exact absurd (hI.inj j r _ a2 hl ej ei) a1
  ·subst e2;rw[TF]at ej;rw[own i e1]at ei;obtain⟨a1,a2⟩:=key i e1 hi;exact absurd (hI.inj i r _ a2 hl ei ej) a1
  ·rw[own i e1]at ei;rw[own j e2]at ej;exact hI.inj i j c (key i e1 hi).2 (key j e2 hj).2 ei ej
 ·by_cases e1:i=r2
  ·subst e1;rw[TF]at ei;exact hI.loc r _ hl ei
  ·rw[own i e1]at ei;exact hI.loc i c (key i e1 hi).2 ei
theorem oD(hS:SR N ds w0 g0 h0 st g a w){o k d:Nat}{K:(Nat→HO)→Prop}(hk:wX st.h o k d K):∃h' g',SR N ds w0 g0 h0 ⟨st.t,h'⟩ g' a w∧K h':=by
 unfold wX at hk;split at hk
 ·rename_i cs e0;split at hk
  ·rename_i r sz v es e1;split at hk
   ·rename_i Gj v' n e2;split at hk
    ·rename_i hf;obtain⟨⟨rfl,rfl⟩,hk⟩:=hk;have ho:=hS.inv.objs r;rw[e2]at ho;obtain⟨t1,l1,a0,cap,r1,a2⟩:=ho;have hl:(st.h r).live:=by rw[e2];trivial
     have DC:d≠r:=fun e=>by rw[e,e2]at hf;cases hf
     have jh:o≠r:=fun e=>by rw[e,e2]at e0;cases e0
     have uT:o≠d:=fun e=>by rw[e,hf]at e0;cases e0
     have XG:=I7 cs k _ e1 (by simp)
     -- the value that stands in the cell
     have xT:=hS.inv.objs o;rw[e0]at xT;obtain⟨_,b',E',dR,c1,c2,c3,c4,_⟩:=xT;obtain⟨x,hx1,_,o7⟩:=c4.at XG;have jk:x=.slice a0 n cap∧es.length=n∧BH g w Fp (.slice .none es) x∧∀c∈es,c.length=sz:=by
      have h3:=o7.slice_none;cases o7 with
      |ver _ _ _ _ _ _ h WN hu ht hn hx =>
       have:=hx l1.symm
       rw[r1]at this;subst this;refine⟨rfl,?_,h3,WN⟩;cases h3 with
       |snil=>rfl
       |slice=>rfl
     obtain⟨hxe,hn,hx3,WN⟩:=jk;subst hn;obtain⟨m1,m2⟩:=hS.inv.moveO r d DC hf hl (ob:=g.own r) (fun c h=>h) (.tok sz es.length) (.slice a0 es.length cap) es.length true (by simp) (fun HQ=>by
      obtain⟨u1,u2,u3,u4⟩:=Bz g d (.slice a0 es.length cap) es.length true (g.own r) g.S;refine⟨u3,u2,a0,cap,u1,?_⟩;rw[u4];exact a2)
     generalize SP:g.upd d (.slice a0 es.length cap) es.length true (g.own r) g.S=g1 at m1 m2;have gr:g1.tk r=true∧g1.ln r=v:=by rw[←SP];simp[Gh.upd,Ne.symm DC,t1,l1]
     have gd:g1.tk d=true∧g1.ln d=es.length∧g1.ρ d=.slice a0 es.length cap:=by rw[←SP];simp[Gh.upd]
     -- the id keeps its version
     have u6:(AW (AW st.h r .dead) d (.tok sz es.length)) r=.dead:=by rw[BY _ _ _ _ (Ne.symm DC),Bd]
     obtain⟨n1,n2⟩:=m1.upd r (.vox v) (g1.ρ r) (g1.ln r) (g1.tk r) (g1.own r) g1.S w none ⟨rfl,rfl,rfl,Aj _⟩ (fun _ _ _=>rfl) (fun b e=>by cases e) (fun _ _ h=>h) (fun _ _ h=>.inl h) (fun b o e=>by cases e) (fun b hh _=>by cases hh) (by simp)
      (fun _=>⟨rfl,Aj _,fun _=>rfl,fun _=>rfl⟩) (fun _ _=>by
       obtain⟨u1,u2,u3,u4⟩:=Bz g1 r (g1.ρ r) (g1.ln r) (g1.tk r) (g1.own r) g1.S;exact⟨u3.trans gr.1,u2.trans gr.2⟩)
     have hh:AW (AW (AW st.h r .dead) d (.tok sz es.length)) r (.vox v)=AW (AW st.h r (.vox v)) d (.tok sz es.length):=by
      funext i
      unfold AW
      by_cases e:i=r
      ·subst e;rw[CW,CL (Ne.symm DC)];rfl
      ·rw[CL e];rfl
     rw[hh]at n1 n2;generalize fM:g1.upd r (g1.ρ r) (g1.ln r) (g1.tk r) (g1.own r) g1.S=g2 at n1 n2;have sc:g2.tk d=true∧g2.ln d=es.length∧g2.ρ d=.slice a0 es.length cap:=by rw[←fM];simp[Gh.upd,DC,gd]
     have mZ : (AW (AW st.h r (.vox v)) d (.tok sz es.length)) o=.cells cs:=by rw[BY _ _ _ _ uT,BY _ _ _ _ jh,e0]
     have L2:=m2.trans n2;have Aa2:g2.ρ o=g.ρ o:=(L2.gh o (by unfold AR;rw[e0];simp)).2.2.1 (by assumption);obtain⟨g3,p1,p2⟩:=Oi n1 mZ XG (new:=.slice (.id d sz) es) (fun y hy=>by
      have h3:=hy.slice_none;have xh:g2.ln r=v∧g2.ρ r=.slice a0 es.length cap:=by rw[←fM,←SP];simp[Gh.upd,Ne.symm DC,l1,r1]
      have qY:y=.slice a0 es.length cap:=by
       cases hy with
       |ver _ _ _ _ _ _ h WN hu ht hn hx=>exact(hx xh.1.symm).trans xh.2
      subst qY;exact .tok _ d sz es _ (h3.up _) WN (by unfold AR;rw[Bd];simp) sc.1 (by rw[sc.2.1];exact Aj _) (fun _=>sc.2.2.symm))
     exact⟨_,g3,⟨p1,hS.le.trans (L2.trans p2),hS.dfs,hS.size,fun i=>(hS.slots i).le (L2.trans p2)⟩,hk⟩
    ·exact hk.elim
   ·exact hk.elim
  ·exact⟨_,g,hS,hk⟩
 ·exact hk.elim
theorem iy(hS:SR N ds w0 g0 h0 st g a w){o k r:Nat}{K:(Nat→HO)→Prop}(hk:sX st.h o k r K):∃h' g',SR N ds w0 g0 h0 ⟨st.t,h'⟩ g' a w∧K h':=by
 unfold sX at hk;split at hk
 ·rename_i cs e0;split at hk
  ·rename_i d sz es e1;split at hk
   ·rename_i Gj n e2;split at hk
    ·rename_i v hf;obtain⟨⟨hn,rfl⟩,hk⟩:=hk;subst hn;have ho:=hS.inv.objs d;rw[e2]at ho;obtain⟨t1,l1,a0,cap,r1,a2⟩:=ho;have hl:(st.h d).live:=by rw[e2];trivial
     have DC:r≠d:=fun e=>by rw[e,e2]at hf;cases hf
     have uT:o≠d:=fun e=>by rw[e,e2]at e0;cases e0
     have jh:o≠r:=fun e=>by rw[e,hf]at e0;cases e0
     have XG:=I7 cs k _ e1 (by simp);obtain⟨m1,m2⟩:=hS.inv.moveV d r v DC hf hl (.var sz (v+1) es.length) (.slice a0 es.length cap) (v+1) (GL v) (by simp) (fun HQ=>by
      obtain⟨u1,u2,u3,u4⟩:=Bz g r (.slice a0 es.length cap) (v+1) true (g.own d) g.S;refine⟨u3,u2,a0,cap,u1,?_⟩;rw[u4];exact a2)
     generalize SP:g.upd r (.slice a0 es.length cap) (v+1) true (g.own d) g.S=g1 at m1 m2;have gr:g1.tk r=true∧g1.ln r=v+1∧g1.ρ r=.slice a0 es.length cap:=by rw[←SP];simp[Gh.upd]
     have gd:g1.ln d=es.length∧g1.ρ d=.slice a0 es.length cap:=by rw[←SP];simp[Gh.upd,Ne.symm DC,l1,r1]
     have mZ : (AW (AW st.h d .dead) r (.var sz (v+1) es.length)) o=.cells cs:=by rw[BY _ _ _ _ jh,BY _ _ _ _ uT,e0]
     obtain⟨g3,p1,p2⟩:=Oi m1 mZ XG (new:=.slice (.ver r sz (v+1)) es) (fun y hy=>by
      have h3:=hy.slice_none;have qY:y=.slice a0 es.length cap∧∀c∈es,c.length=sz:=by
       cases hy with
       |tok _ _ _ _ _ h WN hu ht hn hx=>exact⟨(hx gd.1.symm).trans gd.2,WN⟩
      obtain⟨qY,WN⟩:=qY;subst qY;exact .ver _ r sz (v+1) es _ (h3.up _) WN (by unfold AR;rw[Bd];simp) gr.1 (by rw[gr.2.1];exact Aj _) (fun _=>gr.2.2.symm))
     exact⟨_,g3,⟨p1,hS.le.trans (m2.trans p2),hS.dfs,hS.size,fun i=>(hS.slots i).le (m2.trans p2)⟩,hk⟩
    ·exact hk.elim
   ·exact hk.elim
  ·exact⟨_,g,hS,hk⟩
 ·exact hk.elim
theorem nY(hS:SR N ds w0 g0 h0 st g a w){r:Nat}{K:(Nat→HO)→Prop}(hk:vE st.h r K):∃h' g',SR N ds w0 g0 h0 ⟨st.t,h'⟩ g' a w∧K h':=by
 unfold vE at hk;split at hk
 ·rename_i hf
  obtain⟨m1,m2⟩:=hS.inv.upd r (.vox 0) (.slice none 0 0) 0 true none g.S w none ⟨rfl,rfl,rfl,Aj _⟩ (fun _ _ _=>rfl) (fun b e=>by cases e) (fun _ _ h=>h) (fun _ _ h=>.inl h) (fun b o e=>by cases e) (fun b hh _=>by cases hh) (by simp)
   (fun hu=>absurd hf hu) (fun _ _=>by
    obtain⟨u1,u2,u3,u4⟩:=Bz g r (.slice none 0 0) 0 true none g.S;exact⟨u3,u2⟩)
  exact⟨_,_,⟨m1,hS.le.trans m2,hS.dfs,hS.size,fun i=>(hS.slots i).le m2⟩,hk⟩
 ·exact hk.elim
theorem iu(hS:SR N ds w0 g0 h0 st g a w){o k:Nat}{K:(Nat→HO)→Prop}(hk:sW st.h o k K):∃h' g',SR N ds w0 g0 h0 ⟨st.t,h'⟩ g' a w∧K h':=by
 unfold sW at hk;split at hk
 ·rename_i cs e0;split at hk
  ·rename_i r e1;split at hk
   ·rename_i sh B3 e2;have XG:=I7 cs k _ e1 (by simp);obtain⟨g3,p1,p2⟩:=Oi hS.inv e0 XG (new:=.cmap sh B3) (fun y hy=>by
     have e3:rsv st.h (.mref r)=.cmap sh B3:=by
      show(match st.h r with | .rom sh B3=>AV.cmap sh B3 | _=>.mref r)=_;rw[e2]
     rw[←e3];exact BH.rsv hS.inv.objs hy)
    exact⟨_,g3,⟨p1,hS.le.trans p2,hS.dfs,hS.size,fun i=>(hS.slots i).le p2⟩,hk⟩
   ·exact hk.elim
  ·exact hk.elim
 ·exact hk.elim
theorem oK(hS:SR N ds w0 g0 h0 st g a w){o k j sz:Nat}{K:(Nat→HO)→Prop}(hk:wY st.h o k j sz K):∃h' g',SR N ds w0 g0 h0 ⟨st.t,h'⟩ g' a w∧K h':=by
 unfold wY at hk;split at hk
 ·rename_i cs e0;split at hk
  ·rename_i e1;split at hk
   ·rename_i hf;have jh:o≠j:=fun e=>by rw[e,hf]at e0;cases e0
    have XG:=I7 cs k _ e1 (by simp)
    obtain⟨m1,m2⟩:=hS.inv.upd j (.arr sz []) (.slice none 0 0) 0 true none g.S w none ⟨rfl,rfl,rfl,Aj _⟩ (fun _ _ _=>rfl) (fun b e=>by cases e) (fun _ _ h=>h) (fun _ _ h=>.inl h) (fun b o e=>by cases e) (fun b hh e=>by first | (cases e;done) | (exact absurd hh.2 (by simp))) (by simp)
     (fun hu=>absurd hf hu) (fun _ _=>by
      obtain⟨u1,u2,u3,u4⟩:=Bz g j (.slice none 0 0) 0 true none g.S;exact⟨u3,u2,(fun cs hc=>by cases hc),.inl ⟨rfl,u1,u4⟩⟩)
    generalize SP:g.upd j (.slice none 0 0) 0 true none g.S=g1 at m1 m2;have gr:g1.tk j=true∧g1.ln j=0∧g1.ρ j=.slice none 0 0:=by rw[←SP];simp[Gh.upd]
    have mZ : (AW st.h j (.arr sz [])) o=.cells cs:=by rw[BY _ _ _ _ jh,e0]
    obtain⟨g3,p1,p2⟩:=Oi m1 mZ XG (new:=.msl j 0) (fun y hy=>by
     cases hy
     exact .msl _ j 0 none 0 (by unfold AR;rw[Bd];simp) gr.1 (AO _) (.inl rfl) (fun _=>gr.2.2.symm))
    exact⟨_,g3,⟨p1,hS.le.trans (m2.trans p2),hS.dfs,hS.size,fun i=>(hS.slots i).le (m2.trans p2)⟩,hk⟩
   ·exact hk.elim
  ·exact hk.elim
 ·exact hk.elim
theorem eK{cx:Cx}{id:Nat}(hS:SR N ds w0 g0 h0 st g a w){K:(Nat→HO)→Prop}(hk:ua cx id st.h fun h=>sV cx id h fun h=>rD cx id h fun h=>pj cx id h K):∃h' g',SR N ds w0 g0 h0 ⟨st.t,h'⟩ g' a w∧K h':=by
 have h1:∃h' g',SR N ds w0 g0 h0 ⟨st.t,h'⟩ g' a w∧sV cx id h' fun h=>rD cx id h fun h=>pj cx id h K:=by
  unfold ua at hk;split at hk
  ·obtain⟨g',i1,i2⟩:=ao hS.inv _;exact⟨_,g',⟨i1,hS.le.trans i2,hS.dfs,hS.size,fun i=>(hS.slots i).le i2⟩,hk⟩
  ·exact⟨_,g,hS,hk⟩
 obtain⟨h1,g1,S1,hk⟩:=h1;have h2:∃h' g',SR N ds w0 g0 h0 ⟨st.t,h'⟩ g' a w∧rD cx id h' fun h=>pj cx id h K:=by
  unfold sV at hk;split at hk
  ·exact iu S1 hk
  ·exact⟨_,g1,S1,hk⟩
 obtain⟨h2,g2,S2,hk⟩:=h2;have h3:∃h' g',SR N ds w0 g0 h0 ⟨st.t,h'⟩ g' a w∧pj cx id h' K:=by
  unfold rD at hk;split at hk
  ·exact iu S2 hk
  ·exact⟨_,g2,S2,hk⟩
 obtain⟨h3,g3,S3,hk⟩:=h3;unfold pj at hk;split at hk
 ·exact oK S3 hk
 ·exact⟨_,g3,S3,hk⟩
theorem nC(hS:SR N ds w0 g0 h0 st g a w){r:Nat}{K:(Nat→HO)→Prop}(hk:uR st.h r K):∃h' g',SR N ds w0 g0 h0 ⟨st.t,h'⟩ g' a w∧K h':=by
 unfold uR at hk;split at hk
 ·rename_i sz es i c j m er;split at hk
  ·exact hk.elim
  ·rename_i hb;have DC:r≠j:=fun e=>by rw[e]at hb;exact absurd (CW j) (by rw[hb];decide)
   split at hk
   ·rename_i bl qs ej;obtain⟨hm,cs,hi,hc,hk⟩:=hk;have ho:=hS.inv.objs r;rw[er]at ho;obtain⟨t1,l1,al,b,cap,E,vs,e1,e2,e3,e4,e5,e6,e7,e8,x,e9,pU⟩:=ho;obtain⟨g1,i1,i2,i3,i4⟩:=VR hS.inv ej;have dQ:x=g.ρ j:=by
     cases pU with
     |msl _ _ _ _ _ _ _ _ _ hz=>exact hz (hm.trans i4.symm)
    obtain⟨k1,k2⟩:=i1.upd j .dead (g1.ρ j) (g1.ln j) (g1.tk j) (g1.own j) g1.S w none ⟨rfl,rfl,rfl,Aj _⟩ (fun _ _ _=>rfl) (fun b e=>by cases e) (fun _ _ h=>h) (fun _ _ h=>.inl h) (fun b o e=>by cases e) (fun b hh _=>by cases hh) (by simp)
     (fun _=>⟨rfl,Aj _,fun _=>rfl,fun _=>rfl⟩) (fun _ _=>trivial)
    generalize fM:g1.upd j (g1.ρ j) (g1.ln j) (g1.tk j) (g1.own j) g1.S=g2 at k1 k2;have D4:BH g2 w Fp (.slice .none qs) x:=by rw[dQ];exact i3.slice_none.mono k2.keeps (fun _ h=>h) (fun _ h=>h.elim)
    have pW:AW (AW st.h j (.tok bl qs.length)) j .dead r=.hol sz es i c (.msl j m):=by rw[BY _ _ _ _ DC,BY _ _ _ _ DC,er]
    have xS:=k1.objs r;rw[pW]at xS;obtain⟨t1',sM,r4,b',LF,E',dR,f1,f2,f3,f4,f5,f6,f7,f8,x',f9,f10⟩:=xS;have hl:(AW (AW st.h j (.tok bl qs.length)) j .dead r).live:=by rw[pW];trivial
    have hρ:g2.ρ r=g.ρ r:=by
     have q1:=(i2.trans k2).gh r (by unfold AR;rw[er];simp);exact q1.2.2.2 (sM.trans l1.symm)
    have dP:dR=vs:=by
     rw[f1,e1]at hρ;cases hρ;rw[f4]at e4;cases e4;rfl
    subst dP;have hxx:x'=x:=by rw[e9]at f9;cases f9;rfl
    subst hxx;have DI:=(At.1 hi).1;have hcl:=r4 cs (Av hi);have hfl:=L5 r4 hi c [AV.slice .none qs] (by simp only[Au,AC];omega);have CI:es.flatten.length=es.length*sz:=Df r4
    obtain⟨m1,m2⟩:=k1.upd r (.arr sz (es.set i (over cs c [.slice .none qs]))) (g2.ρ r) (g2.ln r) (g2.tk r) (g2.own r) g2.S w none ⟨rfl,rfl,rfl,Aj _⟩ (fun _ _ _=>rfl) (fun b e=>by cases e) (fun _ _ h=>h) (fun _ _ h=>.inl h)
     (fun b o e=>by cases e) (fun b' _ e=>⟨(k1.loc r b' hl e).1,.inl ⟨hl,e⟩⟩) (by simp) (fun _=>⟨rfl,Aj _,fun _=>rfl,fun _=>rfl⟩) (fun hg HQ=>by
      obtain⟨u1,u2,u3,u4⟩:=Bz g2 r (g2.ρ r) (g2.ln r) (g2.tk r) (g2.own r) g2.S;refine⟨u3.trans t1',u2.trans (by rw[CU];exact sM),fun d hd=>?_,.inr ⟨b',LF,E',dR,by rw[u1,f1,CU],u4.trans f2,by rw[CU];exact f3,f4,f5,?_,f7⟩⟩
      ·rcases F1 hd with hd | rfl
       ·exact r4 d hd
       ·rw[FF];exact hcl
      ·rw[hfl,CU];refine⟨by rw[FF];exact f6.1,f6.2.1,fun p av y q1 q2=>?_⟩;rw[FE _ _ _ _ (by rw[CI];simp only[Au,AC];omega)]at q1;split at q1
       ·rename_i hp;have fU:p=i*sz+c:=by simp only[Au,AC]at hp;omega
        subst fU;rw[F7]at q1;cases q1
        have:y=x':=by
         rw[BG f8]at q2;rw[←A3,q2]at f9;cases f9;rfl
        rw[this];exact D4.mono HQ (fun _ h=>h) (fun _ h=>h.elim)
       ·exact(f6.2.2 p av y q1 q2).mono HQ (fun _ h=>h) (fun _ h=>h.elim))
    exact⟨_,_,⟨m1,hS.le.trans ((i2.trans k2).trans m2),hS.dfs,hS.size,fun i=>((hS.slots i).le (i2.trans k2)).le m2⟩,hk⟩
   ·exact hk.elim
 ·exact hk.elim
theorem lu{cx:Cx}{id:Nat}(hS:SR N ds w0 g0 h0 st g a w){K:(Nat→HO)→Prop}(hk:oE cx id st.h K):∃h' g',SR N ds w0 g0 h0 ⟨st.t,h'⟩ g' a w∧K h':=by
 unfold oE at hk;split at hk
 ·exact oD hS hk
 ·split at hk
  ·exact iy hS hk
  ·split at hk
   ·exact nY hS hk
   ·split at hk
    ·exact nC hS hk
    ·exact eK hS hk
theorem mH(hS:SR N ds w0 g0 h0 st g a w){o k:Nat}{K:(Nat→HO)→Prop}(hk:tg st.h o k K):∃h' g',SR N ds w0 g0 h0 ⟨st.t,h'⟩ g' a w∧K h':=by
 have same:K st.h→∃h' g',SR N ds w0 g0 h0 ⟨st.t,h'⟩ g' a w∧K h':=fun hk=>⟨st.h,g,hS,hk⟩;unfold tg at hk;split at hk
 ·rename_i cs e0;split at hk
  ·rename_i r n e1;split at hk
   ·rename_i sz es e2;obtain⟨rfl,hk⟩:=hk;have DC:o≠r:=fun e=>by rw[e,e2]at e0;cases e0
    obtain⟨g1,i1,i2,i3,i4⟩:=VR hS.inv e2;have ho:=i1.objs o;rw[BY _ _ _ _ DC,e0]at ho;obtain⟨t1,b,E,vs,a1,a2,a3,a4,a5⟩:=ho;have hl:(AW st.h r (.tok sz es.length) o).live:=by rw[BY _ _ _ _ DC,e0];trivial
    have XG:=TA cs k _ _ e1;have Wg:=hS.inv.objs o;rw[e0]at Wg;obtain⟨_,b',E',dR,a1',yL,wZ,yM,_⟩:=Wg
    obtain⟨k1,k2⟩:=i1.upd o (.cells (Ey cs k (.slice (.id r sz) es))) (g1.ρ o) (g1.ln o) (g1.tk o) (g1.own o) g1.S w none ⟨rfl,rfl,rfl,Aj _⟩ (fun _ _ _=>rfl) (fun b e=>by cases e) (fun _ _ h=>h) (fun _ _ h=>.inl h)
     (fun b o e=>by cases e) (fun b' _ e=>⟨(i1.loc o b' hl e).1,.inl ⟨hl,e⟩⟩) (by simp) (fun _=>⟨rfl,Aj _,fun _=>rfl,fun _=>rfl⟩) (fun hg HQ=>by
      obtain⟨u1,u2,u3,u4⟩:=Bz g1 o (g1.ρ o) (g1.ln o) (g1.tk o) (g1.own o) g1.S;have K5:∀i,AR (AW st.h r (.tok sz es.length)) i→AR (AW (AW st.h r (.tok sz es.length)) o (.cells (Ey cs k (.slice (.id r sz) es)))) i:=fun i hi=>DP (by simp) i hi;refine⟨u3.trans t1,b,E,vs,u4.trans a1,u1.trans a2,a3,⟨by rw[KH];exact a4.1,a4.2.1,fun i av x q1 q2=>?_⟩,a5⟩;rcases KG cs k _ i av q1 with ⟨rfl,rfl⟩ | q
      ·have hx:=a4.2.2 i _ x XG q2;have dQ:x=g.ρ r:=by
        have SP:=i2.gh o (by unfold AR;rw[e0];simp);have dP:vs=dR:=by
         have e3:g1.ρ o=g.ρ o:=SP.2.2.1 (by
          have:=(hS.inv.objs o);rw[e0]at this;exact this.1)
         rw[a2,yL]at e3;cases e3;rw[a3]at wZ;cases wZ;rfl
        subst dP
        have:=yM.2.2 i _ x XG q2
        cases this with
        |msl _ _ _ _ _ _ _ _ _ hz=>exact hz i4.symm
       rw[dQ];exact i3.mono HQ K5 hg
      ·exact(a4.2.2 i av x q q2).mono HQ K5 hg)
    exact⟨_,_,⟨k1,hS.le.trans (i2.trans k2),hS.dfs,hS.size,fun i=>((hS.slots i).le i2).le k2⟩,hk⟩
   ·exact same hk
  ·exact same hk
 ·exact same hk
theorem mA{cx:Cx}{o:Oper}{K:St→Prop}(hS:SR N ds w0 g0 h0 st g a w)(hk:td cx o st K):∃Ea g',SR N ds w0 g0 h0 Ea g' a w∧K Ea:=by
 have same:K st→∃Ea g',SR N ds w0 g0 h0 Ea g' a w∧K Ea:=fun hk=>⟨st,g,hS,hk⟩;unfold td at hk;split at hk
 ·exact same hk
 ·split at hk
  ·exact same hk
  ·rename_i s _;split at hk
   ·rename_i r n ht;split at hk
    ·rename_i sz es hr;obtain⟨hn,hk⟩:=hk;subst hn;have hI:=hS.inv;have ho:=hI.objs r;rw[hr]at ho;obtain⟨t1,l1,al,a2⟩:=ho;have hl:(st.h r).live:=by rw[hr];trivial
     have WP:=hS.slots s;rw[ht]at WP;have J3:a.tmps.getD s undef=g.ρ r:=by
      generalize a.tmps.getD s undef=x at WP;cases WP with
      |msl _ r n a cap hu ht hn ha hx=>exact hx l1.symm
     have fin:∀g',DJ w0 g0 h0 (AW st.h r (.tok sz es.length)) g' w→Le st.h g w (AW st.h r (.tok sz es.length)) g' w→BH g' w (AR (AW st.h r (.tok sz es.length))) (.slice (.id r sz) es) (g.ρ r) →
       ∃Ea g',SR N ds w0 g0 h0 Ea g' a w∧K Ea:=fun g' i1 i2 i3=>by
      refine⟨_,g',⟨i1,hS.le.trans i2,hS.dfs,hS.size,fun i=>?_⟩,hk⟩;show BH g' w (AR (AW st.h r (.tok sz es.length))) (G1 st.t s (.slice (.id r sz) es) i) _
      by_cases e:i=s
      ·subst e
       have:G1 st.t i (.slice (.id r sz) es) i=.slice (.id r sz) es:=by unfold G1;simp
       rw[this,J3];exact i3
      ·have:G1 st.t s (.slice (.id r sz) es) i=st.t i:=by unfold G1;simp[CL e]
       rw[this];exact(hS.slots i).le i2
     rcases a2 with ⟨b1,b2,b3⟩ | ⟨b,cap,E,vs,b1,b2,b3,b4,b5,b6,b7⟩
     ·subst b1
      obtain⟨k1,k2⟩:=hI.upd r (.tok sz 0) (g.ρ r) (g.ln r) (g.tk r) (g.own r) g.S w none ⟨rfl,rfl,rfl,Aj _⟩ (fun _ _ _=>rfl) (fun b e=>by cases e) (fun _ _ h=>h) (fun _ _ h=>.inl h)
       (fun b o e=>by cases e) (fun b' _ e=>⟨(hI.loc r b' hl e).1,.inl ⟨hl,e⟩⟩) (by simp) (fun _=>⟨rfl,Aj _,fun _=>rfl,fun _=>rfl⟩) (fun hg hk=>by
        obtain⟨u1,u2,u3,u4⟩:=Bz g r (g.ρ r) (g.ln r) (g.tk r) (g.own r) g.S;exact⟨u3.trans t1,u2.trans l1,none,0,u1.trans b2,.inl ⟨rfl,u4.trans b3⟩⟩)
      refine fin _ k1 k2 ?_;rw[b2];exact .tok _ r sz [] _ (.snil _ _ _) (by simp) (by unfold AR;rw[Bd];simp) (by simp[Gh.upd,t1]) (by simp) (fun _=>by simp[Gh.upd])
     ·have DI:=(hI.loc r b hl b2).1
      obtain⟨k1,k2⟩:=hI.upd r (.tok sz es.length) (g.ρ r) (g.ln r) (g.tk r) (g.own r) (g.more b (es.length*sz)) w none ⟨rfl,rfl,rfl,Aj _⟩ (fun _ _ _=>rfl) (fun b e=>by cases e) (fun _ _ h=>.inl h)
       (fun b' o hs=>hs.elim .inl (fun hs=>.inr ⟨by rw[hs.1];exact DI,.inr ⟨hl,by rw[hs.1];exact b2⟩⟩)) (fun b o e=>by cases e) (fun b' _ e=>⟨(hI.loc r b' hl e).1,.inl ⟨hl,e⟩⟩) (by simp)
       (fun _=>⟨rfl,Aj _,fun _=>rfl,fun _=>rfl⟩) (fun hg hk=>by
        obtain⟨u1,u2,u3,u4⟩:=Bz g r (g.ρ r) (g.ln r) (g.tk r) (g.own r) (g.more b (es.length*sz));exact⟨u3.trans t1,u2.trans l1,_,cap,u1.trans b1,.inr ⟨b3,b,E,vs,0,rfl,u4.trans b2,b4,by rw[b5,Bi],fun o ho=>by
         rcases ho with ho | ⟨_,ho⟩
         ·exact absurd ho (b7 o)
         ·omega⟩⟩)
      refine fin _ k1 k2 ?_;rw[b1];exact .tok _ r sz es _ (BH.slice_row b4 al b3 (b6.mono k2.keeps (fun _ h=>h) (fun _ h=>h.elim)) (fun o ho=>.inr ⟨rfl,ho⟩)) al (by unfold AR;rw[Bd];simp) (by simp[Gh.upd,t1]) (by simp[Gh.upd,l1]) (fun _=>by simp[Gh.upd])
    ·exact same hk
   ·exact same hk
variable {cx:Cx}(hP:cx.P=P)(hT:Cz P cx.T)(hY:∀l σ h g w,Ek σ=true→DJ w0 g0 h0 h g w→Le h0 g0 w0 h g w→cx.yp l σ (Dx σ g) w){ro:Option Nat}{ops:Array Oper}
include hP hT hY
theorem RU{dr:Bool}{o:Oper}(hd:∀i,o.dst=some i→i<N){K:St→Prop}{next:Act→World→Prop}{Q:Exit→Act→World→Prop}(hS:SR N ds w0 g0 h0 st g a w)(hk:G4 cx dr ops.toList o st K)
  (hn:∀Ea g' a' w',K Ea→SR N ds w0 g0 h0 Ea g' a' w'→next a' w'):if Region.wanted o (yielded ops a.tmps)then o.wpIn (JB ro) 0 P a w next Q else next (a.put o.dst undef) w:=by
 have run:d5 cx dr o st K→o.wpIn (JB ro) 0 P a w next Q:=by
  intro hk;unfold d5 at hk;split at hk
  ·exact d6 hP hY hT hS hk fun v h' g' w' x q1 q2 q3 q4=>hn _ g' _ _ q1 (hS.put hd q2 q3 q4)
  ·obtain⟨g1,jY⟩:=il (cx:=cx) (o:=o) hS;obtain⟨Ea,g',SH,hk⟩:=mA jY hk;exact d6 hP hY hT SH hk fun v h' g' w' x q1 q2 q3 q4=>hn _ g' _ _ q1 (SH.put hd q2 q3 q4)
 have skip:K (st.put o.dst (.v undef) st.h)→next (a.put o.dst undef) w:=fun hk=>hn _ g _ _ hk (hS.put hd hS.inv (.refl _ _ _) (.v _ _))
 unfold G4 at hk;split at hk
 ·rename_i hg;rw[Aw (by simp[Region.wanted,hg])];exact run hk
 ·rename_i j want hg;split at hk
  ·exact hk.elim
  ·rename_i d hj;have hy:∀x:Value,BH g w (AR st.h) (st.t d) x→x=a.tmps.getD d undef→True:=fun _ _ _=>trivial;have hs:=hS.slots d;rw[Vl]at hj;have key:∀b:Bool,a.tmps.getD d undef=.bool b→yielded ops a.tmps j=some b:=by
    intro b hb;have DI:d<a.tmps.size:=by
     apply Nat.lt_of_not_le;intro oZ;rw[Cv,T5 oZ]at hb;cases hb
    simp only[yielded,hj,RQ];rw[Cv,BE DI]at hb;rw[BE DI];simp only[Cy]at hb;rw[hb]
   have vA:∀t,a.tmps.getD d undef=.tuple t→yielded ops a.tmps j=none:=by
    intro t hb;simp only[yielded,hj,RQ];cases he:a.tmps[d]? with
    |none=>rfl
    |some x =>
     rw[Cv,he]at hb;simp only[Cy]at hb;rw[hb]
   generalize hx:st.t d=x at hk hs;split at hk
   ·have:=key true hs.v_eq
    rw[Aw (by simp[Region.wanted,hg,this])];exact run hk
   ·have:=key false hs.v_eq
    rw[Aw (by simp[Region.wanted,hg,this])];exact run hk
   ·have:=key true hs.v_eq
    rw[Ah (by simp[Region.wanted,hg,this])];exact skip hk
   ·have:=key false hs.v_eq
    rw[Ah (by simp[Region.wanted,hg,this])];exact skip hk
   ·have:=vA _ hs.v_eq
    rw[Ah (by simp[Region.wanted,hg,this])];exact skip hk
   ·exact hk.elim
theorem VQ{Q:Exit→Act→World→Prop}{K:St→Prop}(hQ:∀Ea g' a' w',K Ea→SR N ds w0 g0 h0 Ea g' a' w'→Q .normal a' w') :
  ∀(l:List Oper),(∀o∈l,∀i,o.dst=some i→i<N)→∀{st:St} {g:Gh} {a:Act} {w:World},SR N ds w0 g0 h0 st g a w→Uc cx ops.toList l st K→wpListIn (JB ro) 0 P ops Q l a w
 | [],_,st,g,a,w,hS,hk=>hQ st g a w hk hS
 | [o],hd,st,g,a,w,hS,hk=>by
  have:=RU hP hT hY (ro:=ro) (hd o (Aa ..)) (next:=wpListIn (JB ro) 0 P ops Q []) (Q:=Q) hS hk fun Ea g' a' w' q1 q2=>hQ Ea g' a' w' q1 q2
  unfold wpListIn;split
  ·rename_i hw;rw[Aw hw]at this;exact this
  ·rename_i hw;rw[Ah hw]at this;exact⟨fun _ _=>trivial,this⟩
 |o::o2::l,hd,st,g,a,w,hS,hk=>by
  cases hc:Tc o o2 with
  |true =>
   have hk:bQ cx o st fun Ea=>Uc cx ops.toList l Ea K:=by
    have It:(match Tc o o2 with
     |true=>bQ cx o st fun Ea=>Uc cx ops.toList l Ea K
     |false=>G4 cx false ops.toList o st fun Ea=>Uc cx ops.toList (o2::l) Ea K):=hk
    rw[hc]at It;exact It
   obtain⟨g1,g2,h1⟩:=jK hT (ro:=ro) (o2:=o2) (hd o (Aa ..)) hc hS hk (next:=wpListIn (JB ro) 0 P ops Q l) (Q:=Q) fun Ea g' a' w' q1 q2=>VQ hQ l (fun o' lU=>hd o' (Ae _ (Ae _ lU))) q2 q1
   unfold wpListIn;rw[Aw (by simp[Region.wanted,g1])];have e:(fun(a1:Act) (w1:World)=>o2.wpIn (JB ro) 0 P a1 w1 (wpListIn (JB ro) 0 P ops Q l) Q)=wpListIn (JB ro) 0 P ops Q (o2::l):=by
    funext a1 w1
    unfold wpListIn;rw[Aw (by simp[Region.wanted,g2])]
   rw[←e];exact h1
  |false =>
   have hk:G4 cx false ops.toList o st fun Ea=>Uc cx ops.toList (o2::l) Ea K:=by
    have It:(match Tc o o2 with
     |true=>bQ cx o st fun Ea=>Uc cx ops.toList l Ea K
     |false=>G4 cx false ops.toList o st fun Ea=>Uc cx ops.toList (o2::l) Ea K):=hk
    rw[hc]at It;exact It
   have:=RU hP hT hY (ro:=ro) (hd o (Aa ..)) (next:=wpListIn (JB ro) 0 P ops Q (o2::l)) (Q:=Q) hS hk fun Ea g' a' w' q1 q2=>VQ hQ (o2::l) (fun o' lU=>hd o' (Ae _ lU)) q2 q1
   unfold wpListIn;split
   ·rename_i hw;rw[Aw hw]at this;exact this
   ·rename_i hw;rw[Ah hw]at this;exact⟨fun _ _=>trivial,this⟩
theorem VL{Q:Exit→Act→World→Prop}{K:St→Prop}{FT:Nat→Fq}(hQ:∀Ea g' a' w',K Ea→SR N ds w0 g0 h0 Ea g' a' w'→Q .normal a' w')(hd:∀(j:Nat) (o:Oper),ops[j]?=some o→∀i,o.dst=some i→i<N) :
  ∀(fuel:Nat) (listed:Array Bool) {st:St} {g:Gh} {a:Act} {w:World},SR N ds w0 g0 h0 st g a w→WW cx ops FT K fuel listed st→wpAnyIn (JB ro) 0 P .any ops Q fuel listed a w
 |0,_,st,g,a,w,hS,hk=>⟨hk.1,hQ st g a w hk.2 hS⟩
 |fuel+1,listed,st,g,a,w,hS,hk=>by
  refine⟨fun h0=>hQ st g a w (hk.1 h0) hS,fun i hi=>?_⟩;have h1:=hk.2 i hi;unfold pn at h1;unfold wpOpIn;cases ho:ops[i]? with
  |none=>rw[ho]at h1;exact VL hQ hd fuel _ hS h1
  |some o =>
   rw[ho]at h1
   have:=RU hP hT hY (ro:=ro) (hd i o ho) (next:=wpAnyIn (JB ro) 0 P .any ops Q fuel (listed.setIfInBounds i true)) (Q:=Q) hS h1.2 fun Ea g' a' w' q1 q2=>VL hQ hd fuel _ q2 q1
   dsimp only;split
   ·rename_i hw;rw[Aw hw]at this;exact this
   ·rename_i hw;rw[Ah hw]at this;exact⟨fun _ _=>trivial,this⟩
end
end Go.Eng
