/- Lemmas for the claims of this seat, without a condition: part 13 (EngZC). -/
import Derived.Test.YtmcbkdbfaneofaaGreatDoorDA12
namespace Go.Eng
section
variable {P:Program}{N:Nat}{ds:List Deferred}{w0:World}{g0:Gh}{h0 h:Nat→HO}{st:St}{g:Gh}{a:Act}{w:World}
theorem ZS(hI:DJ w0 g0 h0 h g w)(r:Nat):∃g',DJ w0 g0 h0 (eJ h r) g' w∧Le h g w (eJ h r) g' w:=by
 unfold eJ;split
 ·rename_i cs e0;have ho:=hI.objs r;rw[e0]at ho;obtain⟨t1,b,E,vs,a1,a2,a3,a4,a5⟩:=ho;have hl:(h r).live:=by rw[e0];trivial
  have DI:=(hI.loc r b hl a1).1;have hs:=O0 hI a4
  obtain⟨k1,k2⟩:=hI.upd r (.ro (cs.map (str h))) (g.ρ r) (g.ln r) (g.tk r) none (g.more b cs.length) w none ⟨rfl,rfl,rfl,Ak _⟩ (fun _ _ _=>rfl) (fun b e=>by cases e) (fun _ _ h=>.inl h)
   (fun b' o hs=>hs.elim .inl (fun hs=>.inr ⟨by rw[hs.1];exact DI,.inr ⟨hl,by rw[hs.1];exact a1⟩⟩)) (fun b o e=>by cases e) (fun b hh _=>by cases hh) (by simp)
   (fun _=>⟨rfl,Ak _,fun _=>rfl,fun _=>rfl⟩) (fun hg hk=>by
    obtain⟨u1,u2,u3,u4⟩:=BA g r (g.ρ r) (g.ln r) (g.tk r) none (g.more b cs.length);exact⟨u3.trans t1,b,u1.trans a2,BI.cptr_row a3 (hs.mono hk (fun _ h=>h) (fun _ h=>h.elim)) (fun o ho=>.inr ⟨rfl,by simpa using ho⟩)⟩)
  exact⟨_,k1,k2⟩
 ·rename_i sh B4 e0;have ho:=hI.objs r;rw[e0]at ho;obtain⟨t1,b,es,ck,a1,a2,a3,a4,a5,a6⟩:=ho;obtain⟨g1,i1,i2,i3⟩:=QG hI e0 a1 a2 a3 a4 a5 t1;exact⟨g1,i1,i2⟩
 ·rename_i sh B4 e0;have ho:=hI.objs r;rw[e0]at ho;obtain⟨t1,b,es,ck,a1,a2,a3,a4,a5,a6⟩:=ho;obtain⟨g1,i1,i2,i3⟩:=Wb hI e0 a1 a2 a3 a4 a5 t1;exact⟨g1,i1,i2⟩
 ·exact⟨g,hI,.refl _ _ _⟩
theorem Mr:∀(l:List Nat) {h:Nat→HO} {g:Gh},DJ w0 g0 h0 h g w→∃g',DJ w0 g0 h0 (Ov h l) g' w∧Le h g w (Ov h l) g' w
 | [],_,g,hI=>⟨g,hI,.refl _ _ _⟩
 |r::l,_,_,hI =>
  let ⟨_,i1,i2⟩:=ZS hI r
  let ⟨g2,j1,j2⟩:=Mr l i1
  ⟨g2,j1,i2.trans j2⟩
theorem KD:∀(cs:List AV) (k:Nat) (v:AV) (i:Nat) (av:AV),(Ey cs k v)[i]?=some av→(i=k∧av=v)∨cs[i]?=some av
 | [],_,_,_,_,h=>by simp[Ey]at h
 |c::cs,0,v,i,av,h=>by
  unfold Ey at h;cases i with
  |zero=>simp only[A8,Bo]at h;exact .inl ⟨rfl,h.symm⟩
  |succ i=>exact .inr h
 |c::cs,k+1,v,i,av,h=>by
  unfold Ey at h;cases i with
  |zero=>exact .inr h
  |succ i =>
   rcases KD cs k v i av (by simpa using h)with ⟨e1,e2⟩ | e
   ·exact .inl ⟨by omega,e2⟩
   ·exact .inr (by simpa using e)
theorem KE:∀(cs:List AV) (k:Nat) (v:AV),(Ey cs k v).length=cs.length
 | [],_,_=>rfl
 |_::_,0,_=>rfl
 |_::cs,k+1,v=>by unfold Ey;simp[KE cs k v]
theorem XT:∀(cs:List AV) (k:Nat) (x:Value),IX cs k=.v x→cs[k]?=some (.v x)
 | [],_,_,h=>by simp[IX]at h
 |_::_,0,_,h=>by unfold IX at h;simp[h]
 |_::cs,k+1,x,h=>by unfold IX at h;simpa using XT cs k x h
theorem nZ(hI:DJ w0 g0 h0 h g w)(r k j sz:Nat):∃g',DJ w0 g0 h0 (sI h r k j sz) g' w∧Le h g w (sI h r k j sz) g' w:=by
 have same:∃g',DJ w0 g0 h0 h g' w∧Le h g w h g' w:=⟨g,hI,.refl _ _ _⟩;unfold sI;split
 ·rename_i cs e0;split
  ·rename_i e1;split
   ·rename_i hj;have DD:r≠j:=fun e=>by rw[e,hj]at e0;cases e0
    obtain⟨g1,i1,i2,i3⟩:=NF hI (sz:=sz) (es:=[]) (a:=none) hj (by simp) rfl (.snil _ _ _);have ho:=i1.objs r;rw[B1 _ _ _ _ DD,e0]at ho;obtain⟨t1,b,E,vs,a1,a2,a3,a4,a5⟩:=ho;have hl:(AW h j (.tok sz 0) r).live:=by rw[B1 _ _ _ _ DD,e0];trivial
    have DI:=(i1.loc r b hl a1).1;have Xq:=XT cs k _ e1
    obtain⟨k1,k2⟩:=i1.upd r (.cells (Ey cs k (.slice (.id j sz) []))) (g1.ρ r) (g1.ln r) (g1.tk r) (g1.own r) g1.S w none ⟨rfl,rfl,rfl,Ak _⟩ (fun _ _ _=>rfl) (fun b e=>by cases e) (fun _ _ h=>h) (fun _ _ h=>.inl h)
     (fun b o e=>by cases e) (fun b' _ e=>⟨(i1.loc r b' hl e).1,.inl ⟨hl,e⟩⟩) (by simp) (fun _=>⟨rfl,Ak _,fun _=>rfl,fun _=>rfl⟩) (fun hg hk=>by
      obtain⟨u1,u2,u3,u4⟩:=BA g1 r (g1.ρ r) (g1.ln r) (g1.tk r) (g1.own r) g1.S;have KZ:∀i,AR (AW h j (.tok sz 0)) i→AR (AW (AW h j (.tok sz 0)) r (.cells (Ey cs k (.slice (.id j sz) [])))) i:=fun i hi=>DO (by simp) i hi;refine⟨u3.trans t1,b,E,vs,u4.trans a1,u1.trans a2,a3,⟨by rw[KE];exact a4.1,a4.2.1,fun i av x q1 q2=>?_⟩,a5⟩;rcases KD cs k _ i av q1 with ⟨rfl,rfl⟩ | q
      ·have:=(a4.2.2 i _ x Xq q2).v_eq
       subst this;exact i3.mono hk KZ hg
      ·exact(a4.2.2 i av x q q2).mono hk KZ hg)
    exact⟨_,k1,i2.trans k2⟩
   ·exact same
  ·exact same
 ·exact same
theorem gQ{cx:Cx}{o:Oper}(hS:SR N ds w0 g0 h0 st g a w):∃g',SR N ds w0 g0 h0 (gP cx o st) g' a w:=by
 unfold gP;split
 ·exact⟨g,hS⟩
 ·rename_i d _;split
  ·obtain⟨g',h1,h2⟩:=nZ hS.inv _ _ _ _;exact⟨g',h1,hS.le.trans h2,hS.dfs,hS.size,fun i=>(hS.slots i).le h2⟩
  split
  ·exact⟨g,hS⟩
  ·obtain⟨g',h1,h2⟩:=Mr (mj cx.pl.fz d) hS.inv;exact⟨g',h1,hS.le.trans h2,hS.dfs,hS.size,fun i=>(hS.slots i).le h2⟩
theorem Tg:∀(cs:List AV) (k:Nat) (r n:Nat),IX cs k=.msl r n→cs[k]?=some (.msl r n)
 | [],_,_,_,h=>by simp[IX]at h
 |_::_,0,_,_,h=>by unfold IX at h;simp[h]
 |_::cs,k+1,r,n,h=>by unfold IX at h;simpa using Tg cs k r n h
theorem VC(hI:DJ w0 g0 h0 h g w){r sz:Nat}{es:List (List AV)}(hr:h r=.arr sz es) :
  ∃g',DJ w0 g0 h0 (AW h r (.tok sz es.length)) g' w∧Le h g w (AW h r (.tok sz es.length)) g' w∧BI g' w (AR (AW h r (.tok sz es.length))) (.slice (.id r sz) es) (g.ρ r)∧g.ln r=es.length:=by
 have ho:=hI.objs r;rw[hr]at ho;obtain⟨t1,l1,al,a2⟩:=ho;have hl:(h r).live:=by rw[hr];trivial
 rcases a2 with ⟨b1,b2,b3⟩ | ⟨b,cap,E,vs,b1,b2,b3,b4,b5,b6,b7⟩
 ·subst b1
  obtain⟨k1,k2⟩:=hI.upd r (.tok sz 0) (g.ρ r) (g.ln r) (g.tk r) (g.own r) g.S w none ⟨rfl,rfl,rfl,Ak _⟩ (fun _ _ _=>rfl) (fun b e=>by cases e) (fun _ _ h=>h) (fun _ _ h=>.inl h)
   (fun b o e=>by cases e) (fun b' _ e=>⟨(hI.loc r b' hl e).1,.inl ⟨hl,e⟩⟩) (by simp) (fun _=>⟨rfl,Ak _,fun _=>rfl,fun _=>rfl⟩) (fun hg hk=>by
    obtain⟨u1,u2,u3,u4⟩:=BA g r (g.ρ r) (g.ln r) (g.tk r) (g.own r) g.S;exact⟨u3.trans t1,u2.trans l1,none,0,u1.trans b2,.inl ⟨rfl,u4.trans b3⟩⟩)
  refine⟨_,k1,k2,?_,l1⟩;rw[b2];exact .tok _ r sz [] _ (.snil _ _ _) (by simp) (by unfold AR;rw[AC,Bd];simp) (by simp[Gh.upd,t1]) (by simp) (fun _=>by simp[Gh.upd])
 ·have DI:=(hI.loc r b hl b2).1
  obtain⟨k1,k2⟩:=hI.upd r (.tok sz es.length) (g.ρ r) (g.ln r) (g.tk r) (g.own r) (g.more b (es.length*sz)) w none ⟨rfl,rfl,rfl,Ak _⟩ (fun _ _ _=>rfl) (fun b e=>by cases e) (fun _ _ h=>.inl h)
   (fun b' o hs=>hs.elim .inl (fun hs=>.inr ⟨by rw[hs.1];exact DI,.inr ⟨hl,by rw[hs.1];exact b2⟩⟩)) (fun b o e=>by cases e) (fun b' _ e=>⟨(hI.loc r b' hl e).1,.inl ⟨hl,e⟩⟩) (by simp)
   (fun _=>⟨rfl,Ak _,fun _=>rfl,fun _=>rfl⟩) (fun hg hk=>by
    obtain⟨u1,u2,u3,u4⟩:=BA g r (g.ρ r) (g.ln r) (g.tk r) (g.own r) (g.more b (es.length*sz));exact⟨u3.trans t1,u2.trans l1,_,cap,u1.trans b1,.inr ⟨b3,b,E,vs,0,rfl,u4.trans b2,b4,by rw[b5,Bk],fun o ho=>by
     rcases ho with ho | ⟨_,ho⟩
     ·exact absurd ho (b7 o)
     ·omega⟩⟩)
  refine⟨_,k1,k2,?_,l1⟩;rw[b1];exact .tok _ r sz es _ (BI.slice_row b4 al b3 (b6.mono k2.keeps (fun _ h=>h) (fun _ h=>h.elim)) (fun o ho=>.inr ⟨rfl,ho⟩)) al (by unfold AR;rw[Bd];simp) (by simp[Gh.upd,t1]) (by simp[Gh.upd,l1]) (fun _=>by simp[Gh.upd])
theorem DJ.move{w0:World}{g0:Gh}{h0 h:Nat→HO}{g:Gh}{w:World}(hI:DJ w0 g0 h0 h g w)(r r2:Nat)(DD:r2≠r)(hf:h r2=.free)(hl:(h r).live){b:Nat}(ho:g.own r=some b)(o' : HO)(x:Value)(n:Nat)(t:Bool)(hn:o'≠.free)
  (Jb:EY g w (g.upd r2 x n t (some b) g.S) w→Ea (g.upd r2 x n t (some b) g.S) w (AR (AW (AW h r .dead) r2 o')) r2 o') :
  DJ w0 g0 h0 (AW (AW h r .dead) r2 o') (g.upd r2 x n t (some b) g.S) w∧Le h g w (AW (AW h r .dead) r2 o') (g.upd r2 x n t (some b) g.S) w:=by
 have dq:JS g (g.upd r2 x n t (some b) g.S) (AR h):=by
  intro i hi;have e:i≠r2:=fun e=>hi (by rw[e];exact hf);refine⟨by simp[Gh.upd,e],by simp[Gh.upd,e],fun _=>by simp[Gh.upd,e],fun _=>by simp[Gh.upd,e]⟩
 have hK:EY g w (g.upd r2 x n t (some b) g.S) w:=fun b o hb=>⟨hb,rfl,fun _ _ h=>h⟩;have KZ:∀i,AR h i→AR (AW (AW h r .dead) r2 o') i:=fun i hi=>DO hn i (DO (by simp) i hi);have key:∀i,i≠r2→(AW (AW h r .dead) r2 o' i).live→i≠r∧(h i).live:=fun i h2 hl=>by
  rw[B1 _ _ _ _ h2]at hl
  by_cases e:i=r
  ·subst e;rw[Bd]at hl;exact hl.elim
  ·rw[B1 _ _ _ _ e]at hl;exact⟨e,hl⟩
 have own:∀i,i≠r2→(g.upd r2 x n t (some b) g.S).own i=g.own i:=fun i e=>by simp[Gh.upd,e]
 have Tl:(g.upd r2 x n t (some b) g.S).own r2=some b:=by simp[Gh.upd]
 refine⟨⟨hI.os,hI.tape,hI.output,hI.size,hI.frame,hI.slt,fun i=>?_,fun i j c hi hj ei ej=>?_,fun i c hi ei=>?_,hI.sg,hI.glob.keep hK⟩,dq,KZ,hK⟩
 ·by_cases e:i=r2
  ·subst e;rw[Bd];exact Jb hK
  ·rw[B1 _ _ _ _ e]
   by_cases e1:i=r
   ·subst e1;rw[Bd];trivial
   ·rw[B1 _ _ _ _ e1];exact(hI.objs i).same hK KZ dq (by simp[Gh.upd,e]) (by simp[Gh.upd,e]) (by simp[Gh.upd,e]) (by simp[Gh.upd,e]) (fun b hl hb=>⟨rfl,fun k hk=>hk⟩)
 ·by_cases e1:i=r2<;>by_cases e2:j=r2
  ·exact e1.trans e2.symm
  ·subst e1;rw[Tl]at ei;rw[own j e2]at ej;cases ei;obtain⟨a1,a2⟩:=key j e2 hj;exact absurd (hI.inj j r _ a2 hl ej ho) a1
  ·subst e2;rw[Tl]at ej;rw[own i e1]at ei;cases ej;obtain⟨a1,a2⟩:=key i e1 hi;exact absurd (hI.inj i r _ a2 hl ei ho) a1
  ·rw[own i e1]at ei;rw[own j e2]at ej;exact hI.inj i j c (key i e1 hi).2 (key j e2 hj).2 ei ej
 ·by_cases e1:i=r2
  ·subst e1;rw[Tl]at ei;cases ei;exact hI.loc r _ hl ho
  ·rw[own i e1]at ei;exact hI.loc i c (key i e1 hi).2 ei
theorem mi(hS:SR N ds w0 g0 h0 st g a w){s k:Nat}{K:St→Prop}(hk:sO st s k K):∃D4 g',SR N ds w0 g0 h0 D4 g' a w∧K D4:=by
 have same:K st→∃D4 g',SR N ds w0 g0 h0 D4 g' a w∧K D4:=fun hk=>⟨st,g,hS,hk⟩;unfold sO at hk;split at hk
 ·rename_i r n ht;have Wz:=hS.slots s;rw[ht]at Wz;split at hk
  ·rename_i sz es hr;have ho:=hS.inv.objs r;rw[hr]at ho;obtain⟨t1,l1,al,a2⟩:=ho;have hl:(st.h r).live:=by rw[hr];trivial
   have JY:n=es.length→a.tmps.getD s undef=g.ρ r:=fun hn=>by
    generalize a.tmps.getD s undef=x at Wz;cases Wz with
    |msl _ r n a cap hu ht Xt ha hx=>exact hx (hn.trans l1.symm)
   have fin:∀(h' : Nat→HO) (v:AV) (g' : Gh),DJ w0 g0 h0 h' g' w→Le st.h g w h' g' w→BI g' w (AR h') v (a.tmps.getD s undef)→SR N ds w0 g0 h0 ⟨G2 st.t s v,h'⟩ g' a w:=fun h' v g' i1 i2 i3=>by
    refine⟨i1,hS.le.trans i2,hS.dfs,hS.size,fun i=>?_⟩;show BI g' w (AR h') (G2 st.t s v i) _
    by_cases e:i=s
    ·subst e
     have:G2 st.t i v i=v:=by unfold G2;simp
     rw[this];exact i3
    ·have:G2 st.t s v i=st.t i:=by unfold G2;simp[CJ e]
     rw[this];exact(hS.slots i).le i2
   split at hk
   ·obtain⟨hn,hk⟩:=hk;obtain⟨g1,i1,i2,i3,i4⟩:=VC hS.inv hr
    obtain⟨k1,k2⟩:=i1.upd r .dead (g1.ρ r) (g1.ln r) (g1.tk r) (g1.own r) g1.S w none ⟨rfl,rfl,rfl,Ak _⟩ (fun _ _ _=>rfl) (fun b e=>by cases e) (fun _ _ h=>h) (fun _ _ h=>.inl h) (fun b o e=>by cases e) (fun b hh _=>by cases hh) (by simp)
     (fun _=>⟨rfl,Ak _,fun _=>rfl,fun _=>rfl⟩) (fun _ _=>trivial)
    exact⟨_,_,fin _ _ _ k1 (i2.trans k2) (by rw[JY hn];exact(i3.slice_none.up _).le k2),hk⟩
   ·rename_i k;split at hk
    ·exact same hk
    ·rename_i hb;have DD:k+1≠r:=fun e=>by rw[e]at hb;exact absurd (CV r) (by rw[hb];decide)
     split at hk
     ·rename_i hf;obtain⟨hn,hk⟩:=hk;rcases a2 with ⟨b1,b2,b3⟩ | ⟨b,cap,E,vs,b1,b2,b3,b4,b5,b6,b7⟩
      ·subst b1;have hv:=JY hn
       obtain⟨k1,k2⟩:=hS.inv.upd r .dead (g.ρ r) (g.ln r) (g.tk r) (g.own r) g.S w none ⟨rfl,rfl,rfl,Ak _⟩ (fun _ _ _=>rfl) (fun b e=>by cases e) (fun _ _ h=>h) (fun _ _ h=>.inl h) (fun b o e=>by cases e) (fun b hh _=>by cases hh) (by simp)
        (fun _=>⟨rfl,Ak _,fun _=>rfl,fun _=>rfl⟩) (fun _ _=>trivial)
       have ui:AW st.h r .dead (k+1)=.free:=by rw[B1 _ _ _ _ DD];exact hf
       obtain⟨m1,m2⟩:=k1.upd (k+1) (.arr sz []) (.slice none 0 0) 0 true none (g.upd r (g.ρ r) (g.ln r) (g.tk r) (g.own r) g.S).S w none ⟨rfl,rfl,rfl,Ak _⟩ (fun _ _ _=>rfl) (fun b e=>by cases e) (fun _ _ h=>h) (fun _ _ h=>.inl h) (fun b o e=>by cases e) (fun b _ e=>by cases e) (by simp)
        (fun hu=>absurd ui hu) (fun _ _=>by
         obtain⟨u1,u2,u3,u4⟩:=BA (g.upd r (g.ρ r) (g.ln r) (g.tk r) (g.own r) g.S) (k+1) (.slice none 0 0) 0 true none (g.upd r (g.ρ r) (g.ln r) (g.tk r) (g.own r) g.S).S;exact⟨u3,u2,by simp,.inl ⟨rfl,u1,u4⟩⟩)
       refine⟨_,_,fin _ _ _ m1 (k2.trans m2) ?_,hk⟩;rw[hv,b2,hn];exact .msl _ (k+1) 0 none 0 (by unfold AR;rw[Bd];simp) (by simp[Gh.upd]) (AM _) (.inl rfl) (fun _=>by simp[Gh.upd])
      ·have hv:=JY hn;obtain⟨m1,m2⟩:=hS.inv.move r (k+1) DD hf hl b2 (.arr sz es) (g.ρ r) es.length true (by simp) (fun HQ=>by
        obtain⟨u1,u2,u3,u4⟩:=BA g (k+1) (g.ρ r) es.length true (some b) g.S;exact⟨u3,u2,al,.inr ⟨b,cap,E,vs,u1.trans b1,u4,b3,b4,b5,b6.mono HQ (fun _ h=>h) (fun _ h=>h.elim),b7⟩⟩)
       refine⟨_,_,fin _ _ _ m1 m2 ?_,hk⟩;rw[hv,b1,hn];exact .msl _ (k+1) es.length _ cap (by unfold AR;rw[Bd];simp) (by simp[Gh.upd]) (by simp[Gh.upd]) (.inr ⟨b,rfl⟩) (fun _=>by simp[Gh.upd])
     ·exact hk.elim
  ·exact same hk
 ·exact same hk
theorem mh(hS:SR N ds w0 g0 h0 st g a w){o k j:Nat}{K:(Nat→HO)→Prop}(hk:sN st.h o k j K):∃h' g',SR N ds w0 g0 h0 ⟨st.t,h'⟩ g' a w∧K h':=by
 unfold sN at hk;split at hk
 ·rename_i cs e0;split at hk
  ·rename_i r n e1;split at hk
   ·rename_i sz es e2;split at hk
    ·rename_i hf;obtain⟨hn,hk⟩:=hk;have ho:=hS.inv.objs r;rw[e2]at ho;obtain⟨t1,l1,al,a2⟩:=ho;have hl:(st.h r).live:=by rw[e2];trivial
     have DD:j≠r:=fun e=>by rw[e,e2]at hf;cases hf
     have iL:o≠r:=fun e=>by rw[e,e2]at e0;cases e0
     have jP:o≠j:=fun e=>by rw[e,hf]at e0;cases e0
     -- the array goes to the new id,which stands for the same slice
     have step:∃g1,DJ w0 g0 h0 (AW (AW st.h r .dead) j (.arr sz es)) g1 w∧Le st.h g w (AW (AW st.h r .dead) j (.arr sz es)) g1 w∧g1.tk j=true∧g1.ln j=es.length∧g1.ρ j=g.ρ r:=by
      rcases a2 with ⟨b1,b2,b3⟩ | ⟨b,cap,E,vs,b1,b2,b3,b4,b5,b6,b7⟩
      ·subst b1
       obtain⟨k1,k2⟩:=hS.inv.upd r .dead (g.ρ r) (g.ln r) (g.tk r) (g.own r) g.S w none ⟨rfl,rfl,rfl,Ak _⟩ (fun _ _ _=>rfl) (fun b e=>by cases e) (fun _ _ h=>h) (fun _ _ h=>.inl h) (fun b o e=>by cases e) (fun b hh _=>by cases hh) (by simp)
        (fun _=>⟨rfl,Ak _,fun _=>rfl,fun _=>rfl⟩) (fun _ _=>trivial)
       have ui:AW st.h r .dead j=.free:=by rw[B1 _ _ _ _ DD];exact hf
       obtain⟨m1,m2⟩:=k1.upd j (.arr sz []) (.slice none 0 0) 0 true none (g.upd r (g.ρ r) (g.ln r) (g.tk r) (g.own r) g.S).S w none ⟨rfl,rfl,rfl,Ak _⟩ (fun _ _ _=>rfl) (fun b e=>by cases e) (fun _ _ h=>h) (fun _ _ h=>.inl h) (fun b o e=>by cases e) (fun b _ e=>by cases e) (by simp)
        (fun hu=>absurd ui hu) (fun _ _=>by
         obtain⟨u1,u2,u3,u4⟩:=BA (g.upd r (g.ρ r) (g.ln r) (g.tk r) (g.own r) g.S) j (.slice none 0 0) 0 true none (g.upd r (g.ρ r) (g.ln r) (g.tk r) (g.own r) g.S).S;exact⟨u3,u2,by simp,.inl ⟨rfl,u1,u4⟩⟩)
       exact⟨_,m1,k2.trans m2,by simp[Gh.upd],by simp[Gh.upd],by simp[Gh.upd,b2]⟩
      ·obtain⟨m1,m2⟩:=hS.inv.move r j DD hf hl b2 (.arr sz es) (g.ρ r) es.length true (by simp) (fun HQ=>by
        obtain⟨u1,u2,u3,u4⟩:=BA g j (g.ρ r) es.length true (some b) g.S;exact⟨u3,u2,al,.inr ⟨b,cap,E,vs,u1.trans b1,u4,b3,b4,b5,b6.mono HQ (fun _ h=>h) (fun _ h=>h.elim),b7⟩⟩)
       exact⟨_,m1,m2,by simp[Gh.upd],by simp[Gh.upd],by simp[Gh.upd]⟩
     obtain⟨g1,i1,i2,j1,j2,j3⟩:=step
     -- the cell
     have ho:=hS.inv.objs o;rw[e0]at ho;have xx:=i1.objs o;rw[B1 _ _ _ _ jP,B1 _ _ _ _ iL,e0]at xx;obtain⟨t2,b,E,vs,c1,c2,c3,c4,c5⟩:=xx;obtain⟨_,b',E',dy,jj,yy,wH,yB,_⟩:=ho;have hb:b'=b:=by
      have h2:=i2.gh o (by unfold AR;rw[e0];simp);have h3:=h2.2.2.1 (by assumption);rw[h3,yy]at c2;cases c2;rfl
     subst hb;rw[c3]at wH;cases wH;have bO:(AW (AW st.h r .dead) j (.arr sz es) o).live:=by rw[B1 _ _ _ _ jP,B1 _ _ _ _ iL,e0];trivial
     have Xq:=Tg cs k _ _ e1
     obtain⟨k1,k2⟩:=i1.upd o (.cells (Ey cs k (.msl j n))) (g1.ρ o) (g1.ln o) (g1.tk o) (g1.own o) g1.S w none ⟨rfl,rfl,rfl,Ak _⟩ (fun _ _ _=>rfl) (fun b e=>by cases e) (fun _ _ h=>h) (fun _ _ h=>.inl h)
      (fun b o e=>by cases e) (fun b' _ e=>⟨(i1.loc o b' bO e).1,.inl ⟨bO,e⟩⟩) (by simp) (fun _=>⟨rfl,Ak _,fun _=>rfl,fun _=>rfl⟩) (fun hg T6=>by
       obtain⟨u1,u2,u3,u4⟩:=BA g1 o (g1.ρ o) (g1.ln o) (g1.tk o) (g1.own o) g1.S;have KZ:∀i,AR (AW (AW st.h r .dead) j (.arr sz es)) i→AR (AW (AW (AW st.h r .dead) j (.arr sz es)) o (.cells (Ey cs k (.msl j n)))) i:=fun i hi=>DO (by simp) i hi;refine⟨u3.trans t2,_,E,vs,u4.trans c1,u1.trans c2,c3,⟨by rw[KE];exact c4.1,c4.2.1,fun i av x q1 q2=>?_⟩,c5⟩;rcases KD cs k _ i av q1 with ⟨rfl,rfl⟩ | q
       ·have hx:=yB.2.2 i _ x Xq q2;have hm:BI g1 w (AR (AW (AW st.h r .dead) j (.arr sz es))) (.msl j n) x:=by
         cases hx with
         |msl _ _ _ a cap hu ht' Xt ha Lv =>
         refine .msl _ _ _ _ _ (by unfold AR;rw[Bd];simp) j1 (by omega) ha (fun e=>?_);rw[j3];exact Lv (hn.trans l1.symm)
        exact hm.mono T6 KZ hg
       ·exact(c4.2.2 i av x q q2).mono T6 KZ hg)
     exact⟨_,_,⟨k1,hS.le.trans (i2.trans k2),hS.dfs,hS.size,fun i=>(hS.slots i).le (i2.trans k2)⟩,hk⟩
    ·exact hk.elim
   ·exact hk.elim
  ·exact hk.elim
 ·exact hk.elim
theorem N5{h:Nat→HO}(hI:DJ w0 g0 h0 h g w){o k:Nat}{cs:List AV}(e0:h o=.cells cs){old new:AV}(hk:cs[k]?=some old)(Ec:∀x:Value,BI g w (AR h) old x→BI g w (AR h) new x) :
  ∃g',DJ w0 g0 h0 (AW h o (.cells (Ey cs k new))) g' w∧Le h g w (AW h o (.cells (Ey cs k new))) g' w:=by
 have ho:=hI.objs o;rw[e0]at ho;obtain⟨t1,b,E,vs,a1,a2,a3,a4,a5⟩:=ho;have hl:(h o).live:=by rw[e0];trivial
 obtain⟨k1,k2⟩:=hI.upd o (.cells (Ey cs k new)) (g.ρ o) (g.ln o) (g.tk o) (g.own o) g.S w none ⟨rfl,rfl,rfl,Ak _⟩ (fun _ _ _=>rfl) (fun b e=>by cases e) (fun _ _ h=>h) (fun _ _ h=>.inl h)
  (fun b o e=>by cases e) (fun b' _ e=>⟨(hI.loc o b' hl e).1,.inl ⟨hl,e⟩⟩) (by simp) (fun _=>⟨rfl,Ak _,fun _=>rfl,fun _=>rfl⟩) (fun hg T6=>by
   obtain⟨u1,u2,u3,u4⟩:=BA g o (g.ρ o) (g.ln o) (g.tk o) (g.own o) g.S;have KZ:∀i,AR h i→AR (AW h o (.cells (Ey cs k new))) i:=fun i hi=>DO (by simp) i hi;refine⟨u3.trans t1,b,E,vs,u4.trans a1,u1.trans a2,a3,⟨by rw[KE];exact a4.1,a4.2.1,fun i av x q1 q2=>?_⟩,a5⟩;rcases KD cs k _ i av q1 with ⟨rfl,rfl⟩ | q
   ·exact(Ec x (a4.2.2 i _ x hk q2)).mono T6 KZ hg
   ·exact(a4.2.2 i av x q q2).mono T6 KZ hg)
 exact⟨_,k1,k2⟩
theorem I3:∀(cs:List AV) (k:Nat) (a:AV),IX cs k=a→a≠.junk→cs[k]?=some a
 | [],_,a,h,hn=>by simp only[IX]at h;exact absurd h.symm hn
 |_::_,0,_,h,_=>by unfold IX at h;simp[h]
 |_::cs,k+1,a,h,hn=>by unfold IX at h;simpa using I3 cs k a h hn
theorem DJ.moveV{h:Nat→HO}(hI:DJ w0 g0 h0 h g w)(r r2 v:Nat)(DD:r2≠r)(hf:h r2=.vox v)(hl:(h r).live)(o' : HO)(x:Value)(n:Nat)(hv:v<n)(hn:o'≠.free)
  (Jb:EY g w (g.upd r2 x n true (g.own r) g.S) w→Ea (g.upd r2 x n true (g.own r) g.S) w (AR (AW (AW h r .dead) r2 o')) r2 o') :
  DJ w0 g0 h0 (AW (AW h r .dead) r2 o') (g.upd r2 x n true (g.own r) g.S) w∧Le h g w (AW (AW h r .dead) r2 o') (g.upd r2 x n true (g.own r) g.S) w:=by
 have oH:=hI.objs r2;rw[hf]at oH;obtain⟨xF,bO⟩:=oH;have dq:JS g (g.upd r2 x n true (g.own r) g.S) (AR h):=by
  intro i hi
  by_cases e:i=r2
  ·subst e;refine⟨by simp[Gh.upd,xF],by simp[Gh.upd];omega,fun e=>(by rw[xF]at e;cases e),fun e=>?_⟩;simp[Gh.upd]at e;omega
  ·exact⟨by simp[Gh.upd,e],by simp[Gh.upd,e],fun _=>by simp[Gh.upd,e],fun _=>by simp[Gh.upd,e]⟩
 have hK:EY g w (g.upd r2 x n true (g.own r) g.S) w:=fun b o hb=>⟨hb,rfl,fun _ _ h=>h⟩;have KZ:∀i,AR h i→AR (AW (AW h r .dead) r2 o') i:=fun i hi=>DO hn i (DO (by simp) i hi);have key:∀i,i≠r2→(AW (AW h r .dead) r2 o' i).live→i≠r∧(h i).live:=fun i h2 hl=>by
  rw[B1 _ _ _ _ h2]at hl
  by_cases e:i=r
  ·subst e;rw[Bd]at hl;exact hl.elim
  ·rw[B1 _ _ _ _ e]at hl;exact⟨e,hl⟩
 have own:∀i,i≠r2→(g.upd r2 x n true (g.own r) g.S).own i=g.own i:=fun i e=>by simp[Gh.upd,e]
 have Tl:(g.upd r2 x n true (g.own r) g.S).own r2=g.own r:=by simp[Gh.upd]
 refine⟨⟨hI.os,hI.tape,hI.output,hI.size,hI.frame,hI.slt,fun i=>?_,fun i j c hi hj ei ej=>?_,fun i c hi ei=>?_,hI.sg,hI.glob.keep hK⟩,dq,KZ,hK⟩
 ·by_cases e:i=r2
  ·subst e;rw[Bd];exact Jb hK
  ·rw[B1 _ _ _ _ e]
   by_cases e1:i=r
   ·subst e1;rw[Bd];trivial
   ·rw[B1 _ _ _ _ e1];exact(hI.objs i).same hK KZ dq (by simp[Gh.upd,e]) (by simp[Gh.upd,e]) (by simp[Gh.upd,e]) (by simp[Gh.upd,e]) (fun b hl hb=>⟨rfl,fun k hk=>hk⟩)
 ·by_cases e1:i=r2<;>by_cases e2:j=r2
  ·exact e1.trans e2.symm
  ·subst e1;rw[Tl]at ei;rw[own j e2]at ej;obtain⟨a1,a2⟩:=key j e2 hj;exact absurd (hI.inj j r _ a2 hl ej ei) a1
  ·subst e2;rw[Tl]at ej;rw[own i e1]at ei;obtain⟨a1,a2⟩:=key i e1 hi;exact absurd (hI.inj i r _ a2 hl ei ej) a1
  ·rw[own i e1]at ei;rw[own j e2]at ej;exact hI.inj i j c (key i e1 hi).2 (key j e2 hj).2 ei ej
 ·by_cases e1:i=r2
  ·subst e1;rw[Tl]at ei;exact hI.loc r _ hl ei
  ·rw[own i e1]at ei;exact hI.loc i c (key i e1 hi).2 ei
theorem n8(hS:SR N ds w0 g0 h0 st g a w){o k d:Nat}{K:(Nat→HO)→Prop}(hk:wD st.h o k d K):∃h' g',SR N ds w0 g0 h0 ⟨st.t,h'⟩ g' a w∧K h':=by
 unfold wD at hk;split at hk
 ·rename_i cs e0;split at hk
  ·rename_i r sz v es e1;split at hk
   ·rename_i Gm v' n e2;split at hk
    ·rename_i hf;obtain⟨⟨rfl,rfl⟩,hk⟩:=hk;have ho:=hS.inv.objs r;rw[e2]at ho;obtain⟨t1,l1,a0,cap,r1,a2⟩:=ho;have hl:(st.h r).live:=by rw[e2];trivial
     have DD:d≠r:=fun e=>by rw[e,e2]at hf;cases hf
     have iL:o≠r:=fun e=>by rw[e,e2]at e0;cases e0
     have uz:o≠d:=fun e=>by rw[e,hf]at e0;cases e0
     have Xq:=I3 cs k _ e1 (by simp)
     -- the value that stands in the cell
     have xz:=hS.inv.objs o;rw[e0]at xz;obtain⟨_,b',E',dy,c1,c2,c3,c4,_⟩:=xz;obtain⟨x,hx1,_,oK⟩:=c4.at Xq;have iO:x=.slice a0 n cap∧es.length=n∧BI g w Fp (.slice .none es) x∧∀c∈es,c.length=sz:=by
      have h3:=oK.slice_none;cases oK with
      |ver _ _ _ _ _ _ h Ww hu ht hn hx =>
       have:=hx l1.symm
       rw[r1]at this;subst this;refine⟨rfl,?_,h3,Ww⟩;cases h3 with
       |snil=>rfl
       |slice=>rfl
     obtain⟨hxe,hn,hx3,Ww⟩:=iO;subst hn;obtain⟨m1,m2⟩:=hS.inv.moveO r d DD hf hl (ob:=g.own r) (fun c h=>h) (.tok sz es.length) (.slice a0 es.length cap) es.length true (by simp) (fun HQ=>by
      obtain⟨u1,u2,u3,u4⟩:=BA g d (.slice a0 es.length cap) es.length true (g.own r) g.S;refine⟨u3,u2,a0,cap,u1,?_⟩;rw[u4];exact a2)
     generalize T4:g.upd d (.slice a0 es.length cap) es.length true (g.own r) g.S=g1 at m1 m2;have gr:g1.tk r=true∧g1.ln r=v:=by rw[←T4];simp[Gh.upd,Ne.symm DD,t1,l1]
     have gd:g1.tk d=true∧g1.ln d=es.length∧g1.ρ d=.slice a0 es.length cap:=by rw[←T4];simp[Gh.upd]
     -- the id keeps its version
     have uH:(AW (AW st.h r .dead) d (.tok sz es.length)) r=.dead:=by rw[B1 _ _ _ _ (Ne.symm DD),Bd]
     obtain⟨n1,n2⟩:=m1.upd r (.vox v) (g1.ρ r) (g1.ln r) (g1.tk r) (g1.own r) g1.S w none ⟨rfl,rfl,rfl,Ak _⟩ (fun _ _ _=>rfl) (fun b e=>by cases e) (fun _ _ h=>h) (fun _ _ h=>.inl h) (fun b o e=>by cases e) (fun b hh _=>by cases hh) (by simp)
      (fun _=>⟨rfl,Ak _,fun _=>rfl,fun _=>rfl⟩) (fun _ _=>by
       obtain⟨u1,u2,u3,u4⟩:=BA g1 r (g1.ρ r) (g1.ln r) (g1.tk r) (g1.own r) g1.S;exact⟨u3.trans gr.1,u2.trans gr.2⟩)
     have hh:AW (AW (AW st.h r .dead) d (.tok sz es.length)) r (.vox v)=AW (AW st.h r (.vox v)) d (.tok sz es.length):=by
      funext i
      unfold AW
      by_cases e:i=r
      ·subst e;rw[CV,CJ (Ne.symm DD)];rfl
      ·rw[CJ e];rfl
     rw[hh]at n1 n2;generalize fo:g1.upd r (g1.ρ r) (g1.ln r) (g1.tk r) (g1.own r) g1.S=g2 at n1 n2;have rP:g2.tk d=true∧g2.ln d=es.length∧g2.ρ d=.slice a0 es.length cap:=by rw[←fo];simp[Gh.upd,DD,gd]
     have mJ : (AW (AW st.h r (.vox v)) d (.tok sz es.length)) o=.cells cs:=by rw[B1 _ _ _ _ uz,B1 _ _ _ _ iL,e0]
     have L2:=m2.trans n2;have zN:g2.ρ o=g.ρ o:=(L2.gh o (by unfold AR;rw[e0];simp)).2.2.1 (by assumption);obtain⟨g3,p1,p2⟩:=N5 n1 mJ Xq (new:=.slice (.id d sz) es) (fun y hy=>by
      have h3:=hy.slice_none;have wS:g2.ln r=v∧g2.ρ r=.slice a0 es.length cap:=by rw[←fo,←T4];simp[Gh.upd,Ne.symm DD,l1,r1]
      have qH:y=.slice a0 es.length cap:=by
       cases hy with
       |ver _ _ _ _ _ _ h Ww hu ht hn hx=>exact(hx wS.1.symm).trans wS.2
      subst qH;exact .tok _ d sz es _ (h3.up _) Ww (by unfold AR;rw[Bd];simp) rP.1 (by rw[rP.2.1];exact Ak _) (fun _=>rP.2.2.symm))
     exact⟨_,g3,⟨p1,hS.le.trans (L2.trans p2),hS.dfs,hS.size,fun i=>(hS.slots i).le (L2.trans p2)⟩,hk⟩
    ·exact hk.elim
   ·exact hk.elim
  ·exact⟨_,g,hS,hk⟩
 ·exact hk.elim
theorem gZ(hS:SR N ds w0 g0 h0 st g a w){o k r:Nat}{K:(Nat→HO)→Prop}(hk:sC st.h o k r K):∃h' g',SR N ds w0 g0 h0 ⟨st.t,h'⟩ g' a w∧K h':=by
 unfold sC at hk;split at hk
 ·rename_i cs e0;split at hk
  ·rename_i d sz es e1;split at hk
   ·rename_i Gm n e2;split at hk
    ·rename_i v hf;obtain⟨⟨hn,rfl⟩,hk⟩:=hk;subst hn;have ho:=hS.inv.objs d;rw[e2]at ho;obtain⟨t1,l1,a0,cap,r1,a2⟩:=ho;have hl:(st.h d).live:=by rw[e2];trivial
     have DD:r≠d:=fun e=>by rw[e,e2]at hf;cases hf
     have uz:o≠d:=fun e=>by rw[e,e2]at e0;cases e0
     have iL:o≠r:=fun e=>by rw[e,hf]at e0;cases e0
     have Xq:=I3 cs k _ e1 (by simp);obtain⟨m1,m2⟩:=hS.inv.moveV d r v DD hf hl (.var sz (v+1) es.length) (.slice a0 es.length cap) (v+1) (GN v) (by simp) (fun HQ=>by
      obtain⟨u1,u2,u3,u4⟩:=BA g r (.slice a0 es.length cap) (v+1) true (g.own d) g.S;refine⟨u3,u2,a0,cap,u1,?_⟩;rw[u4];exact a2)
     generalize T4:g.upd r (.slice a0 es.length cap) (v+1) true (g.own d) g.S=g1 at m1 m2;have gr:g1.tk r=true∧g1.ln r=v+1∧g1.ρ r=.slice a0 es.length cap:=by rw[←T4];simp[Gh.upd]
     have gd:g1.ln d=es.length∧g1.ρ d=.slice a0 es.length cap:=by rw[←T4];simp[Gh.upd,Ne.symm DD,l1,r1]
     have mJ : (AW (AW st.h d .dead) r (.var sz (v+1) es.length)) o=.cells cs:=by rw[B1 _ _ _ _ iL,B1 _ _ _ _ uz,e0]
     obtain⟨g3,p1,p2⟩:=N5 m1 mJ Xq (new:=.slice (.ver r sz (v+1)) es) (fun y hy=>by
      have h3:=hy.slice_none;have qH:y=.slice a0 es.length cap∧∀c∈es,c.length=sz:=by
       cases hy with
       |tok _ _ _ _ _ h Ww hu ht hn hx=>exact⟨(hx gd.1.symm).trans gd.2,Ww⟩
      obtain⟨qH,Ww⟩:=qH;subst qH;exact .ver _ r sz (v+1) es _ (h3.up _) Ww (by unfold AR;rw[Bd];simp) gr.1 (by rw[gr.2.1];exact Ak _) (fun _=>gr.2.2.symm))
     exact⟨_,g3,⟨p1,hS.le.trans (m2.trans p2),hS.dfs,hS.size,fun i=>(hS.slots i).le (m2.trans p2)⟩,hk⟩
    ·exact hk.elim
   ·exact hk.elim
  ·exact⟨_,g,hS,hk⟩
 ·exact hk.elim
theorem nI(hS:SR N ds w0 g0 h0 st g a w){r:Nat}{K:(Nat→HO)→Prop}(hk:u6 st.h r K):∃h' g',SR N ds w0 g0 h0 ⟨st.t,h'⟩ g' a w∧K h':=by
 unfold u6 at hk;split at hk
 ·rename_i hf
  obtain⟨m1,m2⟩:=hS.inv.upd r (.vox 0) (.slice none 0 0) 0 true none g.S w none ⟨rfl,rfl,rfl,Ak _⟩ (fun _ _ _=>rfl) (fun b e=>by cases e) (fun _ _ h=>h) (fun _ _ h=>.inl h) (fun b o e=>by cases e) (fun b hh _=>by cases hh) (by simp)
   (fun hu=>absurd hf hu) (fun _ _=>by
    obtain⟨u1,u2,u3,u4⟩:=BA g r (.slice none 0 0) 0 true none g.S;exact⟨u3,u2⟩)
  exact⟨_,_,⟨m1,hS.le.trans m2,hS.dfs,hS.size,fun i=>(hS.slots i).le m2⟩,hk⟩
 ·exact hk.elim
theorem gW(hS:SR N ds w0 g0 h0 st g a w){o k:Nat}{K:(Nat→HO)→Prop}(hk:sA st.h o k K):∃h' g',SR N ds w0 g0 h0 ⟨st.t,h'⟩ g' a w∧K h':=by
 unfold sA at hk;split at hk
 ·rename_i cs e0;split at hk
  ·rename_i r e1;split at hk
   ·rename_i sh B4 e2;have Xq:=I3 cs k _ e1 (by simp);obtain⟨g3,p1,p2⟩:=N5 hS.inv e0 Xq (new:=.cmap sh B4) (fun y hy=>by
     have e3:rsv st.h (.mref r)=.cmap sh B4:=by
      show(match st.h r with | .rom sh B4=>AV.cmap sh B4 | _=>.mref r)=_;rw[e2]
     rw[←e3];exact BI.rsv hS.inv.objs hy)
    exact⟨_,g3,⟨p1,hS.le.trans p2,hS.dfs,hS.size,fun i=>(hS.slots i).le p2⟩,hk⟩
   ·exact hk.elim
  ·exact hk.elim
 ·exact hk.elim
theorem oe(hS:SR N ds w0 g0 h0 st g a w){o k j sz:Nat}{K:(Nat→HO)→Prop}(hk:wE st.h o k j sz K):∃h' g',SR N ds w0 g0 h0 ⟨st.t,h'⟩ g' a w∧K h':=by
 unfold wE at hk;split at hk
 ·rename_i cs e0;split at hk
  ·rename_i e1;split at hk
   ·rename_i hf;have iL:o≠j:=fun e=>by rw[e,hf]at e0;cases e0
    have Xq:=I3 cs k _ e1 (by simp)
    obtain⟨m1,m2⟩:=hS.inv.upd j (.arr sz []) (.slice none 0 0) 0 true none g.S w none ⟨rfl,rfl,rfl,Ak _⟩ (fun _ _ _=>rfl) (fun b e=>by cases e) (fun _ _ h=>h) (fun _ _ h=>.inl h) (fun b o e=>by cases e) (fun b hh e=>by first | (cases e;done) | (exact absurd hh.2 (by simp))) (by simp)
     (fun hu=>absurd hf hu) (fun _ _=>by
      obtain⟨u1,u2,u3,u4⟩:=BA g j (.slice none 0 0) 0 true none g.S;exact⟨u3,u2,(fun cs hc=>by cases hc),.inl ⟨rfl,u1,u4⟩⟩)
    generalize T4:g.upd j (.slice none 0 0) 0 true none g.S=g1 at m1 m2;have gr:g1.tk j=true∧g1.ln j=0∧g1.ρ j=.slice none 0 0:=by rw[←T4];simp[Gh.upd]
    have mJ : (AW st.h j (.arr sz [])) o=.cells cs:=by rw[B1 _ _ _ _ iL,e0]
    obtain⟨g3,p1,p2⟩:=N5 m1 mJ Xq (new:=.msl j 0) (fun y hy=>by
     cases hy
     exact .msl _ j 0 none 0 (by unfold AR;rw[Bd];simp) gr.1 (AM _) (.inl rfl) (fun _=>gr.2.2.symm))
    exact⟨_,g3,⟨p1,hS.le.trans (m2.trans p2),hS.dfs,hS.size,fun i=>(hS.slots i).le (m2.trans p2)⟩,hk⟩
   ·exact hk.elim
  ·exact hk.elim
 ·exact hk.elim
theorem dW{cx:Cx}{id:Nat}(hS:SR N ds w0 g0 h0 st g a w){K:(Nat→HO)→Prop}(hk:tG cx id st.h fun h=>sy cx id h fun h=>re cx id h fun h=>oR cx id h K):∃h' g',SR N ds w0 g0 h0 ⟨st.t,h'⟩ g' a w∧K h':=by
 have h1:∃h' g',SR N ds w0 g0 h0 ⟨st.t,h'⟩ g' a w∧sy cx id h' fun h=>re cx id h fun h=>oR cx id h K:=by
  unfold tG at hk;split at hk
  ·obtain⟨g',i1,i2⟩:=ZS hS.inv _;exact⟨_,g',⟨i1,hS.le.trans i2,hS.dfs,hS.size,fun i=>(hS.slots i).le i2⟩,hk⟩
  ·exact⟨_,g,hS,hk⟩
 obtain⟨h1,g1,S1,hk⟩:=h1;have h2:∃h' g',SR N ds w0 g0 h0 ⟨st.t,h'⟩ g' a w∧re cx id h' fun h=>oR cx id h K:=by
  unfold sy at hk;split at hk
  ·exact gW S1 hk
  ·exact⟨_,g1,S1,hk⟩
 obtain⟨h2,g2,S2,hk⟩:=h2;have h3:∃h' g',SR N ds w0 g0 h0 ⟨st.t,h'⟩ g' a w∧oR cx id h' K:=by
  unfold re at hk;split at hk
  ·exact gW S2 hk
  ·exact⟨_,g2,S2,hk⟩
 obtain⟨h3,g3,S3,hk⟩:=h3;unfold oR at hk;split at hk
 ·exact oe S3 hk
 ·exact⟨_,g3,S3,hk⟩
theorem ne(hS:SR N ds w0 g0 h0 st g a w){r:Nat}{K:(Nat→HO)→Prop}(hk:ux st.h r K):∃h' g',SR N ds w0 g0 h0 ⟨st.t,h'⟩ g' a w∧K h':=by
 unfold ux at hk;split at hk
 ·rename_i sz es i c j m er;split at hk
  ·exact hk.elim
  ·rename_i hb;have DD:r≠j:=fun e=>by rw[e]at hb;exact absurd (CV j) (by rw[hb];decide)
   split at hk
   ·rename_i aN qs ej;obtain⟨hm,cs,hi,hc,hk⟩:=hk;have ho:=hS.inv.objs r;rw[er]at ho;obtain⟨t1,l1,al,b,cap,E,vs,e1,e2,e3,e4,e5,e6,e7,e8,x,e9,pC⟩:=ho;obtain⟨g1,i1,i2,i3,i4⟩:=VC hS.inv ej;have dw:x=g.ρ j:=by
     cases pC with
     |msl _ _ _ _ _ _ _ _ _ hz=>exact hz (hm.trans i4.symm)
    obtain⟨k1,k2⟩:=i1.upd j .dead (g1.ρ j) (g1.ln j) (g1.tk j) (g1.own j) g1.S w none ⟨rfl,rfl,rfl,Ak _⟩ (fun _ _ _=>rfl) (fun b e=>by cases e) (fun _ _ h=>h) (fun _ _ h=>.inl h) (fun b o e=>by cases e) (fun b hh _=>by cases hh) (by simp)
     (fun _=>⟨rfl,Ak _,fun _=>rfl,fun _=>rfl⟩) (fun _ _=>trivial)
    generalize fo:g1.upd j (g1.ρ j) (g1.ln j) (g1.tk j) (g1.own j) g1.S=g2 at k1 k2;have Ec:BI g2 w Fp (.slice .none qs) x:=by rw[dw];exact i3.slice_none.mono k2.keeps (fun _ h=>h) (fun _ h=>h.elim)
    have pE:AW (AW st.h j (.tok aN qs.length)) j .dead r=.hol sz es i c (.msl j m):=by rw[B1 _ _ _ _ DD,B1 _ _ _ _ DD,er]
    have xy:=k1.objs r;rw[pE]at xy;obtain⟨t1',sm,rH,b',Lu,E',dy,f1,f2,f3,f4,f5,f6,f7,f8,x',f9,f10⟩:=xy;have hl:(AW (AW st.h j (.tok aN qs.length)) j .dead r).live:=by rw[pE];trivial
    have hρ:g2.ρ r=g.ρ r:=by
     have q1:=(i2.trans k2).gh r (by unfold AR;rw[er];simp);exact q1.2.2.2 (sm.trans l1.symm)
    have dv:dy=vs:=by
     rw[f1,e1]at hρ;cases hρ;rw[f4]at e4;cases e4;rfl
    subst dv;have z6:x'=x:=by rw[e9]at f9;cases f9;rfl
    subst z6;have DI:=(As.1 hi).1;have hcl:=rH cs (Av hi);have hfl:=LQ rH hi c [AV.slice .none qs] (by simp only[At,AC];omega);have CB:es.flatten.length=es.length*sz:=Df rH
    obtain⟨m1,m2⟩:=k1.upd r (.arr sz (es.set i (over cs c [.slice .none qs]))) (g2.ρ r) (g2.ln r) (g2.tk r) (g2.own r) g2.S w none ⟨rfl,rfl,rfl,Ak _⟩ (fun _ _ _=>rfl) (fun b e=>by cases e) (fun _ _ h=>h) (fun _ _ h=>.inl h)
     (fun b o e=>by cases e) (fun b' _ e=>⟨(k1.loc r b' hl e).1,.inl ⟨hl,e⟩⟩) (by simp) (fun _=>⟨rfl,Ak _,fun _=>rfl,fun _=>rfl⟩) (fun hg HQ=>by
      obtain⟨u1,u2,u3,u4⟩:=BA g2 r (g2.ρ r) (g2.ln r) (g2.tk r) (g2.own r) g2.S;refine⟨u3.trans t1',u2.trans (by rw[CR];exact sm),fun d hd=>?_,.inr ⟨b',Lu,E',dy,by rw[u1,f1,CR],u4.trans f2,by rw[CR];exact f3,f4,f5,?_,f7⟩⟩
      ·rcases IF hd with hd | rfl
       ·exact rH d hd
       ·rw[FG];exact hcl
      ·rw[hfl,CR];refine⟨by rw[FG];exact f6.1,f6.2.1,fun p av y q1 q2=>?_⟩;rw[FF _ _ _ _ (by rw[CB];simp only[At,AC];omega)]at q1;split at q1
       ·rename_i hp;have fB:p=i*sz+c:=by simp only[At,AC]at hp;omega
        subst fB;rw[Ga]at q1;cases q1
        have:y=x':=by
         rw[BH f8]at q2;rw[←A2,q2]at f9;cases f9;rfl
        rw[this];exact Ec.mono HQ (fun _ h=>h) (fun _ h=>h.elim)
       ·exact(f6.2.2 p av y q1 q2).mono HQ (fun _ h=>h) (fun _ h=>h.elim))
    exact⟨_,_,⟨m1,hS.le.trans ((i2.trans k2).trans m2),hS.dfs,hS.size,fun i=>((hS.slots i).le (i2.trans k2)).le m2⟩,hk⟩
   ·exact hk.elim
 ·exact hk.elim
theorem la{cx:Cx}{id:Nat}(hS:SR N ds w0 g0 h0 st g a w){K:(Nat→HO)→Prop}(hk:oa cx id st.h K):∃h' g',SR N ds w0 g0 h0 ⟨st.t,h'⟩ g' a w∧K h':=by
 unfold oa at hk;split at hk
 ·exact n8 hS hk
 ·split at hk
  ·exact gZ hS hk
  ·split at hk
   ·exact nI hS hk
   ·split at hk
    ·exact ne hS hk
    ·exact dW hS hk
theorem mn(hS:SR N ds w0 g0 h0 st g a w){o k:Nat}{K:(Nat→HO)→Prop}(hk:sP st.h o k K):∃h' g',SR N ds w0 g0 h0 ⟨st.t,h'⟩ g' a w∧K h':=by
 have same:K st.h→∃h' g',SR N ds w0 g0 h0 ⟨st.t,h'⟩ g' a w∧K h':=fun hk=>⟨st.h,g,hS,hk⟩;unfold sP at hk;split at hk
 ·rename_i cs e0;split at hk
  ·rename_i r n e1;split at hk
   ·rename_i sz es e2;obtain⟨rfl,hk⟩:=hk;have DD:o≠r:=fun e=>by rw[e,e2]at e0;cases e0
    obtain⟨g1,i1,i2,i3,i4⟩:=VC hS.inv e2;have ho:=i1.objs o;rw[B1 _ _ _ _ DD,e0]at ho;obtain⟨t1,b,E,vs,a1,a2,a3,a4,a5⟩:=ho;have hl:(AW st.h r (.tok sz es.length) o).live:=by rw[B1 _ _ _ _ DD,e0];trivial
    have Xq:=Tg cs k _ _ e1;have V2:=hS.inv.objs o;rw[e0]at V2;obtain⟨_,b',E',dy,a1',yq,wG,yr,_⟩:=V2
    obtain⟨k1,k2⟩:=i1.upd o (.cells (Ey cs k (.slice (.id r sz) es))) (g1.ρ o) (g1.ln o) (g1.tk o) (g1.own o) g1.S w none ⟨rfl,rfl,rfl,Ak _⟩ (fun _ _ _=>rfl) (fun b e=>by cases e) (fun _ _ h=>h) (fun _ _ h=>.inl h)
     (fun b o e=>by cases e) (fun b' _ e=>⟨(i1.loc o b' hl e).1,.inl ⟨hl,e⟩⟩) (by simp) (fun _=>⟨rfl,Ak _,fun _=>rfl,fun _=>rfl⟩) (fun hg HQ=>by
      obtain⟨u1,u2,u3,u4⟩:=BA g1 o (g1.ρ o) (g1.ln o) (g1.tk o) (g1.own o) g1.S;have KZ:∀i,AR (AW st.h r (.tok sz es.length)) i→AR (AW (AW st.h r (.tok sz es.length)) o (.cells (Ey cs k (.slice (.id r sz) es)))) i:=fun i hi=>DO (by simp) i hi;refine⟨u3.trans t1,b,E,vs,u4.trans a1,u1.trans a2,a3,⟨by rw[KE];exact a4.1,a4.2.1,fun i av x q1 q2=>?_⟩,a5⟩;rcases KD cs k _ i av q1 with ⟨rfl,rfl⟩ | q
      ·have hx:=a4.2.2 i _ x Xq q2;have dw:x=g.ρ r:=by
        have T4:=i2.gh o (by unfold AR;rw[e0];simp);have dv:vs=dy:=by
         have e3:g1.ρ o=g.ρ o:=T4.2.2.1 (by
          have:=(hS.inv.objs o);rw[e0]at this;exact this.1)
         rw[a2,yq]at e3;cases e3;rw[a3]at wG;cases wG;rfl
        subst dv
        have:=yr.2.2 i _ x Xq q2
        cases this with
        |msl _ _ _ _ _ _ _ _ _ hz=>exact hz i4.symm
       rw[dw];exact i3.mono HQ KZ hg
      ·exact(a4.2.2 i av x q q2).mono HQ KZ hg)
    exact⟨_,_,⟨k1,hS.le.trans (i2.trans k2),hS.dfs,hS.size,fun i=>((hS.slots i).le i2).le k2⟩,hk⟩
   ·exact same hk
  ·exact same hk
 ·exact same hk
theorem mf{cx:Cx}{o:Oper}{K:St→Prop}(hS:SR N ds w0 g0 h0 st g a w)(hk:sM cx o st K):∃D4 g',SR N ds w0 g0 h0 D4 g' a w∧K D4:=by
 have same:K st→∃D4 g',SR N ds w0 g0 h0 D4 g' a w∧K D4:=fun hk=>⟨st,g,hS,hk⟩;unfold sM at hk;split at hk
 ·exact same hk
 ·split at hk
  ·exact same hk
  ·rename_i s _;split at hk
   ·rename_i r n ht;split at hk
    ·rename_i sz es hr;obtain⟨hn,hk⟩:=hk;subst hn;have hI:=hS.inv;have ho:=hI.objs r;rw[hr]at ho;obtain⟨t1,l1,al,a2⟩:=ho;have hl:(st.h r).live:=by rw[hr];trivial
     have Wz:=hS.slots s;rw[ht]at Wz;have JY:a.tmps.getD s undef=g.ρ r:=by
      generalize a.tmps.getD s undef=x at Wz;cases Wz with
      |msl _ r n a cap hu ht hn ha hx=>exact hx l1.symm
     have fin:∀g',DJ w0 g0 h0 (AW st.h r (.tok sz es.length)) g' w→Le st.h g w (AW st.h r (.tok sz es.length)) g' w→BI g' w (AR (AW st.h r (.tok sz es.length))) (.slice (.id r sz) es) (g.ρ r) →
       ∃D4 g',SR N ds w0 g0 h0 D4 g' a w∧K D4:=fun g' i1 i2 i3=>by
      refine⟨_,g',⟨i1,hS.le.trans i2,hS.dfs,hS.size,fun i=>?_⟩,hk⟩;show BI g' w (AR (AW st.h r (.tok sz es.length))) (G2 st.t s (.slice (.id r sz) es) i) _
      by_cases e:i=s
      ·subst e
       have:G2 st.t i (.slice (.id r sz) es) i=.slice (.id r sz) es:=by unfold G2;simp
       rw[this,JY];exact i3
      ·have:G2 st.t s (.slice (.id r sz) es) i=st.t i:=by unfold G2;simp[CJ e]
       rw[this];exact(hS.slots i).le i2
     rcases a2 with ⟨b1,b2,b3⟩ | ⟨b,cap,E,vs,b1,b2,b3,b4,b5,b6,b7⟩
     ·subst b1
      obtain⟨k1,k2⟩:=hI.upd r (.tok sz 0) (g.ρ r) (g.ln r) (g.tk r) (g.own r) g.S w none ⟨rfl,rfl,rfl,Ak _⟩ (fun _ _ _=>rfl) (fun b e=>by cases e) (fun _ _ h=>h) (fun _ _ h=>.inl h)
       (fun b o e=>by cases e) (fun b' _ e=>⟨(hI.loc r b' hl e).1,.inl ⟨hl,e⟩⟩) (by simp) (fun _=>⟨rfl,Ak _,fun _=>rfl,fun _=>rfl⟩) (fun hg hk=>by
        obtain⟨u1,u2,u3,u4⟩:=BA g r (g.ρ r) (g.ln r) (g.tk r) (g.own r) g.S;exact⟨u3.trans t1,u2.trans l1,none,0,u1.trans b2,.inl ⟨rfl,u4.trans b3⟩⟩)
      refine fin _ k1 k2 ?_;rw[b2];exact .tok _ r sz [] _ (.snil _ _ _) (by simp) (by unfold AR;rw[Bd];simp) (by simp[Gh.upd,t1]) (by simp) (fun _=>by simp[Gh.upd])
     ·have DI:=(hI.loc r b hl b2).1
      obtain⟨k1,k2⟩:=hI.upd r (.tok sz es.length) (g.ρ r) (g.ln r) (g.tk r) (g.own r) (g.more b (es.length*sz)) w none ⟨rfl,rfl,rfl,Ak _⟩ (fun _ _ _=>rfl) (fun b e=>by cases e) (fun _ _ h=>.inl h)
       (fun b' o hs=>hs.elim .inl (fun hs=>.inr ⟨by rw[hs.1];exact DI,.inr ⟨hl,by rw[hs.1];exact b2⟩⟩)) (fun b o e=>by cases e) (fun b' _ e=>⟨(hI.loc r b' hl e).1,.inl ⟨hl,e⟩⟩) (by simp)
       (fun _=>⟨rfl,Ak _,fun _=>rfl,fun _=>rfl⟩) (fun hg hk=>by
        obtain⟨u1,u2,u3,u4⟩:=BA g r (g.ρ r) (g.ln r) (g.tk r) (g.own r) (g.more b (es.length*sz));exact⟨u3.trans t1,u2.trans l1,_,cap,u1.trans b1,.inr ⟨b3,b,E,vs,0,rfl,u4.trans b2,b4,by rw[b5,Bk],fun o ho=>by
         rcases ho with ho | ⟨_,ho⟩
         ·exact absurd ho (b7 o)
         ·omega⟩⟩)
      refine fin _ k1 k2 ?_;rw[b1];exact .tok _ r sz es _ (BI.slice_row b4 al b3 (b6.mono k2.keeps (fun _ h=>h) (fun _ h=>h.elim)) (fun o ho=>.inr ⟨rfl,ho⟩)) al (by unfold AR;rw[Bd];simp) (by simp[Gh.upd,t1]) (by simp[Gh.upd,l1]) (fun _=>by simp[Gh.upd])
    ·exact same hk
   ·exact same hk
variable {cx:Cx}(hP:cx.P=P)(hT:Cy P cx.T)(hY:∀l σ h g w,Ei σ=true→DJ w0 g0 h0 h g w→Le h0 g0 w0 h g w→cx.yp l σ (Dx σ g) w){ro:Option Nat}{ops:Array Oper}
include hP hT hY
theorem RG{dr:Bool}{o:Oper}(hd:∀i,o.dst=some i→i<N){K:St→Prop}{next:Act→World→Prop}{Q:Exit→Act→World→Prop}(hS:SR N ds w0 g0 h0 st g a w)(hk:G5 cx dr ops.toList o st K)
  (hn:∀D4 g' a' w',K D4→SR N ds w0 g0 h0 D4 g' a' w'→next a' w'):if Region.wanted o (yielded ops a.tmps)then o.wpIn (Jw ro) 0 P a w next Q else next (a.put o.dst undef) w:=by
 have run:dH cx dr o st K→o.wpIn (Jw ro) 0 P a w next Q:=by
  intro hk;unfold dH at hk;split at hk
  ·exact dI hP hY hT hS hk fun v h' g' w' x q1 q2 q3 q4=>hn _ g' _ _ q1 (hS.put hd q2 q3 q4)
  ·obtain⟨g1,jH⟩:=gQ (cx:=cx) (o:=o) hS;obtain⟨D4,g',Sr,hk⟩:=mf jH hk;exact dI hP hY hT Sr hk fun v h' g' w' x q1 q2 q3 q4=>hn _ g' _ _ q1 (Sr.put hd q2 q3 q4)
 have skip:K (st.put o.dst (.v undef) st.h)→next (a.put o.dst undef) w:=fun hk=>hn _ g _ _ hk (hS.put hd hS.inv (.refl _ _ _) (.v _ _))
 unfold G5 at hk;split at hk
 ·rename_i hg;rw[Az (by simp[Region.wanted,hg])];exact run hk
 ·rename_i j want hg;split at hk
  ·exact hk.elim
  ·rename_i d hj;have hy:∀x:Value,BI g w (AR st.h) (st.t d) x→x=a.tmps.getD d undef→True:=fun _ _ _=>trivial;have hs:=hS.slots d;rw[U7]at hj;have key:∀b:Bool,a.tmps.getD d undef=.bool b→yielded ops a.tmps j=some b:=by
    intro b hb;have DI:d<a.tmps.size:=by
     apply Nat.lt_of_not_le;intro oD;rw[Cu,TP oD]at hb;cases hb
    simp only[yielded,hj,Option.bind_some];rw[Cu,BF DI]at hb;rw[BF DI];simp only[Cw]at hb;rw[hb]
   have uX:∀t,a.tmps.getD d undef=.tuple t→yielded ops a.tmps j=none:=by
    intro t hb;simp only[yielded,hj,Option.bind_some];cases he:a.tmps[d]? with
    |none=>rfl
    |some x =>
     rw[Cu,he]at hb;simp only[Cw]at hb;rw[hb]
   generalize hx:st.t d=x at hk hs;split at hk
   ·have:=key true hs.v_eq
    rw[Az (by simp[Region.wanted,hg,this])];exact run hk
   ·have:=key false hs.v_eq
    rw[Az (by simp[Region.wanted,hg,this])];exact run hk
   ·have:=key true hs.v_eq
    rw[Al (by simp[Region.wanted,hg,this])];exact skip hk
   ·have:=key false hs.v_eq
    rw[Al (by simp[Region.wanted,hg,this])];exact skip hk
   ·have:=uX _ hs.v_eq
    rw[Al (by simp[Region.wanted,hg,this])];exact skip hk
   ·exact hk.elim
theorem VB{Q:Exit→Act→World→Prop}{K:St→Prop}(hQ:∀D4 g' a' w',K D4→SR N ds w0 g0 h0 D4 g' a' w'→Q .normal a' w') :
  ∀(l:List Oper),(∀o∈l,∀i,o.dst=some i→i<N)→∀{st:St} {g:Gh} {a:Act} {w:World},SR N ds w0 g0 h0 st g a w→TW cx ops.toList l st K→wpListIn (Jw ro) 0 P ops Q l a w
 | [],_,st,g,a,w,hS,hk=>hQ st g a w hk hS
 | [o],hd,st,g,a,w,hS,hk=>by
  have:=RG hP hT hY (ro:=ro) (hd o (Aa ..)) (next:=wpListIn (Jw ro) 0 P ops Q []) (Q:=Q) hS hk fun D4 g' a' w' q1 q2=>hQ D4 g' a' w' q1 q2
  unfold wpListIn;split
  ·rename_i hw;rw[Az hw]at this;exact this
  ·rename_i hw;rw[Al hw]at this;exact⟨fun _ _=>trivial,this⟩
 |o::o2::l,hd,st,g,a,w,hS,hk=>by
  cases hc:SN o o2 with
  |true =>
   have hk:bu cx o st fun D4=>TW cx ops.toList l D4 K:=by
    have Ir:(match SN o o2 with
     |true=>bu cx o st fun D4=>TW cx ops.toList l D4 K
     |false=>G5 cx false ops.toList o st fun D4=>TW cx ops.toList (o2::l) D4 K):=hk
    rw[hc]at Ir;exact Ir
   obtain⟨g1,g2,h1⟩:=jq hT (ro:=ro) (o2:=o2) (hd o (Aa ..)) hc hS hk (next:=wpListIn (Jw ro) 0 P ops Q l) (Q:=Q) fun D4 g' a' w' q1 q2=>VB hQ l (fun o' lC=>hd o' (Af _ (Af _ lC))) q2 q1
   unfold wpListIn;rw[Az (by simp[Region.wanted,g1])];have e:(fun(a1:Act) (w1:World)=>o2.wpIn (Jw ro) 0 P a1 w1 (wpListIn (Jw ro) 0 P ops Q l) Q)=wpListIn (Jw ro) 0 P ops Q (o2::l):=by
    funext a1 w1
    unfold wpListIn;rw[Az (by simp[Region.wanted,g2])]
   rw[←e];exact h1
  |false =>
   have hk:G5 cx false ops.toList o st fun D4=>TW cx ops.toList (o2::l) D4 K:=by
    have Ir:(match SN o o2 with
     |true=>bu cx o st fun D4=>TW cx ops.toList l D4 K
     |false=>G5 cx false ops.toList o st fun D4=>TW cx ops.toList (o2::l) D4 K):=hk
    rw[hc]at Ir;exact Ir
   have:=RG hP hT hY (ro:=ro) (hd o (Aa ..)) (next:=wpListIn (Jw ro) 0 P ops Q (o2::l)) (Q:=Q) hS hk fun D4 g' a' w' q1 q2=>VB hQ (o2::l) (fun o' lC=>hd o' (Af _ lC)) q2 q1
   unfold wpListIn;split
   ·rename_i hw;rw[Az hw]at this;exact this
   ·rename_i hw;rw[Al hw]at this;exact⟨fun _ _=>trivial,this⟩
theorem Vw{Q:Exit→Act→World→Prop}{K:St→Prop}{FT:Nat→Fr}(hQ:∀D4 g' a' w',K D4→SR N ds w0 g0 h0 D4 g' a' w'→Q .normal a' w')(hd:∀(j:Nat) (o:Oper),ops[j]?=some o→∀i,o.dst=some i→i<N) :
  ∀(fuel:Nat) (listed:Array Bool) {st:St} {g:Gh} {a:Act} {w:World},SR N ds w0 g0 h0 st g a w→WI cx ops FT K fuel listed st→wpAnyIn (Jw ro) 0 P .any ops Q fuel listed a w
 |0,_,st,g,a,w,hS,hk=>⟨hk.1,hQ st g a w hk.2 hS⟩
 |fuel+1,listed,st,g,a,w,hS,hk=>by
  refine⟨fun h0=>hQ st g a w (hk.1 h0) hS,fun i hi=>?_⟩;have h1:=hk.2 i hi;unfold oW at h1;unfold wpOpIn;cases ho:ops[i]? with
  |none=>rw[ho]at h1;exact Vw hQ hd fuel _ hS h1
  |some o =>
   rw[ho]at h1
   have:=RG hP hT hY (ro:=ro) (hd i o ho) (next:=wpAnyIn (Jw ro) 0 P .any ops Q fuel (listed.setIfInBounds i true)) (Q:=Q) hS h1.2 fun D4 g' a' w' q1 q2=>Vw hQ hd fuel _ q2 q1
   dsimp only;split
   ·rename_i hw;rw[Az hw]at this;exact this
   ·rename_i hw;rw[Al hw]at this;exact⟨fun _ _=>trivial,this⟩
end
end Go.Eng
