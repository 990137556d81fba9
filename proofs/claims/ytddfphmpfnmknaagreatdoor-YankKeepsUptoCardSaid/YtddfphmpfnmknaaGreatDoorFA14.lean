/- Lemmas for the claims of this seat, without a condition: part 14 (EngZC). -/
import Derived.Test.YtddfphmpfnmknaaGreatDoorFA13
namespace Go.Eng
section
variable {P:Program}{N:Nat}{ds:List Deferred}{w0:World}{g0:Gh}{h0 h:Nat→HO}{st:St}{g:Gh}{a:Act}{w:World}
theorem ai(hI:DB w0 g0 h0 h g w)(r:Nat):∃g',DB w0 g0 h0 (fo h r) g' w∧Le h g w (fo h r) g' w:=by
 unfold fo;split
 ·rename_i cs e0;have ho:=hI.objs r;rw[e0]at ho;obtain⟨t1,b,E,vs,a1,a2,a3,a4,a5⟩:=ho;have hl:(h r).live:=by rw[e0];trivial
  have DA:=(hI.loc r b hl a1).1;have hs:=Ph hI a4
  obtain⟨k1,k2⟩:=hI.upd r (.ro (cs.map (str h))) (g.ρ r) (g.ln r) (g.tk r) none (g.more b cs.length) w none ⟨rfl,rfl,rfl,Al _⟩ (fun _ _ _=>rfl) (fun b e=>by cases e) (fun _ _ h=>.inl h)
   (fun b' o hs=>hs.elim .inl (fun hs=>.inr ⟨by rw[hs.1];exact DA,.inr ⟨hl,by rw[hs.1];exact a1⟩⟩)) (fun b o e=>by cases e) (fun b hh _=>by cases hh) (by simp)
   (fun _=>⟨rfl,Al _,fun _=>rfl,fun _=>rfl⟩) (fun hg hk=>by
    obtain⟨u1,u2,u3,u4⟩:=Bw g r (g.ρ r) (g.ln r) (g.tk r) none (g.more b cs.length);exact⟨u3.trans t1,b,u1.trans a2,BD.cptr_row a3 (hs.mono hk (fun _ h=>h) (fun _ h=>h.elim)) (fun o ho=>.inr ⟨rfl,by simpa using ho⟩)⟩)
  exact⟨_,k1,k2⟩
 ·rename_i sh BX e0;have ho:=hI.objs r;rw[e0]at ho;obtain⟨t1,b,es,ck,a1,a2,a3,a4,a5,a6⟩:=ho;obtain⟨g1,i1,i2,i3⟩:=QQ hI e0 a1 a2 a3 a4 a5 t1;exact⟨g1,i1,i2⟩
 ·rename_i sh BX e0;have ho:=hI.objs r;rw[e0]at ho;obtain⟨t1,b,es,ck,a1,a2,a3,a4,a5,a6⟩:=ho;obtain⟨g1,i1,i2,i3⟩:=Wt hI e0 a1 a2 a3 a4 a5 t1;exact⟨g1,i1,i2⟩
 ·exact⟨g,hI,.refl _ _ _⟩
theorem Mu:∀(l:List Nat) {h:Nat→HO} {g:Gh},DB w0 g0 h0 h g w→∃g',DB w0 g0 h0 (OF h l) g' w∧Le h g w (OF h l) g' w
 | [],_,g,hI=>⟨g,hI,.refl _ _ _⟩
 |r::l,_,_,hI =>
  let ⟨_,i1,i2⟩:=ai hI r
  let ⟨g2,j1,j2⟩:=Mu l i1
  ⟨g2,j1,i2.trans j2⟩
theorem KB:∀(cs:List AV) (k:Nat) (v:AV) (i:Nat) (av:AV),(Ev cs k v)[i]?=some av→(i=k∧av=v)∨cs[i]?=some av
 | [],_,_,_,_,h=>by simp[Ev]at h
 |c::cs,0,v,i,av,h=>by
  unfold Ev at h;cases i with
  |zero=>simp only[A7,Bi]at h;exact .inl ⟨rfl,h.symm⟩
  |succ i=>exact .inr h
 |c::cs,k+1,v,i,av,h=>by
  unfold Ev at h;cases i with
  |zero=>exact .inr h
  |succ i =>
   rcases KB cs k v i av (by simpa using h)with ⟨e1,e2⟩ | e
   ·exact .inl ⟨by omega,e2⟩
   ·exact .inr (by simpa using e)
theorem KC:∀(cs:List AV) (k:Nat) (v:AV),(Ev cs k v).length=cs.length
 | [],_,_=>rfl
 |_::_,0,_=>rfl
 |_::cs,k+1,v=>by unfold Ev;simp[KC cs k v]
theorem X8:∀(cs:List AV) (k:Nat) (x:Value),I3 cs k=.v x→cs[k]?=some (.v x)
 | [],_,_,h=>by simp[I3]at h
 |_::_,0,_,h=>by unfold I3 at h;simp[h]
 |_::cs,k+1,x,h=>by unfold I3 at h;simpa using X8 cs k x h
theorem oK(hI:DB w0 g0 h0 h g w)(r k j sz:Nat):∃g',DB w0 g0 h0 (tj h r k j sz) g' w∧Le h g w (tj h r k j sz) g' w:=by
 have same:∃g',DB w0 g0 h0 h g' w∧Le h g w h g' w:=⟨g,hI,.refl _ _ _⟩;unfold tj;split
 ·rename_i cs e0;split
  ·rename_i e1;split
   ·rename_i hj;have Dt:r≠j:=fun e=>by rw[e,hj]at e0;cases e0
    obtain⟨g1,i1,i2,i3⟩:=NM hI (sz:=sz) (es:=[]) (a:=none) hj (by simp) rfl (.snil _ _ _);have ho:=i1.objs r;rw[BV _ _ _ _ Dt,e0]at ho;obtain⟨t1,b,E,vs,a1,a2,a3,a4,a5⟩:=ho;have hl:(AT h j (.tok sz 0) r).live:=by rw[BV _ _ _ _ Dt,e0];trivial
    have DA:=(i1.loc r b hl a1).1;have PF:=X8 cs k _ e1
    obtain⟨k1,k2⟩:=i1.upd r (.cells (Ev cs k (.slice (.id j sz) []))) (g1.ρ r) (g1.ln r) (g1.tk r) (g1.own r) g1.S w none ⟨rfl,rfl,rfl,Al _⟩ (fun _ _ _=>rfl) (fun b e=>by cases e) (fun _ _ h=>h) (fun _ _ h=>.inl h)
     (fun b o e=>by cases e) (fun b' _ e=>⟨(i1.loc r b' hl e).1,.inl ⟨hl,e⟩⟩) (by simp) (fun _=>⟨rfl,Al _,fun _=>rfl,fun _=>rfl⟩) (fun hg hk=>by
      obtain⟨u1,u2,u3,u4⟩:=Bw g1 r (g1.ρ r) (g1.ln r) (g1.tk r) (g1.own r) g1.S;have Kd:∀i,AP (AT h j (.tok sz 0)) i→AP (AT (AT h j (.tok sz 0)) r (.cells (Ev cs k (.slice (.id j sz) [])))) i:=fun i hi=>DI (by simp) i hi;refine⟨u3.trans t1,b,E,vs,u4.trans a1,u1.trans a2,a3,⟨by rw[KC];exact a4.1,a4.2.1,fun i av x q1 q2=>?_⟩,a5⟩;rcases KB cs k _ i av q1 with ⟨rfl,rfl⟩ | q
      ·have:=(a4.2.2 i _ x PF q2).v_eq
       subst this;exact i3.mono hk Kd hg
      ·exact(a4.2.2 i av x q q2).mono hk Kd hg)
    exact⟨_,k1,i2.trans k2⟩
   ·exact same
  ·exact same
 ·exact same
theorem ig{cx:Cx}{o:Oper}(hS:SR N ds w0 g0 h0 st g a w):∃g',SR N ds w0 g0 h0 (ie cx o st) g' a w:=by
 unfold ie;split
 ·exact⟨g,hS⟩
 ·rename_i d _;split
  ·obtain⟨g',h1,h2⟩:=oK hS.inv _ _ _ _;exact⟨g',h1,hS.le.trans h2,hS.dfs,hS.size,fun i=>(hS.slots i).le h2⟩
  split
  ·exact⟨g,hS⟩
  ·obtain⟨g',h1,h2⟩:=Mu (mL cx.pl.fz d) hS.inv;exact⟨g',h1,hS.le.trans h2,hS.dfs,hS.size,fun i=>(hS.slots i).le h2⟩
theorem Tp:∀(cs:List AV) (k:Nat) (r n:Nat),I3 cs k=.msl r n→cs[k]?=some (.msl r n)
 | [],_,_,_,h=>by simp[I3]at h
 |_::_,0,_,_,h=>by unfold I3 at h;simp[h]
 |_::cs,k+1,r,n,h=>by unfold I3 at h;simpa using Tp cs k r n h
theorem VN(hI:DB w0 g0 h0 h g w){r sz:Nat}{es:List (List AV)}(hr:h r=.arr sz es) :
  ∃g',DB w0 g0 h0 (AT h r (.tok sz es.length)) g' w∧Le h g w (AT h r (.tok sz es.length)) g' w∧BD g' w (AP (AT h r (.tok sz es.length))) (.slice (.id r sz) es) (g.ρ r)∧g.ln r=es.length:=by
 have ho:=hI.objs r;rw[hr]at ho;obtain⟨t1,l1,al,a2⟩:=ho;have hl:(h r).live:=by rw[hr];trivial
 rcases a2 with ⟨b1,b2,b3⟩ | ⟨b,cap,E,vs,b1,b2,b3,b4,b5,b6,b7⟩
 ·subst b1
  obtain⟨k1,k2⟩:=hI.upd r (.tok sz 0) (g.ρ r) (g.ln r) (g.tk r) (g.own r) g.S w none ⟨rfl,rfl,rfl,Al _⟩ (fun _ _ _=>rfl) (fun b e=>by cases e) (fun _ _ h=>h) (fun _ _ h=>.inl h)
   (fun b o e=>by cases e) (fun b' _ e=>⟨(hI.loc r b' hl e).1,.inl ⟨hl,e⟩⟩) (by simp) (fun _=>⟨rfl,Al _,fun _=>rfl,fun _=>rfl⟩) (fun hg hk=>by
    obtain⟨u1,u2,u3,u4⟩:=Bw g r (g.ρ r) (g.ln r) (g.tk r) (g.own r) g.S;exact⟨u3.trans t1,u2.trans l1,none,0,u1.trans b2,.inl ⟨rfl,u4.trans b3⟩⟩)
  refine⟨_,k1,k2,?_,l1⟩;rw[b2];exact .tok _ r sz [] _ (.snil _ _ _) (by simp) (by unfold AP;rw[AF,Ba];simp) (by simp[Gh.upd,t1]) (by simp) (fun _=>by simp[Gh.upd])
 ·have DA:=(hI.loc r b hl b2).1
  obtain⟨k1,k2⟩:=hI.upd r (.tok sz es.length) (g.ρ r) (g.ln r) (g.tk r) (g.own r) (g.more b (es.length*sz)) w none ⟨rfl,rfl,rfl,Al _⟩ (fun _ _ _=>rfl) (fun b e=>by cases e) (fun _ _ h=>.inl h)
   (fun b' o hs=>hs.elim .inl (fun hs=>.inr ⟨by rw[hs.1];exact DA,.inr ⟨hl,by rw[hs.1];exact b2⟩⟩)) (fun b o e=>by cases e) (fun b' _ e=>⟨(hI.loc r b' hl e).1,.inl ⟨hl,e⟩⟩) (by simp)
   (fun _=>⟨rfl,Al _,fun _=>rfl,fun _=>rfl⟩) (fun hg hk=>by
    obtain⟨u1,u2,u3,u4⟩:=Bw g r (g.ρ r) (g.ln r) (g.tk r) (g.own r) (g.more b (es.length*sz));exact⟨u3.trans t1,u2.trans l1,_,cap,u1.trans b1,.inr ⟨b3,b,E,vs,0,rfl,u4.trans b2,b4,by rw[b5,Bg],fun o ho=>by
     rcases ho with ho | ⟨_,ho⟩
     ·exact absurd ho (b7 o)
     ·omega⟩⟩)
  refine⟨_,k1,k2,?_,l1⟩;rw[b1];exact .tok _ r sz es _ (BD.slice_row b4 al b3 (b6.mono k2.keeps (fun _ h=>h) (fun _ h=>h.elim)) (fun o ho=>.inr ⟨rfl,ho⟩)) al (by unfold AP;rw[Ba];simp) (by simp[Gh.upd,t1]) (by simp[Gh.upd,l1]) (fun _=>by simp[Gh.upd])
theorem DB.move{w0:World}{g0:Gh}{h0 h:Nat→HO}{g:Gh}{w:World}(hI:DB w0 g0 h0 h g w)(r r2:Nat)(Dt:r2≠r)(hf:h r2=.free)(hl:(h r).live){b:Nat}(ho:g.own r=some b)(o' : HO)(x:Value)(n:Nat)(t:Bool)(hn:o'≠.free)
  (Jk:EA g w (g.upd r2 x n t (some b) g.S) w→D6 (g.upd r2 x n t (some b) g.S) w (AP (AT (AT h r .dead) r2 o')) r2 o') :
  DB w0 g0 h0 (AT (AT h r .dead) r2 o') (g.upd r2 x n t (some b) g.S) w∧Le h g w (AT (AT h r .dead) r2 o') (g.upd r2 x n t (some b) g.S) w:=by
 have dL:JX g (g.upd r2 x n t (some b) g.S) (AP h):=by
  intro i hi;have e:i≠r2:=fun e=>hi (by rw[e];exact hf);refine⟨by simp[Gh.upd,e],by simp[Gh.upd,e],fun _=>by simp[Gh.upd,e],fun _=>by simp[Gh.upd,e]⟩
 have hK:EA g w (g.upd r2 x n t (some b) g.S) w:=fun b o hb=>⟨hb,rfl,fun _ _ h=>h⟩;have Kd:∀i,AP h i→AP (AT (AT h r .dead) r2 o') i:=fun i hi=>DI hn i (DI (by simp) i hi);have key:∀i,i≠r2→(AT (AT h r .dead) r2 o' i).live→i≠r∧(h i).live:=fun i h2 hl=>by
  rw[BV _ _ _ _ h2]at hl
  by_cases e:i=r
  ·subst e;rw[Ba]at hl;exact hl.elim
  ·rw[BV _ _ _ _ e]at hl;exact⟨e,hl⟩
 have own:∀i,i≠r2→(g.upd r2 x n t (some b) g.S).own i=g.own i:=fun i e=>by simp[Gh.upd,e]
 have Tt:(g.upd r2 x n t (some b) g.S).own r2=some b:=by simp[Gh.upd]
 refine⟨⟨hI.os,hI.tape,hI.output,hI.size,hI.frame,hI.slt,fun i=>?_,fun i j c hi hj ei ej=>?_,fun i c hi ei=>?_,hI.sg,hI.glob.keep hK⟩,dL,Kd,hK⟩
 ·by_cases e:i=r2
  ·subst e;rw[Ba];exact Jk hK
  ·rw[BV _ _ _ _ e]
   by_cases e1:i=r
   ·subst e1;rw[Ba];trivial
   ·rw[BV _ _ _ _ e1];exact(hI.objs i).same hK Kd dL (by simp[Gh.upd,e]) (by simp[Gh.upd,e]) (by simp[Gh.upd,e]) (by simp[Gh.upd,e]) (fun b hl hb=>⟨rfl,fun k hk=>hk⟩)
 ·by_cases e1:i=r2<;>by_cases e2:j=r2
  ·exact e1.trans e2.symm
  ·subst e1;rw[Tt]at ei;rw[own j e2]at ej;cases ei;obtain⟨a1,a2⟩:=key j e2 hj;exact absurd (hI.inj j r _ a2 hl ej ho) a1
  ·subst e2;rw[Tt]at ej;rw[own i e1]at ei;cases ej;obtain⟨a1,a2⟩:=key i e1 hi;exact absurd (hI.inj i r _ a2 hl ei ho) a1
  ·rw[own i e1]at ei;rw[own j e2]at ej;exact hI.inj i j c (key i e1 hi).2 (key j e2 hj).2 ei ej
 ·by_cases e1:i=r2
  ·subst e1;rw[Tt]at ei;cases ei;exact hI.loc r _ hl ho
  ·rw[own i e1]at ei;exact hI.loc i c (key i e1 hi).2 ei
theorem mK(hS:SR N ds w0 g0 h0 st g a w){s k:Nat}{K:St→Prop}(hk:tw st s k K):∃D7 g',SR N ds w0 g0 h0 D7 g' a w∧K D7:=by
 have same:K st→∃D7 g',SR N ds w0 g0 h0 D7 g' a w∧K D7:=fun hk=>⟨st,g,hS,hk⟩;unfold tw at hk;split at hk
 ·rename_i r n ht;have WQ:=hS.slots s;rw[ht]at WQ;split at hk
  ·rename_i sz es hr;have ho:=hS.inv.objs r;rw[hr]at ho;obtain⟨t1,l1,al,a2⟩:=ho;have hl:(st.h r).live:=by rw[hr];trivial
   have hval:n=es.length→a.tmps.getD s undef=g.ρ r:=fun hn=>by
    generalize a.tmps.getD s undef=x at WQ;cases WQ with
    |msl _ r n a cap hu ht XM ha hx=>exact hx (hn.trans l1.symm)
   have fin:∀(h' : Nat→HO) (v:AV) (g' : Gh),DB w0 g0 h0 h' g' w→Le st.h g w h' g' w→BD g' w (AP h') v (a.tmps.getD s undef)→SR N ds w0 g0 h0 ⟨G4 st.t s v,h'⟩ g' a w:=fun h' v g' i1 i2 i3=>by
    refine⟨i1,hS.le.trans i2,hS.dfs,hS.size,fun i=>?_⟩;show BD g' w (AP h') (G4 st.t s v i) _
    by_cases e:i=s
    ·subst e
     have:G4 st.t i v i=v:=by unfold G4;simp
     rw[this];exact i3
    ·have:G4 st.t s v i=st.t i:=by unfold G4;simp[Cz e]
     rw[this];exact(hS.slots i).le i2
   split at hk
   ·obtain⟨hn,hk⟩:=hk;obtain⟨g1,i1,i2,i3,i4⟩:=VN hS.inv hr
    obtain⟨k1,k2⟩:=i1.upd r .dead (g1.ρ r) (g1.ln r) (g1.tk r) (g1.own r) g1.S w none ⟨rfl,rfl,rfl,Al _⟩ (fun _ _ _=>rfl) (fun b e=>by cases e) (fun _ _ h=>h) (fun _ _ h=>.inl h) (fun b o e=>by cases e) (fun b hh _=>by cases hh) (by simp)
     (fun _=>⟨rfl,Al _,fun _=>rfl,fun _=>rfl⟩) (fun _ _=>trivial)
    exact⟨_,_,fin _ _ _ k1 (i2.trans k2) (by rw[hval hn];exact(i3.slice_none.up _).le k2),hk⟩
   ·rename_i k;split at hk
    ·exact same hk
    ·rename_i hb;have Dt:k+1≠r:=fun e=>by rw[e]at hb;exact absurd (CN r) (by rw[hb];decide)
     split at hk
     ·rename_i hf;obtain⟨hn,hk⟩:=hk;rcases a2 with ⟨b1,b2,b3⟩ | ⟨b,cap,E,vs,b1,b2,b3,b4,b5,b6,b7⟩
      ·subst b1;have hv:=hval hn
       obtain⟨k1,k2⟩:=hS.inv.upd r .dead (g.ρ r) (g.ln r) (g.tk r) (g.own r) g.S w none ⟨rfl,rfl,rfl,Al _⟩ (fun _ _ _=>rfl) (fun b e=>by cases e) (fun _ _ h=>h) (fun _ _ h=>.inl h) (fun b o e=>by cases e) (fun b hh _=>by cases hh) (by simp)
        (fun _=>⟨rfl,Al _,fun _=>rfl,fun _=>rfl⟩) (fun _ _=>trivial)
       have u5:AT st.h r .dead (k+1)=.free:=by rw[BV _ _ _ _ Dt];exact hf
       obtain⟨m1,m2⟩:=k1.upd (k+1) (.arr sz []) (.slice none 0 0) 0 true none (g.upd r (g.ρ r) (g.ln r) (g.tk r) (g.own r) g.S).S w none ⟨rfl,rfl,rfl,Al _⟩ (fun _ _ _=>rfl) (fun b e=>by cases e) (fun _ _ h=>h) (fun _ _ h=>.inl h) (fun b o e=>by cases e) (fun b _ e=>by cases e) (by simp)
        (fun hu=>absurd u5 hu) (fun _ _=>by
         obtain⟨u1,u2,u3,u4⟩:=Bw (g.upd r (g.ρ r) (g.ln r) (g.tk r) (g.own r) g.S) (k+1) (.slice none 0 0) 0 true none (g.upd r (g.ρ r) (g.ln r) (g.tk r) (g.own r) g.S).S;exact⟨u3,u2,by simp,.inl ⟨rfl,u1,u4⟩⟩)
       refine⟨_,_,fin _ _ _ m1 (k2.trans m2) ?_,hk⟩;rw[hv,b2,hn];exact .msl _ (k+1) 0 none 0 (by unfold AP;rw[Ba];simp) (by simp[Gh.upd]) (AJ _) (.inl rfl) (fun _=>by simp[Gh.upd])
      ·have hv:=hval hn;obtain⟨m1,m2⟩:=hS.inv.move r (k+1) Dt hf hl b2 (.arr sz es) (g.ρ r) es.length true (by simp) (fun HZ=>by
        obtain⟨u1,u2,u3,u4⟩:=Bw g (k+1) (g.ρ r) es.length true (some b) g.S;exact⟨u3,u2,al,.inr ⟨b,cap,E,vs,u1.trans b1,u4,b3,b4,b5,b6.mono HZ (fun _ h=>h) (fun _ h=>h.elim),b7⟩⟩)
       refine⟨_,_,fin _ _ _ m1 m2 ?_,hk⟩;rw[hv,b1,hn];exact .msl _ (k+1) es.length _ cap (by unfold AP;rw[Ba];simp) (by simp[Gh.upd]) (by simp[Gh.upd]) (.inr ⟨b,rfl⟩) (fun _=>by simp[Gh.upd])
     ·exact hk.elim
  ·exact same hk
 ·exact same hk
theorem mJ(hS:SR N ds w0 g0 h0 st g a w){o k j:Nat}{K:(Nat→HO)→Prop}(hk:tv st.h o k j K):∃h' g',SR N ds w0 g0 h0 ⟨st.t,h'⟩ g' a w∧K h':=by
 unfold tv at hk;split at hk
 ·rename_i cs e0;split at hk
  ·rename_i r n e1;split at hk
   ·rename_i sz es e2;split at hk
    ·rename_i hf;obtain⟨hn,hk⟩:=hk;have ho:=hS.inv.objs r;rw[e2]at ho;obtain⟨t1,l1,al,a2⟩:=ho;have hl:(st.h r).live:=by rw[e2];trivial
     have Dt:j≠r:=fun e=>by rw[e,e2]at hf;cases hf
     have jf:o≠r:=fun e=>by rw[e,e2]at e0;cases e0
     have kh:o≠j:=fun e=>by rw[e,hf]at e0;cases e0
     -- the array goes to the new id,which stands for the same slice
     have step:∃g1,DB w0 g0 h0 (AT (AT st.h r .dead) j (.arr sz es)) g1 w∧Le st.h g w (AT (AT st.h r .dead) j (.arr sz es)) g1 w∧g1.tk j=true∧g1.ln j=es.length∧g1.ρ j=g.ρ r:=by
      rcases a2 with ⟨b1,b2,b3⟩ | ⟨b,cap,E,vs,b1,b2,b3,b4,b5,b6,b7⟩
      ·subst b1
       obtain⟨k1,k2⟩:=hS.inv.upd r .dead (g.ρ r) (g.ln r) (g.tk r) (g.own r) g.S w none ⟨rfl,rfl,rfl,Al _⟩ (fun _ _ _=>rfl) (fun b e=>by cases e) (fun _ _ h=>h) (fun _ _ h=>.inl h) (fun b o e=>by cases e) (fun b hh _=>by cases hh) (by simp)
        (fun _=>⟨rfl,Al _,fun _=>rfl,fun _=>rfl⟩) (fun _ _=>trivial)
       have u5:AT st.h r .dead j=.free:=by rw[BV _ _ _ _ Dt];exact hf
       obtain⟨m1,m2⟩:=k1.upd j (.arr sz []) (.slice none 0 0) 0 true none (g.upd r (g.ρ r) (g.ln r) (g.tk r) (g.own r) g.S).S w none ⟨rfl,rfl,rfl,Al _⟩ (fun _ _ _=>rfl) (fun b e=>by cases e) (fun _ _ h=>h) (fun _ _ h=>.inl h) (fun b o e=>by cases e) (fun b _ e=>by cases e) (by simp)
        (fun hu=>absurd u5 hu) (fun _ _=>by
         obtain⟨u1,u2,u3,u4⟩:=Bw (g.upd r (g.ρ r) (g.ln r) (g.tk r) (g.own r) g.S) j (.slice none 0 0) 0 true none (g.upd r (g.ρ r) (g.ln r) (g.tk r) (g.own r) g.S).S;exact⟨u3,u2,by simp,.inl ⟨rfl,u1,u4⟩⟩)
       exact⟨_,m1,k2.trans m2,by simp[Gh.upd],by simp[Gh.upd],by simp[Gh.upd,b2]⟩
      ·obtain⟨m1,m2⟩:=hS.inv.move r j Dt hf hl b2 (.arr sz es) (g.ρ r) es.length true (by simp) (fun HZ=>by
        obtain⟨u1,u2,u3,u4⟩:=Bw g j (g.ρ r) es.length true (some b) g.S;exact⟨u3,u2,al,.inr ⟨b,cap,E,vs,u1.trans b1,u4,b3,b4,b5,b6.mono HZ (fun _ h=>h) (fun _ h=>h.elim),b7⟩⟩)
       exact⟨_,m1,m2,by simp[Gh.upd],by simp[Gh.upd],by simp[Gh.upd]⟩
     obtain⟨g1,i1,i2,j1,j2,j3⟩:=step
     -- the cell
     have ho:=hS.inv.objs o;rw[e0]at ho;have yh:=i1.objs o;rw[BV _ _ _ _ kh,BV _ _ _ _ jf,e0]at yh;obtain⟨t2,b,E,vs,c1,c2,c3,c4,c5⟩:=yh;obtain⟨_,b',E',dR,jA,zd,xt,zg,_⟩:=ho;have hb:b'=b:=by
      have h2:=i2.gh o (by unfold AP;rw[e0];simp);have h3:=h2.2.2.1 (by assumption);rw[h3,zd]at c2;cases c2;rfl
     subst hb;rw[c3]at xt;cases xt;have ci:(AT (AT st.h r .dead) j (.arr sz es) o).live:=by rw[BV _ _ _ _ kh,BV _ _ _ _ jf,e0];trivial
     have PF:=Tp cs k _ _ e1
     obtain⟨k1,k2⟩:=i1.upd o (.cells (Ev cs k (.msl j n))) (g1.ρ o) (g1.ln o) (g1.tk o) (g1.own o) g1.S w none ⟨rfl,rfl,rfl,Al _⟩ (fun _ _ _=>rfl) (fun b e=>by cases e) (fun _ _ h=>h) (fun _ _ h=>.inl h)
      (fun b o e=>by cases e) (fun b' _ e=>⟨(i1.loc o b' ci e).1,.inl ⟨ci,e⟩⟩) (by simp) (fun _=>⟨rfl,Al _,fun _=>rfl,fun _=>rfl⟩) (fun hg Uh=>by
       obtain⟨u1,u2,u3,u4⟩:=Bw g1 o (g1.ρ o) (g1.ln o) (g1.tk o) (g1.own o) g1.S;have Kd:∀i,AP (AT (AT st.h r .dead) j (.arr sz es)) i→AP (AT (AT (AT st.h r .dead) j (.arr sz es)) o (.cells (Ev cs k (.msl j n)))) i:=fun i hi=>DI (by simp) i hi;refine⟨u3.trans t2,_,E,vs,u4.trans c1,u1.trans c2,c3,⟨by rw[KC];exact c4.1,c4.2.1,fun i av x q1 q2=>?_⟩,c5⟩;rcases KB cs k _ i av q1 with ⟨rfl,rfl⟩ | q
       ·have hx:=zg.2.2 i _ x PF q2;have hm:BD g1 w (AP (AT (AT st.h r .dead) j (.arr sz es))) (.msl j n) x:=by
         cases hx with
         |msl _ _ _ a cap hu ht' XM ha Ly =>
         refine .msl _ _ _ _ _ (by unfold AP;rw[Ba];simp) j1 (by omega) ha (fun e=>?_);rw[j3];exact Ly (hn.trans l1.symm)
        exact hm.mono Uh Kd hg
       ·exact(c4.2.2 i av x q q2).mono Uh Kd hg)
     exact⟨_,_,⟨k1,hS.le.trans (i2.trans k2),hS.dfs,hS.size,fun i=>(hS.slots i).le (i2.trans k2)⟩,hk⟩
    ·exact hk.elim
   ·exact hk.elim
  ·exact hk.elim
 ·exact hk.elim
theorem Od{h:Nat→HO}(hI:DB w0 g0 h0 h g w){o k:Nat}{cs:List AV}(e0:h o=.cells cs){old new:AV}(hk:cs[k]?=some old)(Ed:∀x:Value,BD g w (AP h) old x→BD g w (AP h) new x) :
  ∃g',DB w0 g0 h0 (AT h o (.cells (Ev cs k new))) g' w∧Le h g w (AT h o (.cells (Ev cs k new))) g' w:=by
 have ho:=hI.objs o;rw[e0]at ho;obtain⟨t1,b,E,vs,a1,a2,a3,a4,a5⟩:=ho;have hl:(h o).live:=by rw[e0];trivial
 obtain⟨k1,k2⟩:=hI.upd o (.cells (Ev cs k new)) (g.ρ o) (g.ln o) (g.tk o) (g.own o) g.S w none ⟨rfl,rfl,rfl,Al _⟩ (fun _ _ _=>rfl) (fun b e=>by cases e) (fun _ _ h=>h) (fun _ _ h=>.inl h)
  (fun b o e=>by cases e) (fun b' _ e=>⟨(hI.loc o b' hl e).1,.inl ⟨hl,e⟩⟩) (by simp) (fun _=>⟨rfl,Al _,fun _=>rfl,fun _=>rfl⟩) (fun hg Uh=>by
   obtain⟨u1,u2,u3,u4⟩:=Bw g o (g.ρ o) (g.ln o) (g.tk o) (g.own o) g.S;have Kd:∀i,AP h i→AP (AT h o (.cells (Ev cs k new))) i:=fun i hi=>DI (by simp) i hi;refine⟨u3.trans t1,b,E,vs,u4.trans a1,u1.trans a2,a3,⟨by rw[KC];exact a4.1,a4.2.1,fun i av x q1 q2=>?_⟩,a5⟩;rcases KB cs k _ i av q1 with ⟨rfl,rfl⟩ | q
   ·exact(Ed x (a4.2.2 i _ x hk q2)).mono Uh Kd hg
   ·exact(a4.2.2 i av x q q2).mono Uh Kd hg)
 exact⟨_,k1,k2⟩
theorem I9:∀(cs:List AV) (k:Nat) (a:AV),I3 cs k=a→a≠.junk→cs[k]?=some a
 | [],_,a,h,hn=>by simp only[I3]at h;exact absurd h.symm hn
 |_::_,0,_,h,_=>by unfold I3 at h;simp[h]
 |_::cs,k+1,a,h,hn=>by unfold I3 at h;simpa using I9 cs k a h hn
theorem DB.moveV{h:Nat→HO}(hI:DB w0 g0 h0 h g w)(r r2 v:Nat)(Dt:r2≠r)(hf:h r2=.vox v)(hl:(h r).live)(o' : HO)(x:Value)(n:Nat)(hv:v<n)(hn:o'≠.free)
  (Jk:EA g w (g.upd r2 x n true (g.own r) g.S) w→D6 (g.upd r2 x n true (g.own r) g.S) w (AP (AT (AT h r .dead) r2 o')) r2 o') :
  DB w0 g0 h0 (AT (AT h r .dead) r2 o') (g.upd r2 x n true (g.own r) g.S) w∧Le h g w (AT (AT h r .dead) r2 o') (g.upd r2 x n true (g.own r) g.S) w:=by
 have pi:=hI.objs r2;rw[hf]at pi;obtain⟨yt,ci⟩:=pi;have dL:JX g (g.upd r2 x n true (g.own r) g.S) (AP h):=by
  intro i hi
  by_cases e:i=r2
  ·subst e;refine⟨by simp[Gh.upd,yt],by simp[Gh.upd];omega,fun e=>(by rw[yt]at e;cases e),fun e=>?_⟩;simp[Gh.upd]at e;omega
  ·exact⟨by simp[Gh.upd,e],by simp[Gh.upd,e],fun _=>by simp[Gh.upd,e],fun _=>by simp[Gh.upd,e]⟩
 have hK:EA g w (g.upd r2 x n true (g.own r) g.S) w:=fun b o hb=>⟨hb,rfl,fun _ _ h=>h⟩;have Kd:∀i,AP h i→AP (AT (AT h r .dead) r2 o') i:=fun i hi=>DI hn i (DI (by simp) i hi);have key:∀i,i≠r2→(AT (AT h r .dead) r2 o' i).live→i≠r∧(h i).live:=fun i h2 hl=>by
  rw[BV _ _ _ _ h2]at hl
  by_cases e:i=r
  ·subst e;rw[Ba]at hl;exact hl.elim
  ·rw[BV _ _ _ _ e]at hl;exact⟨e,hl⟩
 have own:∀i,i≠r2→(g.upd r2 x n true (g.own r) g.S).own i=g.own i:=fun i e=>by simp[Gh.upd,e]
 have Tt:(g.upd r2 x n true (g.own r) g.S).own r2=g.own r:=by simp[Gh.upd]
 refine⟨⟨hI.os,hI.tape,hI.output,hI.size,hI.frame,hI.slt,fun i=>?_,fun i j c hi hj ei ej=>?_,fun i c hi ei=>?_,hI.sg,hI.glob.keep hK⟩,dL,Kd,hK⟩
 ·by_cases e:i=r2
  ·subst e;rw[Ba];exact Jk hK
  ·rw[BV _ _ _ _ e]
   by_cases e1:i=r
   ·subst e1;rw[Ba];trivial
   ·rw[BV _ _ _ _ e1];exact(hI.objs i).same hK Kd dL (by simp[Gh.upd,e]) (by simp[Gh.upd,e]) (by simp[Gh.upd,e]) (by simp[Gh.upd,e]) (fun b hl hb=>⟨rfl,fun k hk=>hk⟩)
 ·by_cases e1:i=r2<;>by_cases e2:j=r2
  ·exact e1.trans e2.symm
  ·subst e1;rw[Tt]at ei;rw[own j e2]at ej;obtain⟨a1,a2⟩:=key j e2 hj;exact absurd (hI.inj j r _ a2 hl ej ei) a1
  ·subst e2;rw[Tt]at ej;rw[own i e1]at ei;obtain⟨a1,a2⟩:=key i e1 hi;exact absurd (hI.inj i r _ a2 hl ei ej) a1
  ·rw[own i e1]at ei;rw[own j e2]at ej;exact hI.inj i j c (key i e1 hi).2 (key j e2 hj).2 ei ej
 ·by_cases e1:i=r2
  ·subst e1;rw[Tt]at ei;exact hI.loc r _ hl ei
  ·rw[own i e1]at ei;exact hI.loc i c (key i e1 hi).2 ei
theorem oL(hS:SR N ds w0 g0 h0 st g a w){o k d:Nat}{K:(Nat→HO)→Prop}(hk:xe st.h o k d K):∃h' g',SR N ds w0 g0 h0 ⟨st.t,h'⟩ g' a w∧K h':=by
 unfold xe at hk;split at hk
 ·rename_i cs e0;split at hk
  ·rename_i r sz v es e1;split at hk
   ·rename_i Gq v' n e2;split at hk
    ·rename_i hf;obtain⟨⟨rfl,rfl⟩,hk⟩:=hk;have ho:=hS.inv.objs r;rw[e2]at ho;obtain⟨t1,l1,a0,cap,r1,a2⟩:=ho;have hl:(st.h r).live:=by rw[e2];trivial
     have Dt:d≠r:=fun e=>by rw[e,e2]at hf;cases hf
     have jf:o≠r:=fun e=>by rw[e,e2]at e0;cases e0
     have vw:o≠d:=fun e=>by rw[e,hf]at e0;cases e0
     have PF:=I9 cs k _ e1 (by simp)
     -- the value that stands in the cell
     have yj:=hS.inv.objs o;rw[e0]at yj;obtain⟨_,b',E',dR,c1,c2,c3,c4,_⟩:=yj;obtain⟨x,hx1,_,pj⟩:=c4.at PF;have pk:x=.slice a0 n cap∧es.length=n∧BD g w Fi (.slice .none es) x∧∀c∈es,c.length=sz:=by
      have h3:=pj.slice_none;cases pj with
      |ver _ _ _ _ _ _ h WO hu ht hn hx =>
       have:=hx l1.symm
       rw[r1]at this;subst this;refine⟨rfl,?_,h3,WO⟩;cases h3 with
       |snil=>rfl
       |slice=>rfl
     obtain⟨hxe,hn,hx3,WO⟩:=pk;subst hn;obtain⟨m1,m2⟩:=hS.inv.moveO r d Dt hf hl (ob:=g.own r) (fun c h=>h) (.tok sz es.length) (.slice a0 es.length cap) es.length true (by simp) (fun HZ=>by
      obtain⟨u1,u2,u3,u4⟩:=Bw g d (.slice a0 es.length cap) es.length true (g.own r) g.S;refine⟨u3,u2,a0,cap,u1,?_⟩;rw[u4];exact a2)
     generalize Ug:g.upd d (.slice a0 es.length cap) es.length true (g.own r) g.S=g1 at m1 m2;have gr:g1.tk r=true∧g1.ln r=v:=by rw[←Ug];simp[Gh.upd,Ne.symm Dt,t1,l1]
     have gd:g1.tk d=true∧g1.ln d=es.length∧g1.ρ d=.slice a0 es.length cap:=by rw[←Ug];simp[Gh.upd]
     -- the id keeps its version
     have vG:(AT (AT st.h r .dead) d (.tok sz es.length)) r=.dead:=by rw[BV _ _ _ _ (T5 Dt),Ba]
     obtain⟨n1,n2⟩:=m1.upd r (.vox v) (g1.ρ r) (g1.ln r) (g1.tk r) (g1.own r) g1.S w none ⟨rfl,rfl,rfl,Al _⟩ (fun _ _ _=>rfl) (fun b e=>by cases e) (fun _ _ h=>h) (fun _ _ h=>.inl h) (fun b o e=>by cases e) (fun b hh _=>by cases hh) (by simp)
      (fun _=>⟨rfl,Al _,fun _=>rfl,fun _=>rfl⟩) (fun _ _=>by
       obtain⟨u1,u2,u3,u4⟩:=Bw g1 r (g1.ρ r) (g1.ln r) (g1.tk r) (g1.own r) g1.S;exact⟨u3.trans gr.1,u2.trans gr.2⟩)
     have hh:AT (AT (AT st.h r .dead) d (.tok sz es.length)) r (.vox v)=AT (AT st.h r (.vox v)) d (.tok sz es.length):=by
      funext i
      unfold AT
      by_cases e:i=r
      ·subst e;rw[CN,Cz (T5 Dt)];rfl
      ·rw[Cz e];rfl
     rw[hh]at n1 n2;generalize fO:g1.upd r (g1.ρ r) (g1.ln r) (g1.tk r) (g1.own r) g1.S=g2 at n1 n2;have sD:g2.tk d=true∧g2.ln d=es.length∧g2.ρ d=.slice a0 es.length cap:=by rw[←fO];simp[Gh.upd,Dt,gd]
     have ne : (AT (AT st.h r (.vox v)) d (.tok sz es.length)) o=.cells cs:=by rw[BV _ _ _ _ vw,BV _ _ _ _ jf,e0]
     have L2:=m2.trans n2;have Aah:g2.ρ o=g.ρ o:=(L2.gh o (by unfold AP;rw[e0];simp)).2.2.1 (by assumption);obtain⟨g3,p1,p2⟩:=Od n1 ne PF (new:=.slice (.id d sz) es) (fun y hy=>by
      have h3:=hy.slice_none;have xD:g2.ln r=v∧g2.ρ r=.slice a0 es.length cap:=by rw[←fO,←Ug];simp[Gh.upd,Ne.symm Dt,l1,r1]
      have re:y=.slice a0 es.length cap:=by
       cases hy with
       |ver _ _ _ _ _ _ h WO hu ht hn hx=>exact(hx xD.1.symm).trans xD.2
      subst re;exact .tok _ d sz es _ (h3.up _) WO (by unfold AP;rw[Ba];simp) sD.1 (by rw[sD.2.1];exact Al _) (fun _=>sD.2.2.symm))
     exact⟨_,g3,⟨p1,hS.le.trans (L2.trans p2),hS.dfs,hS.size,fun i=>(hS.slots i).le (L2.trans p2)⟩,hk⟩
    ·exact hk.elim
   ·exact hk.elim
  ·exact⟨_,g,hS,hk⟩
 ·exact hk.elim
theorem iu(hS:SR N ds w0 g0 h0 st g a w){o k r:Nat}{K:(Nat→HO)→Prop}(hk:td st.h o k r K):∃h' g',SR N ds w0 g0 h0 ⟨st.t,h'⟩ g' a w∧K h':=by
 unfold td at hk;split at hk
 ·rename_i cs e0;split at hk
  ·rename_i d sz es e1;split at hk
   ·rename_i Gq n e2;split at hk
    ·rename_i v hf;obtain⟨⟨hn,rfl⟩,hk⟩:=hk;subst hn;have ho:=hS.inv.objs d;rw[e2]at ho;obtain⟨t1,l1,a0,cap,r1,a2⟩:=ho;have hl:(st.h d).live:=by rw[e2];trivial
     have Dt:r≠d:=fun e=>by rw[e,e2]at hf;cases hf
     have vw:o≠d:=fun e=>by rw[e,e2]at e0;cases e0
     have jf:o≠r:=fun e=>by rw[e,hf]at e0;cases e0
     have PF:=I9 cs k _ e1 (by simp);obtain⟨m1,m2⟩:=hS.inv.moveV d r v Dt hf hl (.var sz (v+1) es.length) (.slice a0 es.length cap) (v+1) (Lx v) (by simp) (fun HZ=>by
      obtain⟨u1,u2,u3,u4⟩:=Bw g r (.slice a0 es.length cap) (v+1) true (g.own d) g.S;refine⟨u3,u2,a0,cap,u1,?_⟩;rw[u4];exact a2)
     generalize Ug:g.upd r (.slice a0 es.length cap) (v+1) true (g.own d) g.S=g1 at m1 m2;have gr:g1.tk r=true∧g1.ln r=v+1∧g1.ρ r=.slice a0 es.length cap:=by rw[←Ug];simp[Gh.upd]
     have gd:g1.ln d=es.length∧g1.ρ d=.slice a0 es.length cap:=by rw[←Ug];simp[Gh.upd,Ne.symm Dt,l1,r1]
     have ne : (AT (AT st.h d .dead) r (.var sz (v+1) es.length)) o=.cells cs:=by rw[BV _ _ _ _ jf,BV _ _ _ _ vw,e0]
     obtain⟨g3,p1,p2⟩:=Od m1 ne PF (new:=.slice (.ver r sz (v+1)) es) (fun y hy=>by
      have h3:=hy.slice_none;have re:y=.slice a0 es.length cap∧∀c∈es,c.length=sz:=by
       cases hy with
       |tok _ _ _ _ _ h WO hu ht hn hx=>exact⟨(hx gd.1.symm).trans gd.2,WO⟩
      obtain⟨re,WO⟩:=re;subst re;exact .ver _ r sz (v+1) es _ (h3.up _) WO (by unfold AP;rw[Ba];simp) gr.1 (by rw[gr.2.1];exact Al _) (fun _=>gr.2.2.symm))
     exact⟨_,g3,⟨p1,hS.le.trans (m2.trans p2),hS.dfs,hS.size,fun i=>(hS.slots i).le (m2.trans p2)⟩,hk⟩
    ·exact hk.elim
   ·exact hk.elim
  ·exact⟨_,g,hS,hk⟩
 ·exact hk.elim
theorem oh(hS:SR N ds w0 g0 h0 st g a w){r:Nat}{K:(Nat→HO)→Prop}(hk:vZ st.h r K):∃h' g',SR N ds w0 g0 h0 ⟨st.t,h'⟩ g' a w∧K h':=by
 unfold vZ at hk;split at hk
 ·rename_i hf
  obtain⟨m1,m2⟩:=hS.inv.upd r (.vox 0) (.slice none 0 0) 0 true none g.S w none ⟨rfl,rfl,rfl,Al _⟩ (fun _ _ _=>rfl) (fun b e=>by cases e) (fun _ _ h=>h) (fun _ _ h=>.inl h) (fun b o e=>by cases e) (fun b hh _=>by cases hh) (by simp)
   (fun hu=>absurd hf hu) (fun _ _=>by
    obtain⟨u1,u2,u3,u4⟩:=Bw g r (.slice none 0 0) 0 true none g.S;exact⟨u3,u2⟩)
  exact⟨_,_,⟨m1,hS.le.trans m2,hS.dfs,hS.size,fun i=>(hS.slots i).le m2⟩,hk⟩
 ·exact hk.elim
theorem ip(hS:SR N ds w0 g0 h0 st g a w){o k:Nat}{K:(Nat→HO)→Prop}(hk:tc st.h o k K):∃h' g',SR N ds w0 g0 h0 ⟨st.t,h'⟩ g' a w∧K h':=by
 unfold tc at hk;split at hk
 ·rename_i cs e0;split at hk
  ·rename_i r e1;split at hk
   ·rename_i sh BX e2;have PF:=I9 cs k _ e1 (by simp);obtain⟨g3,p1,p2⟩:=Od hS.inv e0 PF (new:=.cmap sh BX) (fun y hy=>by
     have e3:rsv st.h (.mref r)=.cmap sh BX:=by
      show(match st.h r with | .rom sh BX=>AV.cmap sh BX | _=>.mref r)=_;rw[e2]
     rw[←e3];exact BD.rsv hS.inv.objs hy)
    exact⟨_,g3,⟨p1,hS.le.trans p2,hS.dfs,hS.size,fun i=>(hS.slots i).le p2⟩,hk⟩
   ·exact hk.elim
  ·exact hk.elim
 ·exact hk.elim
theorem oV(hS:SR N ds w0 g0 h0 st g a w){o k j sz:Nat}{K:(Nat→HO)→Prop}(hk:xq st.h o k j sz K):∃h' g',SR N ds w0 g0 h0 ⟨st.t,h'⟩ g' a w∧K h':=by
 unfold xq at hk;split at hk
 ·rename_i cs e0;split at hk
  ·rename_i e1;split at hk
   ·rename_i hf;have jf:o≠j:=fun e=>by rw[e,hf]at e0;cases e0
    have PF:=I9 cs k _ e1 (by simp)
    obtain⟨m1,m2⟩:=hS.inv.upd j (.arr sz []) (.slice none 0 0) 0 true none g.S w none ⟨rfl,rfl,rfl,Al _⟩ (fun _ _ _=>rfl) (fun b e=>by cases e) (fun _ _ h=>h) (fun _ _ h=>.inl h) (fun b o e=>by cases e) (fun b hh e=>by first | (cases e;done) | (exact absurd hh.2 (by simp))) (by simp)
     (fun hu=>absurd hf hu) (fun _ _=>by
      obtain⟨u1,u2,u3,u4⟩:=Bw g j (.slice none 0 0) 0 true none g.S;exact⟨u3,u2,(fun cs hc=>by cases hc),.inl ⟨rfl,u1,u4⟩⟩)
    generalize Ug:g.upd j (.slice none 0 0) 0 true none g.S=g1 at m1 m2;have gr:g1.tk j=true∧g1.ln j=0∧g1.ρ j=.slice none 0 0:=by rw[←Ug];simp[Gh.upd]
    have ne : (AT st.h j (.arr sz [])) o=.cells cs:=by rw[BV _ _ _ _ jf,e0]
    obtain⟨g3,p1,p2⟩:=Od m1 ne PF (new:=.msl j 0) (fun y hy=>by
     cases hy
     exact .msl _ j 0 none 0 (by unfold AP;rw[Ba];simp) gr.1 (AJ _) (.inl rfl) (fun _=>gr.2.2.symm))
    exact⟨_,g3,⟨p1,hS.le.trans (m2.trans p2),hS.dfs,hS.size,fun i=>(hS.slots i).le (m2.trans p2)⟩,hk⟩
   ·exact hk.elim
  ·exact hk.elim
 ·exact hk.elim
theorem eG{cx:Cx}{id:Nat}(hS:SR N ds w0 g0 h0 st g a w){K:(Nat→HO)→Prop}(hk:uq cx id st.h fun h=>tb cx id h fun h=>rC cx id h fun h=>pq cx id h K):∃h' g',SR N ds w0 g0 h0 ⟨st.t,h'⟩ g' a w∧K h':=by
 have h1:∃h' g',SR N ds w0 g0 h0 ⟨st.t,h'⟩ g' a w∧tb cx id h' fun h=>rC cx id h fun h=>pq cx id h K:=by
  unfold uq at hk;split at hk
  ·obtain⟨g',i1,i2⟩:=ai hS.inv _;exact⟨_,g',⟨i1,hS.le.trans i2,hS.dfs,hS.size,fun i=>(hS.slots i).le i2⟩,hk⟩
  ·exact⟨_,g,hS,hk⟩
 obtain⟨h1,g1,S1,hk⟩:=h1;have h2:∃h' g',SR N ds w0 g0 h0 ⟨st.t,h'⟩ g' a w∧rC cx id h' fun h=>pq cx id h K:=by
  unfold tb at hk;split at hk
  ·exact ip S1 hk
  ·exact⟨_,g1,S1,hk⟩
 obtain⟨h2,g2,S2,hk⟩:=h2;have h3:∃h' g',SR N ds w0 g0 h0 ⟨st.t,h'⟩ g' a w∧pq cx id h' K:=by
  unfold rC at hk;split at hk
  ·exact ip S2 hk
  ·exact⟨_,g2,S2,hk⟩
 obtain⟨h3,g3,S3,hk⟩:=h3;unfold pq at hk;split at hk
 ·exact oV S3 hk
 ·exact⟨_,g3,S3,hk⟩
theorem nL(hS:SR N ds w0 g0 h0 st g a w){r:Nat}{K:(Nat→HO)→Prop}(hk:vu st.h r K):∃h' g',SR N ds w0 g0 h0 ⟨st.t,h'⟩ g' a w∧K h':=by
 unfold vu at hk;split at hk
 ·rename_i sz es i c j m er;split at hk
  ·exact hk.elim
  ·rename_i hb;have Dt:r≠j:=fun e=>by rw[e]at hb;exact absurd (CN j) (by rw[hb];decide)
   split at hk
   ·rename_i bl qs ej;obtain⟨hm,cs,hi,hc,hk⟩:=hk;have ho:=hS.inv.objs r;rw[er]at ho;obtain⟨t1,l1,al,b,cap,E,vs,e1,e2,e3,e4,e5,e6,e7,e8,x,e9,pY⟩:=ho;obtain⟨g1,i1,i2,i3,i4⟩:=VN hS.inv ej;have dQ:x=g.ρ j:=by
     cases pY with
     |msl _ _ _ _ _ _ _ _ _ hz=>exact hz (hm.trans i4.symm)
    obtain⟨k1,k2⟩:=i1.upd j .dead (g1.ρ j) (g1.ln j) (g1.tk j) (g1.own j) g1.S w none ⟨rfl,rfl,rfl,Al _⟩ (fun _ _ _=>rfl) (fun b e=>by cases e) (fun _ _ h=>h) (fun _ _ h=>.inl h) (fun b o e=>by cases e) (fun b hh _=>by cases hh) (by simp)
     (fun _=>⟨rfl,Al _,fun _=>rfl,fun _=>rfl⟩) (fun _ _=>trivial)
    generalize fO:g1.upd j (g1.ρ j) (g1.ln j) (g1.tk j) (g1.own j) g1.S=g2 at k1 k2;have Ed:BD g2 w Fi (.slice .none qs) x:=by rw[dQ];exact i3.slice_none.mono k2.keeps (fun _ h=>h) (fun _ h=>h.elim)
    have p5:AT (AT st.h j (.tok bl qs.length)) j .dead r=.hol sz es i c (.msl j m):=by rw[BV _ _ _ _ Dt,BV _ _ _ _ Dt,er]
    have yi:=k1.objs r;rw[p5]at yi;obtain⟨t1',s8,sv,b',KO,E',dR,f1,f2,f3,f4,f5,f6,f7,f8,x',f9,f10⟩:=yi;have hl:(AT (AT st.h j (.tok bl qs.length)) j .dead r).live:=by rw[p5];trivial
    have hρ:g2.ρ r=g.ρ r:=by
     have q1:=(i2.trans k2).gh r (by unfold AP;rw[er];simp);exact q1.2.2.2 (s8.trans l1.symm)
    have dP:dR=vs:=by
     rw[f1,e1]at hρ;cases hρ;rw[f4]at e4;cases e4;rfl
    subst dP;have hxx:x'=x:=by rw[e9]at f9;cases f9;rfl
    subst hxx;have DA:=(Ap.1 hi).1;have hcl:=sv cs (Ar hi);have hfl:=LR sv hi c [AV.slice .none qs] (by simp only[Av,AF];omega);have Cq:es.flatten.length=es.length*sz:=C3 sv
    obtain⟨m1,m2⟩:=k1.upd r (.arr sz (es.set i (over cs c [.slice .none qs]))) (g2.ρ r) (g2.ln r) (g2.tk r) (g2.own r) g2.S w none ⟨rfl,rfl,rfl,Al _⟩ (fun _ _ _=>rfl) (fun b e=>by cases e) (fun _ _ h=>h) (fun _ _ h=>.inl h)
     (fun b o e=>by cases e) (fun b' _ e=>⟨(k1.loc r b' hl e).1,.inl ⟨hl,e⟩⟩) (by simp) (fun _=>⟨rfl,Al _,fun _=>rfl,fun _=>rfl⟩) (fun hg HZ=>by
      obtain⟨u1,u2,u3,u4⟩:=Bw g2 r (g2.ρ r) (g2.ln r) (g2.tk r) (g2.own r) g2.S;refine⟨u3.trans t1',u2.trans (by rw[CJ];exact s8),fun d hd=>?_,.inr ⟨b',KO,E',dR,by rw[u1,f1,CJ],u4.trans f2,by rw[CJ];exact f3,f4,f5,?_,f7⟩⟩
      ·rcases ET hd with hd | rfl
       ·exact sv d hd
       ·rw[FH];exact hcl
      ·rw[hfl,CJ];refine⟨by rw[FH];exact f6.1,f6.2.1,fun p av y q1 q2=>?_⟩;rw[FG _ _ _ _ (by rw[Cq];simp only[Av,AF];omega)]at q1;split at q1
       ·rename_i hp;have qU:p=i*sz+c:=by simp only[Av,AF]at hp;omega
        subst qU;rw[Gg]at q1;cases q1
        have:y=x':=by
         rw[BE f8]at q2;rw[←A0,q2]at f9;cases f9;rfl
        rw[this];exact Ed.mono HZ (fun _ h=>h) (fun _ h=>h.elim)
       ·exact(f6.2.2 p av y q1 q2).mono HZ (fun _ h=>h) (fun _ h=>h.elim))
    exact⟨_,_,⟨m1,hS.le.trans ((i2.trans k2).trans m2),hS.dfs,hS.size,fun i=>((hS.slots i).le (i2.trans k2)).le m2⟩,hk⟩
   ·exact hk.elim
 ·exact hk.elim
theorem ly{cx:Cx}{id:Nat}(hS:SR N ds w0 g0 h0 st g a w){K:(Nat→HO)→Prop}(hk:oM cx id st.h K):∃h' g',SR N ds w0 g0 h0 ⟨st.t,h'⟩ g' a w∧K h':=by
 unfold oM at hk;split at hk
 ·exact oL hS hk
 ·split at hk
  ·exact iu hS hk
  ·split at hk
   ·exact oh hS hk
   ·split at hk
    ·exact nL hS hk
    ·exact eG hS hk
theorem mN(hS:SR N ds w0 g0 h0 st g a w){o k:Nat}{K:(Nat→HO)→Prop}(hk:tx st.h o k K):∃h' g',SR N ds w0 g0 h0 ⟨st.t,h'⟩ g' a w∧K h':=by
 have same:K st.h→∃h' g',SR N ds w0 g0 h0 ⟨st.t,h'⟩ g' a w∧K h':=fun hk=>⟨st.h,g,hS,hk⟩;unfold tx at hk;split at hk
 ·rename_i cs e0;split at hk
  ·rename_i r n e1;split at hk
   ·rename_i sz es e2;obtain⟨rfl,hk⟩:=hk;have Dt:o≠r:=fun e=>by rw[e,e2]at e0;cases e0
    obtain⟨g1,i1,i2,i3,i4⟩:=VN hS.inv e2;have ho:=i1.objs o;rw[BV _ _ _ _ Dt,e0]at ho;obtain⟨t1,b,E,vs,a1,a2,a3,a4,a5⟩:=ho;have hl:(AT st.h r (.tok sz es.length) o).live:=by rw[BV _ _ _ _ Dt,e0];trivial
    have PF:=Tp cs k _ _ e1;have Wj:=hS.inv.objs o;rw[e0]at Wj;obtain⟨_,b',E',dR,a1',y0,xr,y6,_⟩:=Wj
    obtain⟨k1,k2⟩:=i1.upd o (.cells (Ev cs k (.slice (.id r sz) es))) (g1.ρ o) (g1.ln o) (g1.tk o) (g1.own o) g1.S w none ⟨rfl,rfl,rfl,Al _⟩ (fun _ _ _=>rfl) (fun b e=>by cases e) (fun _ _ h=>h) (fun _ _ h=>.inl h)
     (fun b o e=>by cases e) (fun b' _ e=>⟨(i1.loc o b' hl e).1,.inl ⟨hl,e⟩⟩) (by simp) (fun _=>⟨rfl,Al _,fun _=>rfl,fun _=>rfl⟩) (fun hg HZ=>by
      obtain⟨u1,u2,u3,u4⟩:=Bw g1 o (g1.ρ o) (g1.ln o) (g1.tk o) (g1.own o) g1.S;have Kd:∀i,AP (AT st.h r (.tok sz es.length)) i→AP (AT (AT st.h r (.tok sz es.length)) o (.cells (Ev cs k (.slice (.id r sz) es)))) i:=fun i hi=>DI (by simp) i hi;refine⟨u3.trans t1,b,E,vs,u4.trans a1,u1.trans a2,a3,⟨by rw[KC];exact a4.1,a4.2.1,fun i av x q1 q2=>?_⟩,a5⟩;rcases KB cs k _ i av q1 with ⟨rfl,rfl⟩ | q
      ·have hx:=a4.2.2 i _ x PF q2;have dQ:x=g.ρ r:=by
        have Ug:=i2.gh o (by unfold AP;rw[e0];simp);have dP:vs=dR:=by
         have e3:g1.ρ o=g.ρ o:=Ug.2.2.1 (by
          have:=(hS.inv.objs o);rw[e0]at this;exact this.1)
         rw[a2,y0]at e3;cases e3;rw[a3]at xr;cases xr;rfl
        subst dP
        have:=y6.2.2 i _ x PF q2
        cases this with
        |msl _ _ _ _ _ _ _ _ _ hz=>exact hz i4.symm
       rw[dQ];exact i3.mono HZ Kd hg
      ·exact(a4.2.2 i av x q q2).mono HZ Kd hg)
    exact⟨_,_,⟨k1,hS.le.trans (i2.trans k2),hS.dfs,hS.size,fun i=>((hS.slots i).le i2).le k2⟩,hk⟩
   ·exact same hk
  ·exact same hk
 ·exact same hk
theorem mH{cx:Cx}{o:Oper}{K:St→Prop}(hS:SR N ds w0 g0 h0 st g a w)(hk:tu cx o st K):∃D7 g',SR N ds w0 g0 h0 D7 g' a w∧K D7:=by
 have same:K st→∃D7 g',SR N ds w0 g0 h0 D7 g' a w∧K D7:=fun hk=>⟨st,g,hS,hk⟩;unfold tu at hk;split at hk
 ·exact same hk
 ·split at hk
  ·exact same hk
  ·rename_i s _;split at hk
   ·rename_i r n ht;split at hk
    ·rename_i sz es hr;obtain⟨hn,hk⟩:=hk;subst hn;have hI:=hS.inv;have ho:=hI.objs r;rw[hr]at ho;obtain⟨t1,l1,al,a2⟩:=ho;have hl:(st.h r).live:=by rw[hr];trivial
     have WQ:=hS.slots s;rw[ht]at WQ;have hval:a.tmps.getD s undef=g.ρ r:=by
      generalize a.tmps.getD s undef=x at WQ;cases WQ with
      |msl _ r n a cap hu ht hn ha hx=>exact hx l1.symm
     have fin:∀g',DB w0 g0 h0 (AT st.h r (.tok sz es.length)) g' w→Le st.h g w (AT st.h r (.tok sz es.length)) g' w→BD g' w (AP (AT st.h r (.tok sz es.length))) (.slice (.id r sz) es) (g.ρ r) →
       ∃D7 g',SR N ds w0 g0 h0 D7 g' a w∧K D7:=fun g' i1 i2 i3=>by
      refine⟨_,g',⟨i1,hS.le.trans i2,hS.dfs,hS.size,fun i=>?_⟩,hk⟩;show BD g' w (AP (AT st.h r (.tok sz es.length))) (G4 st.t s (.slice (.id r sz) es) i) _
      by_cases e:i=s
      ·subst e
       have:G4 st.t i (.slice (.id r sz) es) i=.slice (.id r sz) es:=by unfold G4;simp
       rw[this,hval];exact i3
      ·have:G4 st.t s (.slice (.id r sz) es) i=st.t i:=by unfold G4;simp[Cz e]
       rw[this];exact(hS.slots i).le i2
     rcases a2 with ⟨b1,b2,b3⟩ | ⟨b,cap,E,vs,b1,b2,b3,b4,b5,b6,b7⟩
     ·subst b1
      obtain⟨k1,k2⟩:=hI.upd r (.tok sz 0) (g.ρ r) (g.ln r) (g.tk r) (g.own r) g.S w none ⟨rfl,rfl,rfl,Al _⟩ (fun _ _ _=>rfl) (fun b e=>by cases e) (fun _ _ h=>h) (fun _ _ h=>.inl h)
       (fun b o e=>by cases e) (fun b' _ e=>⟨(hI.loc r b' hl e).1,.inl ⟨hl,e⟩⟩) (by simp) (fun _=>⟨rfl,Al _,fun _=>rfl,fun _=>rfl⟩) (fun hg hk=>by
        obtain⟨u1,u2,u3,u4⟩:=Bw g r (g.ρ r) (g.ln r) (g.tk r) (g.own r) g.S;exact⟨u3.trans t1,u2.trans l1,none,0,u1.trans b2,.inl ⟨rfl,u4.trans b3⟩⟩)
      refine fin _ k1 k2 ?_;rw[b2];exact .tok _ r sz [] _ (.snil _ _ _) (by simp) (by unfold AP;rw[Ba];simp) (by simp[Gh.upd,t1]) (by simp) (fun _=>by simp[Gh.upd])
     ·have DA:=(hI.loc r b hl b2).1
      obtain⟨k1,k2⟩:=hI.upd r (.tok sz es.length) (g.ρ r) (g.ln r) (g.tk r) (g.own r) (g.more b (es.length*sz)) w none ⟨rfl,rfl,rfl,Al _⟩ (fun _ _ _=>rfl) (fun b e=>by cases e) (fun _ _ h=>.inl h)
       (fun b' o hs=>hs.elim .inl (fun hs=>.inr ⟨by rw[hs.1];exact DA,.inr ⟨hl,by rw[hs.1];exact b2⟩⟩)) (fun b o e=>by cases e) (fun b' _ e=>⟨(hI.loc r b' hl e).1,.inl ⟨hl,e⟩⟩) (by simp)
       (fun _=>⟨rfl,Al _,fun _=>rfl,fun _=>rfl⟩) (fun hg hk=>by
        obtain⟨u1,u2,u3,u4⟩:=Bw g r (g.ρ r) (g.ln r) (g.tk r) (g.own r) (g.more b (es.length*sz));exact⟨u3.trans t1,u2.trans l1,_,cap,u1.trans b1,.inr ⟨b3,b,E,vs,0,rfl,u4.trans b2,b4,by rw[b5,Bg],fun o ho=>by
         rcases ho with ho | ⟨_,ho⟩
         ·exact absurd ho (b7 o)
         ·omega⟩⟩)
      refine fin _ k1 k2 ?_;rw[b1];exact .tok _ r sz es _ (BD.slice_row b4 al b3 (b6.mono k2.keeps (fun _ h=>h) (fun _ h=>h.elim)) (fun o ho=>.inr ⟨rfl,ho⟩)) al (by unfold AP;rw[Ba];simp) (by simp[Gh.upd,t1]) (by simp[Gh.upd,l1]) (fun _=>by simp[Gh.upd])
    ·exact same hk
   ·exact same hk
variable {cx:Cx}(hP:cx.P=P)(hT:Cn P cx.T)(hY:∀l σ h g w,Ei σ=true→DB w0 g0 h0 h g w→Le h0 g0 w0 h g w→cx.yp l σ (Dq σ g) w){ro:Option Nat}{ops:Array Oper}
include hP hT hY
theorem RS{dr:Bool}{o:Oper}(hd:∀i,o.dst=some i→i<N){K:St→Prop}{next:Act→World→Prop}{Q:Exit→Act→World→Prop}(hS:SR N ds w0 g0 h0 st g a w)(hk:G9 cx dr ops.toList o st K)
  (hn:∀D7 g' a' w',K D7→SR N ds w0 g0 h0 D7 g' a' w'→next a' w'):if Region.wanted o (yielded ops a.tmps)then o.wpIn (JG ro) 0 P a w next Q else next (a.put o.dst undef) w:=by
 have run:d4 cx dr o st K→o.wpIn (JG ro) 0 P a w next Q:=by
  intro hk;unfold d4 at hk;split at hk
  ·exact d5 hP hY hT hS hk fun v h' g' w' x q1 q2 q3 q4=>hn _ g' _ _ q1 (hS.put hd q2 q3 q4)
  ·obtain⟨g1,fI⟩:=ig (cx:=cx) (o:=o) hS;obtain⟨D7,g',SD,hk⟩:=mH fI hk;exact d5 hP hY hT SD hk fun v h' g' w' x q1 q2 q3 q4=>hn _ g' _ _ q1 (SD.put hd q2 q3 q4)
 have skip:K (st.put o.dst (.v undef) st.h)→next (a.put o.dst undef) w:=fun hk=>hn _ g _ _ hk (hS.put hd hS.inv (.refl _ _ _) (.v _ _))
 unfold G9 at hk;split at hk
 ·rename_i hg;rw[Ao (by simp[Region.wanted,hg])];exact run hk
 ·rename_i j want hg;split at hk
  ·exact hk.elim
  ·rename_i d hj;have hy:∀x:Value,BD g w (AP st.h) (st.t d) x→x=a.tmps.getD d undef→True:=fun _ _ _=>trivial;have hs:=hS.slots d;rw[Ve]at hj;have key:∀b:Bool,a.tmps.getD d undef=.bool b→yielded ops a.tmps j=some b:=by
    intro b hb;have DA:d<a.tmps.size:=by
     apply Nat.lt_of_not_le;intro pe;rw[Cg,T2 pe]at hb;cases hb
    simp only[yielded,hj,Option.bind_some];rw[Cg,Bj DA]at hb;rw[Bj DA];simp only[Cj]at hb;rw[hb]
   have vV:∀t,a.tmps.getD d undef=.tuple t→yielded ops a.tmps j=none:=by
    intro t hb;simp only[yielded,hj,Option.bind_some];cases he:a.tmps[d]? with
    |none=>rfl
    |some x =>
     rw[Cg,he]at hb;simp only[Cj]at hb;rw[hb]
   generalize hx:st.t d=x at hk hs;split at hk
   ·have:=key true hs.v_eq
    rw[Ao (by simp[Region.wanted,hg,this])];exact run hk
   ·have:=key false hs.v_eq
    rw[Ao (by simp[Region.wanted,hg,this])];exact run hk
   ·have:=key true hs.v_eq
    rw[Ah (by simp[Region.wanted,hg,this])];exact skip hk
   ·have:=key false hs.v_eq
    rw[Ah (by simp[Region.wanted,hg,this])];exact skip hk
   ·have:=vV _ hs.v_eq
    rw[Ah (by simp[Region.wanted,hg,this])];exact skip hk
   ·exact hk.elim
theorem VL{Q:Exit→Act→World→Prop}{K:St→Prop}(hQ:∀D7 g' a' w',K D7→SR N ds w0 g0 h0 D7 g' a' w'→Q .normal a' w') :
  ∀(l:List Oper),(∀o∈l,∀i,o.dst=some i→i<N)→∀{st:St} {g:Gh} {a:Act} {w:World},SR N ds w0 g0 h0 st g a w→T8 cx ops.toList l st K→wpListIn (JG ro) 0 P ops Q l a w
 | [],_,st,g,a,w,hS,hk=>hQ st g a w hk hS
 | [o],hd,st,g,a,w,hS,hk=>by
  have:=RS hP hT hY (ro:=ro) (hd o (Aa ..)) (next:=wpListIn (JG ro) 0 P ops Q []) (Q:=Q) hS hk fun D7 g' a' w' q1 q2=>hQ D7 g' a' w' q1 q2
  unfold wpListIn;split
  ·rename_i hw;rw[Ao hw]at this;exact this
  ·rename_i hw;rw[Ah hw]at this;exact⟨fun _ _=>trivial,this⟩
 |o::o2::l,hd,st,g,a,w,hS,hk=>by
  cases hc:SY o o2 with
  |true =>
   have hk:bN cx o st fun D7=>T8 cx ops.toList l D7 K:=by
    have Iu:(match SY o o2 with
     |true=>bN cx o st fun D7=>T8 cx ops.toList l D7 K
     |false=>G9 cx false ops.toList o st fun D7=>T8 cx ops.toList (o2::l) D7 K):=hk
    rw[hc]at Iu;exact Iu
   obtain⟨g1,g2,h1⟩:=jG hT (ro:=ro) (o2:=o2) (hd o (Aa ..)) hc hS hk (next:=wpListIn (JG ro) 0 P ops Q l) (Q:=Q) fun D7 g' a' w' q1 q2=>VL hQ l (fun o' lV=>hd o' (Ag _ (Ag _ lV))) q2 q1
   unfold wpListIn;rw[Ao (by simp[Region.wanted,g1])];have e:(fun(a1:Act) (w1:World)=>o2.wpIn (JG ro) 0 P a1 w1 (wpListIn (JG ro) 0 P ops Q l) Q)=wpListIn (JG ro) 0 P ops Q (o2::l):=by
    funext a1 w1
    unfold wpListIn;rw[Ao (by simp[Region.wanted,g2])]
   rw[←e];exact h1
  |false =>
   have hk:G9 cx false ops.toList o st fun D7=>T8 cx ops.toList (o2::l) D7 K:=by
    have Iu:(match SY o o2 with
     |true=>bN cx o st fun D7=>T8 cx ops.toList l D7 K
     |false=>G9 cx false ops.toList o st fun D7=>T8 cx ops.toList (o2::l) D7 K):=hk
    rw[hc]at Iu;exact Iu
   have:=RS hP hT hY (ro:=ro) (hd o (Aa ..)) (next:=wpListIn (JG ro) 0 P ops Q (o2::l)) (Q:=Q) hS hk fun D7 g' a' w' q1 q2=>VL hQ (o2::l) (fun o' lV=>hd o' (Ag _ lV)) q2 q1
   unfold wpListIn;split
   ·rename_i hw;rw[Ao hw]at this;exact this
   ·rename_i hw;rw[Ah hw]at this;exact⟨fun _ _=>trivial,this⟩
theorem VF{Q:Exit→Act→World→Prop}{K:St→Prop}{FT:Nat→Fu}(hQ:∀D7 g' a' w',K D7→SR N ds w0 g0 h0 D7 g' a' w'→Q .normal a' w')(hd:∀(j:Nat) (o:Oper),ops[j]?=some o→∀i,o.dst=some i→i<N) :
  ∀(fuel:Nat) (listed:Array Bool) {st:St} {g:Gh} {a:Act} {w:World},SR N ds w0 g0 h0 st g a w→WW cx ops FT K fuel listed st→wpAnyIn (JG ro) 0 P .any ops Q fuel listed a w
 |0,_,st,g,a,w,hS,hk=>⟨hk.1,hQ st g a w hk.2 hS⟩
 |fuel+1,listed,st,g,a,w,hS,hk=>by
  refine⟨fun h0=>hQ st g a w (hk.1 h0) hS,fun i hi=>?_⟩;have h1:=hk.2 i hi;unfold px at h1;unfold wpOpIn;cases ho:ops[i]? with
  |none=>rw[ho]at h1;exact VF hQ hd fuel _ hS h1
  |some o =>
   rw[ho]at h1
   have:=RS hP hT hY (ro:=ro) (hd i o ho) (next:=wpAnyIn (JG ro) 0 P .any ops Q fuel (listed.setIfInBounds i true)) (Q:=Q) hS h1.2 fun D7 g' a' w' q1 q2=>VF hQ hd fuel _ q2 q1
   dsimp only;split
   ·rename_i hw;rw[Ao hw]at this;exact this
   ·rename_i hw;rw[Ah hw]at this;exact⟨fun _ _=>trivial,this⟩
end
end Go.Eng
