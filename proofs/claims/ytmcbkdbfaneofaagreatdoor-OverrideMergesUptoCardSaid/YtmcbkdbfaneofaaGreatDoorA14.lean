/- Lemmas for the claims of this seat, without a condition: part 14 (EngZC). -/
import Derived.Test.YtmcbkdbfaneofaaGreatDoorA13
namespace Go.Eng
section
variable {P:Program}{N:Nat}{ds:List Deferred}{w0:World}{g0:Gh}{h0 h:Nat→HO}{st:St}{g:Gh}{a:Act}{w:World}
theorem bp(hI:DQ w0 g0 h0 h g w)(r:Nat):∃g',DQ w0 g0 h0 (gK h r) g' w∧Le h g w (gK h r) g' w:=by
 unfold gK;split
 ·rename_i cs e0;have ho:=hI.objs r;rw[e0]at ho;obtain⟨t1,b,E,vs,a1,a2,a3,a4,a5⟩:=ho;have hl:(h r).live:=by rw[e0];trivial
  have DF:=(hI.loc r b hl a1).1;have hs:=PS hI a4
  obtain⟨k1,k2⟩:=hI.upd r (.ro (cs.map (str h))) (g.ρ r) (g.ln r) (g.tk r) none (g.more b cs.length) w none ⟨rfl,rfl,rfl,Al _⟩ (fun _ _ _=>rfl) (fun b e=>by cases e) (fun _ _ h=>.inl h)
   (fun b' o hs=>hs.elim .inl (fun hs=>.inr ⟨by rw[hs.1];exact DF,.inr ⟨hl,by rw[hs.1];exact a1⟩⟩)) (fun b o e=>by cases e) (fun b hh _=>by cases hh) (by simp)
   (fun _=>⟨rfl,Al _,fun _=>rfl,fun _=>rfl⟩) (fun hg hk=>by
    obtain⟨u1,u2,u3,u4⟩:=BK g r (g.ρ r) (g.ln r) (g.tk r) none (g.more b cs.length);exact⟨u3.trans t1,b,u1.trans a2,BS.cptr_row a3 (hs.mono hk (fun _ h=>h) (fun _ h=>h.elim)) (fun o ho=>.inr ⟨rfl,by simpa using ho⟩)⟩)
  exact⟨_,k1,k2⟩
 ·rename_i sh Ca e0;have ho:=hI.objs r;rw[e0]at ho;obtain⟨t1,b,es,ck,a1,a2,a3,a4,a5,a6⟩:=ho;obtain⟨g1,i1,i2,i3⟩:=RJ hI e0 a1 a2 a3 a4 a5 t1;exact⟨g1,i1,i2⟩
 ·rename_i sh Ca e0;have ho:=hI.objs r;rw[e0]at ho;obtain⟨t1,b,es,ck,a1,a2,a3,a4,a5,a6⟩:=ho;obtain⟨g1,i1,i2,i3⟩:=Xb hI e0 a1 a2 a3 a4 a5 t1;exact⟨g1,i1,i2⟩
 ·exact⟨g,hI,.refl _ _ _⟩
theorem M2:∀(l:List Nat) {h:Nat→HO} {g:Gh},DQ w0 g0 h0 h g w→∃g',DQ w0 g0 h0 (Po h l) g' w∧Le h g w (Po h l) g' w
 | [],_,g,hI=>⟨g,hI,.refl _ _ _⟩
 |r::l,_,_,hI =>
  let ⟨_,i1,i2⟩:=bp hI r
  let ⟨g2,j1,j2⟩:=M2 l i1
  ⟨g2,j1,i2.trans j2⟩
theorem K9:∀(cs:List AV) (k:Nat) (v:AV) (i:Nat) (av:AV),(EO cs k v)[i]?=some av→(i=k∧av=v)∨cs[i]?=some av
 | [],_,_,_,_,h=>by simp[EO]at h
 |c::cs,0,v,i,av,h=>by
  unfold EO at h;cases i with
  |zero=>simp only[Bd,Bx]at h;exact .inl ⟨rfl,h.symm⟩
  |succ i=>exact .inr h
 |c::cs,k+1,v,i,av,h=>by
  unfold EO at h;cases i with
  |zero=>exact .inr h
  |succ i =>
   rcases K9 cs k v i av (by simpa using h)with ⟨e1,e2⟩ | e
   ·exact .inl ⟨by omega,e2⟩
   ·exact .inr (by simpa using e)
theorem La:∀(cs:List AV) (k:Nat) (v:AV),(EO cs k v).length=cs.length
 | [],_,_=>rfl
 |_::_,0,_=>rfl
 |_::cs,k+1,v=>by unfold EO;simp[La cs k v]
theorem YX:∀(cs:List AV) (k:Nat) (x:Value),Jq cs k=.v x→cs[k]?=some (.v x)
 | [],_,_,h=>by simp[Jq]at h
 |_::_,0,_,h=>by unfold Jq at h;simp[h]
 |_::cs,k+1,x,h=>by unfold Jq at h;simpa using YX cs k x h
theorem p7(hI:DQ w0 g0 h0 h g w)(r k j sz:Nat):∃g',DQ w0 g0 h0 (uX h r k j sz) g' w∧Le h g w (uX h r k j sz) g' w:=by
 have same:∃g',DQ w0 g0 h0 h g' w∧Le h g w h g' w:=⟨g,hI,.refl _ _ _⟩;unfold uX;split
 ·rename_i cs e0;split
  ·rename_i e1;split
   ·rename_i hj;have DL:r≠j:=fun e=>by rw[e,hj]at e0;cases e0
    obtain⟨g1,i1,i2,i3⟩:=Om hI (sz:=sz) (es:=[]) (a:=none) hj (by simp) rfl (.snil _ _ _);have ho:=i1.objs r;rw[B8 _ _ _ _ DL,e0]at ho;obtain⟨t1,b,E,vs,a1,a2,a3,a4,a5⟩:=ho;have hl:(A2 h j (.tok sz 0) r).live:=by rw[B8 _ _ _ _ DL,e0];trivial
    have DF:=(i1.loc r b hl a1).1;have Xv:=YX cs k _ e1
    obtain⟨k1,k2⟩:=i1.upd r (.cells (EO cs k (.slice (.id j sz) []))) (g1.ρ r) (g1.ln r) (g1.tk r) (g1.own r) g1.S w none ⟨rfl,rfl,rfl,Al _⟩ (fun _ _ _=>rfl) (fun b e=>by cases e) (fun _ _ h=>h) (fun _ _ h=>.inl h)
     (fun b o e=>by cases e) (fun b' _ e=>⟨(i1.loc r b' hl e).1,.inl ⟨hl,e⟩⟩) (by simp) (fun _=>⟨rfl,Al _,fun _=>rfl,fun _=>rfl⟩) (fun hg hk=>by
      obtain⟨u1,u2,u3,u4⟩:=BK g1 r (g1.ρ r) (g1.ln r) (g1.tk r) (g1.own r) g1.S;have Ly:∀i,AU (A2 h j (.tok sz 0)) i→AU (A2 (A2 h j (.tok sz 0)) r (.cells (EO cs k (.slice (.id j sz) [])))) i:=fun i hi=>DV (by simp) i hi;refine⟨u3.trans t1,b,E,vs,u4.trans a1,u1.trans a2,a3,⟨by rw[La];exact a4.1,a4.2.1,fun i av x q1 q2=>?_⟩,a5⟩;rcases K9 cs k _ i av q1 with ⟨rfl,rfl⟩ | q
      ·have:=(a4.2.2 i _ x Xv q2).v_eq
       subst this;exact i3.mono hk Ly hg
      ·exact(a4.2.2 i av x q q2).mono hk Ly hg)
    exact⟨_,k1,i2.trans k2⟩
   ·exact same
  ·exact same
 ·exact same
theorem jA{cx:Cx}{o:Oper}(hS:SR N ds w0 g0 h0 st g a w):∃g',SR N ds w0 g0 h0 (jz cx o st) g' a w:=by
 unfold jz;split
 ·exact⟨g,hS⟩
 ·rename_i d _;split
  ·obtain⟨g',h1,h2⟩:=p7 hS.inv _ _ _ _;exact⟨g',h1,hS.le.trans h2,hS.dfs,hS.size,fun i=>(hS.slots i).le h2⟩
  split
  ·exact⟨g,hS⟩
  ·obtain⟨g',h1,h2⟩:=M2 (oc cx.pl.fz d) hS.inv;exact⟨g',h1,hS.le.trans h2,hS.dfs,hS.size,fun i=>(hS.slots i).le h2⟩
theorem Uf:∀(cs:List AV) (k:Nat) (r n:Nat),Jq cs k=.msl r n→cs[k]?=some (.msl r n)
 | [],_,_,_,h=>by simp[Jq]at h
 |_::_,0,_,_,h=>by unfold Jq at h;simp[h]
 |_::cs,k+1,r,n,h=>by unfold Jq at h;simpa using Uf cs k r n h
theorem WB(hI:DQ w0 g0 h0 h g w){r sz:Nat}{es:List (List AV)}(hr:h r=.arr sz es) :
  ∃g',DQ w0 g0 h0 (A2 h r (.tok sz es.length)) g' w∧Le h g w (A2 h r (.tok sz es.length)) g' w∧BS g' w (AU (A2 h r (.tok sz es.length))) (.slice (.id r sz) es) (g.ρ r)∧g.ln r=es.length:=by
 have ho:=hI.objs r;rw[hr]at ho;obtain⟨t1,l1,al,a2⟩:=ho;have hl:(h r).live:=by rw[hr];trivial
 rcases a2 with ⟨b1,b2,b3⟩ | ⟨b,cap,E,vs,b1,b2,b3,b4,b5,b6,b7⟩
 ·subst b1
  obtain⟨k1,k2⟩:=hI.upd r (.tok sz 0) (g.ρ r) (g.ln r) (g.tk r) (g.own r) g.S w none ⟨rfl,rfl,rfl,Al _⟩ (fun _ _ _=>rfl) (fun b e=>by cases e) (fun _ _ h=>h) (fun _ _ h=>.inl h)
   (fun b o e=>by cases e) (fun b' _ e=>⟨(hI.loc r b' hl e).1,.inl ⟨hl,e⟩⟩) (by simp) (fun _=>⟨rfl,Al _,fun _=>rfl,fun _=>rfl⟩) (fun hg hk=>by
    obtain⟨u1,u2,u3,u4⟩:=BK g r (g.ρ r) (g.ln r) (g.tk r) (g.own r) g.S;exact⟨u3.trans t1,u2.trans l1,none,0,u1.trans b2,.inl ⟨rfl,u4.trans b3⟩⟩)
  refine⟨_,k1,k2,?_,l1⟩;rw[b2];exact .tok _ r sz [] _ (.snil _ _ _) (by simp) (by unfold AU;rw[Ay,Bl];simp) (by simp[Gh.upd,t1]) (by simp) (fun _=>by simp[Gh.upd])
 ·have DF:=(hI.loc r b hl b2).1
  obtain⟨k1,k2⟩:=hI.upd r (.tok sz es.length) (g.ρ r) (g.ln r) (g.tk r) (g.own r) (g.more b (es.length*sz)) w none ⟨rfl,rfl,rfl,Al _⟩ (fun _ _ _=>rfl) (fun b e=>by cases e) (fun _ _ h=>.inl h)
   (fun b' o hs=>hs.elim .inl (fun hs=>.inr ⟨by rw[hs.1];exact DF,.inr ⟨hl,by rw[hs.1];exact b2⟩⟩)) (fun b o e=>by cases e) (fun b' _ e=>⟨(hI.loc r b' hl e).1,.inl ⟨hl,e⟩⟩) (by simp)
   (fun _=>⟨rfl,Al _,fun _=>rfl,fun _=>rfl⟩) (fun hg hk=>by
    obtain⟨u1,u2,u3,u4⟩:=BK g r (g.ρ r) (g.ln r) (g.tk r) (g.own r) (g.more b (es.length*sz));exact⟨u3.trans t1,u2.trans l1,_,cap,u1.trans b1,.inr ⟨b3,b,E,vs,0,rfl,u4.trans b2,b4,by rw[b5,Bk],fun o ho=>by
     rcases ho with ho | ⟨_,ho⟩
     ·exact absurd ho (b7 o)
     ·omega⟩⟩)
  refine⟨_,k1,k2,?_,l1⟩;rw[b1];exact .tok _ r sz es _ (BS.slice_row b4 al b3 (b6.mono k2.keeps (fun _ h=>h) (fun _ h=>h.elim)) (fun o ho=>.inr ⟨rfl,ho⟩)) al (by unfold AU;rw[Bl];simp) (by simp[Gh.upd,t1]) (by simp[Gh.upd,l1]) (fun _=>by simp[Gh.upd])
theorem DQ.move{w0:World}{g0:Gh}{h0 h:Nat→HO}{g:Gh}{w:World}(hI:DQ w0 g0 h0 h g w)(r r2:Nat)(DL:r2≠r)(hf:h r2=.free)(hl:(h r).live){b:Nat}(ho:g.own r=some b)(o' : HO)(x:Value)(n:Nat)(t:Bool)(hn:o'≠.free)
  (JL:Fj g w (g.upd r2 x n t (some b) g.S) w→Eo (g.upd r2 x n t (some b) g.S) w (AU (A2 (A2 h r .dead) r2 o')) r2 o') :
  DQ w0 g0 h0 (A2 (A2 h r .dead) r2 o') (g.upd r2 x n t (some b) g.S) w∧Le h g w (A2 (A2 h r .dead) r2 o') (g.upd r2 x n t (some b) g.S) w:=by
 have fq:Kr g (g.upd r2 x n t (some b) g.S) (AU h):=by
  intro i hi;have e:i≠r2:=fun e=>hi (by rw[e];exact hf);refine⟨by simp[Gh.upd,e],by simp[Gh.upd,e],fun _=>by simp[Gh.upd,e],fun _=>by simp[Gh.upd,e]⟩
 have hK:Fj g w (g.upd r2 x n t (some b) g.S) w:=fun b o hb=>⟨hb,rfl,fun _ _ h=>h⟩;have Ly:∀i,AU h i→AU (A2 (A2 h r .dead) r2 o') i:=fun i hi=>DV hn i (DV (by simp) i hi);have key:∀i,i≠r2→(A2 (A2 h r .dead) r2 o' i).live→i≠r∧(h i).live:=fun i h2 hl=>by
  rw[B8 _ _ _ _ h2]at hl
  by_cases e:i=r
  ·subst e;rw[Bl]at hl;exact hl.elim
  ·rw[B8 _ _ _ _ e]at hl;exact⟨e,hl⟩
 have own:∀i,i≠r2→(g.upd r2 x n t (some b) g.S).own i=g.own i:=fun i e=>by simp[Gh.upd,e]
 have Uj:(g.upd r2 x n t (some b) g.S).own r2=some b:=by simp[Gh.upd]
 refine⟨⟨hI.os,hI.tape,hI.output,hI.size,hI.frame,hI.slt,fun i=>?_,fun i j c hi hj ei ej=>?_,fun i c hi ei=>?_,hI.sg,hI.glob.keep hK⟩,fq,Ly,hK⟩
 ·by_cases e:i=r2
  ·subst e;rw[Bl];exact JL hK
  ·rw[B8 _ _ _ _ e]
   by_cases e1:i=r
   ·subst e1;rw[Bl];trivial
   ·rw[B8 _ _ _ _ e1];exact(hI.objs i).same hK Ly fq (by simp[Gh.upd,e]) (by simp[Gh.upd,e]) (by simp[Gh.upd,e]) (by simp[Gh.upd,e]) (fun b hl hb=>⟨rfl,fun k hk=>hk⟩)
 ·by_cases e1:i=r2<;>by_cases e2:j=r2
  ·exact e1.trans e2.symm
  ·subst e1;rw[Uj]at ei;rw[own j e2]at ej;cases ei;obtain⟨a1,a2⟩:=key j e2 hj;exact absurd (hI.inj j r _ a2 hl ej ho) a1
  ·subst e2;rw[Uj]at ej;rw[own i e1]at ei;cases ej;obtain⟨a1,a2⟩:=key i e1 hi;exact absurd (hI.inj i r _ a2 hl ei ho) a1
  ·rw[own i e1]at ei;rw[own j e2]at ej;exact hI.inj i j c (key i e1 hi).2 (key j e2 hj).2 ei ej
 ·by_cases e1:i=r2
  ·subst e1;rw[Uj]at ei;cases ei;exact hI.loc r _ hl ho
  ·rw[own i e1]at ei;exact hI.loc i c (key i e1 hi).2 ei
theorem oa(hS:SR N ds w0 g0 h0 st g a w){s k:Nat}{K:St→Prop}(hk:u9 st s k K):∃Ej g',SR N ds w0 g0 h0 Ej g' a w∧K Ej:=by
 have same:K st→∃Ej g',SR N ds w0 g0 h0 Ej g' a w∧K Ej:=fun hk=>⟨st,g,hS,hk⟩;unfold u9 at hk;split at hk
 ·rename_i r n ht;have VH:=hS.slots s;rw[ht]at VH;split at hk
  ·rename_i sz es hr;have ho:=hS.inv.objs r;rw[hr]at ho;obtain⟨t1,l1,al,a2⟩:=ho;have hl:(st.h r).live:=by rw[hr];trivial
   have Kw:n=es.length→a.tmps.getD s undef=g.ρ r:=fun hn=>by
    generalize a.tmps.getD s undef=x at VH;cases VH with
    |msl _ r n a cap hu ht Yo ha hx=>exact hx (hn.trans l1.symm)
   have fin:∀(h' : Nat→HO) (v:AV) (g' : Gh),DQ w0 g0 h0 h' g' w→Le st.h g w h' g' w→BS g' w (AU h') v (a.tmps.getD s undef)→SR N ds w0 g0 h0 ⟨Hu st.t s v,h'⟩ g' a w:=fun h' v g' i1 i2 i3=>by
    refine⟨i1,hS.le.trans i2,hS.dfs,hS.size,fun i=>?_⟩;show BS g' w (AU h') (Hu st.t s v i) _
    by_cases e:i=s
    ·subst e
     have:Hu st.t i v i=v:=by unfold Hu;simp
     rw[this];exact i3
    ·have:Hu st.t s v i=st.t i:=by unfold Hu;simp[CV e]
     rw[this];exact(hS.slots i).le i2
   split at hk
   ·obtain⟨hn,hk⟩:=hk;obtain⟨g1,i1,i2,i3,i4⟩:=WB hS.inv hr
    obtain⟨k1,k2⟩:=i1.upd r .dead (g1.ρ r) (g1.ln r) (g1.tk r) (g1.own r) g1.S w none ⟨rfl,rfl,rfl,Al _⟩ (fun _ _ _=>rfl) (fun b e=>by cases e) (fun _ _ h=>h) (fun _ _ h=>.inl h) (fun b o e=>by cases e) (fun b hh _=>by cases hh) (by simp)
     (fun _=>⟨rfl,Al _,fun _=>rfl,fun _=>rfl⟩) (fun _ _=>trivial)
    exact⟨_,_,fin _ _ _ k1 (i2.trans k2) (by rw[Kw hn];exact(i3.slice_none.up _).le k2),hk⟩
   ·rename_i k;split at hk
    ·exact same hk
    ·rename_i hb;have DL:k+1≠r:=fun e=>by rw[e]at hb;exact absurd (Dg r) (by rw[hb];decide)
     split at hk
     ·rename_i hf;obtain⟨hn,hk⟩:=hk;rcases a2 with ⟨b1,b2,b3⟩ | ⟨b,cap,E,vs,b1,b2,b3,b4,b5,b6,b7⟩
      ·subst b1;have hv:=Kw hn
       obtain⟨k1,k2⟩:=hS.inv.upd r .dead (g.ρ r) (g.ln r) (g.tk r) (g.own r) g.S w none ⟨rfl,rfl,rfl,Al _⟩ (fun _ _ _=>rfl) (fun b e=>by cases e) (fun _ _ h=>h) (fun _ _ h=>.inl h) (fun b o e=>by cases e) (fun b hh _=>by cases hh) (by simp)
        (fun _=>⟨rfl,Al _,fun _=>rfl,fun _=>rfl⟩) (fun _ _=>trivial)
       have wX:A2 st.h r .dead (k+1)=.free:=by rw[B8 _ _ _ _ DL];exact hf
       obtain⟨m1,m2⟩:=k1.upd (k+1) (.arr sz []) (.slice none 0 0) 0 true none (g.upd r (g.ρ r) (g.ln r) (g.tk r) (g.own r) g.S).S w none ⟨rfl,rfl,rfl,Al _⟩ (fun _ _ _=>rfl) (fun b e=>by cases e) (fun _ _ h=>h) (fun _ _ h=>.inl h) (fun b o e=>by cases e) (fun b _ e=>by cases e) (by simp)
        (fun hu=>absurd wX hu) (fun _ _=>by
         obtain⟨u1,u2,u3,u4⟩:=BK (g.upd r (g.ρ r) (g.ln r) (g.tk r) (g.own r) g.S) (k+1) (.slice none 0 0) 0 true none (g.upd r (g.ρ r) (g.ln r) (g.tk r) (g.own r) g.S).S;exact⟨u3,u2,by simp,.inl ⟨rfl,u1,u4⟩⟩)
       refine⟨_,_,fin _ _ _ m1 (k2.trans m2) ?_,hk⟩;rw[hv,b2,hn];exact .msl _ (k+1) 0 none 0 (by unfold AU;rw[Bl];simp) (by simp[Gh.upd]) (AG _) (.inl rfl) (fun _=>by simp[Gh.upd])
      ·have hv:=Kw hn;obtain⟨m1,m2⟩:=hS.inv.move r (k+1) DL hf hl b2 (.arr sz es) (g.ρ r) es.length true (by simp) (fun In=>by
        obtain⟨u1,u2,u3,u4⟩:=BK g (k+1) (g.ρ r) es.length true (some b) g.S;exact⟨u3,u2,al,.inr ⟨b,cap,E,vs,u1.trans b1,u4,b3,b4,b5,b6.mono In (fun _ h=>h) (fun _ h=>h.elim),b7⟩⟩)
       refine⟨_,_,fin _ _ _ m1 m2 ?_,hk⟩;rw[hv,b1,hn];exact .msl _ (k+1) es.length _ cap (by unfold AU;rw[Bl];simp) (by simp[Gh.upd]) (by simp[Gh.upd]) (.inr ⟨b,rfl⟩) (fun _=>by simp[Gh.upd])
     ·exact hk.elim
  ·exact same hk
 ·exact same hk
theorem n8(hS:SR N ds w0 g0 h0 st g a w){o k j:Nat}{K:(Nat→HO)→Prop}(hk:u7 st.h o k j K):∃h' g',SR N ds w0 g0 h0 ⟨st.t,h'⟩ g' a w∧K h':=by
 unfold u7 at hk;split at hk
 ·rename_i cs e0;split at hk
  ·rename_i r n e1;split at hk
   ·rename_i sz es e2;split at hk
    ·rename_i hf;obtain⟨hn,hk⟩:=hk;have ho:=hS.inv.objs r;rw[e2]at ho;obtain⟨t1,l1,al,a2⟩:=ho;have hl:(st.h r).live:=by rw[e2];trivial
     have DL:j≠r:=fun e=>by rw[e,e2]at hf;cases hf
     have kl:o≠r:=fun e=>by rw[e,e2]at e0;cases e0
     have lE:o≠j:=fun e=>by rw[e,hf]at e0;cases e0
     -- the array goes to the new id,which stands for the same slice
     have step:∃g1,DQ w0 g0 h0 (A2 (A2 st.h r .dead) j (.arr sz es)) g1 w∧Le st.h g w (A2 (A2 st.h r .dead) j (.arr sz es)) g1 w∧g1.tk j=true∧g1.ln j=es.length∧g1.ρ j=g.ρ r:=by
      rcases a2 with ⟨b1,b2,b3⟩ | ⟨b,cap,E,vs,b1,b2,b3,b4,b5,b6,b7⟩
      ·subst b1
       obtain⟨k1,k2⟩:=hS.inv.upd r .dead (g.ρ r) (g.ln r) (g.tk r) (g.own r) g.S w none ⟨rfl,rfl,rfl,Al _⟩ (fun _ _ _=>rfl) (fun b e=>by cases e) (fun _ _ h=>h) (fun _ _ h=>.inl h) (fun b o e=>by cases e) (fun b hh _=>by cases hh) (by simp)
        (fun _=>⟨rfl,Al _,fun _=>rfl,fun _=>rfl⟩) (fun _ _=>trivial)
       have wX:A2 st.h r .dead j=.free:=by rw[B8 _ _ _ _ DL];exact hf
       obtain⟨m1,m2⟩:=k1.upd j (.arr sz []) (.slice none 0 0) 0 true none (g.upd r (g.ρ r) (g.ln r) (g.tk r) (g.own r) g.S).S w none ⟨rfl,rfl,rfl,Al _⟩ (fun _ _ _=>rfl) (fun b e=>by cases e) (fun _ _ h=>h) (fun _ _ h=>.inl h) (fun b o e=>by cases e) (fun b _ e=>by cases e) (by simp)
        (fun hu=>absurd wX hu) (fun _ _=>by
         obtain⟨u1,u2,u3,u4⟩:=BK (g.upd r (g.ρ r) (g.ln r) (g.tk r) (g.own r) g.S) j (.slice none 0 0) 0 true none (g.upd r (g.ρ r) (g.ln r) (g.tk r) (g.own r) g.S).S;exact⟨u3,u2,by simp,.inl ⟨rfl,u1,u4⟩⟩)
       exact⟨_,m1,k2.trans m2,by simp[Gh.upd],by simp[Gh.upd],by simp[Gh.upd,b2]⟩
      ·obtain⟨m1,m2⟩:=hS.inv.move r j DL hf hl b2 (.arr sz es) (g.ρ r) es.length true (by simp) (fun In=>by
        obtain⟨u1,u2,u3,u4⟩:=BK g j (g.ρ r) es.length true (some b) g.S;exact⟨u3,u2,al,.inr ⟨b,cap,E,vs,u1.trans b1,u4,b3,b4,b5,b6.mono In (fun _ h=>h) (fun _ h=>h.elim),b7⟩⟩)
       exact⟨_,m1,m2,by simp[Gh.upd],by simp[Gh.upd],by simp[Gh.upd]⟩
     obtain⟨g1,i1,i2,j1,j2,j3⟩:=step
     -- the cell
     have ho:=hS.inv.objs o;rw[e0]at ho;have zU:=i1.objs o;rw[B8 _ _ _ _ lE,B8 _ _ _ _ kl,e0]at zU;obtain⟨t2,b,E,vs,c1,c2,c3,c4,c5⟩:=zU;obtain⟨_,b',E',fD,kN,c2',y7,c4',_⟩:=ho;have hb:b'=b:=by
      have h2:=i2.gh o (by unfold AU;rw[e0];simp);have h3:=h2.2.2.1 (by assumption);rw[h3,c2']at c2;cases c2;rfl
     subst hb;rw[c3]at y7;cases y7;have dj:(A2 (A2 st.h r .dead) j (.arr sz es) o).live:=by rw[B8 _ _ _ _ lE,B8 _ _ _ _ kl,e0];trivial
     have Xv:=Uf cs k _ _ e1
     obtain⟨k1,k2⟩:=i1.upd o (.cells (EO cs k (.msl j n))) (g1.ρ o) (g1.ln o) (g1.tk o) (g1.own o) g1.S w none ⟨rfl,rfl,rfl,Al _⟩ (fun _ _ _=>rfl) (fun b e=>by cases e) (fun _ _ h=>h) (fun _ _ h=>.inl h)
      (fun b o e=>by cases e) (fun b' _ e=>⟨(i1.loc o b' dj e).1,.inl ⟨dj,e⟩⟩) (by simp) (fun _=>⟨rfl,Al _,fun _=>rfl,fun _=>rfl⟩) (fun hg UX=>by
       obtain⟨u1,u2,u3,u4⟩:=BK g1 o (g1.ρ o) (g1.ln o) (g1.tk o) (g1.own o) g1.S;have Ly:∀i,AU (A2 (A2 st.h r .dead) j (.arr sz es)) i→AU (A2 (A2 (A2 st.h r .dead) j (.arr sz es)) o (.cells (EO cs k (.msl j n)))) i:=fun i hi=>DV (by simp) i hi;refine⟨u3.trans t2,_,E,vs,u4.trans c1,u1.trans c2,c3,⟨by rw[La];exact c4.1,c4.2.1,fun i av x q1 q2=>?_⟩,c5⟩;rcases K9 cs k _ i av q1 with ⟨rfl,rfl⟩ | q
       ·have hx:=c4'.2.2 i _ x Xv q2;have hm:BS g1 w (AU (A2 (A2 st.h r .dead) j (.arr sz es))) (.msl j n) x:=by
         cases hx with
         |msl _ _ _ a cap hu ht' Yo ha L3 =>
         refine .msl _ _ _ _ _ (by unfold AU;rw[Bl];simp) j1 (by omega) ha (fun e=>?_);rw[j3];exact L3 (hn.trans l1.symm)
        exact hm.mono UX Ly hg
       ·exact(c4.2.2 i av x q q2).mono UX Ly hg)
     exact⟨_,_,⟨k1,hS.le.trans (i2.trans k2),hS.dfs,hS.size,fun i=>(hS.slots i).le (i2.trans k2)⟩,hk⟩
    ·exact hk.elim
   ·exact hk.elim
  ·exact hk.elim
 ·exact hk.elim
theorem OU{h:Nat→HO}(hI:DQ w0 g0 h0 h g w){o k:Nat}{cs:List AV}(e0:h o=.cells cs){old new:AV}(hk:cs[k]?=some old)(Er:∀x:Value,BS g w (AU h) old x→BS g w (AU h) new x) :
  ∃g',DQ w0 g0 h0 (A2 h o (.cells (EO cs k new))) g' w∧Le h g w (A2 h o (.cells (EO cs k new))) g' w:=by
 have ho:=hI.objs o;rw[e0]at ho;obtain⟨t1,b,E,vs,a1,a2,a3,a4,a5⟩:=ho;have hl:(h o).live:=by rw[e0];trivial
 obtain⟨k1,k2⟩:=hI.upd o (.cells (EO cs k new)) (g.ρ o) (g.ln o) (g.tk o) (g.own o) g.S w none ⟨rfl,rfl,rfl,Al _⟩ (fun _ _ _=>rfl) (fun b e=>by cases e) (fun _ _ h=>h) (fun _ _ h=>.inl h)
  (fun b o e=>by cases e) (fun b' _ e=>⟨(hI.loc o b' hl e).1,.inl ⟨hl,e⟩⟩) (by simp) (fun _=>⟨rfl,Al _,fun _=>rfl,fun _=>rfl⟩) (fun hg UX=>by
   obtain⟨u1,u2,u3,u4⟩:=BK g o (g.ρ o) (g.ln o) (g.tk o) (g.own o) g.S;have Ly:∀i,AU h i→AU (A2 h o (.cells (EO cs k new))) i:=fun i hi=>DV (by simp) i hi;refine⟨u3.trans t1,b,E,vs,u4.trans a1,u1.trans a2,a3,⟨by rw[La];exact a4.1,a4.2.1,fun i av x q1 q2=>?_⟩,a5⟩;rcases K9 cs k _ i av q1 with ⟨rfl,rfl⟩ | q
   ·exact(Er x (a4.2.2 i _ x hk q2)).mono UX Ly hg
   ·exact(a4.2.2 i av x q q2).mono UX Ly hg)
 exact⟨_,k1,k2⟩
theorem JA:∀(cs:List AV) (k:Nat) (a:AV),Jq cs k=a→a≠.junk→cs[k]?=some a
 | [],_,a,h,hn=>by simp only[Jq]at h;exact absurd h.symm hn
 |_::_,0,_,h,_=>by unfold Jq at h;simp[h]
 |_::cs,k+1,a,h,hn=>by unfold Jq at h;simpa using JA cs k a h hn
theorem DQ.moveV{h:Nat→HO}(hI:DQ w0 g0 h0 h g w)(r r2 v:Nat)(DL:r2≠r)(hf:h r2=.vox v)(hl:(h r).live)(o' : HO)(x:Value)(n:Nat)(hv:v<n)(hn:o'≠.free)
  (JL:Fj g w (g.upd r2 x n true (g.own r) g.S) w→Eo (g.upd r2 x n true (g.own r) g.S) w (AU (A2 (A2 h r .dead) r2 o')) r2 o') :
  DQ w0 g0 h0 (A2 (A2 h r .dead) r2 o') (g.upd r2 x n true (g.own r) g.S) w∧Le h g w (A2 (A2 h r .dead) r2 o') (g.upd r2 x n true (g.own r) g.S) w:=by
 have qz:=hI.objs r2;rw[hf]at qz;obtain⟨z7,dj⟩:=qz;have fq:Kr g (g.upd r2 x n true (g.own r) g.S) (AU h):=by
  intro i hi
  by_cases e:i=r2
  ·subst e;refine⟨by simp[Gh.upd,z7],by simp[Gh.upd];omega,fun e=>(by rw[z7]at e;cases e),fun e=>?_⟩;simp[Gh.upd]at e;omega
  ·exact⟨by simp[Gh.upd,e],by simp[Gh.upd,e],fun _=>by simp[Gh.upd,e],fun _=>by simp[Gh.upd,e]⟩
 have hK:Fj g w (g.upd r2 x n true (g.own r) g.S) w:=fun b o hb=>⟨hb,rfl,fun _ _ h=>h⟩;have Ly:∀i,AU h i→AU (A2 (A2 h r .dead) r2 o') i:=fun i hi=>DV hn i (DV (by simp) i hi);have key:∀i,i≠r2→(A2 (A2 h r .dead) r2 o' i).live→i≠r∧(h i).live:=fun i h2 hl=>by
  rw[B8 _ _ _ _ h2]at hl
  by_cases e:i=r
  ·subst e;rw[Bl]at hl;exact hl.elim
  ·rw[B8 _ _ _ _ e]at hl;exact⟨e,hl⟩
 have own:∀i,i≠r2→(g.upd r2 x n true (g.own r) g.S).own i=g.own i:=fun i e=>by simp[Gh.upd,e]
 have Uj:(g.upd r2 x n true (g.own r) g.S).own r2=g.own r:=by simp[Gh.upd]
 refine⟨⟨hI.os,hI.tape,hI.output,hI.size,hI.frame,hI.slt,fun i=>?_,fun i j c hi hj ei ej=>?_,fun i c hi ei=>?_,hI.sg,hI.glob.keep hK⟩,fq,Ly,hK⟩
 ·by_cases e:i=r2
  ·subst e;rw[Bl];exact JL hK
  ·rw[B8 _ _ _ _ e]
   by_cases e1:i=r
   ·subst e1;rw[Bl];trivial
   ·rw[B8 _ _ _ _ e1];exact(hI.objs i).same hK Ly fq (by simp[Gh.upd,e]) (by simp[Gh.upd,e]) (by simp[Gh.upd,e]) (by simp[Gh.upd,e]) (fun b hl hb=>⟨rfl,fun k hk=>hk⟩)
 ·by_cases e1:i=r2<;>by_cases e2:j=r2
  ·exact e1.trans e2.symm
  ·subst e1;rw[Uj]at ei;rw[own j e2]at ej;obtain⟨a1,a2⟩:=key j e2 hj;exact absurd (hI.inj j r _ a2 hl ej ei) a1
  ·subst e2;rw[Uj]at ej;rw[own i e1]at ei;obtain⟨a1,a2⟩:=key i e1 hi;exact absurd (hI.inj i r _ a2 hl ei ej) a1
  ·rw[own i e1]at ei;rw[own j e2]at ej;exact hI.inj i j c (key i e1 hi).2 (key j e2 hj).2 ei ej
 ·by_cases e1:i=r2
  ·subst e1;rw[Uj]at ei;exact hI.loc r _ hl ei
  ·rw[own i e1]at ei;exact hI.loc i c (key i e1 hi).2 ei
theorem p8(hS:SR N ds w0 g0 h0 st g a w){o k d:Nat}{K:(Nat→HO)→Prop}(hk:yY st.h o k d K):∃h' g',SR N ds w0 g0 h0 ⟨st.t,h'⟩ g' a w∧K h':=by
 unfold yY at hk;split at hk
 ·rename_i cs e0;split at hk
  ·rename_i r sz v es e1;split at hk
   ·rename_i GQ v' n e2;split at hk
    ·rename_i hf;obtain⟨⟨rfl,rfl⟩,hk⟩:=hk;have ho:=hS.inv.objs r;rw[e2]at ho;obtain⟨t1,l1,a0,cap,r1,a2⟩:=ho;have hl:(st.h r).live:=by rw[e2];trivial
     have DL:d≠r:=fun e=>by rw[e,e2]at hf;cases hf
     have kl:o≠r:=fun e=>by rw[e,e2]at e0;cases e0
     have xi:o≠d:=fun e=>by rw[e,hf]at e0;cases e0
     have Xv:=JA cs k _ e1 (by simp)
     -- the value that stands in the cell
     have qx:=hS.inv.objs o;rw[e0]at qx;obtain⟨_,b',E',fD,c1,c2,c3,c4,_⟩:=qx;obtain⟨x,hx1,_,qC⟩:=c4.at Xv;have kq:x=.slice a0 n cap∧es.length=n∧BS g w FL (.slice .none es) x∧∀c∈es,c.length=sz:=by
      have h3:=qC.slice_none;cases qC with
      |ver _ _ _ _ _ _ h Xw hu ht hn hx =>
       have:=hx l1.symm
       rw[r1]at this;subst this;refine⟨rfl,?_,h3,Xw⟩;cases h3 with
       |snil=>rfl
       |slice=>rfl
     obtain⟨hxe,hn,hx3,Xw⟩:=kq;subst hn;obtain⟨m1,m2⟩:=hS.inv.moveO r d DL hf hl (ob:=g.own r) (fun c h=>h) (.tok sz es.length) (.slice a0 es.length cap) es.length true (by simp) (fun In=>by
      obtain⟨u1,u2,u3,u4⟩:=BK g d (.slice a0 es.length cap) es.length true (g.own r) g.S;refine⟨u3,u2,a0,cap,u1,?_⟩;rw[u4];exact a2)
     generalize Sq:g.upd d (.slice a0 es.length cap) es.length true (g.own r) g.S=g1 at m1 m2;have gr:g1.tk r=true∧g1.ln r=v:=by rw[←Sq];simp[Gh.upd,Ne.symm DL,t1,l1]
     have gd:g1.tk d=true∧g1.ln d=es.length∧g1.ρ d=.slice a0 es.length cap:=by rw[←Sq];simp[Gh.upd]
     -- the id keeps its version
     have xp:(A2 (A2 st.h r .dead) d (.tok sz es.length)) r=.dead:=by rw[B8 _ _ _ _ (Ne.symm DL),Bl]
     obtain⟨n1,n2⟩:=m1.upd r (.vox v) (g1.ρ r) (g1.ln r) (g1.tk r) (g1.own r) g1.S w none ⟨rfl,rfl,rfl,Al _⟩ (fun _ _ _=>rfl) (fun b e=>by cases e) (fun _ _ h=>h) (fun _ _ h=>.inl h) (fun b o e=>by cases e) (fun b hh _=>by cases hh) (by simp)
      (fun _=>⟨rfl,Al _,fun _=>rfl,fun _=>rfl⟩) (fun _ _=>by
       obtain⟨u1,u2,u3,u4⟩:=BK g1 r (g1.ρ r) (g1.ln r) (g1.tk r) (g1.own r) g1.S;exact⟨u3.trans gr.1,u2.trans gr.2⟩)
     have hh:A2 (A2 (A2 st.h r .dead) d (.tok sz es.length)) r (.vox v)=A2 (A2 st.h r (.vox v)) d (.tok sz es.length):=by
      funext i
      unfold A2
      by_cases e:i=r
      ·subst e;rw[Dg,CV (Ne.symm DL)];rfl
      ·rw[CV e];rfl
     rw[hh]at n1 n2;generalize ic:g1.upd r (g1.ρ r) (g1.ln r) (g1.tk r) (g1.own r) g1.S=g2 at n1 n2;have uc:g2.tk d=true∧g2.ln d=es.length∧g2.ρ d=.slice a0 es.length cap:=by rw[←ic];simp[Gh.upd,DL,gd]
     have oM : (A2 (A2 st.h r (.vox v)) d (.tok sz es.length)) o=.cells cs:=by rw[B8 _ _ _ _ xi,B8 _ _ _ _ kl,e0]
     have L2:=m2.trans n2;have AbY:g2.ρ o=g.ρ o:=(L2.gh o (by unfold AU;rw[e0];simp)).2.2.1 (by assumption);obtain⟨g3,p1,p2⟩:=OU n1 oM Xv (new:=.slice (.id d sz) es) (fun y hy=>by
      have h3:=hy.slice_none;have zj:g2.ln r=v∧g2.ρ r=.slice a0 es.length cap:=by rw[←ic,←Sq];simp[Gh.upd,Ne.symm DL,l1,r1]
      have sT:y=.slice a0 es.length cap:=by
       cases hy with
       |ver _ _ _ _ _ _ h Xw hu ht hn hx=>exact(hx zj.1.symm).trans zj.2
      subst sT;exact .tok _ d sz es _ (h3.up _) Xw (by unfold AU;rw[Bl];simp) uc.1 (by rw[uc.2.1];exact Al _) (fun _=>uc.2.2.symm))
     exact⟨_,g3,⟨p1,hS.le.trans (L2.trans p2),hS.dfs,hS.size,fun i=>(hS.slots i).le (L2.trans p2)⟩,hk⟩
    ·exact hk.elim
   ·exact hk.elim
  ·exact⟨_,g,hS,hk⟩
 ·exact hk.elim
theorem jJ(hS:SR N ds w0 g0 h0 st g a w){o k r:Nat}{K:(Nat→HO)→Prop}(hk:uR st.h o k r K):∃h' g',SR N ds w0 g0 h0 ⟨st.t,h'⟩ g' a w∧K h':=by
 unfold uR at hk;split at hk
 ·rename_i cs e0;split at hk
  ·rename_i d sz es e1;split at hk
   ·rename_i GQ n e2;split at hk
    ·rename_i v hf;obtain⟨⟨hn,rfl⟩,hk⟩:=hk;subst hn;have ho:=hS.inv.objs d;rw[e2]at ho;obtain⟨t1,l1,a0,cap,r1,a2⟩:=ho;have hl:(st.h d).live:=by rw[e2];trivial
     have DL:r≠d:=fun e=>by rw[e,e2]at hf;cases hf
     have xi:o≠d:=fun e=>by rw[e,e2]at e0;cases e0
     have kl:o≠r:=fun e=>by rw[e,hf]at e0;cases e0
     have Xv:=JA cs k _ e1 (by simp);obtain⟨m1,m2⟩:=hS.inv.moveV d r v DL hf hl (.var sz (v+1) es.length) (.slice a0 es.length cap) (v+1) (Ha v) (by simp) (fun In=>by
      obtain⟨u1,u2,u3,u4⟩:=BK g r (.slice a0 es.length cap) (v+1) true (g.own d) g.S;refine⟨u3,u2,a0,cap,u1,?_⟩;rw[u4];exact a2)
     generalize Sq:g.upd r (.slice a0 es.length cap) (v+1) true (g.own d) g.S=g1 at m1 m2;have gr:g1.tk r=true∧g1.ln r=v+1∧g1.ρ r=.slice a0 es.length cap:=by rw[←Sq];simp[Gh.upd]
     have gd:g1.ln d=es.length∧g1.ρ d=.slice a0 es.length cap:=by rw[←Sq];simp[Gh.upd,Ne.symm DL,l1,r1]
     have oM : (A2 (A2 st.h d .dead) r (.var sz (v+1) es.length)) o=.cells cs:=by rw[B8 _ _ _ _ kl,B8 _ _ _ _ xi,e0]
     obtain⟨g3,p1,p2⟩:=OU m1 oM Xv (new:=.slice (.ver r sz (v+1)) es) (fun y hy=>by
      have h3:=hy.slice_none;have sT:y=.slice a0 es.length cap∧∀c∈es,c.length=sz:=by
       cases hy with
       |tok _ _ _ _ _ h Xw hu ht hn hx=>exact⟨(hx gd.1.symm).trans gd.2,Xw⟩
      obtain⟨sT,Xw⟩:=sT;subst sT;exact .ver _ r sz (v+1) es _ (h3.up _) Xw (by unfold AU;rw[Bl];simp) gr.1 (by rw[gr.2.1];exact Al _) (fun _=>gr.2.2.symm))
     exact⟨_,g3,⟨p1,hS.le.trans (m2.trans p2),hS.dfs,hS.size,fun i=>(hS.slots i).le (m2.trans p2)⟩,hk⟩
    ·exact hk.elim
   ·exact hk.elim
  ·exact⟨_,g,hS,hk⟩
 ·exact hk.elim
theorem pL(hS:SR N ds w0 g0 h0 st g a w){r:Nat}{K:(Nat→HO)→Prop}(hk:xJ st.h r K):∃h' g',SR N ds w0 g0 h0 ⟨st.t,h'⟩ g' a w∧K h':=by
 unfold xJ at hk;split at hk
 ·rename_i hf
  obtain⟨m1,m2⟩:=hS.inv.upd r (.vox 0) (.slice none 0 0) 0 true none g.S w none ⟨rfl,rfl,rfl,Al _⟩ (fun _ _ _=>rfl) (fun b e=>by cases e) (fun _ _ h=>h) (fun _ _ h=>.inl h) (fun b o e=>by cases e) (fun b hh _=>by cases hh) (by simp)
   (fun hu=>absurd hf hu) (fun _ _=>by
    obtain⟨u1,u2,u3,u4⟩:=BK g r (.slice none 0 0) 0 true none g.S;exact⟨u3,u2⟩)
  exact⟨_,_,⟨m1,hS.le.trans m2,hS.dfs,hS.size,fun i=>(hS.slots i).le m2⟩,hk⟩
 ·exact hk.elim
theorem jG(hS:SR N ds w0 g0 h0 st g a w){o k:Nat}{K:(Nat→HO)→Prop}(hk:uQ st.h o k K):∃h' g',SR N ds w0 g0 h0 ⟨st.t,h'⟩ g' a w∧K h':=by
 unfold uQ at hk;split at hk
 ·rename_i cs e0;split at hk
  ·rename_i r e1;split at hk
   ·rename_i sh Ca e2;have Xv:=JA cs k _ e1 (by simp);obtain⟨g3,p1,p2⟩:=OU hS.inv e0 Xv (new:=.cmap sh Ca) (fun y hy=>by
     have e3:rsv st.h (.mref r)=.cmap sh Ca:=by
      show(match st.h r with | .rom sh Ca=>AV.cmap sh Ca | _=>.mref r)=_;rw[e2]
     rw[←e3];exact BS.rsv hS.inv.objs hy)
    exact⟨_,g3,⟨p1,hS.le.trans p2,hS.dfs,hS.size,fun i=>(hS.slots i).le p2⟩,hk⟩
   ·exact hk.elim
  ·exact hk.elim
 ·exact hk.elim
theorem qd(hS:SR N ds w0 g0 h0 st g a w){o k j sz:Nat}{K:(Nat→HO)→Prop}(hk:yZ st.h o k j sz K):∃h' g',SR N ds w0 g0 h0 ⟨st.t,h'⟩ g' a w∧K h':=by
 unfold yZ at hk;split at hk
 ·rename_i cs e0;split at hk
  ·rename_i e1;split at hk
   ·rename_i hf;have kl:o≠j:=fun e=>by rw[e,hf]at e0;cases e0
    have Xv:=JA cs k _ e1 (by simp)
    obtain⟨m1,m2⟩:=hS.inv.upd j (.arr sz []) (.slice none 0 0) 0 true none g.S w none ⟨rfl,rfl,rfl,Al _⟩ (fun _ _ _=>rfl) (fun b e=>by cases e) (fun _ _ h=>h) (fun _ _ h=>.inl h) (fun b o e=>by cases e) (fun b hh e=>by first | (cases e;done) | (exact absurd hh.2 (by simp))) (by simp)
     (fun hu=>absurd hf hu) (fun _ _=>by
      obtain⟨u1,u2,u3,u4⟩:=BK g j (.slice none 0 0) 0 true none g.S;exact⟨u3,u2,(fun cs hc=>by cases hc),.inl ⟨rfl,u1,u4⟩⟩)
    generalize Sq:g.upd j (.slice none 0 0) 0 true none g.S=g1 at m1 m2;have gr:g1.tk j=true∧g1.ln j=0∧g1.ρ j=.slice none 0 0:=by rw[←Sq];simp[Gh.upd]
    have oM : (A2 st.h j (.arr sz [])) o=.cells cs:=by rw[B8 _ _ _ _ kl,e0]
    obtain⟨g3,p1,p2⟩:=OU m1 oM Xv (new:=.msl j 0) (fun y hy=>by
     cases hy
     exact .msl _ j 0 none 0 (by unfold AU;rw[Bl];simp) gr.1 (AG _) (.inl rfl) (fun _=>gr.2.2.symm))
    exact⟨_,g3,⟨p1,hS.le.trans (m2.trans p2),hS.dfs,hS.size,fun i=>(hS.slots i).le (m2.trans p2)⟩,hk⟩
   ·exact hk.elim
  ·exact hk.elim
 ·exact hk.elim
theorem gg{cx:Cx}{id:Nat}(hS:SR N ds w0 g0 h0 st g a w){K:(Nat→HO)→Prop}(hk:wm cx id st.h fun h=>uP cx id h fun h=>tu cx id h fun h=>qK cx id h K):∃h' g',SR N ds w0 g0 h0 ⟨st.t,h'⟩ g' a w∧K h':=by
 have h1:∃h' g',SR N ds w0 g0 h0 ⟨st.t,h'⟩ g' a w∧uP cx id h' fun h=>tu cx id h fun h=>qK cx id h K:=by
  unfold wm at hk;split at hk
  ·obtain⟨g',i1,i2⟩:=bp hS.inv _;exact⟨_,g',⟨i1,hS.le.trans i2,hS.dfs,hS.size,fun i=>(hS.slots i).le i2⟩,hk⟩
  ·exact⟨_,g,hS,hk⟩
 obtain⟨h1,g1,S1,hk⟩:=h1;have h2:∃h' g',SR N ds w0 g0 h0 ⟨st.t,h'⟩ g' a w∧tu cx id h' fun h=>qK cx id h K:=by
  unfold uP at hk;split at hk
  ·exact jG S1 hk
  ·exact⟨_,g1,S1,hk⟩
 obtain⟨h2,g2,S2,hk⟩:=h2;have h3:∃h' g',SR N ds w0 g0 h0 ⟨st.t,h'⟩ g' a w∧qK cx id h' K:=by
  unfold tu at hk;split at hk
  ·exact jG S2 hk
  ·exact⟨_,g2,S2,hk⟩
 obtain⟨h3,g3,S3,hk⟩:=h3;unfold qK at hk;split at hk
 ·exact qd S3 hk
 ·exact⟨_,g3,S3,hk⟩
theorem pj(hS:SR N ds w0 g0 h0 st g a w){r:Nat}{K:(Nat→HO)→Prop}(hk:xg st.h r K):∃h' g',SR N ds w0 g0 h0 ⟨st.t,h'⟩ g' a w∧K h':=by
 unfold xg at hk;split at hk
 ·rename_i sz es i c j m er;split at hk
  ·exact hk.elim
  ·rename_i hb;have DL:r≠j:=fun e=>by rw[e]at hb;exact absurd (Dg j) (by rw[hb];decide)
   split at hk
   ·rename_i co qs ej;obtain⟨hm,cs,hi,hc,hk⟩:=hk;have ho:=hS.inv.objs r;rw[er]at ho;obtain⟨t1,l1,al,b,cap,E,vs,e1,e2,e3,e4,e5,e6,e7,e8,x,e9,rD⟩:=ho;obtain⟨g1,i1,i2,i3,i4⟩:=WB hS.inv ej;have fB:x=g.ρ j:=by
     cases rD with
     |msl _ _ _ _ _ _ _ _ _ hz=>exact hz (hm.trans i4.symm)
    obtain⟨k1,k2⟩:=i1.upd j .dead (g1.ρ j) (g1.ln j) (g1.tk j) (g1.own j) g1.S w none ⟨rfl,rfl,rfl,Al _⟩ (fun _ _ _=>rfl) (fun b e=>by cases e) (fun _ _ h=>h) (fun _ _ h=>.inl h) (fun b o e=>by cases e) (fun b hh _=>by cases hh) (by simp)
     (fun _=>⟨rfl,Al _,fun _=>rfl,fun _=>rfl⟩) (fun _ _=>trivial)
    generalize ic:g1.upd j (g1.ρ j) (g1.ln j) (g1.tk j) (g1.own j) g1.S=g2 at k1 k2;have Er:BS g2 w FL (.slice .none qs) x:=by rw[fB];exact i3.slice_none.mono k2.keeps (fun _ h=>h) (fun _ h=>h.elim)
    have rF:A2 (A2 st.h j (.tok co qs.length)) j .dead r=.hol sz es i c (.msl j m):=by rw[B8 _ _ _ _ DL,B8 _ _ _ _ DL,er]
    have zV:=k1.objs r;rw[rF]at zV;obtain⟨t1',uC,tX,b',L0,E',fD,f1,f2,f3,f4,f5,f6,f7,f8,x',f9,f10⟩:=zV;have hl:(A2 (A2 st.h j (.tok co qs.length)) j .dead r).live:=by rw[rF];trivial
    have hρ:g2.ρ r=g.ρ r:=by
     have q1:=(i2.trans k2).gh r (by unfold AU;rw[er];simp);exact q1.2.2.2 (uC.trans l1.symm)
    have fA:fD=vs:=by
     rw[f1,e1]at hρ;cases hρ;rw[f4]at e4;cases e4;rfl
    subst fA;have hxx:x'=x:=by rw[e9]at f9;cases f9;rfl
    subst hxx;have DF:=(Aw.1 hi).1;have hcl:=tX cs (AA hi);have hfl:=Mo tX hi c [AV.slice .none qs] (by simp only[Au,Ay];omega);have CJ:es.flatten.length=es.length*sz:=Du tX
    obtain⟨m1,m2⟩:=k1.upd r (.arr sz (es.set i (over cs c [.slice .none qs]))) (g2.ρ r) (g2.ln r) (g2.tk r) (g2.own r) g2.S w none ⟨rfl,rfl,rfl,Al _⟩ (fun _ _ _=>rfl) (fun b e=>by cases e) (fun _ _ h=>h) (fun _ _ h=>.inl h)
     (fun b o e=>by cases e) (fun b' _ e=>⟨(k1.loc r b' hl e).1,.inl ⟨hl,e⟩⟩) (by simp) (fun _=>⟨rfl,Al _,fun _=>rfl,fun _=>rfl⟩) (fun hg In=>by
      obtain⟨u1,u2,u3,u4⟩:=BK g2 r (g2.ρ r) (g2.ln r) (g2.tk r) (g2.own r) g2.S;refine⟨u3.trans t1',u2.trans (by rw[CG];exact uC),fun d hd=>?_,.inr ⟨b',L0,E',fD,by rw[u1,f1,CG],u4.trans f2,by rw[CG];exact f3,f4,f5,?_,f7⟩⟩
      ·rcases I9 hd with hd | rfl
       ·exact tX d hd
       ·rw[F3];exact hcl
      ·rw[hfl,CG];refine⟨by rw[F3];exact f6.1,f6.2.1,fun p av y q1 q2=>?_⟩;rw[F2 _ _ _ _ (by rw[CJ];simp only[Au,Ay];omega)]at q1;split at q1
       ·rename_i hp;have iq:p=i*sz+c:=by simp only[Au,Ay]at hp;omega
        subst iq;rw[EW]at q1;cases q1
        have:y=x':=by
         rw[BQ f8]at q2;rw[←AQ,q2]at f9;cases f9;rfl
        rw[this];exact Er.mono In (fun _ h=>h) (fun _ h=>h.elim)
       ·exact(f6.2.2 p av y q1 q2).mono In (fun _ h=>h) (fun _ h=>h.elim))
    exact⟨_,_,⟨m1,hS.le.trans ((i2.trans k2).trans m2),hS.dfs,hS.size,fun i=>((hS.slots i).le (i2.trans k2)).le m2⟩,hk⟩
   ·exact hk.elim
 ·exact hk.elim
theorem mR{cx:Cx}{id:Nat}(hS:SR N ds w0 g0 h0 st g a w){K:(Nat→HO)→Prop}(hk:p9 cx id st.h K):∃h' g',SR N ds w0 g0 h0 ⟨st.t,h'⟩ g' a w∧K h':=by
 unfold p9 at hk;split at hk
 ·exact p8 hS hk
 ·split at hk
  ·exact jJ hS hk
  ·split at hk
   ·exact pL hS hk
   ·split at hk
    ·exact pj hS hk
    ·exact gg hS hk
theorem oe(hS:SR N ds w0 g0 h0 st g a w){o k:Nat}{K:(Nat→HO)→Prop}(hk:vd st.h o k K):∃h' g',SR N ds w0 g0 h0 ⟨st.t,h'⟩ g' a w∧K h':=by
 have same:K st.h→∃h' g',SR N ds w0 g0 h0 ⟨st.t,h'⟩ g' a w∧K h':=fun hk=>⟨st.h,g,hS,hk⟩;unfold vd at hk;split at hk
 ·rename_i cs e0;split at hk
  ·rename_i r n e1;split at hk
   ·rename_i sz es e2;obtain⟨rfl,hk⟩:=hk;have DL:o≠r:=fun e=>by rw[e,e2]at e0;cases e0
    obtain⟨g1,i1,i2,i3,i4⟩:=WB hS.inv e2;have ho:=i1.objs o;rw[B8 _ _ _ _ DL,e0]at ho;obtain⟨t1,b,E,vs,a1,a2,a3,a4,a5⟩:=ho;have hl:(A2 st.h r (.tok sz es.length) o).live:=by rw[B8 _ _ _ _ DL,e0];trivial
    have Xv:=Uf cs k _ _ e1;have W0:=hS.inv.objs o;rw[e0]at W0;obtain⟨_,b',E',fD,a1',a2',y6,a4',_⟩:=W0
    obtain⟨k1,k2⟩:=i1.upd o (.cells (EO cs k (.slice (.id r sz) es))) (g1.ρ o) (g1.ln o) (g1.tk o) (g1.own o) g1.S w none ⟨rfl,rfl,rfl,Al _⟩ (fun _ _ _=>rfl) (fun b e=>by cases e) (fun _ _ h=>h) (fun _ _ h=>.inl h)
     (fun b o e=>by cases e) (fun b' _ e=>⟨(i1.loc o b' hl e).1,.inl ⟨hl,e⟩⟩) (by simp) (fun _=>⟨rfl,Al _,fun _=>rfl,fun _=>rfl⟩) (fun hg In=>by
      obtain⟨u1,u2,u3,u4⟩:=BK g1 o (g1.ρ o) (g1.ln o) (g1.tk o) (g1.own o) g1.S;have Ly:∀i,AU (A2 st.h r (.tok sz es.length)) i→AU (A2 (A2 st.h r (.tok sz es.length)) o (.cells (EO cs k (.slice (.id r sz) es)))) i:=fun i hi=>DV (by simp) i hi;refine⟨u3.trans t1,b,E,vs,u4.trans a1,u1.trans a2,a3,⟨by rw[La];exact a4.1,a4.2.1,fun i av x q1 q2=>?_⟩,a5⟩;rcases K9 cs k _ i av q1 with ⟨rfl,rfl⟩ | q
      ·have hx:=a4.2.2 i _ x Xv q2;have fB:x=g.ρ r:=by
        have Sq:=i2.gh o (by unfold AU;rw[e0];simp);have fA:vs=fD:=by
         have e3:g1.ρ o=g.ρ o:=Sq.2.2.1 (by
          have:=(hS.inv.objs o);rw[e0]at this;exact this.1)
         rw[a2,a2']at e3;cases e3;rw[a3]at y6;cases y6;rfl
        subst fA
        have:=a4'.2.2 i _ x Xv q2
        cases this with
        |msl _ _ _ _ _ _ _ _ _ hz=>exact hz i4.symm
       rw[fB];exact i3.mono In Ly hg
      ·exact(a4.2.2 i av x q q2).mono In Ly hg)
    exact⟨_,_,⟨k1,hS.le.trans (i2.trans k2),hS.dfs,hS.size,fun i=>((hS.slots i).le i2).le k2⟩,hk⟩
   ·exact same hk
  ·exact same hk
 ·exact same hk
theorem nY{cx:Cx}{o:Oper}{K:St→Prop}(hS:SR N ds w0 g0 h0 st g a w)(hk:u6 cx o st K):∃Ej g',SR N ds w0 g0 h0 Ej g' a w∧K Ej:=by
 have same:K st→∃Ej g',SR N ds w0 g0 h0 Ej g' a w∧K Ej:=fun hk=>⟨st,g,hS,hk⟩;unfold u6 at hk;split at hk
 ·exact same hk
 ·split at hk
  ·exact same hk
  ·rename_i s _;split at hk
   ·rename_i r n ht;split at hk
    ·rename_i sz es hr;obtain⟨hn,hk⟩:=hk;subst hn;have hI:=hS.inv;have ho:=hI.objs r;rw[hr]at ho;obtain⟨t1,l1,al,a2⟩:=ho;have hl:(st.h r).live:=by rw[hr];trivial
     have VH:=hS.slots s;rw[ht]at VH;have Kw:a.tmps.getD s undef=g.ρ r:=by
      generalize a.tmps.getD s undef=x at VH;cases VH with
      |msl _ r n a cap hu ht hn ha hx=>exact hx l1.symm
     have fin:∀g',DQ w0 g0 h0 (A2 st.h r (.tok sz es.length)) g' w→Le st.h g w (A2 st.h r (.tok sz es.length)) g' w→BS g' w (AU (A2 st.h r (.tok sz es.length))) (.slice (.id r sz) es) (g.ρ r) →
       ∃Ej g',SR N ds w0 g0 h0 Ej g' a w∧K Ej:=fun g' i1 i2 i3=>by
      refine⟨_,g',⟨i1,hS.le.trans i2,hS.dfs,hS.size,fun i=>?_⟩,hk⟩;show BS g' w (AU (A2 st.h r (.tok sz es.length))) (Hu st.t s (.slice (.id r sz) es) i) _
      by_cases e:i=s
      ·subst e
       have:Hu st.t i (.slice (.id r sz) es) i=.slice (.id r sz) es:=by unfold Hu;simp
       rw[this,Kw];exact i3
      ·have:Hu st.t s (.slice (.id r sz) es) i=st.t i:=by unfold Hu;simp[CV e]
       rw[this];exact(hS.slots i).le i2
     rcases a2 with ⟨b1,b2,b3⟩ | ⟨b,cap,E,vs,b1,b2,b3,b4,b5,b6,b7⟩
     ·subst b1
      obtain⟨k1,k2⟩:=hI.upd r (.tok sz 0) (g.ρ r) (g.ln r) (g.tk r) (g.own r) g.S w none ⟨rfl,rfl,rfl,Al _⟩ (fun _ _ _=>rfl) (fun b e=>by cases e) (fun _ _ h=>h) (fun _ _ h=>.inl h)
       (fun b o e=>by cases e) (fun b' _ e=>⟨(hI.loc r b' hl e).1,.inl ⟨hl,e⟩⟩) (by simp) (fun _=>⟨rfl,Al _,fun _=>rfl,fun _=>rfl⟩) (fun hg hk=>by
        obtain⟨u1,u2,u3,u4⟩:=BK g r (g.ρ r) (g.ln r) (g.tk r) (g.own r) g.S;exact⟨u3.trans t1,u2.trans l1,none,0,u1.trans b2,.inl ⟨rfl,u4.trans b3⟩⟩)
      refine fin _ k1 k2 ?_;rw[b2];exact .tok _ r sz [] _ (.snil _ _ _) (by simp) (by unfold AU;rw[Bl];simp) (by simp[Gh.upd,t1]) (by simp) (fun _=>by simp[Gh.upd])
     ·have DF:=(hI.loc r b hl b2).1
      obtain⟨k1,k2⟩:=hI.upd r (.tok sz es.length) (g.ρ r) (g.ln r) (g.tk r) (g.own r) (g.more b (es.length*sz)) w none ⟨rfl,rfl,rfl,Al _⟩ (fun _ _ _=>rfl) (fun b e=>by cases e) (fun _ _ h=>.inl h)
       (fun b' o hs=>hs.elim .inl (fun hs=>.inr ⟨by rw[hs.1];exact DF,.inr ⟨hl,by rw[hs.1];exact b2⟩⟩)) (fun b o e=>by cases e) (fun b' _ e=>⟨(hI.loc r b' hl e).1,.inl ⟨hl,e⟩⟩) (by simp)
       (fun _=>⟨rfl,Al _,fun _=>rfl,fun _=>rfl⟩) (fun hg hk=>by
        obtain⟨u1,u2,u3,u4⟩:=BK g r (g.ρ r) (g.ln r) (g.tk r) (g.own r) (g.more b (es.length*sz));exact⟨u3.trans t1,u2.trans l1,_,cap,u1.trans b1,.inr ⟨b3,b,E,vs,0,rfl,u4.trans b2,b4,by rw[b5,Bk],fun o ho=>by
         rcases ho with ho | ⟨_,ho⟩
         ·exact absurd ho (b7 o)
         ·omega⟩⟩)
      refine fin _ k1 k2 ?_;rw[b1];exact .tok _ r sz es _ (BS.slice_row b4 al b3 (b6.mono k2.keeps (fun _ h=>h) (fun _ h=>h.elim)) (fun o ho=>.inr ⟨rfl,ho⟩)) al (by unfold AU;rw[Bl];simp) (by simp[Gh.upd,t1]) (by simp[Gh.upd,l1]) (fun _=>by simp[Gh.upd])
    ·exact same hk
   ·exact same hk
variable {cx:Cx}(hP:cx.P=P)(hT:CH P cx.T)(hY:∀l σ h g w,Ey σ=true→DQ w0 g0 h0 h g w→Le h0 g0 w0 h g w→cx.yp l σ (DG σ g) w){ro:Option Nat}{ops:Array Oper}
include hP hT hY
theorem SQ{dr:Bool}{o:Oper}(hd:∀i,o.dst=some i→i<N){K:St→Prop}{next:Act→World→Prop}{Q:Exit→Act→World→Prop}(hS:SR N ds w0 g0 h0 st g a w)(hk:Hx cx dr ops.toList o st K)
  (hn:∀Ej g' a' w',K Ej→SR N ds w0 g0 h0 Ej g' a' w'→next a' w'):if Region.wanted o (yielded ops a.tmps)then o.wpIn (J8 ro) 0 P a w next Q else next (a.put o.dst undef) w:=by
 have run:fO cx dr o st K→o.wpIn (J8 ro) 0 P a w next Q:=by
  intro hk;unfold fO at hk;split at hk
  ·exact fP hP hY hT hS hk fun v h' g' w' x q1 q2 q3 q4=>hn _ g' _ _ q1 (hS.put hd q2 q3 q4)
  ·obtain⟨g1,lu⟩:=jA (cx:=cx) (o:=o) hS;obtain⟨Ej,g',TA,hk⟩:=nY lu hk;exact fP hP hY hT TA hk fun v h' g' w' x q1 q2 q3 q4=>hn _ g' _ _ q1 (TA.put hd q2 q3 q4)
 have skip:K (st.put o.dst (.v undef) st.h)→next (a.put o.dst undef) w:=fun hk=>hn _ g _ _ hk (hS.put hd hS.inv (.refl _ _ _) (.v _ _))
 unfold Hx at hk;split at hk
 ·rename_i hg;rw[Ax (by simp[Region.wanted,hg])];exact run hk
 ·rename_i j want hg;split at hk
  ·exact hk.elim
  ·rename_i d hj;have hy:∀x:Value,BS g w (AU st.h) (st.t d) x→x=a.tmps.getD d undef→True:=fun _ _ _=>trivial;have hs:=hS.slots d;rw[V0]at hj;have key:∀b:Bool,a.tmps.getD d undef=.bool b→yielded ops a.tmps j=some b:=by
    intro b hb;have DF:d<a.tmps.size:=by
     apply Nat.lt_of_not_le;intro qr;rw[CD,UK qr]at hb;cases hb
    simp only[yielded,hj,Option.bind_some];rw[CD,BO DF]at hb;rw[BO DF];simp only[CE]at hb;rw[hb]
   have xF:∀t,a.tmps.getD d undef=.tuple t→yielded ops a.tmps j=none:=by
    intro t hb;simp only[yielded,hj,Option.bind_some];cases he:a.tmps[d]? with
    |none=>rfl
    |some x =>
     rw[CD,he]at hb;simp only[CE]at hb;rw[hb]
   generalize hx:st.t d=x at hk hs;split at hk
   ·have:=key true hs.v_eq
    rw[Ax (by simp[Region.wanted,hg,this])];exact run hk
   ·have:=key false hs.v_eq
    rw[Ax (by simp[Region.wanted,hg,this])];exact run hk
   ·have:=key true hs.v_eq
    rw[Ao (by simp[Region.wanted,hg,this])];exact skip hk
   ·have:=key false hs.v_eq
    rw[Ao (by simp[Region.wanted,hg,this])];exact skip hk
   ·have:=xF _ hs.v_eq
    rw[Ao (by simp[Region.wanted,hg,this])];exact skip hk
   ·exact hk.elim
theorem WA{Q:Exit→Act→World→Prop}{K:St→Prop}(hQ:∀Ej g' a' w',K Ej→SR N ds w0 g0 h0 Ej g' a' w'→Q .normal a' w') :
  ∀(l:List Oper),(∀o∈l,∀i,o.dst=some i→i<N)→∀{st:St} {g:Gh} {a:Act} {w:World},SR N ds w0 g0 h0 st g a w→UR cx ops.toList l st K→wpListIn (J8 ro) 0 P ops Q l a w
 | [],_,st,g,a,w,hS,hk=>hQ st g a w hk hS
 | [o],hd,st,g,a,w,hS,hk=>by
  have:=SQ hP hT hY (ro:=ro) (hd o (Ac ..)) (next:=wpListIn (J8 ro) 0 P ops Q []) (Q:=Q) hS hk fun Ej g' a' w' q1 q2=>hQ Ej g' a' w' q1 q2
  unfold wpListIn;split
  ·rename_i hw;rw[Ax hw]at this;exact this
  ·rename_i hw;rw[Ao hw]at this;exact⟨fun _ _=>trivial,this⟩
 |o::o2::l,hd,st,g,a,w,hS,hk=>by
  cases hc:TV o o2 with
  |true =>
   have hk:cQ cx o st fun Ej=>UR cx ops.toList l Ej K:=by
    have HL:(match TV o o2 with
     |true=>cQ cx o st fun Ej=>UR cx ops.toList l Ej K
     |false=>Hx cx false ops.toList o st fun Ej=>UR cx ops.toList (o2::l) Ej K):=hk
    rw[hc]at HL;exact HL
   obtain⟨g1,g2,h1⟩:=kV hT (ro:=ro) (o2:=o2) (hd o (Ac ..)) hc hS hk (next:=wpListIn (J8 ro) 0 P ops Q l) (Q:=Q) fun Ej g' a' w' q1 q2=>WA hQ l (fun o' ns=>hd o' (Af _ (Af _ ns))) q2 q1
   unfold wpListIn;rw[Ax (by simp[Region.wanted,g1])];have e:(fun(a1:Act) (w1:World)=>o2.wpIn (J8 ro) 0 P a1 w1 (wpListIn (J8 ro) 0 P ops Q l) Q)=wpListIn (J8 ro) 0 P ops Q (o2::l):=by
    funext a1 w1
    unfold wpListIn;rw[Ax (by simp[Region.wanted,g2])]
   rw[←e];exact h1
  |false =>
   have hk:Hx cx false ops.toList o st fun Ej=>UR cx ops.toList (o2::l) Ej K:=by
    have HL:(match TV o o2 with
     |true=>cQ cx o st fun Ej=>UR cx ops.toList l Ej K
     |false=>Hx cx false ops.toList o st fun Ej=>UR cx ops.toList (o2::l) Ej K):=hk
    rw[hc]at HL;exact HL
   have:=SQ hP hT hY (ro:=ro) (hd o (Ac ..)) (next:=wpListIn (J8 ro) 0 P ops Q (o2::l)) (Q:=Q) hS hk fun Ej g' a' w' q1 q2=>WA hQ (o2::l) (fun o' ns=>hd o' (Af _ ns)) q2 q1
   unfold wpListIn;split
   ·rename_i hw;rw[Ax hw]at this;exact this
   ·rename_i hw;rw[Ao hw]at this;exact⟨fun _ _=>trivial,this⟩
theorem Wv{Q:Exit→Act→World→Prop}{K:St→Prop}{FT:Nat→FM}(hQ:∀Ej g' a' w',K Ej→SR N ds w0 g0 h0 Ej g' a' w'→Q .normal a' w')(hd:∀(j:Nat) (o:Oper),ops[j]?=some o→∀i,o.dst=some i→i<N) :
  ∀(fuel:Nat) (listed:Array Bool) {st:St} {g:Gh} {a:Act} {w:World},SR N ds w0 g0 h0 st g a w→XE cx ops FT K fuel listed st→wpAnyIn (J8 ro) 0 P .any ops Q fuel listed a w
 |0,_,st,g,a,w,hS,hk=>⟨hk.1,hQ st g a w hk.2 hS⟩
 |fuel+1,listed,st,g,a,w,hS,hk=>by
  refine⟨fun h0=>hQ st g a w (hk.1 h0) hS,fun i hi=>?_⟩;have h1:=hk.2 i hi;unfold qP at h1;unfold wpOpIn;cases ho:ops[i]? with
  |none=>rw[ho]at h1;exact Wv hQ hd fuel _ hS h1
  |some o =>
   rw[ho]at h1
   have:=SQ hP hT hY (ro:=ro) (hd i o ho) (next:=wpAnyIn (J8 ro) 0 P .any ops Q fuel (listed.setIfInBounds i true)) (Q:=Q) hS h1.2 fun Ej g' a' w' q1 q2=>Wv hQ hd fuel _ q2 q1
   dsimp only;split
   ·rename_i hw;rw[Ax hw]at this;exact this
   ·rename_i hw;rw[Ao hw]at this;exact⟨fun _ _=>trivial,this⟩
end
end Go.Eng
