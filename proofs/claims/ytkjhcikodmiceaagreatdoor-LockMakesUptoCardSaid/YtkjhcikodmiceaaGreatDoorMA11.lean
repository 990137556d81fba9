/- Lemmas 11. -/
import Derived.Test.YtkjhcikodmiceaaGreatDoorMA10
import Derived.Deep.LoopGhost
namespace Go.Eng
variable {h:Nat->HO}{U:Nat->Prop}{cx:Cx}{av:AV}{cs:List AV}{i:Nat}{w:World}{o:Oper}{g:D}
section
variable {P:Program}{N:Nat}{ds:List Deferred}{w0:World}{g0:D}{h0 h:Nat->HO}{st:St}{g:D}{a:Act}{w:World}
theorem gL(hI:CZ w0 g0 h0 h g w)(r:Nat):∃g',CZ w0 g0 h0 (ne h r) g' w/\Le h g w (ne h r) g' w:=by
 unfold ne;split
 .rename_i cs e0;have ho:=hI.objs r;rw[e0]at ho;obtain⟨t1,b,E,vs,a1,a2,a3,a4,a5⟩:=ho;have hl:(h r).live:=by rw[e0];trivial
  have E4:=(hI.loc r b hl a1).1;have hs:=QW hI a4
  obtain⟨k1,k2⟩:=hI.upd r (.ro (cs.map (str h))) (g.ρ r) (g.ln r) (g.tk r) none (g.more b cs.length) w none ⟨rfl,rfl,rfl,Ao _⟩ (fun _ _ _=>rfl) (fun b e=>by cases e) (fun _ _ h=>.inl h)
   (fun b' o hs=>hs.elim .inl (fun hs=>.inr ⟨by rw[hs.1];exact E4,.inr ⟨hl,by rw[hs.1];exact a1⟩⟩)) (fun b o e=>by cases e) (fun b hh _=>by cases hh) aa1
   (fun _=>⟨rfl,Ao _,fun _=>rfl,fun _=>rfl⟩) (fun hg hk=>by
    obtain⟨u1,u2,u3,u4⟩:=Bn g r (g.ρ r) (g.ln r) (g.tk r) none (g.more b cs.length);exact⟨u3.trans t1,b,u1.trans a2,O.cptr_row a3 (hs.mono hk (fun _ h=>h) (fun _ h=>h.elim)) (fun o ho=>.inr ⟨rfl,by simpa using ho⟩)⟩)
  exact⟨_,k1,k2⟩
 .rename_i sh BZ e0;have ho:=hI.objs r;rw[e0]at ho;obtain⟨t1,b,es,ck,a1,a2,a3,a4,a5,a6⟩:=ho<;>grind [SJ]
 .rename_i sh BZ e0;have ho:=hI.objs r;rw[e0]at ho;obtain⟨t1,b,es,ck,a1,a2,a3,a4,a5,a6⟩:=ho<;>grind [Zf]
 grind [Le.refl]
theorem NC:∀(l:List Nat) {h:Nat->HO} {g:D},CZ w0 g0 h0 h g w->∃g',CZ w0 g0 h0 (Ql h l) g' w/\Le h g w (Ql h l) g' w
 | [],_,g,hI=>⟨g,hI,.refl _ _ _⟩
 |r::l,_,_,hI=>
  let ⟨_,i1,i2⟩:=gL hI r
  let ⟨g2,j1,j2⟩:=NC l i1
  ⟨g2,j1,i2.trans j2⟩
theorem Lq:∀(cs:List AV) (k:Nat) (v:AV) (i:Nat) (av:AV),(E2 cs k v)[i]?=some av->(i=k/\av=v)\/cs[i]?=some av
 | [],_,_,_,_,h=>by grind [E2]
 |c::cs,0,v,i,av,h=>by
  grind [E2]
 |c::cs,k+1,v,i,av,h=>by
  unfold E2 at h;cases i with
  |zero=>simp_all
  |succ i=>
   rcases Lq cs k v i av (by simpa using h)with ⟨e1,e2⟩ | e<;>simp_all
theorem Lr:∀(cs:List AV) (k:Nat) (v:AV),(E2 cs k v).length=cs.length
 | [],_,_=>rfl
 |_::_,0,_=>rfl
 |_::cs,k+1,v=>by unfold E2;simp[Lr cs k v]
theorem ca:∀(cs:List AV) (k:Nat) (x:Value),Ke cs k=.v x->cs[k]?=some (.v x)
 | [],_,_,h=>by grind [Ke]
 |_::_,0,_,h=>by grind [Ke]
 |_::cs,k+1,x,h=>by unfold Ke at h;simpa using ca cs k x h
theorem xQ(hI:CZ w0 g0 h0 h g w)(r k j sz:Nat):∃g',CZ w0 g0 h0 (tz1 h r k j sz) g' w/\Le h g w (tz1 h r k j sz) g' w:=by
 have same:∃g',CZ w0 g0 h0 h g' w/\Le h g w h g' w:=⟨g,hI,.refl _ _ _⟩;unfold tz1;split
 .rename_i cs e0;split
  .rename_i e1;split
   .rename_i hj;have ER:r≠j:=fun e=>by simp_all
    obtain⟨g1,i1,i2,i3⟩:=Pl hI (sz:=sz) (es:=[]) (a:=none) hj aa1 rfl (.snil _ _ _);have ho:=i1.objs r;rw[BQ _ _ _ _ ER,e0]at ho;obtain⟨t1,b,E,vs,a1,a2,a3,a4,a5⟩:=ho;have hl:(AJ h j (.tok sz 0) r).live:=by rw[BQ _ _ _ _ ER,e0];trivial
    have E4:=(i1.loc r b hl a1).1;have Xj:=ca cs k _ e1
    obtain⟨k1,k2⟩:=i1.upd r (.cells (E2 cs k (.slice (.id j sz) []))) (g1.ρ r) (g1.ln r) (g1.tk r) (g1.own r) g1.S w none ⟨rfl,rfl,rfl,Ao _⟩ (fun _ _ _=>rfl) (fun b e=>by cases e) (fun _ _ h=>h) (fun _ _ h=>.inl h)
     (fun b o e=>by cases e) (fun b' _ e=>⟨(i1.loc r b' hl e).1,.inl ⟨hl,e⟩⟩) aa1 (fun _=>⟨rfl,Ao _,fun _=>rfl,fun _=>rfl⟩) (fun hg hk=>by
      obtain⟨u1,u2,u3,u4⟩:=Bn g1 r (g1.ρ r) (g1.ln r) (g1.tk r) (g1.own r) g1.S;have Oa:∀i,L (AJ h j (.tok sz 0)) i->L (AJ (AJ h j (.tok sz 0)) r (.cells (E2 cs k (.slice (.id j sz) [])))) i:=fun i hi=>DP aa1 i hi;refine⟨u3.trans t1,b,E,vs,u4.trans a1,u1.trans a2,a3,⟨by rw[Lr];exact a4.1,a4.2.1,fun i av x q1 q2=>?_⟩,a5⟩;rcases Lq cs k _ i av q1 with ⟨rfl,rfl⟩ | q
      .have:=(a4.2.2 i _ x Xj q2).v_eq
       subst this;exact i3.mono hk Oa hg
      .exact(a4.2.2 i av x q q2).mono hk Oa hg)
    exact⟨_,k1,i2.trans k2⟩
   omega
  omega
 omega
theorem pA(hS:SR N ds w0 g0 h0 st g a w):∃g',SR N ds w0 g0 h0 (pz cx o st) g' a w:=by
 unfold pz;split
 .grind
 .rename_i d _;split
  .obtain⟨g',h1,h2⟩:=xQ hS.inv _ _ _ _;exact⟨g',h1,hS.le.trans h2,hS.dfs,hS.size,fun i=>(hS.slots i).le h2⟩
  split
  .grind
  .obtain⟨g',h1,h2⟩:=NC (vA cx.pl.fz d) hS.inv;exact⟨g',h1,hS.le.trans h2,hS.dfs,hS.size,fun i=>(hS.slots i).le h2⟩
theorem Vp:∀(cs:List AV) (k:Nat) (r n:Nat),Ke cs k=.msl r n->cs[k]?=some (.msl r n)
 | [],_,_,_,h=>by grind [Ke]
 |_::_,0,_,_,h=>by grind [Ke]
 |_::cs,k+1,r,n,h=>by unfold Ke at h;simpa using Vp cs k r n h
theorem Yf(hI:CZ w0 g0 h0 h g w){r sz:Nat}{es:C0}(hr:h r=.arr sz es) :
  ∃g',CZ w0 g0 h0 (AJ h r (.tok sz es.length)) g' w/\Le h g w (AJ h r (.tok sz es.length)) g' w/\O g' w (L (AJ h r (.tok sz es.length))) (.slice (.id r sz) es) (g.ρ r)/\g.ln r=es.length:=by
 have ho:=hI.objs r;rw[hr]at ho;obtain⟨t1,l1,al,a2⟩:=ho;have hl:(h r).live:=by rw[hr];trivial
 rcases a2 with ⟨b1,b2,b3⟩ | ⟨b,cap,E,vs,b1,b2,b3,b4,b5,b6,b7⟩
 .subst b1
  obtain⟨k1,k2⟩:=hI.upd r (.tok sz 0) (g.ρ r) (g.ln r) (g.tk r) (g.own r) g.S w none ⟨rfl,rfl,rfl,Ao _⟩ (fun _ _ _=>rfl) (fun b e=>by cases e) (fun _ _ h=>h) (fun _ _ h=>.inl h)
   (fun b o e=>by cases e) (fun b' _ e=>⟨(hI.loc r b' hl e).1,.inl ⟨hl,e⟩⟩) aa1 (fun _=>⟨rfl,Ao _,fun _=>rfl,fun _=>rfl⟩) (fun hg hk=>by
    obtain⟨u1,u2,u3,u4⟩:=Bn g r (g.ρ r) (g.ln r) (g.tk r) (g.own r) g.S;exact⟨u3.trans t1,u2.trans l1,none,0,u1.trans b2,.inl ⟨rfl,u4.trans b3⟩⟩)
  refine⟨_,k1,k2,?_,l1⟩;rw[b2];exact .tok _ r sz [] _ (.snil _ _ _) aa1 (by unfold L;rw[If,A0];simp) (by simp[D.upd,t1]) aa1 (fun _=>by simp[D.upd])
 .have E4:=(hI.loc r b hl b2).1
  obtain⟨k1,k2⟩:=hI.upd r (.tok sz es.length) (g.ρ r) (g.ln r) (g.tk r) (g.own r) (g.more b (es.length*sz)) w none ⟨rfl,rfl,rfl,Ao _⟩ (fun _ _ _=>rfl) (fun b e=>by cases e) (fun _ _ h=>.inl h)
   (fun b' o hs=>hs.elim .inl (fun hs=>.inr ⟨by omega,.inr ⟨hl,by simp_all⟩⟩)) (fun b o e=>by cases e) (fun b' _ e=>⟨(hI.loc r b' hl e).1,.inl ⟨hl,e⟩⟩) aa1
   (fun _=>⟨rfl,Ao _,fun _=>rfl,fun _=>rfl⟩) (fun hg hk=>by
    obtain⟨u1,u2,u3,u4⟩:=Bn g r (g.ρ r) (g.ln r) (g.tk r) (g.own r) (g.more b (es.length*sz));exact⟨u3.trans t1,u2.trans l1,_,cap,u1.trans b1,.inr ⟨b3,b,E,vs,0,rfl,u4.trans b2,.of b4,by omega,fun o ho=>by
     rcases ho with ho | ⟨_,ho⟩<;>simp_all⟩⟩)
  refine⟨_,k1,k2,?_,l1⟩;rw[b1];exact .tok _ r sz es _ (O.slice_row b4 al b3 (b6.mono k2.keeps (fun _ h=>h) (fun _ h=>h.elim)) (fun o ho=>.inr ⟨rfl,ho⟩)) al (by grind [L,A0]) (by grind [D.upd]) (by grind [D.upd]) (fun _=>by simp[D.upd])
theorem CZ.move{w0:World}{g0:D}{h0 h:Nat->HO}{g:D}{w:World}(hI:CZ w0 g0 h0 h g w)(r r2:Nat)(ER:r2≠r)(hf:h r2=.free)(hl:(h r).live){b:Nat}(ho:g.own r=some b)(o' : HO)(x:Value)(n:Nat)(t:Bool)(hn:o'≠.free)
  (Mt:Fg g w (g.upd r2 x n t (some b) g.S) w->D6 (g.upd r2 x n t (some b) g.S) w (L (AJ (AJ h r .dead) r2 o')) r2 o') :
  CZ w0 g0 h0 (AJ (AJ h r .dead) r2 o') (g.upd r2 x n t (some b) g.S) w/\Le h g w (AJ (AJ h r .dead) r2 o') (g.upd r2 x n t (some b) g.S) w:=by
 have nA:KK g (g.upd r2 x n t (some b) g.S) (L h):=by
  intro i hi;have e:i≠r2:=fun e=>hi aa0
  grind [D.upd]
 have hK:Fg g w (g.upd r2 x n t (some b) g.S) w:=fun b o hb=>⟨hb,rfl,fun _ _ h=>h⟩;have Oa:∀i,L h i->L (AJ (AJ h r .dead) r2 o') i:=fun i hi=>DP hn i (DP aa1 i hi);have key:∀i,i≠r2->(AJ (AJ h r .dead) r2 o' i).live->i≠r/\(h i).live:=fun i h2 hl=>by
  rw[BQ _ _ _ _ h2]at hl
  by_cases e:i=r
  .subst e;rw[A0]at hl;exact hl.elim
  grind [BQ]
 have own:∀i,i≠r2->(g.upd r2 x n t (some b) g.S).own i=g.own i:=fun i e=>by simp[D.upd,e]
 have pi:(g.upd r2 x n t (some b) g.S).own r2=some b:=by simp[D.upd]
 refine⟨⟨hI.os,hI.tape,hI.output,hI.size,hI.frame,hI.slt,fun i=>?_,fun i j c hi hj ei ej=>?_,fun i c hi ei=>?_,hI.sg,hI.glob.keep hK⟩,nA,Oa,hK⟩
 .by_cases e:i=r2
  .grind [A0]
  .rw[BQ _ _ _ _ e]
   by_cases e1:i=r
   .subst e1;rw[A0];trivial
   .rw[BQ _ _ _ _ e1];exact(hI.objs i).same hK Oa nA (by simp[D.upd,e]) (by simp[D.upd,e]) (by simp[D.upd,e]) aa0 (fun b hl hb=>⟨rfl,fun k hk=>hk⟩)
 .grind [CZ.inj]
 .by_cases e1:i=r2
  .subst e1;rw[pi]at ei;cases ei;exact hI.loc r _ hl ho
  .rw[own i e1]at ei;exact hI.loc i c (key i e1 hi).2 ei
theorem vz(hS:SR N ds w0 g0 h0 st g a w){s k:Nat}{K:St->Prop}(hk:asK st s k K):∃EQ g',SR N ds w0 g0 h0 EQ g' a w/\K EQ:=by
 have same:K st->∃EQ g',SR N ds w0 g0 h0 EQ g' a w/\K EQ:=fun hk=>⟨st,g,hS,hk⟩;unfold asK at hk;split at hk
 .rename_i r n ht;have Xk:=hS.slots s;rw[ht]at Xk;split at hk
  .rename_i sz es hr;have ho:=hS.inv.objs r;rw[hr]at ho;obtain⟨t1,l1,al,a2⟩:=ho;have hl:(st.h r).live:=by rw[hr];trivial
   have hval:n=es.length->a.tmps.getD s undef=g.ρ r:=fun hn=>by
    grind [cases O]
   have fin:∀(h' : Nat->HO) (v:AV) (g' : D),CZ w0 g0 h0 h' g' w->Le st.h g w h' g' w->O g' w (L h') v (a.tmps.getD s undef)->SR N ds w0 g0 h0 ⟨Kl st.t s v,h'⟩ g' a w:=fun h' v g' i1 i2 i3=>by
    grind [Kl,DY,SR.mk,Le.trans,SR.le,SR.dfs,SR.size,O.le,SR.slots]
   split at hk
   .obtain⟨hn,hk⟩:=hk;obtain⟨g1,i1,i2,i3,i4⟩:=Yf hS.inv hr
    obtain⟨k1,k2⟩:=i1.upd r .dead (g1.ρ r) (g1.ln r) (g1.tk r) (g1.own r) g1.S w none ⟨rfl,rfl,rfl,Ao _⟩ (fun _ _ _=>rfl) (fun b e=>by cases e) (fun _ _ h=>h) (fun _ _ h=>.inl h) (fun b o e=>by cases e) (fun b hh _=>by cases hh) aa1
     (fun _=>⟨rfl,Ao _,fun _=>rfl,fun _=>rfl⟩) (fun _ _=>trivial)
    exact⟨_,_,fin _ _ _ k1 (i2.trans k2) (by grind [O.le,O.up,O.slice_none]),hk⟩
   .rename_i k;split at hk
    .simp_all
    .rename_i hb;have ER:k+1≠r:=fun e=>by simp_all
     split at hk
     .rename_i hf;obtain⟨hn,hk⟩:=hk;rcases a2 with ⟨b1,b2,b3⟩ | ⟨b,cap,E,vs,b1,b2,b3,b4,b5,b6,b7⟩
      .subst b1;have hv:=hval hn
       obtain⟨k1,k2⟩:=hS.inv.upd r .dead (g.ρ r) (g.ln r) (g.tk r) (g.own r) g.S w none ⟨rfl,rfl,rfl,Ao _⟩ (fun _ _ _=>rfl) (fun b e=>by cases e) (fun _ _ h=>h) (fun _ _ h=>.inl h) (fun b o e=>by cases e) (fun b hh _=>by cases hh) aa1
        (fun _=>⟨rfl,Ao _,fun _=>rfl,fun _=>rfl⟩) (fun _ _=>trivial)
       have hf1:AJ st.h r .dead (k+1)=.free:=by grind [BQ]
       obtain⟨m1,m2⟩:=k1.upd (k+1) (.arr sz []) (.slice none 0 0) 0 true none (g.upd r (g.ρ r) (g.ln r) (g.tk r) (g.own r) g.S).S w none ⟨rfl,rfl,rfl,Ao _⟩ (fun _ _ _=>rfl) (fun b e=>by cases e) (fun _ _ h=>h) (fun _ _ h=>.inl h) (fun b o e=>by cases e) (fun b _ e=>by cases e) aa1
        (fun hu=>absurd hf1 hu) (fun _ _=>by
         obtain⟨u1,u2,u3,u4⟩:=Bn (g.upd r (g.ρ r) (g.ln r) (g.tk r) (g.own r) g.S) (k+1) (.slice none 0 0) 0 true none (g.upd r (g.ρ r) (g.ln r) (g.tk r) (g.own r) g.S).S;exact⟨u3,u2,by simp,.inl ⟨rfl,u1,u4⟩⟩)
       refine⟨_,_,fin _ _ _ m1 (k2.trans m2) ?_,hk⟩;rw[hv,b2,hn];exact .msl _ (k+1) 0 none 0 (by grind [L,A0]) (by simp[D.upd]) (Ak _) (.inl rfl) (fun _=>by simp[D.upd])
      .have hv:=hval hn;obtain⟨m1,m2⟩:=hS.inv.move r (k+1) ER hf hl b2 (.arr sz es) (g.ρ r) es.length true aa1 (fun Jf=>by
        obtain⟨u1,u2,u3,u4⟩:=Bn g (k+1) (g.ρ r) es.length true (some b) g.S;exact⟨u3,u2,al,.inr ⟨b,cap,E,vs,u1.trans b1,u4,b3,b4,b5,b6.mono Jf (fun _ h=>h) (fun _ h=>h.elim),b7⟩⟩)
       refine⟨_,_,fin _ _ _ m1 m2 ?_,hk⟩;rw[hv,b1,hn];exact .msl _ (k+1) es.length _ cap (by grind [L,A0]) (by simp[D.upd]) (by simp[D.upd]) (.inr ⟨b,rfl⟩) (fun _=>by simp[D.upd])
     simp_all
  simp_all
 simp_all
theorem vw(hS:SR N ds w0 g0 h0 st g a w){o k j:Nat}{K:(Nat->HO)->Prop}(hk:amK st.h o k j K):∃h' g',SR N ds w0 g0 h0 ⟨st.t,h'⟩ g' a w/\K h':=by
 unfold amK at hk;split at hk
 .rename_i cs e0;split at hk
  .rename_i r n e1;split at hk
   .rename_i sz es e2;split at hk
    .rename_i hf;obtain⟨hn,hk⟩:=hk;have ho:=hS.inv.objs r;rw[e2]at ho;obtain⟨t1,l1,al,a2⟩:=ho;have hl:(st.h r).live:=by rw[e2];trivial
     have ER:j≠r:=fun e=>by simp_all
     have yr:o≠r:=fun e=>by simp_all
     have wO:o≠j:=fun e=>by simp_all
     -- the array goes to the new id,which stands for the same slice
     have step:∃g1,CZ w0 g0 h0 (AJ (AJ st.h r .dead) j (.arr sz es)) g1 w/\Le st.h g w (AJ (AJ st.h r .dead) j (.arr sz es)) g1 w/\g1.tk j=true/\g1.ln j=es.length/\g1.ρ j=g.ρ r:=by
      rcases a2 with ⟨b1,b2,b3⟩ | ⟨b,cap,E,vs,b1,b2,b3,b4,b5,b6,b7⟩
      .subst b1
       obtain⟨k1,k2⟩:=hS.inv.upd r .dead (g.ρ r) (g.ln r) (g.tk r) (g.own r) g.S w none ⟨rfl,rfl,rfl,Ao _⟩ (fun _ _ _=>rfl) (fun b e=>by cases e) (fun _ _ h=>h) (fun _ _ h=>.inl h) (fun b o e=>by cases e) (fun b hh _=>by cases hh) aa1
        (fun _=>⟨rfl,Ao _,fun _=>rfl,fun _=>rfl⟩) (fun _ _=>trivial)
       have hf1:AJ st.h r .dead j=.free:=by grind [BQ]
       obtain⟨m1,m2⟩:=k1.upd j (.arr sz []) (.slice none 0 0) 0 true none (g.upd r (g.ρ r) (g.ln r) (g.tk r) (g.own r) g.S).S w none ⟨rfl,rfl,rfl,Ao _⟩ (fun _ _ _=>rfl) (fun b e=>by cases e) (fun _ _ h=>h) (fun _ _ h=>.inl h) (fun b o e=>by cases e) (fun b _ e=>by cases e) aa1
        (fun hu=>absurd hf1 hu) (fun _ _=>by
         obtain⟨u1,u2,u3,u4⟩:=Bn (g.upd r (g.ρ r) (g.ln r) (g.tk r) (g.own r) g.S) j (.slice none 0 0) 0 true none (g.upd r (g.ρ r) (g.ln r) (g.tk r) (g.own r) g.S).S;exact⟨u3,u2,by simp,.inl ⟨rfl,u1,u4⟩⟩)
       exact⟨_,m1,k2.trans m2,by simp[D.upd],by simp[D.upd],by simp[D.upd,b2]⟩
      .obtain⟨m1,m2⟩:=hS.inv.move r j ER hf hl b2 (.arr sz es) (g.ρ r) es.length true aa1 (fun Jf=>by
        obtain⟨u1,u2,u3,u4⟩:=Bn g j (g.ρ r) es.length true (some b) g.S;exact⟨u3,u2,al,.inr ⟨b,cap,E,vs,u1.trans b1,u4,b3,b4,b5,b6.mono Jf (fun _ h=>h) (fun _ h=>h.elim),b7⟩⟩)
       exact⟨_,m1,m2,by simp[D.upd],by simp[D.upd],by simp[D.upd]⟩
     obtain⟨g1,i1,i2,j1,j2,j3⟩:=step
     -- the cell
     have ho:=hS.inv.objs o;rw[e0]at ho;have ho1:=i1.objs o;rw[BQ _ _ _ _ wO,BQ _ _ _ _ yr,e0]at ho1;obtain⟨t2,b,E,vs,c1,c2,c3,c4,c5⟩:=ho1;obtain⟨_,b',E',lX,qZ,c2',c3',c4',_⟩:=ho;have hb:b'=b:=by
      have h2:=i2.gh o (by grind [L]);simp_all
     subst hb;rw[c3]at c3';cases c3';have kb:(AJ (AJ st.h r .dead) j (.arr sz es) o).live:=by rw[BQ _ _ _ _ wO,BQ _ _ _ _ yr,e0];trivial
     have Xj:=Vp cs k _ _ e1
     obtain⟨k1,k2⟩:=i1.upd o (.cells (E2 cs k (.msl j n))) (g1.ρ o) (g1.ln o) (g1.tk o) (g1.own o) g1.S w none ⟨rfl,rfl,rfl,Ao _⟩ (fun _ _ _=>rfl) (fun b e=>by cases e) (fun _ _ h=>h) (fun _ _ h=>.inl h)
      (fun b o e=>by cases e) (fun b' _ e=>⟨(i1.loc o b' kb e).1,.inl ⟨kb,e⟩⟩) aa1 (fun _=>⟨rfl,Ao _,fun _=>rfl,fun _=>rfl⟩) (fun hg cY=>by
       obtain⟨u1,u2,u3,u4⟩:=Bn g1 o (g1.ρ o) (g1.ln o) (g1.tk o) (g1.own o) g1.S;have Oa:∀i,L (AJ (AJ st.h r .dead) j (.arr sz es)) i->L (AJ (AJ (AJ st.h r .dead) j (.arr sz es)) o (.cells (E2 cs k (.msl j n)))) i:=fun i hi=>DP aa1 i hi;refine⟨u3.trans t2,_,E,vs,u4.trans c1,u1.trans c2,c3,⟨by rw[Lr];exact c4.1,c4.2.1,fun i av x q1 q2=>?_⟩,c5⟩;rcases Lq cs k _ i av q1 with ⟨rfl,rfl⟩ | q
       .have hx:=c4'.2.2 i _ x Xj q2;have hm:O g1 w (L (AJ (AJ st.h r .dead) j (.arr sz es))) (.msl j n) x:=by
         grind [L,A0,cases O,O.msl]
        grind [O.mono]
       .exact(c4.2.2 i av x q q2).mono cY Oa hg)
     exact⟨_,_,⟨k1,hS.le.trans (i2.trans k2),hS.dfs,hS.size,fun i=>(hS.slots i).le (i2.trans k2)⟩,hk⟩
    .exact hk.elim
   simp_all
  simp_all
 .exact hk.elim
theorem PO{h:Nat->HO}(hI:CZ w0 g0 h0 h g w){o k:Nat}{cs:List AV}(e0:h o=.cells cs){old new:AV}(hk:cs[k]?=some old)(EB:∀x:Value,O g w (L h) old x->O g w (L h) new x) :
  ∃g',CZ w0 g0 h0 (AJ h o (.cells (E2 cs k new))) g' w/\Le h g w (AJ h o (.cells (E2 cs k new))) g' w:=by
 have ho:=hI.objs o;rw[e0]at ho;obtain⟨t1,b,E,vs,a1,a2,a3,a4,a5⟩:=ho;have hl:(h o).live:=by rw[e0];trivial
 obtain⟨k1,k2⟩:=hI.upd o (.cells (E2 cs k new)) (g.ρ o) (g.ln o) (g.tk o) (g.own o) g.S w none ⟨rfl,rfl,rfl,Ao _⟩ (fun _ _ _=>rfl) (fun b e=>by cases e) (fun _ _ h=>h) (fun _ _ h=>.inl h)
  (fun b o e=>by cases e) (fun b' _ e=>⟨(hI.loc o b' hl e).1,.inl ⟨hl,e⟩⟩) aa1 (fun _=>⟨rfl,Ao _,fun _=>rfl,fun _=>rfl⟩) (fun hg cY=>by
   obtain⟨u1,u2,u3,u4⟩:=Bn g o (g.ρ o) (g.ln o) (g.tk o) (g.own o) g.S;have Oa:∀i,L h i->L (AJ h o (.cells (E2 cs k new))) i:=fun i hi=>DP aa1 i hi;refine⟨u3.trans t1,b,E,vs,u4.trans a1,u1.trans a2,a3,⟨by rw[Lr];exact a4.1,a4.2.1,fun i av x q1 q2=>?_⟩,a5⟩;rcases Lq cs k _ i av q1 with ⟨rfl,rfl⟩ | q
   .exact(EB x (a4.2.2 i _ x hk q2)).mono cY Oa hg
   .exact(a4.2.2 i av x q q2).mono cY Oa hg)
 exact⟨_,k1,k2⟩
theorem JW:∀(cs:List AV) (k:Nat) (a:AV),Ke cs k=a->a≠.junk->cs[k]?=some a
 | [],_,a,h,hn=>by grind [Ke]
 |_::_,0,_,h,_=>by grind [Ke]
 |_::cs,k+1,a,h,hn=>by unfold Ke at h;simpa using JW cs k a h hn
theorem CZ.moveV{h:Nat->HO}(hI:CZ w0 g0 h0 h g w)(r r2 v:Nat)(ER:r2≠r)(hf:h r2=.vox v)(hl:(h r).live)(o' : HO)(x:Value)(n:Nat)(hv:v<n)(hn:o'≠.free)
  (Mt:Fg g w (g.upd r2 x n true (g.own r) g.S) w->D6 (g.upd r2 x n true (g.own r) g.S) w (L (AJ (AJ h r .dead) r2 o')) r2 o') :
  CZ w0 g0 h0 (AJ (AJ h r .dead) r2 o') (g.upd r2 x n true (g.own r) g.S) w/\Le h g w (AJ (AJ h r .dead) r2 o') (g.upd r2 x n true (g.own r) g.S) w:=by
 have eT:=hI.objs r2;rw[hf]at eT;obtain⟨ht2,kb⟩:=eT;have nA:KK g (g.upd r2 x n true (g.own r) g.S) (L h):=by
  intro i hi
  grind [D.upd]
 have hK:Fg g w (g.upd r2 x n true (g.own r) g.S) w:=fun b o hb=>⟨hb,rfl,fun _ _ h=>h⟩;have Oa:∀i,L h i->L (AJ (AJ h r .dead) r2 o') i:=fun i hi=>DP hn i (DP aa1 i hi);have key:∀i,i≠r2->(AJ (AJ h r .dead) r2 o' i).live->i≠r/\(h i).live:=fun i h2 hl=>by
  rw[BQ _ _ _ _ h2]at hl
  by_cases e:i=r
  .subst e;rw[A0]at hl;exact hl.elim
  grind [BQ]
 have own:∀i,i≠r2->(g.upd r2 x n true (g.own r) g.S).own i=g.own i:=fun i e=>by simp[D.upd,e]
 have pi:(g.upd r2 x n true (g.own r) g.S).own r2=g.own r:=by simp[D.upd]
 refine⟨⟨hI.os,hI.tape,hI.output,hI.size,hI.frame,hI.slt,fun i=>?_,fun i j c hi hj ei ej=>?_,fun i c hi ei=>?_,hI.sg,hI.glob.keep hK⟩,nA,Oa,hK⟩
 .by_cases e:i=r2
  .grind [A0]
  .rw[BQ _ _ _ _ e]
   by_cases e1:i=r
   .subst e1;rw[A0];trivial
   .rw[BQ _ _ _ _ e1];exact(hI.objs i).same hK Oa nA (by simp[D.upd,e]) (by simp[D.upd,e]) (by simp[D.upd,e]) aa0 (fun b hl hb=>⟨rfl,fun k hk=>hk⟩)
 .grind [CZ.inj]
 .by_cases e1:i=r2
  .subst e1;rw[pi]at ei;exact hI.loc r _ hl ei
  .rw[own i e1]at ei;exact hI.loc i c (key i e1 hi).2 ei
theorem xR(hS:SR N ds w0 g0 h0 st g a w){o k d:Nat}{K:(Nat->HO)->Prop}(hk:uvK st.h o k d K):∃h' g',SR N ds w0 g0 h0 ⟨st.t,h'⟩ g' a w/\K h':=by
 unfold uvK at hk;split at hk
 .rename_i cs e0;split at hk
  .rename_i r sz v es e1;split at hk
   .rename_i H9 v' n e2;split at hk
    .rename_i hf;obtain⟨⟨rfl,rfl⟩,hk⟩:=hk;have ho:=hS.inv.objs r;rw[e2]at ho;obtain⟨t1,l1,a0,cap,r1,a2⟩:=ho;have hl:(st.h r).live:=by rw[e2];trivial
     have ER:d≠r:=fun e=>by simp_all
     have yr:o≠r:=fun e=>by simp_all
     have hod:o≠d:=fun e=>by simp_all
     have Xj:=JW cs k _ e1 aa1
     -- the value that stands in the cell
     have hoc:=hS.inv.objs o;rw[e0]at hoc;obtain⟨_,b',E',lX,c1,c2,c3,c4,_⟩:=hoc;obtain⟨x,hx1,_,hx2⟩:=c4.at Xj;have oe:x=.slice a0 n cap/\es.length=n/\O g w FK (.slice .none es) x/\∀c∈es,c.length=sz:=by
      grind [O.slice_none,cases O]
     obtain⟨hxe,hn,hx3,sa⟩:=oe;subst hn;obtain⟨m1,m2⟩:=hS.inv.moveO r d ER hf hl (ob:=g.own r) (fun c h=>h) (.tok sz es.length) (.slice a0 es.length cap) es.length true aa1 (fun Jf=>by
      obtain⟨u1,u2,u3,u4⟩:=Bn g d (.slice a0 es.length cap) es.length true (g.own r) g.S;refine⟨u3,u2,a0,cap,u1,?_⟩;rw[u4];exact a2)
     generalize gX:g.upd d (.slice a0 es.length cap) es.length true (g.own r) g.S=g1 at m1 m2;have gr:g1.tk r=true/\g1.ln r=v:=by grind [D.upd]
     have gd:g1.tk d=true/\g1.ln d=es.length/\g1.ρ d=.slice a0 es.length cap:=by grind [D.upd]
     -- the id keeps its version
     have hrd:(AJ (AJ st.h r .dead) d (.tok sz es.length)) r=.dead:=by grind [BQ,A0]
     obtain⟨n1,n2⟩:=m1.upd r (.vox v) (g1.ρ r) (g1.ln r) (g1.tk r) (g1.own r) g1.S w none ⟨rfl,rfl,rfl,Ao _⟩ (fun _ _ _=>rfl) (fun b e=>by cases e) (fun _ _ h=>h) (fun _ _ h=>.inl h) (fun b o e=>by cases e) (fun b hh _=>by cases hh) aa1
      (fun _=>⟨rfl,Ao _,fun _=>rfl,fun _=>rfl⟩) (fun _ _=>by
       obtain⟨u1,u2,u3,u4⟩:=Bn g1 r (g1.ρ r) (g1.ln r) (g1.tk r) (g1.own r) g1.S;exact⟨u3.trans gr.1,u2.trans gr.2⟩)
     have hh:AJ (AJ (AJ st.h r .dead) d (.tok sz es.length)) r (.vox v)=AJ (AJ st.h r (.vox v)) d (.tok sz es.length):=by
      grind [AJ,DY]
     rw[hh]at n1 n2;generalize wI:g1.upd r (g1.ρ r) (g1.ln r) (g1.tk r) (g1.own r) g1.S=g2 at n1 n2;have gd2:g2.tk d=true/\g2.ln d=es.length/\g2.ρ d=.slice a0 es.length cap:=by grind [D.upd]
     have wi : (AJ (AJ st.h r (.vox v)) d (.tok sz es.length)) o=.cells cs:=by grind [BQ]
     have L2:=m2.trans n2;have AkX:g2.ρ o=g.ρ o:=(L2.gh o (by grind [L])).2.2.1 (by assumption);obtain⟨g3,p1,p2⟩:=PO n1 wi Xj (new:=.slice (.id d sz) es) (fun y hy=>by
      grind [D.upd,L,A0,cases O,O.tok])
     exact⟨_,g3,⟨p1,hS.le.trans (L2.trans p2),hS.dfs,hS.size,fun i=>(hS.slots i).le (L2.trans p2)⟩,hk⟩
    simp_all
   simp_all
  .exact⟨_,g,hS,hk⟩
 simp_all
theorem pQ(hS:SR N ds w0 g0 h0 st g a w){o k r:Nat}{K:(Nat->HO)->Prop}(hk:rvK st.h o k r K):∃h' g',SR N ds w0 g0 h0 ⟨st.t,h'⟩ g' a w/\K h':=by
 unfold rvK at hk;split at hk
 .rename_i cs e0;split at hk
  .rename_i d sz es e1;split at hk
   .rename_i H9 n e2;split at hk
    .rename_i v hf;obtain⟨⟨hn,rfl⟩,hk⟩:=hk;subst hn;have ho:=hS.inv.objs d;rw[e2]at ho;obtain⟨t1,l1,a0,cap,r1,a2⟩:=ho;have hl:(st.h d).live:=by rw[e2];trivial
     have ER:r≠d:=fun e=>by simp_all
     have hod:o≠d:=fun e=>by simp_all
     have yr:o≠r:=fun e=>by simp_all
     have Xj:=JW cs k _ e1 aa1;obtain⟨m1,m2⟩:=hS.inv.moveV d r v ER hf hl (.var sz (v+1) es.length) (.slice a0 es.length cap) (v+1) (Nat.lt_succ_self v) aa1 (fun Jf=>by
      obtain⟨u1,u2,u3,u4⟩:=Bn g r (.slice a0 es.length cap) (v+1) true (g.own d) g.S;refine⟨u3,u2,a0,cap,u1,?_⟩;rw[u4];exact a2)
     generalize gX:g.upd r (.slice a0 es.length cap) (v+1) true (g.own d) g.S=g1 at m1 m2;have gr:g1.tk r=true/\g1.ln r=v+1/\g1.ρ r=.slice a0 es.length cap:=by grind [D.upd]
     have gd:g1.ln d=es.length/\g1.ρ d=.slice a0 es.length cap:=by grind [D.upd]
     have wi : (AJ (AJ st.h d .dead) r (.var sz (v+1) es.length)) o=.cells cs:=by grind [BQ]
     obtain⟨g3,p1,p2⟩:=PO m1 wi Xj (new:=.slice (.ver r sz (v+1)) es) (fun y hy=>by
      grind [L,A0,cases O,O.ver])
     exact⟨_,g3,⟨p1,hS.le.trans (m2.trans p2),hS.dfs,hS.size,fun i=>(hS.slots i).le (m2.trans p2)⟩,hk⟩
    simp_all
   simp_all
  .exact⟨_,g,hS,hk⟩
 simp_all
theorem xn(hS:SR N ds w0 g0 h0 st g a w){r:Nat}{K:(Nat->HO)->Prop}(hk:nvK st.h r K):∃h' g',SR N ds w0 g0 h0 ⟨st.t,h'⟩ g' a w/\K h':=by
 unfold nvK at hk;split at hk
 .rename_i hf
  obtain⟨m1,m2⟩:=hS.inv.upd r (.vox 0) (.slice none 0 0) 0 true none g.S w none ⟨rfl,rfl,rfl,Ao _⟩ (fun _ _ _=>rfl) (fun b e=>by cases e) (fun _ _ h=>h) (fun _ _ h=>.inl h) (fun b o e=>by cases e) (fun b hh _=>by cases hh) aa1
   (fun hu=>absurd hf hu) (fun _ _=>by
    obtain⟨u1,u2,u3,u4⟩:=Bn g r (.slice none 0 0) 0 true none g.S;exact⟨u3,u2⟩)
  exact⟨_,_,⟨m1,hS.le.trans m2,hS.dfs,hS.size,fun i=>(hS.slots i).le m2⟩,hk⟩
 simp_all
theorem pK(hS:SR N ds w0 g0 h0 st g a w){o k:Nat}{K:(Nat->HO)->Prop}(hk:rmK st.h o k K):∃h' g',SR N ds w0 g0 h0 ⟨st.t,h'⟩ g' a w/\K h':=by
 unfold rmK at hk;split at hk
 .rename_i cs e0;split at hk
  .rename_i r e1;split at hk
   .rename_i sh BZ e2;have Xj:=JW cs k _ e1 aa1;obtain⟨g3,p1,p2⟩:=PO hS.inv e0 Xj (new:=.cmap sh BZ) (fun y hy=>by
     have e3:rsv st.h (.mref r)=.cmap sh BZ:=by
      show(match st.h r with | .rom sh BZ=>AV.cmap sh BZ | _=>.mref r)=_;rw[e2]
     rw[<-e3];exact O.rsv hS.inv.objs hy)
    exact⟨_,g3,⟨p1,hS.le.trans p2,hS.dfs,hS.size,fun i=>(hS.slots i).le p2⟩,hk⟩
   simp_all
  simp_all
 simp_all
theorem xZ(hS:SR N ds w0 g0 h0 st g a w){o k j sz:Nat}{K:(Nat->HO)->Prop}(hk:zaK st.h o k j sz K):∃h' g',SR N ds w0 g0 h0 ⟨st.t,h'⟩ g' a w/\K h':=by
 unfold zaK at hk;split at hk
 .rename_i cs e0;split at hk
  .rename_i e1;split at hk
   .rename_i hf;have yr:o≠j:=fun e=>by simp_all
    have Xj:=JW cs k _ e1 aa1
    obtain⟨m1,m2⟩:=hS.inv.upd j (.arr sz []) (.slice none 0 0) 0 true none g.S w none ⟨rfl,rfl,rfl,Ao _⟩ (fun _ _ _=>rfl) (fun b e=>by cases e) (fun _ _ h=>h) (fun _ _ h=>.inl h) (fun b o e=>by cases e) (fun b hh e=>by simp_all) aa1
     (fun hu=>absurd hf hu) (fun _ _=>by
      obtain⟨u1,u2,u3,u4⟩:=Bn g j (.slice none 0 0) 0 true none g.S;exact⟨u3,u2,(fun cs hc=>by cases hc),.inl ⟨rfl,u1,u4⟩⟩)
    generalize gX:g.upd j (.slice none 0 0) 0 true none g.S=g1 at m1 m2;have gr:g1.tk j=true/\g1.ln j=0/\g1.ρ j=.slice none 0 0:=by grind [D.upd]
    have wi : (AJ st.h j (.arr sz [])) o=.cells cs:=by grind [BQ]
    obtain⟨g3,p1,p2⟩:=PO m1 wi Xj (new:=.msl j 0) (fun y hy=>by
     grind [L,A0,cases O,O.msl])
    exact⟨_,g3,⟨p1,hS.le.trans (m2.trans p2),hS.dfs,hS.size,fun i=>(hS.slots i).le (m2.trans p2)⟩,hk⟩
   simp_all
  simp_all
 simp_all
theorem mF{id:Nat}(hS:SR N ds w0 g0 h0 st g a w){K:(Nat->HO)->Prop}(hk:fz0 cx id st.h fun h=>rm0 cx id h fun h=>rm1 cx id h fun h=>yE cx id h K):∃h' g',SR N ds w0 g0 h0 ⟨st.t,h'⟩ g' a w/\K h':=by
 have h1:∃h' g',SR N ds w0 g0 h0 ⟨st.t,h'⟩ g' a w/\rm0 cx id h' fun h=>rm1 cx id h fun h=>yE cx id h K:=by
  unfold fz0 at hk;split at hk
  .obtain⟨g',i1,i2⟩:=gL hS.inv _;exact⟨_,g',⟨i1,hS.le.trans i2,hS.dfs,hS.size,fun i=>(hS.slots i).le i2⟩,hk⟩
  .exact⟨_,g,hS,hk⟩
 obtain⟨h1,g1,S1,hk⟩:=h1;have h2:∃h' g',SR N ds w0 g0 h0 ⟨st.t,h'⟩ g' a w/\rm1 cx id h' fun h=>yE cx id h K:=by
  unfold rm0 at hk;split at hk
  .exact pK S1 hk
  grind
 obtain⟨h2,g2,S2,hk⟩:=h2;have h3:∃h' g',SR N ds w0 g0 h0 ⟨st.t,h'⟩ g' a w/\yE cx id h' K:=by
  unfold rm1 at hk;split at hk
  .exact pK S2 hk
  grind
 obtain⟨h3,g3,S3,hk⟩:=h3;unfold yE at hk;split at hk
 .exact xZ S3 hk
 grind
theorem wN(hS:SR N ds w0 g0 h0 st g a w){r:Nat}{K:(Nat->HO)->Prop}(hk:hoK st.h r K):∃h' g',SR N ds w0 g0 h0 ⟨st.t,h'⟩ g' a w/\K h':=by
 unfold hoK at hk;split at hk
 .rename_i sz es i c j m er;split at hk
  .simp_all
  .rename_i hb;have ER:r≠j:=fun e=>by simp_all
   split at hk
   .rename_i iR qs ej;obtain⟨hm,cs,hi,hc,hk⟩:=hk;have ho:=hS.inv.objs r;rw[er]at ho;obtain⟨t1,l1,al,b,cap,E,vs,e1,e2,e3,e4,e5,e6,e7,e8,x,e9,W6⟩:=ho;obtain⟨g1,i1,i2,i3,i4⟩:=Yf hS.inv ej;have od:x=g.ρ j:=by
     grind [cases O]
    obtain⟨k1,k2⟩:=i1.upd j .dead (g1.ρ j) (g1.ln j) (g1.tk j) (g1.own j) g1.S w none ⟨rfl,rfl,rfl,Ao _⟩ (fun _ _ _=>rfl) (fun b e=>by cases e) (fun _ _ h=>h) (fun _ _ h=>.inl h) (fun b o e=>by cases e) (fun b hh _=>by cases hh) aa1
     (fun _=>⟨rfl,Ao _,fun _=>rfl,fun _=>rfl⟩) (fun _ _=>trivial)
    generalize wI:g1.upd j (g1.ρ j) (g1.ln j) (g1.tk j) (g1.own j) g1.S=g2 at k1 k2;have EB:O g2 w FK (.slice .none qs) x:=by rw[od];exact i3.slice_none.mono k2.keeps (fun _ h=>h) (fun _ h=>h.elim)
    have er2:AJ (AJ st.h j (.tok iR qs.length)) j .dead r=.hol sz es i c (.msl j m):=by grind [BQ]
    have ho2:=k1.objs r;rw[er2]at ho2;obtain⟨t1',l1',al',b',N7,E',lX,f1,f2,f3,f4,f5,f6,f7,f8,x',f9,f10⟩:=ho2;have hl:(AJ (AJ st.h j (.tok iR qs.length)) j .dead r).live:=by rw[er2];trivial
    have hρ:g2.ρ r=g.ρ r:=by
     have q1:=(i2.trans k2).gh r (by grind [L]);simp_all
    have ib:lX=vs:=by
     simp_all
    subst ib;have hxx:x'=x:=aa0
    subst hxx;have E4:=(Bg.1 hi).1;have hcl:=al' cs (AA hi);have hfl:=MN al' hi c [AV.slice .none qs] aa2;have CN:es.flatten.length=es.length*sz:=Dx al'
    obtain⟨m1,m2⟩:=k1.upd r (.arr sz (es.set i (over cs c [.slice .none qs]))) (g2.ρ r) (g2.ln r) (g2.tk r) (g2.own r) g2.S w none ⟨rfl,rfl,rfl,Ao _⟩ (fun _ _ _=>rfl) (fun b e=>by cases e) (fun _ _ h=>h) (fun _ _ h=>.inl h)
     (fun b o e=>by cases e) (fun b' _ e=>⟨(k1.loc r b' hl e).1,.inl ⟨hl,e⟩⟩) aa1 (fun _=>⟨rfl,Ao _,fun _=>rfl,fun _=>rfl⟩) (fun hg Jf=>by
      obtain⟨u1,u2,u3,u4⟩:=Bn g2 r (g2.ρ r) (g2.ln r) (g2.tk r) (g2.own r) g2.S;refine⟨u3.trans t1',u2.trans aa0,fun d hd=>?_,.inr ⟨b',N7,E',lX,by simp_all,u4.trans f2,by simp_all,f4,f5,?_,f7⟩⟩
      .grind [Gm]
      .rw[hfl,WF];refine⟨by rw[Gm];simp_all,f6.2.1,fun p av y q1 q2=>?_⟩;rw[G0 _ _ _ _ aa2]at q1;split at q1
       .rename_i hp;have hp0:p=i*sz+c:=aa2
        subst hp0;rw[Jj]at q1;cases q1
        have:y=x':=by
         grind
        rw[this];exact EB.mono Jf (fun _ h=>h) (fun _ h=>h.elim)
       .exact(f6.2.2 p av y q1 q2).mono Jf (fun _ h=>h) (fun _ h=>h.elim))
    exact⟨_,_,⟨m1,hS.le.trans ((i2.trans k2).trans m2),hS.dfs,hS.size,fun i=>((hS.slots i).le (i2.trans k2)).le m2⟩,hk⟩
   simp_all
 simp_all
theorem tY{id:Nat}(hS:SR N ds w0 g0 h0 st g a w){K:(Nat->HO)->Prop}(hk:xS cx id st.h K):∃h' g',SR N ds w0 g0 h0 ⟨st.t,h'⟩ g' a w/\K h':=by
 unfold xS at hk;split at hk
 .grind [xR]
 .split at hk
  .grind [pQ]
  .split at hk
   .grind [xn]
   .split at hk
    .grind [wN]
    .exact mF hS hk
theorem vB(hS:SR N ds w0 g0 h0 st g a w){o k:Nat}{K:(Nat->HO)->Prop}(hk:azK st.h o k K):∃h' g',SR N ds w0 g0 h0 ⟨st.t,h'⟩ g' a w/\K h':=by
 have same:K st.h->∃h' g',SR N ds w0 g0 h0 ⟨st.t,h'⟩ g' a w/\K h':=fun hk=>⟨st.h,g,hS,hk⟩;unfold azK at hk;split at hk
 .rename_i cs e0;split at hk
  .rename_i r n e1;split at hk
   .rename_i sz es e2;obtain⟨rfl,hk⟩:=hk;have ER:o≠r:=fun e=>by simp_all
    obtain⟨g1,i1,i2,i3,i4⟩:=Yf hS.inv e2;have ho:=i1.objs o;rw[BQ _ _ _ _ ER,e0]at ho;obtain⟨t1,b,E,vs,a1,a2,a3,a4,a5⟩:=ho;have hl:(AJ st.h r (.tok sz es.length) o).live:=by rw[BQ _ _ _ _ ER,e0];trivial
    have Xj:=Vp cs k _ _ e1;have eI:=hS.inv.objs o;rw[e0]at eI;obtain⟨_,b',E',lX,a1',a2',a3',a4',_⟩:=eI
    obtain⟨k1,k2⟩:=i1.upd o (.cells (E2 cs k (.slice (.id r sz) es))) (g1.ρ o) (g1.ln o) (g1.tk o) (g1.own o) g1.S w none ⟨rfl,rfl,rfl,Ao _⟩ (fun _ _ _=>rfl) (fun b e=>by cases e) (fun _ _ h=>h) (fun _ _ h=>.inl h)
     (fun b o e=>by cases e) (fun b' _ e=>⟨(i1.loc o b' hl e).1,.inl ⟨hl,e⟩⟩) aa1 (fun _=>⟨rfl,Ao _,fun _=>rfl,fun _=>rfl⟩) (fun hg Jf=>by
      obtain⟨u1,u2,u3,u4⟩:=Bn g1 o (g1.ρ o) (g1.ln o) (g1.tk o) (g1.own o) g1.S;have Oa:∀i,L (AJ st.h r (.tok sz es.length)) i->L (AJ (AJ st.h r (.tok sz es.length)) o (.cells (E2 cs k (.slice (.id r sz) es)))) i:=fun i hi=>DP aa1 i hi;refine⟨u3.trans t1,b,E,vs,u4.trans a1,u1.trans a2,a3,⟨by rw[Lr];exact a4.1,a4.2.1,fun i av x q1 q2=>?_⟩,a5⟩;rcases Lq cs k _ i av q1 with ⟨rfl,rfl⟩ | q
      .have hx:=a4.2.2 i _ x Xj q2;have od:x=g.ρ r:=by
        have gX:=i2.gh o (by grind [L]);have ib:vs=lX:=by
         simp_all
        subst ib
        have:=a4'.2.2 i _ x Xj q2
        grind [cases O]
       grind [O.mono]
      .exact(a4.2.2 i av x q q2).mono Jf Oa hg)
    exact⟨_,_,⟨k1,hS.le.trans (i2.trans k2),hS.dfs,hS.size,fun i=>((hS.slots i).le i2).le k2⟩,hk⟩
   simp_all
  simp_all
 simp_all
theorem vu{K:St->Prop}(hS:SR N ds w0 g0 h0 st g a w)(hk:akK cx o st K):∃EQ g',SR N ds w0 g0 h0 EQ g' a w/\K EQ:=by
 have same:K st->∃EQ g',SR N ds w0 g0 h0 EQ g' a w/\K EQ:=fun hk=>⟨st,g,hS,hk⟩;unfold akK at hk;split at hk
 .simp_all
 .split at hk
  .simp_all
  .rename_i s _;split at hk
   .rename_i r n ht;split at hk
    .rename_i sz es hr;obtain⟨hn,hk⟩:=hk;subst hn;have hI:=hS.inv;have ho:=hI.objs r;rw[hr]at ho;obtain⟨t1,l1,al,a2⟩:=ho;have hl:(st.h r).live:=by rw[hr];trivial
     have Xk:=hS.slots s;rw[ht]at Xk;have hval:a.tmps.getD s undef=g.ρ r:=by
      grind [cases O]
     have fin:∀g',CZ w0 g0 h0 (AJ st.h r (.tok sz es.length)) g' w->Le st.h g w (AJ st.h r (.tok sz es.length)) g' w->O g' w (L (AJ st.h r (.tok sz es.length))) (.slice (.id r sz) es) (g.ρ r) ->
       ∃EQ g',SR N ds w0 g0 h0 EQ g' a w/\K EQ:=fun g' i1 i2 i3=>by
      refine⟨_,g',⟨i1,hS.le.trans i2,hS.dfs,hS.size,fun i=>?_⟩,hk⟩
      grind [Kl,DY,O.le,SR.slots]
     rcases a2 with ⟨b1,b2,b3⟩ | ⟨b,cap,E,vs,b1,b2,b3,b4,b5,b6,b7⟩
     .subst b1
      obtain⟨k1,k2⟩:=hI.upd r (.tok sz 0) (g.ρ r) (g.ln r) (g.tk r) (g.own r) g.S w none ⟨rfl,rfl,rfl,Ao _⟩ (fun _ _ _=>rfl) (fun b e=>by cases e) (fun _ _ h=>h) (fun _ _ h=>.inl h)
       (fun b o e=>by cases e) (fun b' _ e=>⟨(hI.loc r b' hl e).1,.inl ⟨hl,e⟩⟩) aa1 (fun _=>⟨rfl,Ao _,fun _=>rfl,fun _=>rfl⟩) (fun hg hk=>by
        obtain⟨u1,u2,u3,u4⟩:=Bn g r (g.ρ r) (g.ln r) (g.tk r) (g.own r) g.S;exact⟨u3.trans t1,u2.trans l1,none,0,u1.trans b2,.inl ⟨rfl,u4.trans b3⟩⟩)
      refine fin _ k1 k2 ?_;rw[b2];exact .tok _ r sz [] _ (.snil _ _ _) aa1 (by unfold L;rw[A0];simp) (by simp[D.upd,t1]) aa1 (fun _=>by simp[D.upd])
     .have E4:=(hI.loc r b hl b2).1
      obtain⟨k1,k2⟩:=hI.upd r (.tok sz es.length) (g.ρ r) (g.ln r) (g.tk r) (g.own r) (g.more b (es.length*sz)) w none ⟨rfl,rfl,rfl,Ao _⟩ (fun _ _ _=>rfl) (fun b e=>by cases e) (fun _ _ h=>.inl h)
       (fun b' o hs=>hs.elim .inl (fun hs=>.inr ⟨by omega,.inr ⟨hl,by simp_all⟩⟩)) (fun b o e=>by cases e) (fun b' _ e=>⟨(hI.loc r b' hl e).1,.inl ⟨hl,e⟩⟩) aa1
       (fun _=>⟨rfl,Ao _,fun _=>rfl,fun _=>rfl⟩) (fun hg hk=>by
        obtain⟨u1,u2,u3,u4⟩:=Bn g r (g.ρ r) (g.ln r) (g.tk r) (g.own r) (g.more b (es.length*sz));exact⟨u3.trans t1,u2.trans l1,_,cap,u1.trans b1,.inr ⟨b3,b,E,vs,0,rfl,u4.trans b2,.of b4,by omega,fun o ho=>by
         rcases ho with ho | ⟨_,ho⟩<;>simp_all⟩⟩)
      refine fin _ k1 k2 ?_;rw[b1];exact .tok _ r sz es _ (O.slice_row b4 al b3 (b6.mono k2.keeps (fun _ h=>h) (fun _ h=>h.elim)) (fun o ho=>.inr ⟨rfl,ho⟩)) al (by grind [L,A0]) (by grind [D.upd]) (by grind [D.upd]) (fun _=>by simp[D.upd])
    simp_all
   simp_all
variable {cx:Cx}(hP:cx.P=P)(hT:Cc P cx.T)(hY:∀l σ h g w,EE σ=true->CZ w0 g0 h0 h g w->Le h0 g0 w0 h g w->cx.yp l σ (D3 σ g) w){ro:Option Nat}{ops:Array Oper}
include hP hT hY
theorem TZ{dr:Bool}{o:Oper}(hd:∀i,o.dst=some i->i<N){K:St->Prop}{next:Act->World->Prop}{Q:Exit->Act->World->Prop}(hS:SR N ds w0 g0 h0 st g a w)(hk:Ju cx dr ops.toList o st K)
  (hn:∀EQ g' a' w',K EQ->SR N ds w0 g0 h0 EQ g' a' w'->next a' w'):if Region.wanted o (yielded ops a.tmps)then o.wpIn (Kq ro) 0 P a w next Q else next (a.put o.dst undef) w:=by
 have run:mg cx dr o st K->o.wpIn (Kq ro) 0 P a w next Q:=by
  intro hk;unfold mg at hk;split at hk
  .exact mh hP hY hT hS hk fun v h' g' w' x q1 q2 q3 q4=>hn _ g' _ _ q1 (hS.put hd q2 q3 q4)
  .obtain⟨g1,rT⟩:=pA (cx:=cx) (o:=o) hS;obtain⟨EQ,g',UJ,hk⟩:=vu rT hk;exact mh hP hY hT UJ hk fun v h' g' w' x q1 q2 q3 q4=>hn _ g' _ _ q1 (UJ.put hd q2 q3 q4)
 have skip:K (st.put o.dst (.v undef) st.h)->next (a.put o.dst undef) w:=fun hk=>hn _ g _ _ hk (hS.put hd hS.inv (.refl _ _ _) (.v _ _))
 unfold Ju at hk;split at hk
 .grind [Region.wanted]
 .rename_i j want hg;split at hk
  .simp_all
  .rename_i d hj;have hy:∀x:Value,O g w (L st.h) (st.t d) x->x=a.tmps.getD d undef->True:=fun _ _ _=>trivial;have hs:=hS.slots d;rw[XE]at hj;have key:∀b:Bool,a.tmps.getD d undef=.bool b->yielded ops a.tmps j=some b:=by
    intro b hb;have E4:d<a.tmps.size:=by
     apply Nat.lt_of_not_le;intro hge;rw[OB,Array.getElem?_eq_none hge]at hb;cases hb
    simp only[yielded,hj,Option.bind_some];simp_all
   have Alx:∀t,a.tmps.getD d undef=.tuple t->yielded ops a.tmps j=none:=by
    intro t hb;simp only[yielded,hj,Option.bind_some];cases he:a.tmps[d]?<;>simp_all
   grind [Region.wanted,O.v_eq]
theorem Yd{Q:Exit->Act->World->Prop}{K:St->Prop}(hQ:∀EQ g' a' w',K EQ->SR N ds w0 g0 h0 EQ g' a' w'->Q .normal a' w') :
  ∀(l:List Oper),(∀o∈l,∀i,o.dst=some i->i<N)->∀{st:St} {g:D} {a:Act} {w:World},SR N ds w0 g0 h0 st g a w->ZZ cx ops.toList l st K->wpListIn (Kq ro) 0 P ops Q l a w
 | [],_,st,g,a,w,hS,hk=>hQ st g a w hk hS
 | [o],hd,st,g,a,w,hS,hk=>by
  have:=TZ hP hT hY (ro:=ro) (hd o (Ah ..)) (next:=wpListIn (Kq ro) 0 P ops Q []) (Q:=Q) hS hk fun EQ g' a' w' q1 q2=>hQ EQ g' a' w' q1 q2
  unfold wpListIn;split
  .simp_all
  .rename_i hw;rw[AL hw]at this;exact⟨fun _ _=>trivial,this⟩
 |o::o2::l,hd,st,g,a,w,hS,hk=>by
  cases hc:bB o o2 with
  |true=>
   have hk:rm cx o st fun EQ=>ZZ cx ops.toList l EQ K:=by
    grind [ZZ]
   obtain⟨g1,g2,h1⟩:=rn hT (ro:=ro) (o2:=o2) (hd o (Ah ..)) hc hS hk (next:=wpListIn (Kq ro) 0 P ops Q l) (Q:=Q) fun EQ g' a' w' q1 q2=>Yd hQ l (fun o' ho'=>hd o' (Aj _ (Aj _ ho'))) q2 q1
   unfold wpListIn;rw[A1 (by grind [Region.wanted])];have e:(fun(a1:Act) (w1:World)=>o2.wpIn (Kq ro) 0 P a1 w1 (wpListIn (Kq ro) 0 P ops Q l) Q)=wpListIn (Kq ro) 0 P ops Q (o2::l):=by
    grind [wpListIn,Region.wanted]
   simp_all
  |false=>
   have hk:Ju cx false ops.toList o st fun EQ=>ZZ cx ops.toList (o2::l) EQ K:=by
    grind [ZZ]
   have:=TZ hP hT hY (ro:=ro) (hd o (Ah ..)) (next:=wpListIn (Kq ro) 0 P ops Q (o2::l)) (Q:=Q) hS hk fun EQ g' a' w' q1 q2=>Yd hQ (o2::l) (fun o' ho'=>hd o' (Aj _ ho')) q2 q1
   unfold wpListIn;split
   .simp_all
   .rename_i hw;rw[AL hw]at this;exact⟨fun _ _=>trivial,this⟩
theorem X7{Q:Exit->Act->World->Prop}{K:St->Prop}{FT:Nat->FH}(hQ:∀EQ g' a' w',K EQ->SR N ds w0 g0 h0 EQ g' a' w'->Q .normal a' w')(hd:∀(j:Nat) (o:Oper),ops[j]?=some o->∀i,o.dst=some i->i<N) :
  ∀(fuel:Nat) (listed:Array Bool) {st:St} {g:D} {a:Act} {w:World},SR N ds w0 g0 h0 st g a w->ZR cx ops FT K fuel listed st->wpAnyIn (Kq ro) 0 P .any ops Q fuel listed a w
 |0,_,st,g,a,w,hS,hk=>⟨hk.1,hQ st g a w hk.2 hS⟩
 |fuel+1,listed,st,g,a,w,hS,hk=>by
  refine⟨fun h0=>hQ st g a w (hk.1 h0) hS,fun i hi=>?_⟩;have h1:=hk.2 i hi;unfold yL at h1;unfold wpOpIn;cases ho:ops[i]? with
  |none=>rw[ho]at h1;exact X7 hQ hd fuel _ hS h1
  |some o=>
   rw[ho]at h1
   have:=TZ hP hT hY (ro:=ro) (hd i o ho) (next:=wpAnyIn (Kq ro) 0 P .any ops Q fuel (listed.setIfInBounds i true)) (Q:=Q) hS h1.2 fun EQ g' a' w' q1 q2=>X7 hQ hd fuel _ q2 q1
   dsimp only;split
   .simp_all
   .rename_i hw;rw[AL hw]at this;exact⟨fun _ _=>trivial,this⟩
end
theorem Fv{r:Nat}(e:Th h r=true):L h r:=by
 grind [Th,L]
theorem O.ids0{x:Value}(r:O g w U av x)(e:ids0 h av=true):O g w (L h) av x:=by
 cases r with
 |v=>exact .v _ _
 |junk=>exact .junk _ _
 |snil=>grind [snil]
 |slice _ es b off sz cap val hc hl DS EB=>exact .slice _ es b off sz cap val hc hl DS EB
 |tok _ r sz es x hs hl hu ht hn hx=>exact .tok _ r sz es x ((O.slice_none hs).up _) hl (Fv e) ht hn hx
 |ver _ r sz v es x hs hl hu ht hn hx=>exact .ver _ r sz v es x ((O.slice_none hs).up _) hl (Fv e) ht hn hx
 |full _ sz es x hs hl hx=>grind [full,O.slice_none,up]
 |msl _ r n a cap hu ht hn ha hx=>exact .msl _ r n a cap (Fv e) ht hn ha hx
 |agg=>cases e
 |tup=>cases e
 |cptr _ cs b off val DS EB=>exact .cptr _ cs b off val DS EB
 |ref _ r off b hu ht hx=>exact .ref _ r off b (Fv e) ht hx
 |eref _ r n sz i off b cap hu ht hn hx=>exact .eref _ r n sz i off b cap (Fv e) ht hn hx
 |mref _ r b hu ht hx=>exact .mref _ r b (Fv e) ht hx
 |cmap _ sh BZ b es ck hS hb hm hv=>grind [cmap]
 |clo=>cases e
theorem UY(e:bo h cs=true)(hi:cs[i]?=some av):ids0 h av=true:=by
 induction cs generalizing i<;>grind [bo]
theorem ol(e:sn h cs=true)(hi:cs[i]?=some av):UX h av=true:=by
 induction cs generalizing i<;>grind [sn]
theorem kj{BZ:List (Value×AV)}(e:SF h BZ=true){kv:Value×AV}(hi:BZ[i]?=some kv):UX h kv.2=true:=by
 induction BZ generalizing i<;>grind [SF]
theorem O.ids{x:Value}(r:O g w U av x)(e:UX h av=true):O g w (L h) av x:=by
 cases r with
 |agg _ cs vs hs h1 hr=>exact .agg _ cs vs hs h1 fun i av x q1 q2=>(hr i av x q1 q2).ids0 (UY e q1)
 |tup _ cs vs hs hr=>exact .tup _ cs vs hs fun i av x q1 q2=>(hr i av x q1 q2).ids0 (UY e q1)
 |clo _ f cs vs hs hr=>exact .clo _ f cs vs hs fun i av x q1 q2=>(hr i av x q1 q2).ids0 (UY e q1)
 |v=>exact .v _ _
 |junk=>exact .junk _ _
 |snil=>grind [snil]
 |slice _ es b off sz cap val hc hl DS EB=>exact .slice _ es b off sz cap val hc hl DS EB
 |tok _ r sz es x hs hl hu ht hn hx=>exact .tok _ r sz es x ((O.slice_none hs).up _) hl (Fv e) ht hn hx
 |ver _ r sz v es x hs hl hu ht hn hx=>exact .ver _ r sz v es x ((O.slice_none hs).up _) hl (Fv e) ht hn hx
 |full _ sz es x hs hl hx=>grind [full,O.slice_none,up]
 |msl _ r n a cap hu ht hn ha hx=>exact .msl _ r n a cap (Fv e) ht hn ha hx
 |cptr _ cs b off val DS EB=>exact .cptr _ cs b off val DS EB
 |ref _ r off b hu ht hx=>exact .ref _ r off b (Fv e) ht hx
 |eref _ r n sz i off b cap hu ht hn hx=>exact .eref _ r n sz i off b cap (Fv e) ht hn hx
 |mref _ r b hu ht hx=>exact .mref _ r b (Fv e) ht hx
 |cmap _ sh BZ b es ck hS hb hm hv=>grind [cmap]
theorem bG{st:St}{h:Nat->HO}:∀{l:List (Nat×AV)},leT st h l->∀i,Ur l i=.junk\/(st.t i=Ur l i/\UX h (Ur l i)=true)
 | [],_,i=>.inl rfl
 |(j,a)::l,⟨h1,h2⟩,i=>by
  unfold Ur
  by_cases e:i=j
  .simp_all
  .simp only[DY e,G7];exact bG h2 i
theorem bF{st:St}{h hb:Nat->HO}(hhb:∀j,hb j=.free\/(st.h j=hb j/\bn h (hb j)=true)):∀{l:List (Nat×HO)},leH st h l->∀i,Ai l hb i=.free\/(st.h i=Ai l hb i/\bn h (Ai l hb i)=true)
 | [],_,i=>hhb i
 |(j,a)::l,⟨h1,h2⟩,i=>by
  unfold Ai
  by_cases e:i=j
  .simp_all
  .simp only[DY e,G7];exact bF hhb h2 i
def Me(cx:Cx)(h0:Nat->HO):Prop:=match cx.ext with | false=>∀i,h0 i=.free | true=>∀i,h0 i≠.free->1000<=i/\i<2000
section
variable {P:Program}{N:Nat}{ds:List Deferred}{w0:World}{g0:D}{h0:Nat->HO}{st:St}{g:D}{a:Act}{w:World}{cx:Cx}
theorem SR.weaken(hE:Me cx h0)(hS:SR N ds w0 g0 h0 st g a w){s:LS}(JP:St.le cx st s):SR N ds w0 g0 h0 s.st g a w:=by
 obtain⟨h1,h2,h3,h4⟩:=JP;have hT:=bG h1;have hH:∀i,s.st.h i=.free\/(st.h i=s.st.h i/\bn s.st.h (s.st.h i)=true):=bF h3 h2;have MW:∀r,(s.st.h r).live->(st.h r).live:=fun r hl=>by
  rcases hH r with e | ⟨e,_⟩
  .rw[e]at hl;exact hl.elim
  simp_all
 have hI:=hS.inv;refine⟨⟨hI.os,hI.tape,hI.output,hI.size,hI.frame,hI.slt,fun r=>?_,fun r r' b l l'=>hI.inj r r' b (MW r l) (MW r' l'),fun r b l=>hI.loc r b (MW r l),hI.sg,hI.glob⟩,⟨hS.le.gh,fun i hi=>?_,hS.le.keeps⟩,hS.dfs,hS.size,fun i=>?_⟩
 .rcases hH r with e | ⟨e,e2⟩
  .rw[e];trivial
  .have ho:=hI.objs r;rw[e]at ho;generalize s.st.h r=o at ho e2;cases o with
   |cells cs=>
    obtain⟨t,b,E,vs,a1,a2,a3,a4,a5⟩:=ho;exact⟨t,b,E,vs,a1,a2,a3,⟨a4.1,a4.2.1,fun i av x q1 q2=>(a4.2.2 i av x q1 q2).ids (ol e2 q1)⟩,a5⟩
   |hol sz es i c av=>
    obtain⟨t,l,al,b,cap,E,vs,b1,b2,b3,b4,b5,b6,b7,b8,x,b9,Wa⟩:=ho;exact⟨t,l,al,b,cap,E,vs,b1,b2,b3,b4,b5,b6,b7,b8,x,b9,Wa.ids e2⟩
   |bld x=>
    obtain⟨t,b,p,v,a1,a2,a3,a4,a5,a6⟩:=ho;exact⟨t,b,p,v,a1,a2,a3,a4,a5.ids e2,a6⟩
   |mapU sh BZ=>
    obtain⟨t,b,es,ck,a1,a2,a3,a4,a5,a6⟩:=ho;exact⟨t,b,es,ck,a1,a2,a3,a4,fun i kv e q1 q2=>(a5 i kv e q1 q2).ids (kj e2 q1),a6⟩
   |_=>exact ho
 .have hu:=hS.le.us i hi;unfold Me at hE;split at hE
  .exact absurd (hE i) hi
  .rename_i hx;rw[hx]at h4;exact h4 i (hE i hi).1 (hE i hi).2 hu
 .show O g w (L s.st.h) (Ur s.t i) _;rcases hT i with e | ⟨e,e2⟩
  .grind [O.junk]
  .rw[<-e]at e2⊢;exact(hS.slots i).ids e2
def Ex.real:Ex->Exit
 |.normal=>.normal
 |.exit id=>.exit id
 |.ret=>.ret
def zy(N:Nat)(o:Oper):Bool:=match o.dst with | some d=>Nat.blt d N | none=>true
def EL(N:Nat):Code->Bool
 |.region _ ops _=>ops.toList.all (zy N)
 |.seq a b=>EL N a&&EL N b
 |.cond _ a b=>EL N a&&EL N b
 |.block _ c=>EL N c
 |.loop c=>EL N c
 |_=>true
theorem OH(hP:cx.P=P)(hT:Cc P cx.T)(hm:P.follows .mixedOrders=true)(hE:Me cx h0)(hY:∀l σ h g w,EE σ=true->CZ w0 g0 h0 h g w->Le h0 g0 w0 h g w->cx.yp l σ (D3 σ g) w)(ro:Option Nat):∀(c:Code),EL N c=true->∀{Qa:Ex->St->Prop} {Q:Exit->Act->World->Prop},
  (∀e st g a w,Qa e st->SR N ds w0 g0 h0 st g a w->Q e.real a w)->∀{st:St} {g:D} {a:Act} {w:World},SR N ds w0 g0 h0 st g a w->Rg cx c Qa st->c.wpIn (Kq ro) 0 P Q a w:=by
 intro c
 induction c with
 |skip=>intro _ Qa Q hQ st g a w hS hk;exact wpIn_skip (hQ .normal _ _ _ _ hk hS)
 |label l=>intro _ Qa Q hQ st g a w hS hk;exact wpIn_label (hQ .normal _ _ _ _ hk hS)
 |exit id=>intro _ Qa Q hQ st g a w hS hk;exact wpIn_exit (hQ (.exit id) _ _ _ _ hk hS)
 |ret=>intro _ Qa Q hQ st g a w hS hk;exact wpIn_ret (hQ .ret _ _ _ _ hk hS)
 |region id ops dr=>
  intro hc Qa Q hQ st g a w hS hk;have hd:∀o∈ops.toList,∀i,o.dst=some i->i<N:=fun o ho i hi=>by
   have:=(AS.1 hc) o ho
   grind [zy,Nat.blt_eq]
  have go:∀(st:St) (g:D) (hS:SR N ds w0 g0 h0 st g a w) (yb : Cx),yb.P=P->Cc P yb.T->yb.yp=cx.yp->Nu yb ops dr st (Qa .normal)->(Code.region id ops dr).wpIn (Kq ro) 0 P Q a w:=by
   intro st g hS yb hP hT hy hk;have hY:∀l σ h g w,EE σ=true->CZ w0 g0 h0 h g w->Le h0 g0 w0 h g w->yb.yp l σ (D3 σ g) w:=by rw[hy];exact hY
   unfold Nu at hk;split at hk
   .exact wpIn_region_list (Yd hP hT hY (fun EQ g' a' w' q1 q2=>hQ .normal _ _ _ _ q1 q2) ops.toList hd hS hk)
   .obtain⟨_,FT,hk⟩:=jd hk;obtain⟨i1,i2⟩:=hS.inv.heapEq (w':={ w with drawn:=w.drawn+1 }) ⟨rfl,rfl,rfl⟩ rfl;have UJ : SR N ds w0 g0 h0 st g a { w with drawn:=w.drawn+1 }:=⟨i1,hS.le.trans i2,hS.dfs,hS.size,fun i=>(hS.slots i).le i2⟩;exact wpIn_region_any hm (X7 hP hT hY (fun EQ g' a' w' q1 q2=>hQ .normal _ _ _ _ q1 q2) (fun j o ho=>hd o aa2) _ _ UJ hk)
  have go2:∀(st:St) (g:D) (hS:SR N ds w0 g0 h0 st g a w),(match cx.pl.dyn with | []=>Nu cx ops dr st (Qa .normal) | _=>∃n,Nu { cx with nid:=n } ops dr st (Qa .normal))->(Code.region id ops dr).wpIn (Kq ro) 0 P Q a w:=by
   grind
  unfold Rg zx at hk;split at hk
  .split at hk
   .split at hk
    .split at hk
     .obtain⟨h',g',UJ,s,h1,h2⟩:=tY hS hk;exact go2 s.st _ (UJ.weaken hE h1) h2
     .obtain⟨h',g',UJ,s,h1,h2⟩:=vw hS hk;exact go2 s.st _ (UJ.weaken hE h1) h2
    .obtain⟨EQ,g',UJ,s,h1,h2⟩:=vz hS hk;exact go2 s.st _ (UJ.weaken hE h1) h2
   .obtain⟨h',g',UJ,s,h1,h2⟩:=vB hS hk;exact go2 s.st _ (UJ.weaken hE h1) h2
  grind
 |seq x y ihx ihy=>
  intro hc Qa Q hQ st g a w hS hk;simp only[EL,Aq]at hc;refine wpIn_seq (ihx hc.1 (Qa:=fun e EQ=>match e with | .normal=>Rg cx y Qa EQ | e=>Qa e EQ) (fun e st g a w q hS=>?_) hS hk);cases e with
  |normal=>exact ihy hc.2 hQ hS q
  |exit id=>exact hQ (.exit id) _ _ _ _ q hS
  |ret=>exact hQ .ret _ _ _ _ q hS
 |cond c x y ihx ihy=>
  intro hc Qa Q hQ st g a w hS hk;simp only[EL,Aq]at hc;have hr:=hS.eval c
  grind [wpIn_cond_true,wpIn_cond_false,O.v_eq,Rg]
 |block id c ih=>
  intro hc Qa Q hQ st g a w hS hk;refine wpIn_block (ih hc (Qa:=fun e EQ=>match e with | .exit j=>(bif Nat.beq j id then Qa .normal EQ else Qa (.exit j) EQ) | e=>Qa e EQ) (fun e st g a w q hS=>?_) hS hk);cases e with
  |normal=>exact hQ .normal _ _ _ _ q hS
  |ret=>exact hQ .ret _ _ _ _ q hS
  |exit j=>
   show(if j=id then Q .normal a w else Q (.exit j) a w);dsimp only at q
   by_cases e:j=id
   .rw[A1 e];rw[e,Nat.beq_refl,cond_true]at q;exact hQ .normal _ _ _ _ q hS
   .rw[AL e];rw[DY e,G7]at q;exact hQ (.exit j) _ _ _ _ q hS
 |loop c ih=>
  intro hc Qa Q hQ st g a w hS hk;obtain⟨α,I,μ,⟨x,hx⟩,Aa0⟩:=hk;refine Tn (fun n a w=>∃x g,μ x=n/\SR N ds w0 g0 h0 (I x).st g a w) (μ x) ⟨x,g,rfl,hS.weaken hE hx⟩ ?_
  rintro n a w ⟨x,g,rfl,hS⟩
  refine ih hc (Qa:=fun e EQ=>match e with | .normal=>∃y,μ y<μ x/\St.le cx EQ (I y) | e=>Qa e EQ) (fun e st g a w q hS=>?_) hS (Aa0 x);cases e with
  |normal=>
   obtain⟨y,q1,q2⟩:=q;exact⟨μ y,q1,y,g,rfl,hS.weaken hE q2⟩
  |exit id=>exact hQ (.exit id) _ _ _ _ q hS
  |ret=>exact hQ .ret _ _ _ _ q hS
 |_=>intro _ Qa Q hQ st g a w hS hk;exact hk.elim
end
end Go.Eng
