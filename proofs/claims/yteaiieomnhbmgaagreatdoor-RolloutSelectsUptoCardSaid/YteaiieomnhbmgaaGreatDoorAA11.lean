/- Lemmas 11. -/
import Derived.Test.YteaiieomnhbmgaaGreatDoorAA10
import Derived.Deep.LoopGhost
namespace Go.Eng
variable {h:Nat->HO}{U:Nat->Prop}{cx:Cx}{av:AV}{cs:List AV}{i:Nat}{w:World}{o:Oper}{g:Gh}
section
variable {P:Program}{N:Nat}{ds:List Deferred}{w0:World}{g0:Gh}{h0 h:Nat->HO}{st:St}{g:Gh}{a:Act}{w:World}
theorem fU(hI:CU w0 g0 h0 h g w)(r:Nat):∃g',CU w0 g0 h0 (m6 h r) g' w/\Le h g w (m6 h r) g' w:=by
 unfold m6;split
 .rename_i cs e0;have ho:=hI.objs r;rw[e0]at ho;obtain⟨t1,b,E,vs,a1,a2,a3,a4,a5⟩:=ho;have hl:(h r).live:=by rw[e0];trivial
  have EU:=(hI.loc r b hl a1).1;have hs:=Ql hI a4
  obtain⟨k1,k2⟩:=hI.upd r (.ro (cs.map (str h))) (g.ρ r) (g.ln r) (g.tk r) none (g.more b cs.length) w none ⟨rfl,rfl,rfl,Ao _⟩ (fun _ _ _=>rfl) (fun b e=>by cases e) (fun _ _ h=>.inl h)
   (fun b' o hs=>hs.elim .inl (fun hs=>.inr ⟨by rw[hs.1];exact EU,.inr ⟨hl,by rw[hs.1];exact a1⟩⟩)) (fun b o e=>by cases e) (fun b hh _=>by cases hh) Cl
   (fun _=>⟨rfl,Ao _,fun _=>rfl,fun _=>rfl⟩) (fun hg hk=>by
    obtain⟨u1,u2,u3,u4⟩:=Bo g r (g.ρ r) (g.ln r) (g.tk r) none (g.more b cs.length);exact⟨u3.trans t1,b,u1.trans a2,Ba.cptr_row a3 (hs.mono hk (fun _ h=>h) (fun _ h=>h.elim)) (fun o ho=>.inr ⟨rfl,by simpa using ho⟩)⟩)
  exact⟨_,k1,k2⟩
 .rename_i sh BU e0;have ho:=hI.objs r;rw[e0]at ho;obtain⟨t1,b,es,ck,a1,a2,a3,a4,a5,a6⟩:=ho<;>grind [RW]
 .rename_i sh BU e0;have ho:=hI.objs r;rw[e0]at ho;obtain⟨t1,b,es,ck,a1,a2,a3,a4,a5,a6⟩:=ho<;>grind [YD]
 grind [Le.refl]
theorem M7:∀(l:List Nat) {h:Nat->HO} {g:Gh},CU w0 g0 h0 h g w->∃g',CU w0 g0 h0 (Pw h l) g' w/\Le h g w (Pw h l) g' w
 | [],_,g,hI=>⟨g,hI,.refl _ _ _⟩
 |r::l,_,_,hI=>
  let ⟨_,i1,i2⟩:=fU hI r
  let ⟨g2,j1,j2⟩:=M7 l i1
  ⟨g2,j1,i2.trans j2⟩
theorem KZ:∀(cs:List AV) (k:Nat) (v:AV) (i:Nat) (av:AV),(E2 cs k v)[i]?=some av->(i=k/\av=v)\/cs[i]?=some av
 | [],_,_,_,_,h=>by grind [E2]
 |c::cs,0,v,i,av,h=>by
  grind [E2]
 |c::cs,k+1,v,i,av,h=>by
  unfold E2 at h;cases i with
  |zero=>simp_all
  |succ i=>
   rcases KZ cs k v i av (by simpa using h)with ⟨e1,e2⟩ | e<;>simp_all
theorem K6:∀(cs:List AV) (k:Nat) (v:AV),(E2 cs k v).length=cs.length
 | [],_,_=>rfl
 |_::_,0,_=>rfl
 |_::cs,k+1,v=>by unfold E2;simp[K6 cs k v]
theorem bw:∀(cs:List AV) (k:Nat) (x:Value),JM cs k=.v x->cs[k]?=some (.v x)
 | [],_,_,h=>by grind [JM]
 |_::_,0,_,h=>by grind [JM]
 |_::cs,k+1,x,h=>by unfold JM at h;simpa using bw cs k x h
theorem yj(hI:CU w0 g0 h0 h g w)(r k j sz:Nat):∃g',CU w0 g0 h0 (tz1 h r k j sz) g' w/\Le h g w (tz1 h r k j sz) g' w:=by
 have same:∃g',CU w0 g0 h0 h g' w/\Le h g w h g' w:=⟨g,hI,.refl _ _ _⟩;unfold tz1;split
 .rename_i cs e0;split
  .rename_i e1;split
   .rename_i hj;have Ef:r≠j:=fun e=>by simp_all
    obtain⟨g1,i1,i2,i3⟩:=Oo hI (sz:=sz) (es:=[]) (a:=none) hj Cl rfl (.snil _ _ _);have ho:=i1.objs r;rw[BR _ _ _ _ Ef,e0]at ho;obtain⟨t1,b,E,vs,a1,a2,a3,a4,a5⟩:=ho;have hl:(AO h j (.tok sz 0) r).live:=by rw[BR _ _ _ _ Ef,e0];trivial
    have EU:=(i1.loc r b hl a1).1;have Zk:=bw cs k _ e1
    obtain⟨k1,k2⟩:=i1.upd r (.cells (E2 cs k (.slice (.id j sz) []))) (g1.ρ r) (g1.ln r) (g1.tk r) (g1.own r) g1.S w none ⟨rfl,rfl,rfl,Ao _⟩ (fun _ _ _=>rfl) (fun b e=>by cases e) (fun _ _ h=>h) (fun _ _ h=>.inl h)
     (fun b o e=>by cases e) (fun b' _ e=>⟨(i1.loc r b' hl e).1,.inl ⟨hl,e⟩⟩) Cl (fun _=>⟨rfl,Ao _,fun _=>rfl,fun _=>rfl⟩) (fun hg hk=>by
      obtain⟨u1,u2,u3,u4⟩:=Bo g1 r (g1.ρ r) (g1.ln r) (g1.tk r) (g1.own r) g1.S;have Mh:∀i,AJ (AO h j (.tok sz 0)) i->AJ (AO (AO h j (.tok sz 0)) r (.cells (E2 cs k (.slice (.id j sz) [])))) i:=fun i hi=>DG Cl i hi;refine⟨u3.trans t1,b,E,vs,u4.trans a1,u1.trans a2,a3,⟨by rw[K6];exact a4.1,a4.2.1,fun i av x q1 q2=>?_⟩,a5⟩;rcases KZ cs k _ i av q1 with ⟨rfl,rfl⟩ | q
      .have:=(a4.2.2 i _ x Zk q2).v_eq
       subst this;exact i3.mono hk Mh hg
      .exact(a4.2.2 i av x q q2).mono hk Mh hg)
    exact⟨_,k1,i2.trans k2⟩
   omega
  omega
 omega
theorem pn(hS:SR N ds w0 g0 h0 st g a w):∃g',SR N ds w0 g0 h0 (pk cx o st) g' a w:=by
 unfold pk;split
 .grind
 .rename_i d _;split
  .obtain⟨g',h1,h2⟩:=yj hS.inv _ _ _ _;exact⟨g',h1,hS.le.trans h2,hS.dfs,hS.size,fun i=>(hS.slots i).le h2⟩
  split
  .grind
  .obtain⟨g',h1,h2⟩:=M7 (vY cx.pl.fz d) hS.inv;exact⟨g',h1,hS.le.trans h2,hS.dfs,hS.size,fun i=>(hS.slots i).le h2⟩
theorem UL:∀(cs:List AV) (k:Nat) (r n:Nat),JM cs k=.msl r n->cs[k]?=some (.msl r n)
 | [],_,_,_,h=>by grind [JM]
 |_::_,0,_,_,h=>by grind [JM]
 |_::cs,k+1,r,n,h=>by unfold JM at h;simpa using UL cs k r n h
theorem XQ(hI:CU w0 g0 h0 h g w){r sz:Nat}{es:C0}(hr:h r=.arr sz es) :
  ∃g',CU w0 g0 h0 (AO h r (.tok sz es.length)) g' w/\Le h g w (AO h r (.tok sz es.length)) g' w/\Ba g' w (AJ (AO h r (.tok sz es.length))) (.slice (.id r sz) es) (g.ρ r)/\g.ln r=es.length:=by
 have ho:=hI.objs r;rw[hr]at ho;obtain⟨t1,l1,al,a2⟩:=ho;have hl:(h r).live:=by rw[hr];trivial
 rcases a2 with ⟨b1,b2,b3⟩ | ⟨b,cap,E,vs,b1,b2,b3,b4,b5,b6,b7⟩
 .subst b1
  obtain⟨k1,k2⟩:=hI.upd r (.tok sz 0) (g.ρ r) (g.ln r) (g.tk r) (g.own r) g.S w none ⟨rfl,rfl,rfl,Ao _⟩ (fun _ _ _=>rfl) (fun b e=>by cases e) (fun _ _ h=>h) (fun _ _ h=>.inl h)
   (fun b o e=>by cases e) (fun b' _ e=>⟨(hI.loc r b' hl e).1,.inl ⟨hl,e⟩⟩) Cl (fun _=>⟨rfl,Ao _,fun _=>rfl,fun _=>rfl⟩) (fun hg hk=>by
    obtain⟨u1,u2,u3,u4⟩:=Bo g r (g.ρ r) (g.ln r) (g.tk r) (g.own r) g.S;exact⟨u3.trans t1,u2.trans l1,none,0,u1.trans b2,.inl ⟨rfl,u4.trans b3⟩⟩)
  refine⟨_,k1,k2,?_,l1⟩;rw[b2];exact .tok _ r sz [] _ (.snil _ _ _) Cl (by unfold AJ;rw[AC,A5];simp) (by simp[Gh.upd,t1]) Cl (fun _=>by simp[Gh.upd])
 .have EU:=(hI.loc r b hl b2).1
  obtain⟨k1,k2⟩:=hI.upd r (.tok sz es.length) (g.ρ r) (g.ln r) (g.tk r) (g.own r) (g.more b (es.length*sz)) w none ⟨rfl,rfl,rfl,Ao _⟩ (fun _ _ _=>rfl) (fun b e=>by cases e) (fun _ _ h=>.inl h)
   (fun b' o hs=>hs.elim .inl (fun hs=>.inr ⟨by omega,.inr ⟨hl,by simp_all⟩⟩)) (fun b o e=>by cases e) (fun b' _ e=>⟨(hI.loc r b' hl e).1,.inl ⟨hl,e⟩⟩) Cl
   (fun _=>⟨rfl,Ao _,fun _=>rfl,fun _=>rfl⟩) (fun hg hk=>by
    obtain⟨u1,u2,u3,u4⟩:=Bo g r (g.ρ r) (g.ln r) (g.tk r) (g.own r) (g.more b (es.length*sz));exact⟨u3.trans t1,u2.trans l1,_,cap,u1.trans b1,.inr ⟨b3,b,E,vs,0,rfl,u4.trans b2,.of b4,by omega,fun o ho=>by
     rcases ho with ho | ⟨_,ho⟩<;>simp_all⟩⟩)
  refine⟨_,k1,k2,?_,l1⟩;rw[b1];exact .tok _ r sz es _ (Ba.slice_row b4 al b3 (b6.mono k2.keeps (fun _ h=>h) (fun _ h=>h.elim)) (fun o ho=>.inr ⟨rfl,ho⟩)) al (by grind [AJ,A5]) (by grind [Gh.upd]) (by grind [Gh.upd]) (fun _=>by simp[Gh.upd])
theorem CU.move{w0:World}{g0:Gh}{h0 h:Nat->HO}{g:Gh}{w:World}(hI:CU w0 g0 h0 h g w)(r r2:Nat)(Ef:r2≠r)(hf:h r2=.free)(hl:(h r).live){b:Nat}(ho:g.own r=some b)(o' : HO)(x:Value)(n:Nat)(t:Bool)(hn:o'≠.free)
  (Ma:EF g w (g.upd r2 x n t (some b) g.S) w->DR (g.upd r2 x n t (some b) g.S) w (AJ (AO (AO h r .dead) r2 o')) r2 o') :
  CU w0 g0 h0 (AO (AO h r .dead) r2 o') (g.upd r2 x n t (some b) g.S) w/\Le h g w (AO (AO h r .dead) r2 o') (g.upd r2 x n t (some b) g.S) w:=by
 have ny:Kr g (g.upd r2 x n t (some b) g.S) (AJ h):=by
  intro i hi;have e:i≠r2:=fun e=>hi B0
  grind [Gh.upd]
 have hK:EF g w (g.upd r2 x n t (some b) g.S) w:=fun b o hb=>⟨hb,rfl,fun _ _ h=>h⟩;have Mh:∀i,AJ h i->AJ (AO (AO h r .dead) r2 o') i:=fun i hi=>DG hn i (DG Cl i hi);have key:∀i,i≠r2->(AO (AO h r .dead) r2 o' i).live->i≠r/\(h i).live:=fun i h2 hl=>by
  rw[BR _ _ _ _ h2]at hl
  by_cases e:i=r
  .subst e;rw[A5]at hl;exact hl.elim
  grind [BR]
 have own:∀i,i≠r2->(g.upd r2 x n t (some b) g.S).own i=g.own i:=fun i e=>by simp[Gh.upd,e]
 have o8:(g.upd r2 x n t (some b) g.S).own r2=some b:=by simp[Gh.upd]
 refine⟨⟨hI.os,hI.tape,hI.output,hI.size,hI.frame,hI.slt,fun i=>?_,fun i j c hi hj ei ej=>?_,fun i c hi ei=>?_,hI.sg,hI.glob.keep hK⟩,ny,Mh,hK⟩
 .by_cases e:i=r2
  .grind [A5]
  .rw[BR _ _ _ _ e]
   by_cases e1:i=r
   .subst e1;rw[A5];trivial
   .rw[BR _ _ _ _ e1];exact(hI.objs i).same hK Mh ny (by simp[Gh.upd,e]) (by simp[Gh.upd,e]) (by simp[Gh.upd,e]) B0 (fun b hl hb=>⟨rfl,fun k hk=>hk⟩)
 .grind [CU.inj]
 .by_cases e1:i=r2
  .subst e1;rw[o8]at ei;cases ei;exact hI.loc r _ hl ho
  .rw[own i e1]at ei;exact hI.loc i c (key i e1 hi).2 ei
theorem vX(hS:SR N ds w0 g0 h0 st g a w){s k:Nat}{K:St->Prop}(hk:asK st s k K):∃EM g',SR N ds w0 g0 h0 EM g' a w/\K EM:=by
 have same:K st->∃EM g',SR N ds w0 g0 h0 EM g' a w/\K EM:=fun hk=>⟨st,g,hS,hk⟩;unfold asK at hk;split at hk
 .rename_i r n ht;have VH:=hS.slots s;rw[ht]at VH;split at hk
  .rename_i sz es hr;have ho:=hS.inv.objs r;rw[hr]at ho;obtain⟨t1,l1,al,a2⟩:=ho;have hl:(st.h r).live:=by rw[hr];trivial
   have hval:n=es.length->a.tmps.getD s undef=g.ρ r:=fun hn=>by
    grind [cases Ba]
   have fin:∀(h' : Nat->HO) (v:AV) (g' : Gh),CU w0 g0 h0 h' g' w->Le st.h g w h' g' w->Ba g' w (AJ h') v (a.tmps.getD s undef)->SR N ds w0 g0 h0 ⟨JU st.t s v,h'⟩ g' a w:=fun h' v g' i1 i2 i3=>by
    grind [JU,DK,SR.mk,Le.trans,SR.le,SR.dfs,SR.size,Ba.le,SR.slots]
   split at hk
   .obtain⟨hn,hk⟩:=hk;obtain⟨g1,i1,i2,i3,i4⟩:=XQ hS.inv hr
    obtain⟨k1,k2⟩:=i1.upd r .dead (g1.ρ r) (g1.ln r) (g1.tk r) (g1.own r) g1.S w none ⟨rfl,rfl,rfl,Ao _⟩ (fun _ _ _=>rfl) (fun b e=>by cases e) (fun _ _ h=>h) (fun _ _ h=>.inl h) (fun b o e=>by cases e) (fun b hh _=>by cases hh) Cl
     (fun _=>⟨rfl,Ao _,fun _=>rfl,fun _=>rfl⟩) (fun _ _=>trivial)
    exact⟨_,_,fin _ _ _ k1 (i2.trans k2) (by grind [Ba.le,Ba.up,Ba.slice_none]),hk⟩
   .rename_i k;split at hk
    .simp_all
    .rename_i hb;have Ef:k+1≠r:=fun e=>by simp_all
     split at hk
     .rename_i hf;obtain⟨hn,hk⟩:=hk;rcases a2 with ⟨b1,b2,b3⟩ | ⟨b,cap,E,vs,b1,b2,b3,b4,b5,b6,b7⟩
      .subst b1;have hv:=hval hn
       obtain⟨k1,k2⟩:=hS.inv.upd r .dead (g.ρ r) (g.ln r) (g.tk r) (g.own r) g.S w none ⟨rfl,rfl,rfl,Ao _⟩ (fun _ _ _=>rfl) (fun b e=>by cases e) (fun _ _ h=>h) (fun _ _ h=>.inl h) (fun b o e=>by cases e) (fun b hh _=>by cases hh) Cl
        (fun _=>⟨rfl,Ao _,fun _=>rfl,fun _=>rfl⟩) (fun _ _=>trivial)
       have hf1:AO st.h r .dead (k+1)=.free:=by grind [BR]
       obtain⟨m1,m2⟩:=k1.upd (k+1) (.arr sz []) (.slice none 0 0) 0 true none (g.upd r (g.ρ r) (g.ln r) (g.tk r) (g.own r) g.S).S w none ⟨rfl,rfl,rfl,Ao _⟩ (fun _ _ _=>rfl) (fun b e=>by cases e) (fun _ _ h=>h) (fun _ _ h=>.inl h) (fun b o e=>by cases e) (fun b _ e=>by cases e) Cl
        (fun hu=>absurd hf1 hu) (fun _ _=>by
         obtain⟨u1,u2,u3,u4⟩:=Bo (g.upd r (g.ρ r) (g.ln r) (g.tk r) (g.own r) g.S) (k+1) (.slice none 0 0) 0 true none (g.upd r (g.ρ r) (g.ln r) (g.tk r) (g.own r) g.S).S;exact⟨u3,u2,by simp,.inl ⟨rfl,u1,u4⟩⟩)
       refine⟨_,_,fin _ _ _ m1 (k2.trans m2) ?_,hk⟩;rw[hv,b2,hn];exact .msl _ (k+1) 0 none 0 (by grind [AJ,A5]) (by simp[Gh.upd]) (Aj _) (.inl rfl) (fun _=>by simp[Gh.upd])
      .have hv:=hval hn;obtain⟨m1,m2⟩:=hS.inv.move r (k+1) Ef hf hl b2 (.arr sz es) (g.ρ r) es.length true Cl (fun IN=>by
        obtain⟨u1,u2,u3,u4⟩:=Bo g (k+1) (g.ρ r) es.length true (some b) g.S;exact⟨u3,u2,al,.inr ⟨b,cap,E,vs,u1.trans b1,u4,b3,b4,b5,b6.mono IN (fun _ h=>h) (fun _ h=>h.elim),b7⟩⟩)
       refine⟨_,_,fin _ _ _ m1 m2 ?_,hk⟩;rw[hv,b1,hn];exact .msl _ (k+1) es.length _ cap (by grind [AJ,A5]) (by simp[Gh.upd]) (by simp[Gh.upd]) (.inr ⟨b,rfl⟩) (fun _=>by simp[Gh.upd])
     simp_all
  simp_all
 simp_all
theorem vS(hS:SR N ds w0 g0 h0 st g a w){o k j:Nat}{K:(Nat->HO)->Prop}(hk:amK st.h o k j K):∃h' g',SR N ds w0 g0 h0 ⟨st.t,h'⟩ g' a w/\K h':=by
 unfold amK at hk;split at hk
 .rename_i cs e0;split at hk
  .rename_i r n e1;split at hk
   .rename_i sz es e2;split at hk
    .rename_i hf;obtain⟨hn,hk⟩:=hk;have ho:=hS.inv.objs r;rw[e2]at ho;obtain⟨t1,l1,al,a2⟩:=ho;have hl:(st.h r).live:=by rw[e2];trivial
     have Ef:j≠r:=fun e=>by simp_all
     have zz:o≠r:=fun e=>by simp_all
     have w9:o≠j:=fun e=>by simp_all
     -- the array goes to the new id,which stands for the same slice
     have step:∃g1,CU w0 g0 h0 (AO (AO st.h r .dead) j (.arr sz es)) g1 w/\Le st.h g w (AO (AO st.h r .dead) j (.arr sz es)) g1 w/\g1.tk j=true/\g1.ln j=es.length/\g1.ρ j=g.ρ r:=by
      rcases a2 with ⟨b1,b2,b3⟩ | ⟨b,cap,E,vs,b1,b2,b3,b4,b5,b6,b7⟩
      .subst b1
       obtain⟨k1,k2⟩:=hS.inv.upd r .dead (g.ρ r) (g.ln r) (g.tk r) (g.own r) g.S w none ⟨rfl,rfl,rfl,Ao _⟩ (fun _ _ _=>rfl) (fun b e=>by cases e) (fun _ _ h=>h) (fun _ _ h=>.inl h) (fun b o e=>by cases e) (fun b hh _=>by cases hh) Cl
        (fun _=>⟨rfl,Ao _,fun _=>rfl,fun _=>rfl⟩) (fun _ _=>trivial)
       have hf1:AO st.h r .dead j=.free:=by grind [BR]
       obtain⟨m1,m2⟩:=k1.upd j (.arr sz []) (.slice none 0 0) 0 true none (g.upd r (g.ρ r) (g.ln r) (g.tk r) (g.own r) g.S).S w none ⟨rfl,rfl,rfl,Ao _⟩ (fun _ _ _=>rfl) (fun b e=>by cases e) (fun _ _ h=>h) (fun _ _ h=>.inl h) (fun b o e=>by cases e) (fun b _ e=>by cases e) Cl
        (fun hu=>absurd hf1 hu) (fun _ _=>by
         obtain⟨u1,u2,u3,u4⟩:=Bo (g.upd r (g.ρ r) (g.ln r) (g.tk r) (g.own r) g.S) j (.slice none 0 0) 0 true none (g.upd r (g.ρ r) (g.ln r) (g.tk r) (g.own r) g.S).S;exact⟨u3,u2,by simp,.inl ⟨rfl,u1,u4⟩⟩)
       exact⟨_,m1,k2.trans m2,by simp[Gh.upd],by simp[Gh.upd],by simp[Gh.upd,b2]⟩
      .obtain⟨m1,m2⟩:=hS.inv.move r j Ef hf hl b2 (.arr sz es) (g.ρ r) es.length true Cl (fun IN=>by
        obtain⟨u1,u2,u3,u4⟩:=Bo g j (g.ρ r) es.length true (some b) g.S;exact⟨u3,u2,al,.inr ⟨b,cap,E,vs,u1.trans b1,u4,b3,b4,b5,b6.mono IN (fun _ h=>h) (fun _ h=>h.elim),b7⟩⟩)
       exact⟨_,m1,m2,by simp[Gh.upd],by simp[Gh.upd],by simp[Gh.upd]⟩
     obtain⟨g1,i1,i2,j1,j2,j3⟩:=step
     -- the cell
     have ho:=hS.inv.objs o;rw[e0]at ho;have ho1:=i1.objs o;rw[BR _ _ _ _ w9,BR _ _ _ _ zz,e0]at ho1;obtain⟨t2,b,E,vs,c1,c2,c3,c4,c5⟩:=ho1;obtain⟨_,b',E',lC,rn,c2',c3',c4',_⟩:=ho;have hb:b'=b:=by
      have h2:=i2.gh o (by grind [AJ]);simp_all
     subst hb;rw[c3]at c3';cases c3';have jB:(AO (AO st.h r .dead) j (.arr sz es) o).live:=by rw[BR _ _ _ _ w9,BR _ _ _ _ zz,e0];trivial
     have Zk:=UL cs k _ _ e1
     obtain⟨k1,k2⟩:=i1.upd o (.cells (E2 cs k (.msl j n))) (g1.ρ o) (g1.ln o) (g1.tk o) (g1.own o) g1.S w none ⟨rfl,rfl,rfl,Ao _⟩ (fun _ _ _=>rfl) (fun b e=>by cases e) (fun _ _ h=>h) (fun _ _ h=>.inl h)
      (fun b o e=>by cases e) (fun b' _ e=>⟨(i1.loc o b' jB e).1,.inl ⟨jB,e⟩⟩) Cl (fun _=>⟨rfl,Ao _,fun _=>rfl,fun _=>rfl⟩) (fun hg cy=>by
       obtain⟨u1,u2,u3,u4⟩:=Bo g1 o (g1.ρ o) (g1.ln o) (g1.tk o) (g1.own o) g1.S;have Mh:∀i,AJ (AO (AO st.h r .dead) j (.arr sz es)) i->AJ (AO (AO (AO st.h r .dead) j (.arr sz es)) o (.cells (E2 cs k (.msl j n)))) i:=fun i hi=>DG Cl i hi;refine⟨u3.trans t2,_,E,vs,u4.trans c1,u1.trans c2,c3,⟨by rw[K6];exact c4.1,c4.2.1,fun i av x q1 q2=>?_⟩,c5⟩;rcases KZ cs k _ i av q1 with ⟨rfl,rfl⟩ | q
       .have hx:=c4'.2.2 i _ x Zk q2;have hm:Ba g1 w (AJ (AO (AO st.h r .dead) j (.arr sz es))) (.msl j n) x:=by
         grind [AJ,A5,cases Ba,Ba.msl]
        grind [Ba.mono]
       .exact(c4.2.2 i av x q q2).mono cy Mh hg)
     exact⟨_,_,⟨k1,hS.le.trans (i2.trans k2),hS.dfs,hS.size,fun i=>(hS.slots i).le (i2.trans k2)⟩,hk⟩
    .exact hk.elim
   simp_all
  simp_all
 .exact hk.elim
theorem OX{h:Nat->HO}(hI:CU w0 g0 h0 h g w){o k:Nat}{cs:List AV}(e0:h o=.cells cs){old new:AV}(hk:cs[k]?=some old)(Ey:∀x:Value,Ba g w (AJ h) old x->Ba g w (AJ h) new x) :
  ∃g',CU w0 g0 h0 (AO h o (.cells (E2 cs k new))) g' w/\Le h g w (AO h o (.cells (E2 cs k new))) g' w:=by
 have ho:=hI.objs o;rw[e0]at ho;obtain⟨t1,b,E,vs,a1,a2,a3,a4,a5⟩:=ho;have hl:(h o).live:=by rw[e0];trivial
 obtain⟨k1,k2⟩:=hI.upd o (.cells (E2 cs k new)) (g.ρ o) (g.ln o) (g.tk o) (g.own o) g.S w none ⟨rfl,rfl,rfl,Ao _⟩ (fun _ _ _=>rfl) (fun b e=>by cases e) (fun _ _ h=>h) (fun _ _ h=>.inl h)
  (fun b o e=>by cases e) (fun b' _ e=>⟨(hI.loc o b' hl e).1,.inl ⟨hl,e⟩⟩) Cl (fun _=>⟨rfl,Ao _,fun _=>rfl,fun _=>rfl⟩) (fun hg cy=>by
   obtain⟨u1,u2,u3,u4⟩:=Bo g o (g.ρ o) (g.ln o) (g.tk o) (g.own o) g.S;have Mh:∀i,AJ h i->AJ (AO h o (.cells (E2 cs k new))) i:=fun i hi=>DG Cl i hi;refine⟨u3.trans t1,b,E,vs,u4.trans a1,u1.trans a2,a3,⟨by rw[K6];exact a4.1,a4.2.1,fun i av x q1 q2=>?_⟩,a5⟩;rcases KZ cs k _ i av q1 with ⟨rfl,rfl⟩ | q
   .exact(Ey x (a4.2.2 i _ x hk q2)).mono cy Mh hg
   .exact(a4.2.2 i av x q q2).mono cy Mh hg)
 exact⟨_,k1,k2⟩
theorem Jt:∀(cs:List AV) (k:Nat) (a:AV),JM cs k=a->a≠.junk->cs[k]?=some a
 | [],_,a,h,hn=>by grind [JM]
 |_::_,0,_,h,_=>by grind [JM]
 |_::cs,k+1,a,h,hn=>by unfold JM at h;simpa using Jt cs k a h hn
theorem CU.moveV{h:Nat->HO}(hI:CU w0 g0 h0 h g w)(r r2 v:Nat)(Ef:r2≠r)(hf:h r2=.vox v)(hl:(h r).live)(o' : HO)(x:Value)(n:Nat)(hv:v<n)(hn:o'≠.free)
  (Ma:EF g w (g.upd r2 x n true (g.own r) g.S) w->DR (g.upd r2 x n true (g.own r) g.S) w (AJ (AO (AO h r .dead) r2 o')) r2 o') :
  CU w0 g0 h0 (AO (AO h r .dead) r2 o') (g.upd r2 x n true (g.own r) g.S) w/\Le h g w (AO (AO h r .dead) r2 o') (g.upd r2 x n true (g.own r) g.S) w:=by
 have zB:=hI.objs r2;rw[hf]at zB;obtain⟨ht2,jB⟩:=zB;have ny:Kr g (g.upd r2 x n true (g.own r) g.S) (AJ h):=by
  intro i hi
  grind [Gh.upd]
 have hK:EF g w (g.upd r2 x n true (g.own r) g.S) w:=fun b o hb=>⟨hb,rfl,fun _ _ h=>h⟩;have Mh:∀i,AJ h i->AJ (AO (AO h r .dead) r2 o') i:=fun i hi=>DG hn i (DG Cl i hi);have key:∀i,i≠r2->(AO (AO h r .dead) r2 o' i).live->i≠r/\(h i).live:=fun i h2 hl=>by
  rw[BR _ _ _ _ h2]at hl
  by_cases e:i=r
  .subst e;rw[A5]at hl;exact hl.elim
  grind [BR]
 have own:∀i,i≠r2->(g.upd r2 x n true (g.own r) g.S).own i=g.own i:=fun i e=>by simp[Gh.upd,e]
 have o8:(g.upd r2 x n true (g.own r) g.S).own r2=g.own r:=by simp[Gh.upd]
 refine⟨⟨hI.os,hI.tape,hI.output,hI.size,hI.frame,hI.slt,fun i=>?_,fun i j c hi hj ei ej=>?_,fun i c hi ei=>?_,hI.sg,hI.glob.keep hK⟩,ny,Mh,hK⟩
 .by_cases e:i=r2
  .grind [A5]
  .rw[BR _ _ _ _ e]
   by_cases e1:i=r
   .subst e1;rw[A5];trivial
   .rw[BR _ _ _ _ e1];exact(hI.objs i).same hK Mh ny (by simp[Gh.upd,e]) (by simp[Gh.upd,e]) (by simp[Gh.upd,e]) B0 (fun b hl hb=>⟨rfl,fun k hk=>hk⟩)
 .grind [CU.inj]
 .by_cases e1:i=r2
  .subst e1;rw[o8]at ei;exact hI.loc r _ hl ei
  .rw[own i e1]at ei;exact hI.loc i c (key i e1 hi).2 ei
theorem ym(hS:SR N ds w0 g0 h0 st g a w){o k d:Nat}{K:(Nat->HO)->Prop}(hk:uvK st.h o k d K):∃h' g',SR N ds w0 g0 h0 ⟨st.t,h'⟩ g' a w/\K h':=by
 unfold uvK at hk;split at hk
 .rename_i cs e0;split at hk
  .rename_i r sz v es e1;split at hk
   .rename_i HJ v' n e2;split at hk
    .rename_i hf;obtain⟨⟨rfl,rfl⟩,hk⟩:=hk;have ho:=hS.inv.objs r;rw[e2]at ho;obtain⟨t1,l1,a0,cap,r1,a2⟩:=ho;have hl:(st.h r).live:=by rw[e2];trivial
     have Ef:d≠r:=fun e=>by simp_all
     have zz:o≠r:=fun e=>by simp_all
     have hod:o≠d:=fun e=>by simp_all
     have Zk:=Jt cs k _ e1 Cl
     -- the value that stands in the cell
     have hoc:=hS.inv.objs o;rw[e0]at hoc;obtain⟨_,b',E',lC,c1,c2,c3,c4,_⟩:=hoc;obtain⟨x,hx1,_,zE⟩:=c4.at Zk;have Hk:x=.slice a0 n cap/\es.length=n/\Ba g w FD (.slice .none es) x/\∀c∈es,c.length=sz:=by
      grind [Ba.slice_none,cases Ba]
     obtain⟨hxe,hn,hx3,sj⟩:=Hk;subst hn;obtain⟨m1,m2⟩:=hS.inv.moveO r d Ef hf hl (ob:=g.own r) (fun c h=>h) (.tok sz es.length) (.slice a0 es.length cap) es.length true Cl (fun IN=>by
      obtain⟨u1,u2,u3,u4⟩:=Bo g d (.slice a0 es.length cap) es.length true (g.own r) g.S;refine⟨u3,u2,a0,cap,u1,?_⟩;rw[u4];exact a2)
     generalize gj:g.upd d (.slice a0 es.length cap) es.length true (g.own r) g.S=g1 at m1 m2;have gr:g1.tk r=true/\g1.ln r=v:=by grind [Gh.upd]
     have gd:g1.tk d=true/\g1.ln d=es.length/\g1.ρ d=.slice a0 es.length cap:=by grind [Gh.upd]
     -- the id keeps its version
     have hrd:(AO (AO st.h r .dead) d (.tok sz es.length)) r=.dead:=by grind [BR,A5]
     obtain⟨n1,n2⟩:=m1.upd r (.vox v) (g1.ρ r) (g1.ln r) (g1.tk r) (g1.own r) g1.S w none ⟨rfl,rfl,rfl,Ao _⟩ (fun _ _ _=>rfl) (fun b e=>by cases e) (fun _ _ h=>h) (fun _ _ h=>.inl h) (fun b o e=>by cases e) (fun b hh _=>by cases hh) Cl
      (fun _=>⟨rfl,Ao _,fun _=>rfl,fun _=>rfl⟩) (fun _ _=>by
       obtain⟨u1,u2,u3,u4⟩:=Bo g1 r (g1.ρ r) (g1.ln r) (g1.tk r) (g1.own r) g1.S;exact⟨u3.trans gr.1,u2.trans gr.2⟩)
     have hh:AO (AO (AO st.h r .dead) d (.tok sz es.length)) r (.vox v)=AO (AO st.h r (.vox v)) d (.tok sz es.length):=by
      grind [AO,DK]
     rw[hh]at n1 n2;generalize wW:g1.upd r (g1.ρ r) (g1.ln r) (g1.tk r) (g1.own r) g1.S=g2 at n1 n2;have gd2:g2.tk d=true/\g2.ln d=es.length/\g2.ρ d=.slice a0 es.length cap:=by grind [Gh.upd]
     have wE : (AO (AO st.h r (.vox v)) d (.tok sz es.length)) o=.cells cs:=by grind [BR]
     have L2:=m2.trans n2;have Akz:g2.ρ o=g.ρ o:=(L2.gh o (by grind [AJ])).2.2.1 (by assumption);obtain⟨g3,p1,p2⟩:=OX n1 wE Zk (new:=.slice (.id d sz) es) (fun y hy=>by
      grind [Gh.upd,AJ,A5,cases Ba,Ba.tok])
     exact⟨_,g3,⟨p1,hS.le.trans (L2.trans p2),hS.dfs,hS.size,fun i=>(hS.slots i).le (L2.trans p2)⟩,hk⟩
    simp_all
   simp_all
  .exact⟨_,g,hS,hk⟩
 simp_all
theorem pG(hS:SR N ds w0 g0 h0 st g a w){o k r:Nat}{K:(Nat->HO)->Prop}(hk:rvK st.h o k r K):∃h' g',SR N ds w0 g0 h0 ⟨st.t,h'⟩ g' a w/\K h':=by
 unfold rvK at hk;split at hk
 .rename_i cs e0;split at hk
  .rename_i d sz es e1;split at hk
   .rename_i HJ n e2;split at hk
    .rename_i v hf;obtain⟨⟨hn,rfl⟩,hk⟩:=hk;subst hn;have ho:=hS.inv.objs d;rw[e2]at ho;obtain⟨t1,l1,a0,cap,r1,a2⟩:=ho;have hl:(st.h d).live:=by rw[e2];trivial
     have Ef:r≠d:=fun e=>by simp_all
     have hod:o≠d:=fun e=>by simp_all
     have zz:o≠r:=fun e=>by simp_all
     have Zk:=Jt cs k _ e1 Cl;obtain⟨m1,m2⟩:=hS.inv.moveV d r v Ef hf hl (.var sz (v+1) es.length) (.slice a0 es.length cap) (v+1) (Nat.lt_succ_self v) Cl (fun IN=>by
      obtain⟨u1,u2,u3,u4⟩:=Bo g r (.slice a0 es.length cap) (v+1) true (g.own d) g.S;refine⟨u3,u2,a0,cap,u1,?_⟩;rw[u4];exact a2)
     generalize gj:g.upd r (.slice a0 es.length cap) (v+1) true (g.own d) g.S=g1 at m1 m2;have gr:g1.tk r=true/\g1.ln r=v+1/\g1.ρ r=.slice a0 es.length cap:=by grind [Gh.upd]
     have gd:g1.ln d=es.length/\g1.ρ d=.slice a0 es.length cap:=by grind [Gh.upd]
     have wE : (AO (AO st.h d .dead) r (.var sz (v+1) es.length)) o=.cells cs:=by grind [BR]
     obtain⟨g3,p1,p2⟩:=OX m1 wE Zk (new:=.slice (.ver r sz (v+1)) es) (fun y hy=>by
      grind [AJ,A5,cases Ba,Ba.ver])
     exact⟨_,g3,⟨p1,hS.le.trans (m2.trans p2),hS.dfs,hS.size,fun i=>(hS.slots i).le (m2.trans p2)⟩,hk⟩
    simp_all
   simp_all
  .exact⟨_,g,hS,hk⟩
 simp_all
theorem xK(hS:SR N ds w0 g0 h0 st g a w){r:Nat}{K:(Nat->HO)->Prop}(hk:nvK st.h r K):∃h' g',SR N ds w0 g0 h0 ⟨st.t,h'⟩ g' a w/\K h':=by
 unfold nvK at hk;split at hk
 .rename_i hf
  obtain⟨m1,m2⟩:=hS.inv.upd r (.vox 0) (.slice none 0 0) 0 true none g.S w none ⟨rfl,rfl,rfl,Ao _⟩ (fun _ _ _=>rfl) (fun b e=>by cases e) (fun _ _ h=>h) (fun _ _ h=>.inl h) (fun b o e=>by cases e) (fun b hh _=>by cases hh) Cl
   (fun hu=>absurd hf hu) (fun _ _=>by
    obtain⟨u1,u2,u3,u4⟩:=Bo g r (.slice none 0 0) 0 true none g.S;exact⟨u3,u2⟩)
  exact⟨_,_,⟨m1,hS.le.trans m2,hS.dfs,hS.size,fun i=>(hS.slots i).le m2⟩,hk⟩
 simp_all
theorem pA(hS:SR N ds w0 g0 h0 st g a w){o k:Nat}{K:(Nat->HO)->Prop}(hk:rmK st.h o k K):∃h' g',SR N ds w0 g0 h0 ⟨st.t,h'⟩ g' a w/\K h':=by
 unfold rmK at hk;split at hk
 .rename_i cs e0;split at hk
  .rename_i r e1;split at hk
   .rename_i sh BU e2;have Zk:=Jt cs k _ e1 Cl;obtain⟨g3,p1,p2⟩:=OX hS.inv e0 Zk (new:=.cmap sh BU) (fun y hy=>by
     have e3:rsv st.h (.mref r)=.cmap sh BU:=by
      show(match st.h r with | .rom sh BU=>AV.cmap sh BU | _=>.mref r)=_;rw[e2]
     rw[<-e3];exact Ba.rsv hS.inv.objs hy)
    exact⟨_,g3,⟨p1,hS.le.trans p2,hS.dfs,hS.size,fun i=>(hS.slots i).le p2⟩,hk⟩
   simp_all
  simp_all
 simp_all
theorem zb(hS:SR N ds w0 g0 h0 st g a w){o k j sz:Nat}{K:(Nat->HO)->Prop}(hk:zaK st.h o k j sz K):∃h' g',SR N ds w0 g0 h0 ⟨st.t,h'⟩ g' a w/\K h':=by
 unfold zaK at hk;split at hk
 .rename_i cs e0;split at hk
  .rename_i e1;split at hk
   .rename_i hf;have zz:o≠j:=fun e=>by simp_all
    have Zk:=Jt cs k _ e1 Cl
    obtain⟨m1,m2⟩:=hS.inv.upd j (.arr sz []) (.slice none 0 0) 0 true none g.S w none ⟨rfl,rfl,rfl,Ao _⟩ (fun _ _ _=>rfl) (fun b e=>by cases e) (fun _ _ h=>h) (fun _ _ h=>.inl h) (fun b o e=>by cases e) (fun b hh e=>by simp_all) Cl
     (fun hu=>absurd hf hu) (fun _ _=>by
      obtain⟨u1,u2,u3,u4⟩:=Bo g j (.slice none 0 0) 0 true none g.S;exact⟨u3,u2,(fun cs hc=>by cases hc),.inl ⟨rfl,u1,u4⟩⟩)
    generalize gj:g.upd j (.slice none 0 0) 0 true none g.S=g1 at m1 m2;have gr:g1.tk j=true/\g1.ln j=0/\g1.ρ j=.slice none 0 0:=by grind [Gh.upd]
    have wE : (AO st.h j (.arr sz [])) o=.cells cs:=by grind [BR]
    obtain⟨g3,p1,p2⟩:=OX m1 wE Zk (new:=.msl j 0) (fun y hy=>by
     grind [AJ,A5,cases Ba,Ba.msl])
    exact⟨_,g3,⟨p1,hS.le.trans (m2.trans p2),hS.dfs,hS.size,fun i=>(hS.slots i).le (m2.trans p2)⟩,hk⟩
   simp_all
  simp_all
 simp_all
theorem mo{id:Nat}(hS:SR N ds w0 g0 h0 st g a w){K:(Nat->HO)->Prop}(hk:fz0 cx id st.h fun h=>rm0 cx id h fun h=>rm1 cx id h fun h=>zJ cx id h K):∃h' g',SR N ds w0 g0 h0 ⟨st.t,h'⟩ g' a w/\K h':=by
 have h1:∃h' g',SR N ds w0 g0 h0 ⟨st.t,h'⟩ g' a w/\rm0 cx id h' fun h=>rm1 cx id h fun h=>zJ cx id h K:=by
  unfold fz0 at hk;split at hk
  .obtain⟨g',i1,i2⟩:=fU hS.inv _;exact⟨_,g',⟨i1,hS.le.trans i2,hS.dfs,hS.size,fun i=>(hS.slots i).le i2⟩,hk⟩
  .exact⟨_,g,hS,hk⟩
 obtain⟨h1,g1,S1,hk⟩:=h1;have h2:∃h' g',SR N ds w0 g0 h0 ⟨st.t,h'⟩ g' a w/\rm1 cx id h' fun h=>zJ cx id h K:=by
  unfold rm0 at hk;split at hk
  .exact pA S1 hk
  grind
 obtain⟨h2,g2,S2,hk⟩:=h2;have h3:∃h' g',SR N ds w0 g0 h0 ⟨st.t,h'⟩ g' a w/\zJ cx id h' K:=by
  unfold rm1 at hk;split at hk
  .exact pA S2 hk
  grind
 obtain⟨h3,g3,S3,hk⟩:=h3;unfold zJ at hk;split at hk
 .exact zb S3 hk
 grind
theorem w8(hS:SR N ds w0 g0 h0 st g a w){r:Nat}{K:(Nat->HO)->Prop}(hk:hoK st.h r K):∃h' g',SR N ds w0 g0 h0 ⟨st.t,h'⟩ g' a w/\K h':=by
 unfold hoK at hk;split at hk
 .rename_i sz es i c j m er;split at hk
  .simp_all
  .rename_i hb;have Ef:r≠j:=fun e=>by simp_all
   split at hk
   .rename_i ic qs ej;obtain⟨hm,cs,hi,hc,hk⟩:=hk;have ho:=hS.inv.objs r;rw[er]at ho;obtain⟨t1,l1,al,b,cap,E,vs,e1,e2,e3,e4,e5,e6,e7,e8,x,e9,e10⟩:=ho;obtain⟨g1,i1,i2,i3,i4⟩:=XQ hS.inv ej;have nT:x=g.ρ j:=by
     grind [cases Ba]
    obtain⟨k1,k2⟩:=i1.upd j .dead (g1.ρ j) (g1.ln j) (g1.tk j) (g1.own j) g1.S w none ⟨rfl,rfl,rfl,Ao _⟩ (fun _ _ _=>rfl) (fun b e=>by cases e) (fun _ _ h=>h) (fun _ _ h=>.inl h) (fun b o e=>by cases e) (fun b hh _=>by cases hh) Cl
     (fun _=>⟨rfl,Ao _,fun _=>rfl,fun _=>rfl⟩) (fun _ _=>trivial)
    generalize wW:g1.upd j (g1.ρ j) (g1.ln j) (g1.tk j) (g1.own j) g1.S=g2 at k1 k2;have Ey:Ba g2 w FD (.slice .none qs) x:=by rw[nT];exact i3.slice_none.mono k2.keeps (fun _ h=>h) (fun _ h=>h.elim)
    have er2:AO (AO st.h j (.tok ic qs.length)) j .dead r=.hol sz es i c (.msl j m):=by grind [BR]
    have ho2:=k1.objs r;rw[er2]at ho2;obtain⟨t1',l1',al',b',Mn,E',lC,f1,f2,f3,f4,f5,f6,f7,f8,x',f9,f10⟩:=ho2;have hl:(AO (AO st.h j (.tok ic qs.length)) j .dead r).live:=by rw[er2];trivial
    have hρ:g2.ρ r=g.ρ r:=by
     have q1:=(i2.trans k2).gh r (by grind [AJ]);simp_all
    have gp:lC=vs:=by
     simp_all
    subst gp;have hxx:x'=x:=B0
    subst hxx;have EU:=(Bf.1 hi).1;have hcl:=al' cs (AG hi);have hfl:=Mx al' hi c [AV.slice .none qs] aa0;have Dr:es.flatten.length=es.length*sz:=Dv al'
    obtain⟨m1,m2⟩:=k1.upd r (.arr sz (es.set i (over cs c [.slice .none qs]))) (g2.ρ r) (g2.ln r) (g2.tk r) (g2.own r) g2.S w none ⟨rfl,rfl,rfl,Ao _⟩ (fun _ _ _=>rfl) (fun b e=>by cases e) (fun _ _ h=>h) (fun _ _ h=>.inl h)
     (fun b o e=>by cases e) (fun b' _ e=>⟨(k1.loc r b' hl e).1,.inl ⟨hl,e⟩⟩) Cl (fun _=>⟨rfl,Ao _,fun _=>rfl,fun _=>rfl⟩) (fun hg IN=>by
      obtain⟨u1,u2,u3,u4⟩:=Bo g2 r (g2.ρ r) (g2.ln r) (g2.tk r) (g2.own r) g2.S;refine⟨u3.trans t1',u2.trans B0,fun d hd=>?_,.inr ⟨b',Mn,E',lC,by simp_all,u4.trans f2,by simp_all,f4,f5,?_,f7⟩⟩
      .grind [Ga]
      .rw[hfl,JX];refine⟨by rw[Ga];simp_all,f6.2.1,fun p av y q1 q2=>?_⟩;rw[GD _ _ _ _ aa0]at q1;split at q1
       .rename_i hp;have hp0:p=i*sz+c:=aa0
        subst hp0;rw[IS]at q1;cases q1
        have:y=x':=by
         grind
        rw[this];exact Ey.mono IN (fun _ h=>h) (fun _ h=>h.elim)
       .exact(f6.2.2 p av y q1 q2).mono IN (fun _ h=>h) (fun _ h=>h.elim))
    exact⟨_,_,⟨m1,hS.le.trans ((i2.trans k2).trans m2),hS.dfs,hS.size,fun i=>((hS.slots i).le (i2.trans k2)).le m2⟩,hk⟩
   simp_all
 simp_all
theorem tY{id:Nat}(hS:SR N ds w0 g0 h0 st g a w){K:(Nat->HO)->Prop}(hk:yn cx id st.h K):∃h' g',SR N ds w0 g0 h0 ⟨st.t,h'⟩ g' a w/\K h':=by
 unfold yn at hk;split at hk
 .grind [ym]
 .split at hk
  .grind [pG]
  .split at hk
   .grind [xK]
   .split at hk
    .grind [w8]
    .exact mo hS hk
theorem v8(hS:SR N ds w0 g0 h0 st g a w){o k:Nat}{K:(Nat->HO)->Prop}(hk:azK st.h o k K):∃h' g',SR N ds w0 g0 h0 ⟨st.t,h'⟩ g' a w/\K h':=by
 have same:K st.h->∃h' g',SR N ds w0 g0 h0 ⟨st.t,h'⟩ g' a w/\K h':=fun hk=>⟨st.h,g,hS,hk⟩;unfold azK at hk;split at hk
 .rename_i cs e0;split at hk
  .rename_i r n e1;split at hk
   .rename_i sz es e2;obtain⟨rfl,hk⟩:=hk;have Ef:o≠r:=fun e=>by simp_all
    obtain⟨g1,i1,i2,i3,i4⟩:=XQ hS.inv e2;have ho:=i1.objs o;rw[BR _ _ _ _ Ef,e0]at ho;obtain⟨t1,b,E,vs,a1,a2,a3,a4,a5⟩:=ho;have hl:(AO st.h r (.tok sz es.length) o).live:=by rw[BR _ _ _ _ Ef,e0];trivial
    have Zk:=UL cs k _ _ e1;have Yr:=hS.inv.objs o;rw[e0]at Yr;obtain⟨_,b',E',lC,a1',a2',a3',a4',_⟩:=Yr
    obtain⟨k1,k2⟩:=i1.upd o (.cells (E2 cs k (.slice (.id r sz) es))) (g1.ρ o) (g1.ln o) (g1.tk o) (g1.own o) g1.S w none ⟨rfl,rfl,rfl,Ao _⟩ (fun _ _ _=>rfl) (fun b e=>by cases e) (fun _ _ h=>h) (fun _ _ h=>.inl h)
     (fun b o e=>by cases e) (fun b' _ e=>⟨(i1.loc o b' hl e).1,.inl ⟨hl,e⟩⟩) Cl (fun _=>⟨rfl,Ao _,fun _=>rfl,fun _=>rfl⟩) (fun hg IN=>by
      obtain⟨u1,u2,u3,u4⟩:=Bo g1 o (g1.ρ o) (g1.ln o) (g1.tk o) (g1.own o) g1.S;have Mh:∀i,AJ (AO st.h r (.tok sz es.length)) i->AJ (AO (AO st.h r (.tok sz es.length)) o (.cells (E2 cs k (.slice (.id r sz) es)))) i:=fun i hi=>DG Cl i hi;refine⟨u3.trans t1,b,E,vs,u4.trans a1,u1.trans a2,a3,⟨by rw[K6];exact a4.1,a4.2.1,fun i av x q1 q2=>?_⟩,a5⟩;rcases KZ cs k _ i av q1 with ⟨rfl,rfl⟩ | q
      .have hx:=a4.2.2 i _ x Zk q2;have nT:x=g.ρ r:=by
        have gj:=i2.gh o (by grind [AJ]);have gp:vs=lC:=by
         simp_all
        subst gp
        have:=a4'.2.2 i _ x Zk q2
        grind [cases Ba]
       grind [Ba.mono]
      .exact(a4.2.2 i av x q q2).mono IN Mh hg)
    exact⟨_,_,⟨k1,hS.le.trans (i2.trans k2),hS.dfs,hS.size,fun i=>((hS.slots i).le i2).le k2⟩,hk⟩
   simp_all
  simp_all
 simp_all
theorem vQ{K:St->Prop}(hS:SR N ds w0 g0 h0 st g a w)(hk:akK cx o st K):∃EM g',SR N ds w0 g0 h0 EM g' a w/\K EM:=by
 have same:K st->∃EM g',SR N ds w0 g0 h0 EM g' a w/\K EM:=fun hk=>⟨st,g,hS,hk⟩;unfold akK at hk;split at hk
 .simp_all
 .split at hk
  .simp_all
  .rename_i s _;split at hk
   .rename_i r n ht;split at hk
    .rename_i sz es hr;obtain⟨hn,hk⟩:=hk;subst hn;have hI:=hS.inv;have ho:=hI.objs r;rw[hr]at ho;obtain⟨t1,l1,al,a2⟩:=ho;have hl:(st.h r).live:=by rw[hr];trivial
     have VH:=hS.slots s;rw[ht]at VH;have hval:a.tmps.getD s undef=g.ρ r:=by
      grind [cases Ba]
     have fin:∀g',CU w0 g0 h0 (AO st.h r (.tok sz es.length)) g' w->Le st.h g w (AO st.h r (.tok sz es.length)) g' w->Ba g' w (AJ (AO st.h r (.tok sz es.length))) (.slice (.id r sz) es) (g.ρ r) ->
       ∃EM g',SR N ds w0 g0 h0 EM g' a w/\K EM:=fun g' i1 i2 i3=>by
      refine⟨_,g',⟨i1,hS.le.trans i2,hS.dfs,hS.size,fun i=>?_⟩,hk⟩
      grind [JU,DK,Ba.le,SR.slots]
     rcases a2 with ⟨b1,b2,b3⟩ | ⟨b,cap,E,vs,b1,b2,b3,b4,b5,b6,b7⟩
     .subst b1
      obtain⟨k1,k2⟩:=hI.upd r (.tok sz 0) (g.ρ r) (g.ln r) (g.tk r) (g.own r) g.S w none ⟨rfl,rfl,rfl,Ao _⟩ (fun _ _ _=>rfl) (fun b e=>by cases e) (fun _ _ h=>h) (fun _ _ h=>.inl h)
       (fun b o e=>by cases e) (fun b' _ e=>⟨(hI.loc r b' hl e).1,.inl ⟨hl,e⟩⟩) Cl (fun _=>⟨rfl,Ao _,fun _=>rfl,fun _=>rfl⟩) (fun hg hk=>by
        obtain⟨u1,u2,u3,u4⟩:=Bo g r (g.ρ r) (g.ln r) (g.tk r) (g.own r) g.S;exact⟨u3.trans t1,u2.trans l1,none,0,u1.trans b2,.inl ⟨rfl,u4.trans b3⟩⟩)
      refine fin _ k1 k2 ?_;rw[b2];exact .tok _ r sz [] _ (.snil _ _ _) Cl (by unfold AJ;rw[A5];simp) (by simp[Gh.upd,t1]) Cl (fun _=>by simp[Gh.upd])
     .have EU:=(hI.loc r b hl b2).1
      obtain⟨k1,k2⟩:=hI.upd r (.tok sz es.length) (g.ρ r) (g.ln r) (g.tk r) (g.own r) (g.more b (es.length*sz)) w none ⟨rfl,rfl,rfl,Ao _⟩ (fun _ _ _=>rfl) (fun b e=>by cases e) (fun _ _ h=>.inl h)
       (fun b' o hs=>hs.elim .inl (fun hs=>.inr ⟨by omega,.inr ⟨hl,by simp_all⟩⟩)) (fun b o e=>by cases e) (fun b' _ e=>⟨(hI.loc r b' hl e).1,.inl ⟨hl,e⟩⟩) Cl
       (fun _=>⟨rfl,Ao _,fun _=>rfl,fun _=>rfl⟩) (fun hg hk=>by
        obtain⟨u1,u2,u3,u4⟩:=Bo g r (g.ρ r) (g.ln r) (g.tk r) (g.own r) (g.more b (es.length*sz));exact⟨u3.trans t1,u2.trans l1,_,cap,u1.trans b1,.inr ⟨b3,b,E,vs,0,rfl,u4.trans b2,.of b4,by omega,fun o ho=>by
         rcases ho with ho | ⟨_,ho⟩<;>simp_all⟩⟩)
      refine fin _ k1 k2 ?_;rw[b1];exact .tok _ r sz es _ (Ba.slice_row b4 al b3 (b6.mono k2.keeps (fun _ h=>h) (fun _ h=>h.elim)) (fun o ho=>.inr ⟨rfl,ho⟩)) al (by grind [AJ,A5]) (by grind [Gh.upd]) (by grind [Gh.upd]) (fun _=>by simp[Gh.upd])
    simp_all
   simp_all
variable {cx:Cx}(hP:cx.P=P)(hT:Ca P cx.T)(hY:∀l σ h g w,EB σ=true->CU w0 g0 h0 h g w->Le h0 g0 w0 h g w->cx.yp l σ (DU σ g) w){ro:Option Nat}{ops:Array Oper}
include hP hT hY
theorem Tq{dr:Bool}{o:Oper}(hd:∀i,o.dst=some i->i<N){K:St->Prop}{next:Act->World->Prop}{Q:Exit->Act->World->Prop}(hS:SR N ds w0 g0 h0 st g a w)(hk:I1 cx dr ops.toList o st K)
  (hn:∀EM g' a' w',K EM->SR N ds w0 g0 h0 EM g' a' w'->next a' w'):if Region.wanted o (yielded ops a.tmps)then o.wpIn (J5 ro) 0 P a w next Q else next (a.put o.dst undef) w:=by
 have run:lN cx dr o st K->o.wpIn (J5 ro) 0 P a w next Q:=by
  intro hk;unfold lN at hk;split at hk
  .exact lO hP hY hT hS hk fun v h' g' w' x q1 q2 q3 q4=>hn _ g' _ _ q1 (hS.put hd q2 q3 q4)
  .obtain⟨g1,nA⟩:=pn (cx:=cx) (o:=o) hS;obtain⟨EM,g',Ue,hk⟩:=vQ nA hk;exact lO hP hY hT Ue hk fun v h' g' w' x q1 q2 q3 q4=>hn _ g' _ _ q1 (Ue.put hd q2 q3 q4)
 have skip:K (st.put o.dst (.v undef) st.h)->next (a.put o.dst undef) w:=fun hk=>hn _ g _ _ hk (hS.put hd hS.inv (.refl _ _ _) (.v _ _))
 unfold I1 at hk;split at hk
 .grind [Region.wanted]
 .rename_i j want hg;split at hk
  .simp_all
  .rename_i d hj;have hy:∀x:Value,Ba g w (AJ st.h) (st.t d) x->x=a.tmps.getD d undef->True:=fun _ _ _=>trivial;have hs:=hS.slots d;rw[WX]at hj;have key:∀b:Bool,a.tmps.getD d undef=.bool b->yielded ops a.tmps j=some b:=by
    intro b hb;have EU:d<a.tmps.size:=by
     apply Nat.lt_of_not_le;intro hge;rw[N1,Array.getElem?_eq_none hge]at hb;cases hb
    simp only[yielded,hj,Option.bind_some];simp_all
   have Al8:∀t,a.tmps.getD d undef=.tuple t->yielded ops a.tmps j=none:=by
    intro t hb;simp only[yielded,hj,Option.bind_some];cases he:a.tmps[d]?<;>simp_all
   grind [Region.wanted,Ba.v_eq]
theorem XO{Q:Exit->Act->World->Prop}{K:St->Prop}(hQ:∀EM g' a' w',K EM->SR N ds w0 g0 h0 EM g' a' w'->Q .normal a' w') :
  ∀(l:List Oper),(∀o∈l,∀i,o.dst=some i->i<N)->∀{st:St} {g:Gh} {a:Act} {w:World},SR N ds w0 g0 h0 st g a w->ZB cx ops.toList l st K->wpListIn (J5 ro) 0 P ops Q l a w
 | [],_,st,g,a,w,hS,hk=>hQ st g a w hk hS
 | [o],hd,st,g,a,w,hS,hk=>by
  have:=Tq hP hT hY (ro:=ro) (hd o (Ah ..)) (next:=wpListIn (J5 ro) 0 P ops Q []) (Q:=Q) hS hk fun EM g' a' w' q1 q2=>hQ EM g' a' w' q1 q2
  unfold wpListIn;split
  .simp_all
  .rename_i hw;rw[AA hw]at this;exact⟨fun _ _=>trivial,this⟩
 |o::o2::l,hd,st,g,a,w,hS,hk=>by
  cases hc:aO o o2 with
  |true=>
   have hk:ry cx o st fun EM=>ZB cx ops.toList l EM K:=by
    grind [ZB]
   obtain⟨g1,g2,h1⟩:=rz hT (ro:=ro) (o2:=o2) (hd o (Ah ..)) hc hS hk (next:=wpListIn (J5 ro) 0 P ops Q l) (Q:=Q) fun EM g' a' w' q1 q2=>XO hQ l (fun o' ho'=>hd o' (Am _ (Am _ ho'))) q2 q1
   unfold wpListIn;rw[Ax (by grind [Region.wanted])];have e:(fun(a1:Act) (w1:World)=>o2.wpIn (J5 ro) 0 P a1 w1 (wpListIn (J5 ro) 0 P ops Q l) Q)=wpListIn (J5 ro) 0 P ops Q (o2::l):=by
    grind [wpListIn,Region.wanted]
   simp_all
  |false=>
   have hk:I1 cx false ops.toList o st fun EM=>ZB cx ops.toList (o2::l) EM K:=by
    grind [ZB]
   have:=Tq hP hT hY (ro:=ro) (hd o (Ah ..)) (next:=wpListIn (J5 ro) 0 P ops Q (o2::l)) (Q:=Q) hS hk fun EM g' a' w' q1 q2=>XO hQ (o2::l) (fun o' ho'=>hd o' (Am _ ho')) q2 q1
   unfold wpListIn;split
   .simp_all
   .rename_i hw;rw[AA hw]at this;exact⟨fun _ _=>trivial,this⟩
theorem XJ{Q:Exit->Act->World->Prop}{K:St->Prop}{FT:Nat->FF}(hQ:∀EM g' a' w',K EM->SR N ds w0 g0 h0 EM g' a' w'->Q .normal a' w')(hd:∀(j:Nat) (o:Oper),ops[j]?=some o->∀i,o.dst=some i->i<N) :
  ∀(fuel:Nat) (listed:Array Bool) {st:St} {g:Gh} {a:Act} {w:World},SR N ds w0 g0 h0 st g a w->Zt cx ops FT K fuel listed st->wpAnyIn (J5 ro) 0 P .any ops Q fuel listed a w
 |0,_,st,g,a,w,hS,hk=>⟨hk.1,hQ st g a w hk.2 hS⟩
 |fuel+1,listed,st,g,a,w,hS,hk=>by
  refine⟨fun h0=>hQ st g a w (hk.1 h0) hS,fun i hi=>?_⟩;have h1:=hk.2 i hi;unfold zP at h1;unfold wpOpIn;cases ho:ops[i]? with
  |none=>rw[ho]at h1;exact XJ hQ hd fuel _ hS h1
  |some o=>
   rw[ho]at h1
   have:=Tq hP hT hY (ro:=ro) (hd i o ho) (next:=wpAnyIn (J5 ro) 0 P .any ops Q fuel (listed.setIfInBounds i true)) (Q:=Q) hS h1.2 fun EM g' a' w' q1 q2=>XJ hQ hd fuel _ q2 q1
   dsimp only;split
   .simp_all
   .rename_i hw;rw[AA hw]at this;exact⟨fun _ _=>trivial,this⟩
end
theorem Fs{r:Nat}(e:Sz h r=true):AJ h r:=by
 grind [Sz,AJ]
theorem Ba.ids0{x:Value}(r:Ba g w U av x)(e:ids0 h av=true):Ba g w (AJ h) av x:=by
 cases r with
 |v=>exact .v _ _
 |junk=>exact .junk _ _
 |snil=>grind [snil]
 |slice _ es b off sz cap val hc hl DM Ey=>exact .slice _ es b off sz cap val hc hl DM Ey
 |tok _ r sz es x hs hl hu ht hn hx=>exact .tok _ r sz es x ((Ba.slice_none hs).up _) hl (Fs e) ht hn hx
 |ver _ r sz v es x hs hl hu ht hn hx=>exact .ver _ r sz v es x ((Ba.slice_none hs).up _) hl (Fs e) ht hn hx
 |full _ sz es x hs hl hx=>grind [full,Ba.slice_none,up]
 |msl _ r n a cap hu ht hn ha hx=>exact .msl _ r n a cap (Fs e) ht hn ha hx
 |agg=>cases e
 |tup=>cases e
 |cptr _ cs b off val DM Ey=>exact .cptr _ cs b off val DM Ey
 |ref _ r off b hu ht hx=>exact .ref _ r off b (Fs e) ht hx
 |eref _ r n sz i off b cap hu ht hn hx=>exact .eref _ r n sz i off b cap (Fs e) ht hn hx
 |mref _ r b hu ht hx=>exact .mref _ r b (Fs e) ht hx
 |cmap _ sh BU b es ck hS hb hm hv=>grind [cmap]
 |clo=>cases e
theorem Ur(e:aJ h cs=true)(hi:cs[i]?=some av):ids0 h av=true:=by
 induction cs generalizing i<;>grind [aJ]
theorem nW(e:Yv h cs=true)(hi:cs[i]?=some av):Uq h av=true:=by
 induction cs generalizing i<;>grind [Yv]
theorem jG{BU:List (Value×AV)}(e:RQ h BU=true){kv:Value×AV}(hi:BU[i]?=some kv):Uq h kv.2=true:=by
 induction BU generalizing i<;>grind [RQ]
theorem Ba.ids{x:Value}(r:Ba g w U av x)(e:Uq h av=true):Ba g w (AJ h) av x:=by
 cases r with
 |agg _ cs vs hs h1 hr=>exact .agg _ cs vs hs h1 fun i av x q1 q2=>(hr i av x q1 q2).ids0 (Ur e q1)
 |tup _ cs vs hs hr=>exact .tup _ cs vs hs fun i av x q1 q2=>(hr i av x q1 q2).ids0 (Ur e q1)
 |clo _ f cs vs hs hr=>exact .clo _ f cs vs hs fun i av x q1 q2=>(hr i av x q1 q2).ids0 (Ur e q1)
 |v=>exact .v _ _
 |junk=>exact .junk _ _
 |snil=>grind [snil]
 |slice _ es b off sz cap val hc hl DM Ey=>exact .slice _ es b off sz cap val hc hl DM Ey
 |tok _ r sz es x hs hl hu ht hn hx=>exact .tok _ r sz es x ((Ba.slice_none hs).up _) hl (Fs e) ht hn hx
 |ver _ r sz v es x hs hl hu ht hn hx=>exact .ver _ r sz v es x ((Ba.slice_none hs).up _) hl (Fs e) ht hn hx
 |full _ sz es x hs hl hx=>grind [full,Ba.slice_none,up]
 |msl _ r n a cap hu ht hn ha hx=>exact .msl _ r n a cap (Fs e) ht hn ha hx
 |cptr _ cs b off val DM Ey=>exact .cptr _ cs b off val DM Ey
 |ref _ r off b hu ht hx=>exact .ref _ r off b (Fs e) ht hx
 |eref _ r n sz i off b cap hu ht hn hx=>exact .eref _ r n sz i off b cap (Fs e) ht hn hx
 |mref _ r b hu ht hx=>exact .mref _ r b (Fs e) ht hx
 |cmap _ sh BU b es ck hS hb hm hv=>grind [cmap]
theorem aU{st:St}{h:Nat->HO}:∀{l:List (Nat×AV)},leT st h l->∀i,TU l i=.junk\/(st.t i=TU l i/\Uq h (TU l i)=true)
 | [],_,i=>.inl rfl
 |(j,a)::l,⟨h1,h2⟩,i=>by
  unfold TU
  by_cases e:i=j
  .simp_all
  .simp only[DK e,F7];exact aU h2 i
theorem aT{st:St}{h hb:Nat->HO}(hhb:∀j,hb j=.free\/(st.h j=hb j/\SA h (hb j)=true)):∀{l:List (Nat×HO)},leH st h l->∀i,Ak l hb i=.free\/(st.h i=Ak l hb i/\SA h (Ak l hb i)=true)
 | [],_,i=>hhb i
 |(j,a)::l,⟨h1,h2⟩,i=>by
  unfold Ak
  by_cases e:i=j
  .simp_all
  .simp only[DK e,F7];exact aT hhb h2 i
def LP(cx:Cx)(h0:Nat->HO):Prop:=match cx.ext with | false=>∀i,h0 i=.free | true=>∀i,h0 i≠.free->1000<=i/\i<2000
section
variable {P:Program}{N:Nat}{ds:List Deferred}{w0:World}{g0:Gh}{h0:Nat->HO}{st:St}{g:Gh}{a:Act}{w:World}{cx:Cx}
theorem SR.weaken(hE:LP cx h0)(hS:SR N ds w0 g0 h0 st g a w){s:LS}(Jk:St.le cx st s):SR N ds w0 g0 h0 s.st g a w:=by
 obtain⟨h1,h2,h3,h4⟩:=Jk;have hT:=aU h1;have hH:∀i,s.st.h i=.free\/(st.h i=s.st.h i/\SA s.st.h (s.st.h i)=true):=aT h3 h2;have Kf:∀r,(s.st.h r).live->(st.h r).live:=fun r hl=>by
  rcases hH r with e | ⟨e,_⟩
  .rw[e]at hl;exact hl.elim
  simp_all
 have hI:=hS.inv;refine⟨⟨hI.os,hI.tape,hI.output,hI.size,hI.frame,hI.slt,fun r=>?_,fun r r' b l l'=>hI.inj r r' b (Kf r l) (Kf r' l'),fun r b l=>hI.loc r b (Kf r l),hI.sg,hI.glob⟩,⟨hS.le.gh,fun i hi=>?_,hS.le.keeps⟩,hS.dfs,hS.size,fun i=>?_⟩
 .rcases hH r with e | ⟨e,e2⟩
  .rw[e];trivial
  .have ho:=hI.objs r;rw[e]at ho;generalize s.st.h r=o at ho e2;cases o with
   |cells cs=>
    obtain⟨t,b,E,vs,a1,a2,a3,a4,a5⟩:=ho;exact⟨t,b,E,vs,a1,a2,a3,⟨a4.1,a4.2.1,fun i av x q1 q2=>(a4.2.2 i av x q1 q2).ids (nW e2 q1)⟩,a5⟩
   |hol sz es i c av=>
    obtain⟨t,l,al,b,cap,E,vs,b1,b2,b3,b4,b5,b6,b7,b8,x,b9,Wi⟩:=ho;exact⟨t,l,al,b,cap,E,vs,b1,b2,b3,b4,b5,b6,b7,b8,x,b9,Wi.ids e2⟩
   |bld x=>
    obtain⟨t,b,p,v,a1,a2,a3,a4,a5,a6⟩:=ho;exact⟨t,b,p,v,a1,a2,a3,a4,a5.ids e2,a6⟩
   |mapU sh BU=>
    obtain⟨t,b,es,ck,a1,a2,a3,a4,a5,a6⟩:=ho;exact⟨t,b,es,ck,a1,a2,a3,a4,fun i kv e q1 q2=>(a5 i kv e q1 q2).ids (jG e2 q1),a6⟩
   |_=>exact ho
 .have hu:=hS.le.us i hi;unfold LP at hE;split at hE
  .exact absurd (hE i) hi
  .rename_i hx;rw[hx]at h4;exact h4 i (hE i hi).1 (hE i hi).2 hu
 .show Ba g w (AJ s.st.h) (TU s.t i) _;rcases hT i with e | ⟨e,e2⟩
  .grind [Ba.junk]
  .rw[<-e]at e2⊢;exact(hS.slots i).ids e2
def Ex.real:Ex->Exit
 |.normal=>.normal
 |.exit id=>.exit id
 |.ret=>.ret
def Aai(N:Nat)(o:Oper):Bool:=match o.dst with | some d=>Nat.blt d N | none=>true
def EI(N:Nat):Code->Bool
 |.region _ ops _=>ops.toList.all (Aai N)
 |.seq a b=>EI N a&&EI N b
 |.cond _ a b=>EI N a&&EI N b
 |.block _ c=>EI N c
 |.loop c=>EI N c
 |_=>true
theorem N7(hP:cx.P=P)(hT:Ca P cx.T)(hm:P.follows .mixedOrders=true)(hE:LP cx h0)(hY:∀l σ h g w,EB σ=true->CU w0 g0 h0 h g w->Le h0 g0 w0 h g w->cx.yp l σ (DU σ g) w)(ro:Option Nat):∀(c:Code),EI N c=true->∀{Qa:Ex->St->Prop} {Q:Exit->Act->World->Prop},
  (∀e st g a w,Qa e st->SR N ds w0 g0 h0 st g a w->Q e.real a w)->∀{st:St} {g:Gh} {a:Act} {w:World},SR N ds w0 g0 h0 st g a w->Sq cx c Qa st->c.wpIn (J5 ro) 0 P Q a w:=by
 intro c
 induction c with
 |skip=>intro _ Qa Q hQ st g a w hS hk;exact wpIn_skip (hQ .normal _ _ _ _ hk hS)
 |label l=>intro _ Qa Q hQ st g a w hS hk;exact wpIn_label (hQ .normal _ _ _ _ hk hS)
 |exit id=>intro _ Qa Q hQ st g a w hS hk;exact wpIn_exit (hQ (.exit id) _ _ _ _ hk hS)
 |ret=>intro _ Qa Q hQ st g a w hS hk;exact wpIn_ret (hQ .ret _ _ _ _ hk hS)
 |region id ops dr=>
  intro hc Qa Q hQ st g a w hS hk;have hd:∀o∈ops.toList,∀i,o.dst=some i->i<N:=fun o ho i hi=>by
   have:=(AS.1 hc) o ho
   grind [Aai,Nat.blt_eq]
  have go:∀(st:St) (g:Gh) (hS:SR N ds w0 g0 h0 st g a w) (zi : Cx),zi.P=P->Ca P zi.T->zi.yp=cx.yp->M1 zi ops dr st (Qa .normal)->(Code.region id ops dr).wpIn (J5 ro) 0 P Q a w:=by
   intro st g hS zi hP hT hy hk;have hY:∀l σ h g w,EB σ=true->CU w0 g0 h0 h g w->Le h0 g0 w0 h g w->zi.yp l σ (DU σ g) w:=by rw[hy];exact hY
   unfold M1 at hk;split at hk
   .exact wpIn_region_list (XO hP hT hY (fun EM g' a' w' q1 q2=>hQ .normal _ _ _ _ q1 q2) ops.toList hd hS hk)
   .obtain⟨_,FT,hk⟩:=iG hk;obtain⟨i1,i2⟩:=hS.inv.heapEq (w':={ w with drawn:=w.drawn+1 }) ⟨rfl,rfl,rfl⟩ rfl;have Ue : SR N ds w0 g0 h0 st g a { w with drawn:=w.drawn+1 }:=⟨i1,hS.le.trans i2,hS.dfs,hS.size,fun i=>(hS.slots i).le i2⟩;exact wpIn_region_any hm (XJ hP hT hY (fun EM g' a' w' q1 q2=>hQ .normal _ _ _ _ q1 q2) (fun j o ho=>hd o aa0) _ _ Ue hk)
  have go2:∀(st:St) (g:Gh) (hS:SR N ds w0 g0 h0 st g a w),(match cx.pl.dyn with | []=>M1 cx ops dr st (Qa .normal) | _=>∃n,M1 { cx with nid:=n } ops dr st (Qa .normal))->(Code.region id ops dr).wpIn (J5 ro) 0 P Q a w:=by
   grind
  unfold Sq Aah at hk;split at hk
  .split at hk
   .split at hk
    .split at hk
     .obtain⟨h',g',Ue,s,h1,h2⟩:=tY hS hk;exact go2 s.st _ (Ue.weaken hE h1) h2
     .obtain⟨h',g',Ue,s,h1,h2⟩:=vS hS hk;exact go2 s.st _ (Ue.weaken hE h1) h2
    .obtain⟨EM,g',Ue,s,h1,h2⟩:=vX hS hk;exact go2 s.st _ (Ue.weaken hE h1) h2
   .obtain⟨h',g',Ue,s,h1,h2⟩:=v8 hS hk;exact go2 s.st _ (Ue.weaken hE h1) h2
  grind
 |seq x y ihx ihy=>
  intro hc Qa Q hQ st g a w hS hk;simp only[EI,At]at hc;refine wpIn_seq (ihx hc.1 (Qa:=fun e EM=>match e with | .normal=>Sq cx y Qa EM | e=>Qa e EM) (fun e st g a w q hS=>?_) hS hk);cases e with
  |normal=>exact ihy hc.2 hQ hS q
  |exit id=>exact hQ (.exit id) _ _ _ _ q hS
  |ret=>exact hQ .ret _ _ _ _ q hS
 |cond c x y ihx ihy=>
  intro hc Qa Q hQ st g a w hS hk;simp only[EI,At]at hc;have hr:=hS.eval c
  grind [wpIn_cond_true,wpIn_cond_false,Ba.v_eq,Sq]
 |block id c ih=>
  intro hc Qa Q hQ st g a w hS hk;refine wpIn_block (ih hc (Qa:=fun e EM=>match e with | .exit j=>(bif Nat.beq j id then Qa .normal EM else Qa (.exit j) EM) | e=>Qa e EM) (fun e st g a w q hS=>?_) hS hk);cases e with
  |normal=>exact hQ .normal _ _ _ _ q hS
  |ret=>exact hQ .ret _ _ _ _ q hS
  |exit j=>
   show(if j=id then Q .normal a w else Q (.exit j) a w);dsimp only at q
   by_cases e:j=id
   .rw[Ax e];rw[e,Nat.beq_refl,cond_true]at q;exact hQ .normal _ _ _ _ q hS
   .rw[AA e];rw[DK e,F7]at q;exact hQ (.exit j) _ _ _ _ q hS
 |loop c ih=>
  intro hc Qa Q hQ st g a w hS hk;obtain⟨α,I,μ,⟨x,hx⟩,AaD⟩:=hk;refine SH (fun n a w=>∃x g,μ x=n/\SR N ds w0 g0 h0 (I x).st g a w) (μ x) ⟨x,g,rfl,hS.weaken hE hx⟩ ?_
  rintro n a w ⟨x,g,rfl,hS⟩
  refine ih hc (Qa:=fun e EM=>match e with | .normal=>∃y,μ y<μ x/\St.le cx EM (I y) | e=>Qa e EM) (fun e st g a w q hS=>?_) hS (AaD x);cases e with
  |normal=>
   obtain⟨y,q1,q2⟩:=q;exact⟨μ y,q1,y,g,rfl,hS.weaken hE q2⟩
  |exit id=>exact hQ (.exit id) _ _ _ _ q hS
  |ret=>exact hQ .ret _ _ _ _ q hS
 |_=>intro _ Qa Q hQ st g a w hS hk;exact hk.elim
end
end Go.Eng
