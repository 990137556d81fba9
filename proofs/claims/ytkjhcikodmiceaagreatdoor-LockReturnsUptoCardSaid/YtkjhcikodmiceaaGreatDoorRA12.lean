/- Lemmas 12. -/
import Derived.Test.YtkjhcikodmiceaaGreatDoorRA11
import Derived.Deep.LoopGhost
namespace Go.Eng
variable {h:Nat->HO}{U:Nat->Prop}{cx:Cx}{av:AV}{cs:List AV}{i:Nat}{w:World}{o:Oper}{g:Gh}
section
variable {P:Program}{N:Nat}{ds:List Deferred}{w0:World}{g0:Gh}{h0 h:Nat->HO}{st:St}{g:Gh}{a:Act}{w:World}
theorem bF(hI:CA w0 g0 h0 h g w)(r:Nat):∃g',CA w0 g0 h0 (iB h r) g' w/\Le h g w (iB h r) g' w:=by
 unfold iB;split
 .rename_i cs e0;have ho:=hI.objs r;rw[e0]at ho;obtain⟨t1,b,E,vs,a1,a2,a3,a4,a5⟩:=ho;have hl:(h r).live:=by rw[e0];trivial
  have BW:=(hI.loc r b hl a1).1;have hs:=Pf hI a4
  obtain⟨k1,k2⟩:=hI.upd r (.ro (cs.map (str h))) (g.ρ r) (g.ln r) (g.tk r) none (g.more b cs.length) w none ⟨rfl,rfl,rfl,Ai _⟩ (fun _ _ _=>rfl) (fun b e=>by cases e) (fun _ _ h=>.inl h)
   (fun b' o hs=>hs.elim .inl (fun hs=>.inr ⟨by rw[hs.1];exact BW,.inr ⟨hl,by rw[hs.1];exact a1⟩⟩)) (fun b o e=>by cases e) (fun b hh _=>by cases hh) aa0
   (fun _=>⟨rfl,Ai _,fun _=>rfl,fun _=>rfl⟩) (fun hg hk=>by
    obtain⟨u1,u2,u3,u4⟩:=Bl g r (g.ρ r) (g.ln r) (g.tk r) none (g.more b cs.length);exact⟨u3.trans t1,b,u1.trans a2,A3.cptr_row a3 (hs.mono hk (fun _ h=>h) (fun _ h=>h.elim)) (fun o ho=>.inr ⟨rfl,by simpa using ho⟩)⟩)
  exact⟨_,k1,k2⟩
 .rename_i sh BU e0;have ho:=hI.objs r;rw[e0]at ho;obtain⟨t1,b,es,ck,a1,a2,a3,a4,a5,a6⟩:=ho<;>grind [QU]
 .rename_i sh BU e0;have ho:=hI.objs r;rw[e0]at ho;obtain⟨t1,b,es,ck,a1,a2,a3,a4,a5,a6⟩:=ho<;>grind [Ws]
 grind [Le.refl]
theorem Mt:∀(l:List Nat) {h:Nat->HO} {g:Gh},CA w0 g0 h0 h g w->∃g',CA w0 g0 h0 (Oy h l) g' w/\Le h g w (Oy h l) g' w
 | [],_,g,hI=>⟨g,hI,.refl _ _ _⟩
 |r::l,_,_,hI=>
  let ⟨_,i1,i2⟩:=bF hI r
  let ⟨g2,j1,j2⟩:=Mt l i1
  ⟨g2,j1,i2.trans j2⟩
theorem J9:∀(cs:List AV) (k:Nat) (v:AV) (i:Nat) (av:AV),(Ei cs k v)[i]?=some av->(i=k/\av=v)\/cs[i]?=some av
 | [],_,_,_,_,h=>by grind [Ei]
 |c::cs,0,v,i,av,h=>by
  grind [Ei]
 |c::cs,k+1,v,i,av,h=>by
  unfold Ei at h;cases i with
  |zero=>simp_all
  |succ i=>
   rcases J9 cs k v i av (by simpa using h)with ⟨e1,e2⟩ | e<;>simp_all
theorem Ka:∀(cs:List AV) (k:Nat) (v:AV),(Ei cs k v).length=cs.length
 | [],_,_=>rfl
 |_::_,0,_=>rfl
 |_::cs,k+1,v=>by unfold Ei;simp[Ka cs k v]
theorem Yn:∀(cs:List AV) (k:Nat) (x:Value),IP cs k=.v x->cs[k]?=some (.v x)
 | [],_,_,h=>by grind [IP]
 |_::_,0,_,h=>by grind [IP]
 |_::cs,k+1,x,h=>by unfold IP at h;simpa using Yn cs k x h
theorem ru(hI:CA w0 g0 h0 h g w)(r k j sz:Nat):∃g',CA w0 g0 h0 (wQ h r k j sz) g' w/\Le h g w (wQ h r k j sz) g' w:=by
 have same:∃g',CA w0 g0 h0 h g' w/\Le h g w h g' w:=⟨g,hI,.refl _ _ _⟩;unfold wQ;split
 .rename_i cs e0;split
  .rename_i e1;split
   .rename_i hj;have CU:r≠j:=fun e=>by simp_all
    obtain⟨g1,i1,i2,i3⟩:=NN hI (sz:=sz) (es:=[]) (a:=none) hj aa0 rfl (.snil _ _ _);have ho:=i1.objs r;rw[BQ _ _ _ _ CU,e0]at ho;obtain⟨t1,b,E,vs,a1,a2,a3,a4,a5⟩:=ho;have hl:(AP h j (.tok sz 0) r).live:=by rw[BQ _ _ _ _ CU,e0];trivial
    have BW:=(i1.loc r b hl a1).1;have We:=Yn cs k _ e1
    obtain⟨k1,k2⟩:=i1.upd r (.cells (Ei cs k (.slice (.id j sz) []))) (g1.ρ r) (g1.ln r) (g1.tk r) (g1.own r) g1.S w none ⟨rfl,rfl,rfl,Ai _⟩ (fun _ _ _=>rfl) (fun b e=>by cases e) (fun _ _ h=>h) (fun _ _ h=>.inl h)
     (fun b o e=>by cases e) (fun b' _ e=>⟨(i1.loc r b' hl e).1,.inl ⟨hl,e⟩⟩) aa0 (fun _=>⟨rfl,Ai _,fun _=>rfl,fun _=>rfl⟩) (fun hg hk=>by
      obtain⟨u1,u2,u3,u4⟩:=Bl g1 r (g1.ρ r) (g1.ln r) (g1.tk r) (g1.own r) g1.S;have LQ:∀i,AI (AP h j (.tok sz 0)) i->AI (AP (AP h j (.tok sz 0)) r (.cells (Ei cs k (.slice (.id j sz) [])))) i:=fun i hi=>Do aa0 i hi;refine⟨u3.trans t1,b,E,vs,u4.trans a1,u1.trans a2,a3,⟨by rw[Ka];exact a4.1,a4.2.1,fun i av x q1 q2=>?_⟩,a5⟩;rcases J9 cs k _ i av q1 with ⟨rfl,rfl⟩ | q
      .have:=(a4.2.2 i _ x We q2).v_eq
       subst this;exact i3.mono hk LQ hg
      .exact(a4.2.2 i av x q q2).mono hk LQ hg)
    exact⟨_,k1,i2.trans k2⟩
   omega
  omega
 omega
theorem jY(hS:SR N ds w0 g0 h0 st g a w):∃g',SR N ds w0 g0 h0 (jX cx o st) g' a w:=by
 unfold jX;split
 .grind
 .rename_i d _;split
  .obtain⟨g',h1,h2⟩:=ru hS.inv _ _ _ _;exact⟨g',h1,hS.le.trans h2,hS.dfs,hS.size,fun i=>(hS.slots i).le h2⟩
  split
  .grind
  .obtain⟨g',h1,h2⟩:=Mt (py cx.pl.fz d) hS.inv;exact⟨g',h1,hS.le.trans h2,hS.dfs,hS.size,fun i=>(hS.slots i).le h2⟩
theorem Ts:∀(cs:List AV) (k:Nat) (r n:Nat),IP cs k=.msl r n->cs[k]?=some (.msl r n)
 | [],_,_,_,h=>by grind [IP]
 |_::_,0,_,_,h=>by grind [IP]
 |_::cs,k+1,r,n,h=>by unfold IP at h;simpa using Ts cs k r n h
theorem VK(hI:CA w0 g0 h0 h g w){r sz:Nat}{es:List (List AV)}(hr:h r=.arr sz es) :
  ∃g',CA w0 g0 h0 (AP h r (.tok sz es.length)) g' w/\Le h g w (AP h r (.tok sz es.length)) g' w/\A3 g' w (AI (AP h r (.tok sz es.length))) (.slice (.id r sz) es) (g.ρ r)/\g.ln r=es.length:=by
 have ho:=hI.objs r;rw[hr]at ho;obtain⟨t1,l1,al,a2⟩:=ho;have hl:(h r).live:=by rw[hr];trivial
 rcases a2 with ⟨b1,b2,b3⟩ | ⟨b,cap,E,vs,b1,b2,b3,b4,b5,b6,b7⟩
 .subst b1
  obtain⟨k1,k2⟩:=hI.upd r (.tok sz 0) (g.ρ r) (g.ln r) (g.tk r) (g.own r) g.S w none ⟨rfl,rfl,rfl,Ai _⟩ (fun _ _ _=>rfl) (fun b e=>by cases e) (fun _ _ h=>h) (fun _ _ h=>.inl h)
   (fun b o e=>by cases e) (fun b' _ e=>⟨(hI.loc r b' hl e).1,.inl ⟨hl,e⟩⟩) aa0 (fun _=>⟨rfl,Ai _,fun _=>rfl,fun _=>rfl⟩) (fun hg hk=>by
    obtain⟨u1,u2,u3,u4⟩:=Bl g r (g.ρ r) (g.ln r) (g.tk r) (g.own r) g.S;exact⟨u3.trans t1,u2.trans l1,none,0,u1.trans b2,.inl ⟨rfl,u4.trans b3⟩⟩)
  refine⟨_,k1,k2,?_,l1⟩;rw[b2];exact .tok _ r sz [] _ (.snil _ _ _) aa0 (by unfold AI;rw[A0,A2];simp) (by simp[Gh.upd,t1]) aa0 (fun _=>by simp[Gh.upd])
 .have BW:=(hI.loc r b hl b2).1
  obtain⟨k1,k2⟩:=hI.upd r (.tok sz es.length) (g.ρ r) (g.ln r) (g.tk r) (g.own r) (g.more b (es.length*sz)) w none ⟨rfl,rfl,rfl,Ai _⟩ (fun _ _ _=>rfl) (fun b e=>by cases e) (fun _ _ h=>.inl h)
   (fun b' o hs=>hs.elim .inl (fun hs=>.inr ⟨by omega,.inr ⟨hl,by simp_all⟩⟩)) (fun b o e=>by cases e) (fun b' _ e=>⟨(hI.loc r b' hl e).1,.inl ⟨hl,e⟩⟩) aa0
   (fun _=>⟨rfl,Ai _,fun _=>rfl,fun _=>rfl⟩) (fun hg hk=>by
    obtain⟨u1,u2,u3,u4⟩:=Bl g r (g.ρ r) (g.ln r) (g.tk r) (g.own r) (g.more b (es.length*sz));exact⟨u3.trans t1,u2.trans l1,_,cap,u1.trans b1,.inr ⟨b3,b,E,vs,0,rfl,u4.trans b2,.of b4,by omega,fun o ho=>by
     rcases ho with ho | ⟨_,ho⟩<;>simp_all⟩⟩)
  refine⟨_,k1,k2,?_,l1⟩;rw[b1];exact .tok _ r sz es _ (A3.slice_row b4 al b3 (b6.mono k2.keeps (fun _ h=>h) (fun _ h=>h.elim)) (fun o ho=>.inr ⟨rfl,ho⟩)) al (by grind [AI,A2]) (by grind [Gh.upd]) (by grind [Gh.upd]) (fun _=>by simp[Gh.upd])
theorem CA.move{w0:World}{g0:Gh}{h0 h:Nat->HO}{g:Gh}{w:World}(hI:CA w0 g0 h0 h g w)(r r2:Nat)(CU:r2≠r)(hf:h r2=.free)(hl:(h r).live){b:Nat}(ho:g.own r=some b)(o' : HO)(x:Value)(n:Nat)(t:Bool)(hn:o'≠.free)
  (Li:D2 g w (g.upd r2 x n t (some b) g.S) w->DD (g.upd r2 x n t (some b) g.S) w (AI (AP (AP h r .dead) r2 o')) r2 o') :
  CA w0 g0 h0 (AP (AP h r .dead) r2 o') (g.upd r2 x n t (some b) g.S) w/\Le h g w (AP (AP h r .dead) r2 o') (g.upd r2 x n t (some b) g.S) w:=by
 have iL:JA g (g.upd r2 x n t (some b) g.S) (AI h):=by
  intro i hi;have e:i≠r2:=fun e=>hi Wk
  grind [Gh.upd]
 have hK:D2 g w (g.upd r2 x n t (some b) g.S) w:=fun b o hb=>⟨hb,rfl,fun _ _ h=>h⟩;have LQ:∀i,AI h i->AI (AP (AP h r .dead) r2 o') i:=fun i hi=>Do hn i (Do aa0 i hi);have key:∀i,i≠r2->(AP (AP h r .dead) r2 o' i).live->i≠r/\(h i).live:=fun i h2 hl=>by
  rw[BQ _ _ _ _ h2]at hl
  by_cases e:i=r
  .subst e;rw[A2]at hl;exact hl.elim
  grind [BQ]
 have own:∀i,i≠r2->(g.upd r2 x n t (some b) g.S).own i=g.own i:=fun i e=>by simp[Gh.upd,e]
 have jO:(g.upd r2 x n t (some b) g.S).own r2=some b:=by simp[Gh.upd]
 refine⟨⟨hI.os,hI.tape,hI.output,hI.size,hI.frame,hI.slt,fun i=>?_,fun i j c hi hj ei ej=>?_,fun i c hi ei=>?_,hI.sg,hI.glob.keep hK⟩,iL,LQ,hK⟩
 .by_cases e:i=r2
  .grind [A2]
  .rw[BQ _ _ _ _ e]
   by_cases e1:i=r
   .subst e1;rw[A2];trivial
   .rw[BQ _ _ _ _ e1];exact(hI.objs i).same hK LQ iL (by simp[Gh.upd,e]) (by simp[Gh.upd,e]) (by simp[Gh.upd,e]) Wk (fun b hl hb=>⟨rfl,fun k hk=>hk⟩)
 .grind [CA.inj]
 .by_cases e1:i=r2
  .subst e1;rw[jO]at ei;cases ei;exact hI.loc r _ hl ho
  .rw[own i e1]at ei;exact hI.loc i c (key i e1 hi).2 ei
theorem px(hS:SR N ds w0 g0 h0 st g a w){s k:Nat}{K:St->Prop}(hk:wY st s k K):∃Ef g',SR N ds w0 g0 h0 Ef g' a w/\K Ef:=by
 have same:K st->∃Ef g',SR N ds w0 g0 h0 Ef g' a w/\K Ef:=fun hk=>⟨st,g,hS,hk⟩;unfold wY at hk;split at hk
 .rename_i r n ht;have JZ:=hS.slots s;rw[ht]at JZ;split at hk
  .rename_i sz es hr;have ho:=hS.inv.objs r;rw[hr]at ho;obtain⟨t1,l1,al,a2⟩:=ho;have hl:(st.h r).live:=by rw[hr];trivial
   have hval:n=es.length->a.tmps.getD s undef=g.ρ r:=fun hn=>by
    grind [cases A3]
   have fin:∀(h' : Nat->HO) (v:AV) (g' : Gh),CA w0 g0 h0 h' g' w->Le st.h g w h' g' w->A3 g' w (AI h') v (a.tmps.getD s undef)->SR N ds w0 g0 h0 ⟨I9 st.t s v,h'⟩ g' a w:=fun h' v g' i1 i2 i3=>by
    grind [I9,Dx,SR.mk,Le.trans,SR.le,SR.dfs,SR.size,A3.le,SR.slots]
   split at hk
   .obtain⟨hn,hk⟩:=hk;obtain⟨g1,i1,i2,i3,i4⟩:=VK hS.inv hr
    obtain⟨k1,k2⟩:=i1.upd r .dead (g1.ρ r) (g1.ln r) (g1.tk r) (g1.own r) g1.S w none ⟨rfl,rfl,rfl,Ai _⟩ (fun _ _ _=>rfl) (fun b e=>by cases e) (fun _ _ h=>h) (fun _ _ h=>.inl h) (fun b o e=>by cases e) (fun b hh _=>by cases hh) aa0
     (fun _=>⟨rfl,Ai _,fun _=>rfl,fun _=>rfl⟩) (fun _ _=>trivial)
    exact⟨_,_,fin _ _ _ k1 (i2.trans k2) (by grind [A3.le,A3.up,A3.slice_none]),hk⟩
   .rename_i k;split at hk
    .simp_all
    .rename_i hb;have CU:k+1≠r:=fun e=>by simp_all
     split at hk
     .rename_i hf;obtain⟨hn,hk⟩:=hk;rcases a2 with ⟨b1,b2,b3⟩ | ⟨b,cap,E,vs,b1,b2,b3,b4,b5,b6,b7⟩
      .subst b1;have hv:=hval hn
       obtain⟨k1,k2⟩:=hS.inv.upd r .dead (g.ρ r) (g.ln r) (g.tk r) (g.own r) g.S w none ⟨rfl,rfl,rfl,Ai _⟩ (fun _ _ _=>rfl) (fun b e=>by cases e) (fun _ _ h=>h) (fun _ _ h=>.inl h) (fun b o e=>by cases e) (fun b hh _=>by cases hh) aa0
        (fun _=>⟨rfl,Ai _,fun _=>rfl,fun _=>rfl⟩) (fun _ _=>trivial)
       have yI:AP st.h r .dead (k+1)=.free:=by grind [BQ]
       obtain⟨m1,m2⟩:=k1.upd (k+1) (.arr sz []) (.slice none 0 0) 0 true none (g.upd r (g.ρ r) (g.ln r) (g.tk r) (g.own r) g.S).S w none ⟨rfl,rfl,rfl,Ai _⟩ (fun _ _ _=>rfl) (fun b e=>by cases e) (fun _ _ h=>h) (fun _ _ h=>.inl h) (fun b o e=>by cases e) (fun b _ e=>by cases e) aa0
        (fun hu=>absurd yI hu) (fun _ _=>by
         obtain⟨u1,u2,u3,u4⟩:=Bl (g.upd r (g.ρ r) (g.ln r) (g.tk r) (g.own r) g.S) (k+1) (.slice none 0 0) 0 true none (g.upd r (g.ρ r) (g.ln r) (g.tk r) (g.own r) g.S).S;exact⟨u3,u2,by simp,.inl ⟨rfl,u1,u4⟩⟩)
       refine⟨_,_,fin _ _ _ m1 (k2.trans m2) ?_,hk⟩;rw[hv,b2,hn];exact .msl _ (k+1) 0 none 0 (by grind [AI,A2]) (by simp[Gh.upd]) (Ao _) (.inl rfl) (fun _=>by simp[Gh.upd])
      .have hv:=hval hn;obtain⟨m1,m2⟩:=hS.inv.move r (k+1) CU hf hl b2 (.arr sz es) (g.ρ r) es.length true aa0 (fun If=>by
        obtain⟨u1,u2,u3,u4⟩:=Bl g (k+1) (g.ρ r) es.length true (some b) g.S;exact⟨u3,u2,al,.inr ⟨b,cap,E,vs,u1.trans b1,u4,b3,b4,b5,b6.mono If (fun _ h=>h) (fun _ h=>h.elim),b7⟩⟩)
       refine⟨_,_,fin _ _ _ m1 m2 ?_,hk⟩;rw[hv,b1,hn];exact .msl _ (k+1) es.length _ cap (by grind [AI,A2]) (by simp[Gh.upd]) (by simp[Gh.upd]) (.inr ⟨b,rfl⟩) (fun _=>by simp[Gh.upd])
     simp_all
  simp_all
 simp_all
theorem pt(hS:SR N ds w0 g0 h0 st g a w){o k j:Nat}{K:(Nat->HO)->Prop}(hk:wX st.h o k j K):∃h' g',SR N ds w0 g0 h0 ⟨st.t,h'⟩ g' a w/\K h':=by
 unfold wX at hk;split at hk
 .rename_i cs e0;split at hk
  .rename_i r n e1;split at hk
   .rename_i sz es e2;split at hk
    .rename_i hf;obtain⟨hn,hk⟩:=hk;have ho:=hS.inv.objs r;rw[e2]at ho;obtain⟨t1,l1,al,a2⟩:=ho;have hl:(st.h r).live:=by rw[e2];trivial
     have CU:j≠r:=fun e=>by simp_all
     have rR:o≠r:=fun e=>by simp_all
     have qx:o≠j:=fun e=>by simp_all
     -- the array goes to the new id,which stands for the same slice
     have step:∃g1,CA w0 g0 h0 (AP (AP st.h r .dead) j (.arr sz es)) g1 w/\Le st.h g w (AP (AP st.h r .dead) j (.arr sz es)) g1 w/\g1.tk j=true/\g1.ln j=es.length/\g1.ρ j=g.ρ r:=by
      rcases a2 with ⟨b1,b2,b3⟩ | ⟨b,cap,E,vs,b1,b2,b3,b4,b5,b6,b7⟩
      .subst b1
       obtain⟨k1,k2⟩:=hS.inv.upd r .dead (g.ρ r) (g.ln r) (g.tk r) (g.own r) g.S w none ⟨rfl,rfl,rfl,Ai _⟩ (fun _ _ _=>rfl) (fun b e=>by cases e) (fun _ _ h=>h) (fun _ _ h=>.inl h) (fun b o e=>by cases e) (fun b hh _=>by cases hh) aa0
        (fun _=>⟨rfl,Ai _,fun _=>rfl,fun _=>rfl⟩) (fun _ _=>trivial)
       have yI:AP st.h r .dead j=.free:=by grind [BQ]
       obtain⟨m1,m2⟩:=k1.upd j (.arr sz []) (.slice none 0 0) 0 true none (g.upd r (g.ρ r) (g.ln r) (g.tk r) (g.own r) g.S).S w none ⟨rfl,rfl,rfl,Ai _⟩ (fun _ _ _=>rfl) (fun b e=>by cases e) (fun _ _ h=>h) (fun _ _ h=>.inl h) (fun b o e=>by cases e) (fun b _ e=>by cases e) aa0
        (fun hu=>absurd yI hu) (fun _ _=>by
         obtain⟨u1,u2,u3,u4⟩:=Bl (g.upd r (g.ρ r) (g.ln r) (g.tk r) (g.own r) g.S) j (.slice none 0 0) 0 true none (g.upd r (g.ρ r) (g.ln r) (g.tk r) (g.own r) g.S).S;exact⟨u3,u2,by simp,.inl ⟨rfl,u1,u4⟩⟩)
       exact⟨_,m1,k2.trans m2,by simp[Gh.upd],by simp[Gh.upd],by simp[Gh.upd,b2]⟩
      .obtain⟨m1,m2⟩:=hS.inv.move r j CU hf hl b2 (.arr sz es) (g.ρ r) es.length true aa0 (fun If=>by
        obtain⟨u1,u2,u3,u4⟩:=Bl g j (g.ρ r) es.length true (some b) g.S;exact⟨u3,u2,al,.inr ⟨b,cap,E,vs,u1.trans b1,u4,b3,b4,b5,b6.mono If (fun _ h=>h) (fun _ h=>h.elim),b7⟩⟩)
       exact⟨_,m1,m2,by simp[Gh.upd],by simp[Gh.upd],by simp[Gh.upd]⟩
     obtain⟨g1,i1,i2,j1,j2,j3⟩:=step
     -- the cell
     have ho:=hS.inv.objs o;rw[e0]at ho;have ho1:=i1.objs o;rw[BQ _ _ _ _ qx,BQ _ _ _ _ rR,e0]at ho1;obtain⟨t2,b,E,vs,c1,c2,c3,c4,c5⟩:=ho1;obtain⟨_,b',E',gz,lI,c2',c3',c4',_⟩:=ho;have hb:b'=b:=by
      have h2:=i2.gh o (by grind [AI]);simp_all
     subst hb;rw[c3]at c3';cases c3';have d7:(AP (AP st.h r .dead) j (.arr sz es) o).live:=by rw[BQ _ _ _ _ qx,BQ _ _ _ _ rR,e0];trivial
     have We:=Ts cs k _ _ e1
     obtain⟨k1,k2⟩:=i1.upd o (.cells (Ei cs k (.msl j n))) (g1.ρ o) (g1.ln o) (g1.tk o) (g1.own o) g1.S w none ⟨rfl,rfl,rfl,Ai _⟩ (fun _ _ _=>rfl) (fun b e=>by cases e) (fun _ _ h=>h) (fun _ _ h=>.inl h)
      (fun b o e=>by cases e) (fun b' _ e=>⟨(i1.loc o b' d7 e).1,.inl ⟨d7,e⟩⟩) aa0 (fun _=>⟨rfl,Ai _,fun _=>rfl,fun _=>rfl⟩) (fun hg UZ=>by
       obtain⟨u1,u2,u3,u4⟩:=Bl g1 o (g1.ρ o) (g1.ln o) (g1.tk o) (g1.own o) g1.S;have LQ:∀i,AI (AP (AP st.h r .dead) j (.arr sz es)) i->AI (AP (AP (AP st.h r .dead) j (.arr sz es)) o (.cells (Ei cs k (.msl j n)))) i:=fun i hi=>Do aa0 i hi;refine⟨u3.trans t2,_,E,vs,u4.trans c1,u1.trans c2,c3,⟨by rw[Ka];exact c4.1,c4.2.1,fun i av x q1 q2=>?_⟩,c5⟩;rcases J9 cs k _ i av q1 with ⟨rfl,rfl⟩ | q
       .have hx:=c4'.2.2 i _ x We q2;have hm:A3 g1 w (AI (AP (AP st.h r .dead) j (.arr sz es))) (.msl j n) x:=by
         grind [AI,A2,cases A3,A3.msl]
        grind [A3.mono]
       .exact(c4.2.2 i av x q q2).mono UZ LQ hg)
     exact⟨_,_,⟨k1,hS.le.trans (i2.trans k2),hS.dfs,hS.size,fun i=>(hS.slots i).le (i2.trans k2)⟩,hk⟩
    .exact hk.elim
   simp_all
  simp_all
 .exact hk.elim
theorem Oc{h:Nat->HO}(hI:CA w0 g0 h0 h g w){o k:Nat}{cs:List AV}(e0:h o=.cells cs){old new:AV}(hk:cs[k]?=some old)(DH:∀x:Value,A3 g w (AI h) old x->A3 g w (AI h) new x) :
  ∃g',CA w0 g0 h0 (AP h o (.cells (Ei cs k new))) g' w/\Le h g w (AP h o (.cells (Ei cs k new))) g' w:=by
 have ho:=hI.objs o;rw[e0]at ho;obtain⟨t1,b,E,vs,a1,a2,a3,a4,a5⟩:=ho;have hl:(h o).live:=by rw[e0];trivial
 obtain⟨k1,k2⟩:=hI.upd o (.cells (Ei cs k new)) (g.ρ o) (g.ln o) (g.tk o) (g.own o) g.S w none ⟨rfl,rfl,rfl,Ai _⟩ (fun _ _ _=>rfl) (fun b e=>by cases e) (fun _ _ h=>h) (fun _ _ h=>.inl h)
  (fun b o e=>by cases e) (fun b' _ e=>⟨(hI.loc o b' hl e).1,.inl ⟨hl,e⟩⟩) aa0 (fun _=>⟨rfl,Ai _,fun _=>rfl,fun _=>rfl⟩) (fun hg UZ=>by
   obtain⟨u1,u2,u3,u4⟩:=Bl g o (g.ρ o) (g.ln o) (g.tk o) (g.own o) g.S;have LQ:∀i,AI h i->AI (AP h o (.cells (Ei cs k new))) i:=fun i hi=>Do aa0 i hi;refine⟨u3.trans t1,b,E,vs,u4.trans a1,u1.trans a2,a3,⟨by rw[Ka];exact a4.1,a4.2.1,fun i av x q1 q2=>?_⟩,a5⟩;rcases J9 cs k _ i av q1 with ⟨rfl,rfl⟩ | q
   .exact(DH x (a4.2.2 i _ x hk q2)).mono UZ LQ hg
   .exact(a4.2.2 i av x q q2).mono UZ LQ hg)
 exact⟨_,k1,k2⟩
theorem IW:∀(cs:List AV) (k:Nat) (a:AV),IP cs k=a->a≠.junk->cs[k]?=some a
 | [],_,a,h,hn=>by grind [IP]
 |_::_,0,_,h,_=>by grind [IP]
 |_::cs,k+1,a,h,hn=>by unfold IP at h;simpa using IW cs k a h hn
theorem CA.moveV{h:Nat->HO}(hI:CA w0 g0 h0 h g w)(r r2 v:Nat)(CU:r2≠r)(hf:h r2=.vox v)(hl:(h r).live)(o' : HO)(x:Value)(n:Nat)(hv:v<n)(hn:o'≠.free)
  (Li:D2 g w (g.upd r2 x n true (g.own r) g.S) w->DD (g.upd r2 x n true (g.own r) g.S) w (AI (AP (AP h r .dead) r2 o')) r2 o') :
  CA w0 g0 h0 (AP (AP h r .dead) r2 o') (g.upd r2 x n true (g.own r) g.S) w/\Le h g w (AP (AP h r .dead) r2 o') (g.upd r2 x n true (g.own r) g.S) w:=by
 have lh:=hI.objs r2;rw[hf]at lh;obtain⟨ht2,d7⟩:=lh;have iL:JA g (g.upd r2 x n true (g.own r) g.S) (AI h):=by
  intro i hi
  grind [Gh.upd]
 have hK:D2 g w (g.upd r2 x n true (g.own r) g.S) w:=fun b o hb=>⟨hb,rfl,fun _ _ h=>h⟩;have LQ:∀i,AI h i->AI (AP (AP h r .dead) r2 o') i:=fun i hi=>Do hn i (Do aa0 i hi);have key:∀i,i≠r2->(AP (AP h r .dead) r2 o' i).live->i≠r/\(h i).live:=fun i h2 hl=>by
  rw[BQ _ _ _ _ h2]at hl
  by_cases e:i=r
  .subst e;rw[A2]at hl;exact hl.elim
  grind [BQ]
 have own:∀i,i≠r2->(g.upd r2 x n true (g.own r) g.S).own i=g.own i:=fun i e=>by simp[Gh.upd,e]
 have jO:(g.upd r2 x n true (g.own r) g.S).own r2=g.own r:=by simp[Gh.upd]
 refine⟨⟨hI.os,hI.tape,hI.output,hI.size,hI.frame,hI.slt,fun i=>?_,fun i j c hi hj ei ej=>?_,fun i c hi ei=>?_,hI.sg,hI.glob.keep hK⟩,iL,LQ,hK⟩
 .by_cases e:i=r2
  .grind [A2]
  .rw[BQ _ _ _ _ e]
   by_cases e1:i=r
   .subst e1;rw[A2];trivial
   .rw[BQ _ _ _ _ e1];exact(hI.objs i).same hK LQ iL (by simp[Gh.upd,e]) (by simp[Gh.upd,e]) (by simp[Gh.upd,e]) Wk (fun b hl hb=>⟨rfl,fun k hk=>hk⟩)
 .grind [CA.inj]
 .by_cases e1:i=r2
  .subst e1;rw[jO]at ei;exact hI.loc r _ hl ei
  .rw[own i e1]at ei;exact hI.loc i c (key i e1 hi).2 ei
theorem rv(hS:SR N ds w0 g0 h0 st g a w){o k d:Nat}{K:(Nat->HO)->Prop}(hk:uvK st.h o k d K):∃h' g',SR N ds w0 g0 h0 ⟨st.t,h'⟩ g' a w/\K h':=by
 unfold uvK at hk;split at hk
 .rename_i cs e0;split at hk
  .rename_i r sz v es e1;split at hk
   .rename_i GS v' n e2;split at hk
    .rename_i hf;obtain⟨⟨rfl,rfl⟩,hk⟩:=hk;have ho:=hS.inv.objs r;rw[e2]at ho;obtain⟨t1,l1,a0,cap,r1,a2⟩:=ho;have hl:(st.h r).live:=by rw[e2];trivial
     have CU:d≠r:=fun e=>by simp_all
     have rR:o≠r:=fun e=>by simp_all
     have hod:o≠d:=fun e=>by simp_all
     have We:=IW cs k _ e1 aa0
     -- the value that stands in the cell
     have hoc:=hS.inv.objs o;rw[e0]at hoc;obtain⟨_,b',E',gz,c1,c2,c3,c4,_⟩:=hoc;obtain⟨x,hx1,_,uh⟩:=c4.at We;have jb:x=.slice a0 n cap/\es.length=n/\A3 g w DR (.slice .none es) x/\∀c∈es,c.length=sz:=by
      grind [A3.slice_none,cases A3]
     obtain⟨hxe,hn,hx3,mB⟩:=jb;subst hn;obtain⟨m1,m2⟩:=hS.inv.moveO r d CU hf hl (ob:=g.own r) (fun c h=>h) (.tok sz es.length) (.slice a0 es.length cap) es.length true aa0 (fun If=>by
      obtain⟨u1,u2,u3,u4⟩:=Bl g d (.slice a0 es.length cap) es.length true (g.own r) g.S;refine⟨u3,u2,a0,cap,u1,?_⟩;rw[u4];exact a2)
     generalize bO:g.upd d (.slice a0 es.length cap) es.length true (g.own r) g.S=g1 at m1 m2;have gr:g1.tk r=true/\g1.ln r=v:=by grind [Gh.upd]
     have gd:g1.tk d=true/\g1.ln d=es.length/\g1.ρ d=.slice a0 es.length cap:=by grind [Gh.upd]
     -- the id keeps its version
     have hrd:(AP (AP st.h r .dead) d (.tok sz es.length)) r=.dead:=by grind [BQ,A2]
     obtain⟨n1,n2⟩:=m1.upd r (.vox v) (g1.ρ r) (g1.ln r) (g1.tk r) (g1.own r) g1.S w none ⟨rfl,rfl,rfl,Ai _⟩ (fun _ _ _=>rfl) (fun b e=>by cases e) (fun _ _ h=>h) (fun _ _ h=>.inl h) (fun b o e=>by cases e) (fun b hh _=>by cases hh) aa0
      (fun _=>⟨rfl,Ai _,fun _=>rfl,fun _=>rfl⟩) (fun _ _=>by
       obtain⟨u1,u2,u3,u4⟩:=Bl g1 r (g1.ρ r) (g1.ln r) (g1.tk r) (g1.own r) g1.S;exact⟨u3.trans gr.1,u2.trans gr.2⟩)
     have hh:AP (AP (AP st.h r .dead) d (.tok sz es.length)) r (.vox v)=AP (AP st.h r (.vox v)) d (.tok sz es.length):=by
      grind [AP,Dx]
     rw[hh]at n1 n2;generalize oK:g1.upd r (g1.ρ r) (g1.ln r) (g1.tk r) (g1.own r) g1.S=g2 at n1 n2;have gd2:g2.tk d=true/\g2.ln d=es.length/\g2.ρ d=.slice a0 es.length cap:=by grind [Gh.upd]
     have p8 : (AP (AP st.h r (.vox v)) d (.tok sz es.length)) o=.cells cs:=by grind [BQ]
     have L2:=m2.trans n2;have Ae3:g2.ρ o=g.ρ o:=(L2.gh o (by grind [AI])).2.2.1 (by assumption);obtain⟨g3,p1,p2⟩:=Oc n1 p8 We (new:=.slice (.id d sz) es) (fun y hy=>by
      grind [Gh.upd,AI,A2,cases A3,A3.tok])
     exact⟨_,g3,⟨p1,hS.le.trans (L2.trans p2),hS.dfs,hS.size,fun i=>(hS.slots i).le (L2.trans p2)⟩,hk⟩
    simp_all
   simp_all
  .exact⟨_,g,hS,hk⟩
 simp_all
theorem kq(hS:SR N ds w0 g0 h0 st g a w){o k r:Nat}{K:(Nat->HO)->Prop}(hk:wM st.h o k r K):∃h' g',SR N ds w0 g0 h0 ⟨st.t,h'⟩ g' a w/\K h':=by
 unfold wM at hk;split at hk
 .rename_i cs e0;split at hk
  .rename_i d sz es e1;split at hk
   .rename_i GS n e2;split at hk
    .rename_i v hf;obtain⟨⟨hn,rfl⟩,hk⟩:=hk;subst hn;have ho:=hS.inv.objs d;rw[e2]at ho;obtain⟨t1,l1,a0,cap,r1,a2⟩:=ho;have hl:(st.h d).live:=by rw[e2];trivial
     have CU:r≠d:=fun e=>by simp_all
     have hod:o≠d:=fun e=>by simp_all
     have rR:o≠r:=fun e=>by simp_all
     have We:=IW cs k _ e1 aa0;obtain⟨m1,m2⟩:=hS.inv.moveV d r v CU hf hl (.var sz (v+1) es.length) (.slice a0 es.length cap) (v+1) (Nat.lt_succ_self v) aa0 (fun If=>by
      obtain⟨u1,u2,u3,u4⟩:=Bl g r (.slice a0 es.length cap) (v+1) true (g.own d) g.S;refine⟨u3,u2,a0,cap,u1,?_⟩;rw[u4];exact a2)
     generalize bO:g.upd r (.slice a0 es.length cap) (v+1) true (g.own d) g.S=g1 at m1 m2;have gr:g1.tk r=true/\g1.ln r=v+1/\g1.ρ r=.slice a0 es.length cap:=by grind [Gh.upd]
     have gd:g1.ln d=es.length/\g1.ρ d=.slice a0 es.length cap:=by grind [Gh.upd]
     have p8 : (AP (AP st.h d .dead) r (.var sz (v+1) es.length)) o=.cells cs:=by grind [BQ]
     obtain⟨g3,p1,p2⟩:=Oc m1 p8 We (new:=.slice (.ver r sz (v+1)) es) (fun y hy=>by
      grind [AI,A2,cases A3,A3.ver])
     exact⟨_,g3,⟨p1,hS.le.trans (m2.trans p2),hS.dfs,hS.size,fun i=>(hS.slots i).le (m2.trans p2)⟩,hk⟩
    simp_all
   simp_all
  .exact⟨_,g,hS,hk⟩
 simp_all
theorem qR(hS:SR N ds w0 g0 h0 st g a w){r:Nat}{K:(Nat->HO)->Prop}(hk:zH st.h r K):∃h' g',SR N ds w0 g0 h0 ⟨st.t,h'⟩ g' a w/\K h':=by
 unfold zH at hk;split at hk
 .rename_i hf
  obtain⟨m1,m2⟩:=hS.inv.upd r (.vox 0) (.slice none 0 0) 0 true none g.S w none ⟨rfl,rfl,rfl,Ai _⟩ (fun _ _ _=>rfl) (fun b e=>by cases e) (fun _ _ h=>h) (fun _ _ h=>.inl h) (fun b o e=>by cases e) (fun b hh _=>by cases hh) aa0
   (fun hu=>absurd hf hu) (fun _ _=>by
    obtain⟨u1,u2,u3,u4⟩:=Bl g r (.slice none 0 0) 0 true none g.S;exact⟨u3,u2⟩)
  exact⟨_,_,⟨m1,hS.le.trans m2,hS.dfs,hS.size,fun i=>(hS.slots i).le m2⟩,hk⟩
 simp_all
theorem kj(hS:SR N ds w0 g0 h0 st g a w){o k:Nat}{K:(Nat->HO)->Prop}(hk:wL st.h o k K):∃h' g',SR N ds w0 g0 h0 ⟨st.t,h'⟩ g' a w/\K h':=by
 unfold wL at hk;split at hk
 .rename_i cs e0;split at hk
  .rename_i r e1;split at hk
   .rename_i sh BU e2;have We:=IW cs k _ e1 aa0;obtain⟨g3,p1,p2⟩:=Oc hS.inv e0 We (new:=.cmap sh BU) (fun y hy=>by
     have e3:rsv st.h (.mref r)=.cmap sh BU:=by
      show(match st.h r with | .rom sh BU=>AV.cmap sh BU | _=>.mref r)=_;rw[e2]
     rw[<-e3];exact A3.rsv hS.inv.objs hy)
    exact⟨_,g3,⟨p1,hS.le.trans p2,hS.dfs,hS.size,fun i=>(hS.slots i).le p2⟩,hk⟩
   simp_all
  simp_all
 simp_all
theorem rE(hS:SR N ds w0 g0 h0 st g a w){o k j sz:Nat}{K:(Nat->HO)->Prop}(hk:zaK st.h o k j sz K):∃h' g',SR N ds w0 g0 h0 ⟨st.t,h'⟩ g' a w/\K h':=by
 unfold zaK at hk;split at hk
 .rename_i cs e0;split at hk
  .rename_i e1;split at hk
   .rename_i hf;have rR:o≠j:=fun e=>by simp_all
    have We:=IW cs k _ e1 aa0
    obtain⟨m1,m2⟩:=hS.inv.upd j (.arr sz []) (.slice none 0 0) 0 true none g.S w none ⟨rfl,rfl,rfl,Ai _⟩ (fun _ _ _=>rfl) (fun b e=>by cases e) (fun _ _ h=>h) (fun _ _ h=>.inl h) (fun b o e=>by cases e) (fun b hh e=>by simp_all) aa0
     (fun hu=>absurd hf hu) (fun _ _=>by
      obtain⟨u1,u2,u3,u4⟩:=Bl g j (.slice none 0 0) 0 true none g.S;exact⟨u3,u2,(fun cs hc=>by cases hc),.inl ⟨rfl,u1,u4⟩⟩)
    generalize bO:g.upd j (.slice none 0 0) 0 true none g.S=g1 at m1 m2;have gr:g1.tk j=true/\g1.ln j=0/\g1.ρ j=.slice none 0 0:=by grind [Gh.upd]
    have p8 : (AP st.h j (.arr sz [])) o=.cells cs:=by grind [BQ]
    obtain⟨g3,p1,p2⟩:=Oc m1 p8 We (new:=.msl j 0) (fun y hy=>by
     grind [AI,A2,cases A3,A3.msl])
    exact⟨_,g3,⟨p1,hS.le.trans (m2.trans p2),hS.dfs,hS.size,fun i=>(hS.slots i).le (m2.trans p2)⟩,hk⟩
   simp_all
  simp_all
 simp_all
theorem gY{id:Nat}(hS:SR N ds w0 g0 h0 st g a w){K:(Nat->HO)->Prop}(hk:x8 cx id st.h fun h=>wK cx id h fun h=>uH cx id h fun h=>r5 cx id h K):∃h' g',SR N ds w0 g0 h0 ⟨st.t,h'⟩ g' a w/\K h':=by
 have h1:∃h' g',SR N ds w0 g0 h0 ⟨st.t,h'⟩ g' a w/\wK cx id h' fun h=>uH cx id h fun h=>r5 cx id h K:=by
  unfold x8 at hk;split at hk
  .obtain⟨g',i1,i2⟩:=bF hS.inv _;exact⟨_,g',⟨i1,hS.le.trans i2,hS.dfs,hS.size,fun i=>(hS.slots i).le i2⟩,hk⟩
  .exact⟨_,g,hS,hk⟩
 obtain⟨h1,g1,S1,hk⟩:=h1;have h2:∃h' g',SR N ds w0 g0 h0 ⟨st.t,h'⟩ g' a w/\uH cx id h' fun h=>r5 cx id h K:=by
  unfold wK at hk;split at hk
  .exact kj S1 hk
  grind
 obtain⟨h2,g2,S2,hk⟩:=h2;have h3:∃h' g',SR N ds w0 g0 h0 ⟨st.t,h'⟩ g' a w/\r5 cx id h' K:=by
  unfold uH at hk;split at hk
  .exact kj S2 hk
  grind
 obtain⟨h3,g3,S3,hk⟩:=h3;unfold r5 at hk;split at hk
 .exact rE S3 hk
 grind
theorem qw(hS:SR N ds w0 g0 h0 st g a w){r:Nat}{K:(Nat->HO)->Prop}(hk:zi st.h r K):∃h' g',SR N ds w0 g0 h0 ⟨st.t,h'⟩ g' a w/\K h':=by
 unfold zi at hk;split at hk
 .rename_i sz es i c j m er;split at hk
  .simp_all
  .rename_i hb;have CU:r≠j:=fun e=>by simp_all
   split at hk
   .rename_i cP qs ej;obtain⟨hm,cs,hi,hc,hk⟩:=hk;have ho:=hS.inv.objs r;rw[er]at ho;obtain⟨t1,l1,al,b,cap,E,vs,e1,e2,e3,e4,e5,e6,e7,e8,x,e9,vR⟩:=ho;obtain⟨g1,i1,i2,i3,i4⟩:=VK hS.inv ej;have ja:x=g.ρ j:=by
     grind [cases A3]
    obtain⟨k1,k2⟩:=i1.upd j .dead (g1.ρ j) (g1.ln j) (g1.tk j) (g1.own j) g1.S w none ⟨rfl,rfl,rfl,Ai _⟩ (fun _ _ _=>rfl) (fun b e=>by cases e) (fun _ _ h=>h) (fun _ _ h=>.inl h) (fun b o e=>by cases e) (fun b hh _=>by cases hh) aa0
     (fun _=>⟨rfl,Ai _,fun _=>rfl,fun _=>rfl⟩) (fun _ _=>trivial)
    generalize oK:g1.upd j (g1.ρ j) (g1.ln j) (g1.tk j) (g1.own j) g1.S=g2 at k1 k2;have DH:A3 g2 w DR (.slice .none qs) x:=by rw[ja];exact i3.slice_none.mono k2.keeps (fun _ h=>h) (fun _ h=>h.elim)
    have x6:AP (AP st.h j (.tok cP qs.length)) j .dead r=.hol sz es i c (.msl j m):=by grind [BQ]
    have ho2:=k1.objs r;rw[x6]at ho2;obtain⟨t1',l1',wW,b',Ko,E',gz,f1,f2,f3,f4,f5,f6,f7,f8,x',f9,f10⟩:=ho2;have hl:(AP (AP st.h j (.tok cP qs.length)) j .dead r).live:=by rw[x6];trivial
    have hρ:g2.ρ r=g.ρ r:=by
     have q1:=(i2.trans k2).gh r (by grind [AI]);simp_all
    have bV:gz=vs:=by
     simp_all
    subst bV;have hxx:x'=x:=Wk
    subst hxx;have BW:=(AE.1 hi).1;have hcl:=wW cs (Ax hi);have hfl:=LC wW hi c [AV.slice .none qs] aa1;have CF:es.flatten.length=es.length*sz:=CZ wW
    obtain⟨m1,m2⟩:=k1.upd r (.arr sz (es.set i (over cs c [.slice .none qs]))) (g2.ρ r) (g2.ln r) (g2.tk r) (g2.own r) g2.S w none ⟨rfl,rfl,rfl,Ai _⟩ (fun _ _ _=>rfl) (fun b e=>by cases e) (fun _ _ h=>h) (fun _ _ h=>.inl h)
     (fun b o e=>by cases e) (fun b' _ e=>⟨(k1.loc r b' hl e).1,.inl ⟨hl,e⟩⟩) aa0 (fun _=>⟨rfl,Ai _,fun _=>rfl,fun _=>rfl⟩) (fun hg If=>by
      obtain⟨u1,u2,u3,u4⟩:=Bl g2 r (g2.ρ r) (g2.ln r) (g2.tk r) (g2.own r) g2.S;refine⟨u3.trans t1',u2.trans Wk,fun d hd=>?_,.inr ⟨b',Ko,E',gz,by simp_all,u4.trans f2,by simp_all,f4,f5,?_,f7⟩⟩
      .grind [FI]
      .rw[hfl,G9];refine⟨by rw[FI];simp_all,f6.2.1,fun p av y q1 q2=>?_⟩;rw[Gc _ _ _ _ aa1]at q1;split at q1
       .rename_i hp;have zm:p=i*sz+c:=aa1
        subst zm;rw[DF]at q1;cases q1
        have:y=x':=by
         grind
        rw[this];exact DH.mono If (fun _ h=>h) (fun _ h=>h.elim)
       .exact(f6.2.2 p av y q1 q2).mono If (fun _ h=>h) (fun _ h=>h.elim))
    exact⟨_,_,⟨m1,hS.le.trans ((i2.trans k2).trans m2),hS.dfs,hS.size,fun i=>((hS.slots i).le (i2.trans k2)).le m2⟩,hk⟩
   simp_all
 simp_all
theorem oc{id:Nat}(hS:SR N ds w0 g0 h0 st g a w){K:(Nat->HO)->Prop}(hk:rx cx id st.h K):∃h' g',SR N ds w0 g0 h0 ⟨st.t,h'⟩ g' a w/\K h':=by
 unfold rx at hk;split at hk
 .grind [rv]
 .split at hk
  .grind [kq]
  .split at hk
   .grind [qR]
   .split at hk
    .grind [qw]
    .exact gY hS hk
theorem pz(hS:SR N ds w0 g0 h0 st g a w){o k:Nat}{K:(Nat->HO)->Prop}(hk:w7 st.h o k K):∃h' g',SR N ds w0 g0 h0 ⟨st.t,h'⟩ g' a w/\K h':=by
 have same:K st.h->∃h' g',SR N ds w0 g0 h0 ⟨st.t,h'⟩ g' a w/\K h':=fun hk=>⟨st.h,g,hS,hk⟩;unfold w7 at hk;split at hk
 .rename_i cs e0;split at hk
  .rename_i r n e1;split at hk
   .rename_i sz es e2;obtain⟨rfl,hk⟩:=hk;have CU:o≠r:=fun e=>by simp_all
    obtain⟨g1,i1,i2,i3,i4⟩:=VK hS.inv e2;have ho:=i1.objs o;rw[BQ _ _ _ _ CU,e0]at ho;obtain⟨t1,b,E,vs,a1,a2,a3,a4,a5⟩:=ho;have hl:(AP st.h r (.tok sz es.length) o).live:=by rw[BQ _ _ _ _ CU,e0];trivial
    have We:=Ts cs k _ _ e1;have ai:=hS.inv.objs o;rw[e0]at ai;obtain⟨_,b',E',gz,wU,a2',a3',a4',_⟩:=ai
    obtain⟨k1,k2⟩:=i1.upd o (.cells (Ei cs k (.slice (.id r sz) es))) (g1.ρ o) (g1.ln o) (g1.tk o) (g1.own o) g1.S w none ⟨rfl,rfl,rfl,Ai _⟩ (fun _ _ _=>rfl) (fun b e=>by cases e) (fun _ _ h=>h) (fun _ _ h=>.inl h)
     (fun b o e=>by cases e) (fun b' _ e=>⟨(i1.loc o b' hl e).1,.inl ⟨hl,e⟩⟩) aa0 (fun _=>⟨rfl,Ai _,fun _=>rfl,fun _=>rfl⟩) (fun hg If=>by
      obtain⟨u1,u2,u3,u4⟩:=Bl g1 o (g1.ρ o) (g1.ln o) (g1.tk o) (g1.own o) g1.S;have LQ:∀i,AI (AP st.h r (.tok sz es.length)) i->AI (AP (AP st.h r (.tok sz es.length)) o (.cells (Ei cs k (.slice (.id r sz) es)))) i:=fun i hi=>Do aa0 i hi;refine⟨u3.trans t1,b,E,vs,u4.trans a1,u1.trans a2,a3,⟨by rw[Ka];exact a4.1,a4.2.1,fun i av x q1 q2=>?_⟩,a5⟩;rcases J9 cs k _ i av q1 with ⟨rfl,rfl⟩ | q
      .have hx:=a4.2.2 i _ x We q2;have ja:x=g.ρ r:=by
        have bO:=i2.gh o (by grind [AI]);have bV:vs=gz:=by
         simp_all
        subst bV
        have:=a4'.2.2 i _ x We q2
        grind [cases A3]
       grind [A3.mono]
      .exact(a4.2.2 i av x q q2).mono If LQ hg)
    exact⟨_,_,⟨k1,hS.le.trans (i2.trans k2),hS.dfs,hS.size,fun i=>((hS.slots i).le i2).le k2⟩,hk⟩
   simp_all
  simp_all
 simp_all
theorem pp{K:St->Prop}(hS:SR N ds w0 g0 h0 st g a w)(hk:wV cx o st K):∃Ef g',SR N ds w0 g0 h0 Ef g' a w/\K Ef:=by
 have same:K st->∃Ef g',SR N ds w0 g0 h0 Ef g' a w/\K Ef:=fun hk=>⟨st,g,hS,hk⟩;unfold wV at hk;split at hk
 .simp_all
 .split at hk
  .simp_all
  .rename_i s _;split at hk
   .rename_i r n ht;split at hk
    .rename_i sz es hr;obtain⟨hn,hk⟩:=hk;subst hn;have hI:=hS.inv;have ho:=hI.objs r;rw[hr]at ho;obtain⟨t1,l1,al,a2⟩:=ho;have hl:(st.h r).live:=by rw[hr];trivial
     have JZ:=hS.slots s;rw[ht]at JZ;have hval:a.tmps.getD s undef=g.ρ r:=by
      grind [cases A3]
     have fin:∀g',CA w0 g0 h0 (AP st.h r (.tok sz es.length)) g' w->Le st.h g w (AP st.h r (.tok sz es.length)) g' w->A3 g' w (AI (AP st.h r (.tok sz es.length))) (.slice (.id r sz) es) (g.ρ r) ->
       ∃Ef g',SR N ds w0 g0 h0 Ef g' a w/\K Ef:=fun g' i1 i2 i3=>by
      refine⟨_,g',⟨i1,hS.le.trans i2,hS.dfs,hS.size,fun i=>?_⟩,hk⟩
      grind [I9,Dx,A3.le,SR.slots]
     rcases a2 with ⟨b1,b2,b3⟩ | ⟨b,cap,E,vs,b1,b2,b3,b4,b5,b6,b7⟩
     .subst b1
      obtain⟨k1,k2⟩:=hI.upd r (.tok sz 0) (g.ρ r) (g.ln r) (g.tk r) (g.own r) g.S w none ⟨rfl,rfl,rfl,Ai _⟩ (fun _ _ _=>rfl) (fun b e=>by cases e) (fun _ _ h=>h) (fun _ _ h=>.inl h)
       (fun b o e=>by cases e) (fun b' _ e=>⟨(hI.loc r b' hl e).1,.inl ⟨hl,e⟩⟩) aa0 (fun _=>⟨rfl,Ai _,fun _=>rfl,fun _=>rfl⟩) (fun hg hk=>by
        obtain⟨u1,u2,u3,u4⟩:=Bl g r (g.ρ r) (g.ln r) (g.tk r) (g.own r) g.S;exact⟨u3.trans t1,u2.trans l1,none,0,u1.trans b2,.inl ⟨rfl,u4.trans b3⟩⟩)
      refine fin _ k1 k2 ?_;rw[b2];exact .tok _ r sz [] _ (.snil _ _ _) aa0 (by unfold AI;rw[A2];simp) (by simp[Gh.upd,t1]) aa0 (fun _=>by simp[Gh.upd])
     .have BW:=(hI.loc r b hl b2).1
      obtain⟨k1,k2⟩:=hI.upd r (.tok sz es.length) (g.ρ r) (g.ln r) (g.tk r) (g.own r) (g.more b (es.length*sz)) w none ⟨rfl,rfl,rfl,Ai _⟩ (fun _ _ _=>rfl) (fun b e=>by cases e) (fun _ _ h=>.inl h)
       (fun b' o hs=>hs.elim .inl (fun hs=>.inr ⟨by omega,.inr ⟨hl,by simp_all⟩⟩)) (fun b o e=>by cases e) (fun b' _ e=>⟨(hI.loc r b' hl e).1,.inl ⟨hl,e⟩⟩) aa0
       (fun _=>⟨rfl,Ai _,fun _=>rfl,fun _=>rfl⟩) (fun hg hk=>by
        obtain⟨u1,u2,u3,u4⟩:=Bl g r (g.ρ r) (g.ln r) (g.tk r) (g.own r) (g.more b (es.length*sz));exact⟨u3.trans t1,u2.trans l1,_,cap,u1.trans b1,.inr ⟨b3,b,E,vs,0,rfl,u4.trans b2,.of b4,by omega,fun o ho=>by
         rcases ho with ho | ⟨_,ho⟩<;>simp_all⟩⟩)
      refine fin _ k1 k2 ?_;rw[b1];exact .tok _ r sz es _ (A3.slice_row b4 al b3 (b6.mono k2.keeps (fun _ h=>h) (fun _ h=>h.elim)) (fun o ho=>.inr ⟨rfl,ho⟩)) al (by grind [AI,A2]) (by grind [Gh.upd]) (by grind [Gh.upd]) (fun _=>by simp[Gh.upd])
    simp_all
   simp_all
variable {cx:Cx}(hP:cx.P=P)(hT:Cb P cx.T)(hY:∀l σ h g w,D4 σ=true->CA w0 g0 h0 h g w->Le h0 g0 w0 h g w->cx.yp l σ (DB σ g) w){ro:Option Nat}{ops:Array Oper}
include hP hT hY
theorem RX{dr:Bool}{o:Oper}(hd:∀i,o.dst=some i->i<N){K:St->Prop}{next:Act->World->Prop}{Q:Exit->Act->World->Prop}(hS:SR N ds w0 g0 h0 st g a w)(hk:Iu cx dr ops.toList o st K)
  (hn:∀Ef g' a' w',K Ef->SR N ds w0 g0 h0 Ef g' a' w'->next a' w'):if Region.wanted o (yielded ops a.tmps)then o.wpIn (Jh ro) 0 P a w next Q else next (a.put o.dst undef) w:=by
 have run:gJ cx dr o st K->o.wpIn (Jh ro) 0 P a w next Q:=by
  intro hk;unfold gJ at hk;split at hk
  .exact gK hP hY hT hS hk fun v h' g' w' x q1 q2 q3 q4=>hn _ g' _ _ q1 (hS.put hd q2 q3 q4)
  .obtain⟨g1,mn⟩:=jY (cx:=cx) (o:=o) hS;obtain⟨Ef,g',OA,hk⟩:=pp mn hk;exact gK hP hY hT OA hk fun v h' g' w' x q1 q2 q3 q4=>hn _ g' _ _ q1 (OA.put hd q2 q3 q4)
 have skip:K (st.put o.dst (.v undef) st.h)->next (a.put o.dst undef) w:=fun hk=>hn _ g _ _ hk (hS.put hd hS.inv (.refl _ _ _) (.v _ _))
 unfold Iu at hk;split at hk
 .grind [Region.wanted]
 .rename_i j want hg;split at hk
  .simp_all
  .rename_i d hj;have hy:∀x:Value,A3 g w (AI st.h) (st.t d) x->x=a.tmps.getD d undef->True:=fun _ _ _=>trivial;have hs:=hS.slots d;rw[Vg]at hj;have key:∀b:Bool,a.tmps.getD d undef=.bool b->yielded ops a.tmps j=some b:=by
    intro b hb;have BW:d<a.tmps.size:=by
     apply Nat.lt_of_not_le;intro WT;rw[Nh,T9 WT]at hb;cases hb
    simp only[yielded,hj,Option.bind_some];simp_all
   have Aez:∀t,a.tmps.getD d undef=.tuple t->yielded ops a.tmps j=none:=by
    intro t hb;simp only[yielded,hj,Option.bind_some];cases he:a.tmps[d]?<;>simp_all
   grind [Region.wanted,A3.v_eq]
theorem VI{Q:Exit->Act->World->Prop}{K:St->Prop}(hQ:∀Ef g' a' w',K Ef->SR N ds w0 g0 h0 Ef g' a' w'->Q .normal a' w') :
  ∀(l:List Oper),(∀o∈l,∀i,o.dst=some i->i<N)->∀{st:St} {g:Gh} {a:Act} {w:World},SR N ds w0 g0 h0 st g a w->W7 cx ops.toList l st K->wpListIn (Jh ro) 0 P ops Q l a w
 | [],_,st,g,a,w,hS,hk=>hQ st g a w hk hS
 | [o],hd,st,g,a,w,hS,hk=>by
  have:=RX hP hT hY (ro:=ro) (hd o (Ae ..)) (next:=wpListIn (Jh ro) 0 P ops Q []) (Q:=Q) hS hk fun Ef g' a' w' q1 q2=>hQ Ef g' a' w' q1 q2
  unfold wpListIn;split
  .simp_all
  .rename_i hw;rw[AB hw]at this;exact⟨fun _ _=>trivial,this⟩
 |o::o2::l,hd,st,g,a,w,hS,hk=>by
  cases hc:X1 o o2 with
  |true=>
   have hk:lP cx o st fun Ef=>W7 cx ops.toList l Ef K:=by
    grind [W7]
   obtain⟨g1,g2,h1⟩:=lQ hT (ro:=ro) (o2:=o2) (hd o (Ae ..)) hc hS hk (next:=wpListIn (Jh ro) 0 P ops Q l) (Q:=Q) fun Ef g' a' w' q1 q2=>VI hQ l (fun o' tV=>hd o' (Ah _ (Ah _ tV))) q2 q1
   unfold wpListIn;rw[As (by grind [Region.wanted])];have e:(fun(a1:Act) (w1:World)=>o2.wpIn (Jh ro) 0 P a1 w1 (wpListIn (Jh ro) 0 P ops Q l) Q)=wpListIn (Jh ro) 0 P ops Q (o2::l):=by
    grind [wpListIn,Region.wanted]
   simp_all
  |false=>
   have hk:Iu cx false ops.toList o st fun Ef=>W7 cx ops.toList (o2::l) Ef K:=by
    grind [W7]
   have:=RX hP hT hY (ro:=ro) (hd o (Ae ..)) (next:=wpListIn (Jh ro) 0 P ops Q (o2::l)) (Q:=Q) hS hk fun Ef g' a' w' q1 q2=>VI hQ (o2::l) (fun o' tV=>hd o' (Ah _ tV)) q2 q1
   unfold wpListIn;split
   .simp_all
   .rename_i hw;rw[AB hw]at this;exact⟨fun _ _=>trivial,this⟩
theorem VD{Q:Exit->Act->World->Prop}{K:St->Prop}{FT:Nat->Fa}(hQ:∀Ef g' a' w',K Ef->SR N ds w0 g0 h0 Ef g' a' w'->Q .normal a' w')(hd:∀(j:Nat) (o:Oper),ops[j]?=some o->∀i,o.dst=some i->i<N) :
  ∀(fuel:Nat) (listed:Array Bool) {st:St} {g:Gh} {a:Act} {w:World},SR N ds w0 g0 h0 st g a w->WZ cx ops FT K fuel listed st->wpAnyIn (Jh ro) 0 P .any ops Q fuel listed a w
 |0,_,st,g,a,w,hS,hk=>⟨hk.1,hQ st g a w hk.2 hS⟩
 |fuel+1,listed,st,g,a,w,hS,hk=>by
  refine⟨fun h0=>hQ st g a w (hk.1 h0) hS,fun i hi=>?_⟩;have h1:=hk.2 i hi;unfold sa at h1;unfold wpOpIn;cases ho:ops[i]? with
  |none=>rw[ho]at h1;exact VD hQ hd fuel _ hS h1
  |some o=>
   rw[ho]at h1
   have:=RX hP hT hY (ro:=ro) (hd i o ho) (next:=wpAnyIn (Jh ro) 0 P .any ops Q fuel (listed.setIfInBounds i true)) (Q:=Q) hS h1.2 fun Ef g' a' w' q1 q2=>VD hQ hd fuel _ q2 q1
   dsimp only;split
   .simp_all
   .rename_i hw;rw[AB hw]at this;exact⟨fun _ _=>trivial,this⟩
end
theorem EY{r:Nat}(e:Rt h r=true):AI h r:=by
 grind [Rt,AI]
theorem A3.ids0{x:Value}(r:A3 g w U av x)(e:ids0 h av=true):A3 g w (AI h) av x:=by
 cases r with
 |v=>exact .v _ _
 |junk=>exact .junk _ _
 |snil=>grind [snil]
 |slice _ es b off sz cap val hc hl Dg DH=>exact .slice _ es b off sz cap val hc hl Dg DH
 |tok _ r sz es x hs hl hu ht hn hx=>exact .tok _ r sz es x ((A3.slice_none hs).up _) hl (EY e) ht hn hx
 |ver _ r sz v es x hs hl hu ht hn hx=>exact .ver _ r sz v es x ((A3.slice_none hs).up _) hl (EY e) ht hn hx
 |full _ sz es x hs hl hx=>grind [full,A3.slice_none,up]
 |msl _ r n a cap hu ht hn ha hx=>exact .msl _ r n a cap (EY e) ht hn ha hx
 |agg=>cases e
 |tup=>cases e
 |cptr _ cs b off val Dg DH=>exact .cptr _ cs b off val Dg DH
 |ref _ r off b hu ht hx=>exact .ref _ r off b (EY e) ht hx
 |eref _ r n sz i off b cap hu ht hn hx=>exact .eref _ r n sz i off b cap (EY e) ht hn hx
 |mref _ r b hu ht hx=>exact .mref _ r b (EY e) ht hx
 |cmap _ sh BU b es ck hS hb hm hv=>grind [cmap]
 |clo=>cases e
theorem SZ(e:XX h cs=true)(hi:cs[i]?=some av):ids0 h av=true:=by
 induction cs generalizing i<;>grind [XX]
theorem je(e:mN h cs=true)(hi:cs[i]?=some av):SY h av=true:=by
 induction cs generalizing i<;>grind [mN]
theorem eB{BU:List (Value×AV)}(e:QP h BU=true){kv:Value×AV}(hi:BU[i]?=some kv):SY h kv.2=true:=by
 induction BU generalizing i<;>grind [QP]
theorem A3.ids{x:Value}(r:A3 g w U av x)(e:SY h av=true):A3 g w (AI h) av x:=by
 cases r with
 |agg _ cs vs hs h1 hr=>exact .agg _ cs vs hs h1 fun i av x q1 q2=>(hr i av x q1 q2).ids0 (SZ e q1)
 |tup _ cs vs hs hr=>exact .tup _ cs vs hs fun i av x q1 q2=>(hr i av x q1 q2).ids0 (SZ e q1)
 |clo _ f cs vs hs hr=>exact .clo _ f cs vs hs fun i av x q1 q2=>(hr i av x q1 q2).ids0 (SZ e q1)
 |v=>exact .v _ _
 |junk=>exact .junk _ _
 |snil=>grind [snil]
 |slice _ es b off sz cap val hc hl Dg DH=>exact .slice _ es b off sz cap val hc hl Dg DH
 |tok _ r sz es x hs hl hu ht hn hx=>exact .tok _ r sz es x ((A3.slice_none hs).up _) hl (EY e) ht hn hx
 |ver _ r sz v es x hs hl hu ht hn hx=>exact .ver _ r sz v es x ((A3.slice_none hs).up _) hl (EY e) ht hn hx
 |full _ sz es x hs hl hx=>grind [full,A3.slice_none,up]
 |msl _ r n a cap hu ht hn ha hx=>exact .msl _ r n a cap (EY e) ht hn ha hx
 |cptr _ cs b off val Dg DH=>exact .cptr _ cs b off val Dg DH
 |ref _ r off b hu ht hx=>exact .ref _ r off b (EY e) ht hx
 |eref _ r n sz i off b cap hu ht hn hx=>exact .eref _ r n sz i off b cap (EY e) ht hn hx
 |mref _ r b hu ht hx=>exact .mref _ r b (EY e) ht hx
 |cmap _ sh BU b es ck hS hb hm hv=>grind [cmap]
theorem X5{st:St}{h:Nat->HO}:∀{l:List (Nat×AV)},wF st h l->∀i,Sv l i=.junk\/(st.t i=Sv l i/\SY h (Sv l i)=true)
 | [],_,i=>.inl rfl
 |(j,a)::l,⟨h1,h2⟩,i=>by
  unfold Sv
  by_cases e:i=j
  .simp_all
  .simp only[Dx e,Gi];exact X5 h2 i
theorem X4{st:St}{h hb:Nat->HO}(hhb:∀j,hb j=.free\/(st.h j=hb j/\XW h (hb j)=true)):∀{l:List (Nat×HO)},wE st h l->∀i,Ag l hb i=.free\/(st.h i=Ag l hb i/\XW h (Ag l hb i)=true)
 | [],_,i=>hhb i
 |(j,a)::l,⟨h1,h2⟩,i=>by
  unfold Ag
  by_cases e:i=j
  .simp_all
  .simp only[Dx e,Gi];exact X4 hhb h2 i
def KU(cx:Cx)(h0:Nat->HO):Prop:=match cx.ext with | false=>∀i,h0 i=.free | true=>∀i,h0 i≠.free->1000<=i/\i<2000
section
variable {P:Program}{N:Nat}{ds:List Deferred}{w0:World}{g0:Gh}{h0:Nat->HO}{st:St}{g:Gh}{a:Act}{w:World}{cx:Cx}
theorem SR.weaken(hE:KU cx h0)(hS:SR N ds w0 g0 h0 st g a w){s:LS}(Ig:St.le cx st s):SR N ds w0 g0 h0 s.st g a w:=by
 obtain⟨h1,h2,h3,h4⟩:=Ig;have hT:=X5 h1;have hH:∀i,s.st.h i=.free\/(st.h i=s.st.h i/\XW s.st.h (s.st.h i)=true):=X4 h3 h2;have LO:∀r,(s.st.h r).live->(st.h r).live:=fun r hl=>by
  rcases hH r with e | ⟨e,_⟩
  .rw[e]at hl;exact hl.elim
  simp_all
 have hI:=hS.inv;refine⟨⟨hI.os,hI.tape,hI.output,hI.size,hI.frame,hI.slt,fun r=>?_,fun r r' b l l'=>hI.inj r r' b (LO r l) (LO r' l'),fun r b l=>hI.loc r b (LO r l),hI.sg,hI.glob⟩,⟨hS.le.gh,fun i hi=>?_,hS.le.keeps⟩,hS.dfs,hS.size,fun i=>?_⟩
 .rcases hH r with e | ⟨e,e2⟩
  .rw[e];trivial
  .have ho:=hI.objs r;rw[e]at ho;generalize s.st.h r=o at ho e2;cases o with
   |cells cs=>
    obtain⟨t,b,E,vs,a1,a2,a3,a4,a5⟩:=ho;exact⟨t,b,E,vs,a1,a2,a3,⟨a4.1,a4.2.1,fun i av x q1 q2=>(a4.2.2 i av x q1 q2).ids (je e2 q1)⟩,a5⟩
   |hol sz es i c av=>
    obtain⟨t,l,al,b,cap,E,vs,b1,b2,b3,b4,b5,b6,b7,b8,x,b9,Zl⟩:=ho;exact⟨t,l,al,b,cap,E,vs,b1,b2,b3,b4,b5,b6,b7,b8,x,b9,Zl.ids e2⟩
   |bld x=>
    obtain⟨t,b,p,v,a1,a2,a3,a4,a5,a6⟩:=ho;exact⟨t,b,p,v,a1,a2,a3,a4,a5.ids e2,a6⟩
   |mapU sh BU=>
    obtain⟨t,b,es,ck,a1,a2,a3,a4,a5,a6⟩:=ho;exact⟨t,b,es,ck,a1,a2,a3,a4,fun i kv e q1 q2=>(a5 i kv e q1 q2).ids (eB e2 q1),a6⟩
   |_=>exact ho
 .have hu:=hS.le.us i hi;unfold KU at hE;split at hE
  .exact absurd (hE i) hi
  .rename_i hx;rw[hx]at h4;exact h4 i (hE i hi).1 (hE i hi).2 hu
 .show A3 g w (AI s.st.h) (Sv s.t i) _;rcases hT i with e | ⟨e,e2⟩
  .grind [A3.junk]
  .rw[<-e]at e2⊢;exact(hS.slots i).ids e2
def Ex.real:Ex->Exit
 |.normal=>.normal
 |.exit id=>.exit id
 |.ret=>.ret
def sO(N:Nat)(o:Oper):Bool:=match o.dst with | some d=>Nat.blt d N | none=>true
def Ed(N:Nat):Code->Bool
 |.region _ ops _=>ops.toList.all (sO N)
 |.seq a b=>Ed N a&&Ed N b
 |.cond _ a b=>Ed N a&&Ed N b
 |.block _ c=>Ed N c
 |.loop c=>Ed N c
 |_=>true
theorem Nr(hP:cx.P=P)(hT:Cb P cx.T)(hm:P.follows .mixedOrders=true)(hE:KU cx h0)(hY:∀l σ h g w,D4 σ=true->CA w0 g0 h0 h g w->Le h0 g0 w0 h g w->cx.yp l σ (DB σ g) w)(ro:Option Nat):∀(c:Code),Ed N c=true->∀{Qa:Ex->St->Prop} {Q:Exit->Act->World->Prop},
  (∀e st g a w,Qa e st->SR N ds w0 g0 h0 st g a w->Q e.real a w)->∀{st:St} {g:Gh} {a:Act} {w:World},SR N ds w0 g0 h0 st g a w->Rj cx c Qa st->c.wpIn (Jh ro) 0 P Q a w:=by
 intro c
 induction c with
 |skip=>intro _ Qa Q hQ st g a w hS hk;exact wpIn_skip (hQ .normal _ _ _ _ hk hS)
 |label l=>intro _ Qa Q hQ st g a w hS hk;exact wpIn_label (hQ .normal _ _ _ _ hk hS)
 |exit id=>intro _ Qa Q hQ st g a w hS hk;exact wpIn_exit (hQ (.exit id) _ _ _ _ hk hS)
 |ret=>intro _ Qa Q hQ st g a w hS hk;exact wpIn_ret (hQ .ret _ _ _ _ hk hS)
 |region id ops dr=>
  intro hc Qa Q hQ st g a w hS hk;have hd:∀o∈ops.toList,∀i,o.dst=some i->i<N:=fun o ho i hi=>by
   have:=(A9.1 hc) o ho
   grind [sO,Nat.blt_eq]
  have go:∀(st:St) (g:Gh) (hS:SR N ds w0 g0 h0 st g a w) (rH : Cx),rH.P=P->Cb P rH.T->rH.yp=cx.yp->Mn rH ops dr st (Qa .normal)->(Code.region id ops dr).wpIn (Jh ro) 0 P Q a w:=by
   intro st g hS rH hP hT hy hk;have hY:∀l σ h g w,D4 σ=true->CA w0 g0 h0 h g w->Le h0 g0 w0 h g w->rH.yp l σ (DB σ g) w:=by rw[hy];exact hY
   unfold Mn at hk;split at hk
   .exact wpIn_region_list (VI hP hT hY (fun Ef g' a' w' q1 q2=>hQ .normal _ _ _ _ q1 q2) ops.toList hd hS hk)
   .obtain⟨_,FT,hk⟩:=de hk;obtain⟨i1,i2⟩:=hS.inv.heapEq (w':={ w with drawn:=w.drawn+1 }) ⟨rfl,rfl,rfl⟩ rfl;have OA : SR N ds w0 g0 h0 st g a { w with drawn:=w.drawn+1 }:=⟨i1,hS.le.trans i2,hS.dfs,hS.size,fun i=>(hS.slots i).le i2⟩;exact wpIn_region_any hm (VD hP hT hY (fun Ef g' a' w' q1 q2=>hQ .normal _ _ _ _ q1 q2) (fun j o ho=>hd o aa1) _ _ OA hk)
  have vS:∀(st:St) (g:Gh) (hS:SR N ds w0 g0 h0 st g a w),(match cx.pl.dyn with | []=>Mn cx ops dr st (Qa .normal) | _=>∃n,Mn { cx with nid:=n } ops dr st (Qa .normal))->(Code.region id ops dr).wpIn (Jh ro) 0 P Q a w:=by
   grind
  unfold Rj sN at hk;split at hk
  .split at hk
   .split at hk
    .split at hk
     .obtain⟨h',g',OA,s,h1,h2⟩:=oc hS hk;exact vS s.st _ (OA.weaken hE h1) h2
     .obtain⟨h',g',OA,s,h1,h2⟩:=pt hS hk;exact vS s.st _ (OA.weaken hE h1) h2
    .obtain⟨Ef,g',OA,s,h1,h2⟩:=px hS hk;exact vS s.st _ (OA.weaken hE h1) h2
   .obtain⟨h',g',OA,s,h1,h2⟩:=pz hS hk;exact vS s.st _ (OA.weaken hE h1) h2
  grind
 |seq x y ihx ihy=>
  intro hc Qa Q hQ st g a w hS hk;simp only[Ed,Aj]at hc;refine wpIn_seq (ihx hc.1 (Qa:=fun e Ef=>match e with | .normal=>Rj cx y Qa Ef | e=>Qa e Ef) (fun e st g a w q hS=>?_) hS hk);cases e with
  |normal=>exact ihy hc.2 hQ hS q
  |exit id=>exact hQ (.exit id) _ _ _ _ q hS
  |ret=>exact hQ .ret _ _ _ _ q hS
 |cond c x y ihx ihy=>
  intro hc Qa Q hQ st g a w hS hk;simp only[Ed,Aj]at hc;have hr:=hS.eval c
  grind [wpIn_cond_true,wpIn_cond_false,A3.v_eq,Rj]
 |block id c ih=>
  intro hc Qa Q hQ st g a w hS hk;refine wpIn_block (ih hc (Qa:=fun e Ef=>match e with | .exit j=>(bif Nat.beq j id then Qa .normal Ef else Qa (.exit j) Ef) | e=>Qa e Ef) (fun e st g a w q hS=>?_) hS hk);cases e with
  |normal=>exact hQ .normal _ _ _ _ q hS
  |ret=>exact hQ .ret _ _ _ _ q hS
  |exit j=>
   show(if j=id then Q .normal a w else Q (.exit j) a w);dsimp only at q
   by_cases e:j=id
   .rw[As e];rw[e,Ue,cond_true]at q;exact hQ .normal _ _ _ _ q hS
   .rw[AB e];rw[Dx e,Gi]at q;exact hQ (.exit j) _ _ _ _ q hS
 |loop c ih=>
  intro hc Qa Q hQ st g a w hS hk;obtain⟨α,I,μ,⟨x,hx⟩,tu⟩:=hk;refine Ry (fun n a w=>∃x g,μ x=n/\SR N ds w0 g0 h0 (I x).st g a w) (μ x) ⟨x,g,rfl,hS.weaken hE hx⟩ ?_
  rintro n a w ⟨x,g,rfl,hS⟩
  refine ih hc (Qa:=fun e Ef=>match e with | .normal=>∃y,μ y<μ x/\St.le cx Ef (I y) | e=>Qa e Ef) (fun e st g a w q hS=>?_) hS (tu x);cases e with
  |normal=>
   obtain⟨y,q1,q2⟩:=q;exact⟨μ y,q1,y,g,rfl,hS.weaken hE q2⟩
  |exit id=>exact hQ (.exit id) _ _ _ _ q hS
  |ret=>exact hQ .ret _ _ _ _ q hS
 |_=>intro _ Qa Q hQ st g a w hS hk;exact hk.elim
end
end Go.Eng
