/- Lemmas 11. -/
import Derived.Test.YtpgfieopnnkpfaaGreatDoorQA10
import Derived.Deep.LoopGhost
namespace Go.Eng
variable {h:Nat->HO}{U:Nat->Prop}{cx:Cx}{av:AV}{cs:List AV}{i:Nat}{w:World}{o:Oper}{g:Gh}
section
variable {P:Program}{N:Nat}{ds:List Deferred}{w0:World}{g0:Gh}{h0 h:Nat->HO}{st:St}{g:Gh}{a:Act}{w:World}
theorem cj(hI:Cv w0 g0 h0 h g w)(r:Nat):∃g',Cv w0 g0 h0 (ji h r) g' w/\Le h g w (ji h r) g' w:=by
 unfold ji;split
 .rename_i cs e0;have ho:=hI.objs r;rw[e0]at ho;obtain⟨t1,b,E,vs,a1,a2,a3,a4,a5⟩:=ho;have hl:(h r).live:=by rw[e0];trivial
  have Fp:=(hI.loc r b hl a1).1;have hs:=O6 hI a4
  obtain⟨k1,k2⟩:=hI.upd r (.ro (cs.map (str h))) (g.ρ r) (g.ln r) (g.tk r) none (g.more b cs.length) w none ⟨rfl,rfl,rfl,Aq _⟩ (fun _ _ _=>rfl) (fun b e=>by cases e) (fun _ _ h=>.inl h)
   (fun b' o hs=>hs.elim .inl (fun hs=>.inr ⟨by rw[hs.1];exact Fp,.inr ⟨hl,by rw[hs.1];exact a1⟩⟩)) (fun b o e=>by cases e) (fun b hh _=>by cases hh) aa1
   (fun _=>⟨rfl,Aq _,fun _=>rfl,fun _=>rfl⟩) (fun hg hk=>by
    obtain⟨u1,u2,u3,u4⟩:=Bi g r (g.ρ r) (g.ln r) (g.tk r) none (g.more b cs.length);exact⟨u3.trans t1,b,u1.trans a2,A5.cptr_row a3 (hs.mono hk (fun _ h=>h) (fun _ h=>h.elim)) (fun o ho=>.inr ⟨rfl,by simpa using ho⟩)⟩)
  exact⟨_,k1,k2⟩
 .rename_i sh BN e0;have ho:=hI.objs r;rw[e0]at ho;obtain⟨t1,b,es,ck,a1,a2,a3,a4,a5,a6⟩:=ho<;>grind [QC]
 .rename_i sh BN e0;have ho:=hI.objs r;rw[e0]at ho;obtain⟨t1,b,es,ck,a1,a2,a3,a4,a5,a6⟩:=ho<;>grind [WL]
 grind [Le.refl]
theorem Oz:∀(l:List Nat) {h:Nat->HO} {g:Gh},Cv w0 g0 h0 h g w->∃g',Cv w0 g0 h0 (Pz h l) g' w/\Le h g w (Pz h l) g' w
 | [],_,g,hI=>⟨g,hI,.refl _ _ _⟩
 |r::l,_,_,hI=>
  let ⟨_,i1,i2⟩:=cj hI r
  let ⟨g2,j1,j2⟩:=Oz l i1
  ⟨g2,j1,i2.trans j2⟩
theorem Kt:∀(cs:List AV) (k:Nat) (v:AV) (i:Nat) (av:AV),(Gi cs k v)[i]?=some av->(i=k/\av=v)\/cs[i]?=some av
 | [],_,_,_,_,h=>by grind [Gi]
 |c::cs,0,v,i,av,h=>by
  grind [Gi]
 |c::cs,k+1,v,i,av,h=>by
  unfold Gi at h;cases i with
  |zero=>simp_all
  |succ i=>
   rcases Kt cs k v i av (by simpa using h)with ⟨e1,e2⟩ | e<;>simp_all
theorem Ku:∀(cs:List AV) (k:Nat) (v:AV),(Gi cs k v).length=cs.length
 | [],_,_=>rfl
 |_::_,0,_=>rfl
 |_::cs,k+1,v=>by unfold Gi;simp[Ku cs k v]
theorem YV:∀(cs:List AV) (k:Nat) (x:Value),Kp cs k=.v x->cs[k]?=some (.v x)
 | [],_,_,h=>by grind [Kp]
 |_::_,0,_,h=>by grind [Kp]
 |_::cs,k+1,x,h=>by unfold Kp at h;simpa using YV cs k x h
theorem sc(hI:Cv w0 g0 h0 h g w)(r k j sz:Nat):∃g',Cv w0 g0 h0 (xb h r k j sz) g' w/\Le h g w (xb h r k j sz) g' w:=by
 have same:∃g',Cv w0 g0 h0 h g' w/\Le h g w h g' w:=⟨g,hI,.refl _ _ _⟩;unfold xb;split
 .rename_i cs e0;split
  .rename_i e1;split
   .rename_i hj;have Fi:r≠j:=fun e=>by simp_all
    obtain⟨g1,i1,i2,i3⟩:=NP hI (sz:=sz) (es:=[]) (a:=none) hj aa1 rfl (.snil _ _ _);have ho:=i1.objs r;rw[BK _ _ _ _ Fi,e0]at ho;obtain⟨t1,b,E,vs,a1,a2,a3,a4,a5⟩:=ho;have hl:(AJ h j (.tok sz 0) r).live:=by rw[BK _ _ _ _ Fi,e0];trivial
    have Fp:=(i1.loc r b hl a1).1;have ZB:=YV cs k _ e1
    obtain⟨k1,k2⟩:=i1.upd r (.cells (Gi cs k (.slice (.id j sz) []))) (g1.ρ r) (g1.ln r) (g1.tk r) (g1.own r) g1.S w none ⟨rfl,rfl,rfl,Aq _⟩ (fun _ _ _=>rfl) (fun b e=>by cases e) (fun _ _ h=>h) (fun _ _ h=>.inl h)
     (fun b o e=>by cases e) (fun b' _ e=>⟨(i1.loc r b' hl e).1,.inl ⟨hl,e⟩⟩) aa1 (fun _=>⟨rfl,Aq _,fun _=>rfl,fun _=>rfl⟩) (fun hg hk=>by
      obtain⟨u1,u2,u3,u4⟩:=Bi g1 r (g1.ρ r) (g1.ln r) (g1.tk r) (g1.own r) g1.S;have Ij:∀i,used (AJ h j (.tok sz 0)) i->used (AJ (AJ h j (.tok sz 0)) r (.cells (Gi cs k (.slice (.id j sz) [])))) i:=fun i hi=>Do aa1 i hi;refine⟨u3.trans t1,b,E,vs,u4.trans a1,u1.trans a2,a3,⟨by rw[Ku];exact a4.1,a4.2.1,fun i av x q1 q2=>?_⟩,a5⟩;rcases Kt cs k _ i av q1 with ⟨rfl,rfl⟩ | q
      .have:=(a4.2.2 i _ x ZB q2).v_eq
       subst this;exact i3.mono hk Ij hg
      .exact(a4.2.2 i av x q q2).mono hk Ij hg)
    exact⟨_,k1,i2.trans k2⟩
   omega
  omega
 omega
theorem li(hS:SR N ds w0 g0 h0 st g a w):∃g',SR N ds w0 g0 h0 (lh cx o st) g' a w:=by
 unfold lh;split
 .grind
 .rename_i d _;split
  .obtain⟨g',h1,h2⟩:=sc hS.inv _ _ _ _;exact⟨g',h1,hS.le.trans h2,hS.dfs,hS.size,fun i=>(hS.slots i).le h2⟩
  split
  .grind
  .obtain⟨g',h1,h2⟩:=Oz (qb cx.pl.fz d) hS.inv;exact⟨g',h1,hS.le.trans h2,hS.dfs,hS.size,fun i=>(hS.slots i).le h2⟩
theorem Ta:∀(cs:List AV) (k:Nat) (r n:Nat),Kp cs k=.msl r n->cs[k]?=some (.msl r n)
 | [],_,_,_,h=>by grind [Kp]
 |_::_,0,_,_,h=>by grind [Kp]
 |_::cs,k+1,r,n,h=>by unfold Kp at h;simpa using Ta cs k r n h
theorem VT(hI:Cv w0 g0 h0 h g w){r sz:Nat}{es:List (List AV)}(hr:h r=.arr sz es) :
  ∃g',Cv w0 g0 h0 (AJ h r (.tok sz es.length)) g' w/\Le h g w (AJ h r (.tok sz es.length)) g' w/\A5 g' w (used (AJ h r (.tok sz es.length))) (.slice (.id r sz) es) (g.ρ r)/\g.ln r=es.length:=by
 have ho:=hI.objs r;rw[hr]at ho;obtain⟨t1,l1,al,a2⟩:=ho;have hl:(h r).live:=by rw[hr];trivial
 rcases a2 with ⟨b1,b2,b3⟩ | ⟨b,cap,E,vs,b1,b2,b3,b4,b5,b6,b7⟩
 .subst b1
  obtain⟨k1,k2⟩:=hI.upd r (.tok sz 0) (g.ρ r) (g.ln r) (g.tk r) (g.own r) g.S w none ⟨rfl,rfl,rfl,Aq _⟩ (fun _ _ _=>rfl) (fun b e=>by cases e) (fun _ _ h=>h) (fun _ _ h=>.inl h)
   (fun b o e=>by cases e) (fun b' _ e=>⟨(hI.loc r b' hl e).1,.inl ⟨hl,e⟩⟩) aa1 (fun _=>⟨rfl,Aq _,fun _=>rfl,fun _=>rfl⟩) (fun hg hk=>by
    obtain⟨u1,u2,u3,u4⟩:=Bi g r (g.ρ r) (g.ln r) (g.tk r) (g.own r) g.S;exact⟨u3.trans t1,u2.trans l1,none,0,u1.trans b2,.inl ⟨rfl,u4.trans b3⟩⟩)
  refine⟨_,k1,k2,?_,l1⟩;rw[b2];exact .tok _ r sz [] _ (.snil _ _ _) aa1 (by unfold used;rw[AA,AX];simp) (by simp[Gh.upd,t1]) aa1 (fun _=>by simp[Gh.upd])
 .have Fp:=(hI.loc r b hl b2).1
  obtain⟨k1,k2⟩:=hI.upd r (.tok sz es.length) (g.ρ r) (g.ln r) (g.tk r) (g.own r) (g.more b (es.length*sz)) w none ⟨rfl,rfl,rfl,Aq _⟩ (fun _ _ _=>rfl) (fun b e=>by cases e) (fun _ _ h=>.inl h)
   (fun b' o hs=>hs.elim .inl (fun hs=>.inr ⟨by omega,.inr ⟨hl,by simp_all⟩⟩)) (fun b o e=>by cases e) (fun b' _ e=>⟨(hI.loc r b' hl e).1,.inl ⟨hl,e⟩⟩) aa1
   (fun _=>⟨rfl,Aq _,fun _=>rfl,fun _=>rfl⟩) (fun hg hk=>by
    obtain⟨u1,u2,u3,u4⟩:=Bi g r (g.ρ r) (g.ln r) (g.tk r) (g.own r) (g.more b (es.length*sz));exact⟨u3.trans t1,u2.trans l1,_,cap,u1.trans b1,.inr ⟨b3,b,E,vs,0,rfl,u4.trans b2,.of b4,by omega,fun o ho=>by
     rcases ho with ho | ⟨_,ho⟩<;>simp_all⟩⟩)
  refine⟨_,k1,k2,?_,l1⟩;rw[b1];exact .tok _ r sz es _ (A5.slice_row b4 al b3 (b6.mono k2.keeps (fun _ h=>h) (fun _ h=>h.elim)) (fun o ho=>.inr ⟨rfl,ho⟩)) al (by grind [used,AX]) (by grind [Gh.upd]) (by grind [Gh.upd]) (fun _=>by simp[Gh.upd])
theorem Cv.move{w0:World}{g0:Gh}{h0 h:Nat->HO}{g:Gh}{w:World}(hI:Cv w0 g0 h0 h g w)(r r2:Nat)(Fi:r2≠r)(hf:h r2=.free)(hl:(h r).live){b:Nat}(ho:g.own r=some b)(o' : HO)(x:Value)(n:Nat)(t:Bool)(hn:o'≠.free)
  (Lq:ED g w (g.upd r2 x n t (some b) g.S) w->DB (g.upd r2 x n t (some b) g.S) w (used (AJ (AJ h r .dead) r2 o')) r2 o') :
  Cv w0 g0 h0 (AJ (AJ h r .dead) r2 o') (g.upd r2 x n t (some b) g.S) w/\Le h g w (AJ (AJ h r .dead) r2 o') (g.upd r2 x n t (some b) g.S) w:=by
 have jx:JS g (g.upd r2 x n t (some b) g.S) (used h):=by
  intro i hi;have e:i≠r2:=fun e=>hi (by simp_all)
  grind [Gh.upd]
 have hK:ED g w (g.upd r2 x n t (some b) g.S) w:=fun b o hb=>⟨hb,rfl,fun _ _ h=>h⟩;have Ij:∀i,used h i->used (AJ (AJ h r .dead) r2 o') i:=fun i hi=>Do hn i (Do aa1 i hi);have key:∀i,i≠r2->(AJ (AJ h r .dead) r2 o' i).live->i≠r/\(h i).live:=fun i h2 hl=>by
  rw[BK _ _ _ _ h2]at hl
  by_cases e:i=r
  .subst e;rw[AX]at hl;exact hl.elim
  grind [BK]
 have own:∀i,i≠r2->(g.upd r2 x n t (some b) g.S).own i=g.own i:=fun i e=>by simp[Gh.upd,e]
 have kS:(g.upd r2 x n t (some b) g.S).own r2=some b:=by simp[Gh.upd]
 refine⟨⟨hI.os,hI.tape,hI.output,hI.size,hI.frame,hI.slt,fun i=>?_,fun i j c hi hj ei ej=>?_,fun i c hi ei=>?_,hI.sg,hI.glob.keep hK⟩,jx,Ij,hK⟩
 .by_cases e:i=r2
  .grind [AX]
  .rw[BK _ _ _ _ e]
   by_cases e1:i=r
   .subst e1;rw[AX];trivial
   .rw[BK _ _ _ _ e1];exact(hI.objs i).same hK Ij jx (by simp[Gh.upd,e]) (by simp[Gh.upd,e]) (by simp[Gh.upd,e]) (by simp_all) (fun b hl hb=>⟨rfl,fun k hk=>hk⟩)
 .grind [Cv.inj]
 .by_cases e1:i=r2
  .subst e1;rw[kS]at ei;cases ei;exact hI.loc r _ hl ho
  .rw[own i e1]at ei;exact hI.loc i c (key i e1 hi).2 ei
theorem qa(hS:SR N ds w0 g0 h0 st g a w){s k:Nat}{K:St->Prop}(hk:xg st s k K):∃ES g',SR N ds w0 g0 h0 ES g' a w/\K ES:=by
 have same:K st->∃ES g',SR N ds w0 g0 h0 ES g' a w/\K ES:=fun hk=>⟨st,g,hS,hk⟩;unfold xg at hk;split at hk
 .rename_i r n ht;have cB:=hS.slots s;rw[ht]at cB;split at hk
  .rename_i sz es hr;have ho:=hS.inv.objs r;rw[hr]at ho;obtain⟨t1,l1,al,a2⟩:=ho;have hl:(st.h r).live:=by rw[hr];trivial
   have Lr:n=es.length->a.tmps.getD s undef=g.ρ r:=fun hn=>by
    grind [cases A5]
   have fin:∀(h' : Nat->HO) (v:AV) (g' : Gh),Cv w0 g0 h0 h' g' w->Le st.h g w h' g' w->A5 g' w (used h') v (a.tmps.getD s undef)->SR N ds w0 g0 h0 ⟨Jp st.t s v,h'⟩ g' a w:=fun h' v g' i1 i2 i3=>by
    grind [Jp,Ds,SR.mk,Le.trans,SR.le,SR.dfs,SR.size,A5.le,SR.slots]
   split at hk
   .obtain⟨hn,hk⟩:=hk;obtain⟨g1,i1,i2,i3,i4⟩:=VT hS.inv hr
    obtain⟨k1,k2⟩:=i1.upd r .dead (g1.ρ r) (g1.ln r) (g1.tk r) (g1.own r) g1.S w none ⟨rfl,rfl,rfl,Aq _⟩ (fun _ _ _=>rfl) (fun b e=>by cases e) (fun _ _ h=>h) (fun _ _ h=>.inl h) (fun b o e=>by cases e) (fun b hh _=>by cases hh) aa1
     (fun _=>⟨rfl,Aq _,fun _=>rfl,fun _=>rfl⟩) (fun _ _=>trivial)
    exact⟨_,_,fin _ _ _ k1 (i2.trans k2) (by grind [A5.le,A5.up,A5.slice_none]),hk⟩
   .rename_i k;split at hk
    .simp_all
    .rename_i hb;have Fi:k+1≠r:=fun e=>by simp_all
     split at hk
     .rename_i hf;obtain⟨hn,hk⟩:=hk;rcases a2 with ⟨b1,b2,b3⟩ | ⟨b,cap,E,vs,b1,b2,b3,b4,b5,b6,b7⟩
      .subst b1;have hv:=Lr hn
       obtain⟨k1,k2⟩:=hS.inv.upd r .dead (g.ρ r) (g.ln r) (g.tk r) (g.own r) g.S w none ⟨rfl,rfl,rfl,Aq _⟩ (fun _ _ _=>rfl) (fun b e=>by cases e) (fun _ _ h=>h) (fun _ _ h=>.inl h) (fun b o e=>by cases e) (fun b hh _=>by cases hh) aa1
        (fun _=>⟨rfl,Aq _,fun _=>rfl,fun _=>rfl⟩) (fun _ _=>trivial)
       have zI:AJ st.h r .dead (k+1)=.free:=by grind [BK]
       obtain⟨m1,m2⟩:=k1.upd (k+1) (.arr sz []) (.slice none 0 0) 0 true none (g.upd r (g.ρ r) (g.ln r) (g.tk r) (g.own r) g.S).S w none ⟨rfl,rfl,rfl,Aq _⟩ (fun _ _ _=>rfl) (fun b e=>by cases e) (fun _ _ h=>h) (fun _ _ h=>.inl h) (fun b o e=>by cases e) (fun b _ e=>by cases e) aa1
        (fun hu=>absurd zI hu) (fun _ _=>by
         obtain⟨u1,u2,u3,u4⟩:=Bi (g.upd r (g.ρ r) (g.ln r) (g.tk r) (g.own r) g.S) (k+1) (.slice none 0 0) 0 true none (g.upd r (g.ρ r) (g.ln r) (g.tk r) (g.own r) g.S).S;exact⟨u3,u2,by simp,.inl ⟨rfl,u1,u4⟩⟩)
       refine⟨_,_,fin _ _ _ m1 (k2.trans m2) ?_,hk⟩;rw[hv,b2,hn];exact .msl _ (k+1) 0 none 0 (by grind [used,AX]) (by simp[Gh.upd]) (Ao _) (.inl rfl) (fun _=>by simp[Gh.upd])
      .have hv:=Lr hn;obtain⟨m1,m2⟩:=hS.inv.move r (k+1) Fi hf hl b2 (.arr sz es) (g.ρ r) es.length true aa1 (fun HP=>by
        obtain⟨u1,u2,u3,u4⟩:=Bi g (k+1) (g.ρ r) es.length true (some b) g.S;exact⟨u3,u2,al,.inr ⟨b,cap,E,vs,u1.trans b1,u4,b3,b4,b5,b6.mono HP (fun _ h=>h) (fun _ h=>h.elim),b7⟩⟩)
       refine⟨_,_,fin _ _ _ m1 m2 ?_,hk⟩;rw[hv,b1,hn];exact .msl _ (k+1) es.length _ cap (by grind [used,AX]) (by simp[Gh.upd]) (by simp[Gh.upd]) (.inr ⟨b,rfl⟩) (fun _=>by simp[Gh.upd])
     simp_all
  simp_all
 simp_all
theorem p7(hS:SR N ds w0 g0 h0 st g a w){o k j:Nat}{K:(Nat->HO)->Prop}(hk:xf st.h o k j K):∃h' g',SR N ds w0 g0 h0 ⟨st.t,h'⟩ g' a w/\K h':=by
 unfold xf at hk;split at hk
 .rename_i cs e0;split at hk
  .rename_i r n e1;split at hk
   .rename_i sz es e2;split at hk
    .rename_i hf;obtain⟨hn,hk⟩:=hk;have ho:=hS.inv.objs r;rw[e2]at ho;obtain⟨t1,l1,al,a2⟩:=ho;have hl:(st.h r).live:=by rw[e2];trivial
     have Fi:j≠r:=fun e=>by simp_all
     have nW:o≠r:=fun e=>by simp_all
     have nV:o≠j:=fun e=>by simp_all
     -- the array goes to the new id,which stands for the same slice
     have step:∃g1,Cv w0 g0 h0 (AJ (AJ st.h r .dead) j (.arr sz es)) g1 w/\Le st.h g w (AJ (AJ st.h r .dead) j (.arr sz es)) g1 w/\g1.tk j=true/\g1.ln j=es.length/\g1.ρ j=g.ρ r:=by
      rcases a2 with ⟨b1,b2,b3⟩ | ⟨b,cap,E,vs,b1,b2,b3,b4,b5,b6,b7⟩
      .subst b1
       obtain⟨k1,k2⟩:=hS.inv.upd r .dead (g.ρ r) (g.ln r) (g.tk r) (g.own r) g.S w none ⟨rfl,rfl,rfl,Aq _⟩ (fun _ _ _=>rfl) (fun b e=>by cases e) (fun _ _ h=>h) (fun _ _ h=>.inl h) (fun b o e=>by cases e) (fun b hh _=>by cases hh) aa1
        (fun _=>⟨rfl,Aq _,fun _=>rfl,fun _=>rfl⟩) (fun _ _=>trivial)
       have zI:AJ st.h r .dead j=.free:=by grind [BK]
       obtain⟨m1,m2⟩:=k1.upd j (.arr sz []) (.slice none 0 0) 0 true none (g.upd r (g.ρ r) (g.ln r) (g.tk r) (g.own r) g.S).S w none ⟨rfl,rfl,rfl,Aq _⟩ (fun _ _ _=>rfl) (fun b e=>by cases e) (fun _ _ h=>h) (fun _ _ h=>.inl h) (fun b o e=>by cases e) (fun b _ e=>by cases e) aa1
        (fun hu=>absurd zI hu) (fun _ _=>by
         obtain⟨u1,u2,u3,u4⟩:=Bi (g.upd r (g.ρ r) (g.ln r) (g.tk r) (g.own r) g.S) j (.slice none 0 0) 0 true none (g.upd r (g.ρ r) (g.ln r) (g.tk r) (g.own r) g.S).S;exact⟨u3,u2,by simp,.inl ⟨rfl,u1,u4⟩⟩)
       exact⟨_,m1,k2.trans m2,by simp[Gh.upd],by simp[Gh.upd],by simp[Gh.upd,b2]⟩
      .obtain⟨m1,m2⟩:=hS.inv.move r j Fi hf hl b2 (.arr sz es) (g.ρ r) es.length true aa1 (fun HP=>by
        obtain⟨u1,u2,u3,u4⟩:=Bi g j (g.ρ r) es.length true (some b) g.S;exact⟨u3,u2,al,.inr ⟨b,cap,E,vs,u1.trans b1,u4,b3,b4,b5,b6.mono HP (fun _ h=>h) (fun _ h=>h.elim),b7⟩⟩)
       exact⟨_,m1,m2,by simp[Gh.upd],by simp[Gh.upd],by simp[Gh.upd]⟩
     obtain⟨g1,i1,i2,j1,j2,j3⟩:=step
     -- the cell
     have ho:=hS.inv.objs o;rw[e0]at ho;have ho1:=i1.objs o;rw[BK _ _ _ _ nV,BK _ _ _ _ nW,e0]at ho1;obtain⟨t2,b,E,vs,c1,c2,c3,c4,c5⟩:=ho1;obtain⟨_,b',E',gX,mG,c2',c3',c4',_⟩:=ho;have hb:b'=b:=by
      have h2:=i2.gh o (by grind [used]);simp_all
     subst hb;rw[c3]at c3';cases c3';have eZ:(AJ (AJ st.h r .dead) j (.arr sz es) o).live:=by rw[BK _ _ _ _ nV,BK _ _ _ _ nW,e0];trivial
     have ZB:=Ta cs k _ _ e1
     obtain⟨k1,k2⟩:=i1.upd o (.cells (Gi cs k (.msl j n))) (g1.ρ o) (g1.ln o) (g1.tk o) (g1.own o) g1.S w none ⟨rfl,rfl,rfl,Aq _⟩ (fun _ _ _=>rfl) (fun b e=>by cases e) (fun _ _ h=>h) (fun _ _ h=>.inl h)
      (fun b o e=>by cases e) (fun b' _ e=>⟨(i1.loc o b' eZ e).1,.inl ⟨eZ,e⟩⟩) aa1 (fun _=>⟨rfl,Aq _,fun _=>rfl,fun _=>rfl⟩) (fun hg sL=>by
       obtain⟨u1,u2,u3,u4⟩:=Bi g1 o (g1.ρ o) (g1.ln o) (g1.tk o) (g1.own o) g1.S;have Ij:∀i,used (AJ (AJ st.h r .dead) j (.arr sz es)) i->used (AJ (AJ (AJ st.h r .dead) j (.arr sz es)) o (.cells (Gi cs k (.msl j n)))) i:=fun i hi=>Do aa1 i hi;refine⟨u3.trans t2,_,E,vs,u4.trans c1,u1.trans c2,c3,⟨by rw[Ku];exact c4.1,c4.2.1,fun i av x q1 q2=>?_⟩,c5⟩;rcases Kt cs k _ i av q1 with ⟨rfl,rfl⟩ | q
       .have hx:=c4'.2.2 i _ x ZB q2;have hm:A5 g1 w (used (AJ (AJ st.h r .dead) j (.arr sz es))) (.msl j n) x:=by
         grind [used,AX,cases A5,A5.msl]
        grind [A5.mono]
       .exact(c4.2.2 i av x q q2).mono sL Ij hg)
     exact⟨_,_,⟨k1,hS.le.trans (i2.trans k2),hS.dfs,hS.size,fun i=>(hS.slots i).le (i2.trans k2)⟩,hk⟩
    .exact hk.elim
   simp_all
  simp_all
 .exact hk.elim
theorem Q9{h:Nat->HO}(hI:Cv w0 g0 h0 h g w){o k:Nat}{cs:List AV}(e0:h o=.cells cs){old new:AV}(hk:cs[k]?=some old)(DS:∀x:Value,A5 g w (used h) old x->A5 g w (used h) new x) :
  ∃g',Cv w0 g0 h0 (AJ h o (.cells (Gi cs k new))) g' w/\Le h g w (AJ h o (.cells (Gi cs k new))) g' w:=by
 have ho:=hI.objs o;rw[e0]at ho;obtain⟨t1,b,E,vs,a1,a2,a3,a4,a5⟩:=ho;have hl:(h o).live:=by rw[e0];trivial
 obtain⟨k1,k2⟩:=hI.upd o (.cells (Gi cs k new)) (g.ρ o) (g.ln o) (g.tk o) (g.own o) g.S w none ⟨rfl,rfl,rfl,Aq _⟩ (fun _ _ _=>rfl) (fun b e=>by cases e) (fun _ _ h=>h) (fun _ _ h=>.inl h)
  (fun b o e=>by cases e) (fun b' _ e=>⟨(hI.loc o b' hl e).1,.inl ⟨hl,e⟩⟩) aa1 (fun _=>⟨rfl,Aq _,fun _=>rfl,fun _=>rfl⟩) (fun hg sL=>by
   obtain⟨u1,u2,u3,u4⟩:=Bi g o (g.ρ o) (g.ln o) (g.tk o) (g.own o) g.S;have Ij:∀i,used h i->used (AJ h o (.cells (Gi cs k new))) i:=fun i hi=>Do aa1 i hi;refine⟨u3.trans t1,b,E,vs,u4.trans a1,u1.trans a2,a3,⟨by rw[Ku];exact a4.1,a4.2.1,fun i av x q1 q2=>?_⟩,a5⟩;rcases Kt cs k _ i av q1 with ⟨rfl,rfl⟩ | q
   .exact(DS x (a4.2.2 i _ x hk q2)).mono sL Ij hg
   .exact(a4.2.2 i av x q q2).mono sL Ij hg)
 exact⟨_,k1,k2⟩
theorem Kq:∀(cs:List AV) (k:Nat) (a:AV),Kp cs k=a->a≠.junk->cs[k]?=some a
 | [],_,a,h,hn=>by grind [Kp]
 |_::_,0,_,h,_=>by grind [Kp]
 |_::cs,k+1,a,h,hn=>by unfold Kp at h;simpa using Kq cs k a h hn
theorem Cv.moveV{h:Nat->HO}(hI:Cv w0 g0 h0 h g w)(r r2 v:Nat)(Fi:r2≠r)(hf:h r2=.vox v)(hl:(h r).live)(o' : HO)(x:Value)(n:Nat)(hv:v<n)(hn:o'≠.free)
  (Lq:ED g w (g.upd r2 x n true (g.own r) g.S) w->DB (g.upd r2 x n true (g.own r) g.S) w (used (AJ (AJ h r .dead) r2 o')) r2 o') :
  Cv w0 g0 h0 (AJ (AJ h r .dead) r2 o') (g.upd r2 x n true (g.own r) g.S) w/\Le h g w (AJ (AJ h r .dead) r2 o') (g.upd r2 x n true (g.own r) g.S) w:=by
 have rk:=hI.objs r2;rw[hf]at rk;obtain⟨ht2,eZ⟩:=rk;have jx:JS g (g.upd r2 x n true (g.own r) g.S) (used h):=by
  intro i hi
  grind [Gh.upd]
 have hK:ED g w (g.upd r2 x n true (g.own r) g.S) w:=fun b o hb=>⟨hb,rfl,fun _ _ h=>h⟩;have Ij:∀i,used h i->used (AJ (AJ h r .dead) r2 o') i:=fun i hi=>Do hn i (Do aa1 i hi);have key:∀i,i≠r2->(AJ (AJ h r .dead) r2 o' i).live->i≠r/\(h i).live:=fun i h2 hl=>by
  rw[BK _ _ _ _ h2]at hl
  by_cases e:i=r
  .subst e;rw[AX]at hl;exact hl.elim
  grind [BK]
 have own:∀i,i≠r2->(g.upd r2 x n true (g.own r) g.S).own i=g.own i:=fun i e=>by simp[Gh.upd,e]
 have kS:(g.upd r2 x n true (g.own r) g.S).own r2=g.own r:=by simp[Gh.upd]
 refine⟨⟨hI.os,hI.tape,hI.output,hI.size,hI.frame,hI.slt,fun i=>?_,fun i j c hi hj ei ej=>?_,fun i c hi ei=>?_,hI.sg,hI.glob.keep hK⟩,jx,Ij,hK⟩
 .by_cases e:i=r2
  .grind [AX]
  .rw[BK _ _ _ _ e]
   by_cases e1:i=r
   .subst e1;rw[AX];trivial
   .rw[BK _ _ _ _ e1];exact(hI.objs i).same hK Ij jx (by simp[Gh.upd,e]) (by simp[Gh.upd,e]) (by simp[Gh.upd,e]) (by simp_all) (fun b hl hb=>⟨rfl,fun k hk=>hk⟩)
 .grind [Cv.inj]
 .by_cases e1:i=r2
  .subst e1;rw[kS]at ei;exact hI.loc r _ hl ei
  .rw[own i e1]at ei;exact hI.loc i c (key i e1 hi).2 ei
theorem sf(hS:SR N ds w0 g0 h0 st g a w){o k d:Nat}{K:(Nat->HO)->Prop}(hk:uvK st.h o k d K):∃h' g',SR N ds w0 g0 h0 ⟨st.t,h'⟩ g' a w/\K h':=by
 unfold uvK at hk;split at hk
 .rename_i cs e0;split at hk
  .rename_i r sz v es e1;split at hk
   .rename_i Ho v' n e2;split at hk
    .rename_i hf;obtain⟨⟨rfl,rfl⟩,hk⟩:=hk;have ho:=hS.inv.objs r;rw[e2]at ho;obtain⟨t1,l1,a0,cap,r1,a2⟩:=ho;have hl:(st.h r).live:=by rw[e2];trivial
     have Fi:d≠r:=fun e=>by simp_all
     have nW:o≠r:=fun e=>by simp_all
     have hod:o≠d:=fun e=>by simp_all
     have ZB:=Kq cs k _ e1 aa1
     -- the value that stands in the cell
     have hoc:=hS.inv.objs o;rw[e0]at hoc;obtain⟨_,b',E',gX,c1,c2,c3,c4,_⟩:=hoc;obtain⟨x,hx1,_,sP⟩:=c4.at ZB;have gT:x=.slice a0 n cap/\es.length=n/\A5 g w EZ (.slice .none es) x/\∀c∈es,c.length=sz:=by
      grind [A5.slice_none,cases A5]
     obtain⟨hxe,hn,hx3,nT⟩:=gT;subst hn;obtain⟨m1,m2⟩:=hS.inv.moveO r d Fi hf hl (ob:=g.own r) (fun c h=>h) (.tok sz es.length) (.slice a0 es.length cap) es.length true aa1 (fun HP=>by
      obtain⟨u1,u2,u3,u4⟩:=Bi g d (.slice a0 es.length cap) es.length true (g.own r) g.S;refine⟨u3,u2,a0,cap,u1,?_⟩;rw[u4];exact a2)
     generalize jQ:g.upd d (.slice a0 es.length cap) es.length true (g.own r) g.S=g1 at m1 m2;have gr:g1.tk r=true/\g1.ln r=v:=by grind [Gh.upd]
     have gd:g1.tk d=true/\g1.ln d=es.length/\g1.ρ d=.slice a0 es.length cap:=by grind [Gh.upd]
     -- the id keeps its version
     have hrd:(AJ (AJ st.h r .dead) d (.tok sz es.length)) r=.dead:=by grind [BK,AX]
     obtain⟨n1,n2⟩:=m1.upd r (.vox v) (g1.ρ r) (g1.ln r) (g1.tk r) (g1.own r) g1.S w none ⟨rfl,rfl,rfl,Aq _⟩ (fun _ _ _=>rfl) (fun b e=>by cases e) (fun _ _ h=>h) (fun _ _ h=>.inl h) (fun b o e=>by cases e) (fun b hh _=>by cases hh) aa1
      (fun _=>⟨rfl,Aq _,fun _=>rfl,fun _=>rfl⟩) (fun _ _=>by
       obtain⟨u1,u2,u3,u4⟩:=Bi g1 r (g1.ρ r) (g1.ln r) (g1.tk r) (g1.own r) g1.S;exact⟨u3.trans gr.1,u2.trans gr.2⟩)
     have hh:AJ (AJ (AJ st.h r .dead) d (.tok sz es.length)) r (.vox v)=AJ (AJ st.h r (.vox v)) d (.tok sz es.length):=by
      grind [AJ,Ds]
     rw[hh]at n1 n2;generalize qV:g1.upd r (g1.ρ r) (g1.ln r) (g1.tk r) (g1.own r) g1.S=g2 at n1 n2;have gd2:g2.tk d=true/\g2.ln d=es.length/\g2.ρ d=.slice a0 es.length cap:=by grind [Gh.upd]
     have tW : (AJ (AJ st.h r (.vox v)) d (.tok sz es.length)) o=.cells cs:=by grind [BK]
     have L2:=m2.trans n2;have Afl:g2.ρ o=g.ρ o:=(L2.gh o (by grind [used])).2.2.1 (by assumption);obtain⟨g3,p1,p2⟩:=Q9 n1 tW ZB (new:=.slice (.id d sz) es) (fun y hy=>by
      grind [Gh.upd,used,AX,cases A5,A5.tok])
     exact⟨_,g3,⟨p1,hS.le.trans (L2.trans p2),hS.dfs,hS.size,fun i=>(hS.slots i).le (L2.trans p2)⟩,hk⟩
    simp_all
   simp_all
  .exact⟨_,g,hS,hk⟩
 simp_all
theorem rZ(hS:SR N ds w0 g0 h0 st g a w){o k r:Nat}{K:(Nat->HO)->Prop}(hk:rvK st.h o k r K):∃h' g',SR N ds w0 g0 h0 ⟨st.t,h'⟩ g' a w/\K h':=by
 unfold rvK at hk;split at hk
 .rename_i cs e0;split at hk
  .rename_i d sz es e1;split at hk
   .rename_i Ho n e2;split at hk
    .rename_i v hf;obtain⟨⟨hn,rfl⟩,hk⟩:=hk;subst hn;have ho:=hS.inv.objs d;rw[e2]at ho;obtain⟨t1,l1,a0,cap,r1,a2⟩:=ho;have hl:(st.h d).live:=by rw[e2];trivial
     have Fi:r≠d:=fun e=>by simp_all
     have hod:o≠d:=fun e=>by simp_all
     have nW:o≠r:=fun e=>by simp_all
     have ZB:=Kq cs k _ e1 aa1;obtain⟨m1,m2⟩:=hS.inv.moveV d r v Fi hf hl (.var sz (v+1) es.length) (.slice a0 es.length cap) (v+1) (Nat.lt_succ_self v) aa1 (fun HP=>by
      obtain⟨u1,u2,u3,u4⟩:=Bi g r (.slice a0 es.length cap) (v+1) true (g.own d) g.S;refine⟨u3,u2,a0,cap,u1,?_⟩;rw[u4];exact a2)
     generalize jQ:g.upd r (.slice a0 es.length cap) (v+1) true (g.own d) g.S=g1 at m1 m2;have gr:g1.tk r=true/\g1.ln r=v+1/\g1.ρ r=.slice a0 es.length cap:=by grind [Gh.upd]
     have gd:g1.ln d=es.length/\g1.ρ d=.slice a0 es.length cap:=by grind [Gh.upd]
     have tW : (AJ (AJ st.h d .dead) r (.var sz (v+1) es.length)) o=.cells cs:=by grind [BK]
     obtain⟨g3,p1,p2⟩:=Q9 m1 tW ZB (new:=.slice (.ver r sz (v+1)) es) (fun y hy=>by
      grind [used,AX,cases A5,A5.ver])
     exact⟨_,g3,⟨p1,hS.le.trans (m2.trans p2),hS.dfs,hS.size,fun i=>(hS.slots i).le (m2.trans p2)⟩,hk⟩
    simp_all
   simp_all
  .exact⟨_,g,hS,hk⟩
 simp_all
theorem rQ(hS:SR N ds w0 g0 h0 st g a w){r:Nat}{K:(Nat->HO)->Prop}(hk:nvK st.h r K):∃h' g',SR N ds w0 g0 h0 ⟨st.t,h'⟩ g' a w/\K h':=by
 unfold nvK at hk;split at hk
 .rename_i hf
  obtain⟨m1,m2⟩:=hS.inv.upd r (.vox 0) (.slice none 0 0) 0 true none g.S w none ⟨rfl,rfl,rfl,Aq _⟩ (fun _ _ _=>rfl) (fun b e=>by cases e) (fun _ _ h=>h) (fun _ _ h=>.inl h) (fun b o e=>by cases e) (fun b hh _=>by cases hh) aa1
   (fun hu=>absurd hf hu) (fun _ _=>by
    obtain⟨u1,u2,u3,u4⟩:=Bi g r (.slice none 0 0) 0 true none g.S;exact⟨u3,u2⟩)
  exact⟨_,_,⟨m1,hS.le.trans m2,hS.dfs,hS.size,fun i=>(hS.slots i).le m2⟩,hk⟩
 simp_all
theorem lv(hS:SR N ds w0 g0 h0 st g a w){o k:Nat}{K:(Nat->HO)->Prop}(hk:xa st.h o k K):∃h' g',SR N ds w0 g0 h0 ⟨st.t,h'⟩ g' a w/\K h':=by
 unfold xa at hk;split at hk
 .rename_i cs e0;split at hk
  .rename_i r e1;split at hk
   .rename_i sh BN e2;have ZB:=Kq cs k _ e1 aa1;obtain⟨g3,p1,p2⟩:=Q9 hS.inv e0 ZB (new:=.cmap sh BN) (fun y hy=>by
     have e3:rsv st.h (.mref r)=.cmap sh BN:=by
      show(match st.h r with | .rom sh BN=>AV.cmap sh BN | _=>.mref r)=_;rw[e2]
     rw[<-e3];exact A5.rsv hS.inv.objs hy)
    exact⟨_,g3,⟨p1,hS.le.trans p2,hS.dfs,hS.size,fun i=>(hS.slots i).le p2⟩,hk⟩
   simp_all
  simp_all
 simp_all
theorem sm(hS:SR N ds w0 g0 h0 st g a w){o k j sz:Nat}{K:(Nat->HO)->Prop}(hk:zaK st.h o k j sz K):∃h' g',SR N ds w0 g0 h0 ⟨st.t,h'⟩ g' a w/\K h':=by
 unfold zaK at hk;split at hk
 .rename_i cs e0;split at hk
  .rename_i e1;split at hk
   .rename_i hf;have nW:o≠j:=fun e=>by simp_all
    have ZB:=Kq cs k _ e1 aa1
    obtain⟨m1,m2⟩:=hS.inv.upd j (.arr sz []) (.slice none 0 0) 0 true none g.S w none ⟨rfl,rfl,rfl,Aq _⟩ (fun _ _ _=>rfl) (fun b e=>by cases e) (fun _ _ h=>h) (fun _ _ h=>.inl h) (fun b o e=>by cases e) (fun b hh e=>by simp_all) aa1
     (fun hu=>absurd hf hu) (fun _ _=>by
      obtain⟨u1,u2,u3,u4⟩:=Bi g j (.slice none 0 0) 0 true none g.S;exact⟨u3,u2,(fun cs hc=>by cases hc),.inl ⟨rfl,u1,u4⟩⟩)
    generalize jQ:g.upd j (.slice none 0 0) 0 true none g.S=g1 at m1 m2;have gr:g1.tk j=true/\g1.ln j=0/\g1.ρ j=.slice none 0 0:=by grind [Gh.upd]
    have tW : (AJ st.h j (.arr sz [])) o=.cells cs:=by grind [BK]
    obtain⟨g3,p1,p2⟩:=Q9 m1 tW ZB (new:=.msl j 0) (fun y hy=>by
     grind [used,AX,cases A5,A5.msl])
    exact⟨_,g3,⟨p1,hS.le.trans (m2.trans p2),hS.dfs,hS.size,fun i=>(hS.slots i).le (m2.trans p2)⟩,hk⟩
   simp_all
  simp_all
 simp_all
theorem iE{id:Nat}(hS:SR N ds w0 g0 h0 st g a w){K:(Nat->HO)->Prop}(hk:yZ cx id st.h fun h=>w9 cx id h fun h=>v6 cx id h fun h=>sU cx id h K):∃h' g',SR N ds w0 g0 h0 ⟨st.t,h'⟩ g' a w/\K h':=by
 have h1:∃h' g',SR N ds w0 g0 h0 ⟨st.t,h'⟩ g' a w/\w9 cx id h' fun h=>v6 cx id h fun h=>sU cx id h K:=by
  unfold yZ at hk;split at hk
  .obtain⟨g',i1,i2⟩:=cj hS.inv _;exact⟨_,g',⟨i1,hS.le.trans i2,hS.dfs,hS.size,fun i=>(hS.slots i).le i2⟩,hk⟩
  .exact⟨_,g,hS,hk⟩
 obtain⟨h1,g1,S1,hk⟩:=h1;have h2:∃h' g',SR N ds w0 g0 h0 ⟨st.t,h'⟩ g' a w/\v6 cx id h' fun h=>sU cx id h K:=by
  unfold w9 at hk;split at hk
  .exact lv S1 hk
  grind
 obtain⟨h2,g2,S2,hk⟩:=h2;have h3:∃h' g',SR N ds w0 g0 h0 ⟨st.t,h'⟩ g' a w/\sU cx id h' K:=by
  unfold v6 at hk;split at hk
  .exact lv S2 hk
  grind
 obtain⟨h3,g3,S3,hk⟩:=h3;unfold sU at hk;split at hk
 .exact sm S3 hk
 grind
theorem re(hS:SR N ds w0 g0 h0 st g a w){r:Nat}{K:(Nat->HO)->Prop}(hk:hoK st.h r K):∃h' g',SR N ds w0 g0 h0 ⟨st.t,h'⟩ g' a w/\K h':=by
 unfold hoK at hk;split at hk
 .rename_i sz es i c j m er;split at hk
  .simp_all
  .rename_i hb;have Fi:r≠j:=fun e=>by simp_all
   split at hk
   .rename_i dh qs ej;obtain⟨hm,cs,hi,hc,hk⟩:=hk;have ho:=hS.inv.objs r;rw[er]at ho;obtain⟨t1,l1,al,b,cap,E,vs,e1,e2,e3,e4,e5,e6,e7,e8,x,e9,UE⟩:=ho;obtain⟨g1,i1,i2,i3,i4⟩:=VT hS.inv ej;have j8:x=g.ρ j:=by
     grind [cases A5]
    obtain⟨k1,k2⟩:=i1.upd j .dead (g1.ρ j) (g1.ln j) (g1.tk j) (g1.own j) g1.S w none ⟨rfl,rfl,rfl,Aq _⟩ (fun _ _ _=>rfl) (fun b e=>by cases e) (fun _ _ h=>h) (fun _ _ h=>.inl h) (fun b o e=>by cases e) (fun b hh _=>by cases hh) aa1
     (fun _=>⟨rfl,Aq _,fun _=>rfl,fun _=>rfl⟩) (fun _ _=>trivial)
    generalize qV:g1.upd j (g1.ρ j) (g1.ln j) (g1.tk j) (g1.own j) g1.S=g2 at k1 k2;have DS:A5 g2 w EZ (.slice .none qs) x:=by rw[j8];exact i3.slice_none.mono k2.keeps (fun _ h=>h) (fun _ h=>h.elim)
    have yX:AJ (AJ st.h j (.tok dh qs.length)) j .dead r=.hol sz es i c (.msl j m):=by grind [BK]
    have ho2:=k1.objs r;rw[yX]at ho2;obtain⟨t1',l1',xe,b',MU,E',gX,f1,f2,f3,f4,f5,f6,f7,f8,x',f9,f10⟩:=ho2;have hl:(AJ (AJ st.h j (.tok dh qs.length)) j .dead r).live:=by rw[yX];trivial
    have hρ:g2.ρ r=g.ρ r:=by
     have q1:=(i2.trans k2).gh r (by grind [used]);simp_all
    have cD:gX=vs:=by
     simp_all
    subst cD;have hxx:x'=x:=by simp_all
    subst hxx;have Fp:=(AR.1 hi).1;have TY:=xe cs (AO hi);have hfl:=LI xe hi c [AV.slice .none qs] (by grind);have Cy:es.flatten.length=es.length*sz:=CX xe
    obtain⟨m1,m2⟩:=k1.upd r (.arr sz (es.set i (over cs c [.slice .none qs]))) (g2.ρ r) (g2.ln r) (g2.tk r) (g2.own r) g2.S w none ⟨rfl,rfl,rfl,Aq _⟩ (fun _ _ _=>rfl) (fun b e=>by cases e) (fun _ _ h=>h) (fun _ _ h=>.inl h)
     (fun b o e=>by cases e) (fun b' _ e=>⟨(k1.loc r b' hl e).1,.inl ⟨hl,e⟩⟩) aa1 (fun _=>⟨rfl,Aq _,fun _=>rfl,fun _=>rfl⟩) (fun hg HP=>by
      obtain⟨u1,u2,u3,u4⟩:=Bi g2 r (g2.ρ r) (g2.ln r) (g2.tk r) (g2.own r) g2.S;refine⟨u3.trans t1',u2.trans (by simp_all),fun d hd=>?_,.inr ⟨b',MU,E',gX,by simp_all,u4.trans f2,by simp_all,f4,f5,?_,f7⟩⟩
      .grind [FW]
      .rw[hfl,Hq];refine⟨by rw[FW];simp_all,f6.2.1,fun p av y q1 q2=>?_⟩;rw[Gx _ _ _ _ (by grind)]at q1;split at q1
       .rename_i hp;have hp0:p=i*sz+c:=by grind
        subst hp0;rw[Io]at q1;cases q1
        have:y=x':=by
         grind
        rw[this];exact DS.mono HP (fun _ h=>h) (fun _ h=>h.elim)
       .exact(f6.2.2 p av y q1 q2).mono HP (fun _ h=>h) (fun _ h=>h.elim))
    exact⟨_,_,⟨m1,hS.le.trans ((i2.trans k2).trans m2),hS.dfs,hS.size,fun i=>((hS.slots i).le (i2.trans k2)).le m2⟩,hk⟩
   simp_all
 simp_all
theorem pg{id:Nat}(hS:SR N ds w0 g0 h0 st g a w){K:(Nat->HO)->Prop}(hk:si cx id st.h K):∃h' g',SR N ds w0 g0 h0 ⟨st.t,h'⟩ g' a w/\K h':=by
 unfold si at hk;split at hk
 .grind [sf]
 .split at hk
  .grind [rZ]
  .split at hk
   .grind [rQ]
   .split at hk
    .grind [re]
    .exact iE hS hk
theorem qc(hS:SR N ds w0 g0 h0 st g a w){o k:Nat}{K:(Nat->HO)->Prop}(hk:xj st.h o k K):∃h' g',SR N ds w0 g0 h0 ⟨st.t,h'⟩ g' a w/\K h':=by
 have same:K st.h->∃h' g',SR N ds w0 g0 h0 ⟨st.t,h'⟩ g' a w/\K h':=fun hk=>⟨st.h,g,hS,hk⟩;unfold xj at hk;split at hk
 .rename_i cs e0;split at hk
  .rename_i r n e1;split at hk
   .rename_i sz es e2;obtain⟨rfl,hk⟩:=hk;have Fi:o≠r:=fun e=>by simp_all
    obtain⟨g1,i1,i2,i3,i4⟩:=VT hS.inv e2;have ho:=i1.objs o;rw[BK _ _ _ _ Fi,e0]at ho;obtain⟨t1,b,E,vs,a1,a2,a3,a4,a5⟩:=ho;have hl:(AJ st.h r (.tok sz es.length) o).live:=by rw[BK _ _ _ _ Fi,e0];trivial
    have ZB:=Ta cs k _ _ e1;have jX:=hS.inv.objs o;rw[e0]at jX;obtain⟨_,b',E',gX,a1',a2',a3',a4',_⟩:=jX
    obtain⟨k1,k2⟩:=i1.upd o (.cells (Gi cs k (.slice (.id r sz) es))) (g1.ρ o) (g1.ln o) (g1.tk o) (g1.own o) g1.S w none ⟨rfl,rfl,rfl,Aq _⟩ (fun _ _ _=>rfl) (fun b e=>by cases e) (fun _ _ h=>h) (fun _ _ h=>.inl h)
     (fun b o e=>by cases e) (fun b' _ e=>⟨(i1.loc o b' hl e).1,.inl ⟨hl,e⟩⟩) aa1 (fun _=>⟨rfl,Aq _,fun _=>rfl,fun _=>rfl⟩) (fun hg HP=>by
      obtain⟨u1,u2,u3,u4⟩:=Bi g1 o (g1.ρ o) (g1.ln o) (g1.tk o) (g1.own o) g1.S;have Ij:∀i,used (AJ st.h r (.tok sz es.length)) i->used (AJ (AJ st.h r (.tok sz es.length)) o (.cells (Gi cs k (.slice (.id r sz) es)))) i:=fun i hi=>Do aa1 i hi;refine⟨u3.trans t1,b,E,vs,u4.trans a1,u1.trans a2,a3,⟨by rw[Ku];exact a4.1,a4.2.1,fun i av x q1 q2=>?_⟩,a5⟩;rcases Kt cs k _ i av q1 with ⟨rfl,rfl⟩ | q
      .have hx:=a4.2.2 i _ x ZB q2;have j8:x=g.ρ r:=by
        have jQ:=i2.gh o (by grind [used]);have cD:vs=gX:=by
         simp_all
        subst cD
        have:=a4'.2.2 i _ x ZB q2
        grind [cases A5]
       grind [A5.mono]
      .exact(a4.2.2 i av x q q2).mono HP Ij hg)
    exact⟨_,_,⟨k1,hS.le.trans (i2.trans k2),hS.dfs,hS.size,fun i=>((hS.slots i).le i2).le k2⟩,hk⟩
   simp_all
  simp_all
 simp_all
theorem p5{K:St->Prop}(hS:SR N ds w0 g0 h0 st g a w)(hk:xd cx o st K):∃ES g',SR N ds w0 g0 h0 ES g' a w/\K ES:=by
 have same:K st->∃ES g',SR N ds w0 g0 h0 ES g' a w/\K ES:=fun hk=>⟨st,g,hS,hk⟩;unfold xd at hk;split at hk
 .simp_all
 .split at hk
  .simp_all
  .rename_i s _;split at hk
   .rename_i r n ht;split at hk
    .rename_i sz es hr;obtain⟨hn,hk⟩:=hk;subst hn;have hI:=hS.inv;have ho:=hI.objs r;rw[hr]at ho;obtain⟨t1,l1,al,a2⟩:=ho;have hl:(st.h r).live:=by rw[hr];trivial
     have cB:=hS.slots s;rw[ht]at cB;have Lr:a.tmps.getD s undef=g.ρ r:=by
      grind [cases A5]
     have fin:∀g',Cv w0 g0 h0 (AJ st.h r (.tok sz es.length)) g' w->Le st.h g w (AJ st.h r (.tok sz es.length)) g' w->A5 g' w (used (AJ st.h r (.tok sz es.length))) (.slice (.id r sz) es) (g.ρ r) ->
       ∃ES g',SR N ds w0 g0 h0 ES g' a w/\K ES:=fun g' i1 i2 i3=>by
      refine⟨_,g',⟨i1,hS.le.trans i2,hS.dfs,hS.size,fun i=>?_⟩,hk⟩
      grind [Jp,Ds,A5.le,SR.slots]
     rcases a2 with ⟨b1,b2,b3⟩ | ⟨b,cap,E,vs,b1,b2,b3,b4,b5,b6,b7⟩
     .subst b1
      obtain⟨k1,k2⟩:=hI.upd r (.tok sz 0) (g.ρ r) (g.ln r) (g.tk r) (g.own r) g.S w none ⟨rfl,rfl,rfl,Aq _⟩ (fun _ _ _=>rfl) (fun b e=>by cases e) (fun _ _ h=>h) (fun _ _ h=>.inl h)
       (fun b o e=>by cases e) (fun b' _ e=>⟨(hI.loc r b' hl e).1,.inl ⟨hl,e⟩⟩) aa1 (fun _=>⟨rfl,Aq _,fun _=>rfl,fun _=>rfl⟩) (fun hg hk=>by
        obtain⟨u1,u2,u3,u4⟩:=Bi g r (g.ρ r) (g.ln r) (g.tk r) (g.own r) g.S;exact⟨u3.trans t1,u2.trans l1,none,0,u1.trans b2,.inl ⟨rfl,u4.trans b3⟩⟩)
      refine fin _ k1 k2 ?_;rw[b2];exact .tok _ r sz [] _ (.snil _ _ _) aa1 (by unfold used;rw[AX];simp) (by simp[Gh.upd,t1]) aa1 (fun _=>by simp[Gh.upd])
     .have Fp:=(hI.loc r b hl b2).1
      obtain⟨k1,k2⟩:=hI.upd r (.tok sz es.length) (g.ρ r) (g.ln r) (g.tk r) (g.own r) (g.more b (es.length*sz)) w none ⟨rfl,rfl,rfl,Aq _⟩ (fun _ _ _=>rfl) (fun b e=>by cases e) (fun _ _ h=>.inl h)
       (fun b' o hs=>hs.elim .inl (fun hs=>.inr ⟨by omega,.inr ⟨hl,by simp_all⟩⟩)) (fun b o e=>by cases e) (fun b' _ e=>⟨(hI.loc r b' hl e).1,.inl ⟨hl,e⟩⟩) aa1
       (fun _=>⟨rfl,Aq _,fun _=>rfl,fun _=>rfl⟩) (fun hg hk=>by
        obtain⟨u1,u2,u3,u4⟩:=Bi g r (g.ρ r) (g.ln r) (g.tk r) (g.own r) (g.more b (es.length*sz));exact⟨u3.trans t1,u2.trans l1,_,cap,u1.trans b1,.inr ⟨b3,b,E,vs,0,rfl,u4.trans b2,.of b4,by omega,fun o ho=>by
         rcases ho with ho | ⟨_,ho⟩<;>simp_all⟩⟩)
      refine fin _ k1 k2 ?_;rw[b1];exact .tok _ r sz es _ (A5.slice_row b4 al b3 (b6.mono k2.keeps (fun _ h=>h) (fun _ h=>h.elim)) (fun o ho=>.inr ⟨rfl,ho⟩)) al (by grind [used,AX]) (by grind [Gh.upd]) (by grind [Gh.upd]) (fun _=>by simp[Gh.upd])
    simp_all
   simp_all
variable {cx:Cx}(hP:cx.P=P)(hT:BY P cx.T)(hY:∀l σ h g w,D3 σ=true->Cv w0 g0 h0 h g w->Le h0 g0 w0 h g w->cx.yp l σ (DE σ g) w){ro:Option Nat}{ops:Array Oper}
include hP hT hY
theorem RA{dr:Bool}{o:Oper}(hd:∀i,o.dst=some i->i<N){K:St->Prop}{next:Act->World->Prop}{Q:Exit->Act->World->Prop}(hS:SR N ds w0 g0 h0 st g a w)(hk:Ix cx dr ops.toList o st K)
  (hn:∀ES g' a' w',K ES->SR N ds w0 g0 h0 ES g' a' w'->next a' w'):if Region.wanted o (yielded ops a.tmps)then o.wpIn (Jv ro) 0 P a w next Q else next (a.put o.dst undef) w:=by
 have run:ij cx dr o st K->o.wpIn (Jv ro) 0 P a w next Q:=by
  intro hk;unfold ij at hk;split at hk
  .exact ik hP hY hT hS hk fun v h' g' w' x q1 q2 q3 q4=>hn _ g' _ _ q1 (hS.put hd q2 q3 q4)
  .obtain⟨g1,nG⟩:=li (cx:=cx) (o:=o) hS;obtain⟨ES,g',UL,hk⟩:=p5 nG hk;exact ik hP hY hT UL hk fun v h' g' w' x q1 q2 q3 q4=>hn _ g' _ _ q1 (UL.put hd q2 q3 q4)
 have skip:K (st.put o.dst (.v undef) st.h)->next (a.put o.dst undef) w:=fun hk=>hn _ g _ _ hk (hS.put hd hS.inv (.refl _ _ _) (.v _ _))
 unfold Ix at hk;split at hk
 .grind [Region.wanted]
 .rename_i j want hg;split at hk
  .simp_all
  .rename_i d hj;have hy:∀x:Value,A5 g w (used st.h) (st.t d) x->x=a.tmps.getD d undef->True:=fun _ _ _=>trivial;have hs:=hS.slots d;rw[Va]at hj;have key:∀b:Bool,a.tmps.getD d undef=.bool b->yielded ops a.tmps j=some b:=by
    intro b hb;have Fp:d<a.tmps.size:=by
     apply Nat.lt_of_not_le;intro uY;rw[Nj,Array.getElem?_eq_none uY]at hb;cases hb
    simp only[yielded,hj,Option.bind_some];simp_all
   have AfU:∀t,a.tmps.getD d undef=.tuple t->yielded ops a.tmps j=none:=by
    intro t hb;simp only[yielded,hj,Option.bind_some];cases he:a.tmps[d]?<;>simp_all
   grind [Region.wanted,A5.v_eq]
theorem VR{Q:Exit->Act->World->Prop}{K:St->Prop}(hQ:∀ES g' a' w',K ES->SR N ds w0 g0 h0 ES g' a' w'->Q .normal a' w') :
  ∀(l:List Oper),(∀o∈l,∀i,o.dst=some i->i<N)->∀{st:St} {g:Gh} {a:Act} {w:World},SR N ds w0 g0 h0 st g a w->XA cx ops.toList l st K->wpListIn (Jv ro) 0 P ops Q l a w
 | [],_,st,g,a,w,hS,hk=>hQ st g a w hk hS
 | [o],hd,st,g,a,w,hS,hk=>by
  have:=RA hP hT hY (ro:=ro) (hd o (Ai ..)) (next:=wpListIn (Jv ro) 0 P ops Q []) (Q:=Q) hS hk fun ES g' a' w' q1 q2=>hQ ES g' a' w' q1 q2
  unfold wpListIn;split
  .simp_all
  .rename_i hw;rw[Aw hw]at this;exact⟨fun _ _=>trivial,this⟩
 |o::o2::l,hd,st,g,a,w,hS,hk=>by
  cases hc:Yx o o2 with
  |true=>
   have hk:mS cx o st fun ES=>XA cx ops.toList l ES K:=by
    grind [XA]
   obtain⟨g1,g2,h1⟩:=mT hT (ro:=ro) (o2:=o2) (hd o (Ai ..)) hc hS hk (next:=wpListIn (Jv ro) 0 P ops Q l) (Q:=Q) fun ES g' a' w' q1 q2=>VR hQ l (fun o' vq=>hd o' (At _ (At _ vq))) q2 q1
   unfold wpListIn;rw[AE (by grind [Region.wanted])];have e:(fun(a1:Act) (w1:World)=>o2.wpIn (Jv ro) 0 P a1 w1 (wpListIn (Jv ro) 0 P ops Q l) Q)=wpListIn (Jv ro) 0 P ops Q (o2::l):=by
    grind [wpListIn,Region.wanted]
   simp_all
  |false=>
   have hk:Ix cx false ops.toList o st fun ES=>XA cx ops.toList (o2::l) ES K:=by
    grind [XA]
   have:=RA hP hT hY (ro:=ro) (hd o (Ai ..)) (next:=wpListIn (Jv ro) 0 P ops Q (o2::l)) (Q:=Q) hS hk fun ES g' a' w' q1 q2=>VR hQ (o2::l) (fun o' vq=>hd o' (At _ vq)) q2 q1
   unfold wpListIn;split
   .simp_all
   .rename_i hw;rw[Aw hw]at this;exact⟨fun _ _=>trivial,this⟩
theorem VM{Q:Exit->Act->World->Prop}{K:St->Prop}{FT:Nat->Fm}(hQ:∀ES g' a' w',K ES->SR N ds w0 g0 h0 ES g' a' w'->Q .normal a' w')(hd:∀(j:Nat) (o:Oper),ops[j]?=some o->∀i,o.dst=some i->i<N) :
  ∀(fuel:Nat) (listed:Array Bool) {st:St} {g:Gh} {a:Act} {w:World},SR N ds w0 g0 h0 st g a w->Xv cx ops FT K fuel listed st->wpAnyIn (Jv ro) 0 P .any ops Q fuel listed a w
 |0,_,st,g,a,w,hS,hk=>⟨hk.1,hQ st g a w hk.2 hS⟩
 |fuel+1,listed,st,g,a,w,hS,hk=>by
  refine⟨fun h0=>hQ st g a w (hk.1 h0) hS,fun i hi=>?_⟩;have h1:=hk.2 i hi;unfold sZ at h1;unfold wpOpIn;cases ho:ops[i]? with
  |none=>rw[ho]at h1;exact VM hQ hd fuel _ hS h1
  |some o=>
   rw[ho]at h1
   have:=RA hP hT hY (ro:=ro) (hd i o ho) (next:=wpAnyIn (Jv ro) 0 P .any ops Q fuel (listed.setIfInBounds i true)) (Q:=Q) hS h1.2 fun ES g' a' w' q1 q2=>VM hQ hd fuel _ q2 q1
   dsimp only;split
   .simp_all
   .rename_i hw;rw[Aw hw]at this;exact⟨fun _ _=>trivial,this⟩
end
theorem EV{r:Nat}(e:T3 h r=true):used h r:=by
 grind [T3,used]
theorem A5.ids0{x:Value}(r:A5 g w U av x)(e:ids0 h av=true):A5 g w (used h) av x:=by
 cases r with
 |v=>exact .v _ _
 |junk=>exact .junk _ _
 |snil=>grind [snil]
 |slice _ es b off sz cap val hc hl CY DS=>exact .slice _ es b off sz cap val hc hl CY DS
 |tok _ r sz es x hs hl hu ht hn hx=>exact .tok _ r sz es x ((A5.slice_none hs).up _) hl (EV e) ht hn hx
 |ver _ r sz v es x hs hl hu ht hn hx=>exact .ver _ r sz v es x ((A5.slice_none hs).up _) hl (EV e) ht hn hx
 |full _ sz es x hs hl hx=>grind [full,A5.slice_none,up]
 |msl _ r n a cap hu ht hn ha hx=>exact .msl _ r n a cap (EV e) ht hn ha hx
 |agg=>cases e
 |tup=>cases e
 |cptr _ cs b off val CY DS=>exact .cptr _ cs b off val CY DS
 |ref _ r off b hu ht hx=>exact .ref _ r off b (EV e) ht hx
 |eref _ r n sz i off b cap hu ht hn hx=>exact .eref _ r n sz i off b cap (EV e) ht hn hx
 |mref _ r b hu ht hx=>exact .mref _ r b (EV e) ht hx
 |cmap _ sh BN b es ck hS hb hm hv=>grind [cmap]
 |clo=>cases e
theorem SH(e:Yp h cs=true)(hi:cs[i]?=some av):ids0 h av=true:=by
 induction cs generalizing i<;>grind [Yp]
theorem kc(e:n9 h cs=true)(hi:cs[i]?=some av):SF h av=true:=by
 induction cs generalizing i<;>grind [n9]
theorem fh{BN:List (Value×AV)}(e:SG h BN=true){kv:Value×AV}(hi:BN[i]?=some kv):SF h kv.2=true:=by
 induction BN generalizing i<;>grind [SG]
theorem A5.ids{x:Value}(r:A5 g w U av x)(e:SF h av=true):A5 g w (used h) av x:=by
 cases r with
 |agg _ cs vs hs h1 hr=>exact .agg _ cs vs hs h1 fun i av x q1 q2=>(hr i av x q1 q2).ids0 (SH e q1)
 |tup _ cs vs hs hr=>exact .tup _ cs vs hs fun i av x q1 q2=>(hr i av x q1 q2).ids0 (SH e q1)
 |clo _ f cs vs hs hr=>exact .clo _ f cs vs hs fun i av x q1 q2=>(hr i av x q1 q2).ids0 (SH e q1)
 |v=>exact .v _ _
 |junk=>exact .junk _ _
 |snil=>grind [snil]
 |slice _ es b off sz cap val hc hl CY DS=>exact .slice _ es b off sz cap val hc hl CY DS
 |tok _ r sz es x hs hl hu ht hn hx=>exact .tok _ r sz es x ((A5.slice_none hs).up _) hl (EV e) ht hn hx
 |ver _ r sz v es x hs hl hu ht hn hx=>exact .ver _ r sz v es x ((A5.slice_none hs).up _) hl (EV e) ht hn hx
 |full _ sz es x hs hl hx=>grind [full,A5.slice_none,up]
 |msl _ r n a cap hu ht hn ha hx=>exact .msl _ r n a cap (EV e) ht hn ha hx
 |cptr _ cs b off val CY DS=>exact .cptr _ cs b off val CY DS
 |ref _ r off b hu ht hx=>exact .ref _ r off b (EV e) ht hx
 |eref _ r n sz i off b cap hu ht hn hx=>exact .eref _ r n sz i off b cap (EV e) ht hn hx
 |mref _ r b hu ht hx=>exact .mref _ r b (EV e) ht hx
 |cmap _ sh BN b es ck hS hb hm hv=>grind [cmap]
theorem YE{st:St}{h:Nat->HO}:∀{l:List (Nat×AV)},wZ st h l->∀i,RY l i=.junk\/(st.t i=RY l i/\SF h (RY l i)=true)
 | [],_,i=>.inl rfl
 |(j,a)::l,⟨h1,h2⟩,i=>by
  unfold RY
  by_cases e:i=j
  .simp_all
  .simp only[Ds e,GE];exact YE h2 i
theorem YD{st:St}{h hb:Nat->HO}(hhb:∀j,hb j=.free\/(st.h j=hb j/\aO h (hb j)=true)):∀{l:List (Nat×HO)},wY st h l->∀i,Ar l hb i=.free\/(st.h i=Ar l hb i/\aO h (Ar l hb i)=true)
 | [],_,i=>hhb i
 |(j,a)::l,⟨h1,h2⟩,i=>by
  unfold Ar
  by_cases e:i=j
  .simp_all
  .simp only[Ds e,GE];exact YD hhb h2 i
def Lv(cx:Cx)(h0:Nat->HO):Prop:=match cx.ext with | false=>∀i,h0 i=.free | true=>∀i,h0 i≠.free->1000<=i/\i<2000
section
variable {P:Program}{N:Nat}{ds:List Deferred}{w0:World}{g0:Gh}{h0:Nat->HO}{st:St}{g:Gh}{a:Act}{w:World}{cx:Cx}
theorem SR.weaken(hE:Lv cx h0)(hS:SR N ds w0 g0 h0 st g a w){s:LS}(HB:St.le cx st s):SR N ds w0 g0 h0 s.st g a w:=by
 obtain⟨h1,h2,h3,h4⟩:=HB;have hT:=YE h1;have hH:∀i,s.st.h i=.free\/(st.h i=s.st.h i/\aO s.st.h (s.st.h i)=true):=YD h3 h2;have LP:∀r,(s.st.h r).live->(st.h r).live:=fun r hl=>by
  rcases hH r with e | ⟨e,_⟩
  .rw[e]at hl;exact hl.elim
  simp_all
 have hI:=hS.inv;refine⟨⟨hI.os,hI.tape,hI.output,hI.size,hI.frame,hI.slt,fun r=>?_,fun r r' b l l'=>hI.inj r r' b (LP r l) (LP r' l'),fun r b l=>hI.loc r b (LP r l),hI.sg,hI.glob⟩,⟨hS.le.gh,fun i hi=>?_,hS.le.keeps⟩,hS.dfs,hS.size,fun i=>?_⟩
 .rcases hH r with e | ⟨e,e2⟩
  .rw[e];trivial
  .have ho:=hI.objs r;rw[e]at ho;generalize s.st.h r=o at ho e2;cases o with
   |cells cs=>
    obtain⟨t,b,E,vs,a1,a2,a3,a4,a5⟩:=ho;exact⟨t,b,E,vs,a1,a2,a3,⟨a4.1,a4.2.1,fun i av x q1 q2=>(a4.2.2 i av x q1 q2).ids (kc e2 q1)⟩,a5⟩
   |hol sz es i c av=>
    obtain⟨t,l,al,b,cap,E,vs,b1,b2,b3,b4,b5,b6,b7,b8,x,b9,Xd⟩:=ho;exact⟨t,l,al,b,cap,E,vs,b1,b2,b3,b4,b5,b6,b7,b8,x,b9,Xd.ids e2⟩
   |bld x=>
    obtain⟨t,b,p,v,a1,a2,a3,a4,a5,a6⟩:=ho;exact⟨t,b,p,v,a1,a2,a3,a4,a5.ids e2,a6⟩
   |mapU sh BN=>
    obtain⟨t,b,es,ck,a1,a2,a3,a4,a5,a6⟩:=ho;exact⟨t,b,es,ck,a1,a2,a3,a4,fun i kv e q1 q2=>(a5 i kv e q1 q2).ids (fh e2 q1),a6⟩
   |_=>exact ho
 .have hu:=hS.le.us i hi;unfold Lv at hE;split at hE
  .exact absurd (hE i) hi
  .rename_i hx;rw[hx]at h4;exact h4 i (hE i hi).1 (hE i hi).2 hu
 .show A5 g w (used s.st.h) (RY s.t i) _;rcases hT i with e | ⟨e,e2⟩
  .grind [A5.junk]
  .rw[<-e]at e2⊢;exact(hS.slots i).ids e2
def Ex.real:Ex->Exit
 |.normal=>.normal
 |.exit id=>.exit id
 |.ret=>.ret
def tV(N:Nat)(o:Oper):Bool:=match o.dst with | some d=>Nat.blt d N | none=>true
def Ee(N:Nat):Code->Bool
 |.region _ ops _=>ops.toList.all (tV N)
 |.seq a b=>Ee N a&&Ee N b
 |.cond _ a b=>Ee N a&&Ee N b
 |.block _ c=>Ee N c
 |.loop c=>Ee N c
 |_=>true
theorem Nr(hP:cx.P=P)(hT:BY P cx.T)(hm:P.follows .mixedOrders=true)(hE:Lv cx h0)(hY:∀l σ h g w,D3 σ=true->Cv w0 g0 h0 h g w->Le h0 g0 w0 h g w->cx.yp l σ (DE σ g) w)(ro:Option Nat):∀(c:Code),Ee N c=true->∀{Qa:Ex->St->Prop} {Q:Exit->Act->World->Prop},
  (∀e st g a w,Qa e st->SR N ds w0 g0 h0 st g a w->Q e.real a w)->∀{st:St} {g:Gh} {a:Act} {w:World},SR N ds w0 g0 h0 st g a w->Pl cx c Qa st->c.wpIn (Jv ro) 0 P Q a w:=by
 intro c
 induction c with
 |skip=>intro _ Qa Q hQ st g a w hS hk;exact wpIn_skip (hQ .normal _ _ _ _ hk hS)
 |label l=>intro _ Qa Q hQ st g a w hS hk;exact wpIn_label (hQ .normal _ _ _ _ hk hS)
 |exit id=>intro _ Qa Q hQ st g a w hS hk;exact wpIn_exit (hQ (.exit id) _ _ _ _ hk hS)
 |ret=>intro _ Qa Q hQ st g a w hS hk;exact wpIn_ret (hQ .ret _ _ _ _ hk hS)
 |region id ops dr=>
  intro hc Qa Q hQ st g a w hS hk;have hd:∀o∈ops.toList,∀i,o.dst=some i->i<N:=fun o ho i hi=>by
   have:=(BI.1 hc) o ho
   grind [tV,Nat.blt_eq]
  have go:∀(st:St) (g:Gh) (hS:SR N ds w0 g0 h0 st g a w) (su : Cx),su.P=P->BY P su.T->su.yp=cx.yp->Mm su ops dr st (Qa .normal)->(Code.region id ops dr).wpIn (Jv ro) 0 P Q a w:=by
   intro st g hS su hP hT hy hk;have hY:∀l σ h g w,D3 σ=true->Cv w0 g0 h0 h g w->Le h0 g0 w0 h g w->su.yp l σ (DE σ g) w:=by rw[hy];exact hY
   unfold Mm at hk;split at hk
   .exact wpIn_region_list (VR hP hT hY (fun ES g' a' w' q1 q2=>hQ .normal _ _ _ _ q1 q2) ops.toList hd hS hk)
   .obtain⟨_,FT,hk⟩:=dt hk;obtain⟨i1,i2⟩:=hS.inv.heapEq (w':={ w with drawn:=w.drawn+1 }) ⟨rfl,rfl,rfl⟩ rfl;have UL : SR N ds w0 g0 h0 st g a { w with drawn:=w.drawn+1 }:=⟨i1,hS.le.trans i2,hS.dfs,hS.size,fun i=>(hS.slots i).le i2⟩;exact wpIn_region_any hm (VM hP hT hY (fun ES g' a' w' q1 q2=>hQ .normal _ _ _ _ q1 q2) (fun j o ho=>hd o (by grind)) _ _ UL hk)
  have wH:∀(st:St) (g:Gh) (hS:SR N ds w0 g0 h0 st g a w),(match cx.pl.dyn with | []=>Mm cx ops dr st (Qa .normal) | _=>∃n,Mm { cx with nid:=n } ops dr st (Qa .normal))->(Code.region id ops dr).wpIn (Jv ro) 0 P Q a w:=by
   grind
  unfold Pl tU at hk;split at hk
  .split at hk
   .split at hk
    .split at hk
     .obtain⟨h',g',UL,s,h1,h2⟩:=pg hS hk;exact wH s.st _ (UL.weaken hE h1) h2
     .obtain⟨h',g',UL,s,h1,h2⟩:=p7 hS hk;exact wH s.st _ (UL.weaken hE h1) h2
    .obtain⟨ES,g',UL,s,h1,h2⟩:=qa hS hk;exact wH s.st _ (UL.weaken hE h1) h2
   .obtain⟨h',g',UL,s,h1,h2⟩:=qc hS hk;exact wH s.st _ (UL.weaken hE h1) h2
  grind
 |seq x y ihx ihy=>
  intro hc Qa Q hQ st g a w hS hk;simp only[Ee,Au]at hc;refine wpIn_seq (ihx hc.1 (Qa:=fun e ES=>match e with | .normal=>Pl cx y Qa ES | e=>Qa e ES) (fun e st g a w q hS=>?_) hS hk);cases e with
  |normal=>exact ihy hc.2 hQ hS q
  |exit id=>exact hQ (.exit id) _ _ _ _ q hS
  |ret=>exact hQ .ret _ _ _ _ q hS
 |cond c x y ihx ihy=>
  intro hc Qa Q hQ st g a w hS hk;simp only[Ee,Au]at hc;have hr:=hS.eval c
  grind [wpIn_cond_true,wpIn_cond_false,A5.v_eq,Pl]
 |block id c ih=>
  intro hc Qa Q hQ st g a w hS hk;refine wpIn_block (ih hc (Qa:=fun e ES=>match e with | .exit j=>(bif Nat.beq j id then Qa .normal ES else Qa (.exit j) ES) | e=>Qa e ES) (fun e st g a w q hS=>?_) hS hk);cases e with
  |normal=>exact hQ .normal _ _ _ _ q hS
  |ret=>exact hQ .ret _ _ _ _ q hS
  |exit j=>
   show(if j=id then Q .normal a w else Q (.exit j) a w);dsimp only at q
   by_cases e:j=id
   .rw[AE e];rw[e,Nat.beq_refl,cond_true]at q;exact hQ .normal _ _ _ _ q hS
   .rw[Aw e];rw[Ds e,GE]at q;exact hQ (.exit j) _ _ _ _ q hS
 |loop c ih=>
  intro hc Qa Q hQ st g a w hS hk;obtain⟨α,I,μ,⟨x,hx⟩,uC⟩:=hk;refine Q4 (fun n a w=>∃x g,μ x=n/\SR N ds w0 g0 h0 (I x).st g a w) (μ x) ⟨x,g,rfl,hS.weaken hE hx⟩ ?_
  rintro n a w ⟨x,g,rfl,hS⟩
  refine ih hc (Qa:=fun e ES=>match e with | .normal=>∃y,μ y<μ x/\St.le cx ES (I y) | e=>Qa e ES) (fun e st g a w q hS=>?_) hS (uC x);cases e with
  |normal=>
   obtain⟨y,q1,q2⟩:=q;exact⟨μ y,q1,y,g,rfl,hS.weaken hE q2⟩
  |exit id=>exact hQ (.exit id) _ _ _ _ q hS
  |ret=>exact hQ .ret _ _ _ _ q hS
 |_=>intro _ Qa Q hQ st g a w hS hk;exact hk.elim
end
end Go.Eng
