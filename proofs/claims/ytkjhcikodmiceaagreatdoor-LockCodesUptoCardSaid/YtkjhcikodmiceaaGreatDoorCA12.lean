/- Lemmas 12. -/
import Derived.Test.YtkjhcikodmiceaaGreatDoorCA11
import Derived.Deep.LoopGhost
namespace Go.Eng
variable {h:Nat->HO}{U:Nat->Prop}{cx:Cx}{av:AV}{cs:List AV}{i:Nat}{w:World}{o:Oper}{g:D}
section
variable {P:Program}{N:Nat}{ds:List Deferred}{w0:World}{g0:D}{h0 h:Nat->HO}{st:St}{g:D}{a:Act}{w:World}
theorem kk(hI:CH w0 g0 h0 h g w)(r:Nat):∃g',CH w0 g0 h0 (qX h r) g' w/\Le h g w (qX h r) g' w:=by
 unfold qX;split
 .rename_i cs e0;have ho:=hI.objs r;rw[e0]at ho;obtain⟨t1,b,E,vs,a1,a2,a3,a4,a5⟩:=ho;have hl:(h r).live:=by rw[e0];trivial
  have CL:=(hI.loc r b hl a1).1;have hs:=Rh hI a4
  obtain⟨k1,k2⟩:=hI.upd r (.ro (cs.map (str h))) (g.ρ r) (g.ln r) (g.tk r) none (g.more b cs.length) w none ⟨rfl,rfl,rfl,Af _⟩ (fun _ _ _=>rfl) (fun b e=>by cases e) (fun _ _ h=>.inl h)
   (fun b' o hs=>hs.elim .inl (fun hs=>.inr ⟨by rw[hs.1];exact CL,.inr ⟨hl,by rw[hs.1];exact a1⟩⟩)) (fun b o e=>by cases e) (fun b hh _=>by cases hh) aa1
   (fun _=>⟨rfl,Af _,fun _=>rfl,fun _=>rfl⟩) (fun hg hk=>by
    obtain⟨u1,u2,u3,u4⟩:=Bn g r (g.ρ r) (g.ln r) (g.tk r) none (g.more b cs.length);exact⟨u3.trans t1,b,u1.trans a2,O.cptr_row a3 (hs.mono hk (fun _ h=>h) (fun _ h=>h.elim)) (fun o ho=>.inr ⟨rfl,by simpa using ho⟩)⟩)
  exact⟨_,k1,k2⟩
 .rename_i sh BM e0;have ho:=hI.objs r;rw[e0]at ho;obtain⟨t1,b,es,ck,a1,a2,a3,a4,a5,a6⟩:=ho<;>grind [TR]
 .rename_i sh BM e0;have ho:=hI.objs r;rw[e0]at ho;obtain⟨t1,b,es,ck,a1,a2,a3,a4,a5,a6⟩:=ho<;>grind [aO]
 grind [Le.refl]
theorem NT:∀(l:List Nat) {h:Nat->HO} {g:D},CH w0 g0 h0 h g w->∃g',CH w0 g0 h0 (Qw h l) g' w/\Le h g w (Qw h l) g' w
 | [],_,g,hI=>⟨g,hI,.refl _ _ _⟩
 |r::l,_,_,hI=>
  let ⟨_,i1,i2⟩:=kk hI r
  let ⟨g2,j1,j2⟩:=NT l i1
  ⟨g2,j1,i2.trans j2⟩
theorem Lj:∀(cs:List AV) (k:Nat) (v:AV) (i:Nat) (av:AV),(Fs cs k v)[i]?=some av->(i=k/\av=v)\/cs[i]?=some av
 | [],_,_,_,_,h=>by grind [Fs]
 |c::cs,0,v,i,av,h=>by
  grind [Fs]
 |c::cs,k+1,v,i,av,h=>by
  unfold Fs at h;cases i with
  |zero=>simp_all
  |succ i=>
   rcases Lj cs k v i av (by simpa using h)with ⟨e1,e2⟩ | e<;>simp_all
theorem Ll:∀(cs:List AV) (k:Nat) (v:AV),(Fs cs k v).length=cs.length
 | [],_,_=>rfl
 |_::_,0,_=>rfl
 |_::cs,k+1,v=>by unfold Fs;simp[Ll cs k v]
theorem eI:∀(cs:List AV) (k:Nat) (x:Value),Jq cs k=.v x->cs[k]?=some (.v x)
 | [],_,_,h=>by grind [Jq]
 |_::_,0,_,h=>by grind [Jq]
 |_::cs,k+1,x,h=>by unfold Jq at h;simpa using eI cs k x h
theorem AcN(hI:CH w0 g0 h0 h g w)(r k j sz:Nat):∃g',CH w0 g0 h0 (tz1 h r k j sz) g' w/\Le h g w (tz1 h r k j sz) g' w:=by
 have same:∃g',CH w0 g0 h0 h g' w/\Le h g w h g' w:=⟨g,hI,.refl _ _ _⟩;unfold tz1;split
 .rename_i cs e0;split
  .rename_i e1;split
   .rename_i hj;have Ec:r≠j:=fun e=>by simp_all
    obtain⟨g1,i1,i2,i3⟩:=Pt hI (sz:=sz) (es:=[]) (a:=none) hj aa1 rfl (.snil _ _ _);have ho:=i1.objs r;rw[BS _ _ _ _ Ec,e0]at ho;obtain⟨t1,b,E,vs,a1,a2,a3,a4,a5⟩:=ho;have hl:(AS h j (.tok sz 0) r).live:=by rw[BS _ _ _ _ Ec,e0];trivial
    have CL:=(i1.loc r b hl a1).1;have Xd:=eI cs k _ e1
    obtain⟨k1,k2⟩:=i1.upd r (.cells (Fs cs k (.slice (.id j sz) []))) (g1.ρ r) (g1.ln r) (g1.tk r) (g1.own r) g1.S w none ⟨rfl,rfl,rfl,Af _⟩ (fun _ _ _=>rfl) (fun b e=>by cases e) (fun _ _ h=>h) (fun _ _ h=>.inl h)
     (fun b o e=>by cases e) (fun b' _ e=>⟨(i1.loc r b' hl e).1,.inl ⟨hl,e⟩⟩) aa1 (fun _=>⟨rfl,Af _,fun _=>rfl,fun _=>rfl⟩) (fun hg hk=>by
      obtain⟨u1,u2,u3,u4⟩:=Bn g1 r (g1.ρ r) (g1.ln r) (g1.tk r) (g1.own r) g1.S;have Na:∀i,L (AS h j (.tok sz 0)) i->L (AS (AS h j (.tok sz 0)) r (.cells (Fs cs k (.slice (.id j sz) [])))) i:=fun i hi=>DC aa1 i hi;refine⟨u3.trans t1,b,E,vs,u4.trans a1,u1.trans a2,a3,⟨by rw[Ll];exact a4.1,a4.2.1,fun i av x q1 q2=>?_⟩,a5⟩;rcases Lj cs k _ i av q1 with ⟨rfl,rfl⟩ | q
      .have:=(a4.2.2 i _ x Xd q2).v_eq
       subst this;exact i3.mono hk Na hg
      .exact(a4.2.2 i av x q q2).mono hk Na hg)
    exact⟨_,k1,i2.trans k2⟩
   omega
  omega
 omega
theorem tC(hS:SR N ds w0 g0 h0 st g a w):∃g',SR N ds w0 g0 h0 (tB cx o st) g' a w:=by
 unfold tB;split
 .grind
 .rename_i d _;split
  .obtain⟨g',h1,h2⟩:=AcN hS.inv _ _ _ _;exact⟨g',h1,hS.le.trans h2,hS.dfs,hS.size,fun i=>(hS.slots i).le h2⟩
  split
  .grind
  .obtain⟨g',h1,h2⟩:=NT (Aaz cx.pl.fz d) hS.inv;exact⟨g',h1,hS.le.trans h2,hS.dfs,hS.size,fun i=>(hS.slots i).le h2⟩
theorem Wf:∀(cs:List AV) (k:Nat) (r n:Nat),Jq cs k=.msl r n->cs[k]?=some (.msl r n)
 | [],_,_,_,h=>by grind [Jq]
 |_::_,0,_,_,h=>by grind [Jq]
 |_::cs,k+1,r,n,h=>by unfold Jq at h;simpa using Wf cs k r n h
theorem jQ(hI:CH w0 g0 h0 h g w){r sz:Nat}{es:C0}(hr:h r=.arr sz es) :
  ∃g',CH w0 g0 h0 (AS h r (.tok sz es.length)) g' w/\Le h g w (AS h r (.tok sz es.length)) g' w/\O g' w (L (AS h r (.tok sz es.length))) (.slice (.id r sz) es) (g.ρ r)/\g.ln r=es.length:=by
 have ho:=hI.objs r;rw[hr]at ho;obtain⟨t1,l1,al,a2⟩:=ho;have hl:(h r).live:=by rw[hr];trivial
 rcases a2 with ⟨b1,b2,b3⟩ | ⟨b,cap,E,vs,b1,b2,b3,b4,b5,b6,b7⟩
 .subst b1
  obtain⟨k1,k2⟩:=hI.upd r (.tok sz 0) (g.ρ r) (g.ln r) (g.tk r) (g.own r) g.S w none ⟨rfl,rfl,rfl,Af _⟩ (fun _ _ _=>rfl) (fun b e=>by cases e) (fun _ _ h=>h) (fun _ _ h=>.inl h)
   (fun b o e=>by cases e) (fun b' _ e=>⟨(hI.loc r b' hl e).1,.inl ⟨hl,e⟩⟩) aa1 (fun _=>⟨rfl,Af _,fun _=>rfl,fun _=>rfl⟩) (fun hg hk=>by
    obtain⟨u1,u2,u3,u4⟩:=Bn g r (g.ρ r) (g.ln r) (g.tk r) (g.own r) g.S;exact⟨u3.trans t1,u2.trans l1,none,0,u1.trans b2,.inl ⟨rfl,u4.trans b3⟩⟩)
  refine⟨_,k1,k2,?_,l1⟩;rw[b2];exact .tok _ r sz [] _ (.snil _ _ _) aa1 (by unfold L;rw[A4,A0];simp) (by simp[D.upd,t1]) aa1 (fun _=>by simp[D.upd])
 .have CL:=(hI.loc r b hl b2).1
  obtain⟨k1,k2⟩:=hI.upd r (.tok sz es.length) (g.ρ r) (g.ln r) (g.tk r) (g.own r) (g.more b (es.length*sz)) w none ⟨rfl,rfl,rfl,Af _⟩ (fun _ _ _=>rfl) (fun b e=>by cases e) (fun _ _ h=>.inl h)
   (fun b' o hs=>hs.elim .inl (fun hs=>.inr ⟨by omega,.inr ⟨hl,by simp_all⟩⟩)) (fun b o e=>by cases e) (fun b' _ e=>⟨(hI.loc r b' hl e).1,.inl ⟨hl,e⟩⟩) aa1
   (fun _=>⟨rfl,Af _,fun _=>rfl,fun _=>rfl⟩) (fun hg hk=>by
    obtain⟨u1,u2,u3,u4⟩:=Bn g r (g.ρ r) (g.ln r) (g.tk r) (g.own r) (g.more b (es.length*sz));exact⟨u3.trans t1,u2.trans l1,_,cap,u1.trans b1,.inr ⟨b3,b,E,vs,0,rfl,u4.trans b2,.of b4,by omega,fun o ho=>by
     rcases ho with ho | ⟨_,ho⟩<;>simp_all⟩⟩)
  refine⟨_,k1,k2,?_,l1⟩;rw[b1];exact .tok _ r sz es _ (O.slice_row b4 al b3 (b6.mono k2.keeps (fun _ h=>h) (fun _ h=>h.elim)) (fun o ho=>.inr ⟨rfl,ho⟩)) al (by grind [L,A0]) (by grind [D.upd]) (by grind [D.upd]) (fun _=>by simp[D.upd])
theorem CH.move{w0:World}{g0:D}{h0 h:Nat->HO}{g:D}{w:World}(hI:CH w0 g0 h0 h g w)(r r2:Nat)(Ec:r2≠r)(hf:h r2=.free)(hl:(h r).live){b:Nat}(ho:g.own r=some b)(o' : HO)(x:Value)(n:Nat)(t:Bool)(hn:o'≠.free)
  (MC:D8 g w (g.upd r2 x n t (some b) g.S) w->DE (g.upd r2 x n t (some b) g.S) w (L (AS (AS h r .dead) r2 o')) r2 o') :
  CH w0 g0 h0 (AS (AS h r .dead) r2 o') (g.upd r2 x n t (some b) g.S) w/\Le h g w (AS (AS h r .dead) r2 o') (g.upd r2 x n t (some b) g.S) w:=by
 have rk:JA g (g.upd r2 x n t (some b) g.S) (L h):=by
  intro i hi;have e:i≠r2:=fun e=>hi aa0
  grind [D.upd]
 have hK:D8 g w (g.upd r2 x n t (some b) g.S) w:=fun b o hb=>⟨hb,rfl,fun _ _ h=>h⟩;have Na:∀i,L h i->L (AS (AS h r .dead) r2 o') i:=fun i hi=>DC hn i (DC aa1 i hi);have key:∀i,i≠r2->(AS (AS h r .dead) r2 o' i).live->i≠r/\(h i).live:=fun i h2 hl=>by
  rw[BS _ _ _ _ h2]at hl
  by_cases e:i=r
  .subst e;rw[A0]at hl;exact hl.elim
  grind [BS]
 have own:∀i,i≠r2->(g.upd r2 x n t (some b) g.S).own i=g.own i:=fun i e=>by simp[D.upd,e]
 have tg:(g.upd r2 x n t (some b) g.S).own r2=some b:=by simp[D.upd]
 refine⟨⟨hI.os,hI.tape,hI.output,hI.size,hI.frame,hI.slt,fun i=>?_,fun i j c hi hj ei ej=>?_,fun i c hi ei=>?_,hI.sg,hI.glob.keep hK⟩,rk,Na,hK⟩
 .by_cases e:i=r2
  .grind [A0]
  .rw[BS _ _ _ _ e]
   by_cases e1:i=r
   .subst e1;rw[A0];trivial
   .rw[BS _ _ _ _ e1];exact(hI.objs i).same hK Na rk (by simp[D.upd,e]) (by simp[D.upd,e]) (by simp[D.upd,e]) aa0 (fun b hl hb=>⟨rfl,fun k hk=>hk⟩)
 .grind [CH.inj]
 .by_cases e1:i=r2
  .subst e1;rw[tg]at ei;cases ei;exact hI.loc r _ hl ho
  .rw[own i e1]at ei;exact hI.loc i c (key i e1 hi).2 ei
theorem Aay(hS:SR N ds w0 g0 h0 st g a w){s k:Nat}{K:St->Prop}(hk:asK st s k K):∃E6 g',SR N ds w0 g0 h0 E6 g' a w/\K E6:=by
 have same:K st->∃E6 g',SR N ds w0 g0 h0 E6 g' a w/\K E6:=fun hk=>⟨st,g,hS,hk⟩;unfold asK at hk;split at hk
 .rename_i r n ht;have VO:=hS.slots s;rw[ht]at VO;split at hk
  .rename_i sz es hr;have ho:=hS.inv.objs r;rw[hr]at ho;obtain⟨t1,l1,al,a2⟩:=ho;have hl:(st.h r).live:=by rw[hr];trivial
   have hval:n=es.length->a.tmps.getD s undef=g.ρ r:=fun hn=>by
    grind [cases O]
   have fin:∀(h' : Nat->HO) (v:AV) (g' : D),CH w0 g0 h0 h' g' w->Le st.h g w h' g' w->O g' w (L h') v (a.tmps.getD s undef)->SR N ds w0 g0 h0 ⟨KE st.t s v,h'⟩ g' a w:=fun h' v g' i1 i2 i3=>by
    grind [KE,Dw,SR.mk,Le.trans,SR.le,SR.dfs,SR.size,O.le,SR.slots]
   split at hk
   .obtain⟨hn,hk⟩:=hk;obtain⟨g1,i1,i2,i3,i4⟩:=jQ hS.inv hr
    obtain⟨k1,k2⟩:=i1.upd r .dead (g1.ρ r) (g1.ln r) (g1.tk r) (g1.own r) g1.S w none ⟨rfl,rfl,rfl,Af _⟩ (fun _ _ _=>rfl) (fun b e=>by cases e) (fun _ _ h=>h) (fun _ _ h=>.inl h) (fun b o e=>by cases e) (fun b hh _=>by cases hh) aa1
     (fun _=>⟨rfl,Af _,fun _=>rfl,fun _=>rfl⟩) (fun _ _=>trivial)
    exact⟨_,_,fin _ _ _ k1 (i2.trans k2) (by grind [O.le,O.up,O.slice_none]),hk⟩
   .rename_i k;split at hk
    .simp_all
    .rename_i hb;have Ec:k+1≠r:=fun e=>by simp_all
     split at hk
     .rename_i hf;obtain⟨hn,hk⟩:=hk;rcases a2 with ⟨b1,b2,b3⟩ | ⟨b,cap,E,vs,b1,b2,b3,b4,b5,b6,b7⟩
      .subst b1;have hv:=hval hn
       obtain⟨k1,k2⟩:=hS.inv.upd r .dead (g.ρ r) (g.ln r) (g.tk r) (g.own r) g.S w none ⟨rfl,rfl,rfl,Af _⟩ (fun _ _ _=>rfl) (fun b e=>by cases e) (fun _ _ h=>h) (fun _ _ h=>.inl h) (fun b o e=>by cases e) (fun b hh _=>by cases hh) aa1
        (fun _=>⟨rfl,Af _,fun _=>rfl,fun _=>rfl⟩) (fun _ _=>trivial)
       have hf1:AS st.h r .dead (k+1)=.free:=by grind [BS]
       obtain⟨m1,m2⟩:=k1.upd (k+1) (.arr sz []) (.slice none 0 0) 0 true none (g.upd r (g.ρ r) (g.ln r) (g.tk r) (g.own r) g.S).S w none ⟨rfl,rfl,rfl,Af _⟩ (fun _ _ _=>rfl) (fun b e=>by cases e) (fun _ _ h=>h) (fun _ _ h=>.inl h) (fun b o e=>by cases e) (fun b _ e=>by cases e) aa1
        (fun hu=>absurd hf1 hu) (fun _ _=>by
         obtain⟨u1,u2,u3,u4⟩:=Bn (g.upd r (g.ρ r) (g.ln r) (g.tk r) (g.own r) g.S) (k+1) (.slice none 0 0) 0 true none (g.upd r (g.ρ r) (g.ln r) (g.tk r) (g.own r) g.S).S;exact⟨u3,u2,by simp,.inl ⟨rfl,u1,u4⟩⟩)
       refine⟨_,_,fin _ _ _ m1 (k2.trans m2) ?_,hk⟩;rw[hv,b2,hn];exact .msl _ (k+1) 0 none 0 (by grind [L,A0]) (by simp[D.upd]) (Ai _) (.inl rfl) (fun _=>by simp[D.upd])
      .have hv:=hval hn;obtain⟨m1,m2⟩:=hS.inv.move r (k+1) Ec hf hl b2 (.arr sz es) (g.ρ r) es.length true aa1 (fun Hq=>by
        obtain⟨u1,u2,u3,u4⟩:=Bn g (k+1) (g.ρ r) es.length true (some b) g.S;exact⟨u3,u2,al,.inr ⟨b,cap,E,vs,u1.trans b1,u4,b3,b4,b5,b6.mono Hq (fun _ h=>h) (fun _ h=>h.elim),b7⟩⟩)
       refine⟨_,_,fin _ _ _ m1 m2 ?_,hk⟩;rw[hv,b1,hn];exact .msl _ (k+1) es.length _ cap (by grind [L,A0]) (by simp[D.upd]) (by simp[D.upd]) (.inr ⟨b,rfl⟩) (fun _=>by simp[D.upd])
     simp_all
  simp_all
 simp_all
theorem Aav(hS:SR N ds w0 g0 h0 st g a w){o k j:Nat}{K:(Nat->HO)->Prop}(hk:amK st.h o k j K):∃h' g',SR N ds w0 g0 h0 ⟨st.t,h'⟩ g' a w/\K h':=by
 unfold amK at hk;split at hk
 .rename_i cs e0;split at hk
  .rename_i r n e1;split at hk
   .rename_i sz es e2;split at hk
    .rename_i hf;obtain⟨hn,hk⟩:=hk;have ho:=hS.inv.objs r;rw[e2]at ho;obtain⟨t1,l1,al,a2⟩:=ho;have hl:(st.h r).live:=by rw[e2];trivial
     have Ec:j≠r:=fun e=>by simp_all
     have hor:o≠r:=fun e=>by simp_all
     have hoj:o≠j:=fun e=>by simp_all
     -- the array goes to the new id,which stands for the same slice
     have step:∃g1,CH w0 g0 h0 (AS (AS st.h r .dead) j (.arr sz es)) g1 w/\Le st.h g w (AS (AS st.h r .dead) j (.arr sz es)) g1 w/\g1.tk j=true/\g1.ln j=es.length/\g1.ρ j=g.ρ r:=by
      rcases a2 with ⟨b1,b2,b3⟩ | ⟨b,cap,E,vs,b1,b2,b3,b4,b5,b6,b7⟩
      .subst b1
       obtain⟨k1,k2⟩:=hS.inv.upd r .dead (g.ρ r) (g.ln r) (g.tk r) (g.own r) g.S w none ⟨rfl,rfl,rfl,Af _⟩ (fun _ _ _=>rfl) (fun b e=>by cases e) (fun _ _ h=>h) (fun _ _ h=>.inl h) (fun b o e=>by cases e) (fun b hh _=>by cases hh) aa1
        (fun _=>⟨rfl,Af _,fun _=>rfl,fun _=>rfl⟩) (fun _ _=>trivial)
       have hf1:AS st.h r .dead j=.free:=by grind [BS]
       obtain⟨m1,m2⟩:=k1.upd j (.arr sz []) (.slice none 0 0) 0 true none (g.upd r (g.ρ r) (g.ln r) (g.tk r) (g.own r) g.S).S w none ⟨rfl,rfl,rfl,Af _⟩ (fun _ _ _=>rfl) (fun b e=>by cases e) (fun _ _ h=>h) (fun _ _ h=>.inl h) (fun b o e=>by cases e) (fun b _ e=>by cases e) aa1
        (fun hu=>absurd hf1 hu) (fun _ _=>by
         obtain⟨u1,u2,u3,u4⟩:=Bn (g.upd r (g.ρ r) (g.ln r) (g.tk r) (g.own r) g.S) j (.slice none 0 0) 0 true none (g.upd r (g.ρ r) (g.ln r) (g.tk r) (g.own r) g.S).S;exact⟨u3,u2,by simp,.inl ⟨rfl,u1,u4⟩⟩)
       exact⟨_,m1,k2.trans m2,by simp[D.upd],by simp[D.upd],by simp[D.upd,b2]⟩
      .obtain⟨m1,m2⟩:=hS.inv.move r j Ec hf hl b2 (.arr sz es) (g.ρ r) es.length true aa1 (fun Hq=>by
        obtain⟨u1,u2,u3,u4⟩:=Bn g j (g.ρ r) es.length true (some b) g.S;exact⟨u3,u2,al,.inr ⟨b,cap,E,vs,u1.trans b1,u4,b3,b4,b5,b6.mono Hq (fun _ h=>h) (fun _ h=>h.elim),b7⟩⟩)
       exact⟨_,m1,m2,by simp[D.upd],by simp[D.upd],by simp[D.upd]⟩
     obtain⟨g1,i1,i2,j1,j2,j3⟩:=step
     -- the cell
     have ho:=hS.inv.objs o;rw[e0]at ho;have ho1:=i1.objs o;rw[BS _ _ _ _ hoj,BS _ _ _ _ hor,e0]at ho1;obtain⟨t2,b,E,vs,c1,c2,c3,c4,c5⟩:=ho1;obtain⟨_,b',E',yI,vS,c2',c3',c4',_⟩:=ho;have hb:b'=b:=by
      have h2:=i2.gh o (by grind [L]);simp_all
     subst hb;rw[c3]at c3';cases c3';have Xu:(AS (AS st.h r .dead) j (.arr sz es) o).live:=by rw[BS _ _ _ _ hoj,BS _ _ _ _ hor,e0];trivial
     have Xd:=Wf cs k _ _ e1
     obtain⟨k1,k2⟩:=i1.upd o (.cells (Fs cs k (.msl j n))) (g1.ρ o) (g1.ln o) (g1.tk o) (g1.own o) g1.S w none ⟨rfl,rfl,rfl,Af _⟩ (fun _ _ _=>rfl) (fun b e=>by cases e) (fun _ _ h=>h) (fun _ _ h=>.inl h)
      (fun b o e=>by cases e) (fun b' _ e=>⟨(i1.loc o b' Xu e).1,.inl ⟨Xu,e⟩⟩) aa1 (fun _=>⟨rfl,Af _,fun _=>rfl,fun _=>rfl⟩) (fun hg Yj=>by
       obtain⟨u1,u2,u3,u4⟩:=Bn g1 o (g1.ρ o) (g1.ln o) (g1.tk o) (g1.own o) g1.S;have Na:∀i,L (AS (AS st.h r .dead) j (.arr sz es)) i->L (AS (AS (AS st.h r .dead) j (.arr sz es)) o (.cells (Fs cs k (.msl j n)))) i:=fun i hi=>DC aa1 i hi;refine⟨u3.trans t2,_,E,vs,u4.trans c1,u1.trans c2,c3,⟨by rw[Ll];exact c4.1,c4.2.1,fun i av x q1 q2=>?_⟩,c5⟩;rcases Lj cs k _ i av q1 with ⟨rfl,rfl⟩ | q
       .have hx:=c4'.2.2 i _ x Xd q2;have hm:O g1 w (L (AS (AS st.h r .dead) j (.arr sz es))) (.msl j n) x:=by
         grind [L,A0,cases O,O.msl]
        grind [O.mono]
       .exact(c4.2.2 i av x q q2).mono Yj Na hg)
     exact⟨_,_,⟨k1,hS.le.trans (i2.trans k2),hS.dfs,hS.size,fun i=>(hS.slots i).le (i2.trans k2)⟩,hk⟩
    .exact hk.elim
   simp_all
  simp_all
 .exact hk.elim
theorem Qb{h:Nat->HO}(hI:CH w0 g0 h0 h g w){o k:Nat}{cs:List AV}(e0:h o=.cells cs){old new:AV}(hk:cs[k]?=some old)(DN:∀x:Value,O g w (L h) old x->O g w (L h) new x) :
  ∃g',CH w0 g0 h0 (AS h o (.cells (Fs cs k new))) g' w/\Le h g w (AS h o (.cells (Fs cs k new))) g' w:=by
 have ho:=hI.objs o;rw[e0]at ho;obtain⟨t1,b,E,vs,a1,a2,a3,a4,a5⟩:=ho;have hl:(h o).live:=by rw[e0];trivial
 obtain⟨k1,k2⟩:=hI.upd o (.cells (Fs cs k new)) (g.ρ o) (g.ln o) (g.tk o) (g.own o) g.S w none ⟨rfl,rfl,rfl,Af _⟩ (fun _ _ _=>rfl) (fun b e=>by cases e) (fun _ _ h=>h) (fun _ _ h=>.inl h)
  (fun b o e=>by cases e) (fun b' _ e=>⟨(hI.loc o b' hl e).1,.inl ⟨hl,e⟩⟩) aa1 (fun _=>⟨rfl,Af _,fun _=>rfl,fun _=>rfl⟩) (fun hg Yj=>by
   obtain⟨u1,u2,u3,u4⟩:=Bn g o (g.ρ o) (g.ln o) (g.tk o) (g.own o) g.S;have Na:∀i,L h i->L (AS h o (.cells (Fs cs k new))) i:=fun i hi=>DC aa1 i hi;refine⟨u3.trans t1,b,E,vs,u4.trans a1,u1.trans a2,a3,⟨by rw[Ll];exact a4.1,a4.2.1,fun i av x q1 q2=>?_⟩,a5⟩;rcases Lj cs k _ i av q1 with ⟨rfl,rfl⟩ | q
   .exact(DN x (a4.2.2 i _ x hk q2)).mono Yj Na hg
   .exact(a4.2.2 i av x q q2).mono Yj Na hg)
 exact⟨_,k1,k2⟩
theorem Jx:∀(cs:List AV) (k:Nat) (a:AV),Jq cs k=a->a≠.junk->cs[k]?=some a
 | [],_,a,h,hn=>by grind [Jq]
 |_::_,0,_,h,_=>by grind [Jq]
 |_::cs,k+1,a,h,hn=>by unfold Jq at h;simpa using Jx cs k a h hn
theorem CH.moveV{h:Nat->HO}(hI:CH w0 g0 h0 h g w)(r r2 v:Nat)(Ec:r2≠r)(hf:h r2=.vox v)(hl:(h r).live)(o' : HO)(x:Value)(n:Nat)(hv:v<n)(hn:o'≠.free)
  (MC:D8 g w (g.upd r2 x n true (g.own r) g.S) w->DE (g.upd r2 x n true (g.own r) g.S) w (L (AS (AS h r .dead) r2 o')) r2 o') :
  CH w0 g0 h0 (AS (AS h r .dead) r2 o') (g.upd r2 x n true (g.own r) g.S) w/\Le h g w (AS (AS h r .dead) r2 o') (g.upd r2 x n true (g.own r) g.S) w:=by
 have rJ:=hI.objs r2;rw[hf]at rJ;obtain⟨ht2,Xu⟩:=rJ;have rk:JA g (g.upd r2 x n true (g.own r) g.S) (L h):=by
  intro i hi
  grind [D.upd]
 have hK:D8 g w (g.upd r2 x n true (g.own r) g.S) w:=fun b o hb=>⟨hb,rfl,fun _ _ h=>h⟩;have Na:∀i,L h i->L (AS (AS h r .dead) r2 o') i:=fun i hi=>DC hn i (DC aa1 i hi);have key:∀i,i≠r2->(AS (AS h r .dead) r2 o' i).live->i≠r/\(h i).live:=fun i h2 hl=>by
  rw[BS _ _ _ _ h2]at hl
  by_cases e:i=r
  .subst e;rw[A0]at hl;exact hl.elim
  grind [BS]
 have own:∀i,i≠r2->(g.upd r2 x n true (g.own r) g.S).own i=g.own i:=fun i e=>by simp[D.upd,e]
 have tg:(g.upd r2 x n true (g.own r) g.S).own r2=g.own r:=by simp[D.upd]
 refine⟨⟨hI.os,hI.tape,hI.output,hI.size,hI.frame,hI.slt,fun i=>?_,fun i j c hi hj ei ej=>?_,fun i c hi ei=>?_,hI.sg,hI.glob.keep hK⟩,rk,Na,hK⟩
 .by_cases e:i=r2
  .grind [A0]
  .rw[BS _ _ _ _ e]
   by_cases e1:i=r
   .subst e1;rw[A0];trivial
   .rw[BS _ _ _ _ e1];exact(hI.objs i).same hK Na rk (by simp[D.upd,e]) (by simp[D.upd,e]) (by simp[D.upd,e]) aa0 (fun b hl hb=>⟨rfl,fun k hk=>hk⟩)
 .grind [CH.inj]
 .by_cases e1:i=r2
  .subst e1;rw[tg]at ei;exact hI.loc r _ hl ei
  .rw[own i e1]at ei;exact hI.loc i c (key i e1 hi).2 ei
theorem AcO(hS:SR N ds w0 g0 h0 st g a w){o k d:Nat}{K:(Nat->HO)->Prop}(hk:uvK st.h o k d K):∃h' g',SR N ds w0 g0 h0 ⟨st.t,h'⟩ g' a w/\K h':=by
 unfold uvK at hk;split at hk
 .rename_i cs e0;split at hk
  .rename_i r sz v es e1;split at hk
   .rename_i HG v' n e2;split at hk
    .rename_i hf;obtain⟨⟨rfl,rfl⟩,hk⟩:=hk;have ho:=hS.inv.objs r;rw[e2]at ho;obtain⟨t1,l1,a0,cap,r1,a2⟩:=ho;have hl:(st.h r).live:=by rw[e2];trivial
     have Ec:d≠r:=fun e=>by simp_all
     have hor:o≠r:=fun e=>by simp_all
     have hod:o≠d:=fun e=>by simp_all
     have Xd:=Jx cs k _ e1 aa1
     -- the value that stands in the cell
     have hoc:=hS.inv.objs o;rw[e0]at hoc;obtain⟨_,b',E',yI,c1,c2,c3,c4,_⟩:=hoc;obtain⟨x,hx1,_,hx2⟩:=c4.at Xd;have rQ:x=.slice a0 n cap/\es.length=n/\O g w DS (.slice .none es) x/\∀c∈es,c.length=sz:=by
      grind [O.slice_none,cases O]
     obtain⟨hxe,hn,hx3,wY⟩:=rQ;subst hn;obtain⟨m1,m2⟩:=hS.inv.moveO r d Ec hf hl (ob:=g.own r) (fun c h=>h) (.tok sz es.length) (.slice a0 es.length cap) es.length true aa1 (fun Hq=>by
      obtain⟨u1,u2,u3,u4⟩:=Bn g d (.slice a0 es.length cap) es.length true (g.own r) g.S;refine⟨u3,u2,a0,cap,u1,?_⟩;rw[u4];exact a2)
     generalize kG:g.upd d (.slice a0 es.length cap) es.length true (g.own r) g.S=g1 at m1 m2;have gr:g1.tk r=true/\g1.ln r=v:=by grind [D.upd]
     have gd:g1.tk d=true/\g1.ln d=es.length/\g1.ρ d=.slice a0 es.length cap:=by grind [D.upd]
     -- the id keeps its version
     have Is:(AS (AS st.h r .dead) d (.tok sz es.length)) r=.dead:=by grind [BS,A0]
     obtain⟨n1,n2⟩:=m1.upd r (.vox v) (g1.ρ r) (g1.ln r) (g1.tk r) (g1.own r) g1.S w none ⟨rfl,rfl,rfl,Af _⟩ (fun _ _ _=>rfl) (fun b e=>by cases e) (fun _ _ h=>h) (fun _ _ h=>.inl h) (fun b o e=>by cases e) (fun b hh _=>by cases hh) aa1
      (fun _=>⟨rfl,Af _,fun _=>rfl,fun _=>rfl⟩) (fun _ _=>by
       obtain⟨u1,u2,u3,u4⟩:=Bn g1 r (g1.ρ r) (g1.ln r) (g1.tk r) (g1.own r) g1.S;exact⟨u3.trans gr.1,u2.trans gr.2⟩)
     have hh:AS (AS (AS st.h r .dead) d (.tok sz es.length)) r (.vox v)=AS (AS st.h r (.vox v)) d (.tok sz es.length):=by
      grind [AS,Dw]
     rw[hh]at n1 n2;generalize hg2:g1.upd r (g1.ρ r) (g1.ln r) (g1.tk r) (g1.own r) g1.S=g2 at n1 n2;have gd2:g2.tk d=true/\g2.ln d=es.length/\g2.ρ d=.slice a0 es.length cap:=by grind [D.upd]
     have e0' : (AS (AS st.h r (.vox v)) d (.tok sz es.length)) o=.cells cs:=by grind [BS]
     have L2:=m2.trans n2;have ApM:g2.ρ o=g.ρ o:=(L2.gh o (by grind [L])).2.2.1 aa4;obtain⟨g3,p1,p2⟩:=Qb n1 e0' Xd (new:=.slice (.id d sz) es) (fun y hy=>by
      grind [D.upd,L,A0,cases O,O.tok])
     exact⟨_,g3,⟨p1,hS.le.trans (L2.trans p2),hS.dfs,hS.size,fun i=>(hS.slots i).le (L2.trans p2)⟩,hk⟩
    simp_all
   simp_all
  .exact⟨_,g,hS,hk⟩
 simp_all
theorem tZ(hS:SR N ds w0 g0 h0 st g a w){o k r:Nat}{K:(Nat->HO)->Prop}(hk:rvK st.h o k r K):∃h' g',SR N ds w0 g0 h0 ⟨st.t,h'⟩ g' a w/\K h':=by
 unfold rvK at hk;split at hk
 .rename_i cs e0;split at hk
  .rename_i d sz es e1;split at hk
   .rename_i HG n e2;split at hk
    .rename_i v hf;obtain⟨⟨hn,rfl⟩,hk⟩:=hk;subst hn;have ho:=hS.inv.objs d;rw[e2]at ho;obtain⟨t1,l1,a0,cap,r1,a2⟩:=ho;have hl:(st.h d).live:=by rw[e2];trivial
     have Ec:r≠d:=fun e=>by simp_all
     have hod:o≠d:=fun e=>by simp_all
     have hor:o≠r:=fun e=>by simp_all
     have Xd:=Jx cs k _ e1 aa1;obtain⟨m1,m2⟩:=hS.inv.moveV d r v Ec hf hl (.var sz (v+1) es.length) (.slice a0 es.length cap) (v+1) (Mz v) aa1 (fun Hq=>by
      obtain⟨u1,u2,u3,u4⟩:=Bn g r (.slice a0 es.length cap) (v+1) true (g.own d) g.S;refine⟨u3,u2,a0,cap,u1,?_⟩;rw[u4];exact a2)
     generalize kG:g.upd r (.slice a0 es.length cap) (v+1) true (g.own d) g.S=g1 at m1 m2;have gr:g1.tk r=true/\g1.ln r=v+1/\g1.ρ r=.slice a0 es.length cap:=by grind [D.upd]
     have gd:g1.ln d=es.length/\g1.ρ d=.slice a0 es.length cap:=by grind [D.upd]
     have e0' : (AS (AS st.h d .dead) r (.var sz (v+1) es.length)) o=.cells cs:=by grind [BS]
     obtain⟨g3,p1,p2⟩:=Qb m1 e0' Xd (new:=.slice (.ver r sz (v+1)) es) (fun y hy=>by
      grind [L,A0,cases O,O.ver])
     exact⟨_,g3,⟨p1,hS.le.trans (m2.trans p2),hS.dfs,hS.size,fun i=>(hS.slots i).le (m2.trans p2)⟩,hk⟩
    simp_all
   simp_all
  .exact⟨_,g,hS,hk⟩
 simp_all
theorem tT(hS:SR N ds w0 g0 h0 st g a w){o k:Nat}{K:(Nat->HO)->Prop}(hk:rmK st.h o k K):∃h' g',SR N ds w0 g0 h0 ⟨st.t,h'⟩ g' a w/\K h':=by
 unfold rmK at hk;split at hk
 .rename_i cs e0;split at hk
  .rename_i r e1;split at hk
   .rename_i sh BM e2;have Xd:=Jx cs k _ e1 aa1;obtain⟨g3,p1,p2⟩:=Qb hS.inv e0 Xd (new:=.cmap sh BM) (fun y hy=>by
     have e3:rsv st.h (.mref r)=.cmap sh BM:=by
      show(match st.h r with | .rom sh BM=>AV.cmap sh BM | _=>.mref r)=_;rw[e2]
     rw[<-e3];exact O.rsv hS.inv.objs hy)
    exact⟨_,g3,⟨p1,hS.le.trans p2,hS.dfs,hS.size,fun i=>(hS.slots i).le p2⟩,hk⟩
   simp_all
  simp_all
 simp_all
theorem Adn(hS:SR N ds w0 g0 h0 st g a w){o k j sz:Nat}{K:(Nat->HO)->Prop}(hk:zaK st.h o k j sz K):∃h' g',SR N ds w0 g0 h0 ⟨st.t,h'⟩ g' a w/\K h':=by
 unfold zaK at hk;split at hk
 .rename_i cs e0;split at hk
  .rename_i e1;split at hk
   .rename_i hf;have hor:o≠j:=fun e=>by simp_all
    have Xd:=Jx cs k _ e1 aa1
    obtain⟨m1,m2⟩:=hS.inv.upd j (.arr sz []) (.slice none 0 0) 0 true none g.S w none ⟨rfl,rfl,rfl,Af _⟩ (fun _ _ _=>rfl) (fun b e=>by cases e) (fun _ _ h=>h) (fun _ _ h=>.inl h) (fun b o e=>by cases e) (fun b hh e=>by simp_all) aa1
     (fun hu=>absurd hf hu) (fun _ _=>by
      obtain⟨u1,u2,u3,u4⟩:=Bn g j (.slice none 0 0) 0 true none g.S;exact⟨u3,u2,(fun cs hc=>by cases hc),.inl ⟨rfl,u1,u4⟩⟩)
    generalize kG:g.upd j (.slice none 0 0) 0 true none g.S=g1 at m1 m2;have gr:g1.tk j=true/\g1.ln j=0/\g1.ρ j=.slice none 0 0:=by grind [D.upd]
    have e0' : (AS st.h j (.arr sz [])) o=.cells cs:=by grind [BS]
    obtain⟨g3,p1,p2⟩:=Qb m1 e0' Xd (new:=.msl j 0) (fun y hy=>by
     grind [L,A0,cases O,O.msl])
    exact⟨_,g3,⟨p1,hS.le.trans (m2.trans p2),hS.dfs,hS.size,fun i=>(hS.slots i).le (m2.trans p2)⟩,hk⟩
   simp_all
  simp_all
 simp_all
theorem qu{id:Nat}(hS:SR N ds w0 g0 h0 st g a w){K:(Nat->HO)->Prop}(hk:fz0 cx id st.h fun h=>rm0 cx id h fun h=>rm1 cx id h fun h=>za0 cx id h K):∃h' g',SR N ds w0 g0 h0 ⟨st.t,h'⟩ g' a w/\K h':=by
 have h1:∃h' g',SR N ds w0 g0 h0 ⟨st.t,h'⟩ g' a w/\rm0 cx id h' fun h=>rm1 cx id h fun h=>za0 cx id h K:=by
  unfold fz0 at hk;split at hk
  .obtain⟨g',i1,i2⟩:=kk hS.inv _;exact⟨_,g',⟨i1,hS.le.trans i2,hS.dfs,hS.size,fun i=>(hS.slots i).le i2⟩,hk⟩
  .exact⟨_,g,hS,hk⟩
 obtain⟨h1,g1,S1,hk⟩:=h1;have h2:∃h' g',SR N ds w0 g0 h0 ⟨st.t,h'⟩ g' a w/\rm1 cx id h' fun h=>za0 cx id h K:=by
  unfold rm0 at hk;split at hk
  .exact tT S1 hk
  grind
 obtain⟨h2,g2,S2,hk⟩:=h2;have h3:∃h' g',SR N ds w0 g0 h0 ⟨st.t,h'⟩ g' a w/\za0 cx id h' K:=by
  unfold rm1 at hk;split at hk
  .exact tT S2 hk
  grind
 obtain⟨h3,g3,S3,hk⟩:=h3;unfold za0 at hk;split at hk
 .exact Adn S3 hk
 grind
theorem yG{id:Nat}(hS:SR N ds w0 g0 h0 st g a w){K:(Nat->HO)->Prop}(hk:AcP cx id st.h K):∃h' g',SR N ds w0 g0 h0 ⟨st.t,h'⟩ g' a w/\K h':=by
 unfold AcP at hk;split at hk
 .grind [AcO]
 .split at hk
  .grind [tZ]
  .exact qu hS hk
theorem AaA(hS:SR N ds w0 g0 h0 st g a w){o k:Nat}{K:(Nat->HO)->Prop}(hk:azK st.h o k K):∃h' g',SR N ds w0 g0 h0 ⟨st.t,h'⟩ g' a w/\K h':=by
 have same:K st.h->∃h' g',SR N ds w0 g0 h0 ⟨st.t,h'⟩ g' a w/\K h':=fun hk=>⟨st.h,g,hS,hk⟩;unfold azK at hk;split at hk
 .rename_i cs e0;split at hk
  .rename_i r n e1;split at hk
   .rename_i sz es e2;obtain⟨rfl,hk⟩:=hk;have Ec:o≠r:=fun e=>by simp_all
    obtain⟨g1,i1,i2,i3,i4⟩:=jQ hS.inv e2;have ho:=i1.objs o;rw[BS _ _ _ _ Ec,e0]at ho;obtain⟨t1,b,E,vs,a1,a2,a3,a4,a5⟩:=ho;have hl:(AS st.h r (.tok sz es.length) o).live:=by rw[BS _ _ _ _ Ec,e0];trivial
    have Xd:=Wf cs k _ _ e1;have ir:=hS.inv.objs o;rw[e0]at ir;obtain⟨_,b',E',yI,a1',a2',a3',a4',_⟩:=ir
    obtain⟨k1,k2⟩:=i1.upd o (.cells (Fs cs k (.slice (.id r sz) es))) (g1.ρ o) (g1.ln o) (g1.tk o) (g1.own o) g1.S w none ⟨rfl,rfl,rfl,Af _⟩ (fun _ _ _=>rfl) (fun b e=>by cases e) (fun _ _ h=>h) (fun _ _ h=>.inl h)
     (fun b o e=>by cases e) (fun b' _ e=>⟨(i1.loc o b' hl e).1,.inl ⟨hl,e⟩⟩) aa1 (fun _=>⟨rfl,Af _,fun _=>rfl,fun _=>rfl⟩) (fun hg Hq=>by
      obtain⟨u1,u2,u3,u4⟩:=Bn g1 o (g1.ρ o) (g1.ln o) (g1.tk o) (g1.own o) g1.S;have Na:∀i,L (AS st.h r (.tok sz es.length)) i->L (AS (AS st.h r (.tok sz es.length)) o (.cells (Fs cs k (.slice (.id r sz) es)))) i:=fun i hi=>DC aa1 i hi;refine⟨u3.trans t1,b,E,vs,u4.trans a1,u1.trans a2,a3,⟨by rw[Ll];exact a4.1,a4.2.1,fun i av x q1 q2=>?_⟩,a5⟩;rcases Lj cs k _ i av q1 with ⟨rfl,rfl⟩ | q
      .have hx:=a4.2.2 i _ x Xd q2;have hx0:x=g.ρ r:=by
        have kG:=i2.gh o (by grind [L]);have pU:vs=yI:=by
         simp_all
        subst pU
        have:=a4'.2.2 i _ x Xd q2
        grind [cases O]
       grind [O.mono]
      .exact(a4.2.2 i av x q q2).mono Hq Na hg)
    exact⟨_,_,⟨k1,hS.le.trans (i2.trans k2),hS.dfs,hS.size,fun i=>((hS.slots i).le i2).le k2⟩,hk⟩
   simp_all
  simp_all
 simp_all
theorem Aat{K:St->Prop}(hS:SR N ds w0 g0 h0 st g a w)(hk:akK cx o st K):∃E6 g',SR N ds w0 g0 h0 E6 g' a w/\K E6:=by
 have same:K st->∃E6 g',SR N ds w0 g0 h0 E6 g' a w/\K E6:=fun hk=>⟨st,g,hS,hk⟩;unfold akK at hk;split at hk
 .simp_all
 .split at hk
  .simp_all
  .rename_i s _;split at hk
   .rename_i r n ht;split at hk
    .rename_i sz es hr;obtain⟨hn,hk⟩:=hk;subst hn;have hI:=hS.inv;have ho:=hI.objs r;rw[hr]at ho;obtain⟨t1,l1,al,a2⟩:=ho;have hl:(st.h r).live:=by rw[hr];trivial
     have VO:=hS.slots s;rw[ht]at VO;have hval:a.tmps.getD s undef=g.ρ r:=by
      grind [cases O]
     have fin:∀g',CH w0 g0 h0 (AS st.h r (.tok sz es.length)) g' w->Le st.h g w (AS st.h r (.tok sz es.length)) g' w->O g' w (L (AS st.h r (.tok sz es.length))) (.slice (.id r sz) es) (g.ρ r) ->
       ∃E6 g',SR N ds w0 g0 h0 E6 g' a w/\K E6:=fun g' i1 i2 i3=>by
      refine⟨_,g',⟨i1,hS.le.trans i2,hS.dfs,hS.size,fun i=>?_⟩,hk⟩
      grind [KE,Dw,O.le,SR.slots]
     rcases a2 with ⟨b1,b2,b3⟩ | ⟨b,cap,E,vs,b1,b2,b3,b4,b5,b6,b7⟩
     .subst b1
      obtain⟨k1,k2⟩:=hI.upd r (.tok sz 0) (g.ρ r) (g.ln r) (g.tk r) (g.own r) g.S w none ⟨rfl,rfl,rfl,Af _⟩ (fun _ _ _=>rfl) (fun b e=>by cases e) (fun _ _ h=>h) (fun _ _ h=>.inl h)
       (fun b o e=>by cases e) (fun b' _ e=>⟨(hI.loc r b' hl e).1,.inl ⟨hl,e⟩⟩) aa1 (fun _=>⟨rfl,Af _,fun _=>rfl,fun _=>rfl⟩) (fun hg hk=>by
        obtain⟨u1,u2,u3,u4⟩:=Bn g r (g.ρ r) (g.ln r) (g.tk r) (g.own r) g.S;exact⟨u3.trans t1,u2.trans l1,none,0,u1.trans b2,.inl ⟨rfl,u4.trans b3⟩⟩)
      refine fin _ k1 k2 ?_;rw[b2];exact .tok _ r sz [] _ (.snil _ _ _) aa1 (by unfold L;rw[A0];simp) (by simp[D.upd,t1]) aa1 (fun _=>by simp[D.upd])
     .have CL:=(hI.loc r b hl b2).1
      obtain⟨k1,k2⟩:=hI.upd r (.tok sz es.length) (g.ρ r) (g.ln r) (g.tk r) (g.own r) (g.more b (es.length*sz)) w none ⟨rfl,rfl,rfl,Af _⟩ (fun _ _ _=>rfl) (fun b e=>by cases e) (fun _ _ h=>.inl h)
       (fun b' o hs=>hs.elim .inl (fun hs=>.inr ⟨by omega,.inr ⟨hl,by simp_all⟩⟩)) (fun b o e=>by cases e) (fun b' _ e=>⟨(hI.loc r b' hl e).1,.inl ⟨hl,e⟩⟩) aa1
       (fun _=>⟨rfl,Af _,fun _=>rfl,fun _=>rfl⟩) (fun hg hk=>by
        obtain⟨u1,u2,u3,u4⟩:=Bn g r (g.ρ r) (g.ln r) (g.tk r) (g.own r) (g.more b (es.length*sz));exact⟨u3.trans t1,u2.trans l1,_,cap,u1.trans b1,.inr ⟨b3,b,E,vs,0,rfl,u4.trans b2,.of b4,by omega,fun o ho=>by
         rcases ho with ho | ⟨_,ho⟩<;>simp_all⟩⟩)
      refine fin _ k1 k2 ?_;rw[b1];exact .tok _ r sz es _ (O.slice_row b4 al b3 (b6.mono k2.keeps (fun _ h=>h) (fun _ h=>h.elim)) (fun o ho=>.inr ⟨rfl,ho⟩)) al (by grind [L,A0]) (by grind [D.upd]) (by grind [D.upd]) (fun _=>by simp[D.upd])
    simp_all
   simp_all
variable {cx:Cx}(hP:cx.P=P)(hT:B8 P cx.T)(hY:∀l σ h g w,Ea σ=true->CH w0 g0 h0 h g w->Le h0 g0 w0 h g w->cx.yp l σ (DA σ g) w){ro:Option Nat}{ops:Array Oper}
include hP hT hY
theorem cj{dr:Bool}{o:Oper}(hd:∀i,o.dst=some i->i<N){K:St->Prop}{next:Act->World->Prop}{Q:Exit->Act->World->Prop}(hS:SR N ds w0 g0 h0 st g a w)(hk:JD cx dr ops.toList o st K)
  (hn:∀E6 g' a' w',K E6->SR N ds w0 g0 h0 E6 g' a' w'->next a' w'):if Region.wanted o (yielded ops a.tmps)then o.wpIn (K2 ro) 0 P a w next Q else next (a.put o.dst undef) w:=by
 have run:qe cx dr o st K->o.wpIn (K2 ro) 0 P a w next Q:=by
  intro hk;unfold qe at hk;split at hk
  .exact qf hP hY hT hS hk fun v h' g' w' x q1 q2 q3 q4=>hn _ g' _ _ q1 (hS.put hd q2 q3 q4)
  .obtain⟨g1,wG⟩:=tC (cx:=cx) (o:=o) hS;obtain⟨E6,g',Pe,hk⟩:=Aat wG hk;exact qf hP hY hT Pe hk fun v h' g' w' x q1 q2 q3 q4=>hn _ g' _ _ q1 (Pe.put hd q2 q3 q4)
 have skip:K (st.put o.dst (.v undef) st.h)->next (a.put o.dst undef) w:=fun hk=>hn _ g _ _ hk (hS.put hd hS.inv (.refl _ _ _) (.v _ _))
 unfold JD at hk;split at hk
 .grind [Region.wanted]
 .rename_i j want hg;split at hk
  .simp_all
  .rename_i d hj;have hy:∀x:Value,O g w (L st.h) (st.t d) x->x=a.tmps.getD d undef->True:=fun _ _ _=>trivial;have hs:=hS.slots d;rw[YE]at hj;have key:∀b:Bool,a.tmps.getD d undef=.bool b->yielded ops a.tmps j=some b:=by
    intro b hb;have CL:d<a.tmps.size:=by
     apply Nat.lt_of_not_le;intro dq;rw[OR,Array.getElem?_eq_none dq]at hb;cases hb
    simp only[yielded,hj,Option.bind_some];simp_all
   have Aqr:∀t,a.tmps.getD d undef=.tuple t->yielded ops a.tmps j=none:=by
    intro t hb;simp only[yielded,hj,Option.bind_some];cases he:a.tmps[d]?<;>simp_all
   grind [Region.wanted,O.v_eq]
theorem jO{Q:Exit->Act->World->Prop}{K:St->Prop}(hQ:∀E6 g' a' w',K E6->SR N ds w0 g0 h0 E6 g' a' w'->Q .normal a' w') :
  ∀(l:List Oper),(∀o∈l,∀i,o.dst=some i->i<N)->∀{st:St} {g:D} {a:Act} {w:World},SR N ds w0 g0 h0 st g a w->vH cx ops.toList l st K->wpListIn (K2 ro) 0 P ops Q l a w
 | [],_,st,g,a,w,hS,hk=>hQ st g a w hk hS
 |o::l,hd,st,g,a,w,hS,hk=>by
  have hk:JD cx false ops.toList o st fun E6=>vH cx ops.toList l E6 K:=hk
  have:=cj hP hT hY (ro:=ro) (hd o (Ad ..)) (next:=wpListIn (K2 ro) 0 P ops Q l) (Q:=Q) hS hk fun E6 g' a' w' q1 q2=>jO hQ l (fun o' ho'=>hd o' (Aj _ ho')) q2 q1
  unfold wpListIn;split
  .simp_all
  .rename_i hw;rw[AB hw]at this;exact⟨fun _ _=>trivial,this⟩
theorem ZJ{Q:Exit->Act->World->Prop}{K:St->Prop}{FT:Nat->Ft}(hQ:∀E6 g' a' w',K E6->SR N ds w0 g0 h0 E6 g' a' w'->Q .normal a' w')(hd:∀(j:Nat) (o:Oper),ops[j]?=some o->∀i,o.dst=some i->i<N) :
  ∀(fuel:Nat) (listed:Array Bool) {st:St} {g:D} {a:Act} {w:World},SR N ds w0 g0 h0 st g a w->bZ cx ops FT K fuel listed st->wpAnyIn (K2 ro) 0 P .any ops Q fuel listed a w
 |0,_,st,g,a,w,hS,hk=>⟨hk.1,hQ st g a w hk.2 hS⟩
 |fuel+1,listed,st,g,a,w,hS,hk=>by
  refine⟨fun h0=>hQ st g a w (hk.1 h0) hS,fun i hi=>?_⟩;have h1:=hk.2 i hi;unfold aAt at h1;unfold wpOpIn;cases ho:ops[i]? with
  |none=>rw[ho]at h1;exact ZJ hQ hd fuel _ hS h1
  |some o=>
   rw[ho]at h1
   have:=cj hP hT hY (ro:=ro) (hd i o ho) (next:=wpAnyIn (K2 ro) 0 P .any ops Q fuel (listed.setIfInBounds i true)) (Q:=Q) hS h1.2 fun E6 g' a' w' q1 q2=>ZJ hQ hd fuel _ q2 q1
   dsimp only;split
   .simp_all
   .rename_i hw;rw[AB hw]at this;exact⟨fun _ _=>trivial,this⟩
end
theorem Fa{r:Nat}(e:Ui h r=true):L h r:=by
 grind [Ui,L]
theorem O.ids0{x:Value}(r:O g w U av x)(e:ids0 h av=true):O g w (L h) av x:=by
 cases r with
 |v=>exact .v _ _
 |junk=>exact .junk _ _
 |snil=>grind [snil]
 |slice _ es b off sz cap val hc hl Dj DN=>exact .slice _ es b off sz cap val hc hl Dj DN
 |tok _ r sz es x hs hl hu ht hn hx=>exact .tok _ r sz es x ((O.slice_none hs).up _) hl (Fa e) ht hn hx
 |ver _ r sz v es x hs hl hu ht hn hx=>exact .ver _ r sz v es x ((O.slice_none hs).up _) hl (Fa e) ht hn hx
 |full _ sz es x hs hl hx=>grind [full,O.slice_none,up]
 |msl _ r n a cap hu ht hn ha hx=>exact .msl _ r n a cap (Fa e) ht hn ha hx
 |agg=>cases e
 |tup=>cases e
 |cptr _ cs b off val Dj DN=>exact .cptr _ cs b off val Dj DN
 |ref _ r off b hu ht hx=>exact .ref _ r off b (Fa e) ht hx
 |eref _ r n sz i off b cap hu ht hn hx=>exact .eref _ r n sz i off b cap (Fa e) ht hn hx
 |mref _ r b hu ht hx=>exact .mref _ r b (Fa e) ht hx
 |cmap _ sh BM b es ck hS hb hm hv=>grind [cmap]
 |clo=>cases e
theorem VR(e:dD h cs=true)(hi:cs[i]?=some av):ids0 h av=true:=by
 induction cs generalizing i<;>grind [dD]
theorem rT(e:aC h cs=true)(hi:cs[i]?=some av):aB h av=true:=by
 induction cs generalizing i<;>grind [aC]
theorem nN{BM:List (Value×AV)}(e:TM h BM=true){kv:Value×AV}(hi:BM[i]?=some kv):aB h kv.2=true:=by
 induction BM generalizing i<;>grind [TM]
theorem O.ids{x:Value}(r:O g w U av x)(e:aB h av=true):O g w (L h) av x:=by
 cases r with
 |agg _ cs vs hs h1 hr=>exact .agg _ cs vs hs h1 fun i av x q1 q2=>(hr i av x q1 q2).ids0 (VR e q1)
 |tup _ cs vs hs hr=>exact .tup _ cs vs hs fun i av x q1 q2=>(hr i av x q1 q2).ids0 (VR e q1)
 |clo _ f cs vs hs hr=>exact .clo _ f cs vs hs fun i av x q1 q2=>(hr i av x q1 q2).ids0 (VR e q1)
 |v=>exact .v _ _
 |junk=>exact .junk _ _
 |snil=>grind [snil]
 |slice _ es b off sz cap val hc hl Dj DN=>exact .slice _ es b off sz cap val hc hl Dj DN
 |tok _ r sz es x hs hl hu ht hn hx=>exact .tok _ r sz es x ((O.slice_none hs).up _) hl (Fa e) ht hn hx
 |ver _ r sz v es x hs hl hu ht hn hx=>exact .ver _ r sz v es x ((O.slice_none hs).up _) hl (Fa e) ht hn hx
 |full _ sz es x hs hl hx=>grind [full,O.slice_none,up]
 |msl _ r n a cap hu ht hn ha hx=>exact .msl _ r n a cap (Fa e) ht hn ha hx
 |cptr _ cs b off val Dj DN=>exact .cptr _ cs b off val Dj DN
 |ref _ r off b hu ht hx=>exact .ref _ r off b (Fa e) ht hx
 |eref _ r n sz i off b cap hu ht hn hx=>exact .eref _ r n sz i off b cap (Fa e) ht hn hx
 |mref _ r b hu ht hx=>exact .mref _ r b (Fa e) ht hx
 |cmap _ sh BM b es ck hS hb hm hv=>grind [cmap]
theorem dO{st:St}{h:Nat->HO}:∀{l:List (Nat×AV)},leT st h l->∀i,Vo l i=.junk\/(st.t i=Vo l i/\aB h (Vo l i)=true)
 | [],_,i=>.inl rfl
 |(j,a)::l,⟨h1,h2⟩,i=>by
  unfold Vo
  by_cases e:i=j
  .simp_all
  .simp only[Dw e,GG];exact dO h2 i
theorem dN{st:St}{h hb:Nat->HO}(hhb:∀j,hb j=.free\/(st.h j=hb j/\Uj h (hb j)=true)):∀{l:List (Nat×HO)},leH st h l->∀i,Ah l hb i=.free\/(st.h i=Ah l hb i/\Uj h (Ah l hb i)=true)
 | [],_,i=>hhb i
 |(j,a)::l,⟨h1,h2⟩,i=>by
  unfold Ah
  by_cases e:i=j
  .simp_all
  .simp only[Dw e,GG];exact dN hhb h2 i
def Kb(cx:Cx)(h0:Nat->HO):Prop:=match cx.ext with | false=>∀i,h0 i=.free | true=>∀i,h0 i≠.free->1000<=i/\i<2000
section
variable {P:Program}{N:Nat}{ds:List Deferred}{w0:World}{g0:D}{h0:Nat->HO}{st:St}{g:D}{a:Act}{w:World}{cx:Cx}
theorem SR.weaken(hE:Kb cx h0)(hS:SR N ds w0 g0 h0 st g a w){s:LS}(Jo:St.le cx st s):SR N ds w0 g0 h0 s.st g a w:=by
 obtain⟨h1,h2,h3,h4⟩:=Jo;have hT:=dO h1;have hH:∀i,s.st.h i=.free\/(st.h i=s.st.h i/\Uj s.st.h (s.st.h i)=true):=dN h3 h2;have M9:∀r,(s.st.h r).live->(st.h r).live:=fun r hl=>by
  rcases hH r with e | ⟨e,_⟩
  .rw[e]at hl;exact hl.elim
  simp_all
 have hI:=hS.inv;refine⟨⟨hI.os,hI.tape,hI.output,hI.size,hI.frame,hI.slt,fun r=>?_,fun r r' b l l'=>hI.inj r r' b (M9 r l) (M9 r' l'),fun r b l=>hI.loc r b (M9 r l),hI.sg,hI.glob⟩,⟨hS.le.gh,fun i hi=>?_,hS.le.keeps⟩,hS.dfs,hS.size,fun i=>?_⟩
 .rcases hH r with e | ⟨e,e2⟩
  .rw[e];trivial
  .have ho:=hI.objs r;rw[e]at ho;generalize s.st.h r=o at ho e2;cases o with
   |cells cs=>
    obtain⟨t,b,E,vs,a1,a2,a3,a4,a5⟩:=ho;exact⟨t,b,E,vs,a1,a2,a3,⟨a4.1,a4.2.1,fun i av x q1 q2=>(a4.2.2 i av x q1 q2).ids (rT e2 q1)⟩,a5⟩
   |mapU sh BM=>
    obtain⟨t,b,es,ck,a1,a2,a3,a4,a5,a6⟩:=ho;exact⟨t,b,es,ck,a1,a2,a3,a4,fun i kv e q1 q2=>(a5 i kv e q1 q2).ids (nN e2 q1),a6⟩
   |_=>exact ho
 .have hu:=hS.le.us i hi;unfold Kb at hE;split at hE
  .exact absurd (hE i) hi
  .rename_i hx;rw[hx]at h4;exact h4 i (hE i hi).1 (hE i hi).2 hu
 .show O g w (L s.st.h) (Vo s.t i) _;rcases hT i with e | ⟨e,e2⟩
  .grind [O.junk]
  .rw[<-e]at e2⊢;exact(hS.slots i).ids e2
def Ex.real:Ex->Exit
 |.normal=>.normal
 |.exit id=>.exit id
 |.ret=>.ret
def Aey(N:Nat)(o:Oper):Bool:=match o.dst with | some d=>Nat.blt d N | none=>true
def D4(N:Nat):Code->Bool
 |.region _ ops _=>ops.toList.all (Aey N)
 |.seq a b=>D4 N a&&D4 N b
 |.cond _ a b=>D4 N a&&D4 N b
 |.block _ c=>D4 N c
 |.loop c=>D4 N c
 |_=>true
theorem MU(hP:cx.P=P)(hT:B8 P cx.T)(hm:P.follows .mixedOrders=true)(hE:Kb cx h0)(hY:∀l σ h g w,Ea σ=true->CH w0 g0 h0 h g w->Le h0 g0 w0 h g w->cx.yp l σ (DA σ g) w)(ro:Option Nat):∀(c:Code),D4 N c=true->∀{Qa:Ex->St->Prop} {Q:Exit->Act->World->Prop},
  (∀e st g a w,Qa e st->SR N ds w0 g0 h0 st g a w->Q e.real a w)->∀{st:St} {g:D} {a:Act} {w:World},SR N ds w0 g0 h0 st g a w->Tn cx c Qa st->c.wpIn (K2 ro) 0 P Q a w:=by
 intro c
 induction c with
 |skip=>intro _ Qa Q hQ st g a w hS hk;exact wpIn_skip (hQ .normal _ _ _ _ hk hS)
 |label l=>intro _ Qa Q hQ st g a w hS hk;exact wpIn_label (hQ .normal _ _ _ _ hk hS)
 |exit id=>intro _ Qa Q hQ st g a w hS hk;exact wpIn_exit (hQ (.exit id) _ _ _ _ hk hS)
 |ret=>intro _ Qa Q hQ st g a w hS hk;exact wpIn_ret (hQ .ret _ _ _ _ hk hS)
 |region id ops dr=>
  intro hc Qa Q hQ st g a w hS hk;have hd:∀o∈ops.toList,∀i,o.dst=some i->i<N:=fun o ho i hi=>by
   have:=(AZ.1 hc) o ho
   grind [Aey,Nat.blt_eq]
  have go:∀(st:St) (g:D) (hS:SR N ds w0 g0 h0 st g a w) (cx' : Cx),cx'.P=P->B8 P cx'.T->cx'.yp=cx.yp->NK cx' ops dr st (Qa .normal)->(Code.region id ops dr).wpIn (K2 ro) 0 P Q a w:=by
   intro st g hS cx' hP hT hy hk;have hY:∀l σ h g w,Ea σ=true->CH w0 g0 h0 h g w->Le h0 g0 w0 h g w->cx'.yp l σ (DA σ g) w:=by rw[hy];exact hY
   unfold NK at hk;split at hk
   .exact wpIn_region_list (jO hP hT hY (fun E6 g' a' w' q1 q2=>hQ .normal _ _ _ _ q1 q2) ops.toList hd hS hk)
   .obtain⟨_,FT,hk⟩:=mH hk;obtain⟨i1,i2⟩:=hS.inv.heapEq (w':={ w with drawn:=w.drawn+1 }) ⟨rfl,rfl,rfl⟩ rfl;have Pe : SR N ds w0 g0 h0 st g a { w with drawn:=w.drawn+1 }:=⟨i1,hS.le.trans i2,hS.dfs,hS.size,fun i=>(hS.slots i).le i2⟩;exact wpIn_region_any hm (ZJ hP hT hY (fun E6 g' a' w' q1 q2=>hQ .normal _ _ _ _ q1 q2) (fun j o ho=>hd o aa2) _ _ Pe hk)
  have go2:∀(st:St) (g:D) (hS:SR N ds w0 g0 h0 st g a w),(match cx.pl.dyn with | []=>NK cx ops dr st (Qa .normal) | _=>∃n,NK { cx with nid:=n } ops dr st (Qa .normal))->(Code.region id ops dr).wpIn (K2 ro) 0 P Q a w:=by
   grind
  unfold Tn Aex at hk;split at hk
  .split at hk
   .split at hk
    .split at hk
     .obtain⟨h',g',Pe,s,h1,h2⟩:=yG hS hk;exact go2 s.st _ (Pe.weaken hE h1) h2
     .obtain⟨h',g',Pe,s,h1,h2⟩:=Aav hS hk;exact go2 s.st _ (Pe.weaken hE h1) h2
    .obtain⟨E6,g',Pe,s,h1,h2⟩:=Aay hS hk;exact go2 s.st _ (Pe.weaken hE h1) h2
   .obtain⟨h',g',Pe,s,h1,h2⟩:=AaA hS hk;exact go2 s.st _ (Pe.weaken hE h1) h2
  grind
 |seq x y ihx ihy=>
  intro hc Qa Q hQ st g a w hS hk;simp only[D4,Ao]at hc;refine wpIn_seq (ihx hc.1 (Qa:=fun e E6=>match e with | .normal=>Tn cx y Qa E6 | e=>Qa e E6) (fun e st g a w q hS=>?_) hS hk);cases e with
  |normal=>exact ihy hc.2 hQ hS q
  |exit id=>exact hQ (.exit id) _ _ _ _ q hS
  |ret=>exact hQ .ret _ _ _ _ q hS
 |cond c x y ihx ihy=>
  intro hc Qa Q hQ st g a w hS hk;simp only[D4,Ao]at hc;have hr:=hS.eval c
  grind [wpIn_cond_true,wpIn_cond_false,O.v_eq,Tn]
 |block id c ih=>
  intro hc Qa Q hQ st g a w hS hk;refine wpIn_block (ih hc (Qa:=fun e E6=>match e with | .exit j=>(bif Nat.beq j id then Qa .normal E6 else Qa (.exit j) E6) | e=>Qa e E6) (fun e st g a w q hS=>?_) hS hk);cases e with
  |normal=>exact hQ .normal _ _ _ _ q hS
  |ret=>exact hQ .ret _ _ _ _ q hS
  |exit j=>
   show(if j=id then Q .normal a w else Q (.exit j) a w);dsimp only at q
   by_cases e:j=id
   .rw[AO e];rw[e,Xl,cond_true]at q;exact hQ .normal _ _ _ _ q hS
   .rw[AB e];rw[Dw e,GG]at q;exact hQ (.exit j) _ _ _ _ q hS
 |loop c ih=>
  intro hc Qa Q hQ st g a w hS hk;obtain⟨α,I,μ,⟨x,hx⟩,AeV⟩:=hk;refine Uq (fun n a w=>∃x g,μ x=n/\SR N ds w0 g0 h0 (I x).st g a w) (μ x) ⟨x,g,rfl,hS.weaken hE hx⟩ ?_
  rintro n a w ⟨x,g,rfl,hS⟩
  refine ih hc (Qa:=fun e E6=>match e with | .normal=>∃y,μ y<μ x/\St.le cx E6 (I y) | e=>Qa e E6) (fun e st g a w q hS=>?_) hS (AeV x);cases e with
  |normal=>
   obtain⟨y,q1,q2⟩:=q;exact⟨μ y,q1,y,g,rfl,hS.weaken hE q2⟩
  |exit id=>exact hQ (.exit id) _ _ _ _ q hS
  |ret=>exact hQ .ret _ _ _ _ q hS
 |_=>intro _ Qa Q hQ st g a w hS hk;exact hk.elim
end
end Go.Eng
