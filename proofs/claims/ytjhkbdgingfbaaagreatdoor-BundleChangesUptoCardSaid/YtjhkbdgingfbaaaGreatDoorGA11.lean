/- Lemmas 11. -/
import Derived.Test.YtjhkbdgingfbaaaGreatDoorGA10
namespace Go.Eng
variable {cx:Cx}{o:Oper}
section
variable {P:Program}{N:Nat}{ds:List Deferred}{w0:World}{g0:Gh}{h0 h:Nat->HO}{st:St}{g:Gh}{a:Act}{w:World}
theorem U7(hI:Do w0 g0 h0 h g w)(r:Nat):∃g',Do w0 g0 h0 (YP h r) g' w/\Le h g w (YP h r) g' w:=by
 unfold YP;split
 .rename_i cs e0;have ho:=hI.objs r;rw[e0]at ho;obtain⟨t1,b,E,vs,a1,a2,a3,a4,a5⟩:=ho;have hl:(h r).live:=by rw[e0];trivial
  have Dc:=(hI.loc r b hl a1).1;have hs:=Lt hI a4
  obtain⟨k1,k2⟩:=hI.upd r (.ro (cs.map (str h))) (g.ρ r) (g.ln r) (g.tk r) none (g.more b cs.length) w none ⟨rfl,rfl,rfl,Ad _⟩ (fun _ _ _=>rfl) (fun b e=>by cases e) (fun _ _ h=>.inl h)
   (fun b' o hs=>hs.elim .inl (fun hs=>.inr ⟨by rw[hs.1];exact Dc,.inr ⟨hl,by rw[hs.1];exact a1⟩⟩)) (fun b o e=>by cases e) (fun b hh _=>by cases hh) sS
   (fun _=>⟨rfl,Ad _,fun _=>rfl,fun _=>rfl⟩) (fun hg hk=>by
    obtain⟨u1,u2,u3,u4⟩:=Bi g r (g.ρ r) (g.ln r) (g.tk r) none (g.more b cs.length);exact⟨u3.trans t1,b,u1.trans a2,Bo.cptr_row a3 (hs.mono hk (fun _ h=>h) (fun _ h=>h.elim)) (fun o ho=>.inr ⟨rfl,by simpa using ho⟩)⟩)
  exact⟨_,k1,k2⟩
 .rename_i sh BK e0;have ho:=hI.objs r;rw[e0]at ho;obtain⟨t1,b,es,ck,a1,a2,a3,a4,a5,a6⟩:=ho;obtain⟨g1,i1,i2,i3⟩:=Mx hI e0 a1 a2 a3 a4 a5 t1;exact⟨g1,i1,i2⟩
 .rename_i sh BK e0;have ho:=hI.objs r;rw[e0]at ho;obtain⟨t1,b,es,ck,a1,a2,a3,a4,a5,a6⟩:=ho;obtain⟨g1,i1,i2,i3⟩:=Rk hI e0 a1 a2 a3 a4 a5 t1;exact⟨g1,i1,i2⟩
 .exact⟨g,hI,.refl _ _ _⟩
theorem M4:∀(l:List Nat) {h:Nat->HO} {g:Gh},Do w0 g0 h0 h g w->∃g',Do w0 g0 h0 (MN h l) g' w/\Le h g w (MN h l) g' w
 | [],_,g,hI=>⟨g,hI,.refl _ _ _⟩
 |r::l,_,_,hI=>
  let ⟨_,i1,i2⟩:=U7 hI r
  let ⟨g2,j1,j2⟩:=M4 l i1
  ⟨g2,j1,i2.trans j2⟩
theorem H7:∀(cs:List AV) (k:Nat) (v:AV) (i:Nat) (av:AV),(EF cs k v)[i]?=some av->(i=k/\av=v)\/cs[i]?=some av
 | [],_,_,_,_,h=>by simp[EF]at h
 |c::cs,0,v,i,av,h=>by
  unfold EF at h;cases i with
  |zero=>simp only[AX,Ba]at h;exact .inl ⟨rfl,h.symm⟩
  |succ i=>exact .inr h
 |c::cs,k+1,v,i,av,h=>by
  unfold EF at h;cases i with
  |zero=>exact .inr h
  |succ i=>
   rcases H7 cs k v i av (by simpa using h)with ⟨e1,e2⟩ | e
   .exact .inl ⟨by omega,e2⟩
   .exact .inr (by simpa using e)
theorem H8:∀(cs:List AV) (k:Nat) (v:AV),(EF cs k v).length=cs.length
 | [],_,_=>rfl
 |_::_,0,_=>rfl
 |_::cs,k+1,v=>by unfold EF;simp[H8 cs k v]
theorem Th:∀(cs:List AV) (k:Nat) (x:Value),H1 cs k=.v x->cs[k]?=some (.v x)
 | [],_,_,h=>by simp[H1]at h
 |_::_,0,_,h=>by unfold H1 at h;simp[h]
 |_::cs,k+1,x,h=>by unfold H1 at h;simpa using Th cs k x h
theorem g9(hI:Do w0 g0 h0 h g w)(r k j sz:Nat):∃g',Do w0 g0 h0 (mr h r k j sz) g' w/\Le h g w (mr h r k j sz) g' w:=by
 have same:∃g',Do w0 g0 h0 h g' w/\Le h g w h g' w:=⟨g,hI,.refl _ _ _⟩;unfold mr;split
 .rename_i cs e0;split
  .rename_i e1;split
   .rename_i hj;have Dn:r≠j:=fun e=>by rw[e,hj]at e0;cases e0
    obtain⟨g1,i1,i2,i3⟩:=Kt hI (sz:=sz) (es:=[]) (a:=none) hj sS rfl (.snil _ _ _);have ho:=i1.objs r;rw[Bs _ _ _ _ Dn,e0]at ho;obtain⟨t1,b,E,vs,a1,a2,a3,a4,a5⟩:=ho;have hl:(AH h j (.tok sz 0) r).live:=by rw[Bs _ _ _ _ Dn,e0];trivial
    have Dc:=(i1.loc r b hl a1).1;have RJ:=Th cs k _ e1
    obtain⟨k1,k2⟩:=i1.upd r (.cells (EF cs k (.slice (.id j sz) []))) (g1.ρ r) (g1.ln r) (g1.tk r) (g1.own r) g1.S w none ⟨rfl,rfl,rfl,Ad _⟩ (fun _ _ _=>rfl) (fun b e=>by cases e) (fun _ _ h=>h) (fun _ _ h=>.inl h)
     (fun b o e=>by cases e) (fun b' _ e=>⟨(i1.loc r b' hl e).1,.inl ⟨hl,e⟩⟩) sS (fun _=>⟨rfl,Ad _,fun _=>rfl,fun _=>rfl⟩) (fun hg hk=>by
      obtain⟨u1,u2,u3,u4⟩:=Bi g1 r (g1.ρ r) (g1.ln r) (g1.tk r) (g1.own r) g1.S;have IP:∀i,AD (AH h j (.tok sz 0)) i->AD (AH (AH h j (.tok sz 0)) r (.cells (EF cs k (.slice (.id j sz) [])))) i:=fun i hi=>CV sS i hi;refine⟨u3.trans t1,b,E,vs,u4.trans a1,u1.trans a2,a3,⟨by rw[H8];exact a4.1,a4.2.1,fun i av x q1 q2=>?_⟩,a5⟩;rcases H7 cs k _ i av q1 with ⟨rfl,rfl⟩ | q
      .have:=(a4.2.2 i _ x RJ q2).v_eq
       subst this;exact i3.mono hk IP hg
      .exact(a4.2.2 i av x q q2).mono hk IP hg)
    exact⟨_,k1,i2.trans k2⟩
   .exact same
  .exact same
 .exact same
theorem ai(hS:SR N ds w0 g0 h0 st g a w):∃g',SR N ds w0 g0 h0 (ah cx o st) g' a w:=by
 unfold ah;split
 .exact⟨g,hS⟩
 .rename_i d _;split
  .obtain⟨g',h1,h2⟩:=g9 hS.inv _ _ _ _;exact⟨g',h1,hS.le.trans h2,hS.dfs,hS.size,fun i=>(hS.slots i).le h2⟩
  split
  .exact⟨g,hS⟩
  .obtain⟨g',h1,h2⟩:=M4 (eT cx.pl.fz d) hS.inv;exact⟨g',h1,hS.le.trans h2,hS.dfs,hS.size,fun i=>(hS.slots i).le h2⟩
theorem Ol:∀(cs:List AV) (k:Nat) (r n:Nat),H1 cs k=.msl r n->cs[k]?=some (.msl r n)
 | [],_,_,_,h=>by simp[H1]at h
 |_::_,0,_,_,h=>by unfold H1 at h;simp[h]
 |_::cs,k+1,r,n,h=>by unfold H1 at h;simpa using Ol cs k r n h
theorem QO(hI:Do w0 g0 h0 h g w){r sz:Nat}{es:List (List AV)}(hr:h r=.arr sz es) :
  ∃g',Do w0 g0 h0 (AH h r (.tok sz es.length)) g' w/\Le h g w (AH h r (.tok sz es.length)) g' w/\Bo g' w (AD (AH h r (.tok sz es.length))) (.slice (.id r sz) es) (g.ρ r)/\g.ln r=es.length:=by
 have ho:=hI.objs r;rw[hr]at ho;obtain⟨t1,l1,al,a2⟩:=ho;have hl:(h r).live:=by rw[hr];trivial
 rcases a2 with ⟨b1,b2,b3⟩ | ⟨b,cap,E,vs,b1,b2,b3,b4,b5,b6,b7⟩
 .subst b1
  obtain⟨k1,k2⟩:=hI.upd r (.tok sz 0) (g.ρ r) (g.ln r) (g.tk r) (g.own r) g.S w none ⟨rfl,rfl,rfl,Ad _⟩ (fun _ _ _=>rfl) (fun b e=>by cases e) (fun _ _ h=>h) (fun _ _ h=>.inl h)
   (fun b o e=>by cases e) (fun b' _ e=>⟨(hI.loc r b' hl e).1,.inl ⟨hl,e⟩⟩) sS (fun _=>⟨rfl,Ad _,fun _=>rfl,fun _=>rfl⟩) (fun hg hk=>by
    obtain⟨u1,u2,u3,u4⟩:=Bi g r (g.ρ r) (g.ln r) (g.tk r) (g.own r) g.S;exact⟨u3.trans t1,u2.trans l1,none,0,u1.trans b2,.inl ⟨rfl,u4.trans b3⟩⟩)
  refine⟨_,k1,k2,?_,l1⟩;rw[b2];exact .tok _ r sz [] _ (.snil _ _ _) sS (by unfold AD;rw[Aw,AM];simp) (by simp[Gh.upd,t1]) sS (fun _=>by simp[Gh.upd])
 .have Dc:=(hI.loc r b hl b2).1
  obtain⟨k1,k2⟩:=hI.upd r (.tok sz es.length) (g.ρ r) (g.ln r) (g.tk r) (g.own r) (g.more b (es.length*sz)) w none ⟨rfl,rfl,rfl,Ad _⟩ (fun _ _ _=>rfl) (fun b e=>by cases e) (fun _ _ h=>.inl h)
   (fun b' o hs=>hs.elim .inl (fun hs=>.inr ⟨by rw[hs.1];exact Dc,.inr ⟨hl,by rw[hs.1];exact b2⟩⟩)) (fun b o e=>by cases e) (fun b' _ e=>⟨(hI.loc r b' hl e).1,.inl ⟨hl,e⟩⟩) sS
   (fun _=>⟨rfl,Ad _,fun _=>rfl,fun _=>rfl⟩) (fun hg hk=>by
    obtain⟨u1,u2,u3,u4⟩:=Bi g r (g.ρ r) (g.ln r) (g.tk r) (g.own r) (g.more b (es.length*sz));exact⟨u3.trans t1,u2.trans l1,_,cap,u1.trans b1,.inr ⟨b3,b,E,vs,0,rfl,u4.trans b2,.of b4,by rw[b5,Bf],fun o ho=>by
     rcases ho with ho | ⟨_,ho⟩
     .exact absurd ho (b7 o)
     .omega⟩⟩)
  refine⟨_,k1,k2,?_,l1⟩;rw[b1];exact .tok _ r sz es _ (Bo.slice_row b4 al b3 (b6.mono k2.keeps (fun _ h=>h) (fun _ h=>h.elim)) (fun o ho=>.inr ⟨rfl,ho⟩)) al (by unfold AD;rw[AM];simp) (by simp[Gh.upd,t1]) (by simp[Gh.upd,l1]) (fun _=>by simp[Gh.upd])
theorem Do.move{w0:World}{g0:Gh}{h0 h:Nat->HO}{g:Gh}{w:World}(hI:Do w0 g0 h0 h g w)(r r2:Nat)(Dn:r2≠r)(hf:h r2=.free)(hl:(h r).live){b:Nat}(ho:g.own r=some b)(o' : HO)(x:Value)(n:Nat)(t:Bool)(hn:o'≠.free)
  (G0:DO g w (g.upd r2 x n t (some b) g.S) w->C3 (g.upd r2 x n t (some b) g.S) w (AD (AH (AH h r .dead) r2 o')) r2 o') :
  Do w0 g0 h0 (AH (AH h r .dead) r2 o') (g.upd r2 x n t (some b) g.S) w/\Le h g w (AH (AH h r .dead) r2 o') (g.upd r2 x n t (some b) g.S) w:=by
 have XH:Ho g (g.upd r2 x n t (some b) g.S) (AD h):=by
  intro i hi;have e:i≠r2:=fun e=>hi (by rw[e];exact hf);refine⟨by simp[Gh.upd,e],by simp[Gh.upd,e],fun _=>by simp[Gh.upd,e],fun _=>by simp[Gh.upd,e]⟩
 have hK:DO g w (g.upd r2 x n t (some b) g.S) w:=fun b o hb=>⟨hb,rfl,fun _ _ h=>h⟩;have IP:∀i,AD h i->AD (AH (AH h r .dead) r2 o') i:=fun i hi=>CV hn i (CV sS i hi);have key:∀i,i≠r2->(AH (AH h r .dead) r2 o' i).live->i≠r/\(h i).live:=fun i h2 hl=>by
  rw[Bs _ _ _ _ h2]at hl
  by_cases e:i=r
  .subst e;rw[AM]at hl;exact hl.elim
  .rw[Bs _ _ _ _ e]at hl;exact⟨e,hl⟩
 have own:∀i,i≠r2->(g.upd r2 x n t (some b) g.S).own i=g.own i:=fun i e=>by simp[Gh.upd,e]
 have Oq:(g.upd r2 x n t (some b) g.S).own r2=some b:=by simp[Gh.upd]
 refine⟨⟨hI.os,hI.tape,hI.output,hI.size,hI.frame,hI.slt,fun i=>?_,fun i j c hi hj ei ej=>?_,fun i c hi ei=>?_,hI.sg,hI.glob.keep hK⟩,XH,IP,hK⟩
 .by_cases e:i=r2
  .subst e;rw[AM];exact G0 hK
  .rw[Bs _ _ _ _ e]
   by_cases e1:i=r
   .subst e1;rw[AM];trivial
   .rw[Bs _ _ _ _ e1];exact(hI.objs i).same hK IP XH (by simp[Gh.upd,e]) (by simp[Gh.upd,e]) (by simp[Gh.upd,e]) (by simp[Gh.upd,e]) (fun b hl hb=>⟨rfl,fun k hk=>hk⟩)
 .by_cases e1:i=r2<;>by_cases e2:j=r2
  .exact e1.trans e2.symm
  .subst e1;rw[Oq]at ei;rw[own j e2]at ej;cases ei;obtain⟨a1,a2⟩:=key j e2 hj;exact absurd (hI.inj j r _ a2 hl ej ho) a1
  .subst e2;rw[Oq]at ej;rw[own i e1]at ei;cases ej;obtain⟨a1,a2⟩:=key i e1 hi;exact absurd (hI.inj i r _ a2 hl ei ho) a1
  .rw[own i e1]at ei;rw[own j e2]at ej;exact hI.inj i j c (key i e1 hi).2 (key j e2 hj).2 ei ej
 .by_cases e1:i=r2
  .subst e1;rw[Oq]at ei;cases ei;exact hI.loc r _ hl ho
  .rw[own i e1]at ei;exact hI.loc i c (key i e1 hi).2 ei
theorem eS(hS:SR N ds w0 g0 h0 st g a w){s k:Nat}{K:St->Prop}(hk:my st s k K):∃Eb g',SR N ds w0 g0 h0 Eb g' a w/\K Eb:=by
 have same:K st->∃Eb g',SR N ds w0 g0 h0 Eb g' a w/\K Eb:=fun hk=>⟨st,g,hS,hk⟩;unfold my at hk;split at hk
 .rename_i r n ht;have XJ:=hS.slots s;rw[ht]at XJ;split at hk
  .rename_i sz es hr;have ho:=hS.inv.objs r;rw[hr]at ho;obtain⟨t1,l1,al,a2⟩:=ho;have hl:(st.h r).live:=by rw[hr];trivial
   have DM:n=es.length->a.tmps.getD s undef=g.ρ r:=fun hn=>by
    generalize a.tmps.getD s undef=x at XJ;cases XJ with
    |msl _ r n a cap hu ht Za ha hx=>exact hx (hn.trans l1.symm)
   have fin:∀(h' : Nat->HO) (v:AV) (g' : Gh),Do w0 g0 h0 h' g' w->Le st.h g w h' g' w->Bo g' w (AD h') v (a.tmps.getD s undef)->SR N ds w0 g0 h0 ⟨Gz st.t s v,h'⟩ g' a w:=fun h' v g' i1 i2 i3=>by
    refine⟨i1,hS.le.trans i2,hS.dfs,hS.size,fun i=>?_⟩;show Bo g' w (AD h') (Gz st.t s v i) _
    by_cases e:i=s
    .subst e
     have:Gz st.t i v i=v:=by unfold Gz;simp
     rw[this];exact i3
    .have:Gz st.t s v i=st.t i:=by unfold Gz;simp[B4 e]
     rw[this];exact(hS.slots i).le i2
   split at hk
   .obtain⟨hn,hk⟩:=hk;obtain⟨g1,i1,i2,i3,i4⟩:=QO hS.inv hr
    obtain⟨k1,k2⟩:=i1.upd r .dead (g1.ρ r) (g1.ln r) (g1.tk r) (g1.own r) g1.S w none ⟨rfl,rfl,rfl,Ad _⟩ (fun _ _ _=>rfl) (fun b e=>by cases e) (fun _ _ h=>h) (fun _ _ h=>.inl h) (fun b o e=>by cases e) (fun b hh _=>by cases hh) sS
     (fun _=>⟨rfl,Ad _,fun _=>rfl,fun _=>rfl⟩) (fun _ _=>trivial)
    exact⟨_,_,fin _ _ _ k1 (i2.trans k2) (by rw[DM hn];exact(i3.slice_none.up _).le k2),hk⟩
   .rename_i k;split at hk
    .exact same hk
    .rename_i hb;have Dn:k+1≠r:=fun e=>by rw[e]at hb;exact absurd (CK r) (by rw[hb];decide)
     split at hk
     .rename_i hf;obtain⟨hn,hk⟩:=hk;rcases a2 with ⟨b1,b2,b3⟩ | ⟨b,cap,E,vs,b1,b2,b3,b4,b5,b6,b7⟩
      .subst b1;have hv:=DM hn
       obtain⟨k1,k2⟩:=hS.inv.upd r .dead (g.ρ r) (g.ln r) (g.tk r) (g.own r) g.S w none ⟨rfl,rfl,rfl,Ad _⟩ (fun _ _ _=>rfl) (fun b e=>by cases e) (fun _ _ h=>h) (fun _ _ h=>.inl h) (fun b o e=>by cases e) (fun b hh _=>by cases hh) sS
        (fun _=>⟨rfl,Ad _,fun _=>rfl,fun _=>rfl⟩) (fun _ _=>trivial)
       have od:AH st.h r .dead (k+1)=.free:=by rw[Bs _ _ _ _ Dn];exact hf
       obtain⟨m1,m2⟩:=k1.upd (k+1) (.arr sz []) (.slice none 0 0) 0 true none (g.upd r (g.ρ r) (g.ln r) (g.tk r) (g.own r) g.S).S w none ⟨rfl,rfl,rfl,Ad _⟩ (fun _ _ _=>rfl) (fun b e=>by cases e) (fun _ _ h=>h) (fun _ _ h=>.inl h) (fun b o e=>by cases e) (fun b _ e=>by cases e) sS
        (fun hu=>absurd od hu) (fun _ _=>by
         obtain⟨u1,u2,u3,u4⟩:=Bi (g.upd r (g.ρ r) (g.ln r) (g.tk r) (g.own r) g.S) (k+1) (.slice none 0 0) 0 true none (g.upd r (g.ρ r) (g.ln r) (g.tk r) (g.own r) g.S).S;exact⟨u3,u2,by simp,.inl ⟨rfl,u1,u4⟩⟩)
       refine⟨_,_,fin _ _ _ m1 (k2.trans m2) ?_,hk⟩;rw[hv,b2,hn];exact .msl _ (k+1) 0 none 0 (by unfold AD;rw[AM];simp) (by simp[Gh.upd]) (Ar _) (.inl rfl) (fun _=>by simp[Gh.upd])
      .have hv:=DM hn;obtain⟨m1,m2⟩:=hS.inv.move r (k+1) Dn hf hl b2 (.arr sz es) (g.ρ r) es.length true sS (fun FW=>by
        obtain⟨u1,u2,u3,u4⟩:=Bi g (k+1) (g.ρ r) es.length true (some b) g.S;exact⟨u3,u2,al,.inr ⟨b,cap,E,vs,u1.trans b1,u4,b3,b4,b5,b6.mono FW (fun _ h=>h) (fun _ h=>h.elim),b7⟩⟩)
       refine⟨_,_,fin _ _ _ m1 m2 ?_,hk⟩;rw[hv,b1,hn];exact .msl _ (k+1) es.length _ cap (by unfold AD;rw[AM];simp) (by simp[Gh.upd]) (by simp[Gh.upd]) (.inr ⟨b,rfl⟩) (fun _=>by simp[Gh.upd])
     .exact hk.elim
  .exact same hk
 .exact same hk
theorem eP(hS:SR N ds w0 g0 h0 st g a w){o k j:Nat}{K:(Nat->HO)->Prop}(hk:mw st.h o k j K):∃h' g',SR N ds w0 g0 h0 ⟨st.t,h'⟩ g' a w/\K h':=by
 unfold mw at hk;split at hk
 .rename_i cs e0;split at hk
  .rename_i r n e1;split at hk
   .rename_i sz es e2;split at hk
    .rename_i hf;obtain⟨hn,hk⟩:=hk;have ho:=hS.inv.objs r;rw[e2]at ho;obtain⟨t1,l1,al,a2⟩:=ho;have hl:(st.h r).live:=by rw[e2];trivial
     have Dn:j≠r:=fun e=>by rw[e,e2]at hf;cases hf
     have dW:o≠r:=fun e=>by rw[e,e2]at e0;cases e0
     have cq:o≠j:=fun e=>by rw[e,hf]at e0;cases e0
     -- the array goes to the new id,which stands for the same slice
     have step:∃g1,Do w0 g0 h0 (AH (AH st.h r .dead) j (.arr sz es)) g1 w/\Le st.h g w (AH (AH st.h r .dead) j (.arr sz es)) g1 w/\g1.tk j=true/\g1.ln j=es.length/\g1.ρ j=g.ρ r:=by
      rcases a2 with ⟨b1,b2,b3⟩ | ⟨b,cap,E,vs,b1,b2,b3,b4,b5,b6,b7⟩
      .subst b1
       obtain⟨k1,k2⟩:=hS.inv.upd r .dead (g.ρ r) (g.ln r) (g.tk r) (g.own r) g.S w none ⟨rfl,rfl,rfl,Ad _⟩ (fun _ _ _=>rfl) (fun b e=>by cases e) (fun _ _ h=>h) (fun _ _ h=>.inl h) (fun b o e=>by cases e) (fun b hh _=>by cases hh) sS
        (fun _=>⟨rfl,Ad _,fun _=>rfl,fun _=>rfl⟩) (fun _ _=>trivial)
       have od:AH st.h r .dead j=.free:=by rw[Bs _ _ _ _ Dn];exact hf
       obtain⟨m1,m2⟩:=k1.upd j (.arr sz []) (.slice none 0 0) 0 true none (g.upd r (g.ρ r) (g.ln r) (g.tk r) (g.own r) g.S).S w none ⟨rfl,rfl,rfl,Ad _⟩ (fun _ _ _=>rfl) (fun b e=>by cases e) (fun _ _ h=>h) (fun _ _ h=>.inl h) (fun b o e=>by cases e) (fun b _ e=>by cases e) sS
        (fun hu=>absurd od hu) (fun _ _=>by
         obtain⟨u1,u2,u3,u4⟩:=Bi (g.upd r (g.ρ r) (g.ln r) (g.tk r) (g.own r) g.S) j (.slice none 0 0) 0 true none (g.upd r (g.ρ r) (g.ln r) (g.tk r) (g.own r) g.S).S;exact⟨u3,u2,by simp,.inl ⟨rfl,u1,u4⟩⟩)
       exact⟨_,m1,k2.trans m2,by simp[Gh.upd],by simp[Gh.upd],by simp[Gh.upd,b2]⟩
      .obtain⟨m1,m2⟩:=hS.inv.move r j Dn hf hl b2 (.arr sz es) (g.ρ r) es.length true sS (fun FW=>by
        obtain⟨u1,u2,u3,u4⟩:=Bi g j (g.ρ r) es.length true (some b) g.S;exact⟨u3,u2,al,.inr ⟨b,cap,E,vs,u1.trans b1,u4,b3,b4,b5,b6.mono FW (fun _ h=>h) (fun _ h=>h.elim),b7⟩⟩)
       exact⟨_,m1,m2,by simp[Gh.upd],by simp[Gh.upd],by simp[Gh.upd]⟩
     obtain⟨g1,i1,i2,j1,j2,j3⟩:=step
     -- the cell
     have ho:=hS.inv.objs o;rw[e0]at ho;have dV:=i1.objs o;rw[Bs _ _ _ _ cq,Bs _ _ _ _ dW,e0]at dV;obtain⟨t2,b,E,vs,c1,c2,c3,c4,c5⟩:=dV;obtain⟨_,b',E',XK,bD,qF,pv,qI,_⟩:=ho;have hb:b'=b:=by
      have h2:=i2.gh o (by unfold AD;rw[e0];simp);have h3:=h2.2.2.1 (by assumption);rw[h3,qF]at c2;cases c2;rfl
     subst hb;rw[c3]at pv;cases pv;have Y6:(AH (AH st.h r .dead) j (.arr sz es) o).live:=by rw[Bs _ _ _ _ cq,Bs _ _ _ _ dW,e0];trivial
     have RJ:=Ol cs k _ _ e1
     obtain⟨k1,k2⟩:=i1.upd o (.cells (EF cs k (.msl j n))) (g1.ρ o) (g1.ln o) (g1.tk o) (g1.own o) g1.S w none ⟨rfl,rfl,rfl,Ad _⟩ (fun _ _ _=>rfl) (fun b e=>by cases e) (fun _ _ h=>h) (fun _ _ h=>.inl h)
      (fun b o e=>by cases e) (fun b' _ e=>⟨(i1.loc o b' Y6 e).1,.inl ⟨Y6,e⟩⟩) sS (fun _=>⟨rfl,Ad _,fun _=>rfl,fun _=>rfl⟩) (fun hg fX=>by
       obtain⟨u1,u2,u3,u4⟩:=Bi g1 o (g1.ρ o) (g1.ln o) (g1.tk o) (g1.own o) g1.S;have IP:∀i,AD (AH (AH st.h r .dead) j (.arr sz es)) i->AD (AH (AH (AH st.h r .dead) j (.arr sz es)) o (.cells (EF cs k (.msl j n)))) i:=fun i hi=>CV sS i hi;refine⟨u3.trans t2,_,E,vs,u4.trans c1,u1.trans c2,c3,⟨by rw[H8];exact c4.1,c4.2.1,fun i av x q1 q2=>?_⟩,c5⟩;rcases H7 cs k _ i av q1 with ⟨rfl,rfl⟩ | q
       .have hx:=qI.2.2 i _ x RJ q2;have hm:Bo g1 w (AD (AH (AH st.h r .dead) j (.arr sz es))) (.msl j n) x:=by
         cases hx with
         |msl _ _ _ a cap hu ht' Za ha IL=>
         refine .msl _ _ _ _ _ (by unfold AD;rw[AM];simp) j1 sP ha (fun e=>?_);rw[j3];exact IL (hn.trans l1.symm)
        exact hm.mono fX IP hg
       .exact(c4.2.2 i av x q q2).mono fX IP hg)
     exact⟨_,_,⟨k1,hS.le.trans (i2.trans k2),hS.dfs,hS.size,fun i=>(hS.slots i).le (i2.trans k2)⟩,hk⟩
    .exact hk.elim
   .exact hk.elim
  .exact hk.elim
 .exact hk.elim
theorem M1{h:Nat->HO}(hI:Do w0 g0 h0 h g w){o k:Nat}{cs:List AV}(e0:h o=.cells cs){old new:AV}(hk:cs[k]?=some old)(Dd:∀x:Value,Bo g w (AD h) old x->Bo g w (AD h) new x) :
  ∃g',Do w0 g0 h0 (AH h o (.cells (EF cs k new))) g' w/\Le h g w (AH h o (.cells (EF cs k new))) g' w:=by
 have ho:=hI.objs o;rw[e0]at ho;obtain⟨t1,b,E,vs,a1,a2,a3,a4,a5⟩:=ho;have hl:(h o).live:=by rw[e0];trivial
 obtain⟨k1,k2⟩:=hI.upd o (.cells (EF cs k new)) (g.ρ o) (g.ln o) (g.tk o) (g.own o) g.S w none ⟨rfl,rfl,rfl,Ad _⟩ (fun _ _ _=>rfl) (fun b e=>by cases e) (fun _ _ h=>h) (fun _ _ h=>.inl h)
  (fun b o e=>by cases e) (fun b' _ e=>⟨(hI.loc o b' hl e).1,.inl ⟨hl,e⟩⟩) sS (fun _=>⟨rfl,Ad _,fun _=>rfl,fun _=>rfl⟩) (fun hg fX=>by
   obtain⟨u1,u2,u3,u4⟩:=Bi g o (g.ρ o) (g.ln o) (g.tk o) (g.own o) g.S;have IP:∀i,AD h i->AD (AH h o (.cells (EF cs k new))) i:=fun i hi=>CV sS i hi;refine⟨u3.trans t1,b,E,vs,u4.trans a1,u1.trans a2,a3,⟨by rw[H8];exact a4.1,a4.2.1,fun i av x q1 q2=>?_⟩,a5⟩;rcases H7 cs k _ i av q1 with ⟨rfl,rfl⟩ | q
   .exact(Dd x (a4.2.2 i _ x hk q2)).mono fX IP hg
   .exact(a4.2.2 i av x q q2).mono fX IP hg)
 exact⟨_,k1,k2⟩
theorem H2:∀(cs:List AV) (k:Nat) (a:AV),H1 cs k=a->a≠.junk->cs[k]?=some a
 | [],_,a,h,hn=>by simp only[H1]at h;exact absurd h.symm hn
 |_::_,0,_,h,_=>by unfold H1 at h;simp[h]
 |_::cs,k+1,a,h,hn=>by unfold H1 at h;simpa using H2 cs k a h hn
theorem Do.moveV{h:Nat->HO}(hI:Do w0 g0 h0 h g w)(r r2 v:Nat)(Dn:r2≠r)(hf:h r2=.vox v)(hl:(h r).live)(o' : HO)(x:Value)(n:Nat)(hv:v<n)(hn:o'≠.free)
  (G0:DO g w (g.upd r2 x n true (g.own r) g.S) w->C3 (g.upd r2 x n true (g.own r) g.S) w (AD (AH (AH h r .dead) r2 o')) r2 o') :
  Do w0 g0 h0 (AH (AH h r .dead) r2 o') (g.upd r2 x n true (g.own r) g.S) w/\Le h g w (AH (AH h r .dead) r2 o') (g.upd r2 x n true (g.own r) g.S) w:=by
 have qe:=hI.objs r2;rw[hf]at qe;obtain⟨qg,Y6⟩:=qe;have XH:Ho g (g.upd r2 x n true (g.own r) g.S) (AD h):=by
  intro i hi
  by_cases e:i=r2
  .subst e;refine⟨by simp[Gh.upd,qg],by simp[Gh.upd];omega,fun e=>(by rw[qg]at e;cases e),fun e=>?_⟩;simp[Gh.upd]at e;omega
  .exact⟨by simp[Gh.upd,e],by simp[Gh.upd,e],fun _=>by simp[Gh.upd,e],fun _=>by simp[Gh.upd,e]⟩
 have hK:DO g w (g.upd r2 x n true (g.own r) g.S) w:=fun b o hb=>⟨hb,rfl,fun _ _ h=>h⟩;have IP:∀i,AD h i->AD (AH (AH h r .dead) r2 o') i:=fun i hi=>CV hn i (CV sS i hi);have key:∀i,i≠r2->(AH (AH h r .dead) r2 o' i).live->i≠r/\(h i).live:=fun i h2 hl=>by
  rw[Bs _ _ _ _ h2]at hl
  by_cases e:i=r
  .subst e;rw[AM]at hl;exact hl.elim
  .rw[Bs _ _ _ _ e]at hl;exact⟨e,hl⟩
 have own:∀i,i≠r2->(g.upd r2 x n true (g.own r) g.S).own i=g.own i:=fun i e=>by simp[Gh.upd,e]
 have Oq:(g.upd r2 x n true (g.own r) g.S).own r2=g.own r:=by simp[Gh.upd]
 refine⟨⟨hI.os,hI.tape,hI.output,hI.size,hI.frame,hI.slt,fun i=>?_,fun i j c hi hj ei ej=>?_,fun i c hi ei=>?_,hI.sg,hI.glob.keep hK⟩,XH,IP,hK⟩
 .by_cases e:i=r2
  .subst e;rw[AM];exact G0 hK
  .rw[Bs _ _ _ _ e]
   by_cases e1:i=r
   .subst e1;rw[AM];trivial
   .rw[Bs _ _ _ _ e1];exact(hI.objs i).same hK IP XH (by simp[Gh.upd,e]) (by simp[Gh.upd,e]) (by simp[Gh.upd,e]) (by simp[Gh.upd,e]) (fun b hl hb=>⟨rfl,fun k hk=>hk⟩)
 .by_cases e1:i=r2<;>by_cases e2:j=r2
  .exact e1.trans e2.symm
  .subst e1;rw[Oq]at ei;rw[own j e2]at ej;obtain⟨a1,a2⟩:=key j e2 hj;exact absurd (hI.inj j r _ a2 hl ej ei) a1
  .subst e2;rw[Oq]at ej;rw[own i e1]at ei;obtain⟨a1,a2⟩:=key i e1 hi;exact absurd (hI.inj i r _ a2 hl ei ej) a1
  .rw[own i e1]at ei;rw[own j e2]at ej;exact hI.inj i j c (key i e1 hi).2 (key j e2 hj).2 ei ej
 .by_cases e1:i=r2
  .subst e1;rw[Oq]at ei;exact hI.loc r _ hl ei
  .rw[own i e1]at ei;exact hI.loc i c (key i e1 hi).2 ei
theorem hC(hS:SR N ds w0 g0 h0 st g a w){o k d:Nat}{K:(Nat->HO)->Prop}(hk:pm st.h o k d K):∃h' g',SR N ds w0 g0 h0 ⟨st.t,h'⟩ g' a w/\K h':=by
 unfold pm at hk;split at hk
 .rename_i cs e0;split at hk
  .rename_i r sz v es e1;split at hk
   .rename_i ES v' n e2;split at hk
    .rename_i hf;obtain⟨⟨rfl,rfl⟩,hk⟩:=hk;have ho:=hS.inv.objs r;rw[e2]at ho;obtain⟨t1,l1,a0,cap,r1,a2⟩:=ho;have hl:(st.h r).live:=by rw[e2];trivial
     have Dn:d≠r:=fun e=>by rw[e,e2]at hf;cases hf
     have dW:o≠r:=fun e=>by rw[e,e2]at e0;cases e0
     have oA:o≠d:=fun e=>by rw[e,hf]at e0;cases e0
     have RJ:=H2 cs k _ e1 sS
     -- the value that stands in the cell
     have iL:=hS.inv.objs o;rw[e0]at iL;obtain⟨_,b',E',XK,c1,c2,c3,c4,_⟩:=iL;obtain⟨x,dY,_,TO⟩:=c4.at RJ;have iO:x=.slice a0 n cap/\es.length=n/\Bo g w D2 (.slice .none es) x/\∀c∈es,c.length=sz:=by
      have h3:=TO.slice_none;cases TO with
      |ver _ _ _ _ _ _ h RK hu ht hn hx=>
       have:=hx l1.symm
       rw[r1]at this;subst this;refine⟨rfl,?_,h3,RK⟩;cases h3 with
       |snil=>rfl
       |slice=>rfl
     obtain⟨sL,hn,kH,RK⟩:=iO;subst hn;obtain⟨m1,m2⟩:=hS.inv.moveO r d Dn hf hl (ob:=g.own r) (fun c h=>h) (.tok sz es.length) (.slice a0 es.length cap) es.length true sS (fun FW=>by
      obtain⟨u1,u2,u3,u4⟩:=Bi g d (.slice a0 es.length cap) es.length true (g.own r) g.S;refine⟨u3,u2,a0,cap,u1,?_⟩;rw[u4];exact a2)
     generalize PR:g.upd d (.slice a0 es.length cap) es.length true (g.own r) g.S=g1 at m1 m2;have gr:g1.tk r=true/\g1.ln r=v:=by rw[<-PR];simp[Gh.upd,Ne.symm Dn,t1,l1]
     have gd:g1.tk d=true/\g1.ln d=es.length/\g1.ρ d=.slice a0 es.length cap:=by rw[<-PR];simp[Gh.upd]
     -- the id keeps its version
     have oE:(AH (AH st.h r .dead) d (.tok sz es.length)) r=.dead:=by rw[Bs _ _ _ _ (OZ Dn),AM]
     obtain⟨n1,n2⟩:=m1.upd r (.vox v) (g1.ρ r) (g1.ln r) (g1.tk r) (g1.own r) g1.S w none ⟨rfl,rfl,rfl,Ad _⟩ (fun _ _ _=>rfl) (fun b e=>by cases e) (fun _ _ h=>h) (fun _ _ h=>.inl h) (fun b o e=>by cases e) (fun b hh _=>by cases hh) sS
      (fun _=>⟨rfl,Ad _,fun _=>rfl,fun _=>rfl⟩) (fun _ _=>by
       obtain⟨u1,u2,u3,u4⟩:=Bi g1 r (g1.ρ r) (g1.ln r) (g1.tk r) (g1.own r) g1.S;exact⟨u3.trans gr.1,u2.trans gr.2⟩)
     have hh:AH (AH (AH st.h r .dead) d (.tok sz es.length)) r (.vox v)=AH (AH st.h r (.vox v)) d (.tok sz es.length):=by
      funext i
      unfold AH
      by_cases e:i=r
      .subst e;rw[CK,B4 (OZ Dn)];rfl
      .rw[B4 e];rfl
     rw[hh]at n1 n2;generalize cl:g1.upd r (g1.ρ r) (g1.ln r) (g1.tk r) (g1.own r) g1.S=g2 at n1 n2;have lU:g2.tk d=true/\g2.ln d=es.length/\g2.ρ d=.slice a0 es.length cap:=by rw[<-cl];simp[Gh.upd,Dn,gd]
     have jH : (AH (AH st.h r (.vox v)) d (.tok sz es.length)) o=.cells cs:=by rw[Bs _ _ _ _ oA,Bs _ _ _ _ dW,e0]
     have L2:=m2.trans n2;have rG:g2.ρ o=g.ρ o:=(L2.gh o (by unfold AD;rw[e0];simp)).2.2.1 (by assumption);obtain⟨g3,p1,p2⟩:=M1 n1 jH RJ (new:=.slice (.id d sz) es) (fun y hy=>by
      have h3:=hy.slice_none;have pE:g2.ln r=v/\g2.ρ r=.slice a0 es.length cap:=by rw[<-cl,<-PR];simp[Gh.upd,Ne.symm Dn,l1,r1]
      have kI:y=.slice a0 es.length cap:=by
       cases hy with
       |ver _ _ _ _ _ _ h RK hu ht hn hx=>exact(hx pE.1.symm).trans pE.2
      subst kI;exact .tok _ d sz es _ (h3.up _) RK (by unfold AD;rw[AM];simp) lU.1 (by rw[lU.2.1];exact Ad _) (fun _=>lU.2.2.symm))
     exact⟨_,g3,⟨p1,hS.le.trans (L2.trans p2),hS.dfs,hS.size,fun i=>(hS.slots i).le (L2.trans p2)⟩,hk⟩
    .exact hk.elim
   .exact hk.elim
  .exact⟨_,g,hS,hk⟩
 .exact hk.elim
theorem gX(hS:SR N ds w0 g0 h0 st g a w){o k r:Nat}{K:(Nat->HO)->Prop}(hk:ph st.h o k r K):∃h' g',SR N ds w0 g0 h0 ⟨st.t,h'⟩ g' a w/\K h':=by
 unfold ph at hk;split at hk
 .rename_i cs e0;split at hk
  .rename_i d sz es e1;split at hk
   .rename_i ES n e2;split at hk
    .rename_i v hf;obtain⟨⟨hn,rfl⟩,hk⟩:=hk;subst hn;have ho:=hS.inv.objs d;rw[e2]at ho;obtain⟨t1,l1,a0,cap,r1,a2⟩:=ho;have hl:(st.h d).live:=by rw[e2];trivial
     have Dn:r≠d:=fun e=>by rw[e,e2]at hf;cases hf
     have oA:o≠d:=fun e=>by rw[e,e2]at e0;cases e0
     have dW:o≠r:=fun e=>by rw[e,hf]at e0;cases e0
     have RJ:=H2 cs k _ e1 sS;obtain⟨m1,m2⟩:=hS.inv.moveV d r v Dn hf hl (.var sz (v+1) es.length) (.slice a0 es.length cap) (v+1) (En v) sS (fun FW=>by
      obtain⟨u1,u2,u3,u4⟩:=Bi g r (.slice a0 es.length cap) (v+1) true (g.own d) g.S;refine⟨u3,u2,a0,cap,u1,?_⟩;rw[u4];exact a2)
     generalize PR:g.upd r (.slice a0 es.length cap) (v+1) true (g.own d) g.S=g1 at m1 m2;have gr:g1.tk r=true/\g1.ln r=v+1/\g1.ρ r=.slice a0 es.length cap:=by rw[<-PR];simp[Gh.upd]
     have gd:g1.ln d=es.length/\g1.ρ d=.slice a0 es.length cap:=by rw[<-PR];simp[Gh.upd,Ne.symm Dn,l1,r1]
     have jH : (AH (AH st.h d .dead) r (.var sz (v+1) es.length)) o=.cells cs:=by rw[Bs _ _ _ _ dW,Bs _ _ _ _ oA,e0]
     obtain⟨g3,p1,p2⟩:=M1 m1 jH RJ (new:=.slice (.ver r sz (v+1)) es) (fun y hy=>by
      have h3:=hy.slice_none;have kI:y=.slice a0 es.length cap/\∀c∈es,c.length=sz:=by
       cases hy with
       |tok _ _ _ _ _ h RK hu ht hn hx=>exact⟨(hx gd.1.symm).trans gd.2,RK⟩
      obtain⟨kI,RK⟩:=kI;subst kI;exact .ver _ r sz (v+1) es _ (h3.up _) RK (by unfold AD;rw[AM];simp) gr.1 (by rw[gr.2.1];exact Ad _) (fun _=>gr.2.2.symm))
     exact⟨_,g3,⟨p1,hS.le.trans (m2.trans p2),hS.dfs,hS.size,fun i=>(hS.slots i).le (m2.trans p2)⟩,hk⟩
    .exact hk.elim
   .exact hk.elim
  .exact⟨_,g,hS,hk⟩
 .exact hk.elim
theorem gR(hS:SR N ds w0 g0 h0 st g a w){r:Nat}{K:(Nat->HO)->Prop}(hk:oX st.h r K):∃h' g',SR N ds w0 g0 h0 ⟨st.t,h'⟩ g' a w/\K h':=by
 unfold oX at hk;split at hk
 .rename_i hf
  obtain⟨m1,m2⟩:=hS.inv.upd r (.vox 0) (.slice none 0 0) 0 true none g.S w none ⟨rfl,rfl,rfl,Ad _⟩ (fun _ _ _=>rfl) (fun b e=>by cases e) (fun _ _ h=>h) (fun _ _ h=>.inl h) (fun b o e=>by cases e) (fun b hh _=>by cases hh) sS
   (fun hu=>absurd hf hu) (fun _ _=>by
    obtain⟨u1,u2,u3,u4⟩:=Bi g r (.slice none 0 0) 0 true none g.S;exact⟨u3,u2⟩)
  exact⟨_,_,⟨m1,hS.le.trans m2,hS.dfs,hS.size,fun i=>(hS.slots i).le m2⟩,hk⟩
 .exact hk.elim
theorem ar(hS:SR N ds w0 g0 h0 st g a w){o k:Nat}{K:(Nat->HO)->Prop}(hk:mp st.h o k K):∃h' g',SR N ds w0 g0 h0 ⟨st.t,h'⟩ g' a w/\K h':=by
 unfold mp at hk;split at hk
 .rename_i cs e0;split at hk
  .rename_i r e1;split at hk
   .rename_i sh BK e2;have RJ:=H2 cs k _ e1 sS;obtain⟨g3,p1,p2⟩:=M1 hS.inv e0 RJ (new:=.cmap sh BK) (fun y hy=>by
     have e3:rsv st.h (.mref r)=.cmap sh BK:=by
      show(match st.h r with | .rom sh BK=>AV.cmap sh BK | _=>.mref r)=_;rw[e2]
     rw[<-e3];exact Bo.rsv hS.inv.objs hy)
    exact⟨_,g3,⟨p1,hS.le.trans p2,hS.dfs,hS.size,fun i=>(hS.slots i).le p2⟩,hk⟩
   .exact hk.elim
  .exact hk.elim
 .exact hk.elim
theorem iy(hS:SR N ds w0 g0 h0 st g a w){o k j sz:Nat}{K:(Nat->HO)->Prop}(hk:pq st.h o k j sz K):∃h' g',SR N ds w0 g0 h0 ⟨st.t,h'⟩ g' a w/\K h':=by
 unfold pq at hk;split at hk
 .rename_i cs e0;split at hk
  .rename_i e1;split at hk
   .rename_i hf;have dW:o≠j:=fun e=>by rw[e,hf]at e0;cases e0
    have RJ:=H2 cs k _ e1 sS
    obtain⟨m1,m2⟩:=hS.inv.upd j (.arr sz []) (.slice none 0 0) 0 true none g.S w none ⟨rfl,rfl,rfl,Ad _⟩ (fun _ _ _=>rfl) (fun b e=>by cases e) (fun _ _ h=>h) (fun _ _ h=>.inl h) (fun b o e=>by cases e) (fun b hh e=>by first | (cases e;done) | (exact absurd hh.2 sS)) sS
     (fun hu=>absurd hf hu) (fun _ _=>by
      obtain⟨u1,u2,u3,u4⟩:=Bi g j (.slice none 0 0) 0 true none g.S;exact⟨u3,u2,(fun cs hc=>by cases hc),.inl ⟨rfl,u1,u4⟩⟩)
    generalize PR:g.upd j (.slice none 0 0) 0 true none g.S=g1 at m1 m2;have gr:g1.tk j=true/\g1.ln j=0/\g1.ρ j=.slice none 0 0:=by rw[<-PR];simp[Gh.upd]
    have jH : (AH st.h j (.arr sz [])) o=.cells cs:=by rw[Bs _ _ _ _ dW,e0]
    obtain⟨g3,p1,p2⟩:=M1 m1 jH RJ (new:=.msl j 0) (fun y hy=>by
     cases hy
     exact .msl _ j 0 none 0 (by unfold AD;rw[AM];simp) gr.1 (Ar _) (.inl rfl) (fun _=>gr.2.2.symm))
    exact⟨_,g3,⟨p1,hS.le.trans (m2.trans p2),hS.dfs,hS.size,fun i=>(hS.slots i).le (m2.trans p2)⟩,hk⟩
   .exact hk.elim
  .exact hk.elim
 .exact hk.elim
theorem Yu{id:Nat}(hS:SR N ds w0 g0 h0 st g a w){K:(Nat->HO)->Prop}(hk:nE cx id st.h fun h=>mo cx id h fun h=>k8 cx id h fun h=>iX cx id h K):∃h' g',SR N ds w0 g0 h0 ⟨st.t,h'⟩ g' a w/\K h':=by
 have h1:∃h' g',SR N ds w0 g0 h0 ⟨st.t,h'⟩ g' a w/\mo cx id h' fun h=>k8 cx id h fun h=>iX cx id h K:=by
  unfold nE at hk;split at hk
  .obtain⟨g',i1,i2⟩:=U7 hS.inv _;exact⟨_,g',⟨i1,hS.le.trans i2,hS.dfs,hS.size,fun i=>(hS.slots i).le i2⟩,hk⟩
  .exact⟨_,g,hS,hk⟩
 obtain⟨h1,g1,S1,hk⟩:=h1;have h2:∃h' g',SR N ds w0 g0 h0 ⟨st.t,h'⟩ g' a w/\k8 cx id h' fun h=>iX cx id h K:=by
  unfold mo at hk;split at hk
  .exact ar S1 hk
  .exact⟨_,g1,S1,hk⟩
 obtain⟨h2,g2,S2,hk⟩:=h2;have h3:∃h' g',SR N ds w0 g0 h0 ⟨st.t,h'⟩ g' a w/\iX cx id h' K:=by
  unfold k8 at hk;split at hk
  .exact ar S2 hk
  .exact⟨_,g2,S2,hk⟩
 obtain⟨h3,g3,S3,hk⟩:=h3;unfold iX at hk;split at hk
 .exact iy S3 hk
 .exact⟨_,g3,S3,hk⟩
theorem gm(hS:SR N ds w0 g0 h0 st g a w){r:Nat}{K:(Nat->HO)->Prop}(hk:oy st.h r K):∃h' g',SR N ds w0 g0 h0 ⟨st.t,h'⟩ g' a w/\K h':=by
 unfold oy at hk;split at hk
 .rename_i sz es i c j m er;split at hk
  .exact hk.elim
  .rename_i hb;have Dn:r≠j:=fun e=>by rw[e]at hb;exact absurd (CK j) (by rw[hb];decide)
   split at hk
   .rename_i VH qs ej;obtain⟨hm,cs,hi,hc,hk⟩:=hk;have ho:=hS.inv.objs r;rw[er]at ho;obtain⟨t1,l1,al,b,cap,E,vs,e1,e2,e3,e4,e5,e6,e7,e8,x,e9,jI⟩:=ho;obtain⟨g1,i1,i2,i3,i4⟩:=QO hS.inv ej;have SH:x=g.ρ j:=by
     cases jI with
     |msl _ _ _ _ _ _ _ _ _ hz=>exact hz (hm.trans i4.symm)
    obtain⟨k1,k2⟩:=i1.upd j .dead (g1.ρ j) (g1.ln j) (g1.tk j) (g1.own j) g1.S w none ⟨rfl,rfl,rfl,Ad _⟩ (fun _ _ _=>rfl) (fun b e=>by cases e) (fun _ _ h=>h) (fun _ _ h=>.inl h) (fun b o e=>by cases e) (fun b hh _=>by cases hh) sS
     (fun _=>⟨rfl,Ad _,fun _=>rfl,fun _=>rfl⟩) (fun _ _=>trivial)
    generalize cl:g1.upd j (g1.ρ j) (g1.ln j) (g1.tk j) (g1.own j) g1.S=g2 at k1 k2;have Dd:Bo g2 w D2 (.slice .none qs) x:=by rw[SH];exact i3.slice_none.mono k2.keeps (fun _ h=>h) (fun _ h=>h.elim)
    have jL:AH (AH st.h j (.tok VH qs.length)) j .dead r=.hol sz es i c (.msl j m):=by rw[Bs _ _ _ _ Dn,Bs _ _ _ _ Dn,er]
    have l7:=k1.objs r;rw[jL]at l7;obtain⟨sb,me,lL,b',HL,E',XK,f1,f2,f3,f4,f5,f6,f7,f8,x',f9,f10⟩:=l7;have hl:(AH (AH st.h j (.tok VH qs.length)) j .dead r).live:=by rw[jL];trivial
    have hρ:g2.ρ r=g.ρ r:=by
     have q1:=(i2.trans k2).gh r (by unfold AD;rw[er];simp);exact q1.2.2.2 (me.trans l1.symm)
    have Uq:XK=vs:=by
     rw[f1,e1]at hρ;cases hρ;rw[f4]at e4;cases e4;rfl
    subst Uq;have rO:x'=x:=by rw[e9]at f9;cases f9;rfl
    subst rO;have Dc:=(Au.1 hi).1;have MQ:=lL cs (AW hi);have hfl:=I1 lL hi c [AV.slice .none qs] (by simp only[Am,Aw];omega);have BQ:es.flatten.length=es.length*sz:=Cr lL
    obtain⟨m1,m2⟩:=k1.upd r (.arr sz (es.set i (over cs c [.slice .none qs]))) (g2.ρ r) (g2.ln r) (g2.tk r) (g2.own r) g2.S w none ⟨rfl,rfl,rfl,Ad _⟩ (fun _ _ _=>rfl) (fun b e=>by cases e) (fun _ _ h=>h) (fun _ _ h=>.inl h)
     (fun b o e=>by cases e) (fun b' _ e=>⟨(k1.loc r b' hl e).1,.inl ⟨hl,e⟩⟩) sS (fun _=>⟨rfl,Ad _,fun _=>rfl,fun _=>rfl⟩) (fun hg FW=>by
      obtain⟨u1,u2,u3,u4⟩:=Bi g2 r (g2.ρ r) (g2.ln r) (g2.tk r) (g2.own r) g2.S;refine⟨u3.trans sb,u2.trans (by rw[Bg];exact me),fun d hd=>?_,.inr ⟨b',HL,E',XK,by rw[u1,f1,Bg],u4.trans f2,by rw[Bg];exact f3,f4,f5,?_,f7⟩⟩
      .rcases CI hd with hd | rfl
       .exact lL d hd
       .rw[Eg];exact MQ
      .rw[hfl,Bg];refine⟨by rw[Eg];exact f6.1,f6.2.1,fun p av y q1 q2=>?_⟩;rw[Ef _ _ _ _ (by rw[BQ];simp only[Am,Aw];omega)]at q1;split at q1
       .rename_i hp;have l8:p=i*sz+c:=by simp only[Am,Aw]at hp;omega
        subst l8;rw[DB]at q1;cases q1
        have:y=x':=by
         rw[Bm f8]at q2;rw[<-Az,q2]at f9;cases f9;rfl
        rw[this];exact Dd.mono FW (fun _ h=>h) (fun _ h=>h.elim)
       .exact(f6.2.2 p av y q1 q2).mono FW (fun _ h=>h) (fun _ h=>h.elim))
    exact⟨_,_,⟨m1,hS.le.trans ((i2.trans k2).trans m2),hS.dfs,hS.size,fun i=>((hS.slots i).le (i2.trans k2)).le m2⟩,hk⟩
   .exact hk.elim
 .exact hk.elim
theorem dk{id:Nat}(hS:SR N ds w0 g0 h0 st g a w){K:(Nat->HO)->Prop}(hk:hJ cx id st.h K):∃h' g',SR N ds w0 g0 h0 ⟨st.t,h'⟩ g' a w/\K h':=by
 unfold hJ at hk;split at hk
 .exact hC hS hk
 .split at hk
  .exact gX hS hk
  .split at hk
   .exact gR hS hk
   .split at hk
    .exact gm hS hk
    .exact Yu hS hk
theorem eV(hS:SR N ds w0 g0 h0 st g a w){o k:Nat}{K:(Nat->HO)->Prop}(hk:mz st.h o k K):∃h' g',SR N ds w0 g0 h0 ⟨st.t,h'⟩ g' a w/\K h':=by
 have same:K st.h->∃h' g',SR N ds w0 g0 h0 ⟨st.t,h'⟩ g' a w/\K h':=fun hk=>⟨st.h,g,hS,hk⟩;unfold mz at hk;split at hk
 .rename_i cs e0;split at hk
  .rename_i r n e1;split at hk
   .rename_i sz es e2;obtain⟨rfl,hk⟩:=hk;have Dn:o≠r:=fun e=>by rw[e,e2]at e0;cases e0
    obtain⟨g1,i1,i2,i3,i4⟩:=QO hS.inv e2;have ho:=i1.objs o;rw[Bs _ _ _ _ Dn,e0]at ho;obtain⟨t1,b,E,vs,a1,a2,a3,a4,a5⟩:=ho;have hl:(AH st.h r (.tok sz es.length) o).live:=by rw[Bs _ _ _ _ Dn,e0];trivial
    have RJ:=Ol cs k _ _ e1;have Wy:=hS.inv.objs o;rw[e0]at Wy;obtain⟨_,b',E',XK,sq,qx,pr,qy,_⟩:=Wy
    obtain⟨k1,k2⟩:=i1.upd o (.cells (EF cs k (.slice (.id r sz) es))) (g1.ρ o) (g1.ln o) (g1.tk o) (g1.own o) g1.S w none ⟨rfl,rfl,rfl,Ad _⟩ (fun _ _ _=>rfl) (fun b e=>by cases e) (fun _ _ h=>h) (fun _ _ h=>.inl h)
     (fun b o e=>by cases e) (fun b' _ e=>⟨(i1.loc o b' hl e).1,.inl ⟨hl,e⟩⟩) sS (fun _=>⟨rfl,Ad _,fun _=>rfl,fun _=>rfl⟩) (fun hg FW=>by
      obtain⟨u1,u2,u3,u4⟩:=Bi g1 o (g1.ρ o) (g1.ln o) (g1.tk o) (g1.own o) g1.S;have IP:∀i,AD (AH st.h r (.tok sz es.length)) i->AD (AH (AH st.h r (.tok sz es.length)) o (.cells (EF cs k (.slice (.id r sz) es)))) i:=fun i hi=>CV sS i hi;refine⟨u3.trans t1,b,E,vs,u4.trans a1,u1.trans a2,a3,⟨by rw[H8];exact a4.1,a4.2.1,fun i av x q1 q2=>?_⟩,a5⟩;rcases H7 cs k _ i av q1 with ⟨rfl,rfl⟩ | q
      .have hx:=a4.2.2 i _ x RJ q2;have SH:x=g.ρ r:=by
        have PR:=i2.gh o (by unfold AD;rw[e0];simp);have Uq:vs=XK:=by
         have e3:g1.ρ o=g.ρ o:=PR.2.2.1 (by
          have:=(hS.inv.objs o);rw[e0]at this;exact this.1)
         rw[a2,qx]at e3;cases e3;rw[a3]at pr;cases pr;rfl
        subst Uq
        have:=qy.2.2 i _ x RJ q2
        cases this with
        |msl _ _ _ _ _ _ _ _ _ hz=>exact hz i4.symm
       rw[SH];exact i3.mono FW IP hg
      .exact(a4.2.2 i av x q q2).mono FW IP hg)
    exact⟨_,_,⟨k1,hS.le.trans (i2.trans k2),hS.dfs,hS.size,fun i=>((hS.slots i).le i2).le k2⟩,hk⟩
   .exact same hk
  .exact same hk
 .exact same hk
theorem eO{K:St->Prop}(hS:SR N ds w0 g0 h0 st g a w)(hk:mv cx o st K):∃Eb g',SR N ds w0 g0 h0 Eb g' a w/\K Eb:=by
 have same:K st->∃Eb g',SR N ds w0 g0 h0 Eb g' a w/\K Eb:=fun hk=>⟨st,g,hS,hk⟩;unfold mv at hk;split at hk
 .exact same hk
 .split at hk
  .exact same hk
  .rename_i s _;split at hk
   .rename_i r n ht;split at hk
    .rename_i sz es hr;obtain⟨hn,hk⟩:=hk;subst hn;have hI:=hS.inv;have ho:=hI.objs r;rw[hr]at ho;obtain⟨t1,l1,al,a2⟩:=ho;have hl:(st.h r).live:=by rw[hr];trivial
     have XJ:=hS.slots s;rw[ht]at XJ;have DM:a.tmps.getD s undef=g.ρ r:=by
      generalize a.tmps.getD s undef=x at XJ;cases XJ with
      |msl _ r n a cap hu ht hn ha hx=>exact hx l1.symm
     have fin:∀g',Do w0 g0 h0 (AH st.h r (.tok sz es.length)) g' w->Le st.h g w (AH st.h r (.tok sz es.length)) g' w->Bo g' w (AD (AH st.h r (.tok sz es.length))) (.slice (.id r sz) es) (g.ρ r) ->
       ∃Eb g',SR N ds w0 g0 h0 Eb g' a w/\K Eb:=fun g' i1 i2 i3=>by
      refine⟨_,g',⟨i1,hS.le.trans i2,hS.dfs,hS.size,fun i=>?_⟩,hk⟩;show Bo g' w (AD (AH st.h r (.tok sz es.length))) (Gz st.t s (.slice (.id r sz) es) i) _
      by_cases e:i=s
      .subst e
       have:Gz st.t i (.slice (.id r sz) es) i=.slice (.id r sz) es:=by unfold Gz;simp
       rw[this,DM];exact i3
      .have:Gz st.t s (.slice (.id r sz) es) i=st.t i:=by unfold Gz;simp[B4 e]
       rw[this];exact(hS.slots i).le i2
     rcases a2 with ⟨b1,b2,b3⟩ | ⟨b,cap,E,vs,b1,b2,b3,b4,b5,b6,b7⟩
     .subst b1
      obtain⟨k1,k2⟩:=hI.upd r (.tok sz 0) (g.ρ r) (g.ln r) (g.tk r) (g.own r) g.S w none ⟨rfl,rfl,rfl,Ad _⟩ (fun _ _ _=>rfl) (fun b e=>by cases e) (fun _ _ h=>h) (fun _ _ h=>.inl h)
       (fun b o e=>by cases e) (fun b' _ e=>⟨(hI.loc r b' hl e).1,.inl ⟨hl,e⟩⟩) sS (fun _=>⟨rfl,Ad _,fun _=>rfl,fun _=>rfl⟩) (fun hg hk=>by
        obtain⟨u1,u2,u3,u4⟩:=Bi g r (g.ρ r) (g.ln r) (g.tk r) (g.own r) g.S;exact⟨u3.trans t1,u2.trans l1,none,0,u1.trans b2,.inl ⟨rfl,u4.trans b3⟩⟩)
      refine fin _ k1 k2 ?_;rw[b2];exact .tok _ r sz [] _ (.snil _ _ _) sS (by unfold AD;rw[AM];simp) (by simp[Gh.upd,t1]) sS (fun _=>by simp[Gh.upd])
     .have Dc:=(hI.loc r b hl b2).1
      obtain⟨k1,k2⟩:=hI.upd r (.tok sz es.length) (g.ρ r) (g.ln r) (g.tk r) (g.own r) (g.more b (es.length*sz)) w none ⟨rfl,rfl,rfl,Ad _⟩ (fun _ _ _=>rfl) (fun b e=>by cases e) (fun _ _ h=>.inl h)
       (fun b' o hs=>hs.elim .inl (fun hs=>.inr ⟨by rw[hs.1];exact Dc,.inr ⟨hl,by rw[hs.1];exact b2⟩⟩)) (fun b o e=>by cases e) (fun b' _ e=>⟨(hI.loc r b' hl e).1,.inl ⟨hl,e⟩⟩) sS
       (fun _=>⟨rfl,Ad _,fun _=>rfl,fun _=>rfl⟩) (fun hg hk=>by
        obtain⟨u1,u2,u3,u4⟩:=Bi g r (g.ρ r) (g.ln r) (g.tk r) (g.own r) (g.more b (es.length*sz));exact⟨u3.trans t1,u2.trans l1,_,cap,u1.trans b1,.inr ⟨b3,b,E,vs,0,rfl,u4.trans b2,.of b4,by rw[b5,Bf],fun o ho=>by
         rcases ho with ho | ⟨_,ho⟩
         .exact absurd ho (b7 o)
         .omega⟩⟩)
      refine fin _ k1 k2 ?_;rw[b1];exact .tok _ r sz es _ (Bo.slice_row b4 al b3 (b6.mono k2.keeps (fun _ h=>h) (fun _ h=>h.elim)) (fun o ho=>.inr ⟨rfl,ho⟩)) al (by unfold AD;rw[AM];simp) (by simp[Gh.upd,t1]) (by simp[Gh.upd,l1]) (fun _=>by simp[Gh.upd])
    .exact same hk
   .exact same hk
variable {cx:Cx}(hP:cx.P=P)(hT:B7 P cx.T)(hY:∀l σ h g w,DI σ=true->Do w0 g0 h0 h g w->Le h0 g0 w0 h g w->cx.yp l σ (CP σ g) w){ro:Option Nat}{ops:Array Oper}
include hP hT hY
theorem Nr{dr:Bool}{o:Oper}(hd:∀i,o.dst=some i->i<N){K:St->Prop}{next:Act->World->Prop}{Q:Exit->Act->World->Prop}(hS:SR N ds w0 g0 h0 st g a w)(hk:Fl cx dr ops.toList o st K)
  (hn:∀Eb g' a' w',K Eb->SR N ds w0 g0 h0 Eb g' a' w'->next a' w'):if Region.wanted o (yielded ops a.tmps)then o.wpIn (J0 ro) 0 P a w next Q else next (a.put o.dst undef) w:=by
 have run:XP cx dr o st K->o.wpIn (J0 ro) 0 P a w next Q:=by
  intro hk;unfold XP at hk;split at hk
  .exact XQ hP hY hT hS hk fun v h' g' w' x q1 q2 q3 q4=>hn _ g' _ _ q1 (hS.put hd q2 q3 q4)
  .obtain⟨g1,qV⟩:=ai (cx:=cx) (o:=o) hS;obtain⟨Eb,g',LN,hk⟩:=eO qV hk;exact XQ hP hY hT LN hk fun v h' g' w' x q1 q2 q3 q4=>hn _ g' _ _ q1 (LN.put hd q2 q3 q4)
 have skip:K (st.put o.dst (.v undef) st.h)->next (a.put o.dst undef) w:=fun hk=>hn _ g _ _ hk (hS.put hd hS.inv (.refl _ _ _) (.v _ _))
 unfold Fl at hk;split at hk
 .rename_i hg;rw[Av (by simp[Region.wanted,hg])];exact run hk
 .rename_i j want hg;split at hk
  .exact hk.elim
  .rename_i d hj;have hy:∀x:Value,Bo g w (AD st.h) (st.t d) x->x=a.tmps.getD d undef->True:=fun _ _ _=>trivial;have hs:=hS.slots d;rw[Qc]at hj;have key:∀b:Bool,a.tmps.getD d undef=.bool b->yielded ops a.tmps j=some b:=by
    intro b hb;have Dc:d<a.tmps.size:=by
     apply Nat.lt_of_not_le;intro fS;rw[B9,Hx fS]at hb;cases hb
    simp only[yielded,hj,Option.bind_some];rw[B9,AY Dc]at hb;rw[AY Dc];simp only[BY]at hb;rw[hb]
   have oP:∀t,a.tmps.getD d undef=.tuple t->yielded ops a.tmps j=none:=by
    intro t hb;simp only[yielded,hj,Option.bind_some];cases he:a.tmps[d]? with
    |none=>rfl
    |some x=>
     rw[B9,he]at hb;simp only[BY]at hb;rw[hb]
   generalize hx:st.t d=x at hk hs;split at hk
   .have:=key true hs.v_eq
    rw[Av (by simp[Region.wanted,hg,this])];exact run hk
   .have:=key false hs.v_eq
    rw[Av (by simp[Region.wanted,hg,this])];exact run hk
   .have:=key true hs.v_eq
    rw[Aj (by simp[Region.wanted,hg,this])];exact skip hk
   .have:=key false hs.v_eq
    rw[Aj (by simp[Region.wanted,hg,this])];exact skip hk
   .have:=oP _ hs.v_eq
    rw[Aj (by simp[Region.wanted,hg,this])];exact skip hk
   .exact hk.elim
theorem QM{Q:Exit->Act->World->Prop}{K:St->Prop}(hQ:∀Eb g' a' w',K Eb->SR N ds w0 g0 h0 Eb g' a' w'->Q .normal a' w') :
  ∀(l:List Oper),(∀o∈l,∀i,o.dst=some i->i<N)->∀{st:St} {g:Gh} {a:Act} {w:World},SR N ds w0 g0 h0 st g a w->O0 cx ops.toList l st K->wpListIn (J0 ro) 0 P ops Q l a w
 | [],_,st,g,a,w,hS,hk=>hQ st g a w hk hS
 | [o],hd,st,g,a,w,hS,hk=>by
  have:=Nr hP hT hY (ro:=ro) (hd o (Ab ..)) (next:=wpListIn (J0 ro) 0 P ops Q []) (Q:=Q) hS hk fun Eb g' a' w' q1 q2=>hQ Eb g' a' w' q1 q2
  unfold wpListIn;split
  .rename_i hw;rw[Av hw]at this;exact this
  .rename_i hw;rw[Aj hw]at this;exact⟨fun _ _=>trivial,this⟩
 |o::o2::l,hd,st,g,a,w,hS,hk=>by
  cases hc:Oa o o2 with
  |true=>
   have hk:V9 cx o st fun Eb=>O0 cx ops.toList l Eb K:=by
    have Gp:(match Oa o o2 with
     |true=>V9 cx o st fun Eb=>O0 cx ops.toList l Eb K
     |false=>Fl cx false ops.toList o st fun Eb=>O0 cx ops.toList (o2::l) Eb K):=hk
    rw[hc]at Gp;exact Gp
   obtain⟨g1,g2,h1⟩:=bJ hT (ro:=ro) (o2:=o2) (hd o (Ab ..)) hc hS hk (next:=wpListIn (J0 ro) 0 P ops Q l) (Q:=Q) fun Eb g' a' w' q1 q2=>QM hQ l (fun o' dU=>hd o' (Ai _ (Ai _ dU))) q2 q1
   unfold wpListIn;rw[Av (by simp[Region.wanted,g1])];have e:(fun(a1:Act) (w1:World)=>o2.wpIn (J0 ro) 0 P a1 w1 (wpListIn (J0 ro) 0 P ops Q l) Q)=wpListIn (J0 ro) 0 P ops Q (o2::l):=by
    funext a1 w1
    unfold wpListIn;rw[Av (by simp[Region.wanted,g2])]
   rw[<-e];exact h1
  |false=>
   have hk:Fl cx false ops.toList o st fun Eb=>O0 cx ops.toList (o2::l) Eb K:=by
    have Gp:(match Oa o o2 with
     |true=>V9 cx o st fun Eb=>O0 cx ops.toList l Eb K
     |false=>Fl cx false ops.toList o st fun Eb=>O0 cx ops.toList (o2::l) Eb K):=hk
    rw[hc]at Gp;exact Gp
   have:=Nr hP hT hY (ro:=ro) (hd o (Ab ..)) (next:=wpListIn (J0 ro) 0 P ops Q (o2::l)) (Q:=Q) hS hk fun Eb g' a' w' q1 q2=>QM hQ (o2::l) (fun o' dU=>hd o' (Ai _ dU)) q2 q1
   unfold wpListIn;split
   .rename_i hw;rw[Av hw]at this;exact this
   .rename_i hw;rw[Aj hw]at this;exact⟨fun _ _=>trivial,this⟩
theorem QI{Q:Exit->Act->World->Prop}{K:St->Prop}{FT:Nat->D9}(hQ:∀Eb g' a' w',K Eb->SR N ds w0 g0 h0 Eb g' a' w'->Q .normal a' w')(hd:∀(j:Nat) (o:Oper),ops[j]?=some o->∀i,o.dst=some i->i<N) :
  ∀(fuel:Nat) (listed:Array Bool) {st:St} {g:Gh} {a:Act} {w:World},SR N ds w0 g0 h0 st g a w->RR cx ops FT K fuel listed st->wpAnyIn (J0 ro) 0 P .any ops Q fuel listed a w
 |0,_,st,g,a,w,hS,hk=>⟨hk.1,hQ st g a w hk.2 hS⟩
 |fuel+1,listed,st,g,a,w,hS,hk=>by
  refine⟨fun h0=>hQ st g a w (hk.1 h0) hS,fun i hi=>?_⟩;have h1:=hk.2 i hi;unfold jb at h1;unfold wpOpIn;cases ho:ops[i]? with
  |none=>rw[ho]at h1;exact QI hQ hd fuel _ hS h1
  |some o=>
   rw[ho]at h1
   have:=Nr hP hT hY (ro:=ro) (hd i o ho) (next:=wpAnyIn (J0 ro) 0 P .any ops Q fuel (listed.setIfInBounds i true)) (Q:=Q) hS h1.2 fun Eb g' a' w' q1 q2=>QI hQ hd fuel _ q2 q1
   dsimp only;split
   .rename_i hw;rw[Av hw]at this;exact this
   .rename_i hw;rw[Aj hw]at this;exact⟨fun _ _=>trivial,this⟩
end
end Go.Eng
