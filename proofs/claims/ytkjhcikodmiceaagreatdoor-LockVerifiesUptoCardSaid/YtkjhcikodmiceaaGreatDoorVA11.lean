/- Lemmas 11. -/
import Derived.Test.YtkjhcikodmiceaaGreatDoorVA10
import Derived.Deep.LoopGhost
namespace Go.Eng
variable {h:Nat->HO}{U:Nat->Prop}{cx:Cx}{av:AV}{cs:List AV}{i:Nat}{w:World}{o:Oper}{g:Gh}
section
variable {P:Program}{N:Nat}{ds:List Deferred}{w0:World}{g0:Gh}{h0 h:Nat->HO}{st:St}{g:Gh}{a:Act}{w:World}
theorem eY(hI:CT w0 g0 h0 h g w)(r:Nat):∃g',CT w0 g0 h0 (lG h r) g' w/\Le h g w (lG h r) g' w:=by
 unfold lG;split
 .rename_i cs e0;have ho:=hI.objs r;rw[e0]at ho;obtain⟨t1,b,E,vs,a1,a2,a3,a4,a5⟩:=ho;have hl:(h r).live:=by rw[e0];trivial
  have ET:=(hI.loc r b hl a1).1;have hs:=Qq hI a4
  obtain⟨k1,k2⟩:=hI.upd r (.ro (cs.map (str h))) (g.ρ r) (g.ln r) (g.tk r) none (g.more b cs.length) w none ⟨rfl,rfl,rfl,Ap _⟩ (fun _ _ _=>rfl) (fun b e=>by cases e) (fun _ _ h=>.inl h)
   (fun b' o hs=>hs.elim .inl (fun hs=>.inr ⟨by rw[hs.1];exact ET,.inr ⟨hl,by rw[hs.1];exact a1⟩⟩)) (fun b o e=>by cases e) (fun b hh _=>by cases hh) aa0
   (fun _=>⟨rfl,Ap _,fun _=>rfl,fun _=>rfl⟩) (fun hg hk=>by
    obtain⟨u1,u2,u3,u4⟩:=Bm g r (g.ρ r) (g.ln r) (g.tk r) none (g.more b cs.length);exact⟨u3.trans t1,b,u1.trans a2,Bc.cptr_row a3 (hs.mono hk (fun _ h=>h) (fun _ h=>h.elim)) (fun o ho=>.inr ⟨rfl,by simpa using ho⟩)⟩)
  exact⟨_,k1,k2⟩
 .rename_i sh BY e0;have ho:=hI.objs r;rw[e0]at ho;obtain⟨t1,b,es,ck,a1,a2,a3,a4,a5,a6⟩:=ho<;>grind [RY]
 .rename_i sh BY e0;have ho:=hI.objs r;rw[e0]at ho;obtain⟨t1,b,es,ck,a1,a2,a3,a4,a5,a6⟩:=ho<;>grind [Yf]
 grind [Le.refl]
theorem Nh:∀(l:List Nat) {h:Nat->HO} {g:Gh},CT w0 g0 h0 h g w->∃g',CT w0 g0 h0 (PF h l) g' w/\Le h g w (PF h l) g' w
 | [],_,g,hI=>⟨g,hI,.refl _ _ _⟩
 |r::l,_,_,hI=>
  let ⟨_,i1,i2⟩:=eY hI r
  let ⟨g2,j1,j2⟩:=Nh l i1
  ⟨g2,j1,i2.trans j2⟩
theorem KV:∀(cs:List AV) (k:Nat) (v:AV) (i:Nat) (av:AV),(EW cs k v)[i]?=some av->(i=k/\av=v)\/cs[i]?=some av
 | [],_,_,_,_,h=>by grind [EW]
 |c::cs,0,v,i,av,h=>by
  grind [EW]
 |c::cs,k+1,v,i,av,h=>by
  unfold EW at h;cases i with
  |zero=>simp_all
  |succ i=>
   rcases KV cs k v i av (by simpa using h)with ⟨e1,e2⟩ | e<;>simp_all
theorem KW:∀(cs:List AV) (k:Nat) (v:AV),(EW cs k v).length=cs.length
 | [],_,_=>rfl
 |_::_,0,_=>rfl
 |_::cs,k+1,v=>by unfold EW;simp[KW cs k v]
theorem aL:∀(cs:List AV) (k:Nat) (x:Value),JR cs k=.v x->cs[k]?=some (.v x)
 | [],_,_,h=>by grind [JR]
 |_::_,0,_,h=>by grind [JR]
 |_::cs,k+1,x,h=>by unfold JR at h;simpa using aL cs k x h
theorem vO(hI:CT w0 g0 h0 h g w)(r k j sz:Nat):∃g',CT w0 g0 h0 (tz1 h r k j sz) g' w/\Le h g w (tz1 h r k j sz) g' w:=by
 have same:∃g',CT w0 g0 h0 h g' w/\Le h g w h g' w:=⟨g,hI,.refl _ _ _⟩;unfold tz1;split
 .rename_i cs e0;split
  .rename_i e1;split
   .rename_i hj;have EG:r≠j:=fun e=>by simp_all
    obtain⟨g1,i1,i2,i3⟩:=OI hI (sz:=sz) (es:=[]) (a:=none) hj aa0 rfl (.snil _ _ _);have ho:=i1.objs r;rw[BT _ _ _ _ EG,e0]at ho;obtain⟨t1,b,E,vs,a1,a2,a3,a4,a5⟩:=ho;have hl:(AK h j (.tok sz 0) r).live:=by rw[BT _ _ _ _ EG,e0];trivial
    have ET:=(i1.loc r b hl a1).1;have WB:=aL cs k _ e1
    obtain⟨k1,k2⟩:=i1.upd r (.cells (EW cs k (.slice (.id j sz) []))) (g1.ρ r) (g1.ln r) (g1.tk r) (g1.own r) g1.S w none ⟨rfl,rfl,rfl,Ap _⟩ (fun _ _ _=>rfl) (fun b e=>by cases e) (fun _ _ h=>h) (fun _ _ h=>.inl h)
     (fun b o e=>by cases e) (fun b' _ e=>⟨(i1.loc r b' hl e).1,.inl ⟨hl,e⟩⟩) aa0 (fun _=>⟨rfl,Ap _,fun _=>rfl,fun _=>rfl⟩) (fun hg hk=>by
      obtain⟨u1,u2,u3,u4⟩:=Bm g1 r (g1.ρ r) (g1.ln r) (g1.tk r) (g1.own r) g1.S;have NN:∀i,AC (AK h j (.tok sz 0)) i->AC (AK (AK h j (.tok sz 0)) r (.cells (EW cs k (.slice (.id j sz) [])))) i:=fun i hi=>DG aa0 i hi;refine⟨u3.trans t1,b,E,vs,u4.trans a1,u1.trans a2,a3,⟨by rw[KW];exact a4.1,a4.2.1,fun i av x q1 q2=>?_⟩,a5⟩;rcases KV cs k _ i av q1 with ⟨rfl,rfl⟩ | q
      .have:=(a4.2.2 i _ x WB q2).v_eq
       subst this;exact i3.mono hk NN hg
      .exact(a4.2.2 i av x q q2).mono hk NN hg)
    exact⟨_,k1,i2.trans k2⟩
   omega
  omega
 omega
theorem nL(hS:SR N ds w0 g0 h0 st g a w):∃g',SR N ds w0 g0 h0 (nK cx o st) g' a w:=by
 unfold nK;split
 .grind
 .rename_i d _;split
  .obtain⟨g',h1,h2⟩:=vO hS.inv _ _ _ _;exact⟨g',h1,hS.le.trans h2,hS.dfs,hS.size,fun i=>(hS.slots i).le h2⟩
  split
  .grind
  .obtain⟨g',h1,h2⟩:=Nh (tj cx.pl.fz d) hS.inv;exact⟨g',h1,hS.le.trans h2,hS.dfs,hS.size,fun i=>(hS.slots i).le h2⟩
theorem UK:∀(cs:List AV) (k:Nat) (r n:Nat),JR cs k=.msl r n->cs[k]?=some (.msl r n)
 | [],_,_,_,h=>by grind [JR]
 |_::_,0,_,_,h=>by grind [JR]
 |_::cs,k+1,r,n,h=>by unfold JR at h;simpa using UK cs k r n h
theorem Xx(hI:CT w0 g0 h0 h g w){r sz:Nat}{es:C0}(hr:h r=.arr sz es) :
  ∃g',CT w0 g0 h0 (AK h r (.tok sz es.length)) g' w/\Le h g w (AK h r (.tok sz es.length)) g' w/\Bc g' w (AC (AK h r (.tok sz es.length))) (.slice (.id r sz) es) (g.ρ r)/\g.ln r=es.length:=by
 have ho:=hI.objs r;rw[hr]at ho;obtain⟨t1,l1,al,a2⟩:=ho;have hl:(h r).live:=by rw[hr];trivial
 rcases a2 with ⟨b1,b2,b3⟩ | ⟨b,cap,E,vs,b1,b2,b3,b4,b5,b6,b7⟩
 .subst b1
  obtain⟨k1,k2⟩:=hI.upd r (.tok sz 0) (g.ρ r) (g.ln r) (g.tk r) (g.own r) g.S w none ⟨rfl,rfl,rfl,Ap _⟩ (fun _ _ _=>rfl) (fun b e=>by cases e) (fun _ _ h=>h) (fun _ _ h=>.inl h)
   (fun b o e=>by cases e) (fun b' _ e=>⟨(hI.loc r b' hl e).1,.inl ⟨hl,e⟩⟩) aa0 (fun _=>⟨rfl,Ap _,fun _=>rfl,fun _=>rfl⟩) (fun hg hk=>by
    obtain⟨u1,u2,u3,u4⟩:=Bm g r (g.ρ r) (g.ln r) (g.tk r) (g.own r) g.S;exact⟨u3.trans t1,u2.trans l1,none,0,u1.trans b2,.inl ⟨rfl,u4.trans b3⟩⟩)
  refine⟨_,k1,k2,?_,l1⟩;rw[b2];exact .tok _ r sz [] _ (.snil _ _ _) aa0 (by unfold AC;rw[HY,A2];simp) (by simp[Gh.upd,t1]) aa0 (fun _=>by simp[Gh.upd])
 .have ET:=(hI.loc r b hl b2).1
  obtain⟨k1,k2⟩:=hI.upd r (.tok sz es.length) (g.ρ r) (g.ln r) (g.tk r) (g.own r) (g.more b (es.length*sz)) w none ⟨rfl,rfl,rfl,Ap _⟩ (fun _ _ _=>rfl) (fun b e=>by cases e) (fun _ _ h=>.inl h)
   (fun b' o hs=>hs.elim .inl (fun hs=>.inr ⟨by omega,.inr ⟨hl,by simp_all⟩⟩)) (fun b o e=>by cases e) (fun b' _ e=>⟨(hI.loc r b' hl e).1,.inl ⟨hl,e⟩⟩) aa0
   (fun _=>⟨rfl,Ap _,fun _=>rfl,fun _=>rfl⟩) (fun hg hk=>by
    obtain⟨u1,u2,u3,u4⟩:=Bm g r (g.ρ r) (g.ln r) (g.tk r) (g.own r) (g.more b (es.length*sz));exact⟨u3.trans t1,u2.trans l1,_,cap,u1.trans b1,.inr ⟨b3,b,E,vs,0,rfl,u4.trans b2,.of b4,by omega,fun o ho=>by
     rcases ho with ho | ⟨_,ho⟩<;>simp_all⟩⟩)
  refine⟨_,k1,k2,?_,l1⟩;rw[b1];exact .tok _ r sz es _ (Bc.slice_row b4 al b3 (b6.mono k2.keeps (fun _ h=>h) (fun _ h=>h.elim)) (fun o ho=>.inr ⟨rfl,ho⟩)) al (by grind [AC,A2]) (by grind [Gh.upd]) (by grind [Gh.upd]) (fun _=>by simp[Gh.upd])
theorem CT.move{w0:World}{g0:Gh}{h0 h:Nat->HO}{g:Gh}{w:World}(hI:CT w0 g0 h0 h g w)(r r2:Nat)(EG:r2≠r)(hf:h r2=.free)(hl:(h r).live){b:Nat}(ho:g.own r=some b)(o' : HO)(x:Value)(n:Nat)(t:Bool)(hn:o'≠.free)
  (Mb:Fa g w (g.upd r2 x n t (some b) g.S) w->DV (g.upd r2 x n t (some b) g.S) w (AC (AK (AK h r .dead) r2 o')) r2 o') :
  CT w0 g0 h0 (AK (AK h r .dead) r2 o') (g.upd r2 x n t (some b) g.S) w/\Le h g w (AK (AK h r .dead) r2 o') (g.upd r2 x n t (some b) g.S) w:=by
 have lR:Kn g (g.upd r2 x n t (some b) g.S) (AC h):=by
  intro i hi;have e:i≠r2:=fun e=>hi (by simp_all)
  grind [Gh.upd]
 have hK:Fa g w (g.upd r2 x n t (some b) g.S) w:=fun b o hb=>⟨hb,rfl,fun _ _ h=>h⟩;have NN:∀i,AC h i->AC (AK (AK h r .dead) r2 o') i:=fun i hi=>DG hn i (DG aa0 i hi);have key:∀i,i≠r2->(AK (AK h r .dead) r2 o' i).live->i≠r/\(h i).live:=fun i h2 hl=>by
  rw[BT _ _ _ _ h2]at hl
  by_cases e:i=r
  .subst e;rw[A2]at hl;exact hl.elim
  grind [BT]
 have own:∀i,i≠r2->(g.upd r2 x n t (some b) g.S).own i=g.own i:=fun i e=>by simp[Gh.upd,e]
 have nw:(g.upd r2 x n t (some b) g.S).own r2=some b:=by simp[Gh.upd]
 refine⟨⟨hI.os,hI.tape,hI.output,hI.size,hI.frame,hI.slt,fun i=>?_,fun i j c hi hj ei ej=>?_,fun i c hi ei=>?_,hI.sg,hI.glob.keep hK⟩,lR,NN,hK⟩
 .by_cases e:i=r2
  .grind [A2]
  .rw[BT _ _ _ _ e]
   by_cases e1:i=r
   .subst e1;rw[A2];trivial
   .rw[BT _ _ _ _ e1];exact(hI.objs i).same hK NN lR (by simp[Gh.upd,e]) (by simp[Gh.upd,e]) (by simp[Gh.upd,e]) (by simp_all) (fun b hl hb=>⟨rfl,fun k hk=>hk⟩)
 .grind [CT.inj]
 .by_cases e1:i=r2
  .subst e1;rw[nw]at ei;cases ei;exact hI.loc r _ hl ho
  .rw[own i e1]at ei;exact hI.loc i c (key i e1 hi).2 ei
theorem ti(hS:SR N ds w0 g0 h0 st g a w){s k:Nat}{K:St->Prop}(hk:asK st s k K):∃EF g',SR N ds w0 g0 h0 EF g' a w/\K EF:=by
 have same:K st->∃EF g',SR N ds w0 g0 h0 EF g' a w/\K EF:=fun hk=>⟨st,g,hS,hk⟩;unfold asK at hk;split at hk
 .rename_i r n ht;have Uh:=hS.slots s;rw[ht]at Uh;split at hk
  .rename_i sz es hr;have ho:=hS.inv.objs r;rw[hr]at ho;obtain⟨t1,l1,al,a2⟩:=ho;have hl:(st.h r).live:=by rw[hr];trivial
   have hval:n=es.length->a.tmps.getD s undef=g.ρ r:=fun hn=>by
    grind [cases Bc]
   have fin:∀(h' : Nat->HO) (v:AV) (g' : Gh),CT w0 g0 h0 h' g' w->Le st.h g w h' g' w->Bc g' w (AC h') v (a.tmps.getD s undef)->SR N ds w0 g0 h0 ⟨JY st.t s v,h'⟩ g' a w:=fun h' v g' i1 i2 i3=>by
    grind [JY,DH,SR.mk,Le.trans,SR.le,SR.dfs,SR.size,Bc.le,SR.slots]
   split at hk
   .obtain⟨hn,hk⟩:=hk;obtain⟨g1,i1,i2,i3,i4⟩:=Xx hS.inv hr
    obtain⟨k1,k2⟩:=i1.upd r .dead (g1.ρ r) (g1.ln r) (g1.tk r) (g1.own r) g1.S w none ⟨rfl,rfl,rfl,Ap _⟩ (fun _ _ _=>rfl) (fun b e=>by cases e) (fun _ _ h=>h) (fun _ _ h=>.inl h) (fun b o e=>by cases e) (fun b hh _=>by cases hh) aa0
     (fun _=>⟨rfl,Ap _,fun _=>rfl,fun _=>rfl⟩) (fun _ _=>trivial)
    exact⟨_,_,fin _ _ _ k1 (i2.trans k2) (by grind [Bc.le,Bc.up,Bc.slice_none]),hk⟩
   .rename_i k;split at hk
    .simp_all
    .rename_i hb;have EG:k+1≠r:=fun e=>by simp_all
     split at hk
     .rename_i hf;obtain⟨hn,hk⟩:=hk;rcases a2 with ⟨b1,b2,b3⟩ | ⟨b,cap,E,vs,b1,b2,b3,b4,b5,b6,b7⟩
      .subst b1;have hv:=hval hn
       obtain⟨k1,k2⟩:=hS.inv.upd r .dead (g.ρ r) (g.ln r) (g.tk r) (g.own r) g.S w none ⟨rfl,rfl,rfl,Ap _⟩ (fun _ _ _=>rfl) (fun b e=>by cases e) (fun _ _ h=>h) (fun _ _ h=>.inl h) (fun b o e=>by cases e) (fun b hh _=>by cases hh) aa0
        (fun _=>⟨rfl,Ap _,fun _=>rfl,fun _=>rfl⟩) (fun _ _=>trivial)
       have hf1:AK st.h r .dead (k+1)=.free:=by grind [BT]
       obtain⟨m1,m2⟩:=k1.upd (k+1) (.arr sz []) (.slice none 0 0) 0 true none (g.upd r (g.ρ r) (g.ln r) (g.tk r) (g.own r) g.S).S w none ⟨rfl,rfl,rfl,Ap _⟩ (fun _ _ _=>rfl) (fun b e=>by cases e) (fun _ _ h=>h) (fun _ _ h=>.inl h) (fun b o e=>by cases e) (fun b _ e=>by cases e) aa0
        (fun hu=>absurd hf1 hu) (fun _ _=>by
         obtain⟨u1,u2,u3,u4⟩:=Bm (g.upd r (g.ρ r) (g.ln r) (g.tk r) (g.own r) g.S) (k+1) (.slice none 0 0) 0 true none (g.upd r (g.ρ r) (g.ln r) (g.tk r) (g.own r) g.S).S;exact⟨u3,u2,by simp,.inl ⟨rfl,u1,u4⟩⟩)
       refine⟨_,_,fin _ _ _ m1 (k2.trans m2) ?_,hk⟩;rw[hv,b2,hn];exact .msl _ (k+1) 0 none 0 (by grind [AC,A2]) (by simp[Gh.upd]) (Al _) (.inl rfl) (fun _=>by simp[Gh.upd])
      .have hv:=hval hn;obtain⟨m1,m2⟩:=hS.inv.move r (k+1) EG hf hl b2 (.arr sz es) (g.ρ r) es.length true aa0 (fun IS=>by
        obtain⟨u1,u2,u3,u4⟩:=Bm g (k+1) (g.ρ r) es.length true (some b) g.S;exact⟨u3,u2,al,.inr ⟨b,cap,E,vs,u1.trans b1,u4,b3,b4,b5,b6.mono IS (fun _ h=>h) (fun _ h=>h.elim),b7⟩⟩)
       refine⟨_,_,fin _ _ _ m1 m2 ?_,hk⟩;rw[hv,b1,hn];exact .msl _ (k+1) es.length _ cap (by grind [AC,A2]) (by simp[Gh.upd]) (by simp[Gh.upd]) (.inr ⟨b,rfl⟩) (fun _=>by simp[Gh.upd])
     simp_all
  simp_all
 simp_all
theorem th(hS:SR N ds w0 g0 h0 st g a w){o k j:Nat}{K:(Nat->HO)->Prop}(hk:amK st.h o k j K):∃h' g',SR N ds w0 g0 h0 ⟨st.t,h'⟩ g' a w/\K h':=by
 unfold amK at hk;split at hk
 .rename_i cs e0;split at hk
  .rename_i r n e1;split at hk
   .rename_i sz es e2;split at hk
    .rename_i hf;obtain⟨hn,hk⟩:=hk;have ho:=hS.inv.objs r;rw[e2]at ho;obtain⟨t1,l1,al,a2⟩:=ho;have hl:(st.h r).live:=by rw[e2];trivial
     have EG:j≠r:=fun e=>by simp_all
     have ww:o≠r:=fun e=>by simp_all
     have uD:o≠j:=fun e=>by simp_all
     -- the array goes to the new id,which stands for the same slice
     have step:∃g1,CT w0 g0 h0 (AK (AK st.h r .dead) j (.arr sz es)) g1 w/\Le st.h g w (AK (AK st.h r .dead) j (.arr sz es)) g1 w/\g1.tk j=true/\g1.ln j=es.length/\g1.ρ j=g.ρ r:=by
      rcases a2 with ⟨b1,b2,b3⟩ | ⟨b,cap,E,vs,b1,b2,b3,b4,b5,b6,b7⟩
      .subst b1
       obtain⟨k1,k2⟩:=hS.inv.upd r .dead (g.ρ r) (g.ln r) (g.tk r) (g.own r) g.S w none ⟨rfl,rfl,rfl,Ap _⟩ (fun _ _ _=>rfl) (fun b e=>by cases e) (fun _ _ h=>h) (fun _ _ h=>.inl h) (fun b o e=>by cases e) (fun b hh _=>by cases hh) aa0
        (fun _=>⟨rfl,Ap _,fun _=>rfl,fun _=>rfl⟩) (fun _ _=>trivial)
       have hf1:AK st.h r .dead j=.free:=by grind [BT]
       obtain⟨m1,m2⟩:=k1.upd j (.arr sz []) (.slice none 0 0) 0 true none (g.upd r (g.ρ r) (g.ln r) (g.tk r) (g.own r) g.S).S w none ⟨rfl,rfl,rfl,Ap _⟩ (fun _ _ _=>rfl) (fun b e=>by cases e) (fun _ _ h=>h) (fun _ _ h=>.inl h) (fun b o e=>by cases e) (fun b _ e=>by cases e) aa0
        (fun hu=>absurd hf1 hu) (fun _ _=>by
         obtain⟨u1,u2,u3,u4⟩:=Bm (g.upd r (g.ρ r) (g.ln r) (g.tk r) (g.own r) g.S) j (.slice none 0 0) 0 true none (g.upd r (g.ρ r) (g.ln r) (g.tk r) (g.own r) g.S).S;exact⟨u3,u2,by simp,.inl ⟨rfl,u1,u4⟩⟩)
       exact⟨_,m1,k2.trans m2,by simp[Gh.upd],by simp[Gh.upd],by simp[Gh.upd,b2]⟩
      .obtain⟨m1,m2⟩:=hS.inv.move r j EG hf hl b2 (.arr sz es) (g.ρ r) es.length true aa0 (fun IS=>by
        obtain⟨u1,u2,u3,u4⟩:=Bm g j (g.ρ r) es.length true (some b) g.S;exact⟨u3,u2,al,.inr ⟨b,cap,E,vs,u1.trans b1,u4,b3,b4,b5,b6.mono IS (fun _ h=>h) (fun _ h=>h.elim),b7⟩⟩)
       exact⟨_,m1,m2,by simp[Gh.upd],by simp[Gh.upd],by simp[Gh.upd]⟩
     obtain⟨g1,i1,i2,j1,j2,j3⟩:=step
     -- the cell
     have ho:=hS.inv.objs o;rw[e0]at ho;have ho1:=i1.objs o;rw[BT _ _ _ _ uD,BT _ _ _ _ ww,e0]at ho1;obtain⟨t2,b,E,vs,c1,c2,c3,c4,c5⟩:=ho1;obtain⟨_,b',E',km,pn,c2',c3',c4',_⟩:=ho;have hb:b'=b:=by
      have h2:=i2.gh o (by grind [AC]);simp_all
     subst hb;rw[c3]at c3';cases c3';have iG:(AK (AK st.h r .dead) j (.arr sz es) o).live:=by rw[BT _ _ _ _ uD,BT _ _ _ _ ww,e0];trivial
     have WB:=UK cs k _ _ e1
     obtain⟨k1,k2⟩:=i1.upd o (.cells (EW cs k (.msl j n))) (g1.ρ o) (g1.ln o) (g1.tk o) (g1.own o) g1.S w none ⟨rfl,rfl,rfl,Ap _⟩ (fun _ _ _=>rfl) (fun b e=>by cases e) (fun _ _ h=>h) (fun _ _ h=>.inl h)
      (fun b o e=>by cases e) (fun b' _ e=>⟨(i1.loc o b' iG e).1,.inl ⟨iG,e⟩⟩) aa0 (fun _=>⟨rfl,Ap _,fun _=>rfl,fun _=>rfl⟩) (fun hg bE=>by
       obtain⟨u1,u2,u3,u4⟩:=Bm g1 o (g1.ρ o) (g1.ln o) (g1.tk o) (g1.own o) g1.S;have NN:∀i,AC (AK (AK st.h r .dead) j (.arr sz es)) i->AC (AK (AK (AK st.h r .dead) j (.arr sz es)) o (.cells (EW cs k (.msl j n)))) i:=fun i hi=>DG aa0 i hi;refine⟨u3.trans t2,_,E,vs,u4.trans c1,u1.trans c2,c3,⟨by rw[KW];exact c4.1,c4.2.1,fun i av x q1 q2=>?_⟩,c5⟩;rcases KV cs k _ i av q1 with ⟨rfl,rfl⟩ | q
       .have hx:=c4'.2.2 i _ x WB q2;have hm:Bc g1 w (AC (AK (AK st.h r .dead) j (.arr sz es))) (.msl j n) x:=by
         grind [AC,A2,cases Bc,Bc.msl]
        grind [Bc.mono]
       .exact(c4.2.2 i av x q q2).mono bE NN hg)
     exact⟨_,_,⟨k1,hS.le.trans (i2.trans k2),hS.dfs,hS.size,fun i=>(hS.slots i).le (i2.trans k2)⟩,hk⟩
    .exact hk.elim
   simp_all
  simp_all
 .exact hk.elim
theorem Ph{h:Nat->HO}(hI:CT w0 g0 h0 h g w){o k:Nat}{cs:List AV}(e0:h o=.cells cs){old new:AV}(hk:cs[k]?=some old)(El:∀x:Value,Bc g w (AC h) old x->Bc g w (AC h) new x) :
  ∃g',CT w0 g0 h0 (AK h o (.cells (EW cs k new))) g' w/\Le h g w (AK h o (.cells (EW cs k new))) g' w:=by
 have ho:=hI.objs o;rw[e0]at ho;obtain⟨t1,b,E,vs,a1,a2,a3,a4,a5⟩:=ho;have hl:(h o).live:=by rw[e0];trivial
 obtain⟨k1,k2⟩:=hI.upd o (.cells (EW cs k new)) (g.ρ o) (g.ln o) (g.tk o) (g.own o) g.S w none ⟨rfl,rfl,rfl,Ap _⟩ (fun _ _ _=>rfl) (fun b e=>by cases e) (fun _ _ h=>h) (fun _ _ h=>.inl h)
  (fun b o e=>by cases e) (fun b' _ e=>⟨(hI.loc o b' hl e).1,.inl ⟨hl,e⟩⟩) aa0 (fun _=>⟨rfl,Ap _,fun _=>rfl,fun _=>rfl⟩) (fun hg bE=>by
   obtain⟨u1,u2,u3,u4⟩:=Bm g o (g.ρ o) (g.ln o) (g.tk o) (g.own o) g.S;have NN:∀i,AC h i->AC (AK h o (.cells (EW cs k new))) i:=fun i hi=>DG aa0 i hi;refine⟨u3.trans t1,b,E,vs,u4.trans a1,u1.trans a2,a3,⟨by rw[KW];exact a4.1,a4.2.1,fun i av x q1 q2=>?_⟩,a5⟩;rcases KV cs k _ i av q1 with ⟨rfl,rfl⟩ | q
   .exact(El x (a4.2.2 i _ x hk q2)).mono bE NN hg
   .exact(a4.2.2 i av x q q2).mono bE NN hg)
 exact⟨_,k1,k2⟩
theorem JB:∀(cs:List AV) (k:Nat) (a:AV),JR cs k=a->a≠.junk->cs[k]?=some a
 | [],_,a,h,hn=>by grind [JR]
 |_::_,0,_,h,_=>by grind [JR]
 |_::cs,k+1,a,h,hn=>by unfold JR at h;simpa using JB cs k a h hn
theorem CT.moveV{h:Nat->HO}(hI:CT w0 g0 h0 h g w)(r r2 v:Nat)(EG:r2≠r)(hf:h r2=.vox v)(hl:(h r).live)(o' : HO)(x:Value)(n:Nat)(hv:v<n)(hn:o'≠.free)
  (Mb:Fa g w (g.upd r2 x n true (g.own r) g.S) w->DV (g.upd r2 x n true (g.own r) g.S) w (AC (AK (AK h r .dead) r2 o')) r2 o') :
  CT w0 g0 h0 (AK (AK h r .dead) r2 o') (g.upd r2 x n true (g.own r) g.S) w/\Le h g w (AK (AK h r .dead) r2 o') (g.upd r2 x n true (g.own r) g.S) w:=by
 have cS:=hI.objs r2;rw[hf]at cS;obtain⟨ht2,iG⟩:=cS;have lR:Kn g (g.upd r2 x n true (g.own r) g.S) (AC h):=by
  intro i hi
  grind [Gh.upd]
 have hK:Fa g w (g.upd r2 x n true (g.own r) g.S) w:=fun b o hb=>⟨hb,rfl,fun _ _ h=>h⟩;have NN:∀i,AC h i->AC (AK (AK h r .dead) r2 o') i:=fun i hi=>DG hn i (DG aa0 i hi);have key:∀i,i≠r2->(AK (AK h r .dead) r2 o' i).live->i≠r/\(h i).live:=fun i h2 hl=>by
  rw[BT _ _ _ _ h2]at hl
  by_cases e:i=r
  .subst e;rw[A2]at hl;exact hl.elim
  grind [BT]
 have own:∀i,i≠r2->(g.upd r2 x n true (g.own r) g.S).own i=g.own i:=fun i e=>by simp[Gh.upd,e]
 have nw:(g.upd r2 x n true (g.own r) g.S).own r2=g.own r:=by simp[Gh.upd]
 refine⟨⟨hI.os,hI.tape,hI.output,hI.size,hI.frame,hI.slt,fun i=>?_,fun i j c hi hj ei ej=>?_,fun i c hi ei=>?_,hI.sg,hI.glob.keep hK⟩,lR,NN,hK⟩
 .by_cases e:i=r2
  .grind [A2]
  .rw[BT _ _ _ _ e]
   by_cases e1:i=r
   .subst e1;rw[A2];trivial
   .rw[BT _ _ _ _ e1];exact(hI.objs i).same hK NN lR (by simp[Gh.upd,e]) (by simp[Gh.upd,e]) (by simp[Gh.upd,e]) (by simp_all) (fun b hl hb=>⟨rfl,fun k hk=>hk⟩)
 .grind [CT.inj]
 .by_cases e1:i=r2
  .subst e1;rw[nw]at ei;exact hI.loc r _ hl ei
  .rw[own i e1]at ei;exact hI.loc i c (key i e1 hi).2 ei
theorem vP(hS:SR N ds w0 g0 h0 st g a w){o k d:Nat}{K:(Nat->HO)->Prop}(hk:uvK st.h o k d K):∃h' g',SR N ds w0 g0 h0 ⟨st.t,h'⟩ g' a w/\K h':=by
 unfold uvK at hk;split at hk
 .rename_i cs e0;split at hk
  .rename_i r sz v es e1;split at hk
   .rename_i HS v' n e2;split at hk
    .rename_i hf;obtain⟨⟨rfl,rfl⟩,hk⟩:=hk;have ho:=hS.inv.objs r;rw[e2]at ho;obtain⟨t1,l1,a0,cap,r1,a2⟩:=ho;have hl:(st.h r).live:=by rw[e2];trivial
     have EG:d≠r:=fun e=>by simp_all
     have ww:o≠r:=fun e=>by simp_all
     have hod:o≠d:=fun e=>by simp_all
     have WB:=JB cs k _ e1 aa0
     -- the value that stands in the cell
     have hoc:=hS.inv.objs o;rw[e0]at hoc;obtain⟨_,b',E',km,c1,c2,c3,c4,_⟩:=hoc;obtain⟨x,hx1,_,y8⟩:=c4.at WB;have mD:x=.slice a0 n cap/\es.length=n/\Bc g w FN (.slice .none es) x/\∀c∈es,c.length=sz:=by
      grind [Bc.slice_none,cases Bc]
     obtain⟨hxe,hn,hx3,qt⟩:=mD;subst hn;obtain⟨m1,m2⟩:=hS.inv.moveO r d EG hf hl (ob:=g.own r) (fun c h=>h) (.tok sz es.length) (.slice a0 es.length cap) es.length true aa0 (fun IS=>by
      obtain⟨u1,u2,u3,u4⟩:=Bm g d (.slice a0 es.length cap) es.length true (g.own r) g.S;refine⟨u3,u2,a0,cap,u1,?_⟩;rw[u4];exact a2)
     generalize fp:g.upd d (.slice a0 es.length cap) es.length true (g.own r) g.S=g1 at m1 m2;have gr:g1.tk r=true/\g1.ln r=v:=by grind [Gh.upd]
     have gd:g1.tk d=true/\g1.ln d=es.length/\g1.ρ d=.slice a0 es.length cap:=by grind [Gh.upd]
     -- the id keeps its version
     have hrd:(AK (AK st.h r .dead) d (.tok sz es.length)) r=.dead:=by grind [BT,A2]
     obtain⟨n1,n2⟩:=m1.upd r (.vox v) (g1.ρ r) (g1.ln r) (g1.tk r) (g1.own r) g1.S w none ⟨rfl,rfl,rfl,Ap _⟩ (fun _ _ _=>rfl) (fun b e=>by cases e) (fun _ _ h=>h) (fun _ _ h=>.inl h) (fun b o e=>by cases e) (fun b hh _=>by cases hh) aa0
      (fun _=>⟨rfl,Ap _,fun _=>rfl,fun _=>rfl⟩) (fun _ _=>by
       obtain⟨u1,u2,u3,u4⟩:=Bm g1 r (g1.ρ r) (g1.ln r) (g1.tk r) (g1.own r) g1.S;exact⟨u3.trans gr.1,u2.trans gr.2⟩)
     have hh:AK (AK (AK st.h r .dead) d (.tok sz es.length)) r (.vox v)=AK (AK st.h r (.vox v)) d (.tok sz es.length):=by
      grind [AK,DH]
     rw[hh]at n1 n2;generalize ux:g1.upd r (g1.ρ r) (g1.ln r) (g1.tk r) (g1.own r) g1.S=g2 at n1 n2;have gd2:g2.tk d=true/\g2.ln d=es.length/\g2.ρ d=.slice a0 es.length cap:=by grind [Gh.upd]
     have ub : (AK (AK st.h r (.vox v)) d (.tok sz es.length)) o=.cells cs:=by grind [BT]
     have L2:=m2.trans n2;have AiD:g2.ρ o=g.ρ o:=(L2.gh o (by grind [AC])).2.2.1 (by assumption);obtain⟨g3,p1,p2⟩:=Ph n1 ub WB (new:=.slice (.id d sz) es) (fun y hy=>by
      grind [Gh.upd,AC,A2,cases Bc,Bc.tok])
     exact⟨_,g3,⟨p1,hS.le.trans (L2.trans p2),hS.dfs,hS.size,fun i=>(hS.slots i).le (L2.trans p2)⟩,hk⟩
    simp_all
   simp_all
  .exact⟨_,g,hS,hk⟩
 simp_all
theorem nZ(hS:SR N ds w0 g0 h0 st g a w){o k r:Nat}{K:(Nat->HO)->Prop}(hk:rvK st.h o k r K):∃h' g',SR N ds w0 g0 h0 ⟨st.t,h'⟩ g' a w/\K h':=by
 unfold rvK at hk;split at hk
 .rename_i cs e0;split at hk
  .rename_i d sz es e1;split at hk
   .rename_i HS n e2;split at hk
    .rename_i v hf;obtain⟨⟨hn,rfl⟩,hk⟩:=hk;subst hn;have ho:=hS.inv.objs d;rw[e2]at ho;obtain⟨t1,l1,a0,cap,r1,a2⟩:=ho;have hl:(st.h d).live:=by rw[e2];trivial
     have EG:r≠d:=fun e=>by simp_all
     have hod:o≠d:=fun e=>by simp_all
     have ww:o≠r:=fun e=>by simp_all
     have WB:=JB cs k _ e1 aa0;obtain⟨m1,m2⟩:=hS.inv.moveV d r v EG hf hl (.var sz (v+1) es.length) (.slice a0 es.length cap) (v+1) (Nat.lt_succ_self v) aa0 (fun IS=>by
      obtain⟨u1,u2,u3,u4⟩:=Bm g r (.slice a0 es.length cap) (v+1) true (g.own d) g.S;refine⟨u3,u2,a0,cap,u1,?_⟩;rw[u4];exact a2)
     generalize fp:g.upd r (.slice a0 es.length cap) (v+1) true (g.own d) g.S=g1 at m1 m2;have gr:g1.tk r=true/\g1.ln r=v+1/\g1.ρ r=.slice a0 es.length cap:=by grind [Gh.upd]
     have gd:g1.ln d=es.length/\g1.ρ d=.slice a0 es.length cap:=by grind [Gh.upd]
     have ub : (AK (AK st.h d .dead) r (.var sz (v+1) es.length)) o=.cells cs:=by grind [BT]
     obtain⟨g3,p1,p2⟩:=Ph m1 ub WB (new:=.slice (.ver r sz (v+1)) es) (fun y hy=>by
      grind [AC,A2,cases Bc,Bc.ver])
     exact⟨_,g3,⟨p1,hS.le.trans (m2.trans p2),hS.dfs,hS.size,fun i=>(hS.slots i).le (m2.trans p2)⟩,hk⟩
    simp_all
   simp_all
  .exact⟨_,g,hS,hk⟩
 simp_all
theorem vo(hS:SR N ds w0 g0 h0 st g a w){r:Nat}{K:(Nat->HO)->Prop}(hk:nvK st.h r K):∃h' g',SR N ds w0 g0 h0 ⟨st.t,h'⟩ g' a w/\K h':=by
 unfold nvK at hk;split at hk
 .rename_i hf
  obtain⟨m1,m2⟩:=hS.inv.upd r (.vox 0) (.slice none 0 0) 0 true none g.S w none ⟨rfl,rfl,rfl,Ap _⟩ (fun _ _ _=>rfl) (fun b e=>by cases e) (fun _ _ h=>h) (fun _ _ h=>.inl h) (fun b o e=>by cases e) (fun b hh _=>by cases hh) aa0
   (fun hu=>absurd hf hu) (fun _ _=>by
    obtain⟨u1,u2,u3,u4⟩:=Bm g r (.slice none 0 0) 0 true none g.S;exact⟨u3,u2⟩)
  exact⟨_,_,⟨m1,hS.le.trans m2,hS.dfs,hS.size,fun i=>(hS.slots i).le m2⟩,hk⟩
 simp_all
theorem nU(hS:SR N ds w0 g0 h0 st g a w){o k:Nat}{K:(Nat->HO)->Prop}(hk:rmK st.h o k K):∃h' g',SR N ds w0 g0 h0 ⟨st.t,h'⟩ g' a w/\K h':=by
 unfold rmK at hk;split at hk
 .rename_i cs e0;split at hk
  .rename_i r e1;split at hk
   .rename_i sh BY e2;have WB:=JB cs k _ e1 aa0;obtain⟨g3,p1,p2⟩:=Ph hS.inv e0 WB (new:=.cmap sh BY) (fun y hy=>by
     have e3:rsv st.h (.mref r)=.cmap sh BY:=by
      show(match st.h r with | .rom sh BY=>AV.cmap sh BY | _=>.mref r)=_;rw[e2]
     rw[<-e3];exact Bc.rsv hS.inv.objs hy)
    exact⟨_,g3,⟨p1,hS.le.trans p2,hS.dfs,hS.size,fun i=>(hS.slots i).le p2⟩,hk⟩
   simp_all
  simp_all
 simp_all
theorem vX(hS:SR N ds w0 g0 h0 st g a w){o k j sz:Nat}{K:(Nat->HO)->Prop}(hk:zaK st.h o k j sz K):∃h' g',SR N ds w0 g0 h0 ⟨st.t,h'⟩ g' a w/\K h':=by
 unfold zaK at hk;split at hk
 .rename_i cs e0;split at hk
  .rename_i e1;split at hk
   .rename_i hf;have ww:o≠j:=fun e=>by simp_all
    have WB:=JB cs k _ e1 aa0
    obtain⟨m1,m2⟩:=hS.inv.upd j (.arr sz []) (.slice none 0 0) 0 true none g.S w none ⟨rfl,rfl,rfl,Ap _⟩ (fun _ _ _=>rfl) (fun b e=>by cases e) (fun _ _ h=>h) (fun _ _ h=>.inl h) (fun b o e=>by cases e) (fun b hh e=>by simp_all) aa0
     (fun hu=>absurd hf hu) (fun _ _=>by
      obtain⟨u1,u2,u3,u4⟩:=Bm g j (.slice none 0 0) 0 true none g.S;exact⟨u3,u2,(fun cs hc=>by cases hc),.inl ⟨rfl,u1,u4⟩⟩)
    generalize fp:g.upd j (.slice none 0 0) 0 true none g.S=g1 at m1 m2;have gr:g1.tk j=true/\g1.ln j=0/\g1.ρ j=.slice none 0 0:=by grind [Gh.upd]
    have ub : (AK st.h j (.arr sz [])) o=.cells cs:=by grind [BT]
    obtain⟨g3,p1,p2⟩:=Ph m1 ub WB (new:=.msl j 0) (fun y hy=>by
     grind [AC,A2,cases Bc,Bc.msl])
    exact⟨_,g3,⟨p1,hS.le.trans (m2.trans p2),hS.dfs,hS.size,fun i=>(hS.slots i).le (m2.trans p2)⟩,hk⟩
   simp_all
  simp_all
 simp_all
theorem kV{id:Nat}(hS:SR N ds w0 g0 h0 st g a w){K:(Nat->HO)->Prop}(hk:fz0 cx id st.h fun h=>rm0 cx id h fun h=>zx cx id h fun h=>wH cx id h K):∃h' g',SR N ds w0 g0 h0 ⟨st.t,h'⟩ g' a w/\K h':=by
 have h1:∃h' g',SR N ds w0 g0 h0 ⟨st.t,h'⟩ g' a w/\rm0 cx id h' fun h=>zx cx id h fun h=>wH cx id h K:=by
  unfold fz0 at hk;split at hk
  .obtain⟨g',i1,i2⟩:=eY hS.inv _;exact⟨_,g',⟨i1,hS.le.trans i2,hS.dfs,hS.size,fun i=>(hS.slots i).le i2⟩,hk⟩
  .exact⟨_,g,hS,hk⟩
 obtain⟨h1,g1,S1,hk⟩:=h1;have h2:∃h' g',SR N ds w0 g0 h0 ⟨st.t,h'⟩ g' a w/\zx cx id h' fun h=>wH cx id h K:=by
  unfold rm0 at hk;split at hk
  .exact nU S1 hk
  grind
 obtain⟨h2,g2,S2,hk⟩:=h2;have h3:∃h' g',SR N ds w0 g0 h0 ⟨st.t,h'⟩ g' a w/\wH cx id h' K:=by
  unfold zx at hk;split at hk
  .exact nU S2 hk
  grind
 obtain⟨h3,g3,S3,hk⟩:=h3;unfold wH at hk;split at hk
 .exact vX S3 hk
 grind
theorem uC(hS:SR N ds w0 g0 h0 st g a w){r:Nat}{K:(Nat->HO)->Prop}(hk:hoK st.h r K):∃h' g',SR N ds w0 g0 h0 ⟨st.t,h'⟩ g' a w/\K h':=by
 unfold hoK at hk;split at hk
 .rename_i sz es i c j m er;split at hk
  .simp_all
  .rename_i hb;have EG:r≠j:=fun e=>by simp_all
   split at hk
   .rename_i gm qs ej;obtain⟨hm,cs,hi,hc,hk⟩:=hk;have ho:=hS.inv.objs r;rw[er]at ho;obtain⟨t1,l1,al,b,cap,E,vs,e1,e2,e3,e4,e5,e6,e7,e8,x,e9,Wr⟩:=ho;obtain⟨g1,i1,i2,i3,i4⟩:=Xx hS.inv ej;have mB:x=g.ρ j:=by
     grind [cases Bc]
    obtain⟨k1,k2⟩:=i1.upd j .dead (g1.ρ j) (g1.ln j) (g1.tk j) (g1.own j) g1.S w none ⟨rfl,rfl,rfl,Ap _⟩ (fun _ _ _=>rfl) (fun b e=>by cases e) (fun _ _ h=>h) (fun _ _ h=>.inl h) (fun b o e=>by cases e) (fun b hh _=>by cases hh) aa0
     (fun _=>⟨rfl,Ap _,fun _=>rfl,fun _=>rfl⟩) (fun _ _=>trivial)
    generalize ux:g1.upd j (g1.ρ j) (g1.ln j) (g1.tk j) (g1.own j) g1.S=g2 at k1 k2;have El:Bc g2 w FN (.slice .none qs) x:=by rw[mB];exact i3.slice_none.mono k2.keeps (fun _ h=>h) (fun _ h=>h.elim)
    have er2:AK (AK st.h j (.tok gm qs.length)) j .dead r=.hol sz es i c (.msl j m):=by grind [BT]
    have ho2:=k1.objs r;rw[er2]at ho2;obtain⟨t1',l1',al',b',NL,E',km,f1,f2,f3,f4,f5,f6,f7,f8,x',f9,f10⟩:=ho2;have hl:(AK (AK st.h j (.tok gm qs.length)) j .dead r).live:=by rw[er2];trivial
    have hρ:g2.ρ r=g.ρ r:=by
     have q1:=(i2.trans k2).gh r (by grind [AC]);simp_all
    have fy:km=vs:=by
     simp_all
    subst fy;have hxx:x'=x:=by simp_all
    subst hxx;have ET:=(Bf.1 hi).1;have hcl:=al' cs (Az hi);have hfl:=Mt al' hi c [AV.slice .none qs] (by grind);have CL:es.flatten.length=es.length*sz:=Dq al'
    obtain⟨m1,m2⟩:=k1.upd r (.arr sz (es.set i (over cs c [.slice .none qs]))) (g2.ρ r) (g2.ln r) (g2.tk r) (g2.own r) g2.S w none ⟨rfl,rfl,rfl,Ap _⟩ (fun _ _ _=>rfl) (fun b e=>by cases e) (fun _ _ h=>h) (fun _ _ h=>.inl h)
     (fun b o e=>by cases e) (fun b' _ e=>⟨(k1.loc r b' hl e).1,.inl ⟨hl,e⟩⟩) aa0 (fun _=>⟨rfl,Ap _,fun _=>rfl,fun _=>rfl⟩) (fun hg IS=>by
      obtain⟨u1,u2,u3,u4⟩:=Bm g2 r (g2.ρ r) (g2.ln r) (g2.tk r) (g2.own r) g2.S;refine⟨u3.trans t1',u2.trans (by simp_all),fun d hd=>?_,.inr ⟨b',NL,E',km,by simp_all,u4.trans f2,by simp_all,f4,f5,?_,f7⟩⟩
      .grind [Gd]
      .rw[hfl,VX];refine⟨by rw[Gd];simp_all,f6.2.1,fun p av y q1 q2=>?_⟩;rw[GT _ _ _ _ (by grind)]at q1;split at q1
       .rename_i hp;have hp0:p=i*sz+c:=by grind
        subst hp0;rw[IX]at q1;cases q1
        have:y=x':=by
         grind
        rw[this];exact El.mono IS (fun _ h=>h) (fun _ h=>h.elim)
       .exact(f6.2.2 p av y q1 q2).mono IS (fun _ h=>h) (fun _ h=>h.elim))
    exact⟨_,_,⟨m1,hS.le.trans ((i2.trans k2).trans m2),hS.dfs,hS.size,fun i=>((hS.slots i).le (i2.trans k2)).le m2⟩,hk⟩
   simp_all
 simp_all
theorem rV{id:Nat}(hS:SR N ds w0 g0 h0 st g a w){K:(Nat->HO)->Prop}(hk:vQ cx id st.h K):∃h' g',SR N ds w0 g0 h0 ⟨st.t,h'⟩ g' a w/\K h':=by
 unfold vQ at hk;split at hk
 .grind [vP]
 .split at hk
  .grind [nZ]
  .split at hk
   .grind [vo]
   .split at hk
    .grind [uC]
    .exact kV hS hk
theorem tn(hS:SR N ds w0 g0 h0 st g a w){o k:Nat}{K:(Nat->HO)->Prop}(hk:azK st.h o k K):∃h' g',SR N ds w0 g0 h0 ⟨st.t,h'⟩ g' a w/\K h':=by
 have same:K st.h->∃h' g',SR N ds w0 g0 h0 ⟨st.t,h'⟩ g' a w/\K h':=fun hk=>⟨st.h,g,hS,hk⟩;unfold azK at hk;split at hk
 .rename_i cs e0;split at hk
  .rename_i r n e1;split at hk
   .rename_i sz es e2;obtain⟨rfl,hk⟩:=hk;have EG:o≠r:=fun e=>by simp_all
    obtain⟨g1,i1,i2,i3,i4⟩:=Xx hS.inv e2;have ho:=i1.objs o;rw[BT _ _ _ _ EG,e0]at ho;obtain⟨t1,b,E,vs,a1,a2,a3,a4,a5⟩:=ho;have hl:(AK st.h r (.tok sz es.length) o).live:=by rw[BT _ _ _ _ EG,e0];trivial
    have WB:=UK cs k _ _ e1;have cO:=hS.inv.objs o;rw[e0]at cO;obtain⟨_,b',E',km,a1',a2',a3',a4',_⟩:=cO
    obtain⟨k1,k2⟩:=i1.upd o (.cells (EW cs k (.slice (.id r sz) es))) (g1.ρ o) (g1.ln o) (g1.tk o) (g1.own o) g1.S w none ⟨rfl,rfl,rfl,Ap _⟩ (fun _ _ _=>rfl) (fun b e=>by cases e) (fun _ _ h=>h) (fun _ _ h=>.inl h)
     (fun b o e=>by cases e) (fun b' _ e=>⟨(i1.loc o b' hl e).1,.inl ⟨hl,e⟩⟩) aa0 (fun _=>⟨rfl,Ap _,fun _=>rfl,fun _=>rfl⟩) (fun hg IS=>by
      obtain⟨u1,u2,u3,u4⟩:=Bm g1 o (g1.ρ o) (g1.ln o) (g1.tk o) (g1.own o) g1.S;have NN:∀i,AC (AK st.h r (.tok sz es.length)) i->AC (AK (AK st.h r (.tok sz es.length)) o (.cells (EW cs k (.slice (.id r sz) es)))) i:=fun i hi=>DG aa0 i hi;refine⟨u3.trans t1,b,E,vs,u4.trans a1,u1.trans a2,a3,⟨by rw[KW];exact a4.1,a4.2.1,fun i av x q1 q2=>?_⟩,a5⟩;rcases KV cs k _ i av q1 with ⟨rfl,rfl⟩ | q
      .have hx:=a4.2.2 i _ x WB q2;have mB:x=g.ρ r:=by
        have fp:=i2.gh o (by grind [AC]);have fy:vs=km:=by
         simp_all
        subst fy
        have:=a4'.2.2 i _ x WB q2
        grind [cases Bc]
       grind [Bc.mono]
      .exact(a4.2.2 i av x q q2).mono IS NN hg)
    exact⟨_,_,⟨k1,hS.le.trans (i2.trans k2),hS.dfs,hS.size,fun i=>((hS.slots i).le i2).le k2⟩,hk⟩
   simp_all
  simp_all
 simp_all
theorem tf{K:St->Prop}(hS:SR N ds w0 g0 h0 st g a w)(hk:akK cx o st K):∃EF g',SR N ds w0 g0 h0 EF g' a w/\K EF:=by
 have same:K st->∃EF g',SR N ds w0 g0 h0 EF g' a w/\K EF:=fun hk=>⟨st,g,hS,hk⟩;unfold akK at hk;split at hk
 .simp_all
 .split at hk
  .simp_all
  .rename_i s _;split at hk
   .rename_i r n ht;split at hk
    .rename_i sz es hr;obtain⟨hn,hk⟩:=hk;subst hn;have hI:=hS.inv;have ho:=hI.objs r;rw[hr]at ho;obtain⟨t1,l1,al,a2⟩:=ho;have hl:(st.h r).live:=by rw[hr];trivial
     have Uh:=hS.slots s;rw[ht]at Uh;have hval:a.tmps.getD s undef=g.ρ r:=by
      grind [cases Bc]
     have fin:∀g',CT w0 g0 h0 (AK st.h r (.tok sz es.length)) g' w->Le st.h g w (AK st.h r (.tok sz es.length)) g' w->Bc g' w (AC (AK st.h r (.tok sz es.length))) (.slice (.id r sz) es) (g.ρ r) ->
       ∃EF g',SR N ds w0 g0 h0 EF g' a w/\K EF:=fun g' i1 i2 i3=>by
      refine⟨_,g',⟨i1,hS.le.trans i2,hS.dfs,hS.size,fun i=>?_⟩,hk⟩
      grind [JY,DH,Bc.le,SR.slots]
     rcases a2 with ⟨b1,b2,b3⟩ | ⟨b,cap,E,vs,b1,b2,b3,b4,b5,b6,b7⟩
     .subst b1
      obtain⟨k1,k2⟩:=hI.upd r (.tok sz 0) (g.ρ r) (g.ln r) (g.tk r) (g.own r) g.S w none ⟨rfl,rfl,rfl,Ap _⟩ (fun _ _ _=>rfl) (fun b e=>by cases e) (fun _ _ h=>h) (fun _ _ h=>.inl h)
       (fun b o e=>by cases e) (fun b' _ e=>⟨(hI.loc r b' hl e).1,.inl ⟨hl,e⟩⟩) aa0 (fun _=>⟨rfl,Ap _,fun _=>rfl,fun _=>rfl⟩) (fun hg hk=>by
        obtain⟨u1,u2,u3,u4⟩:=Bm g r (g.ρ r) (g.ln r) (g.tk r) (g.own r) g.S;exact⟨u3.trans t1,u2.trans l1,none,0,u1.trans b2,.inl ⟨rfl,u4.trans b3⟩⟩)
      refine fin _ k1 k2 ?_;rw[b2];exact .tok _ r sz [] _ (.snil _ _ _) aa0 (by unfold AC;rw[A2];simp) (by simp[Gh.upd,t1]) aa0 (fun _=>by simp[Gh.upd])
     .have ET:=(hI.loc r b hl b2).1
      obtain⟨k1,k2⟩:=hI.upd r (.tok sz es.length) (g.ρ r) (g.ln r) (g.tk r) (g.own r) (g.more b (es.length*sz)) w none ⟨rfl,rfl,rfl,Ap _⟩ (fun _ _ _=>rfl) (fun b e=>by cases e) (fun _ _ h=>.inl h)
       (fun b' o hs=>hs.elim .inl (fun hs=>.inr ⟨by omega,.inr ⟨hl,by simp_all⟩⟩)) (fun b o e=>by cases e) (fun b' _ e=>⟨(hI.loc r b' hl e).1,.inl ⟨hl,e⟩⟩) aa0
       (fun _=>⟨rfl,Ap _,fun _=>rfl,fun _=>rfl⟩) (fun hg hk=>by
        obtain⟨u1,u2,u3,u4⟩:=Bm g r (g.ρ r) (g.ln r) (g.tk r) (g.own r) (g.more b (es.length*sz));exact⟨u3.trans t1,u2.trans l1,_,cap,u1.trans b1,.inr ⟨b3,b,E,vs,0,rfl,u4.trans b2,.of b4,by omega,fun o ho=>by
         rcases ho with ho | ⟨_,ho⟩<;>simp_all⟩⟩)
      refine fin _ k1 k2 ?_;rw[b1];exact .tok _ r sz es _ (Bc.slice_row b4 al b3 (b6.mono k2.keeps (fun _ h=>h) (fun _ h=>h.elim)) (fun o ho=>.inr ⟨rfl,ho⟩)) al (by grind [AC,A2]) (by grind [Gh.upd]) (by grind [Gh.upd]) (fun _=>by simp[Gh.upd])
    simp_all
   simp_all
variable {cx:Cx}(hP:cx.P=P)(hT:B8 P cx.T)(hY:∀l σ h g w,Er σ=true->CT w0 g0 h0 h g w->Le h0 g0 w0 h g w->cx.yp l σ (DT σ g) w){ro:Option Nat}{ops:Array Oper}
include hP hT hY
theorem Ti{dr:Bool}{o:Oper}(hd:∀i,o.dst=some i->i<N){K:St->Prop}{next:Act->World->Prop}{Q:Exit->Act->World->Prop}(hS:SR N ds w0 g0 h0 st g a w)(hk:I7 cx dr ops.toList o st K)
  (hn:∀EF g' a' w',K EF->SR N ds w0 g0 h0 EF g' a' w'->next a' w'):if Region.wanted o (yielded ops a.tmps)then o.wpIn (J6 ro) 0 P a w next Q else next (a.put o.dst undef) w:=by
 have run:kE cx dr o st K->o.wpIn (J6 ro) 0 P a w next Q:=by
  intro hk;unfold kE at hk;split at hk
  .exact kG hP hY hT hS hk fun v h' g' w' x q1 q2 q3 q4=>hn _ g' _ _ q1 (hS.put hd q2 q3 q4)
  .obtain⟨g1,qd⟩:=nL (cx:=cx) (o:=o) hS;obtain⟨EF,g',T4,hk⟩:=tf qd hk;exact kG hP hY hT T4 hk fun v h' g' w' x q1 q2 q3 q4=>hn _ g' _ _ q1 (T4.put hd q2 q3 q4)
 have skip:K (st.put o.dst (.v undef) st.h)->next (a.put o.dst undef) w:=fun hk=>hn _ g _ _ hk (hS.put hd hS.inv (.refl _ _ _) (.v _ _))
 unfold I7 at hk;split at hk
 .grind [Region.wanted]
 .rename_i j want hg;split at hk
  .simp_all
  .rename_i d hj;have hy:∀x:Value,Bc g w (AC st.h) (st.t d) x->x=a.tmps.getD d undef->True:=fun _ _ _=>trivial;have hs:=hS.slots d;rw[WV]at hj;have key:∀b:Bool,a.tmps.getD d undef=.bool b->yielded ops a.tmps j=some b:=by
    intro b hb;have ET:d<a.tmps.size:=by
     apply Nat.lt_of_not_le;intro yy;rw[Il,Array.getElem?_eq_none yy]at hb;cases hb
    simp only[yielded,hj,Option.bind_some];simp_all
   have Aj9:∀t,a.tmps.getD d undef=.tuple t->yielded ops a.tmps j=none:=by
    intro t hb;simp only[yielded,hj,Option.bind_some];cases he:a.tmps[d]?<;>simp_all
   grind [Region.wanted,Bc.v_eq]
theorem Xv{Q:Exit->Act->World->Prop}{K:St->Prop}(hQ:∀EF g' a' w',K EF->SR N ds w0 g0 h0 EF g' a' w'->Q .normal a' w') :
  ∀(l:List Oper),(∀o∈l,∀i,o.dst=some i->i<N)->∀{st:St} {g:Gh} {a:Act} {w:World},SR N ds w0 g0 h0 st g a w->YV cx ops.toList l st K->wpListIn (J6 ro) 0 P ops Q l a w
 | [],_,st,g,a,w,hS,hk=>hQ st g a w hk hS
 | [o],hd,st,g,a,w,hS,hk=>by
  have:=Ti hP hT hY (ro:=ro) (hd o (Ag ..)) (next:=wpListIn (J6 ro) 0 P ops Q []) (Q:=Q) hS hk fun EF g' a' w' q1 q2=>hQ EF g' a' w' q1 q2
  unfold wpListIn;split
  .simp_all
  .rename_i hw;rw[AN hw]at this;exact⟨fun _ _=>trivial,this⟩
 |o::o2::l,hd,st,g,a,w,hS,hk=>by
  cases hc:ai o o2 with
  |true=>
   have hk:pE cx o st fun EF=>YV cx ops.toList l EF K:=by
    grind [YV]
   obtain⟨g1,g2,h1⟩:=pF hT (ro:=ro) (o2:=o2) (hd o (Ag ..)) hc hS hk (next:=wpListIn (J6 ro) 0 P ops Q l) (Q:=Q) fun EF g' a' w' q1 q2=>Xv hQ l (fun o' yO=>hd o' (Aj _ (Aj _ yO))) q2 q1
   unfold wpListIn;rw[A3 (by grind [Region.wanted])];have e:(fun(a1:Act) (w1:World)=>o2.wpIn (J6 ro) 0 P a1 w1 (wpListIn (J6 ro) 0 P ops Q l) Q)=wpListIn (J6 ro) 0 P ops Q (o2::l):=by
    grind [wpListIn,Region.wanted]
   simp_all
  |false=>
   have hk:I7 cx false ops.toList o st fun EF=>YV cx ops.toList (o2::l) EF K:=by
    grind [YV]
   have:=Ti hP hT hY (ro:=ro) (hd o (Ag ..)) (next:=wpListIn (J6 ro) 0 P ops Q (o2::l)) (Q:=Q) hS hk fun EF g' a' w' q1 q2=>Xv hQ (o2::l) (fun o' yO=>hd o' (Aj _ yO)) q2 q1
   unfold wpListIn;split
   .simp_all
   .rename_i hw;rw[AN hw]at this;exact⟨fun _ _=>trivial,this⟩
theorem Xq{Q:Exit->Act->World->Prop}{K:St->Prop}{FT:Nat->FF}(hQ:∀EF g' a' w',K EF->SR N ds w0 g0 h0 EF g' a' w'->Q .normal a' w')(hd:∀(j:Nat) (o:Oper),ops[j]?=some o->∀i,o.dst=some i->i<N) :
  ∀(fuel:Nat) (listed:Array Bool) {st:St} {g:Gh} {a:Act} {w:World},SR N ds w0 g0 h0 st g a w->YN cx ops FT K fuel listed st->wpAnyIn (J6 ro) 0 P .any ops Q fuel listed a w
 |0,_,st,g,a,w,hS,hk=>⟨hk.1,hQ st g a w hk.2 hS⟩
 |fuel+1,listed,st,g,a,w,hS,hk=>by
  refine⟨fun h0=>hQ st g a w (hk.1 h0) hS,fun i hi=>?_⟩;have h1:=hk.2 i hi;unfold wO at h1;unfold wpOpIn;cases ho:ops[i]? with
  |none=>rw[ho]at h1;exact Xq hQ hd fuel _ hS h1
  |some o=>
   rw[ho]at h1
   have:=Ti hP hT hY (ro:=ro) (hd i o ho) (next:=wpAnyIn (J6 ro) 0 P .any ops Q fuel (listed.setIfInBounds i true)) (Q:=Q) hS h1.2 fun EF g' a' w' q1 q2=>Xq hQ hd fuel _ q2 q1
   dsimp only;split
   .simp_all
   .rename_i hw;rw[AN hw]at this;exact⟨fun _ _=>trivial,this⟩
end
theorem Fv{r:Nat}(e:Sy h r=true):AC h r:=by
 grind [Sy,AC]
theorem Bc.ids0{x:Value}(r:Bc g w U av x)(e:ids0 h av=true):Bc g w (AC h) av x:=by
 cases r with
 |v=>exact .v _ _
 |junk=>exact .junk _ _
 |snil=>grind [snil]
 |slice _ es b off sz cap val hc hl DK El=>exact .slice _ es b off sz cap val hc hl DK El
 |tok _ r sz es x hs hl hu ht hn hx=>exact .tok _ r sz es x ((Bc.slice_none hs).up _) hl (Fv e) ht hn hx
 |ver _ r sz v es x hs hl hu ht hn hx=>exact .ver _ r sz v es x ((Bc.slice_none hs).up _) hl (Fv e) ht hn hx
 |full _ sz es x hs hl hx=>grind [full,Bc.slice_none,up]
 |msl _ r n a cap hu ht hn ha hx=>exact .msl _ r n a cap (Fv e) ht hn ha hx
 |agg=>cases e
 |tup=>cases e
 |cptr _ cs b off val DK El=>exact .cptr _ cs b off val DK El
 |ref _ r off b hu ht hx=>exact .ref _ r off b (Fv e) ht hx
 |eref _ r n sz i off b cap hu ht hn hx=>exact .eref _ r n sz i off b cap (Fv e) ht hn hx
 |mref _ r b hu ht hx=>exact .mref _ r b (Fv e) ht hx
 |cmap _ sh BY b es ck hS hb hm hv=>grind [cmap]
 |clo=>cases e
theorem Ul(e:ZX h cs=true)(hi:cs[i]?=some av):ids0 h av=true:=by
 induction cs generalizing i<;>grind [ZX]
theorem mG(e:qC h cs=true)(hi:cs[i]?=some av):Uk h av=true:=by
 induction cs generalizing i<;>grind [qC]
theorem iM{BY:List (Value×AV)}(e:RU h BY=true){kv:Value×AV}(hi:BY[i]?=some kv):Uk h kv.2=true:=by
 induction BY generalizing i<;>grind [RU]
theorem Bc.ids{x:Value}(r:Bc g w U av x)(e:Uk h av=true):Bc g w (AC h) av x:=by
 cases r with
 |agg _ cs vs hs h1 hr=>exact .agg _ cs vs hs h1 fun i av x q1 q2=>(hr i av x q1 q2).ids0 (Ul e q1)
 |tup _ cs vs hs hr=>exact .tup _ cs vs hs fun i av x q1 q2=>(hr i av x q1 q2).ids0 (Ul e q1)
 |clo _ f cs vs hs hr=>exact .clo _ f cs vs hs fun i av x q1 q2=>(hr i av x q1 q2).ids0 (Ul e q1)
 |v=>exact .v _ _
 |junk=>exact .junk _ _
 |snil=>grind [snil]
 |slice _ es b off sz cap val hc hl DK El=>exact .slice _ es b off sz cap val hc hl DK El
 |tok _ r sz es x hs hl hu ht hn hx=>exact .tok _ r sz es x ((Bc.slice_none hs).up _) hl (Fv e) ht hn hx
 |ver _ r sz v es x hs hl hu ht hn hx=>exact .ver _ r sz v es x ((Bc.slice_none hs).up _) hl (Fv e) ht hn hx
 |full _ sz es x hs hl hx=>grind [full,Bc.slice_none,up]
 |msl _ r n a cap hu ht hn ha hx=>exact .msl _ r n a cap (Fv e) ht hn ha hx
 |cptr _ cs b off val DK El=>exact .cptr _ cs b off val DK El
 |ref _ r off b hu ht hx=>exact .ref _ r off b (Fv e) ht hx
 |eref _ r n sz i off b cap hu ht hn hx=>exact .eref _ r n sz i off b cap (Fv e) ht hn hx
 |mref _ r b hu ht hx=>exact .mref _ r b (Fv e) ht hx
 |cmap _ sh BY b es ck hS hb hm hv=>grind [cmap]
theorem aq{st:St}{h:Nat->HO}:∀{l:List (Nat×AV)},leT st h l->∀i,TL l i=.junk\/(st.t i=TL l i/\Uk h (TL l i)=true)
 | [],_,i=>.inl rfl
 |(j,a)::l,⟨h1,h2⟩,i=>by
  unfold TL
  by_cases e:i=j
  .simp_all
  .simp only[DH e,GX];exact aq h2 i
theorem ap{st:St}{h hb:Nat->HO}(hhb:∀j,hb j=.free\/(st.h j=hb j/\ZW h (hb j)=true)):∀{l:List (Nat×HO)},leH st h l->∀i,Ai l hb i=.free\/(st.h i=Ai l hb i/\ZW h (Ai l hb i)=true)
 | [],_,i=>hhb i
 |(j,a)::l,⟨h1,h2⟩,i=>by
  unfold Ai
  by_cases e:i=j
  .simp_all
  .simp only[DH e,GX];exact ap hhb h2 i
def LR(cx:Cx)(h0:Nat->HO):Prop:=match cx.ext with | false=>∀i,h0 i=.free | true=>∀i,h0 i≠.free->1000<=i/\i<2000
section
variable {P:Program}{N:Nat}{ds:List Deferred}{w0:World}{g0:Gh}{h0:Nat->HO}{st:St}{g:Gh}{a:Act}{w:World}{cx:Cx}
theorem SR.weaken(hE:LR cx h0)(hS:SR N ds w0 g0 h0 st g a w){s:LS}(Js:St.le cx st s):SR N ds w0 g0 h0 s.st g a w:=by
 obtain⟨h1,h2,h3,h4⟩:=Js;have hT:=aq h1;have hH:∀i,s.st.h i=.free\/(st.h i=s.st.h i/\ZW s.st.h (s.st.h i)=true):=ap h3 h2;have MD:∀r,(s.st.h r).live->(st.h r).live:=fun r hl=>by
  rcases hH r with e | ⟨e,_⟩
  .rw[e]at hl;exact hl.elim
  simp_all
 have hI:=hS.inv;refine⟨⟨hI.os,hI.tape,hI.output,hI.size,hI.frame,hI.slt,fun r=>?_,fun r r' b l l'=>hI.inj r r' b (MD r l) (MD r' l'),fun r b l=>hI.loc r b (MD r l),hI.sg,hI.glob⟩,⟨hS.le.gh,fun i hi=>?_,hS.le.keeps⟩,hS.dfs,hS.size,fun i=>?_⟩
 .rcases hH r with e | ⟨e,e2⟩
  .rw[e];trivial
  .have ho:=hI.objs r;rw[e]at ho;generalize s.st.h r=o at ho e2;cases o with
   |cells cs=>
    obtain⟨t,b,E,vs,a1,a2,a3,a4,a5⟩:=ho;exact⟨t,b,E,vs,a1,a2,a3,⟨a4.1,a4.2.1,fun i av x q1 q2=>(a4.2.2 i av x q1 q2).ids (mG e2 q1)⟩,a5⟩
   |hol sz es i c av=>
    obtain⟨t,l,al,b,cap,E,vs,b1,b2,b3,b4,b5,b6,b7,b8,x,b9,Wc⟩:=ho;exact⟨t,l,al,b,cap,E,vs,b1,b2,b3,b4,b5,b6,b7,b8,x,b9,Wc.ids e2⟩
   |bld x=>
    obtain⟨t,b,p,v,a1,a2,a3,a4,a5,a6⟩:=ho;exact⟨t,b,p,v,a1,a2,a3,a4,a5.ids e2,a6⟩
   |mapU sh BY=>
    obtain⟨t,b,es,ck,a1,a2,a3,a4,a5,a6⟩:=ho;exact⟨t,b,es,ck,a1,a2,a3,a4,fun i kv e q1 q2=>(a5 i kv e q1 q2).ids (iM e2 q1),a6⟩
   |_=>exact ho
 .have hu:=hS.le.us i hi;unfold LR at hE;split at hE
  .exact absurd (hE i) hi
  .rename_i hx;rw[hx]at h4;exact h4 i (hE i hi).1 (hE i hi).2 hu
 .show Bc g w (AC s.st.h) (TL s.t i) _;rcases hT i with e | ⟨e,e2⟩
  .grind [Bc.junk]
  .rw[<-e]at e2⊢;exact(hS.slots i).ids e2
def Ex.real:Ex->Exit
 |.normal=>.normal
 |.exit id=>.exit id
 |.ret=>.ret
def xB(N:Nat)(o:Oper):Bool:=match o.dst with | some d=>Nat.blt d N | none=>true
def EA(N:Nat):Code->Bool
 |.region _ ops _=>ops.toList.all (xB N)
 |.seq a b=>EA N a&&EA N b
 |.cond _ a b=>EA N a&&EA N b
 |.block _ c=>EA N c
 |.loop c=>EA N c
 |_=>true
theorem Oc(hP:cx.P=P)(hT:B8 P cx.T)(hm:P.follows .mixedOrders=true)(hE:LR cx h0)(hY:∀l σ h g w,Er σ=true->CT w0 g0 h0 h g w->Le h0 g0 w0 h g w->cx.yp l σ (DT σ g) w)(ro:Option Nat):∀(c:Code),EA N c=true->∀{Qa:Ex->St->Prop} {Q:Exit->Act->World->Prop},
  (∀e st g a w,Qa e st->SR N ds w0 g0 h0 st g a w->Q e.real a w)->∀{st:St} {g:Gh} {a:Act} {w:World},SR N ds w0 g0 h0 st g a w->QD cx c Qa st->c.wpIn (J6 ro) 0 P Q a w:=by
 intro c
 induction c with
 |skip=>intro _ Qa Q hQ st g a w hS hk;exact wpIn_skip (hQ .normal _ _ _ _ hk hS)
 |label l=>intro _ Qa Q hQ st g a w hS hk;exact wpIn_label (hQ .normal _ _ _ _ hk hS)
 |exit id=>intro _ Qa Q hQ st g a w hS hk;exact wpIn_exit (hQ (.exit id) _ _ _ _ hk hS)
 |ret=>intro _ Qa Q hQ st g a w hS hk;exact wpIn_ret (hQ .ret _ _ _ _ hk hS)
 |region id ops dr=>
  intro hc Qa Q hQ st g a w hS hk;have hd:∀o∈ops.toList,∀i,o.dst=some i->i<N:=fun o ho i hi=>by
   have:=(A0.1 hc) o ho
   grind [xB,Nat.blt_eq]
  have go:∀(st:St) (g:Gh) (hS:SR N ds w0 g0 h0 st g a w) (we : Cx),we.P=P->B8 P we.T->we.yp=cx.yp->M8 we ops dr st (Qa .normal)->(Code.region id ops dr).wpIn (J6 ro) 0 P Q a w:=by
   intro st g hS we hP hT hy hk;have hY:∀l σ h g w,Er σ=true->CT w0 g0 h0 h g w->Le h0 g0 w0 h g w->we.yp l σ (DT σ g) w:=by rw[hy];exact hY
   unfold M8 at hk;split at hk
   .exact wpIn_region_list (Xv hP hT hY (fun EF g' a' w' q1 q2=>hQ .normal _ _ _ _ q1 q2) ops.toList hd hS hk)
   .obtain⟨_,FT,hk⟩:=gA hk;obtain⟨i1,i2⟩:=hS.inv.heapEq (w':={ w with drawn:=w.drawn+1 }) ⟨rfl,rfl,rfl⟩ rfl;have T4 : SR N ds w0 g0 h0 st g a { w with drawn:=w.drawn+1 }:=⟨i1,hS.le.trans i2,hS.dfs,hS.size,fun i=>(hS.slots i).le i2⟩;exact wpIn_region_any hm (Xq hP hT hY (fun EF g' a' w' q1 q2=>hQ .normal _ _ _ _ q1 q2) (fun j o ho=>hd o (by grind)) _ _ T4 hk)
  have go2:∀(st:St) (g:Gh) (hS:SR N ds w0 g0 h0 st g a w),(match cx.pl.dyn with | []=>M8 cx ops dr st (Qa .normal) | _=>∃n,M8 { cx with nid:=n } ops dr st (Qa .normal))->(Code.region id ops dr).wpIn (J6 ro) 0 P Q a w:=by
   grind
  unfold QD xA at hk;split at hk
  .split at hk
   .split at hk
    .split at hk
     .obtain⟨h',g',T4,s,h1,h2⟩:=rV hS hk;exact go2 s.st _ (T4.weaken hE h1) h2
     .obtain⟨h',g',T4,s,h1,h2⟩:=th hS hk;exact go2 s.st _ (T4.weaken hE h1) h2
    .obtain⟨EF,g',T4,s,h1,h2⟩:=ti hS hk;exact go2 s.st _ (T4.weaken hE h1) h2
   .obtain⟨h',g',T4,s,h1,h2⟩:=tn hS hk;exact go2 s.st _ (T4.weaken hE h1) h2
  grind
 |seq x y ihx ihy=>
  intro hc Qa Q hQ st g a w hS hk;simp only[EA,Ak]at hc;refine wpIn_seq (ihx hc.1 (Qa:=fun e EF=>match e with | .normal=>QD cx y Qa EF | e=>Qa e EF) (fun e st g a w q hS=>?_) hS hk);cases e with
  |normal=>exact ihy hc.2 hQ hS q
  |exit id=>exact hQ (.exit id) _ _ _ _ q hS
  |ret=>exact hQ .ret _ _ _ _ q hS
 |cond c x y ihx ihy=>
  intro hc Qa Q hQ st g a w hS hk;simp only[EA,Ak]at hc;have hr:=hS.eval c
  grind [wpIn_cond_true,wpIn_cond_false,Bc.v_eq,QD]
 |block id c ih=>
  intro hc Qa Q hQ st g a w hS hk;refine wpIn_block (ih hc (Qa:=fun e EF=>match e with | .exit j=>(bif Nat.beq j id then Qa .normal EF else Qa (.exit j) EF) | e=>Qa e EF) (fun e st g a w q hS=>?_) hS hk);cases e with
  |normal=>exact hQ .normal _ _ _ _ q hS
  |ret=>exact hQ .ret _ _ _ _ q hS
  |exit j=>
   show(if j=id then Q .normal a w else Q (.exit j) a w);dsimp only at q
   by_cases e:j=id
   .rw[A3 e];rw[e,Nat.beq_refl,cond_true]at q;exact hQ .normal _ _ _ _ q hS
   .rw[AN e];rw[DH e,GX]at q;exact hQ (.exit j) _ _ _ _ q hS
 |loop c ih=>
  intro hc Qa Q hQ st g a w hS hk;obtain⟨α,I,μ,⟨x,hx⟩,x9⟩:=hk;refine SD (fun n a w=>∃x g,μ x=n/\SR N ds w0 g0 h0 (I x).st g a w) (μ x) ⟨x,g,rfl,hS.weaken hE hx⟩ ?_
  rintro n a w ⟨x,g,rfl,hS⟩
  refine ih hc (Qa:=fun e EF=>match e with | .normal=>∃y,μ y<μ x/\St.le cx EF (I y) | e=>Qa e EF) (fun e st g a w q hS=>?_) hS (x9 x);cases e with
  |normal=>
   obtain⟨y,q1,q2⟩:=q;exact⟨μ y,q1,y,g,rfl,hS.weaken hE q2⟩
  |exit id=>exact hQ (.exit id) _ _ _ _ q hS
  |ret=>exact hQ .ret _ _ _ _ q hS
 |_=>intro _ Qa Q hQ st g a w hS hk;exact hk.elim
end
end Go.Eng
