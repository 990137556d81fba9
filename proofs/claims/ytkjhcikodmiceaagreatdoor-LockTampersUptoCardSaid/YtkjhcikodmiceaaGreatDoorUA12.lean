/- Lemmas 12. -/
import Derived.Test.YtkjhcikodmiceaaGreatDoorUA11
import Derived.Deep.LoopGhost
namespace Go.Eng
variable {h:Nat->HO}{U:Nat->Prop}{cx:Cx}{av:AV}{cs:List AV}{i:Nat}{w:World}{o:Oper}{g:Gh}
section
variable {P:Program}{N:Nat}{ds:List Deferred}{w0:World}{g0:Gh}{h0 h:Nat->HO}{st:St}{g:Gh}{a:Act}{w:World}
theorem ac(hI:Cm w0 g0 h0 h g w)(r:Nat):∃g',Cm w0 g0 h0 (fS h r) g' w/\Le h g w (fS h r) g' w:=by
 unfold fS;split
 .rename_i cs e0;have ho:=hI.objs r;rw[e0]at ho;obtain⟨t1,b,E,vs,a1,a2,a3,a4,a5⟩:=ho;have hl:(h r).live:=by rw[e0];trivial
  have Ez:=(hI.loc r b hl a1).1;have hs:=Ot hI a4
  obtain⟨k1,k2⟩:=hI.upd r (.ro (cs.map (str h))) (g.ρ r) (g.ln r) (g.tk r) none (g.more b cs.length) w none ⟨rfl,rfl,rfl,Ai _⟩ (fun _ _ _=>rfl) (fun b e=>by cases e) (fun _ _ h=>.inl h)
   (fun b' o hs=>hs.elim .inl (fun hs=>.inr ⟨by rw[hs.1];exact Ez,.inr ⟨hl,by rw[hs.1];exact a1⟩⟩)) (fun b o e=>by cases e) (fun b hh _=>by cases hh) B0
   (fun _=>⟨rfl,Ai _,fun _=>rfl,fun _=>rfl⟩) (fun hg hk=>by
    obtain⟨u1,u2,u3,u4⟩:=Ba g r (g.ρ r) (g.ln r) (g.tk r) none (g.more b cs.length);exact⟨u3.trans t1,b,u1.trans a2,AT.cptr_row a3 (hs.mono hk (fun _ h=>h) (fun _ h=>h.elim)) (fun o ho=>.inr ⟨rfl,by simpa using ho⟩)⟩)
  exact⟨_,k1,k2⟩
 .rename_i sh BF e0;have ho:=hI.objs r;rw[e0]at ho;obtain⟨t1,b,es,ck,a1,a2,a3,a4,a5,a6⟩:=ho<;>grind [PV]
 .rename_i sh BF e0;have ho:=hI.objs r;rw[e0]at ho;obtain⟨t1,b,es,ck,a1,a2,a3,a4,a5,a6⟩:=ho<;>grind [VB]
 grind [Le.refl]
theorem LQ:∀(l:List Nat) {h:Nat->HO} {g:Gh},Cm w0 g0 h0 h g w->∃g',Cm w0 g0 h0 (NS h l) g' w/\Le h g w (NS h l) g' w
 | [],_,g,hI=>⟨g,hI,.refl _ _ _⟩
 |r::l,_,_,hI=>
  let ⟨_,i1,i2⟩:=ac hI r
  let ⟨g2,j1,j2⟩:=LQ l i1
  ⟨g2,j1,i2.trans j2⟩
theorem JG:∀(cs:List AV) (k:Nat) (v:AV) (i:Nat) (av:AV),(Eb cs k v)[i]?=some av->(i=k/\av=v)\/cs[i]?=some av
 | [],_,_,_,_,h=>by grind [Eb]
 |c::cs,0,v,i,av,h=>by
  grind [Eb]
 |c::cs,k+1,v,i,av,h=>by
  unfold Eb at h;cases i with
  |zero=>simp_all
  |succ i=>
   rcases JG cs k v i av (by simpa using h)with ⟨e1,e2⟩ | e<;>simp_all
theorem JH:∀(cs:List AV) (k:Nat) (v:AV),(Eb cs k v).length=cs.length
 | [],_,_=>rfl
 |_::_,0,_=>rfl
 |_::cs,k+1,v=>by unfold Eb;simp[JH cs k v]
theorem Xz:∀(cs:List AV) (k:Nat) (x:Value),IC cs k=.v x->cs[k]?=some (.v x)
 | [],_,_,h=>by grind [IC]
 |_::_,0,_,h=>by grind [IC]
 |_::cs,k+1,x,h=>by unfold IC at h;simpa using Xz cs k x h
theorem px(hI:Cm w0 g0 h0 h g w)(r k j sz:Nat):∃g',Cm w0 g0 h0 (uw h r k j sz) g' w/\Le h g w (uw h r k j sz) g' w:=by
 have same:∃g',Cm w0 g0 h0 h g' w/\Le h g w h g' w:=⟨g,hI,.refl _ _ _⟩;unfold uw;split
 .rename_i cs e0;split
  .rename_i e1;split
   .rename_i hj;have DT:r≠j:=fun e=>by simp_all
    obtain⟨g1,i1,i2,i3⟩:=M4 hI (sz:=sz) (es:=[]) (a:=none) hj B0 rfl (.snil _ _ _);have ho:=i1.objs r;rw[BB _ _ _ _ DT,e0]at ho;obtain⟨t1,b,E,vs,a1,a2,a3,a4,a5⟩:=ho;have hl:(Az h j (.tok sz 0) r).live:=by rw[BB _ _ _ _ DT,e0];trivial
    have Ez:=(i1.loc r b hl a1).1;have Tq:=Xz cs k _ e1
    obtain⟨k1,k2⟩:=i1.upd r (.cells (Eb cs k (.slice (.id j sz) []))) (g1.ρ r) (g1.ln r) (g1.tk r) (g1.own r) g1.S w none ⟨rfl,rfl,rfl,Ai _⟩ (fun _ _ _=>rfl) (fun b e=>by cases e) (fun _ _ h=>h) (fun _ _ h=>.inl h)
     (fun b o e=>by cases e) (fun b' _ e=>⟨(i1.loc r b' hl e).1,.inl ⟨hl,e⟩⟩) B0 (fun _=>⟨rfl,Ai _,fun _=>rfl,fun _=>rfl⟩) (fun hg hk=>by
      obtain⟨u1,u2,u3,u4⟩:=Ba g1 r (g1.ρ r) (g1.ln r) (g1.tk r) (g1.own r) g1.S;have Mf:∀i,Aw (Az h j (.tok sz 0)) i->Aw (Az (Az h j (.tok sz 0)) r (.cells (Eb cs k (.slice (.id j sz) [])))) i:=fun i hi=>CW B0 i hi;refine⟨u3.trans t1,b,E,vs,u4.trans a1,u1.trans a2,a3,⟨by rw[JH];exact a4.1,a4.2.1,fun i av x q1 q2=>?_⟩,a5⟩;rcases JG cs k _ i av q1 with ⟨rfl,rfl⟩ | q
      .have:=(a4.2.2 i _ x Tq q2).v_eq
       subst this;exact i3.mono hk Mf hg
      .exact(a4.2.2 i av x q q2).mono hk Mf hg)
    exact⟨_,k1,i2.trans k2⟩
   omega
  omega
 omega
theorem iC(hS:SR N ds w0 g0 h0 st g a w):∃g',SR N ds w0 g0 h0 (iB cx o st) g' a w:=by
 unfold iB;split
 .grind
 .rename_i d _;split
  .obtain⟨g',h1,h2⟩:=px hS.inv _ _ _ _;exact⟨g',h1,hS.le.trans h2,hS.dfs,hS.size,fun i=>(hS.slots i).le h2⟩
  split
  .grind
  .obtain⟨g',h1,h2⟩:=LQ (nt cx.pl.fz d) hS.inv;exact⟨g',h1,hS.le.trans h2,hS.dfs,hS.size,fun i=>(hS.slots i).le h2⟩
theorem Sp:∀(cs:List AV) (k:Nat) (r n:Nat),IC cs k=.msl r n->cs[k]?=some (.msl r n)
 | [],_,_,_,h=>by grind [IC]
 |_::_,0,_,_,h=>by grind [IC]
 |_::cs,k+1,r,n,h=>by unfold IC at h;simpa using Sp cs k r n h
theorem U0(hI:Cm w0 g0 h0 h g w){r sz:Nat}{es:List (List AV)}(hr:h r=.arr sz es) :
  ∃g',Cm w0 g0 h0 (Az h r (.tok sz es.length)) g' w/\Le h g w (Az h r (.tok sz es.length)) g' w/\AT g' w (Aw (Az h r (.tok sz es.length))) (.slice (.id r sz) es) (g.ρ r)/\g.ln r=es.length:=by
 have ho:=hI.objs r;rw[hr]at ho;obtain⟨t1,l1,al,a2⟩:=ho;have hl:(h r).live:=by rw[hr];trivial
 rcases a2 with ⟨b1,b2,b3⟩ | ⟨b,cap,E,vs,b1,b2,b3,b4,b5,b6,b7⟩
 .subst b1
  obtain⟨k1,k2⟩:=hI.upd r (.tok sz 0) (g.ρ r) (g.ln r) (g.tk r) (g.own r) g.S w none ⟨rfl,rfl,rfl,Ai _⟩ (fun _ _ _=>rfl) (fun b e=>by cases e) (fun _ _ h=>h) (fun _ _ h=>.inl h)
   (fun b o e=>by cases e) (fun b' _ e=>⟨(hI.loc r b' hl e).1,.inl ⟨hl,e⟩⟩) B0 (fun _=>⟨rfl,Ai _,fun _=>rfl,fun _=>rfl⟩) (fun hg hk=>by
    obtain⟨u1,u2,u3,u4⟩:=Ba g r (g.ρ r) (g.ln r) (g.tk r) (g.own r) g.S;exact⟨u3.trans t1,u2.trans l1,none,0,u1.trans b2,.inl ⟨rfl,u4.trans b3⟩⟩)
  refine⟨_,k1,k2,?_,l1⟩;rw[b2];exact .tok _ r sz [] _ (.snil _ _ _) B0 (by unfold Aw;rw[FD,AM];simp) (by simp[Gh.upd,t1]) B0 (fun _=>by simp[Gh.upd])
 .have Ez:=(hI.loc r b hl b2).1
  obtain⟨k1,k2⟩:=hI.upd r (.tok sz es.length) (g.ρ r) (g.ln r) (g.tk r) (g.own r) (g.more b (es.length*sz)) w none ⟨rfl,rfl,rfl,Ai _⟩ (fun _ _ _=>rfl) (fun b e=>by cases e) (fun _ _ h=>.inl h)
   (fun b' o hs=>hs.elim .inl (fun hs=>.inr ⟨by omega,.inr ⟨hl,by simp_all⟩⟩)) (fun b o e=>by cases e) (fun b' _ e=>⟨(hI.loc r b' hl e).1,.inl ⟨hl,e⟩⟩) B0
   (fun _=>⟨rfl,Ai _,fun _=>rfl,fun _=>rfl⟩) (fun hg hk=>by
    obtain⟨u1,u2,u3,u4⟩:=Ba g r (g.ρ r) (g.ln r) (g.tk r) (g.own r) (g.more b (es.length*sz));exact⟨u3.trans t1,u2.trans l1,_,cap,u1.trans b1,.inr ⟨b3,b,E,vs,0,rfl,u4.trans b2,.of b4,by omega,fun o ho=>by
     rcases ho with ho | ⟨_,ho⟩<;>simp_all⟩⟩)
  refine⟨_,k1,k2,?_,l1⟩;rw[b1];exact .tok _ r sz es _ (AT.slice_row b4 al b3 (b6.mono k2.keeps (fun _ h=>h) (fun _ h=>h.elim)) (fun o ho=>.inr ⟨rfl,ho⟩)) al (by grind [Aw,AM]) (by grind [Gh.upd]) (by grind [Gh.upd]) (fun _=>by simp[Gh.upd])
theorem Cm.move{w0:World}{g0:Gh}{h0 h:Nat->HO}{g:Gh}{w:World}(hI:Cm w0 g0 h0 h g w)(r r2:Nat)(DT:r2≠r)(hf:h r2=.free)(hl:(h r).live){b:Nat}(ho:g.own r=some b)(o' : HO)(x:Value)(n:Nat)(t:Bool)(hn:o'≠.free)
  (KH:En g w (g.upd r2 x n t (some b) g.S) w->Do (g.upd r2 x n t (some b) g.S) w (Aw (Az (Az h r .dead) r2 o')) r2 o') :
  Cm w0 g0 h0 (Az (Az h r .dead) r2 o') (g.upd r2 x n t (some b) g.S) w/\Le h g w (Az (Az h r .dead) r2 o') (g.upd r2 x n t (some b) g.S) w:=by
 have gc:I4 g (g.upd r2 x n t (some b) g.S) (Aw h):=by
  intro i hi;have e:i≠r2:=fun e=>hi (by simp_all)
  grind [Gh.upd]
 have hK:En g w (g.upd r2 x n t (some b) g.S) w:=fun b o hb=>⟨hb,rfl,fun _ _ h=>h⟩;have Mf:∀i,Aw h i->Aw (Az (Az h r .dead) r2 o') i:=fun i hi=>CW hn i (CW B0 i hi);have key:∀i,i≠r2->(Az (Az h r .dead) r2 o' i).live->i≠r/\(h i).live:=fun i h2 hl=>by
  rw[BB _ _ _ _ h2]at hl
  by_cases e:i=r
  .subst e;rw[AM]at hl;exact hl.elim
  grind [BB]
 have own:∀i,i≠r2->(g.upd r2 x n t (some b) g.S).own i=g.own i:=fun i e=>by simp[Gh.upd,e]
 have ip:(g.upd r2 x n t (some b) g.S).own r2=some b:=by simp[Gh.upd]
 refine⟨⟨hI.os,hI.tape,hI.output,hI.size,hI.frame,hI.slt,fun i=>?_,fun i j c hi hj ei ej=>?_,fun i c hi ei=>?_,hI.sg,hI.glob.keep hK⟩,gc,Mf,hK⟩
 .by_cases e:i=r2
  .grind [AM]
  .rw[BB _ _ _ _ e]
   by_cases e1:i=r
   .subst e1;rw[AM];trivial
   .rw[BB _ _ _ _ e1];exact(hI.objs i).same hK Mf gc (by simp[Gh.upd,e]) (by simp[Gh.upd,e]) (by simp[Gh.upd,e]) (by simp_all) (fun b hl hb=>⟨rfl,fun k hk=>hk⟩)
 .grind [Cm.inj]
 .by_cases e1:i=r2
  .subst e1;rw[ip]at ei;cases ei;exact hI.loc r _ hl ho
  .rw[own i e1]at ei;exact hI.loc i c (key i e1 hi).2 ei
theorem ns(hS:SR N ds w0 g0 h0 st g a w){s k:Nat}{K:St->Prop}(hk:uC st s k K):∃DV g',SR N ds w0 g0 h0 DV g' a w/\K DV:=by
 have same:K st->∃DV g',SR N ds w0 g0 h0 DV g' a w/\K DV:=fun hk=>⟨st,g,hS,hk⟩;unfold uC at hk;split at hk
 .rename_i r n ht;have X4:=hS.slots s;rw[ht]at X4;split at hk
  .rename_i sz es hr;have ho:=hS.inv.objs r;rw[hr]at ho;obtain⟨t1,l1,al,a2⟩:=ho;have hl:(st.h r).live:=by rw[hr];trivial
   have hval:n=es.length->a.tmps.getD s undef=g.ρ r:=fun hn=>by
    grind [cases AT]
   have fin:∀(h' : Nat->HO) (v:AV) (g' : Gh),Cm w0 g0 h0 h' g' w->Le st.h g w h' g' w->AT g' w (Aw h') v (a.tmps.getD s undef)->SR N ds w0 g0 h0 ⟨IG st.t s v,h'⟩ g' a w:=fun h' v g' i1 i2 i3=>by
    grind [IG,CX,SR.mk,Le.trans,SR.le,SR.dfs,SR.size,AT.le,SR.slots]
   split at hk
   .obtain⟨hn,hk⟩:=hk;obtain⟨g1,i1,i2,i3,i4⟩:=U0 hS.inv hr
    obtain⟨k1,k2⟩:=i1.upd r .dead (g1.ρ r) (g1.ln r) (g1.tk r) (g1.own r) g1.S w none ⟨rfl,rfl,rfl,Ai _⟩ (fun _ _ _=>rfl) (fun b e=>by cases e) (fun _ _ h=>h) (fun _ _ h=>.inl h) (fun b o e=>by cases e) (fun b hh _=>by cases hh) B0
     (fun _=>⟨rfl,Ai _,fun _=>rfl,fun _=>rfl⟩) (fun _ _=>trivial)
    exact⟨_,_,fin _ _ _ k1 (i2.trans k2) (by grind [AT.le,AT.up,AT.slice_none]),hk⟩
   .rename_i k;split at hk
    .simp_all
    .rename_i hb;have DT:k+1≠r:=fun e=>by simp_all
     split at hk
     .rename_i hf;obtain⟨hn,hk⟩:=hk;rcases a2 with ⟨b1,b2,b3⟩ | ⟨b,cap,E,vs,b1,b2,b3,b4,b5,b6,b7⟩
      .subst b1;have hv:=hval hn
       obtain⟨k1,k2⟩:=hS.inv.upd r .dead (g.ρ r) (g.ln r) (g.tk r) (g.own r) g.S w none ⟨rfl,rfl,rfl,Ai _⟩ (fun _ _ _=>rfl) (fun b e=>by cases e) (fun _ _ h=>h) (fun _ _ h=>.inl h) (fun b o e=>by cases e) (fun b hh _=>by cases hh) B0
        (fun _=>⟨rfl,Ai _,fun _=>rfl,fun _=>rfl⟩) (fun _ _=>trivial)
       have wz:Az st.h r .dead (k+1)=.free:=by grind [BB]
       obtain⟨m1,m2⟩:=k1.upd (k+1) (.arr sz []) (.slice none 0 0) 0 true none (g.upd r (g.ρ r) (g.ln r) (g.tk r) (g.own r) g.S).S w none ⟨rfl,rfl,rfl,Ai _⟩ (fun _ _ _=>rfl) (fun b e=>by cases e) (fun _ _ h=>h) (fun _ _ h=>.inl h) (fun b o e=>by cases e) (fun b _ e=>by cases e) B0
        (fun hu=>absurd wz hu) (fun _ _=>by
         obtain⟨u1,u2,u3,u4⟩:=Ba (g.upd r (g.ρ r) (g.ln r) (g.tk r) (g.own r) g.S) (k+1) (.slice none 0 0) 0 true none (g.upd r (g.ρ r) (g.ln r) (g.tk r) (g.own r) g.S).S;exact⟨u3,u2,by simp,.inl ⟨rfl,u1,u4⟩⟩)
       refine⟨_,_,fin _ _ _ m1 (k2.trans m2) ?_,hk⟩;rw[hv,b2,hn];exact .msl _ (k+1) 0 none 0 (by grind [Aw,AM]) (by simp[Gh.upd]) (Ar _) (.inl rfl) (fun _=>by simp[Gh.upd])
      .have hv:=hval hn;obtain⟨m1,m2⟩:=hS.inv.move r (k+1) DT hf hl b2 (.arr sz es) (g.ρ r) es.length true B0 (fun HJ=>by
        obtain⟨u1,u2,u3,u4⟩:=Ba g (k+1) (g.ρ r) es.length true (some b) g.S;exact⟨u3,u2,al,.inr ⟨b,cap,E,vs,u1.trans b1,u4,b3,b4,b5,b6.mono HJ (fun _ h=>h) (fun _ h=>h.elim),b7⟩⟩)
       refine⟨_,_,fin _ _ _ m1 m2 ?_,hk⟩;rw[hv,b1,hn];exact .msl _ (k+1) es.length _ cap (by grind [Aw,AM]) (by simp[Gh.upd]) (by simp[Gh.upd]) (.inr ⟨b,rfl⟩) (fun _=>by simp[Gh.upd])
     simp_all
  simp_all
 simp_all
theorem nq(hS:SR N ds w0 g0 h0 st g a w){o k j:Nat}{K:(Nat->HO)->Prop}(hk:uB st.h o k j K):∃h' g',SR N ds w0 g0 h0 ⟨st.t,h'⟩ g' a w/\K h':=by
 unfold uB at hk;split at hk
 .rename_i cs e0;split at hk
  .rename_i r n e1;split at hk
   .rename_i sz es e2;split at hk
    .rename_i hf;obtain⟨hn,hk⟩:=hk;have ho:=hS.inv.objs r;rw[e2]at ho;obtain⟨t1,l1,al,a2⟩:=ho;have hl:(st.h r).live:=by rw[e2];trivial
     have DT:j≠r:=fun e=>by simp_all
     have pR:o≠r:=fun e=>by simp_all
     have oC:o≠j:=fun e=>by simp_all
     -- the array goes to the new id,which stands for the same slice
     have step:∃g1,Cm w0 g0 h0 (Az (Az st.h r .dead) j (.arr sz es)) g1 w/\Le st.h g w (Az (Az st.h r .dead) j (.arr sz es)) g1 w/\g1.tk j=true/\g1.ln j=es.length/\g1.ρ j=g.ρ r:=by
      rcases a2 with ⟨b1,b2,b3⟩ | ⟨b,cap,E,vs,b1,b2,b3,b4,b5,b6,b7⟩
      .subst b1
       obtain⟨k1,k2⟩:=hS.inv.upd r .dead (g.ρ r) (g.ln r) (g.tk r) (g.own r) g.S w none ⟨rfl,rfl,rfl,Ai _⟩ (fun _ _ _=>rfl) (fun b e=>by cases e) (fun _ _ h=>h) (fun _ _ h=>.inl h) (fun b o e=>by cases e) (fun b hh _=>by cases hh) B0
        (fun _=>⟨rfl,Ai _,fun _=>rfl,fun _=>rfl⟩) (fun _ _=>trivial)
       have wz:Az st.h r .dead j=.free:=by grind [BB]
       obtain⟨m1,m2⟩:=k1.upd j (.arr sz []) (.slice none 0 0) 0 true none (g.upd r (g.ρ r) (g.ln r) (g.tk r) (g.own r) g.S).S w none ⟨rfl,rfl,rfl,Ai _⟩ (fun _ _ _=>rfl) (fun b e=>by cases e) (fun _ _ h=>h) (fun _ _ h=>.inl h) (fun b o e=>by cases e) (fun b _ e=>by cases e) B0
        (fun hu=>absurd wz hu) (fun _ _=>by
         obtain⟨u1,u2,u3,u4⟩:=Ba (g.upd r (g.ρ r) (g.ln r) (g.tk r) (g.own r) g.S) j (.slice none 0 0) 0 true none (g.upd r (g.ρ r) (g.ln r) (g.tk r) (g.own r) g.S).S;exact⟨u3,u2,by simp,.inl ⟨rfl,u1,u4⟩⟩)
       exact⟨_,m1,k2.trans m2,by simp[Gh.upd],by simp[Gh.upd],by simp[Gh.upd,b2]⟩
      .obtain⟨m1,m2⟩:=hS.inv.move r j DT hf hl b2 (.arr sz es) (g.ρ r) es.length true B0 (fun HJ=>by
        obtain⟨u1,u2,u3,u4⟩:=Ba g j (g.ρ r) es.length true (some b) g.S;exact⟨u3,u2,al,.inr ⟨b,cap,E,vs,u1.trans b1,u4,b3,b4,b5,b6.mono HJ (fun _ h=>h) (fun _ h=>h.elim),b7⟩⟩)
       exact⟨_,m1,m2,by simp[Gh.upd],by simp[Gh.upd],by simp[Gh.upd]⟩
     obtain⟨g1,i1,i2,j1,j2,j3⟩:=step
     -- the cell
     have ho:=hS.inv.objs o;rw[e0]at ho;have zM:=i1.objs o;rw[BB _ _ _ _ oC,BB _ _ _ _ pR,e0]at zM;obtain⟨t2,b,E,vs,c1,c2,c3,c4,c5⟩:=zM;obtain⟨_,b',E',d8,jR,c2',yQ,c4',_⟩:=ho;have hb:b'=b:=by
      have h2:=i2.gh o (by grind [Aw]);simp_all
     subst hb;rw[c3]at yQ;cases yQ;have cy:(Az (Az st.h r .dead) j (.arr sz es) o).live:=by rw[BB _ _ _ _ oC,BB _ _ _ _ pR,e0];trivial
     have Tq:=Sp cs k _ _ e1
     obtain⟨k1,k2⟩:=i1.upd o (.cells (Eb cs k (.msl j n))) (g1.ρ o) (g1.ln o) (g1.tk o) (g1.own o) g1.S w none ⟨rfl,rfl,rfl,Ai _⟩ (fun _ _ _=>rfl) (fun b e=>by cases e) (fun _ _ h=>h) (fun _ _ h=>.inl h)
      (fun b o e=>by cases e) (fun b' _ e=>⟨(i1.loc o b' cy e).1,.inl ⟨cy,e⟩⟩) B0 (fun _=>⟨rfl,Ai _,fun _=>rfl,fun _=>rfl⟩) (fun hg V2=>by
       obtain⟨u1,u2,u3,u4⟩:=Ba g1 o (g1.ρ o) (g1.ln o) (g1.tk o) (g1.own o) g1.S;have Mf:∀i,Aw (Az (Az st.h r .dead) j (.arr sz es)) i->Aw (Az (Az (Az st.h r .dead) j (.arr sz es)) o (.cells (Eb cs k (.msl j n)))) i:=fun i hi=>CW B0 i hi;refine⟨u3.trans t2,_,E,vs,u4.trans c1,u1.trans c2,c3,⟨by rw[JH];exact c4.1,c4.2.1,fun i av x q1 q2=>?_⟩,c5⟩;rcases JG cs k _ i av q1 with ⟨rfl,rfl⟩ | q
       .have hx:=c4'.2.2 i _ x Tq q2;have hm:AT g1 w (Aw (Az (Az st.h r .dead) j (.arr sz es))) (.msl j n) x:=by
         grind [Aw,AM,cases AT,AT.msl]
        grind [AT.mono]
       .exact(c4.2.2 i av x q q2).mono V2 Mf hg)
     exact⟨_,_,⟨k1,hS.le.trans (i2.trans k2),hS.dfs,hS.size,fun i=>(hS.slots i).le (i2.trans k2)⟩,hk⟩
    .exact hk.elim
   simp_all
  simp_all
 .exact hk.elim
theorem Nv{h:Nat->HO}(hI:Cm w0 g0 h0 h g w){o k:Nat}{cs:List AV}(e0:h o=.cells cs){old new:AV}(hk:cs[k]?=some old)(DH:∀x:Value,AT g w (Aw h) old x->AT g w (Aw h) new x) :
  ∃g',Cm w0 g0 h0 (Az h o (.cells (Eb cs k new))) g' w/\Le h g w (Az h o (.cells (Eb cs k new))) g' w:=by
 have ho:=hI.objs o;rw[e0]at ho;obtain⟨t1,b,E,vs,a1,a2,a3,a4,a5⟩:=ho;have hl:(h o).live:=by rw[e0];trivial
 obtain⟨k1,k2⟩:=hI.upd o (.cells (Eb cs k new)) (g.ρ o) (g.ln o) (g.tk o) (g.own o) g.S w none ⟨rfl,rfl,rfl,Ai _⟩ (fun _ _ _=>rfl) (fun b e=>by cases e) (fun _ _ h=>h) (fun _ _ h=>.inl h)
  (fun b o e=>by cases e) (fun b' _ e=>⟨(hI.loc o b' hl e).1,.inl ⟨hl,e⟩⟩) B0 (fun _=>⟨rfl,Ai _,fun _=>rfl,fun _=>rfl⟩) (fun hg V2=>by
   obtain⟨u1,u2,u3,u4⟩:=Ba g o (g.ρ o) (g.ln o) (g.tk o) (g.own o) g.S;have Mf:∀i,Aw h i->Aw (Az h o (.cells (Eb cs k new))) i:=fun i hi=>CW B0 i hi;refine⟨u3.trans t1,b,E,vs,u4.trans a1,u1.trans a2,a3,⟨by rw[JH];exact a4.1,a4.2.1,fun i av x q1 q2=>?_⟩,a5⟩;rcases JG cs k _ i av q1 with ⟨rfl,rfl⟩ | q
   .exact(DH x (a4.2.2 i _ x hk q2)).mono V2 Mf hg
   .exact(a4.2.2 i av x q q2).mono V2 Mf hg)
 exact⟨_,k1,k2⟩
theorem Ip:∀(cs:List AV) (k:Nat) (a:AV),IC cs k=a->a≠.junk->cs[k]?=some a
 | [],_,a,h,hn=>by grind [IC]
 |_::_,0,_,h,_=>by grind [IC]
 |_::cs,k+1,a,h,hn=>by unfold IC at h;simpa using Ip cs k a h hn
theorem Cm.moveV{h:Nat->HO}(hI:Cm w0 g0 h0 h g w)(r r2 v:Nat)(DT:r2≠r)(hf:h r2=.vox v)(hl:(h r).live)(o' : HO)(x:Value)(n:Nat)(hv:v<n)(hn:o'≠.free)
  (KH:En g w (g.upd r2 x n true (g.own r) g.S) w->Do (g.upd r2 x n true (g.own r) g.S) w (Aw (Az (Az h r .dead) r2 o')) r2 o') :
  Cm w0 g0 h0 (Az (Az h r .dead) r2 o') (g.upd r2 x n true (g.own r) g.S) w/\Le h g w (Az (Az h r .dead) r2 o') (g.upd r2 x n true (g.own r) g.S) w:=by
 have jv:=hI.objs r2;rw[hf]at jv;obtain⟨ht2,cy⟩:=jv;have gc:I4 g (g.upd r2 x n true (g.own r) g.S) (Aw h):=by
  intro i hi
  grind [Gh.upd]
 have hK:En g w (g.upd r2 x n true (g.own r) g.S) w:=fun b o hb=>⟨hb,rfl,fun _ _ h=>h⟩;have Mf:∀i,Aw h i->Aw (Az (Az h r .dead) r2 o') i:=fun i hi=>CW hn i (CW B0 i hi);have key:∀i,i≠r2->(Az (Az h r .dead) r2 o' i).live->i≠r/\(h i).live:=fun i h2 hl=>by
  rw[BB _ _ _ _ h2]at hl
  by_cases e:i=r
  .subst e;rw[AM]at hl;exact hl.elim
  grind [BB]
 have own:∀i,i≠r2->(g.upd r2 x n true (g.own r) g.S).own i=g.own i:=fun i e=>by simp[Gh.upd,e]
 have ip:(g.upd r2 x n true (g.own r) g.S).own r2=g.own r:=by simp[Gh.upd]
 refine⟨⟨hI.os,hI.tape,hI.output,hI.size,hI.frame,hI.slt,fun i=>?_,fun i j c hi hj ei ej=>?_,fun i c hi ei=>?_,hI.sg,hI.glob.keep hK⟩,gc,Mf,hK⟩
 .by_cases e:i=r2
  .grind [AM]
  .rw[BB _ _ _ _ e]
   by_cases e1:i=r
   .subst e1;rw[AM];trivial
   .rw[BB _ _ _ _ e1];exact(hI.objs i).same hK Mf gc (by simp[Gh.upd,e]) (by simp[Gh.upd,e]) (by simp[Gh.upd,e]) (by simp_all) (fun b hl hb=>⟨rfl,fun k hk=>hk⟩)
 .grind [Cm.inj]
 .by_cases e1:i=r2
  .subst e1;rw[ip]at ei;exact hI.loc r _ hl ei
  .rw[own i e1]at ei;exact hI.loc i c (key i e1 hi).2 ei
theorem py(hS:SR N ds w0 g0 h0 st g a w){o k d:Nat}{K:(Nat->HO)->Prop}(hk:yG st.h o k d K):∃h' g',SR N ds w0 g0 h0 ⟨st.t,h'⟩ g' a w/\K h':=by
 unfold yG at hk;split at hk
 .rename_i cs e0;split at hk
  .rename_i r sz v es e1;split at hk
   .rename_i GW v' n e2;split at hk
    .rename_i hf;obtain⟨⟨rfl,rfl⟩,hk⟩:=hk;have ho:=hS.inv.objs r;rw[e2]at ho;obtain⟨t1,l1,a0,cap,r1,a2⟩:=ho;have hl:(st.h r).live:=by rw[e2];trivial
     have DT:d≠r:=fun e=>by simp_all
     have pR:o≠r:=fun e=>by simp_all
     have hod:o≠d:=fun e=>by simp_all
     have Tq:=Ip cs k _ e1 B0
     -- the value that stands in the cell
     have zO:=hS.inv.objs o;rw[e0]at zO;obtain⟨_,b',E',d8,c1,c2,c3,c4,_⟩:=zO;obtain⟨x,hx1,_,pX⟩:=c4.at Tq;have gD:x=.slice a0 n cap/\es.length=n/\AT g w ES (.slice .none es) x/\∀c∈es,c.length=sz:=by
      grind [AT.slice_none,cases AT]
     obtain⟨hxe,hn,hx3,kO⟩:=gD;subst hn;obtain⟨m1,m2⟩:=hS.inv.moveO r d DT hf hl (ob:=g.own r) (fun c h=>h) (.tok sz es.length) (.slice a0 es.length cap) es.length true B0 (fun HJ=>by
      obtain⟨u1,u2,u3,u4⟩:=Ba g d (.slice a0 es.length cap) es.length true (g.own r) g.S;refine⟨u3,u2,a0,cap,u1,?_⟩;rw[u4];exact a2)
     generalize ct:g.upd d (.slice a0 es.length cap) es.length true (g.own r) g.S=g1 at m1 m2;have gr:g1.tk r=true/\g1.ln r=v:=by grind [Gh.upd]
     have gd:g1.tk d=true/\g1.ln d=es.length/\g1.ρ d=.slice a0 es.length cap:=by grind [Gh.upd]
     -- the id keeps its version
     have xb:(Az (Az st.h r .dead) d (.tok sz es.length)) r=.dead:=by grind [BB,AM]
     obtain⟨n1,n2⟩:=m1.upd r (.vox v) (g1.ρ r) (g1.ln r) (g1.tk r) (g1.own r) g1.S w none ⟨rfl,rfl,rfl,Ai _⟩ (fun _ _ _=>rfl) (fun b e=>by cases e) (fun _ _ h=>h) (fun _ _ h=>.inl h) (fun b o e=>by cases e) (fun b hh _=>by cases hh) B0
      (fun _=>⟨rfl,Ai _,fun _=>rfl,fun _=>rfl⟩) (fun _ _=>by
       obtain⟨u1,u2,u3,u4⟩:=Ba g1 r (g1.ρ r) (g1.ln r) (g1.tk r) (g1.own r) g1.S;exact⟨u3.trans gr.1,u2.trans gr.2⟩)
     have hh:Az (Az (Az st.h r .dead) d (.tok sz es.length)) r (.vox v)=Az (Az st.h r (.vox v)) d (.tok sz es.length):=by
      grind [Az,CX]
     rw[hh]at n1 n2;generalize ot:g1.upd r (g1.ρ r) (g1.ln r) (g1.tk r) (g1.own r) g1.S=g2 at n1 n2;have gd2:g2.tk d=true/\g2.ln d=es.length/\g2.ρ d=.slice a0 es.length cap:=by grind [Gh.upd]
     have nW : (Az (Az st.h r (.vox v)) d (.tok sz es.length)) o=.cells cs:=by grind [BB]
     have L2:=m2.trans n2;have Acd:g2.ρ o=g.ρ o:=(L2.gh o (by grind [Aw])).2.2.1 (by assumption);obtain⟨g3,p1,p2⟩:=Nv n1 nW Tq (new:=.slice (.id d sz) es) (fun y hy=>by
      grind [Gh.upd,Aw,AM,cases AT,AT.tok])
     exact⟨_,g3,⟨p1,hS.le.trans (L2.trans p2),hS.dfs,hS.size,fun i=>(hS.slots i).le (L2.trans p2)⟩,hk⟩
    simp_all
   simp_all
  .exact⟨_,g,hS,hk⟩
 simp_all
theorem iQ(hS:SR N ds w0 g0 h0 st g a w){o k r:Nat}{K:(Nat->HO)->Prop}(hk:ut st.h o k r K):∃h' g',SR N ds w0 g0 h0 ⟨st.t,h'⟩ g' a w/\K h':=by
 unfold ut at hk;split at hk
 .rename_i cs e0;split at hk
  .rename_i d sz es e1;split at hk
   .rename_i GW n e2;split at hk
    .rename_i v hf;obtain⟨⟨hn,rfl⟩,hk⟩:=hk;subst hn;have ho:=hS.inv.objs d;rw[e2]at ho;obtain⟨t1,l1,a0,cap,r1,a2⟩:=ho;have hl:(st.h d).live:=by rw[e2];trivial
     have DT:r≠d:=fun e=>by simp_all
     have hod:o≠d:=fun e=>by simp_all
     have pR:o≠r:=fun e=>by simp_all
     have Tq:=Ip cs k _ e1 B0;obtain⟨m1,m2⟩:=hS.inv.moveV d r v DT hf hl (.var sz (v+1) es.length) (.slice a0 es.length cap) (v+1) (Nat.lt_succ_self v) B0 (fun HJ=>by
      obtain⟨u1,u2,u3,u4⟩:=Ba g r (.slice a0 es.length cap) (v+1) true (g.own d) g.S;refine⟨u3,u2,a0,cap,u1,?_⟩;rw[u4];exact a2)
     generalize ct:g.upd r (.slice a0 es.length cap) (v+1) true (g.own d) g.S=g1 at m1 m2;have gr:g1.tk r=true/\g1.ln r=v+1/\g1.ρ r=.slice a0 es.length cap:=by grind [Gh.upd]
     have gd:g1.ln d=es.length/\g1.ρ d=.slice a0 es.length cap:=by grind [Gh.upd]
     have nW : (Az (Az st.h d .dead) r (.var sz (v+1) es.length)) o=.cells cs:=by grind [BB]
     obtain⟨g3,p1,p2⟩:=Nv m1 nW Tq (new:=.slice (.ver r sz (v+1)) es) (fun y hy=>by
      grind [Aw,AM,cases AT,AT.ver])
     exact⟨_,g3,⟨p1,hS.le.trans (m2.trans p2),hS.dfs,hS.size,fun i=>(hS.slots i).le (m2.trans p2)⟩,hk⟩
    simp_all
   simp_all
  .exact⟨_,g,hS,hk⟩
 simp_all
theorem o0(hS:SR N ds w0 g0 h0 st g a w){r:Nat}{K:(Nat->HO)->Prop}(hk:xy st.h r K):∃h' g',SR N ds w0 g0 h0 ⟨st.t,h'⟩ g' a w/\K h':=by
 unfold xy at hk;split at hk
 .rename_i hf
  obtain⟨m1,m2⟩:=hS.inv.upd r (.vox 0) (.slice none 0 0) 0 true none g.S w none ⟨rfl,rfl,rfl,Ai _⟩ (fun _ _ _=>rfl) (fun b e=>by cases e) (fun _ _ h=>h) (fun _ _ h=>.inl h) (fun b o e=>by cases e) (fun b hh _=>by cases hh) B0
   (fun hu=>absurd hf hu) (fun _ _=>by
    obtain⟨u1,u2,u3,u4⟩:=Ba g r (.slice none 0 0) 0 true none g.S;exact⟨u3,u2⟩)
  exact⟨_,_,⟨m1,hS.le.trans m2,hS.dfs,hS.size,fun i=>(hS.slots i).le m2⟩,hk⟩
 simp_all
theorem iL(hS:SR N ds w0 g0 h0 st g a w){o k:Nat}{K:(Nat->HO)->Prop}(hk:ur st.h o k K):∃h' g',SR N ds w0 g0 h0 ⟨st.t,h'⟩ g' a w/\K h':=by
 unfold ur at hk;split at hk
 .rename_i cs e0;split at hk
  .rename_i r e1;split at hk
   .rename_i sh BF e2;have Tq:=Ip cs k _ e1 B0;obtain⟨g3,p1,p2⟩:=Nv hS.inv e0 Tq (new:=.cmap sh BF) (fun y hy=>by
     have e3:rsv st.h (.mref r)=.cmap sh BF:=by
      show(match st.h r with | .rom sh BF=>AV.cmap sh BF | _=>.mref r)=_;rw[e2]
     rw[<-e3];exact AT.rsv hS.inv.objs hy)
    exact⟨_,g3,⟨p1,hS.le.trans p2,hS.dfs,hS.size,fun i=>(hS.slots i).le p2⟩,hk⟩
   simp_all
  simp_all
 simp_all
theorem pE(hS:SR N ds w0 g0 h0 st g a w){o k j sz:Nat}{K:(Nat->HO)->Prop}(hk:yO st.h o k j sz K):∃h' g',SR N ds w0 g0 h0 ⟨st.t,h'⟩ g' a w/\K h':=by
 unfold yO at hk;split at hk
 .rename_i cs e0;split at hk
  .rename_i e1;split at hk
   .rename_i hf;have pR:o≠j:=fun e=>by simp_all
    have Tq:=Ip cs k _ e1 B0
    obtain⟨m1,m2⟩:=hS.inv.upd j (.arr sz []) (.slice none 0 0) 0 true none g.S w none ⟨rfl,rfl,rfl,Ai _⟩ (fun _ _ _=>rfl) (fun b e=>by cases e) (fun _ _ h=>h) (fun _ _ h=>.inl h) (fun b o e=>by cases e) (fun b hh e=>by simp_all) B0
     (fun hu=>absurd hf hu) (fun _ _=>by
      obtain⟨u1,u2,u3,u4⟩:=Ba g j (.slice none 0 0) 0 true none g.S;exact⟨u3,u2,(fun cs hc=>by cases hc),.inl ⟨rfl,u1,u4⟩⟩)
    generalize ct:g.upd j (.slice none 0 0) 0 true none g.S=g1 at m1 m2;have gr:g1.tk j=true/\g1.ln j=0/\g1.ρ j=.slice none 0 0:=by grind [Gh.upd]
    have nW : (Az st.h j (.arr sz [])) o=.cells cs:=by grind [BB]
    obtain⟨g3,p1,p2⟩:=Nv m1 nW Tq (new:=.msl j 0) (fun y hy=>by
     grind [Aw,AM,cases AT,AT.msl])
    exact⟨_,g3,⟨p1,hS.le.trans (m2.trans p2),hS.dfs,hS.size,fun i=>(hS.slots i).le (m2.trans p2)⟩,hk⟩
   simp_all
  simp_all
 simp_all
theorem fo{id:Nat}(hS:SR N ds w0 g0 h0 st g a w){K:(Nat->HO)->Prop}(hk:vN cx id st.h fun h=>uq cx id h fun h=>sy cx id h fun h=>p8 cx id h K):∃h' g',SR N ds w0 g0 h0 ⟨st.t,h'⟩ g' a w/\K h':=by
 have h1:∃h' g',SR N ds w0 g0 h0 ⟨st.t,h'⟩ g' a w/\uq cx id h' fun h=>sy cx id h fun h=>p8 cx id h K:=by
  unfold vN at hk;split at hk
  .obtain⟨g',i1,i2⟩:=ac hS.inv _;exact⟨_,g',⟨i1,hS.le.trans i2,hS.dfs,hS.size,fun i=>(hS.slots i).le i2⟩,hk⟩
  .exact⟨_,g,hS,hk⟩
 obtain⟨h1,g1,S1,hk⟩:=h1;have h2:∃h' g',SR N ds w0 g0 h0 ⟨st.t,h'⟩ g' a w/\sy cx id h' fun h=>p8 cx id h K:=by
  unfold uq at hk;split at hk
  .exact iL S1 hk
  grind
 obtain⟨h2,g2,S2,hk⟩:=h2;have h3:∃h' g',SR N ds w0 g0 h0 ⟨st.t,h'⟩ g' a w/\p8 cx id h' K:=by
  unfold sy at hk;split at hk
  .exact iL S2 hk
  grind
 obtain⟨h3,g3,S3,hk⟩:=h3;unfold p8 at hk;split at hk
 .exact pE S3 hk
 grind
theorem oA(hS:SR N ds w0 g0 h0 st g a w){r:Nat}{K:(Nat->HO)->Prop}(hk:wX st.h r K):∃h' g',SR N ds w0 g0 h0 ⟨st.t,h'⟩ g' a w/\K h':=by
 unfold wX at hk;split at hk
 .rename_i sz es i c j m er;split at hk
  .simp_all
  .rename_i hb;have DT:r≠j:=fun e=>by simp_all
   split at hk
   .rename_i bi qs ej;obtain⟨hm,cs,hi,hc,hk⟩:=hk;have ho:=hS.inv.objs r;rw[er]at ho;obtain⟨t1,l1,al,b,cap,E,vs,e1,e2,e3,e4,e5,e6,e7,e8,x,e9,tB⟩:=ho;obtain⟨g1,i1,i2,i3,i4⟩:=U0 hS.inv ej;have d7:x=g.ρ j:=by
     grind [cases AT]
    obtain⟨k1,k2⟩:=i1.upd j .dead (g1.ρ j) (g1.ln j) (g1.tk j) (g1.own j) g1.S w none ⟨rfl,rfl,rfl,Ai _⟩ (fun _ _ _=>rfl) (fun b e=>by cases e) (fun _ _ h=>h) (fun _ _ h=>.inl h) (fun b o e=>by cases e) (fun b hh _=>by cases hh) B0
     (fun _=>⟨rfl,Ai _,fun _=>rfl,fun _=>rfl⟩) (fun _ _=>trivial)
    generalize ot:g1.upd j (g1.ρ j) (g1.ln j) (g1.tk j) (g1.own j) g1.S=g2 at k1 k2;have DH:AT g2 w ES (.slice .none qs) x:=by rw[d7];exact i3.slice_none.mono k2.keeps (fun _ h=>h) (fun _ h=>h.elim)
    have vL:Az (Az st.h j (.tok bi qs.length)) j .dead r=.hol sz es i c (.msl j m):=by grind [BB]
    have zN:=k1.objs r;rw[vL]at zN;obtain⟨t1',l1',uA,b',Md,E',d8,f1,f2,f3,f4,f5,f6,f7,f8,x',f9,f10⟩:=zN;have hl:(Az (Az st.h j (.tok bi qs.length)) j .dead r).live:=by rw[vL];trivial
    have hρ:g2.ρ r=g.ρ r:=by
     have q1:=(i2.trans k2).gh r (by grind [Aw]);simp_all
    have ay:d8=vs:=by
     simp_all
    subst ay;have hxx:x'=x:=by simp_all
    subst hxx;have Ez:=(AZ.1 hi).1;have hcl:=uA cs (Aq hi);have hfl:=KZ uA hi c [AV.slice .none qs] (by grind);have B5:es.flatten.length=es.length*sz:=CH uA
    obtain⟨m1,m2⟩:=k1.upd r (.arr sz (es.set i (over cs c [.slice .none qs]))) (g2.ρ r) (g2.ln r) (g2.tk r) (g2.own r) g2.S w none ⟨rfl,rfl,rfl,Ai _⟩ (fun _ _ _=>rfl) (fun b e=>by cases e) (fun _ _ h=>h) (fun _ _ h=>.inl h)
     (fun b o e=>by cases e) (fun b' _ e=>⟨(k1.loc r b' hl e).1,.inl ⟨hl,e⟩⟩) B0 (fun _=>⟨rfl,Ai _,fun _=>rfl,fun _=>rfl⟩) (fun hg HJ=>by
      obtain⟨u1,u2,u3,u4⟩:=Ba g2 r (g2.ρ r) (g2.ln r) (g2.tk r) (g2.own r) g2.S;refine⟨u3.trans t1',u2.trans (by simp_all),fun d hd=>?_,.inr ⟨b',Md,E',d8,by simp_all,u4.trans f2,by simp_all,f4,f5,?_,f7⟩⟩
      .grind [Fq]
      .rw[hfl,FE];refine⟨by rw[Fq];simp_all,f6.2.1,fun p av y q1 q2=>?_⟩;rw[FW _ _ _ _ (by grind)]at q1;split at q1
       .rename_i hp;have w6:p=i*sz+c:=by grind
        subst w6;rw[Jl]at q1;cases q1
        have:y=x':=by
         grind
        rw[this];exact DH.mono HJ (fun _ h=>h) (fun _ h=>h.elim)
       .exact(f6.2.2 p av y q1 q2).mono HJ (fun _ h=>h) (fun _ h=>h.elim))
    exact⟨_,_,⟨m1,hS.le.trans ((i2.trans k2).trans m2),hS.dfs,hS.size,fun i=>((hS.slots i).le (i2.trans k2)).le m2⟩,hk⟩
   simp_all
 simp_all
theorem me{id:Nat}(hS:SR N ds w0 g0 h0 st g a w){K:(Nat->HO)->Prop}(hk:pz cx id st.h K):∃h' g',SR N ds w0 g0 h0 ⟨st.t,h'⟩ g' a w/\K h':=by
 unfold pz at hk;split at hk
 .grind [py]
 .split at hk
  .grind [iQ]
  .split at hk
   .grind [o0]
   .split at hk
    .grind [oA]
    .exact fo hS hk
theorem nv(hS:SR N ds w0 g0 h0 st g a w){o k:Nat}{K:(Nat->HO)->Prop}(hk:uE st.h o k K):∃h' g',SR N ds w0 g0 h0 ⟨st.t,h'⟩ g' a w/\K h':=by
 have same:K st.h->∃h' g',SR N ds w0 g0 h0 ⟨st.t,h'⟩ g' a w/\K h':=fun hk=>⟨st.h,g,hS,hk⟩;unfold uE at hk;split at hk
 .rename_i cs e0;split at hk
  .rename_i r n e1;split at hk
   .rename_i sz es e2;obtain⟨rfl,hk⟩:=hk;have DT:o≠r:=fun e=>by simp_all
    obtain⟨g1,i1,i2,i3,i4⟩:=U0 hS.inv e2;have ho:=i1.objs o;rw[BB _ _ _ _ DT,e0]at ho;obtain⟨t1,b,E,vs,a1,a2,a3,a4,a5⟩:=ho;have hl:(Az st.h r (.tok sz es.length) o).live:=by rw[BB _ _ _ _ DT,e0];trivial
    have Tq:=Sp cs k _ _ e1;have YQ:=hS.inv.objs o;rw[e0]at YQ;obtain⟨_,b',E',d8,a1',a2',a3',a4',_⟩:=YQ
    obtain⟨k1,k2⟩:=i1.upd o (.cells (Eb cs k (.slice (.id r sz) es))) (g1.ρ o) (g1.ln o) (g1.tk o) (g1.own o) g1.S w none ⟨rfl,rfl,rfl,Ai _⟩ (fun _ _ _=>rfl) (fun b e=>by cases e) (fun _ _ h=>h) (fun _ _ h=>.inl h)
     (fun b o e=>by cases e) (fun b' _ e=>⟨(i1.loc o b' hl e).1,.inl ⟨hl,e⟩⟩) B0 (fun _=>⟨rfl,Ai _,fun _=>rfl,fun _=>rfl⟩) (fun hg HJ=>by
      obtain⟨u1,u2,u3,u4⟩:=Ba g1 o (g1.ρ o) (g1.ln o) (g1.tk o) (g1.own o) g1.S;have Mf:∀i,Aw (Az st.h r (.tok sz es.length)) i->Aw (Az (Az st.h r (.tok sz es.length)) o (.cells (Eb cs k (.slice (.id r sz) es)))) i:=fun i hi=>CW B0 i hi;refine⟨u3.trans t1,b,E,vs,u4.trans a1,u1.trans a2,a3,⟨by rw[JH];exact a4.1,a4.2.1,fun i av x q1 q2=>?_⟩,a5⟩;rcases JG cs k _ i av q1 with ⟨rfl,rfl⟩ | q
      .have hx:=a4.2.2 i _ x Tq q2;have d7:x=g.ρ r:=by
        have ct:=i2.gh o (by grind [Aw]);have ay:vs=d8:=by
         simp_all
        subst ay
        have:=a4'.2.2 i _ x Tq q2
        grind [cases AT]
       grind [AT.mono]
      .exact(a4.2.2 i av x q q2).mono HJ Mf hg)
    exact⟨_,_,⟨k1,hS.le.trans (i2.trans k2),hS.dfs,hS.size,fun i=>((hS.slots i).le i2).le k2⟩,hk⟩
   simp_all
  simp_all
 simp_all
theorem nl{K:St->Prop}(hS:SR N ds w0 g0 h0 st g a w)(hk:uz cx o st K):∃DV g',SR N ds w0 g0 h0 DV g' a w/\K DV:=by
 have same:K st->∃DV g',SR N ds w0 g0 h0 DV g' a w/\K DV:=fun hk=>⟨st,g,hS,hk⟩;unfold uz at hk;split at hk
 .simp_all
 .split at hk
  .simp_all
  .rename_i s _;split at hk
   .rename_i r n ht;split at hk
    .rename_i sz es hr;obtain⟨hn,hk⟩:=hk;subst hn;have hI:=hS.inv;have ho:=hI.objs r;rw[hr]at ho;obtain⟨t1,l1,al,a2⟩:=ho;have hl:(st.h r).live:=by rw[hr];trivial
     have X4:=hS.slots s;rw[ht]at X4;have hval:a.tmps.getD s undef=g.ρ r:=by
      grind [cases AT]
     have fin:∀g',Cm w0 g0 h0 (Az st.h r (.tok sz es.length)) g' w->Le st.h g w (Az st.h r (.tok sz es.length)) g' w->AT g' w (Aw (Az st.h r (.tok sz es.length))) (.slice (.id r sz) es) (g.ρ r) ->
       ∃DV g',SR N ds w0 g0 h0 DV g' a w/\K DV:=fun g' i1 i2 i3=>by
      refine⟨_,g',⟨i1,hS.le.trans i2,hS.dfs,hS.size,fun i=>?_⟩,hk⟩
      grind [IG,CX,AT.le,SR.slots]
     rcases a2 with ⟨b1,b2,b3⟩ | ⟨b,cap,E,vs,b1,b2,b3,b4,b5,b6,b7⟩
     .subst b1
      obtain⟨k1,k2⟩:=hI.upd r (.tok sz 0) (g.ρ r) (g.ln r) (g.tk r) (g.own r) g.S w none ⟨rfl,rfl,rfl,Ai _⟩ (fun _ _ _=>rfl) (fun b e=>by cases e) (fun _ _ h=>h) (fun _ _ h=>.inl h)
       (fun b o e=>by cases e) (fun b' _ e=>⟨(hI.loc r b' hl e).1,.inl ⟨hl,e⟩⟩) B0 (fun _=>⟨rfl,Ai _,fun _=>rfl,fun _=>rfl⟩) (fun hg hk=>by
        obtain⟨u1,u2,u3,u4⟩:=Ba g r (g.ρ r) (g.ln r) (g.tk r) (g.own r) g.S;exact⟨u3.trans t1,u2.trans l1,none,0,u1.trans b2,.inl ⟨rfl,u4.trans b3⟩⟩)
      refine fin _ k1 k2 ?_;rw[b2];exact .tok _ r sz [] _ (.snil _ _ _) B0 (by unfold Aw;rw[AM];simp) (by simp[Gh.upd,t1]) B0 (fun _=>by simp[Gh.upd])
     .have Ez:=(hI.loc r b hl b2).1
      obtain⟨k1,k2⟩:=hI.upd r (.tok sz es.length) (g.ρ r) (g.ln r) (g.tk r) (g.own r) (g.more b (es.length*sz)) w none ⟨rfl,rfl,rfl,Ai _⟩ (fun _ _ _=>rfl) (fun b e=>by cases e) (fun _ _ h=>.inl h)
       (fun b' o hs=>hs.elim .inl (fun hs=>.inr ⟨by omega,.inr ⟨hl,by simp_all⟩⟩)) (fun b o e=>by cases e) (fun b' _ e=>⟨(hI.loc r b' hl e).1,.inl ⟨hl,e⟩⟩) B0
       (fun _=>⟨rfl,Ai _,fun _=>rfl,fun _=>rfl⟩) (fun hg hk=>by
        obtain⟨u1,u2,u3,u4⟩:=Ba g r (g.ρ r) (g.ln r) (g.tk r) (g.own r) (g.more b (es.length*sz));exact⟨u3.trans t1,u2.trans l1,_,cap,u1.trans b1,.inr ⟨b3,b,E,vs,0,rfl,u4.trans b2,.of b4,by omega,fun o ho=>by
         rcases ho with ho | ⟨_,ho⟩<;>simp_all⟩⟩)
      refine fin _ k1 k2 ?_;rw[b1];exact .tok _ r sz es _ (AT.slice_row b4 al b3 (b6.mono k2.keeps (fun _ h=>h) (fun _ h=>h.elim)) (fun o ho=>.inr ⟨rfl,ho⟩)) al (by grind [Aw,AM]) (by grind [Gh.upd]) (by grind [Gh.upd]) (fun _=>by simp[Gh.upd])
    simp_all
   simp_all
variable {cx:Cx}(hP:cx.P=P)(hT:BQ P cx.T)(hY:∀l σ h g w,DM σ=true->Cm w0 g0 h0 h g w->Le h0 g0 w0 h g w->cx.yp l σ (Dk σ g) w){ro:Option Nat}{ops:Array Oper}
include hP hT hY
theorem QU{dr:Bool}{o:Oper}(hd:∀i,o.dst=some i->i<N){K:St->Prop}{next:Act->World->Prop}{Q:Exit->Act->World->Prop}(hS:SR N ds w0 g0 h0 st g a w)(hk:H3 cx dr ops.toList o st K)
  (hn:∀DV g' a' w',K DV->SR N ds w0 g0 h0 DV g' a' w'->next a' w'):if Region.wanted o (yielded ops a.tmps)then o.wpIn (IM ro) 0 P a w next Q else next (a.put o.dst undef) w:=by
 have run:eT cx dr o st K->o.wpIn (IM ro) 0 P a w next Q:=by
  intro hk;unfold eT at hk;split at hk
  .exact eU hP hY hT hS hk fun v h' g' w' x q1 q2 q3 q4=>hn _ g' _ _ q1 (hS.put hd q2 q3 q4)
  .obtain⟨g1,ku⟩:=iC (cx:=cx) (o:=o) hS;obtain⟨DV,g',RH,hk⟩:=nl ku hk;exact eU hP hY hT RH hk fun v h' g' w' x q1 q2 q3 q4=>hn _ g' _ _ q1 (RH.put hd q2 q3 q4)
 have skip:K (st.put o.dst (.v undef) st.h)->next (a.put o.dst undef) w:=fun hk=>hn _ g _ _ hk (hS.put hd hS.inv (.refl _ _ _) (.v _ _))
 unfold H3 at hk;split at hk
 .grind [Region.wanted]
 .rename_i j want hg;split at hk
  .simp_all
  .rename_i d hj;have hy:∀x:Value,AT g w (Aw st.h) (st.t d) x->x=a.tmps.getD d undef->True:=fun _ _ _=>trivial;have hs:=hS.slots d;rw[Us]at hj;have key:∀b:Bool,a.tmps.getD d undef=.bool b->yielded ops a.tmps j=some b:=by
    intro b hb;have Ez:d<a.tmps.size:=by
     apply Nat.lt_of_not_le;intro rv;rw[Hj,Te rv]at hb;cases hb
    simp only[yielded,hj,Option.bind_some];simp_all
   have AcG:∀t,a.tmps.getD d undef=.tuple t->yielded ops a.tmps j=none:=by
    intro t hb;simp only[yielded,hj,Option.bind_some];cases he:a.tmps[d]?<;>simp_all
   grind [Region.wanted,AT.v_eq]
theorem UY{Q:Exit->Act->World->Prop}{K:St->Prop}(hQ:∀DV g' a' w',K DV->SR N ds w0 g0 h0 DV g' a' w'->Q .normal a' w') :
  ∀(l:List Oper),(∀o∈l,∀i,o.dst=some i->i<N)->∀{st:St} {g:Gh} {a:Act} {w:World},SR N ds w0 g0 h0 st g a w->Wg cx ops.toList l st K->wpListIn (IM ro) 0 P ops Q l a w
 | [],_,st,g,a,w,hS,hk=>hQ st g a w hk hS
 | [o],hd,st,g,a,w,hS,hk=>by
  have:=QU hP hT hY (ro:=ro) (hd o (Ad ..)) (next:=wpListIn (IM ro) 0 P ops Q []) (Q:=Q) hS hk fun DV g' a' w' q1 q2=>hQ DV g' a' w' q1 q2
  unfold wpListIn;split
  .simp_all
  .rename_i hw;rw[AO hw]at this;exact⟨fun _ _=>trivial,this⟩
 |o::o2::l,hd,st,g,a,w,hS,hk=>by
  cases hc:Xd o o2 with
  |true=>
   have hk:jY cx o st fun DV=>Wg cx ops.toList l DV K:=by
    grind [Wg]
   obtain⟨g1,g2,h1⟩:=jZ hT (ro:=ro) (o2:=o2) (hd o (Ad ..)) hc hS hk (next:=wpListIn (IM ro) 0 P ops Q l) (Q:=Q) fun DV g' a' w' q1 q2=>UY hQ l (fun o' rL=>hd o' (Af _ (Af _ rL))) q2 q1
   unfold wpListIn;rw[A1 (by grind [Region.wanted])];have e:(fun(a1:Act) (w1:World)=>o2.wpIn (IM ro) 0 P a1 w1 (wpListIn (IM ro) 0 P ops Q l) Q)=wpListIn (IM ro) 0 P ops Q (o2::l):=by
    grind [wpListIn,Region.wanted]
   simp_all
  |false=>
   have hk:H3 cx false ops.toList o st fun DV=>Wg cx ops.toList (o2::l) DV K:=by
    grind [Wg]
   have:=QU hP hT hY (ro:=ro) (hd o (Ad ..)) (next:=wpListIn (IM ro) 0 P ops Q (o2::l)) (Q:=Q) hS hk fun DV g' a' w' q1 q2=>UY hQ (o2::l) (fun o' rL=>hd o' (Af _ rL)) q2 q1
   unfold wpListIn;split
   .simp_all
   .rename_i hw;rw[AO hw]at this;exact⟨fun _ _=>trivial,this⟩
theorem UT{Q:Exit->Act->World->Prop}{K:St->Prop}{FT:Nat->ET}(hQ:∀DV g' a' w',K DV->SR N ds w0 g0 h0 DV g' a' w'->Q .normal a' w')(hd:∀(j:Nat) (o:Oper),ops[j]?=some o->∀i,o.dst=some i->i<N) :
  ∀(fuel:Nat) (listed:Array Bool) {st:St} {g:Gh} {a:Act} {w:World},SR N ds w0 g0 h0 st g a w->V9 cx ops FT K fuel listed st->wpAnyIn (IM ro) 0 P .any ops Q fuel listed a w
 |0,_,st,g,a,w,hS,hk=>⟨hk.1,hQ st g a w hk.2 hS⟩
 |fuel+1,listed,st,g,a,w,hS,hk=>by
  refine⟨fun h0=>hQ st g a w (hk.1 h0) hS,fun i hi=>?_⟩;have h1:=hk.2 i hi;unfold qd at h1;unfold wpOpIn;cases ho:ops[i]? with
  |none=>rw[ho]at h1;exact UT hQ hd fuel _ hS h1
  |some o=>
   rw[ho]at h1
   have:=QU hP hT hY (ro:=ro) (hd i o ho) (next:=wpAnyIn (IM ro) 0 P .any ops Q fuel (listed.setIfInBounds i true)) (Q:=Q) hS h1.2 fun DV g' a' w' q1 q2=>UT hQ hd fuel _ q2 q1
   dsimp only;split
   .simp_all
   .rename_i hw;rw[AO hw]at this;exact⟨fun _ _=>trivial,this⟩
end
theorem EH{r:Nat}(e:Qr h r=true):Aw h r:=by
 grind [Qr,Aw]
theorem AT.ids0{x:Value}(r:AT g w U av x)(e:ids0 h av=true):AT g w (Aw h) av x:=by
 cases r with
 |v=>exact .v _ _
 |junk=>exact .junk _ _
 |snil=>grind [snil]
 |slice _ es b off sz cap val hc hl CZ DH=>exact .slice _ es b off sz cap val hc hl CZ DH
 |tok _ r sz es x hs hl hu ht hn hx=>exact .tok _ r sz es x ((AT.slice_none hs).up _) hl (EH e) ht hn hx
 |ver _ r sz v es x hs hl hu ht hn hx=>exact .ver _ r sz v es x ((AT.slice_none hs).up _) hl (EH e) ht hn hx
 |full _ sz es x hs hl hx=>grind [full,AT.slice_none,up]
 |msl _ r n a cap hu ht hn ha hx=>exact .msl _ r n a cap (EH e) ht hn ha hx
 |agg=>cases e
 |tup=>cases e
 |cptr _ cs b off val CZ DH=>exact .cptr _ cs b off val CZ DH
 |ref _ r off b hu ht hx=>exact .ref _ r off b (EH e) ht hx
 |eref _ r n sz i off b cap hu ht hn hx=>exact .eref _ r n sz i off b cap (EH e) ht hn hx
 |mref _ r b hu ht hx=>exact .mref _ r b (EH e) ht hx
 |cmap _ sh BF b es ck hS hb hm hv=>grind [cmap]
 |clo=>cases e
theorem RU(e:W8 h cs=true)(hi:cs[i]?=some av):ids0 h av=true:=by
 induction cs generalizing i<;>grind [W8]
theorem gG(e:kX h cs=true)(hi:cs[i]?=some av):RT h av=true:=by
 induction cs generalizing i<;>grind [kX]
theorem cC{BF:List (Value×AV)}(e:PQ h BF=true){kv:Value×AV}(hi:BF[i]?=some kv):RT h kv.2=true:=by
 induction BF generalizing i<;>grind [PQ]
theorem AT.ids{x:Value}(r:AT g w U av x)(e:RT h av=true):AT g w (Aw h) av x:=by
 cases r with
 |agg _ cs vs hs h1 hr=>exact .agg _ cs vs hs h1 fun i av x q1 q2=>(hr i av x q1 q2).ids0 (RU e q1)
 |tup _ cs vs hs hr=>exact .tup _ cs vs hs fun i av x q1 q2=>(hr i av x q1 q2).ids0 (RU e q1)
 |clo _ f cs vs hs hr=>exact .clo _ f cs vs hs fun i av x q1 q2=>(hr i av x q1 q2).ids0 (RU e q1)
 |v=>exact .v _ _
 |junk=>exact .junk _ _
 |snil=>grind [snil]
 |slice _ es b off sz cap val hc hl CZ DH=>exact .slice _ es b off sz cap val hc hl CZ DH
 |tok _ r sz es x hs hl hu ht hn hx=>exact .tok _ r sz es x ((AT.slice_none hs).up _) hl (EH e) ht hn hx
 |ver _ r sz v es x hs hl hu ht hn hx=>exact .ver _ r sz v es x ((AT.slice_none hs).up _) hl (EH e) ht hn hx
 |full _ sz es x hs hl hx=>grind [full,AT.slice_none,up]
 |msl _ r n a cap hu ht hn ha hx=>exact .msl _ r n a cap (EH e) ht hn ha hx
 |cptr _ cs b off val CZ DH=>exact .cptr _ cs b off val CZ DH
 |ref _ r off b hu ht hx=>exact .ref _ r off b (EH e) ht hx
 |eref _ r n sz i off b cap hu ht hn hx=>exact .eref _ r n sz i off b cap (EH e) ht hn hx
 |mref _ r b hu ht hx=>exact .mref _ r b (EH e) ht hx
 |cmap _ sh BF b es ck hS hb hm hv=>grind [cmap]
theorem Xh{st:St}{h:Nat->HO}:∀{l:List (Nat×AV)},ui st h l->∀i,Rs l i=.junk\/(st.t i=Rs l i/\RT h (Rs l i)=true)
 | [],_,i=>.inl rfl
 |(j,a)::l,⟨h1,h2⟩,i=>by
  unfold Rs
  by_cases e:i=j
  .simp_all
  .simp only[CX e,F0];exact Xh h2 i
theorem Xg{st:St}{h hb:Nat->HO}(zv:∀j,hb j=.free\/(st.h j=hb j/\W7 h (hb j)=true)):∀{l:List (Nat×HO)},uh st h l->∀i,Ae l hb i=.free\/(st.h i=Ae l hb i/\W7 h (Ae l hb i)=true)
 | [],_,i=>zv i
 |(j,a)::l,⟨h1,h2⟩,i=>by
  unfold Ae
  by_cases e:i=j
  .simp_all
  .simp only[CX e,F0];exact Xg zv h2 i
def Kq(cx:Cx)(h0:Nat->HO):Prop:=match cx.ext with | false=>∀i,h0 i=.free | true=>∀i,h0 i≠.free->1000<=i/\i<2000
section
variable {P:Program}{N:Nat}{ds:List Deferred}{w0:World}{g0:Gh}{h0:Nat->HO}{st:St}{g:Gh}{a:Act}{w:World}{cx:Cx}
theorem SR.weaken(hE:Kq cx h0)(hS:SR N ds w0 g0 h0 st g a w){s:LS}(Il:St.le cx st s):SR N ds w0 g0 h0 s.st g a w:=by
 obtain⟨h1,h2,h3,h4⟩:=Il;have hT:=Xh h1;have hH:∀i,s.st.h i=.free\/(st.h i=s.st.h i/\W7 s.st.h (s.st.h i)=true):=Xg h3 h2;have Lb:∀r,(s.st.h r).live->(st.h r).live:=fun r hl=>by
  rcases hH r with e | ⟨e,_⟩
  .rw[e]at hl;exact hl.elim
  simp_all
 have hI:=hS.inv;refine⟨⟨hI.os,hI.tape,hI.output,hI.size,hI.frame,hI.slt,fun r=>?_,fun r r' b l l'=>hI.inj r r' b (Lb r l) (Lb r' l'),fun r b l=>hI.loc r b (Lb r l),hI.sg,hI.glob⟩,⟨hS.le.gh,fun i hi=>?_,hS.le.keeps⟩,hS.dfs,hS.size,fun i=>?_⟩
 .rcases hH r with e | ⟨e,e2⟩
  .rw[e];trivial
  .have ho:=hI.objs r;rw[e]at ho;generalize s.st.h r=o at ho e2;cases o with
   |cells cs=>
    obtain⟨t,b,E,vs,a1,a2,a3,a4,a5⟩:=ho;exact⟨t,b,E,vs,a1,a2,a3,⟨a4.1,a4.2.1,fun i av x q1 q2=>(a4.2.2 i av x q1 q2).ids (gG e2 q1)⟩,a5⟩
   |hol sz es i c av=>
    obtain⟨t,l,al,b,cap,E,vs,b1,b2,b3,b4,b5,b6,b7,b8,x,b9,X1⟩:=ho;exact⟨t,l,al,b,cap,E,vs,b1,b2,b3,b4,b5,b6,b7,b8,x,b9,X1.ids e2⟩
   |bld x=>
    obtain⟨t,b,p,v,a1,a2,a3,a4,a5,a6⟩:=ho;exact⟨t,b,p,v,a1,a2,a3,a4,a5.ids e2,a6⟩
   |mapU sh BF=>
    obtain⟨t,b,es,ck,a1,a2,a3,a4,a5,a6⟩:=ho;exact⟨t,b,es,ck,a1,a2,a3,a4,fun i kv e q1 q2=>(a5 i kv e q1 q2).ids (cC e2 q1),a6⟩
   |_=>exact ho
 .have hu:=hS.le.us i hi;unfold Kq at hE;split at hE
  .exact absurd (hE i) hi
  .rename_i hx;rw[hx]at h4;exact h4 i (hE i hi).1 (hE i hi).2 hu
 .show AT g w (Aw s.st.h) (Rs s.t i) _;rcases hT i with e | ⟨e,e2⟩
  .grind [AT.junk]
  .rw[<-e]at e2⊢;exact(hS.slots i).ids e2
def Ex.real:Ex->Exit
 |.normal=>.normal
 |.exit id=>.exit id
 |.ret=>.ret
def qK(N:Nat)(o:Oper):Bool:=match o.dst with | some d=>Nat.blt d N | none=>true
def DS(N:Nat):Code->Bool
 |.region _ ops _=>ops.toList.all (qK N)
 |.seq a b=>DS N a&&DS N b
 |.cond _ a b=>DS N a&&DS N b
 |.block _ c=>DS N c
 |.loop c=>DS N c
 |_=>true
theorem MJ(hP:cx.P=P)(hT:BQ P cx.T)(hm:P.follows .mixedOrders=true)(hE:Kq cx h0)(hY:∀l σ h g w,DM σ=true->Cm w0 g0 h0 h g w->Le h0 g0 w0 h g w->cx.yp l σ (Dk σ g) w)(ro:Option Nat):∀(c:Code),DS N c=true->∀{Qa:Ex->St->Prop} {Q:Exit->Act->World->Prop},
  (∀e st g a w,Qa e st->SR N ds w0 g0 h0 st g a w->Q e.real a w)->∀{st:St} {g:Gh} {a:Act} {w:World},SR N ds w0 g0 h0 st g a w->Qj cx c Qa st->c.wpIn (IM ro) 0 P Q a w:=by
 intro c
 induction c with
 |skip=>intro _ Qa Q hQ st g a w hS hk;exact wpIn_skip (hQ .normal _ _ _ _ hk hS)
 |label l=>intro _ Qa Q hQ st g a w hS hk;exact wpIn_label (hQ .normal _ _ _ _ hk hS)
 |exit id=>intro _ Qa Q hQ st g a w hS hk;exact wpIn_exit (hQ (.exit id) _ _ _ _ hk hS)
 |ret=>intro _ Qa Q hQ st g a w hS hk;exact wpIn_ret (hQ .ret _ _ _ _ hk hS)
 |region id ops dr=>
  intro hc Qa Q hQ st g a w hS hk;have hd:∀o∈ops.toList,∀i,o.dst=some i->i<N:=fun o ho i hi=>by
   have:=(AF.1 hc) o ho
   grind [qK,Nat.blt_eq]
  have go:∀(st:St) (g:Gh) (hS:SR N ds w0 g0 h0 st g a w) (pG : Cx),pG.P=P->BQ P pG.T->pG.yp=cx.yp->LJ pG ops dr st (Qa .normal)->(Code.region id ops dr).wpIn (IM ro) 0 P Q a w:=by
   intro st g hS pG hP hT hy hk;have hY:∀l σ h g w,DM σ=true->Cm w0 g0 h0 h g w->Le h0 g0 w0 h g w->pG.yp l σ (Dk σ g) w:=by rw[hy];exact hY
   unfold LJ at hk;split at hk
   .exact wpIn_region_list (UY hP hT hY (fun DV g' a' w' q1 q2=>hQ .normal _ _ _ _ q1 q2) ops.toList hd hS hk)
   .obtain⟨_,FT,hk⟩:=bx hk;obtain⟨i1,i2⟩:=hS.inv.heapEq (w':={ w with drawn:=w.drawn+1 }) ⟨rfl,rfl,rfl⟩ rfl;have RH : SR N ds w0 g0 h0 st g a { w with drawn:=w.drawn+1 }:=⟨i1,hS.le.trans i2,hS.dfs,hS.size,fun i=>(hS.slots i).le i2⟩;exact wpIn_region_any hm (UT hP hT hY (fun DV g' a' w' q1 q2=>hQ .normal _ _ _ _ q1 q2) (fun j o ho=>hd o (by grind)) _ _ RH hk)
  have tC:∀(st:St) (g:Gh) (hS:SR N ds w0 g0 h0 st g a w),(match cx.pl.dyn with | []=>LJ cx ops dr st (Qa .normal) | _=>∃n,LJ { cx with nid:=n } ops dr st (Qa .normal))->(Code.region id ops dr).wpIn (IM ro) 0 P Q a w:=by
   grind
  unfold Qj qJ at hk;split at hk
  .split at hk
   .split at hk
    .split at hk
     .obtain⟨h',g',RH,s,h1,h2⟩:=me hS hk;exact tC s.st _ (RH.weaken hE h1) h2
     .obtain⟨h',g',RH,s,h1,h2⟩:=nq hS hk;exact tC s.st _ (RH.weaken hE h1) h2
    .obtain⟨DV,g',RH,s,h1,h2⟩:=ns hS hk;exact tC s.st _ (RH.weaken hE h1) h2
   .obtain⟨h',g',RH,s,h1,h2⟩:=nv hS hk;exact tC s.st _ (RH.weaken hE h1) h2
  grind
 |seq x y ihx ihy=>
  intro hc Qa Q hQ st g a w hS hk;simp only[DS,Ag]at hc;refine wpIn_seq (ihx hc.1 (Qa:=fun e DV=>match e with | .normal=>Qj cx y Qa DV | e=>Qa e DV) (fun e st g a w q hS=>?_) hS hk);cases e with
  |normal=>exact ihy hc.2 hQ hS q
  |exit id=>exact hQ (.exit id) _ _ _ _ q hS
  |ret=>exact hQ .ret _ _ _ _ q hS
 |cond c x y ihx ihy=>
  intro hc Qa Q hQ st g a w hS hk;simp only[DS,Ag]at hc;have hr:=hS.eval c
  grind [wpIn_cond_true,wpIn_cond_false,AT.v_eq,Qj]
 |block id c ih=>
  intro hc Qa Q hQ st g a w hS hk;refine wpIn_block (ih hc (Qa:=fun e DV=>match e with | .exit j=>(bif Nat.beq j id then Qa .normal DV else Qa (.exit j) DV) | e=>Qa e DV) (fun e st g a w q hS=>?_) hS hk);cases e with
  |normal=>exact hQ .normal _ _ _ _ q hS
  |ret=>exact hQ .ret _ _ _ _ q hS
  |exit j=>
   show(if j=id then Q .normal a w else Q (.exit j) a w);dsimp only at q
   by_cases e:j=id
   .rw[A1 e];rw[e,Nat.beq_refl,cond_true]at q;exact hQ .normal _ _ _ _ q hS
   .rw[AO e];rw[CX e,F0]at q;exact hQ (.exit j) _ _ _ _ q hS
 |loop c ih=>
  intro hc Qa Q hQ st g a w hS hk;obtain⟨α,I,μ,⟨x,hx⟩,rg⟩:=hk;refine Qx (fun n a w=>∃x g,μ x=n/\SR N ds w0 g0 h0 (I x).st g a w) (μ x) ⟨x,g,rfl,hS.weaken hE hx⟩ ?_
  rintro n a w ⟨x,g,rfl,hS⟩
  refine ih hc (Qa:=fun e DV=>match e with | .normal=>∃y,μ y<μ x/\St.le cx DV (I y) | e=>Qa e DV) (fun e st g a w q hS=>?_) hS (rg x);cases e with
  |normal=>
   obtain⟨y,q1,q2⟩:=q;exact⟨μ y,q1,y,g,rfl,hS.weaken hE q2⟩
  |exit id=>exact hQ (.exit id) _ _ _ _ q hS
  |ret=>exact hQ .ret _ _ _ _ q hS
 |_=>intro _ Qa Q hQ st g a w hS hk;exact hk.elim
end
end Go.Eng
