/- Lemmas 14. -/
import Derived.Test.YtjhkbdgingfbaaaGreatDoorHA13
namespace Go.Eng
variable {cx:Cx}{o:Oper}
section
variable {P:Program}{N:Nat}{ds:List Deferred}{w0:World}{g0:Gh}{h0 h:Nat->HO}{st:St}{g:Gh}{a:Act}{w:World}
theorem eh(hI:Dr w0 g0 h0 h g w)(r:Nat):∃g',Dr w0 g0 h0 (lR h r) g' w/\Le h g w (lR h r) g' w:=by
 unfold lR;split
 .rename_i cs e0;have ho:=hI.objs r;rw[e0]at ho;obtain⟨t1,b,E,vs,a1,a2,a3,a4,a5⟩:=ho;have hl:(h r).live:=by rw[e0];trivial
  have Dx:=(hI.loc r b hl a1).1;have hs:=Qi hI a4
  obtain⟨k1,k2⟩:=hI.upd r (.ro (cs.map (str h))) (g.ρ r) (g.ln r) (g.tk r) none (g.more b cs.length) w none ⟨rfl,rfl,rfl,Ai _⟩ (fun _ _ _=>rfl) (fun b e=>by cases e) (fun _ _ h=>.inl h)
   (fun b' o hs=>hs.elim .inl (fun hs=>.inr ⟨by rw[hs.1];exact Dx,.inr ⟨hl,by rw[hs.1];exact a1⟩⟩)) (fun b o e=>by cases e) (fun b hh _=>by cases hh) B0
   (fun _=>⟨rfl,Ai _,fun _=>rfl,fun _=>rfl⟩) (fun hg hk=>by
    obtain⟨u1,u2,u3,u4⟩:=Bq g r (g.ρ r) (g.ln r) (g.tk r) none (g.more b cs.length);exact⟨u3.trans t1,b,u1.trans a2,Br.cptr_row a3 (hs.mono hk (fun _ h=>h) (fun _ h=>h.elim)) (fun o ho=>.inr ⟨rfl,by simpa using ho⟩)⟩)
  exact⟨_,k1,k2⟩
 .rename_i sh B7 e0;have ho:=hI.objs r;rw[e0]at ho;obtain⟨t1,b,es,ck,a1,a2,a3,a4,a5,a6⟩:=ho;obtain⟨g1,i1,i2,i3⟩:=Sj hI e0 a1 a2 a3 a4 a5 t1;exact⟨g1,i1,i2⟩
 .rename_i sh B7 e0;have ho:=hI.objs r;rw[e0]at ho;obtain⟨t1,b,es,ck,a1,a2,a3,a4,a5,a6⟩:=ho;obtain⟨g1,i1,i2,i3⟩:=Yw hI e0 a1 a2 a3 a4 a5 t1;exact⟨g1,i1,i2⟩
 .exact⟨g,hI,.refl _ _ _⟩
theorem Ku:∀(l:List Nat) {h:Nat->HO} {g:Gh},Dr w0 g0 h0 h g w->∃g',Dr w0 g0 h0 (NS h l) g' w/\Le h g w (NS h l) g' w
 | [],_,g,hI=>⟨g,hI,.refl _ _ _⟩
 |r::l,_,_,hI=>
  let ⟨_,i1,i2⟩:=eh hI r
  let ⟨g2,j1,j2⟩:=Ku l i1
  ⟨g2,j1,i2.trans j2⟩
theorem LG:∀(cs:List AV) (k:Nat) (v:AV) (i:Nat) (av:AV),(EP cs k v)[i]?=some av->(i=k/\av=v)\/cs[i]?=some av
 | [],_,_,_,_,h=>by simp[EP]at h
 |c::cs,0,v,i,av,h=>by
  unfold EP at h;cases i with
  |zero=>simp only[A4,Bk]at h;exact .inl ⟨rfl,h.symm⟩
  |succ i=>exact .inr h
 |c::cs,k+1,v,i,av,h=>by
  unfold EP at h;cases i with
  |zero=>exact .inr h
  |succ i=>
   rcases LG cs k v i av (by simpa using h)with ⟨e1,e2⟩ | e
   .exact .inl ⟨by omega,e2⟩
   .exact .inr (by simpa using e)
theorem LH:∀(cs:List AV) (k:Nat) (v:AV),(EP cs k v).length=cs.length
 | [],_,_=>rfl
 |_::_,0,_=>rfl
 |_::cs,k+1,v=>by unfold EP;simp[LH cs k v]
theorem aV:∀(cs:List AV) (k:Nat) (x:Value),JG cs k=.v x->cs[k]?=some (.v x)
 | [],_,_,h=>by simp[JG]at h
 |_::_,0,_,h=>by unfold JG at h;simp[h]
 |_::cs,k+1,x,h=>by unfold JG at h;simpa using aV cs k x h
theorem u7(hI:Dr w0 g0 h0 h g w)(r k j sz:Nat):∃g',Dr w0 g0 h0 (tz1 h r k j sz) g' w/\Le h g w (tz1 h r k j sz) g' w:=by
 have same:∃g',Dr w0 g0 h0 h g' w/\Le h g w h g' w:=⟨g,hI,.refl _ _ _⟩;unfold tz1;split
 .rename_i cs e0;split
  .rename_i e1;split
   .rename_i hj;have Dv:r≠j:=fun e=>by rw[e,hj]at e0;cases e0
    obtain⟨g1,i1,i2,i3⟩:=OJ hI (sz:=sz) (es:=[]) (a:=none) hj B0 rfl (.snil _ _ _);have ho:=i1.objs r;rw[BR _ _ _ _ Dv,e0]at ho;obtain⟨t1,b,E,vs,a1,a2,a3,a4,a5⟩:=ho;have hl:(AR h j (.tok sz 0) r).live:=by rw[BR _ _ _ _ Dv,e0];trivial
    have Dx:=(i1.loc r b hl a1).1;have Wx:=aV cs k _ e1
    obtain⟨k1,k2⟩:=i1.upd r (.cells (EP cs k (.slice (.id j sz) []))) (g1.ρ r) (g1.ln r) (g1.tk r) (g1.own r) g1.S w none ⟨rfl,rfl,rfl,Ai _⟩ (fun _ _ _=>rfl) (fun b e=>by cases e) (fun _ _ h=>h) (fun _ _ h=>.inl h)
     (fun b o e=>by cases e) (fun b' _ e=>⟨(i1.loc r b' hl e).1,.inl ⟨hl,e⟩⟩) B0 (fun _=>⟨rfl,Ai _,fun _=>rfl,fun _=>rfl⟩) (fun hg hk=>by
      obtain⟨u1,u2,u3,u4⟩:=Bq g1 r (g1.ρ r) (g1.ln r) (g1.tk r) (g1.own r) g1.S;have L9:∀i,AN (AR h j (.tok sz 0)) i->AN (AR (AR h j (.tok sz 0)) r (.cells (EP cs k (.slice (.id j sz) [])))) i:=fun i hi=>DV B0 i hi;refine⟨u3.trans t1,b,E,vs,u4.trans a1,u1.trans a2,a3,⟨by rw[LH];exact a4.1,a4.2.1,fun i av x q1 q2=>?_⟩,a5⟩;rcases LG cs k _ i av q1 with ⟨rfl,rfl⟩ | q
      .have:=(a4.2.2 i _ x Wx q2).v_eq
       subst this;exact i3.mono hk L9 hg
      .exact(a4.2.2 i av x q q2).mono hk L9 hg)
    exact⟨_,k1,i2.trans k2⟩
   .exact same
  .exact same
 .exact same
theorem nI(hS:SR N ds w0 g0 h0 st g a w):∃g',SR N ds w0 g0 h0 (nH cx o st) g' a w:=by
 unfold nH;split
 .exact⟨g,hS⟩
 .rename_i d _;split
  .obtain⟨g',h1,h2⟩:=u7 hS.inv _ _ _ _;exact⟨g',h1,hS.le.trans h2,hS.dfs,hS.size,fun i=>(hS.slots i).le h2⟩
  split
  .exact⟨g,hS⟩
  .obtain⟨g',h1,h2⟩:=Ku (sI cx.pl.fz d) hS.inv;exact⟨g',h1,hS.le.trans h2,hS.dfs,hS.size,fun i=>(hS.slots i).le h2⟩
theorem UN:∀(cs:List AV) (k:Nat) (r n:Nat),JG cs k=.msl r n->cs[k]?=some (.msl r n)
 | [],_,_,_,h=>by simp[JG]at h
 |_::_,0,_,_,h=>by unfold JG at h;simp[h]
 |_::cs,k+1,r,n,h=>by unfold JG at h;simpa using UN cs k r n h
theorem XK(hI:Dr w0 g0 h0 h g w){r sz:Nat}{es:List (List AV)}(hr:h r=.arr sz es) :
  ∃g',Dr w0 g0 h0 (AR h r (.tok sz es.length)) g' w/\Le h g w (AR h r (.tok sz es.length)) g' w/\Br g' w (AN (AR h r (.tok sz es.length))) (.slice (.id r sz) es) (g.ρ r)/\g.ln r=es.length:=by
 have ho:=hI.objs r;rw[hr]at ho;obtain⟨t1,l1,al,a2⟩:=ho;have hl:(h r).live:=by rw[hr];trivial
 rcases a2 with ⟨b1,b2,b3⟩ | ⟨b,cap,E,vs,b1,b2,b3,b4,b5,b6,b7⟩
 .subst b1
  obtain⟨k1,k2⟩:=hI.upd r (.tok sz 0) (g.ρ r) (g.ln r) (g.tk r) (g.own r) g.S w none ⟨rfl,rfl,rfl,Ai _⟩ (fun _ _ _=>rfl) (fun b e=>by cases e) (fun _ _ h=>h) (fun _ _ h=>.inl h)
   (fun b o e=>by cases e) (fun b' _ e=>⟨(hI.loc r b' hl e).1,.inl ⟨hl,e⟩⟩) B0 (fun _=>⟨rfl,Ai _,fun _=>rfl,fun _=>rfl⟩) (fun hg hk=>by
    obtain⟨u1,u2,u3,u4⟩:=Bq g r (g.ρ r) (g.ln r) (g.tk r) (g.own r) g.S;exact⟨u3.trans t1,u2.trans l1,none,0,u1.trans b2,.inl ⟨rfl,u4.trans b3⟩⟩)
  refine⟨_,k1,k2,?_,l1⟩;rw[b2];exact .tok _ r sz [] _ (.snil _ _ _) B0 (by unfold AN;rw[Ax,A3];simp) (by simp[Gh.upd,t1]) B0 (fun _=>by simp[Gh.upd])
 .have Dx:=(hI.loc r b hl b2).1
  obtain⟨k1,k2⟩:=hI.upd r (.tok sz es.length) (g.ρ r) (g.ln r) (g.tk r) (g.own r) (g.more b (es.length*sz)) w none ⟨rfl,rfl,rfl,Ai _⟩ (fun _ _ _=>rfl) (fun b e=>by cases e) (fun _ _ h=>.inl h)
   (fun b' o hs=>hs.elim .inl (fun hs=>.inr ⟨by rw[hs.1];exact Dx,.inr ⟨hl,by rw[hs.1];exact b2⟩⟩)) (fun b o e=>by cases e) (fun b' _ e=>⟨(hI.loc r b' hl e).1,.inl ⟨hl,e⟩⟩) B0
   (fun _=>⟨rfl,Ai _,fun _=>rfl,fun _=>rfl⟩) (fun hg hk=>by
    obtain⟨u1,u2,u3,u4⟩:=Bq g r (g.ρ r) (g.ln r) (g.tk r) (g.own r) (g.more b (es.length*sz));exact⟨u3.trans t1,u2.trans l1,_,cap,u1.trans b1,.inr ⟨b3,b,E,vs,0,rfl,u4.trans b2,.of b4,by rw[b5,A7],fun o ho=>by
     rcases ho with ho | ⟨_,ho⟩
     .exact absurd ho (b7 o)
     .omega⟩⟩)
  refine⟨_,k1,k2,?_,l1⟩;rw[b1];exact .tok _ r sz es _ (Br.slice_row b4 al b3 (b6.mono k2.keeps (fun _ h=>h) (fun _ h=>h.elim)) (fun o ho=>.inr ⟨rfl,ho⟩)) al (by unfold AN;rw[A3];simp) (by simp[Gh.upd,t1]) (by simp[Gh.upd,l1]) (fun _=>by simp[Gh.upd])
theorem Dr.move{w0:World}{g0:Gh}{h0 h:Nat->HO}{g:Gh}{w:World}(hI:Dr w0 g0 h0 h g w)(r r2:Nat)(Dv:r2≠r)(hf:h r2=.free)(hl:(h r).live){b:Nat}(ho:g.own r=some b)(o' : HO)(x:Value)(n:Nat)(t:Bool)(hn:o'≠.free)
  (JX:EV g w (g.upd r2 x n t (some b) g.S) w->DR (g.upd r2 x n t (some b) g.S) w (AN (AR (AR h r .dead) r2 o')) r2 o') :
  Dr w0 g0 h0 (AR (AR h r .dead) r2 o') (g.upd r2 x n t (some b) g.S) w/\Le h g w (AR (AR h r .dead) r2 o') (g.upd r2 x n t (some b) g.S) w:=by
 have kd:KI g (g.upd r2 x n t (some b) g.S) (AN h):=by
  intro i hi;have e:i≠r2:=fun e=>hi (by rw[e];exact hf);refine⟨by simp[Gh.upd,e],by simp[Gh.upd,e],fun _=>by simp[Gh.upd,e],fun _=>by simp[Gh.upd,e]⟩
 have hK:EV g w (g.upd r2 x n t (some b) g.S) w:=fun b o hb=>⟨hb,rfl,fun _ _ h=>h⟩;have L9:∀i,AN h i->AN (AR (AR h r .dead) r2 o') i:=fun i hi=>DV hn i (DV B0 i hi);have key:∀i,i≠r2->(AR (AR h r .dead) r2 o' i).live->i≠r/\(h i).live:=fun i h2 hl=>by
  rw[BR _ _ _ _ h2]at hl
  by_cases e:i=r
  .subst e;rw[A3]at hl;exact hl.elim
  .rw[BR _ _ _ _ e]at hl;exact⟨e,hl⟩
 have own:∀i,i≠r2->(g.upd r2 x n t (some b) g.S).own i=g.own i:=fun i e=>by simp[Gh.upd,e]
 have UT:(g.upd r2 x n t (some b) g.S).own r2=some b:=by simp[Gh.upd]
 refine⟨⟨hI.os,hI.tape,hI.output,hI.size,hI.frame,hI.slt,fun i=>?_,fun i j c hi hj ei ej=>?_,fun i c hi ei=>?_,hI.sg,hI.glob.keep hK⟩,kd,L9,hK⟩
 .by_cases e:i=r2
  .subst e;rw[A3];exact JX hK
  .rw[BR _ _ _ _ e]
   by_cases e1:i=r
   .subst e1;rw[A3];trivial
   .rw[BR _ _ _ _ e1];exact(hI.objs i).same hK L9 kd (by simp[Gh.upd,e]) (by simp[Gh.upd,e]) (by simp[Gh.upd,e]) (by simp[Gh.upd,e]) (fun b hl hb=>⟨rfl,fun k hk=>hk⟩)
 .by_cases e1:i=r2<;>by_cases e2:j=r2
  .exact e1.trans e2.symm
  .subst e1;rw[UT]at ei;rw[own j e2]at ej;cases ei;obtain⟨a1,a2⟩:=key j e2 hj;exact absurd (hI.inj j r _ a2 hl ej ho) a1
  .subst e2;rw[UT]at ej;rw[own i e1]at ei;cases ej;obtain⟨a1,a2⟩:=key i e1 hi;exact absurd (hI.inj i r _ a2 hl ei ho) a1
  .rw[own i e1]at ei;rw[own j e2]at ej;exact hI.inj i j c (key i e1 hi).2 (key j e2 hj).2 ei ej
 .by_cases e1:i=r2
  .subst e1;rw[UT]at ei;cases ei;exact hI.loc r _ hl ho
  .rw[own i e1]at ei;exact hI.loc i c (key i e1 hi).2 ei
theorem sH(hS:SR N ds w0 g0 h0 st g a w){s k:Nat}{K:St->Prop}(hk:asK st s k K):∃En g',SR N ds w0 g0 h0 En g' a w/\K En:=by
 have same:K st->∃En g',SR N ds w0 g0 h0 En g' a w/\K En:=fun hk=>⟨st,g,hS,hk⟩;unfold asK at hk;split at hk
 .rename_i r n ht;have Vw:=hS.slots s;rw[ht]at Vw;split at hk
  .rename_i sz es hr;have ho:=hS.inv.objs r;rw[hr]at ho;obtain⟨t1,l1,al,a2⟩:=ho;have hl:(st.h r).live:=by rw[hr];trivial
   have Kj:n=es.length->a.tmps.getD s undef=g.ρ r:=fun hn=>by
    generalize a.tmps.getD s undef=x at Vw;cases Vw with
    |msl _ r n a cap hu ht ae ha hx=>exact hx (hn.trans l1.symm)
   have fin:∀(h' : Nat->HO) (v:AV) (g' : Gh),Dr w0 g0 h0 h' g' w->Le st.h g w h' g' w->Br g' w (AN h') v (a.tmps.getD s undef)->SR N ds w0 g0 h0 ⟨HC st.t s v,h'⟩ g' a w:=fun h' v g' i1 i2 i3=>by
    refine⟨i1,hS.le.trans i2,hS.dfs,hS.size,fun i=>?_⟩;show Br g' w (AN h') (HC st.t s v i) _
    by_cases e:i=s
    .subst e
     have:HC st.t i v i=v:=by unfold HC;simp
     rw[this];exact i3
    .have:HC st.t s v i=st.t i:=by unfold HC;simp[B9 e]
     rw[this];exact(hS.slots i).le i2
   split at hk
   .obtain⟨hn,hk⟩:=hk;obtain⟨g1,i1,i2,i3,i4⟩:=XK hS.inv hr
    obtain⟨k1,k2⟩:=i1.upd r .dead (g1.ρ r) (g1.ln r) (g1.tk r) (g1.own r) g1.S w none ⟨rfl,rfl,rfl,Ai _⟩ (fun _ _ _=>rfl) (fun b e=>by cases e) (fun _ _ h=>h) (fun _ _ h=>.inl h) (fun b o e=>by cases e) (fun b hh _=>by cases hh) B0
     (fun _=>⟨rfl,Ai _,fun _=>rfl,fun _=>rfl⟩) (fun _ _=>trivial)
    exact⟨_,_,fin _ _ _ k1 (i2.trans k2) (by rw[Kj hn];exact(i3.slice_none.up _).le k2),hk⟩
   .rename_i k;split at hk
    .exact same hk
    .rename_i hb;have Dv:k+1≠r:=fun e=>by rw[e]at hb;exact absurd (CU r) (by rw[hb];decide)
     split at hk
     .rename_i hf;obtain⟨hn,hk⟩:=hk;rcases a2 with ⟨b1,b2,b3⟩ | ⟨b,cap,E,vs,b1,b2,b3,b4,b5,b6,b7⟩
      .subst b1;have hv:=Kj hn
       obtain⟨k1,k2⟩:=hS.inv.upd r .dead (g.ρ r) (g.ln r) (g.tk r) (g.own r) g.S w none ⟨rfl,rfl,rfl,Ai _⟩ (fun _ _ _=>rfl) (fun b e=>by cases e) (fun _ _ h=>h) (fun _ _ h=>.inl h) (fun b o e=>by cases e) (fun b hh _=>by cases hh) B0
        (fun _=>⟨rfl,Ai _,fun _=>rfl,fun _=>rfl⟩) (fun _ _=>trivial)
       have hf1:AR st.h r .dead (k+1)=.free:=by rw[BR _ _ _ _ Dv];exact hf
       obtain⟨m1,m2⟩:=k1.upd (k+1) (.arr sz []) (.slice none 0 0) 0 true none (g.upd r (g.ρ r) (g.ln r) (g.tk r) (g.own r) g.S).S w none ⟨rfl,rfl,rfl,Ai _⟩ (fun _ _ _=>rfl) (fun b e=>by cases e) (fun _ _ h=>h) (fun _ _ h=>.inl h) (fun b o e=>by cases e) (fun b _ e=>by cases e) B0
        (fun hu=>absurd hf1 hu) (fun _ _=>by
         obtain⟨u1,u2,u3,u4⟩:=Bq (g.upd r (g.ρ r) (g.ln r) (g.tk r) (g.own r) g.S) (k+1) (.slice none 0 0) 0 true none (g.upd r (g.ρ r) (g.ln r) (g.tk r) (g.own r) g.S).S;exact⟨u3,u2,by simp,.inl ⟨rfl,u1,u4⟩⟩)
       refine⟨_,_,fin _ _ _ m1 (k2.trans m2) ?_,hk⟩;rw[hv,b2,hn];exact .msl _ (k+1) 0 none 0 (by unfold AN;rw[A3];simp) (by simp[Gh.upd]) (AE _) (.inl rfl) (fun _=>by simp[Gh.upd])
      .have hv:=Kj hn;obtain⟨m1,m2⟩:=hS.inv.move r (k+1) Dv hf hl b2 (.arr sz es) (g.ρ r) es.length true B0 (fun Io=>by
        obtain⟨u1,u2,u3,u4⟩:=Bq g (k+1) (g.ρ r) es.length true (some b) g.S;exact⟨u3,u2,al,.inr ⟨b,cap,E,vs,u1.trans b1,u4,b3,b4,b5,b6.mono Io (fun _ h=>h) (fun _ h=>h.elim),b7⟩⟩)
       refine⟨_,_,fin _ _ _ m1 m2 ?_,hk⟩;rw[hv,b1,hn];exact .msl _ (k+1) es.length _ cap (by unfold AN;rw[A3];simp) (by simp[Gh.upd]) (by simp[Gh.upd]) (.inr ⟨b,rfl⟩) (fun _=>by simp[Gh.upd])
     .exact hk.elim
  .exact same hk
 .exact same hk
theorem sE(hS:SR N ds w0 g0 h0 st g a w){o k j:Nat}{K:(Nat->HO)->Prop}(hk:amK st.h o k j K):∃h' g',SR N ds w0 g0 h0 ⟨st.t,h'⟩ g' a w/\K h':=by
 unfold amK at hk;split at hk
 .rename_i cs e0;split at hk
  .rename_i r n e1;split at hk
   .rename_i sz es e2;split at hk
    .rename_i hf;obtain⟨hn,hk⟩:=hk;have ho:=hS.inv.objs r;rw[e2]at ho;obtain⟨t1,l1,al,a2⟩:=ho;have hl:(st.h r).live:=by rw[e2];trivial
     have Dv:j≠r:=fun e=>by rw[e,e2]at hf;cases hf
     have oV:o≠r:=fun e=>by rw[e,e2]at e0;cases e0
     have qh:o≠j:=fun e=>by rw[e,hf]at e0;cases e0
     -- the array goes to the new id,which stands for the same slice
     have step:∃g1,Dr w0 g0 h0 (AR (AR st.h r .dead) j (.arr sz es)) g1 w/\Le st.h g w (AR (AR st.h r .dead) j (.arr sz es)) g1 w/\g1.tk j=true/\g1.ln j=es.length/\g1.ρ j=g.ρ r:=by
      rcases a2 with ⟨b1,b2,b3⟩ | ⟨b,cap,E,vs,b1,b2,b3,b4,b5,b6,b7⟩
      .subst b1
       obtain⟨k1,k2⟩:=hS.inv.upd r .dead (g.ρ r) (g.ln r) (g.tk r) (g.own r) g.S w none ⟨rfl,rfl,rfl,Ai _⟩ (fun _ _ _=>rfl) (fun b e=>by cases e) (fun _ _ h=>h) (fun _ _ h=>.inl h) (fun b o e=>by cases e) (fun b hh _=>by cases hh) B0
        (fun _=>⟨rfl,Ai _,fun _=>rfl,fun _=>rfl⟩) (fun _ _=>trivial)
       have hf1:AR st.h r .dead j=.free:=by rw[BR _ _ _ _ Dv];exact hf
       obtain⟨m1,m2⟩:=k1.upd j (.arr sz []) (.slice none 0 0) 0 true none (g.upd r (g.ρ r) (g.ln r) (g.tk r) (g.own r) g.S).S w none ⟨rfl,rfl,rfl,Ai _⟩ (fun _ _ _=>rfl) (fun b e=>by cases e) (fun _ _ h=>h) (fun _ _ h=>.inl h) (fun b o e=>by cases e) (fun b _ e=>by cases e) B0
        (fun hu=>absurd hf1 hu) (fun _ _=>by
         obtain⟨u1,u2,u3,u4⟩:=Bq (g.upd r (g.ρ r) (g.ln r) (g.tk r) (g.own r) g.S) j (.slice none 0 0) 0 true none (g.upd r (g.ρ r) (g.ln r) (g.tk r) (g.own r) g.S).S;exact⟨u3,u2,by simp,.inl ⟨rfl,u1,u4⟩⟩)
       exact⟨_,m1,k2.trans m2,by simp[Gh.upd],by simp[Gh.upd],by simp[Gh.upd,b2]⟩
      .obtain⟨m1,m2⟩:=hS.inv.move r j Dv hf hl b2 (.arr sz es) (g.ρ r) es.length true B0 (fun Io=>by
        obtain⟨u1,u2,u3,u4⟩:=Bq g j (g.ρ r) es.length true (some b) g.S;exact⟨u3,u2,al,.inr ⟨b,cap,E,vs,u1.trans b1,u4,b3,b4,b5,b6.mono Io (fun _ h=>h) (fun _ h=>h.elim),b7⟩⟩)
       exact⟨_,m1,m2,by simp[Gh.upd],by simp[Gh.upd],by simp[Gh.upd]⟩
     obtain⟨g1,i1,i2,j1,j2,j3⟩:=step
     -- the cell
     have ho:=hS.inv.objs o;rw[e0]at ho;have rU:=i1.objs o;rw[BR _ _ _ _ qh,BR _ _ _ _ oV,e0]at rU;obtain⟨t2,b,E,vs,c1,c2,c3,c4,c5⟩:=rU;obtain⟨_,b',E',kr,pq,c2',c3',c4',_⟩:=ho;have hb:b'=b:=by
      have h2:=i2.gh o (by unfold AN;rw[e0];simp);have h3:=h2.2.2.1 (by assumption);rw[h3,c2']at c2;cases c2;rfl
     subst hb;rw[c3]at c3';cases c3';have Yl:(AR (AR st.h r .dead) j (.arr sz es) o).live:=by rw[BR _ _ _ _ qh,BR _ _ _ _ oV,e0];trivial
     have Wx:=UN cs k _ _ e1
     obtain⟨k1,k2⟩:=i1.upd o (.cells (EP cs k (.msl j n))) (g1.ρ o) (g1.ln o) (g1.tk o) (g1.own o) g1.S w none ⟨rfl,rfl,rfl,Ai _⟩ (fun _ _ _=>rfl) (fun b e=>by cases e) (fun _ _ h=>h) (fun _ _ h=>.inl h)
      (fun b o e=>by cases e) (fun b' _ e=>⟨(i1.loc o b' Yl e).1,.inl ⟨Yl,e⟩⟩) B0 (fun _=>⟨rfl,Ai _,fun _=>rfl,fun _=>rfl⟩) (fun hg VM=>by
       obtain⟨u1,u2,u3,u4⟩:=Bq g1 o (g1.ρ o) (g1.ln o) (g1.tk o) (g1.own o) g1.S;have L9:∀i,AN (AR (AR st.h r .dead) j (.arr sz es)) i->AN (AR (AR (AR st.h r .dead) j (.arr sz es)) o (.cells (EP cs k (.msl j n)))) i:=fun i hi=>DV B0 i hi;refine⟨u3.trans t2,_,E,vs,u4.trans c1,u1.trans c2,c3,⟨by rw[LH];exact c4.1,c4.2.1,fun i av x q1 q2=>?_⟩,c5⟩;rcases LG cs k _ i av q1 with ⟨rfl,rfl⟩ | q
       .have hx:=c4'.2.2 i _ x Wx q2;have hm:Br g1 w (AN (AR (AR st.h r .dead) j (.arr sz es))) (.msl j n) x:=by
         cases hx with
         |msl _ _ _ a cap hu ht' ae ha ME=>
         refine .msl _ _ _ _ _ (by unfold AN;rw[A3];simp) j1 ch ha (fun e=>?_);rw[j3];exact ME (hn.trans l1.symm)
        exact hm.mono VM L9 hg
       .exact(c4.2.2 i av x q q2).mono VM L9 hg)
     exact⟨_,_,⟨k1,hS.le.trans (i2.trans k2),hS.dfs,hS.size,fun i=>(hS.slots i).le (i2.trans k2)⟩,hk⟩
    .exact hk.elim
   .exact hk.elim
  .exact hk.elim
 .exact hk.elim
theorem Pl{h:Nat->HO}(hI:Dr w0 g0 h0 h g w){o k:Nat}{cs:List AV}(e0:h o=.cells cs){old new:AV}(hk:cs[k]?=some old)(D8:∀x:Value,Br g w (AN h) old x->Br g w (AN h) new x) :
  ∃g',Dr w0 g0 h0 (AR h o (.cells (EP cs k new))) g' w/\Le h g w (AR h o (.cells (EP cs k new))) g' w:=by
 have ho:=hI.objs o;rw[e0]at ho;obtain⟨t1,b,E,vs,a1,a2,a3,a4,a5⟩:=ho;have hl:(h o).live:=by rw[e0];trivial
 obtain⟨k1,k2⟩:=hI.upd o (.cells (EP cs k new)) (g.ρ o) (g.ln o) (g.tk o) (g.own o) g.S w none ⟨rfl,rfl,rfl,Ai _⟩ (fun _ _ _=>rfl) (fun b e=>by cases e) (fun _ _ h=>h) (fun _ _ h=>.inl h)
  (fun b o e=>by cases e) (fun b' _ e=>⟨(hI.loc o b' hl e).1,.inl ⟨hl,e⟩⟩) B0 (fun _=>⟨rfl,Ai _,fun _=>rfl,fun _=>rfl⟩) (fun hg VM=>by
   obtain⟨u1,u2,u3,u4⟩:=Bq g o (g.ρ o) (g.ln o) (g.tk o) (g.own o) g.S;have L9:∀i,AN h i->AN (AR h o (.cells (EP cs k new))) i:=fun i hi=>DV B0 i hi;refine⟨u3.trans t1,b,E,vs,u4.trans a1,u1.trans a2,a3,⟨by rw[LH];exact a4.1,a4.2.1,fun i av x q1 q2=>?_⟩,a5⟩;rcases LG cs k _ i av q1 with ⟨rfl,rfl⟩ | q
   .exact(D8 x (a4.2.2 i _ x hk q2)).mono VM L9 hg
   .exact(a4.2.2 i av x q q2).mono VM L9 hg)
 exact⟨_,k1,k2⟩
theorem JM:∀(cs:List AV) (k:Nat) (a:AV),JG cs k=a->a≠.junk->cs[k]?=some a
 | [],_,a,h,hn=>by simp only[JG]at h;exact absurd h.symm hn
 |_::_,0,_,h,_=>by unfold JG at h;simp[h]
 |_::cs,k+1,a,h,hn=>by unfold JG at h;simpa using JM cs k a h hn
theorem Dr.moveV{h:Nat->HO}(hI:Dr w0 g0 h0 h g w)(r r2 v:Nat)(Dv:r2≠r)(hf:h r2=.vox v)(hl:(h r).live)(o' : HO)(x:Value)(n:Nat)(hv:v<n)(hn:o'≠.free)
  (JX:EV g w (g.upd r2 x n true (g.own r) g.S) w->DR (g.upd r2 x n true (g.own r) g.S) w (AN (AR (AR h r .dead) r2 o')) r2 o') :
  Dr w0 g0 h0 (AR (AR h r .dead) r2 o') (g.upd r2 x n true (g.own r) g.S) w/\Le h g w (AR (AR h r .dead) r2 o') (g.upd r2 x n true (g.own r) g.S) w:=by
 have vM:=hI.objs r2;rw[hf]at vM;obtain⟨ht2,Yl⟩:=vM;have kd:KI g (g.upd r2 x n true (g.own r) g.S) (AN h):=by
  intro i hi
  by_cases e:i=r2
  .subst e;refine⟨by simp[Gh.upd,ht2],by simp[Gh.upd];omega,fun e=>(by rw[ht2]at e;cases e),fun e=>?_⟩;simp[Gh.upd]at e;omega
  .exact⟨by simp[Gh.upd,e],by simp[Gh.upd,e],fun _=>by simp[Gh.upd,e],fun _=>by simp[Gh.upd,e]⟩
 have hK:EV g w (g.upd r2 x n true (g.own r) g.S) w:=fun b o hb=>⟨hb,rfl,fun _ _ h=>h⟩;have L9:∀i,AN h i->AN (AR (AR h r .dead) r2 o') i:=fun i hi=>DV hn i (DV B0 i hi);have key:∀i,i≠r2->(AR (AR h r .dead) r2 o' i).live->i≠r/\(h i).live:=fun i h2 hl=>by
  rw[BR _ _ _ _ h2]at hl
  by_cases e:i=r
  .subst e;rw[A3]at hl;exact hl.elim
  .rw[BR _ _ _ _ e]at hl;exact⟨e,hl⟩
 have own:∀i,i≠r2->(g.upd r2 x n true (g.own r) g.S).own i=g.own i:=fun i e=>by simp[Gh.upd,e]
 have UT:(g.upd r2 x n true (g.own r) g.S).own r2=g.own r:=by simp[Gh.upd]
 refine⟨⟨hI.os,hI.tape,hI.output,hI.size,hI.frame,hI.slt,fun i=>?_,fun i j c hi hj ei ej=>?_,fun i c hi ei=>?_,hI.sg,hI.glob.keep hK⟩,kd,L9,hK⟩
 .by_cases e:i=r2
  .subst e;rw[A3];exact JX hK
  .rw[BR _ _ _ _ e]
   by_cases e1:i=r
   .subst e1;rw[A3];trivial
   .rw[BR _ _ _ _ e1];exact(hI.objs i).same hK L9 kd (by simp[Gh.upd,e]) (by simp[Gh.upd,e]) (by simp[Gh.upd,e]) (by simp[Gh.upd,e]) (fun b hl hb=>⟨rfl,fun k hk=>hk⟩)
 .by_cases e1:i=r2<;>by_cases e2:j=r2
  .exact e1.trans e2.symm
  .subst e1;rw[UT]at ei;rw[own j e2]at ej;obtain⟨a1,a2⟩:=key j e2 hj;exact absurd (hI.inj j r _ a2 hl ej ei) a1
  .subst e2;rw[UT]at ej;rw[own i e1]at ei;obtain⟨a1,a2⟩:=key i e1 hi;exact absurd (hI.inj i r _ a2 hl ei ej) a1
  .rw[own i e1]at ei;rw[own j e2]at ej;exact hI.inj i j c (key i e1 hi).2 (key j e2 hj).2 ei ej
 .by_cases e1:i=r2
  .subst e1;rw[UT]at ei;exact hI.loc r _ hl ei
  .rw[own i e1]at ei;exact hI.loc i c (key i e1 hi).2 ei
theorem u9(hS:SR N ds w0 g0 h0 st g a w){o k d:Nat}{K:(Nat->HO)->Prop}(hk:uvK st.h o k d K):∃h' g',SR N ds w0 g0 h0 ⟨st.t,h'⟩ g' a w/\K h':=by
 unfold uvK at hk;split at hk
 .rename_i cs e0;split at hk
  .rename_i r sz v es e1;split at hk
   .rename_i GW v' n e2;split at hk
    .rename_i hf;obtain⟨⟨rfl,rfl⟩,hk⟩:=hk;have ho:=hS.inv.objs r;rw[e2]at ho;obtain⟨t1,l1,a0,cap,r1,a2⟩:=ho;have hl:(st.h r).live:=by rw[e2];trivial
     have Dv:d≠r:=fun e=>by rw[e,e2]at hf;cases hf
     have oV:o≠r:=fun e=>by rw[e,e2]at e0;cases e0
     have hod:o≠d:=fun e=>by rw[e,hf]at e0;cases e0
     have Wx:=JM cs k _ e1 B0
     -- the value that stands in the cell
     have vK:=hS.inv.objs o;rw[e0]at vK;obtain⟨_,b',E',kr,c1,c2,c3,c4,_⟩:=vK;obtain⟨x,zW,_,kp⟩:=c4.at Wx;have vR:x=.slice a0 n cap/\es.length=n/\Br g w Fq (.slice .none es) x/\∀c∈es,c.length=sz:=by
      have h3:=kp.slice_none;cases kp with
      |ver _ _ _ _ _ _ h Y1 hu ht hn hx=>
       have:=hx l1.symm
       rw[r1]at this;subst this;refine⟨rfl,?_,h3,Y1⟩;cases h3 with
       |snil=>rfl
       |slice=>rfl
     obtain⟨hxe,hn,hx3,Y1⟩:=vR;subst hn;obtain⟨m1,m2⟩:=hS.inv.moveO r d Dv hf hl (ob:=g.own r) (fun c h=>h) (.tok sz es.length) (.slice a0 es.length cap) es.length true B0 (fun Io=>by
      obtain⟨u1,u2,u3,u4⟩:=Bq g d (.slice a0 es.length cap) es.length true (g.own r) g.S;refine⟨u3,u2,a0,cap,u1,?_⟩;rw[u4];exact a2)
     generalize VL:g.upd d (.slice a0 es.length cap) es.length true (g.own r) g.S=g1 at m1 m2;have gr:g1.tk r=true/\g1.ln r=v:=by rw[<-VL];simp[Gh.upd,Ne.symm Dv,t1,l1]
     have gd:g1.tk d=true/\g1.ln d=es.length/\g1.ρ d=.slice a0 es.length cap:=by rw[<-VL];simp[Gh.upd]
     -- the id keeps its version
     have hrd:(AR (AR st.h r .dead) d (.tok sz es.length)) r=.dead:=by rw[BR _ _ _ _ (RP Dv),A3]
     obtain⟨n1,n2⟩:=m1.upd r (.vox v) (g1.ρ r) (g1.ln r) (g1.tk r) (g1.own r) g1.S w none ⟨rfl,rfl,rfl,Ai _⟩ (fun _ _ _=>rfl) (fun b e=>by cases e) (fun _ _ h=>h) (fun _ _ h=>.inl h) (fun b o e=>by cases e) (fun b hh _=>by cases hh) B0
      (fun _=>⟨rfl,Ai _,fun _=>rfl,fun _=>rfl⟩) (fun _ _=>by
       obtain⟨u1,u2,u3,u4⟩:=Bq g1 r (g1.ρ r) (g1.ln r) (g1.tk r) (g1.own r) g1.S;exact⟨u3.trans gr.1,u2.trans gr.2⟩)
     have hh:AR (AR (AR st.h r .dead) d (.tok sz es.length)) r (.vox v)=AR (AR st.h r (.vox v)) d (.tok sz es.length):=by
      funext i
      unfold AR
      by_cases e:i=r
      .subst e;rw[CU,B9 (RP Dv)];rfl
      .rw[B9 e];rfl
     rw[hh]at n1 n2;generalize kh:g1.upd r (g1.ρ r) (g1.ln r) (g1.tk r) (g1.own r) g1.S=g2 at n1 n2;have zz:g2.tk d=true/\g2.ln d=es.length/\g2.ρ d=.slice a0 es.length cap:=by rw[<-kh];simp[Gh.upd,Dv,gd]
     have ti : (AR (AR st.h r (.vox v)) d (.tok sz es.length)) o=.cells cs:=by rw[BR _ _ _ _ hod,BR _ _ _ _ oV,e0]
     have L2:=m2.trans n2;have Agl:g2.ρ o=g.ρ o:=(L2.gh o (by unfold AN;rw[e0];simp)).2.2.1 (by assumption);obtain⟨g3,p1,p2⟩:=Pl n1 ti Wx (new:=.slice (.id d sz) es) (fun y hy=>by
      have h3:=hy.slice_none;have gr2:g2.ln r=v/\g2.ρ r=.slice a0 es.length cap:=by rw[<-kh,<-VL];simp[Gh.upd,Ne.symm Dv,l1,r1]
      have yq:y=.slice a0 es.length cap:=by
       cases hy with
       |ver _ _ _ _ _ _ h Y1 hu ht hn hx=>exact(hx gr2.1.symm).trans gr2.2
      subst yq;exact .tok _ d sz es _ (h3.up _) Y1 (by unfold AN;rw[A3];simp) zz.1 (by rw[zz.2.1];exact Ai _) (fun _=>zz.2.2.symm))
     exact⟨_,g3,⟨p1,hS.le.trans (L2.trans p2),hS.dfs,hS.size,fun i=>(hS.slots i).le (L2.trans p2)⟩,hk⟩
    .exact hk.elim
   .exact hk.elim
  .exact⟨_,g,hS,hk⟩
 .exact hk.elim
theorem nS(hS:SR N ds w0 g0 h0 st g a w){o k r:Nat}{K:(Nat->HO)->Prop}(hk:rvK st.h o k r K):∃h' g',SR N ds w0 g0 h0 ⟨st.t,h'⟩ g' a w/\K h':=by
 unfold rvK at hk;split at hk
 .rename_i cs e0;split at hk
  .rename_i d sz es e1;split at hk
   .rename_i GW n e2;split at hk
    .rename_i v hf;obtain⟨⟨hn,rfl⟩,hk⟩:=hk;subst hn;have ho:=hS.inv.objs d;rw[e2]at ho;obtain⟨t1,l1,a0,cap,r1,a2⟩:=ho;have hl:(st.h d).live:=by rw[e2];trivial
     have Dv:r≠d:=fun e=>by rw[e,e2]at hf;cases hf
     have hod:o≠d:=fun e=>by rw[e,e2]at e0;cases e0
     have oV:o≠r:=fun e=>by rw[e,hf]at e0;cases e0
     have Wx:=JM cs k _ e1 B0;obtain⟨m1,m2⟩:=hS.inv.moveV d r v Dv hf hl (.var sz (v+1) es.length) (.slice a0 es.length cap) (v+1) (Gf v) B0 (fun Io=>by
      obtain⟨u1,u2,u3,u4⟩:=Bq g r (.slice a0 es.length cap) (v+1) true (g.own d) g.S;refine⟨u3,u2,a0,cap,u1,?_⟩;rw[u4];exact a2)
     generalize VL:g.upd r (.slice a0 es.length cap) (v+1) true (g.own d) g.S=g1 at m1 m2;have gr:g1.tk r=true/\g1.ln r=v+1/\g1.ρ r=.slice a0 es.length cap:=by rw[<-VL];simp[Gh.upd]
     have gd:g1.ln d=es.length/\g1.ρ d=.slice a0 es.length cap:=by rw[<-VL];simp[Gh.upd,Ne.symm Dv,l1,r1]
     have ti : (AR (AR st.h d .dead) r (.var sz (v+1) es.length)) o=.cells cs:=by rw[BR _ _ _ _ oV,BR _ _ _ _ hod,e0]
     obtain⟨g3,p1,p2⟩:=Pl m1 ti Wx (new:=.slice (.ver r sz (v+1)) es) (fun y hy=>by
      have h3:=hy.slice_none;have yq:y=.slice a0 es.length cap/\∀c∈es,c.length=sz:=by
       cases hy with
       |tok _ _ _ _ _ h Y1 hu ht hn hx=>exact⟨(hx gd.1.symm).trans gd.2,Y1⟩
      obtain⟨yq,Y1⟩:=yq;subst yq;exact .ver _ r sz (v+1) es _ (h3.up _) Y1 (by unfold AN;rw[A3];simp) gr.1 (by rw[gr.2.1];exact Ai _) (fun _=>gr.2.2.symm))
     exact⟨_,g3,⟨p1,hS.le.trans (m2.trans p2),hS.dfs,hS.size,fun i=>(hS.slots i).le (m2.trans p2)⟩,hk⟩
    .exact hk.elim
   .exact hk.elim
  .exact⟨_,g,hS,hk⟩
 .exact hk.elim
theorem uJ(hS:SR N ds w0 g0 h0 st g a w){r:Nat}{K:(Nat->HO)->Prop}(hk:nvK st.h r K):∃h' g',SR N ds w0 g0 h0 ⟨st.t,h'⟩ g' a w/\K h':=by
 unfold nvK at hk;split at hk
 .rename_i hf
  obtain⟨m1,m2⟩:=hS.inv.upd r (.vox 0) (.slice none 0 0) 0 true none g.S w none ⟨rfl,rfl,rfl,Ai _⟩ (fun _ _ _=>rfl) (fun b e=>by cases e) (fun _ _ h=>h) (fun _ _ h=>.inl h) (fun b o e=>by cases e) (fun b hh _=>by cases hh) B0
   (fun hu=>absurd hf hu) (fun _ _=>by
    obtain⟨u1,u2,u3,u4⟩:=Bq g r (.slice none 0 0) 0 true none g.S;exact⟨u3,u2⟩)
  exact⟨_,_,⟨m1,hS.le.trans m2,hS.dfs,hS.size,fun i=>(hS.slots i).le m2⟩,hk⟩
 .exact hk.elim
theorem nP(hS:SR N ds w0 g0 h0 st g a w){o k:Nat}{K:(Nat->HO)->Prop}(hk:rmK st.h o k K):∃h' g',SR N ds w0 g0 h0 ⟨st.t,h'⟩ g' a w/\K h':=by
 unfold rmK at hk;split at hk
 .rename_i cs e0;split at hk
  .rename_i r e1;split at hk
   .rename_i sh B7 e2;have Wx:=JM cs k _ e1 B0;obtain⟨g3,p1,p2⟩:=Pl hS.inv e0 Wx (new:=.cmap sh B7) (fun y hy=>by
     have e3:rsv st.h (.mref r)=.cmap sh B7:=by
      show(match st.h r with | .rom sh B7=>AV.cmap sh B7 | _=>.mref r)=_;rw[e2]
     rw[<-e3];exact Br.rsv hS.inv.objs hy)
    exact⟨_,g3,⟨p1,hS.le.trans p2,hS.dfs,hS.size,fun i=>(hS.slots i).le p2⟩,hk⟩
   .exact hk.elim
  .exact hk.elim
 .exact hk.elim
theorem vr(hS:SR N ds w0 g0 h0 st g a w){o k j sz:Nat}{K:(Nat->HO)->Prop}(hk:zaK st.h o k j sz K):∃h' g',SR N ds w0 g0 h0 ⟨st.t,h'⟩ g' a w/\K h':=by
 unfold zaK at hk;split at hk
 .rename_i cs e0;split at hk
  .rename_i e1;split at hk
   .rename_i hf;have oV:o≠j:=fun e=>by rw[e,hf]at e0;cases e0
    have Wx:=JM cs k _ e1 B0
    obtain⟨m1,m2⟩:=hS.inv.upd j (.arr sz []) (.slice none 0 0) 0 true none g.S w none ⟨rfl,rfl,rfl,Ai _⟩ (fun _ _ _=>rfl) (fun b e=>by cases e) (fun _ _ h=>h) (fun _ _ h=>.inl h) (fun b o e=>by cases e) (fun b hh e=>by first | (cases e;done) | (exact absurd hh.2 B0)) B0
     (fun hu=>absurd hf hu) (fun _ _=>by
      obtain⟨u1,u2,u3,u4⟩:=Bq g j (.slice none 0 0) 0 true none g.S;exact⟨u3,u2,(fun cs hc=>by cases hc),.inl ⟨rfl,u1,u4⟩⟩)
    generalize VL:g.upd j (.slice none 0 0) 0 true none g.S=g1 at m1 m2;have gr:g1.tk j=true/\g1.ln j=0/\g1.ρ j=.slice none 0 0:=by rw[<-VL];simp[Gh.upd]
    have ti : (AR st.h j (.arr sz [])) o=.cells cs:=by rw[BR _ _ _ _ oV,e0]
    obtain⟨g3,p1,p2⟩:=Pl m1 ti Wx (new:=.msl j 0) (fun y hy=>by
     cases hy
     exact .msl _ j 0 none 0 (by unfold AN;rw[A3];simp) gr.1 (AE _) (.inl rfl) (fun _=>gr.2.2.symm))
    exact⟨_,g3,⟨p1,hS.le.trans (m2.trans p2),hS.dfs,hS.size,fun i=>(hS.slots i).le (m2.trans p2)⟩,hk⟩
   .exact hk.elim
  .exact hk.elim
 .exact hk.elim
theorem lp{id:Nat}(hS:SR N ds w0 g0 h0 st g a w){K:(Nat->HO)->Prop}(hk:fz0 cx id st.h fun h=>rm0 cx id h fun h=>yK cx id h fun h=>wd cx id h K):∃h' g',SR N ds w0 g0 h0 ⟨st.t,h'⟩ g' a w/\K h':=by
 have h1:∃h' g',SR N ds w0 g0 h0 ⟨st.t,h'⟩ g' a w/\rm0 cx id h' fun h=>yK cx id h fun h=>wd cx id h K:=by
  unfold fz0 at hk;split at hk
  .obtain⟨g',i1,i2⟩:=eh hS.inv _;exact⟨_,g',⟨i1,hS.le.trans i2,hS.dfs,hS.size,fun i=>(hS.slots i).le i2⟩,hk⟩
  .exact⟨_,g,hS,hk⟩
 obtain⟨h1,g1,S1,hk⟩:=h1;have h2:∃h' g',SR N ds w0 g0 h0 ⟨st.t,h'⟩ g' a w/\yK cx id h' fun h=>wd cx id h K:=by
  unfold rm0 at hk;split at hk
  .exact nP S1 hk
  .exact⟨_,g1,S1,hk⟩
 obtain⟨h2,g2,S2,hk⟩:=h2;have h3:∃h' g',SR N ds w0 g0 h0 ⟨st.t,h'⟩ g' a w/\wd cx id h' K:=by
  unfold yK at hk;split at hk
  .exact nP S2 hk
  .exact⟨_,g2,S2,hk⟩
 obtain⟨h3,g3,S3,hk⟩:=h3;unfold wd at hk;split at hk
 .exact vr S3 hk
 .exact⟨_,g3,S3,hk⟩
theorem tZ(hS:SR N ds w0 g0 h0 st g a w){r:Nat}{K:(Nat->HO)->Prop}(hk:hoK st.h r K):∃h' g',SR N ds w0 g0 h0 ⟨st.t,h'⟩ g' a w/\K h':=by
 unfold hoK at hk;split at hk
 .rename_i sz es i c j m er;split at hk
  .exact hk.elim
  .rename_i hb;have Dv:r≠j:=fun e=>by rw[e]at hb;exact absurd (CU j) (by rw[hb];decide)
   split at hk
   .rename_i fO qs ej;obtain⟨hm,cs,hi,hc,hk⟩:=hk;have ho:=hS.inv.objs r;rw[er]at ho;obtain⟨t1,l1,al,b,cap,E,vs,e1,e2,e3,e4,e5,e6,e7,e8,x,e9,w8⟩:=ho;obtain⟨g1,i1,i2,i3,i4⟩:=XK hS.inv ej;have iA:x=g.ρ j:=by
     cases w8 with
     |msl _ _ _ _ _ _ _ _ _ hz=>exact hz (hm.trans i4.symm)
    obtain⟨k1,k2⟩:=i1.upd j .dead (g1.ρ j) (g1.ln j) (g1.tk j) (g1.own j) g1.S w none ⟨rfl,rfl,rfl,Ai _⟩ (fun _ _ _=>rfl) (fun b e=>by cases e) (fun _ _ h=>h) (fun _ _ h=>.inl h) (fun b o e=>by cases e) (fun b hh _=>by cases hh) B0
     (fun _=>⟨rfl,Ai _,fun _=>rfl,fun _=>rfl⟩) (fun _ _=>trivial)
    generalize kh:g1.upd j (g1.ρ j) (g1.ln j) (g1.tk j) (g1.own j) g1.S=g2 at k1 k2;have D8:Br g2 w Fq (.slice .none qs) x:=by rw[iA];exact i3.slice_none.mono k2.keeps (fun _ h=>h) (fun _ h=>h.elim)
    have xc:AR (AR st.h j (.tok fO qs.length)) j .dead r=.hol sz es i c (.msl j m):=by rw[BR _ _ _ _ Dv,BR _ _ _ _ Dv,er]
    have zR:=k1.objs r;rw[xc]at zR;obtain⟨t1',zY,zr,b',Ln,E',kr,f1,f2,f3,f4,f5,f6,f7,f8,x',f9,f10⟩:=zR;have hl:(AR (AR st.h j (.tok fO qs.length)) j .dead r).live:=by rw[xc];trivial
    have hρ:g2.ρ r=g.ρ r:=by
     have q1:=(i2.trans k2).gh r (by unfold AN;rw[er];simp);exact q1.2.2.2 (zY.trans l1.symm)
    have cN:kr=vs:=by
     rw[f1,e1]at hρ;cases hρ;rw[f4]at e4;cases e4;rfl
    subst cN;have hxx:x'=x:=by rw[e9]at f9;cases f9;rfl
    subst hxx;have Dx:=(Ar.1 hi).1;have hcl:=zr cs (Av hi);have hfl:=MY zr hi c [AV.slice .none qs] (by simp only[Al,Ax];omega);have Ca:es.flatten.length=es.length*sz:=Dm zr
    obtain⟨m1,m2⟩:=k1.upd r (.arr sz (es.set i (over cs c [.slice .none qs]))) (g2.ρ r) (g2.ln r) (g2.tk r) (g2.own r) g2.S w none ⟨rfl,rfl,rfl,Ai _⟩ (fun _ _ _=>rfl) (fun b e=>by cases e) (fun _ _ h=>h) (fun _ _ h=>.inl h)
     (fun b o e=>by cases e) (fun b' _ e=>⟨(k1.loc r b' hl e).1,.inl ⟨hl,e⟩⟩) B0 (fun _=>⟨rfl,Ai _,fun _=>rfl,fun _=>rfl⟩) (fun hg Io=>by
      obtain⟨u1,u2,u3,u4⟩:=Bq g2 r (g2.ρ r) (g2.ln r) (g2.tk r) (g2.own r) g2.S;refine⟨u3.trans t1',u2.trans (by rw[CZ];exact zY),fun d hd=>?_,.inr ⟨b',Ln,E',kr,by rw[u1,f1,CZ],u4.trans f2,by rw[CZ];exact f3,f4,f5,?_,f7⟩⟩
      .rcases Jq hd with hd | rfl
       .exact zr d hd
       .rw[F1];exact hcl
      .rw[hfl,CZ];refine⟨by rw[F1];exact f6.1,f6.2.1,fun p av y q1 q2=>?_⟩;rw[F0 _ _ _ _ (by rw[Ca];simp only[Al,Ax];omega)]at q1;split at q1
       .rename_i hp;have rV:p=i*sz+c:=by simp only[Al,Ax]at hp;omega
        subst rV;rw[F7]at q1;cases q1
        have:y=x':=by
         rw[BI f8]at q2;rw[<-AI,q2]at f9;cases f9;rfl
        rw[this];exact D8.mono Io (fun _ h=>h) (fun _ h=>h.elim)
       .exact(f6.2.2 p av y q1 q2).mono Io (fun _ h=>h) (fun _ h=>h.elim))
    exact⟨_,_,⟨m1,hS.le.trans ((i2.trans k2).trans m2),hS.dfs,hS.size,fun i=>((hS.slots i).le (i2.trans k2)).le m2⟩,hk⟩
   .exact hk.elim
 .exact hk.elim
theorem rx{id:Nat}(hS:SR N ds w0 g0 h0 st g a w){K:(Nat->HO)->Prop}(hk:vd cx id st.h K):∃h' g',SR N ds w0 g0 h0 ⟨st.t,h'⟩ g' a w/\K h':=by
 unfold vd at hk;split at hk
 .exact u9 hS hk
 .split at hk
  .exact nS hS hk
  .split at hk
   .exact uJ hS hk
   .split at hk
    .exact tZ hS hk
    .exact lp hS hk
theorem sK(hS:SR N ds w0 g0 h0 st g a w){o k:Nat}{K:(Nat->HO)->Prop}(hk:azK st.h o k K):∃h' g',SR N ds w0 g0 h0 ⟨st.t,h'⟩ g' a w/\K h':=by
 have same:K st.h->∃h' g',SR N ds w0 g0 h0 ⟨st.t,h'⟩ g' a w/\K h':=fun hk=>⟨st.h,g,hS,hk⟩;unfold azK at hk;split at hk
 .rename_i cs e0;split at hk
  .rename_i r n e1;split at hk
   .rename_i sz es e2;obtain⟨rfl,hk⟩:=hk;have Dv:o≠r:=fun e=>by rw[e,e2]at e0;cases e0
    obtain⟨g1,i1,i2,i3,i4⟩:=XK hS.inv e2;have ho:=i1.objs o;rw[BR _ _ _ _ Dv,e0]at ho;obtain⟨t1,b,E,vs,a1,a2,a3,a4,a5⟩:=ho;have hl:(AR st.h r (.tok sz es.length) o).live:=by rw[BR _ _ _ _ Dv,e0];trivial
    have Wx:=UN cs k _ _ e1;have Ym:=hS.inv.objs o;rw[e0]at Ym;obtain⟨_,b',E',kr,a1',a2',a3',a4',_⟩:=Ym
    obtain⟨k1,k2⟩:=i1.upd o (.cells (EP cs k (.slice (.id r sz) es))) (g1.ρ o) (g1.ln o) (g1.tk o) (g1.own o) g1.S w none ⟨rfl,rfl,rfl,Ai _⟩ (fun _ _ _=>rfl) (fun b e=>by cases e) (fun _ _ h=>h) (fun _ _ h=>.inl h)
     (fun b o e=>by cases e) (fun b' _ e=>⟨(i1.loc o b' hl e).1,.inl ⟨hl,e⟩⟩) B0 (fun _=>⟨rfl,Ai _,fun _=>rfl,fun _=>rfl⟩) (fun hg Io=>by
      obtain⟨u1,u2,u3,u4⟩:=Bq g1 o (g1.ρ o) (g1.ln o) (g1.tk o) (g1.own o) g1.S;have L9:∀i,AN (AR st.h r (.tok sz es.length)) i->AN (AR (AR st.h r (.tok sz es.length)) o (.cells (EP cs k (.slice (.id r sz) es)))) i:=fun i hi=>DV B0 i hi;refine⟨u3.trans t1,b,E,vs,u4.trans a1,u1.trans a2,a3,⟨by rw[LH];exact a4.1,a4.2.1,fun i av x q1 q2=>?_⟩,a5⟩;rcases LG cs k _ i av q1 with ⟨rfl,rfl⟩ | q
      .have hx:=a4.2.2 i _ x Wx q2;have iA:x=g.ρ r:=by
        have VL:=i2.gh o (by unfold AN;rw[e0];simp);have cN:vs=kr:=by
         have e3:g1.ρ o=g.ρ o:=VL.2.2.1 (by
          have:=(hS.inv.objs o);rw[e0]at this;exact this.1)
         rw[a2,a2']at e3;cases e3;rw[a3]at a3';cases a3';rfl
        subst cN
        have:=a4'.2.2 i _ x Wx q2
        cases this with
        |msl _ _ _ _ _ _ _ _ _ hz=>exact hz i4.symm
       rw[iA];exact i3.mono Io L9 hg
      .exact(a4.2.2 i av x q q2).mono Io L9 hg)
    exact⟨_,_,⟨k1,hS.le.trans (i2.trans k2),hS.dfs,hS.size,fun i=>((hS.slots i).le i2).le k2⟩,hk⟩
   .exact same hk
  .exact same hk
 .exact same hk
theorem sC{K:St->Prop}(hS:SR N ds w0 g0 h0 st g a w)(hk:akK cx o st K):∃En g',SR N ds w0 g0 h0 En g' a w/\K En:=by
 have same:K st->∃En g',SR N ds w0 g0 h0 En g' a w/\K En:=fun hk=>⟨st,g,hS,hk⟩;unfold akK at hk;split at hk
 .exact same hk
 .split at hk
  .exact same hk
  .rename_i s _;split at hk
   .rename_i r n ht;split at hk
    .rename_i sz es hr;obtain⟨hn,hk⟩:=hk;subst hn;have hI:=hS.inv;have ho:=hI.objs r;rw[hr]at ho;obtain⟨t1,l1,al,a2⟩:=ho;have hl:(st.h r).live:=by rw[hr];trivial
     have Vw:=hS.slots s;rw[ht]at Vw;have Kj:a.tmps.getD s undef=g.ρ r:=by
      generalize a.tmps.getD s undef=x at Vw;cases Vw with
      |msl _ r n a cap hu ht hn ha hx=>exact hx l1.symm
     have fin:∀g',Dr w0 g0 h0 (AR st.h r (.tok sz es.length)) g' w->Le st.h g w (AR st.h r (.tok sz es.length)) g' w->Br g' w (AN (AR st.h r (.tok sz es.length))) (.slice (.id r sz) es) (g.ρ r) ->
       ∃En g',SR N ds w0 g0 h0 En g' a w/\K En:=fun g' i1 i2 i3=>by
      refine⟨_,g',⟨i1,hS.le.trans i2,hS.dfs,hS.size,fun i=>?_⟩,hk⟩;show Br g' w (AN (AR st.h r (.tok sz es.length))) (HC st.t s (.slice (.id r sz) es) i) _
      by_cases e:i=s
      .subst e
       have:HC st.t i (.slice (.id r sz) es) i=.slice (.id r sz) es:=by unfold HC;simp
       rw[this,Kj];exact i3
      .have:HC st.t s (.slice (.id r sz) es) i=st.t i:=by unfold HC;simp[B9 e]
       rw[this];exact(hS.slots i).le i2
     rcases a2 with ⟨b1,b2,b3⟩ | ⟨b,cap,E,vs,b1,b2,b3,b4,b5,b6,b7⟩
     .subst b1
      obtain⟨k1,k2⟩:=hI.upd r (.tok sz 0) (g.ρ r) (g.ln r) (g.tk r) (g.own r) g.S w none ⟨rfl,rfl,rfl,Ai _⟩ (fun _ _ _=>rfl) (fun b e=>by cases e) (fun _ _ h=>h) (fun _ _ h=>.inl h)
       (fun b o e=>by cases e) (fun b' _ e=>⟨(hI.loc r b' hl e).1,.inl ⟨hl,e⟩⟩) B0 (fun _=>⟨rfl,Ai _,fun _=>rfl,fun _=>rfl⟩) (fun hg hk=>by
        obtain⟨u1,u2,u3,u4⟩:=Bq g r (g.ρ r) (g.ln r) (g.tk r) (g.own r) g.S;exact⟨u3.trans t1,u2.trans l1,none,0,u1.trans b2,.inl ⟨rfl,u4.trans b3⟩⟩)
      refine fin _ k1 k2 ?_;rw[b2];exact .tok _ r sz [] _ (.snil _ _ _) B0 (by unfold AN;rw[A3];simp) (by simp[Gh.upd,t1]) B0 (fun _=>by simp[Gh.upd])
     .have Dx:=(hI.loc r b hl b2).1
      obtain⟨k1,k2⟩:=hI.upd r (.tok sz es.length) (g.ρ r) (g.ln r) (g.tk r) (g.own r) (g.more b (es.length*sz)) w none ⟨rfl,rfl,rfl,Ai _⟩ (fun _ _ _=>rfl) (fun b e=>by cases e) (fun _ _ h=>.inl h)
       (fun b' o hs=>hs.elim .inl (fun hs=>.inr ⟨by rw[hs.1];exact Dx,.inr ⟨hl,by rw[hs.1];exact b2⟩⟩)) (fun b o e=>by cases e) (fun b' _ e=>⟨(hI.loc r b' hl e).1,.inl ⟨hl,e⟩⟩) B0
       (fun _=>⟨rfl,Ai _,fun _=>rfl,fun _=>rfl⟩) (fun hg hk=>by
        obtain⟨u1,u2,u3,u4⟩:=Bq g r (g.ρ r) (g.ln r) (g.tk r) (g.own r) (g.more b (es.length*sz));exact⟨u3.trans t1,u2.trans l1,_,cap,u1.trans b1,.inr ⟨b3,b,E,vs,0,rfl,u4.trans b2,.of b4,by rw[b5,A7],fun o ho=>by
         rcases ho with ho | ⟨_,ho⟩
         .exact absurd ho (b7 o)
         .omega⟩⟩)
      refine fin _ k1 k2 ?_;rw[b1];exact .tok _ r sz es _ (Br.slice_row b4 al b3 (b6.mono k2.keeps (fun _ h=>h) (fun _ h=>h.elim)) (fun o ho=>.inr ⟨rfl,ho⟩)) al (by unfold AN;rw[A3];simp) (by simp[Gh.upd,t1]) (by simp[Gh.upd,l1]) (fun _=>by simp[Gh.upd])
    .exact same hk
   .exact same hk
variable {cx:Cx}(hP:cx.P=P)(hT:Ci P cx.T)(hY:∀l σ h g w,Ef σ=true->Dr w0 g0 h0 h g w->Le h0 g0 w0 h g w->cx.yp l σ (CL σ g) w){ro:Option Nat}{ops:Array Oper}
include hP hT hY
theorem Tx{dr:Bool}{o:Oper}(hd:∀i,o.dst=some i->i<N){K:St->Prop}{next:Act->World->Prop}{Q:Exit->Act->World->Prop}(hS:SR N ds w0 g0 h0 st g a w)(hk:HF cx dr ops.toList o st K)
  (hn:∀En g' a' w',K En->SR N ds w0 g0 h0 En g' a' w'->next a' w'):if Region.wanted o (yielded ops a.tmps)then o.wpIn (In ro) 0 P a w next Q else next (a.put o.dst undef) w:=by
 have run:kG cx dr o st K->o.wpIn (In ro) 0 P a w next Q:=by
  intro hk;unfold kG at hk;split at hk
  .exact kH hP hY hT hS hk fun v h' g' w' x q1 q2 q3 q4=>hn _ g' _ _ q1 (hS.put hd q2 q3 q4)
  .obtain⟨g1,bH⟩:=nI (cx:=cx) (o:=o) hS;obtain⟨En,g',OW,hk⟩:=sC bH hk;exact kH hP hY hT OW hk fun v h' g' w' x q1 q2 q3 q4=>hn _ g' _ _ q1 (OW.put hd q2 q3 q4)
 have skip:K (st.put o.dst (.v undef) st.h)->next (a.put o.dst undef) w:=fun hk=>hn _ g _ _ hk (hS.put hd hS.inv (.refl _ _ _) (.v _ _))
 unfold HF at hk;split at hk
 .rename_i hg;rw[As (by simp[Region.wanted,hg])];exact run hk
 .rename_i j want hg;split at hk
  .exact hk.elim
  .rename_i d hj;have hy:∀x:Value,Br g w (AN st.h) (st.t d) x->x=a.tmps.getD d undef->True:=fun _ _ _=>trivial;have hs:=hS.slots d;rw[WR]at hj;have key:∀b:Bool,a.tmps.getD d undef=.bool b->yielded ops a.tmps j=some b:=by
    intro b hb;have Dx:d<a.tmps.size:=by
     apply Nat.lt_of_not_le;intro tM;rw[Ce,K4 tM]at hb;cases hb
    simp only[yielded,hj,Option.bind_some];rw[Ce,Bj Dx]at hb;rw[Bj Dx];simp only[CB]at hb;rw[hb]
   have Acr:∀t,a.tmps.getD d undef=.tuple t->yielded ops a.tmps j=none:=by
    intro t hb;simp only[yielded,hj,Option.bind_some];cases he:a.tmps[d]? with
    |none=>rfl
    |some x=>
     rw[Ce,he]at hb;simp only[CB]at hb;rw[hb]
   generalize hx:st.t d=x at hk hs;split at hk
   .have:=key true hs.v_eq
    rw[As (by simp[Region.wanted,hg,this])];exact run hk
   .have:=key false hs.v_eq
    rw[As (by simp[Region.wanted,hg,this])];exact run hk
   .have:=key true hs.v_eq
    rw[Ah (by simp[Region.wanted,hg,this])];exact skip hk
   .have:=key false hs.v_eq
    rw[Ah (by simp[Region.wanted,hg,this])];exact skip hk
   .have:=Acr _ hs.v_eq
    rw[Ah (by simp[Region.wanted,hg,this])];exact skip hk
   .exact hk.elim
theorem XI{Q:Exit->Act->World->Prop}{K:St->Prop}(hQ:∀En g' a' w',K En->SR N ds w0 g0 h0 En g' a' w'->Q .normal a' w') :
  ∀(l:List Oper),(∀o∈l,∀i,o.dst=some i->i<N)->∀{st:St} {g:Gh} {a:Act} {w:World},SR N ds w0 g0 h0 st g a w->VC cx ops.toList l st K->wpListIn (In ro) 0 P ops Q l a w
 | [],_,st,g,a,w,hS,hk=>hQ st g a w hk hS
 | [o],hd,st,g,a,w,hS,hk=>by
  have:=Tx hP hT hY (ro:=ro) (hd o (Ab ..)) (next:=wpListIn (In ro) 0 P ops Q []) (Q:=Q) hS hk fun En g' a' w' q1 q2=>hQ En g' a' w' q1 q2
  unfold wpListIn;split
  .rename_i hw;rw[As hw]at this;exact this
  .rename_i hw;rw[Ah hw]at this;exact⟨fun _ _=>trivial,this⟩
 |o::o2::l,hd,st,g,a,w,hS,hk=>by
  cases hc:Us o o2 with
  |true=>
   have hk:gM cx o st fun En=>VC cx ops.toList l En K:=by
    have IA:(match Us o o2 with
     |true=>gM cx o st fun En=>VC cx ops.toList l En K
     |false=>HF cx false ops.toList o st fun En=>VC cx ops.toList (o2::l) En K):=hk
    rw[hc]at IA;exact IA
   obtain⟨g1,g2,h1⟩:=pF hT (ro:=ro) (o2:=o2) (hd o (Ab ..)) hc hS hk (next:=wpListIn (In ro) 0 P ops Q l) (Q:=Q) fun En g' a' w' q1 q2=>XI hQ l (fun o' rT=>hd o' (Ae _ (Ae _ rT))) q2 q1
   unfold wpListIn;rw[As (by simp[Region.wanted,g1])];have e:(fun(a1:Act) (w1:World)=>o2.wpIn (In ro) 0 P a1 w1 (wpListIn (In ro) 0 P ops Q l) Q)=wpListIn (In ro) 0 P ops Q (o2::l):=by
    funext a1 w1
    unfold wpListIn;rw[As (by simp[Region.wanted,g2])]
   rw[<-e];exact h1
  |false=>
   have hk:HF cx false ops.toList o st fun En=>VC cx ops.toList (o2::l) En K:=by
    have IA:(match Us o o2 with
     |true=>gM cx o st fun En=>VC cx ops.toList l En K
     |false=>HF cx false ops.toList o st fun En=>VC cx ops.toList (o2::l) En K):=hk
    rw[hc]at IA;exact IA
   have:=Tx hP hT hY (ro:=ro) (hd o (Ab ..)) (next:=wpListIn (In ro) 0 P ops Q (o2::l)) (Q:=Q) hS hk fun En g' a' w' q1 q2=>XI hQ (o2::l) (fun o' rT=>hd o' (Ae _ rT)) q2 q1
   unfold wpListIn;split
   .rename_i hw;rw[As hw]at this;exact this
   .rename_i hw;rw[Ah hw]at this;exact⟨fun _ _=>trivial,this⟩
theorem XC{Q:Exit->Act->World->Prop}{K:St->Prop}{FT:Nat->FJ}(hQ:∀En g' a' w',K En->SR N ds w0 g0 h0 En g' a' w'->Q .normal a' w')(hd:∀(j:Nat) (o:Oper),ops[j]?=some o->∀i,o.dst=some i->i<N) :
  ∀(fuel:Nat) (listed:Array Bool) {st:St} {g:Gh} {a:Act} {w:World},SR N ds w0 g0 h0 st g a w->Za cx ops FT K fuel listed st->wpAnyIn (In ro) 0 P .any ops Q fuel listed a w
 |0,_,st,g,a,w,hS,hk=>⟨hk.1,hQ st g a w hk.2 hS⟩
 |fuel+1,listed,st,g,a,w,hS,hk=>by
  refine⟨fun h0=>hQ st g a w (hk.1 h0) hS,fun i hi=>?_⟩;have h1:=hk.2 i hi;unfold wl at h1;unfold wpOpIn;cases ho:ops[i]? with
  |none=>rw[ho]at h1;exact XC hQ hd fuel _ hS h1
  |some o=>
   rw[ho]at h1
   have:=Tx hP hT hY (ro:=ro) (hd i o ho) (next:=wpAnyIn (In ro) 0 P .any ops Q fuel (listed.setIfInBounds i true)) (Q:=Q) hS h1.2 fun En g' a' w' q1 q2=>XC hQ hd fuel _ q2 q1
   dsimp only;split
   .rename_i hw;rw[As hw]at this;exact this
   .rename_i hw;rw[Ah hw]at this;exact⟨fun _ _=>trivial,this⟩
end
end Go.Eng
