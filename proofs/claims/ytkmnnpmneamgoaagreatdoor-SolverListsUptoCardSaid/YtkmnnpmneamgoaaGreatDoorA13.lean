/- Lemmas for the claims of this seat, without a condition: part 13 (EngZB, EngZC). -/
import Derived.Test.YtkmnnpmneamgoaaGreatDoorA12
namespace Go.Eng

section
variable {P:Program}{N:Nat}{ds:List Deferred}{w0:World}{g0:Gh}{h0:Nat→HO}{st:St}{g:Gh}{a:Act}{w:World}

theorem W4{cx:Cx}(hT:Cu P cx.T){b:Builtin}{args:Array Operand}{G4:Array TypeId}{dst:Option Nat}{ty:Nat}{pos:String}{after:Array Edge}{gd:Option (Nat×Bool)}{K:HK}{next:Act→World→Prop}{Q:Exit→Act→World→Prop}
  (hS:SR N ds w0 g0 h0 st g a w) (hk:F7 cx dst st.h b G4.toList (args.toList.map (ev st.t)) K)
  (hn:YI w0 g0 h0 st.h g w K fun x w'=>next (a.put dst x) w'):Oper.wp P ⟨dst,.call ⟨.builtin b,args,G4⟩,ty,pos,after,gd⟩ a w next Q:=by
 have hI:=hS.inv;have hE:=hS.eval;obtain⟨l⟩:=args;obtain⟨tl⟩:=G4;unfold F7 at hk;split at hk
 ·rename_i x t e1 e2
  match l,e1 with
  | [y],e1 =>
   simp only[AN,Fe,FF,RY]at e1;subst e1;simp only at e2;subst e2;exact D5 (m:=Builtin.len_ #[t] ty #[a.eval y]) (by simp[execOp,resolve,invoke,builtin]) (BZ.does hI (gV hT hI.objs (hE y) hk)) hn
 ·rename_i s x t t' e1 e2
  match l,e1 with
  | [y,z],e1 =>
   simp only[AN,Fe,FF,RY]at e1;obtain⟨rfl,rfl⟩:=e1;simp only at e2;subst e2;split at hk
   ·rename_i ht;obtain rfl:=AU ht;exact D5 (m:=Builtin.append_ #[t,t] ty #[a.eval y,a.eval z]) (by simp[execOp,resolve,invoke,builtin]) (YR hI hT (hE y) (hE z) hk) hn
   ·exact hk.elim
 ·rename_i x y G4 e1
  match l,e1 with
  | [y,z],e1 =>
   simp only[AN,Fe,FF,RY]at e1;obtain⟨rfl,rfl⟩:=e1;exact D5 (m:=Builtin.max_ ⟨tl⟩ ty #[a.eval y,a.eval z]) (by simp[execOp,resolve,invoke,builtin]) (BZ.does hI (ld (hE y) (hE z) hk)) hn
 ·rename_i x y G4 e1
  match l,e1 with
  | [y,z],e1 =>
   simp only[AN,Fe,FF,RY]at e1;obtain⟨rfl,rfl⟩:=e1;exact D5 (m:=Builtin.min_ ⟨tl⟩ ty #[a.eval y,a.eval z]) (by simp[execOp,resolve,invoke,builtin]) (BZ.does hI (lg (hE y) (hE z) hk)) hn
 ·exact hk.elim

theorem jR{cx:Cx}(hT:Cu P cx.T){dr:Bool}{o:Oper}{K:HK}{next:Act→World→Prop}{Q:Exit→Act→World→Prop}(hS:SR N ds w0 g0 h0 st g a w)(hk:F5 cx dr o st K)
  (hv:∀f args G4,o.op≠.call ⟨.value f,args,G4⟩) (hn:YI w0 g0 h0 st.h g w K fun x w'=>next (a.put o.dst x) w'):o.wp P a w next Q:=by
 have hI:=hS.inv;have hE:=hS.eval;obtain⟨dst,op,ty,pos,after,gd⟩:=o;unfold F5 at hk;cases op with
 |move x=>exact bt hI (x:=a.eval x) rfl hk (hE x) hn
 |assign x =>
  obtain⟨g',av,h',q1,q2,q3,q4⟩:=YT hI (hE x) hk;exact hn _ _ _ _ _ q1 q2 q3 q4
 |pick c x y=>exact D5 (m:=do pure (if ←asBool (a.eval c)then a.eval x else a.eval y)) (by simp[execOp]) (BZ.does hI (iF (hE c) (hE x) (hE y) hk)) hn
 |alloc e=>exact D5 rfl (bD hI hT hk) hn
 |box e x=>exact D5 rfl (jV hI (hE x) hk) hn
 |build t ps=>exact D5 rfl (BZ.does hI (bM hT hE hk)) hn
 |buildSlice t n ps=>exact D5 rfl (Sf hI hT hE hk) hn
 |insert t m k x=>exact WM rfl (Nq hI hT (hE m) (hE k) (hE x) hk) hn
 |load t x=>exact D5 rfl (BZ.does hI (Vd hI.objs hT (hE x) hk)) hn
 |store t p x=>exact WM rfl (dO hI hT (hE p) (hE x) hk) hn
 |nilCheck x =>
  obtain⟨h1,h2⟩:=Wv (P:=P) (w:=w) (hE x) hk (pos:=pos) (after:=after) (gd:=gd) (dst:=dst) (ty:=ty) (ρ:=a.eval) rfl;exact bt hI h1 h2 (hE x) hn
 |binOp op t x y u=>exact D5 rfl (BZ.does hI (eQ hT (hE x) (hE y) (fun v e=>by subst e;rfl) hk)) hn
 |unOp op t x=>exact D5 rfl (BZ.does hI (jp (hE x) hk)) hn
 |convert s t x=>exact D5 rfl (BZ.does hI (fp hT (hE x) hk)) hn
 |makeFunc fn first cap=>exact D5 rfl (BZ.does hI (Wt hI.objs hE hk)) hn
 |makeMap t r =>
  cases r with
  |some r=>exact hk.elim
  |none=>exact D5 rfl (X4 hI hk) hn
 |makeSlice t n c=>exact D5 rfl (Ut hI hT (hE n) (hE c) hk) hn
 |slice t x lo hi mx =>
  cases dr with
  |true =>
   cases hp:NC cx.pl.tok dst with
   |none =>
    have K3 : GD cx dst st.h t (ev st.t x) (Ca st.t lo) (Ca st.t hi) (Ca st.t mx) K:=by
     have Ia:(match NC cx.pl.tok dst with
      |none=>GD cx dst st.h t (ev st.t x) (Ca st.t lo) (Ca st.t hi) (Ca st.t mx) K
      |some _=>TJ cx dst st.h t (ev st.t x) lo (Ca st.t hi) mx K):=hk
     rw[hp]at Ia;exact Ia
    exact D5 rfl (Vt hI hT hE (hE x) K3) hn
   |some _ =>
    have K3 : TJ cx dst st.h t (ev st.t x) lo (Ca st.t hi) mx K:=by
     have Ia:(match NC cx.pl.tok dst with
      |none=>GD cx dst st.h t (ev st.t x) (Ca st.t lo) (Ca st.t hi) (Ca st.t mx) K
      |some _=>TJ cx dst st.h t (ev st.t x) lo (Ca st.t hi) mx K):=hk
     rw[hp]at Ia;exact Ia
    unfold TJ at K3;split at K3
    ·exact D5 rfl (lD hI hT hE (hE x) K3) hn
    ·exact K3.elim
  |false =>
   cases hp:NC cx.pl.tok dst with
   |none =>
    have K3 : GD cx dst st.h t (ev st.t x) (Ca st.t lo) (Ca st.t hi) (Ca st.t mx) K:=by
     have Ia:(match NC cx.pl.tok dst with
      |none=>GD cx dst st.h t (ev st.t x) (Ca st.t lo) (Ca st.t hi) (Ca st.t mx) K
      |some _=>KU cx dst st.h t (ev st.t x) (Ca st.t lo) hi mx K):=hk
     rw[hp]at Ia;exact Ia
    exact D5 rfl (Vt hI hT hE (hE x) K3) hn
   |some _ =>
    have K3 : KU cx dst st.h t (ev st.t x) (Ca st.t lo) hi mx K:=by
     have Ia:(match NC cx.pl.tok dst with
      |none=>GD cx dst st.h t (ev st.t x) (Ca st.t lo) (Ca st.t hi) (Ca st.t mx) K
      |some _=>KU cx dst st.h t (ev st.t x) (Ca st.t lo) hi mx K):=hk
     rw[hp]at Ia;exact Ia
    exact D5 rfl (Yw hI hT hE (hE x) K3) hn
 |fieldAddr s x f=>exact D5 rfl (BZ.does hI (bX hT (hE x) hk)) hn
 |field s x f=>exact D5 rfl (BZ.does hI (Y9 hT (hE x) hk)) hn
 |indexAddr t x i=>exact D5 rfl (BZ.does hI (Uq hT (hE x) (hE i) hk)) hn
 |index t x i=>exact D5 rfl (BZ.does hI (cB hT (hE x) (hE i) hk)) hn
 |lookup t x i ok =>
  have hk:MQ cx.T st.h t (ev st.t x) (ev st.t i) ok fun v=>K v st.h:=by
   cases dr with
   |true=>exact cL hk
   |false=>exact hk
  exact D5 rfl (BZ.does hI (Zz hT hI.objs (hE x) (hE i) hk)) hn
 |mapUpdate t m k x=>exact WM rfl (Nq hI hT (hE m) (hE k) (hE x) hk) hn
 |range t x =>
  simp only at hk;split at hk
  ·rename_i kt e ht;exact D5 rfl (dD hI hT ht (hE x) hk) hn
  ·exact hk.elim
 |next it s =>
  cases s with
  |true=>exact hk.elim
  |false=>exact D5 rfl (il hI (hE it) hk) hn
 |entry it=>exact D5 rfl (BZ.does hI (bU hI.objs (hE it) hk)) hn
 |extract x i=>exact D5 rfl (BZ.does hI (Xj (hE x) hk)) hn
 |call c =>
  obtain⟨pk,args,G4⟩:=c;cases pk with
  |builtin b=>exact W4 hT hS hk hn
  |value f=>exact absurd rfl (hv f args G4)
  |invoke r m=>exact hk.elim
 |_=>exact hk.elim
theorem eJ{cx:Cx}(hP:cx.P=P)(hY:∀l σ h g w,D4 σ=true→Dx w0 g0 h0 h g w→Le h0 g0 w0 h g w→cx.yp l σ (CO σ g) w){ro:Option Nat}(hT:Cu P cx.T){dr:Bool}{o:Oper}{K:HK}{next:Act→World→Prop}{Q:Exit→Act→World→Prop}(hS:SR N ds w0 g0 h0 st g a w)(hk:F5 cx dr o st K)
  (hn:YI w0 g0 h0 st.h g w K fun x w'=>next (a.put o.dst x) w'):o.wpIn (Ja ro) 0 P a w next Q:=by
 by_cases hv:∃f args G4,o.op=.call ⟨.value f,args,G4⟩
 ·obtain⟨f,args,G4,e⟩:=hv;obtain⟨dst,op,ty,pos,after,gd⟩:=o;cases e;exact eY hP hY hS hk hn
 ·refine RH (fun c e=>?_) (jR hT hS hk (fun f args G4 e=>hv ⟨f,args,G4,e⟩) hn);obtain⟨dst,op,ty,pos,after,gd⟩:=o;cases e;exact hk.elim
theorem sb{p:Nat→Prop}(h:∃n,p n):∃n,p n∧∀m,m<n→¬p m:=by
 apply Cs;intro hc
 have:∀n,¬p n:=fun n=>by
  induction n using Nat.strongRecOn with
  |_ n ih=>exact fun hp=>hc ⟨n,hp,ih⟩
 obtain⟨n,hn⟩:=h;exact this n hn
theorem Rt{F:Fence}{m:Nat}{c:Code}{Q:Exit→Act→World→Prop}(I:Nat→Act→World→Prop)(k:Nat)(h0:I k a w)
  (round:∀n a w,I n a w→c.wpIn F m P (Exit.then (fun a' w'=>∃n',n' < n∧I n' a' w') Q) a w):(Code.loop c).wpIn F m P Q a w:=by
 classical
 have hex:∀a w,(∃n,I n a w)→∃n,I n a w∧∀n',n' < n→¬I n' a w:=fun a w h=>sb h;refine wpIn_loop (fun a w=>∃n,I n a w) (fun a w=>if h:∃n,I n a w then(hex a w h).choose else 0) ⟨k,h0⟩ fun a w h=>?_;have hs:=(hex a w h).choose_spec;refine wpIn_mono (round _ a w hs.1) fun e a' w' q=>?_;cases e with
 |normal =>
  obtain⟨n',Dz,hn⟩:=q;have h' : ∃n,I n a' w':=⟨n',hn⟩;refine⟨h',?_⟩;simp only[dif_pos h,dif_pos h'];refine Nat.lt_of_le_of_lt ?_ Dz;apply Nat.le_of_not_lt;intro hc;exact(hex a' w' h').choose_spec.2 n' hc hn
 |_=>exact q
end
end Go.Eng

namespace Go.Eng

section
variable {P:Program}{N:Nat}{ds:List Deferred}{w0:World}{g0:Gh}{h0 h:Nat→HO}{st:St}{g:Gh}{a:Act}{w:World}

theorem aE(hI:Dx w0 g0 h0 h g w)(r:Nat):∃g',Dx w0 g0 h0 (fO h r) g' w∧Le h g w (fO h r) g' w:=by
 unfold fO;split
 ·rename_i cs e0;have ho:=hI.objs r;rw[e0]at ho;obtain⟨t1,b,E,vs,a1,a2,a3,a4,a5⟩:=ho;have hl:(h r).live:=by rw[e0];trivial
  have Dz:=(hI.loc r b hl a1).1;have hs:=Pf hI a4
  obtain⟨k1,k2⟩:=hI.upd r (.ro (cs.map (str h))) (g.ρ r) (g.ln r) (g.tk r) none (g.more b cs.length) w none ⟨rfl,rfl,rfl,Ao _⟩ (fun _ _ _=>rfl) (fun b e=>by cases e) (fun _ _ h=>.inl h)
   (fun b' o hs=>hs.elim .inl (fun hs=>.inr ⟨by rw[hs.1];exact Dz,.inr ⟨hl,by rw[hs.1];exact a1⟩⟩)) (fun b o e=>by cases e) (fun b hh _=>by cases hh) (by simp)
   (fun _=>⟨rfl,Ao _,fun _=>rfl,fun _=>rfl⟩) (fun hg hk=>by
    obtain⟨u1,u2,u3,u4⟩:=BM g r (g.ρ r) (g.ln r) (g.tk r) none (g.more b cs.length);exact⟨u3.trans t1,b,u1.trans a2,BI.cptr_row a3 (hs.mono hk (fun _ h=>h) (fun _ h=>h.elim)) (fun o ho=>.inr ⟨rfl,by simpa using ho⟩)⟩)
  exact⟨_,k1,k2⟩
 ·rename_i sh Cb e0;have ho:=hI.objs r;rw[e0]at ho;obtain⟨t1,b,es,ck,a1,a2,a3,a4,a5,a6⟩:=ho;obtain⟨g1,i1,i2,i3⟩:=QU hI e0 a1 a2 a3 a4 a5 t1;exact⟨g1,i1,i2⟩
 ·rename_i sh Cb e0;have ho:=hI.objs r;rw[e0]at ho;obtain⟨t1,b,es,ck,a1,a2,a3,a4,a5,a6⟩:=ho;obtain⟨g1,i1,i2,i3⟩:=Wu hI e0 a1 a2 a3 a4 a5 t1;exact⟨g1,i1,i2⟩
 ·exact⟨g,hI,.refl _ _ _⟩
theorem JS:∀(l:List Nat) {h:Nat→HO} {g:Gh},Dx w0 g0 h0 h g w→∃g',Dx w0 g0 h0 (M2 h l) g' w∧Le h g w (M2 h l) g' w
 | [],_,g,hI=>⟨g,hI,.refl _ _ _⟩
 |r::l,_,_,hI =>
  let ⟨_,i1,i2⟩:=aE hI r
  let ⟨g2,j1,j2⟩:=JS l i1
  ⟨g2,j1,i2.trans j2⟩
theorem KR:∀(cs:List AV) (k:Nat) (v:AV) (i:Nat) (av:AV),(EG cs k v)[i]?=some av→(i=k∧av=v)∨cs[i]?=some av
 | [],_,_,_,_,h=>by simp[EG]at h
 |c::cs,0,v,i,av,h=>by
  unfold EG at h;cases i with
  |zero=>simp only[Bj,Br]at h;exact .inl ⟨rfl,h.symm⟩
  |succ i=>exact .inr h
 |c::cs,k+1,v,i,av,h=>by
  unfold EG at h;cases i with
  |zero=>exact .inr h
  |succ i =>
   rcases KR cs k v i av (by simpa using h)with ⟨e1,e2⟩ | e
   ·exact .inl ⟨by omega,e2⟩
   ·exact .inr (by simpa using e)
theorem KT:∀(cs:List AV) (k:Nat) (v:AV),(EG cs k v).length=cs.length
 | [],_,_=>rfl
 |_::_,0,_=>rfl
 |_::cs,k+1,v=>by unfold EG;simp[KT cs k v]
theorem Ye:∀(cs:List AV) (k:Nat) (x:Value),I5 cs k=.v x→cs[k]?=some (.v x)
 | [],_,_,h=>by simp[I5]at h
 |_::_,0,_,h=>by unfold I5 at h;simp[h]
 |_::cs,k+1,x,h=>by unfold I5 at h;simpa using Ye cs k x h
theorem o9(hI:Dx w0 g0 h0 h g w)(r k j sz:Nat):∃g',Dx w0 g0 h0 (tR h r k j sz) g' w∧Le h g w (tR h r k j sz) g' w:=by
 have same:∃g',Dx w0 g0 h0 h g' w∧Le h g w h g' w:=⟨g,hI,.refl _ _ _⟩;unfold tR;split
 ·rename_i cs e0;split
  ·rename_i e1;split
   ·rename_i hj;have Dy:r≠j:=fun e=>by rw[e,hj]at e0;cases e0
    obtain⟨g1,i1,i2,i3⟩:=NU hI (sz:=sz) (es:=[]) (a:=none) hj (by simp) rfl (.snil _ _ _);have ho:=i1.objs r;rw[B9 _ _ _ _ Dy,e0]at ho;obtain⟨t1,b,E,vs,a1,a2,a3,a4,a5⟩:=ho;have hl:(AW h j (.tok sz 0) r).live:=by rw[B9 _ _ _ _ Dy,e0];trivial
    have Dz:=(i1.loc r b hl a1).1;have WQ:=Ye cs k _ e1
    obtain⟨k1,k2⟩:=i1.upd r (.cells (EG cs k (.slice (.id j sz) []))) (g1.ρ r) (g1.ln r) (g1.tk r) (g1.own r) g1.S w none ⟨rfl,rfl,rfl,Ao _⟩ (fun _ _ _=>rfl) (fun b e=>by cases e) (fun _ _ h=>h) (fun _ _ h=>.inl h)
     (fun b o e=>by cases e) (fun b' _ e=>⟨(i1.loc r b' hl e).1,.inl ⟨hl,e⟩⟩) (by simp) (fun _=>⟨rfl,Ao _,fun _=>rfl,fun _=>rfl⟩) (fun hg hk=>by
      obtain⟨u1,u2,u3,u4⟩:=BM g1 r (g1.ρ r) (g1.ln r) (g1.tk r) (g1.own r) g1.S;have KH:∀i,AM (AW h j (.tok sz 0)) i→AM (AW (AW h j (.tok sz 0)) r (.cells (EG cs k (.slice (.id j sz) [])))) i:=fun i hi=>DW (by simp) i hi;refine⟨u3.trans t1,b,E,vs,u4.trans a1,u1.trans a2,a3,⟨by rw[KT];exact a4.1,a4.2.1,fun i av x q1 q2=>?_⟩,a5⟩;rcases KR cs k _ i av q1 with ⟨rfl,rfl⟩ | q
      ·have:=(a4.2.2 i _ x WQ q2).v_eq
       subst this;exact i3.mono hk KH hg
      ·exact(a4.2.2 i av x q q2).mono hk KH hg)
    exact⟨_,k1,i2.trans k2⟩
   ·exact same
  ·exact same
 ·exact same
theorem iL{cx:Cx}{o:Oper}(hS:SR N ds w0 g0 h0 st g a w):∃g',SR N ds w0 g0 h0 (iK cx o st) g' a w:=by
 unfold iK;split
 ·exact⟨g,hS⟩
 ·rename_i d _;split
  ·obtain⟨g',h1,h2⟩:=o9 hS.inv _ _ _ _;exact⟨g',h1,hS.le.trans h2,hS.dfs,hS.size,fun i=>(hS.slots i).le h2⟩
  split
  ·exact⟨g,hS⟩
  ·obtain⟨g',h1,h2⟩:=JS (mX cx.pl.fz d) hS.inv;exact⟨g',h1,hS.le.trans h2,hS.dfs,hS.size,fun i=>(hS.slots i).le h2⟩

theorem Ty:∀(cs:List AV) (k:Nat) (r n:Nat),I5 cs k=.msl r n→cs[k]?=some (.msl r n)
 | [],_,_,_,h=>by simp[I5]at h
 |_::_,0,_,_,h=>by unfold I5 at h;simp[h]
 |_::cs,k+1,r,n,h=>by unfold I5 at h;simpa using Ty cs k r n h
theorem ap(hI:Dx w0 g0 h0 h g w){r sz:Nat}{es:List (List AV)}(hr:h r=.arr sz es) :
  ∃g',Dx w0 g0 h0 (AW h r (.tok sz es.length)) g' w∧Le h g w (AW h r (.tok sz es.length)) g' w∧BI g' w (AM (AW h r (.tok sz es.length))) (.slice (.id r sz) es) (g.ρ r)∧g.ln r=es.length:=by
 have ho:=hI.objs r;rw[hr]at ho;obtain⟨t1,l1,al,a2⟩:=ho;have hl:(h r).live:=by rw[hr];trivial
 rcases a2 with ⟨b1,b2,b3⟩ | ⟨b,cap,E,vs,b1,b2,b3,b4,b5,b6,b7⟩
 ·subst b1
  obtain⟨k1,k2⟩:=hI.upd r (.tok sz 0) (g.ρ r) (g.ln r) (g.tk r) (g.own r) g.S w none ⟨rfl,rfl,rfl,Ao _⟩ (fun _ _ _=>rfl) (fun b e=>by cases e) (fun _ _ h=>h) (fun _ _ h=>.inl h)
   (fun b o e=>by cases e) (fun b' _ e=>⟨(hI.loc r b' hl e).1,.inl ⟨hl,e⟩⟩) (by simp) (fun _=>⟨rfl,Ao _,fun _=>rfl,fun _=>rfl⟩) (fun hg hk=>by
    obtain⟨u1,u2,u3,u4⟩:=BM g r (g.ρ r) (g.ln r) (g.tk r) (g.own r) g.S;exact⟨u3.trans t1,u2.trans l1,none,0,u1.trans b2,.inl ⟨rfl,u4.trans b3⟩⟩)
  refine⟨_,k1,k2,?_,l1⟩;rw[b2];exact .tok _ r sz [] _ (.snil _ _ _) (by simp) (by unfold AM;rw[Al,Bd];simp) (by simp[Gh.upd,t1]) (by simp) (fun _=>by simp[Gh.upd])
 ·have Dz:=(hI.loc r b hl b2).1
  obtain⟨k1,k2⟩:=hI.upd r (.tok sz es.length) (g.ρ r) (g.ln r) (g.tk r) (g.own r) (g.more b (es.length*sz)) w none ⟨rfl,rfl,rfl,Ao _⟩ (fun _ _ _=>rfl) (fun b e=>by cases e) (fun _ _ h=>.inl h)
   (fun b' o hs=>hs.elim .inl (fun hs=>.inr ⟨by rw[hs.1];exact Dz,.inr ⟨hl,by rw[hs.1];exact b2⟩⟩)) (fun b o e=>by cases e) (fun b' _ e=>⟨(hI.loc r b' hl e).1,.inl ⟨hl,e⟩⟩) (by simp)
   (fun _=>⟨rfl,Ao _,fun _=>rfl,fun _=>rfl⟩) (fun hg hk=>by
    obtain⟨u1,u2,u3,u4⟩:=BM g r (g.ρ r) (g.ln r) (g.tk r) (g.own r) (g.more b (es.length*sz));exact⟨u3.trans t1,u2.trans l1,_,cap,u1.trans b1,.inr ⟨b3,b,E,vs,0,rfl,u4.trans b2,b4,by rw[b5,Bc],fun o ho=>by
     rcases ho with ho | ⟨_,ho⟩
     ·exact absurd ho (b7 o)
     ·omega⟩⟩)
  refine⟨_,k1,k2,?_,l1⟩;rw[b1];exact .tok _ r sz es _ (BI.slice_row b4 al b3 (b6.mono k2.keeps (fun _ h=>h) (fun _ h=>h.elim)) (fun o ho=>.inr ⟨rfl,ho⟩)) al (by unfold AM;rw[Bd];simp) (by simp[Gh.upd,t1]) (by simp[Gh.upd,l1]) (fun _=>by simp[Gh.upd])
theorem Dx.move{w0:World}{g0:Gh}{h0 h:Nat→HO}{g:Gh}{w:World}(hI:Dx w0 g0 h0 h g w)(r r2:Nat)(Dy:r2≠r)(hf:h r2=.free)(hl:(h r).live){b:Nat}(ho:g.own r=some b)(o' : HO)(x:Value)(n:Nat)(t:Bool)(hn:o'≠.free)
  (Js:E0 g w (g.upd r2 x n t (some b) g.S) w→Ec (g.upd r2 x n t (some b) g.S) w (AM (AW (AW h r .dead) r2 o')) r2 o') :
  Dx w0 g0 h0 (AW (AW h r .dead) r2 o') (g.upd r2 x n t (some b) g.S) w∧Le h g w (AW (AW h r .dead) r2 o') (g.upd r2 x n t (some b) g.S) w:=by
 have dY:J6 g (g.upd r2 x n t (some b) g.S) (AM h):=by
  intro i hi;have e:i≠r2:=fun e=>hi (by rw[e];exact hf);refine⟨by simp[Gh.upd,e],by simp[Gh.upd,e],fun _=>by simp[Gh.upd,e],fun _=>by simp[Gh.upd,e]⟩
 have hK:E0 g w (g.upd r2 x n t (some b) g.S) w:=fun b o hb=>⟨hb,rfl,fun _ _ h=>h⟩;have KH:∀i,AM h i→AM (AW (AW h r .dead) r2 o') i:=fun i hi=>DW hn i (DW (by simp) i hi);have key:∀i,i≠r2→(AW (AW h r .dead) r2 o' i).live→i≠r∧(h i).live:=fun i h2 hl=>by
  rw[B9 _ _ _ _ h2]at hl
  by_cases e:i=r
  ·subst e;rw[Bd]at hl;exact hl.elim
  ·rw[B9 _ _ _ _ e]at hl;exact⟨e,hl⟩
 have own:∀i,i≠r2→(g.upd r2 x n t (some b) g.S).own i=g.own i:=fun i e=>by simp[Gh.upd,e]
 have TC:(g.upd r2 x n t (some b) g.S).own r2=some b:=by simp[Gh.upd]
 refine⟨⟨hI.os,hI.tape,hI.output,hI.size,hI.frame,hI.slt,fun i=>?_,fun i j c hi hj ei ej=>?_,fun i c hi ei=>?_,hI.sg,hI.glob.keep hK⟩,dY,KH,hK⟩
 ·by_cases e:i=r2
  ·subst e;rw[Bd];exact Js hK
  ·rw[B9 _ _ _ _ e]
   by_cases e1:i=r
   ·subst e1;rw[Bd];trivial
   ·rw[B9 _ _ _ _ e1];exact(hI.objs i).same hK KH dY (by simp[Gh.upd,e]) (by simp[Gh.upd,e]) (by simp[Gh.upd,e]) (by simp[Gh.upd,e]) (fun b hl hb=>⟨rfl,fun k hk=>hk⟩)
 ·by_cases e1:i=r2<;>by_cases e2:j=r2
  ·exact e1.trans e2.symm
  ·subst e1;rw[TC]at ei;rw[own j e2]at ej;cases ei;obtain⟨a1,a2⟩:=key j e2 hj;exact absurd (hI.inj j r _ a2 hl ej ho) a1
  ·subst e2;rw[TC]at ej;rw[own i e1]at ei;cases ej;obtain⟨a1,a2⟩:=key i e1 hi;exact absurd (hI.inj i r _ a2 hl ei ho) a1
  ·rw[own i e1]at ei;rw[own j e2]at ej;exact hI.inj i j c (key i e1 hi).2 (key j e2 hj).2 ei ej
 ·by_cases e1:i=r2
  ·subst e1;rw[TC]at ei;cases ei;exact hI.loc r _ hl ho
  ·rw[own i e1]at ei;exact hI.loc i c (key i e1 hi).2 ei
theorem mW(hS:SR N ds w0 g0 h0 st g a w){s k:Nat}{K:St→Prop}(hk:tZ st s k K):∃Fv g',SR N ds w0 g0 h0 Fv g' a w∧K Fv:=by
 have same:K st→∃Fv g',SR N ds w0 g0 h0 Fv g' a w∧K Fv:=fun hk=>⟨st,g,hS,hk⟩;unfold tZ at hk;split at hk
 ·rename_i r n ht;have T5:=hS.slots s;rw[ht]at T5;split at hk
  ·rename_i sz es hr;have ho:=hS.inv.objs r;rw[hr]at ho;obtain⟨t1,l1,al,a2⟩:=ho;have hl:(st.h r).live:=by rw[hr];trivial
   have hval:n=es.length→a.tmps.getD s undef=g.ρ r:=fun hn=>by
    generalize a.tmps.getD s undef=x at T5;cases T5 with
    |msl _ r n a cap hu ht XI ha hx=>exact hx (hn.trans l1.symm)
   have fin:∀(h' : Nat→HO) (v:AV) (g' : Gh),Dx w0 g0 h0 h' g' w→Le st.h g w h' g' w→BI g' w (AM h') v (a.tmps.getD s undef)→SR N ds w0 g0 h0 ⟨HS st.t s v,h'⟩ g' a w:=fun h' v g' i1 i2 i3=>by
    refine⟨i1,hS.le.trans i2,hS.dfs,hS.size,fun i=>?_⟩;show BI g' w (AM h') (HS st.t s v i) _
    by_cases e:i=s
    ·subst e
     have:HS st.t i v i=v:=by unfold HS;simp
     rw[this];exact i3
    ·have:HS st.t s v i=st.t i:=by unfold HS;simp[Ci e]
     rw[this];exact(hS.slots i).le i2
   split at hk
   ·obtain⟨hn,hk⟩:=hk;obtain⟨g1,i1,i2,i3,i4⟩:=ap hS.inv hr
    obtain⟨k1,k2⟩:=i1.upd r .dead (g1.ρ r) (g1.ln r) (g1.tk r) (g1.own r) g1.S w none ⟨rfl,rfl,rfl,Ao _⟩ (fun _ _ _=>rfl) (fun b e=>by cases e) (fun _ _ h=>h) (fun _ _ h=>.inl h) (fun b o e=>by cases e) (fun b hh _=>by cases hh) (by simp)
     (fun _=>⟨rfl,Ao _,fun _=>rfl,fun _=>rfl⟩) (fun _ _=>trivial)
    exact⟨_,_,fin _ _ _ k1 (i2.trans k2) (by rw[hval hn];exact(i3.slice_none.up _).le k2),hk⟩
   ·rename_i k;split at hk
    ·exact same hk
    ·rename_i hb;have Dy:k+1≠r:=fun e=>by rw[e]at hb;exact absurd (Dc r) (by rw[hb];decide)
     split at hk
     ·rename_i hf;obtain⟨hn,hk⟩:=hk;rcases a2 with ⟨b1,b2,b3⟩ | ⟨b,cap,E,vs,b1,b2,b3,b4,b5,b6,b7⟩
      ·subst b1;have hv:=hval hn
       obtain⟨k1,k2⟩:=hS.inv.upd r .dead (g.ρ r) (g.ln r) (g.tk r) (g.own r) g.S w none ⟨rfl,rfl,rfl,Ao _⟩ (fun _ _ _=>rfl) (fun b e=>by cases e) (fun _ _ h=>h) (fun _ _ h=>.inl h) (fun b o e=>by cases e) (fun b hh _=>by cases hh) (by simp)
        (fun _=>⟨rfl,Ao _,fun _=>rfl,fun _=>rfl⟩) (fun _ _=>trivial)
       have wk:AW st.h r .dead (k+1)=.free:=by rw[B9 _ _ _ _ Dy];exact hf
       obtain⟨m1,m2⟩:=k1.upd (k+1) (.arr sz []) (.slice none 0 0) 0 true none (g.upd r (g.ρ r) (g.ln r) (g.tk r) (g.own r) g.S).S w none ⟨rfl,rfl,rfl,Ao _⟩ (fun _ _ _=>rfl) (fun b e=>by cases e) (fun _ _ h=>h) (fun _ _ h=>.inl h) (fun b o e=>by cases e) (fun b _ e=>by cases e) (by simp)
        (fun hu=>absurd wk hu) (fun _ _=>by
         obtain⟨u1,u2,u3,u4⟩:=BM (g.upd r (g.ρ r) (g.ln r) (g.tk r) (g.own r) g.S) (k+1) (.slice none 0 0) 0 true none (g.upd r (g.ρ r) (g.ln r) (g.tk r) (g.own r) g.S).S;exact⟨u3,u2,by simp,.inl ⟨rfl,u1,u4⟩⟩)
       refine⟨_,_,fin _ _ _ m1 (k2.trans m2) ?_,hk⟩;rw[hv,b2,hn];exact .msl _ (k+1) 0 none 0 (by unfold AM;rw[Bd];simp) (by simp[Gh.upd]) (AL _) (.inl rfl) (fun _=>by simp[Gh.upd])
      ·have hv:=hval hn;obtain⟨m1,m2⟩:=hS.inv.move r (k+1) Dy hf hl b2 (.arr sz es) (g.ρ r) es.length true (by simp) (fun Jb=>by
        obtain⟨u1,u2,u3,u4⟩:=BM g (k+1) (g.ρ r) es.length true (some b) g.S;exact⟨u3,u2,al,.inr ⟨b,cap,E,vs,u1.trans b1,u4,b3,b4,b5,b6.mono Jb (fun _ h=>h) (fun _ h=>h.elim),b7⟩⟩)
       refine⟨_,_,fin _ _ _ m1 m2 ?_,hk⟩;rw[hv,b1,hn];exact .msl _ (k+1) es.length _ cap (by unfold AM;rw[Bd];simp) (by simp[Gh.upd]) (by simp[Gh.upd]) (.inr ⟨b,rfl⟩) (fun _=>by simp[Gh.upd])
     ·exact hk.elim
  ·exact same hk
 ·exact same hk
theorem mT(hS:SR N ds w0 g0 h0 st g a w){o k j:Nat}{K:(Nat→HO)→Prop}(hk:tY st.h o k j K):∃h' g',SR N ds w0 g0 h0 ⟨st.t,h'⟩ g' a w∧K h':=by
 unfold tY at hk;split at hk
 ·rename_i cs e0;split at hk
  ·rename_i r n e1;split at hk
   ·rename_i sz es e2;split at hk
    ·rename_i hf;obtain⟨hn,hk⟩:=hk;have ho:=hS.inv.objs r;rw[e2]at ho;obtain⟨t1,l1,al,a2⟩:=ho;have hl:(st.h r).live:=by rw[e2];trivial
     have Dy:j≠r:=fun e=>by rw[e,e2]at hf;cases hf
     have jB:o≠r:=fun e=>by rw[e,e2]at e0;cases e0
     have kH:o≠j:=fun e=>by rw[e,hf]at e0;cases e0
     -- the array goes to the new id,which stands for the same slice
     have step:∃g1,Dx w0 g0 h0 (AW (AW st.h r .dead) j (.arr sz es)) g1 w∧Le st.h g w (AW (AW st.h r .dead) j (.arr sz es)) g1 w∧g1.tk j=true∧g1.ln j=es.length∧g1.ρ j=g.ρ r:=by
      rcases a2 with ⟨b1,b2,b3⟩ | ⟨b,cap,E,vs,b1,b2,b3,b4,b5,b6,b7⟩
      ·subst b1
       obtain⟨k1,k2⟩:=hS.inv.upd r .dead (g.ρ r) (g.ln r) (g.tk r) (g.own r) g.S w none ⟨rfl,rfl,rfl,Ao _⟩ (fun _ _ _=>rfl) (fun b e=>by cases e) (fun _ _ h=>h) (fun _ _ h=>.inl h) (fun b o e=>by cases e) (fun b hh _=>by cases hh) (by simp)
        (fun _=>⟨rfl,Ao _,fun _=>rfl,fun _=>rfl⟩) (fun _ _=>trivial)
       have wk:AW st.h r .dead j=.free:=by rw[B9 _ _ _ _ Dy];exact hf
       obtain⟨m1,m2⟩:=k1.upd j (.arr sz []) (.slice none 0 0) 0 true none (g.upd r (g.ρ r) (g.ln r) (g.tk r) (g.own r) g.S).S w none ⟨rfl,rfl,rfl,Ao _⟩ (fun _ _ _=>rfl) (fun b e=>by cases e) (fun _ _ h=>h) (fun _ _ h=>.inl h) (fun b o e=>by cases e) (fun b _ e=>by cases e) (by simp)
        (fun hu=>absurd wk hu) (fun _ _=>by
         obtain⟨u1,u2,u3,u4⟩:=BM (g.upd r (g.ρ r) (g.ln r) (g.tk r) (g.own r) g.S) j (.slice none 0 0) 0 true none (g.upd r (g.ρ r) (g.ln r) (g.tk r) (g.own r) g.S).S;exact⟨u3,u2,by simp,.inl ⟨rfl,u1,u4⟩⟩)
       exact⟨_,m1,k2.trans m2,by simp[Gh.upd],by simp[Gh.upd],by simp[Gh.upd,b2]⟩
      ·obtain⟨m1,m2⟩:=hS.inv.move r j Dy hf hl b2 (.arr sz es) (g.ρ r) es.length true (by simp) (fun Jb=>by
        obtain⟨u1,u2,u3,u4⟩:=BM g j (g.ρ r) es.length true (some b) g.S;exact⟨u3,u2,al,.inr ⟨b,cap,E,vs,u1.trans b1,u4,b3,b4,b5,b6.mono Jb (fun _ h=>h) (fun _ h=>h.elim),b7⟩⟩)
       exact⟨_,m1,m2,by simp[Gh.upd],by simp[Gh.upd],by simp[Gh.upd]⟩
     obtain⟨g1,i1,i2,j1,j2,j3⟩:=step
     -- the cell
     have ho:=hS.inv.objs o;rw[e0]at ho;have zj:=i1.objs o;rw[B9 _ _ _ _ kH,B9 _ _ _ _ jB,e0]at zj;obtain⟨t2,b,E,vs,c1,c2,c3,c4,c5⟩:=zj;obtain⟨_,b',E',js,jW,c2',yx,c4',_⟩:=ho;have hb:b'=b:=by
      have h2:=i2.gh o (by unfold AM;rw[e0];simp);have h3:=h2.2.2.1 (by assumption);rw[h3,c2']at c2;cases c2;rfl
     subst hb;rw[c3]at yx;cases yx;have Zn:(AW (AW st.h r .dead) j (.arr sz es) o).live:=by rw[B9 _ _ _ _ kH,B9 _ _ _ _ jB,e0];trivial
     have WQ:=Ty cs k _ _ e1
     obtain⟨k1,k2⟩:=i1.upd o (.cells (EG cs k (.msl j n))) (g1.ρ o) (g1.ln o) (g1.tk o) (g1.own o) g1.S w none ⟨rfl,rfl,rfl,Ao _⟩ (fun _ _ _=>rfl) (fun b e=>by cases e) (fun _ _ h=>h) (fun _ _ h=>.inl h)
      (fun b o e=>by cases e) (fun b' _ e=>⟨(i1.loc o b' Zn e).1,.inl ⟨Zn,e⟩⟩) (by simp) (fun _=>⟨rfl,Ao _,fun _=>rfl,fun _=>rfl⟩) (fun hg Uk=>by
       obtain⟨u1,u2,u3,u4⟩:=BM g1 o (g1.ρ o) (g1.ln o) (g1.tk o) (g1.own o) g1.S;have KH:∀i,AM (AW (AW st.h r .dead) j (.arr sz es)) i→AM (AW (AW (AW st.h r .dead) j (.arr sz es)) o (.cells (EG cs k (.msl j n)))) i:=fun i hi=>DW (by simp) i hi;refine⟨u3.trans t2,_,E,vs,u4.trans c1,u1.trans c2,c3,⟨by rw[KT];exact c4.1,c4.2.1,fun i av x q1 q2=>?_⟩,c5⟩;rcases KR cs k _ i av q1 with ⟨rfl,rfl⟩ | q
       ·have hx:=c4'.2.2 i _ x WQ q2;have hm:BI g1 w (AM (AW (AW st.h r .dead) j (.arr sz es))) (.msl j n) x:=by
         cases hx with
         |msl _ _ _ a cap hu ht' XI ha Mk =>
         refine .msl _ _ _ _ _ (by unfold AM;rw[Bd];simp) j1 (by omega) ha (fun e=>?_);rw[j3];exact Mk (hn.trans l1.symm)
        exact hm.mono Uk KH hg
       ·exact(c4.2.2 i av x q q2).mono Uk KH hg)
     exact⟨_,_,⟨k1,hS.le.trans (i2.trans k2),hS.dfs,hS.size,fun i=>(hS.slots i).le (i2.trans k2)⟩,hk⟩
    ·exact hk.elim
   ·exact hk.elim
  ·exact hk.elim
 ·exact hk.elim
theorem Oq{h:Nat→HO}(hI:Dx w0 g0 h0 h g w){o k:Nat}{cs:List AV}(e0:h o=.cells cs){old new:AV}(hk:cs[k]?=some old)(Ez:∀x:Value,BI g w (AM h) old x→BI g w (AM h) new x) :
  ∃g',Dx w0 g0 h0 (AW h o (.cells (EG cs k new))) g' w∧Le h g w (AW h o (.cells (EG cs k new))) g' w:=by
 have ho:=hI.objs o;rw[e0]at ho;obtain⟨t1,b,E,vs,a1,a2,a3,a4,a5⟩:=ho;have hl:(h o).live:=by rw[e0];trivial
 obtain⟨k1,k2⟩:=hI.upd o (.cells (EG cs k new)) (g.ρ o) (g.ln o) (g.tk o) (g.own o) g.S w none ⟨rfl,rfl,rfl,Ao _⟩ (fun _ _ _=>rfl) (fun b e=>by cases e) (fun _ _ h=>h) (fun _ _ h=>.inl h)
  (fun b o e=>by cases e) (fun b' _ e=>⟨(hI.loc o b' hl e).1,.inl ⟨hl,e⟩⟩) (by simp) (fun _=>⟨rfl,Ao _,fun _=>rfl,fun _=>rfl⟩) (fun hg Uk=>by
   obtain⟨u1,u2,u3,u4⟩:=BM g o (g.ρ o) (g.ln o) (g.tk o) (g.own o) g.S;have KH:∀i,AM h i→AM (AW h o (.cells (EG cs k new))) i:=fun i hi=>DW (by simp) i hi;refine⟨u3.trans t1,b,E,vs,u4.trans a1,u1.trans a2,a3,⟨by rw[KT];exact a4.1,a4.2.1,fun i av x q1 q2=>?_⟩,a5⟩;rcases KR cs k _ i av q1 with ⟨rfl,rfl⟩ | q
   ·exact(Ez x (a4.2.2 i _ x hk q2)).mono Uk KH hg
   ·exact(a4.2.2 i av x q q2).mono Uk KH hg)
 exact⟨_,k1,k2⟩
theorem Jh:∀(cs:List AV) (k:Nat) (a:AV),I5 cs k=a→a≠.junk→cs[k]?=some a
 | [],_,a,h,hn=>by simp only[I5]at h;exact absurd h.symm hn
 |_::_,0,_,h,_=>by unfold I5 at h;simp[h]
 |_::cs,k+1,a,h,hn=>by unfold I5 at h;simpa using Jh cs k a h hn
theorem Dx.moveV{h:Nat→HO}(hI:Dx w0 g0 h0 h g w)(r r2 v:Nat)(Dy:r2≠r)(hf:h r2=.vox v)(hl:(h r).live)(o' : HO)(x:Value)(n:Nat)(hv:v<n)(hn:o'≠.free)
  (Js:E0 g w (g.upd r2 x n true (g.own r) g.S) w→Ec (g.upd r2 x n true (g.own r) g.S) w (AM (AW (AW h r .dead) r2 o')) r2 o') :
  Dx w0 g0 h0 (AW (AW h r .dead) r2 o') (g.upd r2 x n true (g.own r) g.S) w∧Le h g w (AW (AW h r .dead) r2 o') (g.upd r2 x n true (g.own r) g.S) w:=by
 have pE:=hI.objs r2;rw[hf]at pE;obtain⟨zq,Zn⟩:=pE;have dY:J6 g (g.upd r2 x n true (g.own r) g.S) (AM h):=by
  intro i hi
  by_cases e:i=r2
  ·subst e;refine⟨by simp[Gh.upd,zq],by simp[Gh.upd];omega,fun e=>(by rw[zq]at e;cases e),fun e=>?_⟩;simp[Gh.upd]at e;omega
  ·exact⟨by simp[Gh.upd,e],by simp[Gh.upd,e],fun _=>by simp[Gh.upd,e],fun _=>by simp[Gh.upd,e]⟩
 have hK:E0 g w (g.upd r2 x n true (g.own r) g.S) w:=fun b o hb=>⟨hb,rfl,fun _ _ h=>h⟩;have KH:∀i,AM h i→AM (AW (AW h r .dead) r2 o') i:=fun i hi=>DW hn i (DW (by simp) i hi);have key:∀i,i≠r2→(AW (AW h r .dead) r2 o' i).live→i≠r∧(h i).live:=fun i h2 hl=>by
  rw[B9 _ _ _ _ h2]at hl
  by_cases e:i=r
  ·subst e;rw[Bd]at hl;exact hl.elim
  ·rw[B9 _ _ _ _ e]at hl;exact⟨e,hl⟩
 have own:∀i,i≠r2→(g.upd r2 x n true (g.own r) g.S).own i=g.own i:=fun i e=>by simp[Gh.upd,e]
 have TC:(g.upd r2 x n true (g.own r) g.S).own r2=g.own r:=by simp[Gh.upd]
 refine⟨⟨hI.os,hI.tape,hI.output,hI.size,hI.frame,hI.slt,fun i=>?_,fun i j c hi hj ei ej=>?_,fun i c hi ei=>?_,hI.sg,hI.glob.keep hK⟩,dY,KH,hK⟩
 ·by_cases e:i=r2
  ·subst e;rw[Bd];exact Js hK
  ·rw[B9 _ _ _ _ e]
   by_cases e1:i=r
   ·subst e1;rw[Bd];trivial
   ·rw[B9 _ _ _ _ e1];exact(hI.objs i).same hK KH dY (by simp[Gh.upd,e]) (by simp[Gh.upd,e]) (by simp[Gh.upd,e]) (by simp[Gh.upd,e]) (fun b hl hb=>⟨rfl,fun k hk=>hk⟩)
 ·by_cases e1:i=r2<;>by_cases e2:j=r2
  ·exact e1.trans e2.symm
  ·subst e1;rw[TC]at ei;rw[own j e2]at ej;obtain⟨a1,a2⟩:=key j e2 hj;exact absurd (hI.inj j r _ a2 hl ej ei) a1
  ·subst e2;rw[TC]at ej;rw[own i e1]at ei;obtain⟨a1,a2⟩:=key i e1 hi;exact absurd (hI.inj i r _ a2 hl ei ej) a1
  ·rw[own i e1]at ei;rw[own j e2]at ej;exact hI.inj i j c (key i e1 hi).2 (key j e2 hj).2 ei ej
 ·by_cases e1:i=r2
  ·subst e1;rw[TC]at ei;exact hI.loc r _ hl ei
  ·rw[own i e1]at ei;exact hI.loc i c (key i e1 hi).2 ei
theorem pd(hS:SR N ds w0 g0 h0 st g a w){o k d:Nat}{K:(Nat→HO)→Prop}(hk:yr st.h o k d K):∃h' g',SR N ds w0 g0 h0 ⟨st.t,h'⟩ g' a w∧K h':=by
 unfold yr at hk;split at hk
 ·rename_i cs e0;split at hk
  ·rename_i r sz v es e1;split at hk
   ·rename_i GW v' n e2;split at hk
    ·rename_i hf;obtain⟨⟨rfl,rfl⟩,hk⟩:=hk;have ho:=hS.inv.objs r;rw[e2]at ho;obtain⟨t1,l1,a0,cap,r1,a2⟩:=ho;have hl:(st.h r).live:=by rw[e2];trivial
     have Dy:d≠r:=fun e=>by rw[e,e2]at hf;cases hf
     have jB:o≠r:=fun e=>by rw[e,e2]at e0;cases e0
     have wG:o≠d:=fun e=>by rw[e,hf]at e0;cases e0
     have WQ:=Jh cs k _ e1 (by simp)
     -- the value that stands in the cell
     have pC:=hS.inv.objs o;rw[e0]at pC;obtain⟨_,b',E',js,c1,c2,c3,c4,_⟩:=pC;obtain⟨x,hx1,_,pJ⟩:=c4.at WQ;have pK:x=.slice a0 n cap∧es.length=n∧BI g w Fj (.slice .none es) x∧∀c∈es,c.length=sz:=by
      have h3:=pJ.slice_none;cases pJ with
      |ver _ _ _ _ _ _ h Rz hu ht hn hx =>
       have:=hx l1.symm
       rw[r1]at this;subst this;refine⟨rfl,?_,h3,Rz⟩;cases h3 with
       |snil=>rfl
       |slice=>rfl
     obtain⟨hxe,hn,hx3,Rz⟩:=pK;subst hn;obtain⟨m1,m2⟩:=hS.inv.moveO r d Dy hf hl (ob:=g.own r) (fun c h=>h) (.tok sz es.length) (.slice a0 es.length cap) es.length true (by simp) (fun Jb=>by
      obtain⟨u1,u2,u3,u4⟩:=BM g d (.slice a0 es.length cap) es.length true (g.own r) g.S;refine⟨u3,u2,a0,cap,u1,?_⟩;rw[u4];exact a2)
     generalize Ry:g.upd d (.slice a0 es.length cap) es.length true (g.own r) g.S=g1 at m1 m2;have gr:g1.tk r=true∧g1.ln r=v:=by rw[←Ry];simp[Gh.upd,Ne.symm Dy,t1,l1]
     have gd:g1.tk d=true∧g1.ln d=es.length∧g1.ρ d=.slice a0 es.length cap:=by rw[←Ry];simp[Gh.upd]
     -- the id keeps its version
     have wO:(AW (AW st.h r .dead) d (.tok sz es.length)) r=.dead:=by rw[B9 _ _ _ _ (Ne.symm Dy),Bd]
     obtain⟨n1,n2⟩:=m1.upd r (.vox v) (g1.ρ r) (g1.ln r) (g1.tk r) (g1.own r) g1.S w none ⟨rfl,rfl,rfl,Ao _⟩ (fun _ _ _=>rfl) (fun b e=>by cases e) (fun _ _ h=>h) (fun _ _ h=>.inl h) (fun b o e=>by cases e) (fun b hh _=>by cases hh) (by simp)
      (fun _=>⟨rfl,Ao _,fun _=>rfl,fun _=>rfl⟩) (fun _ _=>by
       obtain⟨u1,u2,u3,u4⟩:=BM g1 r (g1.ρ r) (g1.ln r) (g1.tk r) (g1.own r) g1.S;exact⟨u3.trans gr.1,u2.trans gr.2⟩)
     have hh:AW (AW (AW st.h r .dead) d (.tok sz es.length)) r (.vox v)=AW (AW st.h r (.vox v)) d (.tok sz es.length):=by
      funext i
      unfold AW
      by_cases e:i=r
      ·subst e;rw[Dc,Ci (Ne.symm Dy)];rfl
      ·rw[Ci e];rfl
     rw[hh]at n1 n2;generalize gv:g1.upd r (g1.ρ r) (g1.ln r) (g1.tk r) (g1.own r) g1.S=g2 at n1 n2;have vt:g2.tk d=true∧g2.ln d=es.length∧g2.ρ d=.slice a0 es.length cap:=by rw[←gv];simp[Gh.upd,Dy,gd]
     have nv : (AW (AW st.h r (.vox v)) d (.tok sz es.length)) o=.cells cs:=by rw[B9 _ _ _ _ wG,B9 _ _ _ _ jB,e0]
     have L2:=m2.trans n2;have Abf:g2.ρ o=g.ρ o:=(L2.gh o (by unfold AM;rw[e0];simp)).2.2.1 (by assumption);obtain⟨g3,p1,p2⟩:=Oq n1 nv WQ (new:=.slice (.id d sz) es) (fun y hy=>by
      have h3:=hy.slice_none;have yL:g2.ln r=v∧g2.ρ r=.slice a0 es.length cap:=by rw[←gv,←Ry];simp[Gh.upd,Ne.symm Dy,l1,r1]
      have rX:y=.slice a0 es.length cap:=by
       cases hy with
       |ver _ _ _ _ _ _ h Rz hu ht hn hx=>exact(hx yL.1.symm).trans yL.2
      subst rX;exact .tok _ d sz es _ (h3.up _) Rz (by unfold AM;rw[Bd];simp) vt.1 (by rw[vt.2.1];exact Ao _) (fun _=>vt.2.2.symm))
     exact⟨_,g3,⟨p1,hS.le.trans (L2.trans p2),hS.dfs,hS.size,fun i=>(hS.slots i).le (L2.trans p2)⟩,hk⟩
    ·exact hk.elim
   ·exact hk.elim
  ·exact⟨_,g,hS,hk⟩
 ·exact hk.elim
theorem iY(hS:SR N ds w0 g0 h0 st g a w){o k r:Nat}{K:(Nat→HO)→Prop}(hk:tL st.h o k r K):∃h' g',SR N ds w0 g0 h0 ⟨st.t,h'⟩ g' a w∧K h':=by
 unfold tL at hk;split at hk
 ·rename_i cs e0;split at hk
  ·rename_i d sz es e1;split at hk
   ·rename_i GW n e2;split at hk
    ·rename_i v hf;obtain⟨⟨hn,rfl⟩,hk⟩:=hk;subst hn;have ho:=hS.inv.objs d;rw[e2]at ho;obtain⟨t1,l1,a0,cap,r1,a2⟩:=ho;have hl:(st.h d).live:=by rw[e2];trivial
     have Dy:r≠d:=fun e=>by rw[e,e2]at hf;cases hf
     have wG:o≠d:=fun e=>by rw[e,e2]at e0;cases e0
     have jB:o≠r:=fun e=>by rw[e,hf]at e0;cases e0
     have WQ:=Jh cs k _ e1 (by simp);obtain⟨m1,m2⟩:=hS.inv.moveV d r v Dy hf hl (.var sz (v+1) es.length) (.slice a0 es.length cap) (v+1) (LO v) (by simp) (fun Jb=>by
      obtain⟨u1,u2,u3,u4⟩:=BM g r (.slice a0 es.length cap) (v+1) true (g.own d) g.S;refine⟨u3,u2,a0,cap,u1,?_⟩;rw[u4];exact a2)
     generalize Ry:g.upd r (.slice a0 es.length cap) (v+1) true (g.own d) g.S=g1 at m1 m2;have gr:g1.tk r=true∧g1.ln r=v+1∧g1.ρ r=.slice a0 es.length cap:=by rw[←Ry];simp[Gh.upd]
     have gd:g1.ln d=es.length∧g1.ρ d=.slice a0 es.length cap:=by rw[←Ry];simp[Gh.upd,Ne.symm Dy,l1,r1]
     have nv : (AW (AW st.h d .dead) r (.var sz (v+1) es.length)) o=.cells cs:=by rw[B9 _ _ _ _ jB,B9 _ _ _ _ wG,e0]
     obtain⟨g3,p1,p2⟩:=Oq m1 nv WQ (new:=.slice (.ver r sz (v+1)) es) (fun y hy=>by
      have h3:=hy.slice_none;have rX:y=.slice a0 es.length cap∧∀c∈es,c.length=sz:=by
       cases hy with
       |tok _ _ _ _ _ h Rz hu ht hn hx=>exact⟨(hx gd.1.symm).trans gd.2,Rz⟩
      obtain⟨rX,Rz⟩:=rX;subst rX;exact .ver _ r sz (v+1) es _ (h3.up _) Rz (by unfold AM;rw[Bd];simp) gr.1 (by rw[gr.2.1];exact Ao _) (fun _=>gr.2.2.symm))
     exact⟨_,g3,⟨p1,hS.le.trans (m2.trans p2),hS.dfs,hS.size,fun i=>(hS.slots i).le (m2.trans p2)⟩,hk⟩
    ·exact hk.elim
   ·exact hk.elim
  ·exact⟨_,g,hS,hk⟩
 ·exact hk.elim
theorem oG(hS:SR N ds w0 g0 h0 st g a w){r:Nat}{K:(Nat→HO)→Prop}(hk:xd st.h r K):∃h' g',SR N ds w0 g0 h0 ⟨st.t,h'⟩ g' a w∧K h':=by
 unfold xd at hk;split at hk
 ·rename_i hf
  obtain⟨m1,m2⟩:=hS.inv.upd r (.vox 0) (.slice none 0 0) 0 true none g.S w none ⟨rfl,rfl,rfl,Ao _⟩ (fun _ _ _=>rfl) (fun b e=>by cases e) (fun _ _ h=>h) (fun _ _ h=>.inl h) (fun b o e=>by cases e) (fun b hh _=>by cases hh) (by simp)
   (fun hu=>absurd hf hu) (fun _ _=>by
    obtain⟨u1,u2,u3,u4⟩:=BM g r (.slice none 0 0) 0 true none g.S;exact⟨u3,u2⟩)
  exact⟨_,_,⟨m1,hS.le.trans m2,hS.dfs,hS.size,fun i=>(hS.slots i).le m2⟩,hk⟩
 ·exact hk.elim
theorem iV(hS:SR N ds w0 g0 h0 st g a w){o k:Nat}{K:(Nat→HO)→Prop}(hk:tK st.h o k K):∃h' g',SR N ds w0 g0 h0 ⟨st.t,h'⟩ g' a w∧K h':=by
 unfold tK at hk;split at hk
 ·rename_i cs e0;split at hk
  ·rename_i r e1;split at hk
   ·rename_i sh Cb e2;have WQ:=Jh cs k _ e1 (by simp);obtain⟨g3,p1,p2⟩:=Oq hS.inv e0 WQ (new:=.cmap sh Cb) (fun y hy=>by
     have e3:rsv st.h (.mref r)=.cmap sh Cb:=by
      show(match st.h r with | .rom sh Cb=>AV.cmap sh Cb | _=>.mref r)=_;rw[e2]
     rw[←e3];exact BI.rsv hS.inv.objs hy)
    exact⟨_,g3,⟨p1,hS.le.trans p2,hS.dfs,hS.size,fun i=>(hS.slots i).le p2⟩,hk⟩
   ·exact hk.elim
  ·exact hk.elim
 ·exact hk.elim
theorem pg(hS:SR N ds w0 g0 h0 st g a w){o k j sz:Nat}{K:(Nat→HO)→Prop}(hk:yu st.h o k j sz K):∃h' g',SR N ds w0 g0 h0 ⟨st.t,h'⟩ g' a w∧K h':=by
 unfold yu at hk;split at hk
 ·rename_i cs e0;split at hk
  ·rename_i e1;split at hk
   ·rename_i hf;have jB:o≠j:=fun e=>by rw[e,hf]at e0;cases e0
    have WQ:=Jh cs k _ e1 (by simp)
    obtain⟨m1,m2⟩:=hS.inv.upd j (.arr sz []) (.slice none 0 0) 0 true none g.S w none ⟨rfl,rfl,rfl,Ao _⟩ (fun _ _ _=>rfl) (fun b e=>by cases e) (fun _ _ h=>h) (fun _ _ h=>.inl h) (fun b o e=>by cases e) (fun b hh e=>by first | (cases e;done) | (exact absurd hh.2 (by simp))) (by simp)
     (fun hu=>absurd hf hu) (fun _ _=>by
      obtain⟨u1,u2,u3,u4⟩:=BM g j (.slice none 0 0) 0 true none g.S;exact⟨u3,u2,(fun cs hc=>by cases hc),.inl ⟨rfl,u1,u4⟩⟩)
    generalize Ry:g.upd j (.slice none 0 0) 0 true none g.S=g1 at m1 m2;have gr:g1.tk j=true∧g1.ln j=0∧g1.ρ j=.slice none 0 0:=by rw[←Ry];simp[Gh.upd]
    have nv : (AW st.h j (.arr sz [])) o=.cells cs:=by rw[B9 _ _ _ _ jB,e0]
    obtain⟨g3,p1,p2⟩:=Oq m1 nv WQ (new:=.msl j 0) (fun y hy=>by
     cases hy
     exact .msl _ j 0 none 0 (by unfold AM;rw[Bd];simp) gr.1 (AL _) (.inl rfl) (fun _=>gr.2.2.symm))
    exact⟨_,g3,⟨p1,hS.le.trans (m2.trans p2),hS.dfs,hS.size,fun i=>(hS.slots i).le (m2.trans p2)⟩,hk⟩
   ·exact hk.elim
  ·exact hk.elim
 ·exact hk.elim
theorem fe{cx:Cx}{id:Nat}(hS:SR N ds w0 g0 h0 st g a w){K:(Nat→HO)→Prop}(hk:vr cx id st.h fun h=>tJ cx id h fun h=>sy cx id h fun h=>pR cx id h K):∃h' g',SR N ds w0 g0 h0 ⟨st.t,h'⟩ g' a w∧K h':=by
 have h1:∃h' g',SR N ds w0 g0 h0 ⟨st.t,h'⟩ g' a w∧tJ cx id h' fun h=>sy cx id h fun h=>pR cx id h K:=by
  unfold vr at hk;split at hk
  ·obtain⟨g',i1,i2⟩:=aE hS.inv _;exact⟨_,g',⟨i1,hS.le.trans i2,hS.dfs,hS.size,fun i=>(hS.slots i).le i2⟩,hk⟩
  ·exact⟨_,g,hS,hk⟩
 obtain⟨h1,g1,S1,hk⟩:=h1;have h2:∃h' g',SR N ds w0 g0 h0 ⟨st.t,h'⟩ g' a w∧sy cx id h' fun h=>pR cx id h K:=by
  unfold tJ at hk;split at hk
  ·exact iV S1 hk
  ·exact⟨_,g1,S1,hk⟩
 obtain⟨h2,g2,S2,hk⟩:=h2;have h3:∃h' g',SR N ds w0 g0 h0 ⟨st.t,h'⟩ g' a w∧pR cx id h' K:=by
  unfold sy at hk;split at hk
  ·exact iV S2 hk
  ·exact⟨_,g2,S2,hk⟩
 obtain⟨h3,g3,S3,hk⟩:=h3;unfold pR at hk;split at hk
 ·exact pg S3 hk
 ·exact⟨_,g3,S3,hk⟩
theorem lW{cx:Cx}{id:Nat}(hS:SR N ds w0 g0 h0 st g a w){K:(Nat→HO)→Prop}(hk:pe cx id st.h K):∃h' g',SR N ds w0 g0 h0 ⟨st.t,h'⟩ g' a w∧K h':=by
 unfold pe at hk;split at hk
 ·exact pd hS hk
 ·split at hk
  ·exact iY hS hk
  ·split at hk
   ·exact oG hS hk
   ·exact fe hS hk
theorem mZ(hS:SR N ds w0 g0 h0 st g a w){o k:Nat}{K:(Nat→HO)→Prop}(hk:t6 st.h o k K):∃h' g',SR N ds w0 g0 h0 ⟨st.t,h'⟩ g' a w∧K h':=by
 have same:K st.h→∃h' g',SR N ds w0 g0 h0 ⟨st.t,h'⟩ g' a w∧K h':=fun hk=>⟨st.h,g,hS,hk⟩;unfold t6 at hk;split at hk
 ·rename_i cs e0;split at hk
  ·rename_i r n e1;split at hk
   ·rename_i sz es e2;obtain⟨rfl,hk⟩:=hk;have Dy:o≠r:=fun e=>by rw[e,e2]at e0;cases e0
    obtain⟨g1,i1,i2,i3,i4⟩:=ap hS.inv e2;have ho:=i1.objs o;rw[B9 _ _ _ _ Dy,e0]at ho;obtain⟨t1,b,E,vs,a1,a2,a3,a4,a5⟩:=ho;have hl:(AW st.h r (.tok sz es.length) o).live:=by rw[B9 _ _ _ _ Dy,e0];trivial
    have WQ:=Ty cs k _ _ e1;have Wh:=hS.inv.objs o;rw[e0]at Wh;obtain⟨_,b',E',js,a1',z8,yw,a4',_⟩:=Wh
    obtain⟨k1,k2⟩:=i1.upd o (.cells (EG cs k (.slice (.id r sz) es))) (g1.ρ o) (g1.ln o) (g1.tk o) (g1.own o) g1.S w none ⟨rfl,rfl,rfl,Ao _⟩ (fun _ _ _=>rfl) (fun b e=>by cases e) (fun _ _ h=>h) (fun _ _ h=>.inl h)
     (fun b o e=>by cases e) (fun b' _ e=>⟨(i1.loc o b' hl e).1,.inl ⟨hl,e⟩⟩) (by simp) (fun _=>⟨rfl,Ao _,fun _=>rfl,fun _=>rfl⟩) (fun hg Jb=>by
      obtain⟨u1,u2,u3,u4⟩:=BM g1 o (g1.ρ o) (g1.ln o) (g1.tk o) (g1.own o) g1.S;have KH:∀i,AM (AW st.h r (.tok sz es.length)) i→AM (AW (AW st.h r (.tok sz es.length)) o (.cells (EG cs k (.slice (.id r sz) es)))) i:=fun i hi=>DW (by simp) i hi;refine⟨u3.trans t1,b,E,vs,u4.trans a1,u1.trans a2,a3,⟨by rw[KT];exact a4.1,a4.2.1,fun i av x q1 q2=>?_⟩,a5⟩;rcases KR cs k _ i av q1 with ⟨rfl,rfl⟩ | q
      ·have hx:=a4.2.2 i _ x WQ q2;have hx0:x=g.ρ r:=by
        have Ry:=i2.gh o (by unfold AM;rw[e0];simp);have jD:vs=js:=by
         have e3:g1.ρ o=g.ρ o:=Ry.2.2.1 (by
          have:=(hS.inv.objs o);rw[e0]at this;exact this.1)
         rw[a2,z8]at e3;cases e3;rw[a3]at yw;cases yw;rfl
        subst jD
        have:=a4'.2.2 i _ x WQ q2
        cases this with
        |msl _ _ _ _ _ _ _ _ _ hz=>exact hz i4.symm
       rw[hx0];exact i3.mono Jb KH hg
      ·exact(a4.2.2 i av x q q2).mono Jb KH hg)
    exact⟨_,_,⟨k1,hS.le.trans (i2.trans k2),hS.dfs,hS.size,fun i=>((hS.slots i).le i2).le k2⟩,hk⟩
   ·exact same hk
  ·exact same hk
 ·exact same hk
theorem mR{cx:Cx}{o:Oper}{K:St→Prop}(hS:SR N ds w0 g0 h0 st g a w)(hk:tX cx o st K):∃Fv g',SR N ds w0 g0 h0 Fv g' a w∧K Fv:=by
 have same:K st→∃Fv g',SR N ds w0 g0 h0 Fv g' a w∧K Fv:=fun hk=>⟨st,g,hS,hk⟩;unfold tX at hk;split at hk
 ·exact same hk
 ·split at hk
  ·exact same hk
  ·rename_i s _;split at hk
   ·rename_i r n ht;split at hk
    ·rename_i sz es hr;obtain⟨hn,hk⟩:=hk;subst hn;have hI:=hS.inv;have ho:=hI.objs r;rw[hr]at ho;obtain⟨t1,l1,al,a2⟩:=ho;have hl:(st.h r).live:=by rw[hr];trivial
     have T5:=hS.slots s;rw[ht]at T5;have hval:a.tmps.getD s undef=g.ρ r:=by
      generalize a.tmps.getD s undef=x at T5;cases T5 with
      |msl _ r n a cap hu ht hn ha hx=>exact hx l1.symm
     have fin:∀g',Dx w0 g0 h0 (AW st.h r (.tok sz es.length)) g' w→Le st.h g w (AW st.h r (.tok sz es.length)) g' w→BI g' w (AM (AW st.h r (.tok sz es.length))) (.slice (.id r sz) es) (g.ρ r) →
       ∃Fv g',SR N ds w0 g0 h0 Fv g' a w∧K Fv:=fun g' i1 i2 i3=>by
      refine⟨_,g',⟨i1,hS.le.trans i2,hS.dfs,hS.size,fun i=>?_⟩,hk⟩;show BI g' w (AM (AW st.h r (.tok sz es.length))) (HS st.t s (.slice (.id r sz) es) i) _
      by_cases e:i=s
      ·subst e
       have:HS st.t i (.slice (.id r sz) es) i=.slice (.id r sz) es:=by unfold HS;simp
       rw[this,hval];exact i3
      ·have:HS st.t s (.slice (.id r sz) es) i=st.t i:=by unfold HS;simp[Ci e]
       rw[this];exact(hS.slots i).le i2
     rcases a2 with ⟨b1,b2,b3⟩ | ⟨b,cap,E,vs,b1,b2,b3,b4,b5,b6,b7⟩
     ·subst b1
      obtain⟨k1,k2⟩:=hI.upd r (.tok sz 0) (g.ρ r) (g.ln r) (g.tk r) (g.own r) g.S w none ⟨rfl,rfl,rfl,Ao _⟩ (fun _ _ _=>rfl) (fun b e=>by cases e) (fun _ _ h=>h) (fun _ _ h=>.inl h)
       (fun b o e=>by cases e) (fun b' _ e=>⟨(hI.loc r b' hl e).1,.inl ⟨hl,e⟩⟩) (by simp) (fun _=>⟨rfl,Ao _,fun _=>rfl,fun _=>rfl⟩) (fun hg hk=>by
        obtain⟨u1,u2,u3,u4⟩:=BM g r (g.ρ r) (g.ln r) (g.tk r) (g.own r) g.S;exact⟨u3.trans t1,u2.trans l1,none,0,u1.trans b2,.inl ⟨rfl,u4.trans b3⟩⟩)
      refine fin _ k1 k2 ?_;rw[b2];exact .tok _ r sz [] _ (.snil _ _ _) (by simp) (by unfold AM;rw[Bd];simp) (by simp[Gh.upd,t1]) (by simp) (fun _=>by simp[Gh.upd])
     ·have Dz:=(hI.loc r b hl b2).1
      obtain⟨k1,k2⟩:=hI.upd r (.tok sz es.length) (g.ρ r) (g.ln r) (g.tk r) (g.own r) (g.more b (es.length*sz)) w none ⟨rfl,rfl,rfl,Ao _⟩ (fun _ _ _=>rfl) (fun b e=>by cases e) (fun _ _ h=>.inl h)
       (fun b' o hs=>hs.elim .inl (fun hs=>.inr ⟨by rw[hs.1];exact Dz,.inr ⟨hl,by rw[hs.1];exact b2⟩⟩)) (fun b o e=>by cases e) (fun b' _ e=>⟨(hI.loc r b' hl e).1,.inl ⟨hl,e⟩⟩) (by simp)
       (fun _=>⟨rfl,Ao _,fun _=>rfl,fun _=>rfl⟩) (fun hg hk=>by
        obtain⟨u1,u2,u3,u4⟩:=BM g r (g.ρ r) (g.ln r) (g.tk r) (g.own r) (g.more b (es.length*sz));exact⟨u3.trans t1,u2.trans l1,_,cap,u1.trans b1,.inr ⟨b3,b,E,vs,0,rfl,u4.trans b2,b4,by rw[b5,Bc],fun o ho=>by
         rcases ho with ho | ⟨_,ho⟩
         ·exact absurd ho (b7 o)
         ·omega⟩⟩)
      refine fin _ k1 k2 ?_;rw[b1];exact .tok _ r sz es _ (BI.slice_row b4 al b3 (b6.mono k2.keeps (fun _ h=>h) (fun _ h=>h.elim)) (fun o ho=>.inr ⟨rfl,ho⟩)) al (by unfold AM;rw[Bd];simp) (by simp[Gh.upd,t1]) (by simp[Gh.upd,l1]) (fun _=>by simp[Gh.upd])
    ·exact same hk
   ·exact same hk

variable {cx:Cx}(hP:cx.P=P)(hT:Cu P cx.T)(hY:∀l σ h g w,D4 σ=true→Dx w0 g0 h0 h g w→Le h0 g0 w0 h g w→cx.yp l σ (CO σ g) w){ro:Option Nat}{ops:Array Oper}
include hP hT hY

theorem W2{dr:Bool}{o:Oper}(hd:∀i,o.dst=some i→i<N){K:St→Prop}{next:Act→World→Prop}{Q:Exit→Act→World→Prop}(hS:SR N ds w0 g0 h0 st g a w)(hk:IP cx dr ops.toList o st K)
  (hn:∀Fv g' a' w',K Fv→SR N ds w0 g0 h0 Fv g' a' w'→next a' w'):if Region.wanted o (yielded ops a.tmps)then o.wpIn (Ja ro) 0 P a w next Q else next (a.put o.dst undef) w:=by
 have run:eI cx dr o st K→o.wpIn (Ja ro) 0 P a w next Q:=by
  intro hk;unfold eI at hk;split at hk
  ·exact eJ hP hY hT hS hk fun v h' g' w' x q1 q2 q3 q4=>hn _ g' _ _ q1 (hS.put hd q2 q3 q4)
  ·obtain⟨g1,YE⟩:=iL (cx:=cx) (o:=o) hS;obtain⟨Fv,g',SK,hk⟩:=mR YE hk;exact eJ hP hY hT SK hk fun v h' g' w' x q1 q2 q3 q4=>hn _ g' _ _ q1 (SK.put hd q2 q3 q4)
 have skip:K (st.put o.dst (.v undef) st.h)→next (a.put o.dst undef) w:=fun hk=>hn _ g _ _ hk (hS.put hd hS.inv (.refl _ _ _) (.v _ _))
 unfold IP at hk;split at hk
 ·rename_i hg;rw[AB (by simp[Region.wanted,hg])];exact run hk
 ·rename_i j want hg;split at hk
  ·exact hk.elim
  ·rename_i d hj;have hy:∀x:Value,BI g w (AM st.h) (st.t d) x→x=a.tmps.getD d undef→True:=fun _ _ _=>trivial;have hs:=hS.slots d;rw[Vj]at hj;have key:∀b:Bool,a.tmps.getD d undef=.bool b→yielded ops a.tmps j=some b:=by
    intro b hb;have Dz:d<a.tmps.size:=by
     apply Nat.lt_of_not_le;intro py;rw[Cw,T6 py]at hb;cases hb
    simp only[yielded,hj,Option.bind_some];rw[Cw,Be Dz]at hb;rw[Be Dz];simp only[CM]at hb;rw[hb]
   have xa:∀t,a.tmps.getD d undef=.tuple t→yielded ops a.tmps j=none:=by
    intro t hb;simp only[yielded,hj,Option.bind_some];cases he:a.tmps[d]? with
    |none=>rfl
    |some x =>
     rw[Cw,he]at hb;simp only[CM]at hb;rw[hb]
   generalize hx:st.t d=x at hk hs;split at hk
   ·have:=key true hs.v_eq
    rw[AB (by simp[Region.wanted,hg,this])];exact run hk
   ·have:=key false hs.v_eq
    rw[AB (by simp[Region.wanted,hg,this])];exact run hk
   ·have:=key true hs.v_eq
    rw[Ar (by simp[Region.wanted,hg,this])];exact skip hk
   ·have:=key false hs.v_eq
    rw[Ar (by simp[Region.wanted,hg,this])];exact skip hk
   ·have:=xa _ hs.v_eq
    rw[Ar (by simp[Region.wanted,hg,this])];exact skip hk
   ·exact hk.elim

theorem ao{Q:Exit→Act→World→Prop}{K:St→Prop}(hQ:∀Fv g' a' w',K Fv→SR N ds w0 g0 h0 Fv g' a' w'→Q .normal a' w') :
  ∀(l:List Oper),(∀o∈l,∀i,o.dst=some i→i<N)→∀{st:St} {g:Gh} {a:Act} {w:World},SR N ds w0 g0 h0 st g a w→mV cx ops.toList l st K→wpListIn (Ja ro) 0 P ops Q l a w
 | [],_,st,g,a,w,hS,hk=>hQ st g a w hk hS
 |o::l,hd,st,g,a,w,hS,hk=>by
  have:=W2 hP hT hY (ro:=ro) (hd o (Ab ..)) (next:=wpListIn (Ja ro) 0 P ops Q l) (Q:=Q) hS hk fun Fv g' a' w' q1 q2=>ao hQ l (fun o' mn=>hd o' (Ai _ mn)) q2 q1
  unfold wpListIn;split
  ·rename_i hw;rw[AB hw]at this;exact this
  ·rename_i hw;rw[Ar hw]at this;exact⟨fun _ _=>trivial,this⟩

theorem VR{Q:Exit→Act→World→Prop}{K:St→Prop}{FT:Nat→FE}(hQ:∀Fv g' a' w',K Fv→SR N ds w0 g0 h0 Fv g' a' w'→Q .normal a' w')(hd:∀(j:Nat) (o:Oper),ops[j]?=some o→∀i,o.dst=some i→i<N) :
  ∀(fuel:Nat) (listed:Array Bool) {st:St} {g:Gh} {a:Act} {w:World},SR N ds w0 g0 h0 st g a w→WW cx ops FT K fuel listed st→wpAnyIn (Ja ro) 0 P .any ops Q fuel listed a w
 |0,_,st,g,a,w,hS,hk=>⟨hk.1,hQ st g a w hk.2 hS⟩
 |fuel+1,listed,st,g,a,w,hS,hk=>by
  refine⟨fun h0=>hQ st g a w (hk.1 h0) hS,fun i hi=>?_⟩;have h1:=hk.2 i hi;unfold p5 at h1;unfold wpOpIn;cases ho:ops[i]? with
  |none=>rw[ho]at h1;exact VR hQ hd fuel _ hS h1
  |some o =>
   rw[ho]at h1
   have:=W2 hP hT hY (ro:=ro) (hd i o ho) (next:=wpAnyIn (Ja ro) 0 P .any ops Q fuel (listed.setIfInBounds i true)) (Q:=Q) hS h1.2 fun Fv g' a' w' q1 q2=>VR hQ hd fuel _ q2 q1
   dsimp only;split
   ·rename_i hw;rw[AB hw]at this;exact this
   ·rename_i hw;rw[Ar hw]at this;exact⟨fun _ _=>trivial,this⟩
end
end Go.Eng
