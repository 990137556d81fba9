/- Lemmas for the claims of this seat, without a condition: part 13 (EngZB, EngZC). -/
import Derived.Test.YtkmnnpmneamgoaaGreatDoorA12
namespace Go.Eng

section
variable {P:Program}{N:Nat}{ds:List Deferred}{w0:World}{g0:Gh}{h0:Nat→HO}{st:St}{g:Gh}{a:Act}{w:World}

theorem WD{cx:Cx}(hT:Cn P cx.T){b:Builtin}{args:Array Operand}{GY:Array TypeId}{dst:Option Nat}{ty:Nat}{pos:String}{after:Array Edge}{gd:Option (Nat×Bool)}{K:HK}{next:Act→World→Prop}{Q:Exit→Act→World→Prop}
  (hS:SR N ds w0 g0 h0 st g a w) (hk:F4 cx dst st.h b GY.toList (args.toList.map (ev st.t)) K)
  (hn:Yb w0 g0 h0 st.h g w K fun x w'=>next (a.put dst x) w'):Oper.wp P ⟨dst,.call ⟨.builtin b,args,GY⟩,ty,pos,after,gd⟩ a w next Q:=by
 have hI:=hS.inv;have hE:=hS.eval;obtain⟨l⟩:=args;obtain⟨tl⟩:=GY;unfold F4 at hk;split at hk
 ·rename_i x t e1 e2
  match l,e1 with
  | [y],e1 =>
   simp only[AM,E6,FF,RL]at e1;subst e1;simp only at e2;subst e2;exact D0 (m:=Builtin.len_ #[t] ty #[a.eval y]) (by simp[execOp,resolve,invoke,builtin]) (BR.does hI (gc hT hI.objs (hE y) hk)) hn
 ·rename_i s x t t' e1 e2
  match l,e1 with
  | [y,z],e1 =>
   simp only[AM,E6,FF,RL]at e1;obtain⟨rfl,rfl⟩:=e1;simp only at e2;subst e2;split at hk
   ·rename_i ht;obtain rfl:=AR ht;exact D0 (m:=Builtin.append_ #[t,t] ty #[a.eval y,a.eval z]) (by simp[execOp,resolve,invoke,builtin]) (Yn hI hT (hE y) (hE z) hk) hn
   ·exact hk.elim
 ·rename_i x y GY e1
  match l,e1 with
  | [y,z],e1 =>
   simp only[AM,E6,FF,RL]at e1;obtain⟨rfl,rfl⟩:=e1;exact D0 (m:=Builtin.max_ ⟨tl⟩ ty #[a.eval y,a.eval z]) (by simp[execOp,resolve,invoke,builtin]) (BR.does hI (ko (hE y) (hE z) hk)) hn
 ·rename_i x y GY e1
  match l,e1 with
  | [y,z],e1 =>
   simp only[AM,E6,FF,RL]at e1;obtain⟨rfl,rfl⟩:=e1;exact D0 (m:=Builtin.min_ ⟨tl⟩ ty #[a.eval y,a.eval z]) (by simp[execOp,resolve,invoke,builtin]) (BR.does hI (kq (hE y) (hE z) hk)) hn
 ·exact hk.elim

theorem jh{cx:Cx}(hT:Cn P cx.T){dr:Bool}{o:Oper}{K:HK}{next:Act→World→Prop}{Q:Exit→Act→World→Prop}(hS:SR N ds w0 g0 h0 st g a w)(hk:F1 cx dr o st K)
  (hv:∀f args GY,o.op≠.call ⟨.value f,args,GY⟩) (hn:Yb w0 g0 h0 st.h g w K fun x w'=>next (a.put o.dst x) w'):o.wp P a w next Q:=by
 have hI:=hS.inv;have hE:=hS.eval;obtain⟨dst,op,ty,pos,after,gd⟩:=o;unfold F1 at hk;cases op with
 |move x=>exact aJ hI (x:=a.eval x) rfl hk (hE x) hn
 |assign x =>
  obtain⟨g',av,h',q1,q2,q3,q4⟩:=Yp hI (hE x) hk;exact hn _ _ _ _ _ q1 q2 q3 q4
 |pick c x y=>exact D0 (m:=do pure (if ←asBool (a.eval c)then a.eval x else a.eval y)) (by simp[execOp]) (BR.does hI (gL (hE c) (hE x) (hE y) hk)) hn
 |alloc e=>exact D0 rfl (aU hI hT hk) hn
 |box e x=>exact D0 rfl (jm hI (hE x) hk) hn
 |build t ps=>exact D0 rfl (BR.does hI (bi hT hE hk)) hn
 |buildSlice t n ps=>exact D0 rfl (RR hI hT hE hk) hn
 |insert t m k x=>exact Wk rfl (Na hI hT (hE m) (hE k) (hE x) hk) hn
 |load t x=>exact D0 rfl (BR.does hI (US hI.objs hT (hE x) hk)) hn
 |store t p x=>exact Wk rfl (df hI hT (hE p) (hE x) hk) hn
 |nilCheck x =>
  obtain⟨h1,h2⟩:=V4 (P:=P) (w:=w) (hE x) hk (pos:=pos) (after:=after) (gd:=gd) (dst:=dst) (ty:=ty) (ρ:=a.eval) rfl;exact aJ hI h1 h2 (hE x) hn
 |binOp op t x y u=>exact D0 rfl (BR.does hI (dR hT (hE x) (hE y) (fun v e=>by subst e;rfl) hk)) hn
 |unOp op t x=>exact D0 rfl (BR.does hI (iH (hE x) hk)) hn
 |convert s t x=>exact D0 rfl (BR.does hI (d8 hT (hE x) hk)) hn
 |makeFunc fn first cap=>exact D0 rfl (BR.does hI (V2 hI.objs hE hk)) hn
 |makeMap t r =>
  cases r with
  |some r=>exact hk.elim
  |none=>exact D0 rfl (XC hI hk) hn
 |makeSlice t n c=>exact D0 rfl (T8 hI hT (hE n) (hE c) hk) hn
 |slice t x lo hi mx =>
  cases dr with
  |true =>
   cases hp:Nl cx.pl.tok dst with
   |none =>
    have KN : Gy cx dst st.h t (ev st.t x) (B4 st.t lo) (B4 st.t hi) (B4 st.t mx) K:=by
     have Je:(match Nl cx.pl.tok dst with
      |none=>Gy cx dst st.h t (ev st.t x) (B4 st.t lo) (B4 st.t hi) (B4 st.t mx) K
      |some _=>Ti cx dst st.h t (ev st.t x) lo (B4 st.t hi) mx K):=hk
     rw[hp]at Je;exact Je
    exact D0 rfl (U6 hI hT hE (hE x) KN) hn
   |some _ =>
    have KN : Ti cx dst st.h t (ev st.t x) lo (B4 st.t hi) mx K:=by
     have Je:(match Nl cx.pl.tok dst with
      |none=>Gy cx dst st.h t (ev st.t x) (B4 st.t lo) (B4 st.t hi) (B4 st.t mx) K
      |some _=>Ti cx dst st.h t (ev st.t x) lo (B4 st.t hi) mx K):=hk
     rw[hp]at Je;exact Je
    unfold Ti at KN;split at KN
    ·exact D0 rfl (kM hI hT hE (hE x) KN) hn
    ·exact KN.elim
  |false =>
   cases hp:Nl cx.pl.tok dst with
   |none =>
    have KN : Gy cx dst st.h t (ev st.t x) (B4 st.t lo) (B4 st.t hi) (B4 st.t mx) K:=by
     have Je:(match Nl cx.pl.tok dst with
      |none=>Gy cx dst st.h t (ev st.t x) (B4 st.t lo) (B4 st.t hi) (B4 st.t mx) K
      |some _=>KJ cx dst st.h t (ev st.t x) (B4 st.t lo) hi mx K):=hk
     rw[hp]at Je;exact Je
    exact D0 rfl (U6 hI hT hE (hE x) KN) hn
   |some _ =>
    have KN : KJ cx dst st.h t (ev st.t x) (B4 st.t lo) hi mx K:=by
     have Je:(match Nl cx.pl.tok dst with
      |none=>Gy cx dst st.h t (ev st.t x) (B4 st.t lo) (B4 st.t hi) (B4 st.t mx) K
      |some _=>KJ cx dst st.h t (ev st.t x) (B4 st.t lo) hi mx K):=hk
     rw[hp]at Je;exact Je
    exact D0 rfl (X2 hI hT hE (hE x) KN) hn
 |fieldAddr s x f=>exact D0 rfl (BR.does hI (bA hT (hE x) hk)) hn
 |field s x f=>exact D0 rfl (BR.does hI (YF hT (hE x) hk)) hn
 |indexAddr t x i=>exact D0 rfl (BR.does hI (T6 hT (hE x) (hE i) hk)) hn
 |index t x i=>exact D0 rfl (BR.does hI (bY hT (hE x) (hE i) hk)) hn
 |lookup t x i ok =>
  have hk:Mz cx.T st.h t (ev st.t x) (ev st.t i) ok fun v=>K v st.h:=by
   cases dr with
   |true=>exact ci hk
   |false=>exact hk
  exact D0 rfl (BR.does hI (Y2 hT hI.objs (hE x) (hE i) hk)) hn
 |mapUpdate t m k x=>exact Wk rfl (Na hI hT (hE m) (hE k) (hE x) hk) hn
 |range t x =>
  simp only at hk;split at hk
  ·rename_i kt e ht;exact D0 rfl (cX hI hT ht (hE x) hk) hn
  ·exact hk.elim
 |next it s =>
  cases s with
  |true=>exact hk.elim
  |false=>exact D0 rfl (gw hI (hE it) hk) hn
 |entry it=>exact D0 rfl (BR.does hI (bw hI.objs (hE it) hk)) hn
 |extract x i=>exact D0 rfl (BR.does hI (WT (hE x) hk)) hn
 |call c =>
  obtain⟨og,args,GY⟩:=c;cases og with
  |builtin b=>exact WD hT hS hk hn
  |value f=>exact absurd rfl (hv f args GY)
  |invoke r m=>exact hk.elim
 |_=>exact hk.elim
theorem dN{cx:Cx}(hP:cx.P=P)(hY:∀l σ h g w,DZ σ=true→Dk w0 g0 h0 h g w→Le h0 g0 w0 h g w→cx.yp l σ (CA σ g) w){ro:Option Nat}(hT:Cn P cx.T){dr:Bool}{o:Oper}{K:HK}{next:Act→World→Prop}{Q:Exit→Act→World→Prop}(hS:SR N ds w0 g0 h0 st g a w)(hk:F1 cx dr o st K)
  (hn:Yb w0 g0 h0 st.h g w K fun x w'=>next (a.put o.dst x) w'):o.wpIn (IZ ro) 0 P a w next Q:=by
 by_cases hv:∃f args GY,o.op=.call ⟨.value f,args,GY⟩
 ·obtain⟨f,args,GY,e⟩:=hv;obtain⟨dst,op,ty,pos,after,gd⟩:=o;cases e;exact dW hP hY hS hk hn
 ·refine Rs (fun c e=>?_) (jh hT hS hk (fun f args GY e=>hv ⟨f,args,GY,e⟩) hn);obtain⟨dst,op,ty,pos,after,gd⟩:=o;cases e;exact hk.elim
theorem qY{p:Nat→Prop}(h:∃n,p n):∃n,p n∧∀m,m<n→¬p m:=by
 apply Cm;intro hc
 have:∀n,¬p n:=fun n=>by
  induction n using Nat.strongRecOn with
  |_ n ih=>exact fun hp=>hc ⟨n,hp,ih⟩
 obtain⟨n,hn⟩:=h;exact this n hn
theorem Rb{F:Fence}{m:Nat}{c:Code}{Q:Exit→Act→World→Prop}(I:Nat→Act→World→Prop)(k:Nat)(h0:I k a w)
  (round:∀n a w,I n a w→c.wpIn F m P (Exit.then (fun a' w'=>∃n',n' < n∧I n' a' w') Q) a w):(Code.loop c).wpIn F m P Q a w:=by
 classical
 have hex:∀a w,(∃n,I n a w)→∃n,I n a w∧∀n',n' < n→¬I n' a w:=fun a w h=>qY h;refine wpIn_loop (fun a w=>∃n,I n a w) (fun a w=>if h:∃n,I n a w then(hex a w h).choose else 0) ⟨k,h0⟩ fun a w h=>?_;have hs:=(hex a w h).choose_spec;refine wpIn_mono (round _ a w hs.1) fun e a' w' q=>?_;cases e with
 |normal =>
  obtain⟨n',Dt,hn⟩:=q;have h' : ∃n,I n a' w':=⟨n',hn⟩;refine⟨h',?_⟩;simp only[dif_pos h,dif_pos h'];refine Nat.lt_of_le_of_lt ?_ Dt;apply Nat.le_of_not_lt;intro hc;exact(hex a' w' h').choose_spec.2 n' hc hn
 |_=>exact q
end
end Go.Eng

namespace Go.Eng

section
variable {P:Program}{N:Nat}{ds:List Deferred}{w0:World}{g0:Gh}{h0 h:Nat→HO}{st:St}{g:Gh}{a:Act}{w:World}

theorem ZN(hI:Dk w0 g0 h0 h g w)(r:Nat):∃g',Dk w0 g0 h0 (eU h r) g' w∧Le h g w (eU h r) g' w:=by
 unfold eU;split
 ·rename_i cs e0;have ho:=hI.objs r;rw[e0]at ho;obtain⟨t1,b,E,vs,a1,a2,a3,a4,a5⟩:=ho;have hl:(h r).live:=by rw[e0];trivial
  have Dt:=(hI.loc r b hl a1).1;have hs:=OY hI a4
  obtain⟨k1,k2⟩:=hI.upd r (.ro (cs.map (str h))) (g.ρ r) (g.ln r) (g.tk r) none (g.more b cs.length) w none ⟨rfl,rfl,rfl,Ak _⟩ (fun _ _ _=>rfl) (fun b e=>by cases e) (fun _ _ h=>.inl h)
   (fun b' o hs=>hs.elim .inl (fun hs=>.inr ⟨by rw[hs.1];exact Dt,.inr ⟨hl,by rw[hs.1];exact a1⟩⟩)) (fun b o e=>by cases e) (fun b hh _=>by cases hh) (by simp)
   (fun _=>⟨rfl,Ak _,fun _=>rfl,fun _=>rfl⟩) (fun hg hk=>by
    obtain⟨u1,u2,u3,u4⟩:=BJ g r (g.ρ r) (g.ln r) (g.tk r) none (g.more b cs.length);exact⟨u3.trans t1,b,u1.trans a2,BF.cptr_row a3 (hs.mono hk (fun _ h=>h) (fun _ h=>h.elim)) (fun o ho=>.inr ⟨rfl,by simpa using ho⟩)⟩)
  exact⟨_,k1,k2⟩
 ·rename_i sh B5 e0;have ho:=hI.objs r;rw[e0]at ho;obtain⟨t1,b,es,ck,a1,a2,a3,a4,a5,a6⟩:=ho;obtain⟨g1,i1,i2,i3⟩:=QC hI e0 a1 a2 a3 a4 a5 t1;exact⟨g1,i1,i2⟩
 ·rename_i sh B5 e0;have ho:=hI.objs r;rw[e0]at ho;obtain⟨t1,b,es,ck,a1,a2,a3,a4,a5,a6⟩:=ho;obtain⟨g1,i1,i2,i3⟩:=V3 hI e0 a1 a2 a3 a4 a5 t1;exact⟨g1,i1,i2⟩
 ·exact⟨g,hI,.refl _ _ _⟩
theorem JI:∀(l:List Nat) {h:Nat→HO} {g:Gh},Dk w0 g0 h0 h g w→∃g',Dk w0 g0 h0 (MM h l) g' w∧Le h g w (MM h l) g' w
 | [],_,g,hI=>⟨g,hI,.refl _ _ _⟩
 |r::l,_,_,hI =>
  let ⟨_,i1,i2⟩:=ZN hI r
  let ⟨g2,j1,j2⟩:=JI l i1
  ⟨g2,j1,i2.trans j2⟩
theorem KH:∀(cs:List AV) (k:Nat) (v:AV) (i:Nat) (av:AV),(Er cs k v)[i]?=some av→(i=k∧av=v)∨cs[i]?=some av
 | [],_,_,_,_,h=>by simp[Er]at h
 |c::cs,0,v,i,av,h=>by
  unfold Er at h;cases i with
  |zero=>simp only[Bi,Bq]at h;exact .inl ⟨rfl,h.symm⟩
  |succ i=>exact .inr h
 |c::cs,k+1,v,i,av,h=>by
  unfold Er at h;cases i with
  |zero=>exact .inr h
  |succ i =>
   rcases KH cs k v i av (by simpa using h)with ⟨e1,e2⟩ | e
   ·exact .inl ⟨by omega,e2⟩
   ·exact .inr (by simpa using e)
theorem KI:∀(cs:List AV) (k:Nat) (v:AV),(Er cs k v).length=cs.length
 | [],_,_=>rfl
 |_::_,0,_=>rfl
 |_::cs,k+1,v=>by unfold Er;simp[KI cs k v]
theorem XN:∀(cs:List AV) (k:Nat) (x:Value),IX cs k=.v x→cs[k]?=some (.v x)
 | [],_,_,h=>by simp[IX]at h
 |_::_,0,_,h=>by unfold IX at h;simp[h]
 |_::cs,k+1,x,h=>by unfold IX at h;simpa using XN cs k x h
theorem n8(hI:Dk w0 g0 h0 h g w)(r k j sz:Nat):∃g',Dk w0 g0 h0 (sx h r k j sz) g' w∧Le h g w (sx h r k j sz) g' w:=by
 have same:∃g',Dk w0 g0 h0 h g' w∧Le h g w h g' w:=⟨g,hI,.refl _ _ _⟩;unfold sx;split
 ·rename_i cs e0;split
  ·rename_i e1;split
   ·rename_i hj;have Dn:r≠j:=fun e=>by rw[e,hj]at e0;cases e0
    obtain⟨g1,i1,i2,i3⟩:=NG hI (sz:=sz) (es:=[]) (a:=none) hj (by simp) rfl (.snil _ _ _);have ho:=i1.objs r;rw[B3 _ _ _ _ Dn,e0]at ho;obtain⟨t1,b,E,vs,a1,a2,a3,a4,a5⟩:=ho;have hl:(AT h j (.tok sz 0) r).live:=by rw[B3 _ _ _ _ Dn,e0];trivial
    have Dt:=(i1.loc r b hl a1).1;have VP:=XN cs k _ e1
    obtain⟨k1,k2⟩:=i1.upd r (.cells (Er cs k (.slice (.id j sz) []))) (g1.ρ r) (g1.ln r) (g1.tk r) (g1.own r) g1.S w none ⟨rfl,rfl,rfl,Ak _⟩ (fun _ _ _=>rfl) (fun b e=>by cases e) (fun _ _ h=>h) (fun _ _ h=>.inl h)
     (fun b o e=>by cases e) (fun b' _ e=>⟨(i1.loc r b' hl e).1,.inl ⟨hl,e⟩⟩) (by simp) (fun _=>⟨rfl,Ak _,fun _=>rfl,fun _=>rfl⟩) (fun hg hk=>by
      obtain⟨u1,u2,u3,u4⟩:=BJ g1 r (g1.ρ r) (g1.ln r) (g1.tk r) (g1.own r) g1.S;have Kw:∀i,AK (AT h j (.tok sz 0)) i→AK (AT (AT h j (.tok sz 0)) r (.cells (Er cs k (.slice (.id j sz) [])))) i:=fun i hi=>DR (by simp) i hi;refine⟨u3.trans t1,b,E,vs,u4.trans a1,u1.trans a2,a3,⟨by rw[KI];exact a4.1,a4.2.1,fun i av x q1 q2=>?_⟩,a5⟩;rcases KH cs k _ i av q1 with ⟨rfl,rfl⟩ | q
      ·have:=(a4.2.2 i _ x VP q2).v_eq
       subst this;exact i3.mono hk Kw hg
      ·exact(a4.2.2 i av x q q2).mono hk Kw hg)
    exact⟨_,k1,i2.trans k2⟩
   ·exact same
  ·exact same
 ·exact same
theorem gS{cx:Cx}{o:Oper}(hS:SR N ds w0 g0 h0 st g a w):∃g',SR N ds w0 g0 h0 (gR cx o st) g' a w:=by
 unfold gR;split
 ·exact⟨g,hS⟩
 ·rename_i d _;split
  ·obtain⟨g',h1,h2⟩:=n8 hS.inv _ _ _ _;exact⟨g',h1,hS.le.trans h2,hS.dfs,hS.size,fun i=>(hS.slots i).le h2⟩
  split
  ·exact⟨g,hS⟩
  ·obtain⟨g',h1,h2⟩:=JI (md cx.pl.fz d) hS.inv;exact⟨g',h1,hS.le.trans h2,hS.dfs,hS.size,fun i=>(hS.slots i).le h2⟩

theorem S0:∀(cs:List AV) (k:Nat) (r n:Nat),IX cs k=.msl r n→cs[k]?=some (.msl r n)
 | [],_,_,_,h=>by simp[IX]at h
 |_::_,0,_,_,h=>by unfold IX at h;simp[h]
 |_::cs,k+1,r,n,h=>by unfold IX at h;simpa using S0 cs k r n h
theorem ZB(hI:Dk w0 g0 h0 h g w){r sz:Nat}{es:List (List AV)}(hr:h r=.arr sz es) :
  ∃g',Dk w0 g0 h0 (AT h r (.tok sz es.length)) g' w∧Le h g w (AT h r (.tok sz es.length)) g' w∧BF g' w (AK (AT h r (.tok sz es.length))) (.slice (.id r sz) es) (g.ρ r)∧g.ln r=es.length:=by
 have ho:=hI.objs r;rw[hr]at ho;obtain⟨t1,l1,al,a2⟩:=ho;have hl:(h r).live:=by rw[hr];trivial
 rcases a2 with ⟨b1,b2,b3⟩ | ⟨b,cap,E,vs,b1,b2,b3,b4,b5,b6,b7⟩
 ·subst b1
  obtain⟨k1,k2⟩:=hI.upd r (.tok sz 0) (g.ρ r) (g.ln r) (g.tk r) (g.own r) g.S w none ⟨rfl,rfl,rfl,Ak _⟩ (fun _ _ _=>rfl) (fun b e=>by cases e) (fun _ _ h=>h) (fun _ _ h=>.inl h)
   (fun b o e=>by cases e) (fun b' _ e=>⟨(hI.loc r b' hl e).1,.inl ⟨hl,e⟩⟩) (by simp) (fun _=>⟨rfl,Ak _,fun _=>rfl,fun _=>rfl⟩) (fun hg hk=>by
    obtain⟨u1,u2,u3,u4⟩:=BJ g r (g.ρ r) (g.ln r) (g.tk r) (g.own r) g.S;exact⟨u3.trans t1,u2.trans l1,none,0,u1.trans b2,.inl ⟨rfl,u4.trans b3⟩⟩)
  refine⟨_,k1,k2,?_,l1⟩;rw[b2];exact .tok _ r sz [] _ (.snil _ _ _) (by simp) (by unfold AK;rw[Ar,A9];simp) (by simp[Gh.upd,t1]) (by simp) (fun _=>by simp[Gh.upd])
 ·have Dt:=(hI.loc r b hl b2).1
  obtain⟨k1,k2⟩:=hI.upd r (.tok sz es.length) (g.ρ r) (g.ln r) (g.tk r) (g.own r) (g.more b (es.length*sz)) w none ⟨rfl,rfl,rfl,Ak _⟩ (fun _ _ _=>rfl) (fun b e=>by cases e) (fun _ _ h=>.inl h)
   (fun b' o hs=>hs.elim .inl (fun hs=>.inr ⟨by rw[hs.1];exact Dt,.inr ⟨hl,by rw[hs.1];exact b2⟩⟩)) (fun b o e=>by cases e) (fun b' _ e=>⟨(hI.loc r b' hl e).1,.inl ⟨hl,e⟩⟩) (by simp)
   (fun _=>⟨rfl,Ak _,fun _=>rfl,fun _=>rfl⟩) (fun hg hk=>by
    obtain⟨u1,u2,u3,u4⟩:=BJ g r (g.ρ r) (g.ln r) (g.tk r) (g.own r) (g.more b (es.length*sz));exact⟨u3.trans t1,u2.trans l1,_,cap,u1.trans b1,.inr ⟨b3,b,E,vs,0,rfl,u4.trans b2,b4,by rw[b5,Bd],fun o ho=>by
     rcases ho with ho | ⟨_,ho⟩
     ·exact absurd ho (b7 o)
     ·omega⟩⟩)
  refine⟨_,k1,k2,?_,l1⟩;rw[b1];exact .tok _ r sz es _ (BF.slice_row b4 al b3 (b6.mono k2.keeps (fun _ h=>h) (fun _ h=>h.elim)) (fun o ho=>.inr ⟨rfl,ho⟩)) al (by unfold AK;rw[A9];simp) (by simp[Gh.upd,t1]) (by simp[Gh.upd,l1]) (fun _=>by simp[Gh.upd])
theorem Dk.move{w0:World}{g0:Gh}{h0 h:Nat→HO}{g:Gh}{w:World}(hI:Dk w0 g0 h0 h g w)(r r2:Nat)(Dn:r2≠r)(hf:h r2=.free)(hl:(h r).live){b:Nat}(ho:g.own r=some b)(o' : HO)(x:Value)(n:Nat)(t:Bool)(hn:o'≠.free)
  (Jf:EP g w (g.upd r2 x n t (some b) g.S) w→D4 (g.upd r2 x n t (some b) g.S) w (AK (AT (AT h r .dead) r2 o')) r2 o') :
  Dk w0 g0 h0 (AT (AT h r .dead) r2 o') (g.upd r2 x n t (some b) g.S) w∧Le h g w (AT (AT h r .dead) r2 o') (g.upd r2 x n t (some b) g.S) w:=by
 have dt:JW g (g.upd r2 x n t (some b) g.S) (AK h):=by
  intro i hi;have e:i≠r2:=fun e=>hi (by rw[e];exact hf);refine⟨by simp[Gh.upd,e],by simp[Gh.upd,e],fun _=>by simp[Gh.upd,e],fun _=>by simp[Gh.upd,e]⟩
 have hK:EP g w (g.upd r2 x n t (some b) g.S) w:=fun b o hb=>⟨hb,rfl,fun _ _ h=>h⟩;have Kw:∀i,AK h i→AK (AT (AT h r .dead) r2 o') i:=fun i hi=>DR hn i (DR (by simp) i hi);have key:∀i,i≠r2→(AT (AT h r .dead) r2 o' i).live→i≠r∧(h i).live:=fun i h2 hl=>by
  rw[B3 _ _ _ _ h2]at hl
  by_cases e:i=r
  ·subst e;rw[A9]at hl;exact hl.elim
  ·rw[B3 _ _ _ _ e]at hl;exact⟨e,hl⟩
 have own:∀i,i≠r2→(g.upd r2 x n t (some b) g.S).own i=g.own i:=fun i e=>by simp[Gh.upd,e]
 have Tc:(g.upd r2 x n t (some b) g.S).own r2=some b:=by simp[Gh.upd]
 refine⟨⟨hI.os,hI.tape,hI.output,hI.size,hI.frame,hI.slt,fun i=>?_,fun i j c hi hj ei ej=>?_,fun i c hi ei=>?_,hI.sg,hI.glob.keep hK⟩,dt,Kw,hK⟩
 ·by_cases e:i=r2
  ·subst e;rw[A9];exact Jf hK
  ·rw[B3 _ _ _ _ e]
   by_cases e1:i=r
   ·subst e1;rw[A9];trivial
   ·rw[B3 _ _ _ _ e1];exact(hI.objs i).same hK Kw dt (by simp[Gh.upd,e]) (by simp[Gh.upd,e]) (by simp[Gh.upd,e]) (by simp[Gh.upd,e]) (fun b hl hb=>⟨rfl,fun k hk=>hk⟩)
 ·by_cases e1:i=r2<;>by_cases e2:j=r2
  ·exact e1.trans e2.symm
  ·subst e1;rw[Tc]at ei;rw[own j e2]at ej;cases ei;obtain⟨a1,a2⟩:=key j e2 hj;exact absurd (hI.inj j r _ a2 hl ej ho) a1
  ·subst e2;rw[Tc]at ej;rw[own i e1]at ei;cases ej;obtain⟨a1,a2⟩:=key i e1 hi;exact absurd (hI.inj i r _ a2 hl ei ho) a1
  ·rw[own i e1]at ei;rw[own j e2]at ej;exact hI.inj i j c (key i e1 hi).2 (key j e2 hj).2 ei ej
 ·by_cases e1:i=r2
  ·subst e1;rw[Tc]at ei;cases ei;exact hI.loc r _ hl ho
  ·rw[own i e1]at ei;exact hI.loc i c (key i e1 hi).2 ei
theorem mc(hS:SR N ds w0 g0 h0 st g a w){s k:Nat}{K:St→Prop}(hk:sF st s k K):∃Fo g',SR N ds w0 g0 h0 Fo g' a w∧K Fo:=by
 have same:K st→∃Fo g',SR N ds w0 g0 h0 Fo g' a w∧K Fo:=fun hk=>⟨st,g,hS,hk⟩;unfold sF at hk;split at hk
 ·rename_i r n ht;have UK:=hS.slots s;rw[ht]at UK;split at hk
  ·rename_i sz es hr;have ho:=hS.inv.objs r;rw[hr]at ho;obtain⟨t1,l1,al,a2⟩:=ho;have hl:(st.h r).live:=by rw[hr];trivial
   have hval:n=es.length→a.tmps.getD s undef=g.ρ r:=fun hn=>by
    generalize a.tmps.getD s undef=x at UK;cases UK with
    |msl _ r n a cap hu ht Xk ha hx=>exact hx (hn.trans l1.symm)
   have fin:∀(h' : Nat→HO) (v:AV) (g' : Gh),Dk w0 g0 h0 h' g' w→Le st.h g w h' g' w→BF g' w (AK h') v (a.tmps.getD s undef)→SR N ds w0 g0 h0 ⟨HG st.t s v,h'⟩ g' a w:=fun h' v g' i1 i2 i3=>by
    refine⟨i1,hS.le.trans i2,hS.dfs,hS.size,fun i=>?_⟩;show BF g' w (AK h') (HG st.t s v i) _
    by_cases e:i=s
    ·subst e
     have:HG st.t i v i=v:=by unfold HG;simp
     rw[this];exact i3
    ·have:HG st.t s v i=st.t i:=by unfold HG;simp[Cc e]
     rw[this];exact(hS.slots i).le i2
   split at hk
   ·obtain⟨hn,hk⟩:=hk;obtain⟨g1,i1,i2,i3,i4⟩:=ZB hS.inv hr
    obtain⟨k1,k2⟩:=i1.upd r .dead (g1.ρ r) (g1.ln r) (g1.tk r) (g1.own r) g1.S w none ⟨rfl,rfl,rfl,Ak _⟩ (fun _ _ _=>rfl) (fun b e=>by cases e) (fun _ _ h=>h) (fun _ _ h=>.inl h) (fun b o e=>by cases e) (fun b hh _=>by cases hh) (by simp)
     (fun _=>⟨rfl,Ak _,fun _=>rfl,fun _=>rfl⟩) (fun _ _=>trivial)
    exact⟨_,_,fin _ _ _ k1 (i2.trans k2) (by rw[hval hn];exact(i3.slice_none.up _).le k2),hk⟩
   ·rename_i k;split at hk
    ·exact same hk
    ·rename_i hb;have Dn:k+1≠r:=fun e=>by rw[e]at hb;exact absurd (CU r) (by rw[hb];decide)
     split at hk
     ·rename_i hf;obtain⟨hn,hk⟩:=hk;rcases a2 with ⟨b1,b2,b3⟩ | ⟨b,cap,E,vs,b1,b2,b3,b4,b5,b6,b7⟩
      ·subst b1;have hv:=hval hn
       obtain⟨k1,k2⟩:=hS.inv.upd r .dead (g.ρ r) (g.ln r) (g.tk r) (g.own r) g.S w none ⟨rfl,rfl,rfl,Ak _⟩ (fun _ _ _=>rfl) (fun b e=>by cases e) (fun _ _ h=>h) (fun _ _ h=>.inl h) (fun b o e=>by cases e) (fun b hh _=>by cases hh) (by simp)
        (fun _=>⟨rfl,Ak _,fun _=>rfl,fun _=>rfl⟩) (fun _ _=>trivial)
       have uA:AT st.h r .dead (k+1)=.free:=by rw[B3 _ _ _ _ Dn];exact hf
       obtain⟨m1,m2⟩:=k1.upd (k+1) (.arr sz []) (.slice none 0 0) 0 true none (g.upd r (g.ρ r) (g.ln r) (g.tk r) (g.own r) g.S).S w none ⟨rfl,rfl,rfl,Ak _⟩ (fun _ _ _=>rfl) (fun b e=>by cases e) (fun _ _ h=>h) (fun _ _ h=>.inl h) (fun b o e=>by cases e) (fun b _ e=>by cases e) (by simp)
        (fun hu=>absurd uA hu) (fun _ _=>by
         obtain⟨u1,u2,u3,u4⟩:=BJ (g.upd r (g.ρ r) (g.ln r) (g.tk r) (g.own r) g.S) (k+1) (.slice none 0 0) 0 true none (g.upd r (g.ρ r) (g.ln r) (g.tk r) (g.own r) g.S).S;exact⟨u3,u2,by simp,.inl ⟨rfl,u1,u4⟩⟩)
       refine⟨_,_,fin _ _ _ m1 (k2.trans m2) ?_,hk⟩;rw[hv,b2,hn];exact .msl _ (k+1) 0 none 0 (by unfold AK;rw[A9];simp) (by simp[Gh.upd]) (AS _) (.inl rfl) (fun _=>by simp[Gh.upd])
      ·have hv:=hval hn;obtain⟨m1,m2⟩:=hS.inv.move r (k+1) Dn hf hl b2 (.arr sz es) (g.ρ r) es.length true (by simp) (fun I0=>by
        obtain⟨u1,u2,u3,u4⟩:=BJ g (k+1) (g.ρ r) es.length true (some b) g.S;exact⟨u3,u2,al,.inr ⟨b,cap,E,vs,u1.trans b1,u4,b3,b4,b5,b6.mono I0 (fun _ h=>h) (fun _ h=>h.elim),b7⟩⟩)
       refine⟨_,_,fin _ _ _ m1 m2 ?_,hk⟩;rw[hv,b1,hn];exact .msl _ (k+1) es.length _ cap (by unfold AK;rw[A9];simp) (by simp[Gh.upd]) (by simp[Gh.upd]) (.inr ⟨b,rfl⟩) (fun _=>by simp[Gh.upd])
     ·exact hk.elim
  ·exact same hk
 ·exact same hk
theorem l8(hS:SR N ds w0 g0 h0 st g a w){o k j:Nat}{K:(Nat→HO)→Prop}(hk:sE st.h o k j K):∃h' g',SR N ds w0 g0 h0 ⟨st.t,h'⟩ g' a w∧K h':=by
 unfold sE at hk;split at hk
 ·rename_i cs e0;split at hk
  ·rename_i r n e1;split at hk
   ·rename_i sz es e2;split at hk
    ·rename_i hf;obtain⟨hn,hk⟩:=hk;have ho:=hS.inv.objs r;rw[e2]at ho;obtain⟨t1,l1,al,a2⟩:=ho;have hl:(st.h r).live:=by rw[e2];trivial
     have Dn:j≠r:=fun e=>by rw[e,e2]at hf;cases hf
     have iT:o≠r:=fun e=>by rw[e,e2]at e0;cases e0
     have jW:o≠j:=fun e=>by rw[e,hf]at e0;cases e0
     -- the array goes to the new id,which stands for the same slice
     have step:∃g1,Dk w0 g0 h0 (AT (AT st.h r .dead) j (.arr sz es)) g1 w∧Le st.h g w (AT (AT st.h r .dead) j (.arr sz es)) g1 w∧g1.tk j=true∧g1.ln j=es.length∧g1.ρ j=g.ρ r:=by
      rcases a2 with ⟨b1,b2,b3⟩ | ⟨b,cap,E,vs,b1,b2,b3,b4,b5,b6,b7⟩
      ·subst b1
       obtain⟨k1,k2⟩:=hS.inv.upd r .dead (g.ρ r) (g.ln r) (g.tk r) (g.own r) g.S w none ⟨rfl,rfl,rfl,Ak _⟩ (fun _ _ _=>rfl) (fun b e=>by cases e) (fun _ _ h=>h) (fun _ _ h=>.inl h) (fun b o e=>by cases e) (fun b hh _=>by cases hh) (by simp)
        (fun _=>⟨rfl,Ak _,fun _=>rfl,fun _=>rfl⟩) (fun _ _=>trivial)
       have uA:AT st.h r .dead j=.free:=by rw[B3 _ _ _ _ Dn];exact hf
       obtain⟨m1,m2⟩:=k1.upd j (.arr sz []) (.slice none 0 0) 0 true none (g.upd r (g.ρ r) (g.ln r) (g.tk r) (g.own r) g.S).S w none ⟨rfl,rfl,rfl,Ak _⟩ (fun _ _ _=>rfl) (fun b e=>by cases e) (fun _ _ h=>h) (fun _ _ h=>.inl h) (fun b o e=>by cases e) (fun b _ e=>by cases e) (by simp)
        (fun hu=>absurd uA hu) (fun _ _=>by
         obtain⟨u1,u2,u3,u4⟩:=BJ (g.upd r (g.ρ r) (g.ln r) (g.tk r) (g.own r) g.S) j (.slice none 0 0) 0 true none (g.upd r (g.ρ r) (g.ln r) (g.tk r) (g.own r) g.S).S;exact⟨u3,u2,by simp,.inl ⟨rfl,u1,u4⟩⟩)
       exact⟨_,m1,k2.trans m2,by simp[Gh.upd],by simp[Gh.upd],by simp[Gh.upd,b2]⟩
      ·obtain⟨m1,m2⟩:=hS.inv.move r j Dn hf hl b2 (.arr sz es) (g.ρ r) es.length true (by simp) (fun I0=>by
        obtain⟨u1,u2,u3,u4⟩:=BJ g j (g.ρ r) es.length true (some b) g.S;exact⟨u3,u2,al,.inr ⟨b,cap,E,vs,u1.trans b1,u4,b3,b4,b5,b6.mono I0 (fun _ h=>h) (fun _ h=>h.elim),b7⟩⟩)
       exact⟨_,m1,m2,by simp[Gh.upd],by simp[Gh.upd],by simp[Gh.upd]⟩
     obtain⟨g1,i1,i2,j1,j2,j3⟩:=step
     -- the cell
     have ho:=hS.inv.objs o;rw[e0]at ho;have xS:=i1.objs o;rw[B3 _ _ _ _ jW,B3 _ _ _ _ iT,e0]at xS;obtain⟨t2,b,E,vs,c1,c2,c3,c4,c5⟩:=xS;obtain⟨_,b',E',iL,jn,yV,w8,yZ,_⟩:=ho;have hb:b'=b:=by
      have h2:=i2.gh o (by unfold AK;rw[e0];simp);have h3:=h2.2.2.1 (by assumption);rw[h3,yV]at c2;cases c2;rfl
     subst hb;rw[c3]at w8;cases w8;have YU:(AT (AT st.h r .dead) j (.arr sz es) o).live:=by rw[B3 _ _ _ _ jW,B3 _ _ _ _ iT,e0];trivial
     have VP:=S0 cs k _ _ e1
     obtain⟨k1,k2⟩:=i1.upd o (.cells (Er cs k (.msl j n))) (g1.ρ o) (g1.ln o) (g1.tk o) (g1.own o) g1.S w none ⟨rfl,rfl,rfl,Ak _⟩ (fun _ _ _=>rfl) (fun b e=>by cases e) (fun _ _ h=>h) (fun _ _ h=>.inl h)
      (fun b o e=>by cases e) (fun b' _ e=>⟨(i1.loc o b' YU e).1,.inl ⟨YU,e⟩⟩) (by simp) (fun _=>⟨rfl,Ak _,fun _=>rfl,fun _=>rfl⟩) (fun hg T1=>by
       obtain⟨u1,u2,u3,u4⟩:=BJ g1 o (g1.ρ o) (g1.ln o) (g1.tk o) (g1.own o) g1.S;have Kw:∀i,AK (AT (AT st.h r .dead) j (.arr sz es)) i→AK (AT (AT (AT st.h r .dead) j (.arr sz es)) o (.cells (Er cs k (.msl j n)))) i:=fun i hi=>DR (by simp) i hi;refine⟨u3.trans t2,_,E,vs,u4.trans c1,u1.trans c2,c3,⟨by rw[KI];exact c4.1,c4.2.1,fun i av x q1 q2=>?_⟩,c5⟩;rcases KH cs k _ i av q1 with ⟨rfl,rfl⟩ | q
       ·have hx:=yZ.2.2 i _ x VP q2;have hm:BF g1 w (AK (AT (AT st.h r .dead) j (.arr sz es))) (.msl j n) x:=by
         cases hx with
         |msl _ _ _ a cap hu ht' Xk ha L6 =>
         refine .msl _ _ _ _ _ (by unfold AK;rw[A9];simp) j1 (by omega) ha (fun e=>?_);rw[j3];exact L6 (hn.trans l1.symm)
        exact hm.mono T1 Kw hg
       ·exact(c4.2.2 i av x q q2).mono T1 Kw hg)
     exact⟨_,_,⟨k1,hS.le.trans (i2.trans k2),hS.dfs,hS.size,fun i=>(hS.slots i).le (i2.trans k2)⟩,hk⟩
    ·exact hk.elim
   ·exact hk.elim
  ·exact hk.elim
 ·exact hk.elim
theorem Ob{h:Nat→HO}(hI:Dk w0 g0 h0 h g w){o k:Nat}{cs:List AV}(e0:h o=.cells cs){old new:AV}(hk:cs[k]?=some old)(El:∀x:Value,BF g w (AK h) old x→BF g w (AK h) new x) :
  ∃g',Dk w0 g0 h0 (AT h o (.cells (Er cs k new))) g' w∧Le h g w (AT h o (.cells (Er cs k new))) g' w:=by
 have ho:=hI.objs o;rw[e0]at ho;obtain⟨t1,b,E,vs,a1,a2,a3,a4,a5⟩:=ho;have hl:(h o).live:=by rw[e0];trivial
 obtain⟨k1,k2⟩:=hI.upd o (.cells (Er cs k new)) (g.ρ o) (g.ln o) (g.tk o) (g.own o) g.S w none ⟨rfl,rfl,rfl,Ak _⟩ (fun _ _ _=>rfl) (fun b e=>by cases e) (fun _ _ h=>h) (fun _ _ h=>.inl h)
  (fun b o e=>by cases e) (fun b' _ e=>⟨(hI.loc o b' hl e).1,.inl ⟨hl,e⟩⟩) (by simp) (fun _=>⟨rfl,Ak _,fun _=>rfl,fun _=>rfl⟩) (fun hg T1=>by
   obtain⟨u1,u2,u3,u4⟩:=BJ g o (g.ρ o) (g.ln o) (g.tk o) (g.own o) g.S;have Kw:∀i,AK h i→AK (AT h o (.cells (Er cs k new))) i:=fun i hi=>DR (by simp) i hi;refine⟨u3.trans t1,b,E,vs,u4.trans a1,u1.trans a2,a3,⟨by rw[KI];exact a4.1,a4.2.1,fun i av x q1 q2=>?_⟩,a5⟩;rcases KH cs k _ i av q1 with ⟨rfl,rfl⟩ | q
   ·exact(El x (a4.2.2 i _ x hk q2)).mono T1 Kw hg
   ·exact(a4.2.2 i av x q q2).mono T1 Kw hg)
 exact⟨_,k1,k2⟩
theorem I4:∀(cs:List AV) (k:Nat) (a:AV),IX cs k=a→a≠.junk→cs[k]?=some a
 | [],_,a,h,hn=>by simp only[IX]at h;exact absurd h.symm hn
 |_::_,0,_,h,_=>by unfold IX at h;simp[h]
 |_::cs,k+1,a,h,hn=>by unfold IX at h;simpa using I4 cs k a h hn
theorem Dk.moveV{h:Nat→HO}(hI:Dk w0 g0 h0 h g w)(r r2 v:Nat)(Dn:r2≠r)(hf:h r2=.vox v)(hl:(h r).live)(o' : HO)(x:Value)(n:Nat)(hv:v<n)(hn:o'≠.free)
  (Jf:EP g w (g.upd r2 x n true (g.own r) g.S) w→D4 (g.upd r2 x n true (g.own r) g.S) w (AK (AT (AT h r .dead) r2 o')) r2 o') :
  Dk w0 g0 h0 (AT (AT h r .dead) r2 o') (g.upd r2 x n true (g.own r) g.S) w∧Le h g w (AT (AT h r .dead) r2 o') (g.upd r2 x n true (g.own r) g.S) w:=by
 have oE:=hI.objs r2;rw[hf]at oE;obtain⟨x5,YU⟩:=oE;have dt:JW g (g.upd r2 x n true (g.own r) g.S) (AK h):=by
  intro i hi
  by_cases e:i=r2
  ·subst e;refine⟨by simp[Gh.upd,x5],by simp[Gh.upd];omega,fun e=>(by rw[x5]at e;cases e),fun e=>?_⟩;simp[Gh.upd]at e;omega
  ·exact⟨by simp[Gh.upd,e],by simp[Gh.upd,e],fun _=>by simp[Gh.upd,e],fun _=>by simp[Gh.upd,e]⟩
 have hK:EP g w (g.upd r2 x n true (g.own r) g.S) w:=fun b o hb=>⟨hb,rfl,fun _ _ h=>h⟩;have Kw:∀i,AK h i→AK (AT (AT h r .dead) r2 o') i:=fun i hi=>DR hn i (DR (by simp) i hi);have key:∀i,i≠r2→(AT (AT h r .dead) r2 o' i).live→i≠r∧(h i).live:=fun i h2 hl=>by
  rw[B3 _ _ _ _ h2]at hl
  by_cases e:i=r
  ·subst e;rw[A9]at hl;exact hl.elim
  ·rw[B3 _ _ _ _ e]at hl;exact⟨e,hl⟩
 have own:∀i,i≠r2→(g.upd r2 x n true (g.own r) g.S).own i=g.own i:=fun i e=>by simp[Gh.upd,e]
 have Tc:(g.upd r2 x n true (g.own r) g.S).own r2=g.own r:=by simp[Gh.upd]
 refine⟨⟨hI.os,hI.tape,hI.output,hI.size,hI.frame,hI.slt,fun i=>?_,fun i j c hi hj ei ej=>?_,fun i c hi ei=>?_,hI.sg,hI.glob.keep hK⟩,dt,Kw,hK⟩
 ·by_cases e:i=r2
  ·subst e;rw[A9];exact Jf hK
  ·rw[B3 _ _ _ _ e]
   by_cases e1:i=r
   ·subst e1;rw[A9];trivial
   ·rw[B3 _ _ _ _ e1];exact(hI.objs i).same hK Kw dt (by simp[Gh.upd,e]) (by simp[Gh.upd,e]) (by simp[Gh.upd,e]) (by simp[Gh.upd,e]) (fun b hl hb=>⟨rfl,fun k hk=>hk⟩)
 ·by_cases e1:i=r2<;>by_cases e2:j=r2
  ·exact e1.trans e2.symm
  ·subst e1;rw[Tc]at ei;rw[own j e2]at ej;obtain⟨a1,a2⟩:=key j e2 hj;exact absurd (hI.inj j r _ a2 hl ej ei) a1
  ·subst e2;rw[Tc]at ej;rw[own i e1]at ei;obtain⟨a1,a2⟩:=key i e1 hi;exact absurd (hI.inj i r _ a2 hl ei ej) a1
  ·rw[own i e1]at ei;rw[own j e2]at ej;exact hI.inj i j c (key i e1 hi).2 (key j e2 hj).2 ei ej
 ·by_cases e1:i=r2
  ·subst e1;rw[Tc]at ei;exact hI.loc r _ hl ei
  ·rw[own i e1]at ei;exact hI.loc i c (key i e1 hi).2 ei
theorem n9(hS:SR N ds w0 g0 h0 st g a w){o k d:Nat}{K:(Nat→HO)→Prop}(hk:wW st.h o k d K):∃h' g',SR N ds w0 g0 h0 ⟨st.t,h'⟩ g' a w∧K h':=by
 unfold wW at hk;split at hk
 ·rename_i cs e0;split at hk
  ·rename_i r sz v es e1;split at hk
   ·rename_i GP v' n e2;split at hk
    ·rename_i hf;obtain⟨⟨rfl,rfl⟩,hk⟩:=hk;have ho:=hS.inv.objs r;rw[e2]at ho;obtain⟨t1,l1,a0,cap,r1,a2⟩:=ho;have hl:(st.h r).live:=by rw[e2];trivial
     have Dn:d≠r:=fun e=>by rw[e,e2]at hf;cases hf
     have iT:o≠r:=fun e=>by rw[e,e2]at e0;cases e0
     have uZ:o≠d:=fun e=>by rw[e,hf]at e0;cases e0
     have VP:=I4 cs k _ e1 (by simp)
     -- the value that stands in the cell
     have xT:=hS.inv.objs o;rw[e0]at xT;obtain⟨_,b',E',iL,c1,c2,c3,c4,_⟩:=xT;obtain⟨x,hx1,_,oJ⟩:=c4.at VP;have kb:x=.slice a0 n cap∧es.length=n∧BF g w E8 (.slice .none es) x∧∀c∈es,c.length=sz:=by
      have h3:=oJ.slice_none;cases oJ with
      |ver _ _ _ _ _ _ h Rg hu ht hn hx =>
       have:=hx l1.symm
       rw[r1]at this;subst this;refine⟨rfl,?_,h3,Rg⟩;cases h3 with
       |snil=>rfl
       |slice=>rfl
     obtain⟨hxe,hn,hx3,Rg⟩:=kb;subst hn;obtain⟨m1,m2⟩:=hS.inv.moveO r d Dn hf hl (ob:=g.own r) (fun c h=>h) (.tok sz es.length) (.slice a0 es.length cap) es.length true (by simp) (fun I0=>by
      obtain⟨u1,u2,u3,u4⟩:=BJ g d (.slice a0 es.length cap) es.length true (g.own r) g.S;refine⟨u3,u2,a0,cap,u1,?_⟩;rw[u4];exact a2)
     generalize TZ:g.upd d (.slice a0 es.length cap) es.length true (g.own r) g.S=g1 at m1 m2;have gr:g1.tk r=true∧g1.ln r=v:=by rw[←TZ];simp[Gh.upd,Ne.symm Dn,t1,l1]
     have gd:g1.tk d=true∧g1.ln d=es.length∧g1.ρ d=.slice a0 es.length cap:=by rw[←TZ];simp[Gh.upd]
     -- the id keeps its version
     have vg:(AT (AT st.h r .dead) d (.tok sz es.length)) r=.dead:=by rw[B3 _ _ _ _ (TP Dn),A9]
     obtain⟨n1,n2⟩:=m1.upd r (.vox v) (g1.ρ r) (g1.ln r) (g1.tk r) (g1.own r) g1.S w none ⟨rfl,rfl,rfl,Ak _⟩ (fun _ _ _=>rfl) (fun b e=>by cases e) (fun _ _ h=>h) (fun _ _ h=>.inl h) (fun b o e=>by cases e) (fun b hh _=>by cases hh) (by simp)
      (fun _=>⟨rfl,Ak _,fun _=>rfl,fun _=>rfl⟩) (fun _ _=>by
       obtain⟨u1,u2,u3,u4⟩:=BJ g1 r (g1.ρ r) (g1.ln r) (g1.tk r) (g1.own r) g1.S;exact⟨u3.trans gr.1,u2.trans gr.2⟩)
     have hh:AT (AT (AT st.h r .dead) d (.tok sz es.length)) r (.vox v)=AT (AT st.h r (.vox v)) d (.tok sz es.length):=by
      funext i
      unfold AT
      by_cases e:i=r
      ·subst e;rw[CU,Cc (TP Dn)];rfl
      ·rw[Cc e];rfl
     rw[hh]at n1 n2;generalize fA:g1.upd r (g1.ρ r) (g1.ln r) (g1.tk r) (g1.own r) g1.S=g2 at n1 n2;have tN:g2.tk d=true∧g2.ln d=es.length∧g2.ρ d=.slice a0 es.length cap:=by rw[←fA];simp[Gh.upd,Dn,gd]
     have mH : (AT (AT st.h r (.vox v)) d (.tok sz es.length)) o=.cells cs:=by rw[B3 _ _ _ _ uZ,B3 _ _ _ _ iT,e0]
     have L2:=m2.trans n2;have z8:g2.ρ o=g.ρ o:=(L2.gh o (by unfold AK;rw[e0];simp)).2.2.1 (by assumption);obtain⟨g3,p1,p2⟩:=Ob n1 mH VP (new:=.slice (.id d sz) es) (fun y hy=>by
      have h3:=hy.slice_none;have xj:g2.ln r=v∧g2.ρ r=.slice a0 es.length cap:=by rw[←fA,←TZ];simp[Gh.upd,Ne.symm Dn,l1,r1]
      have qR:y=.slice a0 es.length cap:=by
       cases hy with
       |ver _ _ _ _ _ _ h Rg hu ht hn hx=>exact(hx xj.1.symm).trans xj.2
      subst qR;exact .tok _ d sz es _ (h3.up _) Rg (by unfold AK;rw[A9];simp) tN.1 (by rw[tN.2.1];exact Ak _) (fun _=>tN.2.2.symm))
     exact⟨_,g3,⟨p1,hS.le.trans (L2.trans p2),hS.dfs,hS.size,fun i=>(hS.slots i).le (L2.trans p2)⟩,hk⟩
    ·exact hk.elim
   ·exact hk.elim
  ·exact⟨_,g,hS,hk⟩
 ·exact hk.elim
theorem ik(hS:SR N ds w0 g0 h0 st g a w){o k r:Nat}{K:(Nat→HO)→Prop}(hk:sq st.h o k r K):∃h' g',SR N ds w0 g0 h0 ⟨st.t,h'⟩ g' a w∧K h':=by
 unfold sq at hk;split at hk
 ·rename_i cs e0;split at hk
  ·rename_i d sz es e1;split at hk
   ·rename_i GP n e2;split at hk
    ·rename_i v hf;obtain⟨⟨hn,rfl⟩,hk⟩:=hk;subst hn;have ho:=hS.inv.objs d;rw[e2]at ho;obtain⟨t1,l1,a0,cap,r1,a2⟩:=ho;have hl:(st.h d).live:=by rw[e2];trivial
     have Dn:r≠d:=fun e=>by rw[e,e2]at hf;cases hf
     have uZ:o≠d:=fun e=>by rw[e,e2]at e0;cases e0
     have iT:o≠r:=fun e=>by rw[e,hf]at e0;cases e0
     have VP:=I4 cs k _ e1 (by simp);obtain⟨m1,m2⟩:=hS.inv.moveV d r v Dn hf hl (.var sz (v+1) es.length) (.slice a0 es.length cap) (v+1) (Ly v) (by simp) (fun I0=>by
      obtain⟨u1,u2,u3,u4⟩:=BJ g r (.slice a0 es.length cap) (v+1) true (g.own d) g.S;refine⟨u3,u2,a0,cap,u1,?_⟩;rw[u4];exact a2)
     generalize TZ:g.upd r (.slice a0 es.length cap) (v+1) true (g.own d) g.S=g1 at m1 m2;have gr:g1.tk r=true∧g1.ln r=v+1∧g1.ρ r=.slice a0 es.length cap:=by rw[←TZ];simp[Gh.upd]
     have gd:g1.ln d=es.length∧g1.ρ d=.slice a0 es.length cap:=by rw[←TZ];simp[Gh.upd,Ne.symm Dn,l1,r1]
     have mH : (AT (AT st.h d .dead) r (.var sz (v+1) es.length)) o=.cells cs:=by rw[B3 _ _ _ _ iT,B3 _ _ _ _ uZ,e0]
     obtain⟨g3,p1,p2⟩:=Ob m1 mH VP (new:=.slice (.ver r sz (v+1)) es) (fun y hy=>by
      have h3:=hy.slice_none;have qR:y=.slice a0 es.length cap∧∀c∈es,c.length=sz:=by
       cases hy with
       |tok _ _ _ _ _ h Rg hu ht hn hx=>exact⟨(hx gd.1.symm).trans gd.2,Rg⟩
      obtain⟨qR,Rg⟩:=qR;subst qR;exact .ver _ r sz (v+1) es _ (h3.up _) Rg (by unfold AK;rw[A9];simp) gr.1 (by rw[gr.2.1];exact Ak _) (fun _=>gr.2.2.symm))
     exact⟨_,g3,⟨p1,hS.le.trans (m2.trans p2),hS.dfs,hS.size,fun i=>(hS.slots i).le (m2.trans p2)⟩,hk⟩
    ·exact hk.elim
   ·exact hk.elim
  ·exact⟨_,g,hS,hk⟩
 ·exact hk.elim
theorem nF(hS:SR N ds w0 g0 h0 st g a w){r:Nat}{K:(Nat→HO)→Prop}(hk:vK st.h r K):∃h' g',SR N ds w0 g0 h0 ⟨st.t,h'⟩ g' a w∧K h':=by
 unfold vK at hk;split at hk
 ·rename_i hf
  obtain⟨m1,m2⟩:=hS.inv.upd r (.vox 0) (.slice none 0 0) 0 true none g.S w none ⟨rfl,rfl,rfl,Ak _⟩ (fun _ _ _=>rfl) (fun b e=>by cases e) (fun _ _ h=>h) (fun _ _ h=>.inl h) (fun b o e=>by cases e) (fun b hh _=>by cases hh) (by simp)
   (fun hu=>absurd hf hu) (fun _ _=>by
    obtain⟨u1,u2,u3,u4⟩:=BJ g r (.slice none 0 0) 0 true none g.S;exact⟨u3,u2⟩)
  exact⟨_,_,⟨m1,hS.le.trans m2,hS.dfs,hS.size,fun i=>(hS.slots i).le m2⟩,hk⟩
 ·exact hk.elim
theorem ie(hS:SR N ds w0 g0 h0 st g a w){o k:Nat}{K:(Nat→HO)→Prop}(hk:so st.h o k K):∃h' g',SR N ds w0 g0 h0 ⟨st.t,h'⟩ g' a w∧K h':=by
 unfold so at hk;split at hk
 ·rename_i cs e0;split at hk
  ·rename_i r e1;split at hk
   ·rename_i sh B5 e2;have VP:=I4 cs k _ e1 (by simp);obtain⟨g3,p1,p2⟩:=Ob hS.inv e0 VP (new:=.cmap sh B5) (fun y hy=>by
     have e3:rsv st.h (.mref r)=.cmap sh B5:=by
      show(match st.h r with | .rom sh B5=>AV.cmap sh B5 | _=>.mref r)=_;rw[e2]
     rw[←e3];exact BF.rsv hS.inv.objs hy)
    exact⟨_,g3,⟨p1,hS.le.trans p2,hS.dfs,hS.size,fun i=>(hS.slots i).le p2⟩,hk⟩
   ·exact hk.elim
  ·exact hk.elim
 ·exact hk.elim
theorem od(hS:SR N ds w0 g0 h0 st g a w){o k j sz:Nat}{K:(Nat→HO)→Prop}(hk:wX st.h o k j sz K):∃h' g',SR N ds w0 g0 h0 ⟨st.t,h'⟩ g' a w∧K h':=by
 unfold wX at hk;split at hk
 ·rename_i cs e0;split at hk
  ·rename_i e1;split at hk
   ·rename_i hf;have iT:o≠j:=fun e=>by rw[e,hf]at e0;cases e0
    have VP:=I4 cs k _ e1 (by simp)
    obtain⟨m1,m2⟩:=hS.inv.upd j (.arr sz []) (.slice none 0 0) 0 true none g.S w none ⟨rfl,rfl,rfl,Ak _⟩ (fun _ _ _=>rfl) (fun b e=>by cases e) (fun _ _ h=>h) (fun _ _ h=>.inl h) (fun b o e=>by cases e) (fun b hh e=>by first | (cases e;done) | (exact absurd hh.2 (by simp))) (by simp)
     (fun hu=>absurd hf hu) (fun _ _=>by
      obtain⟨u1,u2,u3,u4⟩:=BJ g j (.slice none 0 0) 0 true none g.S;exact⟨u3,u2,(fun cs hc=>by cases hc),.inl ⟨rfl,u1,u4⟩⟩)
    generalize TZ:g.upd j (.slice none 0 0) 0 true none g.S=g1 at m1 m2;have gr:g1.tk j=true∧g1.ln j=0∧g1.ρ j=.slice none 0 0:=by rw[←TZ];simp[Gh.upd]
    have mH : (AT st.h j (.arr sz [])) o=.cells cs:=by rw[B3 _ _ _ _ iT,e0]
    obtain⟨g3,p1,p2⟩:=Ob m1 mH VP (new:=.msl j 0) (fun y hy=>by
     cases hy
     exact .msl _ j 0 none 0 (by unfold AK;rw[A9];simp) gr.1 (AS _) (.inl rfl) (fun _=>gr.2.2.symm))
    exact⟨_,g3,⟨p1,hS.le.trans (m2.trans p2),hS.dfs,hS.size,fun i=>(hS.slots i).le (m2.trans p2)⟩,hk⟩
   ·exact hk.elim
  ·exact hk.elim
 ·exact hk.elim
theorem d4{cx:Cx}{id:Nat}(hS:SR N ds w0 g0 h0 st g a w){K:(Nat→HO)→Prop}(hk:tM cx id st.h fun h=>sn cx id h fun h=>rm cx id h fun h=>oQ cx id h K):∃h' g',SR N ds w0 g0 h0 ⟨st.t,h'⟩ g' a w∧K h':=by
 have h1:∃h' g',SR N ds w0 g0 h0 ⟨st.t,h'⟩ g' a w∧sn cx id h' fun h=>rm cx id h fun h=>oQ cx id h K:=by
  unfold tM at hk;split at hk
  ·obtain⟨g',i1,i2⟩:=ZN hS.inv _;exact⟨_,g',⟨i1,hS.le.trans i2,hS.dfs,hS.size,fun i=>(hS.slots i).le i2⟩,hk⟩
  ·exact⟨_,g,hS,hk⟩
 obtain⟨h1,g1,S1,hk⟩:=h1;have h2:∃h' g',SR N ds w0 g0 h0 ⟨st.t,h'⟩ g' a w∧rm cx id h' fun h=>oQ cx id h K:=by
  unfold sn at hk;split at hk
  ·exact ie S1 hk
  ·exact⟨_,g1,S1,hk⟩
 obtain⟨h2,g2,S2,hk⟩:=h2;have h3:∃h' g',SR N ds w0 g0 h0 ⟨st.t,h'⟩ g' a w∧oQ cx id h' K:=by
  unfold rm at hk;split at hk
  ·exact ie S2 hk
  ·exact⟨_,g2,S2,hk⟩
 obtain⟨h3,g3,S3,hk⟩:=h3;unfold oQ at hk;split at hk
 ·exact od S3 hk
 ·exact⟨_,g3,S3,hk⟩
theorem lf{cx:Cx}{id:Nat}(hS:SR N ds w0 g0 h0 st g a w){K:(Nat→HO)→Prop}(hk:oa cx id st.h K):∃h' g',SR N ds w0 g0 h0 ⟨st.t,h'⟩ g' a w∧K h':=by
 unfold oa at hk;split at hk
 ·exact n9 hS hk
 ·split at hk
  ·exact ik hS hk
  ·split at hk
   ·exact nF hS hk
   ·exact d4 hS hk
theorem mf(hS:SR N ds w0 g0 h0 st g a w){o k:Nat}{K:(Nat→HO)→Prop}(hk:sG st.h o k K):∃h' g',SR N ds w0 g0 h0 ⟨st.t,h'⟩ g' a w∧K h':=by
 have same:K st.h→∃h' g',SR N ds w0 g0 h0 ⟨st.t,h'⟩ g' a w∧K h':=fun hk=>⟨st.h,g,hS,hk⟩;unfold sG at hk;split at hk
 ·rename_i cs e0;split at hk
  ·rename_i r n e1;split at hk
   ·rename_i sz es e2;obtain⟨rfl,hk⟩:=hk;have Dn:o≠r:=fun e=>by rw[e,e2]at e0;cases e0
    obtain⟨g1,i1,i2,i3,i4⟩:=ZB hS.inv e2;have ho:=i1.objs o;rw[B3 _ _ _ _ Dn,e0]at ho;obtain⟨t1,b,E,vs,a1,a2,a3,a4,a5⟩:=ho;have hl:(AT st.h r (.tok sz es.length) o).live:=by rw[B3 _ _ _ _ Dn,e0];trivial
    have VP:=S0 cs k _ _ e1;have VS:=hS.inv.objs o;rw[e0]at VS;obtain⟨_,b',E',iL,a1',yF,w6,yG,_⟩:=VS
    obtain⟨k1,k2⟩:=i1.upd o (.cells (Er cs k (.slice (.id r sz) es))) (g1.ρ o) (g1.ln o) (g1.tk o) (g1.own o) g1.S w none ⟨rfl,rfl,rfl,Ak _⟩ (fun _ _ _=>rfl) (fun b e=>by cases e) (fun _ _ h=>h) (fun _ _ h=>.inl h)
     (fun b o e=>by cases e) (fun b' _ e=>⟨(i1.loc o b' hl e).1,.inl ⟨hl,e⟩⟩) (by simp) (fun _=>⟨rfl,Ak _,fun _=>rfl,fun _=>rfl⟩) (fun hg I0=>by
      obtain⟨u1,u2,u3,u4⟩:=BJ g1 o (g1.ρ o) (g1.ln o) (g1.tk o) (g1.own o) g1.S;have Kw:∀i,AK (AT st.h r (.tok sz es.length)) i→AK (AT (AT st.h r (.tok sz es.length)) o (.cells (Er cs k (.slice (.id r sz) es)))) i:=fun i hi=>DR (by simp) i hi;refine⟨u3.trans t1,b,E,vs,u4.trans a1,u1.trans a2,a3,⟨by rw[KI];exact a4.1,a4.2.1,fun i av x q1 q2=>?_⟩,a5⟩;rcases KH cs k _ i av q1 with ⟨rfl,rfl⟩ | q
      ·have hx:=a4.2.2 i _ x VP q2;have hx0:x=g.ρ r:=by
        have TZ:=i2.gh o (by unfold AK;rw[e0];simp);have ZW:vs=iL:=by
         have e3:g1.ρ o=g.ρ o:=TZ.2.2.1 (by
          have:=(hS.inv.objs o);rw[e0]at this;exact this.1)
         rw[a2,yF]at e3;cases e3;rw[a3]at w6;cases w6;rfl
        subst ZW
        have:=yG.2.2 i _ x VP q2
        cases this with
        |msl _ _ _ _ _ _ _ _ _ hz=>exact hz i4.symm
       rw[hx0];exact i3.mono I0 Kw hg
      ·exact(a4.2.2 i av x q q2).mono I0 Kw hg)
    exact⟨_,_,⟨k1,hS.le.trans (i2.trans k2),hS.dfs,hS.size,fun i=>((hS.slots i).le i2).le k2⟩,hk⟩
   ·exact same hk
  ·exact same hk
 ·exact same hk
theorem l6{cx:Cx}{o:Oper}{K:St→Prop}(hS:SR N ds w0 g0 h0 st g a w)(hk:sD cx o st K):∃Fo g',SR N ds w0 g0 h0 Fo g' a w∧K Fo:=by
 have same:K st→∃Fo g',SR N ds w0 g0 h0 Fo g' a w∧K Fo:=fun hk=>⟨st,g,hS,hk⟩;unfold sD at hk;split at hk
 ·exact same hk
 ·split at hk
  ·exact same hk
  ·rename_i s _;split at hk
   ·rename_i r n ht;split at hk
    ·rename_i sz es hr;obtain⟨hn,hk⟩:=hk;subst hn;have hI:=hS.inv;have ho:=hI.objs r;rw[hr]at ho;obtain⟨t1,l1,al,a2⟩:=ho;have hl:(st.h r).live:=by rw[hr];trivial
     have UK:=hS.slots s;rw[ht]at UK;have hval:a.tmps.getD s undef=g.ρ r:=by
      generalize a.tmps.getD s undef=x at UK;cases UK with
      |msl _ r n a cap hu ht hn ha hx=>exact hx l1.symm
     have fin:∀g',Dk w0 g0 h0 (AT st.h r (.tok sz es.length)) g' w→Le st.h g w (AT st.h r (.tok sz es.length)) g' w→BF g' w (AK (AT st.h r (.tok sz es.length))) (.slice (.id r sz) es) (g.ρ r) →
       ∃Fo g',SR N ds w0 g0 h0 Fo g' a w∧K Fo:=fun g' i1 i2 i3=>by
      refine⟨_,g',⟨i1,hS.le.trans i2,hS.dfs,hS.size,fun i=>?_⟩,hk⟩;show BF g' w (AK (AT st.h r (.tok sz es.length))) (HG st.t s (.slice (.id r sz) es) i) _
      by_cases e:i=s
      ·subst e
       have:HG st.t i (.slice (.id r sz) es) i=.slice (.id r sz) es:=by unfold HG;simp
       rw[this,hval];exact i3
      ·have:HG st.t s (.slice (.id r sz) es) i=st.t i:=by unfold HG;simp[Cc e]
       rw[this];exact(hS.slots i).le i2
     rcases a2 with ⟨b1,b2,b3⟩ | ⟨b,cap,E,vs,b1,b2,b3,b4,b5,b6,b7⟩
     ·subst b1
      obtain⟨k1,k2⟩:=hI.upd r (.tok sz 0) (g.ρ r) (g.ln r) (g.tk r) (g.own r) g.S w none ⟨rfl,rfl,rfl,Ak _⟩ (fun _ _ _=>rfl) (fun b e=>by cases e) (fun _ _ h=>h) (fun _ _ h=>.inl h)
       (fun b o e=>by cases e) (fun b' _ e=>⟨(hI.loc r b' hl e).1,.inl ⟨hl,e⟩⟩) (by simp) (fun _=>⟨rfl,Ak _,fun _=>rfl,fun _=>rfl⟩) (fun hg hk=>by
        obtain⟨u1,u2,u3,u4⟩:=BJ g r (g.ρ r) (g.ln r) (g.tk r) (g.own r) g.S;exact⟨u3.trans t1,u2.trans l1,none,0,u1.trans b2,.inl ⟨rfl,u4.trans b3⟩⟩)
      refine fin _ k1 k2 ?_;rw[b2];exact .tok _ r sz [] _ (.snil _ _ _) (by simp) (by unfold AK;rw[A9];simp) (by simp[Gh.upd,t1]) (by simp) (fun _=>by simp[Gh.upd])
     ·have Dt:=(hI.loc r b hl b2).1
      obtain⟨k1,k2⟩:=hI.upd r (.tok sz es.length) (g.ρ r) (g.ln r) (g.tk r) (g.own r) (g.more b (es.length*sz)) w none ⟨rfl,rfl,rfl,Ak _⟩ (fun _ _ _=>rfl) (fun b e=>by cases e) (fun _ _ h=>.inl h)
       (fun b' o hs=>hs.elim .inl (fun hs=>.inr ⟨by rw[hs.1];exact Dt,.inr ⟨hl,by rw[hs.1];exact b2⟩⟩)) (fun b o e=>by cases e) (fun b' _ e=>⟨(hI.loc r b' hl e).1,.inl ⟨hl,e⟩⟩) (by simp)
       (fun _=>⟨rfl,Ak _,fun _=>rfl,fun _=>rfl⟩) (fun hg hk=>by
        obtain⟨u1,u2,u3,u4⟩:=BJ g r (g.ρ r) (g.ln r) (g.tk r) (g.own r) (g.more b (es.length*sz));exact⟨u3.trans t1,u2.trans l1,_,cap,u1.trans b1,.inr ⟨b3,b,E,vs,0,rfl,u4.trans b2,b4,by rw[b5,Bd],fun o ho=>by
         rcases ho with ho | ⟨_,ho⟩
         ·exact absurd ho (b7 o)
         ·omega⟩⟩)
      refine fin _ k1 k2 ?_;rw[b1];exact .tok _ r sz es _ (BF.slice_row b4 al b3 (b6.mono k2.keeps (fun _ h=>h) (fun _ h=>h.elim)) (fun o ho=>.inr ⟨rfl,ho⟩)) al (by unfold AK;rw[A9];simp) (by simp[Gh.upd,t1]) (by simp[Gh.upd,l1]) (fun _=>by simp[Gh.upd])
    ·exact same hk
   ·exact same hk

variable {cx:Cx}(hP:cx.P=P)(hT:Cn P cx.T)(hY:∀l σ h g w,DZ σ=true→Dk w0 g0 h0 h g w→Le h0 g0 w0 h g w→cx.yp l σ (CA σ g) w){ro:Option Nat}{ops:Array Oper}
include hP hT hY

theorem WB{dr:Bool}{o:Oper}(hd:∀i,o.dst=some i→i<N){K:St→Prop}{next:Act→World→Prop}{Q:Exit→Act→World→Prop}(hS:SR N ds w0 g0 h0 st g a w)(hk:IH cx dr ops.toList o st K)
  (hn:∀Fo g' a' w',K Fo→SR N ds w0 g0 h0 Fo g' a' w'→next a' w'):if Region.wanted o (yielded ops a.tmps)then o.wpIn (IZ ro) 0 P a w next Q else next (a.put o.dst undef) w:=by
 have run:dM cx dr o st K→o.wpIn (IZ ro) 0 P a w next Q:=by
  intro hk;unfold dM at hk;split at hk
  ·exact dN hP hY hT hS hk fun v h' g' w' x q1 q2 q3 q4=>hn _ g' _ _ q1 (hS.put hd q2 q3 q4)
  ·obtain⟨g1,Ya⟩:=gS (cx:=cx) (o:=o) hS;obtain⟨Fo,g',Sw,hk⟩:=l6 Ya hk;exact dN hP hY hT Sw hk fun v h' g' w' x q1 q2 q3 q4=>hn _ g' _ _ q1 (Sw.put hd q2 q3 q4)
 have skip:K (st.put o.dst (.v undef) st.h)→next (a.put o.dst undef) w:=fun hk=>hn _ g _ _ hk (hS.put hd hS.inv (.refl _ _ _) (.v _ _))
 unfold IH at hk;split at hk
 ·rename_i hg;rw[Aw (by simp[Region.wanted,hg])];exact run hk
 ·rename_i j want hg;split at hk
  ·exact hk.elim
  ·rename_i d hj;have hy:∀x:Value,BF g w (AK st.h) (st.t d) x→x=a.tmps.getD d undef→True:=fun _ _ _=>trivial;have hs:=hS.slots d;rw[UY]at hj;have key:∀b:Bool,a.tmps.getD d undef=.bool b→yielded ops a.tmps j=some b:=by
    intro b hb;have Dt:d<a.tmps.size:=by
     apply Nat.lt_of_not_le;intro oA;rw[Cp,TM oA]at hb;cases hb
    simp only[yielded,hj,Option.bind_some];rw[Cp,Ba Dt]at hb;rw[Ba Dt];simp only[Cw]at hb;rw[hb]
   have vG:∀t,a.tmps.getD d undef=.tuple t→yielded ops a.tmps j=none:=by
    intro t hb;simp only[yielded,hj,Option.bind_some];cases he:a.tmps[d]? with
    |none=>rfl
    |some x =>
     rw[Cp,he]at hb;simp only[Cw]at hb;rw[hb]
   generalize hx:st.t d=x at hk hs;split at hk
   ·have:=key true hs.v_eq
    rw[Aw (by simp[Region.wanted,hg,this])];exact run hk
   ·have:=key false hs.v_eq
    rw[Aw (by simp[Region.wanted,hg,this])];exact run hk
   ·have:=key true hs.v_eq
    rw[Am (by simp[Region.wanted,hg,this])];exact skip hk
   ·have:=key false hs.v_eq
    rw[Am (by simp[Region.wanted,hg,this])];exact skip hk
   ·have:=vG _ hs.v_eq
    rw[Am (by simp[Region.wanted,hg,this])];exact skip hk
   ·exact hk.elim

theorem ZA{Q:Exit→Act→World→Prop}{K:St→Prop}(hQ:∀Fo g' a' w',K Fo→SR N ds w0 g0 h0 Fo g' a' w'→Q .normal a' w') :
  ∀(l:List Oper),(∀o∈l,∀i,o.dst=some i→i<N)→∀{st:St} {g:Gh} {a:Act} {w:World},SR N ds w0 g0 h0 st g a w→ma cx ops.toList l st K→wpListIn (IZ ro) 0 P ops Q l a w
 | [],_,st,g,a,w,hS,hk=>hQ st g a w hk hS
 |o::l,hd,st,g,a,w,hS,hk=>by
  have:=WB hP hT hY (ro:=ro) (hd o (Ab ..)) (next:=wpListIn (IZ ro) 0 P ops Q l) (Q:=Q) hS hk fun Fo g' a' w' q1 q2=>ZA hQ l (fun o' lB=>hd o' (Ag _ lB)) q2 q1
  unfold wpListIn;split
  ·rename_i hw;rw[Aw hw]at this;exact this
  ·rename_i hw;rw[Am hw]at this;exact⟨fun _ _=>trivial,this⟩

theorem Vq{Q:Exit→Act→World→Prop}{K:St→Prop}{FT:Nat→FE}(hQ:∀Fo g' a' w',K Fo→SR N ds w0 g0 h0 Fo g' a' w'→Q .normal a' w')(hd:∀(j:Nat) (o:Oper),ops[j]?=some o→∀i,o.dst=some i→i<N) :
  ∀(fuel:Nat) (listed:Array Bool) {st:St} {g:Gh} {a:Act} {w:World},SR N ds w0 g0 h0 st g a w→Wt cx ops FT K fuel listed st→wpAnyIn (IZ ro) 0 P .any ops Q fuel listed a w
 |0,_,st,g,a,w,hS,hk=>⟨hk.1,hQ st g a w hk.2 hS⟩
 |fuel+1,listed,st,g,a,w,hS,hk=>by
  refine⟨fun h0=>hQ st g a w (hk.1 h0) hS,fun i hi=>?_⟩;have h1:=hk.2 i hi;unfold oZ at h1;unfold wpOpIn;cases ho:ops[i]? with
  |none=>rw[ho]at h1;exact Vq hQ hd fuel _ hS h1
  |some o =>
   rw[ho]at h1
   have:=WB hP hT hY (ro:=ro) (hd i o ho) (next:=wpAnyIn (IZ ro) 0 P .any ops Q fuel (listed.setIfInBounds i true)) (Q:=Q) hS h1.2 fun Fo g' a' w' q1 q2=>Vq hQ hd fuel _ q2 q1
   dsimp only;split
   ·rename_i hw;rw[Aw hw]at this;exact this
   ·rename_i hw;rw[Am hw]at this;exact⟨fun _ _=>trivial,this⟩
end
end Go.Eng
