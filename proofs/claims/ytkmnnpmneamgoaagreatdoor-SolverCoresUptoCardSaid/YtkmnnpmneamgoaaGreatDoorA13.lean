/- Lemmas for the claims of this seat, without a condition: part 13 (EngZB, EngZC). -/
import Derived.Test.YtkmnnpmneamgoaaGreatDoorA12
namespace Go.Eng

section
variable {P:Program}{N:Nat}{ds:List Deferred}{w0:World}{g0:Gh}{h0:Nat→HO}{st:St}{g:Gh}{a:Act}{w:World}

theorem Xr{cx:Cx}(hT:Cu P cx.T){b:Builtin}{args:Array Operand}{Ha:Array TypeId}{dst:Option Nat}{ty:Nat}{pos:String}{after:Array Edge}{gd:Option (Nat×Bool)}{K:HK}{next:Act→World→Prop}{Q:Exit→Act→World→Prop}
  (hS:SR N ds w0 g0 h0 st g a w) (hk:Ga cx dst st.h b Ha.toList (args.toList.map (ev st.t)) K)
  (hn:Y6 w0 g0 h0 st.h g w K fun x w'=>next (a.put dst x) w'):Oper.wp P ⟨dst,.call ⟨.builtin b,args,Ha⟩,ty,pos,after,gd⟩ a w next Q:=by
 have hI:=hS.inv;have hE:=hS.eval;obtain⟨l⟩:=args;obtain⟨tl⟩:=Ha;unfold Ga at hk;split at hk
 ·rename_i x t e1 e2
  match l,e1 with
  | [y],e1 =>
   simp only[AN,Fj,FL,Sr]at e1;subst e1;simp only at e2;subst e2;exact Ed (m:=Builtin.len_ #[t] ty #[a.eval y]) (by simp[execOp,resolve,invoke,builtin]) (B2.does hI (iu hT hI.objs (hE y) hk)) hn
 ·rename_i s x t t' e1 e2
  match l,e1 with
  | [y,z],e1 =>
   simp only[AN,Fj,FL,Sr]at e1;obtain⟨rfl,rfl⟩:=e1;simp only at e2;subst e2;split at hk
   ·rename_i ht;obtain rfl:=AU ht;exact Ed (m:=Builtin.append_ #[t,t] ty #[a.eval y,a.eval z]) (by simp[execOp,resolve,invoke,builtin]) (Zg hI hT (hE y) (hE z) hk) hn
   ·exact hk.elim
 ·rename_i x y Ha e1
  match l,e1 with
  | [y,z],e1 =>
   simp only[AN,Fj,FL,Sr]at e1;obtain⟨rfl,rfl⟩:=e1;exact Ed (m:=Builtin.max_ ⟨tl⟩ ty #[a.eval y,a.eval z]) (by simp[execOp,resolve,invoke,builtin]) (B2.does hI (lO (hE y) (hE z) hk)) hn
 ·rename_i x y Ha e1
  match l,e1 with
  | [y,z],e1 =>
   simp only[AN,Fj,FL,Sr]at e1;obtain⟨rfl,rfl⟩:=e1;exact Ed (m:=Builtin.min_ ⟨tl⟩ ty #[a.eval y,a.eval z]) (by simp[execOp,resolve,invoke,builtin]) (B2.does hI (lQ (hE y) (hE z) hk)) hn
 ·exact hk.elim

theorem kn{cx:Cx}(hT:Cu P cx.T){dr:Bool}{o:Oper}{K:HK}{next:Act→World→Prop}{Q:Exit→Act→World→Prop}(hS:SR N ds w0 g0 h0 st g a w)(hk:F8 cx dr o st K)
  (hv:∀f args Ha,o.op≠.call ⟨.value f,args,Ha⟩) (hn:Y6 w0 g0 h0 st.h g w K fun x w'=>next (a.put o.dst x) w'):o.wp P a w next Q:=by
 have hI:=hS.inv;have hE:=hS.eval;obtain⟨dst,op,ty,pos,after,gd⟩:=o;unfold F8 at hk;cases op with
 |move x=>exact bU hI (x:=a.eval x) rfl hk (hE x) hn
 |assign x =>
  obtain⟨g',av,h',q1,q2,q3,q4⟩:=Zi hI (hE x) hk;exact hn _ _ _ _ _ q1 q2 q3 q4
 |pick c x y=>exact Ed (m:=do pure (if ←asBool (a.eval c)then a.eval x else a.eval y)) (by simp[execOp]) (B2.does hI (jb (hE c) (hE x) (hE y) hk)) hn
 |alloc e=>exact Ed rfl (cc hI hT hk) hn
 |box e x=>exact Ed rfl (kr hI (hE x) hk) hn
 |build t ps=>exact Ed rfl (B2.does hI (cp hT hE hk)) hn
 |buildSlice t n ps=>exact Ed rfl (Sz hI hT hE hk) hn
 |insert t m k x=>exact W8 rfl (ND hI hT (hE m) (hE k) (hE x) hk) hn
 |load t x=>exact Ed rfl (B2.does hI (Vw hI.objs hT (hE x) hk)) hn
 |store t p x=>exact W8 rfl (eI hI hT (hE p) (hE x) hk) hn
 |nilCheck x =>
  obtain⟨h1,h2⟩:=WP (P:=P) (w:=w) (hE x) hk (pos:=pos) (after:=after) (gd:=gd) (dst:=dst) (ty:=ty) (ρ:=a.eval) rfl;exact bU hI h1 h2 (hE x) hn
 |binOp op t x y u=>exact Ed rfl (B2.does hI (fB hT (hE x) (hE y) (fun v e=>by subst e;rfl) hk)) hn
 |unOp op t x=>exact Ed rfl (B2.does hI (jK (hE x) hk)) hn
 |convert s t x=>exact Ed rfl (B2.does hI (fS hT (hE x) hk)) hn
 |makeFunc fn first cap=>exact Ed rfl (B2.does hI (WN hI.objs hE hk)) hn
 |makeMap t r =>
  cases r with
  |some r=>exact hk.elim
  |none=>exact Ed rfl (Yt hI hk) hn
 |makeSlice t n c=>exact Ed rfl (UL hI hT (hE n) (hE c) hk) hn
 |slice t x lo hi mx =>
  cases dr with
  |true =>
   cases hp:NN cx.pl.tok dst with
   |none =>
    have LM : GH cx dst st.h t (ev st.t x) (Ca st.t lo) (Ca st.t hi) (Ca st.t mx) K:=by
     have Ik:(match NN cx.pl.tok dst with
      |none=>GH cx dst st.h t (ev st.t x) (Ca st.t lo) (Ca st.t hi) (Ca st.t mx) K
      |some _=>T0 cx dst st.h t (ev st.t x) lo (Ca st.t hi) mx K):=hk
     rw[hp]at Ik;exact Ik
    exact Ed rfl (VN hI hT hE (hE x) LM) hn
   |some _ =>
    have LM : T0 cx dst st.h t (ev st.t x) lo (Ca st.t hi) mx K:=by
     have Ik:(match NN cx.pl.tok dst with
      |none=>GH cx dst st.h t (ev st.t x) (Ca st.t lo) (Ca st.t hi) (Ca st.t mx) K
      |some _=>T0 cx dst st.h t (ev st.t x) lo (Ca st.t hi) mx K):=hk
     rw[hp]at Ik;exact Ik
    unfold T0 at LM;split at LM
    ·exact Ed rfl (mg hI hT hE (hE x) LM) hn
    ·exact LM.elim
  |false =>
   cases hp:NN cx.pl.tok dst with
   |none =>
    have LM : GH cx dst st.h t (ev st.t x) (Ca st.t lo) (Ca st.t hi) (Ca st.t mx) K:=by
     have Ik:(match NN cx.pl.tok dst with
      |none=>GH cx dst st.h t (ev st.t x) (Ca st.t lo) (Ca st.t hi) (Ca st.t mx) K
      |some _=>K2 cx dst st.h t (ev st.t x) (Ca st.t lo) hi mx K):=hk
     rw[hp]at Ik;exact Ik
    exact Ed rfl (VN hI hT hE (hE x) LM) hn
   |some _ =>
    have LM : K2 cx dst st.h t (ev st.t x) (Ca st.t lo) hi mx K:=by
     have Ik:(match NN cx.pl.tok dst with
      |none=>GH cx dst st.h t (ev st.t x) (Ca st.t lo) (Ca st.t hi) (Ca st.t mx) K
      |some _=>K2 cx dst st.h t (ev st.t x) (Ca st.t lo) hi mx K):=hk
     rw[hp]at Ik;exact Ik
    exact Ed rfl (YT hI hT hE (hE x) LM) hn
 |fieldAddr s x f=>exact Ed rfl (B2.does hI (cH hT (hE x) hk)) hn
 |field s x f=>exact Ed rfl (B2.does hI (ZA hT (hE x) hk)) hn
 |indexAddr t x i=>exact Ed rfl (B2.does hI (UI hT (hE x) (hE i) hk)) hn
 |index t x i=>exact Ed rfl (B2.does hI (df hT (hE x) (hE i) hk)) hn
 |lookup t x i ok =>
  have hk:MY cx.T st.h t (ev st.t x) (ev st.t i) ok fun v=>K v st.h:=by
   cases dr with
   |true=>exact dv hk
   |false=>exact hk
  exact Ed rfl (B2.does hI (ZZ hT hI.objs (hE x) (hE i) hk)) hn
 |mapUpdate t m k x=>exact W8 rfl (ND hI hT (hE m) (hE k) (hE x) hk) hn
 |range t x =>
  simp only at hk;split at hk
  ·rename_i kt e ht;exact Ed rfl (d8 hI hT ht (hE x) hk) hn
  ·exact hk.elim
 |next it s =>
  cases s with
  |true=>exact hk.elim
  |false=>exact Ed rfl (iK hI (hE it) hk) hn
 |entry it=>exact Ed rfl (B2.does hI (cC hI.objs (hE it) hk)) hn
 |extract x i=>exact Ed rfl (B2.does hI (XF (hE x) hk)) hn
 |call c =>
  obtain⟨pX,args,Ha⟩:=c;cases pX with
  |builtin b=>exact Xr hT hS hk hn
  |value f=>exact absurd rfl (hv f args Ha)
  |invoke r m=>exact hk.elim
 |_=>exact hk.elim
theorem fu{cx:Cx}(hP:cx.P=P)(hY:∀l σ h g w,Ec σ=true→DF w0 g0 h0 h g w→Le h0 g0 w0 h g w→cx.yp l σ (CZ σ g) w){ro:Option Nat}(hT:Cu P cx.T){dr:Bool}{o:Oper}{K:HK}{next:Act→World→Prop}{Q:Exit→Act→World→Prop}(hS:SR N ds w0 g0 h0 st g a w)(hk:F8 cx dr o st K)
  (hn:Y6 w0 g0 h0 st.h g w K fun x w'=>next (a.put o.dst x) w'):o.wpIn (JQ ro) 0 P a w next Q:=by
 by_cases hv:∃f args Ha,o.op=.call ⟨.value f,args,Ha⟩
 ·obtain⟨f,args,Ha,e⟩:=hv;obtain⟨dst,op,ty,pos,after,gd⟩:=o;cases e;exact fH hP hY hS hk hn
 ·refine RZ (fun c e=>?_) (kn hT hS hk (fun f args Ha e=>hv ⟨f,args,Ha,e⟩) hn);obtain⟨dst,op,ty,pos,after,gd⟩:=o;cases e;exact hk.elim
theorem sO{p:Nat→Prop}(h:∃n,p n):∃n,p n∧∀m,m<n→¬p m:=by
 apply Ch;intro hc
 have:∀n,¬p n:=fun n=>by
  induction n using Nat.strongRecOn with
  |_ n ih=>exact fun hp=>hc ⟨n,hp,ih⟩
 obtain⟨n,hn⟩:=h;exact this n hn
theorem RI{F:Fence}{m:Nat}{c:Code}{Q:Exit→Act→World→Prop}(I:Nat→Act→World→Prop)(k:Nat)(h0:I k a w)
  (round:∀n a w,I n a w→c.wpIn F m P (Exit.then (fun a' w'=>∃n',n' < n∧I n' a' w') Q) a w):(Code.loop c).wpIn F m P Q a w:=by
 classical
 have hex:∀a w,(∃n,I n a w)→∃n,I n a w∧∀n',n' < n→¬I n' a w:=fun a w h=>sO h;refine wpIn_loop (fun a w=>∃n,I n a w) (fun a w=>if h:∃n,I n a w then(hex a w h).choose else 0) ⟨k,h0⟩ fun a w h=>?_;have hs:=(hex a w h).choose_spec;refine wpIn_mono (round _ a w hs.1) fun e a' w' q=>?_;cases e with
 |normal =>
  obtain⟨n',Dy,hn⟩:=q;have h' : ∃n,I n a' w':=⟨n',hn⟩;refine⟨h',?_⟩;simp only[dif_pos h,dif_pos h'];refine Nat.lt_of_le_of_lt ?_ Dy;apply Nat.le_of_not_lt;intro hc;exact(hex a' w' h').choose_spec.2 n' hc hn
 |_=>exact q
end
end Go.Eng

namespace Go.Eng

section
variable {P:Program}{N:Nat}{ds:List Deferred}{w0:World}{g0:Gh}{h0 h:Nat→HO}{st:St}{g:Gh}{a:Act}{w:World}

theorem bf(hI:DF w0 g0 h0 h g w)(r:Nat):∃g',DF w0 g0 h0 (gm h r) g' w∧Le h g w (gm h r) g' w:=by
 unfold gm;split
 ·rename_i cs e0;have ho:=hI.objs r;rw[e0]at ho;obtain⟨t1,b,E,vs,a1,a2,a3,a4,a5⟩:=ho;have hl:(h r).live:=by rw[e0];trivial
  have Dy:=(hI.loc r b hl a1).1;have hs:=Pp hI a4
  obtain⟨k1,k2⟩:=hI.upd r (.ro (cs.map (str h))) (g.ρ r) (g.ln r) (g.tk r) none (g.more b cs.length) w none ⟨rfl,rfl,rfl,Ao _⟩ (fun _ _ _=>rfl) (fun b e=>by cases e) (fun _ _ h=>.inl h)
   (fun b' o hs=>hs.elim .inl (fun hs=>.inr ⟨by rw[hs.1];exact Dy,.inr ⟨hl,by rw[hs.1];exact a1⟩⟩)) (fun b o e=>by cases e) (fun b hh _=>by cases hh) (by simp)
   (fun _=>⟨rfl,Ao _,fun _=>rfl,fun _=>rfl⟩) (fun hg hk=>by
    obtain⟨u1,u2,u3,u4⟩:=BU g r (g.ρ r) (g.ln r) (g.tk r) none (g.more b cs.length);exact⟨u3.trans t1,b,u1.trans a2,BK.cptr_row a3 (hs.mono hk (fun _ h=>h) (fun _ h=>h.elim)) (fun o ho=>.inr ⟨rfl,by simpa using ho⟩)⟩)
  exact⟨_,k1,k2⟩
 ·rename_i sh Cb e0;have ho:=hI.objs r;rw[e0]at ho;obtain⟨t1,b,es,ck,a1,a2,a3,a4,a5,a6⟩:=ho;obtain⟨g1,i1,i2,i3⟩:=Rg hI e0 a1 a2 a3 a4 a5 t1;exact⟨g1,i1,i2⟩
 ·rename_i sh Cb e0;have ho:=hI.objs r;rw[e0]at ho;obtain⟨t1,b,es,ck,a1,a2,a3,a4,a5,a6⟩:=ho;obtain⟨g1,i1,i2,i3⟩:=WO hI e0 a1 a2 a3 a4 a5 t1;exact⟨g1,i1,i2⟩
 ·exact⟨g,hI,.refl _ _ _⟩
theorem Ln:∀(l:List Nat) {h:Nat→HO} {g:Gh},DF w0 g0 h0 h g w→∃g',DF w0 g0 h0 (NU h l) g' w∧Le h g w (NU h l) g' w
 | [],_,g,hI=>⟨g,hI,.refl _ _ _⟩
 |r::l,_,_,hI =>
  let ⟨_,i1,i2⟩:=bf hI r
  let ⟨g2,j1,j2⟩:=Ln l i1
  ⟨g2,j1,i2.trans j2⟩
theorem KY:∀(cs:List AV) (k:Nat) (v:AV) (i:Nat) (av:AV),(EM cs k v)[i]?=some av→(i=k∧av=v)∨cs[i]?=some av
 | [],_,_,_,_,h=>by simp[EM]at h
 |c::cs,0,v,i,av,h=>by
  unfold EM at h;cases i with
  |zero=>simp only[Bk,Bv]at h;exact .inl ⟨rfl,h.symm⟩
  |succ i=>exact .inr h
 |c::cs,k+1,v,i,av,h=>by
  unfold EM at h;cases i with
  |zero=>exact .inr h
  |succ i =>
   rcases KY cs k v i av (by simpa using h)with ⟨e1,e2⟩ | e
   ·exact .inl ⟨by omega,e2⟩
   ·exact .inr (by simpa using e)
theorem KZ:∀(cs:List AV) (k:Nat) (v:AV),(EM cs k v).length=cs.length
 | [],_,_=>rfl
 |_::_,0,_=>rfl
 |_::cs,k+1,v=>by unfold EM;simp[KZ cs k v]
theorem YD:∀(cs:List AV) (k:Nat) (x:Value),Jf cs k=.v x→cs[k]?=some (.v x)
 | [],_,_,h=>by simp[Jf]at h
 |_::_,0,_,h=>by unfold Jf at h;simp[h]
 |_::cs,k+1,x,h=>by unfold Jf at h;simpa using YD cs k x h
theorem pQ(hI:DF w0 g0 h0 h g w)(r k j sz:Nat):∃g',DF w0 g0 h0 (ux h r k j sz) g' w∧Le h g w (ux h r k j sz) g' w:=by
 have same:∃g',DF w0 g0 h0 h g' w∧Le h g w h g' w:=⟨g,hI,.refl _ _ _⟩;unfold ux;split
 ·rename_i cs e0;split
  ·rename_i e1;split
   ·rename_i hj;have DB:r≠j:=fun e=>by rw[e,hj]at e0;cases e0
    obtain⟨g1,i1,i2,i3⟩:=N6 hI (sz:=sz) (es:=[]) (a:=none) hj (by simp) rfl (.snil _ _ _);have ho:=i1.objs r;rw[B9 _ _ _ _ DB,e0]at ho;obtain⟨t1,b,E,vs,a1,a2,a3,a4,a5⟩:=ho;have hl:(AZ h j (.tok sz 0) r).live:=by rw[B9 _ _ _ _ DB,e0];trivial
    have Dy:=(i1.loc r b hl a1).1;have Vl:=YD cs k _ e1
    obtain⟨k1,k2⟩:=i1.upd r (.cells (EM cs k (.slice (.id j sz) []))) (g1.ρ r) (g1.ln r) (g1.tk r) (g1.own r) g1.S w none ⟨rfl,rfl,rfl,Ao _⟩ (fun _ _ _=>rfl) (fun b e=>by cases e) (fun _ _ h=>h) (fun _ _ h=>.inl h)
     (fun b o e=>by cases e) (fun b' _ e=>⟨(i1.loc r b' hl e).1,.inl ⟨hl,e⟩⟩) (by simp) (fun _=>⟨rfl,Ao _,fun _=>rfl,fun _=>rfl⟩) (fun hg hk=>by
      obtain⟨u1,u2,u3,u4⟩:=BU g1 r (g1.ρ r) (g1.ln r) (g1.tk r) (g1.own r) g1.S;have KN:∀i,AM (AZ h j (.tok sz 0)) i→AM (AZ (AZ h j (.tok sz 0)) r (.cells (EM cs k (.slice (.id j sz) [])))) i:=fun i hi=>D4 (by simp) i hi;refine⟨u3.trans t1,b,E,vs,u4.trans a1,u1.trans a2,a3,⟨by rw[KZ];exact a4.1,a4.2.1,fun i av x q1 q2=>?_⟩,a5⟩;rcases KY cs k _ i av q1 with ⟨rfl,rfl⟩ | q
      ·have:=(a4.2.2 i _ x Vl q2).v_eq
       subst this;exact i3.mono hk KN hg
      ·exact(a4.2.2 i av x q q2).mono hk KN hg)
    exact⟨_,k1,i2.trans k2⟩
   ·exact same
  ·exact same
 ·exact same
theorem ji{cx:Cx}{o:Oper}(hS:SR N ds w0 g0 h0 st g a w):∃g',SR N ds w0 g0 h0 (jh cx o st) g' a w:=by
 unfold jh;split
 ·exact⟨g,hS⟩
 ·rename_i d _;split
  ·obtain⟨g',h1,h2⟩:=pQ hS.inv _ _ _ _;exact⟨g',h1,hS.le.trans h2,hS.dfs,hS.size,fun i=>(hS.slots i).le h2⟩
  split
  ·exact⟨g,hS⟩
  ·obtain⟨g',h1,h2⟩:=Ln (nM cx.pl.fz d) hS.inv;exact⟨g',h1,hS.le.trans h2,hS.dfs,hS.size,fun i=>(hS.slots i).le h2⟩

theorem TR:∀(cs:List AV) (k:Nat) (r n:Nat),Jf cs k=.msl r n→cs[k]?=some (.msl r n)
 | [],_,_,_,h=>by simp[Jf]at h
 |_::_,0,_,_,h=>by unfold Jf at h;simp[h]
 |_::cs,k+1,r,n,h=>by unfold Jf at h;simpa using TR cs k r n h
theorem aQ(hI:DF w0 g0 h0 h g w){r sz:Nat}{es:List (List AV)}(hr:h r=.arr sz es) :
  ∃g',DF w0 g0 h0 (AZ h r (.tok sz es.length)) g' w∧Le h g w (AZ h r (.tok sz es.length)) g' w∧BK g' w (AM (AZ h r (.tok sz es.length))) (.slice (.id r sz) es) (g.ρ r)∧g.ln r=es.length:=by
 have ho:=hI.objs r;rw[hr]at ho;obtain⟨t1,l1,al,a2⟩:=ho;have hl:(h r).live:=by rw[hr];trivial
 rcases a2 with ⟨b1,b2,b3⟩ | ⟨b,cap,E,vs,b1,b2,b3,b4,b5,b6,b7⟩
 ·subst b1
  obtain⟨k1,k2⟩:=hI.upd r (.tok sz 0) (g.ρ r) (g.ln r) (g.tk r) (g.own r) g.S w none ⟨rfl,rfl,rfl,Ao _⟩ (fun _ _ _=>rfl) (fun b e=>by cases e) (fun _ _ h=>h) (fun _ _ h=>.inl h)
   (fun b o e=>by cases e) (fun b' _ e=>⟨(hI.loc r b' hl e).1,.inl ⟨hl,e⟩⟩) (by simp) (fun _=>⟨rfl,Ao _,fun _=>rfl,fun _=>rfl⟩) (fun hg hk=>by
    obtain⟨u1,u2,u3,u4⟩:=BU g r (g.ρ r) (g.ln r) (g.tk r) (g.own r) g.S;exact⟨u3.trans t1,u2.trans l1,none,0,u1.trans b2,.inl ⟨rfl,u4.trans b3⟩⟩)
  refine⟨_,k1,k2,?_,l1⟩;rw[b2];exact .tok _ r sz [] _ (.snil _ _ _) (by simp) (by unfold AM;rw[Ah,Bg];simp) (by simp[Gh.upd,t1]) (by simp) (fun _=>by simp[Gh.upd])
 ·have Dy:=(hI.loc r b hl b2).1
  obtain⟨k1,k2⟩:=hI.upd r (.tok sz es.length) (g.ρ r) (g.ln r) (g.tk r) (g.own r) (g.more b (es.length*sz)) w none ⟨rfl,rfl,rfl,Ao _⟩ (fun _ _ _=>rfl) (fun b e=>by cases e) (fun _ _ h=>.inl h)
   (fun b' o hs=>hs.elim .inl (fun hs=>.inr ⟨by rw[hs.1];exact Dy,.inr ⟨hl,by rw[hs.1];exact b2⟩⟩)) (fun b o e=>by cases e) (fun b' _ e=>⟨(hI.loc r b' hl e).1,.inl ⟨hl,e⟩⟩) (by simp)
   (fun _=>⟨rfl,Ao _,fun _=>rfl,fun _=>rfl⟩) (fun hg hk=>by
    obtain⟨u1,u2,u3,u4⟩:=BU g r (g.ρ r) (g.ln r) (g.tk r) (g.own r) (g.more b (es.length*sz));exact⟨u3.trans t1,u2.trans l1,_,cap,u1.trans b1,.inr ⟨b3,b,E,vs,0,rfl,u4.trans b2,b4,by rw[b5,Be],fun o ho=>by
     rcases ho with ho | ⟨_,ho⟩
     ·exact absurd ho (b7 o)
     ·omega⟩⟩)
  refine⟨_,k1,k2,?_,l1⟩;rw[b1];exact .tok _ r sz es _ (BK.slice_row b4 al b3 (b6.mono k2.keeps (fun _ h=>h) (fun _ h=>h.elim)) (fun o ho=>.inr ⟨rfl,ho⟩)) al (by unfold AM;rw[Bg];simp) (by simp[Gh.upd,t1]) (by simp[Gh.upd,l1]) (fun _=>by simp[Gh.upd])
theorem DF.move{w0:World}{g0:Gh}{h0 h:Nat→HO}{g:Gh}{w:World}(hI:DF w0 g0 h0 h g w)(r r2:Nat)(DB:r2≠r)(hf:h r2=.free)(hl:(h r).live){b:Nat}(ho:g.own r=some b)(o' : HO)(x:Value)(n:Nat)(t:Bool)(hn:o'≠.free)
  (JA:E5 g w (g.upd r2 x n t (some b) g.S) w→Ej (g.upd r2 x n t (some b) g.S) w (AM (AZ (AZ h r .dead) r2 o')) r2 o') :
  DF w0 g0 h0 (AZ (AZ h r .dead) r2 o') (g.upd r2 x n t (some b) g.S) w∧Le h g w (AZ (AZ h r .dead) r2 o') (g.upd r2 x n t (some b) g.S) w:=by
 have eX:Ke g (g.upd r2 x n t (some b) g.S) (AM h):=by
  intro i hi;have e:i≠r2:=fun e=>hi (by rw[e];exact hf);refine⟨by simp[Gh.upd,e],by simp[Gh.upd,e],fun _=>by simp[Gh.upd,e],fun _=>by simp[Gh.upd,e]⟩
 have hK:E5 g w (g.upd r2 x n t (some b) g.S) w:=fun b o hb=>⟨hb,rfl,fun _ _ h=>h⟩;have KN:∀i,AM h i→AM (AZ (AZ h r .dead) r2 o') i:=fun i hi=>D4 hn i (D4 (by simp) i hi);have key:∀i,i≠r2→(AZ (AZ h r .dead) r2 o' i).live→i≠r∧(h i).live:=fun i h2 hl=>by
  rw[B9 _ _ _ _ h2]at hl
  by_cases e:i=r
  ·subst e;rw[Bg]at hl;exact hl.elim
  ·rw[B9 _ _ _ _ e]at hl;exact⟨e,hl⟩
 have own:∀i,i≠r2→(g.upd r2 x n t (some b) g.S).own i=g.own i:=fun i e=>by simp[Gh.upd,e]
 have TV:(g.upd r2 x n t (some b) g.S).own r2=some b:=by simp[Gh.upd]
 refine⟨⟨hI.os,hI.tape,hI.output,hI.size,hI.frame,hI.slt,fun i=>?_,fun i j c hi hj ei ej=>?_,fun i c hi ei=>?_,hI.sg,hI.glob.keep hK⟩,eX,KN,hK⟩
 ·by_cases e:i=r2
  ·subst e;rw[Bg];exact JA hK
  ·rw[B9 _ _ _ _ e]
   by_cases e1:i=r
   ·subst e1;rw[Bg];trivial
   ·rw[B9 _ _ _ _ e1];exact(hI.objs i).same hK KN eX (by simp[Gh.upd,e]) (by simp[Gh.upd,e]) (by simp[Gh.upd,e]) (by simp[Gh.upd,e]) (fun b hl hb=>⟨rfl,fun k hk=>hk⟩)
 ·by_cases e1:i=r2<;>by_cases e2:j=r2
  ·exact e1.trans e2.symm
  ·subst e1;rw[TV]at ei;rw[own j e2]at ej;cases ei;obtain⟨a1,a2⟩:=key j e2 hj;exact absurd (hI.inj j r _ a2 hl ej ho) a1
  ·subst e2;rw[TV]at ej;rw[own i e1]at ei;cases ej;obtain⟨a1,a2⟩:=key i e1 hi;exact absurd (hI.inj i r _ a2 hl ei ho) a1
  ·rw[own i e1]at ei;rw[own j e2]at ej;exact hI.inj i j c (key i e1 hi).2 (key j e2 hj).2 ei ej
 ·by_cases e1:i=r2
  ·subst e1;rw[TV]at ei;cases ei;exact hI.loc r _ hl ho
  ·rw[own i e1]at ei;exact hI.loc i c (key i e1 hi).2 ei
theorem nL(hS:SR N ds w0 g0 h0 st g a w){s k:Nat}{K:St→Prop}(hk:uE st s k K):∃FB g',SR N ds w0 g0 h0 FB g' a w∧K FB:=by
 have same:K st→∃FB g',SR N ds w0 g0 h0 FB g' a w∧K FB:=fun hk=>⟨st,g,hS,hk⟩;unfold uE at hk;split at hk
 ·rename_i r n ht;have Um:=hS.slots s;rw[ht]at Um;split at hk
  ·rename_i sz es hr;have ho:=hS.inv.objs r;rw[hr]at ho;obtain⟨t1,l1,al,a2⟩:=ho;have hl:(st.h r).live:=by rw[hr];trivial
   have hval:n=es.length→a.tmps.getD s undef=g.ρ r:=fun hn=>by
    generalize a.tmps.getD s undef=x at Um;cases Um with
    |msl _ r n a cap hu ht X7 ha hx=>exact hx (hn.trans l1.symm)
   have fin:∀(h' : Nat→HO) (v:AV) (g' : Gh),DF w0 g0 h0 h' g' w→Le st.h g w h' g' w→BK g' w (AM h') v (a.tmps.getD s undef)→SR N ds w0 g0 h0 ⟨H3 st.t s v,h'⟩ g' a w:=fun h' v g' i1 i2 i3=>by
    refine⟨i1,hS.le.trans i2,hS.dfs,hS.size,fun i=>?_⟩;show BK g' w (AM h') (H3 st.t s v i) _
    by_cases e:i=s
    ·subst e
     have:H3 st.t i v i=v:=by unfold H3;simp
     rw[this];exact i3
    ·have:H3 st.t s v i=st.t i:=by unfold H3;simp[Cn e]
     rw[this];exact(hS.slots i).le i2
   split at hk
   ·obtain⟨hn,hk⟩:=hk;obtain⟨g1,i1,i2,i3,i4⟩:=aQ hS.inv hr
    obtain⟨k1,k2⟩:=i1.upd r .dead (g1.ρ r) (g1.ln r) (g1.tk r) (g1.own r) g1.S w none ⟨rfl,rfl,rfl,Ao _⟩ (fun _ _ _=>rfl) (fun b e=>by cases e) (fun _ _ h=>h) (fun _ _ h=>.inl h) (fun b o e=>by cases e) (fun b hh _=>by cases hh) (by simp)
     (fun _=>⟨rfl,Ao _,fun _=>rfl,fun _=>rfl⟩) (fun _ _=>trivial)
    exact⟨_,_,fin _ _ _ k1 (i2.trans k2) (by rw[hval hn];exact(i3.slice_none.up _).le k2),hk⟩
   ·rename_i k;split at hk
    ·exact same hk
    ·rename_i hb;have DB:k+1≠r:=fun e=>by rw[e]at hb;exact absurd (Ds r) (by rw[hb];decide)
     split at hk
     ·rename_i hf;obtain⟨hn,hk⟩:=hk;rcases a2 with ⟨b1,b2,b3⟩ | ⟨b,cap,E,vs,b1,b2,b3,b4,b5,b6,b7⟩
      ·subst b1;have hv:=hval hn
       obtain⟨k1,k2⟩:=hS.inv.upd r .dead (g.ρ r) (g.ln r) (g.tk r) (g.own r) g.S w none ⟨rfl,rfl,rfl,Ao _⟩ (fun _ _ _=>rfl) (fun b e=>by cases e) (fun _ _ h=>h) (fun _ _ h=>.inl h) (fun b o e=>by cases e) (fun b hh _=>by cases hh) (by simp)
        (fun _=>⟨rfl,Ao _,fun _=>rfl,fun _=>rfl⟩) (fun _ _=>trivial)
       have wZ:AZ st.h r .dead (k+1)=.free:=by rw[B9 _ _ _ _ DB];exact hf
       obtain⟨m1,m2⟩:=k1.upd (k+1) (.arr sz []) (.slice none 0 0) 0 true none (g.upd r (g.ρ r) (g.ln r) (g.tk r) (g.own r) g.S).S w none ⟨rfl,rfl,rfl,Ao _⟩ (fun _ _ _=>rfl) (fun b e=>by cases e) (fun _ _ h=>h) (fun _ _ h=>.inl h) (fun b o e=>by cases e) (fun b _ e=>by cases e) (by simp)
        (fun hu=>absurd wZ hu) (fun _ _=>by
         obtain⟨u1,u2,u3,u4⟩:=BU (g.upd r (g.ρ r) (g.ln r) (g.tk r) (g.own r) g.S) (k+1) (.slice none 0 0) 0 true none (g.upd r (g.ρ r) (g.ln r) (g.tk r) (g.own r) g.S).S;exact⟨u3,u2,by simp,.inl ⟨rfl,u1,u4⟩⟩)
       refine⟨_,_,fin _ _ _ m1 (k2.trans m2) ?_,hk⟩;rw[hv,b2,hn];exact .msl _ (k+1) 0 none 0 (by unfold AM;rw[Bg];simp) (by simp[Gh.upd]) (AL _) (.inl rfl) (fun _=>by simp[Gh.upd])
      ·have hv:=hval hn;obtain⟨m1,m2⟩:=hS.inv.move r (k+1) DB hf hl b2 (.arr sz es) (g.ρ r) es.length true (by simp) (fun Jj=>by
        obtain⟨u1,u2,u3,u4⟩:=BU g (k+1) (g.ρ r) es.length true (some b) g.S;exact⟨u3,u2,al,.inr ⟨b,cap,E,vs,u1.trans b1,u4,b3,b4,b5,b6.mono Jj (fun _ h=>h) (fun _ h=>h.elim),b7⟩⟩)
       refine⟨_,_,fin _ _ _ m1 m2 ?_,hk⟩;rw[hv,b1,hn];exact .msl _ (k+1) es.length _ cap (by unfold AM;rw[Bg];simp) (by simp[Gh.upd]) (by simp[Gh.upd]) (.inr ⟨b,rfl⟩) (fun _=>by simp[Gh.upd])
     ·exact hk.elim
  ·exact same hk
 ·exact same hk
theorem nI(hS:SR N ds w0 g0 h0 st g a w){o k j:Nat}{K:(Nat→HO)→Prop}(hk:uD st.h o k j K):∃h' g',SR N ds w0 g0 h0 ⟨st.t,h'⟩ g' a w∧K h':=by
 unfold uD at hk;split at hk
 ·rename_i cs e0;split at hk
  ·rename_i r n e1;split at hk
   ·rename_i sz es e2;split at hk
    ·rename_i hf;obtain⟨hn,hk⟩:=hk;have ho:=hS.inv.objs r;rw[e2]at ho;obtain⟨t1,l1,al,a2⟩:=ho;have hl:(st.h r).live:=by rw[e2];trivial
     have DB:j≠r:=fun e=>by rw[e,e2]at hf;cases hf
     have jY:o≠r:=fun e=>by rw[e,e2]at e0;cases e0
     have lq:o≠j:=fun e=>by rw[e,hf]at e0;cases e0
     -- the array goes to the new id,which stands for the same slice
     have step:∃g1,DF w0 g0 h0 (AZ (AZ st.h r .dead) j (.arr sz es)) g1 w∧Le st.h g w (AZ (AZ st.h r .dead) j (.arr sz es)) g1 w∧g1.tk j=true∧g1.ln j=es.length∧g1.ρ j=g.ρ r:=by
      rcases a2 with ⟨b1,b2,b3⟩ | ⟨b,cap,E,vs,b1,b2,b3,b4,b5,b6,b7⟩
      ·subst b1
       obtain⟨k1,k2⟩:=hS.inv.upd r .dead (g.ρ r) (g.ln r) (g.tk r) (g.own r) g.S w none ⟨rfl,rfl,rfl,Ao _⟩ (fun _ _ _=>rfl) (fun b e=>by cases e) (fun _ _ h=>h) (fun _ _ h=>.inl h) (fun b o e=>by cases e) (fun b hh _=>by cases hh) (by simp)
        (fun _=>⟨rfl,Ao _,fun _=>rfl,fun _=>rfl⟩) (fun _ _=>trivial)
       have wZ:AZ st.h r .dead j=.free:=by rw[B9 _ _ _ _ DB];exact hf
       obtain⟨m1,m2⟩:=k1.upd j (.arr sz []) (.slice none 0 0) 0 true none (g.upd r (g.ρ r) (g.ln r) (g.tk r) (g.own r) g.S).S w none ⟨rfl,rfl,rfl,Ao _⟩ (fun _ _ _=>rfl) (fun b e=>by cases e) (fun _ _ h=>h) (fun _ _ h=>.inl h) (fun b o e=>by cases e) (fun b _ e=>by cases e) (by simp)
        (fun hu=>absurd wZ hu) (fun _ _=>by
         obtain⟨u1,u2,u3,u4⟩:=BU (g.upd r (g.ρ r) (g.ln r) (g.tk r) (g.own r) g.S) j (.slice none 0 0) 0 true none (g.upd r (g.ρ r) (g.ln r) (g.tk r) (g.own r) g.S).S;exact⟨u3,u2,by simp,.inl ⟨rfl,u1,u4⟩⟩)
       exact⟨_,m1,k2.trans m2,by simp[Gh.upd],by simp[Gh.upd],by simp[Gh.upd,b2]⟩
      ·obtain⟨m1,m2⟩:=hS.inv.move r j DB hf hl b2 (.arr sz es) (g.ρ r) es.length true (by simp) (fun Jj=>by
        obtain⟨u1,u2,u3,u4⟩:=BU g j (g.ρ r) es.length true (some b) g.S;exact⟨u3,u2,al,.inr ⟨b,cap,E,vs,u1.trans b1,u4,b3,b4,b5,b6.mono Jj (fun _ h=>h) (fun _ h=>h.elim),b7⟩⟩)
       exact⟨_,m1,m2,by simp[Gh.upd],by simp[Gh.upd],by simp[Gh.upd]⟩
     obtain⟨g1,i1,i2,j1,j2,j3⟩:=step
     -- the cell
     have ho:=hS.inv.objs o;rw[e0]at ho;have zX:=i1.objs o;rw[B9 _ _ _ _ lq,B9 _ _ _ _ jY,e0]at zX;obtain⟨t2,b,E,vs,c1,c2,c3,c4,c5⟩:=zX;obtain⟨_,b',E',jO,ks,c2',zb,c4',_⟩:=ho;have hb:b'=b:=by
      have h2:=i2.gh o (by unfold AM;rw[e0];simp);have h3:=h2.2.2.1 (by assumption);rw[h3,c2']at c2;cases c2;rfl
     subst hb;rw[c3]at zb;cases zb;have Xb:(AZ (AZ st.h r .dead) j (.arr sz es) o).live:=by rw[B9 _ _ _ _ lq,B9 _ _ _ _ jY,e0];trivial
     have Vl:=TR cs k _ _ e1
     obtain⟨k1,k2⟩:=i1.upd o (.cells (EM cs k (.msl j n))) (g1.ρ o) (g1.ln o) (g1.tk o) (g1.own o) g1.S w none ⟨rfl,rfl,rfl,Ao _⟩ (fun _ _ _=>rfl) (fun b e=>by cases e) (fun _ _ h=>h) (fun _ _ h=>.inl h)
      (fun b o e=>by cases e) (fun b' _ e=>⟨(i1.loc o b' Xb e).1,.inl ⟨Xb,e⟩⟩) (by simp) (fun _=>⟨rfl,Ao _,fun _=>rfl,fun _=>rfl⟩) (fun hg UB=>by
       obtain⟨u1,u2,u3,u4⟩:=BU g1 o (g1.ρ o) (g1.ln o) (g1.tk o) (g1.own o) g1.S;have KN:∀i,AM (AZ (AZ st.h r .dead) j (.arr sz es)) i→AM (AZ (AZ (AZ st.h r .dead) j (.arr sz es)) o (.cells (EM cs k (.msl j n)))) i:=fun i hi=>D4 (by simp) i hi;refine⟨u3.trans t2,_,E,vs,u4.trans c1,u1.trans c2,c3,⟨by rw[KZ];exact c4.1,c4.2.1,fun i av x q1 q2=>?_⟩,c5⟩;rcases KY cs k _ i av q1 with ⟨rfl,rfl⟩ | q
       ·have hx:=c4'.2.2 i _ x Vl q2;have hm:BK g1 w (AM (AZ (AZ st.h r .dead) j (.arr sz es))) (.msl j n) x:=by
         cases hx with
         |msl _ _ _ a cap hu ht' X7 ha Mt =>
         refine .msl _ _ _ _ _ (by unfold AM;rw[Bg];simp) j1 (by omega) ha (fun e=>?_);rw[j3];exact Mt (hn.trans l1.symm)
        exact hm.mono UB KN hg
       ·exact(c4.2.2 i av x q q2).mono UB KN hg)
     exact⟨_,_,⟨k1,hS.le.trans (i2.trans k2),hS.dfs,hS.size,fun i=>(hS.slots i).le (i2.trans k2)⟩,hk⟩
    ·exact hk.elim
   ·exact hk.elim
  ·exact hk.elim
 ·exact hk.elim
theorem OD{h:Nat→HO}(hI:DF w0 g0 h0 h g w){o k:Nat}{cs:List AV}(e0:h o=.cells cs){old new:AV}(hk:cs[k]?=some old)(EF:∀x:Value,BK g w (AM h) old x→BK g w (AM h) new x) :
  ∃g',DF w0 g0 h0 (AZ h o (.cells (EM cs k new))) g' w∧Le h g w (AZ h o (.cells (EM cs k new))) g' w:=by
 have ho:=hI.objs o;rw[e0]at ho;obtain⟨t1,b,E,vs,a1,a2,a3,a4,a5⟩:=ho;have hl:(h o).live:=by rw[e0];trivial
 obtain⟨k1,k2⟩:=hI.upd o (.cells (EM cs k new)) (g.ρ o) (g.ln o) (g.tk o) (g.own o) g.S w none ⟨rfl,rfl,rfl,Ao _⟩ (fun _ _ _=>rfl) (fun b e=>by cases e) (fun _ _ h=>h) (fun _ _ h=>.inl h)
  (fun b o e=>by cases e) (fun b' _ e=>⟨(hI.loc o b' hl e).1,.inl ⟨hl,e⟩⟩) (by simp) (fun _=>⟨rfl,Ao _,fun _=>rfl,fun _=>rfl⟩) (fun hg UB=>by
   obtain⟨u1,u2,u3,u4⟩:=BU g o (g.ρ o) (g.ln o) (g.tk o) (g.own o) g.S;have KN:∀i,AM h i→AM (AZ h o (.cells (EM cs k new))) i:=fun i hi=>D4 (by simp) i hi;refine⟨u3.trans t1,b,E,vs,u4.trans a1,u1.trans a2,a3,⟨by rw[KZ];exact a4.1,a4.2.1,fun i av x q1 q2=>?_⟩,a5⟩;rcases KY cs k _ i av q1 with ⟨rfl,rfl⟩ | q
   ·exact(EF x (a4.2.2 i _ x hk q2)).mono UB KN hg
   ·exact(a4.2.2 i av x q q2).mono UB KN hg)
 exact⟨_,k1,k2⟩
theorem Jo:∀(cs:List AV) (k:Nat) (a:AV),Jf cs k=a→a≠.junk→cs[k]?=some a
 | [],_,a,h,hn=>by simp only[Jf]at h;exact absurd h.symm hn
 |_::_,0,_,h,_=>by unfold Jf at h;simp[h]
 |_::cs,k+1,a,h,hn=>by unfold Jf at h;simpa using Jo cs k a h hn
theorem DF.moveV{h:Nat→HO}(hI:DF w0 g0 h0 h g w)(r r2 v:Nat)(DB:r2≠r)(hf:h r2=.vox v)(hl:(h r).live)(o' : HO)(x:Value)(n:Nat)(hv:v<n)(hn:o'≠.free)
  (JA:E5 g w (g.upd r2 x n true (g.own r) g.S) w→Ej (g.upd r2 x n true (g.own r) g.S) w (AM (AZ (AZ h r .dead) r2 o')) r2 o') :
  DF w0 g0 h0 (AZ (AZ h r .dead) r2 o') (g.upd r2 x n true (g.own r) g.S) w∧Le h g w (AZ (AZ h r .dead) r2 o') (g.upd r2 x n true (g.own r) g.S) w:=by
 have qi:=hI.objs r2;rw[hf]at qi;obtain⟨ht2,Xb⟩:=qi;have eX:Ke g (g.upd r2 x n true (g.own r) g.S) (AM h):=by
  intro i hi
  by_cases e:i=r2
  ·subst e;refine⟨by simp[Gh.upd,ht2],by simp[Gh.upd];omega,fun e=>(by rw[ht2]at e;cases e),fun e=>?_⟩;simp[Gh.upd]at e;omega
  ·exact⟨by simp[Gh.upd,e],by simp[Gh.upd,e],fun _=>by simp[Gh.upd,e],fun _=>by simp[Gh.upd,e]⟩
 have hK:E5 g w (g.upd r2 x n true (g.own r) g.S) w:=fun b o hb=>⟨hb,rfl,fun _ _ h=>h⟩;have KN:∀i,AM h i→AM (AZ (AZ h r .dead) r2 o') i:=fun i hi=>D4 hn i (D4 (by simp) i hi);have key:∀i,i≠r2→(AZ (AZ h r .dead) r2 o' i).live→i≠r∧(h i).live:=fun i h2 hl=>by
  rw[B9 _ _ _ _ h2]at hl
  by_cases e:i=r
  ·subst e;rw[Bg]at hl;exact hl.elim
  ·rw[B9 _ _ _ _ e]at hl;exact⟨e,hl⟩
 have own:∀i,i≠r2→(g.upd r2 x n true (g.own r) g.S).own i=g.own i:=fun i e=>by simp[Gh.upd,e]
 have TV:(g.upd r2 x n true (g.own r) g.S).own r2=g.own r:=by simp[Gh.upd]
 refine⟨⟨hI.os,hI.tape,hI.output,hI.size,hI.frame,hI.slt,fun i=>?_,fun i j c hi hj ei ej=>?_,fun i c hi ei=>?_,hI.sg,hI.glob.keep hK⟩,eX,KN,hK⟩
 ·by_cases e:i=r2
  ·subst e;rw[Bg];exact JA hK
  ·rw[B9 _ _ _ _ e]
   by_cases e1:i=r
   ·subst e1;rw[Bg];trivial
   ·rw[B9 _ _ _ _ e1];exact(hI.objs i).same hK KN eX (by simp[Gh.upd,e]) (by simp[Gh.upd,e]) (by simp[Gh.upd,e]) (by simp[Gh.upd,e]) (fun b hl hb=>⟨rfl,fun k hk=>hk⟩)
 ·by_cases e1:i=r2<;>by_cases e2:j=r2
  ·exact e1.trans e2.symm
  ·subst e1;rw[TV]at ei;rw[own j e2]at ej;obtain⟨a1,a2⟩:=key j e2 hj;exact absurd (hI.inj j r _ a2 hl ej ei) a1
  ·subst e2;rw[TV]at ej;rw[own i e1]at ei;obtain⟨a1,a2⟩:=key i e1 hi;exact absurd (hI.inj i r _ a2 hl ei ej) a1
  ·rw[own i e1]at ei;rw[own j e2]at ej;exact hI.inj i j c (key i e1 hi).2 (key j e2 hj).2 ei ej
 ·by_cases e1:i=r2
  ·subst e1;rw[TV]at ei;exact hI.loc r _ hl ei
  ·rw[own i e1]at ei;exact hI.loc i c (key i e1 hi).2 ei
theorem pR(hS:SR N ds w0 g0 h0 st g a w){o k d:Nat}{K:(Nat→HO)→Prop}(hk:y6 st.h o k d K):∃h' g',SR N ds w0 g0 h0 ⟨st.t,h'⟩ g' a w∧K h':=by
 unfold y6 at hk;split at hk
 ·rename_i cs e0;split at hk
  ·rename_i r sz v es e1;split at hk
   ·rename_i GZ v' n e2;split at hk
    ·rename_i hf;obtain⟨⟨rfl,rfl⟩,hk⟩:=hk;have ho:=hS.inv.objs r;rw[e2]at ho;obtain⟨t1,l1,a0,cap,r1,a2⟩:=ho;have hl:(st.h r).live:=by rw[e2];trivial
     have DB:d≠r:=fun e=>by rw[e,e2]at hf;cases hf
     have jY:o≠r:=fun e=>by rw[e,e2]at e0;cases e0
     have xj:o≠d:=fun e=>by rw[e,hf]at e0;cases e0
     have Vl:=Jo cs k _ e1 (by simp)
     -- the value that stands in the cell
     have qg:=hS.inv.objs o;rw[e0]at qg;obtain⟨_,b',E',jO,c1,c2,c3,c4,_⟩:=qg;obtain⟨x,hx1,_,qn⟩:=c4.at Vl;have qo:x=.slice a0 n cap∧es.length=n∧BK g w Fp (.slice .none es) x∧∀c∈es,c.length=sz:=by
      have h3:=qn.slice_none;cases qn with
      |ver _ _ _ _ _ _ h RQ hu ht hn hx =>
       have:=hx l1.symm
       rw[r1]at this;subst this;refine⟨rfl,?_,h3,RQ⟩;cases h3 with
       |snil=>rfl
       |slice=>rfl
     obtain⟨hxe,hn,hx3,RQ⟩:=qo;subst hn;obtain⟨m1,m2⟩:=hS.inv.moveO r d DB hf hl (ob:=g.own r) (fun c h=>h) (.tok sz es.length) (.slice a0 es.length cap) es.length true (by simp) (fun Jj=>by
      obtain⟨u1,u2,u3,u4⟩:=BU g d (.slice a0 es.length cap) es.length true (g.own r) g.S;refine⟨u3,u2,a0,cap,u1,?_⟩;rw[u4];exact a2)
     generalize RP:g.upd d (.slice a0 es.length cap) es.length true (g.own r) g.S=g1 at m1 m2;have gr:g1.tk r=true∧g1.ln r=v:=by rw[←RP];simp[Gh.upd,Ne.symm DB,t1,l1]
     have gd:g1.tk d=true∧g1.ln d=es.length∧g1.ρ d=.slice a0 es.length cap:=by rw[←RP];simp[Gh.upd]
     -- the id keeps its version
     have xr:(AZ (AZ st.h r .dead) d (.tok sz es.length)) r=.dead:=by rw[B9 _ _ _ _ (Uq DB),Bg]
     obtain⟨n1,n2⟩:=m1.upd r (.vox v) (g1.ρ r) (g1.ln r) (g1.tk r) (g1.own r) g1.S w none ⟨rfl,rfl,rfl,Ao _⟩ (fun _ _ _=>rfl) (fun b e=>by cases e) (fun _ _ h=>h) (fun _ _ h=>.inl h) (fun b o e=>by cases e) (fun b hh _=>by cases hh) (by simp)
      (fun _=>⟨rfl,Ao _,fun _=>rfl,fun _=>rfl⟩) (fun _ _=>by
       obtain⟨u1,u2,u3,u4⟩:=BU g1 r (g1.ρ r) (g1.ln r) (g1.tk r) (g1.own r) g1.S;exact⟨u3.trans gr.1,u2.trans gr.2⟩)
     have hh:AZ (AZ (AZ st.h r .dead) d (.tok sz es.length)) r (.vox v)=AZ (AZ st.h r (.vox v)) d (.tok sz es.length):=by
      funext i
      unfold AZ
      by_cases e:i=r
      ·subst e;rw[Ds,Cn (Uq DB)];rfl
      ·rw[Cn e];rfl
     rw[hh]at n1 n2;generalize jW:g1.upd r (g1.ρ r) (g1.ln r) (g1.tk r) (g1.own r) g1.S=g2 at n1 n2;have wg:g2.tk d=true∧g2.ln d=es.length∧g2.ρ d=.slice a0 es.length cap:=by rw[←jW];simp[Gh.upd,DB,gd]
     have og : (AZ (AZ st.h r (.vox v)) d (.tok sz es.length)) o=.cells cs:=by rw[B9 _ _ _ _ xj,B9 _ _ _ _ jY,e0]
     have L2:=m2.trans n2;have AbS:g2.ρ o=g.ρ o:=(L2.gh o (by unfold AM;rw[e0];simp)).2.2.1 (by assumption);obtain⟨g3,p1,p2⟩:=OD n1 og Vl (new:=.slice (.id d sz) es) (fun y hy=>by
      have h3:=hy.slice_none;have zq:g2.ln r=v∧g2.ρ r=.slice a0 es.length cap:=by rw[←jW,←RP];simp[Gh.upd,Ne.symm DB,l1,r1]
      have sE:y=.slice a0 es.length cap:=by
       cases hy with
       |ver _ _ _ _ _ _ h RQ hu ht hn hx=>exact(hx zq.1.symm).trans zq.2
      subst sE;exact .tok _ d sz es _ (h3.up _) RQ (by unfold AM;rw[Bg];simp) wg.1 (by rw[wg.2.1];exact Ao _) (fun _=>wg.2.2.symm))
     exact⟨_,g3,⟨p1,hS.le.trans (L2.trans p2),hS.dfs,hS.size,fun i=>(hS.slots i).le (L2.trans p2)⟩,hk⟩
    ·exact hk.elim
   ·exact hk.elim
  ·exact⟨_,g,hS,hk⟩
 ·exact hk.elim
theorem jq(hS:SR N ds w0 g0 h0 st g a w){o k r:Nat}{K:(Nat→HO)→Prop}(hk:ur st.h o k r K):∃h' g',SR N ds w0 g0 h0 ⟨st.t,h'⟩ g' a w∧K h':=by
 unfold ur at hk;split at hk
 ·rename_i cs e0;split at hk
  ·rename_i d sz es e1;split at hk
   ·rename_i GZ n e2;split at hk
    ·rename_i v hf;obtain⟨⟨hn,rfl⟩,hk⟩:=hk;subst hn;have ho:=hS.inv.objs d;rw[e2]at ho;obtain⟨t1,l1,a0,cap,r1,a2⟩:=ho;have hl:(st.h d).live:=by rw[e2];trivial
     have DB:r≠d:=fun e=>by rw[e,e2]at hf;cases hf
     have xj:o≠d:=fun e=>by rw[e,e2]at e0;cases e0
     have jY:o≠r:=fun e=>by rw[e,hf]at e0;cases e0
     have Vl:=Jo cs k _ e1 (by simp);obtain⟨m1,m2⟩:=hS.inv.moveV d r v DB hf hl (.var sz (v+1) es.length) (.slice a0 es.length cap) (v+1) (LX v) (by simp) (fun Jj=>by
      obtain⟨u1,u2,u3,u4⟩:=BU g r (.slice a0 es.length cap) (v+1) true (g.own d) g.S;refine⟨u3,u2,a0,cap,u1,?_⟩;rw[u4];exact a2)
     generalize RP:g.upd r (.slice a0 es.length cap) (v+1) true (g.own d) g.S=g1 at m1 m2;have gr:g1.tk r=true∧g1.ln r=v+1∧g1.ρ r=.slice a0 es.length cap:=by rw[←RP];simp[Gh.upd]
     have gd:g1.ln d=es.length∧g1.ρ d=.slice a0 es.length cap:=by rw[←RP];simp[Gh.upd,Ne.symm DB,l1,r1]
     have og : (AZ (AZ st.h d .dead) r (.var sz (v+1) es.length)) o=.cells cs:=by rw[B9 _ _ _ _ jY,B9 _ _ _ _ xj,e0]
     obtain⟨g3,p1,p2⟩:=OD m1 og Vl (new:=.slice (.ver r sz (v+1)) es) (fun y hy=>by
      have h3:=hy.slice_none;have sE:y=.slice a0 es.length cap∧∀c∈es,c.length=sz:=by
       cases hy with
       |tok _ _ _ _ _ h RQ hu ht hn hx=>exact⟨(hx gd.1.symm).trans gd.2,RQ⟩
      obtain⟨sE,RQ⟩:=sE;subst sE;exact .ver _ r sz (v+1) es _ (h3.up _) RQ (by unfold AM;rw[Bg];simp) gr.1 (by rw[gr.2.1];exact Ao _) (fun _=>gr.2.2.symm))
     exact⟨_,g3,⟨p1,hS.le.trans (m2.trans p2),hS.dfs,hS.size,fun i=>(hS.slots i).le (m2.trans p2)⟩,hk⟩
    ·exact hk.elim
   ·exact hk.elim
  ·exact⟨_,g,hS,hk⟩
 ·exact hk.elim
theorem po(hS:SR N ds w0 g0 h0 st g a w){r:Nat}{K:(Nat→HO)→Prop}(hk:xM st.h r K):∃h' g',SR N ds w0 g0 h0 ⟨st.t,h'⟩ g' a w∧K h':=by
 unfold xM at hk;split at hk
 ·rename_i hf
  obtain⟨m1,m2⟩:=hS.inv.upd r (.vox 0) (.slice none 0 0) 0 true none g.S w none ⟨rfl,rfl,rfl,Ao _⟩ (fun _ _ _=>rfl) (fun b e=>by cases e) (fun _ _ h=>h) (fun _ _ h=>.inl h) (fun b o e=>by cases e) (fun b hh _=>by cases hh) (by simp)
   (fun hu=>absurd hf hu) (fun _ _=>by
    obtain⟨u1,u2,u3,u4⟩:=BU g r (.slice none 0 0) 0 true none g.S;exact⟨u3,u2⟩)
  exact⟨_,_,⟨m1,hS.le.trans m2,hS.dfs,hS.size,fun i=>(hS.slots i).le m2⟩,hk⟩
 ·exact hk.elim
theorem jn(hS:SR N ds w0 g0 h0 st g a w){o k:Nat}{K:(Nat→HO)→Prop}(hk:uq st.h o k K):∃h' g',SR N ds w0 g0 h0 ⟨st.t,h'⟩ g' a w∧K h':=by
 unfold uq at hk;split at hk
 ·rename_i cs e0;split at hk
  ·rename_i r e1;split at hk
   ·rename_i sh Cb e2;have Vl:=Jo cs k _ e1 (by simp);obtain⟨g3,p1,p2⟩:=OD hS.inv e0 Vl (new:=.cmap sh Cb) (fun y hy=>by
     have e3:rsv st.h (.mref r)=.cmap sh Cb:=by
      show(match st.h r with | .rom sh Cb=>AV.cmap sh Cb | _=>.mref r)=_;rw[e2]
     rw[←e3];exact BK.rsv hS.inv.objs hy)
    exact⟨_,g3,⟨p1,hS.le.trans p2,hS.dfs,hS.size,fun i=>(hS.slots i).le p2⟩,hk⟩
   ·exact hk.elim
  ·exact hk.elim
 ·exact hk.elim
theorem pU(hS:SR N ds w0 g0 h0 st g a w){o k j sz:Nat}{K:(Nat→HO)→Prop}(hk:y8 st.h o k j sz K):∃h' g',SR N ds w0 g0 h0 ⟨st.t,h'⟩ g' a w∧K h':=by
 unfold y8 at hk;split at hk
 ·rename_i cs e0;split at hk
  ·rename_i e1;split at hk
   ·rename_i hf;have jY:o≠j:=fun e=>by rw[e,hf]at e0;cases e0
    have Vl:=Jo cs k _ e1 (by simp)
    obtain⟨m1,m2⟩:=hS.inv.upd j (.arr sz []) (.slice none 0 0) 0 true none g.S w none ⟨rfl,rfl,rfl,Ao _⟩ (fun _ _ _=>rfl) (fun b e=>by cases e) (fun _ _ h=>h) (fun _ _ h=>.inl h) (fun b o e=>by cases e) (fun b hh e=>by first | (cases e;done) | (exact absurd hh.2 (by simp))) (by simp)
     (fun hu=>absurd hf hu) (fun _ _=>by
      obtain⟨u1,u2,u3,u4⟩:=BU g j (.slice none 0 0) 0 true none g.S;exact⟨u3,u2,(fun cs hc=>by cases hc),.inl ⟨rfl,u1,u4⟩⟩)
    generalize RP:g.upd j (.slice none 0 0) 0 true none g.S=g1 at m1 m2;have gr:g1.tk j=true∧g1.ln j=0∧g1.ρ j=.slice none 0 0:=by rw[←RP];simp[Gh.upd]
    have og : (AZ st.h j (.arr sz [])) o=.cells cs:=by rw[B9 _ _ _ _ jY,e0]
    obtain⟨g3,p1,p2⟩:=OD m1 og Vl (new:=.msl j 0) (fun y hy=>by
     cases hy
     exact .msl _ j 0 none 0 (by unfold AM;rw[Bg];simp) gr.1 (AL _) (.inl rfl) (fun _=>gr.2.2.symm))
    exact⟨_,g3,⟨p1,hS.le.trans (m2.trans p2),hS.dfs,hS.size,fun i=>(hS.slots i).le (m2.trans p2)⟩,hk⟩
   ·exact hk.elim
  ·exact hk.elim
 ·exact hk.elim
theorem fL{cx:Cx}{id:Nat}(hS:SR N ds w0 g0 h0 st g a w){K:(Nat→HO)→Prop}(hk:we cx id st.h fun h=>uo cx id h fun h=>td cx id h fun h=>qu cx id h K):∃h' g',SR N ds w0 g0 h0 ⟨st.t,h'⟩ g' a w∧K h':=by
 have h1:∃h' g',SR N ds w0 g0 h0 ⟨st.t,h'⟩ g' a w∧uo cx id h' fun h=>td cx id h fun h=>qu cx id h K:=by
  unfold we at hk;split at hk
  ·obtain⟨g',i1,i2⟩:=bf hS.inv _;exact⟨_,g',⟨i1,hS.le.trans i2,hS.dfs,hS.size,fun i=>(hS.slots i).le i2⟩,hk⟩
  ·exact⟨_,g,hS,hk⟩
 obtain⟨h1,g1,S1,hk⟩:=h1;have h2:∃h' g',SR N ds w0 g0 h0 ⟨st.t,h'⟩ g' a w∧td cx id h' fun h=>qu cx id h K:=by
  unfold uo at hk;split at hk
  ·exact jn S1 hk
  ·exact⟨_,g1,S1,hk⟩
 obtain⟨h2,g2,S2,hk⟩:=h2;have h3:∃h' g',SR N ds w0 g0 h0 ⟨st.t,h'⟩ g' a w∧qu cx id h' K:=by
  unfold td at hk;split at hk
  ·exact jn S2 hk
  ·exact⟨_,g2,S2,hk⟩
 obtain⟨h3,g3,S3,hk⟩:=h3;unfold qu at hk;split at hk
 ·exact pU S3 hk
 ·exact⟨_,g3,S3,hk⟩
theorem mJ{cx:Cx}{id:Nat}(hS:SR N ds w0 g0 h0 st g a w){K:(Nat→HO)→Prop}(hk:pS cx id st.h K):∃h' g',SR N ds w0 g0 h0 ⟨st.t,h'⟩ g' a w∧K h':=by
 unfold pS at hk;split at hk
 ·exact pR hS hk
 ·split at hk
  ·exact jq hS hk
  ·split at hk
   ·exact po hS hk
   ·exact fL hS hk
theorem nO(hS:SR N ds w0 g0 h0 st g a w){o k:Nat}{K:(Nat→HO)→Prop}(hk:uF st.h o k K):∃h' g',SR N ds w0 g0 h0 ⟨st.t,h'⟩ g' a w∧K h':=by
 have same:K st.h→∃h' g',SR N ds w0 g0 h0 ⟨st.t,h'⟩ g' a w∧K h':=fun hk=>⟨st.h,g,hS,hk⟩;unfold uF at hk;split at hk
 ·rename_i cs e0;split at hk
  ·rename_i r n e1;split at hk
   ·rename_i sz es e2;obtain⟨rfl,hk⟩:=hk;have DB:o≠r:=fun e=>by rw[e,e2]at e0;cases e0
    obtain⟨g1,i1,i2,i3,i4⟩:=aQ hS.inv e2;have ho:=i1.objs o;rw[B9 _ _ _ _ DB,e0]at ho;obtain⟨t1,b,E,vs,a1,a2,a3,a4,a5⟩:=ho;have hl:(AZ st.h r (.tok sz es.length) o).live:=by rw[B9 _ _ _ _ DB,e0];trivial
    have Vl:=TR cs k _ _ e1;have WA:=hS.inv.objs o;rw[e0]at WA;obtain⟨_,b',E',jO,a1',a2',za,a4',_⟩:=WA
    obtain⟨k1,k2⟩:=i1.upd o (.cells (EM cs k (.slice (.id r sz) es))) (g1.ρ o) (g1.ln o) (g1.tk o) (g1.own o) g1.S w none ⟨rfl,rfl,rfl,Ao _⟩ (fun _ _ _=>rfl) (fun b e=>by cases e) (fun _ _ h=>h) (fun _ _ h=>.inl h)
     (fun b o e=>by cases e) (fun b' _ e=>⟨(i1.loc o b' hl e).1,.inl ⟨hl,e⟩⟩) (by simp) (fun _=>⟨rfl,Ao _,fun _=>rfl,fun _=>rfl⟩) (fun hg Jj=>by
      obtain⟨u1,u2,u3,u4⟩:=BU g1 o (g1.ρ o) (g1.ln o) (g1.tk o) (g1.own o) g1.S;have KN:∀i,AM (AZ st.h r (.tok sz es.length)) i→AM (AZ (AZ st.h r (.tok sz es.length)) o (.cells (EM cs k (.slice (.id r sz) es)))) i:=fun i hi=>D4 (by simp) i hi;refine⟨u3.trans t1,b,E,vs,u4.trans a1,u1.trans a2,a3,⟨by rw[KZ];exact a4.1,a4.2.1,fun i av x q1 q2=>?_⟩,a5⟩;rcases KY cs k _ i av q1 with ⟨rfl,rfl⟩ | q
      ·have hx:=a4.2.2 i _ x Vl q2;have hx0:x=g.ρ r:=by
        have RP:=i2.gh o (by unfold AM;rw[e0];simp);have j7:vs=jO:=by
         have e3:g1.ρ o=g.ρ o:=RP.2.2.1 (by
          have:=(hS.inv.objs o);rw[e0]at this;exact this.1)
         rw[a2,a2']at e3;cases e3;rw[a3]at za;cases za;rfl
        subst j7
        have:=a4'.2.2 i _ x Vl q2
        cases this with
        |msl _ _ _ _ _ _ _ _ _ hz=>exact hz i4.symm
       rw[hx0];exact i3.mono Jj KN hg
      ·exact(a4.2.2 i av x q q2).mono Jj KN hg)
    exact⟨_,_,⟨k1,hS.le.trans (i2.trans k2),hS.dfs,hS.size,fun i=>((hS.slots i).le i2).le k2⟩,hk⟩
   ·exact same hk
  ·exact same hk
 ·exact same hk
theorem nG{cx:Cx}{o:Oper}{K:St→Prop}(hS:SR N ds w0 g0 h0 st g a w)(hk:uC cx o st K):∃FB g',SR N ds w0 g0 h0 FB g' a w∧K FB:=by
 have same:K st→∃FB g',SR N ds w0 g0 h0 FB g' a w∧K FB:=fun hk=>⟨st,g,hS,hk⟩;unfold uC at hk;split at hk
 ·exact same hk
 ·split at hk
  ·exact same hk
  ·rename_i s _;split at hk
   ·rename_i r n ht;split at hk
    ·rename_i sz es hr;obtain⟨hn,hk⟩:=hk;subst hn;have hI:=hS.inv;have ho:=hI.objs r;rw[hr]at ho;obtain⟨t1,l1,al,a2⟩:=ho;have hl:(st.h r).live:=by rw[hr];trivial
     have Um:=hS.slots s;rw[ht]at Um;have hval:a.tmps.getD s undef=g.ρ r:=by
      generalize a.tmps.getD s undef=x at Um;cases Um with
      |msl _ r n a cap hu ht hn ha hx=>exact hx l1.symm
     have fin:∀g',DF w0 g0 h0 (AZ st.h r (.tok sz es.length)) g' w→Le st.h g w (AZ st.h r (.tok sz es.length)) g' w→BK g' w (AM (AZ st.h r (.tok sz es.length))) (.slice (.id r sz) es) (g.ρ r) →
       ∃FB g',SR N ds w0 g0 h0 FB g' a w∧K FB:=fun g' i1 i2 i3=>by
      refine⟨_,g',⟨i1,hS.le.trans i2,hS.dfs,hS.size,fun i=>?_⟩,hk⟩;show BK g' w (AM (AZ st.h r (.tok sz es.length))) (H3 st.t s (.slice (.id r sz) es) i) _
      by_cases e:i=s
      ·subst e
       have:H3 st.t i (.slice (.id r sz) es) i=.slice (.id r sz) es:=by unfold H3;simp
       rw[this,hval];exact i3
      ·have:H3 st.t s (.slice (.id r sz) es) i=st.t i:=by unfold H3;simp[Cn e]
       rw[this];exact(hS.slots i).le i2
     rcases a2 with ⟨b1,b2,b3⟩ | ⟨b,cap,E,vs,b1,b2,b3,b4,b5,b6,b7⟩
     ·subst b1
      obtain⟨k1,k2⟩:=hI.upd r (.tok sz 0) (g.ρ r) (g.ln r) (g.tk r) (g.own r) g.S w none ⟨rfl,rfl,rfl,Ao _⟩ (fun _ _ _=>rfl) (fun b e=>by cases e) (fun _ _ h=>h) (fun _ _ h=>.inl h)
       (fun b o e=>by cases e) (fun b' _ e=>⟨(hI.loc r b' hl e).1,.inl ⟨hl,e⟩⟩) (by simp) (fun _=>⟨rfl,Ao _,fun _=>rfl,fun _=>rfl⟩) (fun hg hk=>by
        obtain⟨u1,u2,u3,u4⟩:=BU g r (g.ρ r) (g.ln r) (g.tk r) (g.own r) g.S;exact⟨u3.trans t1,u2.trans l1,none,0,u1.trans b2,.inl ⟨rfl,u4.trans b3⟩⟩)
      refine fin _ k1 k2 ?_;rw[b2];exact .tok _ r sz [] _ (.snil _ _ _) (by simp) (by unfold AM;rw[Bg];simp) (by simp[Gh.upd,t1]) (by simp) (fun _=>by simp[Gh.upd])
     ·have Dy:=(hI.loc r b hl b2).1
      obtain⟨k1,k2⟩:=hI.upd r (.tok sz es.length) (g.ρ r) (g.ln r) (g.tk r) (g.own r) (g.more b (es.length*sz)) w none ⟨rfl,rfl,rfl,Ao _⟩ (fun _ _ _=>rfl) (fun b e=>by cases e) (fun _ _ h=>.inl h)
       (fun b' o hs=>hs.elim .inl (fun hs=>.inr ⟨by rw[hs.1];exact Dy,.inr ⟨hl,by rw[hs.1];exact b2⟩⟩)) (fun b o e=>by cases e) (fun b' _ e=>⟨(hI.loc r b' hl e).1,.inl ⟨hl,e⟩⟩) (by simp)
       (fun _=>⟨rfl,Ao _,fun _=>rfl,fun _=>rfl⟩) (fun hg hk=>by
        obtain⟨u1,u2,u3,u4⟩:=BU g r (g.ρ r) (g.ln r) (g.tk r) (g.own r) (g.more b (es.length*sz));exact⟨u3.trans t1,u2.trans l1,_,cap,u1.trans b1,.inr ⟨b3,b,E,vs,0,rfl,u4.trans b2,b4,by rw[b5,Be],fun o ho=>by
         rcases ho with ho | ⟨_,ho⟩
         ·exact absurd ho (b7 o)
         ·omega⟩⟩)
      refine fin _ k1 k2 ?_;rw[b1];exact .tok _ r sz es _ (BK.slice_row b4 al b3 (b6.mono k2.keeps (fun _ h=>h) (fun _ h=>h.elim)) (fun o ho=>.inr ⟨rfl,ho⟩)) al (by unfold AM;rw[Bg];simp) (by simp[Gh.upd,t1]) (by simp[Gh.upd,l1]) (fun _=>by simp[Gh.upd])
    ·exact same hk
   ·exact same hk

variable {cx:Cx}(hP:cx.P=P)(hT:Cu P cx.T)(hY:∀l σ h g w,Ec σ=true→DF w0 g0 h0 h g w→Le h0 g0 w0 h g w→cx.yp l σ (CZ σ g) w){ro:Option Nat}{ops:Array Oper}
include hP hT hY

theorem Xo{dr:Bool}{o:Oper}(hd:∀i,o.dst=some i→i<N){K:St→Prop}{next:Act→World→Prop}{Q:Exit→Act→World→Prop}(hS:SR N ds w0 g0 h0 st g a w)(hk:I0 cx dr ops.toList o st K)
  (hn:∀FB g' a' w',K FB→SR N ds w0 g0 h0 FB g' a' w'→next a' w'):if Region.wanted o (yielded ops a.tmps)then o.wpIn (JQ ro) 0 P a w next Q else next (a.put o.dst undef) w:=by
 have run:ft cx dr o st K→o.wpIn (JQ ro) 0 P a w next Q:=by
  intro hk;unfold ft at hk;split at hk
  ·exact fu hP hY hT hS hk fun v h' g' w' x q1 q2 q3 q4=>hn _ g' _ _ q1 (hS.put hd q2 q3 q4)
  ·obtain⟨g1,XS⟩:=ji (cx:=cx) (o:=o) hS;obtain⟨FB,g',Td,hk⟩:=nG XS hk;exact fu hP hY hT Td hk fun v h' g' w' x q1 q2 q3 q4=>hn _ g' _ _ q1 (Td.put hd q2 q3 q4)
 have skip:K (st.put o.dst (.v undef) st.h)→next (a.put o.dst undef) w:=fun hk=>hn _ g _ _ hk (hS.put hd hS.inv (.refl _ _ _) (.v _ _))
 unfold I0 at hk;split at hk
 ·rename_i hg;rw[Ax (by simp[Region.wanted,hg])];exact run hk
 ·rename_i j want hg;split at hk
  ·exact hk.elim
  ·rename_i d hj;have hy:∀x:Value,BK g w (AM st.h) (st.t d) x→x=a.tmps.getD d undef→True:=fun _ _ _=>trivial;have hs:=hS.slots d;rw[VB]at hj;have key:∀b:Bool,a.tmps.getD d undef=.bool b→yielded ops a.tmps j=some b:=by
    intro b hb;have Dy:d<a.tmps.size:=by
     apply Nat.lt_of_not_le;intro qb;rw[Cw,Un qb]at hb;cases hb
    simp only[yielded,hj,Option.bind_some];rw[Cw,Bh Dy]at hb;rw[Bh Dy];simp only[CP]at hb;rw[hb]
   have xJ:∀t,a.tmps.getD d undef=.tuple t→yielded ops a.tmps j=none:=by
    intro t hb;simp only[yielded,hj,Option.bind_some];cases he:a.tmps[d]? with
    |none=>rfl
    |some x =>
     rw[Cw,he]at hb;simp only[CP]at hb;rw[hb]
   generalize hx:st.t d=x at hk hs;split at hk
   ·have:=key true hs.v_eq
    rw[Ax (by simp[Region.wanted,hg,this])];exact run hk
   ·have:=key false hs.v_eq
    rw[Ax (by simp[Region.wanted,hg,this])];exact run hk
   ·have:=key true hs.v_eq
    rw[Aq (by simp[Region.wanted,hg,this])];exact skip hk
   ·have:=key false hs.v_eq
    rw[Aq (by simp[Region.wanted,hg,this])];exact skip hk
   ·have:=xJ _ hs.v_eq
    rw[Aq (by simp[Region.wanted,hg,this])];exact skip hk
   ·exact hk.elim

theorem aP{Q:Exit→Act→World→Prop}{K:St→Prop}(hQ:∀FB g' a' w',K FB→SR N ds w0 g0 h0 FB g' a' w'→Q .normal a' w') :
  ∀(l:List Oper),(∀o∈l,∀i,o.dst=some i→i<N)→∀{st:St} {g:Gh} {a:Act} {w:World},SR N ds w0 g0 h0 st g a w→nK cx ops.toList l st K→wpListIn (JQ ro) 0 P ops Q l a w
 | [],_,st,g,a,w,hS,hk=>hQ st g a w hk hS
 |o::l,hd,st,g,a,w,hS,hk=>by
  have:=Xo hP hT hY (ro:=ro) (hd o (Ab ..)) (next:=wpListIn (JQ ro) 0 P ops Q l) (Q:=Q) hS hk fun FB g' a' w' q1 q2=>aP hQ l (fun o' m6=>hd o' (Ai _ m6)) q2 q1
  unfold wpListIn;split
  ·rename_i hw;rw[Ax hw]at this;exact this
  ·rename_i hw;rw[Aq hw]at this;exact⟨fun _ _=>trivial,this⟩

theorem Wa{Q:Exit→Act→World→Prop}{K:St→Prop}{FT:Nat→FK}(hQ:∀FB g' a' w',K FB→SR N ds w0 g0 h0 FB g' a' w'→Q .normal a' w')(hd:∀(j:Nat) (o:Oper),ops[j]?=some o→∀i,o.dst=some i→i<N) :
  ∀(fuel:Nat) (listed:Array Bool) {st:St} {g:Gh} {a:Act} {w:World},SR N ds w0 g0 h0 st g a w→Xh cx ops FT K fuel listed st→wpAnyIn (JQ ro) 0 P .any ops Q fuel listed a w
 |0,_,st,g,a,w,hS,hk=>⟨hk.1,hQ st g a w hk.2 hS⟩
 |fuel+1,listed,st,g,a,w,hS,hk=>by
  refine⟨fun h0=>hQ st g a w (hk.1 h0) hS,fun i hi=>?_⟩;have h1:=hk.2 i hi;unfold qD at h1;unfold wpOpIn;cases ho:ops[i]? with
  |none=>rw[ho]at h1;exact Wa hQ hd fuel _ hS h1
  |some o =>
   rw[ho]at h1
   have:=Xo hP hT hY (ro:=ro) (hd i o ho) (next:=wpAnyIn (JQ ro) 0 P .any ops Q fuel (listed.setIfInBounds i true)) (Q:=Q) hS h1.2 fun FB g' a' w' q1 q2=>Wa hQ hd fuel _ q2 q1
   dsimp only;split
   ·rename_i hw;rw[Ax hw]at this;exact this
   ·rename_i hw;rw[Aq hw]at this;exact⟨fun _ _=>trivial,this⟩
end
end Go.Eng
