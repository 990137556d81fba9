/- Lemmas for the claims of this seat, without a condition: part 13 (EngZB, EngZBc). -/
import Derived.Test.YtddfphmpfnmknaaGreatDoorGA12
namespace Go.Eng
variable {o:Oper}{cx:Cx}{K:HK}{dr:Bool}{o2:Oper}{T:G4}
section
variable {P:Program}{N:Nat}{ds:List Deferred}{w0:World}{g0:Gh}{h0:Nat→HO}{st:St}{g:Gh}{a:Act}{w:World}
theorem Y4(hT:CL P cx.T){b:Builtin}{args:Array Operand}{Hp:Array TypeId}{dst:Option Nat}{ty:Nat}{pos:String}{after:Array Edge}{gd:Option (Nat×Bool)}{next:Act→World→Prop}{Q:Exit→Act→World→Prop}(hS:SR N ds w0 g0 h0 st g a w)(hk:Gw cx dst st.h b Hp.toList (args.toList.map (ev st.t)) K)(hn:bx w0 g0 h0 st.h g w K fun x w'=>next (a.put dst x) w'):Oper.wp P ⟨dst,.call ⟨.builtin b,args,Hp⟩,ty,pos,after,gd⟩ a w next Q:=by
 have hI:=hS.inv;have hE:=hS.eval;obtain⟨l⟩:=args;obtain⟨tl⟩:=Hp;unfold Gw at hk;split at hk
 ·rename_i x t e1 e2
  match l,e1 with
  | [y],e1 =>
   simp only[AJ,FA,F0,and_true]at e1;subst e1;simp only at e2;subst e2;exact Ee (m:=Builtin.len_ #[t] ty #[a.eval y]) (by simp[execOp,resolve,invoke,builtin]) (BV.does hI (lq hT hI.objs (hE y) hk)) hn
 ·rename_i s x t t' e1 e2
  match l,e1 with
  | [y,z],e1 =>
   simp only[AJ,FA,F0,and_true]at e1;obtain⟨rfl,rfl⟩:=e1;simp only at e2;subst e2;split at hk
   ·rename_i ht;obtain rfl:=AM ht;exact Ee (m:=Builtin.append_ #[t,t] ty #[a.eval y,a.eval z]) (by simp[execOp,resolve,invoke,builtin]) (bI hI hT (hE y) (hE z) hk) hn
   ·exact hk.elim
 ·rename_i x y Hp e1
  match l,e1 with
  | [y,z],e1 =>
   simp only[AJ,FA,F0,and_true]at e1;obtain⟨rfl,rfl⟩:=e1;exact Ee (m:=Builtin.max_ ⟨tl⟩ ty #[a.eval y,a.eval z]) (by simp[execOp,resolve,invoke,builtin]) (BV.does hI (oY (hE y) (hE z) hk)) hn
 ·rename_i x y Hp e1
  match l,e1 with
  | [y,z],e1 =>
   simp only[AJ,FA,F0,and_true]at e1;obtain⟨rfl,rfl⟩:=e1;exact Ee (m:=Builtin.min_ ⟨tl⟩ ty #[a.eval y,a.eval z]) (by simp[execOp,resolve,invoke,builtin]) (BV.does hI (o0 (hE y) (hE z) hk)) hn
 ·exact hk.elim
theorem nA(hT:CL P cx.T){next:Act→World→Prop}{Q:Exit→Act→World→Prop}(hS:SR N ds w0 g0 h0 st g a w)(hk:Gl cx dr o st K)(hv:∀f args Hp,o.op≠.call ⟨.value f,args,Hp⟩)(hn:bx w0 g0 h0 st.h g w K fun x w'=>next (a.put o.dst x) w'):o.wp P a w next Q:=by
 have hI:=hS.inv;have hE:=hS.eval;obtain⟨dst,op,ty,pos,after,gd⟩:=o;unfold Gl at hk;cases op with
 |move x=>exact fo hI (x:=a.eval x) rfl hk (hE x) hn
 |assign x =>
  obtain⟨g',av,h',q1,q2,q3,q4⟩:=bJ hI (hE x) hk;exact hn _ _ _ _ _ q1 q2 q3 q4
 |pick c x y=>exact Ee (m:=do pure (if ←asBool (a.eval c)then a.eval x else a.eval y)) (by simp[execOp]) (BV.does hI (lY (hE c) (hE x) (hE y) hk)) hn
 |alloc e=>exact Ee rfl (fB hI hT hk) hn
 |box e x=>exact Ee rfl (nG hI (hE x) hk) hn
 |build t ps=>exact Ee rfl (BV.does hI (fL hT hE hk)) hn
 |buildSlice t n ps=>exact Ee rfl (T0 hI hT hE hk) hn
 |insert t m k x=>exact YL rfl (Ol hI hT (hE m) (hE k) (hE x) hk) hn
 |load t x=>exact Ee rfl (BV.does hI (W4 hI.objs hT (hE x) hk)) hn
 |store t p x=>exact YL rfl (iO hI hT (hE p) (hE x) hk) hn
 |nilCheck x =>
  obtain⟨h1,h2⟩:=Yv (P:=P) (w:=w) (hE x) hk (pos:=pos) (after:=after) (gd:=gd) (dst:=dst) (ty:=ty) (ρ:=a.eval) rfl;exact fo hI h1 h2 (hE x) hn
 |binOp op t x y u=>exact Ee rfl (BV.does hI (jx hT (hE x) (hE y) (fun v e=>by subst e;rfl) hk)) hn
 |unOp op t x=>exact Ee rfl (BV.does hI (mN (hE x) hk)) hn
 |convert s t x=>exact Ee rfl (BV.does hI (jQ hT (hE x) hk)) hn
 |makeFunc fn first cap=>exact Ee rfl (BV.does hI (Yt hI.objs hE hk)) hn
 |makeMap t r =>
  cases r with
  |some r=>exact hk.elim
  |none=>exact Ee rfl (ao hI hk) hn
 |makeSlice t n c=>exact Ee rfl (Wc hI hT (hE n) (hE c) hk) hn
 |slice t x lo hi mx =>
  cases dr with
  |true =>
   cases hp:Oz cx.pl.tok dst with
   |none =>
    have KX : G1 cx dst st.h t (ev st.t x) (Cb st.t lo) (Cb st.t hi) (Cb st.t mx) K:=by
     have H6:(match Oz cx.pl.tok dst with
      |none=>G1 cx dst st.h t (ev st.t x) (Cb st.t lo) (Cb st.t hi) (Cb st.t mx) K
      |some _=>Oq cx dst st.h t (ev st.t x) lo (Cb st.t hi) mx K):=hk
     rw[hp]at H6;exact H6
    exact Ee rfl (Xr hI hT hE (hE x) KX) hn
   |some _ =>
    have KX : Oq cx dst st.h t (ev st.t x) lo (Cb st.t hi) mx K:=by
     have H6:(match Oz cx.pl.tok dst with
      |none=>G1 cx dst st.h t (ev st.t x) (Cb st.t lo) (Cb st.t hi) (Cb st.t mx) K
      |some _=>Oq cx dst st.h t (ev st.t x) lo (Cb st.t hi) mx K):=hk
     rw[hp]at H6;exact H6
    unfold Oq at KX;split at KX
    ·exact Ee rfl (eK hI hT hE (hE x) KX) hn
    ·exact KX.elim
  |false =>
   cases hp:Oz cx.pl.tok dst with
   |none =>
    have KX : G1 cx dst st.h t (ev st.t x) (Cb st.t lo) (Cb st.t hi) (Cb st.t mx) K:=by
     have H6:(match Oz cx.pl.tok dst with
      |none=>G1 cx dst st.h t (ev st.t x) (Cb st.t lo) (Cb st.t hi) (Cb st.t mx) K
      |some _=>eU cx dst st.h t (ev st.t x) st.t lo hi mx K):=hk
     rw[hp]at H6;exact H6
    exact Ee rfl (Xr hI hT hE (hE x) KX) hn
   |some _ =>
    have KX : eU cx dst st.h t (ev st.t x) st.t lo hi mx K:=by
     have H6:(match Oz cx.pl.tok dst with
      |none=>G1 cx dst st.h t (ev st.t x) (Cb st.t lo) (Cb st.t hi) (Cb st.t mx) K
      |some _=>eU cx dst st.h t (ev st.t x) st.t lo hi mx K):=hk
     rw[hp]at H6;exact H6
    cases lo with
    |some lo=>exact Ee rfl (aV hI hT hE (hE x) KX) hn
    |none =>
     have WQ:Oq cx dst st.h t (ev st.t x) none (Cb st.t hi) mx K:=KX;unfold Oq at WQ;split at WQ
     ·exact Ee rfl (eK hI hT hE (hE x) WQ) hn
     ·exact WQ.elim
 |fieldAddr s x f=>exact Ee rfl (BV.does hI (fZ hT (hE x) hk)) hn
 |field s x f=>exact Ee rfl (BV.does hI (bW hT (hE x) hk)) hn
 |indexAddr t x i=>exact Ee rfl (BV.does hI (VZ hT (hE x) (hE i) hk)) hn
 |index t x i=>exact Ee rfl (BV.does hI (gK hT (hE x) (hE i) hk)) hn
 |lookup t x i ok =>
  have hk:NL cx.T st.h t (ev st.t x) (ev st.t i) ok fun v=>K v st.h:=by
   cases dr with
   |true=>exact gU hk
   |false=>exact hk
  exact Ee rfl (BV.does hI (cD hT hI.objs (hE x) (hE i) hk)) hn
 |mapUpdate t m k x=>exact YL rfl (Ol hI hT (hE m) (hE k) (hE x) hk) hn
 |range t x =>
  simp only at hk;split at hk
  ·rename_i kt e ht;exact Ee rfl (iE hI hT ht (hE x) hk) hn
  ·exact hk.elim
 |next it s =>
  cases s with
  |true=>exact hk.elim
  |false=>exact Ee rfl (lH hI (hE it) hk) hn
 |entry it=>exact Ee rfl (BV.does hI (fX hI.objs (hE it) hk)) hn
 |extract x i=>exact Ee rfl (BV.does hI (Zn (hE x) hk)) hn
 |call c =>
  obtain⟨rD,args,Hp⟩:=c;cases rD with
  |builtin b=>exact Y4 hT hS hk hn
  |value f=>exact absurd rfl (hv f args Hp)
  |invoke r m=>exact hk.elim
 |_=>exact hk.elim
theorem jt(hP:cx.P=P)(hY:∀l σ h g w,EK σ=true→DV w0 g0 h0 h g w→Le h0 g0 w0 h g w→cx.yp l σ (DK σ g) w){ro:Option Nat}(hT:CL P cx.T){next:Act→World→Prop}{Q:Exit→Act→World→Prop}(hS:SR N ds w0 g0 h0 st g a w)(hk:Gl cx dr o st K)(hn:bx w0 g0 h0 st.h g w K fun x w'=>next (a.put o.dst x) w'):o.wpIn (KA ro) 0 P a w next Q:=by
 by_cases hv:∃f args Hp,o.op=.call ⟨.value f,args,Hp⟩
 ·obtain⟨f,args,Hp,e⟩:=hv;obtain⟨dst,op,ty,pos,after,gd⟩:=o;cases e;exact jC hP hY hS hk hn
 ·refine NO (fun c e=>?_) (nA hT hS hk (fun f args Hp e=>hv ⟨f,args,Hp,e⟩) hn);obtain⟨dst,op,ty,pos,after,gd⟩:=o;cases e;exact hk.elim
theorem wE{p:Nat→Prop}(h:∃n,p n):∃n,p n∧∀m,m<n→¬p m:=by
 apply AC;intro hc
 have:∀n,¬p n:=fun n=>by
  induction n using Nat.strongRecOn with
  |_ n ih=>exact fun hp=>hc ⟨n,hp,ih⟩
 obtain⟨n,hn⟩:=h;exact this n hn
theorem Tj{F:Fence}{m:Nat}{c:Code}{Q:Exit→Act→World→Prop}(I:Nat→Act→World→Prop)(k:Nat)(h0:I k a w)
  (round:∀n a w,I n a w→c.wpIn F m P (Exit.then (fun a' w'=>∃n',n' < n∧I n' a' w') Q) a w):(Code.loop c).wpIn F m P Q a w:=by
 classical
 have hex:∀a w,(∃n,I n a w)→∃n,I n a w∧∀n',n' < n→¬I n' a w:=fun a w h=>wE h;refine wpIn_loop (fun a w=>∃n,I n a w) (fun a w=>if h:∃n,I n a w then(hex a w h).choose else 0) ⟨k,h0⟩ fun a w h=>?_;have hs:=(hex a w h).choose_spec;refine wpIn_mono (round _ a w hs.1) fun e a' w' q=>?_;cases e with
 |normal =>
  obtain⟨n',DJ,hn⟩:=q;have h' : ∃n,I n a' w':=⟨n',hn⟩;refine⟨h',?_⟩;simp only[dif_pos h,dif_pos h'];refine Nat.lt_of_le_of_lt ?_ DJ;apply Nat.le_of_not_lt;intro hc;exact(hex a' w' h').choose_spec.2 n' hc hn
 |_=>exact q
end
section
variable {P:Program}{N:Nat}{ds:List Deferred}{w0:World}{g0:Gh}{h0:Nat→HO}{st:St}{g:Gh}{a:Act}{w:World}
theorem fO(hT:CL P T){ty e k ty2 b o n c:Nat}(ht:(T ty).d=.slice e)(hk:(T e).size=k+1)(hz:(T e).zc.length=k+1)(Tc:∀v∈(T e).zc,v.oneCell'=true){F6:Array Value}{E:TypeId}(hb:w.heap[b]?=some (.cells F6 E (0,0)))(hn:0<n)(HD:o+n*(k+1)≤F6.size) :
  (Builtin.clear_ #[ty] ty2 #[.slice (some ⟨b,o,none⟩) n c]).run P w=.ok (.tuple #[]) (w.setRow b (over F6.toList o (List.replicate n (T e).zc).flatten).toArray):=by
 obtain⟨z,z1,z2⟩:=XG (w:=w) hT hk;have sv:(T e).zc≠[]:=fun e0=>by rw[e0]at hz;cases hz
 have sn:(Builtin.zeroCells z.cells n).toList=(List.replicate n (T e).zc).flatten:=by
  rw[ID n _ sv,hz,z2];have e6:z.cells.size=k+1:=by rw[←hz,z2];simp
  unfold Builtin.zeroCells;simp[e6,Array.getElem!_eq_getD]
 have CB:(List.replicate n (T e).zc).flatten.length=n*(k+1):=by
  rw[Dt (n:=k+1) (fun c hc=>by rw[Ci hc];exact hz),D0]
 have JU:=run_storeCells_at P b o E (List.replicate n (T e).zc).flatten 0 F6 w hb (by rw[CB];simpa using HD) (fun v hv=>by
  obtain⟨l,hl,hv⟩:=Eh.1 hv;rw[Ci hl]at hv;exact Tc v hv)
 simp only[GV]at JU;rw[NQ _ _ _ (by rw[CB];simpa using HD)];obtain⟨m,rfl⟩:∃m,n=m+1:=⟨n-1,by omega⟩;simp only[Builtin.clear_,Sem.run_bind,Gz,A9,run_underlying (hT.slice ht),Result.andThen_ok,z1,sn,JU,Sem.run_pure]
theorem bR(hT:CL P T){ty e ty2 c:Nat}(ht:(T ty).d=.slice e)(x:Option Addr) :
  (Builtin.clear_ #[ty] ty2 #[.slice x 0 c]).run P w=.ok (.tuple #[]) w:=by
 cases x<;>simp only[Builtin.clear_,Sem.run_bind,Gz,A9,run_underlying (hT.slice ht),Result.andThen_ok,Sem.run_pure]
theorem me{d:Nat}{x:Value}(hd:d<a.tmps.size):(a.put (some d) x).eval (.tmp d)=x:=by
 show(a.tmps.setIfInBounds d x).getD d undef=x;rw[CD,Array.getElem?_setIfInBounds_self,Al hd];rfl
theorem kR(h:Nat→HO)(r:Nat):A0 h r (h r)=h:=funext fun i=>by
 by_cases e:i=r
 ·subst e;exact Bg ..
 ·exact B7 _ _ _ _ e
theorem cu(h:UM o o2=true):∃ty x lo d ty2 pos after tg px XO,o=⟨some d,.slice ty x (some lo) none none,ty2,pos,after,none⟩∧o2=⟨none,.call ⟨.builtin .clear,#[.tmp d],#[ty]⟩,tg,px,XO,none⟩:=by
 obtain⟨dst,op,t2,p1,a1,gd⟩:=o;obtain⟨Aeq,op2,t3,p2,a2,xS⟩:=o2;unfold UM at h;split at h
 ·rename_i c e1;split at h
  ·rename_i e2;split at h
   ·rename_i ty x lo e3;split at h
    ·rename_i d d' ty' e4 e5 e6 e7 e8 e9;obtain⟨rD,⟨args⟩,⟨Hp⟩⟩:=c;simp only at e1 e2 e3 e4 e5 e6 e7 e8 e9;simp only[Ai]at h;obtain rfl:=AM h.1;obtain rfl:=AM h.2;subst e1 e2 e3 e4 e5 e6 e7 e8 e9;exact⟨_,_,_,_,_,_,_,_,_,_,rfl,rfl⟩
    ·cases h
   ·cases h
  ·cases h
 ·cases h
theorem nR(hT:CL P cx.T){ro:Option Nat}(hd:∀i,o.dst=some i→i<N)(hc:UM o o2=true){K:St→Prop}(hS:SR N ds w0 g0 h0 st g a w)(hk:fQ cx o st K){next:Act→World→Prop}{Q:Exit→Act→World→Prop}(hn:∀EA g' a' w',K EA→SR N ds w0 g0 h0 EA g' a' w'→next a' w') :
  o.guard=none∧o2.guard=none∧o.wpIn (KA ro) 0 P a w (fun a1 w1=>o2.wpIn (KA ro) 0 P a1 w1 next Q) Q:=by
 obtain⟨ty,x,lo,d,ty2,pos,after,tg,px,XO,rfl,rfl⟩:=cu hc;refine⟨rfl,rfl,?_⟩;have hI:=hS.inv;have hE:=hS.eval;have hdN:d<a.tmps.size:=by rw[hS.size];exact hd d rfl
 -- what is to be shown of the two operations
 have two:∀(v:Value) (EA : St) (g' : Gh) (w' : World),(Instr.sliceAt ty (a.eval x) (some (a.eval lo)) none none).run P w=.ok v w→(Builtin.clear_ #[ty] tg #[v]).run P w=.ok (.tuple #[]) w'→K ⟨HI st.t d .junk,EA.h⟩→DV w0 g0 h0 EA.h g' w'→Le st.h g w EA.h g' w' →
   Oper.wpIn (KA ro) 0 P ⟨some d,.slice ty x (some lo) none none,ty2,pos,after,none⟩ a w (fun a1 w1=>Oper.wpIn (KA ro) 0 P ⟨none,.call ⟨.builtin .clear,#[.tmp d],#[ty]⟩,tg,px,XO,none⟩ a1 w1 next Q) Q:=by
  intro v EA g' w' r1 r2 hk hI' HD;refine NO (by intro c e;cases e) ?_;unfold Oper.wp;have hx:execOp a.eval ⟨some d,.slice ty x (some lo) none none,ty2,pos,after,none⟩=(do pure (Next.value (←Instr.sliceAt ty (a.eval x) (some (a.eval lo)) none none))):=rfl;rw[hx,Sem.run_bind,r1];refine NO (by intro c e;cases e) ?_;unfold Oper.wp;have t8:execOp (a.put (some d) v).eval ⟨none,.call ⟨.builtin .clear,#[.tmp d],#[ty]⟩,tg,px,XO,none⟩=(do pure (Next.value (←Builtin.clear_ #[ty] tg #[v]))):=by
   simp[execOp,resolve,invoke,builtin,me hdN]
  rw[t8,Sem.run_bind,r2];have S1:SR N ds w0 g0 h0 (st.put (some d) .junk st.h) g (a.put (some d) v) w:=hS.put hd hI (.refl _ _ _) (.junk _ _);have S2:SR N ds w0 g0 h0 ((st.put (some d) .junk st.h).put none (.v (.tuple #[])) EA.h) g' ((a.put (some d) v).put none (.tuple #[])) w':=S1.put (by intro i e;cases e) hI' HD (.v _ _);exact hn _ g' _ w' hk S2
 unfold fQ at hk;simp only at hk;split at hk
 ·rename_i e hs;split at hk
  ·rename_i r n ex;split at hk
   ·rename_i i ei;split at hk
    ·rename_i sz es er;split at hk
     ·rename_i hb;obtain rfl:=AM hb;split at hk
      ·exact hk.elim
      ·rename_i k Ev;split at hk
       ·rename_i NZ;have NZ:=AM NZ;obtain⟨⟨rfl,i0,i1⟩,hk⟩:=hk;unfold uP at hk;split at hk
        ·rename_i Gr;have Gr:∀v∈(cx.T e).zc,v.oneCell'=true:=AZ.1 Gr;have ho:=hI.objs r;rw[er]at ho;obtain⟨t1,l1,al,a2⟩:=ho;have jf:=hE x;rw[ex]at jf;have r8:=hE lo;rw[ei]at r8;have r8:=r8.v_eq;generalize hvx:a.eval x=vx at jf two;rw[r8]at two;cases jf with
         |msl _ _ _ ad cap hu ht' ZP ha MF =>
          have hv:=MF l1.symm;have Qg:es.length≤cap:=by
           rcases a2 with ⟨b1,_,_⟩ | ⟨b,LR,E,vs,b1,_,b3,_⟩
           ·subst b1;exact AA _
           ·rw[b1]at hv;cases hv;exact b3
          have Da:=Fe (P:=P) (w:=w) hT hs Ev ad es.length cap (some i) none none (.inl rfl) (by simpa using i0) (by simpa using i1) (by simpa using Qg) B0;simp only[CF,Ej,A7,Ib,Option.map_none]at Da
          by_cases hz:i.toNat=es.length
          ·-- nothing is cleared
           have e1:es.length-i.toNat=0:=by omega
           rw[e1]at Da hk;refine two _ st g w Da (bR hT hs _) ?_ hI (.refl _ _ _);have e2:es.take i.toNat++List.replicate 0 ((cx.T e).zc.map AV.v)=es:=by rw[List.replicate_zero,BL,hz,Dp]
           rw[e2,←er,kR]at hk;exact hk
          ·have DJ:i.toNat<es.length:=by omega
           rcases a2 with ⟨b1,_⟩ | ⟨b,LR,E,vs,b1,b2,b3,b4,b5,b6,b7⟩
           ·subst b1;simp at DJ
           ·rw[b1]at hv;cases hv;have DM:¬cap=i.toNat:=by omega
            rw[Ae DM]at Da;have Aac:Option.map (fun x:Addr=>x.add (i.toNat*(cx.T e).size)) (some ⟨b,0,none⟩)=some ⟨b,i.toNat*(cx.T e).size,none⟩:=by simp[Addr.add];omega
            rw[Aac]at Da;have Ru:es.length*(cx.T e).size≤cap*(cx.T e).size:=Bk _ b3;have Te:i.toNat*(cx.T e).size+(es.length-i.toNat)*(cx.T e).size=es.length*(cx.T e).size:=by rw[←Fj];congr 1;omega
            have hcl:=fO (w:=w) (ty2:=tg) (c:=cap-i.toNat) hT hs Ev (NZ.trans Ev) Gr b4 (n:=es.length-i.toNat) (o:=i.toNat*(cx.T e).size) ch (by rw[show k+1=(cx.T e).size from Ev.symm,Te,b5];exact Ru);have hl:(st.h r).live:=by rw[er];trivial
            generalize hZ:(List.replicate (es.length-i.toNat) (cx.T e).zc).flatten=Z at hcl;have xX:Z.length=(es.length-i.toNat)*(cx.T e).size:=by
             rw[←hZ,Dt (n:=(cx.T e).size) (fun c hc=>by rw[Ci hc];exact NZ),D0]
            have Mr:(es.take i.toNat++List.replicate (es.length-i.toNat) ((cx.T e).zc.map AV.v)).length=es.length:=by
             rw[Ad,AB,D0];omega
            have Aad:∀c∈es.take i.toNat++List.replicate (es.length-i.toNat) ((cx.T e).zc.map AV.v),c.length=(cx.T e).size:=fun c hc=>by
             rcases AY.1 hc with h1 | h1
             ·exact al c (EQ h1)
             ·rw[Ci h1,A8];exact NZ
            have Ab1:vs.toList.length=cap*(cx.T e).size:=by rw[B9];exact b5
            have hfl:(es.take i.toNat++List.replicate (es.length-i.toNat) ((cx.T e).zc.map AV.v)).flatten=over es.flatten (i.toNat*(cx.T e).size) (Z.map AV.v):=by
             rw[NQ _ _ _ (by rw[A8,xX,Te,Dt al];exact Ao _),Cn,OI al,A8,xX,Te,CK (by rw[Dt al];exact Ao _),BL,←hZ,TO,List.map_replicate]
            have m9:((over vs.toList (i.toNat*(cx.T e).size) Z).toArray.toList.take (es.length*(cx.T e).size))=over (vs.toList.take (es.length*(cx.T e).size)) (i.toNat*(cx.T e).size) Z :=
             Xc _ _ _ _ (by rw[xX,Te];exact Ao _) (by rw[Ab1];exact Ru)
            have hZr:CU g w FQ (Z.map AV.v) Z:=CU.vals (by
             have vq : ∀l:List AV,(∀a∈l,one a=true)→Hz l=true:=by
              intro l
              induction l with
              |nil=>intro _;rfl
              |cons a l ih=>intro h;simp[Hz,h a (List.mem_cons_self ..),ih (fun b hb=>h b (List.mem_cons_of_mem _ hb))]
             refine vq _ fun q hq=>?_;obtain⟨y,hy,rfl⟩:=Am.1 hq;rw[←hZ]at hy;obtain⟨l,hl,hy⟩:=Eh.1 hy;rw[Ci hl]at hy;exact Gr y hy)
            have sc:CU g w FQ (over es.flatten (i.toNat*(cx.T e).size) (Z.map AV.v)) (over (vs.toList.take (es.length*(cx.T e).size)) (i.toNat*(cx.T e).size) Z) :=
             b6.over hZr _ (by rw[A8,xX,Te,Dt al];exact Ao _)
            obtain⟨k1,k2⟩:=hI.write hl b2 (.arr (cx.T e).size (es.take i.toNat++List.replicate (es.length-i.toNat) ((cx.T e).zc.map AV.v))) b4 (over vs.toList (i.toNat*(cx.T e).size) Z).toArray (g.ln r) (g.own r) g.S B0 rfl (fun b' e=>by rw[b2]at e;cases e;rfl) (fun _ _ h=>h)
             (fun b' o hs=>.inl hs) (fun o hs=>absurd hs (b7 o)) (fun hg IN Fp=>by
              obtain⟨u1,u2,u3,u4⟩:=BG g r (g.ρ r) (g.ln r) (g.tk r) (g.own r) g.S;refine⟨u3.trans t1,u2.trans (by rw[Mr];exact l1),Aad,.inr ⟨b,cap,E,_,?_,u4.trans b2,by rw[Mr];exact b3,Fp,?_,?_,b7⟩⟩
              ·rw[u1,b1,Mr]
              ·simp only[FW,Gc,B9];exact b5
              ·rw[Mr,m9,hfl];exact sc.mono IN (fun _ h=>h) (fun _ h=>h.elim))
            exact two _ ⟨st.t,_⟩ _ _ Da hcl hk k1 k2
        ·exact hk.elim
       ·exact hk.elim
     ·exact hk.elim
    ·exact hk.elim
   ·exact hk.elim
  ·exact hk.elim
 ·exact hk.elim
end
end Go.Eng
