/- Lemmas for the claims of this seat, without a condition: part 13 (EngZB, EngZBc). -/
import Derived.Test.YtmcbkdbfaneofaaGreatDoorBA12
namespace Go.Eng
section
variable {P:Program}{N:Nat}{ds:List Deferred}{w0:World}{g0:Gh}{h0:Nat→HO}{st:St}{g:Gh}{a:Act}{w:World}
theorem XH{cx:Cx}(hT:CJ P cx.T){b:Builtin}{args:Array Operand}{G3:Array TypeId}{dst:Option Nat}{ty:Nat}{pos:String}{after:Array Edge}{gd:Option (Nat×Bool)}{K:HK}{next:Act→World→Prop}{Q:Exit→Act→World→Prop}
  (hS:SR N ds w0 g0 h0 st g a w) (hk:Gc cx dst st.h b G3.toList (args.toList.map (ev st.t)) K)
  (hn:Ze w0 g0 h0 st.h g w K fun x w'=>next (a.put dst x) w'):Oper.wp P ⟨dst,.call ⟨.builtin b,args,G3⟩,ty,pos,after,gd⟩ a w next Q:=by
 have hI:=hS.inv;have hE:=hS.eval;obtain⟨l⟩:=args;obtain⟨tl⟩:=G3;unfold Gc at hk;split at hk
 ·rename_i x t e1 e2
  match l,e1 with
  | [y],e1 =>
   simp only[AQ,Fk,FJ,and_true]at e1;subst e1;simp only at e2;subst e2;exact D5 (m:=Builtin.len_ #[t] ty #[a.eval y]) (by simp[execOp,resolve,invoke,builtin]) (BW.does hI (iD hT hI.objs (hE y) hk)) hn
 ·rename_i s x t t' e1 e2
  match l,e1 with
  | [y,z],e1 =>
   simp only[AQ,Fk,FJ,and_true]at e1;obtain⟨rfl,rfl⟩:=e1;simp only at e2;subst e2;split at hk
   ·rename_i ht;obtain rfl:=AP ht;exact D5 (m:=Builtin.append_ #[t,t] ty #[a.eval y,a.eval z]) (by simp[execOp,resolve,invoke,builtin]) (Zn hI hT (hE y) (hE z) hk) hn
   ·exact hk.elim
 ·rename_i x y G3 e1
  match l,e1 with
  | [y,z],e1 =>
   simp only[AQ,Fk,FJ,and_true]at e1;obtain⟨rfl,rfl⟩:=e1;exact D5 (m:=Builtin.max_ ⟨tl⟩ ty #[a.eval y,a.eval z]) (by simp[execOp,resolve,invoke,builtin]) (BW.does hI (lW (hE y) (hE z) hk)) hn
 ·rename_i x y G3 e1
  match l,e1 with
  | [y,z],e1 =>
   simp only[AQ,Fk,FJ,and_true]at e1;obtain⟨rfl,rfl⟩:=e1;exact D5 (m:=Builtin.min_ ⟨tl⟩ ty #[a.eval y,a.eval z]) (by simp[execOp,resolve,invoke,builtin]) (BW.does hI (lY (hE y) (hE z) hk)) hn
 ·exact hk.elim
theorem kF{cx:Cx}(hT:CJ P cx.T){dr:Bool}{o:Oper}{K:HK}{next:Act→World→Prop}{Q:Exit→Act→World→Prop}(hS:SR N ds w0 g0 h0 st g a w)(hk:F5 cx dr o st K)
  (hv:∀f args G3,o.op≠.call ⟨.value f,args,G3⟩) (hn:Ze w0 g0 h0 st.h g w K fun x w'=>next (a.put o.dst x) w'):o.wp P a w next Q:=by
 have hI:=hS.inv;have hE:=hS.eval;obtain⟨dst,op,ty,pos,after,gd⟩:=o;unfold F5 at hk;cases op with
 |move x=>exact cf hI (x:=a.eval x) rfl hk (hE x) hn
 |assign x =>
  obtain⟨g',av,h',q1,q2,q3,q4⟩:=Zq hI (hE x) hk;exact hn _ _ _ _ _ q1 q2 q3 q4
 |pick c x y=>exact D5 (m:=do pure (if ←asBool (a.eval c)then a.eval x else a.eval y)) (by simp[execOp]) (BW.does hI (jk (hE c) (hE x) (hE y) hk)) hn
 |alloc e=>exact D5 rfl (cp hI hT hk) hn
 |box e x=>exact D5 rfl (kM hI (hE x) hk) hn
 |build t ps=>exact D5 rfl (BW.does hI (cC hT hE hk)) hn
 |buildSlice t n ps=>exact D5 rfl (SX hI hT hE hk) hn
 |insert t m k x=>exact Xk rfl (NQ hI hT (hE m) (hE k) (hE x) hk) hn
 |load t x=>exact D5 rfl (BW.does hI (VN hI.objs hT (hE x) hk)) hn
 |store t p x=>exact Xk rfl (eT hI hT (hE p) (hE x) hk) hn
 |nilCheck x =>
  obtain⟨h1,h2⟩:=W4 (P:=P) (w:=w) (hE x) hk (pos:=pos) (after:=after) (gd:=gd) (dst:=dst) (ty:=ty) (ρ:=a.eval) rfl;exact cf hI h1 h2 (hE x) hn
 |binOp op t x y u=>exact D5 rfl (BW.does hI (fI hT (hE x) (hE y) (fun v e=>by subst e;rfl) hk)) hn
 |unOp op t x=>exact D5 rfl (BW.does hI (ka (hE x) hk)) hn
 |convert s t x=>exact D5 rfl (BW.does hI (gc hT (hE x) hk)) hn
 |makeFunc fn first cap=>exact D5 rfl (BW.does hI (W0 hI.objs hE hk)) hn
 |makeMap t r =>
  cases r with
  |some r=>exact hk.elim
  |none=>exact D5 rfl (YC hI hk) hn
 |makeSlice t n c=>exact D5 rfl (UZ hI hT (hE n) (hE c) hk) hn
 |slice t x lo hi mx =>
  cases dr with
  |true =>
   cases hp:N2 cx.pl.tok dst with
   |none =>
    have Kr : GK cx dst st.h t (ev st.t x) (Cb st.t lo) (Cb st.t hi) (Cb st.t mx) K:=by
     have Ij:(match N2 cx.pl.tok dst with
      |none=>GK cx dst st.h t (ev st.t x) (Cb st.t lo) (Cb st.t hi) (Cb st.t mx) K
      |some _=>NV cx dst st.h t (ev st.t x) lo (Cb st.t hi) mx K):=hk
     rw[hp]at Ij;exact Ij
    exact D5 rfl (V2 hI hT hE (hE x) Kr) hn
   |some _ =>
    have Kr : NV cx dst st.h t (ev st.t x) lo (Cb st.t hi) mx K:=by
     have Ij:(match N2 cx.pl.tok dst with
      |none=>GK cx dst st.h t (ev st.t x) (Cb st.t lo) (Cb st.t hi) (Cb st.t mx) K
      |some _=>NV cx dst st.h t (ev st.t x) lo (Cb st.t hi) mx K):=hk
     rw[hp]at Ij;exact Ij
    unfold NV at Kr;split at Kr
    ·exact D5 rfl (bN hI hT hE (hE x) Kr) hn
    ·exact Kr.elim
  |false =>
   cases hp:N2 cx.pl.tok dst with
   |none =>
    have Kr : GK cx dst st.h t (ev st.t x) (Cb st.t lo) (Cb st.t hi) (Cb st.t mx) K:=by
     have Ij:(match N2 cx.pl.tok dst with
      |none=>GK cx dst st.h t (ev st.t x) (Cb st.t lo) (Cb st.t hi) (Cb st.t mx) K
      |some _=>bQ cx dst st.h t (ev st.t x) st.t lo hi mx K):=hk
     rw[hp]at Ij;exact Ij
    exact D5 rfl (V2 hI hT hE (hE x) Kr) hn
   |some _ =>
    have Kr : bQ cx dst st.h t (ev st.t x) st.t lo hi mx K:=by
     have Ij:(match N2 cx.pl.tok dst with
      |none=>GK cx dst st.h t (ev st.t x) (Cb st.t lo) (Cb st.t hi) (Cb st.t mx) K
      |some _=>bQ cx dst st.h t (ev st.t x) st.t lo hi mx K):=hk
     rw[hp]at Ij;exact Ij
    cases lo with
    |some lo=>exact D5 rfl (Y3 hI hT hE (hE x) Kr) hn
    |none =>
     have VC:NV cx dst st.h t (ev st.t x) none (Cb st.t hi) mx K:=Kr;unfold NV at VC;split at VC
     ·exact D5 rfl (bN hI hT hE (hE x) VC) hn
     ·exact VC.elim
 |fieldAddr s x f=>exact D5 rfl (BW.does hI (cQ hT (hE x) hk)) hn
 |field s x f=>exact D5 rfl (BW.does hI (ZH hT (hE x) hk)) hn
 |indexAddr t x i=>exact D5 rfl (BW.does hI (UW hT (hE x) (hE i) hk)) hn
 |index t x i=>exact D5 rfl (BW.does hI (dj hT (hE x) (hE i) hk)) hn
 |lookup t x i ok =>
  have hk:Nh cx.T st.h t (ev st.t x) (ev st.t i) ok fun v=>K v st.h:=by
   cases dr with
   |true=>exact dx hk
   |false=>exact hk
  exact D5 rfl (BW.does hI (ae hT hI.objs (hE x) (hE i) hk)) hn
 |mapUpdate t m k x=>exact Xk rfl (NQ hI hT (hE m) (hE k) (hE x) hk) hn
 |range t x =>
  simp only at hk;split at hk
  ·rename_i kt e ht;exact D5 rfl (d9 hI hT ht (hE x) hk) hn
  ·exact hk.elim
 |next it s =>
  cases s with
  |true=>exact hk.elim
  |false=>exact D5 rfl (iV hI (hE it) hk) hn
 |entry it=>exact D5 rfl (BW.does hI (cO hI.objs (hE it) hk)) hn
 |extract x i=>exact D5 rfl (BW.does hI (XY (hE x) hk)) hn
 |call c =>
  obtain⟨oC,args,G3⟩:=c;cases oC with
  |builtin b=>exact XH hT hS hk hn
  |value f=>exact absurd rfl (hv f args G3)
  |invoke r m=>exact hk.elim
 |_=>exact hk.elim
theorem fG{cx:Cx}(hP:cx.P=P)(hY:∀l σ h g w,Ey σ=true→DS w0 g0 h0 h g w→Le h0 g0 w0 h g w→cx.yp l σ (DG σ g) w){ro:Option Nat}(hT:CJ P cx.T){dr:Bool}{o:Oper}{K:HK}{next:Act→World→Prop}{Q:Exit→Act→World→Prop}(hS:SR N ds w0 g0 h0 st g a w)(hk:F5 cx dr o st K)
  (hn:Ze w0 g0 h0 st.h g w K fun x w'=>next (a.put o.dst x) w'):o.wpIn (J0 ro) 0 P a w next Q:=by
 by_cases hv:∃f args G3,o.op=.call ⟨.value f,args,G3⟩
 ·obtain⟨f,args,G3,e⟩:=hv;obtain⟨dst,op,ty,pos,after,gd⟩:=o;cases e;exact fN hP hY hS hk hn
 ·refine Nl (fun c e=>?_) (kF hT hS hk (fun f args G3 e=>hv ⟨f,args,G3,e⟩) hn);obtain⟨dst,op,ty,pos,after,gd⟩:=o;cases e;exact hk.elim
theorem nB{p:Nat→Prop}(h:∃n,p n):∃n,p n∧∀m,m<n→¬p m:=by
 apply A9;intro hc
 have:∀n,¬p n:=fun n=>by
  induction n using Nat.strongRecOn with
  |_ n ih=>exact fun hp=>hc ⟨n,hp,ih⟩
 obtain⟨n,hn⟩:=h;exact this n hn
theorem Sg{F:Fence}{m:Nat}{c:Code}{Q:Exit→Act→World→Prop}(I:Nat→Act→World→Prop)(k:Nat)(h0:I k a w)
  (round:∀n a w,I n a w→c.wpIn F m P (Exit.then (fun a' w'=>∃n',n' < n∧I n' a' w') Q) a w):(Code.loop c).wpIn F m P Q a w:=by
 classical
 have hex:∀a w,(∃n,I n a w)→∃n,I n a w∧∀n',n' < n→¬I n' a w:=fun a w h=>nB h;refine wpIn_loop (fun a w=>∃n,I n a w) (fun a w=>if h:∃n,I n a w then(hex a w h).choose else 0) ⟨k,h0⟩ fun a w h=>?_;have hs:=(hex a w h).choose_spec;refine wpIn_mono (round _ a w hs.1) fun e a' w' q=>?_;cases e with
 |normal =>
  obtain⟨n',DH,hn⟩:=q;have h' : ∃n,I n a' w':=⟨n',hn⟩;refine⟨h',?_⟩;simp only[dif_pos h,dif_pos h'];refine Nat.lt_of_le_of_lt ?_ DH;apply Nat.le_of_not_lt;intro hc;exact(hex a' w' h').choose_spec.2 n' hc hn
 |_=>exact q
end
section
variable {P:Program}{N:Nat}{ds:List Deferred}{w0:World}{g0:Gh}{h0:Nat→HO}{st:St}{g:Gh}{a:Act}{w:World}
theorem cG{T:GN}(hT:CJ P T){ty e k ty2 b o n c:Nat}(ht:(T ty).d=.slice e)(hk:(T e).size=k+1)(hz:(T e).zc.length=k+1)(Sc:∀v∈(T e).zc,v.oneCell'=true){FP:Array Value}{E:TypeId}
  (hb:w.heap[b]?=some (.cells FP E (0,0))) (hn:0<n) (Ho:o+n*(k+1)≤FP.size) :
  (Builtin.clear_ #[ty] ty2 #[.slice (some ⟨b,o,none⟩) n c]).run P w=.ok (.tuple #[]) (w.setRow b (over FP.toList o (List.replicate n (T e).zc).flatten).toArray):=by
 obtain⟨z,z1,z2⟩:=Wg (w:=w) hT hk;have po:(T e).zc≠[]:=fun e0=>by rw[e0]at hz;cases hz
 have pk:(Builtin.zeroCells z.cells n).toList=(List.replicate n (T e).zc).flatten:=by
  rw[H7 n _ po,hz,z2];have e6:z.cells.size=k+1:=by rw[←hz,z2];simp
  unfold Builtin.zeroCells;simp[e6,Array.getElem!_eq_getD]
 have CF:(List.replicate n (T e).zc).flatten.length=n*(k+1):=by
  rw[Dv (n:=k+1) (fun c hc=>by rw[Cn hc];exact hz),CA]
 have JH:=run_storeCells_at P b o E (List.replicate n (T e).zc).flatten 0 FP w hb (by rw[CF];simpa using Ho) (fun v hv=>by
  obtain⟨l,hl,hv⟩:=EC.1 hv;rw[Cn hl]at hv;exact Sc v hv)
 simp only[DK]at JH;rw[Np _ _ _ (by rw[CF];simpa using Ho)];obtain⟨m,rfl⟩:∃m,n=m+1:=⟨n-1,by omega⟩;simp only[Builtin.clear_,Sem.run_bind,Gi,Bb,run_underlying (hT.slice ht),Result.andThen_ok,z1,pk,JH,Sem.run_pure]
theorem ZB{T:GN}(hT:CJ P T){ty e ty2 c:Nat}(ht:(T ty).d=.slice e)(x:Option Addr) :
  (Builtin.clear_ #[ty] ty2 #[.slice x 0 c]).run P w=.ok (.tuple #[]) w:=by
 cases x<;>simp only[Builtin.clear_,Sem.run_bind,Gi,Bb,run_underlying (hT.slice ht),Result.andThen_ok,Sem.run_pure]
theorem jz{d:Nat}{x:Value}(hd:d<a.tmps.size):(a.put (some d) x).eval (.tmp d)=x:=by
 show(a.tmps.setIfInBounds d x).getD d undef=x;rw[CC,Array.getElem?_setIfInBounds_self,Au hd];rfl
theorem ie(h:Nat→HO)(r:Nat):A2 h r (h r)=h:=funext fun i=>by
 by_cases e:i=r
 ·subst e;exact Bi ..
 ·exact B5 _ _ _ _ e
theorem ZZ{o o2:Oper}(h:TW o o2=true):∃ty x lo d ty2 pos after pX mu Wq,o=⟨some d,.slice ty x (some lo) none none,ty2,pos,after,none⟩∧o2=⟨none,.call ⟨.builtin .clear,#[.tmp d],#[ty]⟩,pX,mu,Wq,none⟩:=by
 obtain⟨dst,op,t2,p1,a1,gd⟩:=o;obtain⟨AaX,op2,t3,p2,a2,t6⟩:=o2;unfold TW at h;split at h
 ·rename_i c e1;split at h
  ·rename_i e2;split at h
   ·rename_i ty x lo e3;split at h
    ·rename_i d d' ty' e4 e5 e6 e7 e8 e9;obtain⟨oC,⟨args⟩,⟨G3⟩⟩:=c;simp only at e1 e2 e3 e4 e5 e6 e7 e8 e9;simp only[Ai]at h;obtain rfl:=AP h.1;obtain rfl:=AP h.2;subst e1 e2 e3 e4 e5 e6 e7 e8 e9;exact⟨_,_,_,_,_,_,_,_,_,_,rfl,rfl⟩
    ·cases h
   ·cases h
  ·cases h
 ·cases h
theorem kX{cx:Cx}(hT:CJ P cx.T){ro:Option Nat}{o o2:Oper}(hd:∀i,o.dst=some i→i<N)(hc:TW o o2=true){K:St→Prop}(hS:SR N ds w0 g0 h0 st g a w)(hk:cI cx o st K){next:Act→World→Prop}{Q:Exit→Act→World→Prop}
  (hn:∀Ek g' a' w',K Ek→SR N ds w0 g0 h0 Ek g' a' w'→next a' w') :
  o.guard=none∧o2.guard=none∧o.wpIn (J0 ro) 0 P a w (fun a1 w1=>o2.wpIn (J0 ro) 0 P a1 w1 next Q) Q:=by
 obtain⟨ty,x,lo,d,ty2,pos,after,pX,mu,Wq,rfl,rfl⟩:=ZZ hc;refine⟨rfl,rfl,?_⟩;have hI:=hS.inv;have hE:=hS.eval;have wK:d<a.tmps.size:=by rw[hS.size];exact hd d rfl
 -- what is to be shown of the two operations
 have two:∀(v:Value) (Ek : St) (g' : Gh) (w' : World),(Instr.sliceAt ty (a.eval x) (some (a.eval lo)) none none).run P w=.ok v w→(Builtin.clear_ #[ty] pX #[v]).run P w=.ok (.tuple #[]) w'→K ⟨Hq st.t d .junk,Ek.h⟩→DS w0 g0 h0 Ek.h g' w'→Le st.h g w Ek.h g' w' →
   Oper.wpIn (J0 ro) 0 P ⟨some d,.slice ty x (some lo) none none,ty2,pos,after,none⟩ a w (fun a1 w1=>Oper.wpIn (J0 ro) 0 P ⟨none,.call ⟨.builtin .clear,#[.tmp d],#[ty]⟩,pX,mu,Wq,none⟩ a1 w1 next Q) Q:=by
  intro v Ek g' w' r1 r2 hk hI' Ho;refine Nl (by intro c e;cases e) ?_;unfold Oper.wp;have hx:execOp a.eval ⟨some d,.slice ty x (some lo) none none,ty2,pos,after,none⟩=(do pure (Next.value (←Instr.sliceAt ty (a.eval x) (some (a.eval lo)) none none))):=rfl;rw[hx,Sem.run_bind,r1];refine Nl (by intro c e;cases e) ?_;unfold Oper.wp;have qx:execOp (a.put (some d) v).eval ⟨none,.call ⟨.builtin .clear,#[.tmp d],#[ty]⟩,pX,mu,Wq,none⟩=(do pure (Next.value (←Builtin.clear_ #[ty] pX #[v]))):=by
   simp[execOp,resolve,invoke,builtin,jz wK]
  rw[qx,Sem.run_bind,r2];have S1:SR N ds w0 g0 h0 (st.put (some d) .junk st.h) g (a.put (some d) v) w:=hS.put hd hI (.refl _ _ _) (.junk _ _);have S2:SR N ds w0 g0 h0 ((st.put (some d) .junk st.h).put none (.v (.tuple #[])) Ek.h) g' ((a.put (some d) v).put none (.tuple #[])) w':=S1.put (by intro i e;cases e) hI' Ho (.v _ _);exact hn _ g' _ w' hk S2
 unfold cI at hk;simp only at hk;split at hk
 ·rename_i e hs;split at hk
  ·rename_i r n ex;split at hk
   ·rename_i i ei;split at hk
    ·rename_i sz es er;split at hk
     ·rename_i hb;obtain rfl:=AP hb;split at hk
      ·exact hk.elim
      ·rename_i k El;split at hk
       ·rename_i Nw;have Nw:=AP Nw;obtain⟨⟨rfl,i0,i1⟩,hk⟩:=hk;unfold rt at hk;split at hk
        ·rename_i Fm;have Fm:∀v∈(cx.T e).zc,v.oneCell'=true:=AS.1 Fm;have ho:=hI.objs r;rw[er]at ho;obtain⟨t1,l1,al,a2⟩:=ho;have fp:=hE x;rw[ex]at fp;have o8:=hE lo;rw[ei]at o8;have o8:=o8.v_eq;generalize hvx:a.eval x=vx at fp two;rw[o8]at two;cases fp with
         |msl _ _ _ ad cap hu ht' Yj ha L4 =>
          have hv:=L4 l1.symm;have Pv:es.length≤cap:=by
           rcases a2 with ⟨b1,_,_⟩ | ⟨b,L3,E,vs,b1,_,b3,_⟩
           ·subst b1;exact AF _
           ·rw[b1]at hv;cases hv;exact b3
          have CY:=EZ (P:=P) (w:=w) hT hs El ad es.length cap (some i) none none (.inl rfl) (by simpa using i0) (by simpa using i1) (by simpa using Pv) (by simp);simp only[CE,Eb,Bl,FN,Option.map_none]at CY
          by_cases hz:i.toNat=es.length
          ·-- nothing is cleared
           have e1:es.length-i.toNat=0:=by omega
           rw[e1]at CY hk;refine two _ st g w CY (ZB hT hs _) ?_ hI (.refl _ _ _);have e2:es.take i.toNat++List.replicate 0 ((cx.T e).zc.map AV.v)=es:=by rw[List.replicate_zero,BS,hz,Dq]
           rw[e2,←er,ie]at hk;exact hk
          ·have DH:i.toNat<es.length:=by omega
           rcases a2 with ⟨b1,_⟩ | ⟨b,L3,E,vs,b1,b2,b3,b4,b5,b6,b7⟩
           ·subst b1;simp at DH
           ·rw[b1]at hv;cases hv;have DM:¬cap=i.toNat:=by omega
            rw[Al DM]at CY;have wx:Option.map (fun x:Addr=>x.add (i.toNat*(cx.T e).size)) (some ⟨b,0,none⟩)=some ⟨b,i.toNat*(cx.T e).size,none⟩:=by simp[Addr.add];omega
            rw[wx]at CY;have TL:es.length*(cx.T e).size≤cap*(cx.T e).size:=Bn _ b3;have Ks:i.toNat*(cx.T e).size+(es.length-i.toNat)*(cx.T e).size=es.length*(cx.T e).size:=by rw[←Ft];congr 1;omega
            have hcl:=cG (w:=w) (ty2:=pX) (c:=cap-i.toNat) hT hs El (Nw.trans El) Fm b4 (n:=es.length-i.toNat) (o:=i.toNat*(cx.T e).size) (by omega) (by rw[show k+1=(cx.T e).size from El.symm,Ks,b5];exact TL);have hl:(st.h r).live:=by rw[er];trivial
            generalize hZ:(List.replicate (es.length-i.toNat) (cx.T e).zc).flatten=Z at hcl;have uc:Z.length=(es.length-i.toNat)*(cx.T e).size:=by
             rw[←hZ,Dv (n:=(cx.T e).size) (fun c hc=>by rw[Cn hc];exact Nw),CA]
            have LU:(es.take i.toNat++List.replicate (es.length-i.toNat) ((cx.T e).zc.map AV.v)).length=es.length:=by
             rw[Ad,AH,CA];omega
            have wy:∀c∈es.take i.toNat++List.replicate (es.length-i.toNat) ((cx.T e).zc.map AV.v),c.length=(cx.T e).size:=fun c hc=>by
             rcases Ba.1 hc with h1 | h1
             ·exact al c (ED h1)
             ·rw[Cn h1,Bg];exact Nw
            have xv:vs.toList.length=cap*(cx.T e).size:=by rw[B8];exact b5
            have hfl:(es.take i.toNat++List.replicate (es.length-i.toNat) ((cx.T e).zc.map AV.v)).flatten=over es.flatten (i.toNat*(cx.T e).size) (Z.map AV.v):=by
             rw[Np _ _ _ (by rw[Bg,uc,Ks,Dv al];exact Am _),CU,N9 al,Bg,uc,Ks,DJ (by rw[Dv al];exact Am _),BS,←hZ,SJ,List.map_replicate]
            have qw:((over vs.toList (i.toNat*(cx.T e).size) Z).toArray.toList.take (es.length*(cx.T e).size))=over (vs.toList.take (es.length*(cx.T e).size)) (i.toNat*(cx.T e).size) Z :=
             VT _ _ _ _ (by rw[uc,Ks];exact Am _) (by rw[xv];exact TL)
            have hZr:CR g w FH (Z.map AV.v) Z:=CR.vals (by
             have rR : ∀l:List AV,(∀a∈l,one a=true)→Hj l=true:=by
              intro l
              induction l with
              |nil=>intro _;rfl
              |cons a l ih=>intro h;simp[Hj,h a (List.mem_cons_self ..),ih (fun b hb=>h b (List.mem_cons_of_mem _ hb))]
             refine rR _ fun q hq=>?_;obtain⟨y,hy,rfl⟩:=Ao.1 hq;rw[←hZ]at hy;obtain⟨l,hl,hy⟩:=EC.1 hy;rw[Cn hl]at hy;exact Fm y hy)
            have pf:CR g w FH (over es.flatten (i.toNat*(cx.T e).size) (Z.map AV.v)) (over (vs.toList.take (es.length*(cx.T e).size)) (i.toNat*(cx.T e).size) Z) :=
             b6.over hZr _ (by rw[Bg,uc,Ks,Dv al];exact Am _)
            obtain⟨k1,k2⟩:=hI.write hl b2 (.arr (cx.T e).size (es.take i.toNat++List.replicate (es.length-i.toNat) ((cx.T e).zc.map AV.v))) b4 (over vs.toList (i.toNat*(cx.T e).size) Z).toArray (g.ln r) (g.own r) g.S (by simp) rfl (fun b' e=>by rw[b2]at e;cases e;rfl) (fun _ _ h=>h)
             (fun b' o hs=>.inl hs) (fun o hs=>absurd hs (b7 o)) (fun hg Im E5=>by
              obtain⟨u1,u2,u3,u4⟩:=BJ g r (g.ρ r) (g.ln r) (g.tk r) (g.own r) g.S;refine⟨u3.trans t1,u2.trans (by rw[LU];exact l1),wy,.inr ⟨b,cap,E,_,?_,u4.trans b2,by rw[LU];exact b3,E5,?_,?_,b7⟩⟩
              ·rw[u1,b1,LU]
              ·simp only[FF,FY,B8];exact b5
              ·rw[LU,qw,hfl];exact pf.mono Im (fun _ h=>h) (fun _ h=>h.elim))
            exact two _ ⟨st.t,_⟩ _ _ CY hcl hk k1 k2
        ·exact hk.elim
       ·exact hk.elim
     ·exact hk.elim
    ·exact hk.elim
   ·exact hk.elim
  ·exact hk.elim
 ·exact hk.elim
end
end Go.Eng
