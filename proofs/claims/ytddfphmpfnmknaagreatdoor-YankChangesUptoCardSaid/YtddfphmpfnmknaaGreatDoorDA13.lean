/- Lemmas for the claims of this seat, without a condition: part 13 (EngZB, EngZBc). -/
import Derived.Test.YtddfphmpfnmknaaGreatDoorDA12
namespace Go.Eng
section
variable {P:Program}{N:Nat}{ds:List Deferred}{w0:World}{g0:Gh}{h0:Nat→HO}{st:St}{g:Gh}{a:Act}{w:World}
theorem Xy{cx:Cx}(hT:Cz P cx.T){b:Builtin}{args:Array Operand}{GZ:Array TypeId}{dst:Option Nat}{ty:Nat}{pos:String}{after:Array Edge}{gd:Option (Nat×Bool)}{K:HK}{next:Act→World→Prop}{Q:Exit→Act→World→Prop}
  (hS:SR N ds w0 g0 h0 st g a w) (hk:Ga cx dst st.h b GZ.toList (args.toList.map (ev st.t)) K)
  (hn:Y5 w0 g0 h0 st.h g w K fun x w'=>next (a.put dst x) w'):Oper.wp P ⟨dst,.call ⟨.builtin b,args,GZ⟩,ty,pos,after,gd⟩ a w next Q:=by
 have hI:=hS.inv;have hE:=hS.eval;obtain⟨l⟩:=args;obtain⟨tl⟩:=GZ;unfold Ga at hk;split at hk
 ·rename_i x t e1 e2
  match l,e1 with
  | [y],e1 =>
   simp only[AP,Fg,FI,and_true]at e1;subst e1;simp only at e2;subst e2;exact D1 (m:=Builtin.len_ #[t] ty #[a.eval y]) (by simp[execOp,resolve,invoke,builtin]) (BK.does hI (ie hT hI.objs (hE y) hk)) hn
 ·rename_i s x t t' e1 e2
  match l,e1 with
  | [y,z],e1 =>
   simp only[AP,Fg,FI,and_true]at e1;obtain⟨rfl,rfl⟩:=e1;simp only at e2;subst e2;split at hk
   ·rename_i ht;obtain rfl:=AM ht;exact D1 (m:=Builtin.append_ #[t,t] ty #[a.eval y,a.eval z]) (by simp[execOp,resolve,invoke,builtin]) (Ze hI hT (hE y) (hE z) hk) hn
   ·exact hk.elim
 ·rename_i x y GZ e1
  match l,e1 with
  | [y,z],e1 =>
   simp only[AP,Fg,FI,and_true]at e1;obtain⟨rfl,rfl⟩:=e1;exact D1 (m:=Builtin.max_ ⟨tl⟩ ty #[a.eval y,a.eval z]) (by simp[execOp,resolve,invoke,builtin]) (BK.does hI (lj (hE y) (hE z) hk)) hn
 ·rename_i x y GZ e1
  match l,e1 with
  | [y,z],e1 =>
   simp only[AP,Fg,FI,and_true]at e1;obtain⟨rfl,rfl⟩:=e1;exact D1 (m:=Builtin.min_ ⟨tl⟩ ty #[a.eval y,a.eval z]) (by simp[execOp,resolve,invoke,builtin]) (BK.does hI (ll (hE y) (hE z) hk)) hn
 ·exact hk.elim
theorem jV{cx:Cx}(hT:Cz P cx.T){dr:Bool}{o:Oper}{K:HK}{next:Act→World→Prop}{Q:Exit→Act→World→Prop}(hS:SR N ds w0 g0 h0 st g a w)(hk:F2 cx dr o st K)
  (hv:∀f args GZ,o.op≠.call ⟨.value f,args,GZ⟩) (hn:Y5 w0 g0 h0 st.h g w K fun x w'=>next (a.put o.dst x) w'):o.wp P a w next Q:=by
 have hI:=hS.inv;have hE:=hS.eval;obtain⟨dst,op,ty,pos,after,gd⟩:=o;unfold F2 at hk;cases op with
 |move x=>exact bI hI (x:=a.eval x) rfl hk (hE x) hn
 |assign x =>
  obtain⟨g',av,h',q1,q2,q3,q4⟩:=Zf hI (hE x) hk;exact hn _ _ _ _ _ q1 q2 q3 q4
 |pick c x y=>exact D1 (m:=do pure (if ←asBool (a.eval c)then a.eval x else a.eval y)) (by simp[execOp]) (BK.does hI (iN (hE c) (hE x) (hE y) hk)) hn
 |alloc e=>exact D1 rfl (bO hI hT hk) hn
 |box e x=>exact D1 rfl (j8 hI (hE x) hk) hn
 |build t ps=>exact D1 rfl (BK.does hI (bX hT hE hk)) hn
 |buildSlice t n ps=>exact D1 rfl (SG hI hT hE hk) hn
 |insert t m k x=>exact Xe rfl (Nu hI hT (hE m) (hE k) (hE x) hk) hn
 |load t x=>exact D1 rfl (BK.does hI (Vy hI.objs hT (hE x) hk)) hn
 |store t p x=>exact Xe rfl (dR hI hT (hE p) (hE x) hk) hn
 |nilCheck x =>
  obtain⟨h1,h2⟩:=WY (P:=P) (w:=w) (hE x) hk (pos:=pos) (after:=after) (gd:=gd) (dst:=dst) (ty:=ty) (ρ:=a.eval) rfl;exact bI hI h1 h2 (hE x) hn
 |binOp op t x y u=>exact D1 rfl (BK.does hI (eZ hT (hE x) (hE y) (fun v e=>by subst e;rfl) hk)) hn
 |unOp op t x=>exact D1 rfl (BK.does hI (ju (hE x) hk)) hn
 |convert s t x=>exact D1 rfl (BK.does hI (fD hT (hE x) hk)) hn
 |makeFunc fn first cap=>exact D1 rfl (BK.does hI (WW hI.objs hE hk)) hn
 |makeMap t r =>
  cases r with
  |some r=>exact hk.elim
  |none=>exact D1 rfl (Ys hI hk) hn
 |makeSlice t n c=>exact D1 rfl (UM hI hT (hE n) (hE c) hk) hn
 |slice t x lo hi mx =>
  cases dr with
  |true =>
   cases hp:NG cx.pl.tok dst with
   |none =>
    have Ki : GH cx dst st.h t (ev st.t x) (B5 st.t lo) (B5 st.t hi) (B5 st.t mx) K:=by
     have Ia:(match NG cx.pl.tok dst with
      |none=>GH cx dst st.h t (ev st.t x) (B5 st.t lo) (B5 st.t hi) (B5 st.t mx) K
      |some _=>Nx cx dst st.h t (ev st.t x) lo (B5 st.t hi) mx K):=hk
     rw[hp]at Ia;exact Ia
    exact D1 rfl (VQ hI hT hE (hE x) Ki) hn
   |some _ =>
    have Ki : Nx cx dst st.h t (ev st.t x) lo (B5 st.t hi) mx K:=by
     have Ia:(match NG cx.pl.tok dst with
      |none=>GH cx dst st.h t (ev st.t x) (B5 st.t lo) (B5 st.t hi) (B5 st.t mx) K
      |some _=>Nx cx dst st.h t (ev st.t x) lo (B5 st.t hi) mx K):=hk
     rw[hp]at Ia;exact Ia
    unfold Nx at Ki;split at Ki
    ·exact D1 rfl (bu hI hT hE (hE x) Ki) hn
    ·exact Ki.elim
  |false =>
   cases hp:NG cx.pl.tok dst with
   |none =>
    have Ki : GH cx dst st.h t (ev st.t x) (B5 st.t lo) (B5 st.t hi) (B5 st.t mx) K:=by
     have Ia:(match NG cx.pl.tok dst with
      |none=>GH cx dst st.h t (ev st.t x) (B5 st.t lo) (B5 st.t hi) (B5 st.t mx) K
      |some _=>bx cx dst st.h t (ev st.t x) st.t lo hi mx K):=hk
     rw[hp]at Ia;exact Ia
    exact D1 rfl (VQ hI hT hE (hE x) Ki) hn
   |some _ =>
    have Ki : bx cx dst st.h t (ev st.t x) st.t lo hi mx K:=by
     have Ia:(match NG cx.pl.tok dst with
      |none=>GH cx dst st.h t (ev st.t x) (B5 st.t lo) (B5 st.t hi) (B5 st.t mx) K
      |some _=>bx cx dst st.h t (ev st.t x) st.t lo hi mx K):=hk
     rw[hp]at Ia;exact Ia
    cases lo with
    |some lo=>exact D1 rfl (YS hI hT hE (hE x) Ki) hn
    |none =>
     have Vm:Nx cx dst st.h t (ev st.t x) none (B5 st.t hi) mx K:=Ki;unfold Nx at Vm;split at Vm
     ·exact D1 rfl (bu hI hT hE (hE x) Vm) hn
     ·exact Vm.elim
 |fieldAddr s x f=>exact D1 rfl (BK.does hI (cp hT (hE x) hk)) hn
 |field s x f=>exact D1 rfl (BK.does hI (Zu hT (hE x) hk)) hn
 |indexAddr t x i=>exact D1 rfl (BK.does hI (UJ hT (hE x) (hE i) hk)) hn
 |index t x i=>exact D1 rfl (BK.does hI (cM hT (hE x) (hE i) hk)) hn
 |lookup t x i ok =>
  have hk:MT cx.T st.h t (ev st.t x) (ev st.t i) ok fun v=>K v st.h:=by
   cases dr with
   |true=>exact cX hk
   |false=>exact hk
  exact D1 rfl (BK.does hI (ZR hT hI.objs (hE x) (hE i) hk)) hn
 |mapUpdate t m k x=>exact Xe rfl (Nu hI hT (hE m) (hE k) (hE x) hk) hn
 |range t x =>
  simp only at hk;split at hk
  ·rename_i kt e ht;exact D1 rfl (dG hI hT ht (hE x) hk) hn
  ·exact hk.elim
 |next it s =>
  cases s with
  |true=>exact hk.elim
  |false=>exact D1 rfl (iw hI (hE it) hk) hn
 |entry it=>exact D1 rfl (BK.does hI (cn hI.objs (hE it) hk)) hn
 |extract x i=>exact D1 rfl (BK.does hI (XQ (hE x) hk)) hn
 |call c =>
  obtain⟨nO,args,GZ⟩:=c;cases nO with
  |builtin b=>exact Xy hT hS hk hn
  |value f=>exact absurd rfl (hv f args GZ)
  |invoke r m=>exact hk.elim
 |_=>exact hk.elim
theorem eX{cx:Cx}(hP:cx.P=P)(hY:∀l σ h g w,Ev σ=true→DK w0 g0 h0 h g w→Le h0 g0 w0 h g w→cx.yp l σ (Dz σ g) w){ro:Option Nat}(hT:Cz P cx.T){dr:Bool}{o:Oper}{K:HK}{next:Act→World→Prop}{Q:Exit→Act→World→Prop}(hS:SR N ds w0 g0 h0 st g a w)(hk:F2 cx dr o st K)
  (hn:Y5 w0 g0 h0 st.h g w K fun x w'=>next (a.put o.dst x) w'):o.wpIn (JQ ro) 0 P a w next Q:=by
 by_cases hv:∃f args GZ,o.op=.call ⟨.value f,args,GZ⟩
 ·obtain⟨f,args,GZ,e⟩:=hv;obtain⟨dst,op,ty,pos,after,gd⟩:=o;cases e;exact fg hP hY hS hk hn
 ·refine MX (fun c e=>?_) (jV hT hS hk (fun f args GZ e=>hv ⟨f,args,GZ,e⟩) hn);obtain⟨dst,op,ty,pos,after,gd⟩:=o;cases e;exact hk.elim
theorem sD{p:Nat→Prop}(h:∃n,p n):∃n,p n∧∀m,m<n→¬p m:=by
 apply AN;intro hc
 have:∀n,¬p n:=fun n=>by
  induction n using Nat.strongRecOn with
  |_ n ih=>exact fun hp=>hc ⟨n,hp,ih⟩
 obtain⟨n,hn⟩:=h;exact this n hn
theorem RR{F:Fence}{m:Nat}{c:Code}{Q:Exit→Act→World→Prop}(I:Nat→Act→World→Prop)(k:Nat)(h0:I k a w)
  (round:∀n a w,I n a w→c.wpIn F m P (Exit.then (fun a' w'=>∃n',n' < n∧I n' a' w') Q) a w):(Code.loop c).wpIn F m P Q a w:=by
 classical
 have hex:∀a w,(∃n,I n a w)→∃n,I n a w∧∀n',n' < n→¬I n' a w:=fun a w h=>sD h;refine wpIn_loop (fun a w=>∃n,I n a w) (fun a w=>if h:∃n,I n a w then(hex a w h).choose else 0) ⟨k,h0⟩ fun a w h=>?_;have hs:=(hex a w h).choose_spec;refine wpIn_mono (round _ a w hs.1) fun e a' w' q=>?_;cases e with
 |normal =>
  obtain⟨n',DB,hn⟩:=q;have h' : ∃n,I n a' w':=⟨n',hn⟩;refine⟨h',?_⟩;simp only[dif_pos h,dif_pos h'];refine Nat.lt_of_le_of_lt ?_ DB;apply Nat.le_of_not_lt;intro hc;exact(hex a' w' h').choose_spec.2 n' hc hn
 |_=>exact q
end
section
variable {P:Program}{N:Nat}{ds:List Deferred}{w0:World}{g0:Gh}{h0:Nat→HO}{st:St}{g:Gh}{a:Act}{w:World}
theorem ca{T:GK}(hT:Cz P T){ty e k ty2 b o n c:Nat}(ht:(T ty).d=.slice e)(hk:(T e).size=k+1)(hz:(T e).zc.length=k+1)(RM:∀v∈(T e).zc,v.oneCell'=true){FN:Array Value}{E:TypeId}
  (hb:w.heap[b]?=some (.cells FN E (0,0))) (hn:0<n) (He:o+n*(k+1)≤FN.size) :
  (Builtin.clear_ #[ty] ty2 #[.slice (some ⟨b,o,none⟩) n c]).run P w=.ok (.tuple #[]) (w.setRow b (over FN.toList o (List.replicate n (T e).zc).flatten).toArray):=by
 obtain⟨z,z1,z2⟩:=Wc (w:=w) hT hk;have oO:(T e).zc≠[]:=fun e0=>by rw[e0]at hz;cases hz
 have oJ:(Builtin.zeroCells z.cells n).toList=(List.replicate n (T e).zc).flatten:=by
  rw[H1 n _ oO,hz,z2];have e6:z.cells.size=k+1:=by rw[←hz,z2];simp
  unfold Builtin.zeroCells;simp[e6,Array.getElem!_eq_getD]
 have CB:(List.replicate n (T e).zc).flatten.length=n*(k+1):=by
  rw[Dp (n:=k+1) (fun c hc=>by rw[Ce hc];exact hz),DO]
 have Jy:=run_storeCells_at P b o E (List.replicate n (T e).zc).flatten 0 FN w hb (by rw[CB];simpa using He) (fun v hv=>by
  obtain⟨l,hl,hv⟩:=EA.1 hv;rw[Ce hl]at hv;exact RM v hv)
 simp only[HA]at Jy;rw[M0 _ _ _ (by rw[CB];simpa using He)];obtain⟨m,rfl⟩:∃m,n=m+1:=⟨n-1,by omega⟩;simp only[Builtin.clear_,Sem.run_bind,Gg,A8,run_underlying (hT.slice ht),Result.andThen_ok,z1,oJ,Jy,Sem.run_pure]
theorem Zo{T:GK}(hT:Cz P T){ty e ty2 c:Nat}(ht:(T ty).d=.slice e)(x:Option Addr) :
  (Builtin.clear_ #[ty] ty2 #[.slice x 0 c]).run P w=.ok (.tuple #[]) w:=by
 cases x<;>simp only[Builtin.clear_,Sem.run_bind,Gg,A8,run_underlying (hT.slice ht),Result.andThen_ok,Sem.run_pure]
theorem iX{d:Nat}{x:Value}(hd:d<a.tmps.size):(a.put (some d) x).eval (.tmp d)=x:=by
 show(a.tmps.setIfInBounds d x).getD d undef=x;rw[Cs,Array.getElem?_setIfInBounds_self,Ap hd];rfl
theorem gL(h:Nat→HO)(r:Nat):A0 h r (h r)=h:=funext fun i=>by
 by_cases e:i=r
 ·subst e;exact Bd ..
 ·exact BZ _ _ _ _ e
theorem ZM{o o2:Oper}(h:TG o o2=true):∃ty x lo d ty2 pos after pt lM Wm,o=⟨some d,.slice ty x (some lo) none none,ty2,pos,after,none⟩∧o2=⟨none,.call ⟨.builtin .clear,#[.tmp d],#[ty]⟩,pt,lM,Wm,none⟩:=by
 obtain⟨dst,op,t2,p1,a1,gd⟩:=o;obtain⟨AaP,op2,t3,p2,a2,tY⟩:=o2;unfold TG at h;split at h
 ·rename_i c e1;split at h
  ·rename_i e2;split at h
   ·rename_i ty x lo e3;split at h
    ·rename_i d d' ty' e4 e5 e6 e7 e8 e9;obtain⟨nO,⟨args⟩,⟨GZ⟩⟩:=c;simp only at e1 e2 e3 e4 e5 e6 e7 e8 e9;simp only[Ah]at h;obtain rfl:=AM h.1;obtain rfl:=AM h.2;subst e1 e2 e3 e4 e5 e6 e7 e8 e9;exact⟨_,_,_,_,_,_,_,_,_,_,rfl,rfl⟩
    ·cases h
   ·cases h
  ·cases h
 ·cases h
theorem kh{cx:Cx}(hT:Cz P cx.T){ro:Option Nat}{o o2:Oper}(hd:∀i,o.dst=some i→i<N)(hc:TG o o2=true){K:St→Prop}(hS:SR N ds w0 g0 h0 st g a w)(hk:cd cx o st K){next:Act→World→Prop}{Q:Exit→Act→World→Prop}
  (hn:∀El g' a' w',K El→SR N ds w0 g0 h0 El g' a' w'→next a' w') :
  o.guard=none∧o2.guard=none∧o.wpIn (JQ ro) 0 P a w (fun a1 w1=>o2.wpIn (JQ ro) 0 P a1 w1 next Q) Q:=by
 obtain⟨ty,x,lo,d,ty2,pos,after,pt,lM,Wm,rfl,rfl⟩:=ZM hc;refine⟨rfl,rfl,?_⟩;have hI:=hS.inv;have hE:=hS.eval;have wN:d<a.tmps.size:=by rw[hS.size];exact hd d rfl
 -- what is to be shown of the two operations
 have two:∀(v:Value) (El : St) (g' : Gh) (w' : World),(Instr.sliceAt ty (a.eval x) (some (a.eval lo)) none none).run P w=.ok v w→(Builtin.clear_ #[ty] pt #[v]).run P w=.ok (.tuple #[]) w'→K ⟨Hh st.t d .junk,El.h⟩→DK w0 g0 h0 El.h g' w'→Le st.h g w El.h g' w' →
   Oper.wpIn (JQ ro) 0 P ⟨some d,.slice ty x (some lo) none none,ty2,pos,after,none⟩ a w (fun a1 w1=>Oper.wpIn (JQ ro) 0 P ⟨none,.call ⟨.builtin .clear,#[.tmp d],#[ty]⟩,pt,lM,Wm,none⟩ a1 w1 next Q) Q:=by
  intro v El g' w' r1 r2 hk hI' He;refine MX (by intro c e;cases e) ?_;unfold Oper.wp;have hx:execOp a.eval ⟨some d,.slice ty x (some lo) none none,ty2,pos,after,none⟩=(do pure (Next.value (←Instr.sliceAt ty (a.eval x) (some (a.eval lo)) none none))):=rfl;rw[hx,Sem.run_bind,r1];refine MX (by intro c e;cases e) ?_;unfold Oper.wp;have qc:execOp (a.put (some d) v).eval ⟨none,.call ⟨.builtin .clear,#[.tmp d],#[ty]⟩,pt,lM,Wm,none⟩=(do pure (Next.value (←Builtin.clear_ #[ty] pt #[v]))):=by
   simp[execOp,resolve,invoke,builtin,iX wN]
  rw[qc,Sem.run_bind,r2];have S1:SR N ds w0 g0 h0 (st.put (some d) .junk st.h) g (a.put (some d) v) w:=hS.put hd hI (.refl _ _ _) (.junk _ _);have S2:SR N ds w0 g0 h0 ((st.put (some d) .junk st.h).put none (.v (.tuple #[])) El.h) g' ((a.put (some d) v).put none (.tuple #[])) w':=S1.put (by intro i e;cases e) hI' He (.v _ _);exact hn _ g' _ w' hk S2
 unfold cd at hk;simp only at hk;split at hk
 ·rename_i e hs;split at hk
  ·rename_i r n ex;split at hk
   ·rename_i i ei;split at hk
    ·rename_i sz es er;split at hk
     ·rename_i hb;obtain rfl:=AM hb;split at hk
      ·exact hk.elim
      ·rename_i k Eh;split at hk
       ·rename_i M9;have M9:=AM M9;obtain⟨⟨rfl,i0,i1⟩,hk⟩:=hk;unfold qQ at hk;split at hk
        ·rename_i F6;have F6:∀v∈(cx.T e).zc,v.oneCell'=true:=AY.1 F6;have ho:=hI.objs r;rw[er]at ho;obtain⟨t1,l1,al,a2⟩:=ho;have eF:=hE x;rw[ex]at eF;have oy:=hE lo;rw[ei]at oy;have oy:=oy.v_eq;generalize hvx:a.eval x=vx at eF two;rw[oy]at two;cases eF with
         |msl _ _ _ ad cap hu ht' X9 ha LN =>
          have hv:=LN l1.symm;have O0:es.length≤cap:=by
           rcases a2 with ⟨b1,_,_⟩ | ⟨b,K8,E,vs,b1,_,b3,_⟩
           ·subst b1;exact AD _
           ·rw[b1]at hv;cases hv;exact b3
          have CP:=EZ (P:=P) (w:=w) hT hs Eh ad es.length cap (some i) none none (.inl rfl) (by simpa using i0) (by simpa using i1) (by simpa using O0) (by simp);simp only[Cv,D6,Bj,FL,Option.map_none]at CP
          by_cases hz:i.toNat=es.length
          ·-- nothing is cleared
           have e1:es.length-i.toNat=0:=by omega
           rw[e1]at CP hk;refine two _ st g w CP (Zo hT hs _) ?_ hI (.refl _ _ _);have e2:es.take i.toNat++List.replicate 0 ((cx.T e).zc.map AV.v)=es:=by rw[List.replicate_zero,BN,hz,DM]
           rw[e2,←er,gL]at hk;exact hk
          ·have DB:i.toNat<es.length:=by omega
           rcases a2 with ⟨b1,_⟩ | ⟨b,K8,E,vs,b1,b2,b3,b4,b5,b6,b7⟩
           ·subst b1;simp at DB
           ·rw[b1]at hv;cases hv;have DF:¬cap=i.toNat:=by omega
            rw[Aj DF]at CP;have wB:Option.map (fun x:Addr=>x.add (i.toNat*(cx.T e).size)) (some ⟨b,0,none⟩)=some ⟨b,i.toNat*(cx.T e).size,none⟩:=by simp[Addr.add];omega
            rw[wB]at CP;have Tw:es.length*(cx.T e).size≤cap*(cx.T e).size:=Bh _ b3;have RN:i.toNat*(cx.T e).size+(es.length-i.toNat)*(cx.T e).size=es.length*(cx.T e).size:=by rw[←Fq];congr 1;omega
            have hcl:=ca (w:=w) (ty2:=pt) (c:=cap-i.toNat) hT hs Eh (M9.trans Eh) F6 b4 (n:=es.length-i.toNat) (o:=i.toNat*(cx.T e).size) (by omega) (by rw[show k+1=(cx.T e).size from Eh.symm,RN,b5];exact Tw);have hl:(st.h r).live:=by rw[er];trivial
            generalize hZ:(List.replicate (es.length-i.toNat) (cx.T e).zc).flatten=Z at hcl;have uc:Z.length=(es.length-i.toNat)*(cx.T e).size:=by
             rw[←hZ,Dp (n:=(cx.T e).size) (fun c hc=>by rw[Ce hc];exact M9),DO]
            have LD:(es.take i.toNat++List.replicate (es.length-i.toNat) ((cx.T e).zc.map AV.v)).length=es.length:=by
             rw[Ae,AC,DO];omega
            have wC:∀c∈es.take i.toNat++List.replicate (es.length-i.toNat) ((cx.T e).zc.map AV.v),c.length=(cx.T e).size:=fun c hc=>by
             rcases A1.1 hc with h1 | h1
             ·exact al c (EB h1)
             ·rw[Ce h1,Bb];exact M9
            have xx:vs.toList.length=cap*(cx.T e).size:=by rw[B3];exact b5
            have hfl:(es.take i.toNat++List.replicate (es.length-i.toNat) ((cx.T e).zc.map AV.v)).flatten=over es.flatten (i.toNat*(cx.T e).size) (Z.map AV.v):=by
             rw[M0 _ _ _ (by rw[Bb,uc,RN,Dp al];exact Al _),CL,NO al,Bb,uc,RN,EP (by rw[Dp al];exact Al _),BN,←hZ,Sv,List.map_replicate]
            have qb:((over vs.toList (i.toNat*(cx.T e).size) Z).toArray.toList.take (es.length*(cx.T e).size))=over (vs.toList.take (es.length*(cx.T e).size)) (i.toNat*(cx.T e).size) Z :=
             VG _ _ _ _ (by rw[uc,RN];exact Al _) (by rw[xx];exact Tw)
            have hZr:CI g w Fy (Z.map AV.v) Z:=CI.vals (by
             have rp : ∀l:List AV,(∀a∈l,one a=true)→Hb l=true:=by
              intro l
              induction l with
              |nil=>intro _;rfl
              |cons a l ih=>intro h;simp[Hb,h a (List.mem_cons_self ..),ih (fun b hb=>h b (List.mem_cons_of_mem _ hb))]
             refine rp _ fun q hq=>?_;obtain⟨y,hy,rfl⟩:=Am.1 hq;rw[←hZ]at hy;obtain⟨l,hl,hy⟩:=EA.1 hy;rw[Ce hl]at hy;exact F6 y hy)
            have oD:CI g w Fy (over es.flatten (i.toNat*(cx.T e).size) (Z.map AV.v)) (over (vs.toList.take (es.length*(cx.T e).size)) (i.toNat*(cx.T e).size) Z) :=
             b6.over hZr _ (by rw[Bb,uc,RN,Dp al];exact Al _)
            obtain⟨k1,k2⟩:=hI.write hl b2 (.arr (cx.T e).size (es.take i.toNat++List.replicate (es.length-i.toNat) ((cx.T e).zc.map AV.v))) b4 (over vs.toList (i.toNat*(cx.T e).size) Z).toArray (g.ln r) (g.own r) g.S (by simp) rfl (fun b' e=>by rw[b2]at e;cases e;rfl) (fun _ _ h=>h)
             (fun b' o hs=>.inl hs) (fun o hs=>absurd hs (b7 o)) (fun hg If E6=>by
              obtain⟨u1,u2,u3,u4⟩:=BD g r (g.ρ r) (g.ln r) (g.tk r) (g.own r) g.S;refine⟨u3.trans t1,u2.trans (by rw[LD];exact l1),wC,.inr ⟨b,cap,E,_,?_,u4.trans b2,by rw[LD];exact b3,E6,?_,?_,b7⟩⟩
              ·rw[u1,b1,LD]
              ·simp only[FF,FV,B3];exact b5
              ·rw[LD,qb,hfl];exact oD.mono If (fun _ h=>h) (fun _ h=>h.elim))
            exact two _ ⟨st.t,_⟩ _ _ CP hcl hk k1 k2
        ·exact hk.elim
       ·exact hk.elim
     ·exact hk.elim
    ·exact hk.elim
   ·exact hk.elim
  ·exact hk.elim
 ·exact hk.elim
end
end Go.Eng
