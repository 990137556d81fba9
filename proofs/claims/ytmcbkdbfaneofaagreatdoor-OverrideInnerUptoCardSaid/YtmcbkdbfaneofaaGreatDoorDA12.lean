/- Lemmas for the claims of this seat, without a condition: part 12 (EngZB, EngZBc). -/
import Derived.Test.YtmcbkdbfaneofaaGreatDoorDA11
namespace Go.Eng
section
variable {P:Program}{N:Nat}{ds:List Deferred}{w0:World}{g0:Gh}{h0:Nat→HO}{st:St}{g:Gh}{a:Act}{w:World}
theorem WQ{cx:Cx}(hT:Cy P cx.T){b:Builtin}{args:Array Operand}{GJ:Array TypeId}{dst:Option Nat}{ty:Nat}{pos:String}{after:Array Edge}{gd:Option (Nat×Bool)}{K:HK}{next:Act→World→Prop}{Q:Exit→Act→World→Prop}
  (hS:SR N ds w0 g0 h0 st g a w) (hk:FR cx dst st.h b GJ.toList (args.toList.map (ev st.t)) K)
  (hn:Yk w0 g0 h0 st.h g w K fun x w'=>next (a.put dst x) w'):Oper.wp P ⟨dst,.call ⟨.builtin b,args,GJ⟩,ty,pos,after,gd⟩ a w next Q:=by
 have hI:=hS.inv;have hE:=hS.eval;obtain⟨l⟩:=args;obtain⟨tl⟩:=GJ;unfold FR at hk;split at hk
 ·rename_i x t e1 e2
  match l,e1 with
  | [y],e1 =>
   simp only[AP,E0,Fs,and_true]at e1;subst e1;simp only at e2;subst e2;exact DT (m:=Builtin.len_ #[t] ty #[a.eval y]) (by simp[execOp,resolve,invoke,builtin]) (BQ.does hI (fU hT hI.objs (hE y) hk)) hn
 ·rename_i s x t t' e1 e2
  match l,e1 with
  | [y,z],e1 =>
   simp only[AP,E0,Fs,and_true]at e1;obtain⟨rfl,rfl⟩:=e1;simp only at e2;subst e2;split at hk
   ·rename_i ht;obtain rfl:=AL ht;exact DT (m:=Builtin.append_ #[t,t] ty #[a.eval y,a.eval z]) (by simp[execOp,resolve,invoke,builtin]) (Yt hI hT (hE y) (hE z) hk) hn
   ·exact hk.elim
 ·rename_i x y GJ e1
  match l,e1 with
  | [y,z],e1 =>
   simp only[AP,E0,Fs,and_true]at e1;obtain⟨rfl,rfl⟩:=e1;exact DT (m:=Builtin.max_ ⟨tl⟩ ty #[a.eval y,a.eval z]) (by simp[execOp,resolve,invoke,builtin]) (BQ.does hI (kd (hE y) (hE z) hk)) hn
 ·rename_i x y GJ e1
  match l,e1 with
  | [y,z],e1 =>
   simp only[AP,E0,Fs,and_true]at e1;obtain⟨rfl,rfl⟩:=e1;exact DT (m:=Builtin.min_ ⟨tl⟩ ty #[a.eval y,a.eval z]) (by simp[execOp,resolve,invoke,builtin]) (BQ.does hI (kg (hE y) (hE z) hk)) hn
 ·exact hk.elim
theorem i7{cx:Cx}(hT:Cy P cx.T){dr:Bool}{o:Oper}{K:HK}{next:Act→World→Prop}{Q:Exit→Act→World→Prop}(hS:SR N ds w0 g0 h0 st g a w)(hk:FL cx dr o st K)
  (hv:∀f args GJ,o.op≠.call ⟨.value f,args,GJ⟩) (hn:Yk w0 g0 h0 st.h g w K fun x w'=>next (a.put o.dst x) w'):o.wp P a w next Q:=by
 have hI:=hS.inv;have hE:=hS.eval;obtain⟨dst,op,ty,pos,after,gd⟩:=o;unfold FL at hk;cases op with
 |move x=>exact aR hI (x:=a.eval x) rfl hk (hE x) hn
 |assign x =>
  obtain⟨g',av,h',q1,q2,q3,q4⟩:=Yv hI (hE x) hk;exact hn _ _ _ _ _ q1 q2 q3 q4
 |pick c x y=>exact DT (m:=do pure (if ←asBool (a.eval c)then a.eval x else a.eval y)) (by simp[execOp]) (BQ.does hI (gH (hE c) (hE x) (hE y) hk)) hn
 |alloc e=>exact DT rfl (aY hI hT hk) hn
 |box e x=>exact DT rfl (jh hI (hE x) hk) hn
 |build t ps=>exact DT rfl (BQ.does hI (bn hT hE hk)) hn
 |buildSlice t n ps=>exact DT rfl (RN hI hT hE hk) hn
 |insert t m k x=>exact Wu rfl (M3 hI hT (hE m) (hE k) (hE x) hk) hn
 |load t x=>exact DT rfl (BQ.does hI (UZ hI.objs hT (hE x) hk)) hn
 |store t p x=>exact Wu rfl (df hI hT (hE p) (hE x) hk) hn
 |nilCheck x =>
  obtain⟨h1,h2⟩:=Wd (P:=P) (w:=w) (hE x) hk (pos:=pos) (after:=after) (gd:=gd) (dst:=dst) (ty:=ty) (ρ:=a.eval) rfl;exact aR hI h1 h2 (hE x) hn
 |binOp op t x y u=>exact DT rfl (BQ.does hI (dN hT (hE x) (hE y) (fun v e=>by subst e;rfl) hk)) hn
 |unOp op t x=>exact DT rfl (BQ.does hI (iC (hE x) hk)) hn
 |convert s t x=>exact DT rfl (BQ.does hI (d5 hT (hE x) hk)) hn
 |makeFunc fn first cap=>exact DT rfl (BQ.does hI (Wa hI.objs hE hk)) hn
 |makeMap t r =>
  cases r with
  |some r=>exact hk.elim
  |none=>exact DT rfl (XJ hI hk) hn
 |makeSlice t n c=>exact DT rfl (Uc hI hT (hE n) (hE c) hk) hn
 |slice t x lo hi mx =>
  cases dr with
  |true =>
   cases hp:Ng cx.pl.tok dst with
   |none =>
    have JX : Gl cx dst st.h t (ev st.t x) (B6 st.t lo) (B6 st.t hi) (B6 st.t mx) K:=by
     have Ir:(match Ng cx.pl.tok dst with
      |none=>Gl cx dst st.h t (ev st.t x) (B6 st.t lo) (B6 st.t hi) (B6 st.t mx) K
      |some _=>M6 cx dst st.h t (ev st.t x) lo (B6 st.t hi) mx K):=hk
     rw[hp]at Ir;exact Ir
    exact DT rfl (Vf hI hT hE (hE x) JX) hn
   |some _ =>
    have JX : M6 cx dst st.h t (ev st.t x) lo (B6 st.t hi) mx K:=by
     have Ir:(match Ng cx.pl.tok dst with
      |none=>Gl cx dst st.h t (ev st.t x) (B6 st.t lo) (B6 st.t hi) (B6 st.t mx) K
      |some _=>M6 cx dst st.h t (ev st.t x) lo (B6 st.t hi) mx K):=hk
     rw[hp]at Ir;exact Ir
    unfold M6 at JX;split at JX
    ·exact DT rfl (aC hI hT hE (hE x) JX) hn
    ·exact JX.elim
  |false =>
   cases hp:Ng cx.pl.tok dst with
   |none =>
    have JX : Gl cx dst st.h t (ev st.t x) (B6 st.t lo) (B6 st.t hi) (B6 st.t mx) K:=by
     have Ir:(match Ng cx.pl.tok dst with
      |none=>Gl cx dst st.h t (ev st.t x) (B6 st.t lo) (B6 st.t hi) (B6 st.t mx) K
      |some _=>aF cx dst st.h t (ev st.t x) st.t lo hi mx K):=hk
     rw[hp]at Ir;exact Ir
    exact DT rfl (Vf hI hT hE (hE x) JX) hn
   |some _ =>
    have JX : aF cx dst st.h t (ev st.t x) st.t lo hi mx K:=by
     have Ir:(match Ng cx.pl.tok dst with
      |none=>Gl cx dst st.h t (ev st.t x) (B6 st.t lo) (B6 st.t hi) (B6 st.t mx) K
      |some _=>aF cx dst st.h t (ev st.t x) st.t lo hi mx K):=hk
     rw[hp]at Ir;exact Ir
    cases lo with
    |some lo=>exact DT rfl (Ya hI hT hE (hE x) JX) hn
    |none =>
     have UO:M6 cx dst st.h t (ev st.t x) none (B6 st.t hi) mx K:=JX;unfold M6 at UO;split at UO
     ·exact DT rfl (aC hI hT hE (hE x) UO) hn
     ·exact UO.elim
 |fieldAddr s x f=>exact DT rfl (BQ.does hI (bD hT (hE x) hk)) hn
 |field s x f=>exact DT rfl (BQ.does hI (YM hT (hE x) hk)) hn
 |indexAddr t x i=>exact DT rfl (BQ.does hI (Ua hT (hE x) (hE i) hk)) hn
 |index t x i=>exact DT rfl (BQ.does hI (bV hT (hE x) (hE i) hk)) hn
 |lookup t x i ok =>
  have hk:Mx cx.T st.h t (ev st.t x) (ev st.t i) ok fun v=>K v st.h:=by
   cases dr with
   |true=>exact ci hk
   |false=>exact hk
  exact DT rfl (BQ.does hI (Y8 hT hI.objs (hE x) (hE i) hk)) hn
 |mapUpdate t m k x=>exact Wu rfl (M3 hI hT (hE m) (hE k) (hE x) hk) hn
 |range t x =>
  simp only at hk;split at hk
  ·rename_i kt e ht;exact DT rfl (cV hI hT ht (hE x) hk) hn
  ·exact hk.elim
 |next it s =>
  cases s with
  |true=>exact hk.elim
  |false=>exact DT rfl (gu hI (hE it) hk) hn
 |entry it=>exact DT rfl (BQ.does hI (bB hI.objs (hE it) hk)) hn
 |extract x i=>exact DT rfl (BQ.does hI (Xa (hE x) hk)) hn
 |call c =>
  obtain⟨mG,args,GJ⟩:=c;cases mG with
  |builtin b=>exact WQ hT hS hk hn
  |value f=>exact absurd rfl (hv f args GJ)
  |invoke r m=>exact hk.elim
 |_=>exact hk.elim
theorem dI{cx:Cx}(hP:cx.P=P)(hY:∀l σ h g w,Ei σ=true→DJ w0 g0 h0 h g w→Le h0 g0 w0 h g w→cx.yp l σ (Dx σ g) w){ro:Option Nat}(hT:Cy P cx.T){dr:Bool}{o:Oper}{K:HK}{next:Act→World→Prop}{Q:Exit→Act→World→Prop}(hS:SR N ds w0 g0 h0 st g a w)(hk:FL cx dr o st K)
  (hn:Yk w0 g0 h0 st.h g w K fun x w'=>next (a.put o.dst x) w'):o.wpIn (Jw ro) 0 P a w next Q:=by
 by_cases hv:∃f args GJ,o.op=.call ⟨.value f,args,GJ⟩
 ·obtain⟨f,args,GJ,e⟩:=hv;obtain⟨dst,op,ty,pos,after,gd⟩:=o;cases e;exact dS hP hY hS hk hn
 ·refine MB (fun c e=>?_) (i7 hT hS hk (fun f args GJ e=>hv ⟨f,args,GJ,e⟩) hn);obtain⟨dst,op,ty,pos,after,gd⟩:=o;cases e;exact hk.elim
theorem lP{p:Nat→Prop}(h:∃n,p n):∃n,p n∧∀m,m<n→¬p m:=by
 apply Br;intro hc
 have:∀n,¬p n:=fun n=>by
  induction n using Nat.strongRecOn with
  |_ n ih=>exact fun hp=>hc ⟨n,hp,ih⟩
 obtain⟨n,hn⟩:=h;exact this n hn
theorem Re{F:Fence}{m:Nat}{c:Code}{Q:Exit→Act→World→Prop}(I:Nat→Act→World→Prop)(k:Nat)(h0:I k a w)
  (round:∀n a w,I n a w→c.wpIn F m P (Exit.then (fun a' w'=>∃n',n' < n∧I n' a' w') Q) a w):(Code.loop c).wpIn F m P Q a w:=by
 classical
 have hex:∀a w,(∃n,I n a w)→∃n,I n a w∧∀n',n' < n→¬I n' a w:=fun a w h=>lP h;refine wpIn_loop (fun a w=>∃n,I n a w) (fun a w=>if h:∃n,I n a w then(hex a w h).choose else 0) ⟨k,h0⟩ fun a w h=>?_;have hs:=(hex a w h).choose_spec;refine wpIn_mono (round _ a w hs.1) fun e a' w' q=>?_;cases e with
 |normal =>
  obtain⟨n',DI,hn⟩:=q;have h' : ∃n,I n a' w':=⟨n',hn⟩;refine⟨h',?_⟩;simp only[dif_pos h,dif_pos h'];refine Nat.lt_of_le_of_lt ?_ DI;apply Nat.le_of_not_lt;intro hc;exact(hex a' w' h').choose_spec.2 n' hc hn
 |_=>exact q
end
section
variable {P:Program}{N:Nat}{ds:List Deferred}{w0:World}{g0:Gh}{h0:Nat→HO}{st:St}{g:Gh}{a:Act}{w:World}
theorem br{T:Gq}(hT:Cy P T){ty e k ty2 b o n c:Nat}(ht:(T ty).d=.slice e)(hk:(T e).size=k+1)(hz:(T e).zc.length=k+1)(Q0:∀v∈(T e).zc,v.oneCell'=true){Fz:Array Value}{E:TypeId}
  (hb:w.heap[b]?=some (.cells Fz E (0,0))) (hn:0<n) (Hi:o+n*(k+1)≤Fz.size) :
  (Builtin.clear_ #[ty] ty2 #[.slice (some ⟨b,o,none⟩) n c]).run P w=.ok (.tuple #[]) (w.setRow b (over Fz.toList o (List.replicate n (T e).zc).flatten).toArray):=by
 obtain⟨z,z1,z2⟩:=Vq (w:=w) hT hk;have nu:(T e).zc≠[]:=fun e0=>by rw[e0]at hz;cases hz
 have nq:(Builtin.zeroCells z.cells n).toList=(List.replicate n (T e).zc).flatten:=by
  rw[HF n _ nu,hz,z2];have e6:z.cells.size=k+1:=by rw[←hz,z2];simp
  unfold Builtin.zeroCells;simp[e6,Array.getElem!_eq_getD]
 have CB:(List.replicate n (T e).zc).flatten.length=n*(k+1):=by
  rw[Df (n:=k+1) (fun c hc=>by rw[Cf hc];exact hz),Cq]
 have Jc:=run_storeCells_at P b o E (List.replicate n (T e).zc).flatten 0 Fz w hb (by rw[CB];simpa using Hi) (fun v hv=>by
  obtain⟨l,hl,hv⟩:=Ep.1 hv;rw[Cf hl]at hv;exact Q0 v hv)
 simp only[DB]at Jc;rw[MD _ _ _ (by rw[CB];simpa using Hi)];obtain⟨m,rfl⟩:∃m,n=m+1:=⟨n-1,by omega⟩;simp only[Builtin.clear_,Sem.run_bind,FX,A8,run_underlying (hT.slice ht),Result.andThen_ok,z1,nq,Jc,Sem.run_pure]
theorem YF{T:Gq}(hT:Cy P T){ty e ty2 c:Nat}(ht:(T ty).d=.slice e)(x:Option Addr) :
  (Builtin.clear_ #[ty] ty2 #[.slice x 0 c]).run P w=.ok (.tuple #[]) w:=by
 cases x<;>simp only[Builtin.clear_,Sem.run_bind,FX,A8,run_underlying (hT.slice ht),Result.andThen_ok,Sem.run_pure]
theorem gS{d:Nat}{x:Value}(hd:d<a.tmps.size):(a.put (some d) x).eval (.tmp d)=x:=by
 show(a.tmps.setIfInBounds d x).getD d undef=x;rw[Cu,Array.getElem?_setIfInBounds_self,Az hd];rfl
theorem fC(h:Nat→HO)(r:Nat):AW h r (h r)=h:=funext fun i=>by
 by_cases e:i=r
 ·subst e;exact Bd ..
 ·exact B1 _ _ _ _ e
theorem Y5{o o2:Oper}(h:SN o o2=true):∃ty x lo d ty2 pos after nY kJ Vz,o=⟨some d,.slice ty x (some lo) none none,ty2,pos,after,none⟩∧o2=⟨none,.call ⟨.builtin .clear,#[.tmp d],#[ty]⟩,nY,kJ,Vz,none⟩:=by
 obtain⟨dst,op,t2,p1,a1,gd⟩:=o;obtain⟨yK,op2,t3,p2,a2,rP⟩:=o2;unfold SN at h;split at h
 ·rename_i c e1;split at h
  ·rename_i e2;split at h
   ·rename_i ty x lo e3;split at h
    ·rename_i d d' yj e4 e5 e6 e7 e8 e9;obtain⟨mG,⟨args⟩,⟨GJ⟩⟩:=c;simp only at e1 e2 e3 e4 e5 e6 e7 e8 e9;simp only[Ag]at h;obtain rfl:=AL h.1;obtain rfl:=AL h.2;subst e1 e2 e3 e4 e5 e6 e7 e8 e9;exact⟨_,_,_,_,_,_,_,_,_,_,rfl,rfl⟩
    ·cases h
   ·cases h
  ·cases h
 ·cases h
theorem jq{cx:Cx}(hT:Cy P cx.T){ro:Option Nat}{o o2:Oper}(hd:∀i,o.dst=some i→i<N)(hc:SN o o2=true){K:St→Prop}(hS:SR N ds w0 g0 h0 st g a w)(hk:bu cx o st K){next:Act→World→Prop}{Q:Exit→Act→World→Prop}
  (hn:∀D4 g' a' w',K D4→SR N ds w0 g0 h0 D4 g' a' w'→next a' w') :
  o.guard=none∧o2.guard=none∧o.wpIn (Jw ro) 0 P a w (fun a1 w1=>o2.wpIn (Jw ro) 0 P a1 w1 next Q) Q:=by
 obtain⟨ty,x,lo,d,ty2,pos,after,nY,kJ,Vz,rfl,rfl⟩:=Y5 hc;refine⟨rfl,rfl,?_⟩;have hI:=hS.inv;have hE:=hS.eval;have ue:d<a.tmps.size:=by rw[hS.size];exact hd d rfl
 -- what is to be shown of the two operations
 have two:∀(v:Value) (D4 : St) (g' : Gh) (w' : World),(Instr.sliceAt ty (a.eval x) (some (a.eval lo)) none none).run P w=.ok v w→(Builtin.clear_ #[ty] nY #[v]).run P w=.ok (.tuple #[]) w'→K ⟨G2 st.t d .junk,D4.h⟩→DJ w0 g0 h0 D4.h g' w'→Le st.h g w D4.h g' w' →
   Oper.wpIn (Jw ro) 0 P ⟨some d,.slice ty x (some lo) none none,ty2,pos,after,none⟩ a w (fun a1 w1=>Oper.wpIn (Jw ro) 0 P ⟨none,.call ⟨.builtin .clear,#[.tmp d],#[ty]⟩,nY,kJ,Vz,none⟩ a1 w1 next Q) Q:=by
  intro v D4 g' w' r1 r2 hk yU Hi;refine MB (by intro c e;cases e) ?_;unfold Oper.wp;have hx:execOp a.eval ⟨some d,.slice ty x (some lo) none none,ty2,pos,after,none⟩=(do pure (Next.value (←Instr.sliceAt ty (a.eval x) (some (a.eval lo)) none none))):=rfl;rw[hx,Sem.run_bind,r1];refine MB (by intro c e;cases e) ?_;unfold Oper.wp;have oK:execOp (a.put (some d) v).eval ⟨none,.call ⟨.builtin .clear,#[.tmp d],#[ty]⟩,nY,kJ,Vz,none⟩=(do pure (Next.value (←Builtin.clear_ #[ty] nY #[v]))):=by
   simp[execOp,resolve,invoke,builtin,gS ue]
  rw[oK,Sem.run_bind,r2];have S1:SR N ds w0 g0 h0 (st.put (some d) .junk st.h) g (a.put (some d) v) w:=hS.put hd hI (.refl _ _ _) (.junk _ _);have S2:SR N ds w0 g0 h0 ((st.put (some d) .junk st.h).put none (.v (.tuple #[])) D4.h) g' ((a.put (some d) v).put none (.tuple #[])) w':=S1.put (by intro i e;cases e) yU Hi (.v _ _);exact hn _ g' _ w' hk S2
 unfold bu at hk;simp only at hk;split at hk
 ·rename_i e hs;split at hk
  ·rename_i r n ex;split at hk
   ·rename_i i ei;split at hk
    ·rename_i sz es er;split at hk
     ·rename_i hb;obtain rfl:=AL hb;split at hk
      ·exact hk.elim
      ·rename_i k EH;split at hk
       ·rename_i MM;have MM:=AL MM;obtain⟨⟨rfl,i0,i1⟩,hk⟩:=hk;unfold pz at hk;split at hk
        ·rename_i FS;have FS:∀v∈(cx.T e).zc,v.oneCell'=true:=Bq.1 FS;have ho:=hI.objs r;rw[er]at ho;obtain⟨t1,l1,al,a2⟩:=ho;have dw:=hE x;rw[ex]at dw;have r6:=hE lo;rw[ei]at r6;have r6:=r6.v_eq;generalize hvx:a.eval x=vx at dw two;rw[r6]at two;cases dw with
         |msl _ _ _ ad cap hu ht' Xt ha Lv =>
          have hv:=Lv l1.symm;have Ox:es.length≤cap:=by
           rcases a2 with ⟨b1,_,_⟩ | ⟨b,Lu,E,vs,b1,_,b3,_⟩
           ·subst b1;exact AM _
           ·rw[b1]at hv;cases hv;exact b3
          have CN:=EJ (P:=P) (w:=w) hT hs EH ad es.length cap (some i) none none (.inl rfl) (by simpa using i0) (by simpa using i1) (by simpa using Ox) (by simp);simp only[Cw,DW,Ch,Fx,Option.map_none]at CN
          by_cases hz:i.toNat=es.length
          ·-- nothing is cleared
           have e1:es.length-i.toNat=0:=by omega
           rw[e1]at CN hk;refine two _ st g w CN (YF hT hs _) ?_ hI (.refl _ _ _);have e2:es.take i.toNat++List.replicate 0 ((cx.T e).zc.map AV.v)=es:=by rw[List.replicate_zero,B3,hz,Dv]
           rw[e2,←er,fC]at hk;exact hk
          ·have DI:i.toNat<es.length:=by omega
           rcases a2 with ⟨b1,_⟩ | ⟨b,Lu,E,vs,b1,b2,b3,b4,b5,b6,b7⟩
           ·subst b1;simp at DI
           ·rw[b1]at hv;cases hv;have DD:¬cap=i.toNat:=by omega
            rw[Al DD]at CN;have tV:Option.map (fun x:Addr=>x.add (i.toNat*(cx.T e).size)) (some ⟨b,0,none⟩)=some ⟨b,i.toNat*(cx.T e).size,none⟩:=by simp[Addr.add];omega
            rw[tV]at CN;have SC:es.length*(cx.T e).size≤cap*(cx.T e).size:=Bj _ b3;have Oy:i.toNat*(cx.T e).size+(es.length-i.toNat)*(cx.T e).size=es.length*(cx.T e).size:=by rw[←E8];congr 1;omega
            have hcl:=br (w:=w) (ty2:=nY) (c:=cap-i.toNat) hT hs EH (MM.trans EH) FS b4 (n:=es.length-i.toNat) (o:=i.toNat*(cx.T e).size) (by omega) (by rw[show k+1=(cx.T e).size from EH.symm,Oy,b5];exact SC);have hl:(st.h r).live:=by rw[er];trivial
            generalize hZ:(List.replicate (es.length-i.toNat) (cx.T e).zc).flatten=Z at hcl;have rV:Z.length=(es.length-i.toNat)*(cx.T e).size:=by
             rw[←hZ,Df (n:=(cx.T e).size) (fun c hc=>by rw[Cf hc];exact MM),Cq]
            have Ll:(es.take i.toNat++List.replicate (es.length-i.toNat) ((cx.T e).zc.map AV.v)).length=es.length:=by
             rw[Ad,AJ,Cq];omega
            have tW:∀c∈es.take i.toNat++List.replicate (es.length-i.toNat) ((cx.T e).zc.map AV.v),c.length=(cx.T e).size:=fun c hc=>by
             rcases A3.1 hc with h1 | h1
             ·exact al c (Er h1)
             ·rw[Cf h1,Bb];exact MM
            have uT:vs.toList.length=cap*(cx.T e).size:=by rw[B5];exact b5
            have hfl:(es.take i.toNat++List.replicate (es.length-i.toNat) ((cx.T e).zc.map AV.v)).flatten=over es.flatten (i.toNat*(cx.T e).size) (Z.map AV.v):=by
             rw[MD _ _ _ (by rw[Bb,rV,Oy,Df al];exact Ak _),CI,No al,Bb,rV,Oy,Hf (by rw[Df al];exact Ak _),B3,←hZ,RB,List.map_replicate]
            have uO:((over vs.toList (i.toNat*(cx.T e).size) Z).toArray.toList.take (es.length*(cx.T e).size))=over (vs.toList.take (es.length*(cx.T e).size)) (i.toNat*(cx.T e).size) Z :=
             U9 _ _ _ _ (by rw[rV,Oy];exact Ak _) (by rw[uT];exact SC)
            have zf:CF g w Fp (Z.map AV.v) Z:=CF.vals (by
             have pV : ∀l:List AV,(∀a∈l,one a=true)→GW l=true:=by
              intro l
              induction l with
              |nil=>intro _;rfl
              |cons a l ih=>intro h;simp[GW,h a (List.mem_cons_self ..),ih (fun b hb=>h b (List.mem_cons_of_mem _ hb))]
             refine pV _ fun q hq=>?_;obtain⟨y,hy,rfl⟩:=Am.1 hq;rw[←hZ]at hy;obtain⟨l,hl,hy⟩:=Ep.1 hy;rw[Cf hl]at hy;exact FS y hy)
            have nf:CF g w Fp (over es.flatten (i.toNat*(cx.T e).size) (Z.map AV.v)) (over (vs.toList.take (es.length*(cx.T e).size)) (i.toNat*(cx.T e).size) Z) :=
             b6.over zf _ (by rw[Bb,rV,Oy,Df al];exact Ak _)
            obtain⟨k1,k2⟩:=hI.write hl b2 (.arr (cx.T e).size (es.take i.toNat++List.replicate (es.length-i.toNat) ((cx.T e).zc.map AV.v))) b4 (over vs.toList (i.toNat*(cx.T e).size) Z).toArray (g.ln r) (g.own r) g.S (by simp) rfl (fun b' e=>by rw[b2]at e;cases e;rfl) (fun _ _ h=>h)
             (fun b' o hs=>.inl hs) (fun o hs=>absurd hs (b7 o)) (fun hg HQ EO=>by
              obtain⟨u1,u2,u3,u4⟩:=BA g r (g.ρ r) (g.ln r) (g.tk r) (g.own r) g.S;refine⟨u3.trans t1,u2.trans (by rw[Ll];exact l1),tW,.inr ⟨b,cap,E,_,?_,u4.trans b2,by rw[Ll];exact b3,EO,?_,?_,b7⟩⟩
              ·rw[u1,b1,Ll]
              ·simp only[Fm,FG,B5];exact b5
              ·rw[Ll,uO,hfl];exact nf.mono HQ (fun _ h=>h) (fun _ h=>h.elim))
            exact two _ ⟨st.t,_⟩ _ _ CN hcl hk k1 k2
        ·exact hk.elim
       ·exact hk.elim
     ·exact hk.elim
    ·exact hk.elim
   ·exact hk.elim
  ·exact hk.elim
 ·exact hk.elim
end
end Go.Eng
