/- Lemmas for the claims of this seat, without a condition: part 12 (EngZB, EngZBc). -/
import Derived.Test.YtmcbkdbfaneofaaGreatDoorCA11
namespace Go.Eng
section
variable {P:Program}{N:Nat}{ds:List Deferred}{w0:World}{g0:Gh}{h0:Nat→HO}{st:St}{g:Gh}{a:Act}{w:World}
theorem WQ{cx:Cx}(hT:Cw P cx.T){b:Builtin}{args:Array Operand}{GC:Array TypeId}{dst:Option Nat}{ty:Nat}{pos:String}{after:Array Edge}{gd:Option (Nat×Bool)}{K:HK}{next:Act→World→Prop}{Q:Exit→Act→World→Prop}
  (hS:SR N ds w0 g0 h0 st g a w) (hk:FL cx dst st.h b GC.toList (args.toList.map (ev st.t)) K)
  (hn:Yk w0 g0 h0 st.h g w K fun x w'=>next (a.put dst x) w'):Oper.wp P ⟨dst,.call ⟨.builtin b,args,GC⟩,ty,pos,after,gd⟩ a w next Q:=by
 have hI:=hS.inv;have hE:=hS.eval;obtain⟨l⟩:=args;obtain⟨tl⟩:=GC;unfold FL at hk;split at hk
 ·rename_i x t e1 e2
  match l,e1 with
  | [y],e1 =>
   simp only[AP,EW,Fk,and_true]at e1;subst e1;simp only at e2;subst e2;exact DS (m:=Builtin.len_ #[t] ty #[a.eval y]) (by simp[execOp,resolve,invoke,builtin]) (BO.does hI (fQ hT hI.objs (hE y) hk)) hn
 ·rename_i s x t t' e1 e2
  match l,e1 with
  | [y,z],e1 =>
   simp only[AP,EW,Fk,and_true]at e1;obtain⟨rfl,rfl⟩:=e1;simp only at e2;subst e2;split at hk
   ·rename_i ht;obtain rfl:=AL ht;exact DS (m:=Builtin.append_ #[t,t] ty #[a.eval y,a.eval z]) (by simp[execOp,resolve,invoke,builtin]) (Yt hI hT (hE y) (hE z) hk) hn
   ·exact hk.elim
 ·rename_i x y GC e1
  match l,e1 with
  | [y,z],e1 =>
   simp only[AP,EW,Fk,and_true]at e1;obtain⟨rfl,rfl⟩:=e1;exact DS (m:=Builtin.max_ ⟨tl⟩ ty #[a.eval y,a.eval z]) (by simp[execOp,resolve,invoke,builtin]) (BO.does hI (jU (hE y) (hE z) hk)) hn
 ·rename_i x y GC e1
  match l,e1 with
  | [y,z],e1 =>
   simp only[AP,EW,Fk,and_true]at e1;obtain⟨rfl,rfl⟩:=e1;exact DS (m:=Builtin.min_ ⟨tl⟩ ty #[a.eval y,a.eval z]) (by simp[execOp,resolve,invoke,builtin]) (BO.does hI (jW (hE y) (hE z) hk)) hn
 ·exact hk.elim
theorem iP{cx:Cx}(hT:Cw P cx.T){dr:Bool}{o:Oper}{K:HK}{next:Act→World→Prop}{Q:Exit→Act→World→Prop}(hS:SR N ds w0 g0 h0 st g a w)(hk:FE cx dr o st K)
  (hv:∀f args GC,o.op≠.call ⟨.value f,args,GC⟩) (hn:Yk w0 g0 h0 st.h g w K fun x w'=>next (a.put o.dst x) w'):o.wp P a w next Q:=by
 have hI:=hS.inv;have hE:=hS.eval;obtain⟨dst,op,ty,pos,after,gd⟩:=o;unfold FE at hk;cases op with
 |move x=>exact aR hI (x:=a.eval x) rfl hk (hE x) hn
 |assign x =>
  obtain⟨g',av,h',q1,q2,q3,q4⟩:=Yv hI (hE x) hk;exact hn _ _ _ _ _ q1 q2 q3 q4
 |pick c x y=>exact DS (m:=do pure (if ←asBool (a.eval c)then a.eval x else a.eval y)) (by simp[execOp]) (BO.does hI (gA (hE c) (hE x) (hE y) hk)) hn
 |alloc e=>exact DS rfl (aZ hI hT hk) hn
 |box e x=>exact DS rfl (iX hI (hE x) hk) hn
 |build t ps=>exact DS rfl (BO.does hI (bo hT hE hk)) hn
 |buildSlice t n ps=>exact DS rfl (RP hI hT hE hk) hn
 |insert t m k x=>exact Ww rfl (M4 hI hT (hE m) (hE k) (hE x) hk) hn
 |load t x=>exact DS rfl (BO.does hI (U3 hI.objs hT (hE x) hk)) hn
 |store t p x=>exact Ww rfl (da hI hT (hE p) (hE x) hk) hn
 |nilCheck x =>
  obtain⟨h1,h2⟩:=Wf (P:=P) (w:=w) (hE x) hk (pos:=pos) (after:=after) (gd:=gd) (dst:=dst) (ty:=ty) (ρ:=a.eval) rfl;exact aR hI h1 h2 (hE x) hn
 |binOp op t x y u=>exact DS rfl (BO.does hI (dL hT (hE x) (hE y) (fun v e=>by subst e;rfl) hk)) hn
 |unOp op t x=>exact DS rfl (BO.does hI (ir (hE x) hk)) hn
 |convert s t x=>exact DS rfl (BO.does hI (dZ hT (hE x) hk)) hn
 |makeFunc fn first cap=>exact DS rfl (BO.does hI (Wc hI.objs hE hk)) hn
 |makeMap t r =>
  cases r with
  |some r=>exact hk.elim
  |none=>exact DS rfl (XI hI hk) hn
 |makeSlice t n c=>exact DS rfl (Uc hI hT (hE n) (hE c) hk) hn
 |slice t x lo hi mx =>
  cases dr with
  |true =>
   cases hp:Nh cx.pl.tok dst with
   |none =>
    have JR : Gd cx dst st.h t (ev st.t x) (B5 st.t lo) (B5 st.t hi) (B5 st.t mx) K:=by
     have Im:(match Nh cx.pl.tok dst with
      |none=>Gd cx dst st.h t (ev st.t x) (B5 st.t lo) (B5 st.t hi) (B5 st.t mx) K
      |some _=>M7 cx dst st.h t (ev st.t x) lo (B5 st.t hi) mx K):=hk
     rw[hp]at Im;exact Im
    exact DS rfl (Vi hI hT hE (hE x) JR) hn
   |some _ =>
    have JR : M7 cx dst st.h t (ev st.t x) lo (B5 st.t hi) mx K:=by
     have Im:(match Nh cx.pl.tok dst with
      |none=>Gd cx dst st.h t (ev st.t x) (B5 st.t lo) (B5 st.t hi) (B5 st.t mx) K
      |some _=>M7 cx dst st.h t (ev st.t x) lo (B5 st.t hi) mx K):=hk
     rw[hp]at Im;exact Im
    unfold M7 at JR;split at JR
    ·exact DS rfl (aC hI hT hE (hE x) JR) hn
    ·exact JR.elim
  |false =>
   cases hp:Nh cx.pl.tok dst with
   |none =>
    have JR : Gd cx dst st.h t (ev st.t x) (B5 st.t lo) (B5 st.t hi) (B5 st.t mx) K:=by
     have Im:(match Nh cx.pl.tok dst with
      |none=>Gd cx dst st.h t (ev st.t x) (B5 st.t lo) (B5 st.t hi) (B5 st.t mx) K
      |some _=>aF cx dst st.h t (ev st.t x) st.t lo hi mx K):=hk
     rw[hp]at Im;exact Im
    exact DS rfl (Vi hI hT hE (hE x) JR) hn
   |some _ =>
    have JR : aF cx dst st.h t (ev st.t x) st.t lo hi mx K:=by
     have Im:(match Nh cx.pl.tok dst with
      |none=>Gd cx dst st.h t (ev st.t x) (B5 st.t lo) (B5 st.t hi) (B5 st.t mx) K
      |some _=>aF cx dst st.h t (ev st.t x) st.t lo hi mx K):=hk
     rw[hp]at Im;exact Im
    cases lo with
    |some lo=>exact DS rfl (Ya hI hT hE (hE x) JR) hn
    |none =>
     have UP:M7 cx dst st.h t (ev st.t x) none (B5 st.t hi) mx K:=JR;unfold M7 at UP;split at UP
     ·exact DS rfl (aC hI hT hE (hE x) UP) hn
     ·exact UP.elim
 |fieldAddr s x f=>exact DS rfl (BO.does hI (bD hT (hE x) hk)) hn
 |field s x f=>exact DS rfl (BO.does hI (YM hT (hE x) hk)) hn
 |indexAddr t x i=>exact DS rfl (BO.does hI (Ua hT (hE x) (hE i) hk)) hn
 |index t x i=>exact DS rfl (BO.does hI (bV hT (hE x) (hE i) hk)) hn
 |lookup t x i ok =>
  have hk:My cx.T st.h t (ev st.t x) (ev st.t i) ok fun v=>K v st.h:=by
   cases dr with
   |true=>exact cf hk
   |false=>exact hk
  exact DS rfl (BO.does hI (Y7 hT hI.objs (hE x) (hE i) hk)) hn
 |mapUpdate t m k x=>exact Ww rfl (M4 hI hT (hE m) (hE k) (hE x) hk) hn
 |range t x =>
  simp only at hk;split at hk
  ·rename_i kt e ht;exact DS rfl (cR hI hT ht (hE x) hk) hn
  ·exact hk.elim
 |next it s =>
  cases s with
  |true=>exact hk.elim
  |false=>exact DS rfl (ge hI (hE it) hk) hn
 |entry it=>exact DS rfl (BO.does hI (bB hI.objs (hE it) hk)) hn
 |extract x i=>exact DS rfl (BO.does hI (Xb (hE x) hk)) hn
 |call c =>
  obtain⟨mo,args,GC⟩:=c;cases mo with
  |builtin b=>exact WQ hT hS hk hn
  |value f=>exact absurd rfl (hv f args GC)
  |invoke r m=>exact hk.elim
 |_=>exact hk.elim
theorem dG{cx:Cx}(hP:cx.P=P)(hY:∀l σ h g w,Ef σ=true→DG w0 g0 h0 h g w→Le h0 g0 w0 h g w→cx.yp l σ (Dv σ g) w){ro:Option Nat}(hT:Cw P cx.T){dr:Bool}{o:Oper}{K:HK}{next:Act→World→Prop}{Q:Exit→Act→World→Prop}(hS:SR N ds w0 g0 h0 st g a w)(hk:FE cx dr o st K)
  (hn:Yk w0 g0 h0 st.h g w K fun x w'=>next (a.put o.dst x) w'):o.wpIn (Ju ro) 0 P a w next Q:=by
 by_cases hv:∃f args GC,o.op=.call ⟨.value f,args,GC⟩
 ·obtain⟨f,args,GC,e⟩:=hv;obtain⟨dst,op,ty,pos,after,gd⟩:=o;cases e;exact dQ hP hY hS hk hn
 ·refine MC (fun c e=>?_) (iP hT hS hk (fun f args GC e=>hv ⟨f,args,GC,e⟩) hn);obtain⟨dst,op,ty,pos,after,gd⟩:=o;cases e;exact hk.elim
theorem lB{p:Nat→Prop}(h:∃n,p n):∃n,p n∧∀m,m<n→¬p m:=by
 apply Bq;intro hc
 have:∀n,¬p n:=fun n=>by
  induction n using Nat.strongRecOn with
  |_ n ih=>exact fun hp=>hc ⟨n,hp,ih⟩
 obtain⟨n,hn⟩:=h;exact this n hn
theorem Rg{F:Fence}{m:Nat}{c:Code}{Q:Exit→Act→World→Prop}(I:Nat→Act→World→Prop)(k:Nat)(h0:I k a w)
  (round:∀n a w,I n a w→c.wpIn F m P (Exit.then (fun a' w'=>∃n',n' < n∧I n' a' w') Q) a w):(Code.loop c).wpIn F m P Q a w:=by
 classical
 have hex:∀a w,(∃n,I n a w)→∃n,I n a w∧∀n',n' < n→¬I n' a w:=fun a w h=>lB h;refine wpIn_loop (fun a w=>∃n,I n a w) (fun a w=>if h:∃n,I n a w then(hex a w h).choose else 0) ⟨k,h0⟩ fun a w h=>?_;have hs:=(hex a w h).choose_spec;refine wpIn_mono (round _ a w hs.1) fun e a' w' q=>?_;cases e with
 |normal =>
  obtain⟨n',DF,hn⟩:=q;have h' : ∃n,I n a' w':=⟨n',hn⟩;refine⟨h',?_⟩;simp only[dif_pos h,dif_pos h'];refine Nat.lt_of_le_of_lt ?_ DF;apply Nat.le_of_not_lt;intro hc;exact(hex a' w' h').choose_spec.2 n' hc hn
 |_=>exact q
end
section
variable {P:Program}{N:Nat}{ds:List Deferred}{w0:World}{g0:Gh}{h0:Nat→HO}{st:St}{g:Gh}{a:Act}{w:World}
theorem br{T:Gj}(hT:Cw P T){ty e k ty2 b o n c:Nat}(ht:(T ty).d=.slice e)(hk:(T e).size=k+1)(hz:(T e).zc.length=k+1)(Rb:∀v∈(T e).zc,v.oneCell'=true){Fs:Array Value}{E:TypeId}
  (hb:w.heap[b]?=some (.cells Fs E (0,0))) (hn:0<n) (Hc:o+n*(k+1)≤Fs.size) :
  (Builtin.clear_ #[ty] ty2 #[.slice (some ⟨b,o,none⟩) n c]).run P w=.ok (.tuple #[]) (w.setRow b (over Fs.toList o (List.replicate n (T e).zc).flatten).toArray):=by
 obtain⟨z,z1,z2⟩:=Vu (w:=w) hT hk;have m6:(T e).zc≠[]:=fun e0=>by rw[e0]at hz;cases hz
 have mZ:(Builtin.zeroCells z.cells n).toList=(List.replicate n (T e).zc).flatten:=by
  rw[Hz n _ m6,hz,z2];have e6:z.cells.size=k+1:=by rw[←hz,z2];simp
  unfold Builtin.zeroCells;simp[e6,Array.getElem!_eq_getD]
 have CE:(List.replicate n (T e).zc).flatten.length=n*(k+1):=by
  rw[Df (n:=k+1) (fun c hc=>by rw[Ce hc];exact hz),Cq]
 have I9:=run_storeCells_at P b o E (List.replicate n (T e).zc).flatten 0 Fs w hb (by rw[CE];simpa using Hc) (fun v hv=>by
  obtain⟨l,hl,hv⟩:=El.1 hv;rw[Ce hl]at hv;exact Rb v hv)
 simp only[Dx]at I9;rw[ME _ _ _ (by rw[CE];simpa using Hc)];obtain⟨m,rfl⟩:∃m,n=m+1:=⟨n-1,by omega⟩;simp only[Builtin.clear_,Sem.run_bind,FP,A7,run_underlying (hT.slice ht),Result.andThen_ok,z1,mZ,I9,Sem.run_pure]
theorem YF{T:Gj}(hT:Cw P T){ty e ty2 c:Nat}(ht:(T ty).d=.slice e)(x:Option Addr) :
  (Builtin.clear_ #[ty] ty2 #[.slice x 0 c]).run P w=.ok (.tuple #[]) w:=by
 cases x<;>simp only[Builtin.clear_,Sem.run_bind,FP,A7,run_underlying (hT.slice ht),Result.andThen_ok,Sem.run_pure]
theorem gM{d:Nat}{x:Value}(hd:d<a.tmps.size):(a.put (some d) x).eval (.tmp d)=x:=by
 show(a.tmps.setIfInBounds d x).getD d undef=x;rw[Cu,Array.getElem?_setIfInBounds_self,Aw hd];rfl
theorem fy(h:Nat→HO)(r:Nat):AU h r (h r)=h:=funext fun i=>by
 by_cases e:i=r
 ·subst e;exact Bc ..
 ·exact BX _ _ _ _ e
theorem Y4{o o2:Oper}(h:SO o o2=true):∃ty x lo d ty2 pos after nK kp VD,o=⟨some d,.slice ty x (some lo) none none,ty2,pos,after,none⟩∧o2=⟨none,.call ⟨.builtin .clear,#[.tmp d],#[ty]⟩,nK,kp,VD,none⟩:=by
 obtain⟨dst,op,t2,p1,a1,gd⟩:=o;obtain⟨yt,op2,t3,p2,a2,ry⟩:=o2;unfold SO at h;split at h
 ·rename_i c e1;split at h
  ·rename_i e2;split at h
   ·rename_i ty x lo e3;split at h
    ·rename_i d d' xX e4 e5 e6 e7 e8 e9;obtain⟨mo,⟨args⟩,⟨GC⟩⟩:=c;simp only at e1 e2 e3 e4 e5 e6 e7 e8 e9;simp only[Ag]at h;obtain rfl:=AL h.1;obtain rfl:=AL h.2;subst e1 e2 e3 e4 e5 e6 e7 e8 e9;exact⟨_,_,_,_,_,_,_,_,_,_,rfl,rfl⟩
    ·cases h
   ·cases h
  ·cases h
 ·cases h
theorem jg{cx:Cx}(hT:Cw P cx.T){ro:Option Nat}{o o2:Oper}(hd:∀i,o.dst=some i→i<N)(hc:SO o o2=true){K:St→Prop}(hS:SR N ds w0 g0 h0 st g a w)(hk:bu cx o st K){next:Act→World→Prop}{Q:Exit→Act→World→Prop}
  (hn:∀D2 g' a' w',K D2→SR N ds w0 g0 h0 D2 g' a' w'→next a' w') :
  o.guard=none∧o2.guard=none∧o.wpIn (Ju ro) 0 P a w (fun a1 w1=>o2.wpIn (Ju ro) 0 P a1 w1 next Q) Q:=by
 obtain⟨ty,x,lo,d,ty2,pos,after,nK,kp,VD,rfl,rfl⟩:=Y4 hc;refine⟨rfl,rfl,?_⟩;have hI:=hS.inv;have hE:=hS.eval;have tO:d<a.tmps.size:=by rw[hS.size];exact hd d rfl
 -- what is to be shown of the two operations
 have two:∀(v:Value) (D2 : St) (g' : Gh) (w' : World),(Instr.sliceAt ty (a.eval x) (some (a.eval lo)) none none).run P w=.ok v w→(Builtin.clear_ #[ty] nK #[v]).run P w=.ok (.tuple #[]) w'→K ⟨GU st.t d .junk,D2.h⟩→DG w0 g0 h0 D2.h g' w'→Le st.h g w D2.h g' w' →
   Oper.wpIn (Ju ro) 0 P ⟨some d,.slice ty x (some lo) none none,ty2,pos,after,none⟩ a w (fun a1 w1=>Oper.wpIn (Ju ro) 0 P ⟨none,.call ⟨.builtin .clear,#[.tmp d],#[ty]⟩,nK,kp,VD,none⟩ a1 w1 next Q) Q:=by
  intro v D2 g' w' r1 r2 hk yC Hc;refine MC (by intro c e;cases e) ?_;unfold Oper.wp;have hx:execOp a.eval ⟨some d,.slice ty x (some lo) none none,ty2,pos,after,none⟩=(do pure (Next.value (←Instr.sliceAt ty (a.eval x) (some (a.eval lo)) none none))):=rfl;rw[hx,Sem.run_bind,r1];refine MC (by intro c e;cases e) ?_;unfold Oper.wp;have ot:execOp (a.put (some d) v).eval ⟨none,.call ⟨.builtin .clear,#[.tmp d],#[ty]⟩,nK,kp,VD,none⟩=(do pure (Next.value (←Builtin.clear_ #[ty] nK #[v]))):=by
   simp[execOp,resolve,invoke,builtin,gM tO]
  rw[ot,Sem.run_bind,r2];have S1:SR N ds w0 g0 h0 (st.put (some d) .junk st.h) g (a.put (some d) v) w:=hS.put hd hI (.refl _ _ _) (.junk _ _);have S2:SR N ds w0 g0 h0 ((st.put (some d) .junk st.h).put none (.v (.tuple #[])) D2.h) g' ((a.put (some d) v).put none (.tuple #[])) w':=S1.put (by intro i e;cases e) yC Hc (.v _ _);exact hn _ g' _ w' hk S2
 unfold bu at hk;simp only at hk;split at hk
 ·rename_i e hs;split at hk
  ·rename_i r n ex;split at hk
   ·rename_i i ei;split at hk
    ·rename_i sz es er;split at hk
     ·rename_i hb;obtain rfl:=AL hb;split at hk
      ·exact hk.elim
      ·rename_i k EB;split at hk
       ·rename_i MN;have MN:=AL MN;obtain⟨⟨rfl,i0,i1⟩,hk⟩:=hk;unfold pi at hk;split at hk
        ·rename_i FM;have FM:∀v∈(cx.T e).zc,v.oneCell'=true:=Bp.1 FM;have ho:=hI.objs r;rw[er]at ho;obtain⟨t1,l1,al,a2⟩:=ho;have dt:=hE x;rw[ex]at dt;have rN:=hE lo;rw[ei]at rN;have rN:=rN.v_eq;generalize hvx:a.eval x=vx at dt two;rw[rN]at two;cases dt with
         |msl _ _ _ ad cap hu ht' Xu ha Ls =>
          have hv:=Ls l1.symm;have Oz:es.length≤cap:=by
           rcases a2 with ⟨b1,_,_⟩ | ⟨b,Lr,E,vs,b1,_,b3,_⟩
           ·subst b1;exact AN _
           ·rw[b1]at hv;cases hv;exact b3
          have CM:=EE (P:=P) (w:=w) hT hs EB ad es.length cap (some i) none none (.inl rfl) (by simpa using i0) (by simpa using i1) (by simpa using Oz) (by simp);simp only[Cv,DV,Ch,Fq,Option.map_none]at CM
          by_cases hz:i.toNat=es.length
          ·-- nothing is cleared
           have e1:es.length-i.toNat=0:=by omega
           rw[e1]at CM hk;refine two _ st g w CM (YF hT hs _) ?_ hI (.refl _ _ _);have e2:es.take i.toNat++List.replicate 0 ((cx.T e).zc.map AV.v)=es:=by rw[List.replicate_zero,BZ,hz,Du]
           rw[e2,←er,fy]at hk;exact hk
          ·have DF:i.toNat<es.length:=by omega
           rcases a2 with ⟨b1,_⟩ | ⟨b,Lr,E,vs,b1,b2,b3,b4,b5,b6,b7⟩
           ·subst b1;simp at DF
           ·rw[b1]at hv;cases hv;have Dz:¬cap=i.toNat:=by omega
            rw[Ak Dz]at CM;have tA:Option.map (fun x:Addr=>x.add (i.toNat*(cx.T e).size)) (some ⟨b,0,none⟩)=some ⟨b,i.toNat*(cx.T e).size,none⟩:=by simp[Addr.add];omega
            rw[tA]at CM;have SD:es.length*(cx.T e).size≤cap*(cx.T e).size:=Bg _ b3;have OA:i.toNat*(cx.T e).size+(es.length-i.toNat)*(cx.T e).size=es.length*(cx.T e).size:=by rw[←E3];congr 1;omega
            have hcl:=br (w:=w) (ty2:=nK) (c:=cap-i.toNat) hT hs EB (MN.trans EB) FM b4 (n:=es.length-i.toNat) (o:=i.toNat*(cx.T e).size) (by omega) (by rw[show k+1=(cx.T e).size from EB.symm,OA,b5];exact SD);have hl:(st.h r).live:=by rw[er];trivial
            generalize hZ:(List.replicate (es.length-i.toNat) (cx.T e).zc).flatten=Z at hcl;have rG:Z.length=(es.length-i.toNat)*(cx.T e).size:=by
             rw[←hZ,Df (n:=(cx.T e).size) (fun c hc=>by rw[Ce hc];exact MN),Cq]
            have Lj:(es.take i.toNat++List.replicate (es.length-i.toNat) ((cx.T e).zc.map AV.v)).length=es.length:=by
             rw[Ad,AJ,Cq];omega
            have tB:∀c∈es.take i.toNat++List.replicate (es.length-i.toNat) ((cx.T e).zc.map AV.v),c.length=(cx.T e).size:=fun c hc=>by
             rcases A6.1 hc with h1 | h1
             ·exact al c (Em h1)
             ·rw[Ce h1,A9];exact MN
            have uC:vs.toList.length=cap*(cx.T e).size:=by rw[B3];exact b5
            have hfl:(es.take i.toNat++List.replicate (es.length-i.toNat) ((cx.T e).zc.map AV.v)).flatten=over es.flatten (i.toNat*(cx.T e).size) (Z.map AV.v):=by
             rw[ME _ _ _ (by rw[A9,rG,OA,Df al];exact Aj _),CG,Nr al,A9,rG,OA,G8 (by rw[Df al];exact Aj _),BZ,←hZ,RD,List.map_replicate]
            have ux:((over vs.toList (i.toNat*(cx.T e).size) Z).toArray.toList.take (es.length*(cx.T e).size))=over (vs.toList.take (es.length*(cx.T e).size)) (i.toNat*(cx.T e).size) Z :=
             Vc _ _ _ _ (by rw[rG,OA];exact Aj _) (by rw[uC];exact SD)
            have yS:CC g w Fi (Z.map AV.v) Z:=CC.vals (by
             have pI : ∀l:List AV,(∀a∈l,one a=true)→GP l=true:=by
              intro l
              induction l with
              |nil=>intro _;rfl
              |cons a l ih=>intro h;simp[GP,h a (List.mem_cons_self ..),ih (fun b hb=>h b (List.mem_cons_of_mem _ hb))]
             refine pI _ fun q hq=>?_;obtain⟨y,hy,rfl⟩:=Am.1 hq;rw[←hZ]at hy;obtain⟨l,hl,hy⟩:=El.1 hy;rw[Ce hl]at hy;exact FM y hy)
            have mU:CC g w Fi (over es.flatten (i.toNat*(cx.T e).size) (Z.map AV.v)) (over (vs.toList.take (es.length*(cx.T e).size)) (i.toNat*(cx.T e).size) Z) :=
             b6.over yS _ (by rw[A9,rG,OA,Df al];exact Aj _)
            obtain⟨k1,k2⟩:=hI.write hl b2 (.arr (cx.T e).size (es.take i.toNat++List.replicate (es.length-i.toNat) ((cx.T e).zc.map AV.v))) b4 (over vs.toList (i.toNat*(cx.T e).size) Z).toArray (g.ln r) (g.own r) g.S (by simp) rfl (fun b' e=>by rw[b2]at e;cases e;rfl) (fun _ _ h=>h)
             (fun b' o hs=>.inl hs) (fun o hs=>absurd hs (b7 o)) (fun hg HH EJ=>by
              obtain⟨u1,u2,u3,u4⟩:=Bz g r (g.ρ r) (g.ln r) (g.tk r) (g.own r) g.S;refine⟨u3.trans t1,u2.trans (by rw[Lj];exact l1),tB,.inr ⟨b,cap,E,_,?_,u4.trans b2,by rw[Lj];exact b3,EJ,?_,?_,b7⟩⟩
              ·rw[u1,b1,Lj]
              ·simp only[Ff,Fz,B3];exact b5
              ·rw[Lj,ux,hfl];exact mU.mono HH (fun _ h=>h) (fun _ h=>h.elim))
            exact two _ ⟨st.t,_⟩ _ _ CM hcl hk k1 k2
        ·exact hk.elim
       ·exact hk.elim
     ·exact hk.elim
    ·exact hk.elim
   ·exact hk.elim
  ·exact hk.elim
 ·exact hk.elim
end
end Go.Eng
