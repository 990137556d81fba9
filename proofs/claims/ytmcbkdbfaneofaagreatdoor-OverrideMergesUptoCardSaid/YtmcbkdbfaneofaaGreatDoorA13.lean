/- Lemmas for the claims of this seat, without a condition: part 13 (EngZB, EngZBc). -/
import Derived.Test.YtmcbkdbfaneofaaGreatDoorA12
namespace Go.Eng
section
variable {P:Program}{N:Nat}{ds:List Deferred}{w0:World}{g0:Gh}{h0:Nat→HO}{st:St}{g:Gh}{a:Act}{w:World}
theorem XM{cx:Cx}(hT:CH P cx.T){b:Builtin}{args:Array Operand}{G8:Array TypeId}{dst:Option Nat}{ty:Nat}{pos:String}{after:Array Edge}{gd:Option (Nat×Bool)}{K:HK}{next:Act→World→Prop}{Q:Exit→Act→World→Prop}
  (hS:SR N ds w0 g0 h0 st g a w) (hk:Gk cx dst st.h b G8.toList (args.toList.map (ev st.t)) K)
  (hn:Zp w0 g0 h0 st.h g w K fun x w'=>next (a.put dst x) w'):Oper.wp P ⟨dst,.call ⟨.builtin b,args,G8⟩,ty,pos,after,gd⟩ a w next Q:=by
 have hI:=hS.inv;have hE:=hS.eval;obtain⟨l⟩:=args;obtain⟨tl⟩:=G8;unfold Gk at hk;split at hk
 ·rename_i x t e1 e2
  match l,e1 with
  | [y],e1 =>
   simp only[AS,Fm,FN,and_true]at e1;subst e1;simp only at e2;subst e2;exact D4 (m:=Builtin.len_ #[t] ty #[a.eval y]) (by simp[execOp,resolve,invoke,builtin]) (BX.does hI (iM hT hI.objs (hE y) hk)) hn
 ·rename_i s x t t' e1 e2
  match l,e1 with
  | [y,z],e1 =>
   simp only[AS,Fm,FN,and_true]at e1;obtain⟨rfl,rfl⟩:=e1;simp only at e2;subst e2;split at hk
   ·rename_i ht;obtain rfl:=AP ht;exact D4 (m:=Builtin.append_ #[t,t] ty #[a.eval y,a.eval z]) (by simp[execOp,resolve,invoke,builtin]) (Zz hI hT (hE y) (hE z) hk) hn
   ·exact hk.elim
 ·rename_i x y G8 e1
  match l,e1 with
  | [y,z],e1 =>
   simp only[AS,Fm,FN,and_true]at e1;obtain⟨rfl,rfl⟩:=e1;exact D4 (m:=Builtin.max_ ⟨tl⟩ ty #[a.eval y,a.eval z]) (by simp[execOp,resolve,invoke,builtin]) (BX.does hI (lX (hE y) (hE z) hk)) hn
 ·rename_i x y G8 e1
  match l,e1 with
  | [y,z],e1 =>
   simp only[AS,Fm,FN,and_true]at e1;obtain⟨rfl,rfl⟩:=e1;exact D4 (m:=Builtin.min_ ⟨tl⟩ ty #[a.eval y,a.eval z]) (by simp[execOp,resolve,invoke,builtin]) (BX.does hI (lZ (hE y) (hE z) hk)) hn
 ·exact hk.elim
theorem kE{cx:Cx}(hT:CH P cx.T){dr:Bool}{o:Oper}{K:HK}{next:Act→World→Prop}{Q:Exit→Act→World→Prop}(hS:SR N ds w0 g0 h0 st g a w)(hk:Ga cx dr o st K)
  (hv:∀f args G8,o.op≠.call ⟨.value f,args,G8⟩) (hn:Zp w0 g0 h0 st.h g w K fun x w'=>next (a.put o.dst x) w'):o.wp P a w next Q:=by
 have hI:=hS.inv;have hE:=hS.eval;obtain⟨dst,op,ty,pos,after,gd⟩:=o;unfold Ga at hk;cases op with
 |move x=>exact ct hI (x:=a.eval x) rfl hk (hE x) hn
 |assign x =>
  obtain⟨g',av,h',q1,q2,q3,q4⟩:=ZB hI (hE x) hk;exact hn _ _ _ _ _ q1 q2 q3 q4
 |pick c x y=>exact D4 (m:=do pure (if ←asBool (a.eval c)then a.eval x else a.eval y)) (by simp[execOp]) (BX.does hI (jr (hE c) (hE x) (hE y) hk)) hn
 |alloc e=>exact D4 rfl (cB hI hT hk) hn
 |box e x=>exact D4 rfl (kL hI (hE x) hk) hn
 |build t ps=>exact D4 rfl (BX.does hI (cL hT hE hk)) hn
 |buildSlice t n ps=>exact D4 rfl (SY hI hT hE hk) hn
 |insert t m k x=>exact Xu rfl (NK hI hT (hE m) (hE k) (hE x) hk) hn
 |load t x=>exact D4 rfl (BX.does hI (VU hI.objs hT (hE x) hk)) hn
 |store t p x=>exact Xu rfl (fe hI hT (hE p) (hE x) hk) hn
 |nilCheck x =>
  obtain⟨h1,h2⟩:=Xd (P:=P) (w:=w) (hE x) hk (pos:=pos) (after:=after) (gd:=gd) (dst:=dst) (ty:=ty) (ρ:=a.eval) rfl;exact ct hI h1 h2 (hE x) hn
 |binOp op t x y u=>exact D4 rfl (BX.does hI (fU hT (hE x) (hE y) (fun v e=>by subst e;rfl) hk)) hn
 |unOp op t x=>exact D4 rfl (BX.does hI (ka (hE x) hk)) hn
 |convert s t x=>exact D4 rfl (BX.does hI (gw hT (hE x) hk)) hn
 |makeFunc fn first cap=>exact D4 rfl (BX.does hI (Xa hI.objs hE hk)) hn
 |makeMap t r =>
  cases r with
  |some r=>exact hk.elim
  |none=>exact D4 rfl (YK hI hk) hn
 |makeSlice t n c=>exact D4 rfl (U5 hI hT (hE n) (hE c) hk) hn
 |slice t x lo hi mx =>
  cases dr with
  |true =>
   cases hp:NW cx.pl.tok dst with
   |none =>
    have Kv : GP cx dst st.h t (ev st.t x) (Ce st.t lo) (Ce st.t hi) (Ce st.t mx) K:=by
     have HL:(match NW cx.pl.tok dst with
      |none=>GP cx dst st.h t (ev st.t x) (Ce st.t lo) (Ce st.t hi) (Ce st.t mx) K
      |some _=>NP cx dst st.h t (ev st.t x) lo (Ce st.t hi) mx K):=hk
     rw[hp]at HL;exact HL
    exact D4 rfl (Wa hI hT hE (hE x) Kv) hn
   |some _ =>
    have Kv : NP cx dst st.h t (ev st.t x) lo (Ce st.t hi) mx K:=by
     have HL:(match NW cx.pl.tok dst with
      |none=>GP cx dst st.h t (ev st.t x) (Ce st.t lo) (Ce st.t hi) (Ce st.t mx) K
      |some _=>NP cx dst st.h t (ev st.t x) lo (Ce st.t hi) mx K):=hk
     rw[hp]at HL;exact HL
    unfold NP at Kv;split at Kv
    ·exact D4 rfl (bX hI hT hE (hE x) Kv) hn
    ·exact Kv.elim
  |false =>
   cases hp:NW cx.pl.tok dst with
   |none =>
    have Kv : GP cx dst st.h t (ev st.t x) (Ce st.t lo) (Ce st.t hi) (Ce st.t mx) K:=by
     have HL:(match NW cx.pl.tok dst with
      |none=>GP cx dst st.h t (ev st.t x) (Ce st.t lo) (Ce st.t hi) (Ce st.t mx) K
      |some _=>ca cx dst st.h t (ev st.t x) st.t lo hi mx K):=hk
     rw[hp]at HL;exact HL
    exact D4 rfl (Wa hI hT hE (hE x) Kv) hn
   |some _ =>
    have Kv : ca cx dst st.h t (ev st.t x) st.t lo hi mx K:=by
     have HL:(match NW cx.pl.tok dst with
      |none=>GP cx dst st.h t (ev st.t x) (Ce st.t lo) (Ce st.t hi) (Ce st.t mx) K
      |some _=>ca cx dst st.h t (ev st.t x) st.t lo hi mx K):=hk
     rw[hp]at HL;exact HL
    cases lo with
    |some lo=>exact D4 rfl (Ze hI hT hE (hE x) Kv) hn
    |none =>
     have VG:NP cx dst st.h t (ev st.t x) none (Ce st.t hi) mx K:=Kv;unfold NP at VG;split at VG
     ·exact D4 rfl (bX hI hT hE (hE x) VG) hn
     ·exact VG.elim
 |fieldAddr s x f=>exact D4 rfl (BX.does hI (cZ hT (hE x) hk)) hn
 |field s x f=>exact D4 rfl (BX.does hI (ZR hT (hE x) hk)) hn
 |indexAddr t x i=>exact D4 rfl (BX.does hI (U2 hT (hE x) (hE i) hk)) hn
 |index t x i=>exact D4 rfl (BX.does hI (dv hT (hE x) (hE i) hk)) hn
 |lookup t x i ok =>
  have hk:M8 cx.T st.h t (ev st.t x) (ev st.t i) ok fun v=>K v st.h:=by
   cases dr with
   |true=>exact dF hk
   |false=>exact hk
  exact D4 rfl (BX.does hI (ar hT hI.objs (hE x) (hE i) hk)) hn
 |mapUpdate t m k x=>exact Xu rfl (NK hI hT (hE m) (hE k) (hE x) hk) hn
 |range t x =>
  simp only at hk;split at hk
  ·rename_i kt e ht;exact D4 rfl (eI hI hT ht (hE x) hk) hn
  ·exact hk.elim
 |next it s =>
  cases s with
  |true=>exact hk.elim
  |false=>exact D4 rfl (i7 hI (hE it) hk) hn
 |entry it=>exact D4 rfl (BX.does hI (cW hI.objs (hE it) hk)) hn
 |extract x i=>exact D4 rfl (BX.does hI (X3 (hE x) hk)) hn
 |call c =>
  obtain⟨oJ,args,G8⟩:=c;cases oJ with
  |builtin b=>exact XM hT hS hk hn
  |value f=>exact absurd rfl (hv f args G8)
  |invoke r m=>exact hk.elim
 |_=>exact hk.elim
theorem fP{cx:Cx}(hP:cx.P=P)(hY:∀l σ h g w,Ey σ=true→DQ w0 g0 h0 h g w→Le h0 g0 w0 h g w→cx.yp l σ (DG σ g) w){ro:Option Nat}(hT:CH P cx.T){dr:Bool}{o:Oper}{K:HK}{next:Act→World→Prop}{Q:Exit→Act→World→Prop}(hS:SR N ds w0 g0 h0 st g a w)(hk:Ga cx dr o st K)
  (hn:Zp w0 g0 h0 st.h g w K fun x w'=>next (a.put o.dst x) w'):o.wpIn (J8 ro) 0 P a w next Q:=by
 by_cases hv:∃f args G8,o.op=.call ⟨.value f,args,G8⟩
 ·obtain⟨f,args,G8,e⟩:=hv;obtain⟨dst,op,ty,pos,after,gd⟩:=o;cases e;exact fZ hP hY hS hk hn
 ·refine Nc (fun c e=>?_) (kE hT hS hk (fun f args G8 e=>hv ⟨f,args,G8,e⟩) hn);obtain⟨dst,op,ty,pos,after,gd⟩:=o;cases e;exact hk.elim
theorem nG{p:Nat→Prop}(h:∃n,p n):∃n,p n∧∀m,m<n→¬p m:=by
 apply Bj;intro hc
 have:∀n,¬p n:=fun n=>by
  induction n using Nat.strongRecOn with
  |_ n ih=>exact fun hp=>hc ⟨n,hp,ih⟩
 obtain⟨n,hn⟩:=h;exact this n hn
theorem Sh{F:Fence}{m:Nat}{c:Code}{Q:Exit→Act→World→Prop}(I:Nat→Act→World→Prop)(k:Nat)(h0:I k a w)
  (round:∀n a w,I n a w→c.wpIn F m P (Exit.then (fun a' w'=>∃n',n' < n∧I n' a' w') Q) a w):(Code.loop c).wpIn F m P Q a w:=by
 classical
 have hex:∀a w,(∃n,I n a w)→∃n,I n a w∧∀n',n' < n→¬I n' a w:=fun a w h=>nG h;refine wpIn_loop (fun a w=>∃n,I n a w) (fun a w=>if h:∃n,I n a w then(hex a w h).choose else 0) ⟨k,h0⟩ fun a w h=>?_;have hs:=(hex a w h).choose_spec;refine wpIn_mono (round _ a w hs.1) fun e a' w' q=>?_;cases e with
 |normal =>
  obtain⟨n',DF,hn⟩:=q;have h' : ∃n,I n a' w':=⟨n',hn⟩;refine⟨h',?_⟩;simp only[dif_pos h,dif_pos h'];refine Nat.lt_of_le_of_lt ?_ DF;apply Nat.le_of_not_lt;intro hc;exact(hex a' w' h').choose_spec.2 n' hc hn
 |_=>exact q
end
section
variable {P:Program}{N:Nat}{ds:List Deferred}{w0:World}{g0:Gh}{h0:Nat→HO}{st:St}{g:Gh}{a:Act}{w:World}
theorem cO{T:GS}(hT:CH P T){ty e k ty2 b o n c:Nat}(ht:(T ty).d=.slice e)(hk:(T e).size=k+1)(hz:(T e).zc.length=k+1)(Sd:∀v∈(T e).zc,v.oneCell'=true){FV:Array Value}{E:TypeId}
  (hb:w.heap[b]?=some (.cells FV E (0,0))) (hn:0<n) (Hr:o+n*(k+1)≤FV.size) :
  (Builtin.clear_ #[ty] ty2 #[.slice (some ⟨b,o,none⟩) n c]).run P w=.ok (.tuple #[]) (w.setRow b (over FV.toList o (List.replicate n (T e).zc).flatten).toArray):=by
 obtain⟨z,z1,z2⟩:=Wp (w:=w) hT hk;have pv:(T e).zc≠[]:=fun e0=>by rw[e0]at hz;cases hz
 have pq:(Builtin.zeroCells z.cells n).toList=(List.replicate n (T e).zc).flatten:=by
  rw[Ib n _ pv,hz,z2];have e6:z.cells.size=k+1:=by rw[←hz,z2];simp
  unfold Builtin.zeroCells;simp[e6,Array.getElem!_eq_getD]
 have CJ:(List.replicate n (T e).zc).flatten.length=n*(k+1):=by
  rw[Du (n:=k+1) (fun c hc=>by rw[Cq hc];exact hz),CA]
 have JM:=run_storeCells_at P b o E (List.replicate n (T e).zc).flatten 0 FV w hb (by rw[CJ];simpa using Hr) (fun v hv=>by
  obtain⟨l,hl,hv⟩:=EF.1 hv;rw[Cq hl]at hv;exact Sd v hv)
 simp only[DJ]at JM;rw[Nh _ _ _ (by rw[CJ];simpa using Hr)];obtain⟨m,rfl⟩:∃m,n=m+1:=⟨n-1,by omega⟩;simp only[Builtin.clear_,Sem.run_bind,Gn,Bd,run_underlying (hT.slice ht),Result.andThen_ok,z1,pq,JM,Sem.run_pure]
theorem ZL{T:GS}(hT:CH P T){ty e ty2 c:Nat}(ht:(T ty).d=.slice e)(x:Option Addr) :
  (Builtin.clear_ #[ty] ty2 #[.slice x 0 c]).run P w=.ok (.tuple #[]) w:=by
 cases x<;>simp only[Builtin.clear_,Sem.run_bind,Gn,Bd,run_underlying (hT.slice ht),Result.andThen_ok,Sem.run_pure]
theorem jC{d:Nat}{x:Value}(hd:d<a.tmps.size):(a.put (some d) x).eval (.tmp d)=x:=by
 show(a.tmps.setIfInBounds d x).getD d undef=x;rw[CD,Array.getElem?_setIfInBounds_self,Ax hd];rfl
theorem ir(h:Nat→HO)(r:Nat):A2 h r (h r)=h:=funext fun i=>by
 by_cases e:i=r
 ·subst e;exact Bl ..
 ·exact B8 _ _ _ _ e
theorem am{o o2:Oper}(h:TV o o2=true):∃ty x lo d ty2 pos after p6 my Wy,o=⟨some d,.slice ty x (some lo) none none,ty2,pos,after,none⟩∧o2=⟨none,.call ⟨.builtin .clear,#[.tmp d],#[ty]⟩,p6,my,Wy,none⟩:=by
 obtain⟨dst,op,t2,p1,a1,gd⟩:=o;obtain⟨Ab1,op2,t3,p2,a2,uc⟩:=o2;unfold TV at h;split at h
 ·rename_i c e1;split at h
  ·rename_i e2;split at h
   ·rename_i ty x lo e3;split at h
    ·rename_i d d' ty' e4 e5 e6 e7 e8 e9;obtain⟨oJ,⟨args⟩,⟨G8⟩⟩:=c;simp only at e1 e2 e3 e4 e5 e6 e7 e8 e9;simp only[Ah]at h;obtain rfl:=AP h.1;obtain rfl:=AP h.2;subst e1 e2 e3 e4 e5 e6 e7 e8 e9;exact⟨_,_,_,_,_,_,_,_,_,_,rfl,rfl⟩
    ·cases h
   ·cases h
  ·cases h
 ·cases h
theorem kV{cx:Cx}(hT:CH P cx.T){ro:Option Nat}{o o2:Oper}(hd:∀i,o.dst=some i→i<N)(hc:TV o o2=true){K:St→Prop}(hS:SR N ds w0 g0 h0 st g a w)(hk:cQ cx o st K){next:Act→World→Prop}{Q:Exit→Act→World→Prop}
  (hn:∀Ej g' a' w',K Ej→SR N ds w0 g0 h0 Ej g' a' w'→next a' w') :
  o.guard=none∧o2.guard=none∧o.wpIn (J8 ro) 0 P a w (fun a1 w1=>o2.wpIn (J8 ro) 0 P a1 w1 next Q) Q:=by
 obtain⟨ty,x,lo,d,ty2,pos,after,p6,my,Wy,rfl,rfl⟩:=am hc;refine⟨rfl,rfl,?_⟩;have hI:=hS.inv;have hE:=hS.eval;have wT:d<a.tmps.size:=by rw[hS.size];exact hd d rfl
 -- what is to be shown of the two operations
 have two:∀(v:Value) (Ej : St) (g' : Gh) (w' : World),(Instr.sliceAt ty (a.eval x) (some (a.eval lo)) none none).run P w=.ok v w→(Builtin.clear_ #[ty] p6 #[v]).run P w=.ok (.tuple #[]) w'→K ⟨Hu st.t d .junk,Ej.h⟩→DQ w0 g0 h0 Ej.h g' w'→Le st.h g w Ej.h g' w' →
   Oper.wpIn (J8 ro) 0 P ⟨some d,.slice ty x (some lo) none none,ty2,pos,after,none⟩ a w (fun a1 w1=>Oper.wpIn (J8 ro) 0 P ⟨none,.call ⟨.builtin .clear,#[.tmp d],#[ty]⟩,p6,my,Wy,none⟩ a1 w1 next Q) Q:=by
  intro v Ej g' w' r1 r2 hk hI' Hr;refine Nc (by intro c e;cases e) ?_;unfold Oper.wp;have hx:execOp a.eval ⟨some d,.slice ty x (some lo) none none,ty2,pos,after,none⟩=(do pure (Next.value (←Instr.sliceAt ty (a.eval x) (some (a.eval lo)) none none))):=rfl;rw[hx,Sem.run_bind,r1];refine Nc (by intro c e;cases e) ?_;unfold Oper.wp;have qC:execOp (a.put (some d) v).eval ⟨none,.call ⟨.builtin .clear,#[.tmp d],#[ty]⟩,p6,my,Wy,none⟩=(do pure (Next.value (←Builtin.clear_ #[ty] p6 #[v]))):=by
   simp[execOp,resolve,invoke,builtin,jC wT]
  rw[qC,Sem.run_bind,r2];have S1:SR N ds w0 g0 h0 (st.put (some d) .junk st.h) g (a.put (some d) v) w:=hS.put hd hI (.refl _ _ _) (.junk _ _);have S2:SR N ds w0 g0 h0 ((st.put (some d) .junk st.h).put none (.v (.tuple #[])) Ej.h) g' ((a.put (some d) v).put none (.tuple #[])) w':=S1.put (by intro i e;cases e) hI' Hr (.v _ _);exact hn _ g' _ w' hk S2
 unfold cQ at hk;simp only at hk;split at hk
 ·rename_i e hs;split at hk
  ·rename_i r n ex;split at hk
   ·rename_i i ei;split at hk
    ·rename_i sz es er;split at hk
     ·rename_i hb;obtain rfl:=AP hb;split at hk
      ·exact hk.elim
      ·rename_i k Ek;split at hk
       ·rename_i Nr;have Nr:=AP Nr;obtain⟨⟨rfl,i0,i1⟩,hk⟩:=hk;unfold rz at hk;split at hk
        ·rename_i Fp;have Fp:∀v∈(cx.T e).zc,v.oneCell'=true:=AR.1 Fp;have ho:=hI.objs r;rw[er]at ho;obtain⟨t1,l1,al,a2⟩:=ho;have fB:=hE x;rw[ex]at fB;have pg:=hE lo;rw[ei]at pg;have pg:=pg.v_eq;generalize hvx:a.eval x=vx at fB two;rw[pg]at two;cases fB with
         |msl _ _ _ ad cap hu ht' Yo ha L3 =>
          have hv:=L3 l1.symm;have Pr:es.length≤cap:=by
           rcases a2 with ⟨b1,_,_⟩ | ⟨b,L0,E,vs,b1,_,b3,_⟩
           ·subst b1;exact AG _
           ·rw[b1]at hv;cases hv;exact b3
          have CZ:=E1 (P:=P) (w:=w) hT hs Ek ad es.length cap (some i) none none (.inl rfl) (by simpa using i0) (by simpa using i1) (by simpa using Pr) (by simp);simp only[CE,D8,Ba,FS,Option.map_none]at CZ
          by_cases hz:i.toNat=es.length
          ·-- nothing is cleared
           have e1:es.length-i.toNat=0:=by omega
           rw[e1]at CZ hk;refine two _ st g w CZ (ZL hT hs _) ?_ hI (.refl _ _ _);have e2:es.take i.toNat++List.replicate 0 ((cx.T e).zc.map AV.v)=es:=by rw[List.replicate_zero,BE,hz,Dp]
           rw[e2,←er,ir]at hk;exact hk
          ·have DF:i.toNat<es.length:=by omega
           rcases a2 with ⟨b1,_⟩ | ⟨b,L0,E,vs,b1,b2,b3,b4,b5,b6,b7⟩
           ·subst b1;simp at DF
           ·rw[b1]at hv;cases hv;have DL:¬cap=i.toNat:=by omega
            rw[Ao DL]at CZ;have wG:Option.map (fun x:Addr=>x.add (i.toNat*(cx.T e).size)) (some ⟨b,0,none⟩)=some ⟨b,i.toNat*(cx.T e).size,none⟩:=by simp[Addr.add];omega
            rw[wG]at CZ;have TL:es.length*(cx.T e).size≤cap*(cx.T e).size:=Bs _ b3;have L1:i.toNat*(cx.T e).size+(es.length-i.toNat)*(cx.T e).size=es.length*(cx.T e).size:=by rw[←Fv];congr 1;omega
            have hcl:=cO (w:=w) (ty2:=p6) (c:=cap-i.toNat) hT hs Ek (Nr.trans Ek) Fp b4 (n:=es.length-i.toNat) (o:=i.toNat*(cx.T e).size) (by omega) (by rw[show k+1=(cx.T e).size from Ek.symm,L1,b5];exact TL);have hl:(st.h r).live:=by rw[er];trivial
            generalize hZ:(List.replicate (es.length-i.toNat) (cx.T e).zc).flatten=Z at hcl;have uh:Z.length=(es.length-i.toNat)*(cx.T e).size:=by
             rw[←hZ,Du (n:=(cx.T e).size) (fun c hc=>by rw[Cq hc];exact Nr),CA]
            have LT:(es.take i.toNat++List.replicate (es.length-i.toNat) ((cx.T e).zc.map AV.v)).length=es.length:=by
             rw[Ad,AC,CA];omega
            have wH:∀c∈es.take i.toNat++List.replicate (es.length-i.toNat) ((cx.T e).zc.map AV.v),c.length=(cx.T e).size:=fun c hc=>by
             rcases A6.1 hc with h1 | h1
             ·exact al c (EG h1)
             ·rw[Cq h1,Bh];exact Nr
            have xB:vs.toList.length=cap*(cx.T e).size:=by rw[Cb];exact b5
            have hfl:(es.take i.toNat++List.replicate (es.length-i.toNat) ((cx.T e).zc.map AV.v)).flatten=over es.flatten (i.toNat*(cx.T e).size) (Z.map AV.v):=by
             rw[Nh _ _ _ (by rw[Bh,uh,L1,Du al];exact Al _),CU,N4 al,Bh,uh,L1,DI (by rw[Du al];exact Al _),BE,←hZ,SL,List.map_replicate]
            have kp:((over vs.toList (i.toNat*(cx.T e).size) Z).toArray.toList.take (es.length*(cx.T e).size))=over (vs.toList.take (es.length*(cx.T e).size)) (i.toNat*(cx.T e).size) Z :=
             V1 _ _ _ _ (by rw[uh,L1];exact Al _) (by rw[xB];exact TL)
            have hZr:CP g w FL (Z.map AV.v) Z:=CP.vals (by
             have rW : ∀l:List AV,(∀a∈l,one a=true)→Ho l=true:=by
              intro l
              induction l with
              |nil=>intro _;rfl
              |cons a l ih=>intro h;simp[Ho,h a (List.mem_cons_self ..),ih (fun b hb=>h b (List.mem_cons_of_mem _ hb))]
             refine rW _ fun q hq=>?_;obtain⟨y,hy,rfl⟩:=Ar.1 hq;rw[←hZ]at hy;obtain⟨l,hl,hy⟩:=EF.1 hy;rw[Cq hl]at hy;exact Fp y hy)
            have pk:CP g w FL (over es.flatten (i.toNat*(cx.T e).size) (Z.map AV.v)) (over (vs.toList.take (es.length*(cx.T e).size)) (i.toNat*(cx.T e).size) Z) :=
             b6.over hZr _ (by rw[Bh,uh,L1,Du al];exact Al _)
            obtain⟨k1,k2⟩:=hI.write hl b2 (.arr (cx.T e).size (es.take i.toNat++List.replicate (es.length-i.toNat) ((cx.T e).zc.map AV.v))) b4 (over vs.toList (i.toNat*(cx.T e).size) Z).toArray (g.ln r) (g.own r) g.S (by simp) rfl (fun b' e=>by rw[b2]at e;cases e;rfl) (fun _ _ h=>h)
             (fun b' o hs=>.inl hs) (fun o hs=>absurd hs (b7 o)) (fun hg In E6=>by
              obtain⟨u1,u2,u3,u4⟩:=BK g r (g.ρ r) (g.ln r) (g.tk r) (g.own r) g.S;refine⟨u3.trans t1,u2.trans (by rw[LT];exact l1),wH,.inr ⟨b,cap,E,_,?_,u4.trans b2,by rw[LT];exact b3,E6,?_,?_,b7⟩⟩
              ·rw[u1,b1,LT]
              ·simp only[FJ,F3,Cb];exact b5
              ·rw[LT,kp,hfl];exact pk.mono In (fun _ h=>h) (fun _ h=>h.elim))
            exact two _ ⟨st.t,_⟩ _ _ CZ hcl hk k1 k2
        ·exact hk.elim
       ·exact hk.elim
     ·exact hk.elim
    ·exact hk.elim
   ·exact hk.elim
  ·exact hk.elim
 ·exact hk.elim
end
end Go.Eng
