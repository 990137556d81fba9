/- Lemmas for the claims of this seat, without a condition: part 13 (EngZB, EngZBc). -/
import Derived.Test.YtddfphmpfnmknaaGreatDoorBA12
namespace Go.Eng
section
variable {P:Program}{N:Nat}{ds:List Deferred}{w0:World}{g0:Gh}{h0:Nat→HO}{st:St}{g:Gh}{a:Act}{w:World}
theorem Wv{cx:Cx}(hT:Cq P cx.T){b:Builtin}{args:Array Operand}{Gy:Array TypeId}{dst:Option Nat}{ty:Nat}{pos:String}{after:Array Edge}{gd:Option (Nat×Bool)}{K:HK}{next:Act→World→Prop}{Q:Exit→Act→World→Prop}
  (hS:SR N ds w0 g0 h0 st g a w) (hk:FM cx dst st.h b Gy.toList (args.toList.map (ev st.t)) K)
  (hn:XU w0 g0 h0 st.h g w K fun x w'=>next (a.put dst x) w'):Oper.wp P ⟨dst,.call ⟨.builtin b,args,Gy⟩,ty,pos,after,gd⟩ a w next Q:=by
 have hI:=hS.inv;have hE:=hS.eval;obtain⟨l⟩:=args;obtain⟨tl⟩:=Gy;unfold FM at hk;split at hk
 ·rename_i x t e1 e2
  match l,e1 with
  | [y],e1 =>
   simp only[AJ,ET,Fk,and_true]at e1;subst e1;simp only at e2;subst e2;exact DP (m:=Builtin.len_ #[t] ty #[a.eval y]) (by simp[execOp,resolve,invoke,builtin]) (BF.does hI (fA hT hI.objs (hE y) hk)) hn
 ·rename_i s x t t' e1 e2
  match l,e1 with
  | [y,z],e1 =>
   simp only[AJ,ET,Fk,and_true]at e1;obtain⟨rfl,rfl⟩:=e1;simp only at e2;subst e2;split at hk
   ·rename_i ht;obtain rfl:=AH ht;exact DP (m:=Builtin.append_ #[t,t] ty #[a.eval y,a.eval z]) (by simp[execOp,resolve,invoke,builtin]) (X3 hI hT (hE y) (hE z) hk) hn
   ·exact hk.elim
 ·rename_i x y Gy e1
  match l,e1 with
  | [y,z],e1 =>
   simp only[AJ,ET,Fk,and_true]at e1;obtain⟨rfl,rfl⟩:=e1;exact DP (m:=Builtin.max_ ⟨tl⟩ ty #[a.eval y,a.eval z]) (by simp[execOp,resolve,invoke,builtin]) (BF.does hI (jA (hE y) (hE z) hk)) hn
 ·rename_i x y Gy e1
  match l,e1 with
  | [y,z],e1 =>
   simp only[AJ,ET,Fk,and_true]at e1;obtain⟨rfl,rfl⟩:=e1;exact DP (m:=Builtin.min_ ⟨tl⟩ ty #[a.eval y,a.eval z]) (by simp[execOp,resolve,invoke,builtin]) (BF.does hI (jC (hE y) (hE z) hk)) hn
 ·exact hk.elim
theorem iz{cx:Cx}(hT:Cq P cx.T){dr:Bool}{o:Oper}{K:HK}{next:Act→World→Prop}{Q:Exit→Act→World→Prop}(hS:SR N ds w0 g0 h0 st g a w)(hk:FD cx dr o st K)
  (hv:∀f args Gy,o.op≠.call ⟨.value f,args,Gy⟩) (hn:XU w0 g0 h0 st.h g w K fun x w'=>next (a.put o.dst x) w'):o.wp P a w next Q:=by
 have hI:=hS.inv;have hE:=hS.eval;obtain⟨dst,op,ty,pos,after,gd⟩:=o;unfold FD at hk;cases op with
 |move x=>exact ac hI (x:=a.eval x) rfl hk (hE x) hn
 |assign x =>
  obtain⟨g',av,h',q1,q2,q3,q4⟩:=X4 hI (hE x) hk;exact hn _ _ _ _ _ q1 q2 q3 q4
 |pick c x y=>exact DP (m:=do pure (if ←asBool (a.eval c)then a.eval x else a.eval y)) (by simp[execOp]) (BF.does hI (fZ (hE c) (hE x) (hE y) hk)) hn
 |alloc e=>exact DP rfl (ao hI hT hk) hn
 |box e x=>exact DP rfl (iG hI (hE x) hk) hn
 |build t ps=>exact DP rfl (BF.does hI (aB hT hE hk)) hn
 |buildSlice t n ps=>exact DP rfl (Rw hI hT hE hk) hn
 |insert t m k x=>exact Wc rfl (MQ hI hT (hE m) (hE k) (hE x) hk) hn
 |load t x=>exact DP rfl (BF.does hI (UA hI.objs hT (hE x) hk)) hn
 |store t p x=>exact Wc rfl (cy hI hT (hE p) (hE x) hk) hn
 |nilCheck x =>
  obtain⟨h1,h2⟩:=VM (P:=P) (w:=w) (hE x) hk (pos:=pos) (after:=after) (gd:=gd) (dst:=dst) (ty:=ty) (ρ:=a.eval) rfl;exact ac hI h1 h2 (hE x) hn
 |binOp op t x y u=>exact DP rfl (BF.does hI (df hT (hE x) (hE y) (fun v e=>by subst e;rfl) hk)) hn
 |unOp op t x=>exact DP rfl (BF.does hI (gV (hE x) hk)) hn
 |convert s t x=>exact DP rfl (BF.does hI (dz hT (hE x) hk)) hn
 |makeFunc fn first cap=>exact DP rfl (BF.does hI (VK hI.objs hE hk)) hn
 |makeMap t r =>
  cases r with
  |some r=>exact hk.elim
  |none=>exact DP rfl (Xk hI hk) hn
 |makeSlice t n c=>exact DP rfl (TQ hI hT (hE n) (hE c) hk) hn
 |slice t x lo hi mx =>
  cases dr with
  |true =>
   cases hp:MZ cx.pl.tok dst with
   |none =>
    have JP : Gb cx dst st.h t (ev st.t x) (BY st.t lo) (BY st.t hi) (BY st.t mx) K:=by
     have Ik:(match MZ cx.pl.tok dst with
      |none=>Gb cx dst st.h t (ev st.t x) (BY st.t lo) (BY st.t hi) (BY st.t mx) K
      |some _=>MT cx dst st.h t (ev st.t x) lo (BY st.t hi) mx K):=hk
     rw[hp]at Ik;exact Ik
    exact DP rfl (US hI hT hE (hE x) JP) hn
   |some _ =>
    have JP : MT cx dst st.h t (ev st.t x) lo (BY st.t hi) mx K:=by
     have Ik:(match MZ cx.pl.tok dst with
      |none=>Gb cx dst st.h t (ev st.t x) (BY st.t lo) (BY st.t hi) (BY st.t mx) K
      |some _=>MT cx dst st.h t (ev st.t x) lo (BY st.t hi) mx K):=hk
     rw[hp]at Ik;exact Ik
    unfold MT at JP;split at JP
    ·exact DP rfl (ZP hI hT hE (hE x) JP) hn
    ·exact JP.elim
  |false =>
   cases hp:MZ cx.pl.tok dst with
   |none =>
    have JP : Gb cx dst st.h t (ev st.t x) (BY st.t lo) (BY st.t hi) (BY st.t mx) K:=by
     have Ik:(match MZ cx.pl.tok dst with
      |none=>Gb cx dst st.h t (ev st.t x) (BY st.t lo) (BY st.t hi) (BY st.t mx) K
      |some _=>ZT cx dst st.h t (ev st.t x) st.t lo hi mx K):=hk
     rw[hp]at Ik;exact Ik
    exact DP rfl (US hI hT hE (hE x) JP) hn
   |some _ =>
    have JP : ZT cx dst st.h t (ev st.t x) st.t lo hi mx K:=by
     have Ik:(match MZ cx.pl.tok dst with
      |none=>Gb cx dst st.h t (ev st.t x) (BY st.t lo) (BY st.t hi) (BY st.t mx) K
      |some _=>ZT cx dst st.h t (ev st.t x) st.t lo hi mx K):=hk
     rw[hp]at Ik;exact Ik
    cases lo with
    |some lo=>exact DP rfl (XL hI hT hE (hE x) JP) hn
    |none =>
     have Ur:MT cx dst st.h t (ev st.t x) none (BY st.t hi) mx K:=JP;unfold MT at Ur;split at Ur
     ·exact DP rfl (ZP hI hT hE (hE x) Ur) hn
     ·exact Ur.elim
 |fieldAddr s x f=>exact DP rfl (BF.does hI (aP hT (hE x) hk)) hn
 |field s x f=>exact DP rfl (BF.does hI (Yj hT (hE x) hk)) hn
 |indexAddr t x i=>exact DP rfl (BF.does hI (TO hT (hE x) (hE i) hk)) hn
 |index t x i=>exact DP rfl (BF.does hI (bn hT (hE x) (hE i) hk)) hn
 |lookup t x i ok =>
  have hk:Mk cx.T st.h t (ev st.t x) (ev st.t i) ok fun v=>K v st.h:=by
   cases dr with
   |true=>exact bz hk
   |false=>exact hk
  exact DP rfl (BF.does hI (YD hT hI.objs (hE x) (hE i) hk)) hn
 |mapUpdate t m k x=>exact Wc rfl (MQ hI hT (hE m) (hE k) (hE x) hk) hn
 |range t x =>
  simp only at hk;split at hk
  ·rename_i kt e ht;exact DP rfl (ce hI hT ht (hE x) hk) hn
  ·exact hk.elim
 |next it s =>
  cases s with
  |true=>exact hk.elim
  |false=>exact DP rfl (fN hI (hE it) hk) hn
 |entry it=>exact DP rfl (BF.does hI (aN hI.objs (hE it) hk)) hn
 |extract x i=>exact DP rfl (BF.does hI (WN (hE x) hk)) hn
 |call c =>
  obtain⟨lY,args,Gy⟩:=c;cases lY with
  |builtin b=>exact Wv hT hS hk hn
  |value f=>exact absurd rfl (hv f args Gy)
  |invoke r m=>exact hk.elim
 |_=>exact hk.elim
theorem db{cx:Cx}(hP:cx.P=P)(hY:∀l σ h g w,Ee σ=true→Dz w0 g0 h0 h g w→Le h0 g0 w0 h g w→cx.yp l σ (Do σ g) w){ro:Option Nat}(hT:Cq P cx.T){dr:Bool}{o:Oper}{K:HK}{next:Act→World→Prop}{Q:Exit→Act→World→Prop}(hS:SR N ds w0 g0 h0 st g a w)(hk:FD cx dr o st K)
  (hn:XU w0 g0 h0 st.h g w K fun x w'=>next (a.put o.dst x) w'):o.wpIn (Jp ro) 0 P a w next Q:=by
 by_cases hv:∃f args Gy,o.op=.call ⟨.value f,args,Gy⟩
 ·obtain⟨f,args,Gy,e⟩:=hv;obtain⟨dst,op,ty,pos,after,gd⟩:=o;cases e;exact dk hP hY hS hk hn
 ·refine Mo (fun c e=>?_) (iz hT hS hk (fun f args Gy e=>hv ⟨f,args,Gy,e⟩) hn);obtain⟨dst,op,ty,pos,after,gd⟩:=o;cases e;exact hk.elim
theorem qu{p:Nat→Prop}(h:∃n,p n):∃n,p n∧∀m,m<n→¬p m:=by
 apply AS;intro hc
 have:∀n,¬p n:=fun n=>by
  induction n using Nat.strongRecOn with
  |_ n ih=>exact fun hp=>hc ⟨n,hp,ih⟩
 obtain⟨n,hn⟩:=h;exact this n hn
theorem QL{F:Fence}{m:Nat}{c:Code}{Q:Exit→Act→World→Prop}(I:Nat→Act→World→Prop)(k:Nat)(h0:I k a w)
  (round:∀n a w,I n a w→c.wpIn F m P (Exit.then (fun a' w'=>∃n',n' < n∧I n' a' w') Q) a w):(Code.loop c).wpIn F m P Q a w:=by
 classical
 have hex:∀a w,(∃n,I n a w)→∃n,I n a w∧∀n',n' < n→¬I n' a w:=fun a w h=>qu h;refine wpIn_loop (fun a w=>∃n,I n a w) (fun a w=>if h:∃n,I n a w then(hex a w h).choose else 0) ⟨k,h0⟩ fun a w h=>?_;have hs:=(hex a w h).choose_spec;refine wpIn_mono (round _ a w hs.1) fun e a' w' q=>?_;cases e with
 |normal =>
  obtain⟨n',Ds,hn⟩:=q;have h' : ∃n,I n a' w':=⟨n',hn⟩;refine⟨h',?_⟩;simp only[dif_pos h,dif_pos h'];refine Nat.lt_of_le_of_lt ?_ Ds;apply Nat.le_of_not_lt;intro hc;exact(hex a' w' h').choose_spec.2 n' hc hn
 |_=>exact q
end
section
variable {P:Program}{N:Nat}{ds:List Deferred}{w0:World}{g0:Gh}{h0:Nat→HO}{st:St}{g:Gh}{a:Act}{w:World}
theorem aE{T:Gf}(hT:Cq P T){ty e k ty2 b o n c:Nat}(ht:(T ty).d=.slice e)(hk:(T e).size=k+1)(hz:(T e).zc.length=k+1)(QH:∀v∈(T e).zc,v.oneCell'=true){Fq:Array Value}{E:TypeId}
  (hb:w.heap[b]?=some (.cells Fq E (0,0))) (hn:0<n) (Hb:o+n*(k+1)≤Fq.size) :
  (Builtin.clear_ #[ty] ty2 #[.slice (some ⟨b,o,none⟩) n c]).run P w=.ok (.tuple #[]) (w.setRow b (over Fq.toList o (List.replicate n (T e).zc).flatten).toArray):=by
 obtain⟨z,z1,z2⟩:=U3 (w:=w) hT hk;have mP:(T e).zc≠[]:=fun e0=>by rw[e0]at hz;cases hz
 have mK:(Builtin.zeroCells z.cells n).toList=(List.replicate n (T e).zc).flatten:=by
  rw[Hz n _ mP,hz,z2];have e6:z.cells.size=k+1:=by rw[←hz,z2];simp
  unfold Builtin.zeroCells;simp[e6,Array.getElem!_eq_getD]
 have Cw:(List.replicate n (T e).zc).flatten.length=n*(k+1):=by
  rw[CZ (n:=k+1) (fun c hc=>by rw[B7 hc];exact hz),DD]
 have I7:=run_storeCells_at P b o E (List.replicate n (T e).zc).flatten 0 Fq w hb (by rw[Cw];simpa using Hb) (fun v hv=>by
  obtain⟨l,hl,hv⟩:=Eh.1 hv;rw[B7 hl]at hv;exact QH v hv)
 simp only[G8]at I7;rw[Mq _ _ _ (by rw[Cw];simpa using Hb)];obtain⟨m,rfl⟩:∃m,n=m+1:=⟨n-1,by omega⟩;simp only[Builtin.clear_,Sem.run_bind,FP,A4,run_underlying (hT.slice ht),Result.andThen_ok,z1,mK,I7,Sem.run_pure]
theorem Yc{T:Gf}(hT:Cq P T){ty e ty2 c:Nat}(ht:(T ty).d=.slice e)(x:Option Addr) :
  (Builtin.clear_ #[ty] ty2 #[.slice x 0 c]).run P w=.ok (.tuple #[]) w:=by
 cases x<;>simp only[Builtin.clear_,Sem.run_bind,FP,A4,run_underlying (hT.slice ht),Result.andThen_ok,Sem.run_pure]
theorem gt{d:Nat}{x:Value}(hd:d<a.tmps.size):(a.put (some d) x).eval (.tmp d)=x:=by
 show(a.tmps.setIfInBounds d x).getD d undef=x;rw[Ck,Array.getElem?_setIfInBounds_self,Ao hd];rfl
theorem eQ(h:Nat→HO)(r:Nat):AU h r (h r)=h:=funext fun i=>by
 by_cases e:i=r
 ·subst e;exact A9 ..
 ·exact BR _ _ _ _ e
theorem YA{o o2:Oper}(h:Ss o o2=true):∃ty x lo d ty2 pos after nx jW Vc,o=⟨some d,.slice ty x (some lo) none none,ty2,pos,after,none⟩∧o2=⟨none,.call ⟨.builtin .clear,#[.tmp d],#[ty]⟩,nx,jW,Vc,none⟩:=by
 obtain⟨dst,op,t2,p1,a1,gd⟩:=o;obtain⟨yq,op2,t3,p2,a2,ru⟩:=o2;unfold Ss at h;split at h
 ·rename_i c e1;split at h
  ·rename_i e2;split at h
   ·rename_i ty x lo e3;split at h
    ·rename_i d d' xU e4 e5 e6 e7 e8 e9;obtain⟨lY,⟨args⟩,⟨Gy⟩⟩:=c;simp only at e1 e2 e3 e4 e5 e6 e7 e8 e9;simp only[Af]at h;obtain rfl:=AH h.1;obtain rfl:=AH h.2;subst e1 e2 e3 e4 e5 e6 e7 e8 e9;exact⟨_,_,_,_,_,_,_,_,_,_,rfl,rfl⟩
    ·cases h
   ·cases h
  ·cases h
 ·cases h
theorem iN{cx:Cx}(hT:Cq P cx.T){ro:Option Nat}{o o2:Oper}(hd:∀i,o.dst=some i→i<N)(hc:Ss o o2=true){K:St→Prop}(hS:SR N ds w0 g0 h0 st g a w)(hk:aG cx o st K){next:Act→World→Prop}{Q:Exit→Act→World→Prop}
  (hn:∀D3 g' a' w',K D3→SR N ds w0 g0 h0 D3 g' a' w'→next a' w') :
  o.guard=none∧o2.guard=none∧o.wpIn (Jp ro) 0 P a w (fun a1 w1=>o2.wpIn (Jp ro) 0 P a1 w1 next Q) Q:=by
 obtain⟨ty,x,lo,d,ty2,pos,after,nx,jW,Vc,rfl,rfl⟩:=YA hc;refine⟨rfl,rfl,?_⟩;have hI:=hS.inv;have hE:=hS.eval;have tU:d<a.tmps.size:=by rw[hS.size];exact hd d rfl
 -- what is to be shown of the two operations
 have two:∀(v:Value) (D3 : St) (g' : Gh) (w' : World),(Instr.sliceAt ty (a.eval x) (some (a.eval lo)) none none).run P w=.ok v w→(Builtin.clear_ #[ty] nx #[v]).run P w=.ok (.tuple #[]) w'→K ⟨GT st.t d .junk,D3.h⟩→Dz w0 g0 h0 D3.h g' w'→Le st.h g w D3.h g' w' →
   Oper.wpIn (Jp ro) 0 P ⟨some d,.slice ty x (some lo) none none,ty2,pos,after,none⟩ a w (fun a1 w1=>Oper.wpIn (Jp ro) 0 P ⟨none,.call ⟨.builtin .clear,#[.tmp d],#[ty]⟩,nx,jW,Vc,none⟩ a1 w1 next Q) Q:=by
  intro v D3 g' w' r1 r2 hk yz Hb;refine Mo (by intro c e;cases e) ?_;unfold Oper.wp;have hx:execOp a.eval ⟨some d,.slice ty x (some lo) none none,ty2,pos,after,none⟩=(do pure (Next.value (←Instr.sliceAt ty (a.eval x) (some (a.eval lo)) none none))):=rfl;rw[hx,Sem.run_bind,r1];refine Mo (by intro c e;cases e) ?_;unfold Oper.wp;have oc:execOp (a.put (some d) v).eval ⟨none,.call ⟨.builtin .clear,#[.tmp d],#[ty]⟩,nx,jW,Vc,none⟩=(do pure (Next.value (←Builtin.clear_ #[ty] nx #[v]))):=by
   simp[execOp,resolve,invoke,builtin,gt tU]
  rw[oc,Sem.run_bind,r2];have S1:SR N ds w0 g0 h0 (st.put (some d) .junk st.h) g (a.put (some d) v) w:=hS.put hd hI (.refl _ _ _) (.junk _ _);have S2:SR N ds w0 g0 h0 ((st.put (some d) .junk st.h).put none (.v (.tuple #[])) D3.h) g' ((a.put (some d) v).put none (.tuple #[])) w':=S1.put (by intro i e;cases e) yz Hb (.v _ _);exact hn _ g' _ w' hk S2
 unfold aG at hk;simp only at hk;split at hk
 ·rename_i e hs;split at hk
  ·rename_i r n ex;split at hk
   ·rename_i i ei;split at hk
    ·rename_i sz es er;split at hk
     ·rename_i hb;obtain rfl:=AH hb;split at hk
      ·exact hk.elim
      ·rename_i k Et;split at hk
       ·rename_i Mz;have Mz:=AH Mz;obtain⟨⟨rfl,i0,i1⟩,hk⟩:=hk;unfold oY at hk;split at hk
        ·rename_i GE;have GE:∀v∈(cx.T e).zc,v.oneCell'=true:=Bs.1 GE;have ho:=hI.objs r;rw[er]at ho;obtain⟨t1,l1,al,a2⟩:=ho;have cR:=hE x;rw[ex]at cR;have rL:=hE lo;rw[ei]at rL;have rL:=rL.v_eq;generalize hvx:a.eval x=vx at cR two;rw[rL]at two;cases cR with
         |msl _ _ _ ad cap hu ht' W5 ha Li =>
          have hv:=Li l1.symm;have Og:es.length≤cap:=by
           rcases a2 with ⟨b1,_,_⟩ | ⟨b,KG,E,vs,b1,_,b3,_⟩
           ·subst b1;exact AO _
           ·rw[b1]at hv;cases hv;exact b3
          have CB:=EC (P:=P) (w:=w) hT hs Et ad es.length cap (some i) none none (.inl rfl) (by simpa using i0) (by simpa using i1) (by simpa using Og) (by simp);simp only[Co,DT,Cn,Fo,Option.map_none]at CB
          by_cases hz:i.toNat=es.length
          ·-- nothing is cleared
           have e1:es.length-i.toNat=0:=by omega
           rw[e1]at CB hk;refine two _ st g w CB (Yc hT hs _) ?_ hI (.refl _ _ _);have e2:es.take i.toNat++List.replicate 0 ((cx.T e).zc.map AV.v)=es:=by rw[List.replicate_zero,BT,hz,DA]
           rw[e2,←er,eQ]at hk;exact hk
          ·have Ds:i.toNat<es.length:=by omega
           rcases a2 with ⟨b1,_⟩ | ⟨b,KG,E,vs,b1,b2,b3,b4,b5,b6,b7⟩
           ·subst b1;simp at Ds
           ·rw[b1]at hv;cases hv;have Dt:¬cap=i.toNat:=by omega
            rw[Ai Dt]at CB;have tD:Option.map (fun x:Addr=>x.add (i.toNat*(cx.T e).size)) (some ⟨b,0,none⟩)=some ⟨b,i.toNat*(cx.T e).size,none⟩:=by simp[Addr.add];omega
            rw[tD]at CB;have Sh:es.length*(cx.T e).size≤cap*(cx.T e).size:=Be _ b3;have TK:i.toNat*(cx.T e).size+(es.length-i.toNat)*(cx.T e).size=es.length*(cx.T e).size:=by rw[←E2];congr 1;omega
            have hcl:=aE (w:=w) (ty2:=nx) (c:=cap-i.toNat) hT hs Et (Mz.trans Et) GE b4 (n:=es.length-i.toNat) (o:=i.toNat*(cx.T e).size) (by omega) (by rw[show k+1=(cx.T e).size from Et.symm,TK,b5];exact Sh);have hl:(st.h r).live:=by rw[er];trivial
            generalize hZ:(List.replicate (es.length-i.toNat) (cx.T e).zc).flatten=Z at hcl;have rE:Z.length=(es.length-i.toNat)*(cx.T e).size:=by
             rw[←hZ,CZ (n:=(cx.T e).size) (fun c hc=>by rw[B7 hc];exact Mz),DD]
            have K7:(es.take i.toNat++List.replicate (es.length-i.toNat) ((cx.T e).zc.map AV.v)).length=es.length:=by
             rw[Ac,AB,DD];omega
            have tE:∀c∈es.take i.toNat++List.replicate (es.length-i.toNat) ((cx.T e).zc.map AV.v),c.length=(cx.T e).size:=fun c hc=>by
             rcases AL.1 hc with h1 | h1
             ·exact al c (Ei h1)
             ·rw[B7 h1,A7];exact Mz
            have uI:vs.toList.length=cap*(cx.T e).size:=by rw[BW];exact b5
            have hfl:(es.take i.toNat++List.replicate (es.length-i.toNat) ((cx.T e).zc.map AV.v)).flatten=over es.flatten (i.toNat*(cx.T e).size) (Z.map AV.v):=by
             rw[Mq _ _ _ (by rw[A7,rE,TK,CZ al];exact Am _),Cy,M7 al,A7,rE,TK,FB (by rw[CZ al];exact Am _),BT,←hZ,Ri,List.map_replicate]
            have uD:((over vs.toList (i.toNat*(cx.T e).size) Z).toArray.toList.take (es.length*(cx.T e).size))=over (vs.toList.take (es.length*(cx.T e).size)) (i.toNat*(cx.T e).size) Z :=
             UL _ _ _ _ (by rw[rE,TK];exact Am _) (by rw[uI];exact Sh)
            have yN:Cu g w E8 (Z.map AV.v) Z:=Cu.vals (by
             have pB : ∀l:List AV,(∀a∈l,one a=true)→GL l=true:=by
              intro l
              induction l with
              |nil=>intro _;rfl
              |cons a l ih=>intro h;simp[GL,h a (List.mem_cons_self ..),ih (fun b hb=>h b (List.mem_cons_of_mem _ hb))]
             refine pB _ fun q hq=>?_;obtain⟨y,hy,rfl⟩:=Al.1 hq;rw[←hZ]at hy;obtain⟨l,hl,hy⟩:=Eh.1 hy;rw[B7 hl]at hy;exact GE y hy)
            have mF:Cu g w E8 (over es.flatten (i.toNat*(cx.T e).size) (Z.map AV.v)) (over (vs.toList.take (es.length*(cx.T e).size)) (i.toNat*(cx.T e).size) Z) :=
             b6.over yN _ (by rw[A7,rE,TK,CZ al];exact Am _)
            obtain⟨k1,k2⟩:=hI.write hl b2 (.arr (cx.T e).size (es.take i.toNat++List.replicate (es.length-i.toNat) ((cx.T e).zc.map AV.v))) b4 (over vs.toList (i.toNat*(cx.T e).size) Z).toArray (g.ln r) (g.own r) g.S (by simp) rfl (fun b' e=>by rw[b2]at e;cases e;rfl) (fun _ _ h=>h)
             (fun b' o hs=>.inl hs) (fun o hs=>absurd hs (b7 o)) (fun hg HL EJ=>by
              obtain⟨u1,u2,u3,u4⟩:=Bw g r (g.ρ r) (g.ln r) (g.tk r) (g.own r) g.S;refine⟨u3.trans t1,u2.trans (by rw[K7];exact l1),tE,.inr ⟨b,cap,E,_,?_,u4.trans b2,by rw[K7];exact b3,EJ,?_,?_,b7⟩⟩
              ·rw[u1,b1,K7]
              ·simp only[Fg,Fx,BW];exact b5
              ·rw[K7,uD,hfl];exact mF.mono HL (fun _ h=>h) (fun _ h=>h.elim))
            exact two _ ⟨st.t,_⟩ _ _ CB hcl hk k1 k2
        ·exact hk.elim
       ·exact hk.elim
     ·exact hk.elim
    ·exact hk.elim
   ·exact hk.elim
  ·exact hk.elim
 ·exact hk.elim
end
end Go.Eng
