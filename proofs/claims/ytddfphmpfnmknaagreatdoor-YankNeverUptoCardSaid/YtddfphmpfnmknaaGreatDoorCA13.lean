/- Lemmas for the claims of this seat, without a condition: part 13 (EngZB, EngZBc). -/
import Derived.Test.YtddfphmpfnmknaaGreatDoorCA12
namespace Go.Eng
section
variable {P:Program}{N:Nat}{ds:List Deferred}{w0:World}{g0:Gh}{h0:Nat→HO}{st:St}{g:Gh}{a:Act}{w:World}
theorem WY{cx:Cx}(hT:Ck P cx.T){b:Builtin}{args:Array Operand}{GG:Array TypeId}{dst:Option Nat}{ty:Nat}{pos:String}{after:Array Edge}{gd:Option (Nat×Bool)}{K:HK}{next:Act→World→Prop}{Q:Exit→Act→World→Prop}
  (hS:SR N ds w0 g0 h0 st g a w) (hk:FW cx dst st.h b GG.toList (args.toList.map (ev st.t)) K)
  (hn:Yx w0 g0 h0 st.h g w K fun x w'=>next (a.put dst x) w'):Oper.wp P ⟨dst,.call ⟨.builtin b,args,GG⟩,ty,pos,after,gd⟩ a w next Q:=by
 have hI:=hS.inv;have hE:=hS.eval;obtain⟨l⟩:=args;obtain⟨tl⟩:=GG;unfold FW at hk;split at hk
 ·rename_i x t e1 e2
  match l,e1 with
  | [y],e1 =>
   simp only[AH,E1,Ft,and_true]at e1;subst e1;simp only at e2;subst e2;exact DV (m:=Builtin.len_ #[t] ty #[a.eval y]) (by simp[execOp,resolve,invoke,builtin]) (BG.does hI (gp hT hI.objs (hE y) hk)) hn
 ·rename_i s x t t' e1 e2
  match l,e1 with
  | [y,z],e1 =>
   simp only[AH,E1,Ft,and_true]at e1;obtain⟨rfl,rfl⟩:=e1;simp only at e2;subst e2;split at hk
   ·rename_i ht;obtain rfl:=AI ht;exact DV (m:=Builtin.append_ #[t,t] ty #[a.eval y,a.eval z]) (by simp[execOp,resolve,invoke,builtin]) (YH hI hT (hE y) (hE z) hk) hn
   ·exact hk.elim
 ·rename_i x y GG e1
  match l,e1 with
  | [y,z],e1 =>
   simp only[AH,E1,Ft,and_true]at e1;obtain⟨rfl,rfl⟩:=e1;exact DV (m:=Builtin.max_ ⟨tl⟩ ty #[a.eval y,a.eval z]) (by simp[execOp,resolve,invoke,builtin]) (BG.does hI (kj (hE y) (hE z) hk)) hn
 ·rename_i x y GG e1
  match l,e1 with
  | [y,z],e1 =>
   simp only[AH,E1,Ft,and_true]at e1;obtain⟨rfl,rfl⟩:=e1;exact DV (m:=Builtin.min_ ⟨tl⟩ ty #[a.eval y,a.eval z]) (by simp[execOp,resolve,invoke,builtin]) (BG.does hI (kl (hE y) (hE z) hk)) hn
 ·exact hk.elim
theorem jh{cx:Cx}(hT:Ck P cx.T){dr:Bool}{o:Oper}{K:HK}{next:Act→World→Prop}{Q:Exit→Act→World→Prop}(hS:SR N ds w0 g0 h0 st g a w)(hk:FL cx dr o st K)
  (hv:∀f args GG,o.op≠.call ⟨.value f,args,GG⟩) (hn:Yx w0 g0 h0 st.h g w K fun x w'=>next (a.put o.dst x) w'):o.wp P a w next Q:=by
 have hI:=hS.inv;have hE:=hS.eval;obtain⟨dst,op,ty,pos,after,gd⟩:=o;unfold FL at hk;cases op with
 |move x=>exact bc hI (x:=a.eval x) rfl hk (hE x) hn
 |assign x =>
  obtain⟨g',av,h',q1,q2,q3,q4⟩:=YI hI (hE x) hk;exact hn _ _ _ _ _ q1 q2 q3 q4
 |pick c x y=>exact DV (m:=do pure (if ←asBool (a.eval c)then a.eval x else a.eval y)) (by simp[execOp]) (BG.does hI (gT (hE c) (hE x) (hE y) hk)) hn
 |alloc e=>exact DV rfl (bn hI hT hk) hn
 |box e x=>exact DV rfl (jo hI (hE x) hk) hn
 |build t ps=>exact DV rfl (BG.does hI (bz hT hE hk)) hn
 |buildSlice t n ps=>exact DV rfl (RV hI hT hE hk) hn
 |insert t m k x=>exact WG rfl (Nb hI hT (hE m) (hE k) (hE x) hk) hn
 |load t x=>exact DV rfl (BG.does hI (U2 hI.objs hT (hE x) hk)) hn
 |store t p x=>exact WG rfl (dv hI hT (hE p) (hE x) hk) hn
 |nilCheck x =>
  obtain⟨h1,h2⟩:=Wp (P:=P) (w:=w) (hE x) hk (pos:=pos) (after:=after) (gd:=gd) (dst:=dst) (ty:=ty) (ρ:=a.eval) rfl;exact bc hI h1 h2 (hE x) hn
 |binOp op t x y u=>exact DV rfl (BG.does hI (dY hT (hE x) (hE y) (fun v e=>by subst e;rfl) hk)) hn
 |unOp op t x=>exact DV rfl (BG.does hI (iI (hE x) hk)) hn
 |convert s t x=>exact DV rfl (BG.does hI (eH hT (hE x) hk)) hn
 |makeFunc fn first cap=>exact DV rfl (BG.does hI (Wn hI.objs hE hk)) hn
 |makeMap t r =>
  cases r with
  |some r=>exact hk.elim
  |none=>exact DV rfl (XT hI hk) hn
 |makeSlice t n c=>exact DV rfl (Uh hI hT (hE n) (hE c) hk) hn
 |slice t x lo hi mx =>
  cases dr with
  |true =>
   cases hp:No cx.pl.tok dst with
   |none =>
    have J6 : Gm cx dst st.h t (ev st.t x) (B3 st.t lo) (B3 st.t hi) (B3 st.t mx) K:=by
     have Ir:(match No cx.pl.tok dst with
      |none=>Gm cx dst st.h t (ev st.t x) (B3 st.t lo) (B3 st.t hi) (B3 st.t mx) K
      |some _=>Nh cx dst st.h t (ev st.t x) lo (B3 st.t hi) mx K):=hk
     rw[hp]at Ir;exact Ir
    exact DV rfl (Vh hI hT hE (hE x) J6) hn
   |some _ =>
    have J6 : Nh cx dst st.h t (ev st.t x) lo (B3 st.t hi) mx K:=by
     have Ir:(match No cx.pl.tok dst with
      |none=>Gm cx dst st.h t (ev st.t x) (B3 st.t lo) (B3 st.t hi) (B3 st.t mx) K
      |some _=>Nh cx dst st.h t (ev st.t x) lo (B3 st.t hi) mx K):=hk
     rw[hp]at Ir;exact Ir
    unfold Nh at J6;split at J6
    ·exact DV rfl (aL hI hT hE (hE x) J6) hn
    ·exact J6.elim
  |false =>
   cases hp:No cx.pl.tok dst with
   |none =>
    have J6 : Gm cx dst st.h t (ev st.t x) (B3 st.t lo) (B3 st.t hi) (B3 st.t mx) K:=by
     have Ir:(match No cx.pl.tok dst with
      |none=>Gm cx dst st.h t (ev st.t x) (B3 st.t lo) (B3 st.t hi) (B3 st.t mx) K
      |some _=>aO cx dst st.h t (ev st.t x) st.t lo hi mx K):=hk
     rw[hp]at Ir;exact Ir
    exact DV rfl (Vh hI hT hE (hE x) J6) hn
   |some _ =>
    have J6 : aO cx dst st.h t (ev st.t x) st.t lo hi mx K:=by
     have Ir:(match No cx.pl.tok dst with
      |none=>Gm cx dst st.h t (ev st.t x) (B3 st.t lo) (B3 st.t hi) (B3 st.t mx) K
      |some _=>aO cx dst st.h t (ev st.t x) st.t lo hi mx K):=hk
     rw[hp]at Ir;exact Ir
    cases lo with
    |some lo=>exact DV rfl (Yl hI hT hE (hE x) J6) hn
    |none =>
     have UR:Nh cx dst st.h t (ev st.t x) none (B3 st.t hi) mx K:=J6;unfold Nh at UR;split at UR
     ·exact DV rfl (aL hI hT hE (hE x) UR) hn
     ·exact UR.elim
 |fieldAddr s x f=>exact DV rfl (BG.does hI (bO hT (hE x) hk)) hn
 |field s x f=>exact DV rfl (BG.does hI (YW hT (hE x) hk)) hn
 |indexAddr t x i=>exact DV rfl (BG.does hI (Uf hT (hE x) (hE i) hk)) hn
 |index t x i=>exact DV rfl (BG.does hI (cg hT (hE x) (hE i) hk)) hn
 |lookup t x i ok =>
  have hk:MG cx.T st.h t (ev st.t x) (ev st.t i) ok fun v=>K v st.h:=by
   cases dr with
   |true=>exact cw hk
   |false=>exact hk
  exact DV rfl (BG.does hI (Zd hT hI.objs (hE x) (hE i) hk)) hn
 |mapUpdate t m k x=>exact WG rfl (Nb hI hT (hE m) (hE k) (hE x) hk) hn
 |range t x =>
  simp only at hk;split at hk
  ·rename_i kt e ht;exact DV rfl (df hI hT ht (hE x) hk) hn
  ·exact hk.elim
 |next it s =>
  cases s with
  |true=>exact hk.elim
  |false=>exact DV rfl (gF hI (hE it) hk) hn
 |entry it=>exact DV rfl (BG.does hI (bM hI.objs (hE it) hk)) hn
 |extract x i=>exact DV rfl (BG.does hI (Xh (hE x) hk)) hn
 |call c =>
  obtain⟨mR,args,GG⟩:=c;cases mR with
  |builtin b=>exact WY hT hS hk hn
  |value f=>exact absurd rfl (hv f args GG)
  |invoke r m=>exact hk.elim
 |_=>exact hk.elim
theorem dW{cx:Cx}(hP:cx.P=P)(hY:∀l σ h g w,Ek σ=true→DA w0 g0 h0 h g w→Le h0 g0 w0 h g w→cx.yp l σ (Dn σ g) w){ro:Option Nat}(hT:Ck P cx.T){dr:Bool}{o:Oper}{K:HK}{next:Act→World→Prop}{Q:Exit→Act→World→Prop}(hS:SR N ds w0 g0 h0 st g a w)(hk:FL cx dr o st K)
  (hn:Yx w0 g0 h0 st.h g w K fun x w'=>next (a.put o.dst x) w'):o.wpIn (JB ro) 0 P a w next Q:=by
 by_cases hv:∃f args GG,o.op=.call ⟨.value f,args,GG⟩
 ·obtain⟨f,args,GG,e⟩:=hv;obtain⟨dst,op,ty,pos,after,gd⟩:=o;cases e;exact d7 hP hY hS hk hn
 ·refine MK (fun c e=>?_) (jh hT hS hk (fun f args GG e=>hv ⟨f,args,GG,e⟩) hn);obtain⟨dst,op,ty,pos,after,gd⟩:=o;cases e;exact hk.elim
theorem re{p:Nat→Prop}(h:∃n,p n):∃n,p n∧∀m,m<n→¬p m:=by
 apply AW;intro hc
 have:∀n,¬p n:=fun n=>by
  induction n using Nat.strongRecOn with
  |_ n ih=>exact fun hp=>hc ⟨n,hp,ih⟩
 obtain⟨n,hn⟩:=h;exact this n hn
theorem Rh{F:Fence}{m:Nat}{c:Code}{Q:Exit→Act→World→Prop}(I:Nat→Act→World→Prop)(k:Nat)(h0:I k a w)
  (round:∀n a w,I n a w→c.wpIn F m P (Exit.then (fun a' w'=>∃n',n' < n∧I n' a' w') Q) a w):(Code.loop c).wpIn F m P Q a w:=by
 classical
 have hex:∀a w,(∃n,I n a w)→∃n,I n a w∧∀n',n' < n→¬I n' a w:=fun a w h=>re h;refine wpIn_loop (fun a w=>∃n,I n a w) (fun a w=>if h:∃n,I n a w then(hex a w h).choose else 0) ⟨k,h0⟩ fun a w h=>?_;have hs:=(hex a w h).choose_spec;refine wpIn_mono (round _ a w hs.1) fun e a' w' q=>?_;cases e with
 |normal =>
  obtain⟨n',Dz,hn⟩:=q;have h' : ∃n,I n a' w':=⟨n',hn⟩;refine⟨h',?_⟩;simp only[dif_pos h,dif_pos h'];refine Nat.lt_of_le_of_lt ?_ Dz;apply Nat.le_of_not_lt;intro hc;exact(hex a' w' h').choose_spec.2 n' hc hn
 |_=>exact q
end
section
variable {P:Program}{N:Nat}{ds:List Deferred}{w0:World}{g0:Gh}{h0:Nat→HO}{st:St}{g:Gh}{a:Act}{w:World}
theorem bC{T:Gr}(hT:Ck P T){ty e k ty2 b o n c:Nat}(ht:(T ty).d=.slice e)(hk:(T e).size=k+1)(hz:(T e).zc.length=k+1)(Rd:∀v∈(T e).zc,v.oneCell'=true){Fx:Array Value}{E:TypeId}
  (hb:w.heap[b]?=some (.cells Fx E (0,0))) (hn:0<n) (Hg:o+n*(k+1)≤Fx.size) :
  (Builtin.clear_ #[ty] ty2 #[.slice (some ⟨b,o,none⟩) n c]).run P w=.ok (.tuple #[]) (w.setRow b (over Fx.toList o (List.replicate n (T e).zc).flatten).toArray):=by
 obtain⟨z,z1,z2⟩:=Vt (w:=w) hT hk;have nN:(T e).zc≠[]:=fun e0=>by rw[e0]at hz;cases hz
 have nI:(Builtin.zeroCells z.cells n).toList=(List.replicate n (T e).zc).flatten:=by
  rw[HG n _ nN,hz,z2];have e6:z.cells.size=k+1:=by rw[←hz,z2];simp
  unfold Builtin.zeroCells;simp[e6,Array.getElem!_eq_getD]
 have Cn:(List.replicate n (T e).zc).flatten.length=n*(k+1):=by
  rw[CY (n:=k+1) (fun c hc=>by rw[B9 hc];exact hz),DG]
 have Jf:=run_storeCells_at P b o E (List.replicate n (T e).zc).flatten 0 Fx w hb (by rw[Cn];simpa using Hg) (fun v hv=>by
  obtain⟨l,hl,hv⟩:=DY.1 hv;rw[B9 hl]at hv;exact Rd v hv)
 simp only[Gd]at Jf;rw[MM _ _ _ (by rw[Cn];simpa using Hg)];obtain⟨m,rfl⟩:∃m,n=m+1:=⟨n-1,by omega⟩;simp only[Builtin.clear_,Sem.run_bind,FZ,A5,run_underlying (hT.slice ht),Result.andThen_ok,z1,nI,Jf,Sem.run_pure]
theorem YQ{T:Gr}(hT:Ck P T){ty e ty2 c:Nat}(ht:(T ty).d=.slice e)(x:Option Addr) :
  (Builtin.clear_ #[ty] ty2 #[.slice x 0 c]).run P w=.ok (.tuple #[]) w:=by
 cases x<;>simp only[Builtin.clear_,Sem.run_bind,FZ,A5,run_underlying (hT.slice ht),Result.andThen_ok,Sem.run_pure]
theorem hJ{d:Nat}{x:Value}(hd:d<a.tmps.size):(a.put (some d) x).eval (.tmp d)=x:=by
 show(a.tmps.setIfInBounds d x).getD d undef=x;rw[Cg,Array.getElem?_setIfInBounds_self,Ao hd];rfl
theorem fN(h:Nat→HO)(r:Nat):AR h r (h r)=h:=funext fun i=>by
 by_cases e:i=r
 ·subst e;exact A8 ..
 ·exact BT _ _ _ _ e
theorem Za{o o2:Oper}(h:SU o o2=true):∃ty x lo d ty2 pos after oy kL VC,o=⟨some d,.slice ty x (some lo) none none,ty2,pos,after,none⟩∧o2=⟨none,.call ⟨.builtin .clear,#[.tmp d],#[ty]⟩,oy,kL,VC,none⟩:=by
 obtain⟨dst,op,t2,p1,a1,gd⟩:=o;obtain⟨ze,op2,t3,p2,a2,sq⟩:=o2;unfold SU at h;split at h
 ·rename_i c e1;split at h
  ·rename_i e2;split at h
   ·rename_i ty x lo e3;split at h
    ·rename_i d d' yI e4 e5 e6 e7 e8 e9;obtain⟨mR,⟨args⟩,⟨GG⟩⟩:=c;simp only at e1 e2 e3 e4 e5 e6 e7 e8 e9;simp only[Af]at h;obtain rfl:=AI h.1;obtain rfl:=AI h.2;subst e1 e2 e3 e4 e5 e6 e7 e8 e9;exact⟨_,_,_,_,_,_,_,_,_,_,rfl,rfl⟩
    ·cases h
   ·cases h
  ·cases h
 ·cases h
theorem jv{cx:Cx}(hT:Ck P cx.T){ro:Option Nat}{o o2:Oper}(hd:∀i,o.dst=some i→i<N)(hc:SU o o2=true){K:St→Prop}(hS:SR N ds w0 g0 h0 st g a w)(hk:bE cx o st K){next:Act→World→Prop}{Q:Exit→Act→World→Prop}
  (hn:∀Eb g' a' w',K Eb→SR N ds w0 g0 h0 Eb g' a' w'→next a' w') :
  o.guard=none∧o2.guard=none∧o.wpIn (JB ro) 0 P a w (fun a1 w1=>o2.wpIn (JB ro) 0 P a1 w1 next Q) Q:=by
 obtain⟨ty,x,lo,d,ty2,pos,after,oy,kL,VC,rfl,rfl⟩:=Za hc;refine⟨rfl,rfl,?_⟩;have hI:=hS.inv;have hE:=hS.eval;have uK:d<a.tmps.size:=by rw[hS.size];exact hd d rfl
 -- what is to be shown of the two operations
 have two:∀(v:Value) (Eb : St) (g' : Gh) (w' : World),(Instr.sliceAt ty (a.eval x) (some (a.eval lo)) none none).run P w=.ok v w→(Builtin.clear_ #[ty] oy #[v]).run P w=.ok (.tuple #[]) w'→K ⟨G0 st.t d .junk,Eb.h⟩→DA w0 g0 h0 Eb.h g' w'→Le st.h g w Eb.h g' w' →
   Oper.wpIn (JB ro) 0 P ⟨some d,.slice ty x (some lo) none none,ty2,pos,after,none⟩ a w (fun a1 w1=>Oper.wpIn (JB ro) 0 P ⟨none,.call ⟨.builtin .clear,#[.tmp d],#[ty]⟩,oy,kL,VC,none⟩ a1 w1 next Q) Q:=by
  intro v Eb g' w' r1 r2 hk zm Hg;refine MK (by intro c e;cases e) ?_;unfold Oper.wp;have hx:execOp a.eval ⟨some d,.slice ty x (some lo) none none,ty2,pos,after,none⟩=(do pure (Next.value (←Instr.sliceAt ty (a.eval x) (some (a.eval lo)) none none))):=rfl;rw[hx,Sem.run_bind,r1];refine MK (by intro c e;cases e) ?_;unfold Oper.wp;have pd:execOp (a.put (some d) v).eval ⟨none,.call ⟨.builtin .clear,#[.tmp d],#[ty]⟩,oy,kL,VC,none⟩=(do pure (Next.value (←Builtin.clear_ #[ty] oy #[v]))):=by
   simp[execOp,resolve,invoke,builtin,hJ uK]
  rw[pd,Sem.run_bind,r2];have S1:SR N ds w0 g0 h0 (st.put (some d) .junk st.h) g (a.put (some d) v) w:=hS.put hd hI (.refl _ _ _) (.junk _ _);have S2:SR N ds w0 g0 h0 ((st.put (some d) .junk st.h).put none (.v (.tuple #[])) Eb.h) g' ((a.put (some d) v).put none (.tuple #[])) w':=S1.put (by intro i e;cases e) zm Hg (.v _ _);exact hn _ g' _ w' hk S2
 unfold bE at hk;simp only at hk;split at hk
 ·rename_i e hs;split at hk
  ·rename_i r n ex;split at hk
   ·rename_i i ei;split at hk
    ·rename_i sz es er;split at hk
     ·rename_i hb;obtain rfl:=AI hb;split at hk
      ·exact hk.elim
      ·rename_i k EC;split at hk
       ·rename_i MU;have MU:=AI MU;obtain⟨⟨rfl,i0,i1⟩,hk⟩:=hk;unfold pP at hk;split at hk
        ·rename_i GM;have GM:∀v∈(cx.T e).zc,v.oneCell'=true:=Bk.1 GM;have ho:=hI.objs r;rw[er]at ho;obtain⟨t1,l1,al,a2⟩:=ho;have dL:=hE x;rw[ex]at dL;have sI:=hE lo;rw[ei]at sI;have sI:=sI.v_eq;generalize hvx:a.eval x=vx at dL two;rw[sI]at two;cases dL with
         |msl _ _ _ ad cap hu ht' XF ha JM =>
          have hv:=JM l1.symm;have OF:es.length≤cap:=by
           rcases a2 with ⟨b1,_,_⟩ | ⟨b,KU,E,vs,b1,_,b3,_⟩
           ·subst b1;exact AL _
           ·rw[b1]at hv;cases hv;exact b3
          have CB:=EJ (P:=P) (w:=w) hT hs EC ad es.length cap (some i) none none (.inl rfl) (by simpa using i0) (by simpa using i1) (by simpa using OF) (by simp);simp only[Ci,D1,Ch,Fv,Option.map_none]at CB
          by_cases hz:i.toNat=es.length
          ·-- nothing is cleared
           have e1:es.length-i.toNat=0:=by omega
           rw[e1]at CB hk;refine two _ st g w CB (YQ hT hs _) ?_ hI (.refl _ _ _);have e2:es.take i.toNat++List.replicate 0 ((cx.T e).zc.map AV.v)=es:=by rw[List.replicate_zero,BV,hz,DZ]
           rw[e2,←er,fN]at hk;exact hk
          ·have Dz:i.toNat<es.length:=by omega
           rcases a2 with ⟨b1,_⟩ | ⟨b,KU,E,vs,b1,b2,b3,b4,b5,b6,b7⟩
           ·subst b1;simp at Dz
           ·rw[b1]at hv;cases hv;have Dr:¬cap=i.toNat:=by omega
            rw[Ah Dr]at CB;have uw:Option.map (fun x:Addr=>x.add (i.toNat*(cx.T e).size)) (some ⟨b,0,none⟩)=some ⟨b,i.toNat*(cx.T e).size,none⟩:=by simp[Addr.add];omega
            rw[uw]at CB;have PD:es.length*(cx.T e).size≤cap*(cx.T e).size:=Bc _ b3;have Ub:i.toNat*(cx.T e).size+(es.length-i.toNat)*(cx.T e).size=es.length*(cx.T e).size:=by rw[←EN];congr 1;omega
            have hcl:=bC (w:=w) (ty2:=oy) (c:=cap-i.toNat) hT hs EC (MU.trans EC) GM b4 (n:=es.length-i.toNat) (o:=i.toNat*(cx.T e).size) (by omega) (by rw[show k+1=(cx.T e).size from EC.symm,Ub,b5];exact PD);have hl:(st.h r).live:=by rw[er];trivial
            generalize hZ:(List.replicate (es.length-i.toNat) (cx.T e).zc).flatten=Z at hcl;have sA:Z.length=(es.length-i.toNat)*(cx.T e).size:=by
             rw[←hZ,CY (n:=(cx.T e).size) (fun c hc=>by rw[B9 hc];exact MU),DG]
            have Lu:(es.take i.toNat++List.replicate (es.length-i.toNat) ((cx.T e).zc.map AV.v)).length=es.length:=by
             rw[Ad,AD,DG];omega
            have uy:∀c∈es.take i.toNat++List.replicate (es.length-i.toNat) ((cx.T e).zc.map AV.v),c.length=(cx.T e).size:=fun c hc=>by
             rcases AU.1 hc with h1 | h1
             ·exact al c (Eo h1)
             ·rw[B9 h1,A4];exact MU
            have vH:vs.toList.length=cap*(cx.T e).size:=by rw[BY];exact b5
            have hfl:(es.take i.toNat++List.replicate (es.length-i.toNat) ((cx.T e).zc.map AV.v)).flatten=over es.flatten (i.toNat*(cx.T e).size) (Z.map AV.v):=by
             rw[MM _ _ _ (by rw[A4,sA,Ub,CY al];exact Al _),Cv,Nx al,A4,sA,Ub,FI (by rw[CY al];exact Al _),BV,←hZ,RI,List.map_replicate]
            have vC:((over vs.toList (i.toNat*(cx.T e).size) Z).toArray.toList.take (es.length*(cx.T e).size))=over (vs.toList.take (es.length*(cx.T e).size)) (i.toNat*(cx.T e).size) Z :=
             Va _ _ _ _ (by rw[sA,Ub];exact Al _) (by rw[vH];exact PD)
            have zB:Ct g w Fg (Z.map AV.v) Z:=Ct.vals (by
             have qj : ∀l:List AV,(∀a∈l,one a=true)→GS l=true:=by
              intro l
              induction l with
              |nil=>intro _;rfl
              |cons a l ih=>intro h;simp[GS,h a (List.mem_cons_self ..),ih (fun b hb=>h b (List.mem_cons_of_mem _ hb))]
             refine qj _ fun q hq=>?_;obtain⟨y,hy,rfl⟩:=Aj.1 hq;rw[←hZ]at hy;obtain⟨l,hl,hy⟩:=DY.1 hy;rw[B9 hl]at hy;exact GM y hy)
            have nD:Ct g w Fg (over es.flatten (i.toNat*(cx.T e).size) (Z.map AV.v)) (over (vs.toList.take (es.length*(cx.T e).size)) (i.toNat*(cx.T e).size) Z) :=
             b6.over zB _ (by rw[A4,sA,Ub,CY al];exact Al _)
            obtain⟨k1,k2⟩:=hI.write hl b2 (.arr (cx.T e).size (es.take i.toNat++List.replicate (es.length-i.toNat) ((cx.T e).zc.map AV.v))) b4 (over vs.toList (i.toNat*(cx.T e).size) Z).toArray (g.ln r) (g.own r) g.S (by simp) rfl (fun b' e=>by rw[b2]at e;cases e;rfl) (fun _ _ h=>h)
             (fun b' o hs=>.inl hs) (fun o hs=>absurd hs (b7 o)) (fun hg HT ES=>by
              obtain⟨u1,u2,u3,u4⟩:=Bw g r (g.ρ r) (g.ln r) (g.tk r) (g.own r) g.S;refine⟨u3.trans t1,u2.trans (by rw[Lu];exact l1),uy,.inr ⟨b,cap,E,_,?_,u4.trans b2,by rw[Lu];exact b3,ES,?_,?_,b7⟩⟩
              ·rw[u1,b1,Lu]
              ·simp only[Fq,FE,BY];exact b5
              ·rw[Lu,vC,hfl];exact nD.mono HT (fun _ h=>h) (fun _ h=>h.elim))
            exact two _ ⟨st.t,_⟩ _ _ CB hcl hk k1 k2
        ·exact hk.elim
       ·exact hk.elim
     ·exact hk.elim
    ·exact hk.elim
   ·exact hk.elim
  ·exact hk.elim
 ·exact hk.elim
end
end Go.Eng
