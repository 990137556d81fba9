/- Lemmas for the claims of this seat, without a condition: part 12 (EngZB, EngZBc). -/
import Derived.Test.YtmcbkdbfaneofaaGreatDoorEA11
namespace Go.Eng
section
variable {P:Program}{N:Nat}{ds:List Deferred}{w0:World}{g0:Gh}{h0:Nat→HO}{st:St}{g:Gh}{a:Act}{w:World}
theorem W7{cx:Cx}(hT:Cz P cx.T){b:Builtin}{args:Array Operand}{GG:Array TypeId}{dst:Option Nat}{ty:Nat}{pos:String}{after:Array Edge}{gd:Option (Nat×Bool)}{K:HK}{next:Act→World→Prop}{Q:Exit→Act→World→Prop}
  (hS:SR N ds w0 g0 h0 st g a w) (hk:FQ cx dst st.h b GG.toList (args.toList.map (ev st.t)) K)
  (hn:YA w0 g0 h0 st.h g w K fun x w'=>next (a.put dst x) w'):Oper.wp P ⟨dst,.call ⟨.builtin b,args,GG⟩,ty,pos,after,gd⟩ a w next Q:=by
 have hI:=hS.inv;have hE:=hS.eval;obtain⟨l⟩:=args;obtain⟨tl⟩:=GG;unfold FQ at hk;split at hk
 ·rename_i x t e1 e2
  match l,e1 with
  | [y],e1 =>
   simp only[AN,E1,Fr,and_true]at e1;subst e1;simp only at e2;subst e2;exact DX (m:=Builtin.len_ #[t] ty #[a.eval y]) (by simp[execOp,resolve,invoke,builtin]) (BQ.does hI (gu hT hI.objs (hE y) hk)) hn
 ·rename_i s x t t' e1 e2
  match l,e1 with
  | [y,z],e1 =>
   simp only[AN,E1,Fr,and_true]at e1;obtain⟨rfl,rfl⟩:=e1;simp only at e2;subst e2;split at hk
   ·rename_i ht;obtain rfl:=AL ht;exact DX (m:=Builtin.append_ #[t,t] ty #[a.eval y,a.eval z]) (by simp[execOp,resolve,invoke,builtin]) (YJ hI hT (hE y) (hE z) hk) hn
   ·exact hk.elim
 ·rename_i x y GG e1
  match l,e1 with
  | [y,z],e1 =>
   simp only[AN,E1,Fr,and_true]at e1;obtain⟨rfl,rfl⟩:=e1;exact DX (m:=Builtin.max_ ⟨tl⟩ ty #[a.eval y,a.eval z]) (by simp[execOp,resolve,invoke,builtin]) (BQ.does hI (kB (hE y) (hE z) hk)) hn
 ·rename_i x y GG e1
  match l,e1 with
  | [y,z],e1 =>
   simp only[AN,E1,Fr,and_true]at e1;obtain⟨rfl,rfl⟩:=e1;exact DX (m:=Builtin.min_ ⟨tl⟩ ty #[a.eval y,a.eval z]) (by simp[execOp,resolve,invoke,builtin]) (BQ.does hI (kE (hE y) (hE z) hk)) hn
 ·exact hk.elim
theorem jt{cx:Cx}(hT:Cz P cx.T){dr:Bool}{o:Oper}{K:HK}{next:Act→World→Prop}{Q:Exit→Act→World→Prop}(hS:SR N ds w0 g0 h0 st g a w)(hk:FK cx dr o st K)
  (hv:∀f args GG,o.op≠.call ⟨.value f,args,GG⟩) (hn:YA w0 g0 h0 st.h g w K fun x w'=>next (a.put o.dst x) w'):o.wp P a w next Q:=by
 have hI:=hS.inv;have hE:=hS.eval;obtain⟨dst,op,ty,pos,after,gd⟩:=o;unfold FK at hk;cases op with
 |move x=>exact bq hI (x:=a.eval x) rfl hk (hE x) hn
 |assign x =>
  obtain⟨g',av,h',q1,q2,q3,q4⟩:=YM hI (hE x) hk;exact hn _ _ _ _ _ q1 q2 q3 q4
 |pick c x y=>exact DX (m:=do pure (if ←asBool (a.eval c)then a.eval x else a.eval y)) (by simp[execOp]) (BQ.does hI (gX (hE c) (hE x) (hE y) hk)) hn
 |alloc e=>exact DX rfl (bA hI hT hk) hn
 |box e x=>exact DX rfl (jA hI (hE x) hk) hn
 |build t ps=>exact DX rfl (BQ.does hI (bK hT hE hk)) hn
 |buildSlice t n ps=>exact DX rfl (Sd hI hT hE hk) hn
 |insert t m k x=>exact WJ rfl (Nm hI hT (hE m) (hE k) (hE x) hk) hn
 |load t x=>exact DX rfl (BQ.does hI (Vg hI.objs hT (hE x) hk)) hn
 |store t p x=>exact WJ rfl (dE hI hT (hE p) (hE x) hk) hn
 |nilCheck x =>
  obtain⟨h1,h2⟩:=Wr (P:=P) (w:=w) (hE x) hk (pos:=pos) (after:=after) (gd:=gd) (dst:=dst) (ty:=ty) (ρ:=a.eval) rfl;exact bq hI h1 h2 (hE x) hn
 |binOp op t x y u=>exact DX rfl (BQ.does hI (ee hT (hE x) (hE y) (fun v e=>by subst e;rfl) hk)) hn
 |unOp op t x=>exact DX rfl (BQ.does hI (iX (hE x) hk)) hn
 |convert s t x=>exact DX rfl (BQ.does hI (eY hT (hE x) hk)) hn
 |makeFunc fn first cap=>exact DX rfl (BQ.does hI (Wo hI.objs hE hk)) hn
 |makeMap t r =>
  cases r with
  |some r=>exact hk.elim
  |none=>exact DX rfl (XY hI hk) hn
 |makeSlice t n c=>exact DX rfl (Ur hI hT (hE n) (hE c) hk) hn
 |slice t x lo hi mx =>
  cases dr with
  |true =>
   cases hp:Nx cx.pl.tok dst with
   |none =>
    have J0 : Gi cx dst st.h t (ev st.t x) (B6 st.t lo) (B6 st.t hi) (B6 st.t mx) K:=by
     have It:(match Nx cx.pl.tok dst with
      |none=>Gi cx dst st.h t (ev st.t x) (B6 st.t lo) (B6 st.t hi) (B6 st.t mx) K
      |some _=>Nq cx dst st.h t (ev st.t x) lo (B6 st.t hi) mx K):=hk
     rw[hp]at It;exact It
    exact DX rfl (Vt hI hT hE (hE x) J0) hn
   |some _ =>
    have J0 : Nq cx dst st.h t (ev st.t x) lo (B6 st.t hi) mx K:=by
     have It:(match Nx cx.pl.tok dst with
      |none=>Gi cx dst st.h t (ev st.t x) (B6 st.t lo) (B6 st.t hi) (B6 st.t mx) K
      |some _=>Nq cx dst st.h t (ev st.t x) lo (B6 st.t hi) mx K):=hk
     rw[hp]at It;exact It
    unfold Nq at J0;split at J0
    ·exact DX rfl (aU hI hT hE (hE x) J0) hn
    ·exact J0.elim
  |false =>
   cases hp:Nx cx.pl.tok dst with
   |none =>
    have J0 : Gi cx dst st.h t (ev st.t x) (B6 st.t lo) (B6 st.t hi) (B6 st.t mx) K:=by
     have It:(match Nx cx.pl.tok dst with
      |none=>Gi cx dst st.h t (ev st.t x) (B6 st.t lo) (B6 st.t hi) (B6 st.t mx) K
      |some _=>aX cx dst st.h t (ev st.t x) st.t lo hi mx K):=hk
     rw[hp]at It;exact It
    exact DX rfl (Vt hI hT hE (hE x) J0) hn
   |some _ =>
    have J0 : aX cx dst st.h t (ev st.t x) st.t lo hi mx K:=by
     have It:(match Nx cx.pl.tok dst with
      |none=>Gi cx dst st.h t (ev st.t x) (B6 st.t lo) (B6 st.t hi) (B6 st.t mx) K
      |some _=>aX cx dst st.h t (ev st.t x) st.t lo hi mx K):=hk
     rw[hp]at It;exact It
    cases lo with
    |some lo=>exact DX rfl (Yq hI hT hE (hE x) J0) hn
    |none =>
     have U5:Nq cx dst st.h t (ev st.t x) none (B6 st.t hi) mx K:=J0;unfold Nq at U5;split at U5
     ·exact DX rfl (aU hI hT hE (hE x) U5) hn
     ·exact U5.elim
 |fieldAddr s x f=>exact DX rfl (BQ.does hI (bY hT (hE x) hk)) hn
 |field s x f=>exact DX rfl (BQ.does hI (Y4 hT (hE x) hk)) hn
 |indexAddr t x i=>exact DX rfl (BQ.does hI (Up hT (hE x) (hE i) hk)) hn
 |index t x i=>exact DX rfl (BQ.does hI (cz hT (hE x) (hE i) hk)) hn
 |lookup t x i ok =>
  have hk:MN cx.T st.h t (ev st.t x) (ev st.t i) ok fun v=>K v st.h:=by
   cases dr with
   |true=>exact cI hk
   |false=>exact hk
  exact DX rfl (BQ.does hI (Zs hT hI.objs (hE x) (hE i) hk)) hn
 |mapUpdate t m k x=>exact WJ rfl (Nm hI hT (hE m) (hE k) (hE x) hk) hn
 |range t x =>
  simp only at hk;split at hk
  ·rename_i kt e ht;exact DX rfl (du hI hT ht (hE x) hk) hn
  ·exact hk.elim
 |next it s =>
  cases s with
  |true=>exact hk.elim
  |false=>exact DX rfl (gL hI (hE it) hk) hn
 |entry it=>exact DX rfl (BQ.does hI (bW hI.objs (hE it) hk)) hn
 |extract x i=>exact DX rfl (BQ.does hI (Xr (hE x) hk)) hn
 |call c =>
  obtain⟨mW,args,GG⟩:=c;cases mW with
  |builtin b=>exact W7 hT hS hk hn
  |value f=>exact absurd rfl (hv f args GG)
  |invoke r m=>exact hk.elim
 |_=>exact hk.elim
theorem d6{cx:Cx}(hP:cx.P=P)(hY:∀l σ h g w,Ek σ=true→DJ w0 g0 h0 h g w→Le h0 g0 w0 h g w→cx.yp l σ (Dx σ g) w){ro:Option Nat}(hT:Cz P cx.T){dr:Bool}{o:Oper}{K:HK}{next:Act→World→Prop}{Q:Exit→Act→World→Prop}(hS:SR N ds w0 g0 h0 st g a w)(hk:FK cx dr o st K)
  (hn:YA w0 g0 h0 st.h g w K fun x w'=>next (a.put o.dst x) w'):o.wpIn (JB ro) 0 P a w next Q:=by
 by_cases hv:∃f args GG,o.op=.call ⟨.value f,args,GG⟩
 ·obtain⟨f,args,GG,e⟩:=hv;obtain⟨dst,op,ty,pos,after,gd⟩:=o;cases e;exact eG hP hY hS hk hn
 ·refine MR (fun c e=>?_) (jt hT hS hk (fun f args GG e=>hv ⟨f,args,GG,e⟩) hn);obtain⟨dst,op,ty,pos,after,gd⟩:=o;cases e;exact hk.elim
theorem md{p:Nat→Prop}(h:∃n,p n):∃n,p n∧∀m,m<n→¬p m:=by
 apply Bn;intro hc
 have:∀n,¬p n:=fun n=>by
  induction n using Nat.strongRecOn with
  |_ n ih=>exact fun hp=>hc ⟨n,hp,ih⟩
 obtain⟨n,hn⟩:=h;exact this n hn
theorem Rr{F:Fence}{m:Nat}{c:Code}{Q:Exit→Act→World→Prop}(I:Nat→Act→World→Prop)(k:Nat)(h0:I k a w)
  (round:∀n a w,I n a w→c.wpIn F m P (Exit.then (fun a' w'=>∃n',n' < n∧I n' a' w') Q) a w):(Code.loop c).wpIn F m P Q a w:=by
 classical
 have hex:∀a w,(∃n,I n a w)→∃n,I n a w∧∀n',n' < n→¬I n' a w:=fun a w h=>md h;refine wpIn_loop (fun a w=>∃n,I n a w) (fun a w=>if h:∃n,I n a w then(hex a w h).choose else 0) ⟨k,h0⟩ fun a w h=>?_;have hs:=(hex a w h).choose_spec;refine wpIn_mono (round _ a w hs.1) fun e a' w' q=>?_;cases e with
 |normal =>
  obtain⟨n',DI,hn⟩:=q;have h' : ∃n,I n a' w':=⟨n',hn⟩;refine⟨h',?_⟩;simp only[dif_pos h,dif_pos h'];refine Nat.lt_of_le_of_lt ?_ DI;apply Nat.le_of_not_lt;intro hc;exact(hex a' w' h').choose_spec.2 n' hc hn
 |_=>exact q
end
section
variable {P:Program}{N:Nat}{ds:List Deferred}{w0:World}{g0:Gh}{h0:Nat→HO}{st:St}{g:Gh}{a:Act}{w:World}
theorem bO{T:Gm}(hT:Cz P T){ty e k ty2 b o n c:Nat}(ht:(T ty).d=.slice e)(hk:(T e).size=k+1)(hz:(T e).zc.length=k+1)(Rm:∀v∈(T e).zc,v.oneCell'=true){Fy:Array Value}{E:TypeId}
  (hb:w.heap[b]?=some (.cells Fy E (0,0))) (hn:0<n) (Hi:o+n*(k+1)≤Fy.size) :
  (Builtin.clear_ #[ty] ty2 #[.slice (some ⟨b,o,none⟩) n c]).run P w=.ok (.tuple #[]) (w.setRow b (over Fy.toList o (List.replicate n (T e).zc).flatten).toArray):=by
 obtain⟨z,z1,z2⟩:=VF (w:=w) hT hk;have nL:(T e).zc≠[]:=fun e0=>by rw[e0]at hz;cases hz
 have nI:(Builtin.zeroCells z.cells n).toList=(List.replicate n (T e).zc).flatten:=by
  rw[HG n _ nL,hz,z2];have e6:z.cells.size=k+1:=by rw[←hz,z2];simp
  unfold Builtin.zeroCells;simp[e6,Array.getElem!_eq_getD]
 have CI:(List.replicate n (T e).zc).flatten.length=n*(k+1):=by
  rw[Df (n:=k+1) (fun c hc=>by rw[Cf hc];exact hz),Cr]
 have Jg:=run_storeCells_at P b o E (List.replicate n (T e).zc).flatten 0 Fy w hb (by rw[CI];simpa using Hi) (fun v hv=>by
  obtain⟨l,hl,hv⟩:=Ep.1 hv;rw[Cf hl]at hv;exact Rm v hv)
 simp only[DA]at Jg;rw[MT _ _ _ (by rw[CI];simpa using Hi)];obtain⟨m,rfl⟩:∃m,n=m+1:=⟨n-1,by omega⟩;simp only[Builtin.clear_,Sem.run_bind,FV,A8,run_underlying (hT.slice ht),Result.andThen_ok,z1,nI,Jg,Sem.run_pure]
theorem YV{T:Gm}(hT:Cz P T){ty e ty2 c:Nat}(ht:(T ty).d=.slice e)(x:Option Addr) :
  (Builtin.clear_ #[ty] ty2 #[.slice x 0 c]).run P w=.ok (.tuple #[]) w:=by
 cases x<;>simp only[Builtin.clear_,Sem.run_bind,FV,A8,run_underlying (hT.slice ht),Result.andThen_ok,Sem.run_pure]
theorem io{d:Nat}{x:Value}(hd:d<a.tmps.size):(a.put (some d) x).eval (.tmp d)=x:=by
 show(a.tmps.setIfInBounds d x).getD d undef=x;rw[Cv,Array.getElem?_setIfInBounds_self,Aw hd];rfl
theorem fV(h:Nat→HO)(r:Nat):AW h r (h r)=h:=funext fun i=>by
 by_cases e:i=r
 ·subst e;exact Bd ..
 ·exact BY _ _ _ _ e
theorem Zo{o o2:Oper}(h:Tc o o2=true):∃ty x lo d ty2 pos after oA kY VO,o=⟨some d,.slice ty x (some lo) none none,ty2,pos,after,none⟩∧o2=⟨none,.call ⟨.builtin .clear,#[.tmp d],#[ty]⟩,oA,kY,VO,none⟩:=by
 obtain⟨dst,op,t2,p1,a1,gd⟩:=o;obtain⟨y9,op2,t3,p2,a2,sc⟩:=o2;unfold Tc at h;split at h
 ·rename_i c e1;split at h
  ·rename_i e2;split at h
   ·rename_i ty x lo e3;split at h
    ·rename_i d d' yG e4 e5 e6 e7 e8 e9;obtain⟨mW,⟨args⟩,⟨GG⟩⟩:=c;simp only at e1 e2 e3 e4 e5 e6 e7 e8 e9;simp only[Ag]at h;obtain rfl:=AL h.1;obtain rfl:=AL h.2;subst e1 e2 e3 e4 e5 e6 e7 e8 e9;exact⟨_,_,_,_,_,_,_,_,_,_,rfl,rfl⟩
    ·cases h
   ·cases h
  ·cases h
 ·cases h
theorem jK{cx:Cx}(hT:Cz P cx.T){ro:Option Nat}{o o2:Oper}(hd:∀i,o.dst=some i→i<N)(hc:Tc o o2=true){K:St→Prop}(hS:SR N ds w0 g0 h0 st g a w)(hk:bQ cx o st K){next:Act→World→Prop}{Q:Exit→Act→World→Prop}
  (hn:∀Ea g' a' w',K Ea→SR N ds w0 g0 h0 Ea g' a' w'→next a' w') :
  o.guard=none∧o2.guard=none∧o.wpIn (JB ro) 0 P a w (fun a1 w1=>o2.wpIn (JB ro) 0 P a1 w1 next Q) Q:=by
 obtain⟨ty,x,lo,d,ty2,pos,after,oA,kY,VO,rfl,rfl⟩:=Zo hc;refine⟨rfl,rfl,?_⟩;have hI:=hS.inv;have hE:=hS.eval;have uA:d<a.tmps.size:=by rw[hS.size];exact hd d rfl
 -- what is to be shown of the two operations
 have two:∀(v:Value) (Ea : St) (g' : Gh) (w' : World),(Instr.sliceAt ty (a.eval x) (some (a.eval lo)) none none).run P w=.ok v w→(Builtin.clear_ #[ty] oA #[v]).run P w=.ok (.tuple #[]) w'→K ⟨G1 st.t d .junk,Ea.h⟩→DJ w0 g0 h0 Ea.h g' w'→Le st.h g w Ea.h g' w' →
   Oper.wpIn (JB ro) 0 P ⟨some d,.slice ty x (some lo) none none,ty2,pos,after,none⟩ a w (fun a1 w1=>Oper.wpIn (JB ro) 0 P ⟨none,.call ⟨.builtin .clear,#[.tmp d],#[ty]⟩,oA,kY,VO,none⟩ a1 w1 next Q) Q:=by
  intro v Ea g' w' r1 r2 hk zi Hi;refine MR (by intro c e;cases e) ?_;unfold Oper.wp;have hx:execOp a.eval ⟨some d,.slice ty x (some lo) none none,ty2,pos,after,none⟩=(do pure (Next.value (←Instr.sliceAt ty (a.eval x) (some (a.eval lo)) none none))):=rfl;rw[hx,Sem.run_bind,r1];refine MR (by intro c e;cases e) ?_;unfold Oper.wp;have o7:execOp (a.put (some d) v).eval ⟨none,.call ⟨.builtin .clear,#[.tmp d],#[ty]⟩,oA,kY,VO,none⟩=(do pure (Next.value (←Builtin.clear_ #[ty] oA #[v]))):=by
   simp[execOp,resolve,invoke,builtin,io uA]
  rw[o7,Sem.run_bind,r2];have S1:SR N ds w0 g0 h0 (st.put (some d) .junk st.h) g (a.put (some d) v) w:=hS.put hd hI (.refl _ _ _) (.junk _ _);have S2:SR N ds w0 g0 h0 ((st.put (some d) .junk st.h).put none (.v (.tuple #[])) Ea.h) g' ((a.put (some d) v).put none (.tuple #[])) w':=S1.put (by intro i e;cases e) zi Hi (.v _ _);exact hn _ g' _ w' hk S2
 unfold bQ at hk;simp only at hk;split at hk
 ·rename_i e hs;split at hk
  ·rename_i r n ex;split at hk
   ·rename_i i ei;split at hk
    ·rename_i sz es er;split at hk
     ·rename_i hb;obtain rfl:=AL hb;split at hk
      ·exact hk.elim
      ·rename_i k EF;split at hk
       ·rename_i M1;have M1:=AL M1;obtain⟨⟨rfl,i0,i1⟩,hk⟩:=hk;unfold pR at hk;split at hk
        ·rename_i FR;have FR:∀v∈(cx.T e).zc,v.oneCell'=true:=Br.1 FR;have ho:=hI.objs r;rw[er]at ho;obtain⟨t1,l1,al,a2⟩:=ho;have dQ:=hE x;rw[ex]at dQ;have sy:=hE lo;rw[ei]at sy;have sy:=sy.v_eq;generalize hvx:a.eval x=vx at dQ two;rw[sy]at two;cases dQ with
         |msl _ _ _ ad cap hu ht' XJ ha LG =>
          have hv:=LG l1.symm;have OK:es.length≤cap:=by
           rcases a2 with ⟨b1,_,_⟩ | ⟨b,LF,E,vs,b1,_,b3,_⟩
           ·subst b1;exact AO _
           ·rw[b1]at hv;cases hv;exact b3
          have CO:=EI (P:=P) (w:=w) hT hs EF ad es.length cap (some i) none none (.inl rfl) (by simpa using i0) (by simpa using i1) (by simpa using OK) (by simp);simp only[Cy,D0,Ci,Fw,Option.map_none]at CO
          by_cases hz:i.toNat=es.length
          ·-- nothing is cleared
           have e1:es.length-i.toNat=0:=by omega
           rw[e1]at CO hk;refine two _ st g w CO (YV hT hs _) ?_ hI (.refl _ _ _);have e2:es.take i.toNat++List.replicate 0 ((cx.T e).zc.map AV.v)=es:=by rw[List.replicate_zero,B1,hz,Du]
           rw[e2,←er,fV]at hk;exact hk
          ·have DI:i.toNat<es.length:=by omega
           rcases a2 with ⟨b1,_⟩ | ⟨b,LF,E,vs,b1,b2,b3,b4,b5,b6,b7⟩
           ·subst b1;simp at DI
           ·rw[b1]at hv;cases hv;have DC:¬cap=i.toNat:=by omega
            rw[Ah DC]at CO;have um:Option.map (fun x:Addr=>x.add (i.toNat*(cx.T e).size)) (some ⟨b,0,none⟩)=some ⟨b,i.toNat*(cx.T e).size,none⟩:=by simp[Addr.add];omega
            rw[um]at CO;have SU:es.length*(cx.T e).size≤cap*(cx.T e).size:=Bh _ b3;have OM:i.toNat*(cx.T e).size+(es.length-i.toNat)*(cx.T e).size=es.length*(cx.T e).size:=by rw[←E8];congr 1;omega
            have hcl:=bO (w:=w) (ty2:=oA) (c:=cap-i.toNat) hT hs EF (M1.trans EF) FR b4 (n:=es.length-i.toNat) (o:=i.toNat*(cx.T e).size) (by omega) (by rw[show k+1=(cx.T e).size from EF.symm,OM,b5];exact SU);have hl:(st.h r).live:=by rw[er];trivial
            generalize hZ:(List.replicate (es.length-i.toNat) (cx.T e).zc).flatten=Z at hcl;have so:Z.length=(es.length-i.toNat)*(cx.T e).size:=by
             rw[←hZ,Df (n:=(cx.T e).size) (fun c hc=>by rw[Cf hc];exact M1),Cr]
            have Lx:(es.take i.toNat++List.replicate (es.length-i.toNat) ((cx.T e).zc.map AV.v)).length=es.length:=by
             rw[Ad,AJ,Cr];omega
            have un:∀c∈es.take i.toNat++List.replicate (es.length-i.toNat) ((cx.T e).zc.map AV.v),c.length=(cx.T e).size:=fun c hc=>by
             rcases A7.1 hc with h1 | h1
             ·exact al c (Er h1)
             ·rw[Cf h1,Ba];exact M1
            have vt:vs.toList.length=cap*(cx.T e).size:=by rw[B4];exact b5
            have hfl:(es.take i.toNat++List.replicate (es.length-i.toNat) ((cx.T e).zc.map AV.v)).flatten=over es.flatten (i.toNat*(cx.T e).size) (Z.map AV.v):=by
             rw[MT _ _ _ (by rw[Ba,so,OM,Df al];exact Aj _),CK,NF al,Ba,so,OM,He (by rw[Df al];exact Aj _),B1,←hZ,RO,List.map_replicate]
            have vh:((over vs.toList (i.toNat*(cx.T e).size) Z).toArray.toList.take (es.length*(cx.T e).size))=over (vs.toList.take (es.length*(cx.T e).size)) (i.toNat*(cx.T e).size) Z :=
             Vn _ _ _ _ (by rw[so,OM];exact Aj _) (by rw[vt];exact SU)
            have zy:CG g w Fp (Z.map AV.v) Z:=CG.vals (by
             have qh : ∀l:List AV,(∀a∈l,one a=true)→GV l=true:=by
              intro l
              induction l with
              |nil=>intro _;rfl
              |cons a l ih=>intro h;simp[GV,h a (List.mem_cons_self ..),ih (fun b hb=>h b (List.mem_cons_of_mem _ hb))]
             refine qh _ fun q hq=>?_;obtain⟨y,hy,rfl⟩:=Ak.1 hq;rw[←hZ]at hy;obtain⟨l,hl,hy⟩:=Ep.1 hy;rw[Cf hl]at hy;exact FR y hy)
            have nD:CG g w Fp (over es.flatten (i.toNat*(cx.T e).size) (Z.map AV.v)) (over (vs.toList.take (es.length*(cx.T e).size)) (i.toNat*(cx.T e).size) Z) :=
             b6.over zy _ (by rw[Ba,so,OM,Df al];exact Aj _)
            obtain⟨k1,k2⟩:=hI.write hl b2 (.arr (cx.T e).size (es.take i.toNat++List.replicate (es.length-i.toNat) ((cx.T e).zc.map AV.v))) b4 (over vs.toList (i.toNat*(cx.T e).size) Z).toArray (g.ln r) (g.own r) g.S (by simp) rfl (fun b' e=>by rw[b2]at e;cases e;rfl) (fun _ _ h=>h)
             (fun b' o hs=>.inl hs) (fun o hs=>absurd hs (b7 o)) (fun hg HQ EN=>by
              obtain⟨u1,u2,u3,u4⟩:=Bz g r (g.ρ r) (g.ln r) (g.tk r) (g.own r) g.S;refine⟨u3.trans t1,u2.trans (by rw[Lx];exact l1),un,.inr ⟨b,cap,E,_,?_,u4.trans b2,by rw[Lx];exact b3,EN,?_,?_,b7⟩⟩
              ·rw[u1,b1,Lx]
              ·simp only[Fm,FF,B4];exact b5
              ·rw[Lx,vh,hfl];exact nD.mono HQ (fun _ h=>h) (fun _ h=>h.elim))
            exact two _ ⟨st.t,_⟩ _ _ CO hcl hk k1 k2
        ·exact hk.elim
       ·exact hk.elim
     ·exact hk.elim
    ·exact hk.elim
   ·exact hk.elim
  ·exact hk.elim
 ·exact hk.elim
end
end Go.Eng
