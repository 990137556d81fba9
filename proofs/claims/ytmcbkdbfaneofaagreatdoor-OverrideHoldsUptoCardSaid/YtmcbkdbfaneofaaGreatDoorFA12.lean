/- Lemmas for the claims of this seat, without a condition: part 12 (EngZB, EngZBc). -/
import Derived.Test.YtmcbkdbfaneofaaGreatDoorFA11
namespace Go.Eng
section
variable {P:Program}{N:Nat}{ds:List Deferred}{w0:World}{g0:Gh}{h0:Nat→HO}{st:St}{g:Gh}{a:Act}{w:World}
theorem W0{cx:Cx}(hT:CB P cx.T){b:Builtin}{args:Array Operand}{GL:Array TypeId}{dst:Option Nat}{ty:Nat}{pos:String}{after:Array Edge}{gd:Option (Nat×Bool)}{K:HK}{next:Act→World→Prop}{Q:Exit→Act→World→Prop}
  (hS:SR N ds w0 g0 h0 st g a w) (hk:FW cx dst st.h b GL.toList (args.toList.map (ev st.t)) K)
  (hn:Yy w0 g0 h0 st.h g w K fun x w'=>next (a.put dst x) w'):Oper.wp P ⟨dst,.call ⟨.builtin b,args,GL⟩,ty,pos,after,gd⟩ a w next Q:=by
 have hI:=hS.inv;have hE:=hS.eval;obtain⟨l⟩:=args;obtain⟨tl⟩:=GL;unfold FW at hk;split at hk
 ·rename_i x t e1 e2
  match l,e1 with
  | [y],e1 =>
   simp only[AN,E5,Fw,and_true]at e1;subst e1;simp only at e2;subst e2;exact DZ (m:=Builtin.len_ #[t] ty #[a.eval y]) (by simp[execOp,resolve,invoke,builtin]) (BS.does hI (gH hT hI.objs (hE y) hk)) hn
 ·rename_i s x t t' e1 e2
  match l,e1 with
  | [y,z],e1 =>
   simp only[AN,E5,Fw,and_true]at e1;obtain⟨rfl,rfl⟩:=e1;simp only at e2;subst e2;split at hk
   ·rename_i ht;obtain rfl:=AO ht;exact DZ (m:=Builtin.append_ #[t,t] ty #[a.eval y,a.eval z]) (by simp[execOp,resolve,invoke,builtin]) (YH hI hT (hE y) (hE z) hk) hn
   ·exact hk.elim
 ·rename_i x y GL e1
  match l,e1 with
  | [y,z],e1 =>
   simp only[AN,E5,Fw,and_true]at e1;obtain⟨rfl,rfl⟩:=e1;exact DZ (m:=Builtin.max_ ⟨tl⟩ ty #[a.eval y,a.eval z]) (by simp[execOp,resolve,invoke,builtin]) (BS.does hI (kT (hE y) (hE z) hk)) hn
 ·rename_i x y GL e1
  match l,e1 with
  | [y,z],e1 =>
   simp only[AN,E5,Fw,and_true]at e1;obtain⟨rfl,rfl⟩:=e1;exact DZ (m:=Builtin.min_ ⟨tl⟩ ty #[a.eval y,a.eval z]) (by simp[execOp,resolve,invoke,builtin]) (BS.does hI (kV (hE y) (hE z) hk)) hn
 ·exact hk.elim
theorem jJ{cx:Cx}(hT:CB P cx.T){dr:Bool}{o:Oper}{K:HK}{next:Act→World→Prop}{Q:Exit→Act→World→Prop}(hS:SR N ds w0 g0 h0 st g a w)(hk:FO cx dr o st K)
  (hv:∀f args GL,o.op≠.call ⟨.value f,args,GL⟩) (hn:Yy w0 g0 h0 st.h g w K fun x w'=>next (a.put o.dst x) w'):o.wp P a w next Q:=by
 have hI:=hS.inv;have hE:=hS.eval;obtain⟨dst,op,ty,pos,after,gd⟩:=o;unfold FO at hk;cases op with
 |move x=>exact bA hI (x:=a.eval x) rfl hk (hE x) hn
 |assign x =>
  obtain⟨g',av,h',q1,q2,q3,q4⟩:=YK hI (hE x) hk;exact hn _ _ _ _ _ q1 q2 q3 q4
 |pick c x y=>exact DZ (m:=do pure (if ←asBool (a.eval c)then a.eval x else a.eval y)) (by simp[execOp]) (BS.does hI (ip (hE c) (hE x) (hE y) hk)) hn
 |alloc e=>exact DZ rfl (bI hI hT hk) hn
 |box e x=>exact DZ rfl (jQ hI (hE x) hk) hn
 |build t ps=>exact DZ rfl (BS.does hI (bR hT hE hk)) hn
 |buildSlice t n ps=>exact DZ rfl (Se hI hT hE hk) hn
 |insert t m k x=>exact WG rfl (Nj hI hT (hE m) (hE k) (hE x) hk) hn
 |load t x=>exact DZ rfl (BS.does hI (Va hI.objs hT (hE x) hk)) hn
 |store t p x=>exact WG rfl (dJ hI hT (hE p) (hE x) hk) hn
 |nilCheck x =>
  obtain⟨h1,h2⟩:=Wp (P:=P) (w:=w) (hE x) hk (pos:=pos) (after:=after) (gd:=gd) (dst:=dst) (ty:=ty) (ρ:=a.eval) rfl;exact bA hI h1 h2 (hE x) hn
 |binOp op t x y u=>exact DZ rfl (BS.does hI (eI hT (hE x) (hE y) (fun v e=>by subst e;rfl) hk)) hn
 |unOp op t x=>exact DZ rfl (BS.does hI (jm (hE x) hk)) hn
 |convert s t x=>exact DZ rfl (BS.does hI (fh hT (hE x) hk)) hn
 |makeFunc fn first cap=>exact DZ rfl (BS.does hI (Wm hI.objs hE hk)) hn
 |makeMap t r =>
  cases r with
  |some r=>exact hk.elim
  |none=>exact DZ rfl (XW hI hk) hn
 |makeSlice t n c=>exact DZ rfl (Up hI hT (hE n) (hE c) hk) hn
 |slice t x lo hi mx =>
  cases dr with
  |true =>
   cases hp:Nv cx.pl.tok dst with
   |none =>
    have J6 : Gp cx dst st.h t (ev st.t x) (B6 st.t lo) (B6 st.t hi) (B6 st.t mx) K:=by
     have Iv:(match Nv cx.pl.tok dst with
      |none=>Gp cx dst st.h t (ev st.t x) (B6 st.t lo) (B6 st.t hi) (B6 st.t mx) K
      |some _=>No cx dst st.h t (ev st.t x) lo (B6 st.t hi) mx K):=hk
     rw[hp]at Iv;exact Iv
    exact DZ rfl (Vp hI hT hE (hE x) J6) hn
   |some _ =>
    have J6 : No cx dst st.h t (ev st.t x) lo (B6 st.t hi) mx K:=by
     have Iv:(match Nv cx.pl.tok dst with
      |none=>Gp cx dst st.h t (ev st.t x) (B6 st.t lo) (B6 st.t hi) (B6 st.t mx) K
      |some _=>No cx dst st.h t (ev st.t x) lo (B6 st.t hi) mx K):=hk
     rw[hp]at Iv;exact Iv
    unfold No at J6;split at J6
    ·exact DZ rfl (bc hI hT hE (hE x) J6) hn
    ·exact J6.elim
  |false =>
   cases hp:Nv cx.pl.tok dst with
   |none =>
    have J6 : Gp cx dst st.h t (ev st.t x) (B6 st.t lo) (B6 st.t hi) (B6 st.t mx) K:=by
     have Iv:(match Nv cx.pl.tok dst with
      |none=>Gp cx dst st.h t (ev st.t x) (B6 st.t lo) (B6 st.t hi) (B6 st.t mx) K
      |some _=>bi cx dst st.h t (ev st.t x) st.t lo hi mx K):=hk
     rw[hp]at Iv;exact Iv
    exact DZ rfl (Vp hI hT hE (hE x) J6) hn
   |some _ =>
    have J6 : bi cx dst st.h t (ev st.t x) st.t lo hi mx K:=by
     have Iv:(match Nv cx.pl.tok dst with
      |none=>Gp cx dst st.h t (ev st.t x) (B6 st.t lo) (B6 st.t hi) (B6 st.t mx) K
      |some _=>bi cx dst st.h t (ev st.t x) st.t lo hi mx K):=hk
     rw[hp]at Iv;exact Iv
    cases lo with
    |some lo=>exact DZ rfl (Yo hI hT hE (hE x) J6) hn
    |none =>
     have U2:No cx dst st.h t (ev st.t x) none (B6 st.t hi) mx K:=J6;unfold No at U2;split at U2
     ·exact DZ rfl (bc hI hT hE (hE x) U2) hn
     ·exact U2.elim
 |fieldAddr s x f=>exact DZ rfl (BS.does hI (cf hT (hE x) hk)) hn
 |field s x f=>exact DZ rfl (BS.does hI (Y3 hT (hE x) hk)) hn
 |indexAddr t x i=>exact DZ rfl (BS.does hI (Un hT (hE x) (hE i) hk)) hn
 |index t x i=>exact DZ rfl (BS.does hI (cH hT (hE x) (hE i) hk)) hn
 |lookup t x i ok =>
  have hk:MJ cx.T st.h t (ev st.t x) (ev st.t i) ok fun v=>K v st.h:=by
   cases dr with
   |true=>exact cP hk
   |false=>exact hk
  exact DZ rfl (BS.does hI (Zs hT hI.objs (hE x) (hE i) hk)) hn
 |mapUpdate t m k x=>exact WG rfl (Nj hI hT (hE m) (hE k) (hE x) hk) hn
 |range t x =>
  simp only at hk;split at hk
  ·rename_i kt e ht;exact DZ rfl (dB hI hT ht (hE x) hk) hn
  ·exact hk.elim
 |next it s =>
  cases s with
  |true=>exact hk.elim
  |false=>exact DZ rfl (gY hI (hE it) hk) hn
 |entry it=>exact DZ rfl (BS.does hI (cd hI.objs (hE it) hk)) hn
 |extract x i=>exact DZ rfl (BS.does hI (Xm (hE x) hk)) hn
 |call c =>
  obtain⟨nq,args,GL⟩:=c;cases nq with
  |builtin b=>exact W0 hT hS hk hn
  |value f=>exact absurd rfl (hv f args GL)
  |invoke r m=>exact hk.elim
 |_=>exact hk.elim
theorem eu{cx:Cx}(hP:cx.P=P)(hY:∀l σ h g w,Eo σ=true→DM w0 g0 h0 h g w→Le h0 g0 w0 h g w→cx.yp l σ (Dy σ g) w){ro:Option Nat}(hT:CB P cx.T){dr:Bool}{o:Oper}{K:HK}{next:Act→World→Prop}{Q:Exit→Act→World→Prop}(hS:SR N ds w0 g0 h0 st g a w)(hk:FO cx dr o st K)
  (hn:Yy w0 g0 h0 st.h g w K fun x w'=>next (a.put o.dst x) w'):o.wpIn (JD ro) 0 P a w next Q:=by
 by_cases hv:∃f args GL,o.op=.call ⟨.value f,args,GL⟩
 ·obtain⟨f,args,GL,e⟩:=hv;obtain⟨dst,op,ty,pos,after,gd⟩:=o;cases e;exact eT hP hY hS hk hn
 ·refine MN (fun c e=>?_) (jJ hT hS hk (fun f args GL e=>hv ⟨f,args,GL,e⟩) hn);obtain⟨dst,op,ty,pos,after,gd⟩:=o;cases e;exact hk.elim
theorem mz{p:Nat→Prop}(h:∃n,p n):∃n,p n∧∀m,m<n→¬p m:=by
 apply Bn;intro hc
 have:∀n,¬p n:=fun n=>by
  induction n using Nat.strongRecOn with
  |_ n ih=>exact fun hp=>hc ⟨n,hp,ih⟩
 obtain⟨n,hn⟩:=h;exact this n hn
theorem Rt{F:Fence}{m:Nat}{c:Code}{Q:Exit→Act→World→Prop}(I:Nat→Act→World→Prop)(k:Nat)(h0:I k a w)
  (round:∀n a w,I n a w→c.wpIn F m P (Exit.then (fun a' w'=>∃n',n' < n∧I n' a' w') Q) a w):(Code.loop c).wpIn F m P Q a w:=by
 classical
 have hex:∀a w,(∃n,I n a w)→∃n,I n a w∧∀n',n' < n→¬I n' a w:=fun a w h=>mz h;refine wpIn_loop (fun a w=>∃n,I n a w) (fun a w=>if h:∃n,I n a w then(hex a w h).choose else 0) ⟨k,h0⟩ fun a w h=>?_;have hs:=(hex a w h).choose_spec;refine wpIn_mono (round _ a w hs.1) fun e a' w' q=>?_;cases e with
 |normal =>
  obtain⟨n',DL,hn⟩:=q;have h' : ∃n,I n a' w':=⟨n',hn⟩;refine⟨h',?_⟩;simp only[dif_pos h,dif_pos h'];refine Nat.lt_of_le_of_lt ?_ DL;apply Nat.le_of_not_lt;intro hc;exact(hex a' w' h').choose_spec.2 n' hc hn
 |_=>exact q
end
section
variable {P:Program}{N:Nat}{ds:List Deferred}{w0:World}{g0:Gh}{h0:Nat→HO}{st:St}{g:Gh}{a:Act}{w:World}
theorem bU{T:Gt}(hT:CB P T){ty e k ty2 b o n c:Nat}(ht:(T ty).d=.slice e)(hk:(T e).size=k+1)(hz:(T e).zc.length=k+1)(Rm:∀v∈(T e).zc,v.oneCell'=true){FC:Array Value}{E:TypeId}
  (hb:w.heap[b]?=some (.cells FC E (0,0))) (hn:0<n) (Hl:o+n*(k+1)≤FC.size) :
  (Builtin.clear_ #[ty] ty2 #[.slice (some ⟨b,o,none⟩) n c]).run P w=.ok (.tuple #[]) (w.setRow b (over FC.toList o (List.replicate n (T e).zc).flatten).toArray):=by
 obtain⟨z,z1,z2⟩:=VB (w:=w) hT hk;have oe:(T e).zc≠[]:=fun e0=>by rw[e0]at hz;cases hz
 have n8:(Builtin.zeroCells z.cells n).toList=(List.replicate n (T e).zc).flatten:=by
  rw[HI n _ oe,hz,z2];have e6:z.cells.size=k+1:=by rw[←hz,z2];simp
  unfold Builtin.zeroCells;simp[e6,Array.getElem!_eq_getD]
 have CJ:(List.replicate n (T e).zc).flatten.length=n*(k+1):=by
  rw[Dh (n:=k+1) (fun c hc=>by rw[Cg hc];exact hz),Cr]
 have Jh:=run_storeCells_at P b o E (List.replicate n (T e).zc).flatten 0 FC w hb (by rw[CJ];simpa using Hl) (fun v hv=>by
  obtain⟨l,hl,hv⟩:=Eu.1 hv;rw[Cg hl]at hv;exact Rm v hv)
 simp only[DC]at Jh;rw[MP _ _ _ (by rw[CJ];simpa using Hl)];obtain⟨m,rfl⟩:∃m,n=m+1:=⟨n-1,by omega⟩;simp only[Builtin.clear_,Sem.run_bind,F0,A9,run_underlying (hT.slice ht),Result.andThen_ok,z1,n8,Jh,Sem.run_pure]
theorem YU{T:Gt}(hT:CB P T){ty e ty2 c:Nat}(ht:(T ty).d=.slice e)(x:Option Addr) :
  (Builtin.clear_ #[ty] ty2 #[.slice x 0 c]).run P w=.ok (.tuple #[]) w:=by
 cases x<;>simp only[Builtin.clear_,Sem.run_bind,F0,A9,run_underlying (hT.slice ht),Result.andThen_ok,Sem.run_pure]
theorem iG{d:Nat}{x:Value}(hd:d<a.tmps.size):(a.put (some d) x).eval (.tmp d)=x:=by
 show(a.tmps.setIfInBounds d x).getD d undef=x;rw[Cw,Array.getElem?_setIfInBounds_self,Aw hd];rfl
theorem gn(h:Nat→HO)(r:Nat):AW h r (h r)=h:=funext fun i=>by
 by_cases e:i=r
 ·subst e;exact Bd ..
 ·exact BZ _ _ _ _ e
theorem Zn{o o2:Oper}(h:Tb o o2=true):∃ty x lo d ty2 pos after oU lw VK,o=⟨some d,.slice ty x (some lo) none none,ty2,pos,after,none⟩∧o2=⟨none,.call ⟨.builtin .clear,#[.tmp d],#[ty]⟩,oU,lw,VK,none⟩:=by
 obtain⟨dst,op,t2,p1,a1,gd⟩:=o;obtain⟨zC,op2,t3,p2,a2,sE⟩:=o2;unfold Tb at h;split at h
 ·rename_i c e1;split at h
  ·rename_i e2;split at h
   ·rename_i ty x lo e3;split at h
    ·rename_i d d' zd e4 e5 e6 e7 e8 e9;obtain⟨nq,⟨args⟩,⟨GL⟩⟩:=c;simp only at e1 e2 e3 e4 e5 e6 e7 e8 e9;simp only[Ag]at h;obtain rfl:=AO h.1;obtain rfl:=AO h.2;subst e1 e2 e3 e4 e5 e6 e7 e8 e9;exact⟨_,_,_,_,_,_,_,_,_,_,rfl,rfl⟩
    ·cases h
   ·cases h
  ·cases h
 ·cases h
theorem jZ{cx:Cx}(hT:CB P cx.T){ro:Option Nat}{o o2:Oper}(hd:∀i,o.dst=some i→i<N)(hc:Tb o o2=true){K:St→Prop}(hS:SR N ds w0 g0 h0 st g a w)(hk:bW cx o st K){next:Act→World→Prop}{Q:Exit→Act→World→Prop}
  (hn:∀Ed g' a' w',K Ed→SR N ds w0 g0 h0 Ed g' a' w'→next a' w') :
  o.guard=none∧o2.guard=none∧o.wpIn (JD ro) 0 P a w (fun a1 w1=>o2.wpIn (JD ro) 0 P a1 w1 next Q) Q:=by
 obtain⟨ty,x,lo,d,ty2,pos,after,oU,lw,VK,rfl,rfl⟩:=Zn hc;refine⟨rfl,rfl,?_⟩;have hI:=hS.inv;have hE:=hS.eval;have uX:d<a.tmps.size:=by rw[hS.size];exact hd d rfl
 -- what is to be shown of the two operations
 have two:∀(v:Value) (Ed : St) (g' : Gh) (w' : World),(Instr.sliceAt ty (a.eval x) (some (a.eval lo)) none none).run P w=.ok v w→(Builtin.clear_ #[ty] oU #[v]).run P w=.ok (.tuple #[]) w'→K ⟨G4 st.t d .junk,Ed.h⟩→DM w0 g0 h0 Ed.h g' w'→Le st.h g w Ed.h g' w' →
   Oper.wpIn (JD ro) 0 P ⟨some d,.slice ty x (some lo) none none,ty2,pos,after,none⟩ a w (fun a1 w1=>Oper.wpIn (JD ro) 0 P ⟨none,.call ⟨.builtin .clear,#[.tmp d],#[ty]⟩,oU,lw,VK,none⟩ a1 w1 next Q) Q:=by
  intro v Ed g' w' r1 r2 hk zL Hl;refine MN (by intro c e;cases e) ?_;unfold Oper.wp;have hx:execOp a.eval ⟨some d,.slice ty x (some lo) none none,ty2,pos,after,none⟩=(do pure (Next.value (←Instr.sliceAt ty (a.eval x) (some (a.eval lo)) none none))):=rfl;rw[hx,Sem.run_bind,r1];refine MN (by intro c e;cases e) ?_;unfold Oper.wp;have pt:execOp (a.put (some d) v).eval ⟨none,.call ⟨.builtin .clear,#[.tmp d],#[ty]⟩,oU,lw,VK,none⟩=(do pure (Next.value (←Builtin.clear_ #[ty] oU #[v]))):=by
   simp[execOp,resolve,invoke,builtin,iG uX]
  rw[pt,Sem.run_bind,r2];have S1:SR N ds w0 g0 h0 (st.put (some d) .junk st.h) g (a.put (some d) v) w:=hS.put hd hI (.refl _ _ _) (.junk _ _);have S2:SR N ds w0 g0 h0 ((st.put (some d) .junk st.h).put none (.v (.tuple #[])) Ed.h) g' ((a.put (some d) v).put none (.tuple #[])) w':=S1.put (by intro i e;cases e) zL Hl (.v _ _);exact hn _ g' _ w' hk S2
 unfold bW at hk;simp only at hk;split at hk
 ·rename_i e hs;split at hk
  ·rename_i r n ex;split at hk
   ·rename_i i ei;split at hk
    ·rename_i sz es er;split at hk
     ·rename_i hb;obtain rfl:=AO hb;split at hk
      ·exact hk.elim
      ·rename_i k EK;split at hk
       ·rename_i MY;have MY:=AO MY;obtain⟨⟨rfl,i0,i1⟩,hk⟩:=hk;unfold qf at hk;split at hk
        ·rename_i FX;have FX:∀v∈(cx.T e).zc,v.oneCell'=true:=Bs.1 FX;have ho:=hI.objs r;rw[er]at ho;obtain⟨t1,l1,al,a2⟩:=ho;have dU:=hE x;rw[ex]at dU;have sT:=hE lo;rw[ei]at sT;have sT:=sT.v_eq;generalize hvx:a.eval x=vx at dU two;rw[sT]at two;cases dU with
         |msl _ _ _ ad cap hu ht' XG ha LF =>
          have hv:=LF l1.symm;have OJ:es.length≤cap:=by
           rcases a2 with ⟨b1,_,_⟩ | ⟨b,LE,E,vs,b1,_,b3,_⟩
           ·subst b1;exact AL _
           ·rw[b1]at hv;cases hv;exact b3
          have CP:=EN (P:=P) (w:=w) hT hs EK ad es.length cap (some i) none none (.inl rfl) (by simpa using i0) (by simpa using i1) (by simpa using OJ) (by simp);simp only[Cz,D2,Cj,FA,Option.map_none]at CP
          by_cases hz:i.toNat=es.length
          ·-- nothing is cleared
           have e1:es.length-i.toNat=0:=by omega
           rw[e1]at CP hk;refine two _ st g w CP (YU hT hs _) ?_ hI (.refl _ _ _);have e2:es.take i.toNat++List.replicate 0 ((cx.T e).zc.map AV.v)=es:=by rw[List.replicate_zero,B2,hz,Dv]
           rw[e2,←er,gn]at hk;exact hk
          ·have DL:i.toNat<es.length:=by omega
           rcases a2 with ⟨b1,_⟩ | ⟨b,LE,E,vs,b1,b2,b3,b4,b5,b6,b7⟩
           ·subst b1;simp at DL
           ·rw[b1]at hv;cases hv;have DE:¬cap=i.toNat:=by omega
            rw[Ai DE]at CP;have uL:Option.map (fun x:Addr=>x.add (i.toNat*(cx.T e).size)) (some ⟨b,0,none⟩)=some ⟨b,i.toNat*(cx.T e).size,none⟩:=by simp[Addr.add];omega
            rw[uL]at CP;have ST:es.length*(cx.T e).size≤cap*(cx.T e).size:=Bh _ b3;have OL:i.toNat*(cx.T e).size+(es.length-i.toNat)*(cx.T e).size=es.length*(cx.T e).size:=by rw[←Fc];congr 1;omega
            have hcl:=bU (w:=w) (ty2:=oU) (c:=cap-i.toNat) hT hs EK (MY.trans EK) FX b4 (n:=es.length-i.toNat) (o:=i.toNat*(cx.T e).size) (by omega) (by rw[show k+1=(cx.T e).size from EK.symm,OL,b5];exact ST);have hl:(st.h r).live:=by rw[er];trivial
            generalize hZ:(List.replicate (es.length-i.toNat) (cx.T e).zc).flatten=Z at hcl;have sL:Z.length=(es.length-i.toNat)*(cx.T e).size:=by
             rw[←hZ,Dh (n:=(cx.T e).size) (fun c hc=>by rw[Cg hc];exact MY),Cr]
            have Lw:(es.take i.toNat++List.replicate (es.length-i.toNat) ((cx.T e).zc.map AV.v)).length=es.length:=by
             rw[Ad,AJ,Cr];omega
            have uM:∀c∈es.take i.toNat++List.replicate (es.length-i.toNat) ((cx.T e).zc.map AV.v),c.length=(cx.T e).size:=fun c hc=>by
             rcases A8.1 hc with h1 | h1
             ·exact al c (Ev h1)
             ·rw[Cg h1,Bb];exact MY
            have vU:vs.toList.length=cap*(cx.T e).size:=by rw[B5];exact b5
            have hfl:(es.take i.toNat++List.replicate (es.length-i.toNat) ((cx.T e).zc.map AV.v)).flatten=over es.flatten (i.toNat*(cx.T e).size) (Z.map AV.v):=by
             rw[MP _ _ _ (by rw[Bb,sL,OL,Dh al];exact Ak _),CL,NC al,Bb,sL,OL,Hi (by rw[Dh al];exact Ak _),B2,←hZ,RP,List.map_replicate]
            have vP:((over vs.toList (i.toNat*(cx.T e).size) Z).toArray.toList.take (es.length*(cx.T e).size))=over (vs.toList.take (es.length*(cx.T e).size)) (i.toNat*(cx.T e).size) Z :=
             Vi _ _ _ _ (by rw[sL,OL];exact Ak _) (by rw[vU];exact ST)
            have z7:CH g w Fm (Z.map AV.v) Z:=CH.vals (by
             have qC : ∀l:List AV,(∀a∈l,one a=true)→GY l=true:=by
              intro l
              induction l with
              |nil=>intro _;rfl
              |cons a l ih=>intro h;simp[GY,h a (List.mem_cons_self ..),ih (fun b hb=>h b (List.mem_cons_of_mem _ hb))]
             refine qC _ fun q hq=>?_;obtain⟨y,hy,rfl⟩:=Al.1 hq;rw[←hZ]at hy;obtain⟨l,hl,hy⟩:=Eu.1 hy;rw[Cg hl]at hy;exact FX y hy)
            have nU:CH g w Fm (over es.flatten (i.toNat*(cx.T e).size) (Z.map AV.v)) (over (vs.toList.take (es.length*(cx.T e).size)) (i.toNat*(cx.T e).size) Z) :=
             b6.over z7 _ (by rw[Bb,sL,OL,Dh al];exact Ak _)
            obtain⟨k1,k2⟩:=hI.write hl b2 (.arr (cx.T e).size (es.take i.toNat++List.replicate (es.length-i.toNat) ((cx.T e).zc.map AV.v))) b4 (over vs.toList (i.toNat*(cx.T e).size) Z).toArray (g.ln r) (g.own r) g.S (by simp) rfl (fun b' e=>by rw[b2]at e;cases e;rfl) (fun _ _ h=>h)
             (fun b' o hs=>.inl hs) (fun o hs=>absurd hs (b7 o)) (fun hg HS ES=>by
              obtain⟨u1,u2,u3,u4⟩:=BB g r (g.ρ r) (g.ln r) (g.tk r) (g.own r) g.S;refine⟨u3.trans t1,u2.trans (by rw[Lw];exact l1),uM,.inr ⟨b,cap,E,_,?_,u4.trans b2,by rw[Lw];exact b3,ES,?_,?_,b7⟩⟩
              ·rw[u1,b1,Lw]
              ·simp only[Ft,FJ,B5];exact b5
              ·rw[Lw,vP,hfl];exact nU.mono HS (fun _ h=>h) (fun _ h=>h.elim))
            exact two _ ⟨st.t,_⟩ _ _ CP hcl hk k1 k2
        ·exact hk.elim
       ·exact hk.elim
     ·exact hk.elim
    ·exact hk.elim
   ·exact hk.elim
  ·exact hk.elim
 ·exact hk.elim
end
end Go.Eng
