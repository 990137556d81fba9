/- Lemmas for the claims of this seat, without a condition: part 13 (EngZB, EngZBc). -/
import Derived.Test.YtddfphmpfnmknaaGreatDoorA12
namespace Go.Eng
section
variable {P:Program}{N:Nat}{ds:List Deferred}{w0:World}{g0:Gh}{h0:Nat→HO}{st:St}{g:Gh}{a:Act}{w:World}
theorem Wu{cx:Cx}(hT:Ck P cx.T){b:Builtin}{args:Array Operand}{Gz:Array TypeId}{dst:Option Nat}{ty:Nat}{pos:String}{after:Array Edge}{gd:Option (Nat×Bool)}{K:HK}{next:Act→World→Prop}{Q:Exit→Act→World→Prop}
  (hS:SR N ds w0 g0 h0 st g a w) (hk:FN cx dst st.h b Gz.toList (args.toList.map (ev st.t)) K)
  (hn:XX w0 g0 h0 st.h g w K fun x w'=>next (a.put dst x) w'):Oper.wp P ⟨dst,.call ⟨.builtin b,args,Gz⟩,ty,pos,after,gd⟩ a w next Q:=by
 have hI:=hS.inv;have hE:=hS.eval;obtain⟨l⟩:=args;obtain⟨tl⟩:=Gz;unfold FN at hk;split at hk
 ·rename_i x t e1 e2
  match l,e1 with
  | [y],e1 =>
   simp only[AK,EU,Fm,and_true]at e1;subst e1;simp only at e2;subst e2;exact DR (m:=Builtin.len_ #[t] ty #[a.eval y]) (by simp[execOp,resolve,invoke,builtin]) (BJ.does hI (fy hT hI.objs (hE y) hk)) hn
 ·rename_i s x t t' e1 e2
  match l,e1 with
  | [y,z],e1 =>
   simp only[AK,EU,Fm,and_true]at e1;obtain⟨rfl,rfl⟩:=e1;simp only at e2;subst e2;split at hk
   ·rename_i ht;obtain rfl:=AH ht;exact DR (m:=Builtin.append_ #[t,t] ty #[a.eval y,a.eval z]) (by simp[execOp,resolve,invoke,builtin]) (X6 hI hT (hE y) (hE z) hk) hn
   ·exact hk.elim
 ·rename_i x y Gz e1
  match l,e1 with
  | [y,z],e1 =>
   simp only[AK,EU,Fm,and_true]at e1;obtain⟨rfl,rfl⟩:=e1;exact DR (m:=Builtin.max_ ⟨tl⟩ ty #[a.eval y,a.eval z]) (by simp[execOp,resolve,invoke,builtin]) (BJ.does hI (jA (hE y) (hE z) hk)) hn
 ·rename_i x y Gz e1
  match l,e1 with
  | [y,z],e1 =>
   simp only[AK,EU,Fm,and_true]at e1;obtain⟨rfl,rfl⟩:=e1;exact DR (m:=Builtin.min_ ⟨tl⟩ ty #[a.eval y,a.eval z]) (by simp[execOp,resolve,invoke,builtin]) (BJ.does hI (jC (hE y) (hE z) hk)) hn
 ·exact hk.elim
theorem iA{cx:Cx}(hT:Ck P cx.T){dr:Bool}{o:Oper}{K:HK}{next:Act→World→Prop}{Q:Exit→Act→World→Prop}(hS:SR N ds w0 g0 h0 st g a w)(hk:FF cx dr o st K)
  (hv:∀f args Gz,o.op≠.call ⟨.value f,args,Gz⟩) (hn:XX w0 g0 h0 st.h g w K fun x w'=>next (a.put o.dst x) w'):o.wp P a w next Q:=by
 have hI:=hS.inv;have hE:=hS.eval;obtain⟨dst,op,ty,pos,after,gd⟩:=o;unfold FF at hk;cases op with
 |move x=>exact ae hI (x:=a.eval x) rfl hk (hE x) hn
 |assign x =>
  obtain⟨g',av,h',q1,q2,q3,q4⟩:=X8 hI (hE x) hk;exact hn _ _ _ _ _ q1 q2 q3 q4
 |pick c x y=>exact DR (m:=do pure (if ←asBool (a.eval c)then a.eval x else a.eval y)) (by simp[execOp]) (BJ.does hI (fY (hE c) (hE x) (hE y) hk)) hn
 |alloc e=>exact DR rfl (aq hI hT hk) hn
 |box e x=>exact DR rfl (iI hI (hE x) hk) hn
 |build t ps=>exact DR rfl (BJ.does hI (aD hT hE hk)) hn
 |buildSlice t n ps=>exact DR rfl (RA hI hT hE hk) hn
 |insert t m k x=>exact Wd rfl (MV hI hT (hE m) (hE k) (hE x) hk) hn
 |load t x=>exact DR rfl (BJ.does hI (UC hI.objs hT (hE x) hk)) hn
 |store t p x=>exact Wd rfl (cB hI hT (hE p) (hE x) hk) hn
 |nilCheck x =>
  obtain⟨h1,h2⟩:=VN (P:=P) (w:=w) (hE x) hk (pos:=pos) (after:=after) (gd:=gd) (dst:=dst) (ty:=ty) (ρ:=a.eval) rfl;exact ae hI h1 h2 (hE x) hn
 |binOp op t x y u=>exact DR rfl (BJ.does hI (dk hT (hE x) (hE y) (fun v e=>by subst e;rfl) hk)) hn
 |unOp op t x=>exact DR rfl (BJ.does hI (gT (hE x) hk)) hn
 |convert s t x=>exact DR rfl (BJ.does hI (dE hT (hE x) hk)) hn
 |makeFunc fn first cap=>exact DR rfl (BJ.does hI (VL hI.objs hE hk)) hn
 |makeMap t r =>
  cases r with
  |some r=>exact hk.elim
  |none=>exact DR rfl (Xk hI hk) hn
 |makeSlice t n c=>exact DR rfl (TU hI hT (hE n) (hE c) hk) hn
 |slice t x lo hi mx =>
  cases dr with
  |true =>
   cases hp:M4 cx.pl.tok dst with
   |none =>
    have JS : Gc cx dst st.h t (ev st.t x) (BY st.t lo) (BY st.t hi) (BY st.t mx) K:=by
     have In:(match M4 cx.pl.tok dst with
      |none=>Gc cx dst st.h t (ev st.t x) (BY st.t lo) (BY st.t hi) (BY st.t mx) K
      |some _=>MY cx dst st.h t (ev st.t x) lo (BY st.t hi) mx K):=hk
     rw[hp]at In;exact In
    exact DR rfl (US hI hT hE (hE x) JS) hn
   |some _ =>
    have JS : MY cx dst st.h t (ev st.t x) lo (BY st.t hi) mx K:=by
     have In:(match M4 cx.pl.tok dst with
      |none=>Gc cx dst st.h t (ev st.t x) (BY st.t lo) (BY st.t hi) (BY st.t mx) K
      |some _=>MY cx dst st.h t (ev st.t x) lo (BY st.t hi) mx K):=hk
     rw[hp]at In;exact In
    unfold MY at JS;split at JS
    ·exact DR rfl (ZQ hI hT hE (hE x) JS) hn
    ·exact JS.elim
  |false =>
   cases hp:M4 cx.pl.tok dst with
   |none =>
    have JS : Gc cx dst st.h t (ev st.t x) (BY st.t lo) (BY st.t hi) (BY st.t mx) K:=by
     have In:(match M4 cx.pl.tok dst with
      |none=>Gc cx dst st.h t (ev st.t x) (BY st.t lo) (BY st.t hi) (BY st.t mx) K
      |some _=>ZT cx dst st.h t (ev st.t x) st.t lo hi mx K):=hk
     rw[hp]at In;exact In
    exact DR rfl (US hI hT hE (hE x) JS) hn
   |some _ =>
    have JS : ZT cx dst st.h t (ev st.t x) st.t lo hi mx K:=by
     have In:(match M4 cx.pl.tok dst with
      |none=>Gc cx dst st.h t (ev st.t x) (BY st.t lo) (BY st.t hi) (BY st.t mx) K
      |some _=>ZT cx dst st.h t (ev st.t x) st.t lo hi mx K):=hk
     rw[hp]at In;exact In
    cases lo with
    |some lo=>exact DR rfl (XL hI hT hE (hE x) JS) hn
    |none =>
     have Ut:MY cx dst st.h t (ev st.t x) none (BY st.t hi) mx K:=JS;unfold MY at Ut;split at Ut
     ·exact DR rfl (ZQ hI hT hE (hE x) Ut) hn
     ·exact Ut.elim
 |fieldAddr s x f=>exact DR rfl (BJ.does hI (aS hT (hE x) hk)) hn
 |field s x f=>exact DR rfl (BJ.does hI (Yn hT (hE x) hk)) hn
 |indexAddr t x i=>exact DR rfl (BJ.does hI (TS hT (hE x) (hE i) hk)) hn
 |index t x i=>exact DR rfl (BJ.does hI (bp hT (hE x) (hE i) hk)) hn
 |lookup t x i ok =>
  have hk:Mr cx.T st.h t (ev st.t x) (ev st.t i) ok fun v=>K v st.h:=by
   cases dr with
   |true=>exact bB hk
   |false=>exact hk
  exact DR rfl (BJ.does hI (YF hT hI.objs (hE x) (hE i) hk)) hn
 |mapUpdate t m k x=>exact Wd rfl (MV hI hT (hE m) (hE k) (hE x) hk) hn
 |range t x =>
  simp only at hk;split at hk
  ·rename_i kt e ht;exact DR rfl (cj hI hT ht (hE x) hk) hn
  ·exact hk.elim
 |next it s =>
  cases s with
  |true=>exact hk.elim
  |false=>exact DR rfl (fL hI (hE it) hk) hn
 |entry it=>exact DR rfl (BJ.does hI (aQ hI.objs (hE it) hk)) hn
 |extract x i=>exact DR rfl (BJ.does hI (WM (hE x) hk)) hn
 |call c =>
  obtain⟨l6,args,Gz⟩:=c;cases l6 with
  |builtin b=>exact Wu hT hS hk hn
  |value f=>exact absurd rfl (hv f args Gz)
  |invoke r m=>exact hk.elim
 |_=>exact hk.elim
theorem di{cx:Cx}(hP:cx.P=P)(hY:∀l σ h g w,Eg σ=true→DA w0 g0 h0 h g w→Le h0 g0 w0 h g w→cx.yp l σ (Do σ g) w){ro:Option Nat}(hT:Ck P cx.T){dr:Bool}{o:Oper}{K:HK}{next:Act→World→Prop}{Q:Exit→Act→World→Prop}(hS:SR N ds w0 g0 h0 st g a w)(hk:FF cx dr o st K)
  (hn:XX w0 g0 h0 st.h g w K fun x w'=>next (a.put o.dst x) w'):o.wpIn (Jt ro) 0 P a w next Q:=by
 by_cases hv:∃f args Gz,o.op=.call ⟨.value f,args,Gz⟩
 ·obtain⟨f,args,Gz,e⟩:=hv;obtain⟨dst,op,ty,pos,after,gd⟩:=o;cases e;exact du hP hY hS hk hn
 ·refine Mw (fun c e=>?_) (iA hT hS hk (fun f args Gz e=>hv ⟨f,args,Gz,e⟩) hn);obtain⟨dst,op,ty,pos,after,gd⟩:=o;cases e;exact hk.elim
theorem qo{p:Nat→Prop}(h:∃n,p n):∃n,p n∧∀m,m<n→¬p m:=by
 apply AR;intro hc
 have:∀n,¬p n:=fun n=>by
  induction n using Nat.strongRecOn with
  |_ n ih=>exact fun hp=>hc ⟨n,hp,ih⟩
 obtain⟨n,hn⟩:=h;exact this n hn
theorem QN{F:Fence}{m:Nat}{c:Code}{Q:Exit→Act→World→Prop}(I:Nat→Act→World→Prop)(k:Nat)(h0:I k a w)
  (round:∀n a w,I n a w→c.wpIn F m P (Exit.then (fun a' w'=>∃n',n' < n∧I n' a' w') Q) a w):(Code.loop c).wpIn F m P Q a w:=by
 classical
 have hex:∀a w,(∃n,I n a w)→∃n,I n a w∧∀n',n' < n→¬I n' a w:=fun a w h=>qo h;refine wpIn_loop (fun a w=>∃n,I n a w) (fun a w=>if h:∃n,I n a w then(hex a w h).choose else 0) ⟨k,h0⟩ fun a w h=>?_;have hs:=(hex a w h).choose_spec;refine wpIn_mono (round _ a w hs.1) fun e a' w' q=>?_;cases e with
 |normal =>
  obtain⟨n',Dz,hn⟩:=q;have h' : ∃n,I n a' w':=⟨n',hn⟩;refine⟨h',?_⟩;simp only[dif_pos h,dif_pos h'];refine Nat.lt_of_le_of_lt ?_ Dz;apply Nat.le_of_not_lt;intro hc;exact(hex a' w' h').choose_spec.2 n' hc hn
 |_=>exact q
end
section
variable {P:Program}{N:Nat}{ds:List Deferred}{w0:World}{g0:Gh}{h0:Nat→HO}{st:St}{g:Gh}{a:Act}{w:World}
theorem aG{T:Gg}(hT:Ck P T){ty e k ty2 b o n c:Nat}(ht:(T ty).d=.slice e)(hk:(T e).size=k+1)(hz:(T e).zc.length=k+1)(QJ:∀v∈(T e).zc,v.oneCell'=true){Fs:Array Value}{E:TypeId}
  (hb:w.heap[b]?=some (.cells Fs E (0,0))) (hn:0<n) (Hb:o+n*(k+1)≤Fs.size) :
  (Builtin.clear_ #[ty] ty2 #[.slice (some ⟨b,o,none⟩) n c]).run P w=.ok (.tuple #[]) (w.setRow b (over Fs.toList o (List.replicate n (T e).zc).flatten).toArray):=by
 obtain⟨z,z1,z2⟩:=U3 (w:=w) hT hk;have mR:(T e).zc≠[]:=fun e0=>by rw[e0]at hz;cases hz
 have mN:(Builtin.zeroCells z.cells n).toList=(List.replicate n (T e).zc).flatten:=by
  rw[Hz n _ mR,hz,z2];have e6:z.cells.size=k+1:=by rw[←hz,z2];simp
  unfold Builtin.zeroCells;simp[e6,Array.getElem!_eq_getD]
 have Cu:(List.replicate n (T e).zc).flatten.length=n*(k+1):=by
  rw[CZ (n:=k+1) (fun c hc=>by rw[B5 hc];exact hz),DE]
 have Ja:=run_storeCells_at P b o E (List.replicate n (T e).zc).flatten 0 Fs w hb (by rw[Cu];simpa using Hb) (fun v hv=>by
  obtain⟨l,hl,hv⟩:=Ej.1 hv;rw[B5 hl]at hv;exact QJ v hv)
 simp only[G8]at Ja;rw[My _ _ _ (by rw[Cu];simpa using Hb)];obtain⟨m,rfl⟩:∃m,n=m+1:=⟨n-1,by omega⟩;simp only[Builtin.clear_,Sem.run_bind,FQ,A4,run_underlying (hT.slice ht),Result.andThen_ok,z1,mN,Ja,Sem.run_pure]
theorem Yg{T:Gg}(hT:Ck P T){ty e ty2 c:Nat}(ht:(T ty).d=.slice e)(x:Option Addr) :
  (Builtin.clear_ #[ty] ty2 #[.slice x 0 c]).run P w=.ok (.tuple #[]) w:=by
 cases x<;>simp only[Builtin.clear_,Sem.run_bind,FQ,A4,run_underlying (hT.slice ht),Result.andThen_ok,Sem.run_pure]
theorem gq{d:Nat}{x:Value}(hd:d<a.tmps.size):(a.put (some d) x).eval (.tmp d)=x:=by
 show(a.tmps.setIfInBounds d x).getD d undef=x;rw[Cf,Array.getElem?_setIfInBounds_self,Aq hd];rfl
theorem eQ(h:Nat→HO)(r:Nat):AS h r (h r)=h:=funext fun i=>by
 by_cases e:i=r
 ·subst e;exact A9 ..
 ·exact BR _ _ _ _ e
theorem YC{o o2:Oper}(h:Sx o o2=true):∃ty x lo d ty2 pos after nA jV Vc,o=⟨some d,.slice ty x (some lo) none none,ty2,pos,after,none⟩∧o2=⟨none,.call ⟨.builtin .clear,#[.tmp d],#[ty]⟩,nA,jV,Vc,none⟩:=by
 obtain⟨dst,op,t2,p1,a1,gd⟩:=o;obtain⟨yr,op2,t3,p2,a2,rt⟩:=o2;unfold Sx at h;split at h
 ·rename_i c e1;split at h
  ·rename_i e2;split at h
   ·rename_i ty x lo e3;split at h
    ·rename_i d d' xU e4 e5 e6 e7 e8 e9;obtain⟨l6,⟨args⟩,⟨Gz⟩⟩:=c;simp only at e1 e2 e3 e4 e5 e6 e7 e8 e9;simp only[Ae]at h;obtain rfl:=AH h.1;obtain rfl:=AH h.2;subst e1 e2 e3 e4 e5 e6 e7 e8 e9;exact⟨_,_,_,_,_,_,_,_,_,_,rfl,rfl⟩
    ·cases h
   ·cases h
  ·cases h
 ·cases h
theorem iP{cx:Cx}(hT:Ck P cx.T){ro:Option Nat}{o o2:Oper}(hd:∀i,o.dst=some i→i<N)(hc:Sx o o2=true){K:St→Prop}(hS:SR N ds w0 g0 h0 st g a w)(hk:aI cx o st K){next:Act→World→Prop}{Q:Exit→Act→World→Prop}
  (hn:∀D5 g' a' w',K D5→SR N ds w0 g0 h0 D5 g' a' w'→next a' w') :
  o.guard=none∧o2.guard=none∧o.wpIn (Jt ro) 0 P a w (fun a1 w1=>o2.wpIn (Jt ro) 0 P a1 w1 next Q) Q:=by
 obtain⟨ty,x,lo,d,ty2,pos,after,nA,jV,Vc,rfl,rfl⟩:=YC hc;refine⟨rfl,rfl,?_⟩;have hI:=hS.inv;have hE:=hS.eval;have tW:d<a.tmps.size:=by rw[hS.size];exact hd d rfl
 -- what is to be shown of the two operations
 have two:∀(v:Value) (D5 : St) (g' : Gh) (w' : World),(Instr.sliceAt ty (a.eval x) (some (a.eval lo)) none none).run P w=.ok v w→(Builtin.clear_ #[ty] nA #[v]).run P w=.ok (.tuple #[]) w'→K ⟨GT st.t d .junk,D5.h⟩→DA w0 g0 h0 D5.h g' w'→Le st.h g w D5.h g' w' →
   Oper.wpIn (Jt ro) 0 P ⟨some d,.slice ty x (some lo) none none,ty2,pos,after,none⟩ a w (fun a1 w1=>Oper.wpIn (Jt ro) 0 P ⟨none,.call ⟨.builtin .clear,#[.tmp d],#[ty]⟩,nA,jV,Vc,none⟩ a1 w1 next Q) Q:=by
  intro v D5 g' w' r1 r2 hk yA Hb;refine Mw (by intro c e;cases e) ?_;unfold Oper.wp;have hx:execOp a.eval ⟨some d,.slice ty x (some lo) none none,ty2,pos,after,none⟩=(do pure (Next.value (←Instr.sliceAt ty (a.eval x) (some (a.eval lo)) none none))):=rfl;rw[hx,Sem.run_bind,r1];refine Mw (by intro c e;cases e) ?_;unfold Oper.wp;have oe:execOp (a.put (some d) v).eval ⟨none,.call ⟨.builtin .clear,#[.tmp d],#[ty]⟩,nA,jV,Vc,none⟩=(do pure (Next.value (←Builtin.clear_ #[ty] nA #[v]))):=by
   simp[execOp,resolve,invoke,builtin,gq tW]
  rw[oe,Sem.run_bind,r2];have S1:SR N ds w0 g0 h0 (st.put (some d) .junk st.h) g (a.put (some d) v) w:=hS.put hd hI (.refl _ _ _) (.junk _ _);have S2:SR N ds w0 g0 h0 ((st.put (some d) .junk st.h).put none (.v (.tuple #[])) D5.h) g' ((a.put (some d) v).put none (.tuple #[])) w':=S1.put (by intro i e;cases e) yA Hb (.v _ _);exact hn _ g' _ w' hk S2
 unfold aI at hk;simp only at hk;split at hk
 ·rename_i e hs;split at hk
  ·rename_i r n ex;split at hk
   ·rename_i i ei;split at hk
    ·rename_i sz es er;split at hk
     ·rename_i hb;obtain rfl:=AH hb;split at hk
      ·exact hk.elim
      ·rename_i k Eu;split at hk
       ·rename_i MG;have MG:=AH MG;obtain⟨⟨rfl,i0,i1⟩,hk⟩:=hk;unfold oZ at hk;split at hk
        ·rename_i GF;have GF:∀v∈(cx.T e).zc,v.oneCell'=true:=Bp.1 GF;have ho:=hI.objs r;rw[er]at ho;obtain⟨t1,l1,al,a2⟩:=ho;have cX:=hE x;rw[ex]at cX;have rL:=hE lo;rw[ei]at rL;have rL:=rL.v_eq;generalize hvx:a.eval x=vx at cX two;rw[rL]at two;cases cX with
         |msl _ _ _ ad cap hu ht' W5 ha Ln =>
          have hv:=Ln l1.symm;have Oi:es.length≤cap:=by
           rcases a2 with ⟨b1,_,_⟩ | ⟨b,KJ,E,vs,b1,_,b3,_⟩
           ·subst b1;exact AL _
           ·rw[b1]at hv;cases hv;exact b3
          have CA:=ED (P:=P) (w:=w) hT hs Eu ad es.length cap (some i) none none (.inl rfl) (by simpa using i0) (by simpa using i1) (by simpa using Oi) (by simp);simp only[Ch,DW,Cg,Fq,Option.map_none]at CA
          by_cases hz:i.toNat=es.length
          ·-- nothing is cleared
           have e1:es.length-i.toNat=0:=by omega
           rw[e1]at CA hk;refine two _ st g w CA (Yg hT hs _) ?_ hI (.refl _ _ _);have e2:es.take i.toNat++List.replicate 0 ((cx.T e).zc.map AV.v)=es:=by rw[List.replicate_zero,BT,hz,DU]
           rw[e2,←er,eQ]at hk;exact hk
          ·have Dz:i.toNat<es.length:=by omega
           rcases a2 with ⟨b1,_⟩ | ⟨b,KJ,E,vs,b1,b2,b3,b4,b5,b6,b7⟩
           ·subst b1;simp at Dz
           ·rw[b1]at hv;cases hv;have Dt:¬cap=i.toNat:=by omega
            rw[Ai Dt]at CA;have tH:Option.map (fun x:Addr=>x.add (i.toNat*(cx.T e).size)) (some ⟨b,0,none⟩)=some ⟨b,i.toNat*(cx.T e).size,none⟩:=by simp[Addr.add];omega
            rw[tH]at CA;have Sn:es.length*(cx.T e).size≤cap*(cx.T e).size:=Bc _ b3;have TO:i.toNat*(cx.T e).size+(es.length-i.toNat)*(cx.T e).size=es.length*(cx.T e).size:=by rw[←E3];congr 1;omega
            have hcl:=aG (w:=w) (ty2:=nA) (c:=cap-i.toNat) hT hs Eu (MG.trans Eu) GF b4 (n:=es.length-i.toNat) (o:=i.toNat*(cx.T e).size) (by omega) (by rw[show k+1=(cx.T e).size from Eu.symm,TO,b5];exact Sn);have hl:(st.h r).live:=by rw[er];trivial
            generalize hZ:(List.replicate (es.length-i.toNat) (cx.T e).zc).flatten=Z at hcl;have rD:Z.length=(es.length-i.toNat)*(cx.T e).size:=by
             rw[←hZ,CZ (n:=(cx.T e).size) (fun c hc=>by rw[B5 hc];exact MG),DE]
            have Lb:(es.take i.toNat++List.replicate (es.length-i.toNat) ((cx.T e).zc.map AV.v)).length=es.length:=by
             rw[Ad,AE,DE];omega
            have tJ:∀c∈es.take i.toNat++List.replicate (es.length-i.toNat) ((cx.T e).zc.map AV.v),c.length=(cx.T e).size:=fun c hc=>by
             rcases AW.1 hc with h1 | h1
             ·exact al c (Ek h1)
             ·rw[B5 h1,A7];exact MG
            have uK:vs.toList.length=cap*(cx.T e).size:=by rw[BW];exact b5
            have hfl:(es.take i.toNat++List.replicate (es.length-i.toNat) ((cx.T e).zc.map AV.v)).flatten=over es.flatten (i.toNat*(cx.T e).size) (Z.map AV.v):=by
             rw[My _ _ _ (by rw[A7,rD,TO,CZ al];exact Al _),Cv,Nc al,A7,rD,TO,FD (by rw[CZ al];exact Al _),BT,←hZ,Rm,List.map_replicate]
            have uF:((over vs.toList (i.toNat*(cx.T e).size) Z).toArray.toList.take (es.length*(cx.T e).size))=over (vs.toList.take (es.length*(cx.T e).size)) (i.toNat*(cx.T e).size) Z :=
             UL _ _ _ _ (by rw[rD,TO];exact Al _) (by rw[uK];exact Sn)
            have yO:Cs g w E9 (Z.map AV.v) Z:=Cs.vals (by
             have pz : ∀l:List AV,(∀a∈l,one a=true)→GL l=true:=by
              intro l
              induction l with
              |nil=>intro _;rfl
              |cons a l ih=>intro h;simp[GL,h a (List.mem_cons_self ..),ih (fun b hb=>h b (List.mem_cons_of_mem _ hb))]
             refine pz _ fun q hq=>?_;obtain⟨y,hy,rfl⟩:=Ak.1 hq;rw[←hZ]at hy;obtain⟨l,hl,hy⟩:=Ej.1 hy;rw[B5 hl]at hy;exact GF y hy)
            have mI:Cs g w E9 (over es.flatten (i.toNat*(cx.T e).size) (Z.map AV.v)) (over (vs.toList.take (es.length*(cx.T e).size)) (i.toNat*(cx.T e).size) Z) :=
             b6.over yO _ (by rw[A7,rD,TO,CZ al];exact Al _)
            obtain⟨k1,k2⟩:=hI.write hl b2 (.arr (cx.T e).size (es.take i.toNat++List.replicate (es.length-i.toNat) ((cx.T e).zc.map AV.v))) b4 (over vs.toList (i.toNat*(cx.T e).size) Z).toArray (g.ln r) (g.own r) g.S (by simp) rfl (fun b' e=>by rw[b2]at e;cases e;rfl) (fun _ _ h=>h)
             (fun b' o hs=>.inl hs) (fun o hs=>absurd hs (b7 o)) (fun hg HL EK=>by
              obtain⟨u1,u2,u3,u4⟩:=Bw g r (g.ρ r) (g.ln r) (g.tk r) (g.own r) g.S;refine⟨u3.trans t1,u2.trans (by rw[Lb];exact l1),tJ,.inr ⟨b,cap,E,_,?_,u4.trans b2,by rw[Lb];exact b3,EK,?_,?_,b7⟩⟩
              ·rw[u1,b1,Lb]
              ·simp only[Fj,Fz,BW];exact b5
              ·rw[Lb,uF,hfl];exact mI.mono HL (fun _ h=>h) (fun _ h=>h.elim))
            exact two _ ⟨st.t,_⟩ _ _ CA hcl hk k1 k2
        ·exact hk.elim
       ·exact hk.elim
     ·exact hk.elim
    ·exact hk.elim
   ·exact hk.elim
  ·exact hk.elim
 ·exact hk.elim
end
end Go.Eng
