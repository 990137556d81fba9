/- Lemmas for the claims of this seat, without a condition: part 13 (EngZB, EngZBc). -/
import Derived.Test.YtddfphmpfnmknaaGreatDoorFA12
namespace Go.Eng
section
variable {P:Program}{N:Nat}{ds:List Deferred}{w0:World}{g0:Gh}{h0:Nat→HO}{st:St}{g:Gh}{a:Act}{w:World}
theorem W4{cx:Cx}(hT:Cn P cx.T){b:Builtin}{args:Array Operand}{GJ:Array TypeId}{dst:Option Nat}{ty:Nat}{pos:String}{after:Array Edge}{gd:Option (Nat×Bool)}{K:HK}{next:Act→World→Prop}{Q:Exit→Act→World→Prop}
  (hS:SR N ds w0 g0 h0 st g a w) (hk:FW cx dst st.h b GJ.toList (args.toList.map (ev st.t)) K)
  (hn:YG w0 g0 h0 st.h g w K fun x w'=>next (a.put dst x) w'):Oper.wp P ⟨dst,.call ⟨.builtin b,args,GJ⟩,ty,pos,after,gd⟩ a w next Q:=by
 have hI:=hS.inv;have hE:=hS.eval;obtain⟨l⟩:=args;obtain⟨tl⟩:=GJ;unfold FW at hk;split at hk
 ·rename_i x t e1 e2
  match l,e1 with
  | [y],e1 =>
   simp only[AL,E1,Fv,and_true]at e1;subst e1;simp only at e2;subst e2;exact DU (m:=Builtin.len_ #[t] ty #[a.eval y]) (by simp[execOp,resolve,invoke,builtin]) (BF.does hI (gA hT hI.objs (hE y) hk)) hn
 ·rename_i s x t t' e1 e2
  match l,e1 with
  | [y,z],e1 =>
   simp only[AL,E1,Fv,and_true]at e1;obtain⟨rfl,rfl⟩:=e1;simp only at e2;subst e2;split at hk
   ·rename_i ht;obtain rfl:=AH ht;exact DU (m:=Builtin.append_ #[t,t] ty #[a.eval y,a.eval z]) (by simp[execOp,resolve,invoke,builtin]) (YQ hI hT (hE y) (hE z) hk) hn
   ·exact hk.elim
 ·rename_i x y GJ e1
  match l,e1 with
  | [y,z],e1 =>
   simp only[AL,E1,Fv,and_true]at e1;obtain⟨rfl,rfl⟩:=e1;exact DU (m:=Builtin.max_ ⟨tl⟩ ty #[a.eval y,a.eval z]) (by simp[execOp,resolve,invoke,builtin]) (BF.does hI (kD (hE y) (hE z) hk)) hn
 ·rename_i x y GJ e1
  match l,e1 with
  | [y,z],e1 =>
   simp only[AL,E1,Fv,and_true]at e1;obtain⟨rfl,rfl⟩:=e1;exact DU (m:=Builtin.min_ ⟨tl⟩ ty #[a.eval y,a.eval z]) (by simp[execOp,resolve,invoke,builtin]) (BF.does hI (kF (hE y) (hE z) hk)) hn
 ·exact hk.elim
theorem jr{cx:Cx}(hT:Cn P cx.T){dr:Bool}{o:Oper}{K:HK}{next:Act→World→Prop}{Q:Exit→Act→World→Prop}(hS:SR N ds w0 g0 h0 st g a w)(hk:FN cx dr o st K)
  (hv:∀f args GJ,o.op≠.call ⟨.value f,args,GJ⟩) (hn:YG w0 g0 h0 st.h g w K fun x w'=>next (a.put o.dst x) w'):o.wp P a w next Q:=by
 have hI:=hS.inv;have hE:=hS.eval;obtain⟨dst,op,ty,pos,after,gd⟩:=o;unfold FN at hk;cases op with
 |move x=>exact bp hI (x:=a.eval x) rfl hk (hE x) hn
 |assign x =>
  obtain⟨g',av,h',q1,q2,q3,q4⟩:=YR hI (hE x) hk;exact hn _ _ _ _ _ q1 q2 q3 q4
 |pick c x y=>exact DU (m:=do pure (if ←asBool (a.eval c)then a.eval x else a.eval y)) (by simp[execOp]) (BF.does hI (g8 (hE c) (hE x) (hE y) hk)) hn
 |alloc e=>exact DU rfl (bx hI hT hk) hn
 |box e x=>exact DU rfl (jy hI (hE x) hk) hn
 |build t ps=>exact DU rfl (BF.does hI (bI hT hE hk)) hn
 |buildSlice t n ps=>exact DU rfl (RZ hI hT hE hk) hn
 |insert t m k x=>exact WL rfl (M8 hI hT (hE m) (hE k) (hE x) hk) hn
 |load t x=>exact DU rfl (BF.does hI (U8 hI.objs hT (hE x) hk)) hn
 |store t p x=>exact WL rfl (dB hI hT (hE p) (hE x) hk) hn
 |nilCheck x =>
  obtain⟨h1,h2⟩:=Wu (P:=P) (w:=w) (hE x) hk (pos:=pos) (after:=after) (gd:=gd) (dst:=dst) (ty:=ty) (ρ:=a.eval) rfl;exact bp hI h1 h2 (hE x) hn
 |binOp op t x y u=>exact DU rfl (BF.does hI (d7 hT (hE x) (hE y) (fun v e=>by subst e;rfl) hk)) hn
 |unOp op t x=>exact DU rfl (BF.does hI (iO (hE x) hk)) hn
 |convert s t x=>exact DU rfl (BF.does hI (eQ hT (hE x) hk)) hn
 |makeFunc fn first cap=>exact DU rfl (BF.does hI (Ws hI.objs hE hk)) hn
 |makeMap t r =>
  cases r with
  |some r=>exact hk.elim
  |none=>exact DU rfl (XZ hI hk) hn
 |makeSlice t n c=>exact DU rfl (Up hI hT (hE n) (hE c) hk) hn
 |slice t x lo hi mx =>
  cases dr with
  |true =>
   cases hp:Nk cx.pl.tok dst with
   |none =>
    have J4 : Gp cx dst st.h t (ev st.t x) (B2 st.t lo) (B2 st.t hi) (B2 st.t mx) K:=by
     have Iu:(match Nk cx.pl.tok dst with
      |none=>Gp cx dst st.h t (ev st.t x) (B2 st.t lo) (B2 st.t hi) (B2 st.t mx) K
      |some _=>Nb cx dst st.h t (ev st.t x) lo (B2 st.t hi) mx K):=hk
     rw[hp]at Iu;exact Iu
    exact DU rfl (Vp hI hT hE (hE x) J4) hn
   |some _ =>
    have J4 : Nb cx dst st.h t (ev st.t x) lo (B2 st.t hi) mx K:=by
     have Iu:(match Nk cx.pl.tok dst with
      |none=>Gp cx dst st.h t (ev st.t x) (B2 st.t lo) (B2 st.t hi) (B2 st.t mx) K
      |some _=>Nb cx dst st.h t (ev st.t x) lo (B2 st.t hi) mx K):=hk
     rw[hp]at Iu;exact Iu
    unfold Nb at J4;split at J4
    ·exact DU rfl (aU hI hT hE (hE x) J4) hn
    ·exact J4.elim
  |false =>
   cases hp:Nk cx.pl.tok dst with
   |none =>
    have J4 : Gp cx dst st.h t (ev st.t x) (B2 st.t lo) (B2 st.t hi) (B2 st.t mx) K:=by
     have Iu:(match Nk cx.pl.tok dst with
      |none=>Gp cx dst st.h t (ev st.t x) (B2 st.t lo) (B2 st.t hi) (B2 st.t mx) K
      |some _=>aX cx dst st.h t (ev st.t x) st.t lo hi mx K):=hk
     rw[hp]at Iu;exact Iu
    exact DU rfl (Vp hI hT hE (hE x) J4) hn
   |some _ =>
    have J4 : aX cx dst st.h t (ev st.t x) st.t lo hi mx K:=by
     have Iu:(match Nk cx.pl.tok dst with
      |none=>Gp cx dst st.h t (ev st.t x) (B2 st.t lo) (B2 st.t hi) (B2 st.t mx) K
      |some _=>aX cx dst st.h t (ev st.t x) st.t lo hi mx K):=hk
     rw[hp]at Iu;exact Iu
    cases lo with
    |some lo=>exact DU rfl (Yr hI hT hE (hE x) J4) hn
    |none =>
     have UY:Nb cx dst st.h t (ev st.t x) none (B2 st.t hi) mx K:=J4;unfold Nb at UY;split at UY
     ·exact DU rfl (aU hI hT hE (hE x) UY) hn
     ·exact UY.elim
 |fieldAddr s x f=>exact DU rfl (BF.does hI (bW hT (hE x) hk)) hn
 |field s x f=>exact DU rfl (BF.does hI (Y4 hT (hE x) hk)) hn
 |indexAddr t x i=>exact DU rfl (BF.does hI (Um hT (hE x) (hE i) hk)) hn
 |index t x i=>exact DU rfl (BF.does hI (cr hT (hE x) (hE i) hk)) hn
 |lookup t x i ok =>
  have hk:MC cx.T st.h t (ev st.t x) (ev st.t i) ok fun v=>K v st.h:=by
   cases dr with
   |true=>exact cE hk
   |false=>exact hk
  exact DU rfl (BF.does hI (Zm hT hI.objs (hE x) (hE i) hk)) hn
 |mapUpdate t m k x=>exact WL rfl (M8 hI hT (hE m) (hE k) (hE x) hk) hn
 |range t x =>
  simp only at hk;split at hk
  ·rename_i kt e ht;exact DU rfl (dk hI hT ht (hE x) hk) hn
  ·exact hk.elim
 |next it s =>
  cases s with
  |true=>exact hk.elim
  |false=>exact DU rfl (gM hI (hE it) hk) hn
 |entry it=>exact DU rfl (BF.does hI (bU hI.objs (hE it) hk)) hn
 |extract x i=>exact DU rfl (BF.does hI (Xq (hE x) hk)) hn
 |call c =>
  obtain⟨m8,args,GJ⟩:=c;cases m8 with
  |builtin b=>exact W4 hT hS hk hn
  |value f=>exact absurd rfl (hv f args GJ)
  |invoke r m=>exact hk.elim
 |_=>exact hk.elim
theorem d5{cx:Cx}(hP:cx.P=P)(hY:∀l σ h g w,Ei σ=true→DB w0 g0 h0 h g w→Le h0 g0 w0 h g w→cx.yp l σ (Dq σ g) w){ro:Option Nat}(hT:Cn P cx.T){dr:Bool}{o:Oper}{K:HK}{next:Act→World→Prop}{Q:Exit→Act→World→Prop}(hS:SR N ds w0 g0 h0 st g a w)(hk:FN cx dr o st K)
  (hn:YG w0 g0 h0 st.h g w K fun x w'=>next (a.put o.dst x) w'):o.wpIn (JG ro) 0 P a w next Q:=by
 by_cases hv:∃f args GJ,o.op=.call ⟨.value f,args,GJ⟩
 ·obtain⟨f,args,GJ,e⟩:=hv;obtain⟨dst,op,ty,pos,after,gd⟩:=o;cases e;exact eu hP hY hS hk hn
 ·refine MG (fun c e=>?_) (jr hT hS hk (fun f args GJ e=>hv ⟨f,args,GJ,e⟩) hn);obtain⟨dst,op,ty,pos,after,gd⟩:=o;cases e;exact hk.elim
theorem ri{p:Nat→Prop}(h:∃n,p n):∃n,p n∧∀m,m<n→¬p m:=by
 apply A4;intro hc
 have:∀n,¬p n:=fun n=>by
  induction n using Nat.strongRecOn with
  |_ n ih=>exact fun hp=>hc ⟨n,hp,ih⟩
 obtain⟨n,hn⟩:=h;exact this n hn
theorem Rp{F:Fence}{m:Nat}{c:Code}{Q:Exit→Act→World→Prop}(I:Nat→Act→World→Prop)(k:Nat)(h0:I k a w)
  (round:∀n a w,I n a w→c.wpIn F m P (Exit.then (fun a' w'=>∃n',n' < n∧I n' a' w') Q) a w):(Code.loop c).wpIn F m P Q a w:=by
 classical
 have hex:∀a w,(∃n,I n a w)→∃n,I n a w∧∀n',n' < n→¬I n' a w:=fun a w h=>ri h;refine wpIn_loop (fun a w=>∃n,I n a w) (fun a w=>if h:∃n,I n a w then(hex a w h).choose else 0) ⟨k,h0⟩ fun a w h=>?_;have hs:=(hex a w h).choose_spec;refine wpIn_mono (round _ a w hs.1) fun e a' w' q=>?_;cases e with
 |normal =>
  obtain⟨n',DA,hn⟩:=q;have h' : ∃n,I n a' w':=⟨n',hn⟩;refine⟨h',?_⟩;simp only[dif_pos h,dif_pos h'];refine Nat.lt_of_le_of_lt ?_ DA;apply Nat.le_of_not_lt;intro hc;exact(hex a' w' h').choose_spec.2 n' hc hn
 |_=>exact q
end
section
variable {P:Program}{N:Nat}{ds:List Deferred}{w0:World}{g0:Gh}{h0:Nat→HO}{st:St}{g:Gh}{a:Act}{w:World}
theorem bL{T:Gs}(hT:Cn P T){ty e k ty2 b o n c:Nat}(ht:(T ty).d=.slice e)(hk:(T e).size=k+1)(hz:(T e).zc.length=k+1)(Rj:∀v∈(T e).zc,v.oneCell'=true){FA:Array Value}{E:TypeId}
  (hb:w.heap[b]?=some (.cells FA E (0,0))) (hn:0<n) (Ho:o+n*(k+1)≤FA.size) :
  (Builtin.clear_ #[ty] ty2 #[.slice (some ⟨b,o,none⟩) n c]).run P w=.ok (.tuple #[]) (w.setRow b (over FA.toList o (List.replicate n (T e).zc).flatten).toArray):=by
 obtain⟨z,z1,z2⟩:=Vz (w:=w) hT hk;have nW:(T e).zc≠[]:=fun e0=>by rw[e0]at hz;cases hz
 have nR:(Builtin.zeroCells z.cells n).toList=(List.replicate n (T e).zc).flatten:=by
  rw[HM n _ nW,hz,z2];have e6:z.cells.size=k+1:=by rw[←hz,z2];simp
  unfold Builtin.zeroCells;simp[e6,Array.getElem!_eq_getD]
 have Cq:(List.replicate n (T e).zc).flatten.length=n*(k+1):=by
  rw[C3 (n:=k+1) (fun c hc=>by rw[B8 hc];exact hz),DG]
 have Jl:=run_storeCells_at P b o E (List.replicate n (T e).zc).flatten 0 FA w hb (by rw[Cq];simpa using Ho) (fun v hv=>by
  obtain⟨l,hl,hv⟩:=El.1 hv;rw[B8 hl]at hv;exact Rj v hv)
 simp only[Gf]at Jl;rw[MI _ _ _ (by rw[Cq];simpa using Ho)];obtain⟨m,rfl⟩:∃m,n=m+1:=⟨n-1,by omega⟩;simp only[Builtin.clear_,Sem.run_bind,FY,A7,run_underlying (hT.slice ht),Result.andThen_ok,z1,nR,Jl,Sem.run_pure]
theorem YY{T:Gs}(hT:Cn P T){ty e ty2 c:Nat}(ht:(T ty).d=.slice e)(x:Option Addr) :
  (Builtin.clear_ #[ty] ty2 #[.slice x 0 c]).run P w=.ok (.tuple #[]) w:=by
 cases x<;>simp only[Builtin.clear_,Sem.run_bind,FY,A7,run_underlying (hT.slice ht),Result.andThen_ok,Sem.run_pure]
theorem ik{d:Nat}{x:Value}(hd:d<a.tmps.size):(a.put (some d) x).eval (.tmp d)=x:=by
 show(a.tmps.setIfInBounds d x).getD d undef=x;rw[Cg,Array.getElem?_setIfInBounds_self,Ao hd];rfl
theorem fV(h:Nat→HO)(r:Nat):AT h r (h r)=h:=funext fun i=>by
 by_cases e:i=r
 ·subst e;exact Ba ..
 ·exact BV _ _ _ _ e
theorem Zj{o o2:Oper}(h:SY o o2=true):∃ty x lo d ty2 pos after oJ kZ VI,o=⟨some d,.slice ty x (some lo) none none,ty2,pos,after,none⟩∧o2=⟨none,.call ⟨.builtin .clear,#[.tmp d],#[ty]⟩,oJ,kZ,VI,none⟩:=by
 obtain⟨dst,op,t2,p1,a1,gd⟩:=o;obtain⟨zq,op2,t3,p2,a2,sD⟩:=o2;unfold SY at h;split at h
 ·rename_i c e1;split at h
  ·rename_i e2;split at h
   ·rename_i ty x lo e3;split at h
    ·rename_i d d' yV e4 e5 e6 e7 e8 e9;obtain⟨m8,⟨args⟩,⟨GJ⟩⟩:=c;simp only at e1 e2 e3 e4 e5 e6 e7 e8 e9;simp only[Af]at h;obtain rfl:=AH h.1;obtain rfl:=AH h.2;subst e1 e2 e3 e4 e5 e6 e7 e8 e9;exact⟨_,_,_,_,_,_,_,_,_,_,rfl,rfl⟩
    ·cases h
   ·cases h
  ·cases h
 ·cases h
theorem jG{cx:Cx}(hT:Cn P cx.T){ro:Option Nat}{o o2:Oper}(hd:∀i,o.dst=some i→i<N)(hc:SY o o2=true){K:St→Prop}(hS:SR N ds w0 g0 h0 st g a w)(hk:bN cx o st K){next:Act→World→Prop}{Q:Exit→Act→World→Prop}
  (hn:∀D7 g' a' w',K D7→SR N ds w0 g0 h0 D7 g' a' w'→next a' w') :
  o.guard=none∧o2.guard=none∧o.wpIn (JG ro) 0 P a w (fun a1 w1=>o2.wpIn (JG ro) 0 P a1 w1 next Q) Q:=by
 obtain⟨ty,x,lo,d,ty2,pos,after,oJ,kZ,VI,rfl,rfl⟩:=Zj hc;refine⟨rfl,rfl,?_⟩;have hI:=hS.inv;have hE:=hS.eval;have uV:d<a.tmps.size:=by rw[hS.size];exact hd d rfl
 -- what is to be shown of the two operations
 have two:∀(v:Value) (D7 : St) (g' : Gh) (w' : World),(Instr.sliceAt ty (a.eval x) (some (a.eval lo)) none none).run P w=.ok v w→(Builtin.clear_ #[ty] oJ #[v]).run P w=.ok (.tuple #[]) w'→K ⟨G4 st.t d .junk,D7.h⟩→DB w0 g0 h0 D7.h g' w'→Le st.h g w D7.h g' w' →
   Oper.wpIn (JG ro) 0 P ⟨some d,.slice ty x (some lo) none none,ty2,pos,after,none⟩ a w (fun a1 w1=>Oper.wpIn (JG ro) 0 P ⟨none,.call ⟨.builtin .clear,#[.tmp d],#[ty]⟩,oJ,kZ,VI,none⟩ a1 w1 next Q) Q:=by
  intro v D7 g' w' r1 r2 hk zA Ho;refine MG (by intro c e;cases e) ?_;unfold Oper.wp;have hx:execOp a.eval ⟨some d,.slice ty x (some lo) none none,ty2,pos,after,none⟩=(do pure (Next.value (←Instr.sliceAt ty (a.eval x) (some (a.eval lo)) none none))):=rfl;rw[hx,Sem.run_bind,r1];refine MG (by intro c e;cases e) ?_;unfold Oper.wp;have pj:execOp (a.put (some d) v).eval ⟨none,.call ⟨.builtin .clear,#[.tmp d],#[ty]⟩,oJ,kZ,VI,none⟩=(do pure (Next.value (←Builtin.clear_ #[ty] oJ #[v]))):=by
   simp[execOp,resolve,invoke,builtin,ik uV]
  rw[pj,Sem.run_bind,r2];have S1:SR N ds w0 g0 h0 (st.put (some d) .junk st.h) g (a.put (some d) v) w:=hS.put hd hI (.refl _ _ _) (.junk _ _);have S2:SR N ds w0 g0 h0 ((st.put (some d) .junk st.h).put none (.v (.tuple #[])) D7.h) g' ((a.put (some d) v).put none (.tuple #[])) w':=S1.put (by intro i e;cases e) zA Ho (.v _ _);exact hn _ g' _ w' hk S2
 unfold bN at hk;simp only at hk;split at hk
 ·rename_i e hs;split at hk
  ·rename_i r n ex;split at hk
   ·rename_i i ei;split at hk
    ·rename_i sz es er;split at hk
     ·rename_i hb;obtain rfl:=AH hb;split at hk
      ·exact hk.elim
      ·rename_i k Ew;split at hk
       ·rename_i MQ;have MQ:=AH MQ;obtain⟨⟨rfl,i0,i1⟩,hk⟩:=hk;unfold pV at hk;split at hk
        ·rename_i GP;have GP:∀v∈(cx.T e).zc,v.oneCell'=true:=Bp.1 GP;have ho:=hI.objs r;rw[er]at ho;obtain⟨t1,l1,al,a2⟩:=ho;have dQ:=hE x;rw[ex]at dQ;have sQ:=hE lo;rw[ei]at sQ;have sQ:=sQ.v_eq;generalize hvx:a.eval x=vx at dQ two;rw[sQ]at two;cases dQ with
         |msl _ _ _ ad cap hu ht' XM ha Ly =>
          have hv:=Ly l1.symm;have OH:es.length≤cap:=by
           rcases a2 with ⟨b1,_,_⟩ | ⟨b,KO,E,vs,b1,_,b3,_⟩
           ·subst b1;exact AJ _
           ·rw[b1]at hv;cases hv;exact b3
          have CD:=EI (P:=P) (w:=w) hT hs Ew ad es.length cap (some i) none none (.inl rfl) (by simpa using i0) (by simpa using i1) (by simpa using OH) (by simp);simp only[Cj,DZ,Ch,Fy,Option.map_none]at CD
          by_cases hz:i.toNat=es.length
          ·-- nothing is cleared
           have e1:es.length-i.toNat=0:=by omega
           rw[e1]at CD hk;refine two _ st g w CD (YY hT hs _) ?_ hI (.refl _ _ _);have e2:es.take i.toNat++List.replicate 0 ((cx.T e).zc.map AV.v)=es:=by rw[List.replicate_zero,BP,hz,DX]
           rw[e2,←er,fV]at hk;exact hk
          ·have DA:i.toNat<es.length:=by omega
           rcases a2 with ⟨b1,_⟩ | ⟨b,KO,E,vs,b1,b2,b3,b4,b5,b6,b7⟩
           ·subst b1;simp at DA
           ·rw[b1]at hv;cases hv;have Dt:¬cap=i.toNat:=by omega
            rw[Ah Dt]at CD;have uH:Option.map (fun x:Addr=>x.add (i.toNat*(cx.T e).size)) (some ⟨b,0,none⟩)=some ⟨b,i.toNat*(cx.T e).size,none⟩:=by simp[Addr.add];omega
            rw[uH]at CD;have PH:es.length*(cx.T e).size≤cap*(cx.T e).size:=Be _ b3;have Ui:i.toNat*(cx.T e).size+(es.length-i.toNat)*(cx.T e).size=es.length*(cx.T e).size:=by rw[←EL];congr 1;omega
            have hcl:=bL (w:=w) (ty2:=oJ) (c:=cap-i.toNat) hT hs Ew (MQ.trans Ew) GP b4 (n:=es.length-i.toNat) (o:=i.toNat*(cx.T e).size) (by omega) (by rw[show k+1=(cx.T e).size from Ew.symm,Ui,b5];exact PH);have hl:(st.h r).live:=by rw[er];trivial
            generalize hZ:(List.replicate (es.length-i.toNat) (cx.T e).zc).flatten=Z at hcl;have sJ:Z.length=(es.length-i.toNat)*(cx.T e).size:=by
             rw[←hZ,C3 (n:=(cx.T e).size) (fun c hc=>by rw[B8 hc];exact MQ),DG]
            have Lq:(es.take i.toNat++List.replicate (es.length-i.toNat) ((cx.T e).zc.map AV.v)).length=es.length:=by
             rw[Ad,AB,DG];omega
            have uJ:∀c∈es.take i.toNat++List.replicate (es.length-i.toNat) ((cx.T e).zc.map AV.v),c.length=(cx.T e).size:=fun c hc=>by
             rcases AU.1 hc with h1 | h1
             ·exact al c (DQ h1)
             ·rw[B8 h1,A6];exact MQ
            have vR:vs.toList.length=cap*(cx.T e).size:=by rw[BY];exact b5
            have hfl:(es.take i.toNat++List.replicate (es.length-i.toNat) ((cx.T e).zc.map AV.v)).flatten=over es.flatten (i.toNat*(cx.T e).size) (Z.map AV.v):=by
             rw[MI _ _ _ (by rw[A6,sJ,Ui,C3 al];exact Al _),Cw,Nu al,A6,sJ,Ui,EB (by rw[C3 al];exact Al _),BP,←hZ,RM,List.map_replicate]
            have vM:((over vs.toList (i.toNat*(cx.T e).size) Z).toArray.toList.take (es.length*(cx.T e).size))=over (vs.toList.take (es.length*(cx.T e).size)) (i.toNat*(cx.T e).size) Z :=
             Vh _ _ _ _ (by rw[sJ,Ui];exact Al _) (by rw[vR];exact PH)
            have zO:Cu g w Fi (Z.map AV.v) Z:=Cu.vals (by
             have qq : ∀l:List AV,(∀a∈l,one a=true)→GV l=true:=by
              intro l
              induction l with
              |nil=>intro _;rfl
              |cons a l ih=>intro h;simp[GV,h a (List.mem_cons_self ..),ih (fun b hb=>h b (List.mem_cons_of_mem _ hb))]
             refine qq _ fun q hq=>?_;obtain⟨y,hy,rfl⟩:=Ak.1 hq;rw[←hZ]at hy;obtain⟨l,hl,hy⟩:=El.1 hy;rw[B8 hl]at hy;exact GP y hy)
            have nM:Cu g w Fi (over es.flatten (i.toNat*(cx.T e).size) (Z.map AV.v)) (over (vs.toList.take (es.length*(cx.T e).size)) (i.toNat*(cx.T e).size) Z) :=
             b6.over zO _ (by rw[A6,sJ,Ui,C3 al];exact Al _)
            obtain⟨k1,k2⟩:=hI.write hl b2 (.arr (cx.T e).size (es.take i.toNat++List.replicate (es.length-i.toNat) ((cx.T e).zc.map AV.v))) b4 (over vs.toList (i.toNat*(cx.T e).size) Z).toArray (g.ln r) (g.own r) g.S (by simp) rfl (fun b' e=>by rw[b2]at e;cases e;rfl) (fun _ _ h=>h)
             (fun b' o hs=>.inl hs) (fun o hs=>absurd hs (b7 o)) (fun hg HZ EQ=>by
              obtain⟨u1,u2,u3,u4⟩:=Bw g r (g.ρ r) (g.ln r) (g.tk r) (g.own r) g.S;refine⟨u3.trans t1,u2.trans (by rw[Lq];exact l1),uJ,.inr ⟨b,cap,E,_,?_,u4.trans b2,by rw[Lq];exact b3,EQ,?_,?_,b7⟩⟩
              ·rw[u1,b1,Lq]
              ·simp only[Fs,FH,BY];exact b5
              ·rw[Lq,vM,hfl];exact nM.mono HZ (fun _ h=>h) (fun _ h=>h.elim))
            exact two _ ⟨st.t,_⟩ _ _ CD hcl hk k1 k2
        ·exact hk.elim
       ·exact hk.elim
     ·exact hk.elim
    ·exact hk.elim
   ·exact hk.elim
  ·exact hk.elim
 ·exact hk.elim
end
end Go.Eng
