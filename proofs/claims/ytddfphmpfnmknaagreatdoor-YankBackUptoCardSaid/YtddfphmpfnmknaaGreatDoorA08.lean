/- Lemmas for the claims of this seat, without a condition: part 8 (EngN, EngO, EngP, EngQ). -/
import Derived.Test.YtddfphmpfnmknaaGreatDoorA07
namespace Go.Eng
def NI(P:Program)(w0:World)(g0:Gh)(h0 h:Nat→HO)(g:Gh)(w:World)(m:Sem Value)(K:HK):Prop :=
 ∃x w' g' av h',m.run P w=.ok x w'∧K av h'∧DA w0 g0 h0 h' g' w'∧Le h g w h' g' w'∧BC g' w' (AP h') av x
def c8(P:Program)(w0:World)(g0:Gh)(h0 h:Nat→HO)(g:Gh)(w:World)(m:Sem Unit)(K:HK):Prop :=
 ∃w' g' h',m.run P w=.ok () w'∧K (.v undef) h'∧DA w0 g0 h0 h' g' w'∧Le h g w h' g' w'
section
variable {P:Program}{w0:World}{g0:Gh}{h0 h:Nat→HO}{g:Gh}{w:World}(hI:DA w0 g0 h0 h g w)
include hI
theorem BJ.does{m:Sem Value}{K:HK}(hg:BJ P h g w m (fun v=>K v h)):NI P w0 g0 h0 h g w m K :=
 let ⟨x,av,h1,h2,h3⟩:=hg
 ⟨x,w,g,av,h,h1,h2,hI,.refl _ _ _,h3⟩
theorem DA.newOwn{d:Nat}(hd:h d=.free)(o' : HO)(ob:Obj)(x:Value)(n:Nat)(t:Bool)(w1:World)(KE:w1.heap=w.heap∧w1.os=w.os∧w1.tape=w.tape∧w1.output=w.output)(Dt:o'≠.free)
  (I9:JM g (g.upd d x n t (some w.heap.size) g.S) (AP h)→Ez g w (g.upd d x n t (some w.heap.size) g.S) (w1.alloc ob) →
   D3 (g.upd d x n t (some w.heap.size) g.S) (w1.alloc ob) (AP (AS h d o')) d o') :
  DA w0 g0 h0 (AS h d o') (g.upd d x n t (some w.heap.size) g.S) (w1.alloc ob)∧Le h g w (AS h d o') (g.upd d x n t (some w.heap.size) g.S) (w1.alloc ob):=by
 refine hI.upd d o' x n t _ _ _ none ⟨KE.2.1,KE.2.2.1,KE.2.2.2,by rw[World.size_alloc,KE.1];omega⟩ (fun k hk _=>?_) (fun b e=>by cases e) (fun _ _ h=>h) (fun _ _ h=>.inl h) (fun b o e=>by cases e)
  (fun b _ e=>?_) Dt (fun hu=>absurd hd hu) I9
 ·rw[heap_alloc_old _ _ (by rw[KE.1];exact hk),KE.1]
 ·cases e;rw[World.size_alloc,KE.1];exact⟨by omega,.inr (Al _)⟩
def Gh.more(g:Gh)(b n:Nat):Nat→Nat→Prop:=fun b' o=>g.S b' o∨(b'=b∧o<n)
theorem DA.newStable{d:Nat}(hd:h d=.free)(o' : HO)(vs:Array Value)(E:TypeId)(m:Nat)(x:Value)(n:Nat)(t:Bool)(w1:World)(KE:w1.heap=w.heap∧w1.os=w.os∧w1.tape=w.tape∧w1.output=w.output)(Dt:o'≠.free)
  (I9:JM g (g.upd d x n t none (g.more w.heap.size m)) (AP h)→Ez g w (g.upd d x n t none (g.more w.heap.size m)) (w1.alloc (.cells vs E (0,0))) →
   D3 (g.upd d x n t none (g.more w.heap.size m)) (w1.alloc (.cells vs E (0,0))) (AP (AS h d o')) d o') :
  DA w0 g0 h0 (AS h d o') (g.upd d x n t none (g.more w.heap.size m)) (w1.alloc (.cells vs E (0,0))) ∧
   Le h g w (AS h d o') (g.upd d x n t none (g.more w.heap.size m)) (w1.alloc (.cells vs E (0,0))):=by
 refine hI.upd d o' x n t _ _ _ none ⟨KE.2.1,KE.2.2.1,KE.2.2.2,by rw[World.size_alloc,KE.1];omega⟩ (fun k hk _=>?_) (fun b e=>by cases e) (fun _ _ h=>.inl h) (fun b o hb=>?_) (fun b o e=>by cases e)
  (fun b _ e=>by cases e) Dt (fun hu=>absurd hd hu) I9
 ·rw[heap_alloc_old _ _ (by rw[KE.1];exact hk),KE.1]
 ·rcases hb with hb | ⟨rfl,_⟩
  ·exact .inl hb
  ·exact .inr ⟨by rw[World.size_alloc,KE.1];omega,.inl (Al _)⟩
end
theorem Bw(g:Gh)(r:Nat)(x:Value)(n:Nat)(t:Bool)(o:Option Nat)(S:Nat→Nat→Prop) :
  (g.upd r x n t o S).ρ r=x∧(g.upd r x n t o S).ln r=n∧(g.upd r x n t o S).tk r=t∧(g.upd r x n t o S).own r=o:=by simp[Gh.upd]
theorem Hr(w:World)(o:Obj){b:Nat}(hb:b=w.heap.size):(w.alloc o).heap[b]?=some o:=by subst hb;exact heap_alloc_new w o
theorem BC.cptr_row{g:Gh}{w:World}{U:Nat→Prop}{b:Nat}{cs:List AV}{vs:Array Value}{E:TypeId}{f:Nat×Nat}(hb:w.heap[b]?=some (.cells vs E f))(hr:Cs g w E9 cs vs.toList)
  (hS:∀o,o<cs.length→g.S b o):BC g w U (.cptr cs) (.pointer (some ⟨b,0,none⟩)):=by
 refine .cptr U cs b 0 (fun j=>vs[j]?.getD default) (fun j av hj=>?_) (fun j av hj=>?_)
 ·obtain⟨x,x1,x2,x3⟩:=hr.at hj;rw[A1]at x1;refine⟨hS _ (by rw[Be];exact(Ap.1 hj).1),?_,?_⟩
  ·rw[Fv hb,Be,x1];rfl
  ·rw[x1];exact x2
 ·obtain⟨x,x1,x2,x3⟩:=hr.at hj;rw[A1]at x1;rw[x1];exact x3
theorem BC.slice_off{g:Gh}{w:World}{U:Nat→Prop}{b off sz cap:Nat}{es:List (List AV)}{vs:Array Value}{E:TypeId}{f:Nat×Nat}(hb:w.heap[b]?=some (.cells vs E f))(hl:∀cs∈es,cs.length=sz)
  (hc:es.length≤cap) (hr:Cs g w E9 es.flatten ((vs.toList.drop off).take (es.length*sz))) (hS:∀o,o<es.length*sz→g.S b (off+o)):BC g w U (.slice .none es) (.slice (some ⟨b,off,none⟩) es.length cap):=by
 have key:∀(i:Nat) (cs:List AV) (j:Nat) (av:AV),es[i]?=some cs→cs[j]?=some av→∃x,vs[off+(i*sz+j)]?=some x∧x.oneCell'=true∧BC g w E9 av x∧i*sz+j<es.length*sz:=by
  intro i cs j av h1 h2;have hcl:=hl cs (Ar h1);have hj:j<sz:=by rw[←hcl];exact(Ap.1 h2).1
  have hi:=(Ap.1 h1).1;have Dz:i*sz+j<es.length*sz:=by
   have:=Bc sz (show i+1≤es.length from hi)
   rw[DV]at this;omega
  have hf:=E4 hl h1 hj;rw[h2]at hf;obtain⟨x,x1,x2,x3⟩:=hr.at hf;rw[BB Dz,Dr,A1]at x1;exact⟨x,x1,x2,x3,Dz⟩
 refine .slice U es b off sz cap (fun i j=>vs[off+(i*sz+j)]?.getD default) hc (fun i cs h=>hl cs (Ar h)) (fun i cs j av h1 h2=>?_) (fun i cs j av h1 h2=>?_)
 ·obtain⟨x,x1,x2,x3,x4⟩:=key i cs j av h1 h2;rw[Gf];refine⟨hS _ x4,?_,?_⟩
  ·rw[Fv hb,x1];rfl
  ·rw[x1];exact x2
 ·obtain⟨x,x1,x2,x3,x4⟩:=key i cs j av h1 h2;rw[x1];exact x3
theorem BC.slice_row{g:Gh}{w:World}{U:Nat→Prop}{b sz cap:Nat}{es:List (List AV)}{vs:Array Value}{E:TypeId}{f:Nat×Nat}(hb:w.heap[b]?=some (.cells vs E f))(hl:∀cs∈es,cs.length=sz)
  (hc:es.length≤cap) (hr:Cs g w E9 es.flatten (vs.toList.take (es.length*sz))) (hS:∀o,o<es.length*sz→g.S b o):BC g w U (.slice .none es) (.slice (some ⟨b,0,none⟩) es.length cap):=by
 have key:∀(i:Nat) (cs:List AV) (j:Nat) (av:AV),es[i]?=some cs→cs[j]?=some av→∃x,vs[i*sz+j]?=some x∧x.oneCell'=true∧BC g w E9 av x∧i*sz+j<es.length*sz:=by
  intro i cs j av h1 h2;have hcl:=hl cs (Ar h1);have hj:j<sz:=by rw[←hcl];exact(Ap.1 h2).1
  have hi:=(Ap.1 h1).1;have Dz:i*sz+j<es.length*sz:=by
   have:=Bc sz (show i+1≤es.length from hi)
   rw[DV]at this;omega
  have hf:=E4 hl h1 hj;rw[h2]at hf;obtain⟨x,x1,x2,x3⟩:=hr.at hf;rw[BB Dz,A1]at x1;exact⟨x,x1,x2,x3,Dz⟩
 refine .slice U es b 0 sz cap (fun i j=>vs[i*sz+j]?.getD default) hc (fun i cs h=>hl cs (Ar h)) (fun i cs j av h1 h2=>?_) (fun i cs j av h1 h2=>?_)
 ·obtain⟨x,x1,x2,x3,x4⟩:=key i cs j av h1 h2;rw[Be];refine⟨hS _ x4,?_,?_⟩
  ·rw[Fv hb,x1];rfl
  ·rw[x1];exact x2
 ·obtain⟨x,x1,x2,x3,x4⟩:=key i cs j av h1 h2;rw[x1];exact x3
section
variable {P:Program}{w0:World}{g0:Gh}{h0 h:Nat→HO}{g:Gh}{w:World}
theorem Qp(hI:DA w0 g0 h0 h g w){d:Nat}(hd:h d=.free){cs:List AV}{vs:Array Value}(E:TypeId)(hr:Cs g w (AP h) cs vs.toList) :
  ∃g',DA w0 g0 h0 (AS h d (.cells cs)) g' (w.alloc (.cells vs E (0,0)))∧Le h g w (AS h d (.cells cs)) g' (w.alloc (.cells vs E (0,0))) ∧
   BC g' (w.alloc (.cells vs E (0,0))) (AP (AS h d (.cells cs))) (.ref d 0) (.pointer (some ⟨w.heap.size,0,none⟩)):=by
 obtain⟨k1,k2⟩:=hI.newOwn hd (.cells cs) (.cells vs E (0,0)) (.pointer (some ⟨w.heap.size,0,none⟩)) 0 false w ⟨rfl,rfl,rfl,rfl⟩ (by simp) (fun hg hk=>by
  obtain⟨u1,u2,u3,u4⟩:=Bw g d (.pointer (some ⟨w.heap.size,0,none⟩)) 0 false (some w.heap.size) g.S;exact⟨u3,w.heap.size,E,vs,u4,u1,Hr w _ rfl,hr.mono hk (fun i hi=>DI (by simp) i hi) hg,fun o ho=>by have:=hI.slt _ _ ho;omega⟩)
 refine⟨_,k1,k2,.ref _ d 0 w.heap.size (by unfold AP;rw[A9];simp) ?_ ?_⟩
 ·simp[Gh.upd]
 ·simp[Gh.upd]
theorem fJ(hI:DA w0 g0 h0 h g w){d:Nat}(hd:h d=.free){cs:List AV}{vs:Array Value}(E:TypeId)(hr:Cs g w E9 cs vs.toList) :
  ∃g',DA w0 g0 h0 (AS h d (.ro cs)) g' (w.alloc (.cells vs E (0,0)))∧Le h g w (AS h d (.ro cs)) g' (w.alloc (.cells vs E (0,0))) ∧
   BC g' (w.alloc (.cells vs E (0,0))) (AP (AS h d (.ro cs))) (.ref d 0) (.pointer (some ⟨w.heap.size,0,none⟩)):=by
 obtain⟨k1,k2⟩:=hI.newStable hd (.ro cs) vs E cs.length (.pointer (some ⟨w.heap.size,0,none⟩)) 0 false w ⟨rfl,rfl,rfl,rfl⟩ (by simp) (fun hg hk=>by
  obtain⟨u1,u2,u3,u4⟩:=Bw g d (.pointer (some ⟨w.heap.size,0,none⟩)) 0 false none (g.more w.heap.size cs.length);exact⟨u3,w.heap.size,u1,BC.cptr_row (Hr w _ rfl) (hr.mono hk (fun _ h=>h) (fun _ h=>h.elim)) (fun o ho=>.inr ⟨rfl,ho⟩)⟩)
 refine⟨_,k1,k2,.ref _ d 0 w.heap.size (by unfold AP;rw[A9];simp) ?_ ?_⟩
 ·simp[Gh.upd]
 ·simp[Gh.upd]
theorem JF(hI:DA w0 g0 h0 h g w){cx:Cx}{d:Option Nat}{sz:Nat}{es:List (List AV)}{K:HK}(hk:Es cx d h sz es K){vs:Array Value}{cap:Nat}(E:TypeId)(hl:∀cs∈es,cs.length=sz)
  (hc:es.length≤cap) (hs:vs.size=cap*sz) (hr:Cs g w E9 es.flatten (vs.toList.take (es.length*sz))) (w1:World) (KE:w1.heap=w.heap∧w1.os=w.os∧w1.tape=w.tape∧w1.output=w.output) :
  ∃g' av h',K av h'∧DA w0 g0 h0 h' g' (w1.alloc (.cells vs E (0,0)))∧Le h g w h' g' (w1.alloc (.cells vs E (0,0))) ∧
   BC g' (w1.alloc (.cells vs E (0,0))) (AP h') av (.slice (some ⟨w.heap.size,0,none⟩) es.length cap):=by
 have EK:(w1.alloc (.cells vs E (0,0))).heap[w.heap.size]?=some (.cells vs E (0,0)):=Hr w1 _ (by rw[KE.1]);unfold Es at hk;split at hk
 ·exact hk.elim
 ·rename_i d;generalize Kj cx d=d1 at hk;split at hk
  ·rename_i hd;split at hk
   ·obtain⟨k1,k2⟩:=hI.newOwn hd (.arr sz es) (.cells vs E (0,0)) (.slice (some ⟨w.heap.size,0,none⟩) es.length cap) es.length true w1 KE (by simp) (fun hg HL=>by
     obtain⟨u1,u2,u3,u4⟩:=Bw g d1 (.slice (some ⟨w.heap.size,0,none⟩) es.length cap) es.length true (some w.heap.size) g.S;exact⟨u3,u2,hl,.inr ⟨w.heap.size,cap,E,vs,u1,u4,hc,EK,hs,hr.mono HL (fun _ h=>h) (fun _ h=>h.elim),fun o ho=>by have:=hI.slt _ _ ho;omega⟩⟩)
    refine⟨_,_,_,hk,k1,k2,.msl _ d1 es.length _ cap (by unfold AP;rw[A9];simp) ?_ ?_ (.inr ⟨_,rfl⟩) ?_⟩<;>simp[Gh.upd]
   ·by_cases eD:es.length=cap
    ·obtain⟨k1,k2⟩:=hI.newStable hd (.tok sz es.length) vs E (es.length*sz) (.slice (some ⟨w.heap.size,0,none⟩) es.length cap) es.length true w1 KE (by simp) (fun hg HL=>by
      obtain⟨u1,u2,u3,u4⟩:=Bw g d1 (.slice (some ⟨w.heap.size,0,none⟩) es.length cap) es.length true none (g.more w.heap.size (es.length*sz));exact⟨u3,u2,_,cap,u1,.inl ⟨eD,u4⟩⟩)
     refine⟨_,_,_,hk,k1,k2,.tok _ d1 sz es _ (BC.slice_row EK hl hc (hr.mono k2.keeps (fun _ h=>h) (fun _ h=>h.elim)) (fun o ho=>.inr ⟨rfl,ho⟩)) hl (by unfold AP;rw[A9];simp) ?_ ?_ ?_⟩<;>simp[Gh.upd]
    ·have nX:=hI.upd d1 (.tok sz es.length) (.slice (some ⟨w.heap.size,0,none⟩) es.length cap) es.length true (some w.heap.size) (g.more w.heap.size (es.length*sz)) (w1.alloc (.cells vs E (0,0))) none
      ⟨KE.2.1,KE.2.2.1,KE.2.2.2,by rw[World.size_alloc,KE.1];omega⟩ (fun k JS _=>by rw[heap_alloc_old _ _ (by rw[KE.1];exact JS),KE.1]) (fun b e=>by cases e) (fun _ _ h=>.inl h)
      (fun b o hb=>by
       rcases hb with hb | ⟨rfl,_⟩
       ·exact .inl hb
       ·exact .inr ⟨by rw[World.size_alloc,KE.1];omega,.inl (Al _)⟩) (fun b o e=>by cases e)
      (fun b _ e=>by cases e;rw[World.size_alloc,KE.1];exact⟨by omega,.inr (Al _)⟩) (by simp) (fun hu=>absurd hd hu) (fun hg HL=>by
       obtain⟨u1,u2,u3,u4⟩:=Bw g d1 (.slice (some ⟨w.heap.size,0,none⟩) es.length cap) es.length true (some w.heap.size) (g.more w.heap.size (es.length*sz));exact⟨u3,u2,_,cap,u1,.inr ⟨hc,w.heap.size,E,vs,0,rfl,u4,EK,by rw[hs,Be],fun o ho=>by
        rcases ho with ho | ⟨_,ho⟩
        ·have:=hI.slt _ _ ho;omega
        ·omega⟩⟩)
     obtain⟨k1,k2⟩:=nX;refine⟨_,_,_,hk,k1,k2,.tok _ d1 sz es _ (BC.slice_row EK hl hc (hr.mono k2.keeps (fun _ h=>h) (fun _ h=>h.elim)) (fun o ho=>.inr ⟨rfl,ho⟩)) hl (by unfold AP;rw[A9];simp) ?_ ?_ ?_⟩<;>simp[Gh.upd]
  ·exact hk.elim
end
theorem My{α:Type}:∀(cs:List α) (o:Nat) (vs:List α),o+vs.length≤cs.length→over cs o vs=cs.take o++vs++cs.drop (o+vs.length)
 | [],o,vs,h=>by
  simp at h;obtain⟨rfl,rfl⟩:=h
  rfl
 |c::cs,o+1,vs,h=>by
  rw[over,My cs o vs (by simp at h;omega)];simp only[IL,Iv,BF,Nat.add_right_comm o 1,List.drop_succ_cons]
 |c::cs,0,[],h=>by simp[over]
 |c::cs,0,v::vs,h=>by
  rw[over,My cs 0 vs (by simp at h;omega)];simp
theorem UL{α:Type}(cs:List α)(o n:Nat)(vs:List α)(h:o+vs.length≤n)(hn:n≤cs.length):(over cs o vs).take n=over (cs.take n) o vs:=by
 apply CU;intro i;rw[Fy _ _ _ _ (by simp;omega)]
 by_cases hi:i<n
 ·rw[BB hi,Fy _ _ _ _ (by omega),BB hi]
 ·rw[Ai (by omega),A2 (by rw[AE,Fz];omega),A2 (by simp;omega)]
theorem LD{α:Type}{n:Nat}:∀{es:List (List α)},(∀c∈es,c.length=n)→∀{i:Nat} {c:List α},es[i]?=some c→∀(o:Nat) (vs:List α),o+vs.length≤n →
  (es.set i (over c o vs)).flatten=over es.flatten (i*n+o) vs
 | [],_,i,c,h,_,_,_=>by simp at h
 |d::es,hl,i,c,h,o,vs,Hb=>by
  have hd:=hl d (Ab ..);have hfl:=CZ (es:=d::es) (n:=n) hl;have Dz:=(Ap.1 h).1;have pV:i*n+o+vs.length≤(d::es).flatten.length:=by
   rw[hfl]
   have:=Bc n (show i+1≤(d::es).length from Dz)
   rw[DV]at this;omega
  have hcl:=hl c (Ar h);apply CU;intro j;rw[Fy _ _ _ _ pV];have Ni:∀e∈(d::es).set i (over c o vs),e.length=n:=fun e he=>by
   rcases EM he with he | rfl
   ·exact hl e he
   ·rw[Fz];exact hcl
  by_cases hn:n=0
  ·subst hn;have h1:=CZ Ni;have h2:=hfl;simp only[Nat.mul_zero,List.length_eq_zero_iff]at h1 h2;rw[h1,h2]
   have:¬(i*0+o≤j∧j<i*0+o+vs.length):=by omega
   rw[Ai this]
  ·have nZ:j=j / n*n+j % n:=by rw[Nat.mul_comm];exact(T0 j n).symm
   have W4:j % n<n:=Nat.mod_lt _ (by omega)
   by_cases hj:j / n<(d::es).length
   ·have g1:(d::es)[j / n]?=some ((d::es)[j / n]):=As hj;have g2:((d::es).set i (over c o vs))[j / n]?=some (if i=j / n then over c o vs else(d::es)[j / n]):=by
     rw[List.getElem?_set]
     by_cases e:i=j / n
     ·rw[Aq e,Aq (by omega),Aq e]
     ·rw[Ai e,Ai e];exact g1
    have f1:=E4 hl g1 W4;have f2:=E4 Ni g2 W4;rw[←nZ]at f1 f2;rw[f1,f2];split
    ·rename_i e;rw[e]at h;rw[g1]at h;cases h;rw[Fy _ _ _ _ (by omega)];have e2:i*n+o≤j↔o≤j % n:=by rw[e];omega
     have e3:j<i*n+o+vs.length↔j % n<o+vs.length:=by rw[e];omega
     simp only[e2,e3];split
     ·congr 1;rw[e];omega
     ·rfl
    ·rename_i e
     have:¬(i*n+o≤j∧j<i*n+o+vs.length):=by
      rintro⟨q1,q2⟩
      apply e;have a1:i*n≤j:=by omega
      have a2:j<(i+1)*n:=by rw[DV];omega
      have:=(Nat.le_div_iff_mul_le (by omega)).2 a1
      have:=(K6 (by omega)).2 a2
      omega
     rw[Ai this]
   ·have n8:(d::es).length*n≤j:=by
     have:=Nat.not_lt.1 hj
     have:=(Nat.le_div_iff_mul_le (by omega)).1 this
     exact this
    have:¬(i*n+o≤j∧j<i*n+o+vs.length):=by rw[hfl]at pV;omega
    rw[Ai this,A2 (by rw[CZ Ni,CH];exact n8),A2 (by rw[hfl];exact n8)]
theorem OI{P:Program}{T:Gg}(hT:Ck P T)(w:World){t b off:Nat}{x:Value}{Fs:Array Value}{E:TypeId}(hd:(T t).d≠.other)(hs:x.cells.toList.length=(T t).size)
  (h1:∀v∈x.cells.toList,v.oneCell'=true) (hb:w.heap[b]?=some (.cells Fs E (0,0))) (Hb:off+x.cells.toList.length≤Fs.size) :
  (Instr.storeAt t (.pointer (some ⟨b,off,none⟩)) x).run P w=.ok () (w.setRow b (over Fs.toList off x.cells.toList).toArray):=by
 have Ja:=run_storeCells_at P b off E x.cells.toList 0 Fs w hb (by simpa using Hb) h1;simp only[G8]at Ja;have Wg : x.cells.size=(T t).size:=by simpa using hs
 rw[My _ _ _ (by simpa using Hb)];simp only[Instr.storeAt,Sem.run_bind,Instr.sureAddr,Sem.run_pure,Result.andThen_ok,storeVar,hT.size w hd,Wg,UG,not_true_eq_false,F9];exact Ja
section
variable {P:Program}{w0:World}{g0:Gh}{h0 h:Nat→HO}{g:Gh}{w:World}(hI:DA w0 g0 h0 h g w)
include hI
theorem aq{T:Gg}(hT:Ck P T){d:Option Nat}{e:Nat}{K:HK}(hk:Rs T d h e K):NI P w0 g0 h0 h g w (Instr.alloc e true (.tuple #[])) K:=by
 unfold Rs at hk;split at hk
 ·exact hk.elim
 ·split at hk
  ·rename_i hd;split at hk
   ·exact hk.elim
   ·rename_i Dt;split at hk
    ·rename_i ha;obtain⟨z,z1,z2,_⟩:=OR hT (w:=w) Dt;have hr:Cs g w (AP h) ((T e).zc.map .v) z.cells.toList:=by rw[z2]at ha⊢;exact Cs.vals ha
     obtain⟨g',k1,k2,k3⟩:=Qp hI hd (vs:=z.cells) e hr;refine⟨_,_,g',_,_,?_,hk,k1,k2,k3⟩;simp[Instr.alloc,z1,newVar,newRow]
    ·exact hk.elim
  ·exact hk.elim
theorem ON{cs:List AV}{vs:List Value}(hr:Cs g w (AP h) cs vs):Cs g w E9 (cs.map (str h)) vs:=by
 refine⟨by rw[A7];exact hr.1,hr.2.1,fun i av x h1 h2=>?_⟩;rw[AF,AT]at h1;obtain⟨a,a1,rfl⟩:=h1;exact(hr.2.2 i a x a1 h2).str hI.objs
theorem iI{cx:Cx}{d:Option Nat}{e:Nat}{x:AV}{vx:Value}{K:HK}(hx:BC g w (AP h) x vx)(hk:aC cx d h e x K):NI P w0 g0 h0 h g w (Instr.box e vx) K:=by
 unfold aC at hk;split at hk
 ·exact hk.elim
 ·split at hk
  ·rename_i hd;split at hk
   ·exact hk.elim
   ·obtain⟨cs,hk,hn,hr⟩:=Mi hx hk;split at hk
    ·obtain⟨g',k1,k2,k3⟩:=fJ hI hd (vs:=vx.cells) e (ON hI hr);exact⟨_,_,g',_,_,rfl,hk,k1,k2,k3⟩
    ·obtain⟨g',k1,k2,k3⟩:=Qp hI hd (vs:=vx.cells) e hr;exact⟨_,_,g',_,_,rfl,hk,k1,k2,k3⟩
  ·exact hk.elim
theorem DA.write{r b:Nat}(hl:(h r).live)(ho:g.own r=some b)(o' : HO){Fs:Array Value}{E:TypeId}(hb:w.heap[b]?=some (.cells Fs E (0,0)))(new:Array Value)(n:Nat)(ow:Option Nat)(S' : Nat→Nat→Prop)
  (Dt:o'≠.free) (hn:n=g.ln r) (p5:∀b',ow=some b'→b'=b) (hS:∀b o,g.S b o→S' b o) (rC:∀b' o,S' b' o→g.S b' o∨b'=b) (pS:∀o,g.S b o→new[o]?=Fs[o]?)
  (I9:JM g (g.upd r (g.ρ r) n (g.tk r) ow S') (AP h)→Ez g w (g.upd r (g.ρ r) n (g.tk r) ow S') (w.setRow b new)→(w.setRow b new).heap[b]?=some (.cells new E (0,0)) →
   D3 (g.upd r (g.ρ r) n (g.tk r) ow S') (w.setRow b new) (AP (AS h r o')) r o') :
  DA w0 g0 h0 (AS h r o') (g.upd r (g.ρ r) n (g.tk r) ow S') (w.setRow b new)∧Le h g w (AS h r o') (g.upd r (g.ρ r) n (g.tk r) ow S') (w.setRow b new):=by
 have EK:=setRow_heap w b Fs new E (0,0) hb;have Dz:=(hI.loc r b hl ho).1
 refine hI.upd r o' _ _ _ _ _ _ (some b) ⟨rfl,rfl,rfl,by rw[size_setRow];exact Al _⟩ (fun k hk Dt=>setRow_other w b k new (fun e=>Dt (by rw[e]))) (fun b' e=>by cases e;exact⟨hl,ho⟩) hS (fun b' o hs=>?_)
  (fun b' o e hs=>?_) (fun b' _ e=>?_) Dt (fun _=>⟨rfl,by omega,fun _=>rfl,fun _=>rfl⟩) (fun hg hk=>I9 hg hk EK)
 ·rcases rC b' o hs with h1 | rfl
  ·exact .inl h1
  ·exact .inr ⟨by rw[size_setRow];exact Dz,.inr ⟨hl,ho⟩⟩
 ·cases e
  refine⟨?_,fun es ck he=>by rw[hb]at he;cases he⟩;rw[Fv EK,Fv hb];exact pS o hs
 ·obtain rfl:=p5 b' e;exact⟨by rw[size_setRow];exact Dz,.inl ⟨hl,ho⟩⟩
theorem cB{cx:Cx}(hT:Ck P cx.T){t:Nat}{p x:AV}{vp vx:Value}{K:HK}(hp:BC g w (AP h) p vp)(hx:BC g w (AP h) x vx)(hk:NE cx h t p x K) :
  c8 P w0 g0 h0 h g w (Instr.storeAt t vp vx) K:=by
 unfold NE at hk;split at hk
 ·exact hk.elim
 ·rename_i hd;have h5:=Mi hx hk
  clear hk
  obtain⟨vs,hk,hn,hr⟩:=h5;have Cu:vx.cells.toList.length=vs.length:=hr.1;split at hk
  ·rename_i r off;have ho:=hI.objs r;split at hk
   ·rename_i cs e;obtain⟨Hb,hk⟩:=hk;rw[e]at ho;obtain⟨t0,b,E,Fs,a1,a2,a3,a4,a5⟩:=ho;cases hp with
    |ref _ _ _ b' hu ht kP =>
     rw[a2]at kP;cases kP;have hcs:Fs.toList.length=cs.length:=a4.1;have CA:=OI hT w (t:=t) (off:=off) (x:=vx) hd (by rw[Cu,hn]) hr.2.1 a3 (by rw[Cu];simp at hcs;omega);have hl:(h r).live:=by rw[e];trivial
     have mI:=a4.over hr off Hb;split at hk
     ·obtain⟨k1,k2⟩:=hI.write hl a1 (.ro ((over cs off vs).map (str h))) a3 (over Fs.toList off vx.cells.toList).toArray (g.ln r) none (g.more b cs.length) (by simp) rfl (fun _ e=>by cases e) (fun _ _ h=>.inl h)
       (fun b' o hs=>hs.elim .inl (fun hs=>.inr hs.1)) (fun o hs=>absurd hs (a5 o)) (fun hg HL EK=>by
        obtain⟨u1,u2,u3,u4⟩:=Bw g r (g.ρ r) (g.ln r) (g.tk r) none (g.more b cs.length);refine⟨u3.trans t0,b,u1.trans a2,BC.cptr_row EK ?_ (fun o ho=>.inr ⟨rfl,?_⟩)⟩
        ·exact(ON hI mI).mono HL (fun _ h=>h) (fun _ h=>h.elim)
        ·rw[A7,Fz]at ho;exact ho)
      exact⟨_,_,_,CA,hk,k1,k2⟩
     ·obtain⟨k1,k2⟩:=hI.write hl a1 (.cells (over cs off vs)) a3 (over Fs.toList off vx.cells.toList).toArray (g.ln r) (g.own r) g.S (by simp) rfl (fun b' e=>by rw[a1]at e;cases e;rfl) (fun _ _ h=>h)
       (fun b' o hs=>.inl hs) (fun o hs=>absurd hs (a5 o)) (fun hg HL EK=>by
        obtain⟨u1,u2,u3,u4⟩:=Bw g r (g.ρ r) (g.ln r) (g.tk r) (g.own r) g.S;exact⟨u3.trans t0,b,E,_,u4.trans a1,u1.trans a2,EK,mI.mono HL (fun i hi=>DI (by simp) i hi) hg,a5⟩)
      exact⟨_,_,_,CA,hk,k1,k2⟩
   ·exact hk.elim
  ·rename_i r n sz i off;have ho:=hI.objs r;split at hk
   ·rename_i Gd es e;rw[e]at ho;split at hk
    ·rename_i hz;obtain rfl:=AH hz;obtain⟨hnl,cs,hi,Hb,hk⟩:=hk;obtain⟨t1,l1,al,a1⟩:=ho;have Dz:=(Ap.1 hi).1;rcases a1 with ⟨rfl,_⟩ | ⟨b,cap,E,Fs,e1,e2,e3,e4,e5,e6,e7⟩
     ·simp at hi
     ·cases hp with
      |eref _ _ _ _ _ _ b' KJ hu ht W5 kP =>
       have kP:=kP (hnl.trans l1.symm);rw[e1]at kP;simp only[Value.slice.injEq,Bj,Addr.mk.injEq]at kP;obtain⟨⟨rfl,_,_⟩,_,_⟩:=kP;have hcl:=al cs (Ar hi);have Sn:i*sz+sz≤es.length*sz:=by
        have:=Bc sz (show i+1≤es.length from Dz)
        rwa [DV]at this
       have eI:es.length*sz≤cap*sz:=Bc sz e3;have CA:=OI hT w (t:=t) (off:=i*sz+off) (x:=vx) hd (by rw[Cu,hn]) hr.2.1 e4 (by rw[Cu];omega);have hl:(h r).live:=by rw[e];trivial
       have py : ∀c∈es.set i (over cs off (vs.map (str h))),c.length=sz:=fun c hc=>by
        rcases EM hc with hc | rfl
        ·exact al c hc
        ·rw[Fz];exact hcl
       have hfl:=LD al hi off (vs.map (str h)) (by rw[A7];exact Hb);have W0:Fs.toList.length=cap*sz:=by rw[BW];exact e5
       have uF:((over Fs.toList (i*sz+off) vx.cells.toList).toArray.toList.take ((es.set i (over cs off (vs.map (str h)))).length*sz))=over (Fs.toList.take (es.length*sz)) (i*sz+off) vx.cells.toList:=by
        rw[CH];exact UL _ _ _ _ (by rw[Cu];omega) (by rw[W0];exact eI)
       have mI:Cs g w E9 (es.set i (over cs off (vs.map (str h)))).flatten ((over Fs.toList (i*sz+off) vx.cells.toList).toArray.toList.take ((es.set i (over cs off (vs.map (str h)))).length*sz)):=by
        rw[uF,hfl];exact e6.over (ON hI hr) _ (by rw[A7,CZ al];omega)
       split at hk
       ·rename_i j m;have cX:∃x0,vx.cells.toList=[x0]:=by
         revert Cu
         cases vx.cells.toList with
         |nil=>intro Cu;cases Cu
         |cons x0 l=>cases l with
          |nil=>intro _;exact⟨x0,rfl⟩
          |cons _ _=>intro Cu;simp at Cu
        obtain⟨x0,cX⟩:=cX;have Eb:=hr.2.2 0 (.msl j m) x0 rfl (by rw[cX];rfl)
        obtain⟨k1,k2⟩:=hI.write hl e2 (.hol sz (es.set i (over cs off [.junk])) i off (.msl j m)) e4 (over Fs.toList (i*sz+off) vx.cells.toList).toArray (g.ln r) (g.own r) g.S (by simp) rfl (fun b' e=>by rw[e2]at e;cases e;rfl) (fun _ _ h=>h)
         (fun b' o hs=>.inl hs) (fun o hs=>absurd hs (e7 o)) (fun hg HL EK=>by
          obtain⟨u1,u2,u3,u4⟩:=Bw g r (g.ρ r) (g.ln r) (g.tk r) (g.own r) g.S;have mF:i*sz+off<es.length*sz:=by simp only[Ay,AG]at Hb;omega
          refine⟨u3.trans t1,u2.trans (by rw[CH];exact l1),py,b,cap,E,_,?_,u4.trans e2,by rw[CH];exact e3,EK,?_,mI.mono HL (fun _ h=>h) (fun _ h=>h.elim),e7,by rw[CH];exact mF,x0,?_,Eb.mono HL (fun i hi=>DI (by simp) i hi) hg⟩
          ·rw[u1,e1,CH]
          ·simp only[Fj,Fz,BW];exact e5
          ·rw[←A1,cX,Fy _ _ _ _ (by rw[W0];simp only[Ay,AG];omega),Aq ⟨Al _,by simp only[Ay,AG];omega⟩,F5];rfl)
        exact⟨_,_,_,CA,hk,k1,k2⟩
       ·obtain⟨k1,k2⟩:=hI.write hl e2 (.arr sz (es.set i (over cs off (vs.map (str h))))) e4 (over Fs.toList (i*sz+off) vx.cells.toList).toArray (g.ln r) (g.own r) g.S (by simp) rfl (fun b' e=>by rw[e2]at e;cases e;rfl) (fun _ _ h=>h)
         (fun b' o hs=>.inl hs) (fun o hs=>absurd hs (e7 o)) (fun hg HL EK=>by
          obtain⟨u1,u2,u3,u4⟩:=Bw g r (g.ρ r) (g.ln r) (g.tk r) (g.own r) g.S;refine⟨u3.trans t1,u2.trans (by rw[CH];exact l1),py,.inr ⟨b,cap,E,_,?_,u4.trans e2,by rw[CH];exact e3,EK,?_,mI.mono HL (fun _ h=>h) (fun _ h=>h.elim),e7⟩⟩
          ·rw[u1,e1,CH]
          ·simp only[Fj,Fz,BW];exact e5)
        exact⟨_,_,_,CA,hk,k1,k2⟩
    ·exact hk.elim
   ·exact hk.elim
  ·exact hk.elim
end
theorem bV{α:Type}(c vs:List α)(h:vs.length=c.length):over c 0 vs=vs:=by
 rw[My _ _ _ (by omega)];simp[h]
theorem Hz{α:Type}[Inhabited α](n:Nat)(z:List α)(hz:z≠[]):(List.replicate n z).flatten=(List.range (n*z.length)).map fun k=>z[k % z.length]!:=by
 have hl:∀c∈List.replicate n z,c.length=z.length:=fun c hc=>by rw[B5 hc]
 have YA:0<z.length:=MJ.2 hz;apply CU;intro k
 by_cases hk:k<n*z.length
 ·have nZ:k=k / z.length*z.length+k % z.length:=by rw[Nat.mul_comm];exact(T0 k _).symm
  have W4:k % z.length<z.length:=Nat.mod_lt _ YA;have hi:k / z.length<n:=(K6 YA).2 hk;have f1:=E4 hl (i:=k / z.length) (c:=z) (by rw[List.getElem?_replicate,Aq hi]) W4;rw[←nZ]at f1;rw[f1];simp[hk,W4]
 ·rw[A2 (by rw[CZ hl,DE];omega),A2 (by simp;omega)]
section
variable {P:Program}{w0:World}{g0:Gh}{h0 h:Nat→HO}{g:Gh}{w:World}(hI:DA w0 g0 h0 h g w)
include hI
theorem WN{n sz:Nat}{t:Nat→AV}{ρ:Operand→Value}(ht:∀x:Operand,BC g w (AP h) (ev t x) (ρ x)) :
  ∀{ps:List (Nat×Operand)} {es:List (List AV)} {xs:Array Value} {K:List (List AV)→Prop},es.length=n→(∀c∈es,c.length=sz)→Cs g w E9 es.flatten xs.toList→P0 n sz h es t ps K →
   ∃Ft U0,K Ft∧Ft.length=n∧(∀c∈Ft,c.length=sz)∧Cs g w E9 Ft.flatten U0.toList∧Instr.fill (fun i=>some (i*sz,sz)) xs (ps.map fun(i,x)=>(i,ρ x))=some U0
 | [],es,xs,K,hn,hl,h,hk=>⟨es,xs,hk,hn,hl,h,rfl⟩
 |(i,x)::ps,es,xs,K,hn,hl,h,hk=>by
  unfold P0 at hk;split at hk
  ·rename_i hi;have hi:i<n:=HG hi;have h5:=Mi (ht x) hk
   clear hk
   obtain⟨TF,hk,mG,hr⟩:=h5;have Eu:(ρ x).cells.size=sz:=by rw[←mG];simpa using hr.1
   have Wh:=ON hI hr;obtain⟨c,hc⟩:∃c,es[i]?=some c:=⟨_,As (by omega)⟩;have hcl:=hl c (Ar hc);have Hb:i*sz+sz≤es.flatten.length:=by
    rw[CZ hl,hn]
    have:=Bc sz (show i+1≤n from hi)
    rwa [DV]at this
   have hfl:=LD hl hc 0 (TF.map (str ‹Nat→HO›)) (by rw[A7,mG];omega);rw[bV _ _ (by rw[A7,mG,hcl]),G8]at hfl;have EK:=h.over Wh (i*sz) (by rw[A7,mG];exact Hb);have ip:xs.size=es.flatten.length:=by have:=h.1;rwa [BW]at this
   have e:=Nh (ρ x).cells.toList 0 (i*sz) xs (by rw[BW];omega);simp only[G8]at e;rw[←e,←hfl]at EK;obtain⟨Ft,U0,k1,k2,k3,k4,k5⟩:=WN ht (es:=es.set i (TF.map (str _))) (by rw[CH];exact hn) (fun c' nV=>by
    rcases EM nV with nV | rfl
    ·exact hl c' nV
    ·rw[A7];exact mG) EK hk
   refine⟨Ft,U0,k1,k2,k3,k4,?_⟩;simp only[AK,Instr.fill];have e2:(ρ x).cells.zipIdx.foldl (fun cs (c,j)=>cs.setIfInBounds (i*sz+j) c) xs=((ρ x).cells.toList.zipIdx 0).foldl (fun(cs:Array Value) (p:Value×Nat)=>cs.setIfInBounds (i*sz+p.2) p.1) xs:=by
    rw[←Array.foldl_toList];simp
   rw[Ai (by simp[Eu];omega),e2];exact k5
  ·exact hk.elim
theorem RA{cx:Cx}(hT:Ck P cx.T){d:Option Nat}{ty n:Nat}{t:Nat→AV}{ρ:Operand→Value}{K:HK}(ht:∀x:Operand,BC g w (AP h) (ev t x) (ρ x)){ps:Array (Nat×Operand)}
  (hk:Ih cx d h ty n t ps.toList K):NI P w0 g0 h0 h g w (Instr.buildSlice ty n (ps.map fun(i,x)=>(i,ρ x))) K:=by
 unfold Ih at hk;split at hk
 ·rename_i e hs;split at hk
  ·rename_i QJ MG;have MG:=AH MG;split at hk
   ·exact hk.elim
   ·rename_i m hm;split at hk
    ·rename_i Hb;have Hb:=HG Hb;have mR:(cx.T e).zc≠[]:=fun e0=>by rw[e0]at MG;rw[hm]at MG;cases MG
     have rM:∀c∈List.replicate n ((cx.T e).zc.map AV.v),c.length=(cx.T e).size:=fun c hc=>by rw[B5 hc,A7];exact MG
     have pO:Cs g w E9 (List.replicate n ((cx.T e).zc.map AV.v)).flatten ((Array.range (n*(cx.T e).size)).map fun k=>(cx.T e).zc.toArray[k % (cx.T e).zc.toArray.size]!).toList:=by
      have e1:((Array.range (n*(cx.T e).size)).map fun k=>(cx.T e).zc.toArray[k % (cx.T e).zc.toArray.size]!).toList=(List.replicate n (cx.T e).zc).flatten:=by
       rw[Hz n _ mR];simp[MG]
      have e2:(List.replicate n ((cx.T e).zc.map AV.v)).flatten=(List.replicate n (cx.T e).zc).flatten.map AV.v:=by
       rw[Rm,List.map_replicate]
      rw[e1,e2];refine Cs.vals ?_;have GF:∀l:List AV,(∀a∈l,one a=true)→GL l=true:=by
       intro l
       induction l with
       |nil=>intro _;rfl
       |cons a l ih=>intro h;simp[GL,h a (List.mem_cons_self ..),ih (fun b hb=>h b (List.mem_cons_of_mem _ hb))]
      refine GF _ (fun a ha=>?_);obtain⟨x,hx,rfl⟩:=Ak.1 ha;obtain⟨l,hl,hx⟩:=Ej.1 hx;rw[B5 hl]at hx;exact Mc QJ _ (Ak.2 ⟨x,hx,rfl⟩)
     obtain⟨Ft,U0,k1,k2,k3,k4,k5⟩:=WN hI ht (by rw[DE]) rM pO hk;have ip:U0.size=n*(cx.T e).size:=by
      have:=k4.1
      rw[BW,CZ k3,k2]at this;exact this
     obtain⟨g',av,h',q1,q2,q3,q4⟩:=JF hI k1 (vs:=U0) (cap:=n) e k3 (by omega) ip (by
      rw[k2,AD (by rw[BW,ip];exact Al _)];exact k4) w ⟨rfl,rfl,rfl,rfl⟩
     rw[k2]at q4;refine⟨_,_,g',av,h',?_,q1,q2,q3,q4⟩;obtain⟨z,z1,z2⟩:=U3 hT (w:=w) hm;have Eu:=hT.size1 w hm;have e3:(Array.map (fun x:Nat×Operand=>match x with | (i,x)=>(i,ρ x)) ps).toList=ps.toList.map fun(i,x)=>(i,ρ x):=by simp
     have uk:¬(n*(m+1)>2 ^ 24):=by rw[hm]at Hb;have Hb:n*(m+1)≤16777216:=Hb;omega
     simp only[Instr.buildSlice,Sem.run_bind,run_underlying (hT.slice hs),Result.andThen_ok,Eu,Ai uk];rw[e3];rw[hm]at k5
     by_cases h0:n*(m+1)=0
     ·have rO:n=0:=by
       rcases Nat.mul_eq_zero.1 h0 with h | h
       ·exact h
       ·cases h
      subst rO;have er:Array.range 0=#[]:=rfl;simp only[Kb,er,List.map_toArray,EU]at k5;simp only[Kb,Qh,er,List.map_toArray,EU,k5];simp[newRow]
     ·rw[z2]at k5;simp only[Array.toArray_toList]at k5;simp only[Ai h0,Sem.run_bind,z1,Result.andThen_ok,Sem.run_pure,k5];simp[newRow]
    ·exact hk.elim
  ·exact hk.elim
 ·exact hk.elim
end
theorem FG{sz:Nat}:∀{es:List (List AV)},Df sz es→∀c∈es,c.length=sz
 | [],_,c,h=>by cases h
 |d::es,h,c,hc=>by
  rcases Av.1 hc with rfl | hc
  ·exact h.1
  ·exact FG h.2 c hc
def NM(w:World)(x:Value)(n sz:Nat)(news:List Value):Prop :=
 news.length=n*sz∧(∀v∈news,v.oneCell'=true)∧∃(a:Option Addr) (c:Nat),x=.slice a n c∧(n=0∨∃b:Addr,a=some b∧∀j u,news[j]?=some u→w.cell? (b.add j)=some u)
theorem NM.of_rep{g:Gh}{w:World}{U:Nat→Prop}{es:List (List AV)}{sz:Nat}{x:Value}(h:BC g w U (.slice .none es) x)(hl:∀c∈es,c.length=sz) :
  ∃news,NM w x es.length sz news∧Cs g w E9 es.flatten news:=by
 cases h with
 |snil _ a cap=>exact⟨[],⟨by simp,by simp,a,cap,rfl,.inl rfl⟩,by simp,by simp,fun i av x h1 h2=>by simp at h2⟩
 |slice _ _ b off Gd cap val hc Ph Dv Eb =>
  have hf:=CZ hl;have key:∀j,j<es.length*sz→∃cs,es[j / sz]?=some cs∧es.flatten[j]?=cs[j % sz]?∧j % sz<cs.length∧Gd=sz∧j=j / sz*sz+j % sz:=by
   intro j hj;have YA:0<sz:=Nat.pos_of_ne_zero (fun e=>by rw[e]at hj;omega);have nZ:j=j / sz*sz+j % sz:=by rw[Nat.mul_comm];exact(T0 j sz).symm
   have hi:j / sz<es.length:=(K6 YA).2 hj;have W4:j % sz<sz:=Nat.mod_lt _ YA;have h1:es[j / sz]?=some es[j / sz]:=As hi;have h2:=E4 hl h1 W4;rw[←nZ]at h2;have h3:=hl _ (Ax hi);exact⟨_,h1,h2,by rw[h3];exact W4,by rw[←h3];exact(Ph _ _ h1).symm,nZ⟩
  have VB:∀j,j<es.length*sz→∃av,es.flatten[j]?=some av∧w.cell? ⟨b,off+j,none⟩=some (val (j / sz) (j % sz))∧(val (j / sz) (j % sz)).oneCell'=true∧BC g w E9 av (val (j / sz) (j % sz)):=by
   intro j hj;obtain⟨cs,k1,k2,k3,rfl,k5⟩:=key j hj;have d9:cs[j % Gd]?=some cs[j % Gd]:=As k3;obtain⟨_,c2,c3⟩:=Dv _ _ _ _ k1 d9;rw[Gf,←k5]at c2;exact⟨_,k2.trans d9,c2,c3,Eb _ _ _ _ k1 d9⟩
  refine⟨(List.range (es.length*sz)).map fun j=>val (j / sz) (j % sz),⟨by simp,fun v hv=>?_,some ⟨b,off,none⟩,cap,rfl,.inr ⟨_,rfl,fun j u hu=>?_⟩⟩,by rw[hf];simp,fun v hv=>?_,fun i av x h1 h2=>?_⟩
  ·obtain⟨j,hj,rfl⟩:=Ak.1 hv;obtain⟨_,_,_,c,_⟩:=VB j (List.mem_range.1 hj);exact c
  ·obtain⟨hj,rfl⟩:=GG hu;rw[Addr.add_lit];exact(VB j hj).choose_spec.2.1
  ·obtain⟨j,hj,rfl⟩:=Ak.1 hv;obtain⟨_,_,_,c,_⟩:=VB j (List.mem_range.1 hj);exact c
  ·obtain⟨hj,rfl⟩:=GG h2;obtain⟨oC,c1,_,_,c4⟩:=VB i hj;rw[h1]at c1;cases c1;exact c4
section
variable {P:Program}{T:Gg}(hT:Ck P T)
include hT
theorem Hh{e n:Nat}(hs:(T e).size=n+1):∃i z,P.info? e=some i∧i.zero=some z∧i.size=(T e).size∧i.bytes=(T e).bytes∧(T e).zc=z.cells.toList:=by
 rcases hT e with h | h
 ·rw[h]at hs;cases hs
 unfold cC at h;split at h
 ·split at h
  ·rename_i d i h1 h2 _ z h3;exact⟨i,z,h2,h3,by rw[h],by rw[h],by rw[TI.zc_cells,h]⟩
  ·rw[h]at hs;cases hs
 ·rw[h]at hs;cases hs
theorem Iz(w:World){t e ty k:Nat}(ht:(T t).d=.slice e)(hk:(T e).size=k+1)(a a' : Option Addr)(n cap c:Nat)(hc:n≤cap) :
  (Builtin.append_ #[t,t] ty #[.slice a n cap,.slice a' 0 c]).run P w=.ok (.slice a n cap) w:=by
 have hu:=hT.slice ht;cases a<;>cases a'<;>simp[Builtin.append_,run_underlying hu,hT.size1 w hk,Builtin.lenOf,hc,Builtin.firstCells,loadCells,loadCellsFrom,storeCells]
theorem HB(w:World){t e ty k:Nat}(ht:(T t).d=.slice e)(hk:(T e).size=k+1)(hz:(T e).zc.length=(T e).size){s x:Value}{n m cap c:Nat}{olds news:List Value}{a a' : Option Addr}
  (zy:NM w s n (T e).size olds) (hs:s=.slice a n cap) (Oi:a=none→cap=0) (zz:NM w x m (T e).size news) (hx:x=.slice a' m c) (hm:0<m) (hg:cap<n+m) (hb:(n+m)*(T e).bytes≤140737488355328) (h63:n+m≤9223372036854775807) :
  ∃nc rest,(Builtin.append_ #[t,t] ty #[s,x]).run P w=.ok (.slice (some ⟨w.heap.size,0,none⟩) (n+m) nc) (w.drew.alloc (.cells (olds++news++rest).toArray e (0,0)))∧n+m≤nc ∧
   (olds++news++rest).length=nc*(T e).size:=by
 obtain⟨i,z,i1,i2,i3,i4,i5⟩:=Hh hT hk;have hu:=hT.slice ht;obtain⟨n1,n2,a1,c1,n3,n4⟩:=zz;subst hx;cases n3;rcases n4 with h | ⟨b,rfl,IH⟩
 ·omega
 ·have MG:z.cells.size=(T e).size:=by rw[←hz,i5];simp
  have kK:∀(nc:Nat) (pre:List Value),pre.length=(n+m)*(T e).size→n+m≤nc→(pre++(Builtin.zeroCells z.cells (nc-(n+m))).toList).length=nc*(T e).size:=by
   intro nc pre hp Hb;have e1:(Builtin.zeroCells z.cells (nc-(n+m))).toList.length=(nc-(n+m))*(T e).size:=by simp only[BW,size_zeroCells,MG]
   rw[Ad,e1,hp,←E3]
   congr 1;omega
  obtain⟨o1,o2,a2,c2,o3,o4⟩:=zy;subst hs;cases o3;cases a with
  |none =>
   obtain rfl:=Oi rfl;have rO:n=0:=by
    rcases o4 with h | ⟨b',h,_⟩
    ·exact h
    ·cases h
   subst rO;have ho:olds=[]:=AN (by simpa using o1);subst ho;have hr:=run_append_nil (P:=P) w t ty e i z hu i1 i2 b m c news (by rw[i3];exact n1) IH hm (by omega) (by rw[i4];rw[Be]at hb;omega);refine⟨grownCap w m 0 e,(Builtin.zeroCells z.cells (grownCap w m 0 e-m)).toList,?_,by rw[Be];exact grownCap_ge w m 0 e,?_⟩
   ·rw[hr,Be]
    congr 3
    apply NG;simp
   ·have:=kK (grownCap w m 0 e) news (by rw[Be];exact n1) (by rw[Be];exact grownCap_ge w m 0 e)
    rw[Be]at this;simpa using this
  |some b' =>
   have Gr:∀j u,olds[j]?=some u→w.cell? (b'.add j)=some u:=by
    rcases o4 with h | ⟨b2,h,h'⟩
    ·intro j u hj;rw[h,Kb]at o1
     have:olds=[]:=AN o1
     rw[this]at hj;simp at hj
    ·cases h;exact h'
   have hr:=run_append_grow (P:=P) w t ty e i z hu i1 i2 b' n cap olds (by rw[i3];exact o1) Gr b m c news (by rw[i3];exact n1) IH hg (by omega) (by rw[i4];exact growslice_fits hg hb);refine⟨grownCap w (n+m) cap e,(Builtin.zeroCells z.cells (grownCap w (n+m) cap e-(n+m))).toList,?_,grownCap_ge w (n+m) cap e,kK _ _ (by rw[Ad,o1,n1,←E3]) (grownCap_ge w (n+m) cap e)⟩;rw[hr]
   congr 3
   apply NG;simp
end
end Go.Eng
