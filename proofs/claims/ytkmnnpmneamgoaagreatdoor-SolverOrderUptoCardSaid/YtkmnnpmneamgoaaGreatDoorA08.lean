/- Lemmas for the claims of this seat, without a condition: part 8 (EngN, EngO, EngP, EngQ). -/
import Derived.Test.YtkmnnpmneamgoaaGreatDoorA07
namespace Go.Eng

def NX(P:Program)(w0:World)(g0:Gh)(h0 h:Nat→HO)(g:Gh)(w:World)(m:Sem Value)(K:HK):Prop :=
 ∃x w' g' av h',m.run P w=.ok x w'∧K av h'∧Dk w0 g0 h0 h' g' w'∧Le h g w h' g' w'∧BF g' w' (AK h') av x
def dC(P:Program)(w0:World)(g0:Gh)(h0 h:Nat→HO)(g:Gh)(w:World)(m:Sem Unit)(K:HK):Prop :=
 ∃w' g' h',m.run P w=.ok () w'∧K (.v undef) h'∧Dk w0 g0 h0 h' g' w'∧Le h g w h' g' w'

section
variable {P:Program}{w0:World}{g0:Gh}{h0 h:Nat→HO}{g:Gh}{w:World}(hI:Dk w0 g0 h0 h g w)
include hI

theorem BR.does{m:Sem Value}{K:HK}(hg:BR P h g w m (fun v=>K v h)):NX P w0 g0 h0 h g w m K :=
 let ⟨x,av,h1,h2,h3⟩:=hg
 ⟨x,w,g,av,h,h1,h2,hI,.refl _ _ _,h3⟩


theorem Dk.newOwn{d:Nat}(hd:h d=.free)(o' : HO)(ob:Obj)(x:Value)(n:Nat)(t:Bool)(w1:World)(KO:w1.heap=w.heap∧w1.os=w.os∧w1.tape=w.tape∧w1.output=w.output)(Dn:o'≠.free)
  (Jf:JW g (g.upd d x n t (some w.heap.size) g.S) (AK h)→EP g w (g.upd d x n t (some w.heap.size) g.S) (w1.alloc ob) →
   D4 (g.upd d x n t (some w.heap.size) g.S) (w1.alloc ob) (AK (AT h d o')) d o') :
  Dk w0 g0 h0 (AT h d o') (g.upd d x n t (some w.heap.size) g.S) (w1.alloc ob)∧Le h g w (AT h d o') (g.upd d x n t (some w.heap.size) g.S) (w1.alloc ob):=by
 refine hI.upd d o' x n t _ _ _ none ⟨KO.2.1,KO.2.2.1,KO.2.2.2,by rw[World.size_alloc,KO.1];omega⟩ (fun k hk _=>?_) (fun b e=>by cases e) (fun _ _ h=>h) (fun _ _ h=>.inl h) (fun b o e=>by cases e)
  (fun b _ e=>?_) Dn (fun hu=>absurd hd hu) Jf
 ·rw[heap_alloc_old _ _ (by rw[KO.1];exact hk),KO.1]
 ·cases e;rw[World.size_alloc,KO.1];exact⟨by omega,.inr (Ak _)⟩

def Gh.more(g:Gh)(b n:Nat):Nat→Nat→Prop:=fun b' o=>g.S b' o∨(b'=b∧o<n)
theorem Dk.newStable{d:Nat}(hd:h d=.free)(o' : HO)(vs:Array Value)(E:TypeId)(m:Nat)(x:Value)(n:Nat)(t:Bool)(w1:World)(KO:w1.heap=w.heap∧w1.os=w.os∧w1.tape=w.tape∧w1.output=w.output)(Dn:o'≠.free)
  (Jf:JW g (g.upd d x n t none (g.more w.heap.size m)) (AK h)→EP g w (g.upd d x n t none (g.more w.heap.size m)) (w1.alloc (.cells vs E (0,0))) →
   D4 (g.upd d x n t none (g.more w.heap.size m)) (w1.alloc (.cells vs E (0,0))) (AK (AT h d o')) d o') :
  Dk w0 g0 h0 (AT h d o') (g.upd d x n t none (g.more w.heap.size m)) (w1.alloc (.cells vs E (0,0))) ∧
   Le h g w (AT h d o') (g.upd d x n t none (g.more w.heap.size m)) (w1.alloc (.cells vs E (0,0))):=by
 refine hI.upd d o' x n t _ _ _ none ⟨KO.2.1,KO.2.2.1,KO.2.2.2,by rw[World.size_alloc,KO.1];omega⟩ (fun k hk _=>?_) (fun b e=>by cases e) (fun _ _ h=>.inl h) (fun b o hb=>?_) (fun b o e=>by cases e)
  (fun b _ e=>by cases e) Dn (fun hu=>absurd hd hu) Jf
 ·rw[heap_alloc_old _ _ (by rw[KO.1];exact hk),KO.1]
 ·rcases hb with hb | ⟨rfl,_⟩
  ·exact .inl hb
  ·exact .inr ⟨by rw[World.size_alloc,KO.1];omega,.inl (Ak _)⟩
end

theorem BJ(g:Gh)(r:Nat)(x:Value)(n:Nat)(t:Bool)(o:Option Nat)(S:Nat→Nat→Prop) :
  (g.upd r x n t o S).ρ r=x∧(g.upd r x n t o S).ln r=n∧(g.upd r x n t o S).tk r=t∧(g.upd r x n t o S).own r=o:=by simp[Gh.upd]
theorem Hw(w:World)(o:Obj){b:Nat}(hb:b=w.heap.size):(w.alloc o).heap[b]?=some o:=by subst hb;exact heap_alloc_new w o

theorem BF.cptr_row{g:Gh}{w:World}{U:Nat→Prop}{b:Nat}{cs:List AV}{vs:Array Value}{E:TypeId}{f:Nat×Nat}(hb:w.heap[b]?=some (.cells vs E f))(hr:CE g w E8 cs vs.toList)
  (hS:∀o,o<cs.length→g.S b o):BF g w U (.cptr cs) (.pointer (some ⟨b,0,none⟩)):=by
 refine .cptr U cs b 0 (fun j=>vs[j]?.getD default) (fun j av hj=>?_) (fun j av hj=>?_)
 ·obtain⟨x,x1,x2,x3⟩:=hr.at hj;rw[A4]at x1;refine⟨hS _ (by rw[Bd];exact(At.1 hj).1),?_,?_⟩
  ·rw[F5 hb,Bd,x1];rfl
  ·rw[x1];exact x2
 ·obtain⟨x,x1,x2,x3⟩:=hr.at hj;rw[A4]at x1;rw[x1];exact x3
theorem BF.slice_off{g:Gh}{w:World}{U:Nat→Prop}{b off sz cap:Nat}{es:List (List AV)}{vs:Array Value}{E:TypeId}{f:Nat×Nat}(hb:w.heap[b]?=some (.cells vs E f))(hl:∀cs∈es,cs.length=sz)
  (hc:es.length≤cap) (hr:CE g w E8 es.flatten ((vs.toList.drop off).take (es.length*sz))) (hS:∀o,o<es.length*sz→g.S b (off+o)):BF g w U (.slice .none es) (.slice (some ⟨b,off,none⟩) es.length cap):=by
 have key:∀(i:Nat) (cs:List AV) (j:Nat) (av:AV),es[i]?=some cs→cs[j]?=some av→∃x,vs[off+(i*sz+j)]?=some x∧x.oneCell'=true∧BF g w E8 av x∧i*sz+j<es.length*sz:=by
  intro i cs j av h1 h2;have hcl:=hl cs (Av h1);have hj:j<sz:=by rw[←hcl];exact(At.1 h2).1
  have hi:=(At.1 h1).1;have Dt:i*sz+j<es.length*sz:=by
   have:=Bc sz (show i+1≤es.length from hi)
   rw[DW]at this;omega
  have hf:=Fg hl h1 hj;rw[h2]at hf;obtain⟨x,x1,x2,x3⟩:=hr.at hf;rw[B2 Dt,Du,A4]at x1;exact⟨x,x1,x2,x3,Dt⟩
 refine .slice U es b off sz cap (fun i j=>vs[off+(i*sz+j)]?.getD default) hc (fun i cs h=>hl cs (Av h)) (fun i cs j av h1 h2=>?_) (fun i cs j av h1 h2=>?_)
 ·obtain⟨x,x1,x2,x3,x4⟩:=key i cs j av h1 h2;rw[GA];refine⟨hS _ x4,?_,?_⟩
  ·rw[F5 hb,x1];rfl
  ·rw[x1];exact x2
 ·obtain⟨x,x1,x2,x3,x4⟩:=key i cs j av h1 h2;rw[x1];exact x3
theorem BF.slice_row{g:Gh}{w:World}{U:Nat→Prop}{b sz cap:Nat}{es:List (List AV)}{vs:Array Value}{E:TypeId}{f:Nat×Nat}(hb:w.heap[b]?=some (.cells vs E f))(hl:∀cs∈es,cs.length=sz)
  (hc:es.length≤cap) (hr:CE g w E8 es.flatten (vs.toList.take (es.length*sz))) (hS:∀o,o<es.length*sz→g.S b o):BF g w U (.slice .none es) (.slice (some ⟨b,0,none⟩) es.length cap):=by
 have key:∀(i:Nat) (cs:List AV) (j:Nat) (av:AV),es[i]?=some cs→cs[j]?=some av→∃x,vs[i*sz+j]?=some x∧x.oneCell'=true∧BF g w E8 av x∧i*sz+j<es.length*sz:=by
  intro i cs j av h1 h2;have hcl:=hl cs (Av h1);have hj:j<sz:=by rw[←hcl];exact(At.1 h2).1
  have hi:=(At.1 h1).1;have Dt:i*sz+j<es.length*sz:=by
   have:=Bc sz (show i+1≤es.length from hi)
   rw[DW]at this;omega
  have hf:=Fg hl h1 hj;rw[h2]at hf;obtain⟨x,x1,x2,x3⟩:=hr.at hf;rw[B2 Dt,A4]at x1;exact⟨x,x1,x2,x3,Dt⟩
 refine .slice U es b 0 sz cap (fun i j=>vs[i*sz+j]?.getD default) hc (fun i cs h=>hl cs (Av h)) (fun i cs j av h1 h2=>?_) (fun i cs j av h1 h2=>?_)
 ·obtain⟨x,x1,x2,x3,x4⟩:=key i cs j av h1 h2;rw[Bd];refine⟨hS _ x4,?_,?_⟩
  ·rw[F5 hb,x1];rfl
  ·rw[x1];exact x2
 ·obtain⟨x,x1,x2,x3,x4⟩:=key i cs j av h1 h2;rw[x1];exact x3

section
variable {P:Program}{w0:World}{g0:Gh}{h0 h:Nat→HO}{g:Gh}{w:World}

theorem QE(hI:Dk w0 g0 h0 h g w){d:Nat}(hd:h d=.free){cs:List AV}{vs:Array Value}(E:TypeId)(hr:CE g w (AK h) cs vs.toList) :
  ∃g',Dk w0 g0 h0 (AT h d (.cells cs)) g' (w.alloc (.cells vs E (0,0)))∧Le h g w (AT h d (.cells cs)) g' (w.alloc (.cells vs E (0,0))) ∧
   BF g' (w.alloc (.cells vs E (0,0))) (AK (AT h d (.cells cs))) (.ref d 0) (.pointer (some ⟨w.heap.size,0,none⟩)):=by
 obtain⟨k1,k2⟩:=hI.newOwn hd (.cells cs) (.cells vs E (0,0)) (.pointer (some ⟨w.heap.size,0,none⟩)) 0 false w ⟨rfl,rfl,rfl,rfl⟩ (by simp) (fun hg hk=>by
  obtain⟨u1,u2,u3,u4⟩:=BJ g d (.pointer (some ⟨w.heap.size,0,none⟩)) 0 false (some w.heap.size) g.S;exact⟨u3,w.heap.size,E,vs,u4,u1,Hw w _ rfl,hr.mono hk (fun i hi=>DR (by simp) i hi) hg,fun o ho=>by have:=hI.slt _ _ ho;omega⟩)
 refine⟨_,k1,k2,.ref _ d 0 w.heap.size (by unfold AK;rw[A9];simp) ?_ ?_⟩
 ·simp[Gh.upd]
 ·simp[Gh.upd]
theorem gu(hI:Dk w0 g0 h0 h g w){d:Nat}(hd:h d=.free){cs:List AV}{vs:Array Value}(E:TypeId)(hr:CE g w E8 cs vs.toList) :
  ∃g',Dk w0 g0 h0 (AT h d (.ro cs)) g' (w.alloc (.cells vs E (0,0)))∧Le h g w (AT h d (.ro cs)) g' (w.alloc (.cells vs E (0,0))) ∧
   BF g' (w.alloc (.cells vs E (0,0))) (AK (AT h d (.ro cs))) (.ref d 0) (.pointer (some ⟨w.heap.size,0,none⟩)):=by
 obtain⟨k1,k2⟩:=hI.newStable hd (.ro cs) vs E cs.length (.pointer (some ⟨w.heap.size,0,none⟩)) 0 false w ⟨rfl,rfl,rfl,rfl⟩ (by simp) (fun hg hk=>by
  obtain⟨u1,u2,u3,u4⟩:=BJ g d (.pointer (some ⟨w.heap.size,0,none⟩)) 0 false none (g.more w.heap.size cs.length);exact⟨u3,w.heap.size,u1,BF.cptr_row (Hw w _ rfl) (hr.mono hk (fun _ h=>h) (fun _ h=>h.elim)) (fun o ho=>.inr ⟨rfl,ho⟩)⟩)
 refine⟨_,k1,k2,.ref _ d 0 w.heap.size (by unfold AK;rw[A9];simp) ?_ ?_⟩
 ·simp[Gh.upd]
 ·simp[Gh.upd]
theorem JP(hI:Dk w0 g0 h0 h g w){cx:Cx}{d:Option Nat}{sz:Nat}{es:List (List AV)}{K:HK}(hk:Ep cx d h sz es K){vs:Array Value}{cap:Nat}(E:TypeId)(hl:∀cs∈es,cs.length=sz)
  (hc:es.length≤cap) (hs:vs.size=cap*sz) (hr:CE g w E8 es.flatten (vs.toList.take (es.length*sz))) (w1:World) (KO:w1.heap=w.heap∧w1.os=w.os∧w1.tape=w.tape∧w1.output=w.output) :
  ∃g' av h',K av h'∧Dk w0 g0 h0 h' g' (w1.alloc (.cells vs E (0,0)))∧Le h g w h' g' (w1.alloc (.cells vs E (0,0))) ∧
   BF g' (w1.alloc (.cells vs E (0,0))) (AK h') av (.slice (some ⟨w.heap.size,0,none⟩) es.length cap):=by
 have Fj:(w1.alloc (.cells vs E (0,0))).heap[w.heap.size]?=some (.cells vs E (0,0)):=Hw w1 _ (by rw[KO.1]);unfold Ep at hk;split at hk
 ·exact hk.elim
 ·rename_i d;generalize Kq cx d=d1 at hk;split at hk
  ·rename_i hd;split at hk
   ·obtain⟨k1,k2⟩:=hI.newOwn hd (.arr sz es) (.cells vs E (0,0)) (.slice (some ⟨w.heap.size,0,none⟩) es.length cap) es.length true w1 KO (by simp) (fun hg I0=>by
     obtain⟨u1,u2,u3,u4⟩:=BJ g d1 (.slice (some ⟨w.heap.size,0,none⟩) es.length cap) es.length true (some w.heap.size) g.S;exact⟨u3,u2,hl,.inr ⟨w.heap.size,cap,E,vs,u1,u4,hc,Fj,hs,hr.mono I0 (fun _ h=>h) (fun _ h=>h.elim),fun o ho=>by have:=hI.slt _ _ ho;omega⟩⟩)
    refine⟨_,_,_,hk,k1,k2,.msl _ d1 es.length _ cap (by unfold AK;rw[A9];simp) ?_ ?_ (.inr ⟨_,rfl⟩) ?_⟩<;>simp[Gh.upd]
   ·by_cases fy:es.length=cap
    ·obtain⟨k1,k2⟩:=hI.newStable hd (.tok sz es.length) vs E (es.length*sz) (.slice (some ⟨w.heap.size,0,none⟩) es.length cap) es.length true w1 KO (by simp) (fun hg I0=>by
      obtain⟨u1,u2,u3,u4⟩:=BJ g d1 (.slice (some ⟨w.heap.size,0,none⟩) es.length cap) es.length true none (g.more w.heap.size (es.length*sz));exact⟨u3,u2,_,cap,u1,.inl ⟨fy,u4⟩⟩)
     refine⟨_,_,_,hk,k1,k2,.tok _ d1 sz es _ (BF.slice_row Fj hl hc (hr.mono k2.keeps (fun _ h=>h) (fun _ h=>h.elim)) (fun o ho=>.inr ⟨rfl,ho⟩)) hl (by unfold AK;rw[A9];simp) ?_ ?_ ?_⟩<;>simp[Gh.upd]
    ·have ov:=hI.upd d1 (.tok sz es.length) (.slice (some ⟨w.heap.size,0,none⟩) es.length cap) es.length true (some w.heap.size) (g.more w.heap.size (es.length*sz)) (w1.alloc (.cells vs E (0,0))) none
      ⟨KO.2.1,KO.2.2.1,KO.2.2.2,by rw[World.size_alloc,KO.1];omega⟩ (fun k KN _=>by rw[heap_alloc_old _ _ (by rw[KO.1];exact KN),KO.1]) (fun b e=>by cases e) (fun _ _ h=>.inl h)
      (fun b o hb=>by
       rcases hb with hb | ⟨rfl,_⟩
       ·exact .inl hb
       ·exact .inr ⟨by rw[World.size_alloc,KO.1];omega,.inl (Ak _)⟩) (fun b o e=>by cases e)
      (fun b _ e=>by cases e;rw[World.size_alloc,KO.1];exact⟨by omega,.inr (Ak _)⟩) (by simp) (fun hu=>absurd hd hu) (fun hg I0=>by
       obtain⟨u1,u2,u3,u4⟩:=BJ g d1 (.slice (some ⟨w.heap.size,0,none⟩) es.length cap) es.length true (some w.heap.size) (g.more w.heap.size (es.length*sz));exact⟨u3,u2,_,cap,u1,.inr ⟨hc,w.heap.size,E,vs,0,rfl,u4,Fj,by rw[hs,Bd],fun o ho=>by
        rcases ho with ho | ⟨_,ho⟩
        ·have:=hI.slt _ _ ho;omega
        ·omega⟩⟩)
     obtain⟨k1,k2⟩:=ov;refine⟨_,_,_,hk,k1,k2,.tok _ d1 sz es _ (BF.slice_row Fj hl hc (hr.mono k2.keeps (fun _ h=>h) (fun _ h=>h.elim)) (fun o ho=>.inr ⟨rfl,ho⟩)) hl (by unfold AK;rw[A9];simp) ?_ ?_ ?_⟩<;>simp[Gh.upd]
  ·exact hk.elim
end
end Go.Eng

namespace Go.Eng

theorem Ru{α:Type}:∀(cs:List α) (o:Nat) (vs:List α),o+vs.length≤cs.length→over cs o vs=cs.take o++vs++cs.drop (o+vs.length)
 | [],o,vs,h=>by
  simp at h;obtain⟨rfl,rfl⟩:=h
  rfl
 |c::cs,o+1,vs,h=>by
  rw[over,Ru cs o vs (by simp at h;omega)];simp only[IN,Iq,BU,Nat.add_right_comm o 1,List.drop_succ_cons]
 |c::cs,0,[],h=>by simp[over]
 |c::cs,0,v::vs,h=>by
  rw[over,Ru cs 0 vs (by simp at h;omega)];simp
theorem cH{α:Type}(cs:List α)(o n:Nat)(vs:List α)(h:o+vs.length≤n)(hn:n≤cs.length):(over cs o vs).take n=over (cs.take n) o vs:=by
 apply Dc;intro i;rw[Gw _ _ _ _ (by simp;omega)]
 by_cases hi:i<n
 ·rw[B2 hi,Gw _ _ _ _ (by omega),B2 hi]
 ·rw[Am (by omega),AZ (by rw[AN,HC];omega),AZ (by simp;omega)]
theorem Qp{α:Type}{n:Nat}:∀{es:List (List α)},(∀c∈es,c.length=n)→∀{i:Nat} {c:List α},es[i]?=some c→∀(o:Nat) (vs:List α),o+vs.length≤n →
  (es.set i (over c o vs)).flatten=over es.flatten (i*n+o) vs
 | [],_,i,c,h,_,_,_=>by simp at h
 |d::es,hl,i,c,h,o,vs,HI=>by
  have hd:=hl d (Ab ..);have hfl:=Ek (es:=d::es) (n:=n) hl;have Dt:=(At.1 h).1;have qx:i*n+o+vs.length≤(d::es).flatten.length:=by
   rw[hfl]
   have:=Bc n (show i+1≤(d::es).length from Dt)
   rw[DW]at this;omega
  have hcl:=hl c (Av h);apply Dc;intro j;rw[Gw _ _ _ _ qx];have Nx:∀e∈(d::es).set i (over c o vs),e.length=n:=fun e he=>by
   rcases O7 he with he | rfl
   ·exact hl e he
   ·rw[HC];exact hcl
  by_cases hn:n=0
  ·subst hn;have h1:=Ek Nx;have h2:=hfl;simp only[Nat.mul_zero,List.length_eq_zero_iff]at h1 h2;rw[h1,h2]
   have:¬(i*0+o≤j∧j<i*0+o+vs.length):=by omega
   rw[Am this]
  ·have oy:j=j / n*n+j % n:=by rw[Nat.mul_comm];exact(Uf j n).symm
   have Xj:j % n<n:=Nat.mod_lt _ (by omega)
   by_cases hj:j / n<(d::es).length
   ·have g1:(d::es)[j / n]?=some ((d::es)[j / n]):=Ay hj;have g2:((d::es).set i (over c o vs))[j / n]?=some (if i=j / n then over c o vs else(d::es)[j / n]):=by
     rw[List.getElem?_set]
     by_cases e:i=j / n
     ·rw[Aw e,Aw (by omega),Aw e]
     ·rw[Am e,Am e];exact g1
    have f1:=Fg hl g1 Xj;have f2:=Fg Nx g2 Xj;rw[←oy]at f1 f2;rw[f1,f2];split
    ·rename_i e;rw[e]at h;rw[g1]at h;cases h;rw[Gw _ _ _ _ (by omega)];have e2:i*n+o≤j↔o≤j % n:=by rw[e];omega
     have e3:j<i*n+o+vs.length↔j % n<o+vs.length:=by rw[e];omega
     simp only[e2,e3];split
     ·congr 1;rw[e];omega
     ·rfl
    ·rename_i e
     have:¬(i*n+o≤j∧j<i*n+o+vs.length):=by
      rintro⟨q1,q2⟩
      apply e;have a1:i*n≤j:=by omega
      have a2:j<(i+1)*n:=by rw[DW];omega
      have:=(Nat.le_div_iff_mul_le (by omega)).2 a1
      have:=(Ll (by omega)).2 a2
      omega
     rw[Am this]
   ·have oA:(d::es).length*n≤j:=by
     have:=Nat.not_lt.1 hj
     have:=(Nat.le_div_iff_mul_le (by omega)).1 this
     exact this
    have:¬(i*n+o≤j∧j<i*n+o+vs.length):=by rw[hfl]at qx;omega
    rw[Am this,AZ (by rw[Ek Nx,Jr];exact oA),AZ (by rw[hfl];exact oA)]

theorem OT{P:Program}{T:GK}(hT:Cn P T)(w:World){t b off:Nat}{x:Value}{F2:Array Value}{E:TypeId}(hd:(T t).d≠.other)(hs:x.cells.toList.length=(T t).size)
  (h1:∀v∈x.cells.toList,v.oneCell'=true) (hb:w.heap[b]?=some (.cells F2 E (0,0))) (HI:off+x.cells.toList.length≤F2.size) :
  (Instr.storeAt t (.pointer (some ⟨b,off,none⟩)) x).run P w=.ok () (w.setRow b (over F2.toList off x.cells.toList).toArray):=by
 have FK:=run_storeCells_at P b off E x.cells.toList 0 F2 w hb (by simpa using HI) h1;simp only[Hg]at FK;have Wn : x.cells.size=(T t).size:=by simpa using hs
 rw[Ru _ _ _ (by simpa using HI)];simp only[Instr.storeAt,Sem.run_bind,Instr.sureAddr,Sem.run_pure,Result.andThen_ok,storeVar,hT.size w hd,Wn,UU,not_true_eq_false,FL];exact FK

section
variable {P:Program}{w0:World}{g0:Gh}{h0 h:Nat→HO}{g:Gh}{w:World}(hI:Dk w0 g0 h0 h g w)
include hI

theorem aU{T:GK}(hT:Cn P T){d:Option Nat}{e:Nat}{K:HK}(hk:RK T d h e K):NX P w0 g0 h0 h g w (Instr.alloc e true (.tuple #[])) K:=by
 unfold RK at hk;split at hk
 ·exact hk.elim
 ·split at hk
  ·rename_i hd;split at hk
   ·exact hk.elim
   ·rename_i Dn;split at hk
    ·rename_i ha;obtain⟨z,z1,z2,_⟩:=O2 hT (w:=w) Dn;have hr:CE g w (AK h) ((T e).zc.map .v) z.cells.toList:=by rw[z2]at ha⊢;exact CE.vals ha
     obtain⟨g',k1,k2,k3⟩:=QE hI hd (vs:=z.cells) e hr;refine⟨_,_,g',_,_,?_,hk,k1,k2,k3⟩;simp[Instr.alloc,z1,newVar,newRow]
    ·exact hk.elim
  ·exact hk.elim

theorem OY{cs:List AV}{vs:List Value}(hr:CE g w (AK h) cs vs):CE g w E8 (cs.map (str h)) vs:=by
 refine⟨by rw[Bp];exact hr.1,hr.2.1,fun i av x h1 h2=>?_⟩;rw[AH,AW]at h1;obtain⟨a,a1,rfl⟩:=h1;exact(hr.2.2 i a x a1 h2).str hI.objs

theorem jm{cx:Cx}{d:Option Nat}{e:Nat}{x:AV}{vx:Value}{K:HK}(hx:BF g w (AK h) x vx)(hk:bh cx d h e x K):NX P w0 g0 h0 h g w (Instr.box e vx) K:=by
 unfold bh at hk;split at hk
 ·exact hk.elim
 ·split at hk
  ·rename_i hd;split at hk
   ·exact hk.elim
   ·obtain⟨cs,hk,hn,hr⟩:=Ms hx hk;split at hk
    ·obtain⟨g',k1,k2,k3⟩:=gu hI hd (vs:=vx.cells) e (OY hI hr);exact⟨_,_,g',_,_,rfl,hk,k1,k2,k3⟩
    ·obtain⟨g',k1,k2,k3⟩:=QE hI hd (vs:=vx.cells) e hr;exact⟨_,_,g',_,_,rfl,hk,k1,k2,k3⟩
  ·exact hk.elim

theorem Dk.write{r b:Nat}(hl:(h r).live)(ho:g.own r=some b)(o' : HO){F2:Array Value}{E:TypeId}(hb:w.heap[b]?=some (.cells F2 E (0,0)))(new:Array Value)(n:Nat)(ow:Option Nat)(S' : Nat→Nat→Prop)
  (Dn:o'≠.free) (hn:n=g.ln r) (qC:∀b',ow=some b'→b'=b) (hS:∀b o,g.S b o→S' b o) (rX:∀b' o,S' b' o→g.S b' o∨b'=b) (qt:∀o,g.S b o→new[o]?=F2[o]?)
  (Jf:JW g (g.upd r (g.ρ r) n (g.tk r) ow S') (AK h)→EP g w (g.upd r (g.ρ r) n (g.tk r) ow S') (w.setRow b new)→(w.setRow b new).heap[b]?=some (.cells new E (0,0)) →
   D4 (g.upd r (g.ρ r) n (g.tk r) ow S') (w.setRow b new) (AK (AT h r o')) r o') :
  Dk w0 g0 h0 (AT h r o') (g.upd r (g.ρ r) n (g.tk r) ow S') (w.setRow b new)∧Le h g w (AT h r o') (g.upd r (g.ρ r) n (g.tk r) ow S') (w.setRow b new):=by
 have Fj:=setRow_heap w b F2 new E (0,0) hb;have Dt:=(hI.loc r b hl ho).1
 refine hI.upd r o' _ _ _ _ _ _ (some b) ⟨rfl,rfl,rfl,by rw[size_setRow];exact Ak _⟩ (fun k hk Dn=>setRow_other w b k new (fun e=>Dn (by rw[e]))) (fun b' e=>by cases e;exact⟨hl,ho⟩) hS (fun b' o hs=>?_)
  (fun b' o e hs=>?_) (fun b' _ e=>?_) Dn (fun _=>⟨rfl,by omega,fun _=>rfl,fun _=>rfl⟩) (fun hg hk=>Jf hg hk Fj)
 ·rcases rX b' o hs with h1 | rfl
  ·exact .inl h1
  ·exact .inr ⟨by rw[size_setRow];exact Dt,.inr ⟨hl,ho⟩⟩
 ·cases e
  refine⟨?_,fun es ck he=>by rw[hb]at he;cases he⟩;rw[F5 Fj,F5 hb];exact qt o hs
 ·obtain rfl:=qC b' e;exact⟨by rw[size_setRow];exact Dt,.inl ⟨hl,ho⟩⟩

theorem df{cx:Cx}(hT:Cn P cx.T){t:Nat}{p x:AV}{vp vx:Value}{K:HK}(hp:BF g w (AK h) p vp)(hx:BF g w (AK h) x vx)(hk:PT cx h t p x K) :
  dC P w0 g0 h0 h g w (Instr.storeAt t vp vx) K:=by
 unfold PT at hk;split at hk
 ·exact hk.elim
 ·rename_i hd;have h5:=Ms hx hk
  clear hk
  obtain⟨vs,hk,hn,hr⟩:=h5;have CM:vx.cells.toList.length=vs.length:=hr.1;split at hk
  ·rename_i r off;have ho:=hI.objs r;split at hk
   ·rename_i cs e;obtain⟨HI,hk⟩:=hk;rw[e]at ho;obtain⟨t0,b,E,F2,a1,a2,a3,a4,a5⟩:=ho;cases hp with
    |ref _ _ _ b' hu ht lC =>
     rw[a2]at lC;cases lC;have hcs:F2.toList.length=cs.length:=a4.1;have CV:=OT hT w (t:=t) (off:=off) (x:=vx) hd (by rw[CM,hn]) hr.2.1 a3 (by rw[CM];simp at hcs;omega);have hl:(h r).live:=by rw[e];trivial
     have sc:=a4.over hr off HI;split at hk
     ·obtain⟨k1,k2⟩:=hI.write hl a1 (.ro ((over cs off vs).map (str h))) a3 (over F2.toList off vx.cells.toList).toArray (g.ln r) none (g.more b cs.length) (by simp) rfl (fun _ e=>by cases e) (fun _ _ h=>.inl h)
       (fun b' o hs=>hs.elim .inl (fun hs=>.inr hs.1)) (fun o hs=>absurd hs (a5 o)) (fun hg I0 Fj=>by
        obtain⟨u1,u2,u3,u4⟩:=BJ g r (g.ρ r) (g.ln r) (g.tk r) none (g.more b cs.length);refine⟨u3.trans t0,b,u1.trans a2,BF.cptr_row Fj ?_ (fun o ho=>.inr ⟨rfl,?_⟩)⟩
        ·exact(OY hI sc).mono I0 (fun _ h=>h) (fun _ h=>h.elim)
        ·rw[Bp,HC]at ho;exact ho)
      exact⟨_,_,_,CV,hk,k1,k2⟩
     ·obtain⟨k1,k2⟩:=hI.write hl a1 (.cells (over cs off vs)) a3 (over F2.toList off vx.cells.toList).toArray (g.ln r) (g.own r) g.S (by simp) rfl (fun b' e=>by rw[a1]at e;cases e;rfl) (fun _ _ h=>h)
       (fun b' o hs=>.inl hs) (fun o hs=>absurd hs (a5 o)) (fun hg I0 Fj=>by
        obtain⟨u1,u2,u3,u4⟩:=BJ g r (g.ρ r) (g.ln r) (g.tk r) (g.own r) g.S;exact⟨u3.trans t0,b,E,_,u4.trans a1,u1.trans a2,Fj,sc.mono I0 (fun i hi=>DR (by simp) i hi) hg,a5⟩)
      exact⟨_,_,_,CV,hk,k1,k2⟩
   ·exact hk.elim
  ·rename_i r n sz i off;have ho:=hI.objs r;split at hk
   ·rename_i GP es e;rw[e]at ho;split at hk
    ·rename_i hz;obtain rfl:=AR hz;obtain⟨hnl,cs,hi,HI,hk⟩:=hk;obtain⟨t1,l1,al,a1⟩:=ho;have Dt:=(At.1 hi).1;rcases a1 with ⟨rfl,_⟩ | ⟨b,cap,E,F2,e1,e2,e3,e4,e5,e6,e7⟩
     ·simp at hi
     ·cases hp with
      |eref _ _ _ _ _ _ b' Oa hu ht Xk lC =>
       have lC:=lC (hnl.trans l1.symm);rw[e1]at lC;simp only[Value.slice.injEq,Bq,Addr.mk.injEq]at lC;obtain⟨⟨rfl,_,_⟩,_,_⟩:=lC;have hcl:=al cs (Av hi);have T2:i*sz+sz≤es.length*sz:=by
        have:=Bc sz (show i+1≤es.length from Dt)
        rwa [DW]at this
       have fD:es.length*sz≤cap*sz:=Bc sz e3;have CV:=OT hT w (t:=t) (off:=i*sz+off) (x:=vx) hd (by rw[CM,hn]) hr.2.1 e4 (by rw[CM];omega);have hl:(h r).live:=by rw[e];trivial
       have uk : ∀c∈es.set i (over cs off (vs.map (str h))),c.length=sz:=fun c hc=>by
        rcases O7 hc with hc | rfl
        ·exact al c hc
        ·rw[HC];exact hcl
       have hfl:=Qp al hi off (vs.map (str h)) (by rw[Bp];exact HI);have YP:F2.toList.length=cap*sz:=by rw[Cs];exact e5
       have htk:((over F2.toList (i*sz+off) vx.cells.toList).toArray.toList.take ((es.set i (over cs off (vs.map (str h)))).length*sz))=over (F2.toList.take (es.length*sz)) (i*sz+off) vx.cells.toList:=by
        rw[Jr];exact cH _ _ _ _ (by rw[CM];omega) (by rw[YP];exact fD)
       have sc:CE g w E8 (es.set i (over cs off (vs.map (str h)))).flatten ((over F2.toList (i*sz+off) vx.cells.toList).toArray.toList.take ((es.set i (over cs off (vs.map (str h)))).length*sz)):=by
        rw[htk,hfl];exact e6.over (OY hI hr) _ (by rw[Bp,Ek al];omega)
       obtain⟨k1,k2⟩:=hI.write hl e2 (.arr sz (es.set i (over cs off (vs.map (str h))))) e4 (over F2.toList (i*sz+off) vx.cells.toList).toArray (g.ln r) (g.own r) g.S (by simp) rfl (fun b' e=>by rw[e2]at e;cases e;rfl) (fun _ _ h=>h)
        (fun b' o hs=>.inl hs) (fun o hs=>absurd hs (e7 o)) (fun hg I0 Fj=>by
         obtain⟨u1,u2,u3,u4⟩:=BJ g r (g.ρ r) (g.ln r) (g.tk r) (g.own r) g.S;refine⟨u3.trans t1,u2.trans (by rw[Jr];exact l1),uk,.inr ⟨b,cap,E,_,?_,u4.trans e2,by rw[Jr];exact e3,Fj,?_,sc.mono I0 (fun _ h=>h) (fun _ h=>h.elim),e7⟩⟩
         ·rw[u1,e1,Jr]
         ·simp only[HM,HC,Cs];exact e5)
       exact⟨_,_,_,CV,hk,k1,k2⟩
    ·exact hk.elim
   ·exact hk.elim
  ·exact hk.elim
end
end Go.Eng

namespace Go.Eng

theorem cG{α:Type}(c vs:List α)(h:vs.length=c.length):over c 0 vs=vs:=by
 rw[Ru _ _ _ (by omega)];simp[h]
theorem JS{α:Type}[Inhabited α](n:Nat)(z:List α)(hz:z≠[]):(List.replicate n z).flatten=(List.range (n*z.length)).map fun k=>z[k % z.length]!:=by
 have hl:∀c∈List.replicate n z,c.length=z.length:=fun c hc=>by rw[D5 hc]
 have YX:0<z.length:=MW.2 hz;apply Dc;intro k
 by_cases hk:k<n*z.length
 ·have oy:k=k / z.length*z.length+k % z.length:=by rw[Nat.mul_comm];exact(Uf k _).symm
  have Xj:k % z.length<z.length:=Nat.mod_lt _ YX;have hi:k / z.length<n:=(Ll YX).2 hk;have f1:=Fg hl (i:=k / z.length) (c:=z) (by rw[List.getElem?_replicate,Aw hi]) Xj;rw[←oy]at f1;rw[f1];simp[hk,Xj]
 ·rw[AZ (by rw[Ek hl,F8];omega),AZ (by simp;omega)]

section
variable {P:Program}{w0:World}{g0:Gh}{h0 h:Nat→HO}{g:Gh}{w:World}(hI:Dk w0 g0 h0 h g w)
include hI

theorem WU{n sz:Nat}{t:Nat→AV}{ρ:Operand→Value}(ht:∀x:Operand,BF g w (AK h) (ev t x) (ρ x)) :
  ∀{ps:List (Nat×Operand)} {es:List (List AV)} {xs:Array Value} {K:List (List AV)→Prop},es.length=n→(∀c∈es,c.length=sz)→CE g w E8 es.flatten xs.toList→Qn n sz h es t ps K →
   ∃EA Vi,K EA∧EA.length=n∧(∀c∈EA,c.length=sz)∧CE g w E8 EA.flatten Vi.toList∧Instr.fill (fun i=>some (i*sz,sz)) xs (ps.map fun(i,x)=>(i,ρ x))=some Vi
 | [],es,xs,K,hn,hl,h,hk=>⟨es,xs,hk,hn,hl,h,rfl⟩
 |(i,x)::ps,es,xs,K,hn,hl,h,hk=>by
  unfold Qn at hk;split at hk
  ·rename_i hi;have hi:i<n:=HJ hi;have h5:=Ms (ht x) hk
   clear hk
   obtain⟨TS,hk,m9,hr⟩:=h5;have Ew:(ρ x).cells.size=sz:=by rw[←m9];simpa using hr.1
   have UK:=OY hI hr;obtain⟨c,hc⟩:∃c,es[i]?=some c:=⟨_,Ay (by omega)⟩;have hcl:=hl c (Av hc);have HI:i*sz+sz≤es.flatten.length:=by
    rw[Ek hl,hn]
    have:=Bc sz (show i+1≤n from hi)
    rwa [DW]at this
   have hfl:=Qp hl hc 0 (TS.map (str ‹Nat→HO›)) (by rw[Bp,m9];omega);rw[cG _ _ (by rw[Bp,m9,hcl]),Hg]at hfl;have Fj:=h.over UK (i*sz) (by rw[Bp,m9];exact HI);have iV:xs.size=es.flatten.length:=by have:=h.1;rwa [Cs]at this
   have e:=Nt (ρ x).cells.toList 0 (i*sz) xs (by rw[Cs];omega);simp only[Hg]at e;rw[←e,←hfl]at Fj;obtain⟨EA,Vi,k1,k2,k3,k4,k5⟩:=WU ht (es:=es.set i (TS.map (str _))) (by rw[Jr];exact hn) (fun c' jK=>by
    rcases O7 jK with jK | rfl
    ·exact hl c' jK
    ·rw[Bp];exact m9) Fj hk
   refine⟨EA,Vi,k1,k2,k3,k4,?_⟩;simp only[AM,Instr.fill];have e2:(ρ x).cells.zipIdx.foldl (fun cs (c,j)=>cs.setIfInBounds (i*sz+j) c) xs=((ρ x).cells.toList.zipIdx 0).foldl (fun(cs:Array Value) (p:Value×Nat)=>cs.setIfInBounds (i*sz+p.2) p.1) xs:=by
    rw[←NV];simp
   rw[Am (by simp[Ew];omega),e2];exact k5
  ·exact hk.elim

theorem RR{cx:Cx}(hT:Cn P cx.T){d:Option Nat}{ty n:Nat}{t:Nat→AV}{ρ:Operand→Value}{K:HK}(ht:∀x:Operand,BF g w (AK h) (ev t x) (ρ x)){ps:Array (Nat×Operand)}
  (hk:If cx d h ty n t ps.toList K):NX P w0 g0 h0 h g w (Instr.buildSlice ty n (ps.map fun(i,x)=>(i,ρ x))) K:=by
 unfold If at hk;split at hk
 ·rename_i e hs;split at hk
  ·rename_i Pr T3;have T3:=AR T3;split at hk
   ·exact hk.elim
   ·rename_i m hm;split at hk
    ·rename_i HI;have HI:=HJ HI;have qS:(cx.T e).zc≠[]:=fun e0=>by rw[e0]at T3;rw[hm]at T3;cases T3
     have ly:∀c∈List.replicate n ((cx.T e).zc.map AV.v),c.length=(cx.T e).size:=fun c hc=>by rw[D5 hc,Bp];exact T3
     have qq:CE g w E8 (List.replicate n ((cx.T e).zc.map AV.v)).flatten ((Array.range (n*(cx.T e).size)).map fun k=>(cx.T e).zc.toArray[k % (cx.T e).zc.toArray.size]!).toList:=by
      have e1:((Array.range (n*(cx.T e).size)).map fun k=>(cx.T e).zc.toArray[k % (cx.T e).zc.toArray.size]!).toList=(List.replicate n (cx.T e).zc).flatten:=by
       rw[JS n _ qS];simp[T3]
      have e2:(List.replicate n ((cx.T e).zc.map AV.v)).flatten=(List.replicate n (cx.T e).zc).flatten.map AV.v:=by
       rw[List.map_flatten,List.map_replicate]
      rw[e1,e2];refine CE.vals ?_;have HW:∀l:List AV,(∀a∈l,one a=true)→HR l=true:=by
       intro l
       induction l with
       |nil=>intro _;rfl
       |cons a l ih=>intro h;simp[HR,h a (List.mem_cons_self ..),ih (fun b hb=>h b (List.mem_cons_of_mem _ hb))]
      refine HW _ (fun a ha=>?_);obtain⟨x,hx,rfl⟩:=Ao.1 ha;obtain⟨l,hl,hx⟩:=E0.1 hx;rw[D5 hl]at hx;exact Mo Pr _ (Ao.2 ⟨x,hx,rfl⟩)
     obtain⟨EA,Vi,k1,k2,k3,k4,k5⟩:=WU hI ht (by rw[F8]) ly qq hk;have iV:Vi.size=n*(cx.T e).size:=by
      have:=k4.1
      rw[Cs,Ek k3,k2]at this;exact this
     obtain⟨g',av,h',q1,q2,q3,q4⟩:=JP hI k1 (vs:=Vi) (cap:=n) e k3 (by omega) iV (by
      rw[k2,AI (by rw[Cs,iV];exact Ak _)];exact k4) w ⟨rfl,rfl,rfl,rfl⟩
     rw[k2]at q4;refine⟨_,_,g',av,h',?_,q1,q2,q3,q4⟩;obtain⟨z,z1,z2⟩:=dp hT (w:=w) hm;have Ew:=hT.size1 w hm;have e3:(Array.map (fun x:Nat×Operand=>match x with | (i,x)=>(i,ρ x)) ps).toList=ps.toList.map fun(i,x)=>(i,ρ x):=by simp
     have uW:¬(n*(m+1)>2 ^ 24):=by rw[hm]at HI;have HI:n*(m+1)≤16777216:=HI;omega
     simp only[Instr.buildSlice,Sem.run_bind,run_underlying (hT.slice hs),Result.andThen_ok,Ew,Am uW];rw[e3];rw[hm]at k5
     by_cases h0:n*(m+1)=0
     ·have r8:n=0:=by
       rcases Nat.mul_eq_zero.1 h0 with h | h
       ·exact h
       ·cases h
      subst r8;have er:Array.range 0=#[]:=rfl;simp only[It,er,List.map_toArray,E6]at k5;simp only[It,LI,er,List.map_toArray,E6,k5];simp[newRow]
     ·rw[z2]at k5;simp only[Array.toArray_toList]at k5;simp only[Am h0,Sem.run_bind,z1,Result.andThen_ok,Sem.run_pure,k5];simp[newRow]
    ·exact hk.elim
  ·exact hk.elim
 ·exact hk.elim
end
end Go.Eng

namespace Go.Eng

theorem FU{sz:Nat}:∀{es:List (List AV)},BY sz es→∀c∈es,c.length=sz
 | [],_,c,h=>by cases h
 |d::es,h,c,hc=>by
  rcases AF.1 hc with rfl | hc
  ·exact h.1
  ·exact FU h.2 c hc

def N3(w:World)(x:Value)(n sz:Nat)(news:List Value):Prop :=
 news.length=n*sz∧(∀v∈news,v.oneCell'=true)∧∃(a:Option Addr) (c:Nat),x=.slice a n c∧(n=0∨∃b:Addr,a=some b∧∀j u,news[j]?=some u→w.cell? (b.add j)=some u)

theorem N3.of_rep{g:Gh}{w:World}{U:Nat→Prop}{es:List (List AV)}{sz:Nat}{x:Value}(h:BF g w U (.slice .none es) x)(hl:∀c∈es,c.length=sz) :
  ∃news,N3 w x es.length sz news∧CE g w E8 es.flatten news:=by
 cases h with
 |snil _ a cap=>exact⟨[],⟨by simp,by simp,a,cap,rfl,.inl rfl⟩,by simp,by simp,fun i av x h1 h2=>by simp at h2⟩
 |slice _ _ b off GP cap val hc Pp CY El =>
  have hf:=Ek hl;have key:∀j,j<es.length*sz→∃cs,es[j / sz]?=some cs∧es.flatten[j]?=cs[j % sz]?∧j % sz<cs.length∧GP=sz∧j=j / sz*sz+j % sz:=by
   intro j hj;have YX:0<sz:=Nat.pos_of_ne_zero (fun e=>by rw[e]at hj;omega);have oy:j=j / sz*sz+j % sz:=by rw[Nat.mul_comm];exact(Uf j sz).symm
   have hi:j / sz<es.length:=(Ll YX).2 hj;have Xj:j % sz<sz:=Nat.mod_lt _ YX;have h1:es[j / sz]?=some es[j / sz]:=Ay hi;have h2:=Fg hl h1 Xj;rw[←oy]at h2;have h3:=hl _ (AC hi);exact⟨_,h1,h2,by rw[h3];exact Xj,by rw[←h3];exact(Pp _ _ h1).symm,oy⟩
  have VO:∀j,j<es.length*sz→∃av,es.flatten[j]?=some av∧w.cell? ⟨b,off+j,none⟩=some (val (j / sz) (j % sz))∧(val (j / sz) (j % sz)).oneCell'=true∧BF g w E8 av (val (j / sz) (j % sz)):=by
   intro j hj;obtain⟨cs,k1,k2,k3,rfl,k5⟩:=key j hj;have fj:cs[j % GP]?=some cs[j % GP]:=Ay k3;obtain⟨_,c2,c3⟩:=CY _ _ _ _ k1 fj;rw[GA,←k5]at c2;exact⟨_,k2.trans fj,c2,c3,El _ _ _ _ k1 fj⟩
  refine⟨(List.range (es.length*sz)).map fun j=>val (j / sz) (j % sz),⟨by simp,fun v hv=>?_,some ⟨b,off,none⟩,cap,rfl,.inr ⟨_,rfl,fun j u hu=>?_⟩⟩,by rw[hf];simp,fun v hv=>?_,fun i av x h1 h2=>?_⟩
  ·obtain⟨j,hj,rfl⟩:=Ao.1 hv;obtain⟨_,_,_,c,_⟩:=VO j (NZ.1 hj);exact c
  ·obtain⟨hj,rfl⟩:=GW hu;rw[Addr.add_lit];exact(VO j hj).choose_spec.2.1
  ·obtain⟨j,hj,rfl⟩:=Ao.1 hv;obtain⟨_,_,_,c,_⟩:=VO j (NZ.1 hj);exact c
  ·obtain⟨hj,rfl⟩:=GW h2;obtain⟨o6,c1,_,_,c4⟩:=VO i hj;rw[h1]at c1;cases c1;exact c4

section
variable {P:Program}{T:GK}(hT:Cn P T)
include hT

theorem Hl{e n:Nat}(hs:(T e).size=n+1):∃i z,P.info? e=some i∧i.zero=some z∧i.size=(T e).size∧i.bytes=(T e).bytes∧(T e).zc=z.cells.toList:=by
 rcases hT e with h | h
 ·rw[h]at hs;cases hs
 unfold dg at h;split at h
 ·split at h
  ·rename_i d i h1 h2 _ z h3;exact⟨i,z,h2,h3,by rw[h],by rw[h],by rw[TI.zc_cells,h]⟩
  ·rw[h]at hs;cases hs
 ·rw[h]at hs;cases hs

theorem ID(w:World){t e ty k:Nat}(ht:(T t).d=.slice e)(hk:(T e).size=k+1)(a a' : Option Addr)(n cap c:Nat)(hc:n≤cap) :
  (Builtin.append_ #[t,t] ty #[.slice a n cap,.slice a' 0 c]).run P w=.ok (.slice a n cap) w:=by
 have hu:=hT.slice ht;cases a<;>cases a'<;>simp[Builtin.append_,run_underlying hu,hT.size1 w hk,Builtin.lenOf,hc,Builtin.firstCells,loadCells,loadCellsFrom,storeCells]

theorem HD(w:World){t e ty k:Nat}(ht:(T t).d=.slice e)(hk:(T e).size=k+1)(hz:(T e).zc.length=(T e).size){s x:Value}{n m cap c:Nat}{olds news:List Value}{a a' : Option Addr}
  (hso:N3 w s n (T e).size olds) (hs:s=.slice a n cap) (MN:a=none→cap=0) (hsx:N3 w x m (T e).size news) (hx:x=.slice a' m c) (hm:0<m) (hg:cap<n+m) (hb:(n+m)*(T e).bytes≤140737488355328) (h63:n+m≤9223372036854775807) :
  ∃nc rest,(Builtin.append_ #[t,t] ty #[s,x]).run P w=.ok (.slice (some ⟨w.heap.size,0,none⟩) (n+m) nc) (w.drew.alloc (.cells (olds++news++rest).toArray e (0,0)))∧n+m≤nc ∧
   (olds++news++rest).length=nc*(T e).size:=by
 obtain⟨i,z,i1,i2,i3,i4,i5⟩:=Hl hT hk;have hu:=hT.slice ht;obtain⟨n1,n2,a1,c1,n3,n4⟩:=hsx;subst hx;cases n3;rcases n4 with h | ⟨b,rfl,IK⟩
 ·omega
 ·have T3:z.cells.size=(T e).size:=by rw[←hz,i5];simp
  have lx:∀(nc:Nat) (pre:List Value),pre.length=(n+m)*(T e).size→n+m≤nc→(pre++(Builtin.zeroCells z.cells (nc-(n+m))).toList).length=nc*(T e).size:=by
   intro nc pre hp HI;have e1:(Builtin.zeroCells z.cells (nc-(n+m))).toList.length=(nc-(n+m))*(T e).size:=by simp only[Cs,size_zeroCells,T3]
   rw[Ac,e1,hp,←Ff]
   congr 1;omega
  obtain⟨o1,o2,a2,c2,o3,o4⟩:=hso;subst hs;cases o3;cases a with
  |none =>
   obtain rfl:=MN rfl;have r8:n=0:=by
    rcases o4 with h | ⟨b',h,_⟩
    ·exact h
    ·cases h
   subst r8;have ho:olds=[]:=AJ (by simpa using o1);subst ho;have hr:=run_append_nil (P:=P) w t ty e i z hu i1 i2 b m c news (by rw[i3];exact n1) IK hm (by omega) (by rw[i4];rw[Bd]at hb;omega);refine⟨grownCap w m 0 e,(Builtin.zeroCells z.cells (grownCap w m 0 e-m)).toList,?_,by rw[Bd];exact grownCap_ge w m 0 e,?_⟩
   ·rw[hr,Bd]
    congr 3
    apply NU;simp
   ·have:=lx (grownCap w m 0 e) news (by rw[Bd];exact n1) (by rw[Bd];exact grownCap_ge w m 0 e)
    rw[Bd]at this;simpa using this
  |some b' =>
   have GI:∀j u,olds[j]?=some u→w.cell? (b'.add j)=some u:=by
    rcases o4 with h | ⟨b2,h,h'⟩
    ·intro j u hj;rw[h,It]at o1
     have:olds=[]:=AJ o1
     rw[this]at hj;simp at hj
    ·cases h;exact h'
   have hr:=run_append_grow (P:=P) w t ty e i z hu i1 i2 b' n cap olds (by rw[i3];exact o1) GI b m c news (by rw[i3];exact n1) IK hg (by omega) (by rw[i4];exact growslice_fits hg hb);refine⟨grownCap w (n+m) cap e,(Builtin.zeroCells z.cells (grownCap w (n+m) cap e-(n+m))).toList,?_,grownCap_ge w (n+m) cap e,lx _ _ (by rw[Ac,o1,n1,←Ff]) (grownCap_ge w (n+m) cap e)⟩;rw[hr]
   congr 3
   apply NU;simp
end
end Go.Eng
