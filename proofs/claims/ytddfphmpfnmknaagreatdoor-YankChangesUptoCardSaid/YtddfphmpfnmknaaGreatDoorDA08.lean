/- Lemmas for the claims of this seat, without a condition: part 8 (EngN, EngO, EngP, EngQ). -/
import Derived.Test.YtddfphmpfnmknaaGreatDoorDA07
namespace Go.Eng
def On(P:Program)(w0:World)(g0:Gh)(h0 h:Nat→HO)(g:Gh)(w:World)(m:Sem Value)(K:HK):Prop :=
 ∃x w' g' av h',m.run P w=.ok x w'∧K av h'∧DK w0 g0 h0 h' g' w'∧Le h g w h' g' w'∧BH g' w' (AT h') av x
def eH(P:Program)(w0:World)(g0:Gh)(h0 h:Nat→HO)(g:Gh)(w:World)(m:Sem Unit)(K:HK):Prop :=
 ∃w' g' h',m.run P w=.ok () w'∧K (.v undef) h'∧DK w0 g0 h0 h' g' w'∧Le h g w h' g' w'
section
variable {P:Program}{w0:World}{g0:Gh}{h0 h:Nat→HO}{g:Gh}{w:World}(hI:DK w0 g0 h0 h g w)
include hI
theorem BK.does{m:Sem Value}{K:HK}(hg:BK P h g w m (fun v=>K v h)):On P w0 g0 h0 h g w m K :=
 let ⟨x,av,h1,h2,h3⟩:=hg
 ⟨x,w,g,av,h,h1,h2,hI,.refl _ _ _,h3⟩
theorem DK.newOwn{d:Nat}(hd:h d=.free)(o' : HO)(ob:Obj)(x:Value)(n:Nat)(t:Bool)(w1:World)(K4:w1.heap=w.heap∧w1.os=w.os∧w1.tape=w.tape∧w1.output=w.output)(DF:o'≠.free)
  (Jx:Ke g (g.upd d x n t (some w.heap.size) g.S) (AT h)→EO g w (g.upd d x n t (some w.heap.size) g.S) (w1.alloc ob) →
   Ej (g.upd d x n t (some w.heap.size) g.S) (w1.alloc ob) (AT (A0 h d o')) d o') :
  DK w0 g0 h0 (A0 h d o') (g.upd d x n t (some w.heap.size) g.S) (w1.alloc ob)∧Le h g w (A0 h d o') (g.upd d x n t (some w.heap.size) g.S) (w1.alloc ob):=by
 refine hI.upd d o' x n t _ _ _ none ⟨K4.2.1,K4.2.2.1,K4.2.2.2,by rw[World.size_alloc,K4.1];omega⟩ (fun k hk _=>?_) (fun b e=>by cases e) (fun _ _ h=>h) (fun _ _ h=>.inl h) (fun b o e=>by cases e)
  (fun b _ e=>?_) DF (fun hu=>absurd hd hu) Jx
 ·rw[heap_alloc_old _ _ (by rw[K4.1];exact hk),K4.1]
 ·cases e;rw[World.size_alloc,K4.1];exact⟨by omega,.inr (Al _)⟩
def Gh.more(g:Gh)(b n:Nat):Nat→Nat→Prop:=fun b' o=>g.S b' o∨(b'=b∧o<n)
theorem DK.newStable{d:Nat}(hd:h d=.free)(o' : HO)(vs:Array Value)(E:TypeId)(m:Nat)(x:Value)(n:Nat)(t:Bool)(w1:World)(K4:w1.heap=w.heap∧w1.os=w.os∧w1.tape=w.tape∧w1.output=w.output)(DF:o'≠.free)
  (Jx:Ke g (g.upd d x n t none (g.more w.heap.size m)) (AT h)→EO g w (g.upd d x n t none (g.more w.heap.size m)) (w1.alloc (.cells vs E (0,0))) →
   Ej (g.upd d x n t none (g.more w.heap.size m)) (w1.alloc (.cells vs E (0,0))) (AT (A0 h d o')) d o') :
  DK w0 g0 h0 (A0 h d o') (g.upd d x n t none (g.more w.heap.size m)) (w1.alloc (.cells vs E (0,0))) ∧
   Le h g w (A0 h d o') (g.upd d x n t none (g.more w.heap.size m)) (w1.alloc (.cells vs E (0,0))):=by
 refine hI.upd d o' x n t _ _ _ none ⟨K4.2.1,K4.2.2.1,K4.2.2.2,by rw[World.size_alloc,K4.1];omega⟩ (fun k hk _=>?_) (fun b e=>by cases e) (fun _ _ h=>.inl h) (fun b o hb=>?_) (fun b o e=>by cases e)
  (fun b _ e=>by cases e) DF (fun hu=>absurd hd hu) Jx
 ·rw[heap_alloc_old _ _ (by rw[K4.1];exact hk),K4.1]
 ·rcases hb with hb | ⟨rfl,_⟩
  ·exact .inl hb
  ·exact .inr ⟨by rw[World.size_alloc,K4.1];omega,.inl (Al _)⟩
end
theorem BD(g:Gh)(r:Nat)(x:Value)(n:Nat)(t:Bool)(o:Option Nat)(S:Nat→Nat→Prop) :
  (g.upd r x n t o S).ρ r=x∧(g.upd r x n t o S).ln r=n∧(g.upd r x n t o S).tk r=t∧(g.upd r x n t o S).own r=o:=by simp[Gh.upd]
theorem HR(w:World)(o:Obj){b:Nat}(hb:b=w.heap.size):(w.alloc o).heap[b]?=some o:=by subst hb;exact heap_alloc_new w o
theorem BH.cptr_row{g:Gh}{w:World}{U:Nat→Prop}{b:Nat}{cs:List AV}{vs:Array Value}{E:TypeId}{f:Nat×Nat}(hb:w.heap[b]?=some (.cells vs E f))(hr:CI g w Fy cs vs.toList)
  (hS:∀o,o<cs.length→g.S b o):BH g w U (.cptr cs) (.pointer (some ⟨b,0,none⟩)):=by
 refine .cptr U cs b 0 (fun j=>vs[j]?.getD default) (fun j av hj=>?_) (fun j av hj=>?_)
 ·obtain⟨x,x1,x2,x3⟩:=hr.at hj;rw[AR]at x1;refine⟨hS _ (by rw[Bl];exact(As.1 hj).1),?_,?_⟩
  ·rw[FQ hb,Bl,x1];rfl
  ·rw[x1];exact x2
 ·obtain⟨x,x1,x2,x3⟩:=hr.at hj;rw[AR]at x1;rw[x1];exact x3
theorem BH.slice_off{g:Gh}{w:World}{U:Nat→Prop}{b off sz cap:Nat}{es:List (List AV)}{vs:Array Value}{E:TypeId}{f:Nat×Nat}(hb:w.heap[b]?=some (.cells vs E f))(hl:∀cs∈es,cs.length=sz)
  (hc:es.length≤cap) (hr:CI g w Fy es.flatten ((vs.toList.drop off).take (es.length*sz))) (hS:∀o,o<es.length*sz→g.S b (off+o)):BH g w U (.slice .none es) (.slice (some ⟨b,off,none⟩) es.length cap):=by
 have key:∀(i:Nat) (cs:List AV) (j:Nat) (av:AV),es[i]?=some cs→cs[j]?=some av→∃x,vs[off+(i*sz+j)]?=some x∧x.oneCell'=true∧BH g w Fy av x∧i*sz+j<es.length*sz:=by
  intro i cs j av h1 h2;have hcl:=hl cs (Av h1);have hj:j<sz:=by rw[←hcl];exact(As.1 h2).1
  have hi:=(As.1 h1).1;have DB:i*sz+j<es.length*sz:=by
   have:=Bh sz (show i+1≤es.length from hi)
   rw[D5]at this;omega
  have hf:=Fr hl h1 hj;rw[h2]at hf;obtain⟨x,x1,x2,x3⟩:=hr.at hf;rw[BI DB,DD,AR]at x1;exact⟨x,x1,x2,x3,DB⟩
 refine .slice U es b off sz cap (fun i j=>vs[off+(i*sz+j)]?.getD default) hc (fun i cs h=>hl cs (Av h)) (fun i cs j av h1 h2=>?_) (fun i cs j av h1 h2=>?_)
 ·obtain⟨x,x1,x2,x3,x4⟩:=key i cs j av h1 h2;rw[GJ];refine⟨hS _ x4,?_,?_⟩
  ·rw[FQ hb,x1];rfl
  ·rw[x1];exact x2
 ·obtain⟨x,x1,x2,x3,x4⟩:=key i cs j av h1 h2;rw[x1];exact x3
theorem BH.slice_row{g:Gh}{w:World}{U:Nat→Prop}{b sz cap:Nat}{es:List (List AV)}{vs:Array Value}{E:TypeId}{f:Nat×Nat}(hb:w.heap[b]?=some (.cells vs E f))(hl:∀cs∈es,cs.length=sz)
  (hc:es.length≤cap) (hr:CI g w Fy es.flatten (vs.toList.take (es.length*sz))) (hS:∀o,o<es.length*sz→g.S b o):BH g w U (.slice .none es) (.slice (some ⟨b,0,none⟩) es.length cap):=by
 have key:∀(i:Nat) (cs:List AV) (j:Nat) (av:AV),es[i]?=some cs→cs[j]?=some av→∃x,vs[i*sz+j]?=some x∧x.oneCell'=true∧BH g w Fy av x∧i*sz+j<es.length*sz:=by
  intro i cs j av h1 h2;have hcl:=hl cs (Av h1);have hj:j<sz:=by rw[←hcl];exact(As.1 h2).1
  have hi:=(As.1 h1).1;have DB:i*sz+j<es.length*sz:=by
   have:=Bh sz (show i+1≤es.length from hi)
   rw[D5]at this;omega
  have hf:=Fr hl h1 hj;rw[h2]at hf;obtain⟨x,x1,x2,x3⟩:=hr.at hf;rw[BI DB,AR]at x1;exact⟨x,x1,x2,x3,DB⟩
 refine .slice U es b 0 sz cap (fun i j=>vs[i*sz+j]?.getD default) hc (fun i cs h=>hl cs (Av h)) (fun i cs j av h1 h2=>?_) (fun i cs j av h1 h2=>?_)
 ·obtain⟨x,x1,x2,x3,x4⟩:=key i cs j av h1 h2;rw[Bl];refine⟨hS _ x4,?_,?_⟩
  ·rw[FQ hb,x1];rfl
  ·rw[x1];exact x2
 ·obtain⟨x,x1,x2,x3,x4⟩:=key i cs j av h1 h2;rw[x1];exact x3
section
variable {P:Program}{w0:World}{g0:Gh}{h0 h:Nat→HO}{g:Gh}{w:World}
theorem Ru(hI:DK w0 g0 h0 h g w){d:Nat}(hd:h d=.free){cs:List AV}{vs:Array Value}(E:TypeId)(hr:CI g w (AT h) cs vs.toList) :
  ∃g',DK w0 g0 h0 (A0 h d (.cells cs)) g' (w.alloc (.cells vs E (0,0)))∧Le h g w (A0 h d (.cells cs)) g' (w.alloc (.cells vs E (0,0))) ∧
   BH g' (w.alloc (.cells vs E (0,0))) (AT (A0 h d (.cells cs))) (.ref d 0) (.pointer (some ⟨w.heap.size,0,none⟩)):=by
 obtain⟨k1,k2⟩:=hI.newOwn hd (.cells cs) (.cells vs E (0,0)) (.pointer (some ⟨w.heap.size,0,none⟩)) 0 false w ⟨rfl,rfl,rfl,rfl⟩ (by simp) (fun hg hk=>by
  obtain⟨u1,u2,u3,u4⟩:=BD g d (.pointer (some ⟨w.heap.size,0,none⟩)) 0 false (some w.heap.size) g.S;exact⟨u3,w.heap.size,E,vs,u4,u1,HR w _ rfl,hr.mono hk (fun i hi=>DS (by simp) i hi) hg,fun o ho=>by have:=hI.slt _ _ ho;omega⟩)
 refine⟨_,k1,k2,.ref _ d 0 w.heap.size (by unfold AT;rw[Bd];simp) ?_ ?_⟩
 ·simp[Gh.upd]
 ·simp[Gh.upd]
theorem iu(hI:DK w0 g0 h0 h g w){d:Nat}(hd:h d=.free){cs:List AV}{vs:Array Value}(E:TypeId)(hr:CI g w Fy cs vs.toList) :
  ∃g',DK w0 g0 h0 (A0 h d (.ro cs)) g' (w.alloc (.cells vs E (0,0)))∧Le h g w (A0 h d (.ro cs)) g' (w.alloc (.cells vs E (0,0))) ∧
   BH g' (w.alloc (.cells vs E (0,0))) (AT (A0 h d (.ro cs))) (.ref d 0) (.pointer (some ⟨w.heap.size,0,none⟩)):=by
 obtain⟨k1,k2⟩:=hI.newStable hd (.ro cs) vs E cs.length (.pointer (some ⟨w.heap.size,0,none⟩)) 0 false w ⟨rfl,rfl,rfl,rfl⟩ (by simp) (fun hg hk=>by
  obtain⟨u1,u2,u3,u4⟩:=BD g d (.pointer (some ⟨w.heap.size,0,none⟩)) 0 false none (g.more w.heap.size cs.length);exact⟨u3,w.heap.size,u1,BH.cptr_row (HR w _ rfl) (hr.mono hk (fun _ h=>h) (fun _ h=>h.elim)) (fun o ho=>.inr ⟨rfl,ho⟩)⟩)
 refine⟨_,k1,k2,.ref _ d 0 w.heap.size (by unfold AT;rw[Bd];simp) ?_ ?_⟩
 ·simp[Gh.upd]
 ·simp[Gh.upd]
theorem J7(hI:DK w0 g0 h0 h g w){cx:Cx}{d:Option Nat}{sz:Nat}{es:List (List AV)}{K:HK}(hk:EJ cx d h sz es K){vs:Array Value}{cap:Nat}(E:TypeId)(hl:∀cs∈es,cs.length=sz)
  (hc:es.length≤cap) (hs:vs.size=cap*sz) (hr:CI g w Fy es.flatten (vs.toList.take (es.length*sz))) (w1:World) (K4:w1.heap=w.heap∧w1.os=w.os∧w1.tape=w.tape∧w1.output=w.output) :
  ∃g' av h',K av h'∧DK w0 g0 h0 h' g' (w1.alloc (.cells vs E (0,0)))∧Le h g w h' g' (w1.alloc (.cells vs E (0,0))) ∧
   BH g' (w1.alloc (.cells vs E (0,0))) (AT h') av (.slice (some ⟨w.heap.size,0,none⟩) es.length cap):=by
 have E6:(w1.alloc (.cells vs E (0,0))).heap[w.heap.size]?=some (.cells vs E (0,0)):=HR w1 _ (by rw[K4.1]);unfold EJ at hk;split at hk
 ·exact hk.elim
 ·rename_i d;generalize KE cx d=d1 at hk;split at hk
  ·rename_i hd;split at hk
   ·obtain⟨k1,k2⟩:=hI.newOwn hd (.arr sz es) (.cells vs E (0,0)) (.slice (some ⟨w.heap.size,0,none⟩) es.length cap) es.length true w1 K4 (by simp) (fun hg If=>by
     obtain⟨u1,u2,u3,u4⟩:=BD g d1 (.slice (some ⟨w.heap.size,0,none⟩) es.length cap) es.length true (some w.heap.size) g.S;exact⟨u3,u2,hl,.inr ⟨w.heap.size,cap,E,vs,u1,u4,hc,E6,hs,hr.mono If (fun _ h=>h) (fun _ h=>h.elim),fun o ho=>by have:=hI.slt _ _ ho;omega⟩⟩)
    refine⟨_,_,_,hk,k1,k2,.msl _ d1 es.length _ cap (by unfold AT;rw[Bd];simp) ?_ ?_ (.inr ⟨_,rfl⟩) ?_⟩<;>simp[Gh.upd]
   ·by_cases gD:es.length=cap
    ·obtain⟨k1,k2⟩:=hI.newStable hd (.tok sz es.length) vs E (es.length*sz) (.slice (some ⟨w.heap.size,0,none⟩) es.length cap) es.length true w1 K4 (by simp) (fun hg If=>by
      obtain⟨u1,u2,u3,u4⟩:=BD g d1 (.slice (some ⟨w.heap.size,0,none⟩) es.length cap) es.length true none (g.more w.heap.size (es.length*sz));exact⟨u3,u2,_,cap,u1,.inl ⟨gD,u4⟩⟩)
     refine⟨_,_,_,hk,k1,k2,.tok _ d1 sz es _ (BH.slice_row E6 hl hc (hr.mono k2.keeps (fun _ h=>h) (fun _ h=>h.elim)) (fun o ho=>.inr ⟨rfl,ho⟩)) hl (by unfold AT;rw[Bd];simp) ?_ ?_ ?_⟩<;>simp[Gh.upd]
    ·have pV:=hI.upd d1 (.tok sz es.length) (.slice (some ⟨w.heap.size,0,none⟩) es.length cap) es.length true (some w.heap.size) (g.more w.heap.size (es.length*sz)) (w1.alloc (.cells vs E (0,0))) none
      ⟨K4.2.1,K4.2.2.1,K4.2.2.2,by rw[World.size_alloc,K4.1];omega⟩ (fun k Ki _=>by rw[heap_alloc_old _ _ (by rw[K4.1];exact Ki),K4.1]) (fun b e=>by cases e) (fun _ _ h=>.inl h)
      (fun b o hb=>by
       rcases hb with hb | ⟨rfl,_⟩
       ·exact .inl hb
       ·exact .inr ⟨by rw[World.size_alloc,K4.1];omega,.inl (Al _)⟩) (fun b o e=>by cases e)
      (fun b _ e=>by cases e;rw[World.size_alloc,K4.1];exact⟨by omega,.inr (Al _)⟩) (by simp) (fun hu=>absurd hd hu) (fun hg If=>by
       obtain⟨u1,u2,u3,u4⟩:=BD g d1 (.slice (some ⟨w.heap.size,0,none⟩) es.length cap) es.length true (some w.heap.size) (g.more w.heap.size (es.length*sz));exact⟨u3,u2,_,cap,u1,.inr ⟨hc,w.heap.size,E,vs,0,rfl,u4,E6,by rw[hs,Bl],fun o ho=>by
        rcases ho with ho | ⟨_,ho⟩
        ·have:=hI.slt _ _ ho;omega
        ·omega⟩⟩)
     obtain⟨k1,k2⟩:=pV;refine⟨_,_,_,hk,k1,k2,.tok _ d1 sz es _ (BH.slice_row E6 hl hc (hr.mono k2.keeps (fun _ h=>h) (fun _ h=>h.elim)) (fun o ho=>.inr ⟨rfl,ho⟩)) hl (by unfold AT;rw[Bd];simp) ?_ ?_ ?_⟩<;>simp[Gh.upd]
  ·exact hk.elim
end
theorem M0{α:Type}:∀(cs:List α) (o:Nat) (vs:List α),o+vs.length≤cs.length→over cs o vs=cs.take o++vs++cs.drop (o+vs.length)
 | [],o,vs,h=>by
  simp at h;obtain⟨rfl,rfl⟩:=h
  rfl
 |c::cs,o+1,vs,h=>by
  rw[over,M0 cs o vs (by simp at h;omega)];simp only[I6,D4,BM,Nat.add_right_comm o 1,List.drop_succ_cons]
 |c::cs,0,[],h=>by simp[over]
 |c::cs,0,v::vs,h=>by
  rw[over,M0 cs 0 vs (by simp at h;omega)];simp
theorem VG{α:Type}(cs:List α)(o n:Nat)(vs:List α)(h:o+vs.length≤n)(hn:n≤cs.length):(over cs o vs).take n=over (cs.take n) o vs:=by
 apply Dj;intro i;rw[FU _ _ _ _ (by simp;omega)]
 by_cases hi:i<n
 ·rw[BI hi,FU _ _ _ _ (by omega),BI hi]
 ·rw[Aj (by omega),A4 (by rw[AC,FV];omega),A4 (by simp;omega)]
theorem L6{α:Type}{n:Nat}:∀{es:List (List α)},(∀c∈es,c.length=n)→∀{i:Nat} {c:List α},es[i]?=some c→∀(o:Nat) (vs:List α),o+vs.length≤n →
  (es.set i (over c o vs)).flatten=over es.flatten (i*n+o) vs
 | [],_,i,c,h,_,_,_=>by simp at h
 |d::es,hl,i,c,h,o,vs,He=>by
  have hd:=hl d (Ab ..);have hfl:=Dp (es:=d::es) (n:=n) hl;have DB:=(As.1 h).1;have rU:i*n+o+vs.length≤(d::es).flatten.length:=by
   rw[hfl]
   have:=Bh n (show i+1≤(d::es).length from DB)
   rw[D5]at this;omega
  have hcl:=hl c (Av h);apply Dj;intro j;rw[FU _ _ _ _ rU];have NT:∀e∈(d::es).set i (over c o vs),e.length=n:=fun e he=>by
   rcases E8 he with he | rfl
   ·exact hl e he
   ·rw[FV];exact hcl
  by_cases hn:n=0
  ·subst hn;have h1:=Dp NT;have h2:=hfl;simp only[Nat.mul_zero,List.length_eq_zero_iff]at h1 h2;rw[h1,h2]
   have:¬(i*0+o≤j∧j<i*0+o+vs.length):=by omega
   rw[Aj this]
  ·have pX:j=j / n*n+j % n:=by rw[Nat.mul_comm];exact(US j n).symm
   have X8:j % n<n:=Nat.mod_lt _ (by omega)
   by_cases hj:j / n<(d::es).length
   ·have g1:(d::es)[j / n]?=some ((d::es)[j / n]):=Ax hj;have g2:((d::es).set i (over c o vs))[j / n]?=some (if i=j / n then over c o vs else(d::es)[j / n]):=by
     rw[List.getElem?_set]
     by_cases e:i=j / n
     ·rw[Ap e,Ap (by omega),Ap e]
     ·rw[Aj e,Aj e];exact g1
    have f1:=Fr hl g1 X8;have f2:=Fr NT g2 X8;rw[←pX]at f1 f2;rw[f1,f2];split
    ·rename_i e;rw[e]at h;rw[g1]at h;cases h;rw[FU _ _ _ _ (by omega)];have e2:i*n+o≤j↔o≤j % n:=by rw[e];omega
     have e3:j<i*n+o+vs.length↔j % n<o+vs.length:=by rw[e];omega
     simp only[e2,e3];split
     ·congr 1;rw[e];omega
     ·rfl
    ·rename_i e
     have:¬(i*n+o≤j∧j<i*n+o+vs.length):=by
      rintro⟨q1,q2⟩
      apply e;have a1:i*n≤j:=by omega
      have a2:j<(i+1)*n:=by rw[D5];omega
      have:=(Nat.le_div_iff_mul_le (by omega)).2 a1
      have:=(Lx (by omega)).2 a2
      omega
     rw[Aj this]
   ·have pY:(d::es).length*n≤j:=by
     have:=Nat.not_lt.1 hj
     have:=(Nat.le_div_iff_mul_le (by omega)).1 this
     exact this
    have:¬(i*n+o≤j∧j<i*n+o+vs.length):=by rw[hfl]at rU;omega
    rw[Aj this,A4 (by rw[Dp NT,Cy];exact pY),A4 (by rw[hfl];exact pY)]
theorem Px{P:Program}{T:GK}(hT:Cz P T)(w:World){t b off:Nat}{x:Value}{FN:Array Value}{E:TypeId}(hd:(T t).d≠.other)(hs:x.cells.toList.length=(T t).size)
  (h1:∀v∈x.cells.toList,v.oneCell'=true) (hb:w.heap[b]?=some (.cells FN E (0,0))) (He:off+x.cells.toList.length≤FN.size) :
  (Instr.storeAt t (.pointer (some ⟨b,off,none⟩)) x).run P w=.ok () (w.setRow b (over FN.toList off x.cells.toList).toArray):=by
 have Jy:=run_storeCells_at P b off E x.cells.toList 0 FN w hb (by simpa using He) h1;simp only[HA]at Jy;have Xl : x.cells.size=(T t).size:=by simpa using hs
 rw[M0 _ _ _ (by simpa using He)];simp only[Instr.storeAt,Sem.run_bind,Instr.sureAddr,Sem.run_pure,Result.andThen_ok,storeVar,hT.size w hd,Xl,VC,not_true_eq_false,GF];exact Jy
section
variable {P:Program}{w0:World}{g0:Gh}{h0 h:Nat→HO}{g:Gh}{w:World}(hI:DK w0 g0 h0 h g w)
include hI
theorem bO{T:GK}(hT:Cz P T){d:Option Nat}{e:Nat}{K:HK}(hk:Sz T d h e K):On P w0 g0 h0 h g w (Instr.alloc e true (.tuple #[])) K:=by
 unfold Sz at hk;split at hk
 ·exact hk.elim
 ·split at hk
  ·rename_i hd;split at hk
   ·exact hk.elim
   ·rename_i DF;split at hk
    ·rename_i ha;obtain⟨z,z1,z2,_⟩:=PJ hT (w:=w) DF;have hr:CI g w (AT h) ((T e).zc.map .v) z.cells.toList:=by rw[z2]at ha⊢;exact CI.vals ha
     obtain⟨g',k1,k2,k3⟩:=Ru hI hd (vs:=z.cells) e hr;refine⟨_,_,g',_,_,?_,hk,k1,k2,k3⟩;simp[Instr.alloc,z1,newVar,newRow]
    ·exact hk.elim
  ·exact hk.elim
theorem PD{cs:List AV}{vs:List Value}(hr:CI g w (AT h) cs vs):CI g w Fy (cs.map (str h)) vs:=by
 refine⟨by rw[Bb];exact hr.1,hr.2.1,fun i av x h1 h2=>?_⟩;rw[AI,AU]at h1;obtain⟨a,a1,rfl⟩:=h1;exact(hr.2.2 i a x a1 h2).str hI.objs
theorem j8{cx:Cx}{d:Option Nat}{e:Nat}{x:AV}{vx:Value}{K:HK}(hx:BH g w (AT h) x vx)(hk:bW cx d h e x K):On P w0 g0 h0 h g w (Instr.box e vx) K:=by
 unfold bW at hk;split at hk
 ·exact hk.elim
 ·split at hk
  ·rename_i hd;split at hk
   ·exact hk.elim
   ·obtain⟨cs,hk,hn,hr⟩:=MJ hx hk;split at hk
    ·obtain⟨g',k1,k2,k3⟩:=iu hI hd (vs:=vx.cells) e (PD hI hr);exact⟨_,_,g',_,_,rfl,hk,k1,k2,k3⟩
    ·obtain⟨g',k1,k2,k3⟩:=Ru hI hd (vs:=vx.cells) e hr;exact⟨_,_,g',_,_,rfl,hk,k1,k2,k3⟩
  ·exact hk.elim
theorem DK.write{r b:Nat}(hl:(h r).live)(ho:g.own r=some b)(o' : HO){FN:Array Value}{E:TypeId}(hb:w.heap[b]?=some (.cells FN E (0,0)))(new:Array Value)(n:Nat)(ow:Option Nat)(S' : Nat→Nat→Prop)
  (DF:o'≠.free) (hn:n=g.ln r) (r5:∀b',ow=some b'→b'=b) (hS:∀b o,g.S b o→S' b o) (ub:∀b' o,S' b' o→g.S b' o∨b'=b) (rQ:∀o,g.S b o→new[o]?=FN[o]?)
  (Jx:Ke g (g.upd r (g.ρ r) n (g.tk r) ow S') (AT h)→EO g w (g.upd r (g.ρ r) n (g.tk r) ow S') (w.setRow b new)→(w.setRow b new).heap[b]?=some (.cells new E (0,0)) →
   Ej (g.upd r (g.ρ r) n (g.tk r) ow S') (w.setRow b new) (AT (A0 h r o')) r o') :
  DK w0 g0 h0 (A0 h r o') (g.upd r (g.ρ r) n (g.tk r) ow S') (w.setRow b new)∧Le h g w (A0 h r o') (g.upd r (g.ρ r) n (g.tk r) ow S') (w.setRow b new):=by
 have E6:=setRow_heap w b FN new E (0,0) hb;have DB:=(hI.loc r b hl ho).1
 refine hI.upd r o' _ _ _ _ _ _ (some b) ⟨rfl,rfl,rfl,by rw[size_setRow];exact Al _⟩ (fun k hk DF=>setRow_other w b k new (fun e=>DF (by rw[e]))) (fun b' e=>by cases e;exact⟨hl,ho⟩) hS (fun b' o hs=>?_)
  (fun b' o e hs=>?_) (fun b' _ e=>?_) DF (fun _=>⟨rfl,by omega,fun _=>rfl,fun _=>rfl⟩) (fun hg hk=>Jx hg hk E6)
 ·rcases ub b' o hs with h1 | rfl
  ·exact .inl h1
  ·exact .inr ⟨by rw[size_setRow];exact DB,.inr ⟨hl,ho⟩⟩
 ·cases e
  refine⟨?_,fun es ck he=>by rw[hb]at he;cases he⟩;rw[FQ E6,FQ hb];exact rQ o hs
 ·obtain rfl:=r5 b' e;exact⟨by rw[size_setRow];exact DB,.inl ⟨hl,ho⟩⟩
theorem dR{cx:Cx}(hT:Cz P cx.T){t:Nat}{p x:AV}{vp vx:Value}{K:HK}(hp:BH g w (AT h) p vp)(hx:BH g w (AT h) x vx)(hk:Og cx h t p x K) :
  eH P w0 g0 h0 h g w (Instr.storeAt t vp vx) K:=by
 unfold Og at hk;split at hk
 ·exact hk.elim
 ·rename_i hd;have h5:=MJ hx hk
  clear hk
  obtain⟨vs,hk,hn,hr⟩:=h5;have CB:vx.cells.toList.length=vs.length:=hr.1;split at hk
  ·rename_i r off;have ho:=hI.objs r;split at hk
   ·rename_i cs e;obtain⟨He,hk⟩:=hk;rw[e]at ho;obtain⟨t0,b,E,FN,a1,a2,a3,a4,a5⟩:=ho;cases hp with
    |ref _ _ _ b' hu ht jM =>
     rw[a2]at jM;cases jM;have hcs:FN.toList.length=cs.length:=a4.1;have CP:=Px hT w (t:=t) (off:=off) (x:=vx) hd (by rw[CB,hn]) hr.2.1 a3 (by rw[CB];simp at hcs;omega);have hl:(h r).live:=by rw[e];trivial
     have oD:=a4.over hr off He;split at hk
     ·obtain⟨k1,k2⟩:=hI.write hl a1 (.ro ((over cs off vs).map (str h))) a3 (over FN.toList off vx.cells.toList).toArray (g.ln r) none (g.more b cs.length) (by simp) rfl (fun _ e=>by cases e) (fun _ _ h=>.inl h)
       (fun b' o hs=>hs.elim .inl (fun hs=>.inr hs.1)) (fun o hs=>absurd hs (a5 o)) (fun hg If E6=>by
        obtain⟨u1,u2,u3,u4⟩:=BD g r (g.ρ r) (g.ln r) (g.tk r) none (g.more b cs.length);refine⟨u3.trans t0,b,u1.trans a2,BH.cptr_row E6 ?_ (fun o ho=>.inr ⟨rfl,?_⟩)⟩
        ·exact(PD hI oD).mono If (fun _ h=>h) (fun _ h=>h.elim)
        ·rw[Bb,FV]at ho;exact ho)
      exact⟨_,_,_,CP,hk,k1,k2⟩
     ·obtain⟨k1,k2⟩:=hI.write hl a1 (.cells (over cs off vs)) a3 (over FN.toList off vx.cells.toList).toArray (g.ln r) (g.own r) g.S (by simp) rfl (fun b' e=>by rw[a1]at e;cases e;rfl) (fun _ _ h=>h)
       (fun b' o hs=>.inl hs) (fun o hs=>absurd hs (a5 o)) (fun hg If E6=>by
        obtain⟨u1,u2,u3,u4⟩:=BD g r (g.ρ r) (g.ln r) (g.tk r) (g.own r) g.S;exact⟨u3.trans t0,b,E,_,u4.trans a1,u1.trans a2,E6,oD.mono If (fun i hi=>DS (by simp) i hi) hg,a5⟩)
      exact⟨_,_,_,CP,hk,k1,k2⟩
   ·exact hk.elim
  ·rename_i r n sz i off;have ho:=hI.objs r;split at hk
   ·rename_i GI es e;rw[e]at ho;split at hk
    ·rename_i hz;obtain rfl:=AM hz;obtain⟨hnl,cs,hi,He,hk⟩:=hk;obtain⟨t1,l1,al,a1⟩:=ho;have DB:=(As.1 hi).1;rcases a1 with ⟨rfl,_⟩ | ⟨b,cap,E,FN,e1,e2,e3,e4,e5,e6,e7⟩
     ·simp at hi
     ·cases hp with
      |eref _ _ _ _ _ _ b' K8 hu ht X9 jM =>
       have jM:=jM (hnl.trans l1.symm);rw[e1]at jM;simp only[Value.slice.injEq,Bo,Addr.mk.injEq]at jM;obtain⟨⟨rfl,_,_⟩,_,_⟩:=jM;have hcl:=al cs (Av hi);have Tw:i*sz+sz≤es.length*sz:=by
        have:=Bh sz (show i+1≤es.length from DB)
        rwa [D5]at this
       have gH:es.length*sz≤cap*sz:=Bh sz e3;have CP:=Px hT w (t:=t) (off:=i*sz+off) (x:=vx) hd (by rw[CB,hn]) hr.2.1 e4 (by rw[CB];omega);have hl:(h r).live:=by rw[e];trivial
       have rn : ∀c∈es.set i (over cs off (vs.map (str h))),c.length=sz:=fun c hc=>by
        rcases E8 hc with hc | rfl
        ·exact al c hc
        ·rw[FV];exact hcl
       have hfl:=L6 al hi off (vs.map (str h)) (by rw[Bb];exact He);have X3:FN.toList.length=cap*sz:=by rw[B3];exact e5
       have qb:((over FN.toList (i*sz+off) vx.cells.toList).toArray.toList.take ((es.set i (over cs off (vs.map (str h)))).length*sz))=over (FN.toList.take (es.length*sz)) (i*sz+off) vx.cells.toList:=by
        rw[Cy];exact VG _ _ _ _ (by rw[CB];omega) (by rw[X3];exact gH)
       have oD:CI g w Fy (es.set i (over cs off (vs.map (str h)))).flatten ((over FN.toList (i*sz+off) vx.cells.toList).toArray.toList.take ((es.set i (over cs off (vs.map (str h)))).length*sz)):=by
        rw[qb,hfl];exact e6.over (PD hI hr) _ (by rw[Bb,Dp al];omega)
       split at hk
       ·rename_i j m;have eF:∃x0,vx.cells.toList=[x0]:=by
         revert CB
         cases vx.cells.toList with
         |nil=>intro CB;cases CB
         |cons x0 l=>cases l with
          |nil=>intro _;exact⟨x0,rfl⟩
          |cons _ _=>intro CB;simp at CB
        obtain⟨x0,eF⟩:=eF;have Ep:=hr.2.2 0 (.msl j m) x0 rfl (by rw[eF];rfl)
        obtain⟨k1,k2⟩:=hI.write hl e2 (.hol sz (es.set i (over cs off [.junk])) i off (.msl j m)) e4 (over FN.toList (i*sz+off) vx.cells.toList).toArray (g.ln r) (g.own r) g.S (by simp) rfl (fun b' e=>by rw[e2]at e;cases e;rfl) (fun _ _ h=>h)
         (fun b' o hs=>.inl hs) (fun o hs=>absurd hs (e7 o)) (fun hg If E6=>by
          obtain⟨u1,u2,u3,u4⟩:=BD g r (g.ρ r) (g.ln r) (g.tk r) (g.own r) g.S;have oz:i*sz+off<es.length*sz:=by simp only[Az,AJ]at He;omega
          refine⟨u3.trans t1,u2.trans (by rw[Cy];exact l1),rn,b,cap,E,_,?_,u4.trans e2,by rw[Cy];exact e3,E6,?_,oD.mono If (fun _ h=>h) (fun _ h=>h.elim),e7,by rw[Cy];exact oz,x0,?_,Ep.mono If (fun i hi=>DS (by simp) i hi) hg⟩
          ·rw[u1,e1,Cy]
          ·simp only[FF,FV,B3];exact e5
          ·rw[←AR,eF,FU _ _ _ _ (by rw[X3];simp only[Az,AJ];omega),Ap ⟨Al _,by simp only[Az,AJ];omega⟩,ES];rfl)
        exact⟨_,_,_,CP,hk,k1,k2⟩
       ·obtain⟨k1,k2⟩:=hI.write hl e2 (.arr sz (es.set i (over cs off (vs.map (str h))))) e4 (over FN.toList (i*sz+off) vx.cells.toList).toArray (g.ln r) (g.own r) g.S (by simp) rfl (fun b' e=>by rw[e2]at e;cases e;rfl) (fun _ _ h=>h)
         (fun b' o hs=>.inl hs) (fun o hs=>absurd hs (e7 o)) (fun hg If E6=>by
          obtain⟨u1,u2,u3,u4⟩:=BD g r (g.ρ r) (g.ln r) (g.tk r) (g.own r) g.S;refine⟨u3.trans t1,u2.trans (by rw[Cy];exact l1),rn,.inr ⟨b,cap,E,_,?_,u4.trans e2,by rw[Cy];exact e3,E6,?_,oD.mono If (fun _ h=>h) (fun _ h=>h.elim),e7⟩⟩
          ·rw[u1,e1,Cy]
          ·simp only[FF,FV,B3];exact e5)
        exact⟨_,_,_,CP,hk,k1,k2⟩
    ·exact hk.elim
   ·exact hk.elim
  ·exact hk.elim
end
theorem dv{α:Type}(c vs:List α)(h:vs.length=c.length):over c 0 vs=vs:=by
 rw[M0 _ _ _ (by omega)];simp[h]
theorem H1{α:Type}[Inhabited α](n:Nat)(z:List α)(hz:z≠[]):(List.replicate n z).flatten=(List.range (n*z.length)).map fun k=>z[k % z.length]!:=by
 have hl:∀c∈List.replicate n z,c.length=z.length:=fun c hc=>by rw[Ce hc]
 have ZJ:0<z.length:=GY.2 hz;apply Dj;intro k
 by_cases hk:k<n*z.length
 ·have pX:k=k / z.length*z.length+k % z.length:=by rw[Nat.mul_comm];exact(US k _).symm
  have X8:k % z.length<z.length:=Nat.mod_lt _ ZJ;have hi:k / z.length<n:=(Lx ZJ).2 hk;have f1:=Fr hl (i:=k / z.length) (c:=z) (by rw[List.getElem?_replicate,Ap hi]) X8;rw[←pX]at f1;rw[f1];simp[hk,X8]
 ·rw[A4 (by rw[Dp hl,DO];omega),A4 (by simp;omega)]
section
variable {P:Program}{w0:World}{g0:Gh}{h0 h:Nat→HO}{g:Gh}{w:World}(hI:DK w0 g0 h0 h g w)
include hI
theorem XR{n sz:Nat}{t:Nat→AV}{ρ:Operand→Value}(ht:∀x:Operand,BH g w (AT h) (ev t x) (ρ x)) :
  ∀{ps:List (Nat×Operand)} {es:List (List AV)} {xs:Array Value} {K:List (List AV)→Prop},es.length=n→(∀c∈es,c.length=sz)→CI g w Fy es.flatten xs.toList→Ra n sz h es t ps K →
   ∃FO Wa,K FO∧FO.length=n∧(∀c∈FO,c.length=sz)∧CI g w Fy FO.flatten Wa.toList∧Instr.fill (fun i=>some (i*sz,sz)) xs (ps.map fun(i,x)=>(i,ρ x))=some Wa
 | [],es,xs,K,hn,hl,h,hk=>⟨es,xs,hk,hn,hl,h,rfl⟩
 |(i,x)::ps,es,xs,K,hn,hl,h,hk=>by
  unfold Ra at hk;split at hk
  ·rename_i hi;have hi:i<n:=H9 hi;have h5:=MJ (ht x) hk
   clear hk
   obtain⟨UA,hk,oA,hr⟩:=h5;have Eh:(ρ x).cells.size=sz:=by rw[←oA];simpa using hr.1
   have WQ:=PD hI hr;obtain⟨c,hc⟩:∃c,es[i]?=some c:=⟨_,Ax (by omega)⟩;have hcl:=hl c (Av hc);have He:i*sz+sz≤es.flatten.length:=by
    rw[Dp hl,hn]
    have:=Bh sz (show i+1≤n from hi)
    rwa [D5]at this
   have hfl:=L6 hl hc 0 (UA.map (str ‹Nat→HO›)) (by rw[Bb,oA];omega);rw[dv _ _ (by rw[Bb,oA,hcl]),HA]at hfl;have E6:=h.over WQ (i*sz) (by rw[Bb,oA];exact He);have jN:xs.size=es.flatten.length:=by have:=h.1;rwa [B3]at this
   have e:=NQ (ρ x).cells.toList 0 (i*sz) xs (by rw[B3];omega);simp only[HA]at e;rw[←e,←hfl]at E6;obtain⟨FO,Wa,k1,k2,k3,k4,k5⟩:=XR ht (es:=es.set i (UA.map (str _))) (by rw[Cy];exact hn) (fun c' pT=>by
    rcases E8 pT with pT | rfl
    ·exact hl c' pT
    ·rw[Bb];exact oA) E6 hk
   refine⟨FO,Wa,k1,k2,k3,k4,?_⟩;simp only[AP,Instr.fill];have e2:(ρ x).cells.zipIdx.foldl (fun cs (c,j)=>cs.setIfInBounds (i*sz+j) c) xs=((ρ x).cells.toList.zipIdx 0).foldl (fun(cs:Array Value) (p:Value×Nat)=>cs.setIfInBounds (i*sz+p.2) p.1) xs:=by
    rw[←Array.foldl_toList];simp
   rw[Aj (by simp[Eh];omega),e2];exact k5
  ·exact hk.elim
theorem SG{cx:Cx}(hT:Cz P cx.T){d:Option Nat}{ty n:Nat}{t:Nat→AV}{ρ:Operand→Value}{K:HK}(ht:∀x:Operand,BH g w (AT h) (ev t x) (ρ x)){ps:Array (Nat×Operand)}
  (hk:ID cx d h ty n t ps.toList K):On P w0 g0 h0 h g w (Instr.buildSlice ty n (ps.map fun(i,x)=>(i,ρ x))) K:=by
 unfold ID at hk;split at hk
 ·rename_i e hs;split at hk
  ·rename_i RM M9;have M9:=AM M9;split at hk
   ·exact hk.elim
   ·rename_i m hm;split at hk
    ·rename_i He;have He:=H9 He;have oO:(cx.T e).zc≠[]:=fun e0=>by rw[e0]at M9;rw[hm]at M9;cases M9
     have ui:∀c∈List.replicate n ((cx.T e).zc.map AV.v),c.length=(cx.T e).size:=fun c hc=>by rw[Ce hc,Bb];exact M9
     have rM:CI g w Fy (List.replicate n ((cx.T e).zc.map AV.v)).flatten ((Array.range (n*(cx.T e).size)).map fun k=>(cx.T e).zc.toArray[k % (cx.T e).zc.toArray.size]!).toList:=by
      have e1:((Array.range (n*(cx.T e).size)).map fun k=>(cx.T e).zc.toArray[k % (cx.T e).zc.toArray.size]!).toList=(List.replicate n (cx.T e).zc).flatten:=by
       rw[H1 n _ oO];simp[M9]
      have e2:(List.replicate n ((cx.T e).zc.map AV.v)).flatten=(List.replicate n (cx.T e).zc).flatten.map AV.v:=by
       rw[Sv,List.map_replicate]
      rw[e1,e2];refine CI.vals ?_;have F6:∀l:List AV,(∀a∈l,one a=true)→Hb l=true:=by
       intro l
       induction l with
       |nil=>intro _;rfl
       |cons a l ih=>intro h;simp[Hb,h a (List.mem_cons_self ..),ih (fun b hb=>h b (List.mem_cons_of_mem _ hb))]
      refine F6 _ (fun a ha=>?_);obtain⟨x,hx,rfl⟩:=Am.1 ha;obtain⟨l,hl,hx⟩:=EA.1 hx;rw[Ce hl]at hx;exact MC RM _ (Am.2 ⟨x,hx,rfl⟩)
     obtain⟨FO,Wa,k1,k2,k3,k4,k5⟩:=XR hI ht (by rw[DO]) ui rM hk;have jN:Wa.size=n*(cx.T e).size:=by
      have:=k4.1
      rw[B3,Dp k3,k2]at this;exact this
     obtain⟨g',av,h',q1,q2,q3,q4⟩:=J7 hI k1 (vs:=Wa) (cap:=n) e k3 (by omega) jN (by
      rw[k2,Aw (by rw[B3,jN];exact Al _)];exact k4) w ⟨rfl,rfl,rfl,rfl⟩
     rw[k2]at q4;refine⟨_,_,g',av,h',?_,q1,q2,q3,q4⟩;obtain⟨z,z1,z2⟩:=Wc hT (w:=w) hm;have Eh:=hT.size1 w hm;have e3:(Array.map (fun x:Nat×Operand=>match x with | (i,x)=>(i,ρ x)) ps).toList=ps.toList.map fun(i,x)=>(i,ρ x):=by simp
     have xa:¬(n*(m+1)>2 ^ 24):=by rw[hm]at He;have He:n*(m+1)≤16777216:=He;omega
     simp only[Instr.buildSlice,Sem.run_bind,run_underlying (hT.slice hs),Result.andThen_ok,Eh,Aj xa];rw[e3];rw[hm]at k5
     by_cases h0:n*(m+1)=0
     ·have uk:n=0:=by
       rcases Nat.mul_eq_zero.1 h0 with h | h
       ·exact h
       ·cases h
      subst uk;have er:Array.range 0=#[]:=rfl;simp only[Kx,er,List.map_toArray,Fg]at k5;simp only[Kx,Rj,er,List.map_toArray,Fg,k5];simp[newRow]
     ·rw[z2]at k5;simp only[Array.toArray_toList]at k5;simp only[Aj h0,Sem.run_bind,z1,Result.andThen_ok,Sem.run_pure,k5];simp[newRow]
    ·exact hk.elim
  ·exact hk.elim
 ·exact hk.elim
end
theorem F3{sz:Nat}:∀{es:List (List AV)},CQ sz es→∀c∈es,c.length=sz
 | [],_,c,h=>by cases h
 |d::es,h,c,hc=>by
  rcases AA.1 hc with rfl | hc
  ·exact h.1
  ·exact F3 h.2 c hc
def Ou(w:World)(x:Value)(n sz:Nat)(news:List Value):Prop :=
 news.length=n*sz∧(∀v∈news,v.oneCell'=true)∧∃(a:Option Addr) (c:Nat),x=.slice a n c∧(n=0∨∃b:Addr,a=some b∧∀j u,news[j]?=some u→w.cell? (b.add j)=some u)
theorem Ou.of_rep{g:Gh}{w:World}{U:Nat→Prop}{es:List (List AV)}{sz:Nat}{x:Value}(h:BH g w U (.slice .none es) x)(hl:∀c∈es,c.length=sz) :
  ∃news,Ou w x es.length sz news∧CI g w Fy es.flatten news:=by
 cases h with
 |snil _ a cap=>exact⟨[],⟨by simp,by simp,a,cap,rfl,.inl rfl⟩,by simp,by simp,fun i av x h1 h2=>by simp at h2⟩
 |slice _ _ b off GI cap val hc Qc DH Ep =>
  have hf:=Dp hl;have key:∀j,j<es.length*sz→∃cs,es[j / sz]?=some cs∧es.flatten[j]?=cs[j % sz]?∧j % sz<cs.length∧GI=sz∧j=j / sz*sz+j % sz:=by
   intro j hj;have ZJ:0<sz:=Nat.pos_of_ne_zero (fun e=>by rw[e]at hj;omega);have pX:j=j / sz*sz+j % sz:=by rw[Nat.mul_comm];exact(US j sz).symm
   have hi:j / sz<es.length:=(Lx ZJ).2 hj;have X8:j % sz<sz:=Nat.mod_lt _ ZJ;have h1:es[j / sz]?=some es[j / sz]:=Ax hi;have h2:=Fr hl h1 X8;rw[←pX]at h2;have h3:=hl _ (At hi);exact⟨_,h1,h2,by rw[h3];exact X8,by rw[←h3];exact(Qc _ _ h1).symm,pX⟩
  have WL:∀j,j<es.length*sz→∃av,es.flatten[j]?=some av∧w.cell? ⟨b,off+j,none⟩=some (val (j / sz) (j % sz))∧(val (j / sz) (j % sz)).oneCell'=true∧BH g w Fy av (val (j / sz) (j % sz)):=by
   intro j hj;obtain⟨cs,k1,k2,k3,rfl,k5⟩:=key j hj;have gx:cs[j % GI]?=some cs[j % GI]:=Ax k3;obtain⟨_,c2,c3⟩:=DH _ _ _ _ k1 gx;rw[GJ,←k5]at c2;exact⟨_,k2.trans gx,c2,c3,Ep _ _ _ _ k1 gx⟩
  refine⟨(List.range (es.length*sz)).map fun j=>val (j / sz) (j % sz),⟨by simp,fun v hv=>?_,some ⟨b,off,none⟩,cap,rfl,.inr ⟨_,rfl,fun j u hu=>?_⟩⟩,by rw[hf];simp,fun v hv=>?_,fun i av x h1 h2=>?_⟩
  ·obtain⟨j,hj,rfl⟩:=Am.1 hv;obtain⟨_,_,_,c,_⟩:=WL j (List.mem_range.1 hj);exact c
  ·obtain⟨hj,rfl⟩:=G5 hu;rw[Addr.add_lit];exact(WL j hj).choose_spec.2.1
  ·obtain⟨j,hj,rfl⟩:=Am.1 hv;obtain⟨_,_,_,c,_⟩:=WL j (List.mem_range.1 hj);exact c
  ·obtain⟨hj,rfl⟩:=G5 h2;obtain⟨qt,c1,_,_,c4⟩:=WL i hj;rw[h1]at c1;cases c1;exact c4
section
variable {P:Program}{T:GK}(hT:Cz P T)
include hT
theorem HG{e n:Nat}(hs:(T e).size=n+1):∃i z,P.info? e=some i∧i.zero=some z∧i.size=(T e).size∧i.bytes=(T e).bytes∧(T e).zc=z.cells.toList:=by
 rcases hT e with h | h
 ·rw[h]at hs;cases hs
 unfold dS at h;split at h
 ·split at h
  ·rename_i d i h1 h2 _ z h3;exact⟨i,z,h2,h3,by rw[h],by rw[h],by rw[TI.zc_cells,h]⟩
  ·rw[h]at hs;cases hs
 ·rw[h]at hs;cases hs
theorem IW(w:World){t e ty k:Nat}(ht:(T t).d=.slice e)(hk:(T e).size=k+1)(a a' : Option Addr)(n cap c:Nat)(hc:n≤cap) :
  (Builtin.append_ #[t,t] ty #[.slice a n cap,.slice a' 0 c]).run P w=.ok (.slice a n cap) w:=by
 have hu:=hT.slice ht;cases a<;>cases a'<;>simp[Builtin.append_,run_underlying hu,hT.size1 w hk,Builtin.lenOf,hc,Builtin.firstCells,loadCells,loadCellsFrom,storeCells]
theorem H3(w:World){t e ty k:Nat}(ht:(T t).d=.slice e)(hk:(T e).size=k+1)(hz:(T e).zc.length=(T e).size){s x:Value}{n m cap c:Nat}{olds news:List Value}{a a' : Option Addr}
  (hso:Ou w s n (T e).size olds) (hs:s=.slice a n cap) (O0:a=none→cap=0) (hsx:Ou w x m (T e).size news) (hx:x=.slice a' m c) (hm:0<m) (hg:cap<n+m) (hb:(n+m)*(T e).bytes≤140737488355328) (h63:n+m≤9223372036854775807) :
  ∃nc rest,(Builtin.append_ #[t,t] ty #[s,x]).run P w=.ok (.slice (some ⟨w.heap.size,0,none⟩) (n+m) nc) (w.drew.alloc (.cells (olds++news++rest).toArray e (0,0)))∧n+m≤nc ∧
   (olds++news++rest).length=nc*(T e).size:=by
 obtain⟨i,z,i1,i2,i3,i4,i5⟩:=HG hT hk;have hu:=hT.slice ht;obtain⟨n1,n2,a1,c1,n3,n4⟩:=hsx;subst hx;cases n3;rcases n4 with h | ⟨b,rfl,I2⟩
 ·omega
 ·have M9:z.cells.size=(T e).size:=by rw[←hz,i5];simp
  have X6:∀(nc:Nat) (pre:List Value),pre.length=(n+m)*(T e).size→n+m≤nc→(pre++(Builtin.zeroCells z.cells (nc-(n+m))).toList).length=nc*(T e).size:=by
   intro nc pre hp He;have e1:(Builtin.zeroCells z.cells (nc-(n+m))).toList.length=(nc-(n+m))*(T e).size:=by simp only[B3,size_zeroCells,M9]
   rw[Ae,e1,hp,←Fq]
   congr 1;omega
  obtain⟨o1,o2,a2,c2,o3,o4⟩:=hso;subst hs;cases o3;cases a with
  |none =>
   obtain rfl:=O0 rfl;have uk:n=0:=by
    rcases o4 with h | ⟨b',h,_⟩
    ·exact h
    ·cases h
   subst uk;have ho:olds=[]:=AL (by simpa using o1);subst ho;have hr:=run_append_nil (P:=P) w t ty e i z hu i1 i2 b m c news (by rw[i3];exact n1) I2 hm (by omega) (by rw[i4];rw[Bl]at hb;omega);refine⟨grownCap w m 0 e,(Builtin.zeroCells z.cells (grownCap w m 0 e-m)).toList,?_,by rw[Bl];exact grownCap_ge w m 0 e,?_⟩
   ·rw[hr,Bl]
    congr 3
    apply Ol;simp
   ·have:=X6 (grownCap w m 0 e) news (by rw[Bl];exact n1) (by rw[Bl];exact grownCap_ge w m 0 e)
    rw[Bl]at this;simpa using this
  |some b' =>
   have GS:∀j u,olds[j]?=some u→w.cell? (b'.add j)=some u:=by
    rcases o4 with h | ⟨b2,h,h'⟩
    ·intro j u hj;rw[h,Kx]at o1
     have:olds=[]:=AL o1
     rw[this]at hj;simp at hj
    ·cases h;exact h'
   have hr:=run_append_grow (P:=P) w t ty e i z hu i1 i2 b' n cap olds (by rw[i3];exact o1) GS b m c news (by rw[i3];exact n1) I2 hg (by omega) (by rw[i4];exact growslice_fits hg hb);refine⟨grownCap w (n+m) cap e,(Builtin.zeroCells z.cells (grownCap w (n+m) cap e-(n+m))).toList,?_,grownCap_ge w (n+m) cap e,X6 _ _ (by rw[Ae,o1,n1,←Fq]) (grownCap_ge w (n+m) cap e)⟩;rw[hr]
   congr 3
   apply Ol;simp
end
end Go.Eng
