/- Lemmas for the claims of this seat, without a condition: part 7 (EngN, EngO, EngP, EngQ). -/
import Derived.Test.YtmcbkdbfaneofaaGreatDoorCA06
namespace Go.Eng
def NV(P:Program)(w0:World)(g0:Gh)(h0 h:Nat→HO)(g:Gh)(w:World)(m:Sem Value)(K:HK):Prop :=
 ∃x w' g' av h',m.run P w=.ok x w'∧K av h'∧DG w0 g0 h0 h' g' w'∧Le h g w h' g' w'∧BG g' w' (AR h') av x
def dy(P:Program)(w0:World)(g0:Gh)(h0 h:Nat→HO)(g:Gh)(w:World)(m:Sem Unit)(K:HK):Prop :=
 ∃w' g' h',m.run P w=.ok () w'∧K (.v undef) h'∧DG w0 g0 h0 h' g' w'∧Le h g w h' g' w'
section
variable {P:Program}{w0:World}{g0:Gh}{h0 h:Nat→HO}{g:Gh}{w:World}(hI:DG w0 g0 h0 h g w)
include hI
theorem BO.does{m:Sem Value}{K:HK}(hg:BO P h g w m (fun v=>K v h)):NV P w0 g0 h0 h g w m K :=
 let ⟨x,av,h1,h2,h3⟩:=hg
 ⟨x,w,g,av,h,h1,h2,hI,.refl _ _ _,h3⟩
theorem DG.newOwn{d:Nat}(hd:h d=.free)(o' : HO)(ob:Obj)(x:Value)(n:Nat)(t:Bool)(w1:World)(KD:w1.heap=w.heap∧w1.os=w.os∧w1.tape=w.tape∧w1.output=w.output)(Dz:o'≠.free)
  (I8:JM g (g.upd d x n t (some w.heap.size) g.S) (AR h)→ET g w (g.upd d x n t (some w.heap.size) g.S) (w1.alloc ob) →
   D7 (g.upd d x n t (some w.heap.size) g.S) (w1.alloc ob) (AR (AU h d o')) d o') :
  DG w0 g0 h0 (AU h d o') (g.upd d x n t (some w.heap.size) g.S) (w1.alloc ob)∧Le h g w (AU h d o') (g.upd d x n t (some w.heap.size) g.S) (w1.alloc ob):=by
 refine hI.upd d o' x n t _ _ _ none ⟨KD.2.1,KD.2.2.1,KD.2.2.2,by rw[World.size_alloc,KD.1];omega⟩ (fun k hk _=>?_) (fun b e=>by cases e) (fun _ _ h=>h) (fun _ _ h=>.inl h) (fun b o e=>by cases e)
  (fun b _ e=>?_) Dz (fun hu=>absurd hd hu) I8
 ·rw[heap_alloc_old _ _ (by rw[KD.1];exact hk),KD.1]
 ·cases e;rw[World.size_alloc,KD.1];exact⟨by omega,.inr (Aj _)⟩
def Gh.more(g:Gh)(b n:Nat):Nat→Nat→Prop:=fun b' o=>g.S b' o∨(b'=b∧o<n)
theorem DG.newStable{d:Nat}(hd:h d=.free)(o' : HO)(vs:Array Value)(E:TypeId)(m:Nat)(x:Value)(n:Nat)(t:Bool)(w1:World)(KD:w1.heap=w.heap∧w1.os=w.os∧w1.tape=w.tape∧w1.output=w.output)(Dz:o'≠.free)
  (I8:JM g (g.upd d x n t none (g.more w.heap.size m)) (AR h)→ET g w (g.upd d x n t none (g.more w.heap.size m)) (w1.alloc (.cells vs E (0,0))) →
   D7 (g.upd d x n t none (g.more w.heap.size m)) (w1.alloc (.cells vs E (0,0))) (AR (AU h d o')) d o') :
  DG w0 g0 h0 (AU h d o') (g.upd d x n t none (g.more w.heap.size m)) (w1.alloc (.cells vs E (0,0))) ∧
   Le h g w (AU h d o') (g.upd d x n t none (g.more w.heap.size m)) (w1.alloc (.cells vs E (0,0))):=by
 refine hI.upd d o' x n t _ _ _ none ⟨KD.2.1,KD.2.2.1,KD.2.2.2,by rw[World.size_alloc,KD.1];omega⟩ (fun k hk _=>?_) (fun b e=>by cases e) (fun _ _ h=>.inl h) (fun b o hb=>?_) (fun b o e=>by cases e)
  (fun b _ e=>by cases e) Dz (fun hu=>absurd hd hu) I8
 ·rw[heap_alloc_old _ _ (by rw[KD.1];exact hk),KD.1]
 ·rcases hb with hb | ⟨rfl,_⟩
  ·exact .inl hb
  ·exact .inr ⟨by rw[World.size_alloc,KD.1];omega,.inl (Aj _)⟩
end
theorem Bz(g:Gh)(r:Nat)(x:Value)(n:Nat)(t:Bool)(o:Option Nat)(S:Nat→Nat→Prop) :
  (g.upd r x n t o S).ρ r=x∧(g.upd r x n t o S).ln r=n∧(g.upd r x n t o S).tk r=t∧(g.upd r x n t o S).own r=o:=by simp[Gh.upd]
theorem Hr(w:World)(o:Obj){b:Nat}(hb:b=w.heap.size):(w.alloc o).heap[b]?=some o:=by subst hb;exact heap_alloc_new w o
theorem BG.cptr_row{g:Gh}{w:World}{U:Nat→Prop}{b:Nat}{cs:List AV}{vs:Array Value}{E:TypeId}{f:Nat×Nat}(hb:w.heap[b]?=some (.cells vs E f))(hr:CC g w Fi cs vs.toList)
  (hS:∀o,o<cs.length→g.S b o):BG g w U (.cptr cs) (.pointer (some ⟨b,0,none⟩)):=by
 refine .cptr U cs b 0 (fun j=>vs[j]?.getD default) (fun j av hj=>?_) (fun j av hj=>?_)
 ·obtain⟨x,x1,x2,x3⟩:=hr.at hj;rw[A1]at x1;refine⟨hS _ (by rw[Bi];exact(As.1 hj).1),?_,?_⟩
  ·rw[Fv hb,Bi,x1];rfl
  ·rw[x1];exact x2
 ·obtain⟨x,x1,x2,x3⟩:=hr.at hj;rw[A1]at x1;rw[x1];exact x3
theorem BG.slice_off{g:Gh}{w:World}{U:Nat→Prop}{b off sz cap:Nat}{es:List (List AV)}{vs:Array Value}{E:TypeId}{f:Nat×Nat}(hb:w.heap[b]?=some (.cells vs E f))(hl:∀cs∈es,cs.length=sz)
  (hc:es.length≤cap) (hr:CC g w Fi es.flatten ((vs.toList.drop off).take (es.length*sz))) (hS:∀o,o<es.length*sz→g.S b (off+o)):BG g w U (.slice .none es) (.slice (some ⟨b,off,none⟩) es.length cap):=by
 have key:∀(i:Nat) (cs:List AV) (j:Nat) (av:AV),es[i]?=some cs→cs[j]?=some av→∃x,vs[off+(i*sz+j)]?=some x∧x.oneCell'=true∧BG g w Fi av x∧i*sz+j<es.length*sz:=by
  intro i cs j av h1 h2;have hcl:=hl cs (Av h1);have hj:j<sz:=by rw[←hcl];exact(As.1 h2).1
  have hi:=(As.1 h1).1;have DF:i*sz+j<es.length*sz:=by
   have:=Bg sz (show i+1≤es.length from hi)
   rw[DU]at this;omega
  have hf:=E4 hl h1 hj;rw[h2]at hf;obtain⟨x,x1,x2,x3⟩:=hr.at hf;rw[BF DF,BP,A1]at x1;exact⟨x,x1,x2,x3,DF⟩
 refine .slice U es b off sz cap (fun i j=>vs[off+(i*sz+j)]?.getD default) hc (fun i cs h=>hl cs (Av h)) (fun i cs j av h1 h2=>?_) (fun i cs j av h1 h2=>?_)
 ·obtain⟨x,x1,x2,x3,x4⟩:=key i cs j av h1 h2;rw[Gi];refine⟨hS _ x4,?_,?_⟩
  ·rw[Fv hb,x1];rfl
  ·rw[x1];exact x2
 ·obtain⟨x,x1,x2,x3,x4⟩:=key i cs j av h1 h2;rw[x1];exact x3
theorem BG.slice_row{g:Gh}{w:World}{U:Nat→Prop}{b sz cap:Nat}{es:List (List AV)}{vs:Array Value}{E:TypeId}{f:Nat×Nat}(hb:w.heap[b]?=some (.cells vs E f))(hl:∀cs∈es,cs.length=sz)
  (hc:es.length≤cap) (hr:CC g w Fi es.flatten (vs.toList.take (es.length*sz))) (hS:∀o,o<es.length*sz→g.S b o):BG g w U (.slice .none es) (.slice (some ⟨b,0,none⟩) es.length cap):=by
 have key:∀(i:Nat) (cs:List AV) (j:Nat) (av:AV),es[i]?=some cs→cs[j]?=some av→∃x,vs[i*sz+j]?=some x∧x.oneCell'=true∧BG g w Fi av x∧i*sz+j<es.length*sz:=by
  intro i cs j av h1 h2;have hcl:=hl cs (Av h1);have hj:j<sz:=by rw[←hcl];exact(As.1 h2).1
  have hi:=(As.1 h1).1;have DF:i*sz+j<es.length*sz:=by
   have:=Bg sz (show i+1≤es.length from hi)
   rw[DU]at this;omega
  have hf:=E4 hl h1 hj;rw[h2]at hf;obtain⟨x,x1,x2,x3⟩:=hr.at hf;rw[BF DF,A1]at x1;exact⟨x,x1,x2,x3,DF⟩
 refine .slice U es b 0 sz cap (fun i j=>vs[i*sz+j]?.getD default) hc (fun i cs h=>hl cs (Av h)) (fun i cs j av h1 h2=>?_) (fun i cs j av h1 h2=>?_)
 ·obtain⟨x,x1,x2,x3,x4⟩:=key i cs j av h1 h2;rw[Bi];refine⟨hS _ x4,?_,?_⟩
  ·rw[Fv hb,x1];rfl
  ·rw[x1];exact x2
 ·obtain⟨x,x1,x2,x3,x4⟩:=key i cs j av h1 h2;rw[x1];exact x3
section
variable {P:Program}{w0:World}{g0:Gh}{h0 h:Nat→HO}{g:Gh}{w:World}
theorem QL(hI:DG w0 g0 h0 h g w){d:Nat}(hd:h d=.free){cs:List AV}{vs:Array Value}(E:TypeId)(hr:CC g w (AR h) cs vs.toList) :
  ∃g',DG w0 g0 h0 (AU h d (.cells cs)) g' (w.alloc (.cells vs E (0,0)))∧Le h g w (AU h d (.cells cs)) g' (w.alloc (.cells vs E (0,0))) ∧
   BG g' (w.alloc (.cells vs E (0,0))) (AR (AU h d (.cells cs))) (.ref d 0) (.pointer (some ⟨w.heap.size,0,none⟩)):=by
 obtain⟨k1,k2⟩:=hI.newOwn hd (.cells cs) (.cells vs E (0,0)) (.pointer (some ⟨w.heap.size,0,none⟩)) 0 false w ⟨rfl,rfl,rfl,rfl⟩ (by simp) (fun hg hk=>by
  obtain⟨u1,u2,u3,u4⟩:=Bz g d (.pointer (some ⟨w.heap.size,0,none⟩)) 0 false (some w.heap.size) g.S;exact⟨u3,w.heap.size,E,vs,u4,u1,Hr w _ rfl,hr.mono hk (fun i hi=>DL (by simp) i hi) hg,fun o ho=>by have:=hI.slt _ _ ho;omega⟩)
 refine⟨_,k1,k2,.ref _ d 0 w.heap.size (by unfold AR;rw[Bc];simp) ?_ ?_⟩
 ·simp[Gh.upd]
 ·simp[Gh.upd]
theorem ga(hI:DG w0 g0 h0 h g w){d:Nat}(hd:h d=.free){cs:List AV}{vs:Array Value}(E:TypeId)(hr:CC g w Fi cs vs.toList) :
  ∃g',DG w0 g0 h0 (AU h d (.ro cs)) g' (w.alloc (.cells vs E (0,0)))∧Le h g w (AU h d (.ro cs)) g' (w.alloc (.cells vs E (0,0))) ∧
   BG g' (w.alloc (.cells vs E (0,0))) (AR (AU h d (.ro cs))) (.ref d 0) (.pointer (some ⟨w.heap.size,0,none⟩)):=by
 obtain⟨k1,k2⟩:=hI.newStable hd (.ro cs) vs E cs.length (.pointer (some ⟨w.heap.size,0,none⟩)) 0 false w ⟨rfl,rfl,rfl,rfl⟩ (by simp) (fun hg hk=>by
  obtain⟨u1,u2,u3,u4⟩:=Bz g d (.pointer (some ⟨w.heap.size,0,none⟩)) 0 false none (g.more w.heap.size cs.length);exact⟨u3,w.heap.size,u1,BG.cptr_row (Hr w _ rfl) (hr.mono hk (fun _ h=>h) (fun _ h=>h.elim)) (fun o ho=>.inr ⟨rfl,ho⟩)⟩)
 refine⟨_,k1,k2,.ref _ d 0 w.heap.size (by unfold AR;rw[Bc];simp) ?_ ?_⟩
 ·simp[Gh.upd]
 ·simp[Gh.upd]
theorem JG(hI:DG w0 g0 h0 h g w){cx:Cx}{d:Option Nat}{sz:Nat}{es:List (List AV)}{K:HK}(hk:Es cx d h sz es K){vs:Array Value}{cap:Nat}(E:TypeId)(hl:∀cs∈es,cs.length=sz)
  (hc:es.length≤cap) (hs:vs.size=cap*sz) (hr:CC g w Fi es.flatten (vs.toList.take (es.length*sz))) (w1:World) (KD:w1.heap=w.heap∧w1.os=w.os∧w1.tape=w.tape∧w1.output=w.output) :
  ∃g' av h',K av h'∧DG w0 g0 h0 h' g' (w1.alloc (.cells vs E (0,0)))∧Le h g w h' g' (w1.alloc (.cells vs E (0,0))) ∧
   BG g' (w1.alloc (.cells vs E (0,0))) (AR h') av (.slice (some ⟨w.heap.size,0,none⟩) es.length cap):=by
 have EJ:(w1.alloc (.cells vs E (0,0))).heap[w.heap.size]?=some (.cells vs E (0,0)):=Hr w1 _ (by rw[KD.1]);unfold Es at hk;split at hk
 ·exact hk.elim
 ·rename_i d;generalize Ki cx d=d1 at hk;split at hk
  ·rename_i hd;split at hk
   ·obtain⟨k1,k2⟩:=hI.newOwn hd (.arr sz es) (.cells vs E (0,0)) (.slice (some ⟨w.heap.size,0,none⟩) es.length cap) es.length true w1 KD (by simp) (fun hg HH=>by
     obtain⟨u1,u2,u3,u4⟩:=Bz g d1 (.slice (some ⟨w.heap.size,0,none⟩) es.length cap) es.length true (some w.heap.size) g.S;exact⟨u3,u2,hl,.inr ⟨w.heap.size,cap,E,vs,u1,u4,hc,EJ,hs,hr.mono HH (fun _ h=>h) (fun _ h=>h.elim),fun o ho=>by have:=hI.slt _ _ ho;omega⟩⟩)
    refine⟨_,_,_,hk,k1,k2,.msl _ d1 es.length _ cap (by unfold AR;rw[Bc];simp) ?_ ?_ (.inr ⟨_,rfl⟩) ?_⟩<;>simp[Gh.upd]
   ·by_cases fg:es.length=cap
    ·obtain⟨k1,k2⟩:=hI.newStable hd (.tok sz es.length) vs E (es.length*sz) (.slice (some ⟨w.heap.size,0,none⟩) es.length cap) es.length true w1 KD (by simp) (fun hg HH=>by
      obtain⟨u1,u2,u3,u4⟩:=Bz g d1 (.slice (some ⟨w.heap.size,0,none⟩) es.length cap) es.length true none (g.more w.heap.size (es.length*sz));exact⟨u3,u2,_,cap,u1,.inl ⟨fg,u4⟩⟩)
     refine⟨_,_,_,hk,k1,k2,.tok _ d1 sz es _ (BG.slice_row EJ hl hc (hr.mono k2.keeps (fun _ h=>h) (fun _ h=>h.elim)) (fun o ho=>.inr ⟨rfl,ho⟩)) hl (by unfold AR;rw[Bc];simp) ?_ ?_ ?_⟩<;>simp[Gh.upd]
    ·have oa:=hI.upd d1 (.tok sz es.length) (.slice (some ⟨w.heap.size,0,none⟩) es.length cap) es.length true (some w.heap.size) (g.more w.heap.size (es.length*sz)) (w1.alloc (.cells vs E (0,0))) none
      ⟨KD.2.1,KD.2.2.1,KD.2.2.2,by rw[World.size_alloc,KD.1];omega⟩ (fun k JR _=>by rw[heap_alloc_old _ _ (by rw[KD.1];exact JR),KD.1]) (fun b e=>by cases e) (fun _ _ h=>.inl h)
      (fun b o hb=>by
       rcases hb with hb | ⟨rfl,_⟩
       ·exact .inl hb
       ·exact .inr ⟨by rw[World.size_alloc,KD.1];omega,.inl (Aj _)⟩) (fun b o e=>by cases e)
      (fun b _ e=>by cases e;rw[World.size_alloc,KD.1];exact⟨by omega,.inr (Aj _)⟩) (by simp) (fun hu=>absurd hd hu) (fun hg HH=>by
       obtain⟨u1,u2,u3,u4⟩:=Bz g d1 (.slice (some ⟨w.heap.size,0,none⟩) es.length cap) es.length true (some w.heap.size) (g.more w.heap.size (es.length*sz));exact⟨u3,u2,_,cap,u1,.inr ⟨hc,w.heap.size,E,vs,0,rfl,u4,EJ,by rw[hs,Bi],fun o ho=>by
        rcases ho with ho | ⟨_,ho⟩
        ·have:=hI.slt _ _ ho;omega
        ·omega⟩⟩)
     obtain⟨k1,k2⟩:=oa;refine⟨_,_,_,hk,k1,k2,.tok _ d1 sz es _ (BG.slice_row EJ hl hc (hr.mono k2.keeps (fun _ h=>h) (fun _ h=>h.elim)) (fun o ho=>.inr ⟨rfl,ho⟩)) hl (by unfold AR;rw[Bc];simp) ?_ ?_ ?_⟩<;>simp[Gh.upd]
  ·exact hk.elim
end
theorem ME{α:Type}:∀(cs:List α) (o:Nat) (vs:List α),o+vs.length≤cs.length→over cs o vs=cs.take o++vs++cs.drop (o+vs.length)
 | [],o,vs,h=>by
  simp at h;obtain⟨rfl,rfl⟩:=h
  rfl
 |c::cs,o+1,vs,h=>by
  rw[over,ME cs o vs (by simp at h;omega)];simp only[IJ,It,AO,Nat.add_right_comm o 1,List.drop_succ_cons]
 |c::cs,0,[],h=>by simp[over]
 |c::cs,0,v::vs,h=>by
  rw[over,ME cs 0 vs (by simp at h;omega)];simp
theorem Vc{α:Type}(cs:List α)(o n:Nat)(vs:List α)(h:o+vs.length≤n)(hn:n≤cs.length):(over cs o vs).take n=over (cs.take n) o vs:=by
 apply Cz;intro i;rw[Fy _ _ _ _ (by simp;omega)]
 by_cases hi:i<n
 ·rw[BF hi,Fy _ _ _ _ (by omega),BF hi]
 ·rw[Ak (by omega),A4 (by rw[AJ,Fz];omega),A4 (by simp;omega)]
theorem LL{α:Type}{n:Nat}:∀{es:List (List α)},(∀c∈es,c.length=n)→∀{i:Nat} {c:List α},es[i]?=some c→∀(o:Nat) (vs:List α),o+vs.length≤n →
  (es.set i (over c o vs)).flatten=over es.flatten (i*n+o) vs
 | [],_,i,c,h,_,_,_=>by simp at h
 |d::es,hl,i,c,h,o,vs,Hc=>by
  have hd:=hl d (Aa ..);have hfl:=Df (es:=d::es) (n:=n) hl;have DF:=(As.1 h).1;have qa:i*n+o+vs.length≤(d::es).flatten.length:=by
   rw[hfl]
   have:=Bg n (show i+1≤(d::es).length from DF)
   rw[DU]at this;omega
  have hcl:=hl c (Av h);apply Cz;intro j;rw[Fy _ _ _ _ qa];have Nu:∀e∈(d::es).set i (over c o vs),e.length=n:=fun e he=>by
   rcases IA he with he | rfl
   ·exact hl e he
   ·rw[Fz];exact hcl
  by_cases hn:n=0
  ·subst hn;have h1:=Df Nu;have h2:=hfl;simp only[Nat.mul_zero,List.length_eq_zero_iff]at h1 h2;rw[h1,h2]
   have:¬(i*0+o≤j∧j<i*0+o+vs.length):=by omega
   rw[Ak this]
  ·have od:j=j / n*n+j % n:=by rw[Nat.mul_comm];exact(Uj j n).symm
   have Xt:j % n<n:=Nat.mod_lt _ (by omega)
   by_cases hj:j / n<(d::es).length
   ·have g1:(d::es)[j / n]?=some ((d::es)[j / n]):=Ay hj;have g2:((d::es).set i (over c o vs))[j / n]?=some (if i=j / n then over c o vs else(d::es)[j / n]):=by
     rw[Ql]
     by_cases e:i=j / n
     ·rw[Aw e,Aw (by omega),Aw e]
     ·rw[Ak e,Ak e];exact g1
    have f1:=E4 hl g1 Xt;have f2:=E4 Nu g2 Xt;rw[←od]at f1 f2;rw[f1,f2];split
    ·rename_i e;rw[e]at h;rw[g1]at h;cases h;rw[Fy _ _ _ _ (by omega)];have e2:i*n+o≤j↔o≤j % n:=by rw[e];omega
     have e3:j<i*n+o+vs.length↔j % n<o+vs.length:=by rw[e];omega
     simp only[e2,e3];split
     ·congr 1;rw[e];omega
     ·rfl
    ·rename_i e
     have:¬(i*n+o≤j∧j<i*n+o+vs.length):=by
      rintro⟨q1,q2⟩
      apply e;have a1:i*n≤j:=by omega
      have a2:j<(i+1)*n:=by rw[DU];omega
      have:=(Nat.le_div_iff_mul_le (by omega)).2 a1
      have:=(Lc (by omega)).2 a2
      omega
     rw[Ak this]
   ·have og:(d::es).length*n≤j:=by
     have:=Nat.not_lt.1 hj
     have:=(Nat.le_div_iff_mul_le (by omega)).1 this
     exact this
    have:¬(i*n+o≤j∧j<i*n+o+vs.length):=by rw[hfl]at qa;omega
    rw[Ak this,A4 (by rw[Df Nu,CR];exact og),A4 (by rw[hfl];exact og)]
theorem OW{P:Program}{T:Gj}(hT:Cw P T)(w:World){t b off:Nat}{x:Value}{Fs:Array Value}{E:TypeId}(hd:(T t).d≠.other)(hs:x.cells.toList.length=(T t).size)
  (h1:∀v∈x.cells.toList,v.oneCell'=true) (hb:w.heap[b]?=some (.cells Fs E (0,0))) (Hc:off+x.cells.toList.length≤Fs.size) :
  (Instr.storeAt t (.pointer (some ⟨b,off,none⟩)) x).run P w=.ok () (w.setRow b (over Fs.toList off x.cells.toList).toArray):=by
 have I9:=run_storeCells_at P b off E x.cells.toList 0 Fs w hb (by simpa using Hc) h1;simp only[Dx]at I9;have WA : x.cells.size=(T t).size:=by simpa using hs
 rw[ME _ _ _ (by simpa using Hc)];simp only[Instr.storeAt,Sem.run_bind,Instr.sureAddr,Sem.run_pure,Result.andThen_ok,storeVar,hT.size w hd,WA,U7,not_true_eq_false,F8];exact I9
section
variable {P:Program}{w0:World}{g0:Gh}{h0 h:Nat→HO}{g:Gh}{w:World}(hI:DG w0 g0 h0 h g w)
include hI
theorem aZ{T:Gj}(hT:Cw P T){d:Option Nat}{e:Nat}{K:HK}(hk:RH T d h e K):NV P w0 g0 h0 h g w (Instr.alloc e true (.tuple #[])) K:=by
 unfold RH at hk;split at hk
 ·exact hk.elim
 ·split at hk
  ·rename_i hd;split at hk
   ·exact hk.elim
   ·rename_i Dz;split at hk
    ·rename_i ha;obtain⟨z,z1,z2,_⟩:=Pe hT (w:=w) Dz;have hr:CC g w (AR h) ((T e).zc.map .v) z.cells.toList:=by rw[z2]at ha⊢;exact CC.vals ha
     obtain⟨g',k1,k2,k3⟩:=QL hI hd (vs:=z.cells) e hr;refine⟨_,_,g',_,_,?_,hk,k1,k2,k3⟩;simp[Instr.alloc,z1,newVar,newRow]
    ·exact hk.elim
  ·exact hk.elim
theorem O0{cs:List AV}{vs:List Value}(hr:CC g w (AR h) cs vs):CC g w Fi (cs.map (str h)) vs:=by
 refine⟨by rw[A9];exact hr.1,hr.2.1,fun i av x h1 h2=>?_⟩;rw[AG,AY]at h1;obtain⟨a,a1,rfl⟩:=h1;exact(hr.2.2 i a x a1 h2).str hI.objs
theorem iX{cx:Cx}{d:Option Nat}{e:Nat}{x:AV}{vx:Value}{K:HK}(hx:BG g w (AR h) x vx)(hk:bn cx d h e x K):NV P w0 g0 h0 h g w (Instr.box e vx) K:=by
 unfold bn at hk;split at hk
 ·exact hk.elim
 ·split at hk
  ·rename_i hd;split at hk
   ·exact hk.elim
   ·obtain⟨cs,hk,hn,hr⟩:=Mn hx hk;split at hk
    ·obtain⟨g',k1,k2,k3⟩:=ga hI hd (vs:=vx.cells) e (O0 hI hr);exact⟨_,_,g',_,_,rfl,hk,k1,k2,k3⟩
    ·obtain⟨g',k1,k2,k3⟩:=QL hI hd (vs:=vx.cells) e hr;exact⟨_,_,g',_,_,rfl,hk,k1,k2,k3⟩
  ·exact hk.elim
theorem DG.write{r b:Nat}(hl:(h r).live)(ho:g.own r=some b)(o' : HO){Fs:Array Value}{E:TypeId}(hb:w.heap[b]?=some (.cells Fs E (0,0)))(new:Array Value)(n:Nat)(ow:Option Nat)(S' : Nat→Nat→Prop)
  (Dz:o'≠.free) (hn:n=g.ln r) (qf:∀b',ow=some b'→b'=b) (hS:∀b o,g.S b o→S' b o) (rE:∀b' o,S' b' o→g.S b' o∨b'=b) (p7:∀o,g.S b o→new[o]?=Fs[o]?)
  (I8:JM g (g.upd r (g.ρ r) n (g.tk r) ow S') (AR h)→ET g w (g.upd r (g.ρ r) n (g.tk r) ow S') (w.setRow b new)→(w.setRow b new).heap[b]?=some (.cells new E (0,0)) →
   D7 (g.upd r (g.ρ r) n (g.tk r) ow S') (w.setRow b new) (AR (AU h r o')) r o') :
  DG w0 g0 h0 (AU h r o') (g.upd r (g.ρ r) n (g.tk r) ow S') (w.setRow b new)∧Le h g w (AU h r o') (g.upd r (g.ρ r) n (g.tk r) ow S') (w.setRow b new):=by
 have EJ:=setRow_heap w b Fs new E (0,0) hb;have DF:=(hI.loc r b hl ho).1
 refine hI.upd r o' _ _ _ _ _ _ (some b) ⟨rfl,rfl,rfl,by rw[size_setRow];exact Aj _⟩ (fun k hk Dz=>setRow_other w b k new (fun e=>Dz (by rw[e]))) (fun b' e=>by cases e;exact⟨hl,ho⟩) hS (fun b' o hs=>?_)
  (fun b' o e hs=>?_) (fun b' _ e=>?_) Dz (fun _=>⟨rfl,by omega,fun _=>rfl,fun _=>rfl⟩) (fun hg hk=>I8 hg hk EJ)
 ·rcases rE b' o hs with h1 | rfl
  ·exact .inl h1
  ·exact .inr ⟨by rw[size_setRow];exact DF,.inr ⟨hl,ho⟩⟩
 ·cases e
  refine⟨?_,fun es ck he=>by rw[hb]at he;cases he⟩;rw[Fv EJ,Fv hb];exact p7 o hs
 ·obtain rfl:=qf b' e;exact⟨by rw[size_setRow];exact DF,.inl ⟨hl,ho⟩⟩
theorem da{cx:Cx}(hT:Cw P cx.T){t:Nat}{p x:AV}{vp vx:Value}{K:HK}(hp:BG g w (AR h) p vp)(hx:BG g w (AR h) x vx)(hk:NR cx h t p x K) :
  dy P w0 g0 h0 h g w (Instr.storeAt t vp vx) K:=by
 unfold NR at hk;split at hk
 ·exact hk.elim
 ·rename_i hd;have h5:=Mn hx hk
  clear hk
  obtain⟨vs,hk,hn,hr⟩:=h5;have CE:vx.cells.toList.length=vs.length:=hr.1;split at hk
  ·rename_i r off;have ho:=hI.objs r;split at hk
   ·rename_i cs e;obtain⟨Hc,hk⟩:=hk;rw[e]at ho;obtain⟨t0,b,E,Fs,a1,a2,a3,a4,a5⟩:=ho;cases hp with
    |ref _ _ _ b' hu ht lm =>
     rw[a2]at lm;cases lm;have hcs:Fs.toList.length=cs.length:=a4.1;have CM:=OW hT w (t:=t) (off:=off) (x:=vx) hd (by rw[CE,hn]) hr.2.1 a3 (by rw[CE];simp at hcs;omega);have hl:(h r).live:=by rw[e];trivial
     have mU:=a4.over hr off Hc;split at hk
     ·obtain⟨k1,k2⟩:=hI.write hl a1 (.ro ((over cs off vs).map (str h))) a3 (over Fs.toList off vx.cells.toList).toArray (g.ln r) none (g.more b cs.length) (by simp) rfl (fun _ e=>by cases e) (fun _ _ h=>.inl h)
       (fun b' o hs=>hs.elim .inl (fun hs=>.inr hs.1)) (fun o hs=>absurd hs (a5 o)) (fun hg HH EJ=>by
        obtain⟨u1,u2,u3,u4⟩:=Bz g r (g.ρ r) (g.ln r) (g.tk r) none (g.more b cs.length);refine⟨u3.trans t0,b,u1.trans a2,BG.cptr_row EJ ?_ (fun o ho=>.inr ⟨rfl,?_⟩)⟩
        ·exact(O0 hI mU).mono HH (fun _ h=>h) (fun _ h=>h.elim)
        ·rw[A9,Fz]at ho;exact ho)
      exact⟨_,_,_,CM,hk,k1,k2⟩
     ·obtain⟨k1,k2⟩:=hI.write hl a1 (.cells (over cs off vs)) a3 (over Fs.toList off vx.cells.toList).toArray (g.ln r) (g.own r) g.S (by simp) rfl (fun b' e=>by rw[a1]at e;cases e;rfl) (fun _ _ h=>h)
       (fun b' o hs=>.inl hs) (fun o hs=>absurd hs (a5 o)) (fun hg HH EJ=>by
        obtain⟨u1,u2,u3,u4⟩:=Bz g r (g.ρ r) (g.ln r) (g.tk r) (g.own r) g.S;exact⟨u3.trans t0,b,E,_,u4.trans a1,u1.trans a2,EJ,mU.mono HH (fun i hi=>DL (by simp) i hi) hg,a5⟩)
      exact⟨_,_,_,CM,hk,k1,k2⟩
   ·exact hk.elim
  ·rename_i r n sz i off;have ho:=hI.objs r;split at hk
   ·rename_i Gf es e;rw[e]at ho;split at hk
    ·rename_i hz;obtain rfl:=AL hz;obtain⟨hnl,cs,hi,Hc,hk⟩:=hk;obtain⟨t1,l1,al,a1⟩:=ho;have DF:=(As.1 hi).1;rcases a1 with ⟨rfl,_⟩ | ⟨b,cap,E,Fs,e1,e2,e3,e4,e5,e6,e7⟩
     ·simp at hi
     ·cases hp with
      |eref _ _ _ _ _ _ b' Lr hu ht Xu lm =>
       have lm:=lm (hnl.trans l1.symm);rw[e1]at lm;simp only[Value.slice.injEq,Bm,Addr.mk.injEq]at lm;obtain⟨⟨rfl,_,_⟩,_,_⟩:=lm;have hcl:=al cs (Av hi);have SD:i*sz+sz≤es.length*sz:=by
        have:=Bg sz (show i+1≤es.length from DF)
        rwa [DU]at this
       have fp:es.length*sz≤cap*sz:=Bg sz e3;have CM:=OW hT w (t:=t) (off:=i*sz+off) (x:=vx) hd (by rw[CE,hn]) hr.2.1 e4 (by rw[CE];omega);have hl:(h r).live:=by rw[e];trivial
       have pH : ∀c∈es.set i (over cs off (vs.map (str h))),c.length=sz:=fun c hc=>by
        rcases IA hc with hc | rfl
        ·exact al c hc
        ·rw[Fz];exact hcl
       have hfl:=LL al hi off (vs.map (str h)) (by rw[A9];exact Hc);have Xp:Fs.toList.length=cap*sz:=by rw[B3];exact e5
       have ux:((over Fs.toList (i*sz+off) vx.cells.toList).toArray.toList.take ((es.set i (over cs off (vs.map (str h)))).length*sz))=over (Fs.toList.take (es.length*sz)) (i*sz+off) vx.cells.toList:=by
        rw[CR];exact Vc _ _ _ _ (by rw[CE];omega) (by rw[Xp];exact fp)
       have mU:CC g w Fi (es.set i (over cs off (vs.map (str h)))).flatten ((over Fs.toList (i*sz+off) vx.cells.toList).toArray.toList.take ((es.set i (over cs off (vs.map (str h)))).length*sz)):=by
        rw[ux,hfl];exact e6.over (O0 hI hr) _ (by rw[A9,Df al];omega)
       split at hk
       ·rename_i j m;have dt:∃x0,vx.cells.toList=[x0]:=by
         revert CE
         cases vx.cells.toList with
         |nil=>intro CE;cases CE
         |cons x0 l=>cases l with
          |nil=>intro _;exact⟨x0,rfl⟩
          |cons _ _=>intro CE;simp at CE
        obtain⟨x0,dt⟩:=dt;have Ea:=hr.2.2 0 (.msl j m) x0 rfl (by rw[dt];rfl)
        obtain⟨k1,k2⟩:=hI.write hl e2 (.hol sz (es.set i (over cs off [.junk])) i off (.msl j m)) e4 (over Fs.toList (i*sz+off) vx.cells.toList).toArray (g.ln r) (g.own r) g.S (by simp) rfl (fun b' e=>by rw[e2]at e;cases e;rfl) (fun _ _ h=>h)
         (fun b' o hs=>.inl hs) (fun o hs=>absurd hs (e7 o)) (fun hg HH EJ=>by
          obtain⟨u1,u2,u3,u4⟩:=Bz g r (g.ρ r) (g.ln r) (g.tk r) (g.own r) g.S;have mR:i*sz+off<es.length*sz:=by simp only[At,AC]at Hc;omega
          refine⟨u3.trans t1,u2.trans (by rw[CR];exact l1),pH,b,cap,E,_,?_,u4.trans e2,by rw[CR];exact e3,EJ,?_,mU.mono HH (fun _ h=>h) (fun _ h=>h.elim),e7,by rw[CR];exact mR,x0,?_,Ea.mono HH (fun i hi=>DL (by simp) i hi) hg⟩
          ·rw[u1,e1,CR]
          ·simp only[Ff,Fz,B3];exact e5
          ·rw[←A1,dt,Fy _ _ _ _ (by rw[Xp];simp only[At,AC];omega),Aw ⟨Aj _,by simp only[At,AC];omega⟩,F1];rfl)
        exact⟨_,_,_,CM,hk,k1,k2⟩
       ·obtain⟨k1,k2⟩:=hI.write hl e2 (.arr sz (es.set i (over cs off (vs.map (str h))))) e4 (over Fs.toList (i*sz+off) vx.cells.toList).toArray (g.ln r) (g.own r) g.S (by simp) rfl (fun b' e=>by rw[e2]at e;cases e;rfl) (fun _ _ h=>h)
         (fun b' o hs=>.inl hs) (fun o hs=>absurd hs (e7 o)) (fun hg HH EJ=>by
          obtain⟨u1,u2,u3,u4⟩:=Bz g r (g.ρ r) (g.ln r) (g.tk r) (g.own r) g.S;refine⟨u3.trans t1,u2.trans (by rw[CR];exact l1),pH,.inr ⟨b,cap,E,_,?_,u4.trans e2,by rw[CR];exact e3,EJ,?_,mU.mono HH (fun _ h=>h) (fun _ h=>h.elim),e7⟩⟩
          ·rw[u1,e1,CR]
          ·simp only[Ff,Fz,B3];exact e5)
        exact⟨_,_,_,CM,hk,k1,k2⟩
    ·exact hk.elim
   ·exact hk.elim
  ·exact hk.elim
end
theorem cE{α:Type}(c vs:List α)(h:vs.length=c.length):over c 0 vs=vs:=by
 rw[ME _ _ _ (by omega)];simp[h]
theorem Hz{α:Type}[Inhabited α](n:Nat)(z:List α)(hz:z≠[]):(List.replicate n z).flatten=(List.range (n*z.length)).map fun k=>z[k % z.length]!:=by
 have hl:∀c∈List.replicate n z,c.length=z.length:=fun c hc=>by rw[Ce hc]
 have Y2:0<z.length:=MR.2 hz;apply Cz;intro k
 by_cases hk:k<n*z.length
 ·have od:k=k / z.length*z.length+k % z.length:=by rw[Nat.mul_comm];exact(Uj k _).symm
  have Xt:k % z.length<z.length:=Nat.mod_lt _ Y2;have hi:k / z.length<n:=(Lc Y2).2 hk;have f1:=E4 hl (i:=k / z.length) (c:=z) (by rw[List.getElem?_replicate,Aw hi]) Xt;rw[←od]at f1;rw[f1];simp[hk,Xt]
 ·rw[A4 (by rw[Df hl,Cq];omega),A4 (by simp;omega)]
section
variable {P:Program}{w0:World}{g0:Gh}{h0 h:Nat→HO}{g:Gh}{w:World}(hI:DG w0 g0 h0 h g w)
include hI
theorem Xc{n sz:Nat}{t:Nat→AV}{ρ:Operand→Value}(ht:∀x:Operand,BG g w (AR h) (ev t x) (ρ x)) :
  ∀{ps:List (Nat×Operand)} {es:List (List AV)} {xs:Array Value} {K:List (List AV)→Prop},es.length=n→(∀c∈es,c.length=sz)→CC g w Fi es.flatten xs.toList→Qw n sz h es t ps K →
   ∃Ft Vs,K Ft∧Ft.length=n∧(∀c∈Ft,c.length=sz)∧CC g w Fi Ft.flatten Vs.toList∧Instr.fill (fun i=>some (i*sz,sz)) xs (ps.map fun(i,x)=>(i,ρ x))=some Vs
 | [],es,xs,K,hn,hl,h,hk=>⟨es,xs,hk,hn,hl,h,rfl⟩
 |(i,x)::ps,es,xs,K,hn,hl,h,hk=>by
  unfold Qw at hk;split at hk
  ·rename_i hi;have hi:i<n:=HF hi;have h5:=Mn (ht x) hk
   clear hk
   obtain⟨TV,hk,mS,hr⟩:=h5;have EB:(ρ x).cells.size=sz:=by rw[←mS];simpa using hr.1
   have WB:=O0 hI hr;obtain⟨c,hc⟩:∃c,es[i]?=some c:=⟨_,Ay (by omega)⟩;have hcl:=hl c (Av hc);have Hc:i*sz+sz≤es.flatten.length:=by
    rw[Df hl,hn]
    have:=Bg sz (show i+1≤n from hi)
    rwa [DU]at this
   have hfl:=LL hl hc 0 (TV.map (str ‹Nat→HO›)) (by rw[A9,mS];omega);rw[cE _ _ (by rw[A9,mS,hcl]),Dx]at hfl;have EJ:=h.over WB (i*sz) (by rw[A9,mS];exact Hc);have iH:xs.size=es.flatten.length:=by have:=h.1;rwa [B3]at this
   have e:=Nt (ρ x).cells.toList 0 (i*sz) xs (by rw[B3];omega);simp only[Dx]at e;rw[←e,←hfl]at EJ;obtain⟨Ft,Vs,k1,k2,k3,k4,k5⟩:=Xc ht (es:=es.set i (TV.map (str _))) (by rw[CR];exact hn) (fun c' nZ=>by
    rcases IA nZ with nZ | rfl
    ·exact hl c' nZ
    ·rw[A9];exact mS) EJ hk
   refine⟨Ft,Vs,k1,k2,k3,k4,?_⟩;simp only[AP,Instr.fill];have e2:(ρ x).cells.zipIdx.foldl (fun cs (c,j)=>cs.setIfInBounds (i*sz+j) c) xs=((ρ x).cells.toList.zipIdx 0).foldl (fun(cs:Array Value) (p:Value×Nat)=>cs.setIfInBounds (i*sz+p.2) p.1) xs:=by
    rw[←Array.foldl_toList];simp
   rw[Ak (by simp[EB];omega),e2];exact k5
  ·exact hk.elim
theorem RP{cx:Cx}(hT:Cw P cx.T){d:Option Nat}{ty n:Nat}{t:Nat→AV}{ρ:Operand→Value}{K:HK}(ht:∀x:Operand,BG g w (AR h) (ev t x) (ρ x)){ps:Array (Nat×Operand)}
  (hk:Ig cx d h ty n t ps.toList K):NV P w0 g0 h0 h g w (Instr.buildSlice ty n (ps.map fun(i,x)=>(i,ρ x))) K:=by
 unfold Ig at hk;split at hk
 ·rename_i e hs;split at hk
  ·rename_i Rb MN;have MN:=AL MN;split at hk
   ·exact hk.elim
   ·rename_i m hm;split at hk
    ·rename_i Hc;have Hc:=HF Hc;have m6:(cx.T e).zc≠[]:=fun e0=>by rw[e0]at MN;rw[hm]at MN;cases MN
     have rO:∀c∈List.replicate n ((cx.T e).zc.map AV.v),c.length=(cx.T e).size:=fun c hc=>by rw[Ce hc,A9];exact MN
     have pY:CC g w Fi (List.replicate n ((cx.T e).zc.map AV.v)).flatten ((Array.range (n*(cx.T e).size)).map fun k=>(cx.T e).zc.toArray[k % (cx.T e).zc.toArray.size]!).toList:=by
      have e1:((Array.range (n*(cx.T e).size)).map fun k=>(cx.T e).zc.toArray[k % (cx.T e).zc.toArray.size]!).toList=(List.replicate n (cx.T e).zc).flatten:=by
       rw[Hz n _ m6];simp[MN]
      have e2:(List.replicate n ((cx.T e).zc.map AV.v)).flatten=(List.replicate n (cx.T e).zc).flatten.map AV.v:=by
       rw[RD,List.map_replicate]
      rw[e1,e2];refine CC.vals ?_;have FM:∀l:List AV,(∀a∈l,one a=true)→GP l=true:=by
       intro l
       induction l with
       |nil=>intro _;rfl
       |cons a l ih=>intro h;simp[GP,h a (List.mem_cons_self ..),ih (fun b hb=>h b (List.mem_cons_of_mem _ hb))]
      refine FM _ (fun a ha=>?_);obtain⟨x,hx,rfl⟩:=Am.1 ha;obtain⟨l,hl,hx⟩:=El.1 hx;rw[Ce hl]at hx;exact Mi Rb _ (Am.2 ⟨x,hx,rfl⟩)
     obtain⟨Ft,Vs,k1,k2,k3,k4,k5⟩:=Xc hI ht (by rw[Cq]) rO pY hk;have iH:Vs.size=n*(cx.T e).size:=by
      have:=k4.1
      rw[B3,Df k3,k2]at this;exact this
     obtain⟨g',av,h',q1,q2,q3,q4⟩:=JG hI k1 (vs:=Vs) (cap:=n) e k3 (by omega) iH (by
      rw[k2,AT (by rw[B3,iH];exact Aj _)];exact k4) w ⟨rfl,rfl,rfl,rfl⟩
     rw[k2]at q4;refine⟨_,_,g',av,h',?_,q1,q2,q3,q4⟩;obtain⟨z,z1,z2⟩:=Vu hT (w:=w) hm;have EB:=hT.size1 w hm;have e3:(Array.map (fun x:Nat×Operand=>match x with | (i,x)=>(i,ρ x)) ps).toList=ps.toList.map fun(i,x)=>(i,ρ x):=by simp
     have ub:¬(n*(m+1)>2 ^ 24):=by rw[hm]at Hc;have Hc:n*(m+1)≤16777216:=Hc;omega
     simp only[Instr.buildSlice,Sem.run_bind,run_underlying (hT.slice hs),Result.andThen_ok,EB,Ak ub];rw[e3];rw[hm]at k5
     by_cases h0:n*(m+1)=0
     ·have rQ:n=0:=by
       rcases Nat.mul_eq_zero.1 h0 with h | h
       ·exact h
       ·cases h
      subst rQ;have er:Array.range 0=#[]:=rfl;simp only[Ka,er,List.map_toArray,EW]at k5;simp only[Ka,QD,er,List.map_toArray,EW,k5];simp[newRow]
     ·rw[z2]at k5;simp only[Array.toArray_toList]at k5;simp only[Ak h0,Sem.run_bind,z1,Result.andThen_ok,Sem.run_pure,k5];simp[newRow]
    ·exact hk.elim
  ·exact hk.elim
 ·exact hk.elim
end
theorem FF{sz:Nat}:∀{es:List (List AV)},Do sz es→∀c∈es,c.length=sz
 | [],_,c,h=>by cases h
 |d::es,h,c,hc=>by
  rcases Au.1 hc with rfl | hc
  ·exact h.1
  ·exact FF h.2 c hc
def N0(w:World)(x:Value)(n sz:Nat)(news:List Value):Prop :=
 news.length=n*sz∧(∀v∈news,v.oneCell'=true)∧∃(a:Option Addr) (c:Nat),x=.slice a n c∧(n=0∨∃b:Addr,a=some b∧∀j u,news[j]?=some u→w.cell? (b.add j)=some u)
theorem N0.of_rep{g:Gh}{w:World}{U:Nat→Prop}{es:List (List AV)}{sz:Nat}{x:Value}(h:BG g w U (.slice .none es) x)(hl:∀c∈es,c.length=sz) :
  ∃news,N0 w x es.length sz news∧CC g w Fi es.flatten news:=by
 cases h with
 |snil _ a cap=>exact⟨[],⟨by simp,by simp,a,cap,rfl,.inl rfl⟩,by simp,by simp,fun i av x h1 h2=>by simp at h2⟩
 |slice _ _ b off Gf cap val hc PD DB Ea =>
  have hf:=Df hl;have key:∀j,j<es.length*sz→∃cs,es[j / sz]?=some cs∧es.flatten[j]?=cs[j % sz]?∧j % sz<cs.length∧Gf=sz∧j=j / sz*sz+j % sz:=by
   intro j hj;have Y2:0<sz:=Nat.pos_of_ne_zero (fun e=>by rw[e]at hj;omega);have od:j=j / sz*sz+j % sz:=by rw[Nat.mul_comm];exact(Uj j sz).symm
   have hi:j / sz<es.length:=(Lc Y2).2 hj;have Xt:j % sz<sz:=Nat.mod_lt _ Y2;have h1:es[j / sz]?=some es[j / sz]:=Ay hi;have h2:=E4 hl h1 Xt;rw[←od]at h2;have h3:=hl _ (Aq hi);exact⟨_,h1,h2,by rw[h3];exact Xt,by rw[←h3];exact(PD _ _ h1).symm,od⟩
  have V2:∀j,j<es.length*sz→∃av,es.flatten[j]?=some av∧w.cell? ⟨b,off+j,none⟩=some (val (j / sz) (j % sz))∧(val (j / sz) (j % sz)).oneCell'=true∧BG g w Fi av (val (j / sz) (j % sz)):=by
   intro j hj;obtain⟨cs,k1,k2,k3,rfl,k5⟩:=key j hj;have eZ:cs[j % Gf]?=some cs[j % Gf]:=Ay k3;obtain⟨_,c2,c3⟩:=DB _ _ _ _ k1 eZ;rw[Gi,←k5]at c2;exact⟨_,k2.trans eZ,c2,c3,Ea _ _ _ _ k1 eZ⟩
  refine⟨(List.range (es.length*sz)).map fun j=>val (j / sz) (j % sz),⟨by simp,fun v hv=>?_,some ⟨b,off,none⟩,cap,rfl,.inr ⟨_,rfl,fun j u hu=>?_⟩⟩,by rw[hf];simp,fun v hv=>?_,fun i av x h1 h2=>?_⟩
  ·obtain⟨j,hj,rfl⟩:=Am.1 hv;obtain⟨_,_,_,c,_⟩:=V2 j (List.mem_range.1 hj);exact c
  ·obtain⟨hj,rfl⟩:=GK hu;rw[Addr.add_lit];exact(V2 j hj).choose_spec.2.1
  ·obtain⟨j,hj,rfl⟩:=Am.1 hv;obtain⟨_,_,_,c,_⟩:=V2 j (List.mem_range.1 hj);exact c
  ·obtain⟨hj,rfl⟩:=GK h2;obtain⟨oO,c1,_,_,c4⟩:=V2 i hj;rw[h1]at c1;cases c1;exact c4
section
variable {P:Program}{T:Gj}(hT:Cw P T)
include hT
theorem Hh{e n:Nat}(hs:(T e).size=n+1):∃i z,P.info? e=some i∧i.zero=some z∧i.size=(T e).size∧i.bytes=(T e).bytes∧(T e).zc=z.cells.toList:=by
 rcases hT e with h | h
 ·rw[h]at hs;cases hs
 unfold db at h;split at h
 ·split at h
  ·rename_i d i h1 h2 _ z h3;exact⟨i,z,h2,h3,by rw[h],by rw[h],by rw[TI.zc_cells,h]⟩
  ·rw[h]at hs;cases hs
 ·rw[h]at hs;cases hs
theorem Iy(w:World){t e ty k:Nat}(ht:(T t).d=.slice e)(hk:(T e).size=k+1)(a a' : Option Addr)(n cap c:Nat)(hc:n≤cap) :
  (Builtin.append_ #[t,t] ty #[.slice a n cap,.slice a' 0 c]).run P w=.ok (.slice a n cap) w:=by
 have hu:=hT.slice ht;cases a<;>cases a'<;>simp[Builtin.append_,run_underlying hu,hT.size1 w hk,Builtin.lenOf,hc,Builtin.firstCells,loadCells,loadCellsFrom,storeCells]
theorem HB(w:World){t e ty k:Nat}(ht:(T t).d=.slice e)(hk:(T e).size=k+1)(hz:(T e).zc.length=(T e).size){s x:Value}{n m cap c:Nat}{olds news:List Value}{a a' : Option Addr}
  (zF:N0 w s n (T e).size olds) (hs:s=.slice a n cap) (Oz:a=none→cap=0) (uv:N0 w x m (T e).size news) (hx:x=.slice a' m c) (hm:0<m) (hg:cap<n+m) (hb:(n+m)*(T e).bytes≤140737488355328) (h63:n+m≤9223372036854775807) :
  ∃nc rest,(Builtin.append_ #[t,t] ty #[s,x]).run P w=.ok (.slice (some ⟨w.heap.size,0,none⟩) (n+m) nc) (w.drew.alloc (.cells (olds++news++rest).toArray e (0,0)))∧n+m≤nc ∧
   (olds++news++rest).length=nc*(T e).size:=by
 obtain⟨i,z,i1,i2,i3,i4,i5⟩:=Hh hT hk;have hu:=hT.slice ht;obtain⟨n1,n2,a1,c1,n3,n4⟩:=uv;subst hx;cases n3;rcases n4 with h | ⟨b,rfl,IF⟩
 ·omega
 ·have MN:z.cells.size=(T e).size:=by rw[←hz,i5];simp
  have lh:∀(nc:Nat) (pre:List Value),pre.length=(n+m)*(T e).size→n+m≤nc→(pre++(Builtin.zeroCells z.cells (nc-(n+m))).toList).length=nc*(T e).size:=by
   intro nc pre hp Hc;have e1:(Builtin.zeroCells z.cells (nc-(n+m))).toList.length=(nc-(n+m))*(T e).size:=by simp only[B3,size_zeroCells,MN]
   rw[Ad,e1,hp,←E3]
   congr 1;omega
  obtain⟨o1,o2,a2,c2,o3,o4⟩:=zF;subst hs;cases o3;cases a with
  |none =>
   obtain rfl:=Oz rfl;have rQ:n=0:=by
    rcases o4 with h | ⟨b',h,_⟩
    ·exact h
    ·cases h
   subst rQ;have ho:olds=[]:=AB (by simpa using o1);subst ho;have hr:=run_append_nil (P:=P) w t ty e i z hu i1 i2 b m c news (by rw[i3];exact n1) IF hm (by omega) (by rw[i4];rw[Bi]at hb;omega);refine⟨grownCap w m 0 e,(Builtin.zeroCells z.cells (grownCap w m 0 e-m)).toList,?_,by rw[Bi];exact grownCap_ge w m 0 e,?_⟩
   ·rw[hr,Bi]
    congr 3
    apply NT;simp
   ·have:=lh (grownCap w m 0 e) news (by rw[Bi];exact n1) (by rw[Bi];exact grownCap_ge w m 0 e)
    rw[Bi]at this;simpa using this
  |some b' =>
   have Gv:∀j u,olds[j]?=some u→w.cell? (b'.add j)=some u:=by
    rcases o4 with h | ⟨b2,h,h'⟩
    ·intro j u hj;rw[h,Ka]at o1
     have:olds=[]:=AB o1
     rw[this]at hj;simp at hj
    ·cases h;exact h'
   have hr:=run_append_grow (P:=P) w t ty e i z hu i1 i2 b' n cap olds (by rw[i3];exact o1) Gv b m c news (by rw[i3];exact n1) IF hg (by omega) (by rw[i4];exact growslice_fits hg hb);refine⟨grownCap w (n+m) cap e,(Builtin.zeroCells z.cells (grownCap w (n+m) cap e-(n+m))).toList,?_,grownCap_ge w (n+m) cap e,lh _ _ (by rw[Ad,o1,n1,←E3]) (grownCap_ge w (n+m) cap e)⟩;rw[hr]
   congr 3
   apply NT;simp
end
end Go.Eng
