/- Lemmas for the claims of this seat, without a condition: part 8 (EngN, EngO, EngP, EngQ). -/
import Derived.Test.YtkmnnpmneamgoaaGreatDoorA07
namespace Go.Eng

def Oo(P:Program)(w0:World)(g0:Gh)(h0 h:Nat→HO)(g:Gh)(w:World)(m:Sem Value)(K:HK):Prop :=
 ∃x w' g' av h',m.run P w=.ok x w'∧K av h'∧DF w0 g0 h0 h' g' w'∧Le h g w h' g' w'∧BK g' w' (AM h') av x
def fe(P:Program)(w0:World)(g0:Gh)(h0 h:Nat→HO)(g:Gh)(w:World)(m:Sem Unit)(K:HK):Prop :=
 ∃w' g' h',m.run P w=.ok () w'∧K (.v undef) h'∧DF w0 g0 h0 h' g' w'∧Le h g w h' g' w'

section
variable {P:Program}{w0:World}{g0:Gh}{h0 h:Nat→HO}{g:Gh}{w:World}(hI:DF w0 g0 h0 h g w)
include hI

theorem B2.does{m:Sem Value}{K:HK}(hg:B2 P h g w m (fun v=>K v h)):Oo P w0 g0 h0 h g w m K :=
 let ⟨x,av,h1,h2,h3⟩:=hg
 ⟨x,w,g,av,h,h1,h2,hI,.refl _ _ _,h3⟩


theorem DF.newOwn{d:Nat}(hd:h d=.free)(o' : HO)(ob:Obj)(x:Value)(n:Nat)(t:Bool)(w1:World)(K9:w1.heap=w.heap∧w1.os=w.os∧w1.tape=w.tape∧w1.output=w.output)(DB:o'≠.free)
  (JA:Ke g (g.upd d x n t (some w.heap.size) g.S) (AM h)→E5 g w (g.upd d x n t (some w.heap.size) g.S) (w1.alloc ob) →
   Ej (g.upd d x n t (some w.heap.size) g.S) (w1.alloc ob) (AM (AZ h d o')) d o') :
  DF w0 g0 h0 (AZ h d o') (g.upd d x n t (some w.heap.size) g.S) (w1.alloc ob)∧Le h g w (AZ h d o') (g.upd d x n t (some w.heap.size) g.S) (w1.alloc ob):=by
 refine hI.upd d o' x n t _ _ _ none ⟨K9.2.1,K9.2.2.1,K9.2.2.2,by rw[World.size_alloc,K9.1];omega⟩ (fun k hk _=>?_) (fun b e=>by cases e) (fun _ _ h=>h) (fun _ _ h=>.inl h) (fun b o e=>by cases e)
  (fun b _ e=>?_) DB (fun hu=>absurd hd hu) JA
 ·rw[heap_alloc_old _ _ (by rw[K9.1];exact hk),K9.1]
 ·cases e;rw[World.size_alloc,K9.1];exact⟨by omega,.inr (Ao _)⟩

def Gh.more(g:Gh)(b n:Nat):Nat→Nat→Prop:=fun b' o=>g.S b' o∨(b'=b∧o<n)
theorem DF.newStable{d:Nat}(hd:h d=.free)(o' : HO)(vs:Array Value)(E:TypeId)(m:Nat)(x:Value)(n:Nat)(t:Bool)(w1:World)(K9:w1.heap=w.heap∧w1.os=w.os∧w1.tape=w.tape∧w1.output=w.output)(DB:o'≠.free)
  (JA:Ke g (g.upd d x n t none (g.more w.heap.size m)) (AM h)→E5 g w (g.upd d x n t none (g.more w.heap.size m)) (w1.alloc (.cells vs E (0,0))) →
   Ej (g.upd d x n t none (g.more w.heap.size m)) (w1.alloc (.cells vs E (0,0))) (AM (AZ h d o')) d o') :
  DF w0 g0 h0 (AZ h d o') (g.upd d x n t none (g.more w.heap.size m)) (w1.alloc (.cells vs E (0,0))) ∧
   Le h g w (AZ h d o') (g.upd d x n t none (g.more w.heap.size m)) (w1.alloc (.cells vs E (0,0))):=by
 refine hI.upd d o' x n t _ _ _ none ⟨K9.2.1,K9.2.2.1,K9.2.2.2,by rw[World.size_alloc,K9.1];omega⟩ (fun k hk _=>?_) (fun b e=>by cases e) (fun _ _ h=>.inl h) (fun b o hb=>?_) (fun b o e=>by cases e)
  (fun b _ e=>by cases e) DB (fun hu=>absurd hd hu) JA
 ·rw[heap_alloc_old _ _ (by rw[K9.1];exact hk),K9.1]
 ·rcases hb with hb | ⟨rfl,_⟩
  ·exact .inl hb
  ·exact .inr ⟨by rw[World.size_alloc,K9.1];omega,.inl (Ao _)⟩
end

theorem BU(g:Gh)(r:Nat)(x:Value)(n:Nat)(t:Bool)(o:Option Nat)(S:Nat→Nat→Prop) :
  (g.upd r x n t o S).ρ r=x∧(g.upd r x n t o S).ln r=n∧(g.upd r x n t o S).tk r=t∧(g.upd r x n t o S).own r=o:=by simp[Gh.upd]
theorem HM(w:World)(o:Obj){b:Nat}(hb:b=w.heap.size):(w.alloc o).heap[b]?=some o:=by subst hb;exact heap_alloc_new w o

theorem BK.cptr_row{g:Gh}{w:World}{U:Nat→Prop}{b:Nat}{cs:List AV}{vs:Array Value}{E:TypeId}{f:Nat×Nat}(hb:w.heap[b]?=some (.cells vs E f))(hr:CY g w Fp cs vs.toList)
  (hS:∀o,o<cs.length→g.S b o):BK g w U (.cptr cs) (.pointer (some ⟨b,0,none⟩)):=by
 refine .cptr U cs b 0 (fun j=>vs[j]?.getD default) (fun j av hj=>?_) (fun j av hj=>?_)
 ·obtain⟨x,x1,x2,x3⟩:=hr.at hj;rw[AO]at x1;refine⟨hS _ (by rw[Be];exact(Aw.1 hj).1),?_,?_⟩
  ·rw[Gb hb,Be,x1];rfl
  ·rw[x1];exact x2
 ·obtain⟨x,x1,x2,x3⟩:=hr.at hj;rw[AO]at x1;rw[x1];exact x3
theorem BK.slice_off{g:Gh}{w:World}{U:Nat→Prop}{b off sz cap:Nat}{es:List (List AV)}{vs:Array Value}{E:TypeId}{f:Nat×Nat}(hb:w.heap[b]?=some (.cells vs E f))(hl:∀cs∈es,cs.length=sz)
  (hc:es.length≤cap) (hr:CY g w Fp es.flatten ((vs.toList.drop off).take (es.length*sz))) (hS:∀o,o<es.length*sz→g.S b (off+o)):BK g w U (.slice .none es) (.slice (some ⟨b,off,none⟩) es.length cap):=by
 have key:∀(i:Nat) (cs:List AV) (j:Nat) (av:AV),es[i]?=some cs→cs[j]?=some av→∃x,vs[off+(i*sz+j)]?=some x∧x.oneCell'=true∧BK g w Fp av x∧i*sz+j<es.length*sz:=by
  intro i cs j av h1 h2;have hcl:=hl cs (AA h1);have hj:j<sz:=by rw[←hcl];exact(Aw.1 h2).1
  have hi:=(Aw.1 h1).1;have Dy:i*sz+j<es.length*sz:=by
   have:=Bi sz (show i+1≤es.length from hi)
   rw[D8]at this;omega
  have hf:=Fv hl h1 hj;rw[h2]at hf;obtain⟨x,x1,x2,x3⟩:=hr.at hf;rw[B7 Dy,DI,AO]at x1;exact⟨x,x1,x2,x3,Dy⟩
 refine .slice U es b off sz cap (fun i j=>vs[off+(i*sz+j)]?.getD default) hc (fun i cs h=>hl cs (AA h)) (fun i cs j av h1 h2=>?_) (fun i cs j av h1 h2=>?_)
 ·obtain⟨x,x1,x2,x3,x4⟩:=key i cs j av h1 h2;rw[GJ];refine⟨hS _ x4,?_,?_⟩
  ·rw[Gb hb,x1];rfl
  ·rw[x1];exact x2
 ·obtain⟨x,x1,x2,x3,x4⟩:=key i cs j av h1 h2;rw[x1];exact x3
theorem BK.slice_row{g:Gh}{w:World}{U:Nat→Prop}{b sz cap:Nat}{es:List (List AV)}{vs:Array Value}{E:TypeId}{f:Nat×Nat}(hb:w.heap[b]?=some (.cells vs E f))(hl:∀cs∈es,cs.length=sz)
  (hc:es.length≤cap) (hr:CY g w Fp es.flatten (vs.toList.take (es.length*sz))) (hS:∀o,o<es.length*sz→g.S b o):BK g w U (.slice .none es) (.slice (some ⟨b,0,none⟩) es.length cap):=by
 have key:∀(i:Nat) (cs:List AV) (j:Nat) (av:AV),es[i]?=some cs→cs[j]?=some av→∃x,vs[i*sz+j]?=some x∧x.oneCell'=true∧BK g w Fp av x∧i*sz+j<es.length*sz:=by
  intro i cs j av h1 h2;have hcl:=hl cs (AA h1);have hj:j<sz:=by rw[←hcl];exact(Aw.1 h2).1
  have hi:=(Aw.1 h1).1;have Dy:i*sz+j<es.length*sz:=by
   have:=Bi sz (show i+1≤es.length from hi)
   rw[D8]at this;omega
  have hf:=Fv hl h1 hj;rw[h2]at hf;obtain⟨x,x1,x2,x3⟩:=hr.at hf;rw[B7 Dy,AO]at x1;exact⟨x,x1,x2,x3,Dy⟩
 refine .slice U es b 0 sz cap (fun i j=>vs[i*sz+j]?.getD default) hc (fun i cs h=>hl cs (AA h)) (fun i cs j av h1 h2=>?_) (fun i cs j av h1 h2=>?_)
 ·obtain⟨x,x1,x2,x3,x4⟩:=key i cs j av h1 h2;rw[Be];refine⟨hS _ x4,?_,?_⟩
  ·rw[Gb hb,x1];rfl
  ·rw[x1];exact x2
 ·obtain⟨x,x1,x2,x3,x4⟩:=key i cs j av h1 h2;rw[x1];exact x3

section
variable {P:Program}{w0:World}{g0:Gh}{h0 h:Nat→HO}{g:Gh}{w:World}

theorem Rk(hI:DF w0 g0 h0 h g w){d:Nat}(hd:h d=.free){cs:List AV}{vs:Array Value}(E:TypeId)(hr:CY g w (AM h) cs vs.toList) :
  ∃g',DF w0 g0 h0 (AZ h d (.cells cs)) g' (w.alloc (.cells vs E (0,0)))∧Le h g w (AZ h d (.cells cs)) g' (w.alloc (.cells vs E (0,0))) ∧
   BK g' (w.alloc (.cells vs E (0,0))) (AM (AZ h d (.cells cs))) (.ref d 0) (.pointer (some ⟨w.heap.size,0,none⟩)):=by
 obtain⟨k1,k2⟩:=hI.newOwn hd (.cells cs) (.cells vs E (0,0)) (.pointer (some ⟨w.heap.size,0,none⟩)) 0 false w ⟨rfl,rfl,rfl,rfl⟩ (by simp) (fun hg hk=>by
  obtain⟨u1,u2,u3,u4⟩:=BU g d (.pointer (some ⟨w.heap.size,0,none⟩)) 0 false (some w.heap.size) g.S;exact⟨u3,w.heap.size,E,vs,u4,u1,HM w _ rfl,hr.mono hk (fun i hi=>D4 (by simp) i hi) hg,fun o ho=>by have:=hI.slt _ _ ho;omega⟩)
 refine⟨_,k1,k2,.ref _ d 0 w.heap.size (by unfold AM;rw[Bg];simp) ?_ ?_⟩
 ·simp[Gh.upd]
 ·simp[Gh.upd]
theorem iI(hI:DF w0 g0 h0 h g w){d:Nat}(hd:h d=.free){cs:List AV}{vs:Array Value}(E:TypeId)(hr:CY g w Fp cs vs.toList) :
  ∃g',DF w0 g0 h0 (AZ h d (.ro cs)) g' (w.alloc (.cells vs E (0,0)))∧Le h g w (AZ h d (.ro cs)) g' (w.alloc (.cells vs E (0,0))) ∧
   BK g' (w.alloc (.cells vs E (0,0))) (AM (AZ h d (.ro cs))) (.ref d 0) (.pointer (some ⟨w.heap.size,0,none⟩)):=by
 obtain⟨k1,k2⟩:=hI.newStable hd (.ro cs) vs E cs.length (.pointer (some ⟨w.heap.size,0,none⟩)) 0 false w ⟨rfl,rfl,rfl,rfl⟩ (by simp) (fun hg hk=>by
  obtain⟨u1,u2,u3,u4⟩:=BU g d (.pointer (some ⟨w.heap.size,0,none⟩)) 0 false none (g.more w.heap.size cs.length);exact⟨u3,w.heap.size,u1,BK.cptr_row (HM w _ rfl) (hr.mono hk (fun _ h=>h) (fun _ h=>h.elim)) (fun o ho=>.inr ⟨rfl,ho⟩)⟩)
 refine⟨_,k1,k2,.ref _ d 0 w.heap.size (by unfold AM;rw[Bg];simp) ?_ ?_⟩
 ·simp[Gh.upd]
 ·simp[Gh.upd]
theorem J8(hI:DF w0 g0 h0 h g w){cx:Cx}{d:Option Nat}{sz:Nat}{es:List (List AV)}{K:HK}(hk:EL cx d h sz es K){vs:Array Value}{cap:Nat}(E:TypeId)(hl:∀cs∈es,cs.length=sz)
  (hc:es.length≤cap) (hs:vs.size=cap*sz) (hr:CY g w Fp es.flatten (vs.toList.take (es.length*sz))) (w1:World) (K9:w1.heap=w.heap∧w1.os=w.os∧w1.tape=w.tape∧w1.output=w.output) :
  ∃g' av h',K av h'∧DF w0 g0 h0 h' g' (w1.alloc (.cells vs E (0,0)))∧Le h g w h' g' (w1.alloc (.cells vs E (0,0))) ∧
   BK g' (w1.alloc (.cells vs E (0,0))) (AM h') av (.slice (some ⟨w.heap.size,0,none⟩) es.length cap):=by
 have Fx:(w1.alloc (.cells vs E (0,0))).heap[w.heap.size]?=some (.cells vs E (0,0)):=HM w1 _ (by rw[K9.1]);unfold EL at hk;split at hk
 ·exact hk.elim
 ·rename_i d;generalize KJ cx d=d1 at hk;split at hk
  ·rename_i hd;split at hk
   ·obtain⟨k1,k2⟩:=hI.newOwn hd (.arr sz es) (.cells vs E (0,0)) (.slice (some ⟨w.heap.size,0,none⟩) es.length cap) es.length true w1 K9 (by simp) (fun hg Jj=>by
     obtain⟨u1,u2,u3,u4⟩:=BU g d1 (.slice (some ⟨w.heap.size,0,none⟩) es.length cap) es.length true (some w.heap.size) g.S;exact⟨u3,u2,hl,.inr ⟨w.heap.size,cap,E,vs,u1,u4,hc,Fx,hs,hr.mono Jj (fun _ h=>h) (fun _ h=>h.elim),fun o ho=>by have:=hI.slt _ _ ho;omega⟩⟩)
    refine⟨_,_,_,hk,k1,k2,.msl _ d1 es.length _ cap (by unfold AM;rw[Bg];simp) ?_ ?_ (.inr ⟨_,rfl⟩) ?_⟩<;>simp[Gh.upd]
   ·by_cases gP:es.length=cap
    ·obtain⟨k1,k2⟩:=hI.newStable hd (.tok sz es.length) vs E (es.length*sz) (.slice (some ⟨w.heap.size,0,none⟩) es.length cap) es.length true w1 K9 (by simp) (fun hg Jj=>by
      obtain⟨u1,u2,u3,u4⟩:=BU g d1 (.slice (some ⟨w.heap.size,0,none⟩) es.length cap) es.length true none (g.more w.heap.size (es.length*sz));exact⟨u3,u2,_,cap,u1,.inl ⟨gP,u4⟩⟩)
     refine⟨_,_,_,hk,k1,k2,.tok _ d1 sz es _ (BK.slice_row Fx hl hc (hr.mono k2.keeps (fun _ h=>h) (fun _ h=>h.elim)) (fun o ho=>.inr ⟨rfl,ho⟩)) hl (by unfold AM;rw[Bg];simp) ?_ ?_ ?_⟩<;>simp[Gh.upd]
    ·have p8:=hI.upd d1 (.tok sz es.length) (.slice (some ⟨w.heap.size,0,none⟩) es.length cap) es.length true (some w.heap.size) (g.more w.heap.size (es.length*sz)) (w1.alloc (.cells vs E (0,0))) none
      ⟨K9.2.1,K9.2.2.1,K9.2.2.2,by rw[World.size_alloc,K9.1];omega⟩ (fun k LM _=>by rw[heap_alloc_old _ _ (by rw[K9.1];exact LM),K9.1]) (fun b e=>by cases e) (fun _ _ h=>.inl h)
      (fun b o hb=>by
       rcases hb with hb | ⟨rfl,_⟩
       ·exact .inl hb
       ·exact .inr ⟨by rw[World.size_alloc,K9.1];omega,.inl (Ao _)⟩) (fun b o e=>by cases e)
      (fun b _ e=>by cases e;rw[World.size_alloc,K9.1];exact⟨by omega,.inr (Ao _)⟩) (by simp) (fun hu=>absurd hd hu) (fun hg Jj=>by
       obtain⟨u1,u2,u3,u4⟩:=BU g d1 (.slice (some ⟨w.heap.size,0,none⟩) es.length cap) es.length true (some w.heap.size) (g.more w.heap.size (es.length*sz));exact⟨u3,u2,_,cap,u1,.inr ⟨hc,w.heap.size,E,vs,0,rfl,u4,Fx,by rw[hs,Be],fun o ho=>by
        rcases ho with ho | ⟨_,ho⟩
        ·have:=hI.slt _ _ ho;omega
        ·omega⟩⟩)
     obtain⟨k1,k2⟩:=p8;refine⟨_,_,_,hk,k1,k2,.tok _ d1 sz es _ (BK.slice_row Fx hl hc (hr.mono k2.keeps (fun _ h=>h) (fun _ h=>h.elim)) (fun o ho=>.inr ⟨rfl,ho⟩)) hl (by unfold AM;rw[Bg];simp) ?_ ?_ ?_⟩<;>simp[Gh.upd]
  ·exact hk.elim
end
end Go.Eng

namespace Go.Eng

theorem Sb{α:Type}:∀(cs:List α) (o:Nat) (vs:List α),o+vs.length≤cs.length→over cs o vs=cs.take o++vs++cs.drop (o+vs.length)
 | [],o,vs,h=>by
  simp at h;obtain⟨rfl,rfl⟩:=h
  rfl
 |c::cs,o+1,vs,h=>by
  rw[over,Sb cs o vs (by simp at h;omega)];simp only[I6,D7,BH,Nat.add_right_comm o 1,List.drop_succ_cons]
 |c::cs,0,[],h=>by simp[over]
 |c::cs,0,v::vs,h=>by
  rw[over,Sb cs 0 vs (by simp at h;omega)];simp
theorem dT{α:Type}(cs:List α)(o n:Nat)(vs:List α)(h:o+vs.length≤n)(hn:n≤cs.length):(over cs o vs).take n=over (cs.take n) o vs:=by
 apply Dr;intro i;rw[GG _ _ _ _ (by simp;omega)]
 by_cases hi:i<n
 ·rw[B7 hi,GG _ _ _ _ (by omega),B7 hi]
 ·rw[Aq (by omega),A6 (by rw[AG,HY];omega),A6 (by simp;omega)]
theorem QW{α:Type}{n:Nat}:∀{es:List (List α)},(∀c∈es,c.length=n)→∀{i:Nat} {c:List α},es[i]?=some c→∀(o:Nat) (vs:List α),o+vs.length≤n →
  (es.set i (over c o vs)).flatten=over es.flatten (i*n+o) vs
 | [],_,i,c,h,_,_,_=>by simp at h
 |d::es,hl,i,c,h,o,vs,HN=>by
  have hd:=hl d (Ab ..);have hfl:=EE (es:=d::es) (n:=n) hl;have Dy:=(Aw.1 h).1;have se:i*n+o+vs.length≤(d::es).flatten.length:=by
   rw[hfl]
   have:=Bi n (show i+1≤(d::es).length from Dy)
   rw[D8]at this;omega
  have hcl:=hl c (AA h);apply Dr;intro j;rw[GG _ _ _ _ se];have NX:∀e∈(d::es).set i (over c o vs),e.length=n:=fun e he=>by
   rcases PA he with he | rfl
   ·exact hl e he
   ·rw[HY];exact hcl
  by_cases hn:n=0
  ·subst hn;have h1:=EE NX;have h2:=hfl;simp only[Nat.mul_zero,List.length_eq_zero_iff]at h1 h2;rw[h1,h2]
   have:¬(i*0+o≤j∧j<i*0+o+vs.length):=by omega
   rw[Aq this]
  ·have qa:j=j / n*n+j % n:=by rw[Nat.mul_comm];exact(UR j n).symm
   have X6:j % n<n:=Nat.mod_lt _ (by omega)
   by_cases hj:j / n<(d::es).length
   ·have g1:(d::es)[j / n]?=some ((d::es)[j / n]):=AE hj;have g2:((d::es).set i (over c o vs))[j / n]?=some (if i=j / n then over c o vs else(d::es)[j / n]):=by
     rw[List.getElem?_set]
     by_cases e:i=j / n
     ·rw[Ax e,Ax (by omega),Ax e]
     ·rw[Aq e,Aq e];exact g1
    have f1:=Fv hl g1 X6;have f2:=Fv NX g2 X6;rw[←qa]at f1 f2;rw[f1,f2];split
    ·rename_i e;rw[e]at h;rw[g1]at h;cases h;rw[GG _ _ _ _ (by omega)];have e2:i*n+o≤j↔o≤j % n:=by rw[e];omega
     have e3:j<i*n+o+vs.length↔j % n<o+vs.length:=by rw[e];omega
     simp only[e2,e3];split
     ·congr 1;rw[e];omega
     ·rfl
    ·rename_i e
     have:¬(i*n+o≤j∧j<i*n+o+vs.length):=by
      rintro⟨q1,q2⟩
      apply e;have a1:i*n≤j:=by omega
      have a2:j<(i+1)*n:=by rw[D8];omega
      have:=(Nat.le_div_iff_mul_le (by omega)).2 a1
      have:=(LF (by omega)).2 a2
      omega
     rw[Aq this]
   ·have qb:(d::es).length*n≤j:=by
     have:=Nat.not_lt.1 hj
     have:=(Nat.le_div_iff_mul_le (by omega)).1 this
     exact this
    have:¬(i*n+o≤j∧j<i*n+o+vs.length):=by rw[hfl]at se;omega
    rw[Aq this,A6 (by rw[EE NX,Gu];exact qb),A6 (by rw[hfl];exact qb)]

theorem Pl{P:Program}{T:GT}(hT:Cu P T)(w:World){t b off:Nat}{x:Value}{F9:Array Value}{E:TypeId}(hd:(T t).d≠.other)(hs:x.cells.toList.length=(T t).size)
  (h1:∀v∈x.cells.toList,v.oneCell'=true) (hb:w.heap[b]?=some (.cells F9 E (0,0))) (HN:off+x.cells.toList.length≤F9.size) :
  (Instr.storeAt t (.pointer (some ⟨b,off,none⟩)) x).run P w=.ok () (w.setRow b (over F9.toList off x.cells.toList).toArray):=by
 have GD:=run_storeCells_at P b off E x.cells.toList 0 F9 w hb (by simpa using HN) h1;simp only[Hx]at GD;have Ul : x.cells.size=(T t).size:=by simpa using hs
 rw[Sb _ _ _ (by simpa using HN)];simp only[Instr.storeAt,Sem.run_bind,Instr.sureAddr,Sem.run_pure,Result.andThen_ok,storeVar,hT.size w hd,Ul,Ri,not_true_eq_false,Gc];exact GD

section
variable {P:Program}{w0:World}{g0:Gh}{h0 h:Nat→HO}{g:Gh}{w:World}(hI:DF w0 g0 h0 h g w)
include hI

theorem cc{T:GT}(hT:Cu P T){d:Option Nat}{e:Nat}{K:HK}(hk:Sq T d h e K):Oo P w0 g0 h0 h g w (Instr.alloc e true (.tuple #[])) K:=by
 unfold Sq at hk;split at hk
 ·exact hk.elim
 ·split at hk
  ·rename_i hd;split at hk
   ·exact hk.elim
   ·rename_i DB;split at hk
    ·rename_i ha;obtain⟨z,z1,z2,_⟩:=Pw hT (w:=w) DB;have hr:CY g w (AM h) ((T e).zc.map .v) z.cells.toList:=by rw[z2]at ha⊢;exact CY.vals ha
     obtain⟨g',k1,k2,k3⟩:=Rk hI hd (vs:=z.cells) e hr;refine⟨_,_,g',_,_,?_,hk,k1,k2,k3⟩;simp[Instr.alloc,z1,newVar,newRow]
    ·exact hk.elim
  ·exact hk.elim

theorem Pp{cs:List AV}{vs:List Value}(hr:CY g w (AM h) cs vs):CY g w Fp (cs.map (str h)) vs:=by
 refine⟨by rw[Bs];exact hr.1,hr.2.1,fun i av x h1 h2=>?_⟩;rw[AJ,AQ]at h1;obtain⟨a,a1,rfl⟩:=h1;exact(hr.2.2 i a x a1 h2).str hI.objs

theorem kr{cx:Cx}{d:Option Nat}{e:Nat}{x:AV}{vx:Value}{K:HK}(hx:BK g w (AM h) x vx)(hk:co cx d h e x K):Oo P w0 g0 h0 h g w (Instr.box e vx) K:=by
 unfold co at hk;split at hk
 ·exact hk.elim
 ·split at hk
  ·rename_i hd;split at hk
   ·exact hk.elim
   ·obtain⟨cs,hk,hn,hr⟩:=MM hx hk;split at hk
    ·obtain⟨g',k1,k2,k3⟩:=iI hI hd (vs:=vx.cells) e (Pp hI hr);exact⟨_,_,g',_,_,rfl,hk,k1,k2,k3⟩
    ·obtain⟨g',k1,k2,k3⟩:=Rk hI hd (vs:=vx.cells) e hr;exact⟨_,_,g',_,_,rfl,hk,k1,k2,k3⟩
  ·exact hk.elim

theorem DF.write{r b:Nat}(hl:(h r).live)(ho:g.own r=some b)(o' : HO){F9:Array Value}{E:TypeId}(hb:w.heap[b]?=some (.cells F9 E (0,0)))(new:Array Value)(n:Nat)(ow:Option Nat)(S' : Nat→Nat→Prop)
  (DB:o'≠.free) (hn:n=g.ln r) (sn:∀b',ow=some b'→b'=b) (hS:∀b o,g.S b o→S' b o) (tZ:∀b' o,S' b' o→g.S b' o∨b'=b) (sa:∀o,g.S b o→new[o]?=F9[o]?)
  (JA:Ke g (g.upd r (g.ρ r) n (g.tk r) ow S') (AM h)→E5 g w (g.upd r (g.ρ r) n (g.tk r) ow S') (w.setRow b new)→(w.setRow b new).heap[b]?=some (.cells new E (0,0)) →
   Ej (g.upd r (g.ρ r) n (g.tk r) ow S') (w.setRow b new) (AM (AZ h r o')) r o') :
  DF w0 g0 h0 (AZ h r o') (g.upd r (g.ρ r) n (g.tk r) ow S') (w.setRow b new)∧Le h g w (AZ h r o') (g.upd r (g.ρ r) n (g.tk r) ow S') (w.setRow b new):=by
 have Fx:=setRow_heap w b F9 new E (0,0) hb;have Dy:=(hI.loc r b hl ho).1
 refine hI.upd r o' _ _ _ _ _ _ (some b) ⟨rfl,rfl,rfl,by rw[size_setRow];exact Ao _⟩ (fun k hk DB=>setRow_other w b k new (fun e=>DB (by rw[e]))) (fun b' e=>by cases e;exact⟨hl,ho⟩) hS (fun b' o hs=>?_)
  (fun b' o e hs=>?_) (fun b' _ e=>?_) DB (fun _=>⟨rfl,by omega,fun _=>rfl,fun _=>rfl⟩) (fun hg hk=>JA hg hk Fx)
 ·rcases tZ b' o hs with h1 | rfl
  ·exact .inl h1
  ·exact .inr ⟨by rw[size_setRow];exact Dy,.inr ⟨hl,ho⟩⟩
 ·cases e
  refine⟨?_,fun es ck he=>by rw[hb]at he;cases he⟩;rw[Gb Fx,Gb hb];exact sa o hs
 ·obtain rfl:=sn b' e;exact⟨by rw[size_setRow];exact Dy,.inl ⟨hl,ho⟩⟩

theorem eI{cx:Cx}(hT:Cu P cx.T){t:Nat}{p x:AV}{vp vx:Value}{K:HK}(hp:BK g w (AM h) p vp)(hx:BK g w (AM h) x vx)(hk:QB cx h t p x K) :
  fe P w0 g0 h0 h g w (Instr.storeAt t vp vx) K:=by
 unfold QB at hk;split at hk
 ·exact hk.elim
 ·rename_i hd;have h5:=MM hx hk
  clear hk
  obtain⟨vs,hk,hn,hr⟩:=h5;have CW:vx.cells.toList.length=vs.length:=hr.1;split at hk
  ·rename_i r off;have ho:=hI.objs r;split at hk
   ·rename_i cs e;obtain⟨HN,hk⟩:=hk;rw[e]at ho;obtain⟨t0,b,E,F9,a1,a2,a3,a4,a5⟩:=ho;cases hp with
    |ref _ _ _ b' hu ht RB =>
     rw[a2]at RB;cases RB;have hcs:F9.toList.length=cs.length:=a4.1;have Do:=Pl hT w (t:=t) (off:=off) (x:=vx) hd (by rw[CW,hn]) hr.2.1 a3 (by rw[CW];simp at hcs;omega);have hl:(h r).live:=by rw[e];trivial
     have uf:=a4.over hr off HN;split at hk
     ·obtain⟨k1,k2⟩:=hI.write hl a1 (.ro ((over cs off vs).map (str h))) a3 (over F9.toList off vx.cells.toList).toArray (g.ln r) none (g.more b cs.length) (by simp) rfl (fun _ e=>by cases e) (fun _ _ h=>.inl h)
       (fun b' o hs=>hs.elim .inl (fun hs=>.inr hs.1)) (fun o hs=>absurd hs (a5 o)) (fun hg Jj Fx=>by
        obtain⟨u1,u2,u3,u4⟩:=BU g r (g.ρ r) (g.ln r) (g.tk r) none (g.more b cs.length);refine⟨u3.trans t0,b,u1.trans a2,BK.cptr_row Fx ?_ (fun o ho=>.inr ⟨rfl,?_⟩)⟩
        ·exact(Pp hI uf).mono Jj (fun _ h=>h) (fun _ h=>h.elim)
        ·rw[Bs,HY]at ho;exact ho)
      exact⟨_,_,_,Do,hk,k1,k2⟩
     ·obtain⟨k1,k2⟩:=hI.write hl a1 (.cells (over cs off vs)) a3 (over F9.toList off vx.cells.toList).toArray (g.ln r) (g.own r) g.S (by simp) rfl (fun b' e=>by rw[a1]at e;cases e;rfl) (fun _ _ h=>h)
       (fun b' o hs=>.inl hs) (fun o hs=>absurd hs (a5 o)) (fun hg Jj Fx=>by
        obtain⟨u1,u2,u3,u4⟩:=BU g r (g.ρ r) (g.ln r) (g.tk r) (g.own r) g.S;exact⟨u3.trans t0,b,E,_,u4.trans a1,u1.trans a2,Fx,uf.mono Jj (fun i hi=>D4 (by simp) i hi) hg,a5⟩)
      exact⟨_,_,_,Do,hk,k1,k2⟩
   ·exact hk.elim
  ·rename_i r n sz i off;have ho:=hI.objs r;split at hk
   ·rename_i GZ es e;rw[e]at ho;split at hk
    ·rename_i hz;obtain rfl:=AU hz;obtain⟨hnl,cs,hi,HN,hk⟩:=hk;obtain⟨t1,l1,al,a1⟩:=ho;have Dy:=(Aw.1 hi).1;rcases a1 with ⟨rfl,_⟩ | ⟨b,cap,E,F9,e1,e2,e3,e4,e5,e6,e7⟩
     ·simp at hi
     ·cases hp with
      |eref _ _ _ _ _ _ b' OC hu ht X7 RB =>
       have RB:=RB (hnl.trans l1.symm);rw[e1]at RB;simp only[Value.slice.injEq,Bv,Addr.mk.injEq]at RB;obtain⟨⟨rfl,_,_⟩,_,_⟩:=RB;have hcl:=al cs (AA hi);have UD:i*sz+sz≤es.length*sz:=by
        have:=Bi sz (show i+1≤es.length from Dy)
        rwa [D8]at this
       have gS:es.length*sz≤cap*sz:=Bi sz e3;have Do:=Pl hT w (t:=t) (off:=i*sz+off) (x:=vx) hd (by rw[CW,hn]) hr.2.1 e4 (by rw[CW];omega);have hl:(h r).live:=by rw[e];trivial
       have wM : ∀c∈es.set i (over cs off (vs.map (str h))),c.length=sz:=fun c hc=>by
        rcases PA hc with hc | rfl
        ·exact al c hc
        ·rw[HY];exact hcl
       have hfl:=QW al hi off (vs.map (str h)) (by rw[Bs];exact HN);have ZJ:F9.toList.length=cap*sz:=by rw[CD];exact e5
       have ng:((over F9.toList (i*sz+off) vx.cells.toList).toArray.toList.take ((es.set i (over cs off (vs.map (str h)))).length*sz))=over (F9.toList.take (es.length*sz)) (i*sz+off) vx.cells.toList:=by
        rw[Gu];exact dT _ _ _ _ (by rw[CW];omega) (by rw[ZJ];exact gS)
       have uf:CY g w Fp (es.set i (over cs off (vs.map (str h)))).flatten ((over F9.toList (i*sz+off) vx.cells.toList).toArray.toList.take ((es.set i (over cs off (vs.map (str h)))).length*sz)):=by
        rw[ng,hfl];exact e6.over (Pp hI hr) _ (by rw[Bs,EE al];omega)
       obtain⟨k1,k2⟩:=hI.write hl e2 (.arr sz (es.set i (over cs off (vs.map (str h))))) e4 (over F9.toList (i*sz+off) vx.cells.toList).toArray (g.ln r) (g.own r) g.S (by simp) rfl (fun b' e=>by rw[e2]at e;cases e;rfl) (fun _ _ h=>h)
        (fun b' o hs=>.inl hs) (fun o hs=>absurd hs (e7 o)) (fun hg Jj Fx=>by
         obtain⟨u1,u2,u3,u4⟩:=BU g r (g.ρ r) (g.ln r) (g.tk r) (g.own r) g.S;refine⟨u3.trans t1,u2.trans (by rw[Gu];exact l1),wM,.inr ⟨b,cap,E,_,?_,u4.trans e2,by rw[Gu];exact e3,Fx,?_,uf.mono Jj (fun _ h=>h) (fun _ h=>h.elim),e7⟩⟩
         ·rw[u1,e1,Gu]
         ·simp only[H9,HY,CD];exact e5)
       exact⟨_,_,_,Do,hk,k1,k2⟩
    ·exact hk.elim
   ·exact hk.elim
  ·exact hk.elim
end
end Go.Eng

namespace Go.Eng

theorem dS{α:Type}(c vs:List α)(h:vs.length=c.length):over c 0 vs=vs:=by
 rw[Sb _ _ _ (by omega)];simp[h]
theorem Ka{α:Type}[Inhabited α](n:Nat)(z:List α)(hz:z≠[]):(List.replicate n z).flatten=(List.range (n*z.length)).map fun k=>z[k % z.length]!:=by
 have hl:∀c∈List.replicate n z,c.length=z.length:=fun c hc=>by rw[Em hc]
 have ZP:0<z.length:=GX.2 hz;apply Dr;intro k
 by_cases hk:k<n*z.length
 ·have qa:k=k / z.length*z.length+k % z.length:=by rw[Nat.mul_comm];exact(UR k _).symm
  have X6:k % z.length<z.length:=Nat.mod_lt _ ZP;have hi:k / z.length<n:=(LF ZP).2 hk;have f1:=Fv hl (i:=k / z.length) (c:=z) (by rw[List.getElem?_replicate,Ax hi]) X6;rw[←qa]at f1;rw[f1];simp[hk,X6]
 ·rw[A6 (by rw[EE hl,Gd];omega),A6 (by simp;omega)]

section
variable {P:Program}{w0:World}{g0:Gh}{h0 h:Nat→HO}{g:Gh}{w:World}(hI:DF w0 g0 h0 h g w)
include hI

theorem XG{n sz:Nat}{t:Nat→AV}{ρ:Operand→Value}(ht:∀x:Operand,BK g w (AM h) (ev t x) (ρ x)) :
  ∀{ps:List (Nat×Operand)} {es:List (List AV)} {xs:Array Value} {K:List (List AV)→Prop},es.length=n→(∀c∈es,c.length=sz)→CY g w Fp es.flatten xs.toList→QU n sz h es t ps K →
   ∃ET V4,K ET∧ET.length=n∧(∀c∈ET,c.length=sz)∧CY g w Fp ET.flatten V4.toList∧Instr.fill (fun i=>some (i*sz,sz)) xs (ps.map fun(i,x)=>(i,ρ x))=some V4
 | [],es,xs,K,hn,hl,h,hk=>⟨es,xs,hk,hn,hl,h,rfl⟩
 |(i,x)::ps,es,xs,K,hn,hl,h,hk=>by
  unfold QU at hk;split at hk
  ·rename_i hi;have hi:i<n:=Gf hi;have h5:=MM (ht x) hk
   clear hk
   obtain⟨Ut,hk,oV,hr⟩:=h5;have En:(ρ x).cells.size=sz:=by rw[←oV];simpa using hr.1
   have Um:=Pp hI hr;obtain⟨c,hc⟩:∃c,es[i]?=some c:=⟨_,AE (by omega)⟩;have hcl:=hl c (AA hc);have HN:i*sz+sz≤es.flatten.length:=by
    rw[EE hl,hn]
    have:=Bi sz (show i+1≤n from hi)
    rwa [D8]at this
   have hfl:=QW hl hc 0 (Ut.map (str ‹Nat→HO›)) (by rw[Bs,oV];omega);rw[dS _ _ (by rw[Bs,oV,hcl]),Hx]at hfl;have Fx:=h.over Um (i*sz) (by rw[Bs,oV];exact HN);have j8:xs.size=es.flatten.length:=by have:=h.1;rwa [CD]at this
   have e:=NT (ρ x).cells.toList 0 (i*sz) xs (by rw[CD];omega);simp only[Hx]at e;rw[←e,←hfl]at Fx;obtain⟨ET,V4,k1,k2,k3,k4,k5⟩:=XG ht (es:=es.set i (Ut.map (str _))) (by rw[Gu];exact hn) (fun c' oG=>by
    rcases PA oG with oG | rfl
    ·exact hl c' oG
    ·rw[Bs];exact oV) Fx hk
   refine⟨ET,V4,k1,k2,k3,k4,?_⟩;simp only[AN,Instr.fill];have e2:(ρ x).cells.zipIdx.foldl (fun cs (c,j)=>cs.setIfInBounds (i*sz+j) c) xs=((ρ x).cells.toList.zipIdx 0).foldl (fun(cs:Array Value) (p:Value×Nat)=>cs.setIfInBounds (i*sz+p.2) p.1) xs:=by
    rw[←Om];simp
   rw[Aq (by simp[En];omega),e2];exact k5
  ·exact hk.elim

theorem Sz{cx:Cx}(hT:Cu P cx.T){d:Option Nat}{ty n:Nat}{t:Nat→AV}{ρ:Operand→Value}{K:HK}(ht:∀x:Operand,BK g w (AM h) (ev t x) (ρ x)){ps:Array (Nat×Operand)}
  (hk:Iz cx d h ty n t ps.toList K):Oo P w0 g0 h0 h g w (Instr.buildSlice ty n (ps.map fun(i,x)=>(i,ρ x))) K:=by
 unfold Iz at hk;split at hk
 ·rename_i e hs;split at hk
  ·rename_i UE UF;have UF:=AU UF;split at hk
   ·exact hk.elim
   ·rename_i m hm;split at hk
    ·rename_i HN;have HN:=Gf HN;have sF:(cx.T e).zc≠[]:=fun e0=>by rw[e0]at UF;rw[hm]at UF;cases UF
     have m5:∀c∈List.replicate n ((cx.T e).zc.map AV.v),c.length=(cx.T e).size:=fun c hc=>by rw[Em hc,Bs];exact UF
     have r7:CY g w Fp (List.replicate n ((cx.T e).zc.map AV.v)).flatten ((Array.range (n*(cx.T e).size)).map fun k=>(cx.T e).zc.toArray[k % (cx.T e).zc.toArray.size]!).toList:=by
      have e1:((Array.range (n*(cx.T e).size)).map fun k=>(cx.T e).zc.toArray[k % (cx.T e).zc.toArray.size]!).toList=(List.replicate n (cx.T e).zc).flatten:=by
       rw[Ka n _ sF];simp[UF]
      have e2:(List.replicate n ((cx.T e).zc.map AV.v)).flatten=(List.replicate n (cx.T e).zc).flatten.map AV.v:=by
       rw[List.map_flatten,List.map_replicate]
      rw[e1,e2];refine CY.vals ?_;have GM:∀l:List AV,(∀a∈l,one a=true)→If l=true:=by
       intro l
       induction l with
       |nil=>intro _;rfl
       |cons a l ih=>intro h;simp[If,h a (List.mem_cons_self ..),ih (fun b hb=>h b (List.mem_cons_of_mem _ hb))]
      refine GM _ (fun a ha=>?_);obtain⟨x,hx,rfl⟩:=Ar.1 ha;obtain⟨l,hl,hx⟩:=Ff.1 hx;rw[Em hl]at hx;exact MG UE _ (Ar.2 ⟨x,hx,rfl⟩)
     obtain⟨ET,V4,k1,k2,k3,k4,k5⟩:=XG hI ht (by rw[Gd]) m5 r7 hk;have j8:V4.size=n*(cx.T e).size:=by
      have:=k4.1
      rw[CD,EE k3,k2]at this;exact this
     obtain⟨g',av,h',q1,q2,q3,q4⟩:=J8 hI k1 (vs:=V4) (cap:=n) e k3 (by omega) j8 (by
      rw[k2,AC (by rw[CD,j8];exact Ao _)];exact k4) w ⟨rfl,rfl,rfl,rfl⟩
     rw[k2]at q4;refine⟨_,_,g',av,h',?_,q1,q2,q3,q4⟩;obtain⟨z,z1,z2⟩:=eQ hT (w:=w) hm;have En:=hT.size1 w hm;have e3:(Array.map (fun x:Nat×Operand=>match x with | (i,x)=>(i,ρ x)) ps).toList=ps.toList.map fun(i,x)=>(i,ρ x):=by simp
     have xg:¬(n*(m+1)>2 ^ 24):=by rw[hm]at HN;have HN:n*(m+1)≤16777216:=HN;omega
     simp only[Instr.buildSlice,Sem.run_bind,run_underlying (hT.slice hs),Result.andThen_ok,En,Aq xg];rw[e3];rw[hm]at k5
     by_cases h0:n*(m+1)=0
     ·have uc:n=0:=by
       rcases Nat.mul_eq_zero.1 h0 with h | h
       ·exact h
       ·cases h
      subst uc;have er:Array.range 0=#[]:=rfl;simp only[IP,er,List.map_toArray,Fj]at k5;simp only[IP,L5,er,List.map_toArray,Fj,k5];simp[newRow]
     ·rw[z2]at k5;simp only[Array.toArray_toList]at k5;simp only[Aq h0,Sem.run_bind,z1,Result.andThen_ok,Sem.run_pure,k5];simp[newRow]
    ·exact hk.elim
  ·exact hk.elim
 ·exact hk.elim
end
end Go.Eng

namespace Go.Eng

theorem F2{sz:Nat}:∀{es:List (List AV)},BW sz es→∀c∈es,c.length=sz
 | [],_,c,h=>by cases h
 |d::es,h,c,hc=>by
  rcases AF.1 hc with rfl | hc
  ·exact h.1
  ·exact F2 h.2 c hc

def Ov(w:World)(x:Value)(n sz:Nat)(news:List Value):Prop :=
 news.length=n*sz∧(∀v∈news,v.oneCell'=true)∧∃(a:Option Addr) (c:Nat),x=.slice a n c∧(n=0∨∃b:Addr,a=some b∧∀j u,news[j]?=some u→w.cell? (b.add j)=some u)

theorem Ov.of_rep{g:Gh}{w:World}{U:Nat→Prop}{es:List (List AV)}{sz:Nat}{x:Value}(h:BK g w U (.slice .none es) x)(hl:∀c∈es,c.length=sz) :
  ∃news,Ov w x es.length sz news∧CY g w Fp es.flatten news:=by
 cases h with
 |snil _ a cap=>exact⟨[],⟨by simp,by simp,a,cap,rfl,.inl rfl⟩,by simp,by simp,fun i av x h1 h2=>by simp at h2⟩
 |slice _ _ b off GZ cap val hc PV Dk EF =>
  have hf:=EE hl;have key:∀j,j<es.length*sz→∃cs,es[j / sz]?=some cs∧es.flatten[j]?=cs[j % sz]?∧j % sz<cs.length∧GZ=sz∧j=j / sz*sz+j % sz:=by
   intro j hj;have ZP:0<sz:=Nat.pos_of_ne_zero (fun e=>by rw[e]at hj;omega);have qa:j=j / sz*sz+j % sz:=by rw[Nat.mul_comm];exact(UR j sz).symm
   have hi:j / sz<es.length:=(LF ZP).2 hj;have X6:j % sz<sz:=Nat.mod_lt _ ZP;have h1:es[j / sz]?=some es[j / sz]:=AE hi;have h2:=Fv hl h1 X6;rw[←qa]at h2;have h3:=hl _ (Am hi);exact⟨_,h1,h2,by rw[h3];exact X6,by rw[←h3];exact(PV _ _ h1).symm,qa⟩
  have Wx:∀j,j<es.length*sz→∃av,es.flatten[j]?=some av∧w.cell? ⟨b,off+j,none⟩=some (val (j / sz) (j % sz))∧(val (j / sz) (j % sz)).oneCell'=true∧BK g w Fp av (val (j / sz) (j % sz)):=by
   intro j hj;obtain⟨cs,k1,k2,k3,rfl,k5⟩:=key j hj;have gD:cs[j % GZ]?=some cs[j % GZ]:=AE k3;obtain⟨_,c2,c3⟩:=Dk _ _ _ _ k1 gD;rw[GJ,←k5]at c2;exact⟨_,k2.trans gD,c2,c3,EF _ _ _ _ k1 gD⟩
  refine⟨(List.range (es.length*sz)).map fun j=>val (j / sz) (j % sz),⟨by simp,fun v hv=>?_,some ⟨b,off,none⟩,cap,rfl,.inr ⟨_,rfl,fun j u hu=>?_⟩⟩,by rw[hf];simp,fun v hv=>?_,fun i av x h1 h2=>?_⟩
  ·obtain⟨j,hj,rfl⟩:=Ar.1 hv;obtain⟨_,_,_,c,_⟩:=Wx j (Iw.1 hj);exact c
  ·obtain⟨hj,rfl⟩:=G7 hu;rw[Addr.add_lit];exact(Wx j hj).choose_spec.2.1
  ·obtain⟨j,hj,rfl⟩:=Ar.1 hv;obtain⟨_,_,_,c,_⟩:=Wx j (Iw.1 hj);exact c
  ·obtain⟨hj,rfl⟩:=G7 h2;obtain⟨qG,c1,_,_,c4⟩:=Wx i hj;rw[h1]at c1;cases c1;exact c4

section
variable {P:Program}{T:GT}(hT:Cu P T)
include hT

theorem HC{e n:Nat}(hs:(T e).size=n+1):∃i z,P.info? e=some i∧i.zero=some z∧i.size=(T e).size∧i.bytes=(T e).bytes∧(T e).zc=z.cells.toList:=by
 rcases hT e with h | h
 ·rw[h]at hs;cases hs
 unfold eJ at h;split at h
 ·split at h
  ·rename_i d i h1 h2 _ z h3;exact⟨i,z,h2,h3,by rw[h],by rw[h],by rw[TI.zc_cells,h]⟩
  ·rw[h]at hs;cases hs
 ·rw[h]at hs;cases hs

theorem IW(w:World){t e ty k:Nat}(ht:(T t).d=.slice e)(hk:(T e).size=k+1)(a a' : Option Addr)(n cap c:Nat)(hc:n≤cap) :
  (Builtin.append_ #[t,t] ty #[.slice a n cap,.slice a' 0 c]).run P w=.ok (.slice a n cap) w:=by
 have hu:=hT.slice ht;cases a<;>cases a'<;>simp[Builtin.append_,run_underlying hu,hT.size1 w hk,Builtin.lenOf,hc,Builtin.firstCells,loadCells,loadCellsFrom,storeCells]

theorem HZ(w:World){t e ty k:Nat}(ht:(T t).d=.slice e)(hk:(T e).size=k+1)(hz:(T e).zc.length=(T e).size){s x:Value}{n m cap c:Nat}{olds news:List Value}{a a' : Option Addr}
  (hso:Ov w s n (T e).size olds) (hs:s=.slice a n cap) (Nb:a=none→cap=0) (hsx:Ov w x m (T e).size news) (hx:x=.slice a' m c) (hm:0<m) (hg:cap<n+m) (hb:(n+m)*(T e).bytes≤140737488355328) (h63:n+m≤9223372036854775807) :
  ∃nc rest,(Builtin.append_ #[t,t] ty #[s,x]).run P w=.ok (.slice (some ⟨w.heap.size,0,none⟩) (n+m) nc) (w.drew.alloc (.cells (olds++news++rest).toArray e (0,0)))∧n+m≤nc ∧
   (olds++news++rest).length=nc*(T e).size:=by
 obtain⟨i,z,i1,i2,i3,i4,i5⟩:=HC hT hk;have hu:=hT.slice ht;obtain⟨n1,n2,a1,c1,n3,n4⟩:=hsx;subst hx;cases n3;rcases n4 with h | ⟨b,rfl,I3⟩
 ·omega
 ·have UF:z.cells.size=(T e).size:=by rw[←hz,i5];simp
  have X4:∀(nc:Nat) (pre:List Value),pre.length=(n+m)*(T e).size→n+m≤nc→(pre++(Builtin.zeroCells z.cells (nc-(n+m))).toList).length=nc*(T e).size:=by
   intro nc pre hp HN;have e1:(Builtin.zeroCells z.cells (nc-(n+m))).toList.length=(nc-(n+m))*(T e).size:=by simp only[CD,size_zeroCells,UF]
   rw[Ad,e1,hp,←Fu]
   congr 1;omega
  obtain⟨o1,o2,a2,c2,o3,o4⟩:=hso;subst hs;cases o3;cases a with
  |none =>
   obtain rfl:=Nb rfl;have uc:n=0:=by
    rcases o4 with h | ⟨b',h,_⟩
    ·exact h
    ·cases h
   subst uc;have ho:olds=[]:=AK (by simpa using o1);subst ho;have hr:=run_append_nil (P:=P) w t ty e i z hu i1 i2 b m c news (by rw[i3];exact n1) I3 hm (by omega) (by rw[i4];rw[Be]at hb;omega);refine⟨grownCap w m 0 e,(Builtin.zeroCells z.cells (grownCap w m 0 e-m)).toList,?_,by rw[Be];exact grownCap_ge w m 0 e,?_⟩
   ·rw[hr,Be]
    congr 3
    apply Ol;simp
   ·have:=X4 (grownCap w m 0 e) news (by rw[Be];exact n1) (by rw[Be];exact grownCap_ge w m 0 e)
    rw[Be]at this;simpa using this
  |some b' =>
   have GS:∀j u,olds[j]?=some u→w.cell? (b'.add j)=some u:=by
    rcases o4 with h | ⟨b2,h,h'⟩
    ·intro j u hj;rw[h,IP]at o1
     have:olds=[]:=AK o1
     rw[this]at hj;simp at hj
    ·cases h;exact h'
   have hr:=run_append_grow (P:=P) w t ty e i z hu i1 i2 b' n cap olds (by rw[i3];exact o1) GS b m c news (by rw[i3];exact n1) I3 hg (by omega) (by rw[i4];exact growslice_fits hg hb);refine⟨grownCap w (n+m) cap e,(Builtin.zeroCells z.cells (grownCap w (n+m) cap e-(n+m))).toList,?_,grownCap_ge w (n+m) cap e,X4 _ _ (by rw[Ad,o1,n1,←Fu]) (grownCap_ge w (n+m) cap e)⟩;rw[hr]
   congr 3
   apply Ol;simp
end
end Go.Eng
