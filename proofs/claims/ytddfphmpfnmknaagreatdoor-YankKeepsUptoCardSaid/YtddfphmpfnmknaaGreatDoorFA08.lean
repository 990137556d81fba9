/- Lemmas for the claims of this seat, without a condition: part 8 (EngN, EngO, EngP, EngQ). -/
import Derived.Test.YtddfphmpfnmknaaGreatDoorFA07
namespace Go.Eng
def N0(P:Program)(w0:World)(g0:Gh)(h0 h:Nat→HO)(g:Gh)(w:World)(m:Sem Value)(K:HK):Prop :=
 ∃x w' g' av h',m.run P w=.ok x w'∧K av h'∧DB w0 g0 h0 h' g' w'∧Le h g w h' g' w'∧BD g' w' (AP h') av x
def dS(P:Program)(w0:World)(g0:Gh)(h0 h:Nat→HO)(g:Gh)(w:World)(m:Sem Unit)(K:HK):Prop :=
 ∃w' g' h',m.run P w=.ok () w'∧K (.v undef) h'∧DB w0 g0 h0 h' g' w'∧Le h g w h' g' w'
section
variable {P:Program}{w0:World}{g0:Gh}{h0 h:Nat→HO}{g:Gh}{w:World}(hI:DB w0 g0 h0 h g w)
include hI
theorem BF.does{m:Sem Value}{K:HK}(hg:BF P h g w m (fun v=>K v h)):N0 P w0 g0 h0 h g w m K :=
 let ⟨x,av,h1,h2,h3⟩:=hg
 ⟨x,w,g,av,h,h1,h2,hI,.refl _ _ _,h3⟩
theorem DB.newOwn{d:Nat}(hd:h d=.free)(o' : HO)(ob:Obj)(x:Value)(n:Nat)(t:Bool)(w1:World)(KK:w1.heap=w.heap∧w1.os=w.os∧w1.tape=w.tape∧w1.output=w.output)(Dt:o'≠.free)
  (Jk:JX g (g.upd d x n t (some w.heap.size) g.S) (AP h)→EA g w (g.upd d x n t (some w.heap.size) g.S) (w1.alloc ob) →
   D6 (g.upd d x n t (some w.heap.size) g.S) (w1.alloc ob) (AP (AT h d o')) d o') :
  DB w0 g0 h0 (AT h d o') (g.upd d x n t (some w.heap.size) g.S) (w1.alloc ob)∧Le h g w (AT h d o') (g.upd d x n t (some w.heap.size) g.S) (w1.alloc ob):=by
 refine hI.upd d o' x n t _ _ _ none ⟨KK.2.1,KK.2.2.1,KK.2.2.2,by rw[World.size_alloc,KK.1];omega⟩ (fun k hk _=>?_) (fun b e=>by cases e) (fun _ _ h=>h) (fun _ _ h=>.inl h) (fun b o e=>by cases e)
  (fun b _ e=>?_) Dt (fun hu=>absurd hd hu) Jk
 ·rw[heap_alloc_old _ _ (by rw[KK.1];exact hk),KK.1]
 ·cases e;rw[World.size_alloc,KK.1];exact⟨by omega,.inr (Al _)⟩
def Gh.more(g:Gh)(b n:Nat):Nat→Nat→Prop:=fun b' o=>g.S b' o∨(b'=b∧o<n)
theorem DB.newStable{d:Nat}(hd:h d=.free)(o' : HO)(vs:Array Value)(E:TypeId)(m:Nat)(x:Value)(n:Nat)(t:Bool)(w1:World)(KK:w1.heap=w.heap∧w1.os=w.os∧w1.tape=w.tape∧w1.output=w.output)(Dt:o'≠.free)
  (Jk:JX g (g.upd d x n t none (g.more w.heap.size m)) (AP h)→EA g w (g.upd d x n t none (g.more w.heap.size m)) (w1.alloc (.cells vs E (0,0))) →
   D6 (g.upd d x n t none (g.more w.heap.size m)) (w1.alloc (.cells vs E (0,0))) (AP (AT h d o')) d o') :
  DB w0 g0 h0 (AT h d o') (g.upd d x n t none (g.more w.heap.size m)) (w1.alloc (.cells vs E (0,0))) ∧
   Le h g w (AT h d o') (g.upd d x n t none (g.more w.heap.size m)) (w1.alloc (.cells vs E (0,0))):=by
 refine hI.upd d o' x n t _ _ _ none ⟨KK.2.1,KK.2.2.1,KK.2.2.2,by rw[World.size_alloc,KK.1];omega⟩ (fun k hk _=>?_) (fun b e=>by cases e) (fun _ _ h=>.inl h) (fun b o hb=>?_) (fun b o e=>by cases e)
  (fun b _ e=>by cases e) Dt (fun hu=>absurd hd hu) Jk
 ·rw[heap_alloc_old _ _ (by rw[KK.1];exact hk),KK.1]
 ·rcases hb with hb | ⟨rfl,_⟩
  ·exact .inl hb
  ·exact .inr ⟨by rw[World.size_alloc,KK.1];omega,.inl (Al _)⟩
end
theorem Bw(g:Gh)(r:Nat)(x:Value)(n:Nat)(t:Bool)(o:Option Nat)(S:Nat→Nat→Prop) :
  (g.upd r x n t o S).ρ r=x∧(g.upd r x n t o S).ln r=n∧(g.upd r x n t o S).tk r=t∧(g.upd r x n t o S).own r=o:=by simp[Gh.upd]
theorem HB(w:World)(o:Obj){b:Nat}(hb:b=w.heap.size):(w.alloc o).heap[b]?=some o:=by subst hb;exact heap_alloc_new w o
theorem BD.cptr_row{g:Gh}{w:World}{U:Nat→Prop}{b:Nat}{cs:List AV}{vs:Array Value}{E:TypeId}{f:Nat×Nat}(hb:w.heap[b]?=some (.cells vs E f))(hr:Cu g w Fi cs vs.toList)
  (hS:∀o,o<cs.length→g.S b o):BD g w U (.cptr cs) (.pointer (some ⟨b,0,none⟩)):=by
 refine .cptr U cs b 0 (fun j=>vs[j]?.getD default) (fun j av hj=>?_) (fun j av hj=>?_)
 ·obtain⟨x,x1,x2,x3⟩:=hr.at hj;rw[A0]at x1;refine⟨hS _ (by rw[Bg];exact(Ap.1 hj).1),?_,?_⟩
  ·rw[FD hb,Bg,x1];rfl
  ·rw[x1];exact x2
 ·obtain⟨x,x1,x2,x3⟩:=hr.at hj;rw[A0]at x1;rw[x1];exact x3
theorem BD.slice_off{g:Gh}{w:World}{U:Nat→Prop}{b off sz cap:Nat}{es:List (List AV)}{vs:Array Value}{E:TypeId}{f:Nat×Nat}(hb:w.heap[b]?=some (.cells vs E f))(hl:∀cs∈es,cs.length=sz)
  (hc:es.length≤cap) (hr:Cu g w Fi es.flatten ((vs.toList.drop off).take (es.length*sz))) (hS:∀o,o<es.length*sz→g.S b (off+o)):BD g w U (.slice .none es) (.slice (some ⟨b,off,none⟩) es.length cap):=by
 have key:∀(i:Nat) (cs:List AV) (j:Nat) (av:AV),es[i]?=some cs→cs[j]?=some av→∃x,vs[off+(i*sz+j)]?=some x∧x.oneCell'=true∧BD g w Fi av x∧i*sz+j<es.length*sz:=by
  intro i cs j av h1 h2;have hcl:=hl cs (Ar h1);have hj:j<sz:=by rw[←hcl];exact(Ap.1 h2).1
  have hi:=(Ap.1 h1).1;have DA:i*sz+j<es.length*sz:=by
   have:=Be sz (show i+1≤es.length from hi)
   rw[DY]at this;omega
  have hf:=Fa hl h1 hj;rw[h2]at hf;obtain⟨x,x1,x2,x3⟩:=hr.at hf;rw[BE DA,Dr,A0]at x1;exact⟨x,x1,x2,x3,DA⟩
 refine .slice U es b off sz cap (fun i j=>vs[off+(i*sz+j)]?.getD default) hc (fun i cs h=>hl cs (Ar h)) (fun i cs j av h1 h2=>?_) (fun i cs j av h1 h2=>?_)
 ·obtain⟨x,x1,x2,x3,x4⟩:=key i cs j av h1 h2;rw[Gr];refine⟨hS _ x4,?_,?_⟩
  ·rw[FD hb,x1];rfl
  ·rw[x1];exact x2
 ·obtain⟨x,x1,x2,x3,x4⟩:=key i cs j av h1 h2;rw[x1];exact x3
theorem BD.slice_row{g:Gh}{w:World}{U:Nat→Prop}{b sz cap:Nat}{es:List (List AV)}{vs:Array Value}{E:TypeId}{f:Nat×Nat}(hb:w.heap[b]?=some (.cells vs E f))(hl:∀cs∈es,cs.length=sz)
  (hc:es.length≤cap) (hr:Cu g w Fi es.flatten (vs.toList.take (es.length*sz))) (hS:∀o,o<es.length*sz→g.S b o):BD g w U (.slice .none es) (.slice (some ⟨b,0,none⟩) es.length cap):=by
 have key:∀(i:Nat) (cs:List AV) (j:Nat) (av:AV),es[i]?=some cs→cs[j]?=some av→∃x,vs[i*sz+j]?=some x∧x.oneCell'=true∧BD g w Fi av x∧i*sz+j<es.length*sz:=by
  intro i cs j av h1 h2;have hcl:=hl cs (Ar h1);have hj:j<sz:=by rw[←hcl];exact(Ap.1 h2).1
  have hi:=(Ap.1 h1).1;have DA:i*sz+j<es.length*sz:=by
   have:=Be sz (show i+1≤es.length from hi)
   rw[DY]at this;omega
  have hf:=Fa hl h1 hj;rw[h2]at hf;obtain⟨x,x1,x2,x3⟩:=hr.at hf;rw[BE DA,A0]at x1;exact⟨x,x1,x2,x3,DA⟩
 refine .slice U es b 0 sz cap (fun i j=>vs[i*sz+j]?.getD default) hc (fun i cs h=>hl cs (Ar h)) (fun i cs j av h1 h2=>?_) (fun i cs j av h1 h2=>?_)
 ·obtain⟨x,x1,x2,x3,x4⟩:=key i cs j av h1 h2;rw[Bg];refine⟨hS _ x4,?_,?_⟩
  ·rw[FD hb,x1];rfl
  ·rw[x1];exact x2
 ·obtain⟨x,x1,x2,x3,x4⟩:=key i cs j av h1 h2;rw[x1];exact x3
section
variable {P:Program}{w0:World}{g0:Gh}{h0 h:Nat→HO}{g:Gh}{w:World}
theorem QS(hI:DB w0 g0 h0 h g w){d:Nat}(hd:h d=.free){cs:List AV}{vs:Array Value}(E:TypeId)(hr:Cu g w (AP h) cs vs.toList) :
  ∃g',DB w0 g0 h0 (AT h d (.cells cs)) g' (w.alloc (.cells vs E (0,0)))∧Le h g w (AT h d (.cells cs)) g' (w.alloc (.cells vs E (0,0))) ∧
   BD g' (w.alloc (.cells vs E (0,0))) (AP (AT h d (.cells cs))) (.ref d 0) (.pointer (some ⟨w.heap.size,0,none⟩)):=by
 obtain⟨k1,k2⟩:=hI.newOwn hd (.cells cs) (.cells vs E (0,0)) (.pointer (some ⟨w.heap.size,0,none⟩)) 0 false w ⟨rfl,rfl,rfl,rfl⟩ (by simp) (fun hg hk=>by
  obtain⟨u1,u2,u3,u4⟩:=Bw g d (.pointer (some ⟨w.heap.size,0,none⟩)) 0 false (some w.heap.size) g.S;exact⟨u3,w.heap.size,E,vs,u4,u1,HB w _ rfl,hr.mono hk (fun i hi=>DI (by simp) i hi) hg,fun o ho=>by have:=hI.slt _ _ ho;omega⟩)
 refine⟨_,k1,k2,.ref _ d 0 w.heap.size (by unfold AP;rw[Ba];simp) ?_ ?_⟩
 ·simp[Gh.upd]
 ·simp[Gh.upd]
theorem gK(hI:DB w0 g0 h0 h g w){d:Nat}(hd:h d=.free){cs:List AV}{vs:Array Value}(E:TypeId)(hr:Cu g w Fi cs vs.toList) :
  ∃g',DB w0 g0 h0 (AT h d (.ro cs)) g' (w.alloc (.cells vs E (0,0)))∧Le h g w (AT h d (.ro cs)) g' (w.alloc (.cells vs E (0,0))) ∧
   BD g' (w.alloc (.cells vs E (0,0))) (AP (AT h d (.ro cs))) (.ref d 0) (.pointer (some ⟨w.heap.size,0,none⟩)):=by
 obtain⟨k1,k2⟩:=hI.newStable hd (.ro cs) vs E cs.length (.pointer (some ⟨w.heap.size,0,none⟩)) 0 false w ⟨rfl,rfl,rfl,rfl⟩ (by simp) (fun hg hk=>by
  obtain⟨u1,u2,u3,u4⟩:=Bw g d (.pointer (some ⟨w.heap.size,0,none⟩)) 0 false none (g.more w.heap.size cs.length);exact⟨u3,w.heap.size,u1,BD.cptr_row (HB w _ rfl) (hr.mono hk (fun _ h=>h) (fun _ h=>h.elim)) (fun o ho=>.inr ⟨rfl,ho⟩)⟩)
 refine⟨_,k1,k2,.ref _ d 0 w.heap.size (by unfold AP;rw[Ba];simp) ?_ ?_⟩
 ·simp[Gh.upd]
 ·simp[Gh.upd]
theorem JQ(hI:DB w0 g0 h0 h g w){cx:Cx}{d:Option Nat}{sz:Nat}{es:List (List AV)}{K:HK}(hk:Eu cx d h sz es K){vs:Array Value}{cap:Nat}(E:TypeId)(hl:∀cs∈es,cs.length=sz)
  (hc:es.length≤cap) (hs:vs.size=cap*sz) (hr:Cu g w Fi es.flatten (vs.toList.take (es.length*sz))) (w1:World) (KK:w1.heap=w.heap∧w1.os=w.os∧w1.tape=w.tape∧w1.output=w.output) :
  ∃g' av h',K av h'∧DB w0 g0 h0 h' g' (w1.alloc (.cells vs E (0,0)))∧Le h g w h' g' (w1.alloc (.cells vs E (0,0))) ∧
   BD g' (w1.alloc (.cells vs E (0,0))) (AP h') av (.slice (some ⟨w.heap.size,0,none⟩) es.length cap):=by
 have EQ:(w1.alloc (.cells vs E (0,0))).heap[w.heap.size]?=some (.cells vs E (0,0)):=HB w1 _ (by rw[KK.1]);unfold Eu at hk;split at hk
 ·exact hk.elim
 ·rename_i d;generalize Kp cx d=d1 at hk;split at hk
  ·rename_i hd;split at hk
   ·obtain⟨k1,k2⟩:=hI.newOwn hd (.arr sz es) (.cells vs E (0,0)) (.slice (some ⟨w.heap.size,0,none⟩) es.length cap) es.length true w1 KK (by simp) (fun hg HZ=>by
     obtain⟨u1,u2,u3,u4⟩:=Bw g d1 (.slice (some ⟨w.heap.size,0,none⟩) es.length cap) es.length true (some w.heap.size) g.S;exact⟨u3,u2,hl,.inr ⟨w.heap.size,cap,E,vs,u1,u4,hc,EQ,hs,hr.mono HZ (fun _ h=>h) (fun _ h=>h.elim),fun o ho=>by have:=hI.slt _ _ ho;omega⟩⟩)
    refine⟨_,_,_,hk,k1,k2,.msl _ d1 es.length _ cap (by unfold AP;rw[Ba];simp) ?_ ?_ (.inr ⟨_,rfl⟩) ?_⟩<;>simp[Gh.upd]
   ·by_cases XJ:es.length=cap
    ·obtain⟨k1,k2⟩:=hI.newStable hd (.tok sz es.length) vs E (es.length*sz) (.slice (some ⟨w.heap.size,0,none⟩) es.length cap) es.length true w1 KK (by simp) (fun hg HZ=>by
      obtain⟨u1,u2,u3,u4⟩:=Bw g d1 (.slice (some ⟨w.heap.size,0,none⟩) es.length cap) es.length true none (g.more w.heap.size (es.length*sz));exact⟨u3,u2,_,cap,u1,.inl ⟨XJ,u4⟩⟩)
     refine⟨_,_,_,hk,k1,k2,.tok _ d1 sz es _ (BD.slice_row EQ hl hc (hr.mono k2.keeps (fun _ h=>h) (fun _ h=>h.elim)) (fun o ho=>.inr ⟨rfl,ho⟩)) hl (by unfold AP;rw[Ba];simp) ?_ ?_ ?_⟩<;>simp[Gh.upd]
    ·have o8:=hI.upd d1 (.tok sz es.length) (.slice (some ⟨w.heap.size,0,none⟩) es.length cap) es.length true (some w.heap.size) (g.more w.heap.size (es.length*sz)) (w1.alloc (.cells vs E (0,0))) none
      ⟨KK.2.1,KK.2.2.1,KK.2.2.2,by rw[World.size_alloc,KK.1];omega⟩ (fun k J4 _=>by rw[heap_alloc_old _ _ (by rw[KK.1];exact J4),KK.1]) (fun b e=>by cases e) (fun _ _ h=>.inl h)
      (fun b o hb=>by
       rcases hb with hb | ⟨rfl,_⟩
       ·exact .inl hb
       ·exact .inr ⟨by rw[World.size_alloc,KK.1];omega,.inl (Al _)⟩) (fun b o e=>by cases e)
      (fun b _ e=>by cases e;rw[World.size_alloc,KK.1];exact⟨by omega,.inr (Al _)⟩) (by simp) (fun hu=>absurd hd hu) (fun hg HZ=>by
       obtain⟨u1,u2,u3,u4⟩:=Bw g d1 (.slice (some ⟨w.heap.size,0,none⟩) es.length cap) es.length true (some w.heap.size) (g.more w.heap.size (es.length*sz));exact⟨u3,u2,_,cap,u1,.inr ⟨hc,w.heap.size,E,vs,0,rfl,u4,EQ,by rw[hs,Bg],fun o ho=>by
        rcases ho with ho | ⟨_,ho⟩
        ·have:=hI.slt _ _ ho;omega
        ·omega⟩⟩)
     obtain⟨k1,k2⟩:=o8;refine⟨_,_,_,hk,k1,k2,.tok _ d1 sz es _ (BD.slice_row EQ hl hc (hr.mono k2.keeps (fun _ h=>h) (fun _ h=>h.elim)) (fun o ho=>.inr ⟨rfl,ho⟩)) hl (by unfold AP;rw[Ba];simp) ?_ ?_ ?_⟩<;>simp[Gh.upd]
  ·exact hk.elim
end
theorem MI{α:Type}:∀(cs:List α) (o:Nat) (vs:List α),o+vs.length≤cs.length→over cs o vs=cs.take o++vs++cs.drop (o+vs.length)
 | [],o,vs,h=>by
  simp at h;obtain⟨rfl,rfl⟩:=h
  rfl
 |c::cs,o+1,vs,h=>by
  rw[over,MI cs o vs (by simp at h;omega)];simp only[IU,ID,BH,Nat.add_right_comm o 1,List.drop_succ_cons]
 |c::cs,0,[],h=>by simp[over]
 |c::cs,0,v::vs,h=>by
  rw[over,MI cs 0 vs (by simp at h;omega)];simp
theorem Vh{α:Type}(cs:List α)(o n:Nat)(vs:List α)(h:o+vs.length≤n)(hn:n≤cs.length):(over cs o vs).take n=over (cs.take n) o vs:=by
 apply CX;intro i;rw[FG _ _ _ _ (by simp;omega)]
 by_cases hi:i<n
 ·rw[BE hi,FG _ _ _ _ (by omega),BE hi]
 ·rw[Ah (by omega),A1 (by rw[AB,FH];omega),A1 (by simp;omega)]
theorem LR{α:Type}{n:Nat}:∀{es:List (List α)},(∀c∈es,c.length=n)→∀{i:Nat} {c:List α},es[i]?=some c→∀(o:Nat) (vs:List α),o+vs.length≤n →
  (es.set i (over c o vs)).flatten=over es.flatten (i*n+o) vs
 | [],_,i,c,h,_,_,_=>by simp at h
 |d::es,hl,i,c,h,o,vs,Ho=>by
  have hd:=hl d (Aa ..);have hfl:=C3 (es:=d::es) (n:=n) hl;have DA:=(Ap.1 h).1;have qO:i*n+o+vs.length≤(d::es).flatten.length:=by
   rw[hfl]
   have:=Be n (show i+1≤(d::es).length from DA)
   rw[DY]at this;omega
  have hcl:=hl c (Ar h);apply CX;intro j;rw[FG _ _ _ _ qO];have NA:∀e∈(d::es).set i (over c o vs),e.length=n:=fun e he=>by
   rcases ET he with he | rfl
   ·exact hl e he
   ·rw[FH];exact hcl
  by_cases hn:n=0
  ·subst hn;have h1:=C3 NA;have h2:=hfl;simp only[Nat.mul_zero,List.length_eq_zero_iff]at h1 h2;rw[h1,h2]
   have:¬(i*0+o≤j∧j<i*0+o+vs.length):=by omega
   rw[Ah this]
  ·have pc:j=j / n*n+j % n:=by rw[Nat.mul_comm];exact(Uv j n).symm
   have XL:j % n<n:=Nat.mod_lt _ (by omega)
   by_cases hj:j / n<(d::es).length
   ·have g1:(d::es)[j / n]?=some ((d::es)[j / n]):=At hj;have g2:((d::es).set i (over c o vs))[j / n]?=some (if i=j / n then over c o vs else(d::es)[j / n]):=by
     rw[List.getElem?_set]
     by_cases e:i=j / n
     ·rw[Ao e,Ao (by omega),Ao e]
     ·rw[Ah e,Ah e];exact g1
    have f1:=Fa hl g1 XL;have f2:=Fa NA g2 XL;rw[←pc]at f1 f2;rw[f1,f2];split
    ·rename_i e;rw[e]at h;rw[g1]at h;cases h;rw[FG _ _ _ _ (by omega)];have e2:i*n+o≤j↔o≤j % n:=by rw[e];omega
     have e3:j<i*n+o+vs.length↔j % n<o+vs.length:=by rw[e];omega
     simp only[e2,e3];split
     ·congr 1;rw[e];omega
     ·rfl
    ·rename_i e
     have:¬(i*n+o≤j∧j<i*n+o+vs.length):=by
      rintro⟨q1,q2⟩
      apply e;have a1:i*n≤j:=by omega
      have a2:j<(i+1)*n:=by rw[DY];omega
      have:=(Nat.le_div_iff_mul_le (by omega)).2 a1
      have:=(Lj (by omega)).2 a2
      omega
     rw[Ah this]
   ·have pe:(d::es).length*n≤j:=by
     have:=Nat.not_lt.1 hj
     have:=(Nat.le_div_iff_mul_le (by omega)).1 this
     exact this
    have:¬(i*n+o≤j∧j<i*n+o+vs.length):=by rw[hfl]at qO;omega
    rw[Ah this,A1 (by rw[C3 NA,CJ];exact pe),A1 (by rw[hfl];exact pe)]
theorem Pd{P:Program}{T:Gs}(hT:Cn P T)(w:World){t b off:Nat}{x:Value}{FA:Array Value}{E:TypeId}(hd:(T t).d≠.other)(hs:x.cells.toList.length=(T t).size)
  (h1:∀v∈x.cells.toList,v.oneCell'=true) (hb:w.heap[b]?=some (.cells FA E (0,0))) (Ho:off+x.cells.toList.length≤FA.size) :
  (Instr.storeAt t (.pointer (some ⟨b,off,none⟩)) x).run P w=.ok () (w.setRow b (over FA.toList off x.cells.toList).toArray):=by
 have Jl:=run_storeCells_at P b off E x.cells.toList 0 FA w hb (by simpa using Ho) h1;simp only[Gf]at Jl;have WP : x.cells.size=(T t).size:=by simpa using hs
 rw[MI _ _ _ (by simpa using Ho)];simp only[Instr.storeAt,Sem.run_bind,Instr.sureAddr,Sem.run_pure,Result.andThen_ok,storeVar,hT.size w hd,WP,Vc,not_true_eq_false,Gk];exact Jl
section
variable {P:Program}{w0:World}{g0:Gh}{h0 h:Nat→HO}{g:Gh}{w:World}(hI:DB w0 g0 h0 h g w)
include hI
theorem bx{T:Gs}(hT:Cn P T){d:Option Nat}{e:Nat}{K:HK}(hk:RR T d h e K):N0 P w0 g0 h0 h g w (Instr.alloc e true (.tuple #[])) K:=by
 unfold RR at hk;split at hk
 ·exact hk.elim
 ·split at hk
  ·rename_i hd;split at hk
   ·exact hk.elim
   ·rename_i Dt;split at hk
    ·rename_i ha;obtain⟨z,z1,z2,_⟩:=Pm hT (w:=w) Dt;have hr:Cu g w (AP h) ((T e).zc.map .v) z.cells.toList:=by rw[z2]at ha⊢;exact Cu.vals ha
     obtain⟨g',k1,k2,k3⟩:=QS hI hd (vs:=z.cells) e hr;refine⟨_,_,g',_,_,?_,hk,k1,k2,k3⟩;simp[Instr.alloc,z1,newVar,newRow]
    ·exact hk.elim
  ·exact hk.elim
theorem Ph{cs:List AV}{vs:List Value}(hr:Cu g w (AP h) cs vs):Cu g w Fi (cs.map (str h)) vs:=by
 refine⟨by rw[A6];exact hr.1,hr.2.1,fun i av x h1 h2=>?_⟩;rw[AG,AW]at h1;obtain⟨a,a1,rfl⟩:=h1;exact(hr.2.2 i a x a1 h2).str hI.objs
theorem jy{cx:Cx}{d:Option Nat}{e:Nat}{x:AV}{vx:Value}{K:HK}(hx:BD g w (AP h) x vx)(hk:bH cx d h e x K):N0 P w0 g0 h0 h g w (Instr.box e vx) K:=by
 unfold bH at hk;split at hk
 ·exact hk.elim
 ·split at hk
  ·rename_i hd;split at hk
   ·exact hk.elim
   ·obtain⟨cs,hk,hn,hr⟩:=Ms hx hk;split at hk
    ·obtain⟨g',k1,k2,k3⟩:=gK hI hd (vs:=vx.cells) e (Ph hI hr);exact⟨_,_,g',_,_,rfl,hk,k1,k2,k3⟩
    ·obtain⟨g',k1,k2,k3⟩:=QS hI hd (vs:=vx.cells) e hr;exact⟨_,_,g',_,_,rfl,hk,k1,k2,k3⟩
  ·exact hk.elim
theorem DB.write{r b:Nat}(hl:(h r).live)(ho:g.own r=some b)(o' : HO){FA:Array Value}{E:TypeId}(hb:w.heap[b]?=some (.cells FA E (0,0)))(new:Array Value)(n:Nat)(ow:Option Nat)(S' : Nat→Nat→Prop)
  (Dt:o'≠.free) (hn:n=g.ln r) (qT:∀b',ow=some b'→b'=b) (hS:∀b o,g.S b o→S' b o) (sI:∀b' o,S' b' o→g.S b' o∨b'=b) (qL:∀o,g.S b o→new[o]?=FA[o]?)
  (Jk:JX g (g.upd r (g.ρ r) n (g.tk r) ow S') (AP h)→EA g w (g.upd r (g.ρ r) n (g.tk r) ow S') (w.setRow b new)→(w.setRow b new).heap[b]?=some (.cells new E (0,0)) →
   D6 (g.upd r (g.ρ r) n (g.tk r) ow S') (w.setRow b new) (AP (AT h r o')) r o') :
  DB w0 g0 h0 (AT h r o') (g.upd r (g.ρ r) n (g.tk r) ow S') (w.setRow b new)∧Le h g w (AT h r o') (g.upd r (g.ρ r) n (g.tk r) ow S') (w.setRow b new):=by
 have EQ:=setRow_heap w b FA new E (0,0) hb;have DA:=(hI.loc r b hl ho).1
 refine hI.upd r o' _ _ _ _ _ _ (some b) ⟨rfl,rfl,rfl,by rw[size_setRow];exact Al _⟩ (fun k hk Dt=>setRow_other w b k new (fun e=>Dt (by rw[e]))) (fun b' e=>by cases e;exact⟨hl,ho⟩) hS (fun b' o hs=>?_)
  (fun b' o e hs=>?_) (fun b' _ e=>?_) Dt (fun _=>⟨rfl,by omega,fun _=>rfl,fun _=>rfl⟩) (fun hg hk=>Jk hg hk EQ)
 ·rcases sI b' o hs with h1 | rfl
  ·exact .inl h1
  ·exact .inr ⟨by rw[size_setRow];exact DA,.inr ⟨hl,ho⟩⟩
 ·cases e
  refine⟨?_,fun es ck he=>by rw[hb]at he;cases he⟩;rw[FD EQ,FD hb];exact qL o hs
 ·obtain rfl:=qT b' e;exact⟨by rw[size_setRow];exact DA,.inl ⟨hl,ho⟩⟩
theorem dB{cx:Cx}(hT:Cn P cx.T){t:Nat}{p x:AV}{vp vx:Value}{K:HK}(hp:BD g w (AP h) p vp)(hx:BD g w (AP h) x vx)(hk:NV cx h t p x K) :
  dS P w0 g0 h0 h g w (Instr.storeAt t vp vx) K:=by
 unfold NV at hk;split at hk
 ·exact hk.elim
 ·rename_i hd;have h5:=Ms hx hk
  clear hk
  obtain⟨vs,hk,hn,hr⟩:=h5;have Cq:vx.cells.toList.length=vs.length:=hr.1;split at hk
  ·rename_i r off;have ho:=hI.objs r;split at hk
   ·rename_i cs e;obtain⟨Ho,hk⟩:=hk;rw[e]at ho;obtain⟨t0,b,E,FA,a1,a2,a3,a4,a5⟩:=ho;cases hp with
    |ref _ _ _ b' hu ht lX =>
     rw[a2]at lX;cases lX;have hcs:FA.toList.length=cs.length:=a4.1;have CD:=Pd hT w (t:=t) (off:=off) (x:=vx) hd (by rw[Cq,hn]) hr.2.1 a3 (by rw[Cq];simp at hcs;omega);have hl:(h r).live:=by rw[e];trivial
     have nM:=a4.over hr off Ho;split at hk
     ·obtain⟨k1,k2⟩:=hI.write hl a1 (.ro ((over cs off vs).map (str h))) a3 (over FA.toList off vx.cells.toList).toArray (g.ln r) none (g.more b cs.length) (by simp) rfl (fun _ e=>by cases e) (fun _ _ h=>.inl h)
       (fun b' o hs=>hs.elim .inl (fun hs=>.inr hs.1)) (fun o hs=>absurd hs (a5 o)) (fun hg HZ EQ=>by
        obtain⟨u1,u2,u3,u4⟩:=Bw g r (g.ρ r) (g.ln r) (g.tk r) none (g.more b cs.length);refine⟨u3.trans t0,b,u1.trans a2,BD.cptr_row EQ ?_ (fun o ho=>.inr ⟨rfl,?_⟩)⟩
        ·exact(Ph hI nM).mono HZ (fun _ h=>h) (fun _ h=>h.elim)
        ·rw[A6,FH]at ho;exact ho)
      exact⟨_,_,_,CD,hk,k1,k2⟩
     ·obtain⟨k1,k2⟩:=hI.write hl a1 (.cells (over cs off vs)) a3 (over FA.toList off vx.cells.toList).toArray (g.ln r) (g.own r) g.S (by simp) rfl (fun b' e=>by rw[a1]at e;cases e;rfl) (fun _ _ h=>h)
       (fun b' o hs=>.inl hs) (fun o hs=>absurd hs (a5 o)) (fun hg HZ EQ=>by
        obtain⟨u1,u2,u3,u4⟩:=Bw g r (g.ρ r) (g.ln r) (g.tk r) (g.own r) g.S;exact⟨u3.trans t0,b,E,_,u4.trans a1,u1.trans a2,EQ,nM.mono HZ (fun i hi=>DI (by simp) i hi) hg,a5⟩)
      exact⟨_,_,_,CD,hk,k1,k2⟩
   ·exact hk.elim
  ·rename_i r n sz i off;have ho:=hI.objs r;split at hk
   ·rename_i Gq es e;rw[e]at ho;split at hk
    ·rename_i hz;obtain rfl:=AH hz;obtain⟨hnl,cs,hi,Ho,hk⟩:=hk;obtain⟨t1,l1,al,a1⟩:=ho;have DA:=(Ap.1 hi).1;rcases a1 with ⟨rfl,_⟩ | ⟨b,cap,E,FA,e1,e2,e3,e4,e5,e6,e7⟩
     ·simp at hi
     ·cases hp with
      |eref _ _ _ _ _ _ b' KO hu ht XM lX =>
       have lX:=lX (hnl.trans l1.symm);rw[e1]at lX;simp only[Value.slice.injEq,Bi,Addr.mk.injEq]at lX;obtain⟨⟨rfl,_,_⟩,_,_⟩:=lX;have hcl:=al cs (Ar hi);have PH:i*sz+sz≤es.length*sz:=by
        have:=Be sz (show i+1≤es.length from DA)
        rwa [DY]at this
       have fR:es.length*sz≤cap*sz:=Be sz e3;have CD:=Pd hT w (t:=t) (off:=i*sz+off) (x:=vx) hd (by rw[Cq,hn]) hr.2.1 e4 (by rw[Cq];omega);have hl:(h r).live:=by rw[e];trivial
       have qo : ∀c∈es.set i (over cs off (vs.map (str h))),c.length=sz:=fun c hc=>by
        rcases ET hc with hc | rfl
        ·exact al c hc
        ·rw[FH];exact hcl
       have hfl:=LR al hi off (vs.map (str h)) (by rw[A6];exact Ho);have XF:FA.toList.length=cap*sz:=by rw[BY];exact e5
       have vM:((over FA.toList (i*sz+off) vx.cells.toList).toArray.toList.take ((es.set i (over cs off (vs.map (str h)))).length*sz))=over (FA.toList.take (es.length*sz)) (i*sz+off) vx.cells.toList:=by
        rw[CJ];exact Vh _ _ _ _ (by rw[Cq];omega) (by rw[XF];exact fR)
       have nM:Cu g w Fi (es.set i (over cs off (vs.map (str h)))).flatten ((over FA.toList (i*sz+off) vx.cells.toList).toArray.toList.take ((es.set i (over cs off (vs.map (str h)))).length*sz)):=by
        rw[vM,hfl];exact e6.over (Ph hI hr) _ (by rw[A6,C3 al];omega)
       split at hk
       ·rename_i j m;have dQ:∃x0,vx.cells.toList=[x0]:=by
         revert Cq
         cases vx.cells.toList with
         |nil=>intro Cq;cases Cq
         |cons x0 l=>cases l with
          |nil=>intro _;exact⟨x0,rfl⟩
          |cons _ _=>intro Cq;simp at Cq
        obtain⟨x0,dQ⟩:=dQ;have Ed:=hr.2.2 0 (.msl j m) x0 rfl (by rw[dQ];rfl)
        obtain⟨k1,k2⟩:=hI.write hl e2 (.hol sz (es.set i (over cs off [.junk])) i off (.msl j m)) e4 (over FA.toList (i*sz+off) vx.cells.toList).toArray (g.ln r) (g.own r) g.S (by simp) rfl (fun b' e=>by rw[e2]at e;cases e;rfl) (fun _ _ h=>h)
         (fun b' o hs=>.inl hs) (fun o hs=>absurd hs (e7 o)) (fun hg HZ EQ=>by
          obtain⟨u1,u2,u3,u4⟩:=Bw g r (g.ρ r) (g.ln r) (g.tk r) (g.own r) g.S;have nH:i*sz+off<es.length*sz:=by simp only[Av,AF]at Ho;omega
          refine⟨u3.trans t1,u2.trans (by rw[CJ];exact l1),qo,b,cap,E,_,?_,u4.trans e2,by rw[CJ];exact e3,EQ,?_,nM.mono HZ (fun _ h=>h) (fun _ h=>h.elim),e7,by rw[CJ];exact nH,x0,?_,Ed.mono HZ (fun i hi=>DI (by simp) i hi) hg⟩
          ·rw[u1,e1,CJ]
          ·simp only[Fs,FH,BY];exact e5
          ·rw[←A0,dQ,FG _ _ _ _ (by rw[XF];simp only[Av,AF];omega),Ao ⟨Al _,by simp only[Av,AF];omega⟩,Gg];rfl)
        exact⟨_,_,_,CD,hk,k1,k2⟩
       ·obtain⟨k1,k2⟩:=hI.write hl e2 (.arr sz (es.set i (over cs off (vs.map (str h))))) e4 (over FA.toList (i*sz+off) vx.cells.toList).toArray (g.ln r) (g.own r) g.S (by simp) rfl (fun b' e=>by rw[e2]at e;cases e;rfl) (fun _ _ h=>h)
         (fun b' o hs=>.inl hs) (fun o hs=>absurd hs (e7 o)) (fun hg HZ EQ=>by
          obtain⟨u1,u2,u3,u4⟩:=Bw g r (g.ρ r) (g.ln r) (g.tk r) (g.own r) g.S;refine⟨u3.trans t1,u2.trans (by rw[CJ];exact l1),qo,.inr ⟨b,cap,E,_,?_,u4.trans e2,by rw[CJ];exact e3,EQ,?_,nM.mono HZ (fun _ h=>h) (fun _ h=>h.elim),e7⟩⟩
          ·rw[u1,e1,CJ]
          ·simp only[Fs,FH,BY];exact e5)
        exact⟨_,_,_,CD,hk,k1,k2⟩
    ·exact hk.elim
   ·exact hk.elim
  ·exact hk.elim
end
theorem cY{α:Type}(c vs:List α)(h:vs.length=c.length):over c 0 vs=vs:=by
 rw[MI _ _ _ (by omega)];simp[h]
theorem HM{α:Type}[Inhabited α](n:Nat)(z:List α)(hz:z≠[]):(List.replicate n z).flatten=(List.range (n*z.length)).map fun k=>z[k % z.length]!:=by
 have hl:∀c∈List.replicate n z,c.length=z.length:=fun c hc=>by rw[B8 hc]
 have Zg:0<z.length:=MV.2 hz;apply CX;intro k
 by_cases hk:k<n*z.length
 ·have pc:k=k / z.length*z.length+k % z.length:=by rw[Nat.mul_comm];exact(Uv k _).symm
  have XL:k % z.length<z.length:=Nat.mod_lt _ Zg;have hi:k / z.length<n:=(Lj Zg).2 hk;have f1:=Fa hl (i:=k / z.length) (c:=z) (by rw[List.getElem?_replicate,Ao hi]) XL;rw[←pc]at f1;rw[f1];simp[hk,XL]
 ·rw[A1 (by rw[C3 hl,DG];omega),A1 (by simp;omega)]
section
variable {P:Program}{w0:World}{g0:Gh}{h0 h:Nat→HO}{g:Gh}{w:World}(hI:DB w0 g0 h0 h g w)
include hI
theorem Xr{n sz:Nat}{t:Nat→AV}{ρ:Operand→Value}(ht:∀x:Operand,BD g w (AP h) (ev t x) (ρ x)) :
  ∀{ps:List (Nat×Operand)} {es:List (List AV)} {xs:Array Value} {K:List (List AV)→Prop},es.length=n→(∀c∈es,c.length=sz)→Cu g w Fi es.flatten xs.toList→QE n sz h es t ps K →
   ∃FB Vx,K FB∧FB.length=n∧(∀c∈FB,c.length=sz)∧Cu g w Fi FB.flatten Vx.toList∧Instr.fill (fun i=>some (i*sz,sz)) xs (ps.map fun(i,x)=>(i,ρ x))=some Vx
 | [],es,xs,K,hn,hl,h,hk=>⟨es,xs,hk,hn,hl,h,rfl⟩
 |(i,x)::ps,es,xs,K,hn,hl,h,hk=>by
  unfold QE at hk;split at hk
  ·rename_i hi;have hi:i<n:=HX hi;have h5:=Ms (ht x) hk
   clear hk
   obtain⟨T9,hk,nJ,hr⟩:=h5;have Ew:(ρ x).cells.size=sz:=by rw[←nJ];simpa using hr.1
   have WQ:=Ph hI hr;obtain⟨c,hc⟩:∃c,es[i]?=some c:=⟨_,At (by omega)⟩;have hcl:=hl c (Ar hc);have Ho:i*sz+sz≤es.flatten.length:=by
    rw[C3 hl,hn]
    have:=Be sz (show i+1≤n from hi)
    rwa [DY]at this
   have hfl:=LR hl hc 0 (T9.map (str ‹Nat→HO›)) (by rw[A6,nJ];omega);rw[cY _ _ (by rw[A6,nJ,hcl]),Gf]at hfl;have EQ:=h.over WQ (i*sz) (by rw[A6,nJ];exact Ho);have ji:xs.size=es.flatten.length:=by have:=h.1;rwa [BY]at this
   have e:=Nw (ρ x).cells.toList 0 (i*sz) xs (by rw[BY];omega);simp only[Gf]at e;rw[←e,←hfl]at EQ;obtain⟨FB,Vx,k1,k2,k3,k4,k5⟩:=Xr ht (es:=es.set i (T9.map (str _))) (by rw[CJ];exact hn) (fun c' o6=>by
    rcases ET o6 with o6 | rfl
    ·exact hl c' o6
    ·rw[A6];exact nJ) EQ hk
   refine⟨FB,Vx,k1,k2,k3,k4,?_⟩;simp only[AL,Instr.fill];have e2:(ρ x).cells.zipIdx.foldl (fun cs (c,j)=>cs.setIfInBounds (i*sz+j) c) xs=((ρ x).cells.toList.zipIdx 0).foldl (fun(cs:Array Value) (p:Value×Nat)=>cs.setIfInBounds (i*sz+p.2) p.1) xs:=by
    rw[←Array.foldl_toList];simp
   rw[Ah (by simp[Ew];omega),e2];exact k5
  ·exact hk.elim
theorem RZ{cx:Cx}(hT:Cn P cx.T){d:Option Nat}{ty n:Nat}{t:Nat→AV}{ρ:Operand→Value}{K:HK}(ht:∀x:Operand,BD g w (AP h) (ev t x) (ρ x)){ps:Array (Nat×Operand)}
  (hk:Ip cx d h ty n t ps.toList K):N0 P w0 g0 h0 h g w (Instr.buildSlice ty n (ps.map fun(i,x)=>(i,ρ x))) K:=by
 unfold Ip at hk;split at hk
 ·rename_i e hs;split at hk
  ·rename_i Rj MQ;have MQ:=AH MQ;split at hk
   ·exact hk.elim
   ·rename_i m hm;split at hk
    ·rename_i Ho;have Ho:=HX Ho;have nW:(cx.T e).zc≠[]:=fun e0=>by rw[e0]at MQ;rw[hm]at MQ;cases MQ
     have sR:∀c∈List.replicate n ((cx.T e).zc.map AV.v),c.length=(cx.T e).size:=fun c hc=>by rw[B8 hc,A6];exact MQ
     have qH:Cu g w Fi (List.replicate n ((cx.T e).zc.map AV.v)).flatten ((Array.range (n*(cx.T e).size)).map fun k=>(cx.T e).zc.toArray[k % (cx.T e).zc.toArray.size]!).toList:=by
      have e1:((Array.range (n*(cx.T e).size)).map fun k=>(cx.T e).zc.toArray[k % (cx.T e).zc.toArray.size]!).toList=(List.replicate n (cx.T e).zc).flatten:=by
       rw[HM n _ nW];simp[MQ]
      have e2:(List.replicate n ((cx.T e).zc.map AV.v)).flatten=(List.replicate n (cx.T e).zc).flatten.map AV.v:=by
       rw[RM,List.map_replicate]
      rw[e1,e2];refine Cu.vals ?_;have GP:∀l:List AV,(∀a∈l,one a=true)→GV l=true:=by
       intro l
       induction l with
       |nil=>intro _;rfl
       |cons a l ih=>intro h;simp[GV,h a (List.mem_cons_self ..),ih (fun b hb=>h b (List.mem_cons_of_mem _ hb))]
      refine GP _ (fun a ha=>?_);obtain⟨x,hx,rfl⟩:=Ak.1 ha;obtain⟨l,hl,hx⟩:=El.1 hx;rw[B8 hl]at hx;exact Mm Rj _ (Ak.2 ⟨x,hx,rfl⟩)
     obtain⟨FB,Vx,k1,k2,k3,k4,k5⟩:=Xr hI ht (by rw[DG]) sR qH hk;have ji:Vx.size=n*(cx.T e).size:=by
      have:=k4.1
      rw[BY,C3 k3,k2]at this;exact this
     obtain⟨g',av,h',q1,q2,q3,q4⟩:=JQ hI k1 (vs:=Vx) (cap:=n) e k3 (by omega) ji (by
      rw[k2,AE (by rw[BY,ji];exact Al _)];exact k4) w ⟨rfl,rfl,rfl,rfl⟩
     rw[k2]at q4;refine⟨_,_,g',av,h',?_,q1,q2,q3,q4⟩;obtain⟨z,z1,z2⟩:=Vz hT (w:=w) hm;have Ew:=hT.size1 w hm;have e3:(Array.map (fun x:Nat×Operand=>match x with | (i,x)=>(i,ρ x)) ps).toList=ps.toList.map fun(i,x)=>(i,ρ x):=by simp
     have vq:¬(n*(m+1)>2 ^ 24):=by rw[hm]at Ho;have Ho:n*(m+1)≤16777216:=Ho;omega
     simp only[Instr.buildSlice,Sem.run_bind,run_underlying (hT.slice hs),Result.andThen_ok,Ew,Ah vq];rw[e3];rw[hm]at k5
     by_cases h0:n*(m+1)=0
     ·have sU:n=0:=by
       rcases Nat.mul_eq_zero.1 h0 with h | h
       ·exact h
       ·cases h
      subst sU;have er:Array.range 0=#[]:=rfl;simp only[IF,er,List.map_toArray,E1]at k5;simp only[IF,QK,er,List.map_toArray,E1,k5];simp[newRow]
     ·rw[z2]at k5;simp only[Array.toArray_toList]at k5;simp only[Ah h0,Sem.run_bind,z1,Result.andThen_ok,Sem.run_pure,k5];simp[newRow]
    ·exact hk.elim
  ·exact hk.elim
 ·exact hk.elim
end
theorem FQ{sz:Nat}:∀{es:List (List AV)},Df sz es→∀c∈es,c.length=sz
 | [],_,c,h=>by cases h
 |d::es,h,c,hc=>by
  rcases Au.1 hc with rfl | hc
  ·exact h.1
  ·exact FQ h.2 c hc
def N5(w:World)(x:Value)(n sz:Nat)(news:List Value):Prop :=
 news.length=n*sz∧(∀v∈news,v.oneCell'=true)∧∃(a:Option Addr) (c:Nat),x=.slice a n c∧(n=0∨∃b:Addr,a=some b∧∀j u,news[j]?=some u→w.cell? (b.add j)=some u)
theorem N5.of_rep{g:Gh}{w:World}{U:Nat→Prop}{es:List (List AV)}{sz:Nat}{x:Value}(h:BD g w U (.slice .none es) x)(hl:∀c∈es,c.length=sz) :
  ∃news,N5 w x es.length sz news∧Cu g w Fi es.flatten news:=by
 cases h with
 |snil _ a cap=>exact⟨[],⟨by simp,by simp,a,cap,rfl,.inl rfl⟩,by simp,by simp,fun i av x h1 h2=>by simp at h2⟩
 |slice _ _ b off Gq cap val hc PG Dw Ed =>
  have hf:=C3 hl;have key:∀j,j<es.length*sz→∃cs,es[j / sz]?=some cs∧es.flatten[j]?=cs[j % sz]?∧j % sz<cs.length∧Gq=sz∧j=j / sz*sz+j % sz:=by
   intro j hj;have Zg:0<sz:=Nat.pos_of_ne_zero (fun e=>by rw[e]at hj;omega);have pc:j=j / sz*sz+j % sz:=by rw[Nat.mul_comm];exact(Uv j sz).symm
   have hi:j / sz<es.length:=(Lj Zg).2 hj;have XL:j % sz<sz:=Nat.mod_lt _ Zg;have h1:es[j / sz]?=some es[j / sz]:=At hi;have h2:=Fa hl h1 XL;rw[←pc]at h2;have h3:=hl _ (AC hi);exact⟨_,h1,h2,by rw[h3];exact XL,by rw[←h3];exact(PG _ _ h1).symm,pc⟩
  have Wi:∀j,j<es.length*sz→∃av,es.flatten[j]?=some av∧w.cell? ⟨b,off+j,none⟩=some (val (j / sz) (j % sz))∧(val (j / sz) (j % sz)).oneCell'=true∧BD g w Fi av (val (j / sz) (j % sz)):=by
   intro j hj;obtain⟨cs,k1,k2,k3,rfl,k5⟩:=key j hj;have fK:cs[j % Gq]?=some cs[j % Gq]:=At k3;obtain⟨_,c2,c3⟩:=Dw _ _ _ _ k1 fK;rw[Gr,←k5]at c2;exact⟨_,k2.trans fK,c2,c3,Ed _ _ _ _ k1 fK⟩
  refine⟨(List.range (es.length*sz)).map fun j=>val (j / sz) (j % sz),⟨by simp,fun v hv=>?_,some ⟨b,off,none⟩,cap,rfl,.inr ⟨_,rfl,fun j u hu=>?_⟩⟩,by rw[hf];simp,fun v hv=>?_,fun i av x h1 h2=>?_⟩
  ·obtain⟨j,hj,rfl⟩:=Ak.1 hv;obtain⟨_,_,_,c,_⟩:=Wi j (List.mem_range.1 hj);exact c
  ·obtain⟨hj,rfl⟩:=GQ hu;rw[Addr.add_lit];exact(Wi j hj).choose_spec.2.1
  ·obtain⟨j,hj,rfl⟩:=Ak.1 hv;obtain⟨_,_,_,c,_⟩:=Wi j (List.mem_range.1 hj);exact c
  ·obtain⟨hj,rfl⟩:=GQ h2;obtain⟨pA,c1,_,_,c4⟩:=Wi i hj;rw[h1]at c1;cases c1;exact c4
section
variable {P:Program}{T:Gs}(hT:Cn P T)
include hT
theorem Hs{e n:Nat}(hs:(T e).size=n+1):∃i z,P.info? e=some i∧i.zero=some z∧i.size=(T e).size∧i.bytes=(T e).bytes∧(T e).zc=z.cells.toList:=by
 rcases hT e with h | h
 ·rw[h]at hs;cases hs
 unfold dC at h;split at h
 ·split at h
  ·rename_i d i h1 h2 _ z h3;exact⟨i,z,h2,h3,by rw[h],by rw[h],by rw[TI.zc_cells,h]⟩
  ·rw[h]at hs;cases hs
 ·rw[h]at hs;cases hs
theorem II(w:World){t e ty k:Nat}(ht:(T t).d=.slice e)(hk:(T e).size=k+1)(a a' : Option Addr)(n cap c:Nat)(hc:n≤cap) :
  (Builtin.append_ #[t,t] ty #[.slice a n cap,.slice a' 0 c]).run P w=.ok (.slice a n cap) w:=by
 have hu:=hT.slice ht;cases a<;>cases a'<;>simp[Builtin.append_,run_underlying hu,hT.size1 w hk,Builtin.lenOf,hc,Builtin.firstCells,loadCells,loadCellsFrom,storeCells]
theorem HP(w:World){t e ty k:Nat}(ht:(T t).d=.slice e)(hk:(T e).size=k+1)(hz:(T e).zc.length=(T e).size){s x:Value}{n m cap c:Nat}{olds news:List Value}{a a' : Option Addr}
  (hso:N5 w s n (T e).size olds) (hs:s=.slice a n cap) (OH:a=none→cap=0) (hsx:N5 w x m (T e).size news) (hx:x=.slice a' m c) (hm:0<m) (hg:cap<n+m) (hb:(n+m)*(T e).bytes≤140737488355328) (h63:n+m≤9223372036854775807) :
  ∃nc rest,(Builtin.append_ #[t,t] ty #[s,x]).run P w=.ok (.slice (some ⟨w.heap.size,0,none⟩) (n+m) nc) (w.drew.alloc (.cells (olds++news++rest).toArray e (0,0)))∧n+m≤nc ∧
   (olds++news++rest).length=nc*(T e).size:=by
 obtain⟨i,z,i1,i2,i3,i4,i5⟩:=Hs hT hk;have hu:=hT.slice ht;obtain⟨n1,n2,a1,c1,n3,n4⟩:=hsx;subst hx;cases n3;rcases n4 with h | ⟨b,rfl,IQ⟩
 ·omega
 ·have MQ:z.cells.size=(T e).size:=by rw[←hz,i5];simp
  have lR:∀(nc:Nat) (pre:List Value),pre.length=(n+m)*(T e).size→n+m≤nc→(pre++(Builtin.zeroCells z.cells (nc-(n+m))).toList).length=nc*(T e).size:=by
   intro nc pre hp Ho;have e1:(Builtin.zeroCells z.cells (nc-(n+m))).toList.length=(nc-(n+m))*(T e).size:=by simp only[BY,size_zeroCells,MQ]
   rw[Ad,e1,hp,←EL]
   congr 1;omega
  obtain⟨o1,o2,a2,c2,o3,o4⟩:=hso;subst hs;cases o3;cases a with
  |none =>
   obtain rfl:=OH rfl;have sU:n=0:=by
    rcases o4 with h | ⟨b',h,_⟩
    ·exact h
    ·cases h
   subst sU;have ho:olds=[]:=AN (by simpa using o1);subst ho;have hr:=run_append_nil (P:=P) w t ty e i z hu i1 i2 b m c news (by rw[i3];exact n1) IQ hm (by omega) (by rw[i4];rw[Bg]at hb;omega);refine⟨grownCap w m 0 e,(Builtin.zeroCells z.cells (grownCap w m 0 e-m)).toList,?_,by rw[Bg];exact grownCap_ge w m 0 e,?_⟩
   ·rw[hr,Bg]
    congr 3
    apply NY;simp
   ·have:=lR (grownCap w m 0 e) news (by rw[Bg];exact n1) (by rw[Bg];exact grownCap_ge w m 0 e)
    rw[Bg]at this;simpa using this
  |some b' =>
   have GC:∀j u,olds[j]?=some u→w.cell? (b'.add j)=some u:=by
    rcases o4 with h | ⟨b2,h,h'⟩
    ·intro j u hj;rw[h,IF]at o1
     have:olds=[]:=AN o1
     rw[this]at hj;simp at hj
    ·cases h;exact h'
   have hr:=run_append_grow (P:=P) w t ty e i z hu i1 i2 b' n cap olds (by rw[i3];exact o1) GC b m c news (by rw[i3];exact n1) IQ hg (by omega) (by rw[i4];exact growslice_fits hg hb);refine⟨grownCap w (n+m) cap e,(Builtin.zeroCells z.cells (grownCap w (n+m) cap e-(n+m))).toList,?_,grownCap_ge w (n+m) cap e,lR _ _ (by rw[Ad,o1,n1,←EL]) (grownCap_ge w (n+m) cap e)⟩;rw[hr]
   congr 3
   apply NY;simp
end
end Go.Eng
