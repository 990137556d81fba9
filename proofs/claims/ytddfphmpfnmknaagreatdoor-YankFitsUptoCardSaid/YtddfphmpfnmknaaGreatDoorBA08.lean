/- Lemmas for the claims of this seat, without a condition: part 8 (EngN, EngO, EngP, EngQ). -/
import Derived.Test.YtddfphmpfnmknaaGreatDoorBA07
namespace Go.Eng
def NF(P:Program)(w0:World)(g0:Gh)(h0 h:Nat→HO)(g:Gh)(w:World)(m:Sem Value)(K:HK):Prop :=
 ∃x w' g' av h',m.run P w=.ok x w'∧K av h'∧Dz w0 g0 h0 h' g' w'∧Le h g w h' g' w'∧BC g' w' (AQ h') av x
def cU(P:Program)(w0:World)(g0:Gh)(h0 h:Nat→HO)(g:Gh)(w:World)(m:Sem Unit)(K:HK):Prop :=
 ∃w' g' h',m.run P w=.ok () w'∧K (.v undef) h'∧Dz w0 g0 h0 h' g' w'∧Le h g w h' g' w'
section
variable {P:Program}{w0:World}{g0:Gh}{h0 h:Nat→HO}{g:Gh}{w:World}(hI:Dz w0 g0 h0 h g w)
include hI
theorem BF.does{m:Sem Value}{K:HK}(hg:BF P h g w m (fun v=>K v h)):NF P w0 g0 h0 h g w m K :=
 let ⟨x,av,h1,h2,h3⟩:=hg
 ⟨x,w,g,av,h,h1,h2,hI,.refl _ _ _,h3⟩
theorem Dz.newOwn{d:Nat}(hd:h d=.free)(o' : HO)(ob:Obj)(x:Value)(n:Nat)(t:Bool)(w1:World)(KA:w1.heap=w.heap∧w1.os=w.os∧w1.tape=w.tape∧w1.output=w.output)(Dt:o'≠.free)
  (I6:JI g (g.upd d x n t (some w.heap.size) g.S) (AQ h)→Ey g w (g.upd d x n t (some w.heap.size) g.S) (w1.alloc ob) →
   D1 (g.upd d x n t (some w.heap.size) g.S) (w1.alloc ob) (AQ (AU h d o')) d o') :
  Dz w0 g0 h0 (AU h d o') (g.upd d x n t (some w.heap.size) g.S) (w1.alloc ob)∧Le h g w (AU h d o') (g.upd d x n t (some w.heap.size) g.S) (w1.alloc ob):=by
 refine hI.upd d o' x n t _ _ _ none ⟨KA.2.1,KA.2.2.1,KA.2.2.2,by rw[World.size_alloc,KA.1];omega⟩ (fun k hk _=>?_) (fun b e=>by cases e) (fun _ _ h=>h) (fun _ _ h=>.inl h) (fun b o e=>by cases e)
  (fun b _ e=>?_) Dt (fun hu=>absurd hd hu) I6
 ·rw[heap_alloc_old _ _ (by rw[KA.1];exact hk),KA.1]
 ·cases e;rw[World.size_alloc,KA.1];exact⟨by omega,.inr (Am _)⟩
def Gh.more(g:Gh)(b n:Nat):Nat→Nat→Prop:=fun b' o=>g.S b' o∨(b'=b∧o<n)
theorem Dz.newStable{d:Nat}(hd:h d=.free)(o' : HO)(vs:Array Value)(E:TypeId)(m:Nat)(x:Value)(n:Nat)(t:Bool)(w1:World)(KA:w1.heap=w.heap∧w1.os=w.os∧w1.tape=w.tape∧w1.output=w.output)(Dt:o'≠.free)
  (I6:JI g (g.upd d x n t none (g.more w.heap.size m)) (AQ h)→Ey g w (g.upd d x n t none (g.more w.heap.size m)) (w1.alloc (.cells vs E (0,0))) →
   D1 (g.upd d x n t none (g.more w.heap.size m)) (w1.alloc (.cells vs E (0,0))) (AQ (AU h d o')) d o') :
  Dz w0 g0 h0 (AU h d o') (g.upd d x n t none (g.more w.heap.size m)) (w1.alloc (.cells vs E (0,0))) ∧
   Le h g w (AU h d o') (g.upd d x n t none (g.more w.heap.size m)) (w1.alloc (.cells vs E (0,0))):=by
 refine hI.upd d o' x n t _ _ _ none ⟨KA.2.1,KA.2.2.1,KA.2.2.2,by rw[World.size_alloc,KA.1];omega⟩ (fun k hk _=>?_) (fun b e=>by cases e) (fun _ _ h=>.inl h) (fun b o hb=>?_) (fun b o e=>by cases e)
  (fun b _ e=>by cases e) Dt (fun hu=>absurd hd hu) I6
 ·rw[heap_alloc_old _ _ (by rw[KA.1];exact hk),KA.1]
 ·rcases hb with hb | ⟨rfl,_⟩
  ·exact .inl hb
  ·exact .inr ⟨by rw[World.size_alloc,KA.1];omega,.inl (Am _)⟩
end
theorem Bw(g:Gh)(r:Nat)(x:Value)(n:Nat)(t:Bool)(o:Option Nat)(S:Nat→Nat→Prop) :
  (g.upd r x n t o S).ρ r=x∧(g.upd r x n t o S).ln r=n∧(g.upd r x n t o S).tk r=t∧(g.upd r x n t o S).own r=o:=by simp[Gh.upd]
theorem Hq(w:World)(o:Obj){b:Nat}(hb:b=w.heap.size):(w.alloc o).heap[b]?=some o:=by subst hb;exact heap_alloc_new w o
theorem BC.cptr_row{g:Gh}{w:World}{U:Nat→Prop}{b:Nat}{cs:List AV}{vs:Array Value}{E:TypeId}{f:Nat×Nat}(hb:w.heap[b]?=some (.cells vs E f))(hr:Cu g w E8 cs vs.toList)
  (hS:∀o,o<cs.length→g.S b o):BC g w U (.cptr cs) (.pointer (some ⟨b,0,none⟩)):=by
 refine .cptr U cs b 0 (fun j=>vs[j]?.getD default) (fun j av hj=>?_) (fun j av hj=>?_)
 ·obtain⟨x,x1,x2,x3⟩:=hr.at hj;rw[A1]at x1;refine⟨hS _ (by rw[Bg];exact(Ap.1 hj).1),?_,?_⟩
  ·rw[Ft hb,Bg,x1];rfl
  ·rw[x1];exact x2
 ·obtain⟨x,x1,x2,x3⟩:=hr.at hj;rw[A1]at x1;rw[x1];exact x3
theorem BC.slice_off{g:Gh}{w:World}{U:Nat→Prop}{b off sz cap:Nat}{es:List (List AV)}{vs:Array Value}{E:TypeId}{f:Nat×Nat}(hb:w.heap[b]?=some (.cells vs E f))(hl:∀cs∈es,cs.length=sz)
  (hc:es.length≤cap) (hr:Cu g w E8 es.flatten ((vs.toList.drop off).take (es.length*sz))) (hS:∀o,o<es.length*sz→g.S b (off+o)):BC g w U (.slice .none es) (.slice (some ⟨b,off,none⟩) es.length cap):=by
 have key:∀(i:Nat) (cs:List AV) (j:Nat) (av:AV),es[i]?=some cs→cs[j]?=some av→∃x,vs[off+(i*sz+j)]?=some x∧x.oneCell'=true∧BC g w E8 av x∧i*sz+j<es.length*sz:=by
  intro i cs j av h1 h2;have hcl:=hl cs (Ar h1);have hj:j<sz:=by rw[←hcl];exact(Ap.1 h2).1
  have hi:=(Ap.1 h1).1;have Ds:i*sz+j<es.length*sz:=by
   have:=Be sz (show i+1≤es.length from hi)
   rw[DS]at this;omega
  have hf:=E3 hl h1 hj;rw[h2]at hf;obtain⟨x,x1,x2,x3⟩:=hr.at hf;rw[BB Ds,Dq,A1]at x1;exact⟨x,x1,x2,x3,Ds⟩
 refine .slice U es b off sz cap (fun i j=>vs[off+(i*sz+j)]?.getD default) hc (fun i cs h=>hl cs (Ar h)) (fun i cs j av h1 h2=>?_) (fun i cs j av h1 h2=>?_)
 ·obtain⟨x,x1,x2,x3,x4⟩:=key i cs j av h1 h2;rw[Gd];refine⟨hS _ x4,?_,?_⟩
  ·rw[Ft hb,x1];rfl
  ·rw[x1];exact x2
 ·obtain⟨x,x1,x2,x3,x4⟩:=key i cs j av h1 h2;rw[x1];exact x3
theorem BC.slice_row{g:Gh}{w:World}{U:Nat→Prop}{b sz cap:Nat}{es:List (List AV)}{vs:Array Value}{E:TypeId}{f:Nat×Nat}(hb:w.heap[b]?=some (.cells vs E f))(hl:∀cs∈es,cs.length=sz)
  (hc:es.length≤cap) (hr:Cu g w E8 es.flatten (vs.toList.take (es.length*sz))) (hS:∀o,o<es.length*sz→g.S b o):BC g w U (.slice .none es) (.slice (some ⟨b,0,none⟩) es.length cap):=by
 have key:∀(i:Nat) (cs:List AV) (j:Nat) (av:AV),es[i]?=some cs→cs[j]?=some av→∃x,vs[i*sz+j]?=some x∧x.oneCell'=true∧BC g w E8 av x∧i*sz+j<es.length*sz:=by
  intro i cs j av h1 h2;have hcl:=hl cs (Ar h1);have hj:j<sz:=by rw[←hcl];exact(Ap.1 h2).1
  have hi:=(Ap.1 h1).1;have Ds:i*sz+j<es.length*sz:=by
   have:=Be sz (show i+1≤es.length from hi)
   rw[DS]at this;omega
  have hf:=E3 hl h1 hj;rw[h2]at hf;obtain⟨x,x1,x2,x3⟩:=hr.at hf;rw[BB Ds,A1]at x1;exact⟨x,x1,x2,x3,Ds⟩
 refine .slice U es b 0 sz cap (fun i j=>vs[i*sz+j]?.getD default) hc (fun i cs h=>hl cs (Ar h)) (fun i cs j av h1 h2=>?_) (fun i cs j av h1 h2=>?_)
 ·obtain⟨x,x1,x2,x3,x4⟩:=key i cs j av h1 h2;rw[Bg];refine⟨hS _ x4,?_,?_⟩
  ·rw[Ft hb,x1];rfl
  ·rw[x1];exact x2
 ·obtain⟨x,x1,x2,x3,x4⟩:=key i cs j av h1 h2;rw[x1];exact x3
section
variable {P:Program}{w0:World}{g0:Gh}{h0 h:Nat→HO}{g:Gh}{w:World}
theorem Qo(hI:Dz w0 g0 h0 h g w){d:Nat}(hd:h d=.free){cs:List AV}{vs:Array Value}(E:TypeId)(hr:Cu g w (AQ h) cs vs.toList) :
  ∃g',Dz w0 g0 h0 (AU h d (.cells cs)) g' (w.alloc (.cells vs E (0,0)))∧Le h g w (AU h d (.cells cs)) g' (w.alloc (.cells vs E (0,0))) ∧
   BC g' (w.alloc (.cells vs E (0,0))) (AQ (AU h d (.cells cs))) (.ref d 0) (.pointer (some ⟨w.heap.size,0,none⟩)):=by
 obtain⟨k1,k2⟩:=hI.newOwn hd (.cells cs) (.cells vs E (0,0)) (.pointer (some ⟨w.heap.size,0,none⟩)) 0 false w ⟨rfl,rfl,rfl,rfl⟩ (by simp) (fun hg hk=>by
  obtain⟨u1,u2,u3,u4⟩:=Bw g d (.pointer (some ⟨w.heap.size,0,none⟩)) 0 false (some w.heap.size) g.S;exact⟨u3,w.heap.size,E,vs,u4,u1,Hq w _ rfl,hr.mono hk (fun i hi=>DG (by simp) i hi) hg,fun o ho=>by have:=hI.slt _ _ ho;omega⟩)
 refine⟨_,k1,k2,.ref _ d 0 w.heap.size (by unfold AQ;rw[A9];simp) ?_ ?_⟩
 ·simp[Gh.upd]
 ·simp[Gh.upd]
theorem fL(hI:Dz w0 g0 h0 h g w){d:Nat}(hd:h d=.free){cs:List AV}{vs:Array Value}(E:TypeId)(hr:Cu g w E8 cs vs.toList) :
  ∃g',Dz w0 g0 h0 (AU h d (.ro cs)) g' (w.alloc (.cells vs E (0,0)))∧Le h g w (AU h d (.ro cs)) g' (w.alloc (.cells vs E (0,0))) ∧
   BC g' (w.alloc (.cells vs E (0,0))) (AQ (AU h d (.ro cs))) (.ref d 0) (.pointer (some ⟨w.heap.size,0,none⟩)):=by
 obtain⟨k1,k2⟩:=hI.newStable hd (.ro cs) vs E cs.length (.pointer (some ⟨w.heap.size,0,none⟩)) 0 false w ⟨rfl,rfl,rfl,rfl⟩ (by simp) (fun hg hk=>by
  obtain⟨u1,u2,u3,u4⟩:=Bw g d (.pointer (some ⟨w.heap.size,0,none⟩)) 0 false none (g.more w.heap.size cs.length);exact⟨u3,w.heap.size,u1,BC.cptr_row (Hq w _ rfl) (hr.mono hk (fun _ h=>h) (fun _ h=>h.elim)) (fun o ho=>.inr ⟨rfl,ho⟩)⟩)
 refine⟨_,k1,k2,.ref _ d 0 w.heap.size (by unfold AQ;rw[A9];simp) ?_ ?_⟩
 ·simp[Gh.upd]
 ·simp[Gh.upd]
theorem JC(hI:Dz w0 g0 h0 h g w){cx:Cx}{d:Option Nat}{sz:Nat}{es:List (List AV)}{K:HK}(hk:Er cx d h sz es K){vs:Array Value}{cap:Nat}(E:TypeId)(hl:∀cs∈es,cs.length=sz)
  (hc:es.length≤cap) (hs:vs.size=cap*sz) (hr:Cu g w E8 es.flatten (vs.toList.take (es.length*sz))) (w1:World) (KA:w1.heap=w.heap∧w1.os=w.os∧w1.tape=w.tape∧w1.output=w.output) :
  ∃g' av h',K av h'∧Dz w0 g0 h0 h' g' (w1.alloc (.cells vs E (0,0)))∧Le h g w h' g' (w1.alloc (.cells vs E (0,0))) ∧
   BC g' (w1.alloc (.cells vs E (0,0))) (AQ h') av (.slice (some ⟨w.heap.size,0,none⟩) es.length cap):=by
 have EJ:(w1.alloc (.cells vs E (0,0))).heap[w.heap.size]?=some (.cells vs E (0,0)):=Hq w1 _ (by rw[KA.1]);unfold Er at hk;split at hk
 ·exact hk.elim
 ·rename_i d;generalize Kf cx d=d1 at hk;split at hk
  ·rename_i hd;split at hk
   ·obtain⟨k1,k2⟩:=hI.newOwn hd (.arr sz es) (.cells vs E (0,0)) (.slice (some ⟨w.heap.size,0,none⟩) es.length cap) es.length true w1 KA (by simp) (fun hg HL=>by
     obtain⟨u1,u2,u3,u4⟩:=Bw g d1 (.slice (some ⟨w.heap.size,0,none⟩) es.length cap) es.length true (some w.heap.size) g.S;exact⟨u3,u2,hl,.inr ⟨w.heap.size,cap,E,vs,u1,u4,hc,EJ,hs,hr.mono HL (fun _ h=>h) (fun _ h=>h.elim),fun o ho=>by have:=hI.slt _ _ ho;omega⟩⟩)
    refine⟨_,_,_,hk,k1,k2,.msl _ d1 es.length _ cap (by unfold AQ;rw[A9];simp) ?_ ?_ (.inr ⟨_,rfl⟩) ?_⟩<;>simp[Gh.upd]
   ·by_cases eD:es.length=cap
    ·obtain⟨k1,k2⟩:=hI.newStable hd (.tok sz es.length) vs E (es.length*sz) (.slice (some ⟨w.heap.size,0,none⟩) es.length cap) es.length true w1 KA (by simp) (fun hg HL=>by
      obtain⟨u1,u2,u3,u4⟩:=Bw g d1 (.slice (some ⟨w.heap.size,0,none⟩) es.length cap) es.length true none (g.more w.heap.size (es.length*sz));exact⟨u3,u2,_,cap,u1,.inl ⟨eD,u4⟩⟩)
     refine⟨_,_,_,hk,k1,k2,.tok _ d1 sz es _ (BC.slice_row EJ hl hc (hr.mono k2.keeps (fun _ h=>h) (fun _ h=>h.elim)) (fun o ho=>.inr ⟨rfl,ho⟩)) hl (by unfold AQ;rw[A9];simp) ?_ ?_ ?_⟩<;>simp[Gh.upd]
    ·have nV:=hI.upd d1 (.tok sz es.length) (.slice (some ⟨w.heap.size,0,none⟩) es.length cap) es.length true (some w.heap.size) (g.more w.heap.size (es.length*sz)) (w1.alloc (.cells vs E (0,0))) none
      ⟨KA.2.1,KA.2.2.1,KA.2.2.2,by rw[World.size_alloc,KA.1];omega⟩ (fun k JP _=>by rw[heap_alloc_old _ _ (by rw[KA.1];exact JP),KA.1]) (fun b e=>by cases e) (fun _ _ h=>.inl h)
      (fun b o hb=>by
       rcases hb with hb | ⟨rfl,_⟩
       ·exact .inl hb
       ·exact .inr ⟨by rw[World.size_alloc,KA.1];omega,.inl (Am _)⟩) (fun b o e=>by cases e)
      (fun b _ e=>by cases e;rw[World.size_alloc,KA.1];exact⟨by omega,.inr (Am _)⟩) (by simp) (fun hu=>absurd hd hu) (fun hg HL=>by
       obtain⟨u1,u2,u3,u4⟩:=Bw g d1 (.slice (some ⟨w.heap.size,0,none⟩) es.length cap) es.length true (some w.heap.size) (g.more w.heap.size (es.length*sz));exact⟨u3,u2,_,cap,u1,.inr ⟨hc,w.heap.size,E,vs,0,rfl,u4,EJ,by rw[hs,Bg],fun o ho=>by
        rcases ho with ho | ⟨_,ho⟩
        ·have:=hI.slt _ _ ho;omega
        ·omega⟩⟩)
     obtain⟨k1,k2⟩:=nV;refine⟨_,_,_,hk,k1,k2,.tok _ d1 sz es _ (BC.slice_row EJ hl hc (hr.mono k2.keeps (fun _ h=>h) (fun _ h=>h.elim)) (fun o ho=>.inr ⟨rfl,ho⟩)) hl (by unfold AQ;rw[A9];simp) ?_ ?_ ?_⟩<;>simp[Gh.upd]
  ·exact hk.elim
end
theorem Mq{α:Type}:∀(cs:List α) (o:Nat) (vs:List α),o+vs.length≤cs.length→over cs o vs=cs.take o++vs++cs.drop (o+vs.length)
 | [],o,vs,h=>by
  simp at h;obtain⟨rfl,rfl⟩:=h
  rfl
 |c::cs,o+1,vs,h=>by
  rw[over,Mq cs o vs (by simp at h;omega)];simp only[IH,It,BH,Nat.add_right_comm o 1,List.drop_succ_cons]
 |c::cs,0,[],h=>by simp[over]
 |c::cs,0,v::vs,h=>by
  rw[over,Mq cs 0 vs (by simp at h;omega)];simp
theorem UL{α:Type}(cs:List α)(o n:Nat)(vs:List α)(h:o+vs.length≤n)(hn:n≤cs.length):(over cs o vs).take n=over (cs.take n) o vs:=by
 apply CV;intro i;rw[Fw _ _ _ _ (by simp;omega)]
 by_cases hi:i<n
 ·rw[BB hi,Fw _ _ _ _ (by omega),BB hi]
 ·rw[Ai (by omega),A2 (by rw[AB,Fx];omega),A2 (by simp;omega)]
theorem Lz{α:Type}{n:Nat}:∀{es:List (List α)},(∀c∈es,c.length=n)→∀{i:Nat} {c:List α},es[i]?=some c→∀(o:Nat) (vs:List α),o+vs.length≤n →
  (es.set i (over c o vs)).flatten=over es.flatten (i*n+o) vs
 | [],_,i,c,h,_,_,_=>by simp at h
 |d::es,hl,i,c,h,o,vs,Hb=>by
  have hd:=hl d (Ab ..);have hfl:=CZ (es:=d::es) (n:=n) hl;have Ds:=(Ap.1 h).1;have pZ:i*n+o+vs.length≤(d::es).flatten.length:=by
   rw[hfl]
   have:=Be n (show i+1≤(d::es).length from Ds)
   rw[DS]at this;omega
  have hcl:=hl c (Ar h);apply CV;intro j;rw[Fw _ _ _ _ pZ];have Nc:∀e∈(d::es).set i (over c o vs),e.length=n:=fun e he=>by
   rcases EL he with he | rfl
   ·exact hl e he
   ·rw[Fx];exact hcl
  by_cases hn:n=0
  ·subst hn;have h1:=CZ Nc;have h2:=hfl;simp only[Nat.mul_zero,List.length_eq_zero_iff]at h1 h2;rw[h1,h2]
   have:¬(i*0+o≤j∧j<i*0+o+vs.length):=by omega
   rw[Ai this]
  ·have nX:j=j / n*n+j % n:=by rw[Nat.mul_comm];exact(TW j n).symm
   have W4:j % n<n:=Nat.mod_lt _ (by omega)
   by_cases hj:j / n<(d::es).length
   ·have g1:(d::es)[j / n]?=some ((d::es)[j / n]):=As hj;have g2:((d::es).set i (over c o vs))[j / n]?=some (if i=j / n then over c o vs else(d::es)[j / n]):=by
     rw[List.getElem?_set]
     by_cases e:i=j / n
     ·rw[Ao e,Ao (by omega),Ao e]
     ·rw[Ai e,Ai e];exact g1
    have f1:=E3 hl g1 W4;have f2:=E3 Nc g2 W4;rw[←nX]at f1 f2;rw[f1,f2];split
    ·rename_i e;rw[e]at h;rw[g1]at h;cases h;rw[Fw _ _ _ _ (by omega)];have e2:i*n+o≤j↔o≤j % n:=by rw[e];omega
     have e3:j<i*n+o+vs.length↔j % n<o+vs.length:=by rw[e];omega
     simp only[e2,e3];split
     ·congr 1;rw[e];omega
     ·rfl
    ·rename_i e
     have:¬(i*n+o≤j∧j<i*n+o+vs.length):=by
      rintro⟨q1,q2⟩
      apply e;have a1:i*n≤j:=by omega
      have a2:j<(i+1)*n:=by rw[DS];omega
      have:=(Nat.le_div_iff_mul_le (by omega)).2 a1
      have:=(K2 (by omega)).2 a2
      omega
     rw[Ai this]
   ·have nZ:(d::es).length*n≤j:=by
     have:=Nat.not_lt.1 hj
     have:=(Nat.le_div_iff_mul_le (by omega)).1 this
     exact this
    have:¬(i*n+o≤j∧j<i*n+o+vs.length):=by rw[hfl]at pZ;omega
    rw[Ai this,A2 (by rw[CZ Nc,CH];exact nZ),A2 (by rw[hfl];exact nZ)]
theorem OF{P:Program}{T:Gf}(hT:Cq P T)(w:World){t b off:Nat}{x:Value}{Fq:Array Value}{E:TypeId}(hd:(T t).d≠.other)(hs:x.cells.toList.length=(T t).size)
  (h1:∀v∈x.cells.toList,v.oneCell'=true) (hb:w.heap[b]?=some (.cells Fq E (0,0))) (Hb:off+x.cells.toList.length≤Fq.size) :
  (Instr.storeAt t (.pointer (some ⟨b,off,none⟩)) x).run P w=.ok () (w.setRow b (over Fq.toList off x.cells.toList).toArray):=by
 have I7:=run_storeCells_at P b off E x.cells.toList 0 Fq w hb (by simpa using Hb) h1;simp only[G8]at I7;have Wg : x.cells.size=(T t).size:=by simpa using hs
 rw[Mq _ _ _ (by simpa using Hb)];simp only[Instr.storeAt,Sem.run_bind,Instr.sureAddr,Sem.run_pure,Result.andThen_ok,storeVar,hT.size w hd,Wg,UE,not_true_eq_false,F7];exact I7
section
variable {P:Program}{w0:World}{g0:Gh}{h0 h:Nat→HO}{g:Gh}{w:World}(hI:Dz w0 g0 h0 h g w)
include hI
theorem ao{T:Gf}(hT:Cq P T){d:Option Nat}{e:Nat}{K:HK}(hk:Rn T d h e K):NF P w0 g0 h0 h g w (Instr.alloc e true (.tuple #[])) K:=by
 unfold Rn at hk;split at hk
 ·exact hk.elim
 ·split at hk
  ·rename_i hd;split at hk
   ·exact hk.elim
   ·rename_i Dt;split at hk
    ·rename_i ha;obtain⟨z,z1,z2,_⟩:=ON hT (w:=w) Dt;have hr:Cu g w (AQ h) ((T e).zc.map .v) z.cells.toList:=by rw[z2]at ha⊢;exact Cu.vals ha
     obtain⟨g',k1,k2,k3⟩:=Qo hI hd (vs:=z.cells) e hr;refine⟨_,_,g',_,_,?_,hk,k1,k2,k3⟩;simp[Instr.alloc,z1,newVar,newRow]
    ·exact hk.elim
  ·exact hk.elim
theorem OJ{cs:List AV}{vs:List Value}(hr:Cu g w (AQ h) cs vs):Cu g w E8 (cs.map (str h)) vs:=by
 refine⟨by rw[A7];exact hr.1,hr.2.1,fun i av x h1 h2=>?_⟩;rw[AC,AW]at h1;obtain⟨a,a1,rfl⟩:=h1;exact(hr.2.2 i a x a1 h2).str hI.objs
theorem iG{cx:Cx}{d:Option Nat}{e:Nat}{x:AV}{vx:Value}{K:HK}(hx:BC g w (AQ h) x vx)(hk:aA cx d h e x K):NF P w0 g0 h0 h g w (Instr.box e vx) K:=by
 unfold aA at hk;split at hk
 ·exact hk.elim
 ·split at hk
  ·rename_i hd;split at hk
   ·exact hk.elim
   ·obtain⟨cs,hk,hn,hr⟩:=Mb hx hk;split at hk
    ·obtain⟨g',k1,k2,k3⟩:=fL hI hd (vs:=vx.cells) e (OJ hI hr);exact⟨_,_,g',_,_,rfl,hk,k1,k2,k3⟩
    ·obtain⟨g',k1,k2,k3⟩:=Qo hI hd (vs:=vx.cells) e hr;exact⟨_,_,g',_,_,rfl,hk,k1,k2,k3⟩
  ·exact hk.elim
theorem Dz.write{r b:Nat}(hl:(h r).live)(ho:g.own r=some b)(o' : HO){Fq:Array Value}{E:TypeId}(hb:w.heap[b]?=some (.cells Fq E (0,0)))(new:Array Value)(n:Nat)(ow:Option Nat)(S' : Nat→Nat→Prop)
  (Dt:o'≠.free) (hn:n=g.ln r) (p9:∀b',ow=some b'→b'=b) (hS:∀b o,g.S b o→S' b o) (rD:∀b' o,S' b' o→g.S b' o∨b'=b) (pW:∀o,g.S b o→new[o]?=Fq[o]?)
  (I6:JI g (g.upd r (g.ρ r) n (g.tk r) ow S') (AQ h)→Ey g w (g.upd r (g.ρ r) n (g.tk r) ow S') (w.setRow b new)→(w.setRow b new).heap[b]?=some (.cells new E (0,0)) →
   D1 (g.upd r (g.ρ r) n (g.tk r) ow S') (w.setRow b new) (AQ (AU h r o')) r o') :
  Dz w0 g0 h0 (AU h r o') (g.upd r (g.ρ r) n (g.tk r) ow S') (w.setRow b new)∧Le h g w (AU h r o') (g.upd r (g.ρ r) n (g.tk r) ow S') (w.setRow b new):=by
 have EJ:=setRow_heap w b Fq new E (0,0) hb;have Ds:=(hI.loc r b hl ho).1
 refine hI.upd r o' _ _ _ _ _ _ (some b) ⟨rfl,rfl,rfl,by rw[size_setRow];exact Am _⟩ (fun k hk Dt=>setRow_other w b k new (fun e=>Dt (by rw[e]))) (fun b' e=>by cases e;exact⟨hl,ho⟩) hS (fun b' o hs=>?_)
  (fun b' o e hs=>?_) (fun b' _ e=>?_) Dt (fun _=>⟨rfl,by omega,fun _=>rfl,fun _=>rfl⟩) (fun hg hk=>I6 hg hk EJ)
 ·rcases rD b' o hs with h1 | rfl
  ·exact .inl h1
  ·exact .inr ⟨by rw[size_setRow];exact Ds,.inr ⟨hl,ho⟩⟩
 ·cases e
  refine⟨?_,fun es ck he=>by rw[hb]at he;cases he⟩;rw[Ft EJ,Ft hb];exact pW o hs
 ·obtain rfl:=p9 b' e;exact⟨by rw[size_setRow];exact Ds,.inl ⟨hl,ho⟩⟩
theorem cy{cx:Cx}(hT:Cq P cx.T){t:Nat}{p x:AV}{vp vx:Value}{K:HK}(hp:BC g w (AQ h) p vp)(hx:BC g w (AQ h) x vx)(hk:NA cx h t p x K) :
  cU P w0 g0 h0 h g w (Instr.storeAt t vp vx) K:=by
 unfold NA at hk;split at hk
 ·exact hk.elim
 ·rename_i hd;have h5:=Mb hx hk
  clear hk
  obtain⟨vs,hk,hn,hr⟩:=h5;have Cw:vx.cells.toList.length=vs.length:=hr.1;split at hk
  ·rename_i r off;have ho:=hI.objs r;split at hk
   ·rename_i cs e;obtain⟨Hb,hk⟩:=hk;rw[e]at ho;obtain⟨t0,b,E,Fq,a1,a2,a3,a4,a5⟩:=ho;cases hp with
    |ref _ _ _ b' hu ht kR =>
     rw[a2]at kR;cases kR;have hcs:Fq.toList.length=cs.length:=a4.1;have CB:=OF hT w (t:=t) (off:=off) (x:=vx) hd (by rw[Cw,hn]) hr.2.1 a3 (by rw[Cw];simp at hcs;omega);have hl:(h r).live:=by rw[e];trivial
     have mF:=a4.over hr off Hb;split at hk
     ·obtain⟨k1,k2⟩:=hI.write hl a1 (.ro ((over cs off vs).map (str h))) a3 (over Fq.toList off vx.cells.toList).toArray (g.ln r) none (g.more b cs.length) (by simp) rfl (fun _ e=>by cases e) (fun _ _ h=>.inl h)
       (fun b' o hs=>hs.elim .inl (fun hs=>.inr hs.1)) (fun o hs=>absurd hs (a5 o)) (fun hg HL EJ=>by
        obtain⟨u1,u2,u3,u4⟩:=Bw g r (g.ρ r) (g.ln r) (g.tk r) none (g.more b cs.length);refine⟨u3.trans t0,b,u1.trans a2,BC.cptr_row EJ ?_ (fun o ho=>.inr ⟨rfl,?_⟩)⟩
        ·exact(OJ hI mF).mono HL (fun _ h=>h) (fun _ h=>h.elim)
        ·rw[A7,Fx]at ho;exact ho)
      exact⟨_,_,_,CB,hk,k1,k2⟩
     ·obtain⟨k1,k2⟩:=hI.write hl a1 (.cells (over cs off vs)) a3 (over Fq.toList off vx.cells.toList).toArray (g.ln r) (g.own r) g.S (by simp) rfl (fun b' e=>by rw[a1]at e;cases e;rfl) (fun _ _ h=>h)
       (fun b' o hs=>.inl hs) (fun o hs=>absurd hs (a5 o)) (fun hg HL EJ=>by
        obtain⟨u1,u2,u3,u4⟩:=Bw g r (g.ρ r) (g.ln r) (g.tk r) (g.own r) g.S;exact⟨u3.trans t0,b,E,_,u4.trans a1,u1.trans a2,EJ,mF.mono HL (fun i hi=>DG (by simp) i hi) hg,a5⟩)
      exact⟨_,_,_,CB,hk,k1,k2⟩
   ·exact hk.elim
  ·rename_i r n sz i off;have ho:=hI.objs r;split at hk
   ·rename_i Gc es e;rw[e]at ho;split at hk
    ·rename_i hz;obtain rfl:=AH hz;obtain⟨hnl,cs,hi,Hb,hk⟩:=hk;obtain⟨t1,l1,al,a1⟩:=ho;have Ds:=(Ap.1 hi).1;rcases a1 with ⟨rfl,_⟩ | ⟨b,cap,E,Fq,e1,e2,e3,e4,e5,e6,e7⟩
     ·simp at hi
     ·cases hp with
      |eref _ _ _ _ _ _ b' KG hu ht W5 kR =>
       have kR:=kR (hnl.trans l1.symm);rw[e1]at kR;simp only[Value.slice.injEq,Bj,Addr.mk.injEq]at kR;obtain⟨⟨rfl,_,_⟩,_,_⟩:=kR;have hcl:=al cs (Ar hi);have Sh:i*sz+sz≤es.length*sz:=by
        have:=Be sz (show i+1≤es.length from Ds)
        rwa [DS]at this
       have eI:es.length*sz≤cap*sz:=Be sz e3;have CB:=OF hT w (t:=t) (off:=i*sz+off) (x:=vx) hd (by rw[Cw,hn]) hr.2.1 e4 (by rw[Cw];omega);have hl:(h r).live:=by rw[e];trivial
       have pA : ∀c∈es.set i (over cs off (vs.map (str h))),c.length=sz:=fun c hc=>by
        rcases EL hc with hc | rfl
        ·exact al c hc
        ·rw[Fx];exact hcl
       have hfl:=Lz al hi off (vs.map (str h)) (by rw[A7];exact Hb);have W0:Fq.toList.length=cap*sz:=by rw[BW];exact e5
       have uD:((over Fq.toList (i*sz+off) vx.cells.toList).toArray.toList.take ((es.set i (over cs off (vs.map (str h)))).length*sz))=over (Fq.toList.take (es.length*sz)) (i*sz+off) vx.cells.toList:=by
        rw[CH];exact UL _ _ _ _ (by rw[Cw];omega) (by rw[W0];exact eI)
       have mF:Cu g w E8 (es.set i (over cs off (vs.map (str h)))).flatten ((over Fq.toList (i*sz+off) vx.cells.toList).toArray.toList.take ((es.set i (over cs off (vs.map (str h)))).length*sz)):=by
        rw[uD,hfl];exact e6.over (OJ hI hr) _ (by rw[A7,CZ al];omega)
       split at hk
       ·rename_i j m;have cR:∃x0,vx.cells.toList=[x0]:=by
         revert Cw
         cases vx.cells.toList with
         |nil=>intro Cw;cases Cw
         |cons x0 l=>cases l with
          |nil=>intro _;exact⟨x0,rfl⟩
          |cons _ _=>intro Cw;simp at Cw
        obtain⟨x0,cR⟩:=cR;have D8:=hr.2.2 0 (.msl j m) x0 rfl (by rw[cR];rfl)
        obtain⟨k1,k2⟩:=hI.write hl e2 (.hol sz (es.set i (over cs off [.junk])) i off (.msl j m)) e4 (over Fq.toList (i*sz+off) vx.cells.toList).toArray (g.ln r) (g.own r) g.S (by simp) rfl (fun b' e=>by rw[e2]at e;cases e;rfl) (fun _ _ h=>h)
         (fun b' o hs=>.inl hs) (fun o hs=>absurd hs (e7 o)) (fun hg HL EJ=>by
          obtain⟨u1,u2,u3,u4⟩:=Bw g r (g.ρ r) (g.ln r) (g.tk r) (g.own r) g.S;have mB:i*sz+off<es.length*sz:=by simp only[Ax,AF]at Hb;omega
          refine⟨u3.trans t1,u2.trans (by rw[CH];exact l1),pA,b,cap,E,_,?_,u4.trans e2,by rw[CH];exact e3,EJ,?_,mF.mono HL (fun _ h=>h) (fun _ h=>h.elim),e7,by rw[CH];exact mB,x0,?_,D8.mono HL (fun i hi=>DG (by simp) i hi) hg⟩
          ·rw[u1,e1,CH]
          ·simp only[Fg,Fx,BW];exact e5
          ·rw[←A1,cR,Fw _ _ _ _ (by rw[W0];simp only[Ax,AF];omega),Ao ⟨Am _,by simp only[Ax,AF];omega⟩,F3];rfl)
        exact⟨_,_,_,CB,hk,k1,k2⟩
       ·obtain⟨k1,k2⟩:=hI.write hl e2 (.arr sz (es.set i (over cs off (vs.map (str h))))) e4 (over Fq.toList (i*sz+off) vx.cells.toList).toArray (g.ln r) (g.own r) g.S (by simp) rfl (fun b' e=>by rw[e2]at e;cases e;rfl) (fun _ _ h=>h)
         (fun b' o hs=>.inl hs) (fun o hs=>absurd hs (e7 o)) (fun hg HL EJ=>by
          obtain⟨u1,u2,u3,u4⟩:=Bw g r (g.ρ r) (g.ln r) (g.tk r) (g.own r) g.S;refine⟨u3.trans t1,u2.trans (by rw[CH];exact l1),pA,.inr ⟨b,cap,E,_,?_,u4.trans e2,by rw[CH];exact e3,EJ,?_,mF.mono HL (fun _ h=>h) (fun _ h=>h.elim),e7⟩⟩
          ·rw[u1,e1,CH]
          ·simp only[Fg,Fx,BW];exact e5)
        exact⟨_,_,_,CB,hk,k1,k2⟩
    ·exact hk.elim
   ·exact hk.elim
  ·exact hk.elim
end
theorem bR{α:Type}(c vs:List α)(h:vs.length=c.length):over c 0 vs=vs:=by
 rw[Mq _ _ _ (by omega)];simp[h]
theorem Hz{α:Type}[Inhabited α](n:Nat)(z:List α)(hz:z≠[]):(List.replicate n z).flatten=(List.range (n*z.length)).map fun k=>z[k % z.length]!:=by
 have hl:∀c∈List.replicate n z,c.length=z.length:=fun c hc=>by rw[B7 hc]
 have Yy:0<z.length:=ME.2 hz;apply CV;intro k
 by_cases hk:k<n*z.length
 ·have nX:k=k / z.length*z.length+k % z.length:=by rw[Nat.mul_comm];exact(TW k _).symm
  have W4:k % z.length<z.length:=Nat.mod_lt _ Yy;have hi:k / z.length<n:=(K2 Yy).2 hk;have f1:=E3 hl (i:=k / z.length) (c:=z) (by rw[List.getElem?_replicate,Ao hi]) W4;rw[←nX]at f1;rw[f1];simp[hk,W4]
 ·rw[A2 (by rw[CZ hl,DD];omega),A2 (by simp;omega)]
section
variable {P:Program}{w0:World}{g0:Gh}{h0 h:Nat→HO}{g:Gh}{w:World}(hI:Dz w0 g0 h0 h g w)
include hI
theorem WO{n sz:Nat}{t:Nat→AV}{ρ:Operand→Value}(ht:∀x:Operand,BC g w (AQ h) (ev t x) (ρ x)) :
  ∀{ps:List (Nat×Operand)} {es:List (List AV)} {xs:Array Value} {K:List (List AV)→Prop},es.length=n→(∀c∈es,c.length=sz)→Cu g w E8 es.flatten xs.toList→PZ n sz h es t ps K →
   ∃Fr U0,K Fr∧Fr.length=n∧(∀c∈Fr,c.length=sz)∧Cu g w E8 Fr.flatten U0.toList∧Instr.fill (fun i=>some (i*sz,sz)) xs (ps.map fun(i,x)=>(i,ρ x))=some U0
 | [],es,xs,K,hn,hl,h,hk=>⟨es,xs,hk,hn,hl,h,rfl⟩
 |(i,x)::ps,es,xs,K,hn,hl,h,hk=>by
  unfold PZ at hk;split at hk
  ·rename_i hi;have hi:i<n:=HG hi;have h5:=Mb (ht x) hk
   clear hk
   obtain⟨TB,hk,mD,hr⟩:=h5;have Et:(ρ x).cells.size=sz:=by rw[←mD];simpa using hr.1
   have Wh:=OJ hI hr;obtain⟨c,hc⟩:∃c,es[i]?=some c:=⟨_,As (by omega)⟩;have hcl:=hl c (Ar hc);have Hb:i*sz+sz≤es.flatten.length:=by
    rw[CZ hl,hn]
    have:=Be sz (show i+1≤n from hi)
    rwa [DS]at this
   have hfl:=Lz hl hc 0 (TB.map (str ‹Nat→HO›)) (by rw[A7,mD];omega);rw[bR _ _ (by rw[A7,mD,hcl]),G8]at hfl;have EJ:=h.over Wh (i*sz) (by rw[A7,mD];exact Hb);have io:xs.size=es.flatten.length:=by have:=h.1;rwa [BW]at this
   have e:=M9 (ρ x).cells.toList 0 (i*sz) xs (by rw[BW];omega);simp only[G8]at e;rw[←e,←hfl]at EJ;obtain⟨Fr,U0,k1,k2,k3,k4,k5⟩:=WO ht (es:=es.set i (TB.map (str _))) (by rw[CH];exact hn) (fun c' nT=>by
    rcases EL nT with nT | rfl
    ·exact hl c' nT
    ·rw[A7];exact mD) EJ hk
   refine⟨Fr,U0,k1,k2,k3,k4,?_⟩;simp only[AJ,Instr.fill];have e2:(ρ x).cells.zipIdx.foldl (fun cs (c,j)=>cs.setIfInBounds (i*sz+j) c) xs=((ρ x).cells.toList.zipIdx 0).foldl (fun(cs:Array Value) (p:Value×Nat)=>cs.setIfInBounds (i*sz+p.2) p.1) xs:=by
    rw[←Array.foldl_toList];simp
   rw[Ai (by simp[Et];omega),e2];exact k5
  ·exact hk.elim
theorem Rw{cx:Cx}(hT:Cq P cx.T){d:Option Nat}{ty n:Nat}{t:Nat→AV}{ρ:Operand→Value}{K:HK}(ht:∀x:Operand,BC g w (AQ h) (ev t x) (ρ x)){ps:Array (Nat×Operand)}
  (hk:Ie cx d h ty n t ps.toList K):NF P w0 g0 h0 h g w (Instr.buildSlice ty n (ps.map fun(i,x)=>(i,ρ x))) K:=by
 unfold Ie at hk;split at hk
 ·rename_i e hs;split at hk
  ·rename_i QH Mz;have Mz:=AH Mz;split at hk
   ·exact hk.elim
   ·rename_i m hm;split at hk
    ·rename_i Hb;have Hb:=HG Hb;have mP:(cx.T e).zc≠[]:=fun e0=>by rw[e0]at Mz;rw[hm]at Mz;cases Mz
     have rM:∀c∈List.replicate n ((cx.T e).zc.map AV.v),c.length=(cx.T e).size:=fun c hc=>by rw[B7 hc,A7];exact Mz
     have pS:Cu g w E8 (List.replicate n ((cx.T e).zc.map AV.v)).flatten ((Array.range (n*(cx.T e).size)).map fun k=>(cx.T e).zc.toArray[k % (cx.T e).zc.toArray.size]!).toList:=by
      have e1:((Array.range (n*(cx.T e).size)).map fun k=>(cx.T e).zc.toArray[k % (cx.T e).zc.toArray.size]!).toList=(List.replicate n (cx.T e).zc).flatten:=by
       rw[Hz n _ mP];simp[Mz]
      have e2:(List.replicate n ((cx.T e).zc.map AV.v)).flatten=(List.replicate n (cx.T e).zc).flatten.map AV.v:=by
       rw[Ri,List.map_replicate]
      rw[e1,e2];refine Cu.vals ?_;have GE:∀l:List AV,(∀a∈l,one a=true)→GL l=true:=by
       intro l
       induction l with
       |nil=>intro _;rfl
       |cons a l ih=>intro h;simp[GL,h a (List.mem_cons_self ..),ih (fun b hb=>h b (List.mem_cons_of_mem _ hb))]
      refine GE _ (fun a ha=>?_);obtain⟨x,hx,rfl⟩:=Al.1 ha;obtain⟨l,hl,hx⟩:=Eh.1 hx;rw[B7 hl]at hx;exact L5 QH _ (Al.2 ⟨x,hx,rfl⟩)
     obtain⟨Fr,U0,k1,k2,k3,k4,k5⟩:=WO hI ht (by rw[DD]) rM pS hk;have io:U0.size=n*(cx.T e).size:=by
      have:=k4.1
      rw[BW,CZ k3,k2]at this;exact this
     obtain⟨g',av,h',q1,q2,q3,q4⟩:=JC hI k1 (vs:=U0) (cap:=n) e k3 (by omega) io (by
      rw[k2,AD (by rw[BW,io];exact Am _)];exact k4) w ⟨rfl,rfl,rfl,rfl⟩
     rw[k2]at q4;refine⟨_,_,g',av,h',?_,q1,q2,q3,q4⟩;obtain⟨z,z1,z2⟩:=U3 hT (w:=w) hm;have Et:=hT.size1 w hm;have e3:(Array.map (fun x:Nat×Operand=>match x with | (i,x)=>(i,ρ x)) ps).toList=ps.toList.map fun(i,x)=>(i,ρ x):=by simp
     have ui:¬(n*(m+1)>2 ^ 24):=by rw[hm]at Hb;have Hb:n*(m+1)≤16777216:=Hb;omega
     simp only[Instr.buildSlice,Sem.run_bind,run_underlying (hT.slice hs),Result.andThen_ok,Et,Ai ui];rw[e3];rw[hm]at k5
     by_cases h0:n*(m+1)=0
     ·have rO:n=0:=by
       rcases Nat.mul_eq_zero.1 h0 with h | h
       ·exact h
       ·cases h
      subst rO;have er:Array.range 0=#[]:=rfl;simp only[J7,er,List.map_toArray,ET]at k5;simp only[J7,Qg,er,List.map_toArray,ET,k5];simp[newRow]
     ·rw[z2]at k5;simp only[Array.toArray_toList]at k5;simp only[Ai h0,Sem.run_bind,z1,Result.andThen_ok,Sem.run_pure,k5];simp[newRow]
    ·exact hk.elim
  ·exact hk.elim
 ·exact hk.elim
end
theorem FE{sz:Nat}:∀{es:List (List AV)},De sz es→∀c∈es,c.length=sz
 | [],_,c,h=>by cases h
 |d::es,h,c,hc=>by
  rcases Au.1 hc with rfl | hc
  ·exact h.1
  ·exact FE h.2 c hc
def NK(w:World)(x:Value)(n sz:Nat)(news:List Value):Prop :=
 news.length=n*sz∧(∀v∈news,v.oneCell'=true)∧∃(a:Option Addr) (c:Nat),x=.slice a n c∧(n=0∨∃b:Addr,a=some b∧∀j u,news[j]?=some u→w.cell? (b.add j)=some u)
theorem NK.of_rep{g:Gh}{w:World}{U:Nat→Prop}{es:List (List AV)}{sz:Nat}{x:Value}(h:BC g w U (.slice .none es) x)(hl:∀c∈es,c.length=sz) :
  ∃news,NK w x es.length sz news∧Cu g w E8 es.flatten news:=by
 cases h with
 |snil _ a cap=>exact⟨[],⟨by simp,by simp,a,cap,rfl,.inl rfl⟩,by simp,by simp,fun i av x h1 h2=>by simp at h2⟩
 |slice _ _ b off Gc cap val hc Pf Du D8 =>
  have hf:=CZ hl;have key:∀j,j<es.length*sz→∃cs,es[j / sz]?=some cs∧es.flatten[j]?=cs[j % sz]?∧j % sz<cs.length∧Gc=sz∧j=j / sz*sz+j % sz:=by
   intro j hj;have Yy:0<sz:=Nat.pos_of_ne_zero (fun e=>by rw[e]at hj;omega);have nX:j=j / sz*sz+j % sz:=by rw[Nat.mul_comm];exact(TW j sz).symm
   have hi:j / sz<es.length:=(K2 Yy).2 hj;have W4:j % sz<sz:=Nat.mod_lt _ Yy;have h1:es[j / sz]?=some es[j / sz]:=As hi;have h2:=E3 hl h1 W4;rw[←nX]at h2;have h3:=hl _ (At hi);exact⟨_,h1,h2,by rw[h3];exact W4,by rw[←h3];exact(Pf _ _ h1).symm,nX⟩
  have VC:∀j,j<es.length*sz→∃av,es.flatten[j]?=some av∧w.cell? ⟨b,off+j,none⟩=some (val (j / sz) (j % sz))∧(val (j / sz) (j % sz)).oneCell'=true∧BC g w E8 av (val (j / sz) (j % sz)):=by
   intro j hj;obtain⟨cs,k1,k2,k3,rfl,k5⟩:=key j hj;have d9:cs[j % Gc]?=some cs[j % Gc]:=As k3;obtain⟨_,c2,c3⟩:=Du _ _ _ _ k1 d9;rw[Gd,←k5]at c2;exact⟨_,k2.trans d9,c2,c3,D8 _ _ _ _ k1 d9⟩
  refine⟨(List.range (es.length*sz)).map fun j=>val (j / sz) (j % sz),⟨by simp,fun v hv=>?_,some ⟨b,off,none⟩,cap,rfl,.inr ⟨_,rfl,fun j u hu=>?_⟩⟩,by rw[hf];simp,fun v hv=>?_,fun i av x h1 h2=>?_⟩
  ·obtain⟨j,hj,rfl⟩:=Al.1 hv;obtain⟨_,_,_,c,_⟩:=VC j (List.mem_range.1 hj);exact c
  ·obtain⟨hj,rfl⟩:=GF hu;rw[Addr.add_lit];exact(VC j hj).choose_spec.2.1
  ·obtain⟨j,hj,rfl⟩:=Al.1 hv;obtain⟨_,_,_,c,_⟩:=VC j (List.mem_range.1 hj);exact c
  ·obtain⟨hj,rfl⟩:=GF h2;obtain⟨oA,c1,_,_,c4⟩:=VC i hj;rw[h1]at c1;cases c1;exact c4
section
variable {P:Program}{T:Gf}(hT:Cq P T)
include hT
theorem Hg{e n:Nat}(hs:(T e).size=n+1):∃i z,P.info? e=some i∧i.zero=some z∧i.size=(T e).size∧i.bytes=(T e).bytes∧(T e).zc=z.cells.toList:=by
 rcases hT e with h | h
 ·rw[h]at hs;cases hs
 unfold cz at h;split at h
 ·split at h
  ·rename_i d i h1 h2 _ z h3;exact⟨i,z,h2,h3,by rw[h],by rw[h],by rw[TI.zc_cells,h]⟩
  ·rw[h]at hs;cases hs
 ·rw[h]at hs;cases hs
theorem Ix(w:World){t e ty k:Nat}(ht:(T t).d=.slice e)(hk:(T e).size=k+1)(a a' : Option Addr)(n cap c:Nat)(hc:n≤cap) :
  (Builtin.append_ #[t,t] ty #[.slice a n cap,.slice a' 0 c]).run P w=.ok (.slice a n cap) w:=by
 have hu:=hT.slice ht;cases a<;>cases a'<;>simp[Builtin.append_,run_underlying hu,hT.size1 w hk,Builtin.lenOf,hc,Builtin.firstCells,loadCells,loadCellsFrom,storeCells]
theorem HB(w:World){t e ty k:Nat}(ht:(T t).d=.slice e)(hk:(T e).size=k+1)(hz:(T e).zc.length=(T e).size){s x:Value}{n m cap c:Nat}{olds news:List Value}{a a' : Option Addr}
  (zx:NK w s n (T e).size olds) (hs:s=.slice a n cap) (Og:a=none→cap=0) (zy:NK w x m (T e).size news) (hx:x=.slice a' m c) (hm:0<m) (hg:cap<n+m) (hb:(n+m)*(T e).bytes≤140737488355328) (h63:n+m≤9223372036854775807) :
  ∃nc rest,(Builtin.append_ #[t,t] ty #[s,x]).run P w=.ok (.slice (some ⟨w.heap.size,0,none⟩) (n+m) nc) (w.drew.alloc (.cells (olds++news++rest).toArray e (0,0)))∧n+m≤nc ∧
   (olds++news++rest).length=nc*(T e).size:=by
 obtain⟨i,z,i1,i2,i3,i4,i5⟩:=Hg hT hk;have hu:=hT.slice ht;obtain⟨n1,n2,a1,c1,n3,n4⟩:=zy;subst hx;cases n3;rcases n4 with h | ⟨b,rfl,ID⟩
 ·omega
 ·have Mz:z.cells.size=(T e).size:=by rw[←hz,i5];simp
  have kM:∀(nc:Nat) (pre:List Value),pre.length=(n+m)*(T e).size→n+m≤nc→(pre++(Builtin.zeroCells z.cells (nc-(n+m))).toList).length=nc*(T e).size:=by
   intro nc pre hp Hb;have e1:(Builtin.zeroCells z.cells (nc-(n+m))).toList.length=(nc-(n+m))*(T e).size:=by simp only[BW,size_zeroCells,Mz]
   rw[Ac,e1,hp,←E2]
   congr 1;omega
  obtain⟨o1,o2,a2,c2,o3,o4⟩:=zx;subst hs;cases o3;cases a with
  |none =>
   obtain rfl:=Og rfl;have rO:n=0:=by
    rcases o4 with h | ⟨b',h,_⟩
    ·exact h
    ·cases h
   subst rO;have ho:olds=[]:=AM (by simpa using o1);subst ho;have hr:=run_append_nil (P:=P) w t ty e i z hu i1 i2 b m c news (by rw[i3];exact n1) ID hm (by omega) (by rw[i4];rw[Bg]at hb;omega);refine⟨grownCap w m 0 e,(Builtin.zeroCells z.cells (grownCap w m 0 e-m)).toList,?_,by rw[Bg];exact grownCap_ge w m 0 e,?_⟩
   ·rw[hr,Bg]
    congr 3
    apply ND;simp
   ·have:=kM (grownCap w m 0 e) news (by rw[Bg];exact n1) (by rw[Bg];exact grownCap_ge w m 0 e)
    rw[Bg]at this;simpa using this
  |some b' =>
   have Gr:∀j u,olds[j]?=some u→w.cell? (b'.add j)=some u:=by
    rcases o4 with h | ⟨b2,h,h'⟩
    ·intro j u hj;rw[h,J7]at o1
     have:olds=[]:=AM o1
     rw[this]at hj;simp at hj
    ·cases h;exact h'
   have hr:=run_append_grow (P:=P) w t ty e i z hu i1 i2 b' n cap olds (by rw[i3];exact o1) Gr b m c news (by rw[i3];exact n1) ID hg (by omega) (by rw[i4];exact growslice_fits hg hb);refine⟨grownCap w (n+m) cap e,(Builtin.zeroCells z.cells (grownCap w (n+m) cap e-(n+m))).toList,?_,grownCap_ge w (n+m) cap e,kM _ _ (by rw[Ac,o1,n1,←E2]) (grownCap_ge w (n+m) cap e)⟩;rw[hr]
   congr 3
   apply ND;simp
end
end Go.Eng
