/- Lemmas for the claims of this seat, without a condition: part 8 (EngN, EngO, EngP, EngQ). -/
import Derived.Test.YtddfphmpfnmknaaGreatDoorCA07
namespace Go.Eng
def N1(P:Program)(w0:World)(g0:Gh)(h0 h:Nat→HO)(g:Gh)(w:World)(m:Sem Value)(K:HK):Prop :=
 ∃x w' g' av h',m.run P w=.ok x w'∧K av h'∧DA w0 g0 h0 h' g' w'∧Le h g w h' g' w'∧BD g' w' (AP h') av x
def dN(P:Program)(w0:World)(g0:Gh)(h0 h:Nat→HO)(g:Gh)(w:World)(m:Sem Unit)(K:HK):Prop :=
 ∃w' g' h',m.run P w=.ok () w'∧K (.v undef) h'∧DA w0 g0 h0 h' g' w'∧Le h g w h' g' w'
section
variable {P:Program}{w0:World}{g0:Gh}{h0 h:Nat→HO}{g:Gh}{w:World}(hI:DA w0 g0 h0 h g w)
include hI
theorem BG.does{m:Sem Value}{K:HK}(hg:BG P h g w m (fun v=>K v h)):N1 P w0 g0 h0 h g w m K :=
 let ⟨x,av,h1,h2,h3⟩:=hg
 ⟨x,w,g,av,h,h1,h2,hI,.refl _ _ _,h3⟩
theorem DA.newOwn{d:Nat}(hd:h d=.free)(o' : HO)(ob:Obj)(x:Value)(n:Nat)(t:Bool)(w1:World)(KP:w1.heap=w.heap∧w1.os=w.os∧w1.tape=w.tape∧w1.output=w.output)(Dr:o'≠.free)
  (Je:JY g (g.upd d x n t (some w.heap.size) g.S) (AP h)→EE g w (g.upd d x n t (some w.heap.size) g.S) (w1.alloc ob) →
   D8 (g.upd d x n t (some w.heap.size) g.S) (w1.alloc ob) (AP (AR h d o')) d o') :
  DA w0 g0 h0 (AR h d o') (g.upd d x n t (some w.heap.size) g.S) (w1.alloc ob)∧Le h g w (AR h d o') (g.upd d x n t (some w.heap.size) g.S) (w1.alloc ob):=by
 refine hI.upd d o' x n t _ _ _ none ⟨KP.2.1,KP.2.2.1,KP.2.2.2,by rw[World.size_alloc,KP.1];omega⟩ (fun k hk _=>?_) (fun b e=>by cases e) (fun _ _ h=>h) (fun _ _ h=>.inl h) (fun b o e=>by cases e)
  (fun b _ e=>?_) Dr (fun hu=>absurd hd hu) Je
 ·rw[heap_alloc_old _ _ (by rw[KP.1];exact hk),KP.1]
 ·cases e;rw[World.size_alloc,KP.1];exact⟨by omega,.inr (Al _)⟩
def Gh.more(g:Gh)(b n:Nat):Nat→Nat→Prop:=fun b' o=>g.S b' o∨(b'=b∧o<n)
theorem DA.newStable{d:Nat}(hd:h d=.free)(o' : HO)(vs:Array Value)(E:TypeId)(m:Nat)(x:Value)(n:Nat)(t:Bool)(w1:World)(KP:w1.heap=w.heap∧w1.os=w.os∧w1.tape=w.tape∧w1.output=w.output)(Dr:o'≠.free)
  (Je:JY g (g.upd d x n t none (g.more w.heap.size m)) (AP h)→EE g w (g.upd d x n t none (g.more w.heap.size m)) (w1.alloc (.cells vs E (0,0))) →
   D8 (g.upd d x n t none (g.more w.heap.size m)) (w1.alloc (.cells vs E (0,0))) (AP (AR h d o')) d o') :
  DA w0 g0 h0 (AR h d o') (g.upd d x n t none (g.more w.heap.size m)) (w1.alloc (.cells vs E (0,0))) ∧
   Le h g w (AR h d o') (g.upd d x n t none (g.more w.heap.size m)) (w1.alloc (.cells vs E (0,0))):=by
 refine hI.upd d o' x n t _ _ _ none ⟨KP.2.1,KP.2.2.1,KP.2.2.2,by rw[World.size_alloc,KP.1];omega⟩ (fun k hk _=>?_) (fun b e=>by cases e) (fun _ _ h=>.inl h) (fun b o hb=>?_) (fun b o e=>by cases e)
  (fun b _ e=>by cases e) Dr (fun hu=>absurd hd hu) Je
 ·rw[heap_alloc_old _ _ (by rw[KP.1];exact hk),KP.1]
 ·rcases hb with hb | ⟨rfl,_⟩
  ·exact .inl hb
  ·exact .inr ⟨by rw[World.size_alloc,KP.1];omega,.inl (Al _)⟩
end
theorem Bw(g:Gh)(r:Nat)(x:Value)(n:Nat)(t:Bool)(o:Option Nat)(S:Nat→Nat→Prop) :
  (g.upd r x n t o S).ρ r=x∧(g.upd r x n t o S).ln r=n∧(g.upd r x n t o S).tk r=t∧(g.upd r x n t o S).own r=o:=by simp[Gh.upd]
theorem Hw(w:World)(o:Obj){b:Nat}(hb:b=w.heap.size):(w.alloc o).heap[b]?=some o:=by subst hb;exact heap_alloc_new w o
theorem BD.cptr_row{g:Gh}{w:World}{U:Nat→Prop}{b:Nat}{cs:List AV}{vs:Array Value}{E:TypeId}{f:Nat×Nat}(hb:w.heap[b]?=some (.cells vs E f))(hr:Ct g w Fg cs vs.toList)
  (hS:∀o,o<cs.length→g.S b o):BD g w U (.cptr cs) (.pointer (some ⟨b,0,none⟩)):=by
 refine .cptr U cs b 0 (fun j=>vs[j]?.getD default) (fun j av hj=>?_) (fun j av hj=>?_)
 ·obtain⟨x,x1,x2,x3⟩:=hr.at hj;rw[A1]at x1;refine⟨hS _ (by rw[Be];exact(Ap.1 hj).1),?_,?_⟩
  ·rw[FA hb,Be,x1];rfl
  ·rw[x1];exact x2
 ·obtain⟨x,x1,x2,x3⟩:=hr.at hj;rw[A1]at x1;rw[x1];exact x3
theorem BD.slice_off{g:Gh}{w:World}{U:Nat→Prop}{b off sz cap:Nat}{es:List (List AV)}{vs:Array Value}{E:TypeId}{f:Nat×Nat}(hb:w.heap[b]?=some (.cells vs E f))(hl:∀cs∈es,cs.length=sz)
  (hc:es.length≤cap) (hr:Ct g w Fg es.flatten ((vs.toList.drop off).take (es.length*sz))) (hS:∀o,o<es.length*sz→g.S b (off+o)):BD g w U (.slice .none es) (.slice (some ⟨b,off,none⟩) es.length cap):=by
 have key:∀(i:Nat) (cs:List AV) (j:Nat) (av:AV),es[i]?=some cs→cs[j]?=some av→∃x,vs[off+(i*sz+j)]?=some x∧x.oneCell'=true∧BD g w Fg av x∧i*sz+j<es.length*sz:=by
  intro i cs j av h1 h2;have hcl:=hl cs (Ar h1);have hj:j<sz:=by rw[←hcl];exact(Ap.1 h2).1
  have hi:=(Ap.1 h1).1;have Dz:i*sz+j<es.length*sz:=by
   have:=Bc sz (show i+1≤es.length from hi)
   rw[D0]at this;omega
  have hf:=Fa hl h1 hj;rw[h2]at hf;obtain⟨x,x1,x2,x3⟩:=hr.at hf;rw[BE Dz,Dp,A1]at x1;exact⟨x,x1,x2,x3,Dz⟩
 refine .slice U es b off sz cap (fun i j=>vs[off+(i*sz+j)]?.getD default) hc (fun i cs h=>hl cs (Ar h)) (fun i cs j av h1 h2=>?_) (fun i cs j av h1 h2=>?_)
 ·obtain⟨x,x1,x2,x3,x4⟩:=key i cs j av h1 h2;rw[Gq];refine⟨hS _ x4,?_,?_⟩
  ·rw[FA hb,x1];rfl
  ·rw[x1];exact x2
 ·obtain⟨x,x1,x2,x3,x4⟩:=key i cs j av h1 h2;rw[x1];exact x3
theorem BD.slice_row{g:Gh}{w:World}{U:Nat→Prop}{b sz cap:Nat}{es:List (List AV)}{vs:Array Value}{E:TypeId}{f:Nat×Nat}(hb:w.heap[b]?=some (.cells vs E f))(hl:∀cs∈es,cs.length=sz)
  (hc:es.length≤cap) (hr:Ct g w Fg es.flatten (vs.toList.take (es.length*sz))) (hS:∀o,o<es.length*sz→g.S b o):BD g w U (.slice .none es) (.slice (some ⟨b,0,none⟩) es.length cap):=by
 have key:∀(i:Nat) (cs:List AV) (j:Nat) (av:AV),es[i]?=some cs→cs[j]?=some av→∃x,vs[i*sz+j]?=some x∧x.oneCell'=true∧BD g w Fg av x∧i*sz+j<es.length*sz:=by
  intro i cs j av h1 h2;have hcl:=hl cs (Ar h1);have hj:j<sz:=by rw[←hcl];exact(Ap.1 h2).1
  have hi:=(Ap.1 h1).1;have Dz:i*sz+j<es.length*sz:=by
   have:=Bc sz (show i+1≤es.length from hi)
   rw[D0]at this;omega
  have hf:=Fa hl h1 hj;rw[h2]at hf;obtain⟨x,x1,x2,x3⟩:=hr.at hf;rw[BE Dz,A1]at x1;exact⟨x,x1,x2,x3,Dz⟩
 refine .slice U es b 0 sz cap (fun i j=>vs[i*sz+j]?.getD default) hc (fun i cs h=>hl cs (Ar h)) (fun i cs j av h1 h2=>?_) (fun i cs j av h1 h2=>?_)
 ·obtain⟨x,x1,x2,x3,x4⟩:=key i cs j av h1 h2;rw[Be];refine⟨hS _ x4,?_,?_⟩
  ·rw[FA hb,x1];rfl
  ·rw[x1];exact x2
 ·obtain⟨x,x1,x2,x3,x4⟩:=key i cs j av h1 h2;rw[x1];exact x3
section
variable {P:Program}{w0:World}{g0:Gh}{h0 h:Nat→HO}{g:Gh}{w:World}
theorem QM(hI:DA w0 g0 h0 h g w){d:Nat}(hd:h d=.free){cs:List AV}{vs:Array Value}(E:TypeId)(hr:Ct g w (AP h) cs vs.toList) :
  ∃g',DA w0 g0 h0 (AR h d (.cells cs)) g' (w.alloc (.cells vs E (0,0)))∧Le h g w (AR h d (.cells cs)) g' (w.alloc (.cells vs E (0,0))) ∧
   BD g' (w.alloc (.cells vs E (0,0))) (AP (AR h d (.cells cs))) (.ref d 0) (.pointer (some ⟨w.heap.size,0,none⟩)):=by
 obtain⟨k1,k2⟩:=hI.newOwn hd (.cells cs) (.cells vs E (0,0)) (.pointer (some ⟨w.heap.size,0,none⟩)) 0 false w ⟨rfl,rfl,rfl,rfl⟩ (by simp) (fun hg hk=>by
  obtain⟨u1,u2,u3,u4⟩:=Bw g d (.pointer (some ⟨w.heap.size,0,none⟩)) 0 false (some w.heap.size) g.S;exact⟨u3,w.heap.size,E,vs,u4,u1,Hw w _ rfl,hr.mono hk (fun i hi=>DJ (by simp) i hi) hg,fun o ho=>by have:=hI.slt _ _ ho;omega⟩)
 refine⟨_,k1,k2,.ref _ d 0 w.heap.size (by unfold AP;rw[A8];simp) ?_ ?_⟩
 ·simp[Gh.upd]
 ·simp[Gh.upd]
theorem gD(hI:DA w0 g0 h0 h g w){d:Nat}(hd:h d=.free){cs:List AV}{vs:Array Value}(E:TypeId)(hr:Ct g w Fg cs vs.toList) :
  ∃g',DA w0 g0 h0 (AR h d (.ro cs)) g' (w.alloc (.cells vs E (0,0)))∧Le h g w (AR h d (.ro cs)) g' (w.alloc (.cells vs E (0,0))) ∧
   BD g' (w.alloc (.cells vs E (0,0))) (AP (AR h d (.ro cs))) (.ref d 0) (.pointer (some ⟨w.heap.size,0,none⟩)):=by
 obtain⟨k1,k2⟩:=hI.newStable hd (.ro cs) vs E cs.length (.pointer (some ⟨w.heap.size,0,none⟩)) 0 false w ⟨rfl,rfl,rfl,rfl⟩ (by simp) (fun hg hk=>by
  obtain⟨u1,u2,u3,u4⟩:=Bw g d (.pointer (some ⟨w.heap.size,0,none⟩)) 0 false none (g.more w.heap.size cs.length);exact⟨u3,w.heap.size,u1,BD.cptr_row (Hw w _ rfl) (hr.mono hk (fun _ h=>h) (fun _ h=>h.elim)) (fun o ho=>.inr ⟨rfl,ho⟩)⟩)
 refine⟨_,k1,k2,.ref _ d 0 w.heap.size (by unfold AP;rw[A8];simp) ?_ ?_⟩
 ·simp[Gh.upd]
 ·simp[Gh.upd]
theorem JR(hI:DA w0 g0 h0 h g w){cx:Cx}{d:Option Nat}{sz:Nat}{es:List (List AV)}{K:HK}(hk:EA cx d h sz es K){vs:Array Value}{cap:Nat}(E:TypeId)(hl:∀cs∈es,cs.length=sz)
  (hc:es.length≤cap) (hs:vs.size=cap*sz) (hr:Ct g w Fg es.flatten (vs.toList.take (es.length*sz))) (w1:World) (KP:w1.heap=w.heap∧w1.os=w.os∧w1.tape=w.tape∧w1.output=w.output) :
  ∃g' av h',K av h'∧DA w0 g0 h0 h' g' (w1.alloc (.cells vs E (0,0)))∧Le h g w h' g' (w1.alloc (.cells vs E (0,0))) ∧
   BD g' (w1.alloc (.cells vs E (0,0))) (AP h') av (.slice (some ⟨w.heap.size,0,none⟩) es.length cap):=by
 have ES:(w1.alloc (.cells vs E (0,0))).heap[w.heap.size]?=some (.cells vs E (0,0)):=Hw w1 _ (by rw[KP.1]);unfold EA at hk;split at hk
 ·exact hk.elim
 ·rename_i d;generalize Ks cx d=d1 at hk;split at hk
  ·rename_i hd;split at hk
   ·obtain⟨k1,k2⟩:=hI.newOwn hd (.arr sz es) (.cells vs E (0,0)) (.slice (some ⟨w.heap.size,0,none⟩) es.length cap) es.length true w1 KP (by simp) (fun hg HT=>by
     obtain⟨u1,u2,u3,u4⟩:=Bw g d1 (.slice (some ⟨w.heap.size,0,none⟩) es.length cap) es.length true (some w.heap.size) g.S;exact⟨u3,u2,hl,.inr ⟨w.heap.size,cap,E,vs,u1,u4,hc,ES,hs,hr.mono HT (fun _ h=>h) (fun _ h=>h.elim),fun o ho=>by have:=hI.slt _ _ ho;omega⟩⟩)
    refine⟨_,_,_,hk,k1,k2,.msl _ d1 es.length _ cap (by unfold AP;rw[A8];simp) ?_ ?_ (.inr ⟨_,rfl⟩) ?_⟩<;>simp[Gh.upd]
   ·by_cases XC:es.length=cap
    ·obtain⟨k1,k2⟩:=hI.newStable hd (.tok sz es.length) vs E (es.length*sz) (.slice (some ⟨w.heap.size,0,none⟩) es.length cap) es.length true w1 KP (by simp) (fun hg HT=>by
      obtain⟨u1,u2,u3,u4⟩:=Bw g d1 (.slice (some ⟨w.heap.size,0,none⟩) es.length cap) es.length true none (g.more w.heap.size (es.length*sz));exact⟨u3,u2,_,cap,u1,.inl ⟨XC,u4⟩⟩)
     refine⟨_,_,_,hk,k1,k2,.tok _ d1 sz es _ (BD.slice_row ES hl hc (hr.mono k2.keeps (fun _ h=>h) (fun _ h=>h.elim)) (fun o ho=>.inr ⟨rfl,ho⟩)) hl (by unfold AP;rw[A8];simp) ?_ ?_ ?_⟩<;>simp[Gh.upd]
    ·have oY:=hI.upd d1 (.tok sz es.length) (.slice (some ⟨w.heap.size,0,none⟩) es.length cap) es.length true (some w.heap.size) (g.more w.heap.size (es.length*sz)) (w1.alloc (.cells vs E (0,0))) none
      ⟨KP.2.1,KP.2.2.1,KP.2.2.2,by rw[World.size_alloc,KP.1];omega⟩ (fun k J6 _=>by rw[heap_alloc_old _ _ (by rw[KP.1];exact J6),KP.1]) (fun b e=>by cases e) (fun _ _ h=>.inl h)
      (fun b o hb=>by
       rcases hb with hb | ⟨rfl,_⟩
       ·exact .inl hb
       ·exact .inr ⟨by rw[World.size_alloc,KP.1];omega,.inl (Al _)⟩) (fun b o e=>by cases e)
      (fun b _ e=>by cases e;rw[World.size_alloc,KP.1];exact⟨by omega,.inr (Al _)⟩) (by simp) (fun hu=>absurd hd hu) (fun hg HT=>by
       obtain⟨u1,u2,u3,u4⟩:=Bw g d1 (.slice (some ⟨w.heap.size,0,none⟩) es.length cap) es.length true (some w.heap.size) (g.more w.heap.size (es.length*sz));exact⟨u3,u2,_,cap,u1,.inr ⟨hc,w.heap.size,E,vs,0,rfl,u4,ES,by rw[hs,Be],fun o ho=>by
        rcases ho with ho | ⟨_,ho⟩
        ·have:=hI.slt _ _ ho;omega
        ·omega⟩⟩)
     obtain⟨k1,k2⟩:=oY;refine⟨_,_,_,hk,k1,k2,.tok _ d1 sz es _ (BD.slice_row ES hl hc (hr.mono k2.keeps (fun _ h=>h) (fun _ h=>h.elim)) (fun o ho=>.inr ⟨rfl,ho⟩)) hl (by unfold AP;rw[A8];simp) ?_ ?_ ?_⟩<;>simp[Gh.upd]
  ·exact hk.elim
end
theorem MM{α:Type}:∀(cs:List α) (o:Nat) (vs:List α),o+vs.length≤cs.length→over cs o vs=cs.take o++vs++cs.drop (o+vs.length)
 | [],o,vs,h=>by
  simp at h;obtain⟨rfl,rfl⟩:=h
  rfl
 |c::cs,o+1,vs,h=>by
  rw[over,MM cs o vs (by simp at h;omega)];simp only[IQ,IA,BI,Nat.add_right_comm o 1,List.drop_succ_cons]
 |c::cs,0,[],h=>by simp[over]
 |c::cs,0,v::vs,h=>by
  rw[over,MM cs 0 vs (by simp at h;omega)];simp
theorem Va{α:Type}(cs:List α)(o n:Nat)(vs:List α)(h:o+vs.length≤n)(hn:n≤cs.length):(over cs o vs).take n=over (cs.take n) o vs:=by
 apply CU;intro i;rw[FD _ _ _ _ (by simp;omega)]
 by_cases hi:i<n
 ·rw[BE hi,FD _ _ _ _ (by omega),BE hi]
 ·rw[Ah (by omega),A2 (by rw[AD,FE];omega),A2 (by simp;omega)]
theorem LW{α:Type}{n:Nat}:∀{es:List (List α)},(∀c∈es,c.length=n)→∀{i:Nat} {c:List α},es[i]?=some c→∀(o:Nat) (vs:List α),o+vs.length≤n →
  (es.set i (over c o vs)).flatten=over es.flatten (i*n+o) vs
 | [],_,i,c,h,_,_,_=>by simp at h
 |d::es,hl,i,c,h,o,vs,Hg=>by
  have hd:=hl d (Ab ..);have hfl:=CY (es:=d::es) (n:=n) hl;have Dz:=(Ap.1 h).1;have qI:i*n+o+vs.length≤(d::es).flatten.length:=by
   rw[hfl]
   have:=Bc n (show i+1≤(d::es).length from Dz)
   rw[D0]at this;omega
  have hcl:=hl c (Ar h);apply CU;intro j;rw[FD _ _ _ _ qI];have ND:∀e∈(d::es).set i (over c o vs),e.length=n:=fun e he=>by
   rcases EU he with he | rfl
   ·exact hl e he
   ·rw[FE];exact hcl
  by_cases hn:n=0
  ·subst hn;have h1:=CY ND;have h2:=hfl;simp only[Nat.mul_zero,List.length_eq_zero_iff]at h1 h2;rw[h1,h2]
   have:¬(i*0+o≤j∧j<i*0+o+vs.length):=by omega
   rw[Ah this]
  ·have o0:j=j / n*n+j % n:=by rw[Nat.mul_comm];exact(Un j n).symm
   have XE:j % n<n:=Nat.mod_lt _ (by omega)
   by_cases hj:j / n<(d::es).length
   ·have g1:(d::es)[j / n]?=some ((d::es)[j / n]):=At hj;have g2:((d::es).set i (over c o vs))[j / n]?=some (if i=j / n then over c o vs else(d::es)[j / n]):=by
     rw[List.getElem?_set]
     by_cases e:i=j / n
     ·rw[Ao e,Ao (by omega),Ao e]
     ·rw[Ah e,Ah e];exact g1
    have f1:=Fa hl g1 XE;have f2:=Fa ND g2 XE;rw[←o0]at f1 f2;rw[f1,f2];split
    ·rename_i e;rw[e]at h;rw[g1]at h;cases h;rw[FD _ _ _ _ (by omega)];have e2:i*n+o≤j↔o≤j % n:=by rw[e];omega
     have e3:j<i*n+o+vs.length↔j % n<o+vs.length:=by rw[e];omega
     simp only[e2,e3];split
     ·congr 1;rw[e];omega
     ·rfl
    ·rename_i e
     have:¬(i*n+o≤j∧j<i*n+o+vs.length):=by
      rintro⟨q1,q2⟩
      apply e;have a1:i*n≤j:=by omega
      have a2:j<(i+1)*n:=by rw[D0];omega
      have:=(Nat.le_div_iff_mul_le (by omega)).2 a1
      have:=(Lo (by omega)).2 a2
      omega
     rw[Ah this]
   ·have o6:(d::es).length*n≤j:=by
     have:=Nat.not_lt.1 hj
     have:=(Nat.le_div_iff_mul_le (by omega)).1 this
     exact this
    have:¬(i*n+o≤j∧j<i*n+o+vs.length):=by rw[hfl]at qI;omega
    rw[Ah this,A2 (by rw[CY ND,CH];exact o6),A2 (by rw[hfl];exact o6)]
theorem Pb{P:Program}{T:Gr}(hT:Ck P T)(w:World){t b off:Nat}{x:Value}{Fx:Array Value}{E:TypeId}(hd:(T t).d≠.other)(hs:x.cells.toList.length=(T t).size)
  (h1:∀v∈x.cells.toList,v.oneCell'=true) (hb:w.heap[b]?=some (.cells Fx E (0,0))) (Hg:off+x.cells.toList.length≤Fx.size) :
  (Instr.storeAt t (.pointer (some ⟨b,off,none⟩)) x).run P w=.ok () (w.setRow b (over Fx.toList off x.cells.toList).toArray):=by
 have Jf:=run_storeCells_at P b off E x.cells.toList 0 Fx w hb (by simpa using Hg) h1;simp only[Gd]at Jf;have WK : x.cells.size=(T t).size:=by simpa using hs
 rw[MM _ _ _ (by simpa using Hg)];simp only[Instr.storeAt,Sem.run_bind,Instr.sureAddr,Sem.run_pure,Result.andThen_ok,storeVar,hT.size w hd,WK,U6,not_true_eq_false,FX];exact Jf
section
variable {P:Program}{w0:World}{g0:Gh}{h0 h:Nat→HO}{g:Gh}{w:World}(hI:DA w0 g0 h0 h g w)
include hI
theorem bn{T:Gr}(hT:Ck P T){d:Option Nat}{e:Nat}{K:HK}(hk:RN T d h e K):N1 P w0 g0 h0 h g w (Instr.alloc e true (.tuple #[])) K:=by
 unfold RN at hk;split at hk
 ·exact hk.elim
 ·split at hk
  ·rename_i hd;split at hk
   ·exact hk.elim
   ·rename_i Dr;split at hk
    ·rename_i ha;obtain⟨z,z1,z2,_⟩:=Pj hT (w:=w) Dr;have hr:Ct g w (AP h) ((T e).zc.map .v) z.cells.toList:=by rw[z2]at ha⊢;exact Ct.vals ha
     obtain⟨g',k1,k2,k3⟩:=QM hI hd (vs:=z.cells) e hr;refine⟨_,_,g',_,_,?_,hk,k1,k2,k3⟩;simp[Instr.alloc,z1,newVar,newRow]
    ·exact hk.elim
  ·exact hk.elim
theorem Pf{cs:List AV}{vs:List Value}(hr:Ct g w (AP h) cs vs):Ct g w Fg (cs.map (str h)) vs:=by
 refine⟨by rw[A4];exact hr.1,hr.2.1,fun i av x h1 h2=>?_⟩;rw[AF,AS]at h1;obtain⟨a,a1,rfl⟩:=h1;exact(hr.2.2 i a x a1 h2).str hI.objs
theorem jo{cx:Cx}{d:Option Nat}{e:Nat}{x:AV}{vx:Value}{K:HK}(hx:BD g w (AP h) x vx)(hk:bx cx d h e x K):N1 P w0 g0 h0 h g w (Instr.box e vx) K:=by
 unfold bx at hk;split at hk
 ·exact hk.elim
 ·split at hk
  ·rename_i hd;split at hk
   ·exact hk.elim
   ·obtain⟨cs,hk,hn,hr⟩:=Mx hx hk;split at hk
    ·obtain⟨g',k1,k2,k3⟩:=gD hI hd (vs:=vx.cells) e (Pf hI hr);exact⟨_,_,g',_,_,rfl,hk,k1,k2,k3⟩
    ·obtain⟨g',k1,k2,k3⟩:=QM hI hd (vs:=vx.cells) e hr;exact⟨_,_,g',_,_,rfl,hk,k1,k2,k3⟩
  ·exact hk.elim
theorem DA.write{r b:Nat}(hl:(h r).live)(ho:g.own r=some b)(o' : HO){Fx:Array Value}{E:TypeId}(hb:w.heap[b]?=some (.cells Fx E (0,0)))(new:Array Value)(n:Nat)(ow:Option Nat)(S' : Nat→Nat→Prop)
  (Dr:o'≠.free) (hn:n=g.ln r) (qN:∀b',ow=some b'→b'=b) (hS:∀b o,g.S b o→S' b o) (sx:∀b' o,S' b' o→g.S b' o∨b'=b) (qF:∀o,g.S b o→new[o]?=Fx[o]?)
  (Je:JY g (g.upd r (g.ρ r) n (g.tk r) ow S') (AP h)→EE g w (g.upd r (g.ρ r) n (g.tk r) ow S') (w.setRow b new)→(w.setRow b new).heap[b]?=some (.cells new E (0,0)) →
   D8 (g.upd r (g.ρ r) n (g.tk r) ow S') (w.setRow b new) (AP (AR h r o')) r o') :
  DA w0 g0 h0 (AR h r o') (g.upd r (g.ρ r) n (g.tk r) ow S') (w.setRow b new)∧Le h g w (AR h r o') (g.upd r (g.ρ r) n (g.tk r) ow S') (w.setRow b new):=by
 have ES:=setRow_heap w b Fx new E (0,0) hb;have Dz:=(hI.loc r b hl ho).1
 refine hI.upd r o' _ _ _ _ _ _ (some b) ⟨rfl,rfl,rfl,by rw[size_setRow];exact Al _⟩ (fun k hk Dr=>setRow_other w b k new (fun e=>Dr (by rw[e]))) (fun b' e=>by cases e;exact⟨hl,ho⟩) hS (fun b' o hs=>?_)
  (fun b' o e hs=>?_) (fun b' _ e=>?_) Dr (fun _=>⟨rfl,by omega,fun _=>rfl,fun _=>rfl⟩) (fun hg hk=>Je hg hk ES)
 ·rcases sx b' o hs with h1 | rfl
  ·exact .inl h1
  ·exact .inr ⟨by rw[size_setRow];exact Dz,.inr ⟨hl,ho⟩⟩
 ·cases e
  refine⟨?_,fun es ck he=>by rw[hb]at he;cases he⟩;rw[FA ES,FA hb];exact qF o hs
 ·obtain rfl:=qN b' e;exact⟨by rw[size_setRow];exact Dz,.inl ⟨hl,ho⟩⟩
theorem dv{cx:Cx}(hT:Ck P cx.T){t:Nat}{p x:AV}{vp vx:Value}{K:HK}(hp:BD g w (AP h) p vp)(hx:BD g w (AP h) x vx)(hk:NX cx h t p x K) :
  dN P w0 g0 h0 h g w (Instr.storeAt t vp vx) K:=by
 unfold NX at hk;split at hk
 ·exact hk.elim
 ·rename_i hd;have h5:=Mx hx hk
  clear hk
  obtain⟨vs,hk,hn,hr⟩:=h5;have Cn:vx.cells.toList.length=vs.length:=hr.1;split at hk
  ·rename_i r off;have ho:=hI.objs r;split at hk
   ·rename_i cs e;obtain⟨Hg,hk⟩:=hk;rw[e]at ho;obtain⟨t0,b,E,Fx,a1,a2,a3,a4,a5⟩:=ho;cases hp with
    |ref _ _ _ b' hu ht lM =>
     rw[a2]at lM;cases lM;have hcs:Fx.toList.length=cs.length:=a4.1;have CB:=Pb hT w (t:=t) (off:=off) (x:=vx) hd (by rw[Cn,hn]) hr.2.1 a3 (by rw[Cn];simp at hcs;omega);have hl:(h r).live:=by rw[e];trivial
     have nD:=a4.over hr off Hg;split at hk
     ·obtain⟨k1,k2⟩:=hI.write hl a1 (.ro ((over cs off vs).map (str h))) a3 (over Fx.toList off vx.cells.toList).toArray (g.ln r) none (g.more b cs.length) (by simp) rfl (fun _ e=>by cases e) (fun _ _ h=>.inl h)
       (fun b' o hs=>hs.elim .inl (fun hs=>.inr hs.1)) (fun o hs=>absurd hs (a5 o)) (fun hg HT ES=>by
        obtain⟨u1,u2,u3,u4⟩:=Bw g r (g.ρ r) (g.ln r) (g.tk r) none (g.more b cs.length);refine⟨u3.trans t0,b,u1.trans a2,BD.cptr_row ES ?_ (fun o ho=>.inr ⟨rfl,?_⟩)⟩
        ·exact(Pf hI nD).mono HT (fun _ h=>h) (fun _ h=>h.elim)
        ·rw[A4,FE]at ho;exact ho)
      exact⟨_,_,_,CB,hk,k1,k2⟩
     ·obtain⟨k1,k2⟩:=hI.write hl a1 (.cells (over cs off vs)) a3 (over Fx.toList off vx.cells.toList).toArray (g.ln r) (g.own r) g.S (by simp) rfl (fun b' e=>by rw[a1]at e;cases e;rfl) (fun _ _ h=>h)
       (fun b' o hs=>.inl hs) (fun o hs=>absurd hs (a5 o)) (fun hg HT ES=>by
        obtain⟨u1,u2,u3,u4⟩:=Bw g r (g.ρ r) (g.ln r) (g.tk r) (g.own r) g.S;exact⟨u3.trans t0,b,E,_,u4.trans a1,u1.trans a2,ES,nD.mono HT (fun i hi=>DJ (by simp) i hi) hg,a5⟩)
      exact⟨_,_,_,CB,hk,k1,k2⟩
   ·exact hk.elim
  ·rename_i r n sz i off;have ho:=hI.objs r;split at hk
   ·rename_i Gp es e;rw[e]at ho;split at hk
    ·rename_i hz;obtain rfl:=AI hz;obtain⟨hnl,cs,hi,Hg,hk⟩:=hk;obtain⟨t1,l1,al,a1⟩:=ho;have Dz:=(Ap.1 hi).1;rcases a1 with ⟨rfl,_⟩ | ⟨b,cap,E,Fx,e1,e2,e3,e4,e5,e6,e7⟩
     ·simp at hi
     ·cases hp with
      |eref _ _ _ _ _ _ b' KU hu ht XF lM =>
       have lM:=lM (hnl.trans l1.symm);rw[e1]at lM;simp only[Value.slice.injEq,Bh,Addr.mk.injEq]at lM;obtain⟨⟨rfl,_,_⟩,_,_⟩:=lM;have hcl:=al cs (Ar hi);have PD:i*sz+sz≤es.length*sz:=by
        have:=Bc sz (show i+1≤es.length from Dz)
        rwa [D0]at this
       have fJ:es.length*sz≤cap*sz:=Bc sz e3;have CB:=Pb hT w (t:=t) (off:=i*sz+off) (x:=vx) hd (by rw[Cn,hn]) hr.2.1 e4 (by rw[Cn];omega);have hl:(h r).live:=by rw[e];trivial
       have qi : ∀c∈es.set i (over cs off (vs.map (str h))),c.length=sz:=fun c hc=>by
        rcases EU hc with hc | rfl
        ·exact al c hc
        ·rw[FE];exact hcl
       have hfl:=LW al hi off (vs.map (str h)) (by rw[A4];exact Hg);have Xy:Fx.toList.length=cap*sz:=by rw[BY];exact e5
       have vC:((over Fx.toList (i*sz+off) vx.cells.toList).toArray.toList.take ((es.set i (over cs off (vs.map (str h)))).length*sz))=over (Fx.toList.take (es.length*sz)) (i*sz+off) vx.cells.toList:=by
        rw[CH];exact Va _ _ _ _ (by rw[Cn];omega) (by rw[Xy];exact fJ)
       have nD:Ct g w Fg (es.set i (over cs off (vs.map (str h)))).flatten ((over Fx.toList (i*sz+off) vx.cells.toList).toArray.toList.take ((es.set i (over cs off (vs.map (str h)))).length*sz)):=by
        rw[vC,hfl];exact e6.over (Pf hI hr) _ (by rw[A4,CY al];omega)
       split at hk
       ·rename_i j m;have dL:∃x0,vx.cells.toList=[x0]:=by
         revert Cn
         cases vx.cells.toList with
         |nil=>intro Cn;cases Cn
         |cons x0 l=>cases l with
          |nil=>intro _;exact⟨x0,rfl⟩
          |cons _ _=>intro Cn;simp at Cn
        obtain⟨x0,dL⟩:=dL;have Eg:=hr.2.2 0 (.msl j m) x0 rfl (by rw[dL];rfl)
        obtain⟨k1,k2⟩:=hI.write hl e2 (.hol sz (es.set i (over cs off [.junk])) i off (.msl j m)) e4 (over Fx.toList (i*sz+off) vx.cells.toList).toArray (g.ln r) (g.own r) g.S (by simp) rfl (fun b' e=>by rw[e2]at e;cases e;rfl) (fun _ _ h=>h)
         (fun b' o hs=>.inl hs) (fun o hs=>absurd hs (e7 o)) (fun hg HT ES=>by
          obtain⟨u1,u2,u3,u4⟩:=Bw g r (g.ρ r) (g.ln r) (g.tk r) (g.own r) g.S;have nx:i*sz+off<es.length*sz:=by simp only[Au,AE]at Hg;omega
          refine⟨u3.trans t1,u2.trans (by rw[CH];exact l1),qi,b,cap,E,_,?_,u4.trans e2,by rw[CH];exact e3,ES,?_,nD.mono HT (fun _ h=>h) (fun _ h=>h.elim),e7,by rw[CH];exact nx,x0,?_,Eg.mono HT (fun i hi=>DJ (by simp) i hi) hg⟩
          ·rw[u1,e1,CH]
          ·simp only[Fq,FE,BY];exact e5
          ·rw[←A1,dL,FD _ _ _ _ (by rw[Xy];simp only[Au,AE];omega),Ao ⟨Al _,by simp only[Au,AE];omega⟩,Gf];rfl)
        exact⟨_,_,_,CB,hk,k1,k2⟩
       ·obtain⟨k1,k2⟩:=hI.write hl e2 (.arr sz (es.set i (over cs off (vs.map (str h))))) e4 (over Fx.toList (i*sz+off) vx.cells.toList).toArray (g.ln r) (g.own r) g.S (by simp) rfl (fun b' e=>by rw[e2]at e;cases e;rfl) (fun _ _ h=>h)
         (fun b' o hs=>.inl hs) (fun o hs=>absurd hs (e7 o)) (fun hg HT ES=>by
          obtain⟨u1,u2,u3,u4⟩:=Bw g r (g.ρ r) (g.ln r) (g.tk r) (g.own r) g.S;refine⟨u3.trans t1,u2.trans (by rw[CH];exact l1),qi,.inr ⟨b,cap,E,_,?_,u4.trans e2,by rw[CH];exact e3,ES,?_,nD.mono HT (fun _ h=>h) (fun _ h=>h.elim),e7⟩⟩
          ·rw[u1,e1,CH]
          ·simp only[Fq,FE,BY];exact e5)
        exact⟨_,_,_,CB,hk,k1,k2⟩
    ·exact hk.elim
   ·exact hk.elim
  ·exact hk.elim
end
theorem cS{α:Type}(c vs:List α)(h:vs.length=c.length):over c 0 vs=vs:=by
 rw[MM _ _ _ (by omega)];simp[h]
theorem HG{α:Type}[Inhabited α](n:Nat)(z:List α)(hz:z≠[]):(List.replicate n z).flatten=(List.range (n*z.length)).map fun k=>z[k % z.length]!:=by
 have hl:∀c∈List.replicate n z,c.length=z.length:=fun c hc=>by rw[B9 hc]
 have Y8:0<z.length:=MY.2 hz;apply CU;intro k
 by_cases hk:k<n*z.length
 ·have o0:k=k / z.length*z.length+k % z.length:=by rw[Nat.mul_comm];exact(Un k _).symm
  have XE:k % z.length<z.length:=Nat.mod_lt _ Y8;have hi:k / z.length<n:=(Lo Y8).2 hk;have f1:=Fa hl (i:=k / z.length) (c:=z) (by rw[List.getElem?_replicate,Ao hi]) XE;rw[←o0]at f1;rw[f1];simp[hk,XE]
 ·rw[A2 (by rw[CY hl,DG];omega),A2 (by simp;omega)]
section
variable {P:Program}{w0:World}{g0:Gh}{h0 h:Nat→HO}{g:Gh}{w:World}(hI:DA w0 g0 h0 h g w)
include hI
theorem Xj{n sz:Nat}{t:Nat→AV}{ρ:Operand→Value}(ht:∀x:Operand,BD g w (AP h) (ev t x) (ρ x)) :
  ∀{ps:List (Nat×Operand)} {es:List (List AV)} {xs:Array Value} {K:List (List AV)→Prop},es.length=n→(∀c∈es,c.length=sz)→Ct g w Fg es.flatten xs.toList→Qy n sz h es t ps K →
   ∃Fy Vq,K Fy∧Fy.length=n∧(∀c∈Fy,c.length=sz)∧Ct g w Fg Fy.flatten Vq.toList∧Instr.fill (fun i=>some (i*sz,sz)) xs (ps.map fun(i,x)=>(i,ρ x))=some Vq
 | [],es,xs,K,hn,hl,h,hk=>⟨es,xs,hk,hn,hl,h,rfl⟩
 |(i,x)::ps,es,xs,K,hn,hl,h,hk=>by
  unfold Qy at hk;split at hk
  ·rename_i hi;have hi:i<n:=HQ hi;have h5:=Mx (ht x) hk
   clear hk
   obtain⟨T3,hk,nA,hr⟩:=h5;have EC:(ρ x).cells.size=sz:=by rw[←nA];simpa using hr.1
   have WL:=Pf hI hr;obtain⟨c,hc⟩:∃c,es[i]?=some c:=⟨_,At (by omega)⟩;have hcl:=hl c (Ar hc);have Hg:i*sz+sz≤es.flatten.length:=by
    rw[CY hl,hn]
    have:=Bc sz (show i+1≤n from hi)
    rwa [D0]at this
   have hfl:=LW hl hc 0 (T3.map (str ‹Nat→HO›)) (by rw[A4,nA];omega);rw[cS _ _ (by rw[A4,nA,hcl]),Gd]at hfl;have ES:=h.over WL (i*sz) (by rw[A4,nA];exact Hg);have i7:xs.size=es.flatten.length:=by have:=h.1;rwa [BY]at this
   have e:=NA (ρ x).cells.toList 0 (i*sz) xs (by rw[BY];omega);simp only[Gd]at e;rw[←e,←hfl]at ES;obtain⟨Fy,Vq,k1,k2,k3,k4,k5⟩:=Xj ht (es:=es.set i (T3.map (str _))) (by rw[CH];exact hn) (fun c' oW=>by
    rcases EU oW with oW | rfl
    ·exact hl c' oW
    ·rw[A4];exact nA) ES hk
   refine⟨Fy,Vq,k1,k2,k3,k4,?_⟩;simp only[AH,Instr.fill];have e2:(ρ x).cells.zipIdx.foldl (fun cs (c,j)=>cs.setIfInBounds (i*sz+j) c) xs=((ρ x).cells.toList.zipIdx 0).foldl (fun(cs:Array Value) (p:Value×Nat)=>cs.setIfInBounds (i*sz+p.2) p.1) xs:=by
    rw[←Array.foldl_toList];simp
   rw[Ah (by simp[EC];omega),e2];exact k5
  ·exact hk.elim
theorem RV{cx:Cx}(hT:Ck P cx.T){d:Option Nat}{ty n:Nat}{t:Nat→AV}{ρ:Operand→Value}{K:HK}(ht:∀x:Operand,BD g w (AP h) (ev t x) (ρ x)){ps:Array (Nat×Operand)}
  (hk:Im cx d h ty n t ps.toList K):N1 P w0 g0 h0 h g w (Instr.buildSlice ty n (ps.map fun(i,x)=>(i,ρ x))) K:=by
 unfold Im at hk;split at hk
 ·rename_i e hs;split at hk
  ·rename_i Rd MU;have MU:=AI MU;split at hk
   ·exact hk.elim
   ·rename_i m hm;split at hk
    ·rename_i Hg;have Hg:=HQ Hg;have nN:(cx.T e).zc≠[]:=fun e0=>by rw[e0]at MU;rw[hm]at MU;cases MU
     have sJ:∀c∈List.replicate n ((cx.T e).zc.map AV.v),c.length=(cx.T e).size:=fun c hc=>by rw[B9 hc,A4];exact MU
     have qB:Ct g w Fg (List.replicate n ((cx.T e).zc.map AV.v)).flatten ((Array.range (n*(cx.T e).size)).map fun k=>(cx.T e).zc.toArray[k % (cx.T e).zc.toArray.size]!).toList:=by
      have e1:((Array.range (n*(cx.T e).size)).map fun k=>(cx.T e).zc.toArray[k % (cx.T e).zc.toArray.size]!).toList=(List.replicate n (cx.T e).zc).flatten:=by
       rw[HG n _ nN];simp[MU]
      have e2:(List.replicate n ((cx.T e).zc.map AV.v)).flatten=(List.replicate n (cx.T e).zc).flatten.map AV.v:=by
       rw[RI,List.map_replicate]
      rw[e1,e2];refine Ct.vals ?_;have GM:∀l:List AV,(∀a∈l,one a=true)→GS l=true:=by
       intro l
       induction l with
       |nil=>intro _;rfl
       |cons a l ih=>intro h;simp[GS,h a (List.mem_cons_self ..),ih (fun b hb=>h b (List.mem_cons_of_mem _ hb))]
      refine GM _ (fun a ha=>?_);obtain⟨x,hx,rfl⟩:=Aj.1 ha;obtain⟨l,hl,hx⟩:=DY.1 hx;rw[B9 hl]at hx;exact Mq Rd _ (Aj.2 ⟨x,hx,rfl⟩)
     obtain⟨Fy,Vq,k1,k2,k3,k4,k5⟩:=Xj hI ht (by rw[DG]) sJ qB hk;have i7:Vq.size=n*(cx.T e).size:=by
      have:=k4.1
      rw[BY,CY k3,k2]at this;exact this
     obtain⟨g',av,h',q1,q2,q3,q4⟩:=JR hI k1 (vs:=Vq) (cap:=n) e k3 (by omega) i7 (by
      rw[k2,AG (by rw[BY,i7];exact Al _)];exact k4) w ⟨rfl,rfl,rfl,rfl⟩
     rw[k2]at q4;refine⟨_,_,g',av,h',?_,q1,q2,q3,q4⟩;obtain⟨z,z1,z2⟩:=Vt hT (w:=w) hm;have EC:=hT.size1 w hm;have e3:(Array.map (fun x:Nat×Operand=>match x with | (i,x)=>(i,ρ x)) ps).toList=ps.toList.map fun(i,x)=>(i,ρ x):=by simp
     have u5:¬(n*(m+1)>2 ^ 24):=by rw[hm]at Hg;have Hg:n*(m+1)≤16777216:=Hg;omega
     simp only[Instr.buildSlice,Sem.run_bind,run_underlying (hT.slice hs),Result.andThen_ok,EC,Ah u5];rw[e3];rw[hm]at k5
     by_cases h0:n*(m+1)=0
     ·have sL:n=0:=by
       rcases Nat.mul_eq_zero.1 h0 with h | h
       ·exact h
       ·cases h
      subst sL;have er:Array.range 0=#[]:=rfl;simp only[IC,er,List.map_toArray,E1]at k5;simp only[IC,QE,er,List.map_toArray,E1,k5];simp[newRow]
     ·rw[z2]at k5;simp only[Array.toArray_toList]at k5;simp only[Ah h0,Sem.run_bind,z1,Result.andThen_ok,Sem.run_pure,k5];simp[newRow]
    ·exact hk.elim
  ·exact hk.elim
 ·exact hk.elim
end
theorem FO{sz:Nat}:∀{es:List (List AV)},De sz es→∀c∈es,c.length=sz
 | [],_,c,h=>by cases h
 |d::es,h,c,hc=>by
  rcases Av.1 hc with rfl | hc
  ·exact h.1
  ·exact FO h.2 c hc
def N6(w:World)(x:Value)(n sz:Nat)(news:List Value):Prop :=
 news.length=n*sz∧(∀v∈news,v.oneCell'=true)∧∃(a:Option Addr) (c:Nat),x=.slice a n c∧(n=0∨∃b:Addr,a=some b∧∀j u,news[j]?=some u→w.cell? (b.add j)=some u)
theorem N6.of_rep{g:Gh}{w:World}{U:Nat→Prop}{es:List (List AV)}{sz:Nat}{x:Value}(h:BD g w U (.slice .none es) x)(hl:∀c∈es,c.length=sz) :
  ∃news,N6 w x es.length sz news∧Ct g w Fg es.flatten news:=by
 cases h with
 |snil _ a cap=>exact⟨[],⟨by simp,by simp,a,cap,rfl,.inl rfl⟩,by simp,by simp,fun i av x h1 h2=>by simp at h2⟩
 |slice _ _ b off Gp cap val hc OH Du Eg =>
  have hf:=CY hl;have key:∀j,j<es.length*sz→∃cs,es[j / sz]?=some cs∧es.flatten[j]?=cs[j % sz]?∧j % sz<cs.length∧Gp=sz∧j=j / sz*sz+j % sz:=by
   intro j hj;have Y8:0<sz:=Nat.pos_of_ne_zero (fun e=>by rw[e]at hj;omega);have o0:j=j / sz*sz+j % sz:=by rw[Nat.mul_comm];exact(Un j sz).symm
   have hi:j / sz<es.length:=(Lo Y8).2 hj;have XE:j % sz<sz:=Nat.mod_lt _ Y8;have h1:es[j / sz]?=some es[j / sz]:=At hi;have h2:=Fa hl h1 XE;rw[←o0]at h2;have h3:=hl _ (AC hi);exact⟨_,h1,h2,by rw[h3];exact XE,by rw[←h3];exact(OH _ _ h1).symm,o0⟩
  have Wd:∀j,j<es.length*sz→∃av,es.flatten[j]?=some av∧w.cell? ⟨b,off+j,none⟩=some (val (j / sz) (j % sz))∧(val (j / sz) (j % sz)).oneCell'=true∧BD g w Fg av (val (j / sz) (j % sz)):=by
   intro j hj;obtain⟨cs,k1,k2,k3,rfl,k5⟩:=key j hj;have fB:cs[j % Gp]?=some cs[j % Gp]:=At k3;obtain⟨_,c2,c3⟩:=Du _ _ _ _ k1 fB;rw[Gq,←k5]at c2;exact⟨_,k2.trans fB,c2,c3,Eg _ _ _ _ k1 fB⟩
  refine⟨(List.range (es.length*sz)).map fun j=>val (j / sz) (j % sz),⟨by simp,fun v hv=>?_,some ⟨b,off,none⟩,cap,rfl,.inr ⟨_,rfl,fun j u hu=>?_⟩⟩,by rw[hf];simp,fun v hv=>?_,fun i av x h1 h2=>?_⟩
  ·obtain⟨j,hj,rfl⟩:=Aj.1 hv;obtain⟨_,_,_,c,_⟩:=Wd j (List.mem_range.1 hj);exact c
  ·obtain⟨hj,rfl⟩:=GN hu;rw[Addr.add_lit];exact(Wd j hj).choose_spec.2.1
  ·obtain⟨j,hj,rfl⟩:=Aj.1 hv;obtain⟨_,_,_,c,_⟩:=Wd j (List.mem_range.1 hj);exact c
  ·obtain⟨hj,rfl⟩:=GN h2;obtain⟨pq,c1,_,_,c4⟩:=Wd i hj;rw[h1]at c1;cases c1;exact c4
section
variable {P:Program}{T:Gr}(hT:Ck P T)
include hT
theorem Hm{e n:Nat}(hs:(T e).size=n+1):∃i z,P.info? e=some i∧i.zero=some z∧i.size=(T e).size∧i.bytes=(T e).bytes∧(T e).zc=z.cells.toList:=by
 rcases hT e with h | h
 ·rw[h]at hs;cases hs
 unfold dw at h;split at h
 ·split at h
  ·rename_i d i h1 h2 _ z h3;exact⟨i,z,h2,h3,by rw[h],by rw[h],by rw[TI.zc_cells,h]⟩
  ·rw[h]at hs;cases hs
 ·rw[h]at hs;cases hs
theorem IF(w:World){t e ty k:Nat}(ht:(T t).d=.slice e)(hk:(T e).size=k+1)(a a' : Option Addr)(n cap c:Nat)(hc:n≤cap) :
  (Builtin.append_ #[t,t] ty #[.slice a n cap,.slice a' 0 c]).run P w=.ok (.slice a n cap) w:=by
 have hu:=hT.slice ht;cases a<;>cases a'<;>simp[Builtin.append_,run_underlying hu,hT.size1 w hk,Builtin.lenOf,hc,Builtin.firstCells,loadCells,loadCellsFrom,storeCells]
theorem HI(w:World){t e ty k:Nat}(ht:(T t).d=.slice e)(hk:(T e).size=k+1)(hz:(T e).zc.length=(T e).size){s x:Value}{n m cap c:Nat}{olds news:List Value}{a a' : Option Addr}
  (hso:N6 w s n (T e).size olds) (hs:s=.slice a n cap) (OF:a=none→cap=0) (hsx:N6 w x m (T e).size news) (hx:x=.slice a' m c) (hm:0<m) (hg:cap<n+m) (hb:(n+m)*(T e).bytes≤140737488355328) (h63:n+m≤9223372036854775807) :
  ∃nc rest,(Builtin.append_ #[t,t] ty #[s,x]).run P w=.ok (.slice (some ⟨w.heap.size,0,none⟩) (n+m) nc) (w.drew.alloc (.cells (olds++news++rest).toArray e (0,0)))∧n+m≤nc ∧
   (olds++news++rest).length=nc*(T e).size:=by
 obtain⟨i,z,i1,i2,i3,i4,i5⟩:=Hm hT hk;have hu:=hT.slice ht;obtain⟨n1,n2,a1,c1,n3,n4⟩:=hsx;subst hx;cases n3;rcases n4 with h | ⟨b,rfl,IL⟩
 ·omega
 ·have MU:z.cells.size=(T e).size:=by rw[←hz,i5];simp
  have lH:∀(nc:Nat) (pre:List Value),pre.length=(n+m)*(T e).size→n+m≤nc→(pre++(Builtin.zeroCells z.cells (nc-(n+m))).toList).length=nc*(T e).size:=by
   intro nc pre hp Hg;have e1:(Builtin.zeroCells z.cells (nc-(n+m))).toList.length=(nc-(n+m))*(T e).size:=by simp only[BY,size_zeroCells,MU]
   rw[Ad,e1,hp,←EN]
   congr 1;omega
  obtain⟨o1,o2,a2,c2,o3,o4⟩:=hso;subst hs;cases o3;cases a with
  |none =>
   obtain rfl:=OF rfl;have sL:n=0:=by
    rcases o4 with h | ⟨b',h,_⟩
    ·exact h
    ·cases h
   subst sL;have ho:olds=[]:=AN (by simpa using o1);subst ho;have hr:=run_append_nil (P:=P) w t ty e i z hu i1 i2 b m c news (by rw[i3];exact n1) IL hm (by omega) (by rw[i4];rw[Be]at hb;omega);refine⟨grownCap w m 0 e,(Builtin.zeroCells z.cells (grownCap w m 0 e-m)).toList,?_,by rw[Be];exact grownCap_ge w m 0 e,?_⟩
   ·rw[hr,Be]
    congr 3
    apply NZ;simp
   ·have:=lH (grownCap w m 0 e) news (by rw[Be];exact n1) (by rw[Be];exact grownCap_ge w m 0 e)
    rw[Be]at this;simpa using this
  |some b' =>
   have GA:∀j u,olds[j]?=some u→w.cell? (b'.add j)=some u:=by
    rcases o4 with h | ⟨b2,h,h'⟩
    ·intro j u hj;rw[h,IC]at o1
     have:olds=[]:=AN o1
     rw[this]at hj;simp at hj
    ·cases h;exact h'
   have hr:=run_append_grow (P:=P) w t ty e i z hu i1 i2 b' n cap olds (by rw[i3];exact o1) GA b m c news (by rw[i3];exact n1) IL hg (by omega) (by rw[i4];exact growslice_fits hg hb);refine⟨grownCap w (n+m) cap e,(Builtin.zeroCells z.cells (grownCap w (n+m) cap e-(n+m))).toList,?_,grownCap_ge w (n+m) cap e,lH _ _ (by rw[Ad,o1,n1,←EN]) (grownCap_ge w (n+m) cap e)⟩;rw[hr]
   congr 3
   apply NZ;simp
end
end Go.Eng
