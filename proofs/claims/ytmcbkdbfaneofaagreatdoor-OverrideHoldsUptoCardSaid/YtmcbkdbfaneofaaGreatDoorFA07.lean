/- Lemmas for the claims of this seat, without a condition: part 7 (EngN, EngO, EngP, EngQ). -/
import Derived.Test.YtmcbkdbfaneofaaGreatDoorFA06
namespace Go.Eng
def N4(P:Program)(w0:World)(g0:Gh)(h0 h:Nat→HO)(g:Gh)(w:World)(m:Sem Value)(K:HK):Prop :=
 ∃x w' g' av h',m.run P w=.ok x w'∧K av h'∧DM w0 g0 h0 h' g' w'∧Le h g w h' g' w'∧BJ g' w' (AR h') av x
def dY(P:Program)(w0:World)(g0:Gh)(h0 h:Nat→HO)(g:Gh)(w:World)(m:Sem Unit)(K:HK):Prop :=
 ∃w' g' h',m.run P w=.ok () w'∧K (.v undef) h'∧DM w0 g0 h0 h' g' w'∧Le h g w h' g' w'
section
variable {P:Program}{w0:World}{g0:Gh}{h0 h:Nat→HO}{g:Gh}{w:World}(hI:DM w0 g0 h0 h g w)
include hI
theorem BS.does{m:Sem Value}{K:HK}(hg:BS P h g w m (fun v=>K v h)):N4 P w0 g0 h0 h g w m K :=
 let ⟨x,av,h1,h2,h3⟩:=hg
 ⟨x,w,g,av,h,h1,h2,hI,.refl _ _ _,h3⟩
theorem DM.newOwn{d:Nat}(hd:h d=.free)(o' : HO)(ob:Obj)(x:Value)(n:Nat)(t:Bool)(w1:World)(KP:w1.heap=w.heap∧w1.os=w.os∧w1.tape=w.tape∧w1.output=w.output)(DE:o'≠.free)
  (Jg:JY g (g.upd d x n t (some w.heap.size) g.S) (AR h)→E2 g w (g.upd d x n t (some w.heap.size) g.S) (w1.alloc ob) →
   Ej (g.upd d x n t (some w.heap.size) g.S) (w1.alloc ob) (AR (AW h d o')) d o') :
  DM w0 g0 h0 (AW h d o') (g.upd d x n t (some w.heap.size) g.S) (w1.alloc ob)∧Le h g w (AW h d o') (g.upd d x n t (some w.heap.size) g.S) (w1.alloc ob):=by
 refine hI.upd d o' x n t _ _ _ none ⟨KP.2.1,KP.2.2.1,KP.2.2.2,by rw[World.size_alloc,KP.1];omega⟩ (fun k hk _=>?_) (fun b e=>by cases e) (fun _ _ h=>h) (fun _ _ h=>.inl h) (fun b o e=>by cases e)
  (fun b _ e=>?_) DE (fun hu=>absurd hd hu) Jg
 ·rw[heap_alloc_old _ _ (by rw[KP.1];exact hk),KP.1]
 ·cases e;rw[World.size_alloc,KP.1];exact⟨by omega,.inr (Ak _)⟩
def Gh.more(g:Gh)(b n:Nat):Nat→Nat→Prop:=fun b' o=>g.S b' o∨(b'=b∧o<n)
theorem DM.newStable{d:Nat}(hd:h d=.free)(o' : HO)(vs:Array Value)(E:TypeId)(m:Nat)(x:Value)(n:Nat)(t:Bool)(w1:World)(KP:w1.heap=w.heap∧w1.os=w.os∧w1.tape=w.tape∧w1.output=w.output)(DE:o'≠.free)
  (Jg:JY g (g.upd d x n t none (g.more w.heap.size m)) (AR h)→E2 g w (g.upd d x n t none (g.more w.heap.size m)) (w1.alloc (.cells vs E (0,0))) →
   Ej (g.upd d x n t none (g.more w.heap.size m)) (w1.alloc (.cells vs E (0,0))) (AR (AW h d o')) d o') :
  DM w0 g0 h0 (AW h d o') (g.upd d x n t none (g.more w.heap.size m)) (w1.alloc (.cells vs E (0,0))) ∧
   Le h g w (AW h d o') (g.upd d x n t none (g.more w.heap.size m)) (w1.alloc (.cells vs E (0,0))):=by
 refine hI.upd d o' x n t _ _ _ none ⟨KP.2.1,KP.2.2.1,KP.2.2.2,by rw[World.size_alloc,KP.1];omega⟩ (fun k hk _=>?_) (fun b e=>by cases e) (fun _ _ h=>.inl h) (fun b o hb=>?_) (fun b o e=>by cases e)
  (fun b _ e=>by cases e) DE (fun hu=>absurd hd hu) Jg
 ·rw[heap_alloc_old _ _ (by rw[KP.1];exact hk),KP.1]
 ·rcases hb with hb | ⟨rfl,_⟩
  ·exact .inl hb
  ·exact .inr ⟨by rw[World.size_alloc,KP.1];omega,.inl (Ak _)⟩
end
theorem BB(g:Gh)(r:Nat)(x:Value)(n:Nat)(t:Bool)(o:Option Nat)(S:Nat→Nat→Prop) :
  (g.upd r x n t o S).ρ r=x∧(g.upd r x n t o S).ln r=n∧(g.upd r x n t o S).tk r=t∧(g.upd r x n t o S).own r=o:=by simp[Gh.upd]
theorem HA(w:World)(o:Obj){b:Nat}(hb:b=w.heap.size):(w.alloc o).heap[b]?=some o:=by subst hb;exact heap_alloc_new w o
theorem BJ.cptr_row{g:Gh}{w:World}{U:Nat→Prop}{b:Nat}{cs:List AV}{vs:Array Value}{E:TypeId}{f:Nat×Nat}(hb:w.heap[b]?=some (.cells vs E f))(hr:CH g w Fm cs vs.toList)
  (hS:∀o,o<cs.length→g.S b o):BJ g w U (.cptr cs) (.pointer (some ⟨b,0,none⟩)):=by
 refine .cptr U cs b 0 (fun j=>vs[j]?.getD default) (fun j av hj=>?_) (fun j av hj=>?_)
 ·obtain⟨x,x1,x2,x3⟩:=hr.at hj;rw[A2]at x1;refine⟨hS _ (by rw[Bi];exact(At.1 hj).1),?_,?_⟩
  ·rw[FF hb,Bi,x1];rfl
  ·rw[x1];exact x2
 ·obtain⟨x,x1,x2,x3⟩:=hr.at hj;rw[A2]at x1;rw[x1];exact x3
theorem BJ.slice_off{g:Gh}{w:World}{U:Nat→Prop}{b off sz cap:Nat}{es:List (List AV)}{vs:Array Value}{E:TypeId}{f:Nat×Nat}(hb:w.heap[b]?=some (.cells vs E f))(hl:∀cs∈es,cs.length=sz)
  (hc:es.length≤cap) (hr:CH g w Fm es.flatten ((vs.toList.drop off).take (es.length*sz))) (hS:∀o,o<es.length*sz→g.S b (off+o)):BJ g w U (.slice .none es) (.slice (some ⟨b,off,none⟩) es.length cap):=by
 have key:∀(i:Nat) (cs:List AV) (j:Nat) (av:AV),es[i]?=some cs→cs[j]?=some av→∃x,vs[off+(i*sz+j)]?=some x∧x.oneCell'=true∧BJ g w Fm av x∧i*sz+j<es.length*sz:=by
  intro i cs j av h1 h2;have hcl:=hl cs (Av h1);have hj:j<sz:=by rw[←hcl];exact(At.1 h2).1
  have hi:=(At.1 h1).1;have DL:i*sz+j<es.length*sz:=by
   have:=Bh sz (show i+1≤es.length from hi)
   rw[D1]at this;omega
  have hf:=Fd hl h1 hj;rw[h2]at hf;obtain⟨x,x1,x2,x3⟩:=hr.at hf;rw[BI DL,BT,A2]at x1;exact⟨x,x1,x2,x3,DL⟩
 refine .slice U es b off sz cap (fun i j=>vs[off+(i*sz+j)]?.getD default) hc (fun i cs h=>hl cs (Av h)) (fun i cs j av h1 h2=>?_) (fun i cs j av h1 h2=>?_)
 ·obtain⟨x,x1,x2,x3,x4⟩:=key i cs j av h1 h2;rw[Gs];refine⟨hS _ x4,?_,?_⟩
  ·rw[FF hb,x1];rfl
  ·rw[x1];exact x2
 ·obtain⟨x,x1,x2,x3,x4⟩:=key i cs j av h1 h2;rw[x1];exact x3
theorem BJ.slice_row{g:Gh}{w:World}{U:Nat→Prop}{b sz cap:Nat}{es:List (List AV)}{vs:Array Value}{E:TypeId}{f:Nat×Nat}(hb:w.heap[b]?=some (.cells vs E f))(hl:∀cs∈es,cs.length=sz)
  (hc:es.length≤cap) (hr:CH g w Fm es.flatten (vs.toList.take (es.length*sz))) (hS:∀o,o<es.length*sz→g.S b o):BJ g w U (.slice .none es) (.slice (some ⟨b,0,none⟩) es.length cap):=by
 have key:∀(i:Nat) (cs:List AV) (j:Nat) (av:AV),es[i]?=some cs→cs[j]?=some av→∃x,vs[i*sz+j]?=some x∧x.oneCell'=true∧BJ g w Fm av x∧i*sz+j<es.length*sz:=by
  intro i cs j av h1 h2;have hcl:=hl cs (Av h1);have hj:j<sz:=by rw[←hcl];exact(At.1 h2).1
  have hi:=(At.1 h1).1;have DL:i*sz+j<es.length*sz:=by
   have:=Bh sz (show i+1≤es.length from hi)
   rw[D1]at this;omega
  have hf:=Fd hl h1 hj;rw[h2]at hf;obtain⟨x,x1,x2,x3⟩:=hr.at hf;rw[BI DL,A2]at x1;exact⟨x,x1,x2,x3,DL⟩
 refine .slice U es b 0 sz cap (fun i j=>vs[i*sz+j]?.getD default) hc (fun i cs h=>hl cs (Av h)) (fun i cs j av h1 h2=>?_) (fun i cs j av h1 h2=>?_)
 ·obtain⟨x,x1,x2,x3,x4⟩:=key i cs j av h1 h2;rw[Bi];refine⟨hS _ x4,?_,?_⟩
  ·rw[FF hb,x1];rfl
  ·rw[x1];exact x2
 ·obtain⟨x,x1,x2,x3,x4⟩:=key i cs j av h1 h2;rw[x1];exact x3
section
variable {P:Program}{w0:World}{g0:Gh}{h0 h:Nat→HO}{g:Gh}{w:World}
theorem QW(hI:DM w0 g0 h0 h g w){d:Nat}(hd:h d=.free){cs:List AV}{vs:Array Value}(E:TypeId)(hr:CH g w (AR h) cs vs.toList) :
  ∃g',DM w0 g0 h0 (AW h d (.cells cs)) g' (w.alloc (.cells vs E (0,0)))∧Le h g w (AW h d (.cells cs)) g' (w.alloc (.cells vs E (0,0))) ∧
   BJ g' (w.alloc (.cells vs E (0,0))) (AR (AW h d (.cells cs))) (.ref d 0) (.pointer (some ⟨w.heap.size,0,none⟩)):=by
 obtain⟨k1,k2⟩:=hI.newOwn hd (.cells cs) (.cells vs E (0,0)) (.pointer (some ⟨w.heap.size,0,none⟩)) 0 false w ⟨rfl,rfl,rfl,rfl⟩ (by simp) (fun hg hk=>by
  obtain⟨u1,u2,u3,u4⟩:=BB g d (.pointer (some ⟨w.heap.size,0,none⟩)) 0 false (some w.heap.size) g.S;exact⟨u3,w.heap.size,E,vs,u4,u1,HA w _ rfl,hr.mono hk (fun i hi=>DS (by simp) i hi) hg,fun o ho=>by have:=hI.slt _ _ ho;omega⟩)
 refine⟨_,k1,k2,.ref _ d 0 w.heap.size (by unfold AR;rw[Bd];simp) ?_ ?_⟩
 ·simp[Gh.upd]
 ·simp[Gh.upd]
theorem gW(hI:DM w0 g0 h0 h g w){d:Nat}(hd:h d=.free){cs:List AV}{vs:Array Value}(E:TypeId)(hr:CH g w Fm cs vs.toList) :
  ∃g',DM w0 g0 h0 (AW h d (.ro cs)) g' (w.alloc (.cells vs E (0,0)))∧Le h g w (AW h d (.ro cs)) g' (w.alloc (.cells vs E (0,0))) ∧
   BJ g' (w.alloc (.cells vs E (0,0))) (AR (AW h d (.ro cs))) (.ref d 0) (.pointer (some ⟨w.heap.size,0,none⟩)):=by
 obtain⟨k1,k2⟩:=hI.newStable hd (.ro cs) vs E cs.length (.pointer (some ⟨w.heap.size,0,none⟩)) 0 false w ⟨rfl,rfl,rfl,rfl⟩ (by simp) (fun hg hk=>by
  obtain⟨u1,u2,u3,u4⟩:=BB g d (.pointer (some ⟨w.heap.size,0,none⟩)) 0 false none (g.more w.heap.size cs.length);exact⟨u3,w.heap.size,u1,BJ.cptr_row (HA w _ rfl) (hr.mono hk (fun _ h=>h) (fun _ h=>h.elim)) (fun o ho=>.inr ⟨rfl,ho⟩)⟩)
 refine⟨_,k1,k2,.ref _ d 0 w.heap.size (by unfold AR;rw[Bd];simp) ?_ ?_⟩
 ·simp[Gh.upd]
 ·simp[Gh.upd]
theorem JS(hI:DM w0 g0 h0 h g w){cx:Cx}{d:Option Nat}{sz:Nat}{es:List (List AV)}{K:HK}(hk:EC cx d h sz es K){vs:Array Value}{cap:Nat}(E:TypeId)(hl:∀cs∈es,cs.length=sz)
  (hc:es.length≤cap) (hs:vs.size=cap*sz) (hr:CH g w Fm es.flatten (vs.toList.take (es.length*sz))) (w1:World) (KP:w1.heap=w.heap∧w1.os=w.os∧w1.tape=w.tape∧w1.output=w.output) :
  ∃g' av h',K av h'∧DM w0 g0 h0 h' g' (w1.alloc (.cells vs E (0,0)))∧Le h g w h' g' (w1.alloc (.cells vs E (0,0))) ∧
   BJ g' (w1.alloc (.cells vs E (0,0))) (AR h') av (.slice (some ⟨w.heap.size,0,none⟩) es.length cap):=by
 have ES:(w1.alloc (.cells vs E (0,0))).heap[w.heap.size]?=some (.cells vs E (0,0)):=HA w1 _ (by rw[KP.1]);unfold EC at hk;split at hk
 ·exact hk.elim
 ·rename_i d;generalize Kv cx d=d1 at hk;split at hk
  ·rename_i hd;split at hk
   ·obtain⟨k1,k2⟩:=hI.newOwn hd (.arr sz es) (.cells vs E (0,0)) (.slice (some ⟨w.heap.size,0,none⟩) es.length cap) es.length true w1 KP (by simp) (fun hg HS=>by
     obtain⟨u1,u2,u3,u4⟩:=BB g d1 (.slice (some ⟨w.heap.size,0,none⟩) es.length cap) es.length true (some w.heap.size) g.S;exact⟨u3,u2,hl,.inr ⟨w.heap.size,cap,E,vs,u1,u4,hc,ES,hs,hr.mono HS (fun _ h=>h) (fun _ h=>h.elim),fun o ho=>by have:=hI.slt _ _ ho;omega⟩⟩)
    refine⟨_,_,_,hk,k1,k2,.msl _ d1 es.length _ cap (by unfold AR;rw[Bd];simp) ?_ ?_ (.inr ⟨_,rfl⟩) ?_⟩<;>simp[Gh.upd]
   ·by_cases XC:es.length=cap
    ·obtain⟨k1,k2⟩:=hI.newStable hd (.tok sz es.length) vs E (es.length*sz) (.slice (some ⟨w.heap.size,0,none⟩) es.length cap) es.length true w1 KP (by simp) (fun hg HS=>by
      obtain⟨u1,u2,u3,u4⟩:=BB g d1 (.slice (some ⟨w.heap.size,0,none⟩) es.length cap) es.length true none (g.more w.heap.size (es.length*sz));exact⟨u3,u2,_,cap,u1,.inl ⟨XC,u4⟩⟩)
     refine⟨_,_,_,hk,k1,k2,.tok _ d1 sz es _ (BJ.slice_row ES hl hc (hr.mono k2.keeps (fun _ h=>h) (fun _ h=>h.elim)) (fun o ho=>.inr ⟨rfl,ho⟩)) hl (by unfold AR;rw[Bd];simp) ?_ ?_ ?_⟩<;>simp[Gh.upd]
    ·have pi:=hI.upd d1 (.tok sz es.length) (.slice (some ⟨w.heap.size,0,none⟩) es.length cap) es.length true (some w.heap.size) (g.more w.heap.size (es.length*sz)) (w1.alloc (.cells vs E (0,0))) none
      ⟨KP.2.1,KP.2.2.1,KP.2.2.2,by rw[World.size_alloc,KP.1];omega⟩ (fun k J6 _=>by rw[heap_alloc_old _ _ (by rw[KP.1];exact J6),KP.1]) (fun b e=>by cases e) (fun _ _ h=>.inl h)
      (fun b o hb=>by
       rcases hb with hb | ⟨rfl,_⟩
       ·exact .inl hb
       ·exact .inr ⟨by rw[World.size_alloc,KP.1];omega,.inl (Ak _)⟩) (fun b o e=>by cases e)
      (fun b _ e=>by cases e;rw[World.size_alloc,KP.1];exact⟨by omega,.inr (Ak _)⟩) (by simp) (fun hu=>absurd hd hu) (fun hg HS=>by
       obtain⟨u1,u2,u3,u4⟩:=BB g d1 (.slice (some ⟨w.heap.size,0,none⟩) es.length cap) es.length true (some w.heap.size) (g.more w.heap.size (es.length*sz));exact⟨u3,u2,_,cap,u1,.inr ⟨hc,w.heap.size,E,vs,0,rfl,u4,ES,by rw[hs,Bi],fun o ho=>by
        rcases ho with ho | ⟨_,ho⟩
        ·have:=hI.slt _ _ ho;omega
        ·omega⟩⟩)
     obtain⟨k1,k2⟩:=pi;refine⟨_,_,_,hk,k1,k2,.tok _ d1 sz es _ (BJ.slice_row ES hl hc (hr.mono k2.keeps (fun _ h=>h) (fun _ h=>h.elim)) (fun o ho=>.inr ⟨rfl,ho⟩)) hl (by unfold AR;rw[Bd];simp) ?_ ?_ ?_⟩<;>simp[Gh.upd]
  ·exact hk.elim
end
theorem MP{α:Type}:∀(cs:List α) (o:Nat) (vs:List α),o+vs.length≤cs.length→over cs o vs=cs.take o++vs++cs.drop (o+vs.length)
 | [],o,vs,h=>by
  simp at h;obtain⟨rfl,rfl⟩:=h
  rfl
 |c::cs,o+1,vs,h=>by
  rw[over,MP cs o vs (by simp at h;omega)];simp only[IT,ID,AP,Nat.add_right_comm o 1,List.drop_succ_cons]
 |c::cs,0,[],h=>by simp[over]
 |c::cs,0,v::vs,h=>by
  rw[over,MP cs 0 vs (by simp at h;omega)];simp
theorem Vi{α:Type}(cs:List α)(o n:Nat)(vs:List α)(h:o+vs.length≤n)(hn:n≤cs.length):(over cs o vs).take n=over (cs.take n) o vs:=by
 apply CE;intro i;rw[FI _ _ _ _ (by simp;omega)]
 by_cases hi:i<n
 ·rw[BI hi,FI _ _ _ _ (by omega),BI hi]
 ·rw[Ai (by omega),A6 (by rw[AJ,FJ];omega),A6 (by simp;omega)]
theorem L3{α:Type}{n:Nat}:∀{es:List (List α)},(∀c∈es,c.length=n)→∀{i:Nat} {c:List α},es[i]?=some c→∀(o:Nat) (vs:List α),o+vs.length≤n →
  (es.set i (over c o vs)).flatten=over es.flatten (i*n+o) vs
 | [],_,i,c,h,_,_,_=>by simp at h
 |d::es,hl,i,c,h,o,vs,Hl=>by
  have hd:=hl d (Ab ..);have hfl:=Dh (es:=d::es) (n:=n) hl;have DL:=(At.1 h).1;have qX:i*n+o+vs.length≤(d::es).flatten.length:=by
   rw[hfl]
   have:=Bh n (show i+1≤(d::es).length from DL)
   rw[D1]at this;omega
  have hcl:=hl c (Av h);apply CE;intro j;rw[FI _ _ _ _ qX];have NF:∀e∈(d::es).set i (over c o vs),e.length=n:=fun e he=>by
   rcases F8 he with he | rfl
   ·exact hl e he
   ·rw[FJ];exact hcl
  by_cases hn:n=0
  ·subst hn;have h1:=Dh NF;have h2:=hfl;simp only[Nat.mul_zero,List.length_eq_zero_iff]at h1 h2;rw[h1,h2]
   have:¬(i*0+o≤j∧j<i*0+o+vs.length):=by omega
   rw[Ai this]
  ·have pk:j=j / n*n+j % n:=by rw[Nat.mul_comm];exact(Uv j n).symm
   have XF:j % n<n:=Nat.mod_lt _ (by omega)
   by_cases hj:j / n<(d::es).length
   ·have g1:(d::es)[j / n]?=some ((d::es)[j / n]):=AA hj;have g2:((d::es).set i (over c o vs))[j / n]?=some (if i=j / n then over c o vs else(d::es)[j / n]):=by
     rw[Qu]
     by_cases e:i=j / n
     ·rw[Aw e,Aw (by omega),Aw e]
     ·rw[Ai e,Ai e];exact g1
    have f1:=Fd hl g1 XF;have f2:=Fd NF g2 XF;rw[←pk]at f1 f2;rw[f1,f2];split
    ·rename_i e;rw[e]at h;rw[g1]at h;cases h;rw[FI _ _ _ _ (by omega)];have e2:i*n+o≤j↔o≤j % n:=by rw[e];omega
     have e3:j<i*n+o+vs.length↔j % n<o+vs.length:=by rw[e];omega
     simp only[e2,e3];split
     ·congr 1;rw[e];omega
     ·rfl
    ·rename_i e
     have:¬(i*n+o≤j∧j<i*n+o+vs.length):=by
      rintro⟨q1,q2⟩
      apply e;have a1:i*n≤j:=by omega
      have a2:j<(i+1)*n:=by rw[D1];omega
      have:=(Nat.le_div_iff_mul_le (by omega)).2 a1
      have:=(Lr (by omega)).2 a2
      omega
     rw[Ai this]
   ·have pn:(d::es).length*n≤j:=by
     have:=Nat.not_lt.1 hj
     have:=(Nat.le_div_iff_mul_le (by omega)).1 this
     exact this
    have:¬(i*n+o≤j∧j<i*n+o+vs.length):=by rw[hfl]at qX;omega
    rw[Ai this,A6 (by rw[Dh NF,CV];exact pn),A6 (by rw[hfl];exact pn)]
theorem Pg{P:Program}{T:Gt}(hT:CB P T)(w:World){t b off:Nat}{x:Value}{FC:Array Value}{E:TypeId}(hd:(T t).d≠.other)(hs:x.cells.toList.length=(T t).size)
  (h1:∀v∈x.cells.toList,v.oneCell'=true) (hb:w.heap[b]?=some (.cells FC E (0,0))) (Hl:off+x.cells.toList.length≤FC.size) :
  (Instr.storeAt t (.pointer (some ⟨b,off,none⟩)) x).run P w=.ok () (w.setRow b (over FC.toList off x.cells.toList).toArray):=by
 have Jh:=run_storeCells_at P b off E x.cells.toList 0 FC w hb (by simpa using Hl) h1;simp only[DC]at Jh;have WL : x.cells.size=(T t).size:=by simpa using hs
 rw[MP _ _ _ (by simpa using Hl)];simp only[Instr.storeAt,Sem.run_bind,Instr.sureAddr,Sem.run_pure,Result.andThen_ok,storeVar,hT.size w hd,WL,Vd,not_true_eq_false,Fg];exact Jh
section
variable {P:Program}{w0:World}{g0:Gh}{h0 h:Nat→HO}{g:Gh}{w:World}(hI:DM w0 g0 h0 h g w)
include hI
theorem bI{T:Gt}(hT:CB P T){d:Option Nat}{e:Nat}{K:HK}(hk:RV T d h e K):N4 P w0 g0 h0 h g w (Instr.alloc e true (.tuple #[])) K:=by
 unfold RV at hk;split at hk
 ·exact hk.elim
 ·split at hk
  ·rename_i hd;split at hk
   ·exact hk.elim
   ·rename_i DE;split at hk
    ·rename_i ha;obtain⟨z,z1,z2,_⟩:=Pq hT (w:=w) DE;have hr:CH g w (AR h) ((T e).zc.map .v) z.cells.toList:=by rw[z2]at ha⊢;exact CH.vals ha
     obtain⟨g',k1,k2,k3⟩:=QW hI hd (vs:=z.cells) e hr;refine⟨_,_,g',_,_,?_,hk,k1,k2,k3⟩;simp[Instr.alloc,z1,newVar,newRow]
    ·exact hk.elim
  ·exact hk.elim
theorem Pk{cs:List AV}{vs:List Value}(hr:CH g w (AR h) cs vs):CH g w Fm (cs.map (str h)) vs:=by
 refine⟨by rw[Bb];exact hr.1,hr.2.1,fun i av x h1 h2=>?_⟩;rw[AI,AZ]at h1;obtain⟨a,a1,rfl⟩:=h1;exact(hr.2.2 i a x a1 h2).str hI.objs
theorem jQ{cx:Cx}{d:Option Nat}{e:Nat}{x:AV}{vx:Value}{K:HK}(hx:BJ g w (AR h) x vx)(hk:bQ cx d h e x K):N4 P w0 g0 h0 h g w (Instr.box e vx) K:=by
 unfold bQ at hk;split at hk
 ·exact hk.elim
 ·split at hk
  ·rename_i hd;split at hk
   ·exact hk.elim
   ·obtain⟨cs,hk,hn,hr⟩:=Mz hx hk;split at hk
    ·obtain⟨g',k1,k2,k3⟩:=gW hI hd (vs:=vx.cells) e (Pk hI hr);exact⟨_,_,g',_,_,rfl,hk,k1,k2,k3⟩
    ·obtain⟨g',k1,k2,k3⟩:=QW hI hd (vs:=vx.cells) e hr;exact⟨_,_,g',_,_,rfl,hk,k1,k2,k3⟩
  ·exact hk.elim
theorem DM.write{r b:Nat}(hl:(h r).live)(ho:g.own r=some b)(o' : HO){FC:Array Value}{E:TypeId}(hb:w.heap[b]?=some (.cells FC E (0,0)))(new:Array Value)(n:Nat)(ow:Option Nat)(S' : Nat→Nat→Prop)
  (DE:o'≠.free) (hn:n=g.ln r) (rd:∀b',ow=some b'→b'=b) (hS:∀b o,g.S b o→S' b o) (sJ:∀b' o,S' b' o→g.S b' o∨b'=b) (fZ:∀o,g.S b o→new[o]?=FC[o]?)
  (Jg:JY g (g.upd r (g.ρ r) n (g.tk r) ow S') (AR h)→E2 g w (g.upd r (g.ρ r) n (g.tk r) ow S') (w.setRow b new)→(w.setRow b new).heap[b]?=some (.cells new E (0,0)) →
   Ej (g.upd r (g.ρ r) n (g.tk r) ow S') (w.setRow b new) (AR (AW h r o')) r o') :
  DM w0 g0 h0 (AW h r o') (g.upd r (g.ρ r) n (g.tk r) ow S') (w.setRow b new)∧Le h g w (AW h r o') (g.upd r (g.ρ r) n (g.tk r) ow S') (w.setRow b new):=by
 have ES:=setRow_heap w b FC new E (0,0) hb;have DL:=(hI.loc r b hl ho).1
 refine hI.upd r o' _ _ _ _ _ _ (some b) ⟨rfl,rfl,rfl,by rw[size_setRow];exact Ak _⟩ (fun k hk DE=>setRow_other w b k new (fun e=>DE (by rw[e]))) (fun b' e=>by cases e;exact⟨hl,ho⟩) hS (fun b' o hs=>?_)
  (fun b' o e hs=>?_) (fun b' _ e=>?_) DE (fun _=>⟨rfl,by omega,fun _=>rfl,fun _=>rfl⟩) (fun hg hk=>Jg hg hk ES)
 ·rcases sJ b' o hs with h1 | rfl
  ·exact .inl h1
  ·exact .inr ⟨by rw[size_setRow];exact DL,.inr ⟨hl,ho⟩⟩
 ·cases e
  refine⟨?_,fun es ck he=>by rw[hb]at he;cases he⟩;rw[FF ES,FF hb];exact fZ o hs
 ·obtain rfl:=rd b' e;exact⟨by rw[size_setRow];exact DL,.inl ⟨hl,ho⟩⟩
theorem dJ{cx:Cx}(hT:CB P cx.T){t:Nat}{p x:AV}{vp vx:Value}{K:HK}(hp:BJ g w (AR h) p vp)(hx:BJ g w (AR h) x vx)(hk:N0 cx h t p x K) :
  dY P w0 g0 h0 h g w (Instr.storeAt t vp vx) K:=by
 unfold N0 at hk;split at hk
 ·exact hk.elim
 ·rename_i hd;have h5:=Mz hx hk
  clear hk
  obtain⟨vs,hk,hn,hr⟩:=h5;have CJ:vx.cells.toList.length=vs.length:=hr.1;split at hk
  ·rename_i r off;have ho:=hI.objs r;split at hk
   ·rename_i cs e;obtain⟨Hl,hk⟩:=hk;rw[e]at ho;obtain⟨t0,b,E,FC,a1,a2,a3,a4,a5⟩:=ho;cases hp with
    |ref _ _ _ b' hu ht jw =>
     rw[a2]at jw;cases jw;have hcs:FC.toList.length=cs.length:=a4.1;have CP:=Pg hT w (t:=t) (off:=off) (x:=vx) hd (by rw[CJ,hn]) hr.2.1 a3 (by rw[CJ];simp at hcs;omega);have hl:(h r).live:=by rw[e];trivial
     have nU:=a4.over hr off Hl;split at hk
     ·obtain⟨k1,k2⟩:=hI.write hl a1 (.ro ((over cs off vs).map (str h))) a3 (over FC.toList off vx.cells.toList).toArray (g.ln r) none (g.more b cs.length) (by simp) rfl (fun _ e=>by cases e) (fun _ _ h=>.inl h)
       (fun b' o hs=>hs.elim .inl (fun hs=>.inr hs.1)) (fun o hs=>absurd hs (a5 o)) (fun hg HS ES=>by
        obtain⟨u1,u2,u3,u4⟩:=BB g r (g.ρ r) (g.ln r) (g.tk r) none (g.more b cs.length);refine⟨u3.trans t0,b,u1.trans a2,BJ.cptr_row ES ?_ (fun o ho=>.inr ⟨rfl,?_⟩)⟩
        ·exact(Pk hI nU).mono HS (fun _ h=>h) (fun _ h=>h.elim)
        ·rw[Bb,FJ]at ho;exact ho)
      exact⟨_,_,_,CP,hk,k1,k2⟩
     ·obtain⟨k1,k2⟩:=hI.write hl a1 (.cells (over cs off vs)) a3 (over FC.toList off vx.cells.toList).toArray (g.ln r) (g.own r) g.S (by simp) rfl (fun b' e=>by rw[a1]at e;cases e;rfl) (fun _ _ h=>h)
       (fun b' o hs=>.inl hs) (fun o hs=>absurd hs (a5 o)) (fun hg HS ES=>by
        obtain⟨u1,u2,u3,u4⟩:=BB g r (g.ρ r) (g.ln r) (g.tk r) (g.own r) g.S;exact⟨u3.trans t0,b,E,_,u4.trans a1,u1.trans a2,ES,nU.mono HS (fun i hi=>DS (by simp) i hi) hg,a5⟩)
      exact⟨_,_,_,CP,hk,k1,k2⟩
   ·exact hk.elim
  ·rename_i r n sz i off;have ho:=hI.objs r;split at hk
   ·rename_i Gq es e;rw[e]at ho;split at hk
    ·rename_i hz;obtain rfl:=AO hz;obtain⟨hnl,cs,hi,Hl,hk⟩:=hk;obtain⟨t1,l1,al,a1⟩:=ho;have DL:=(At.1 hi).1;rcases a1 with ⟨rfl,_⟩ | ⟨b,cap,E,FC,e1,e2,e3,e4,e5,e6,e7⟩
     ·simp at hi
     ·cases hp with
      |eref _ _ _ _ _ _ b' LE hu ht XG jw =>
       have jw:=jw (hnl.trans l1.symm);rw[e1]at jw;simp only[Value.slice.injEq,Bm,Addr.mk.injEq]at jw;obtain⟨⟨rfl,_,_⟩,_,_⟩:=jw;have hcl:=al cs (Av hi);have ST:i*sz+sz≤es.length*sz:=by
        have:=Bh sz (show i+1≤es.length from DL)
        rwa [D1]at this
       have gc:es.length*sz≤cap*sz:=Bh sz e3;have CP:=Pg hT w (t:=t) (off:=i*sz+off) (x:=vx) hd (by rw[CJ,hn]) hr.2.1 e4 (by rw[CJ];omega);have hl:(h r).live:=by rw[e];trivial
       have qB : ∀c∈es.set i (over cs off (vs.map (str h))),c.length=sz:=fun c hc=>by
        rcases F8 hc with hc | rfl
        ·exact al c hc
        ·rw[FJ];exact hcl
       have hfl:=L3 al hi off (vs.map (str h)) (by rw[Bb];exact Hl);have XA:FC.toList.length=cap*sz:=by rw[B5];exact e5
       have vP:((over FC.toList (i*sz+off) vx.cells.toList).toArray.toList.take ((es.set i (over cs off (vs.map (str h)))).length*sz))=over (FC.toList.take (es.length*sz)) (i*sz+off) vx.cells.toList:=by
        rw[CV];exact Vi _ _ _ _ (by rw[CJ];omega) (by rw[XA];exact gc)
       have nU:CH g w Fm (es.set i (over cs off (vs.map (str h)))).flatten ((over FC.toList (i*sz+off) vx.cells.toList).toArray.toList.take ((es.set i (over cs off (vs.map (str h)))).length*sz)):=by
        rw[vP,hfl];exact e6.over (Pk hI hr) _ (by rw[Bb,Dh al];omega)
       split at hk
       ·rename_i j m;have dU:∃x0,vx.cells.toList=[x0]:=by
         revert CJ
         cases vx.cells.toList with
         |nil=>intro CJ;cases CJ
         |cons x0 l=>cases l with
          |nil=>intro _;exact⟨x0,rfl⟩
          |cons _ _=>intro CJ;simp at CJ
        obtain⟨x0,dU⟩:=dU;have D6:=hr.2.2 0 (.msl j m) x0 rfl (by rw[dU];rfl)
        obtain⟨k1,k2⟩:=hI.write hl e2 (.hol sz (es.set i (over cs off [.junk])) i off (.msl j m)) e4 (over FC.toList (i*sz+off) vx.cells.toList).toArray (g.ln r) (g.own r) g.S (by simp) rfl (fun b' e=>by rw[e2]at e;cases e;rfl) (fun _ _ h=>h)
         (fun b' o hs=>.inl hs) (fun o hs=>absurd hs (e7 o)) (fun hg HS ES=>by
          obtain⟨u1,u2,u3,u4⟩:=BB g r (g.ρ r) (g.ln r) (g.tk r) (g.own r) g.S;have nR:i*sz+off<es.length*sz:=by simp only[Au,AD]at Hl;omega
          refine⟨u3.trans t1,u2.trans (by rw[CV];exact l1),qB,b,cap,E,_,?_,u4.trans e2,by rw[CV];exact e3,ES,?_,nU.mono HS (fun _ h=>h) (fun _ h=>h.elim),e7,by rw[CV];exact nR,x0,?_,D6.mono HS (fun i hi=>DS (by simp) i hi) hg⟩
          ·rw[u1,e1,CV]
          ·simp only[Ft,FJ,B5];exact e5
          ·rw[←A2,dU,FI _ _ _ _ (by rw[XA];simp only[Au,AD];omega),Aw ⟨Ak _,by simp only[Au,AD];omega⟩,Gd];rfl)
        exact⟨_,_,_,CP,hk,k1,k2⟩
       ·obtain⟨k1,k2⟩:=hI.write hl e2 (.arr sz (es.set i (over cs off (vs.map (str h))))) e4 (over FC.toList (i*sz+off) vx.cells.toList).toArray (g.ln r) (g.own r) g.S (by simp) rfl (fun b' e=>by rw[e2]at e;cases e;rfl) (fun _ _ h=>h)
         (fun b' o hs=>.inl hs) (fun o hs=>absurd hs (e7 o)) (fun hg HS ES=>by
          obtain⟨u1,u2,u3,u4⟩:=BB g r (g.ρ r) (g.ln r) (g.tk r) (g.own r) g.S;refine⟨u3.trans t1,u2.trans (by rw[CV];exact l1),qB,.inr ⟨b,cap,E,_,?_,u4.trans e2,by rw[CV];exact e3,ES,?_,nU.mono HS (fun _ h=>h) (fun _ h=>h.elim),e7⟩⟩
          ·rw[u1,e1,CV]
          ·simp only[Ft,FJ,B5];exact e5)
        exact⟨_,_,_,CP,hk,k1,k2⟩
    ·exact hk.elim
   ·exact hk.elim
  ·exact hk.elim
end
theorem dj{α:Type}(c vs:List α)(h:vs.length=c.length):over c 0 vs=vs:=by
 rw[MP _ _ _ (by omega)];simp[h]
theorem HI{α:Type}[Inhabited α](n:Nat)(z:List α)(hz:z≠[]):(List.replicate n z).flatten=(List.range (n*z.length)).map fun k=>z[k % z.length]!:=by
 have hl:∀c∈List.replicate n z,c.length=z.length:=fun c hc=>by rw[Cg hc]
 have Zk:0<z.length:=M2.2 hz;apply CE;intro k
 by_cases hk:k<n*z.length
 ·have pk:k=k / z.length*z.length+k % z.length:=by rw[Nat.mul_comm];exact(Uv k _).symm
  have XF:k % z.length<z.length:=Nat.mod_lt _ Zk;have hi:k / z.length<n:=(Lr Zk).2 hk;have f1:=Fd hl (i:=k / z.length) (c:=z) (by rw[List.getElem?_replicate,Aw hi]) XF;rw[←pk]at f1;rw[f1];simp[hk,XF]
 ·rw[A6 (by rw[Dh hl,Cr];omega),A6 (by simp;omega)]
section
variable {P:Program}{w0:World}{g0:Gh}{h0 h:Nat→HO}{g:Gh}{w:World}(hI:DM w0 g0 h0 h g w)
include hI
theorem Xn{n sz:Nat}{t:Nat→AV}{ρ:Operand→Value}(ht:∀x:Operand,BJ g w (AR h) (ev t x) (ρ x)) :
  ∀{ps:List (Nat×Operand)} {es:List (List AV)} {xs:Array Value} {K:List (List AV)→Prop},es.length=n→(∀c∈es,c.length=sz)→CH g w Fm es.flatten xs.toList→QH n sz h es t ps K →
   ∃FD Vz,K FD∧FD.length=n∧(∀c∈FD,c.length=sz)∧CH g w Fm FD.flatten Vz.toList∧Instr.fill (fun i=>some (i*sz,sz)) xs (ps.map fun(i,x)=>(i,ρ x))=some Vz
 | [],es,xs,K,hn,hl,h,hk=>⟨es,xs,hk,hn,hl,h,rfl⟩
 |(i,x)::ps,es,xs,K,hn,hl,h,hk=>by
  unfold QH at hk;split at hk
  ·rename_i hi;have hi:i<n:=HQ hi;have h5:=Mz (ht x) hk
   clear hk
   obtain⟨Ua,hk,nS,hr⟩:=h5;have EK:(ρ x).cells.size=sz:=by rw[←nS];simpa using hr.1
   have WM:=Pk hI hr;obtain⟨c,hc⟩:∃c,es[i]?=some c:=⟨_,AA (by omega)⟩;have hcl:=hl c (Av hc);have Hl:i*sz+sz≤es.flatten.length:=by
    rw[Dh hl,hn]
    have:=Bh sz (show i+1≤n from hi)
    rwa [D1]at this
   have hfl:=L3 hl hc 0 (Ua.map (str ‹Nat→HO›)) (by rw[Bb,nS];omega);rw[dj _ _ (by rw[Bb,nS,hcl]),DC]at hfl;have ES:=h.over WM (i*sz) (by rw[Bb,nS];exact Hl);have jz:xs.size=es.flatten.length:=by have:=h.1;rwa [B5]at this
   have e:=NE (ρ x).cells.toList 0 (i*sz) xs (by rw[B5];omega);simp only[DC]at e;rw[←e,←hfl]at ES;obtain⟨FD,Vz,k1,k2,k3,k4,k5⟩:=Xn ht (es:=es.set i (Ua.map (str _))) (by rw[CV];exact hn) (fun c' pg=>by
    rcases F8 pg with pg | rfl
    ·exact hl c' pg
    ·rw[Bb];exact nS) ES hk
   refine⟨FD,Vz,k1,k2,k3,k4,?_⟩;simp only[AN,Instr.fill];have e2:(ρ x).cells.zipIdx.foldl (fun cs (c,j)=>cs.setIfInBounds (i*sz+j) c) xs=((ρ x).cells.toList.zipIdx 0).foldl (fun(cs:Array Value) (p:Value×Nat)=>cs.setIfInBounds (i*sz+p.2) p.1) xs:=by
    rw[←Array.foldl_toList];simp
   rw[Ai (by simp[EK];omega),e2];exact k5
  ·exact hk.elim
theorem Se{cx:Cx}(hT:CB P cx.T){d:Option Nat}{ty n:Nat}{t:Nat→AV}{ρ:Operand→Value}{K:HK}(ht:∀x:Operand,BJ g w (AR h) (ev t x) (ρ x)){ps:Array (Nat×Operand)}
  (hk:Ip cx d h ty n t ps.toList K):N4 P w0 g0 h0 h g w (Instr.buildSlice ty n (ps.map fun(i,x)=>(i,ρ x))) K:=by
 unfold Ip at hk;split at hk
 ·rename_i e hs;split at hk
  ·rename_i Rm MY;have MY:=AO MY;split at hk
   ·exact hk.elim
   ·rename_i m hm;split at hk
    ·rename_i Hl;have Hl:=HQ Hl;have oe:(cx.T e).zc≠[]:=fun e0=>by rw[e0]at MY;rw[hm]at MY;cases MY
     have sU:∀c∈List.replicate n ((cx.T e).zc.map AV.v),c.length=(cx.T e).size:=fun c hc=>by rw[Cg hc,Bb];exact MY
     have qR:CH g w Fm (List.replicate n ((cx.T e).zc.map AV.v)).flatten ((Array.range (n*(cx.T e).size)).map fun k=>(cx.T e).zc.toArray[k % (cx.T e).zc.toArray.size]!).toList:=by
      have e1:((Array.range (n*(cx.T e).size)).map fun k=>(cx.T e).zc.toArray[k % (cx.T e).zc.toArray.size]!).toList=(List.replicate n (cx.T e).zc).flatten:=by
       rw[HI n _ oe];simp[MY]
      have e2:(List.replicate n ((cx.T e).zc.map AV.v)).flatten=(List.replicate n (cx.T e).zc).flatten.map AV.v:=by
       rw[RP,List.map_replicate]
      rw[e1,e2];refine CH.vals ?_;have FX:∀l:List AV,(∀a∈l,one a=true)→GY l=true:=by
       intro l
       induction l with
       |nil=>intro _;rfl
       |cons a l ih=>intro h;simp[GY,h a (List.mem_cons_self ..),ih (fun b hb=>h b (List.mem_cons_of_mem _ hb))]
      refine FX _ (fun a ha=>?_);obtain⟨x,hx,rfl⟩:=Al.1 ha;obtain⟨l,hl,hx⟩:=Eu.1 hx;rw[Cg hl]at hx;exact Mt Rm _ (Al.2 ⟨x,hx,rfl⟩)
     obtain⟨FD,Vz,k1,k2,k3,k4,k5⟩:=Xn hI ht (by rw[Cr]) sU qR hk;have jz:Vz.size=n*(cx.T e).size:=by
      have:=k4.1
      rw[B5,Dh k3,k2]at this;exact this
     obtain⟨g',av,h',q1,q2,q3,q4⟩:=JS hI k1 (vs:=Vz) (cap:=n) e k3 (by omega) jz (by
      rw[k2,AS (by rw[B5,jz];exact Ak _)];exact k4) w ⟨rfl,rfl,rfl,rfl⟩
     rw[k2]at q4;refine⟨_,_,g',av,h',?_,q1,q2,q3,q4⟩;obtain⟨z,z1,z2⟩:=VB hT (w:=w) hm;have EK:=hT.size1 w hm;have e3:(Array.map (fun x:Nat×Operand=>match x with | (i,x)=>(i,ρ x)) ps).toList=ps.toList.map fun(i,x)=>(i,ρ x):=by simp
     have vr:¬(n*(m+1)>2 ^ 24):=by rw[hm]at Hl;have Hl:n*(m+1)≤16777216:=Hl;omega
     simp only[Instr.buildSlice,Sem.run_bind,run_underlying (hT.slice hs),Result.andThen_ok,EK,Ai vr];rw[e3];rw[hm]at k5
     by_cases h0:n*(m+1)=0
     ·have sW:n=0:=by
       rcases Nat.mul_eq_zero.1 h0 with h | h
       ·exact h
       ·cases h
      subst sW;have er:Array.range 0=#[]:=rfl;simp only[Ko,er,List.map_toArray,E5]at k5;simp only[Ko,Kz,er,List.map_toArray,E5,k5];simp[newRow]
     ·rw[z2]at k5;simp only[Array.toArray_toList]at k5;simp only[Ai h0,Sem.run_bind,z1,Result.andThen_ok,Sem.run_pure,k5];simp[newRow]
    ·exact hk.elim
  ·exact hk.elim
 ·exact hk.elim
end
theorem FQ{sz:Nat}:∀{es:List (List AV)},Dn sz es→∀c∈es,c.length=sz
 | [],_,c,h=>by cases h
 |d::es,h,c,hc=>by
  rcases As.1 hc with rfl | hc
  ·exact h.1
  ·exact FQ h.2 c hc
def N9(w:World)(x:Value)(n sz:Nat)(news:List Value):Prop :=
 news.length=n*sz∧(∀v∈news,v.oneCell'=true)∧∃(a:Option Addr) (c:Nat),x=.slice a n c∧(n=0∨∃b:Addr,a=some b∧∀j u,news[j]?=some u→w.cell? (b.add j)=some u)
theorem N9.of_rep{g:Gh}{w:World}{U:Nat→Prop}{es:List (List AV)}{sz:Nat}{x:Value}(h:BJ g w U (.slice .none es) x)(hl:∀c∈es,c.length=sz) :
  ∃news,N9 w x es.length sz news∧CH g w Fm es.flatten news:=by
 cases h with
 |snil _ a cap=>exact⟨[],⟨by simp,by simp,a,cap,rfl,.inl rfl⟩,by simp,by simp,fun i av x h1 h2=>by simp at h2⟩
 |slice _ _ b off Gq cap val hc PK DG D6 =>
  have hf:=Dh hl;have key:∀j,j<es.length*sz→∃cs,es[j / sz]?=some cs∧es.flatten[j]?=cs[j % sz]?∧j % sz<cs.length∧Gq=sz∧j=j / sz*sz+j % sz:=by
   intro j hj;have Zk:0<sz:=Nat.pos_of_ne_zero (fun e=>by rw[e]at hj;omega);have pk:j=j / sz*sz+j % sz:=by rw[Nat.mul_comm];exact(Uv j sz).symm
   have hi:j / sz<es.length:=(Lr Zk).2 hj;have XF:j % sz<sz:=Nat.mod_lt _ Zk;have h1:es[j / sz]?=some es[j / sz]:=AA hi;have h2:=Fd hl h1 XF;rw[←pk]at h2;have h3:=hl _ (Ap hi);exact⟨_,h1,h2,by rw[h3];exact XF,by rw[←h3];exact(PK _ _ h1).symm,pk⟩
  have Wb:∀j,j<es.length*sz→∃av,es.flatten[j]?=some av∧w.cell? ⟨b,off+j,none⟩=some (val (j / sz) (j % sz))∧(val (j / sz) (j % sz)).oneCell'=true∧BJ g w Fm av (val (j / sz) (j % sz)):=by
   intro j hj;obtain⟨cs,k1,k2,k3,rfl,k5⟩:=key j hj;have fQ:cs[j % Gq]?=some cs[j % Gq]:=AA k3;obtain⟨_,c2,c3⟩:=DG _ _ _ _ k1 fQ;rw[Gs,←k5]at c2;exact⟨_,k2.trans fQ,c2,c3,D6 _ _ _ _ k1 fQ⟩
  refine⟨(List.range (es.length*sz)).map fun j=>val (j / sz) (j % sz),⟨by simp,fun v hv=>?_,some ⟨b,off,none⟩,cap,rfl,.inr ⟨_,rfl,fun j u hu=>?_⟩⟩,by rw[hf];simp,fun v hv=>?_,fun i av x h1 h2=>?_⟩
  ·obtain⟨j,hj,rfl⟩:=Al.1 hv;obtain⟨_,_,_,c,_⟩:=Wb j (List.mem_range.1 hj);exact c
  ·obtain⟨hj,rfl⟩:=GT hu;rw[Addr.add_lit];exact(Wb j hj).choose_spec.2.1
  ·obtain⟨j,hj,rfl⟩:=Al.1 hv;obtain⟨_,_,_,c,_⟩:=Wb j (List.mem_range.1 hj);exact c
  ·obtain⟨hj,rfl⟩:=GT h2;obtain⟨pM,c1,_,_,c4⟩:=Wb i hj;rw[h1]at c1;cases c1;exact c4
section
variable {P:Program}{T:Gt}(hT:CB P T)
include hT
theorem Hr{e n:Nat}(hs:(T e).size=n+1):∃i z,P.info? e=some i∧i.zero=some z∧i.size=(T e).size∧i.bytes=(T e).bytes∧(T e).zc=z.cells.toList:=by
 rcases hT e with h | h
 ·rw[h]at hs;cases hs
 unfold dK at h;split at h
 ·split at h
  ·rename_i d i h1 h2 _ z h3;exact⟨i,z,h2,h3,by rw[h],by rw[h],by rw[TI.zc_cells,h]⟩
  ·rw[h]at hs;cases hs
 ·rw[h]at hs;cases hs
theorem IJ(w:World){t e ty k:Nat}(ht:(T t).d=.slice e)(hk:(T e).size=k+1)(a a' : Option Addr)(n cap c:Nat)(hc:n≤cap) :
  (Builtin.append_ #[t,t] ty #[.slice a n cap,.slice a' 0 c]).run P w=.ok (.slice a n cap) w:=by
 have hu:=hT.slice ht;cases a<;>cases a'<;>simp[Builtin.append_,run_underlying hu,hT.size1 w hk,Builtin.lenOf,hc,Builtin.firstCells,loadCells,loadCellsFrom,storeCells]
theorem HL(w:World){t e ty k:Nat}(ht:(T t).d=.slice e)(hk:(T e).size=k+1)(hz:(T e).zc.length=(T e).size){s x:Value}{n m cap c:Nat}{olds news:List Value}{a a' : Option Addr}
  (hso:N9 w s n (T e).size olds) (hs:s=.slice a n cap) (OJ:a=none→cap=0) (vN:N9 w x m (T e).size news) (hx:x=.slice a' m c) (hm:0<m) (hg:cap<n+m) (hb:(n+m)*(T e).bytes≤140737488355328) (h63:n+m≤9223372036854775807) :
  ∃nc rest,(Builtin.append_ #[t,t] ty #[s,x]).run P w=.ok (.slice (some ⟨w.heap.size,0,none⟩) (n+m) nc) (w.drew.alloc (.cells (olds++news++rest).toArray e (0,0)))∧n+m≤nc ∧
   (olds++news++rest).length=nc*(T e).size:=by
 obtain⟨i,z,i1,i2,i3,i4,i5⟩:=Hr hT hk;have hu:=hT.slice ht;obtain⟨n1,n2,a1,c1,n3,n4⟩:=vN;subst hx;cases n3;rcases n4 with h | ⟨b,rfl,IP⟩
 ·omega
 ·have MY:z.cells.size=(T e).size:=by rw[←hz,i5];simp
  have mg:∀(nc:Nat) (pre:List Value),pre.length=(n+m)*(T e).size→n+m≤nc→(pre++(Builtin.zeroCells z.cells (nc-(n+m))).toList).length=nc*(T e).size:=by
   intro nc pre hp Hl;have e1:(Builtin.zeroCells z.cells (nc-(n+m))).toList.length=(nc-(n+m))*(T e).size:=by simp only[B5,size_zeroCells,MY]
   rw[Ad,e1,hp,←Fc]
   congr 1;omega
  obtain⟨o1,o2,a2,c2,o3,o4⟩:=hso;subst hs;cases o3;cases a with
  |none =>
   obtain rfl:=OJ rfl;have sW:n=0:=by
    rcases o4 with h | ⟨b',h,_⟩
    ·exact h
    ·cases h
   subst sW;have ho:olds=[]:=AC (by simpa using o1);subst ho;have hr:=run_append_nil (P:=P) w t ty e i z hu i1 i2 b m c news (by rw[i3];exact n1) IP hm (by omega) (by rw[i4];rw[Bi]at hb;omega);refine⟨grownCap w m 0 e,(Builtin.zeroCells z.cells (grownCap w m 0 e-m)).toList,?_,by rw[Bi];exact grownCap_ge w m 0 e,?_⟩
   ·rw[hr,Bi]
    congr 3
    apply N2;simp
   ·have:=mg (grownCap w m 0 e) news (by rw[Bi];exact n1) (by rw[Bi];exact grownCap_ge w m 0 e)
    rw[Bi]at this;simpa using this
  |some b' =>
   have GE:∀j u,olds[j]?=some u→w.cell? (b'.add j)=some u:=by
    rcases o4 with h | ⟨b2,h,h'⟩
    ·intro j u hj;rw[h,Ko]at o1
     have:olds=[]:=AC o1
     rw[this]at hj;simp at hj
    ·cases h;exact h'
   have hr:=run_append_grow (P:=P) w t ty e i z hu i1 i2 b' n cap olds (by rw[i3];exact o1) GE b m c news (by rw[i3];exact n1) IP hg (by omega) (by rw[i4];exact growslice_fits hg hb);refine⟨grownCap w (n+m) cap e,(Builtin.zeroCells z.cells (grownCap w (n+m) cap e-(n+m))).toList,?_,grownCap_ge w (n+m) cap e,mg _ _ (by rw[Ad,o1,n1,←Fc]) (grownCap_ge w (n+m) cap e)⟩;rw[hr]
   congr 3
   apply N2;simp
end
end Go.Eng
