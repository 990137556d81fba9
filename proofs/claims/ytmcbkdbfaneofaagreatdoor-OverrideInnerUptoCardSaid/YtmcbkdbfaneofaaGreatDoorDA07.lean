/- Lemmas for the claims of this seat, without a condition: part 7 (EngN, EngO, EngP, EngQ). -/
import Derived.Test.YtmcbkdbfaneofaaGreatDoorDA06
namespace Go.Eng
def NS(P:Program)(w0:World)(g0:Gh)(h0 h:Nat→HO)(g:Gh)(w:World)(m:Sem Value)(K:HK):Prop :=
 ∃x w' g' av h',m.run P w=.ok x w'∧K av h'∧DJ w0 g0 h0 h' g' w'∧Le h g w h' g' w'∧BI g' w' (AR h') av x
def dA(P:Program)(w0:World)(g0:Gh)(h0 h:Nat→HO)(g:Gh)(w:World)(m:Sem Unit)(K:HK):Prop :=
 ∃w' g' h',m.run P w=.ok () w'∧K (.v undef) h'∧DJ w0 g0 h0 h' g' w'∧Le h g w h' g' w'
section
variable {P:Program}{w0:World}{g0:Gh}{h0 h:Nat→HO}{g:Gh}{w:World}(hI:DJ w0 g0 h0 h g w)
include hI
theorem BQ.does{m:Sem Value}{K:HK}(hg:BQ P h g w m (fun v=>K v h)):NS P w0 g0 h0 h g w m K :=
 let ⟨x,av,h1,h2,h3⟩:=hg
 ⟨x,w,g,av,h,h1,h2,hI,.refl _ _ _,h3⟩
theorem DJ.newOwn{d:Nat}(hd:h d=.free)(o' : HO)(ob:Obj)(x:Value)(n:Nat)(t:Bool)(w1:World)(KK:w1.heap=w.heap∧w1.os=w.os∧w1.tape=w.tape∧w1.output=w.output)(DD:o'≠.free)
  (Jb:JS g (g.upd d x n t (some w.heap.size) g.S) (AR h)→EY g w (g.upd d x n t (some w.heap.size) g.S) (w1.alloc ob) →
   Ea (g.upd d x n t (some w.heap.size) g.S) (w1.alloc ob) (AR (AW h d o')) d o') :
  DJ w0 g0 h0 (AW h d o') (g.upd d x n t (some w.heap.size) g.S) (w1.alloc ob)∧Le h g w (AW h d o') (g.upd d x n t (some w.heap.size) g.S) (w1.alloc ob):=by
 refine hI.upd d o' x n t _ _ _ none ⟨KK.2.1,KK.2.2.1,KK.2.2.2,by rw[World.size_alloc,KK.1];omega⟩ (fun k hk _=>?_) (fun b e=>by cases e) (fun _ _ h=>h) (fun _ _ h=>.inl h) (fun b o e=>by cases e)
  (fun b _ e=>?_) DD (fun hu=>absurd hd hu) Jb
 ·rw[heap_alloc_old _ _ (by rw[KK.1];exact hk),KK.1]
 ·cases e;rw[World.size_alloc,KK.1];exact⟨by omega,.inr (Ak _)⟩
def Gh.more(g:Gh)(b n:Nat):Nat→Nat→Prop:=fun b' o=>g.S b' o∨(b'=b∧o<n)
theorem DJ.newStable{d:Nat}(hd:h d=.free)(o' : HO)(vs:Array Value)(E:TypeId)(m:Nat)(x:Value)(n:Nat)(t:Bool)(w1:World)(KK:w1.heap=w.heap∧w1.os=w.os∧w1.tape=w.tape∧w1.output=w.output)(DD:o'≠.free)
  (Jb:JS g (g.upd d x n t none (g.more w.heap.size m)) (AR h)→EY g w (g.upd d x n t none (g.more w.heap.size m)) (w1.alloc (.cells vs E (0,0))) →
   Ea (g.upd d x n t none (g.more w.heap.size m)) (w1.alloc (.cells vs E (0,0))) (AR (AW h d o')) d o') :
  DJ w0 g0 h0 (AW h d o') (g.upd d x n t none (g.more w.heap.size m)) (w1.alloc (.cells vs E (0,0))) ∧
   Le h g w (AW h d o') (g.upd d x n t none (g.more w.heap.size m)) (w1.alloc (.cells vs E (0,0))):=by
 refine hI.upd d o' x n t _ _ _ none ⟨KK.2.1,KK.2.2.1,KK.2.2.2,by rw[World.size_alloc,KK.1];omega⟩ (fun k hk _=>?_) (fun b e=>by cases e) (fun _ _ h=>.inl h) (fun b o hb=>?_) (fun b o e=>by cases e)
  (fun b _ e=>by cases e) DD (fun hu=>absurd hd hu) Jb
 ·rw[heap_alloc_old _ _ (by rw[KK.1];exact hk),KK.1]
 ·rcases hb with hb | ⟨rfl,_⟩
  ·exact .inl hb
  ·exact .inr ⟨by rw[World.size_alloc,KK.1];omega,.inl (Ak _)⟩
end
theorem BA(g:Gh)(r:Nat)(x:Value)(n:Nat)(t:Bool)(o:Option Nat)(S:Nat→Nat→Prop) :
  (g.upd r x n t o S).ρ r=x∧(g.upd r x n t o S).ln r=n∧(g.upd r x n t o S).tk r=t∧(g.upd r x n t o S).own r=o:=by simp[Gh.upd]
theorem Hx(w:World)(o:Obj){b:Nat}(hb:b=w.heap.size):(w.alloc o).heap[b]?=some o:=by subst hb;exact heap_alloc_new w o
theorem BI.cptr_row{g:Gh}{w:World}{U:Nat→Prop}{b:Nat}{cs:List AV}{vs:Array Value}{E:TypeId}{f:Nat×Nat}(hb:w.heap[b]?=some (.cells vs E f))(hr:CF g w Fp cs vs.toList)
  (hS:∀o,o<cs.length→g.S b o):BI g w U (.cptr cs) (.pointer (some ⟨b,0,none⟩)):=by
 refine .cptr U cs b 0 (fun j=>vs[j]?.getD default) (fun j av hj=>?_) (fun j av hj=>?_)
 ·obtain⟨x,x1,x2,x3⟩:=hr.at hj;rw[A2]at x1;refine⟨hS _ (by rw[Bk];exact(As.1 hj).1),?_,?_⟩
  ·rw[FC hb,Bk,x1];rfl
  ·rw[x1];exact x2
 ·obtain⟨x,x1,x2,x3⟩:=hr.at hj;rw[A2]at x1;rw[x1];exact x3
theorem BI.slice_off{g:Gh}{w:World}{U:Nat→Prop}{b off sz cap:Nat}{es:List (List AV)}{vs:Array Value}{E:TypeId}{f:Nat×Nat}(hb:w.heap[b]?=some (.cells vs E f))(hl:∀cs∈es,cs.length=sz)
  (hc:es.length≤cap) (hr:CF g w Fp es.flatten ((vs.toList.drop off).take (es.length*sz))) (hS:∀o,o<es.length*sz→g.S b (off+o)):BI g w U (.slice .none es) (.slice (some ⟨b,off,none⟩) es.length cap):=by
 have key:∀(i:Nat) (cs:List AV) (j:Nat) (av:AV),es[i]?=some cs→cs[j]?=some av→∃x,vs[off+(i*sz+j)]?=some x∧x.oneCell'=true∧BI g w Fp av x∧i*sz+j<es.length*sz:=by
  intro i cs j av h1 h2;have hcl:=hl cs (Av h1);have hj:j<sz:=by rw[←hcl];exact(As.1 h2).1
  have hi:=(As.1 h1).1;have DI:i*sz+j<es.length*sz:=by
   have:=Bj sz (show i+1≤es.length from hi)
   rw[DV]at this;omega
  have hf:=E9 hl h1 hj;rw[h2]at hf;obtain⟨x,x1,x2,x3⟩:=hr.at hf;rw[BH DI,BR,A2]at x1;exact⟨x,x1,x2,x3,DI⟩
 refine .slice U es b off sz cap (fun i j=>vs[off+(i*sz+j)]?.getD default) hc (fun i cs h=>hl cs (Av h)) (fun i cs j av h1 h2=>?_) (fun i cs j av h1 h2=>?_)
 ·obtain⟨x,x1,x2,x3,x4⟩:=key i cs j av h1 h2;rw[Gp];refine⟨hS _ x4,?_,?_⟩
  ·rw[FC hb,x1];rfl
  ·rw[x1];exact x2
 ·obtain⟨x,x1,x2,x3,x4⟩:=key i cs j av h1 h2;rw[x1];exact x3
theorem BI.slice_row{g:Gh}{w:World}{U:Nat→Prop}{b sz cap:Nat}{es:List (List AV)}{vs:Array Value}{E:TypeId}{f:Nat×Nat}(hb:w.heap[b]?=some (.cells vs E f))(hl:∀cs∈es,cs.length=sz)
  (hc:es.length≤cap) (hr:CF g w Fp es.flatten (vs.toList.take (es.length*sz))) (hS:∀o,o<es.length*sz→g.S b o):BI g w U (.slice .none es) (.slice (some ⟨b,0,none⟩) es.length cap):=by
 have key:∀(i:Nat) (cs:List AV) (j:Nat) (av:AV),es[i]?=some cs→cs[j]?=some av→∃x,vs[i*sz+j]?=some x∧x.oneCell'=true∧BI g w Fp av x∧i*sz+j<es.length*sz:=by
  intro i cs j av h1 h2;have hcl:=hl cs (Av h1);have hj:j<sz:=by rw[←hcl];exact(As.1 h2).1
  have hi:=(As.1 h1).1;have DI:i*sz+j<es.length*sz:=by
   have:=Bj sz (show i+1≤es.length from hi)
   rw[DV]at this;omega
  have hf:=E9 hl h1 hj;rw[h2]at hf;obtain⟨x,x1,x2,x3⟩:=hr.at hf;rw[BH DI,A2]at x1;exact⟨x,x1,x2,x3,DI⟩
 refine .slice U es b 0 sz cap (fun i j=>vs[i*sz+j]?.getD default) hc (fun i cs h=>hl cs (Av h)) (fun i cs j av h1 h2=>?_) (fun i cs j av h1 h2=>?_)
 ·obtain⟨x,x1,x2,x3,x4⟩:=key i cs j av h1 h2;rw[Bk];refine⟨hS _ x4,?_,?_⟩
  ·rw[FC hb,x1];rfl
  ·rw[x1];exact x2
 ·obtain⟨x,x1,x2,x3,x4⟩:=key i cs j av h1 h2;rw[x1];exact x3
section
variable {P:Program}{w0:World}{g0:Gh}{h0 h:Nat→HO}{g:Gh}{w:World}
theorem QI(hI:DJ w0 g0 h0 h g w){d:Nat}(hd:h d=.free){cs:List AV}{vs:Array Value}(E:TypeId)(hr:CF g w (AR h) cs vs.toList) :
  ∃g',DJ w0 g0 h0 (AW h d (.cells cs)) g' (w.alloc (.cells vs E (0,0)))∧Le h g w (AW h d (.cells cs)) g' (w.alloc (.cells vs E (0,0))) ∧
   BI g' (w.alloc (.cells vs E (0,0))) (AR (AW h d (.cells cs))) (.ref d 0) (.pointer (some ⟨w.heap.size,0,none⟩)):=by
 obtain⟨k1,k2⟩:=hI.newOwn hd (.cells cs) (.cells vs E (0,0)) (.pointer (some ⟨w.heap.size,0,none⟩)) 0 false w ⟨rfl,rfl,rfl,rfl⟩ (by simp) (fun hg hk=>by
  obtain⟨u1,u2,u3,u4⟩:=BA g d (.pointer (some ⟨w.heap.size,0,none⟩)) 0 false (some w.heap.size) g.S;exact⟨u3,w.heap.size,E,vs,u4,u1,Hx w _ rfl,hr.mono hk (fun i hi=>DO (by simp) i hi) hg,fun o ho=>by have:=hI.slt _ _ ho;omega⟩)
 refine⟨_,k1,k2,.ref _ d 0 w.heap.size (by unfold AR;rw[Bd];simp) ?_ ?_⟩
 ·simp[Gh.upd]
 ·simp[Gh.upd]
theorem gp(hI:DJ w0 g0 h0 h g w){d:Nat}(hd:h d=.free){cs:List AV}{vs:Array Value}(E:TypeId)(hr:CF g w Fp cs vs.toList) :
  ∃g',DJ w0 g0 h0 (AW h d (.ro cs)) g' (w.alloc (.cells vs E (0,0)))∧Le h g w (AW h d (.ro cs)) g' (w.alloc (.cells vs E (0,0))) ∧
   BI g' (w.alloc (.cells vs E (0,0))) (AR (AW h d (.ro cs))) (.ref d 0) (.pointer (some ⟨w.heap.size,0,none⟩)):=by
 obtain⟨k1,k2⟩:=hI.newStable hd (.ro cs) vs E cs.length (.pointer (some ⟨w.heap.size,0,none⟩)) 0 false w ⟨rfl,rfl,rfl,rfl⟩ (by simp) (fun hg hk=>by
  obtain⟨u1,u2,u3,u4⟩:=BA g d (.pointer (some ⟨w.heap.size,0,none⟩)) 0 false none (g.more w.heap.size cs.length);exact⟨u3,w.heap.size,u1,BI.cptr_row (Hx w _ rfl) (hr.mono hk (fun _ h=>h) (fun _ h=>h.elim)) (fun o ho=>.inr ⟨rfl,ho⟩)⟩)
 refine⟨_,k1,k2,.ref _ d 0 w.heap.size (by unfold AR;rw[Bd];simp) ?_ ?_⟩
 ·simp[Gh.upd]
 ·simp[Gh.upd]
theorem JM(hI:DJ w0 g0 h0 h g w){cx:Cx}{d:Option Nat}{sz:Nat}{es:List (List AV)}{K:HK}(hk:Ew cx d h sz es K){vs:Array Value}{cap:Nat}(E:TypeId)(hl:∀cs∈es,cs.length=sz)
  (hc:es.length≤cap) (hs:vs.size=cap*sz) (hr:CF g w Fp es.flatten (vs.toList.take (es.length*sz))) (w1:World) (KK:w1.heap=w.heap∧w1.os=w.os∧w1.tape=w.tape∧w1.output=w.output) :
  ∃g' av h',K av h'∧DJ w0 g0 h0 h' g' (w1.alloc (.cells vs E (0,0)))∧Le h g w h' g' (w1.alloc (.cells vs E (0,0))) ∧
   BI g' (w1.alloc (.cells vs E (0,0))) (AR h') av (.slice (some ⟨w.heap.size,0,none⟩) es.length cap):=by
 have EO:(w1.alloc (.cells vs E (0,0))).heap[w.heap.size]?=some (.cells vs E (0,0)):=Hx w1 _ (by rw[KK.1]);unfold Ew at hk;split at hk
 ·exact hk.elim
 ·rename_i d;generalize Kq cx d=d1 at hk;split at hk
  ·rename_i hd;split at hk
   ·obtain⟨k1,k2⟩:=hI.newOwn hd (.arr sz es) (.cells vs E (0,0)) (.slice (some ⟨w.heap.size,0,none⟩) es.length cap) es.length true w1 KK (by simp) (fun hg HQ=>by
     obtain⟨u1,u2,u3,u4⟩:=BA g d1 (.slice (some ⟨w.heap.size,0,none⟩) es.length cap) es.length true (some w.heap.size) g.S;exact⟨u3,u2,hl,.inr ⟨w.heap.size,cap,E,vs,u1,u4,hc,EO,hs,hr.mono HQ (fun _ h=>h) (fun _ h=>h.elim),fun o ho=>by have:=hI.slt _ _ ho;omega⟩⟩)
    refine⟨_,_,_,hk,k1,k2,.msl _ d1 es.length _ cap (by unfold AR;rw[Bd];simp) ?_ ?_ (.inr ⟨_,rfl⟩) ?_⟩<;>simp[Gh.upd]
   ·by_cases fm:es.length=cap
    ·obtain⟨k1,k2⟩:=hI.newStable hd (.tok sz es.length) vs E (es.length*sz) (.slice (some ⟨w.heap.size,0,none⟩) es.length cap) es.length true w1 KK (by simp) (fun hg HQ=>by
      obtain⟨u1,u2,u3,u4⟩:=BA g d1 (.slice (some ⟨w.heap.size,0,none⟩) es.length cap) es.length true none (g.more w.heap.size (es.length*sz));exact⟨u3,u2,_,cap,u1,.inl ⟨fm,u4⟩⟩)
     refine⟨_,_,_,hk,k1,k2,.tok _ d1 sz es _ (BI.slice_row EO hl hc (hr.mono k2.keeps (fun _ h=>h) (fun _ h=>h.elim)) (fun o ho=>.inr ⟨rfl,ho⟩)) hl (by unfold AR;rw[Bd];simp) ?_ ?_ ?_⟩<;>simp[Gh.upd]
    ·have oy:=hI.upd d1 (.tok sz es.length) (.slice (some ⟨w.heap.size,0,none⟩) es.length cap) es.length true (some w.heap.size) (g.more w.heap.size (es.length*sz)) (w1.alloc (.cells vs E (0,0))) none
      ⟨KK.2.1,KK.2.2.1,KK.2.2.2,by rw[World.size_alloc,KK.1];omega⟩ (fun k JX _=>by rw[heap_alloc_old _ _ (by rw[KK.1];exact JX),KK.1]) (fun b e=>by cases e) (fun _ _ h=>.inl h)
      (fun b o hb=>by
       rcases hb with hb | ⟨rfl,_⟩
       ·exact .inl hb
       ·exact .inr ⟨by rw[World.size_alloc,KK.1];omega,.inl (Ak _)⟩) (fun b o e=>by cases e)
      (fun b _ e=>by cases e;rw[World.size_alloc,KK.1];exact⟨by omega,.inr (Ak _)⟩) (by simp) (fun hu=>absurd hd hu) (fun hg HQ=>by
       obtain⟨u1,u2,u3,u4⟩:=BA g d1 (.slice (some ⟨w.heap.size,0,none⟩) es.length cap) es.length true (some w.heap.size) (g.more w.heap.size (es.length*sz));exact⟨u3,u2,_,cap,u1,.inr ⟨hc,w.heap.size,E,vs,0,rfl,u4,EO,by rw[hs,Bk],fun o ho=>by
        rcases ho with ho | ⟨_,ho⟩
        ·have:=hI.slt _ _ ho;omega
        ·omega⟩⟩)
     obtain⟨k1,k2⟩:=oy;refine⟨_,_,_,hk,k1,k2,.tok _ d1 sz es _ (BI.slice_row EO hl hc (hr.mono k2.keeps (fun _ h=>h) (fun _ h=>h.elim)) (fun o ho=>.inr ⟨rfl,ho⟩)) hl (by unfold AR;rw[Bd];simp) ?_ ?_ ?_⟩<;>simp[Gh.upd]
  ·exact hk.elim
end
theorem MD{α:Type}:∀(cs:List α) (o:Nat) (vs:List α),o+vs.length≤cs.length→over cs o vs=cs.take o++vs++cs.drop (o+vs.length)
 | [],o,vs,h=>by
  simp at h;obtain⟨rfl,rfl⟩:=h
  rfl
 |c::cs,o+1,vs,h=>by
  rw[over,MD cs o vs (by simp at h;omega)];simp only[IP,Iy,AO,Nat.add_right_comm o 1,List.drop_succ_cons]
 |c::cs,0,[],h=>by simp[over]
 |c::cs,0,v::vs,h=>by
  rw[over,MD cs 0 vs (by simp at h;omega)];simp
theorem U9{α:Type}(cs:List α)(o n:Nat)(vs:List α)(h:o+vs.length≤n)(hn:n≤cs.length):(over cs o vs).take n=over (cs.take n) o vs:=by
 apply CC;intro i;rw[FF _ _ _ _ (by simp;omega)]
 by_cases hi:i<n
 ·rw[BH hi,FF _ _ _ _ (by omega),BH hi]
 ·rw[Al (by omega),A6 (by rw[AJ,FG];omega),A6 (by simp;omega)]
theorem LQ{α:Type}{n:Nat}:∀{es:List (List α)},(∀c∈es,c.length=n)→∀{i:Nat} {c:List α},es[i]?=some c→∀(o:Nat) (vs:List α),o+vs.length≤n →
  (es.set i (over c o vs)).flatten=over es.flatten (i*n+o) vs
 | [],_,i,c,h,_,_,_=>by simp at h
 |d::es,hl,i,c,h,o,vs,Hi=>by
  have hd:=hl d (Aa ..);have hfl:=Df (es:=d::es) (n:=n) hl;have DI:=(As.1 h).1;have qn:i*n+o+vs.length≤(d::es).flatten.length:=by
   rw[hfl]
   have:=Bj n (show i+1≤(d::es).length from DI)
   rw[DV]at this;omega
  have hcl:=hl c (Av h);apply CC;intro j;rw[FF _ _ _ _ qn];have Nr:∀e∈(d::es).set i (over c o vs),e.length=n:=fun e he=>by
   rcases IF he with he | rfl
   ·exact hl e he
   ·rw[FG];exact hcl
  by_cases hn:n=0
  ·subst hn;have h1:=Df Nr;have h2:=hfl;simp only[Nat.mul_zero,List.length_eq_zero_iff]at h1 h2;rw[h1,h2]
   have:¬(i*0+o≤j∧j<i*0+o+vs.length):=by omega
   rw[Al this]
  ·have oA:j=j / n*n+j % n:=by rw[Nat.mul_comm];exact(Ui j n).symm
   have Xs:j % n<n:=Nat.mod_lt _ (by omega)
   by_cases hj:j / n<(d::es).length
   ·have g1:(d::es)[j / n]?=some ((d::es)[j / n]):=Ay hj;have g2:((d::es).set i (over c o vs))[j / n]?=some (if i=j / n then over c o vs else(d::es)[j / n]):=by
     rw[Qj]
     by_cases e:i=j / n
     ·rw[Az e,Az (by omega),Az e]
     ·rw[Al e,Al e];exact g1
    have f1:=E9 hl g1 Xs;have f2:=E9 Nr g2 Xs;rw[←oA]at f1 f2;rw[f1,f2];split
    ·rename_i e;rw[e]at h;rw[g1]at h;cases h;rw[FF _ _ _ _ (by omega)];have e2:i*n+o≤j↔o≤j % n:=by rw[e];omega
     have e3:j<i*n+o+vs.length↔j % n<o+vs.length:=by rw[e];omega
     simp only[e2,e3];split
     ·congr 1;rw[e];omega
     ·rfl
    ·rename_i e
     have:¬(i*n+o≤j∧j<i*n+o+vs.length):=by
      rintro⟨q1,q2⟩
      apply e;have a1:i*n≤j:=by omega
      have a2:j<(i+1)*n:=by rw[DV];omega
      have:=(Nat.le_div_iff_mul_le (by omega)).2 a1
      have:=(Lg (by omega)).2 a2
      omega
     rw[Al this]
   ·have oD:(d::es).length*n≤j:=by
     have:=Nat.not_lt.1 hj
     have:=(Nat.le_div_iff_mul_le (by omega)).1 this
     exact this
    have:¬(i*n+o≤j∧j<i*n+o+vs.length):=by rw[hfl]at qn;omega
    rw[Al this,A6 (by rw[Df Nr,CR];exact oD),A6 (by rw[hfl];exact oD)]
theorem OW{P:Program}{T:Gq}(hT:Cy P T)(w:World){t b off:Nat}{x:Value}{Fz:Array Value}{E:TypeId}(hd:(T t).d≠.other)(hs:x.cells.toList.length=(T t).size)
  (h1:∀v∈x.cells.toList,v.oneCell'=true) (hb:w.heap[b]?=some (.cells Fz E (0,0))) (Hi:off+x.cells.toList.length≤Fz.size) :
  (Instr.storeAt t (.pointer (some ⟨b,off,none⟩)) x).run P w=.ok () (w.setRow b (over Fz.toList off x.cells.toList).toArray):=by
 have Jc:=run_storeCells_at P b off E x.cells.toList 0 Fz w hb (by simpa using Hi) h1;simp only[DB]at Jc;have Wy : x.cells.size=(T t).size:=by simpa using hs
 rw[MD _ _ _ (by simpa using Hi)];simp only[Instr.storeAt,Sem.run_bind,Instr.sureAddr,Sem.run_pure,Result.andThen_ok,storeVar,hT.size w hd,Wy,U4,not_true_eq_false,Gg];exact Jc
section
variable {P:Program}{w0:World}{g0:Gh}{h0 h:Nat→HO}{g:Gh}{w:World}(hI:DJ w0 g0 h0 h g w)
include hI
theorem aY{T:Gq}(hT:Cy P T){d:Option Nat}{e:Nat}{K:HK}(hk:RF T d h e K):NS P w0 g0 h0 h g w (Instr.alloc e true (.tuple #[])) K:=by
 unfold RF at hk;split at hk
 ·exact hk.elim
 ·split at hk
  ·rename_i hd;split at hk
   ·exact hk.elim
   ·rename_i DD;split at hk
    ·rename_i ha;obtain⟨z,z1,z2,_⟩:=Pe hT (w:=w) DD;have hr:CF g w (AR h) ((T e).zc.map .v) z.cells.toList:=by rw[z2]at ha⊢;exact CF.vals ha
     obtain⟨g',k1,k2,k3⟩:=QI hI hd (vs:=z.cells) e hr;refine⟨_,_,g',_,_,?_,hk,k1,k2,k3⟩;simp[Instr.alloc,z1,newVar,newRow]
    ·exact hk.elim
  ·exact hk.elim
theorem O0{cs:List AV}{vs:List Value}(hr:CF g w (AR h) cs vs):CF g w Fp (cs.map (str h)) vs:=by
 refine⟨by rw[Bb];exact hr.1,hr.2.1,fun i av x h1 h2=>?_⟩;rw[AG,AZ]at h1;obtain⟨a,a1,rfl⟩:=h1;exact(hr.2.2 i a x a1 h2).str hI.objs
theorem jh{cx:Cx}{d:Option Nat}{e:Nat}{x:AV}{vx:Value}{K:HK}(hx:BI g w (AR h) x vx)(hk:bm cx d h e x K):NS P w0 g0 h0 h g w (Instr.box e vx) K:=by
 unfold bm at hk;split at hk
 ·exact hk.elim
 ·split at hk
  ·rename_i hd;split at hk
   ·exact hk.elim
   ·obtain⟨cs,hk,hn,hr⟩:=Mn hx hk;split at hk
    ·obtain⟨g',k1,k2,k3⟩:=gp hI hd (vs:=vx.cells) e (O0 hI hr);exact⟨_,_,g',_,_,rfl,hk,k1,k2,k3⟩
    ·obtain⟨g',k1,k2,k3⟩:=QI hI hd (vs:=vx.cells) e hr;exact⟨_,_,g',_,_,rfl,hk,k1,k2,k3⟩
  ·exact hk.elim
theorem DJ.write{r b:Nat}(hl:(h r).live)(ho:g.own r=some b)(o' : HO){Fz:Array Value}{E:TypeId}(hb:w.heap[b]?=some (.cells Fz E (0,0)))(new:Array Value)(n:Nat)(ow:Option Nat)(S' : Nat→Nat→Prop)
  (DD:o'≠.free) (hn:n=g.ln r) (qu:∀b',ow=some b'→b'=b) (hS:∀b o,g.S b o→S' b o) (rT:∀b' o,S' b' o→g.S b' o∨b'=b) (qk:∀o,g.S b o→new[o]?=Fz[o]?)
  (Jb:JS g (g.upd r (g.ρ r) n (g.tk r) ow S') (AR h)→EY g w (g.upd r (g.ρ r) n (g.tk r) ow S') (w.setRow b new)→(w.setRow b new).heap[b]?=some (.cells new E (0,0)) →
   Ea (g.upd r (g.ρ r) n (g.tk r) ow S') (w.setRow b new) (AR (AW h r o')) r o') :
  DJ w0 g0 h0 (AW h r o') (g.upd r (g.ρ r) n (g.tk r) ow S') (w.setRow b new)∧Le h g w (AW h r o') (g.upd r (g.ρ r) n (g.tk r) ow S') (w.setRow b new):=by
 have EO:=setRow_heap w b Fz new E (0,0) hb;have DI:=(hI.loc r b hl ho).1
 refine hI.upd r o' _ _ _ _ _ _ (some b) ⟨rfl,rfl,rfl,by rw[size_setRow];exact Ak _⟩ (fun k hk DD=>setRow_other w b k new (fun e=>DD (by rw[e]))) (fun b' e=>by cases e;exact⟨hl,ho⟩) hS (fun b' o hs=>?_)
  (fun b' o e hs=>?_) (fun b' _ e=>?_) DD (fun _=>⟨rfl,by omega,fun _=>rfl,fun _=>rfl⟩) (fun hg hk=>Jb hg hk EO)
 ·rcases rT b' o hs with h1 | rfl
  ·exact .inl h1
  ·exact .inr ⟨by rw[size_setRow];exact DI,.inr ⟨hl,ho⟩⟩
 ·cases e
  refine⟨?_,fun es ck he=>by rw[hb]at he;cases he⟩;rw[FC EO,FC hb];exact qk o hs
 ·obtain rfl:=qu b' e;exact⟨by rw[size_setRow];exact DI,.inl ⟨hl,ho⟩⟩
theorem df{cx:Cx}(hT:Cy P cx.T){t:Nat}{p x:AV}{vp vx:Value}{K:HK}(hp:BI g w (AR h) p vp)(hx:BI g w (AR h) x vx)(hk:NN cx h t p x K) :
  dA P w0 g0 h0 h g w (Instr.storeAt t vp vx) K:=by
 unfold NN at hk;split at hk
 ·exact hk.elim
 ·rename_i hd;have h5:=Mn hx hk
  clear hk
  obtain⟨vs,hk,hn,hr⟩:=h5;have CB:vx.cells.toList.length=vs.length:=hr.1;split at hk
  ·rename_i r off;have ho:=hI.objs r;split at hk
   ·rename_i cs e;obtain⟨Hi,hk⟩:=hk;rw[e]at ho;obtain⟨t0,b,E,Fz,a1,a2,a3,a4,a5⟩:=ho;cases hp with
    |ref _ _ _ b' hu ht lE =>
     rw[a2]at lE;cases lE;have hcs:Fz.toList.length=cs.length:=a4.1;have CN:=OW hT w (t:=t) (off:=off) (x:=vx) hd (by rw[CB,hn]) hr.2.1 a3 (by rw[CB];simp at hcs;omega);have hl:(h r).live:=by rw[e];trivial
     have nf:=a4.over hr off Hi;split at hk
     ·obtain⟨k1,k2⟩:=hI.write hl a1 (.ro ((over cs off vs).map (str h))) a3 (over Fz.toList off vx.cells.toList).toArray (g.ln r) none (g.more b cs.length) (by simp) rfl (fun _ e=>by cases e) (fun _ _ h=>.inl h)
       (fun b' o hs=>hs.elim .inl (fun hs=>.inr hs.1)) (fun o hs=>absurd hs (a5 o)) (fun hg HQ EO=>by
        obtain⟨u1,u2,u3,u4⟩:=BA g r (g.ρ r) (g.ln r) (g.tk r) none (g.more b cs.length);refine⟨u3.trans t0,b,u1.trans a2,BI.cptr_row EO ?_ (fun o ho=>.inr ⟨rfl,?_⟩)⟩
        ·exact(O0 hI nf).mono HQ (fun _ h=>h) (fun _ h=>h.elim)
        ·rw[Bb,FG]at ho;exact ho)
      exact⟨_,_,_,CN,hk,k1,k2⟩
     ·obtain⟨k1,k2⟩:=hI.write hl a1 (.cells (over cs off vs)) a3 (over Fz.toList off vx.cells.toList).toArray (g.ln r) (g.own r) g.S (by simp) rfl (fun b' e=>by rw[a1]at e;cases e;rfl) (fun _ _ h=>h)
       (fun b' o hs=>.inl hs) (fun o hs=>absurd hs (a5 o)) (fun hg HQ EO=>by
        obtain⟨u1,u2,u3,u4⟩:=BA g r (g.ρ r) (g.ln r) (g.tk r) (g.own r) g.S;exact⟨u3.trans t0,b,E,_,u4.trans a1,u1.trans a2,EO,nf.mono HQ (fun i hi=>DO (by simp) i hi) hg,a5⟩)
      exact⟨_,_,_,CN,hk,k1,k2⟩
   ·exact hk.elim
  ·rename_i r n sz i off;have ho:=hI.objs r;split at hk
   ·rename_i Gm es e;rw[e]at ho;split at hk
    ·rename_i hz;obtain rfl:=AL hz;obtain⟨hnl,cs,hi,Hi,hk⟩:=hk;obtain⟨t1,l1,al,a1⟩:=ho;have DI:=(As.1 hi).1;rcases a1 with ⟨rfl,_⟩ | ⟨b,cap,E,Fz,e1,e2,e3,e4,e5,e6,e7⟩
     ·simp at hi
     ·cases hp with
      |eref _ _ _ _ _ _ b' Lu hu ht Xt lE =>
       have lE:=lE (hnl.trans l1.symm);rw[e1]at lE;simp only[Value.slice.injEq,Bo,Addr.mk.injEq]at lE;obtain⟨⟨rfl,_,_⟩,_,_⟩:=lE;have hcl:=al cs (Av hi);have SC:i*sz+sz≤es.length*sz:=by
        have:=Bj sz (show i+1≤es.length from DI)
        rwa [DV]at this
       have fu:es.length*sz≤cap*sz:=Bj sz e3;have CN:=OW hT w (t:=t) (off:=i*sz+off) (x:=vx) hd (by rw[CB,hn]) hr.2.1 e4 (by rw[CB];omega);have hl:(h r).live:=by rw[e];trivial
       have pU : ∀c∈es.set i (over cs off (vs.map (str h))),c.length=sz:=fun c hc=>by
        rcases IF hc with hc | rfl
        ·exact al c hc
        ·rw[FG];exact hcl
       have hfl:=LQ al hi off (vs.map (str h)) (by rw[Bb];exact Hi);have Xo:Fz.toList.length=cap*sz:=by rw[B5];exact e5
       have uO:((over Fz.toList (i*sz+off) vx.cells.toList).toArray.toList.take ((es.set i (over cs off (vs.map (str h)))).length*sz))=over (Fz.toList.take (es.length*sz)) (i*sz+off) vx.cells.toList:=by
        rw[CR];exact U9 _ _ _ _ (by rw[CB];omega) (by rw[Xo];exact fu)
       have nf:CF g w Fp (es.set i (over cs off (vs.map (str h)))).flatten ((over Fz.toList (i*sz+off) vx.cells.toList).toArray.toList.take ((es.set i (over cs off (vs.map (str h)))).length*sz)):=by
        rw[uO,hfl];exact e6.over (O0 hI hr) _ (by rw[Bb,Df al];omega)
       split at hk
       ·rename_i j m;have dw:∃x0,vx.cells.toList=[x0]:=by
         revert CB
         cases vx.cells.toList with
         |nil=>intro CB;cases CB
         |cons x0 l=>cases l with
          |nil=>intro _;exact⟨x0,rfl⟩
          |cons _ _=>intro CB;simp at CB
        obtain⟨x0,dw⟩:=dw;have Ec:=hr.2.2 0 (.msl j m) x0 rfl (by rw[dw];rfl)
        obtain⟨k1,k2⟩:=hI.write hl e2 (.hol sz (es.set i (over cs off [.junk])) i off (.msl j m)) e4 (over Fz.toList (i*sz+off) vx.cells.toList).toArray (g.ln r) (g.own r) g.S (by simp) rfl (fun b' e=>by rw[e2]at e;cases e;rfl) (fun _ _ h=>h)
         (fun b' o hs=>.inl hs) (fun o hs=>absurd hs (e7 o)) (fun hg HQ EO=>by
          obtain⟨u1,u2,u3,u4⟩:=BA g r (g.ρ r) (g.ln r) (g.tk r) (g.own r) g.S;have m9:i*sz+off<es.length*sz:=by simp only[At,AC]at Hi;omega
          refine⟨u3.trans t1,u2.trans (by rw[CR];exact l1),pU,b,cap,E,_,?_,u4.trans e2,by rw[CR];exact e3,EO,?_,nf.mono HQ (fun _ h=>h) (fun _ h=>h.elim),e7,by rw[CR];exact m9,x0,?_,Ec.mono HQ (fun i hi=>DO (by simp) i hi) hg⟩
          ·rw[u1,e1,CR]
          ·simp only[Fm,FG,B5];exact e5
          ·rw[←A2,dw,FF _ _ _ _ (by rw[Xo];simp only[At,AC];omega),Az ⟨Ak _,by simp only[At,AC];omega⟩,Ga];rfl)
        exact⟨_,_,_,CN,hk,k1,k2⟩
       ·obtain⟨k1,k2⟩:=hI.write hl e2 (.arr sz (es.set i (over cs off (vs.map (str h))))) e4 (over Fz.toList (i*sz+off) vx.cells.toList).toArray (g.ln r) (g.own r) g.S (by simp) rfl (fun b' e=>by rw[e2]at e;cases e;rfl) (fun _ _ h=>h)
         (fun b' o hs=>.inl hs) (fun o hs=>absurd hs (e7 o)) (fun hg HQ EO=>by
          obtain⟨u1,u2,u3,u4⟩:=BA g r (g.ρ r) (g.ln r) (g.tk r) (g.own r) g.S;refine⟨u3.trans t1,u2.trans (by rw[CR];exact l1),pU,.inr ⟨b,cap,E,_,?_,u4.trans e2,by rw[CR];exact e3,EO,?_,nf.mono HQ (fun _ h=>h) (fun _ h=>h.elim),e7⟩⟩
          ·rw[u1,e1,CR]
          ·simp only[Fm,FG,B5];exact e5)
        exact⟨_,_,_,CN,hk,k1,k2⟩
    ·exact hk.elim
   ·exact hk.elim
  ·exact hk.elim
end
theorem cI{α:Type}(c vs:List α)(h:vs.length=c.length):over c 0 vs=vs:=by
 rw[MD _ _ _ (by omega)];simp[h]
theorem HF{α:Type}[Inhabited α](n:Nat)(z:List α)(hz:z≠[]):(List.replicate n z).flatten=(List.range (n*z.length)).map fun k=>z[k % z.length]!:=by
 have hl:∀c∈List.replicate n z,c.length=z.length:=fun c hc=>by rw[Cf hc]
 have Y2:0<z.length:=MQ.2 hz;apply CC;intro k
 by_cases hk:k<n*z.length
 ·have oA:k=k / z.length*z.length+k % z.length:=by rw[Nat.mul_comm];exact(Ui k _).symm
  have Xs:k % z.length<z.length:=Nat.mod_lt _ Y2;have hi:k / z.length<n:=(Lg Y2).2 hk;have f1:=E9 hl (i:=k / z.length) (c:=z) (by rw[List.getElem?_replicate,Az hi]) Xs;rw[←oA]at f1;rw[f1];simp[hk,Xs]
 ·rw[A6 (by rw[Df hl,Cq];omega),A6 (by simp;omega)]
section
variable {P:Program}{w0:World}{g0:Gh}{h0 h:Nat→HO}{g:Gh}{w:World}(hI:DJ w0 g0 h0 h g w)
include hI
theorem Xb{n sz:Nat}{t:Nat→AV}{ρ:Operand→Value}(ht:∀x:Operand,BI g w (AR h) (ev t x) (ρ x)) :
  ∀{ps:List (Nat×Operand)} {es:List (List AV)} {xs:Array Value} {K:List (List AV)→Prop},es.length=n→(∀c∈es,c.length=sz)→CF g w Fp es.flatten xs.toList→Qt n sz h es t ps K →
   ∃FA Vo,K FA∧FA.length=n∧(∀c∈FA,c.length=sz)∧CF g w Fp FA.flatten Vo.toList∧Instr.fill (fun i=>some (i*sz,sz)) xs (ps.map fun(i,x)=>(i,ρ x))=some Vo
 | [],es,xs,K,hn,hl,h,hk=>⟨es,xs,hk,hn,hl,h,rfl⟩
 |(i,x)::ps,es,xs,K,hn,hl,h,hk=>by
  unfold Qt at hk;split at hk
  ·rename_i hi;have hi:i<n:=HN hi;have h5:=Mn (ht x) hk
   clear hk
   obtain⟨TX,hk,na,hr⟩:=h5;have EH:(ρ x).cells.size=sz:=by rw[←na];simpa using hr.1
   have Wz:=O0 hI hr;obtain⟨c,hc⟩:∃c,es[i]?=some c:=⟨_,Ay (by omega)⟩;have hcl:=hl c (Av hc);have Hi:i*sz+sz≤es.flatten.length:=by
    rw[Df hl,hn]
    have:=Bj sz (show i+1≤n from hi)
    rwa [DV]at this
   have hfl:=LQ hl hc 0 (TX.map (str ‹Nat→HO›)) (by rw[Bb,na];omega);rw[cI _ _ (by rw[Bb,na,hcl]),DB]at hfl;have EO:=h.over Wz (i*sz) (by rw[Bb,na];exact Hi);have iP:xs.size=es.flatten.length:=by have:=h.1;rwa [B5]at this
   have e:=Nq (ρ x).cells.toList 0 (i*sz) xs (by rw[B5];omega);simp only[DB]at e;rw[←e,←hfl]at EO;obtain⟨FA,Vo,k1,k2,k3,k4,k5⟩:=Xb ht (es:=es.set i (TX.map (str _))) (by rw[CR];exact hn) (fun c' ov=>by
    rcases IF ov with ov | rfl
    ·exact hl c' ov
    ·rw[Bb];exact na) EO hk
   refine⟨FA,Vo,k1,k2,k3,k4,?_⟩;simp only[AP,Instr.fill];have e2:(ρ x).cells.zipIdx.foldl (fun cs (c,j)=>cs.setIfInBounds (i*sz+j) c) xs=((ρ x).cells.toList.zipIdx 0).foldl (fun(cs:Array Value) (p:Value×Nat)=>cs.setIfInBounds (i*sz+p.2) p.1) xs:=by
    rw[←Array.foldl_toList];simp
   rw[Al (by simp[EH];omega),e2];exact k5
  ·exact hk.elim
theorem RN{cx:Cx}(hT:Cy P cx.T){d:Option Nat}{ty n:Nat}{t:Nat→AV}{ρ:Operand→Value}{K:HK}(ht:∀x:Operand,BI g w (AR h) (ev t x) (ρ x)){ps:Array (Nat×Operand)}
  (hk:Im cx d h ty n t ps.toList K):NS P w0 g0 h0 h g w (Instr.buildSlice ty n (ps.map fun(i,x)=>(i,ρ x))) K:=by
 unfold Im at hk;split at hk
 ·rename_i e hs;split at hk
  ·rename_i Q0 MM;have MM:=AL MM;split at hk
   ·exact hk.elim
   ·rename_i m hm;split at hk
    ·rename_i Hi;have Hi:=HN Hi;have nu:(cx.T e).zc≠[]:=fun e0=>by rw[e0]at MM;rw[hm]at MM;cases MM
     have r7:∀c∈List.replicate n ((cx.T e).zc.map AV.v),c.length=(cx.T e).size:=fun c hc=>by rw[Cf hc,Bb];exact MM
     have qg:CF g w Fp (List.replicate n ((cx.T e).zc.map AV.v)).flatten ((Array.range (n*(cx.T e).size)).map fun k=>(cx.T e).zc.toArray[k % (cx.T e).zc.toArray.size]!).toList:=by
      have e1:((Array.range (n*(cx.T e).size)).map fun k=>(cx.T e).zc.toArray[k % (cx.T e).zc.toArray.size]!).toList=(List.replicate n (cx.T e).zc).flatten:=by
       rw[HF n _ nu];simp[MM]
      have e2:(List.replicate n ((cx.T e).zc.map AV.v)).flatten=(List.replicate n (cx.T e).zc).flatten.map AV.v:=by
       rw[RB,List.map_replicate]
      rw[e1,e2];refine CF.vals ?_;have FS:∀l:List AV,(∀a∈l,one a=true)→GW l=true:=by
       intro l
       induction l with
       |nil=>intro _;rfl
       |cons a l ih=>intro h;simp[GW,h a (List.mem_cons_self ..),ih (fun b hb=>h b (List.mem_cons_of_mem _ hb))]
      refine FS _ (fun a ha=>?_);obtain⟨x,hx,rfl⟩:=Am.1 ha;obtain⟨l,hl,hx⟩:=Ep.1 hx;rw[Cf hl]at hx;exact Mi Q0 _ (Am.2 ⟨x,hx,rfl⟩)
     obtain⟨FA,Vo,k1,k2,k3,k4,k5⟩:=Xb hI ht (by rw[Cq]) r7 qg hk;have iP:Vo.size=n*(cx.T e).size:=by
      have:=k4.1
      rw[B5,Df k3,k2]at this;exact this
     obtain⟨g',av,h',q1,q2,q3,q4⟩:=JM hI k1 (vs:=Vo) (cap:=n) e k3 (by omega) iP (by
      rw[k2,AT (by rw[B5,iP];exact Ak _)];exact k4) w ⟨rfl,rfl,rfl,rfl⟩
     rw[k2]at q4;refine⟨_,_,g',av,h',?_,q1,q2,q3,q4⟩;obtain⟨z,z1,z2⟩:=Vq hT (w:=w) hm;have EH:=hT.size1 w hm;have e3:(Array.map (fun x:Nat×Operand=>match x with | (i,x)=>(i,ρ x)) ps).toList=ps.toList.map fun(i,x)=>(i,ρ x):=by simp
     have uu:¬(n*(m+1)>2 ^ 24):=by rw[hm]at Hi;have Hi:n*(m+1)≤16777216:=Hi;omega
     simp only[Instr.buildSlice,Sem.run_bind,run_underlying (hT.slice hs),Result.andThen_ok,EH,Al uu];rw[e3];rw[hm]at k5
     by_cases h0:n*(m+1)=0
     ·have r9:n=0:=by
       rcases Nat.mul_eq_zero.1 h0 with h | h
       ·exact h
       ·cases h
      subst r9;have er:Array.range 0=#[]:=rfl;simp only[Kh,er,List.map_toArray,E0]at k5;simp only[Kh,QB,er,List.map_toArray,E0,k5];simp[newRow]
     ·rw[z2]at k5;simp only[Array.toArray_toList]at k5;simp only[Al h0,Sem.run_bind,z1,Result.andThen_ok,Sem.run_pure,k5];simp[newRow]
    ·exact hk.elim
  ·exact hk.elim
 ·exact hk.elim
end
theorem FM{sz:Nat}:∀{es:List (List AV)},Dp sz es→∀c∈es,c.length=sz
 | [],_,c,h=>by cases h
 |d::es,h,c,hc=>by
  rcases Au.1 hc with rfl | hc
  ·exact h.1
  ·exact FM h.2 c hc
def NX(w:World)(x:Value)(n sz:Nat)(news:List Value):Prop :=
 news.length=n*sz∧(∀v∈news,v.oneCell'=true)∧∃(a:Option Addr) (c:Nat),x=.slice a n c∧(n=0∨∃b:Addr,a=some b∧∀j u,news[j]?=some u→w.cell? (b.add j)=some u)
theorem NX.of_rep{g:Gh}{w:World}{U:Nat→Prop}{es:List (List AV)}{sz:Nat}{x:Value}(h:BI g w U (.slice .none es) x)(hl:∀c∈es,c.length=sz) :
  ∃news,NX w x es.length sz news∧CF g w Fp es.flatten news:=by
 cases h with
 |snil _ a cap=>exact⟨[],⟨by simp,by simp,a,cap,rfl,.inl rfl⟩,by simp,by simp,fun i av x h1 h2=>by simp at h2⟩
 |slice _ _ b off Gm cap val hc Py DE Ec =>
  have hf:=Df hl;have key:∀j,j<es.length*sz→∃cs,es[j / sz]?=some cs∧es.flatten[j]?=cs[j % sz]?∧j % sz<cs.length∧Gm=sz∧j=j / sz*sz+j % sz:=by
   intro j hj;have Y2:0<sz:=Nat.pos_of_ne_zero (fun e=>by rw[e]at hj;omega);have oA:j=j / sz*sz+j % sz:=by rw[Nat.mul_comm];exact(Ui j sz).symm
   have hi:j / sz<es.length:=(Lg Y2).2 hj;have Xs:j % sz<sz:=Nat.mod_lt _ Y2;have h1:es[j / sz]?=some es[j / sz]:=Ay hi;have h2:=E9 hl h1 Xs;rw[←oA]at h2;have h3:=hl _ (Ao hi);exact⟨_,h1,h2,by rw[h3];exact Xs,by rw[←h3];exact(Py _ _ h1).symm,oA⟩
  have VZ:∀j,j<es.length*sz→∃av,es.flatten[j]?=some av∧w.cell? ⟨b,off+j,none⟩=some (val (j / sz) (j % sz))∧(val (j / sz) (j % sz)).oneCell'=true∧BI g w Fp av (val (j / sz) (j % sz)):=by
   intro j hj;obtain⟨cs,k1,k2,k3,rfl,k5⟩:=key j hj;have fe:cs[j % Gm]?=some cs[j % Gm]:=Ay k3;obtain⟨_,c2,c3⟩:=DE _ _ _ _ k1 fe;rw[Gp,←k5]at c2;exact⟨_,k2.trans fe,c2,c3,Ec _ _ _ _ k1 fe⟩
  refine⟨(List.range (es.length*sz)).map fun j=>val (j / sz) (j % sz),⟨by simp,fun v hv=>?_,some ⟨b,off,none⟩,cap,rfl,.inr ⟨_,rfl,fun j u hu=>?_⟩⟩,by rw[hf];simp,fun v hv=>?_,fun i av x h1 h2=>?_⟩
  ·obtain⟨j,hj,rfl⟩:=Am.1 hv;obtain⟨_,_,_,c,_⟩:=VZ j (List.mem_range.1 hj);exact c
  ·obtain⟨hj,rfl⟩:=GR hu;rw[Addr.add_lit];exact(VZ j hj).choose_spec.2.1
  ·obtain⟨j,hj,rfl⟩:=Am.1 hv;obtain⟨_,_,_,c,_⟩:=VZ j (List.mem_range.1 hj);exact c
  ·obtain⟨hj,rfl⟩:=GR h2;obtain⟨o5,c1,_,_,c4⟩:=VZ i hj;rw[h1]at c1;cases c1;exact c4
section
variable {P:Program}{T:Gq}(hT:Cy P T)
include hT
theorem Ho{e n:Nat}(hs:(T e).size=n+1):∃i z,P.info? e=some i∧i.zero=some z∧i.size=(T e).size∧i.bytes=(T e).bytes∧(T e).zc=z.cells.toList:=by
 rcases hT e with h | h
 ·rw[h]at hs;cases hs
 unfold dg at h;split at h
 ·split at h
  ·rename_i d i h1 h2 _ z h3;exact⟨i,z,h2,h3,by rw[h],by rw[h],by rw[TI.zc_cells,h]⟩
  ·rw[h]at hs;cases hs
 ·rw[h]at hs;cases hs
theorem ID(w:World){t e ty k:Nat}(ht:(T t).d=.slice e)(hk:(T e).size=k+1)(a a' : Option Addr)(n cap c:Nat)(hc:n≤cap) :
  (Builtin.append_ #[t,t] ty #[.slice a n cap,.slice a' 0 c]).run P w=.ok (.slice a n cap) w:=by
 have hu:=hT.slice ht;cases a<;>cases a'<;>simp[Builtin.append_,run_underlying hu,hT.size1 w hk,Builtin.lenOf,hc,Builtin.firstCells,loadCells,loadCellsFrom,storeCells]
theorem HH(w:World){t e ty k:Nat}(ht:(T t).d=.slice e)(hk:(T e).size=k+1)(hz:(T e).zc.length=(T e).size){s x:Value}{n m cap c:Nat}{olds news:List Value}{a a' : Option Addr}
  (zX:NX w s n (T e).size olds) (hs:s=.slice a n cap) (Ox:a=none→cap=0) (uM:NX w x m (T e).size news) (hx:x=.slice a' m c) (hm:0<m) (hg:cap<n+m) (hb:(n+m)*(T e).bytes≤140737488355328) (h63:n+m≤9223372036854775807) :
  ∃nc rest,(Builtin.append_ #[t,t] ty #[s,x]).run P w=.ok (.slice (some ⟨w.heap.size,0,none⟩) (n+m) nc) (w.drew.alloc (.cells (olds++news++rest).toArray e (0,0)))∧n+m≤nc ∧
   (olds++news++rest).length=nc*(T e).size:=by
 obtain⟨i,z,i1,i2,i3,i4,i5⟩:=Ho hT hk;have hu:=hT.slice ht;obtain⟨n1,n2,a1,c1,n3,n4⟩:=uM;subst hx;cases n3;rcases n4 with h | ⟨b,rfl,IK⟩
 ·omega
 ·have MM:z.cells.size=(T e).size:=by rw[←hz,i5];simp
  have lz:∀(nc:Nat) (pre:List Value),pre.length=(n+m)*(T e).size→n+m≤nc→(pre++(Builtin.zeroCells z.cells (nc-(n+m))).toList).length=nc*(T e).size:=by
   intro nc pre hp Hi;have e1:(Builtin.zeroCells z.cells (nc-(n+m))).toList.length=(nc-(n+m))*(T e).size:=by simp only[B5,size_zeroCells,MM]
   rw[Ad,e1,hp,←E8]
   congr 1;omega
  obtain⟨o1,o2,a2,c2,o3,o4⟩:=zX;subst hs;cases o3;cases a with
  |none =>
   obtain rfl:=Ox rfl;have r9:n=0:=by
    rcases o4 with h | ⟨b',h,_⟩
    ·exact h
    ·cases h
   subst r9;have ho:olds=[]:=AB (by simpa using o1);subst ho;have hr:=run_append_nil (P:=P) w t ty e i z hu i1 i2 b m c news (by rw[i3];exact n1) IK hm (by omega) (by rw[i4];rw[Bk]at hb;omega);refine⟨grownCap w m 0 e,(Builtin.zeroCells z.cells (grownCap w m 0 e-m)).toList,?_,by rw[Bk];exact grownCap_ge w m 0 e,?_⟩
   ·rw[hr,Bk]
    congr 3
    apply NQ;simp
   ·have:=lz (grownCap w m 0 e) news (by rw[Bk];exact n1) (by rw[Bk];exact grownCap_ge w m 0 e)
    rw[Bk]at this;simpa using this
  |some b' =>
   have GB:∀j u,olds[j]?=some u→w.cell? (b'.add j)=some u:=by
    rcases o4 with h | ⟨b2,h,h'⟩
    ·intro j u hj;rw[h,Kh]at o1
     have:olds=[]:=AB o1
     rw[this]at hj;simp at hj
    ·cases h;exact h'
   have hr:=run_append_grow (P:=P) w t ty e i z hu i1 i2 b' n cap olds (by rw[i3];exact o1) GB b m c news (by rw[i3];exact n1) IK hg (by omega) (by rw[i4];exact growslice_fits hg hb);refine⟨grownCap w (n+m) cap e,(Builtin.zeroCells z.cells (grownCap w (n+m) cap e-(n+m))).toList,?_,grownCap_ge w (n+m) cap e,lz _ _ (by rw[Ad,o1,n1,←E8]) (grownCap_ge w (n+m) cap e)⟩;rw[hr]
   congr 3
   apply NQ;simp
end
end Go.Eng
