/- Lemmas for the claims of this seat, without a condition: part 8 (EngN, EngO, EngP, EngQ). -/
import Derived.Test.YtmcbkdbfaneofaaGreatDoorBA07
namespace Go.Eng
def OK(P:Program)(w0:World)(g0:Gh)(h0 h:Nat→HO)(g:Gh)(w:World)(m:Sem Value)(K:HK):Prop :=
 ∃x w' g' av h',m.run P w=.ok x w'∧K av h'∧DS w0 g0 h0 h' g' w'∧Le h g w h' g' w'∧BP g' w' (AW h') av x
def fu(P:Program)(w0:World)(g0:Gh)(h0 h:Nat→HO)(g:Gh)(w:World)(m:Sem Unit)(K:HK):Prop :=
 ∃w' g' h',m.run P w=.ok () w'∧K (.v undef) h'∧DS w0 g0 h0 h' g' w'∧Le h g w h' g' w'
section
variable {P:Program}{w0:World}{g0:Gh}{h0 h:Nat→HO}{g:Gh}{w:World}(hI:DS w0 g0 h0 h g w)
include hI
theorem BW.does{m:Sem Value}{K:HK}(hg:BW P h g w m (fun v=>K v h)):OK P w0 g0 h0 h g w m K :=
 let ⟨x,av,h1,h2,h3⟩:=hg
 ⟨x,w,g,av,h,h1,h2,hI,.refl _ _ _,h3⟩
theorem DS.newOwn{d:Nat}(hd:h d=.free)(o' : HO)(ob:Obj)(x:Value)(n:Nat)(t:Bool)(w1:World)(Lg:w1.heap=w.heap∧w1.os=w.os∧w1.tape=w.tape∧w1.output=w.output)(DM:o'≠.free)
  (JG:Kl g (g.upd d x n t (some w.heap.size) g.S) (AW h)→Fg g w (g.upd d x n t (some w.heap.size) g.S) (w1.alloc ob) →
   Er (g.upd d x n t (some w.heap.size) g.S) (w1.alloc ob) (AW (A2 h d o')) d o') :
  DS w0 g0 h0 (A2 h d o') (g.upd d x n t (some w.heap.size) g.S) (w1.alloc ob)∧Le h g w (A2 h d o') (g.upd d x n t (some w.heap.size) g.S) (w1.alloc ob):=by
 refine hI.upd d o' x n t _ _ _ none ⟨Lg.2.1,Lg.2.2.1,Lg.2.2.2,by rw[World.size_alloc,Lg.1];omega⟩ (fun k hk _=>?_) (fun b e=>by cases e) (fun _ _ h=>h) (fun _ _ h=>.inl h) (fun b o e=>by cases e)
  (fun b _ e=>?_) DM (fun hu=>absurd hd hu) JG
 ·rw[heap_alloc_old _ _ (by rw[Lg.1];exact hk),Lg.1]
 ·cases e;rw[World.size_alloc,Lg.1];exact⟨by omega,.inr (Am _)⟩
def Gh.more(g:Gh)(b n:Nat):Nat→Nat→Prop:=fun b' o=>g.S b' o∨(b'=b∧o<n)
theorem DS.newStable{d:Nat}(hd:h d=.free)(o' : HO)(vs:Array Value)(E:TypeId)(m:Nat)(x:Value)(n:Nat)(t:Bool)(w1:World)(Lg:w1.heap=w.heap∧w1.os=w.os∧w1.tape=w.tape∧w1.output=w.output)(DM:o'≠.free)
  (JG:Kl g (g.upd d x n t none (g.more w.heap.size m)) (AW h)→Fg g w (g.upd d x n t none (g.more w.heap.size m)) (w1.alloc (.cells vs E (0,0))) →
   Er (g.upd d x n t none (g.more w.heap.size m)) (w1.alloc (.cells vs E (0,0))) (AW (A2 h d o')) d o') :
  DS w0 g0 h0 (A2 h d o') (g.upd d x n t none (g.more w.heap.size m)) (w1.alloc (.cells vs E (0,0))) ∧
   Le h g w (A2 h d o') (g.upd d x n t none (g.more w.heap.size m)) (w1.alloc (.cells vs E (0,0))):=by
 refine hI.upd d o' x n t _ _ _ none ⟨Lg.2.1,Lg.2.2.1,Lg.2.2.2,by rw[World.size_alloc,Lg.1];omega⟩ (fun k hk _=>?_) (fun b e=>by cases e) (fun _ _ h=>.inl h) (fun b o hb=>?_) (fun b o e=>by cases e)
  (fun b _ e=>by cases e) DM (fun hu=>absurd hd hu) JG
 ·rw[heap_alloc_old _ _ (by rw[Lg.1];exact hk),Lg.1]
 ·rcases hb with hb | ⟨rfl,_⟩
  ·exact .inl hb
  ·exact .inr ⟨by rw[World.size_alloc,Lg.1];omega,.inl (Am _)⟩
end
theorem BJ(g:Gh)(r:Nat)(x:Value)(n:Nat)(t:Bool)(o:Option Nat)(S:Nat→Nat→Prop) :
  (g.upd r x n t o S).ρ r=x∧(g.upd r x n t o S).ln r=n∧(g.upd r x n t o S).tk r=t∧(g.upd r x n t o S).own r=o:=by simp[Gh.upd]
theorem HY(w:World)(o:Obj){b:Nat}(hb:b=w.heap.size):(w.alloc o).heap[b]?=some o:=by subst hb;exact heap_alloc_new w o
theorem BP.cptr_row{g:Gh}{w:World}{U:Nat→Prop}{b:Nat}{cs:List AV}{vs:Array Value}{E:TypeId}{f:Nat×Nat}(hb:w.heap[b]?=some (.cells vs E f))(hr:CR g w FH cs vs.toList)
  (hS:∀o,o<cs.length→g.S b o):BP g w U (.cptr cs) (.pointer (some ⟨b,0,none⟩)):=by
 refine .cptr U cs b 0 (fun j=>vs[j]?.getD default) (fun j av hj=>?_) (fun j av hj=>?_)
 ·obtain⟨x,x1,x2,x3⟩:=hr.at hj;rw[AR]at x1;refine⟨hS _ (by rw[Bo];exact(Aw.1 hj).1),?_,?_⟩
  ·rw[FU hb,Bo,x1];rfl
  ·rw[x1];exact x2
 ·obtain⟨x,x1,x2,x3⟩:=hr.at hj;rw[AR]at x1;rw[x1];exact x3
theorem BP.slice_off{g:Gh}{w:World}{U:Nat→Prop}{b off sz cap:Nat}{es:List (List AV)}{vs:Array Value}{E:TypeId}{f:Nat×Nat}(hb:w.heap[b]?=some (.cells vs E f))(hl:∀cs∈es,cs.length=sz)
  (hc:es.length≤cap) (hr:CR g w FH es.flatten ((vs.toList.drop off).take (es.length*sz))) (hS:∀o,o<es.length*sz→g.S b (off+o)):BP g w U (.slice .none es) (.slice (some ⟨b,off,none⟩) es.length cap):=by
 have key:∀(i:Nat) (cs:List AV) (j:Nat) (av:AV),es[i]?=some cs→cs[j]?=some av→∃x,vs[off+(i*sz+j)]?=some x∧x.oneCell'=true∧BP g w FH av x∧i*sz+j<es.length*sz:=by
  intro i cs j av h1 h2;have hcl:=hl cs (Ax h1);have hj:j<sz:=by rw[←hcl];exact(Aw.1 h2).1
  have hi:=(Aw.1 h1).1;have DH:i*sz+j<es.length*sz:=by
   have:=Bn sz (show i+1≤es.length from hi)
   rw[Ea]at this;omega
  have hf:=Fu hl h1 hj;rw[h2]at hf;obtain⟨x,x1,x2,x3⟩:=hr.at hf;rw[BO DH,BY,AR]at x1;exact⟨x,x1,x2,x3,DH⟩
 refine .slice U es b off sz cap (fun i j=>vs[off+(i*sz+j)]?.getD default) hc (fun i cs h=>hl cs (Ax h)) (fun i cs j av h1 h2=>?_) (fun i cs j av h1 h2=>?_)
 ·obtain⟨x,x1,x2,x3,x4⟩:=key i cs j av h1 h2;rw[GM];refine⟨hS _ x4,?_,?_⟩
  ·rw[FU hb,x1];rfl
  ·rw[x1];exact x2
 ·obtain⟨x,x1,x2,x3,x4⟩:=key i cs j av h1 h2;rw[x1];exact x3
theorem BP.slice_row{g:Gh}{w:World}{U:Nat→Prop}{b sz cap:Nat}{es:List (List AV)}{vs:Array Value}{E:TypeId}{f:Nat×Nat}(hb:w.heap[b]?=some (.cells vs E f))(hl:∀cs∈es,cs.length=sz)
  (hc:es.length≤cap) (hr:CR g w FH es.flatten (vs.toList.take (es.length*sz))) (hS:∀o,o<es.length*sz→g.S b o):BP g w U (.slice .none es) (.slice (some ⟨b,0,none⟩) es.length cap):=by
 have key:∀(i:Nat) (cs:List AV) (j:Nat) (av:AV),es[i]?=some cs→cs[j]?=some av→∃x,vs[i*sz+j]?=some x∧x.oneCell'=true∧BP g w FH av x∧i*sz+j<es.length*sz:=by
  intro i cs j av h1 h2;have hcl:=hl cs (Ax h1);have hj:j<sz:=by rw[←hcl];exact(Aw.1 h2).1
  have hi:=(Aw.1 h1).1;have DH:i*sz+j<es.length*sz:=by
   have:=Bn sz (show i+1≤es.length from hi)
   rw[Ea]at this;omega
  have hf:=Fu hl h1 hj;rw[h2]at hf;obtain⟨x,x1,x2,x3⟩:=hr.at hf;rw[BO DH,AR]at x1;exact⟨x,x1,x2,x3,DH⟩
 refine .slice U es b 0 sz cap (fun i j=>vs[i*sz+j]?.getD default) hc (fun i cs h=>hl cs (Ax h)) (fun i cs j av h1 h2=>?_) (fun i cs j av h1 h2=>?_)
 ·obtain⟨x,x1,x2,x3,x4⟩:=key i cs j av h1 h2;rw[Bo];refine⟨hS _ x4,?_,?_⟩
  ·rw[FU hb,x1];rfl
  ·rw[x1];exact x2
 ·obtain⟨x,x1,x2,x3,x4⟩:=key i cs j av h1 h2;rw[x1];exact x3
section
variable {P:Program}{w0:World}{g0:Gh}{h0 h:Nat→HO}{g:Gh}{w:World}
theorem RK(hI:DS w0 g0 h0 h g w){d:Nat}(hd:h d=.free){cs:List AV}{vs:Array Value}(E:TypeId)(hr:CR g w (AW h) cs vs.toList) :
  ∃g',DS w0 g0 h0 (A2 h d (.cells cs)) g' (w.alloc (.cells vs E (0,0)))∧Le h g w (A2 h d (.cells cs)) g' (w.alloc (.cells vs E (0,0))) ∧
   BP g' (w.alloc (.cells vs E (0,0))) (AW (A2 h d (.cells cs))) (.ref d 0) (.pointer (some ⟨w.heap.size,0,none⟩)):=by
 obtain⟨k1,k2⟩:=hI.newOwn hd (.cells cs) (.cells vs E (0,0)) (.pointer (some ⟨w.heap.size,0,none⟩)) 0 false w ⟨rfl,rfl,rfl,rfl⟩ (by simp) (fun hg hk=>by
  obtain⟨u1,u2,u3,u4⟩:=BJ g d (.pointer (some ⟨w.heap.size,0,none⟩)) 0 false (some w.heap.size) g.S;exact⟨u3,w.heap.size,E,vs,u4,u1,HY w _ rfl,hr.mono hk (fun i hi=>DX (by simp) i hi) hg,fun o ho=>by have:=hI.slt _ _ ho;omega⟩)
 refine⟨_,k1,k2,.ref _ d 0 w.heap.size (by unfold AW;rw[Bi];simp) ?_ ?_⟩
 ·simp[Gh.upd]
 ·simp[Gh.upd]
theorem iT(hI:DS w0 g0 h0 h g w){d:Nat}(hd:h d=.free){cs:List AV}{vs:Array Value}(E:TypeId)(hr:CR g w FH cs vs.toList) :
  ∃g',DS w0 g0 h0 (A2 h d (.ro cs)) g' (w.alloc (.cells vs E (0,0)))∧Le h g w (A2 h d (.ro cs)) g' (w.alloc (.cells vs E (0,0))) ∧
   BP g' (w.alloc (.cells vs E (0,0))) (AW (A2 h d (.ro cs))) (.ref d 0) (.pointer (some ⟨w.heap.size,0,none⟩)):=by
 obtain⟨k1,k2⟩:=hI.newStable hd (.ro cs) vs E cs.length (.pointer (some ⟨w.heap.size,0,none⟩)) 0 false w ⟨rfl,rfl,rfl,rfl⟩ (by simp) (fun hg hk=>by
  obtain⟨u1,u2,u3,u4⟩:=BJ g d (.pointer (some ⟨w.heap.size,0,none⟩)) 0 false none (g.more w.heap.size cs.length);exact⟨u3,w.heap.size,u1,BP.cptr_row (HY w _ rfl) (hr.mono hk (fun _ h=>h) (fun _ h=>h.elim)) (fun o ho=>.inr ⟨rfl,ho⟩)⟩)
 refine⟨_,k1,k2,.ref _ d 0 w.heap.size (by unfold AW;rw[Bi];simp) ?_ ?_⟩
 ·simp[Gh.upd]
 ·simp[Gh.upd]
theorem Kf(hI:DS w0 g0 h0 h g w){cx:Cx}{d:Option Nat}{sz:Nat}{es:List (List AV)}{K:HK}(hk:EL cx d h sz es K){vs:Array Value}{cap:Nat}(E:TypeId)(hl:∀cs∈es,cs.length=sz)
  (hc:es.length≤cap) (hs:vs.size=cap*sz) (hr:CR g w FH es.flatten (vs.toList.take (es.length*sz))) (w1:World) (Lg:w1.heap=w.heap∧w1.os=w.os∧w1.tape=w.tape∧w1.output=w.output) :
  ∃g' av h',K av h'∧DS w0 g0 h0 h' g' (w1.alloc (.cells vs E (0,0)))∧Le h g w h' g' (w1.alloc (.cells vs E (0,0))) ∧
   BP g' (w1.alloc (.cells vs E (0,0))) (AW h') av (.slice (some ⟨w.heap.size,0,none⟩) es.length cap):=by
 have E5:(w1.alloc (.cells vs E (0,0))).heap[w.heap.size]?=some (.cells vs E (0,0)):=HY w1 _ (by rw[Lg.1]);unfold EL at hk;split at hk
 ·exact hk.elim
 ·rename_i d;generalize KQ cx d=d1 at hk;split at hk
  ·rename_i hd;split at hk
   ·obtain⟨k1,k2⟩:=hI.newOwn hd (.arr sz es) (.cells vs E (0,0)) (.slice (some ⟨w.heap.size,0,none⟩) es.length cap) es.length true w1 Lg (by simp) (fun hg Im=>by
     obtain⟨u1,u2,u3,u4⟩:=BJ g d1 (.slice (some ⟨w.heap.size,0,none⟩) es.length cap) es.length true (some w.heap.size) g.S;exact⟨u3,u2,hl,.inr ⟨w.heap.size,cap,E,vs,u1,u4,hc,E5,hs,hr.mono Im (fun _ h=>h) (fun _ h=>h.elim),fun o ho=>by have:=hI.slt _ _ ho;omega⟩⟩)
    refine⟨_,_,_,hk,k1,k2,.msl _ d1 es.length _ cap (by unfold AW;rw[Bi];simp) ?_ ?_ (.inr ⟨_,rfl⟩) ?_⟩<;>simp[Gh.upd]
   ·by_cases gR:es.length=cap
    ·obtain⟨k1,k2⟩:=hI.newStable hd (.tok sz es.length) vs E (es.length*sz) (.slice (some ⟨w.heap.size,0,none⟩) es.length cap) es.length true w1 Lg (by simp) (fun hg Im=>by
      obtain⟨u1,u2,u3,u4⟩:=BJ g d1 (.slice (some ⟨w.heap.size,0,none⟩) es.length cap) es.length true none (g.more w.heap.size (es.length*sz));exact⟨u3,u2,_,cap,u1,.inl ⟨gR,u4⟩⟩)
     refine⟨_,_,_,hk,k1,k2,.tok _ d1 sz es _ (BP.slice_row E5 hl hc (hr.mono k2.keeps (fun _ h=>h) (fun _ h=>h.elim)) (fun o ho=>.inr ⟨rfl,ho⟩)) hl (by unfold AW;rw[Bi];simp) ?_ ?_ ?_⟩<;>simp[Gh.upd]
    ·have qj:=hI.upd d1 (.tok sz es.length) (.slice (some ⟨w.heap.size,0,none⟩) es.length cap) es.length true (some w.heap.size) (g.more w.heap.size (es.length*sz)) (w1.alloc (.cells vs E (0,0))) none
      ⟨Lg.2.1,Lg.2.2.1,Lg.2.2.2,by rw[World.size_alloc,Lg.1];omega⟩ (fun k Kr _=>by rw[heap_alloc_old _ _ (by rw[Lg.1];exact Kr),Lg.1]) (fun b e=>by cases e) (fun _ _ h=>.inl h)
      (fun b o hb=>by
       rcases hb with hb | ⟨rfl,_⟩
       ·exact .inl hb
       ·exact .inr ⟨by rw[World.size_alloc,Lg.1];omega,.inl (Am _)⟩) (fun b o e=>by cases e)
      (fun b _ e=>by cases e;rw[World.size_alloc,Lg.1];exact⟨by omega,.inr (Am _)⟩) (by simp) (fun hu=>absurd hd hu) (fun hg Im=>by
       obtain⟨u1,u2,u3,u4⟩:=BJ g d1 (.slice (some ⟨w.heap.size,0,none⟩) es.length cap) es.length true (some w.heap.size) (g.more w.heap.size (es.length*sz));exact⟨u3,u2,_,cap,u1,.inr ⟨hc,w.heap.size,E,vs,0,rfl,u4,E5,by rw[hs,Bo],fun o ho=>by
        rcases ho with ho | ⟨_,ho⟩
        ·have:=hI.slt _ _ ho;omega
        ·omega⟩⟩)
     obtain⟨k1,k2⟩:=qj;refine⟨_,_,_,hk,k1,k2,.tok _ d1 sz es _ (BP.slice_row E5 hl hc (hr.mono k2.keeps (fun _ h=>h) (fun _ h=>h.elim)) (fun o ho=>.inr ⟨rfl,ho⟩)) hl (by unfold AW;rw[Bi];simp) ?_ ?_ ?_⟩<;>simp[Gh.upd]
  ·exact hk.elim
end
theorem Np{α:Type}:∀(cs:List α) (o:Nat) (vs:List α),o+vs.length≤cs.length→over cs o vs=cs.take o++vs++cs.drop (o+vs.length)
 | [],o,vs,h=>by
  simp at h;obtain⟨rfl,rfl⟩:=h
  rfl
 |c::cs,o+1,vs,h=>by
  rw[over,Np cs o vs (by simp at h;omega)];simp only[Jh,D7,AN,Nat.add_right_comm o 1,List.drop_succ_cons]
 |c::cs,0,[],h=>by simp[over]
 |c::cs,0,v::vs,h=>by
  rw[over,Np cs 0 vs (by simp at h;omega)];simp
theorem VT{α:Type}(cs:List α)(o n:Nat)(vs:List α)(h:o+vs.length≤n)(hn:n≤cs.length):(over cs o vs).take n=over (cs.take n) o vs:=by
 apply CN;intro i;rw[FX _ _ _ _ (by simp;omega)]
 by_cases hi:i<n
 ·rw[BO hi,FX _ _ _ _ (by omega),BO hi]
 ·rw[Al (by omega),A7 (by rw[AH,FY];omega),A7 (by simp;omega)]
theorem Mq{α:Type}{n:Nat}:∀{es:List (List α)},(∀c∈es,c.length=n)→∀{i:Nat} {c:List α},es[i]?=some c→∀(o:Nat) (vs:List α),o+vs.length≤n →
  (es.set i (over c o vs)).flatten=over es.flatten (i*n+o) vs
 | [],_,i,c,h,_,_,_=>by simp at h
 |d::es,hl,i,c,h,o,vs,Ho=>by
  have hd:=hl d (Ac ..);have hfl:=Dv (es:=d::es) (n:=n) hl;have DH:=(Aw.1 h).1;have sm:i*n+o+vs.length≤(d::es).flatten.length:=by
   rw[hfl]
   have:=Bn n (show i+1≤(d::es).length from DH)
   rw[Ea]at this;omega
  have hcl:=hl c (Ax h);apply CN;intro j;rw[FX _ _ _ _ sm];have Oe:∀e∈(d::es).set i (over c o vs),e.length=n:=fun e he=>by
   rcases Gt he with he | rfl
   ·exact hl e he
   ·rw[FY];exact hcl
  by_cases hn:n=0
  ·subst hn;have h1:=Dv Oe;have h2:=hfl;simp only[Nat.mul_zero,List.length_eq_zero_iff]at h1 h2;rw[h1,h2]
   have:¬(i*0+o≤j∧j<i*0+o+vs.length):=by omega
   rw[Al this]
  ·have ql:j=j / n*n+j % n:=by rw[Nat.mul_comm];exact(U8 j n).symm
   have Yh:j % n<n:=Nat.mod_lt _ (by omega)
   by_cases hj:j / n<(d::es).length
   ·have g1:(d::es)[j / n]?=some ((d::es)[j / n]):=AB hj;have g2:((d::es).set i (over c o vs))[j / n]?=some (if i=j / n then over c o vs else(d::es)[j / n]):=by
     rw[Rk]
     by_cases e:i=j / n
     ·rw[Au e,Au (by omega),Au e]
     ·rw[Al e,Al e];exact g1
    have f1:=Fu hl g1 Yh;have f2:=Fu Oe g2 Yh;rw[←ql]at f1 f2;rw[f1,f2];split
    ·rename_i e;rw[e]at h;rw[g1]at h;cases h;rw[FX _ _ _ _ (by omega)];have e2:i*n+o≤j↔o≤j % n:=by rw[e];omega
     have e3:j<i*n+o+vs.length↔j % n<o+vs.length:=by rw[e];omega
     simp only[e2,e3];split
     ·congr 1;rw[e];omega
     ·rfl
    ·rename_i e
     have:¬(i*n+o≤j∧j<i*n+o+vs.length):=by
      rintro⟨q1,q2⟩
      apply e;have a1:i*n≤j:=by omega
      have a2:j<(i+1)*n:=by rw[Ea];omega
      have:=(Nat.le_div_iff_mul_le (by omega)).2 a1
      have:=(LN (by omega)).2 a2
      omega
     rw[Al this]
   ·have qm:(d::es).length*n≤j:=by
     have:=Nat.not_lt.1 hj
     have:=(Nat.le_div_iff_mul_le (by omega)).1 this
     exact this
    have:¬(i*n+o≤j∧j<i*n+o+vs.length):=by rw[hfl]at sm;omega
    rw[Al this,A7 (by rw[Dv Oe,CH];exact qm),A7 (by rw[hfl];exact qm)]
theorem PQ{P:Program}{T:GN}(hT:CJ P T)(w:World){t b off:Nat}{x:Value}{FP:Array Value}{E:TypeId}(hd:(T t).d≠.other)(hs:x.cells.toList.length=(T t).size)
  (h1:∀v∈x.cells.toList,v.oneCell'=true) (hb:w.heap[b]?=some (.cells FP E (0,0))) (Ho:off+x.cells.toList.length≤FP.size) :
  (Instr.storeAt t (.pointer (some ⟨b,off,none⟩)) x).run P w=.ok () (w.setRow b (over FP.toList off x.cells.toList).toArray):=by
 have JH:=run_storeCells_at P b off E x.cells.toList 0 FP w hb (by simpa using Ho) h1;simp only[DK]at JH;have Xo : x.cells.size=(T t).size:=by simpa using hs
 rw[Np _ _ _ (by simpa using Ho)];simp only[Instr.storeAt,Sem.run_bind,Instr.sureAddr,Sem.run_pure,Result.andThen_ok,storeVar,hT.size w hd,Xo,VQ,not_true_eq_false,Gd];exact JH
section
variable {P:Program}{w0:World}{g0:Gh}{h0 h:Nat→HO}{g:Gh}{w:World}(hI:DS w0 g0 h0 h g w)
include hI
theorem cp{T:GN}(hT:CJ P T){d:Option Nat}{e:Nat}{K:HK}(hk:SO T d h e K):OK P w0 g0 h0 h g w (Instr.alloc e true (.tuple #[])) K:=by
 unfold SO at hk;split at hk
 ·exact hk.elim
 ·split at hk
  ·rename_i hd;split at hk
   ·exact hk.elim
   ·rename_i DM;split at hk
    ·rename_i ha;obtain⟨z,z1,z2,_⟩:=Qb hT (w:=w) DM;have hr:CR g w (AW h) ((T e).zc.map .v) z.cells.toList:=by rw[z2]at ha⊢;exact CR.vals ha
     obtain⟨g',k1,k2,k3⟩:=RK hI hd (vs:=z.cells) e hr;refine⟨_,_,g',_,_,?_,hk,k1,k2,k3⟩;simp[Instr.alloc,z1,newVar,newRow]
    ·exact hk.elim
  ·exact hk.elim
theorem PU{cs:List AV}{vs:List Value}(hr:CR g w (AW h) cs vs):CR g w FH (cs.map (str h)) vs:=by
 refine⟨by rw[Bg];exact hr.1,hr.2.1,fun i av x h1 h2=>?_⟩;rw[AJ,AY]at h1;obtain⟨a,a1,rfl⟩:=h1;exact(hr.2.2 i a x a1 h2).str hI.objs
theorem kM{cx:Cx}{d:Option Nat}{e:Nat}{x:AV}{vx:Value}{K:HK}(hx:BP g w (AW h) x vx)(hk:cB cx d h e x K):OK P w0 g0 h0 h g w (Instr.box e vx) K:=by
 unfold cB at hk;split at hk
 ·exact hk.elim
 ·split at hk
  ·rename_i hd;split at hk
   ·exact hk.elim
   ·obtain⟨cs,hk,hn,hr⟩:=M2 hx hk;split at hk
    ·obtain⟨g',k1,k2,k3⟩:=iT hI hd (vs:=vx.cells) e (PU hI hr);exact⟨_,_,g',_,_,rfl,hk,k1,k2,k3⟩
    ·obtain⟨g',k1,k2,k3⟩:=RK hI hd (vs:=vx.cells) e hr;exact⟨_,_,g',_,_,rfl,hk,k1,k2,k3⟩
  ·exact hk.elim
theorem DS.write{r b:Nat}(hl:(h r).live)(ho:g.own r=some b)(o' : HO){FP:Array Value}{E:TypeId}(hb:w.heap[b]?=some (.cells FP E (0,0)))(new:Array Value)(n:Nat)(ow:Option Nat)(S' : Nat→Nat→Prop)
  (DM:o'≠.free) (hn:n=g.ln r) (sv:∀b',ow=some b'→b'=b) (hS:∀b o,g.S b o→S' b o) (ub:∀b' o,S' b' o→g.S b' o∨b'=b) (gX:∀o,g.S b o→new[o]?=FP[o]?)
  (JG:Kl g (g.upd r (g.ρ r) n (g.tk r) ow S') (AW h)→Fg g w (g.upd r (g.ρ r) n (g.tk r) ow S') (w.setRow b new)→(w.setRow b new).heap[b]?=some (.cells new E (0,0)) →
   Er (g.upd r (g.ρ r) n (g.tk r) ow S') (w.setRow b new) (AW (A2 h r o')) r o') :
  DS w0 g0 h0 (A2 h r o') (g.upd r (g.ρ r) n (g.tk r) ow S') (w.setRow b new)∧Le h g w (A2 h r o') (g.upd r (g.ρ r) n (g.tk r) ow S') (w.setRow b new):=by
 have E5:=setRow_heap w b FP new E (0,0) hb;have DH:=(hI.loc r b hl ho).1
 refine hI.upd r o' _ _ _ _ _ _ (some b) ⟨rfl,rfl,rfl,by rw[size_setRow];exact Am _⟩ (fun k hk DM=>setRow_other w b k new (fun e=>DM (by rw[e]))) (fun b' e=>by cases e;exact⟨hl,ho⟩) hS (fun b' o hs=>?_)
  (fun b' o e hs=>?_) (fun b' _ e=>?_) DM (fun _=>⟨rfl,by omega,fun _=>rfl,fun _=>rfl⟩) (fun hg hk=>JG hg hk E5)
 ·rcases ub b' o hs with h1 | rfl
  ·exact .inl h1
  ·exact .inr ⟨by rw[size_setRow];exact DH,.inr ⟨hl,ho⟩⟩
 ·cases e
  refine⟨?_,fun es ck he=>by rw[hb]at he;cases he⟩;rw[FU E5,FU hb];exact gX o hs
 ·obtain rfl:=sv b' e;exact⟨by rw[size_setRow];exact DH,.inl ⟨hl,ho⟩⟩
theorem eT{cx:Cx}(hT:CJ P cx.T){t:Nat}{p x:AV}{vp vx:Value}{K:HK}(hp:BP g w (AW h) p vp)(hx:BP g w (AW h) x vx)(hk:OE cx h t p x K) :
  fu P w0 g0 h0 h g w (Instr.storeAt t vp vx) K:=by
 unfold OE at hk;split at hk
 ·exact hk.elim
 ·rename_i hd;have h5:=M2 hx hk
  clear hk
  obtain⟨vs,hk,hn,hr⟩:=h5;have CF:vx.cells.toList.length=vs.length:=hr.1;split at hk
  ·rename_i r off;have ho:=hI.objs r;split at hk
   ·rename_i cs e;obtain⟨Ho,hk⟩:=hk;rw[e]at ho;obtain⟨t0,b,E,FP,a1,a2,a3,a4,a5⟩:=ho;cases hp with
    |ref _ _ _ b' hu ht kp =>
     rw[a2]at kp;cases kp;have hcs:FP.toList.length=cs.length:=a4.1;have CY:=PQ hT w (t:=t) (off:=off) (x:=vx) hd (by rw[CF,hn]) hr.2.1 a3 (by rw[CF];simp at hcs;omega);have hl:(h r).live:=by rw[e];trivial
     have pf:=a4.over hr off Ho;split at hk
     ·obtain⟨k1,k2⟩:=hI.write hl a1 (.ro ((over cs off vs).map (str h))) a3 (over FP.toList off vx.cells.toList).toArray (g.ln r) none (g.more b cs.length) (by simp) rfl (fun _ e=>by cases e) (fun _ _ h=>.inl h)
       (fun b' o hs=>hs.elim .inl (fun hs=>.inr hs.1)) (fun o hs=>absurd hs (a5 o)) (fun hg Im E5=>by
        obtain⟨u1,u2,u3,u4⟩:=BJ g r (g.ρ r) (g.ln r) (g.tk r) none (g.more b cs.length);refine⟨u3.trans t0,b,u1.trans a2,BP.cptr_row E5 ?_ (fun o ho=>.inr ⟨rfl,?_⟩)⟩
        ·exact(PU hI pf).mono Im (fun _ h=>h) (fun _ h=>h.elim)
        ·rw[Bg,FY]at ho;exact ho)
      exact⟨_,_,_,CY,hk,k1,k2⟩
     ·obtain⟨k1,k2⟩:=hI.write hl a1 (.cells (over cs off vs)) a3 (over FP.toList off vx.cells.toList).toArray (g.ln r) (g.own r) g.S (by simp) rfl (fun b' e=>by rw[a1]at e;cases e;rfl) (fun _ _ h=>h)
       (fun b' o hs=>.inl hs) (fun o hs=>absurd hs (a5 o)) (fun hg Im E5=>by
        obtain⟨u1,u2,u3,u4⟩:=BJ g r (g.ρ r) (g.ln r) (g.tk r) (g.own r) g.S;exact⟨u3.trans t0,b,E,_,u4.trans a1,u1.trans a2,E5,pf.mono Im (fun i hi=>DX (by simp) i hi) hg,a5⟩)
      exact⟨_,_,_,CY,hk,k1,k2⟩
   ·exact hk.elim
  ·rename_i r n sz i off;have ho:=hI.objs r;split at hk
   ·rename_i GL es e;rw[e]at ho;split at hk
    ·rename_i hz;obtain rfl:=AP hz;obtain⟨hnl,cs,hi,Ho,hk⟩:=hk;obtain⟨t1,l1,al,a1⟩:=ho;have DH:=(Aw.1 hi).1;rcases a1 with ⟨rfl,_⟩ | ⟨b,cap,E,FP,e1,e2,e3,e4,e5,e6,e7⟩
     ·simp at hi
     ·cases hp with
      |eref _ _ _ _ _ _ b' L3 hu ht Yj kp =>
       have kp:=kp (hnl.trans l1.symm);rw[e1]at kp;simp only[Value.slice.injEq,Bw,Addr.mk.injEq]at kp;obtain⟨⟨rfl,_,_⟩,_,_⟩:=kp;have hcl:=al cs (Ax hi);have TL:i*sz+sz≤es.length*sz:=by
        have:=Bn sz (show i+1≤es.length from DH)
        rwa [Ea]at this
       have gZ:es.length*sz≤cap*sz:=Bn sz e3;have CY:=PQ hT w (t:=t) (off:=i*sz+off) (x:=vx) hd (by rw[CF,hn]) hr.2.1 e4 (by rw[CF];omega);have hl:(h r).live:=by rw[e];trivial
       have rQ : ∀c∈es.set i (over cs off (vs.map (str h))),c.length=sz:=fun c hc=>by
        rcases Gt hc with hc | rfl
        ·exact al c hc
        ·rw[FY];exact hcl
       have hfl:=Mq al hi off (vs.map (str h)) (by rw[Bg];exact Ho);have Yc:FP.toList.length=cap*sz:=by rw[B8];exact e5
       have qw:((over FP.toList (i*sz+off) vx.cells.toList).toArray.toList.take ((es.set i (over cs off (vs.map (str h)))).length*sz))=over (FP.toList.take (es.length*sz)) (i*sz+off) vx.cells.toList:=by
        rw[CH];exact VT _ _ _ _ (by rw[CF];omega) (by rw[Yc];exact gZ)
       have pf:CR g w FH (es.set i (over cs off (vs.map (str h)))).flatten ((over FP.toList (i*sz+off) vx.cells.toList).toArray.toList.take ((es.set i (over cs off (vs.map (str h)))).length*sz)):=by
        rw[qw,hfl];exact e6.over (PU hI hr) _ (by rw[Bg,Dv al];omega)
       split at hk
       ·rename_i j m;have fp:∃x0,vx.cells.toList=[x0]:=by
         revert CF
         cases vx.cells.toList with
         |nil=>intro CF;cases CF
         |cons x0 l=>cases l with
          |nil=>intro _;exact⟨x0,rfl⟩
          |cons _ _=>intro CF;simp at CF
        obtain⟨x0,fp⟩:=fp;have Es:=hr.2.2 0 (.msl j m) x0 rfl (by rw[fp];rfl)
        obtain⟨k1,k2⟩:=hI.write hl e2 (.hol sz (es.set i (over cs off [.junk])) i off (.msl j m)) e4 (over FP.toList (i*sz+off) vx.cells.toList).toArray (g.ln r) (g.own r) g.S (by simp) rfl (fun b' e=>by rw[e2]at e;cases e;rfl) (fun _ _ h=>h)
         (fun b' o hs=>.inl hs) (fun o hs=>absurd hs (e7 o)) (fun hg Im E5=>by
          obtain⟨u1,u2,u3,u4⟩:=BJ g r (g.ρ r) (g.ln r) (g.tk r) (g.own r) g.S;have pc:i*sz+off<es.length*sz:=by simp only[Av,AE]at Ho;omega
          refine⟨u3.trans t1,u2.trans (by rw[CH];exact l1),rQ,b,cap,E,_,?_,u4.trans e2,by rw[CH];exact e3,E5,?_,pf.mono Im (fun _ h=>h) (fun _ h=>h.elim),e7,by rw[CH];exact pc,x0,?_,Es.mono Im (fun i hi=>DX (by simp) i hi) hg⟩
          ·rw[u1,e1,CH]
          ·simp only[FF,FY,B8];exact e5
          ·rw[←AR,fp,FX _ _ _ _ (by rw[Yc];simp only[Av,AE];omega),Au ⟨Am _,by simp only[Av,AE];omega⟩,ET];rfl)
        exact⟨_,_,_,CY,hk,k1,k2⟩
       ·obtain⟨k1,k2⟩:=hI.write hl e2 (.arr sz (es.set i (over cs off (vs.map (str h))))) e4 (over FP.toList (i*sz+off) vx.cells.toList).toArray (g.ln r) (g.own r) g.S (by simp) rfl (fun b' e=>by rw[e2]at e;cases e;rfl) (fun _ _ h=>h)
         (fun b' o hs=>.inl hs) (fun o hs=>absurd hs (e7 o)) (fun hg Im E5=>by
          obtain⟨u1,u2,u3,u4⟩:=BJ g r (g.ρ r) (g.ln r) (g.tk r) (g.own r) g.S;refine⟨u3.trans t1,u2.trans (by rw[CH];exact l1),rQ,.inr ⟨b,cap,E,_,?_,u4.trans e2,by rw[CH];exact e3,E5,?_,pf.mono Im (fun _ h=>h) (fun _ h=>h.elim),e7⟩⟩
          ·rw[u1,e1,CH]
          ·simp only[FF,FY,B8];exact e5)
        exact⟨_,_,_,CY,hk,k1,k2⟩
    ·exact hk.elim
   ·exact hk.elim
  ·exact hk.elim
end
theorem dR{α:Type}(c vs:List α)(h:vs.length=c.length):over c 0 vs=vs:=by
 rw[Np _ _ _ (by omega)];simp[h]
theorem H7{α:Type}[Inhabited α](n:Nat)(z:List α)(hz:z≠[]):(List.replicate n z).flatten=(List.range (n*z.length)).map fun k=>z[k % z.length]!:=by
 have hl:∀c∈List.replicate n z,c.length=z.length:=fun c hc=>by rw[Cn hc]
 have ZX:0<z.length:=G2.2 hz;apply CN;intro k
 by_cases hk:k<n*z.length
 ·have ql:k=k / z.length*z.length+k % z.length:=by rw[Nat.mul_comm];exact(U8 k _).symm
  have Yh:k % z.length<z.length:=Nat.mod_lt _ ZX;have hi:k / z.length<n:=(LN ZX).2 hk;have f1:=Fu hl (i:=k / z.length) (c:=z) (by rw[List.getElem?_replicate,Au hi]) Yh;rw[←ql]at f1;rw[f1];simp[hk,Yh]
 ·rw[A7 (by rw[Dv hl,CA];omega),A7 (by simp;omega)]
section
variable {P:Program}{w0:World}{g0:Gh}{h0 h:Nat→HO}{g:Gh}{w:World}(hI:DS w0 g0 h0 h g w)
include hI
theorem XZ{n sz:Nat}{t:Nat→AV}{ρ:Operand→Value}(ht:∀x:Operand,BP g w (AW h) (ev t x) (ρ x)) :
  ∀{ps:List (Nat×Operand)} {es:List (List AV)} {xs:Array Value} {K:List (List AV)→Prop},es.length=n→(∀c∈es,c.length=sz)→CR g w FH es.flatten xs.toList→Rw n sz h es t ps K →
   ∃FQ We,K FQ∧FQ.length=n∧(∀c∈FQ,c.length=sz)∧CR g w FH FQ.flatten We.toList∧Instr.fill (fun i=>some (i*sz,sz)) xs (ps.map fun(i,x)=>(i,ρ x))=some We
 | [],es,xs,K,hn,hl,h,hk=>⟨es,xs,hk,hn,hl,h,rfl⟩
 |(i,x)::ps,es,xs,K,hn,hl,h,hk=>by
  unfold Rw at hk;split at hk
  ·rename_i hi;have hi:i<n:=Ig hi;have h5:=M2 (ht x) hk
   clear hk
   obtain⟨UN,hk,pd,hr⟩:=h5;have El:(ρ x).cells.size=sz:=by rw[←pd];simpa using hr.1
   have WV:=PU hI hr;obtain⟨c,hc⟩:∃c,es[i]?=some c:=⟨_,AB (by omega)⟩;have hcl:=hl c (Ax hc);have Ho:i*sz+sz≤es.flatten.length:=by
    rw[Dv hl,hn]
    have:=Bn sz (show i+1≤n from hi)
    rwa [Ea]at this
   have hfl:=Mq hl hc 0 (UN.map (str ‹Nat→HO›)) (by rw[Bg,pd];omega);rw[dR _ _ (by rw[Bg,pd,hcl]),DK]at hfl;have E5:=h.over WV (i*sz) (by rw[Bg,pd];exact Ho);have kr:xs.size=es.flatten.length:=by have:=h.1;rwa [B8]at this
   have e:=Ob (ρ x).cells.toList 0 (i*sz) xs (by rw[B8];omega);simp only[DK]at e;rw[←e,←hfl]at E5;obtain⟨FQ,We,k1,k2,k3,k4,k5⟩:=XZ ht (es:=es.set i (UN.map (str _))) (by rw[CH];exact hn) (fun c' qh=>by
    rcases Gt qh with qh | rfl
    ·exact hl c' qh
    ·rw[Bg];exact pd) E5 hk
   refine⟨FQ,We,k1,k2,k3,k4,?_⟩;simp only[AQ,Instr.fill];have e2:(ρ x).cells.zipIdx.foldl (fun cs (c,j)=>cs.setIfInBounds (i*sz+j) c) xs=((ρ x).cells.toList.zipIdx 0).foldl (fun(cs:Array Value) (p:Value×Nat)=>cs.setIfInBounds (i*sz+p.2) p.1) xs:=by
    rw[←Array.foldl_toList];simp
   rw[Al (by simp[El];omega),e2];exact k5
  ·exact hk.elim
theorem SX{cx:Cx}(hT:CJ P cx.T){d:Option Nat}{ty n:Nat}{t:Nat→AV}{ρ:Operand→Value}{K:HK}(ht:∀x:Operand,BP g w (AW h) (ev t x) (ρ x)){ps:Array (Nat×Operand)}
  (hk:IP cx d h ty n t ps.toList K):OK P w0 g0 h0 h g w (Instr.buildSlice ty n (ps.map fun(i,x)=>(i,ρ x))) K:=by
 unfold IP at hk;split at hk
 ·rename_i e hs;split at hk
  ·rename_i Sc Nw;have Nw:=AP Nw;split at hk
   ·exact hk.elim
   ·rename_i m hm;split at hk
    ·rename_i Ho;have Ho:=Ig Ho;have po:(cx.T e).zc≠[]:=fun e0=>by rw[e0]at Nw;rw[hm]at Nw;cases Nw
     have ui:∀c∈List.replicate n ((cx.T e).zc.map AV.v),c.length=(cx.T e).size:=fun c hc=>by rw[Cn hc,Bg];exact Nw
     have sb:CR g w FH (List.replicate n ((cx.T e).zc.map AV.v)).flatten ((Array.range (n*(cx.T e).size)).map fun k=>(cx.T e).zc.toArray[k % (cx.T e).zc.toArray.size]!).toList:=by
      have e1:((Array.range (n*(cx.T e).size)).map fun k=>(cx.T e).zc.toArray[k % (cx.T e).zc.toArray.size]!).toList=(List.replicate n (cx.T e).zc).flatten:=by
       rw[H7 n _ po];simp[Nw]
      have e2:(List.replicate n ((cx.T e).zc.map AV.v)).flatten=(List.replicate n (cx.T e).zc).flatten.map AV.v:=by
       rw[SJ,List.map_replicate]
      rw[e1,e2];refine CR.vals ?_;have Fm:∀l:List AV,(∀a∈l,one a=true)→Hj l=true:=by
       intro l
       induction l with
       |nil=>intro _;rfl
       |cons a l ih=>intro h;simp[Hj,h a (List.mem_cons_self ..),ih (fun b hb=>h b (List.mem_cons_of_mem _ hb))]
      refine Fm _ (fun a ha=>?_);obtain⟨x,hx,rfl⟩:=Ao.1 ha;obtain⟨l,hl,hx⟩:=EC.1 hx;rw[Cn hl]at hx;exact MW Sc _ (Ao.2 ⟨x,hx,rfl⟩)
     obtain⟨FQ,We,k1,k2,k3,k4,k5⟩:=XZ hI ht (by rw[CA]) ui sb hk;have kr:We.size=n*(cx.T e).size:=by
      have:=k4.1
      rw[B8,Dv k3,k2]at this;exact this
     obtain⟨g',av,h',q1,q2,q3,q4⟩:=Kf hI k1 (vs:=We) (cap:=n) e k3 (by omega) kr (by
      rw[k2,AL (by rw[B8,kr];exact Am _)];exact k4) w ⟨rfl,rfl,rfl,rfl⟩
     rw[k2]at q4;refine⟨_,_,g',av,h',?_,q1,q2,q3,q4⟩;obtain⟨z,z1,z2⟩:=Wg hT (w:=w) hm;have El:=hT.size1 w hm;have e3:(Array.map (fun x:Nat×Operand=>match x with | (i,x)=>(i,ρ x)) ps).toList=ps.toList.map fun(i,x)=>(i,ρ x):=by simp
     have w6:¬(n*(m+1)>2 ^ 24):=by rw[hm]at Ho;have Ho:n*(m+1)≤16777216:=Ho;omega
     simp only[Instr.buildSlice,Sem.run_bind,run_underlying (hT.slice hs),Result.andThen_ok,El,Al w6];rw[e3];rw[hm]at k5
     by_cases h0:n*(m+1)=0
     ·have uk:n=0:=by
       rcases Nat.mul_eq_zero.1 h0 with h | h
       ·exact h
       ·cases h
      subst uk;have er:Array.range 0=#[]:=rfl;simp only[KI,er,List.map_toArray,Fk]at k5;simp only[KI,Og,er,List.map_toArray,Fk,k5];simp[newRow]
     ·rw[z2]at k5;simp only[Array.toArray_toList]at k5;simp only[Al h0,Sem.run_bind,z1,Result.andThen_ok,Sem.run_pure,k5];simp[newRow]
    ·exact hk.elim
  ·exact hk.elim
 ·exact hk.elim
end
theorem F6{sz:Nat}:∀{es:List (List AV)},Da sz es→∀c∈es,c.length=sz
 | [],_,c,h=>by cases h
 |d::es,h,c,hc=>by
  rcases AC.1 hc with rfl | hc
  ·exact h.1
  ·exact F6 h.2 c hc
def OP(w:World)(x:Value)(n sz:Nat)(news:List Value):Prop :=
 news.length=n*sz∧(∀v∈news,v.oneCell'=true)∧∃(a:Option Addr) (c:Nat),x=.slice a n c∧(n=0∨∃b:Addr,a=some b∧∀j u,news[j]?=some u→w.cell? (b.add j)=some u)
theorem OP.of_rep{g:Gh}{w:World}{U:Nat→Prop}{es:List (List AV)}{sz:Nat}{x:Value}(h:BP g w U (.slice .none es) x)(hl:∀c∈es,c.length=sz) :
  ∃news,OP w x es.length sz news∧CR g w FH es.flatten news:=by
 cases h with
 |snil _ a cap=>exact⟨[],⟨by simp,by simp,a,cap,rfl,.inl rfl⟩,by simp,by simp,fun i av x h1 h2=>by simp at h2⟩
 |slice _ _ b off GL cap val hc Qy DO Es =>
  have hf:=Dv hl;have key:∀j,j<es.length*sz→∃cs,es[j / sz]?=some cs∧es.flatten[j]?=cs[j % sz]?∧j % sz<cs.length∧GL=sz∧j=j / sz*sz+j % sz:=by
   intro j hj;have ZX:0<sz:=Nat.pos_of_ne_zero (fun e=>by rw[e]at hj;omega);have ql:j=j / sz*sz+j % sz:=by rw[Nat.mul_comm];exact(U8 j sz).symm
   have hi:j / sz<es.length:=(LN ZX).2 hj;have Yh:j % sz<sz:=Nat.mod_lt _ ZX;have h1:es[j / sz]?=some es[j / sz]:=AB hi;have h2:=Fu hl h1 Yh;rw[←ql]at h2;have h3:=hl _ (Ak hi);exact⟨_,h1,h2,by rw[h3];exact Yh,by rw[←h3];exact(Qy _ _ h1).symm,ql⟩
  have WO:∀j,j<es.length*sz→∃av,es.flatten[j]?=some av∧w.cell? ⟨b,off+j,none⟩=some (val (j / sz) (j % sz))∧(val (j / sz) (j % sz)).oneCell'=true∧BP g w FH av (val (j / sz) (j % sz)):=by
   intro j hj;obtain⟨cs,k1,k2,k3,rfl,k5⟩:=key j hj;have gL:cs[j % GL]?=some cs[j % GL]:=AB k3;obtain⟨_,c2,c3⟩:=DO _ _ _ _ k1 gL;rw[GM,←k5]at c2;exact⟨_,k2.trans gL,c2,c3,Es _ _ _ _ k1 gL⟩
  refine⟨(List.range (es.length*sz)).map fun j=>val (j / sz) (j % sz),⟨by simp,fun v hv=>?_,some ⟨b,off,none⟩,cap,rfl,.inr ⟨_,rfl,fun j u hu=>?_⟩⟩,by rw[hf];simp,fun v hv=>?_,fun i av x h1 h2=>?_⟩
  ·obtain⟨j,hj,rfl⟩:=Ao.1 hv;obtain⟨_,_,_,c,_⟩:=WO j (List.mem_range.1 hj);exact c
  ·obtain⟨hj,rfl⟩:=Hb hu;rw[Addr.add_lit];exact(WO j hj).choose_spec.2.1
  ·obtain⟨j,hj,rfl⟩:=Ao.1 hv;obtain⟨_,_,_,c,_⟩:=WO j (List.mem_range.1 hj);exact c
  ·obtain⟨hj,rfl⟩:=Hb h2;obtain⟨qR,c1,_,_,c4⟩:=WO i hj;rw[h1]at c1;cases c1;exact c4
section
variable {P:Program}{T:GN}(hT:CJ P T)
include hT
theorem HN{e n:Nat}(hs:(T e).size=n+1):∃i z,P.info? e=some i∧i.zero=some z∧i.size=(T e).size∧i.bytes=(T e).bytes∧(T e).zc=z.cells.toList:=by
 rcases hT e with h | h
 ·rw[h]at hs;cases hs
 unfold eX at h;split at h
 ·split at h
  ·rename_i d i h1 h2 _ z h3;exact⟨i,z,h2,h3,by rw[h],by rw[h],by rw[TI.zc_cells,h]⟩
  ·rw[h]at hs;cases hs
 ·rw[h]at hs;cases hs
theorem I7(w:World){t e ty k:Nat}(ht:(T t).d=.slice e)(hk:(T e).size=k+1)(a a' : Option Addr)(n cap c:Nat)(hc:n≤cap) :
  (Builtin.append_ #[t,t] ty #[.slice a n cap,.slice a' 0 c]).run P w=.ok (.slice a n cap) w:=by
 have hu:=hT.slice ht;cases a<;>cases a'<;>simp[Builtin.append_,run_underlying hu,hT.size1 w hk,Builtin.lenOf,hc,Builtin.firstCells,loadCells,loadCellsFrom,storeCells]
theorem H9(w:World){t e ty k:Nat}(ht:(T t).d=.slice e)(hk:(T e).size=k+1)(hz:(T e).zc.length=(T e).size){s x:Value}{n m cap c:Nat}{olds news:List Value}{a a' : Option Addr}
  (hso:OP w s n (T e).size olds) (hs:s=.slice a n cap) (Pv:a=none→cap=0) (xn:OP w x m (T e).size news) (hx:x=.slice a' m c) (hm:0<m) (hg:cap<n+m) (hb:(n+m)*(T e).bytes≤140737488355328) (h63:n+m≤9223372036854775807) :
  ∃nc rest,(Builtin.append_ #[t,t] ty #[s,x]).run P w=.ok (.slice (some ⟨w.heap.size,0,none⟩) (n+m) nc) (w.drew.alloc (.cells (olds++news++rest).toArray e (0,0)))∧n+m≤nc ∧
   (olds++news++rest).length=nc*(T e).size:=by
 obtain⟨i,z,i1,i2,i3,i4,i5⟩:=HN hT hk;have hu:=hT.slice ht;obtain⟨n1,n2,a1,c1,n3,n4⟩:=xn;subst hx;cases n3;rcases n4 with h | ⟨b,rfl,Jc⟩
 ·omega
 ·have Nw:z.cells.size=(T e).size:=by rw[←hz,i5];simp
  have Yf:∀(nc:Nat) (pre:List Value),pre.length=(n+m)*(T e).size→n+m≤nc→(pre++(Builtin.zeroCells z.cells (nc-(n+m))).toList).length=nc*(T e).size:=by
   intro nc pre hp Ho;have e1:(Builtin.zeroCells z.cells (nc-(n+m))).toList.length=(nc-(n+m))*(T e).size:=by simp only[B8,size_zeroCells,Nw]
   rw[Ad,e1,hp,←Ft]
   congr 1;omega
  obtain⟨o1,o2,a2,c2,o3,o4⟩:=hso;subst hs;cases o3;cases a with
  |none =>
   obtain rfl:=Pv rfl;have uk:n=0:=by
    rcases o4 with h | ⟨b',h,_⟩
    ·exact h
    ·cases h
   subst uk;have ho:olds=[]:=AA (by simpa using o1);subst ho;have hr:=run_append_nil (P:=P) w t ty e i z hu i1 i2 b m c news (by rw[i3];exact n1) Jc hm (by omega) (by rw[i4];rw[Bo]at hb;omega);refine⟨grownCap w m 0 e,(Builtin.zeroCells z.cells (grownCap w m 0 e-m)).toList,?_,by rw[Bo];exact grownCap_ge w m 0 e,?_⟩
   ·rw[hr,Bo]
    congr 3
    apply OI;simp
   ·have:=Yf (grownCap w m 0 e) news (by rw[Bo];exact n1) (by rw[Bo];exact grownCap_ge w m 0 e)
    rw[Bo]at this;simpa using this
  |some b' =>
   have GV:∀j u,olds[j]?=some u→w.cell? (b'.add j)=some u:=by
    rcases o4 with h | ⟨b2,h,h'⟩
    ·intro j u hj;rw[h,KI]at o1
     have:olds=[]:=AA o1
     rw[this]at hj;simp at hj
    ·cases h;exact h'
   have hr:=run_append_grow (P:=P) w t ty e i z hu i1 i2 b' n cap olds (by rw[i3];exact o1) GV b m c news (by rw[i3];exact n1) Jc hg (by omega) (by rw[i4];exact growslice_fits hg hb);refine⟨grownCap w (n+m) cap e,(Builtin.zeroCells z.cells (grownCap w (n+m) cap e-(n+m))).toList,?_,grownCap_ge w (n+m) cap e,Yf _ _ (by rw[Ad,o1,n1,←Ft]) (grownCap_ge w (n+m) cap e)⟩;rw[hr]
   congr 3
   apply OI;simp
end
end Go.Eng
