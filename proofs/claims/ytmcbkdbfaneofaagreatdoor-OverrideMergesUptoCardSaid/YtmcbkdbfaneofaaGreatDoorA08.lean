/- Lemmas for the claims of this seat, without a condition: part 8 (EngN, EngO, EngP, EngQ). -/
import Derived.Test.YtmcbkdbfaneofaaGreatDoorA07
namespace Go.Eng
def OG(P:Program)(w0:World)(g0:Gh)(h0 h:Nat→HO)(g:Gh)(w:World)(m:Sem Value)(K:HK):Prop :=
 ∃x w' g' av h',m.run P w=.ok x w'∧K av h'∧DQ w0 g0 h0 h' g' w'∧Le h g w h' g' w'∧BS g' w' (AU h') av x
def fH(P:Program)(w0:World)(g0:Gh)(h0 h:Nat→HO)(g:Gh)(w:World)(m:Sem Unit)(K:HK):Prop :=
 ∃w' g' h',m.run P w=.ok () w'∧K (.v undef) h'∧DQ w0 g0 h0 h' g' w'∧Le h g w h' g' w'
section
variable {P:Program}{w0:World}{g0:Gh}{h0 h:Nat→HO}{g:Gh}{w:World}(hI:DQ w0 g0 h0 h g w)
include hI
theorem BX.does{m:Sem Value}{K:HK}(hg:BX P h g w m (fun v=>K v h)):OG P w0 g0 h0 h g w m K :=
 let ⟨x,av,h1,h2,h3⟩:=hg
 ⟨x,w,g,av,h,h1,h2,hI,.refl _ _ _,h3⟩
theorem DQ.newOwn{d:Nat}(hd:h d=.free)(o' : HO)(ob:Obj)(x:Value)(n:Nat)(t:Bool)(w1:World)(Lj:w1.heap=w.heap∧w1.os=w.os∧w1.tape=w.tape∧w1.output=w.output)(DL:o'≠.free)
  (JL:Kr g (g.upd d x n t (some w.heap.size) g.S) (AU h)→Fj g w (g.upd d x n t (some w.heap.size) g.S) (w1.alloc ob) →
   Eo (g.upd d x n t (some w.heap.size) g.S) (w1.alloc ob) (AU (A2 h d o')) d o') :
  DQ w0 g0 h0 (A2 h d o') (g.upd d x n t (some w.heap.size) g.S) (w1.alloc ob)∧Le h g w (A2 h d o') (g.upd d x n t (some w.heap.size) g.S) (w1.alloc ob):=by
 refine hI.upd d o' x n t _ _ _ none ⟨Lj.2.1,Lj.2.2.1,Lj.2.2.2,by rw[World.size_alloc,Lj.1];omega⟩ (fun k hk _=>?_) (fun b e=>by cases e) (fun _ _ h=>h) (fun _ _ h=>.inl h) (fun b o e=>by cases e)
  (fun b _ e=>?_) DL (fun hu=>absurd hd hu) JL
 ·rw[heap_alloc_old _ _ (by rw[Lj.1];exact hk),Lj.1]
 ·cases e;rw[World.size_alloc,Lj.1];exact⟨by omega,.inr (Al _)⟩
def Gh.more(g:Gh)(b n:Nat):Nat→Nat→Prop:=fun b' o=>g.S b' o∨(b'=b∧o<n)
theorem DQ.newStable{d:Nat}(hd:h d=.free)(o' : HO)(vs:Array Value)(E:TypeId)(m:Nat)(x:Value)(n:Nat)(t:Bool)(w1:World)(Lj:w1.heap=w.heap∧w1.os=w.os∧w1.tape=w.tape∧w1.output=w.output)(DL:o'≠.free)
  (JL:Kr g (g.upd d x n t none (g.more w.heap.size m)) (AU h)→Fj g w (g.upd d x n t none (g.more w.heap.size m)) (w1.alloc (.cells vs E (0,0))) →
   Eo (g.upd d x n t none (g.more w.heap.size m)) (w1.alloc (.cells vs E (0,0))) (AU (A2 h d o')) d o') :
  DQ w0 g0 h0 (A2 h d o') (g.upd d x n t none (g.more w.heap.size m)) (w1.alloc (.cells vs E (0,0))) ∧
   Le h g w (A2 h d o') (g.upd d x n t none (g.more w.heap.size m)) (w1.alloc (.cells vs E (0,0))):=by
 refine hI.upd d o' x n t _ _ _ none ⟨Lj.2.1,Lj.2.2.1,Lj.2.2.2,by rw[World.size_alloc,Lj.1];omega⟩ (fun k hk _=>?_) (fun b e=>by cases e) (fun _ _ h=>.inl h) (fun b o hb=>?_) (fun b o e=>by cases e)
  (fun b _ e=>by cases e) DL (fun hu=>absurd hd hu) JL
 ·rw[heap_alloc_old _ _ (by rw[Lj.1];exact hk),Lj.1]
 ·rcases hb with hb | ⟨rfl,_⟩
  ·exact .inl hb
  ·exact .inr ⟨by rw[World.size_alloc,Lj.1];omega,.inl (Al _)⟩
end
theorem BK(g:Gh)(r:Nat)(x:Value)(n:Nat)(t:Bool)(o:Option Nat)(S:Nat→Nat→Prop) :
  (g.upd r x n t o S).ρ r=x∧(g.upd r x n t o S).ln r=n∧(g.upd r x n t o S).tk r=t∧(g.upd r x n t o S).own r=o:=by simp[Gh.upd]
theorem H3(w:World)(o:Obj){b:Nat}(hb:b=w.heap.size):(w.alloc o).heap[b]?=some o:=by subst hb;exact heap_alloc_new w o
theorem BS.cptr_row{g:Gh}{w:World}{U:Nat→Prop}{b:Nat}{cs:List AV}{vs:Array Value}{E:TypeId}{f:Nat×Nat}(hb:w.heap[b]?=some (.cells vs E f))(hr:CP g w FL cs vs.toList)
  (hS:∀o,o<cs.length→g.S b o):BS g w U (.cptr cs) (.pointer (some ⟨b,0,none⟩)):=by
 refine .cptr U cs b 0 (fun j=>vs[j]?.getD default) (fun j av hj=>?_) (fun j av hj=>?_)
 ·obtain⟨x,x1,x2,x3⟩:=hr.at hj;rw[AQ]at x1;refine⟨hS _ (by rw[Bk];exact(Aw.1 hj).1),?_,?_⟩
  ·rw[FY hb,Bk,x1];rfl
  ·rw[x1];exact x2
 ·obtain⟨x,x1,x2,x3⟩:=hr.at hj;rw[AQ]at x1;rw[x1];exact x3
theorem BS.slice_off{g:Gh}{w:World}{U:Nat→Prop}{b off sz cap:Nat}{es:List (List AV)}{vs:Array Value}{E:TypeId}{f:Nat×Nat}(hb:w.heap[b]?=some (.cells vs E f))(hl:∀cs∈es,cs.length=sz)
  (hc:es.length≤cap) (hr:CP g w FL es.flatten ((vs.toList.drop off).take (es.length*sz))) (hS:∀o,o<es.length*sz→g.S b (off+o)):BS g w U (.slice .none es) (.slice (some ⟨b,off,none⟩) es.length cap):=by
 have key:∀(i:Nat) (cs:List AV) (j:Nat) (av:AV),es[i]?=some cs→cs[j]?=some av→∃x,vs[off+(i*sz+j)]?=some x∧x.oneCell'=true∧BS g w FL av x∧i*sz+j<es.length*sz:=by
  intro i cs j av h1 h2;have hcl:=hl cs (AA h1);have hj:j<sz:=by rw[←hcl];exact(Aw.1 h2).1
  have hi:=(Aw.1 h1).1;have DF:i*sz+j<es.length*sz:=by
   have:=Bs sz (show i+1≤es.length from hi)
   rw[D7]at this;omega
  have hf:=Fw hl h1 hj;rw[h2]at hf;obtain⟨x,x1,x2,x3⟩:=hr.at hf;rw[BQ DF,BZ,AQ]at x1;exact⟨x,x1,x2,x3,DF⟩
 refine .slice U es b off sz cap (fun i j=>vs[off+(i*sz+j)]?.getD default) hc (fun i cs h=>hl cs (AA h)) (fun i cs j av h1 h2=>?_) (fun i cs j av h1 h2=>?_)
 ·obtain⟨x,x1,x2,x3,x4⟩:=key i cs j av h1 h2;rw[GR];refine⟨hS _ x4,?_,?_⟩
  ·rw[FY hb,x1];rfl
  ·rw[x1];exact x2
 ·obtain⟨x,x1,x2,x3,x4⟩:=key i cs j av h1 h2;rw[x1];exact x3
theorem BS.slice_row{g:Gh}{w:World}{U:Nat→Prop}{b sz cap:Nat}{es:List (List AV)}{vs:Array Value}{E:TypeId}{f:Nat×Nat}(hb:w.heap[b]?=some (.cells vs E f))(hl:∀cs∈es,cs.length=sz)
  (hc:es.length≤cap) (hr:CP g w FL es.flatten (vs.toList.take (es.length*sz))) (hS:∀o,o<es.length*sz→g.S b o):BS g w U (.slice .none es) (.slice (some ⟨b,0,none⟩) es.length cap):=by
 have key:∀(i:Nat) (cs:List AV) (j:Nat) (av:AV),es[i]?=some cs→cs[j]?=some av→∃x,vs[i*sz+j]?=some x∧x.oneCell'=true∧BS g w FL av x∧i*sz+j<es.length*sz:=by
  intro i cs j av h1 h2;have hcl:=hl cs (AA h1);have hj:j<sz:=by rw[←hcl];exact(Aw.1 h2).1
  have hi:=(Aw.1 h1).1;have DF:i*sz+j<es.length*sz:=by
   have:=Bs sz (show i+1≤es.length from hi)
   rw[D7]at this;omega
  have hf:=Fw hl h1 hj;rw[h2]at hf;obtain⟨x,x1,x2,x3⟩:=hr.at hf;rw[BQ DF,AQ]at x1;exact⟨x,x1,x2,x3,DF⟩
 refine .slice U es b 0 sz cap (fun i j=>vs[i*sz+j]?.getD default) hc (fun i cs h=>hl cs (AA h)) (fun i cs j av h1 h2=>?_) (fun i cs j av h1 h2=>?_)
 ·obtain⟨x,x1,x2,x3,x4⟩:=key i cs j av h1 h2;rw[Bk];refine⟨hS _ x4,?_,?_⟩
  ·rw[FY hb,x1];rfl
  ·rw[x1];exact x2
 ·obtain⟨x,x1,x2,x3,x4⟩:=key i cs j av h1 h2;rw[x1];exact x3
section
variable {P:Program}{w0:World}{g0:Gh}{h0 h:Nat→HO}{g:Gh}{w:World}
theorem RL(hI:DQ w0 g0 h0 h g w){d:Nat}(hd:h d=.free){cs:List AV}{vs:Array Value}(E:TypeId)(hr:CP g w (AU h) cs vs.toList) :
  ∃g',DQ w0 g0 h0 (A2 h d (.cells cs)) g' (w.alloc (.cells vs E (0,0)))∧Le h g w (A2 h d (.cells cs)) g' (w.alloc (.cells vs E (0,0))) ∧
   BS g' (w.alloc (.cells vs E (0,0))) (AU (A2 h d (.cells cs))) (.ref d 0) (.pointer (some ⟨w.heap.size,0,none⟩)):=by
 obtain⟨k1,k2⟩:=hI.newOwn hd (.cells cs) (.cells vs E (0,0)) (.pointer (some ⟨w.heap.size,0,none⟩)) 0 false w ⟨rfl,rfl,rfl,rfl⟩ (by simp) (fun hg hk=>by
  obtain⟨u1,u2,u3,u4⟩:=BK g d (.pointer (some ⟨w.heap.size,0,none⟩)) 0 false (some w.heap.size) g.S;exact⟨u3,w.heap.size,E,vs,u4,u1,H3 w _ rfl,hr.mono hk (fun i hi=>DV (by simp) i hi) hg,fun o ho=>by have:=hI.slt _ _ ho;omega⟩)
 refine⟨_,k1,k2,.ref _ d 0 w.heap.size (by unfold AU;rw[Bl];simp) ?_ ?_⟩
 ·simp[Gh.upd]
 ·simp[Gh.upd]
theorem iY(hI:DQ w0 g0 h0 h g w){d:Nat}(hd:h d=.free){cs:List AV}{vs:Array Value}(E:TypeId)(hr:CP g w FL cs vs.toList) :
  ∃g',DQ w0 g0 h0 (A2 h d (.ro cs)) g' (w.alloc (.cells vs E (0,0)))∧Le h g w (A2 h d (.ro cs)) g' (w.alloc (.cells vs E (0,0))) ∧
   BS g' (w.alloc (.cells vs E (0,0))) (AU (A2 h d (.ro cs))) (.ref d 0) (.pointer (some ⟨w.heap.size,0,none⟩)):=by
 obtain⟨k1,k2⟩:=hI.newStable hd (.ro cs) vs E cs.length (.pointer (some ⟨w.heap.size,0,none⟩)) 0 false w ⟨rfl,rfl,rfl,rfl⟩ (by simp) (fun hg hk=>by
  obtain⟨u1,u2,u3,u4⟩:=BK g d (.pointer (some ⟨w.heap.size,0,none⟩)) 0 false none (g.more w.heap.size cs.length);exact⟨u3,w.heap.size,u1,BS.cptr_row (H3 w _ rfl) (hr.mono hk (fun _ h=>h) (fun _ h=>h.elim)) (fun o ho=>.inr ⟨rfl,ho⟩)⟩)
 refine⟨_,k1,k2,.ref _ d 0 w.heap.size (by unfold AU;rw[Bl];simp) ?_ ?_⟩
 ·simp[Gh.upd]
 ·simp[Gh.upd]
theorem Kl(hI:DQ w0 g0 h0 h g w){cx:Cx}{d:Option Nat}{sz:Nat}{es:List (List AV)}{K:HK}(hk:EN cx d h sz es K){vs:Array Value}{cap:Nat}(E:TypeId)(hl:∀cs∈es,cs.length=sz)
  (hc:es.length≤cap) (hs:vs.size=cap*sz) (hr:CP g w FL es.flatten (vs.toList.take (es.length*sz))) (w1:World) (Lj:w1.heap=w.heap∧w1.os=w.os∧w1.tape=w.tape∧w1.output=w.output) :
  ∃g' av h',K av h'∧DQ w0 g0 h0 h' g' (w1.alloc (.cells vs E (0,0)))∧Le h g w h' g' (w1.alloc (.cells vs E (0,0))) ∧
   BS g' (w1.alloc (.cells vs E (0,0))) (AU h') av (.slice (some ⟨w.heap.size,0,none⟩) es.length cap):=by
 have E6:(w1.alloc (.cells vs E (0,0))).heap[w.heap.size]?=some (.cells vs E (0,0)):=H3 w1 _ (by rw[Lj.1]);unfold EN at hk;split at hk
 ·exact hk.elim
 ·rename_i d;generalize KT cx d=d1 at hk;split at hk
  ·rename_i hd;split at hk
   ·obtain⟨k1,k2⟩:=hI.newOwn hd (.arr sz es) (.cells vs E (0,0)) (.slice (some ⟨w.heap.size,0,none⟩) es.length cap) es.length true w1 Lj (by simp) (fun hg In=>by
     obtain⟨u1,u2,u3,u4⟩:=BK g d1 (.slice (some ⟨w.heap.size,0,none⟩) es.length cap) es.length true (some w.heap.size) g.S;exact⟨u3,u2,hl,.inr ⟨w.heap.size,cap,E,vs,u1,u4,hc,E6,hs,hr.mono In (fun _ h=>h) (fun _ h=>h.elim),fun o ho=>by have:=hI.slt _ _ ho;omega⟩⟩)
    refine⟨_,_,_,hk,k1,k2,.msl _ d1 es.length _ cap (by unfold AU;rw[Bl];simp) ?_ ?_ (.inr ⟨_,rfl⟩) ?_⟩<;>simp[Gh.upd]
   ·by_cases ia:es.length=cap
    ·obtain⟨k1,k2⟩:=hI.newStable hd (.tok sz es.length) vs E (es.length*sz) (.slice (some ⟨w.heap.size,0,none⟩) es.length cap) es.length true w1 Lj (by simp) (fun hg In=>by
      obtain⟨u1,u2,u3,u4⟩:=BK g d1 (.slice (some ⟨w.heap.size,0,none⟩) es.length cap) es.length true none (g.more w.heap.size (es.length*sz));exact⟨u3,u2,_,cap,u1,.inl ⟨ia,u4⟩⟩)
     refine⟨_,_,_,hk,k1,k2,.tok _ d1 sz es _ (BS.slice_row E6 hl hc (hr.mono k2.keeps (fun _ h=>h) (fun _ h=>h.elim)) (fun o ho=>.inr ⟨rfl,ho⟩)) hl (by unfold AU;rw[Bl];simp) ?_ ?_ ?_⟩<;>simp[Gh.upd]
    ·have qn:=hI.upd d1 (.tok sz es.length) (.slice (some ⟨w.heap.size,0,none⟩) es.length cap) es.length true (some w.heap.size) (g.more w.heap.size (es.length*sz)) (w1.alloc (.cells vs E (0,0))) none
      ⟨Lj.2.1,Lj.2.2.1,Lj.2.2.2,by rw[World.size_alloc,Lj.1];omega⟩ (fun k Kv _=>by rw[heap_alloc_old _ _ (by rw[Lj.1];exact Kv),Lj.1]) (fun b e=>by cases e) (fun _ _ h=>.inl h)
      (fun b o hb=>by
       rcases hb with hb | ⟨rfl,_⟩
       ·exact .inl hb
       ·exact .inr ⟨by rw[World.size_alloc,Lj.1];omega,.inl (Al _)⟩) (fun b o e=>by cases e)
      (fun b _ e=>by cases e;rw[World.size_alloc,Lj.1];exact⟨by omega,.inr (Al _)⟩) (by simp) (fun hu=>absurd hd hu) (fun hg In=>by
       obtain⟨u1,u2,u3,u4⟩:=BK g d1 (.slice (some ⟨w.heap.size,0,none⟩) es.length cap) es.length true (some w.heap.size) (g.more w.heap.size (es.length*sz));exact⟨u3,u2,_,cap,u1,.inr ⟨hc,w.heap.size,E,vs,0,rfl,u4,E6,by rw[hs,Bk],fun o ho=>by
        rcases ho with ho | ⟨_,ho⟩
        ·have:=hI.slt _ _ ho;omega
        ·omega⟩⟩)
     obtain⟨k1,k2⟩:=qn;refine⟨_,_,_,hk,k1,k2,.tok _ d1 sz es _ (BS.slice_row E6 hl hc (hr.mono k2.keeps (fun _ h=>h) (fun _ h=>h.elim)) (fun o ho=>.inr ⟨rfl,ho⟩)) hl (by unfold AU;rw[Bl];simp) ?_ ?_ ?_⟩<;>simp[Gh.upd]
  ·exact hk.elim
end
theorem Nh{α:Type}:∀(cs:List α) (o:Nat) (vs:List α),o+vs.length≤cs.length→over cs o vs=cs.take o++vs++cs.drop (o+vs.length)
 | [],o,vs,h=>by
  simp at h;obtain⟨rfl,rfl⟩:=h
  rfl
 |c::cs,o+1,vs,h=>by
  rw[over,Nh cs o vs (by simp at h;omega)];simp only[Jh,D6,AM,Nat.add_right_comm o 1,List.drop_succ_cons]
 |c::cs,0,[],h=>by simp[over]
 |c::cs,0,v::vs,h=>by
  rw[over,Nh cs 0 vs (by simp at h;omega)];simp
theorem V1{α:Type}(cs:List α)(o n:Nat)(vs:List α)(h:o+vs.length≤n)(hn:n≤cs.length):(over cs o vs).take n=over (cs.take n) o vs:=by
 apply CM;intro i;rw[F2 _ _ _ _ (by simp;omega)]
 by_cases hi:i<n
 ·rw[BQ hi,F2 _ _ _ _ (by omega),BQ hi]
 ·rw[Ao (by omega),A8 (by rw[AC,F3];omega),A8 (by simp;omega)]
theorem Mo{α:Type}{n:Nat}:∀{es:List (List α)},(∀c∈es,c.length=n)→∀{i:Nat} {c:List α},es[i]?=some c→∀(o:Nat) (vs:List α),o+vs.length≤n →
  (es.set i (over c o vs)).flatten=over es.flatten (i*n+o) vs
 | [],_,i,c,h,_,_,_=>by simp at h
 |d::es,hl,i,c,h,o,vs,Hr=>by
  have hd:=hl d (Ac ..);have hfl:=Du (es:=d::es) (n:=n) hl;have DF:=(Aw.1 h).1;have sw:i*n+o+vs.length≤(d::es).flatten.length:=by
   rw[hfl]
   have:=Bs n (show i+1≤(d::es).length from DF)
   rw[D7]at this;omega
  have hcl:=hl c (AA h);apply CM;intro j;rw[F2 _ _ _ _ sw];have N9:∀e∈(d::es).set i (over c o vs),e.length=n:=fun e he=>by
   rcases I9 he with he | rfl
   ·exact hl e he
   ·rw[F3];exact hcl
  by_cases hn:n=0
  ·subst hn;have h1:=Du N9;have h2:=hfl;simp only[Nat.mul_zero,List.length_eq_zero_iff]at h1 h2;rw[h1,h2]
   have:¬(i*0+o≤j∧j<i*0+o+vs.length):=by omega
   rw[Ao this]
  ·have qq:j=j / n*n+j % n:=by rw[Nat.mul_comm];exact(Vc j n).symm
   have Yn:j % n<n:=Nat.mod_lt _ (by omega)
   by_cases hj:j / n<(d::es).length
   ·have g1:(d::es)[j / n]?=some ((d::es)[j / n]):=AE hj;have g2:((d::es).set i (over c o vs))[j / n]?=some (if i=j / n then over c o vs else(d::es)[j / n]):=by
     rw[Rk]
     by_cases e:i=j / n
     ·rw[Ax e,Ax (by omega),Ax e]
     ·rw[Ao e,Ao e];exact g1
    have f1:=Fw hl g1 Yn;have f2:=Fw N9 g2 Yn;rw[←qq]at f1 f2;rw[f1,f2];split
    ·rename_i e;rw[e]at h;rw[g1]at h;cases h;rw[F2 _ _ _ _ (by omega)];have e2:i*n+o≤j↔o≤j % n:=by rw[e];omega
     have e3:j<i*n+o+vs.length↔j % n<o+vs.length:=by rw[e];omega
     simp only[e2,e3];split
     ·congr 1;rw[e];omega
     ·rfl
    ·rename_i e
     have:¬(i*n+o≤j∧j<i*n+o+vs.length):=by
      rintro⟨q1,q2⟩
      apply e;have a1:i*n≤j:=by omega
      have a2:j<(i+1)*n:=by rw[D7];omega
      have:=(Nat.le_div_iff_mul_le (by omega)).2 a1
      have:=(LL (by omega)).2 a2
      omega
     rw[Ao this]
   ·have qr:(d::es).length*n≤j:=by
     have:=Nat.not_lt.1 hj
     have:=(Nat.le_div_iff_mul_le (by omega)).1 this
     exact this
    have:¬(i*n+o≤j∧j<i*n+o+vs.length):=by rw[hfl]at sw;omega
    rw[Ao this,A8 (by rw[Du N9,CG];exact qr),A8 (by rw[hfl];exact qr)]
theorem PO{P:Program}{T:GS}(hT:CH P T)(w:World){t b off:Nat}{x:Value}{FV:Array Value}{E:TypeId}(hd:(T t).d≠.other)(hs:x.cells.toList.length=(T t).size)
  (h1:∀v∈x.cells.toList,v.oneCell'=true) (hb:w.heap[b]?=some (.cells FV E (0,0))) (Hr:off+x.cells.toList.length≤FV.size) :
  (Instr.storeAt t (.pointer (some ⟨b,off,none⟩)) x).run P w=.ok () (w.setRow b (over FV.toList off x.cells.toList).toArray):=by
 have JM:=run_storeCells_at P b off E x.cells.toList 0 FV w hb (by simpa using Hr) h1;simp only[DJ]at JM;have Xx : x.cells.size=(T t).size:=by simpa using hs
 rw[Nh _ _ _ (by simpa using Hr)];simp only[Instr.storeAt,Sem.run_bind,Instr.sureAddr,Sem.run_pure,Result.andThen_ok,storeVar,hT.size w hd,Xx,VX,not_true_eq_false,GJ];exact JM
section
variable {P:Program}{w0:World}{g0:Gh}{h0 h:Nat→HO}{g:Gh}{w:World}(hI:DQ w0 g0 h0 h g w)
include hI
theorem cB{T:GS}(hT:CH P T){d:Option Nat}{e:Nat}{K:HK}(hk:SP T d h e K):OG P w0 g0 h0 h g w (Instr.alloc e true (.tuple #[])) K:=by
 unfold SP at hk;split at hk
 ·exact hk.elim
 ·split at hk
  ·rename_i hd;split at hk
   ·exact hk.elim
   ·rename_i DL;split at hk
    ·rename_i ha;obtain⟨z,z1,z2,_⟩:=PY hT (w:=w) DL;have hr:CP g w (AU h) ((T e).zc.map .v) z.cells.toList:=by rw[z2]at ha⊢;exact CP.vals ha
     obtain⟨g',k1,k2,k3⟩:=RL hI hd (vs:=z.cells) e hr;refine⟨_,_,g',_,_,?_,hk,k1,k2,k3⟩;simp[Instr.alloc,z1,newVar,newRow]
    ·exact hk.elim
  ·exact hk.elim
theorem PS{cs:List AV}{vs:List Value}(hr:CP g w (AU h) cs vs):CP g w FL (cs.map (str h)) vs:=by
 refine⟨by rw[Bh];exact hr.1,hr.2.1,fun i av x h1 h2=>?_⟩;rw[AK,AY]at h1;obtain⟨a,a1,rfl⟩:=h1;exact(hr.2.2 i a x a1 h2).str hI.objs
theorem kL{cx:Cx}{d:Option Nat}{e:Nat}{x:AV}{vx:Value}{K:HK}(hx:BS g w (AU h) x vx)(hk:cK cx d h e x K):OG P w0 g0 h0 h g w (Instr.box e vx) K:=by
 unfold cK at hk;split at hk
 ·exact hk.elim
 ·split at hk
  ·rename_i hd;split at hk
   ·exact hk.elim
   ·obtain⟨cs,hk,hn,hr⟩:=MY hx hk;split at hk
    ·obtain⟨g',k1,k2,k3⟩:=iY hI hd (vs:=vx.cells) e (PS hI hr);exact⟨_,_,g',_,_,rfl,hk,k1,k2,k3⟩
    ·obtain⟨g',k1,k2,k3⟩:=RL hI hd (vs:=vx.cells) e hr;exact⟨_,_,g',_,_,rfl,hk,k1,k2,k3⟩
  ·exact hk.elim
theorem DQ.write{r b:Nat}(hl:(h r).live)(ho:g.own r=some b)(o' : HO){FV:Array Value}{E:TypeId}(hb:w.heap[b]?=some (.cells FV E (0,0)))(new:Array Value)(n:Nat)(ow:Option Nat)(S' : Nat→Nat→Prop)
  (DL:o'≠.free) (hn:n=g.ln r) (sE:∀b',ow=some b'→b'=b) (hS:∀b o,g.S b o→S' b o) (ug:∀b' o,S' b' o→g.S b' o∨b'=b) (sq:∀o,g.S b o→new[o]?=FV[o]?)
  (JL:Kr g (g.upd r (g.ρ r) n (g.tk r) ow S') (AU h)→Fj g w (g.upd r (g.ρ r) n (g.tk r) ow S') (w.setRow b new)→(w.setRow b new).heap[b]?=some (.cells new E (0,0)) →
   Eo (g.upd r (g.ρ r) n (g.tk r) ow S') (w.setRow b new) (AU (A2 h r o')) r o') :
  DQ w0 g0 h0 (A2 h r o') (g.upd r (g.ρ r) n (g.tk r) ow S') (w.setRow b new)∧Le h g w (A2 h r o') (g.upd r (g.ρ r) n (g.tk r) ow S') (w.setRow b new):=by
 have E6:=setRow_heap w b FV new E (0,0) hb;have DF:=(hI.loc r b hl ho).1
 refine hI.upd r o' _ _ _ _ _ _ (some b) ⟨rfl,rfl,rfl,by rw[size_setRow];exact Al _⟩ (fun k hk DL=>setRow_other w b k new (fun e=>DL (by rw[e]))) (fun b' e=>by cases e;exact⟨hl,ho⟩) hS (fun b' o hs=>?_)
  (fun b' o e hs=>?_) (fun b' _ e=>?_) DL (fun _=>⟨rfl,by omega,fun _=>rfl,fun _=>rfl⟩) (fun hg hk=>JL hg hk E6)
 ·rcases ug b' o hs with h1 | rfl
  ·exact .inl h1
  ·exact .inr ⟨by rw[size_setRow];exact DF,.inr ⟨hl,ho⟩⟩
 ·cases e
  refine⟨?_,fun es ck he=>by rw[hb]at he;cases he⟩;rw[FY E6,FY hb];exact sq o hs
 ·obtain rfl:=sE b' e;exact⟨by rw[size_setRow];exact DF,.inl ⟨hl,ho⟩⟩
theorem fe{cx:Cx}(hT:CH P cx.T){t:Nat}{p x:AV}{vp vx:Value}{K:HK}(hp:BS g w (AU h) p vp)(hx:BS g w (AU h) x vx)(hk:Oz cx h t p x K) :
  fH P w0 g0 h0 h g w (Instr.storeAt t vp vx) K:=by
 unfold Oz at hk;split at hk
 ·exact hk.elim
 ·rename_i hd;have h5:=MY hx hk
  clear hk
  obtain⟨vs,hk,hn,hr⟩:=h5;have CJ:vx.cells.toList.length=vs.length:=hr.1;split at hk
  ·rename_i r off;have ho:=hI.objs r;split at hk
   ·rename_i cs e;obtain⟨Hr,hk⟩:=hk;rw[e]at ho;obtain⟨t0,b,E,FV,a1,a2,a3,a4,a5⟩:=ho;cases hp with
    |ref _ _ _ b' hu ht ko =>
     rw[a2]at ko;cases ko;have hcs:FV.toList.length=cs.length:=a4.1;have CZ:=PO hT w (t:=t) (off:=off) (x:=vx) hd (by rw[CJ,hn]) hr.2.1 a3 (by rw[CJ];simp at hcs;omega);have hl:(h r).live:=by rw[e];trivial
     have pk:=a4.over hr off Hr;split at hk
     ·obtain⟨k1,k2⟩:=hI.write hl a1 (.ro ((over cs off vs).map (str h))) a3 (over FV.toList off vx.cells.toList).toArray (g.ln r) none (g.more b cs.length) (by simp) rfl (fun _ e=>by cases e) (fun _ _ h=>.inl h)
       (fun b' o hs=>hs.elim .inl (fun hs=>.inr hs.1)) (fun o hs=>absurd hs (a5 o)) (fun hg In E6=>by
        obtain⟨u1,u2,u3,u4⟩:=BK g r (g.ρ r) (g.ln r) (g.tk r) none (g.more b cs.length);refine⟨u3.trans t0,b,u1.trans a2,BS.cptr_row E6 ?_ (fun o ho=>.inr ⟨rfl,?_⟩)⟩
        ·exact(PS hI pk).mono In (fun _ h=>h) (fun _ h=>h.elim)
        ·rw[Bh,F3]at ho;exact ho)
      exact⟨_,_,_,CZ,hk,k1,k2⟩
     ·obtain⟨k1,k2⟩:=hI.write hl a1 (.cells (over cs off vs)) a3 (over FV.toList off vx.cells.toList).toArray (g.ln r) (g.own r) g.S (by simp) rfl (fun b' e=>by rw[a1]at e;cases e;rfl) (fun _ _ h=>h)
       (fun b' o hs=>.inl hs) (fun o hs=>absurd hs (a5 o)) (fun hg In E6=>by
        obtain⟨u1,u2,u3,u4⟩:=BK g r (g.ρ r) (g.ln r) (g.tk r) (g.own r) g.S;exact⟨u3.trans t0,b,E,_,u4.trans a1,u1.trans a2,E6,pk.mono In (fun i hi=>DV (by simp) i hi) hg,a5⟩)
      exact⟨_,_,_,CZ,hk,k1,k2⟩
   ·exact hk.elim
  ·rename_i r n sz i off;have ho:=hI.objs r;split at hk
   ·rename_i GQ es e;rw[e]at ho;split at hk
    ·rename_i hz;obtain rfl:=AP hz;obtain⟨hnl,cs,hi,Hr,hk⟩:=hk;obtain⟨t1,l1,al,a1⟩:=ho;have DF:=(Aw.1 hi).1;rcases a1 with ⟨rfl,_⟩ | ⟨b,cap,E,FV,e1,e2,e3,e4,e5,e6,e7⟩
     ·simp at hi
     ·cases hp with
      |eref _ _ _ _ _ _ b' L0 hu ht Yo ko =>
       have ko:=ko (hnl.trans l1.symm);rw[e1]at ko;simp only[Value.slice.injEq,Bx,Addr.mk.injEq]at ko;obtain⟨⟨rfl,_,_⟩,_,_⟩:=ko;have hcl:=al cs (AA hi);have TL:i*sz+sz≤es.length*sz:=by
        have:=Bs sz (show i+1≤es.length from DF)
        rwa [D7]at this
       have il:es.length*sz≤cap*sz:=Bs sz e3;have CZ:=PO hT w (t:=t) (off:=i*sz+off) (x:=vx) hd (by rw[CJ,hn]) hr.2.1 e4 (by rw[CJ];omega);have hl:(h r).live:=by rw[e];trivial
       have rV : ∀c∈es.set i (over cs off (vs.map (str h))),c.length=sz:=fun c hc=>by
        rcases I9 hc with hc | rfl
        ·exact al c hc
        ·rw[F3];exact hcl
       have hfl:=Mo al hi off (vs.map (str h)) (by rw[Bh];exact Hr);have Yh:FV.toList.length=cap*sz:=by rw[Cb];exact e5
       have kp:((over FV.toList (i*sz+off) vx.cells.toList).toArray.toList.take ((es.set i (over cs off (vs.map (str h)))).length*sz))=over (FV.toList.take (es.length*sz)) (i*sz+off) vx.cells.toList:=by
        rw[CG];exact V1 _ _ _ _ (by rw[CJ];omega) (by rw[Yh];exact il)
       have pk:CP g w FL (es.set i (over cs off (vs.map (str h)))).flatten ((over FV.toList (i*sz+off) vx.cells.toList).toArray.toList.take ((es.set i (over cs off (vs.map (str h)))).length*sz)):=by
        rw[kp,hfl];exact e6.over (PS hI hr) _ (by rw[Bh,Du al];omega)
       split at hk
       ·rename_i j m;have fB:∃x0,vx.cells.toList=[x0]:=by
         revert CJ
         cases vx.cells.toList with
         |nil=>intro CJ;cases CJ
         |cons x0 l=>cases l with
          |nil=>intro _;exact⟨x0,rfl⟩
          |cons _ _=>intro CJ;simp at CJ
        obtain⟨x0,fB⟩:=fB;have Er:=hr.2.2 0 (.msl j m) x0 rfl (by rw[fB];rfl)
        obtain⟨k1,k2⟩:=hI.write hl e2 (.hol sz (es.set i (over cs off [.junk])) i off (.msl j m)) e4 (over FV.toList (i*sz+off) vx.cells.toList).toArray (g.ln r) (g.own r) g.S (by simp) rfl (fun b' e=>by rw[e2]at e;cases e;rfl) (fun _ _ h=>h)
         (fun b' o hs=>.inl hs) (fun o hs=>absurd hs (e7 o)) (fun hg In E6=>by
          obtain⟨u1,u2,u3,u4⟩:=BK g r (g.ρ r) (g.ln r) (g.tk r) (g.own r) g.S;have ph:i*sz+off<es.length*sz:=by simp only[Au,Ay]at Hr;omega
          refine⟨u3.trans t1,u2.trans (by rw[CG];exact l1),rV,b,cap,E,_,?_,u4.trans e2,by rw[CG];exact e3,E6,?_,pk.mono In (fun _ h=>h) (fun _ h=>h.elim),e7,by rw[CG];exact ph,x0,?_,Er.mono In (fun i hi=>DV (by simp) i hi) hg⟩
          ·rw[u1,e1,CG]
          ·simp only[FJ,F3,Cb];exact e5
          ·rw[←AQ,fB,F2 _ _ _ _ (by rw[Yh];simp only[Au,Ay];omega),Ax ⟨Al _,by simp only[Au,Ay];omega⟩,EW];rfl)
        exact⟨_,_,_,CZ,hk,k1,k2⟩
       ·obtain⟨k1,k2⟩:=hI.write hl e2 (.arr sz (es.set i (over cs off (vs.map (str h))))) e4 (over FV.toList (i*sz+off) vx.cells.toList).toArray (g.ln r) (g.own r) g.S (by simp) rfl (fun b' e=>by rw[e2]at e;cases e;rfl) (fun _ _ h=>h)
         (fun b' o hs=>.inl hs) (fun o hs=>absurd hs (e7 o)) (fun hg In E6=>by
          obtain⟨u1,u2,u3,u4⟩:=BK g r (g.ρ r) (g.ln r) (g.tk r) (g.own r) g.S;refine⟨u3.trans t1,u2.trans (by rw[CG];exact l1),rV,.inr ⟨b,cap,E,_,?_,u4.trans e2,by rw[CG];exact e3,E6,?_,pk.mono In (fun _ h=>h) (fun _ h=>h.elim),e7⟩⟩
          ·rw[u1,e1,CG]
          ·simp only[FJ,F3,Cb];exact e5)
        exact⟨_,_,_,CZ,hk,k1,k2⟩
    ·exact hk.elim
   ·exact hk.elim
  ·exact hk.elim
end
theorem dZ{α:Type}(c vs:List α)(h:vs.length=c.length):over c 0 vs=vs:=by
 rw[Nh _ _ _ (by omega)];simp[h]
theorem Ib{α:Type}[Inhabited α](n:Nat)(z:List α)(hz:z≠[]):(List.replicate n z).flatten=(List.range (n*z.length)).map fun k=>z[k % z.length]!:=by
 have hl:∀c∈List.replicate n z,c.length=z.length:=fun c hc=>by rw[Cq hc]
 have ai:0<z.length:=G7.2 hz;apply CM;intro k
 by_cases hk:k<n*z.length
 ·have qq:k=k / z.length*z.length+k % z.length:=by rw[Nat.mul_comm];exact(Vc k _).symm
  have Yn:k % z.length<z.length:=Nat.mod_lt _ ai;have hi:k / z.length<n:=(LL ai).2 hk;have f1:=Fw hl (i:=k / z.length) (c:=z) (by rw[List.getElem?_replicate,Ax hi]) Yn;rw[←qq]at f1;rw[f1];simp[hk,Yn]
 ·rw[A8 (by rw[Du hl,CA];omega),A8 (by simp;omega)]
section
variable {P:Program}{w0:World}{g0:Gh}{h0 h:Nat→HO}{g:Gh}{w:World}(hI:DQ w0 g0 h0 h g w)
include hI
theorem X4{n sz:Nat}{t:Nat→AV}{ρ:Operand→Value}(ht:∀x:Operand,BS g w (AU h) (ev t x) (ρ x)) :
  ∀{ps:List (Nat×Operand)} {es:List (List AV)} {xs:Array Value} {K:List (List AV)→Prop},es.length=n→(∀c∈es,c.length=sz)→CP g w FL es.flatten xs.toList→Rv n sz h es t ps K →
   ∃FW Wn,K FW∧FW.length=n∧(∀c∈FW,c.length=sz)∧CP g w FL FW.flatten Wn.toList∧Instr.fill (fun i=>some (i*sz,sz)) xs (ps.map fun(i,x)=>(i,ρ x))=some Wn
 | [],es,xs,K,hn,hl,h,hk=>⟨es,xs,hk,hn,hl,h,rfl⟩
 |(i,x)::ps,es,xs,K,hn,hl,h,hk=>by
  unfold Rv at hk;split at hk
  ·rename_i hi;have hi:i<n:=Il hi;have h5:=MY (ht x) hk
   clear hk
   obtain⟨US,hk,pi,hr⟩:=h5;have Ek:(ρ x).cells.size=sz:=by rw[←pi];simpa using hr.1
   have VH:=PS hI hr;obtain⟨c,hc⟩:∃c,es[i]?=some c:=⟨_,AE (by omega)⟩;have hcl:=hl c (AA hc);have Hr:i*sz+sz≤es.flatten.length:=by
    rw[Du hl,hn]
    have:=Bs sz (show i+1≤n from hi)
    rwa [D7]at this
   have hfl:=Mo hl hc 0 (US.map (str ‹Nat→HO›)) (by rw[Bh,pi];omega);rw[dZ _ _ (by rw[Bh,pi,hcl]),DJ]at hfl;have E6:=h.over VH (i*sz) (by rw[Bh,pi];exact Hr);have kr:xs.size=es.flatten.length:=by have:=h.1;rwa [Cb]at this
   have e:=N6 (ρ x).cells.toList 0 (i*sz) xs (by rw[Cb];omega);simp only[DJ]at e;rw[←e,←hfl]at E6;obtain⟨FW,Wn,k1,k2,k3,k4,k5⟩:=X4 ht (es:=es.set i (US.map (str _))) (by rw[CG];exact hn) (fun c' ql=>by
    rcases I9 ql with ql | rfl
    ·exact hl c' ql
    ·rw[Bh];exact pi) E6 hk
   refine⟨FW,Wn,k1,k2,k3,k4,?_⟩;simp only[AS,Instr.fill];have e2:(ρ x).cells.zipIdx.foldl (fun cs (c,j)=>cs.setIfInBounds (i*sz+j) c) xs=((ρ x).cells.toList.zipIdx 0).foldl (fun(cs:Array Value) (p:Value×Nat)=>cs.setIfInBounds (i*sz+p.2) p.1) xs:=by
    rw[←Array.foldl_toList];simp
   rw[Ao (by simp[Ek];omega),e2];exact k5
  ·exact hk.elim
theorem SY{cx:Cx}(hT:CH P cx.T){d:Option Nat}{ty n:Nat}{t:Nat→AV}{ρ:Operand→Value}{K:HK}(ht:∀x:Operand,BS g w (AU h) (ev t x) (ρ x)){ps:Array (Nat×Operand)}
  (hk:IP cx d h ty n t ps.toList K):OG P w0 g0 h0 h g w (Instr.buildSlice ty n (ps.map fun(i,x)=>(i,ρ x))) K:=by
 unfold IP at hk;split at hk
 ·rename_i e hs;split at hk
  ·rename_i Sd Nr;have Nr:=AP Nr;split at hk
   ·exact hk.elim
   ·rename_i m hm;split at hk
    ·rename_i Hr;have Hr:=Il Hr;have pv:(cx.T e).zc≠[]:=fun e0=>by rw[e0]at Nr;rw[hm]at Nr;cases Nr
     have un:∀c∈List.replicate n ((cx.T e).zc.map AV.v),c.length=(cx.T e).size:=fun c hc=>by rw[Cq hc,Bh];exact Nr
     have sj:CP g w FL (List.replicate n ((cx.T e).zc.map AV.v)).flatten ((Array.range (n*(cx.T e).size)).map fun k=>(cx.T e).zc.toArray[k % (cx.T e).zc.toArray.size]!).toList:=by
      have e1:((Array.range (n*(cx.T e).size)).map fun k=>(cx.T e).zc.toArray[k % (cx.T e).zc.toArray.size]!).toList=(List.replicate n (cx.T e).zc).flatten:=by
       rw[Ib n _ pv];simp[Nr]
      have e2:(List.replicate n ((cx.T e).zc.map AV.v)).flatten=(List.replicate n (cx.T e).zc).flatten.map AV.v:=by
       rw[SL,List.map_replicate]
      rw[e1,e2];refine CP.vals ?_;have Fp:∀l:List AV,(∀a∈l,one a=true)→Ho l=true:=by
       intro l
       induction l with
       |nil=>intro _;rfl
       |cons a l ih=>intro h;simp[Ho,h a (List.mem_cons_self ..),ih (fun b hb=>h b (List.mem_cons_of_mem _ hb))]
      refine Fp _ (fun a ha=>?_);obtain⟨x,hx,rfl⟩:=Ar.1 ha;obtain⟨l,hl,hx⟩:=EF.1 hx;rw[Cq hl]at hx;exact MS Sd _ (Ar.2 ⟨x,hx,rfl⟩)
     obtain⟨FW,Wn,k1,k2,k3,k4,k5⟩:=X4 hI ht (by rw[CA]) un sj hk;have kr:Wn.size=n*(cx.T e).size:=by
      have:=k4.1
      rw[Cb,Du k3,k2]at this;exact this
     obtain⟨g',av,h',q1,q2,q3,q4⟩:=Kl hI k1 (vs:=Wn) (cap:=n) e k3 (by omega) kr (by
      rw[k2,AJ (by rw[Cb,kr];exact Al _)];exact k4) w ⟨rfl,rfl,rfl,rfl⟩
     rw[k2]at q4;refine⟨_,_,g',av,h',?_,q1,q2,q3,q4⟩;obtain⟨z,z1,z2⟩:=Wp hT (w:=w) hm;have Ek:=hT.size1 w hm;have e3:(Array.map (fun x:Nat×Operand=>match x with | (i,x)=>(i,ρ x)) ps).toList=ps.toList.map fun(i,x)=>(i,ρ x):=by simp
     have xe:¬(n*(m+1)>2 ^ 24):=by rw[hm]at Hr;have Hr:n*(m+1)≤16777216:=Hr;omega
     simp only[Instr.buildSlice,Sem.run_bind,run_underlying (hT.slice hs),Result.andThen_ok,Ek,Ao xe];rw[e3];rw[hm]at k5
     by_cases h0:n*(m+1)=0
     ·have uq:n=0:=by
       rcases Nat.mul_eq_zero.1 h0 with h | h
       ·exact h
       ·cases h
      subst uq;have er:Array.range 0=#[]:=rfl;simp only[KL,er,List.map_toArray,Fm]at k5;simp only[KL,RD,er,List.map_toArray,Fm,k5];simp[newRow]
     ·rw[z2]at k5;simp only[Array.toArray_toList]at k5;simp only[Ao h0,Sem.run_bind,z1,Result.andThen_ok,Sem.run_pure,k5];simp[newRow]
    ·exact hk.elim
  ·exact hk.elim
 ·exact hk.elim
end
theorem Gb{sz:Nat}:∀{es:List (List AV)},CT sz es→∀c∈es,c.length=sz
 | [],_,c,h=>by cases h
 |d::es,h,c,hc=>by
  rcases Av.1 hc with rfl | hc
  ·exact h.1
  ·exact Gb h.2 c hc
def OM(w:World)(x:Value)(n sz:Nat)(news:List Value):Prop :=
 news.length=n*sz∧(∀v∈news,v.oneCell'=true)∧∃(a:Option Addr) (c:Nat),x=.slice a n c∧(n=0∨∃b:Addr,a=some b∧∀j u,news[j]?=some u→w.cell? (b.add j)=some u)
theorem OM.of_rep{g:Gh}{w:World}{U:Nat→Prop}{es:List (List AV)}{sz:Nat}{x:Value}(h:BS g w U (.slice .none es) x)(hl:∀c∈es,c.length=sz) :
  ∃news,OM w x es.length sz news∧CP g w FL es.flatten news:=by
 cases h with
 |snil _ a cap=>exact⟨[],⟨by simp,by simp,a,cap,rfl,.inl rfl⟩,by simp,by simp,fun i av x h1 h2=>by simp at h2⟩
 |slice _ _ b off GQ cap val hc Qu DN Er =>
  have hf:=Du hl;have key:∀j,j<es.length*sz→∃cs,es[j / sz]?=some cs∧es.flatten[j]?=cs[j % sz]?∧j % sz<cs.length∧GQ=sz∧j=j / sz*sz+j % sz:=by
   intro j hj;have ai:0<sz:=Nat.pos_of_ne_zero (fun e=>by rw[e]at hj;omega);have qq:j=j / sz*sz+j % sz:=by rw[Nat.mul_comm];exact(Vc j sz).symm
   have hi:j / sz<es.length:=(LL ai).2 hj;have Yn:j % sz<sz:=Nat.mod_lt _ ai;have h1:es[j / sz]?=some es[j / sz]:=AE hi;have h2:=Fw hl h1 Yn;rw[←qq]at h2;have h3:=hl _ (Ak hi);exact⟨_,h1,h2,by rw[h3];exact Yn,by rw[←h3];exact(Qu _ _ h1).symm,qq⟩
  have WX:∀j,j<es.length*sz→∃av,es.flatten[j]?=some av∧w.cell? ⟨b,off+j,none⟩=some (val (j / sz) (j % sz))∧(val (j / sz) (j % sz)).oneCell'=true∧BS g w FL av (val (j / sz) (j % sz)):=by
   intro j hj;obtain⟨cs,k1,k2,k3,rfl,k5⟩:=key j hj;have gV:cs[j % GQ]?=some cs[j % GQ]:=AE k3;obtain⟨_,c2,c3⟩:=DN _ _ _ _ k1 gV;rw[GR,←k5]at c2;exact⟨_,k2.trans gV,c2,c3,Er _ _ _ _ k1 gV⟩
  refine⟨(List.range (es.length*sz)).map fun j=>val (j / sz) (j % sz),⟨by simp,fun v hv=>?_,some ⟨b,off,none⟩,cap,rfl,.inr ⟨_,rfl,fun j u hu=>?_⟩⟩,by rw[hf];simp,fun v hv=>?_,fun i av x h1 h2=>?_⟩
  ·obtain⟨j,hj,rfl⟩:=Ar.1 hv;obtain⟨_,_,_,c,_⟩:=WX j (List.mem_range.1 hj);exact c
  ·obtain⟨hj,rfl⟩:=Hg hu;rw[Addr.add_lit];exact(WX j hj).choose_spec.2.1
  ·obtain⟨j,hj,rfl⟩:=Ar.1 hv;obtain⟨_,_,_,c,_⟩:=WX j (List.mem_range.1 hj);exact c
  ·obtain⟨hj,rfl⟩:=Hg h2;obtain⟨qU,c1,_,_,c4⟩:=WX i hj;rw[h1]at c1;cases c1;exact c4
section
variable {P:Program}{T:GS}(hT:CH P T)
include hT
theorem HS{e n:Nat}(hs:(T e).size=n+1):∃i z,P.info? e=some i∧i.zero=some z∧i.size=(T e).size∧i.bytes=(T e).bytes∧(T e).zc=z.cells.toList:=by
 rcases hT e with h | h
 ·rw[h]at hs;cases hs
 unfold ff at h;split at h
 ·split at h
  ·rename_i d i h1 h2 _ z h3;exact⟨i,z,h2,h3,by rw[h],by rw[h],by rw[TI.zc_cells,h]⟩
  ·rw[h]at hs;cases hs
 ·rw[h]at hs;cases hs
theorem I7(w:World){t e ty k:Nat}(ht:(T t).d=.slice e)(hk:(T e).size=k+1)(a a' : Option Addr)(n cap c:Nat)(hc:n≤cap) :
  (Builtin.append_ #[t,t] ty #[.slice a n cap,.slice a' 0 c]).run P w=.ok (.slice a n cap) w:=by
 have hu:=hT.slice ht;cases a<;>cases a'<;>simp[Builtin.append_,run_underlying hu,hT.size1 w hk,Builtin.lenOf,hc,Builtin.firstCells,loadCells,loadCellsFrom,storeCells]
theorem If(w:World){t e ty k:Nat}(ht:(T t).d=.slice e)(hk:(T e).size=k+1)(hz:(T e).zc.length=(T e).size){s x:Value}{n m cap c:Nat}{olds news:List Value}{a a' : Option Addr}
  (hso:OM w s n (T e).size olds) (hs:s=.slice a n cap) (Pr:a=none→cap=0) (uw:OM w x m (T e).size news) (hx:x=.slice a' m c) (hm:0<m) (hg:cap<n+m) (hb:(n+m)*(T e).bytes≤140737488355328) (h63:n+m≤9223372036854775807) :
  ∃nc rest,(Builtin.append_ #[t,t] ty #[s,x]).run P w=.ok (.slice (some ⟨w.heap.size,0,none⟩) (n+m) nc) (w.drew.alloc (.cells (olds++news++rest).toArray e (0,0)))∧n+m≤nc ∧
   (olds++news++rest).length=nc*(T e).size:=by
 obtain⟨i,z,i1,i2,i3,i4,i5⟩:=HS hT hk;have hu:=hT.slice ht;obtain⟨n1,n2,a1,c1,n3,n4⟩:=uw;subst hx;cases n3;rcases n4 with h | ⟨b,rfl,Jd⟩
 ·omega
 ·have Nr:z.cells.size=(T e).size:=by rw[←hz,i5];simp
  have Yl:∀(nc:Nat) (pre:List Value),pre.length=(n+m)*(T e).size→n+m≤nc→(pre++(Builtin.zeroCells z.cells (nc-(n+m))).toList).length=nc*(T e).size:=by
   intro nc pre hp Hr;have e1:(Builtin.zeroCells z.cells (nc-(n+m))).toList.length=(nc-(n+m))*(T e).size:=by simp only[Cb,size_zeroCells,Nr]
   rw[Ad,e1,hp,←Fv]
   congr 1;omega
  obtain⟨o1,o2,a2,c2,o3,o4⟩:=hso;subst hs;cases o3;cases a with
  |none =>
   obtain rfl:=Pr rfl;have uq:n=0:=by
    rcases o4 with h | ⟨b',h,_⟩
    ·exact h
    ·cases h
   subst uq;have ho:olds=[]:=Az (by simpa using o1);subst ho;have hr:=run_append_nil (P:=P) w t ty e i z hu i1 i2 b m c news (by rw[i3];exact n1) Jd hm (by omega) (by rw[i4];rw[Bk]at hb;omega);refine⟨grownCap w m 0 e,(Builtin.zeroCells z.cells (grownCap w m 0 e-m)).toList,?_,by rw[Bk];exact grownCap_ge w m 0 e,?_⟩
   ·rw[hr,Bk]
    congr 3
    apply OE;simp
   ·have:=Yl (grownCap w m 0 e) news (by rw[Bk];exact n1) (by rw[Bk];exact grownCap_ge w m 0 e)
    rw[Bk]at this;simpa using this
  |some b' =>
   have G0:∀j u,olds[j]?=some u→w.cell? (b'.add j)=some u:=by
    rcases o4 with h | ⟨b2,h,h'⟩
    ·intro j u hj;rw[h,KL]at o1
     have:olds=[]:=Az o1
     rw[this]at hj;simp at hj
    ·cases h;exact h'
   have hr:=run_append_grow (P:=P) w t ty e i z hu i1 i2 b' n cap olds (by rw[i3];exact o1) G0 b m c news (by rw[i3];exact n1) Jd hg (by omega) (by rw[i4];exact growslice_fits hg hb);refine⟨grownCap w (n+m) cap e,(Builtin.zeroCells z.cells (grownCap w (n+m) cap e-(n+m))).toList,?_,grownCap_ge w (n+m) cap e,Yl _ _ (by rw[Ad,o1,n1,←Fv]) (grownCap_ge w (n+m) cap e)⟩;rw[hr]
   congr 3
   apply OE;simp
end
end Go.Eng
