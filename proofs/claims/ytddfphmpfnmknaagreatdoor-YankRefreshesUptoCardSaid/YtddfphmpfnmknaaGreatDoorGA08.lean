/- Lemmas for the claims of this seat, without a condition: part 8 (EngN, EngO, EngP, EngQ). -/
import Derived.Test.YtddfphmpfnmknaaGreatDoorGA07
namespace Go.Eng
variable {vs:Array Value}{es:List (List AV)}{U:Nat→Prop}{E:TypeId}{cs:List AV}{f:Nat×Nat}{K:HK}{b:Nat}{α:Type}{F6:Array Value}{g:Gh}{cx:Cx}{sz cap e:Nat}{vx:Value}{off:Nat}{T:G4}(P:Program)(w0:World)(g0:Gh)(n:Nat)(h0 h:Nat→HO)(w:World)
def Po(g:Gh)(w:World)(m:Sem Value)(K:HK):Prop :=
 ∃x w' g' av h',m.run P w=.ok x w'∧K av h'∧DV w0 g0 h0 h' g' w'∧Le h g w h' g' w'∧BP g' w' (AT h') av x
def jj(g:Gh)(w:World)(m:Sem Unit)(K:HK):Prop :=
 ∃w' g' h',m.run P w=.ok () w'∧K (.v undef) h'∧DV w0 g0 h0 h' g' w'∧Le h g w h' g' w'
section
variable {P:Program}{w0:World}{g0:Gh}{h0 h:Nat→HO}{g:Gh}{w:World}(hI:DV w0 g0 h0 h g w)
include hI
theorem BV.does{m:Sem Value}(hg:BV P h g w m (fun v=>K v h)):Po P w0 g0 h0 h g w m K :=
 let ⟨x,av,h1,h2,h3⟩:=hg
 ⟨x,w,g,av,h,h1,h2,hI,.refl _ _ _,h3⟩
theorem DV.newOwn{d:Nat}(hd:h d=.free)(o' : HO)(ob:Obj)(x:Value)(n:Nat)(t:Bool)(w1:World)(LO:w1.heap=w.heap∧w1.os=w.os∧w1.tape=w.tape∧w1.output=w.output)(DM:o'≠.free)
  (Kg:KT g (g.upd d x n t (some w.heap.size) g.S) (AT h)→E3 g w (g.upd d x n t (some w.heap.size) g.S) (w1.alloc ob) →
   Ez (g.upd d x n t (some w.heap.size) g.S) (w1.alloc ob) (AT (A0 h d o')) d o') :
  DV w0 g0 h0 (A0 h d o') (g.upd d x n t (some w.heap.size) g.S) (w1.alloc ob)∧Le h g w (A0 h d o') (g.upd d x n t (some w.heap.size) g.S) (w1.alloc ob):=by
 refine hI.upd d o' x n t _ _ _ none ⟨LO.2.1,LO.2.2.1,LO.2.2.2,by rw[World.size_alloc,LO.1];omega⟩ (fun k hk _=>?_) (fun b e=>by cases e) (fun _ _ h=>h) (fun _ _ h=>.inl h) (fun b o e=>by cases e)
  (fun b _ e=>?_) DM (fun hu=>absurd hd hu) Kg
 ·rw[heap_alloc_old _ _ (by rw[LO.1];exact hk),LO.1]
 ·cases e;rw[World.size_alloc,LO.1];exact⟨by omega,.inr (Ao _)⟩
def Gh.more(g:Gh)(b n:Nat):Nat→Nat→Prop:=fun b' o=>g.S b' o∨(b'=b∧o<n)
theorem DV.newStable{d:Nat}(hd:h d=.free)(o' : HO)(vs:Array Value)(E:TypeId)(m:Nat)(x:Value)(n:Nat)(t:Bool)(w1:World)(LO:w1.heap=w.heap∧w1.os=w.os∧w1.tape=w.tape∧w1.output=w.output)(DM:o'≠.free)
  (Kg:KT g (g.upd d x n t none (g.more w.heap.size m)) (AT h)→E3 g w (g.upd d x n t none (g.more w.heap.size m)) (w1.alloc (.cells vs E (0,0))) →
   Ez (g.upd d x n t none (g.more w.heap.size m)) (w1.alloc (.cells vs E (0,0))) (AT (A0 h d o')) d o') :
  DV w0 g0 h0 (A0 h d o') (g.upd d x n t none (g.more w.heap.size m)) (w1.alloc (.cells vs E (0,0))) ∧
   Le h g w (A0 h d o') (g.upd d x n t none (g.more w.heap.size m)) (w1.alloc (.cells vs E (0,0))):=by
 refine hI.upd d o' x n t _ _ _ none ⟨LO.2.1,LO.2.2.1,LO.2.2.2,by rw[World.size_alloc,LO.1];omega⟩ (fun k hk _=>?_) (fun b e=>by cases e) (fun _ _ h=>.inl h) (fun b o hb=>?_) (fun b o e=>by cases e)
  (fun b _ e=>by cases e) DM (fun hu=>absurd hd hu) Kg
 ·rw[heap_alloc_old _ _ (by rw[LO.1];exact hk),LO.1]
 ·rcases hb with hb | ⟨rfl,_⟩
  ·exact .inl hb
  ·exact .inr ⟨by rw[World.size_alloc,LO.1];omega,.inl (Ao _)⟩
end
theorem BG(g:Gh)(r:Nat)(x:Value)(n:Nat)(t:Bool)(o:Option Nat)(S:Nat→Nat→Prop) :
  (g.upd r x n t o S).ρ r=x∧(g.upd r x n t o S).ln r=n∧(g.upd r x n t o S).tk r=t∧(g.upd r x n t o S).own r=o:=by simp[Gh.upd]
theorem Ip(o:Obj)(hb:b=w.heap.size):(w.alloc o).heap[b]?=some o:=by subst hb;exact heap_alloc_new w o
theorem BP.cptr_row{w:World}(hb:w.heap[b]?=some (.cells vs E f))(hr:CU g w FQ cs vs.toList)(hS:∀o,o<cs.length→g.S b o):BP g w U (.cptr cs) (.pointer (some ⟨b,0,none⟩)):=by
 refine .cptr U cs b 0 (fun j=>vs[j]?.getD default) (fun j av hj=>?_) (fun j av hj=>?_)
 ·obtain⟨x,x1,x2,x3⟩:=hr.at hj;rw[AQ]at x1;refine⟨hS _ (by rw[Bi];exact(Aw.1 hj).1),?_,?_⟩
  ·rw[F8 hb,Bi,x1];rfl
  ·rw[x1];exact x2
 ·obtain⟨x,x1,x2,x3⟩:=hr.at hj;rw[AQ]at x1;rw[x1];exact x3
theorem BP.slice_off{w:World}(hb:w.heap[b]?=some (.cells vs E f))(hl:∀cs∈es,cs.length=sz)(hc:es.length≤cap)(hr:CU g w FQ es.flatten ((vs.toList.drop off).take (es.length*sz)))(hS:∀o,o<es.length*sz→g.S b (off+o)):BP g w U (.slice .none es) (.slice (some ⟨b,off,none⟩) es.length cap):=by
 have key:∀(i:Nat) (cs:List AV) (j:Nat) (av:AV),es[i]?=some cs→cs[j]?=some av→∃x,vs[off+(i*sz+j)]?=some x∧x.oneCell'=true∧BP g w FQ av x∧i*sz+j<es.length*sz:=by
  intro i cs j av h1 h2;have hcl:=hl cs (Ay h1);have hj:j<sz:=by rw[←hcl];exact(Aw.1 h2).1
  have hi:=(Aw.1 h1).1;have DJ:i*sz+j<es.length*sz:=by
   have:=Bk sz (show i+1≤es.length from hi)
   rw[Ei]at this;omega
  have hf:=FK hl h1 hj;rw[h2]at hf;obtain⟨x,x1,x2,x3⟩:=hr.at hf;rw[BQ DJ,DN,AQ]at x1;exact⟨x,x1,x2,x3,DJ⟩
 refine .slice U es b off sz cap (fun i j=>vs[off+(i*sz+j)]?.getD default) hc (fun i cs h=>hl cs (Ay h)) (fun i cs j av h1 h2=>?_) (fun i cs j av h1 h2=>?_)
 ·obtain⟨x,x1,x2,x3,x4⟩:=key i cs j av h1 h2;rw[G3];refine⟨hS _ x4,?_,?_⟩
  ·rw[F8 hb,x1];rfl
  ·rw[x1];exact x2
 ·obtain⟨x,x1,x2,x3,x4⟩:=key i cs j av h1 h2;rw[x1];exact x3
theorem BP.slice_row{w:World}(hb:w.heap[b]?=some (.cells vs E f))(hl:∀cs∈es,cs.length=sz)(hc:es.length≤cap)(hr:CU g w FQ es.flatten (vs.toList.take (es.length*sz)))(hS:∀o,o<es.length*sz→g.S b o):BP g w U (.slice .none es) (.slice (some ⟨b,0,none⟩) es.length cap):=by
 have key:∀(i:Nat) (cs:List AV) (j:Nat) (av:AV),es[i]?=some cs→cs[j]?=some av→∃x,vs[i*sz+j]?=some x∧x.oneCell'=true∧BP g w FQ av x∧i*sz+j<es.length*sz:=by
  intro i cs j av h1 h2;have hcl:=hl cs (Ay h1);have hj:j<sz:=by rw[←hcl];exact(Aw.1 h2).1
  have hi:=(Aw.1 h1).1;have DJ:i*sz+j<es.length*sz:=by
   have:=Bk sz (show i+1≤es.length from hi)
   rw[Ei]at this;omega
  have hf:=FK hl h1 hj;rw[h2]at hf;obtain⟨x,x1,x2,x3⟩:=hr.at hf;rw[BQ DJ,AQ]at x1;exact⟨x,x1,x2,x3,DJ⟩
 refine .slice U es b 0 sz cap (fun i j=>vs[i*sz+j]?.getD default) hc (fun i cs h=>hl cs (Ay h)) (fun i cs j av h1 h2=>?_) (fun i cs j av h1 h2=>?_)
 ·obtain⟨x,x1,x2,x3,x4⟩:=key i cs j av h1 h2;rw[Bi];refine⟨hS _ x4,?_,?_⟩
  ·rw[F8 hb,x1];rfl
  ·rw[x1];exact x2
 ·obtain⟨x,x1,x2,x3,x4⟩:=key i cs j av h1 h2;rw[x1];exact x3
section
variable {P:Program}{w0:World}{g0:Gh}{h0 h:Nat→HO}{g:Gh}{w:World}
theorem SJ(hI:DV w0 g0 h0 h g w){d:Nat}(hd:h d=.free)(E:TypeId)(hr:CU g w (AT h) cs vs.toList) :
  ∃g',DV w0 g0 h0 (A0 h d (.cells cs)) g' (w.alloc (.cells vs E (0,0)))∧Le h g w (A0 h d (.cells cs)) g' (w.alloc (.cells vs E (0,0))) ∧
   BP g' (w.alloc (.cells vs E (0,0))) (AT (A0 h d (.cells cs))) (.ref d 0) (.pointer (some ⟨w.heap.size,0,none⟩)):=by
 obtain⟨k1,k2⟩:=hI.newOwn hd (.cells cs) (.cells vs E (0,0)) (.pointer (some ⟨w.heap.size,0,none⟩)) 0 false w ⟨rfl,rfl,rfl,rfl⟩ B0 (fun hg hk=>by
  obtain⟨u1,u2,u3,u4⟩:=BG g d (.pointer (some ⟨w.heap.size,0,none⟩)) 0 false (some w.heap.size) g.S;exact⟨u3,w.heap.size,E,vs,u4,u1,Ip w _ rfl,hr.mono hk (fun i hi=>D5 B0 i hi) hg,fun o ho=>by have:=hI.slt _ _ ho;omega⟩)
 refine⟨_,k1,k2,.ref _ d 0 w.heap.size (by unfold AT;rw[Bg];simp) ?_ ?_⟩
 ·simp[Gh.upd]
 ·simp[Gh.upd]
theorem lE(hI:DV w0 g0 h0 h g w){d:Nat}(hd:h d=.free)(E:TypeId)(hr:CU g w FQ cs vs.toList) :
  ∃g',DV w0 g0 h0 (A0 h d (.ro cs)) g' (w.alloc (.cells vs E (0,0)))∧Le h g w (A0 h d (.ro cs)) g' (w.alloc (.cells vs E (0,0))) ∧
   BP g' (w.alloc (.cells vs E (0,0))) (AT (A0 h d (.ro cs))) (.ref d 0) (.pointer (some ⟨w.heap.size,0,none⟩)):=by
 obtain⟨k1,k2⟩:=hI.newStable hd (.ro cs) vs E cs.length (.pointer (some ⟨w.heap.size,0,none⟩)) 0 false w ⟨rfl,rfl,rfl,rfl⟩ B0 (fun hg hk=>by
  obtain⟨u1,u2,u3,u4⟩:=BG g d (.pointer (some ⟨w.heap.size,0,none⟩)) 0 false none (g.more w.heap.size cs.length);exact⟨u3,w.heap.size,u1,BP.cptr_row (Ip w _ rfl) (hr.mono hk (fun _ h=>h) (fun _ h=>h.elim)) (fun o ho=>.inr ⟨rfl,ho⟩)⟩)
 refine⟨_,k1,k2,.ref _ d 0 w.heap.size (by unfold AT;rw[Bg];simp) ?_ ?_⟩
 ·simp[Gh.upd]
 ·simp[Gh.upd]
theorem KN(hI:DV w0 g0 h0 h g w){d:Option Nat}{sz:Nat}(hk:E0 cx d h sz es K){cap:Nat}(E:TypeId)(hl:∀cs∈es,cs.length=sz)(hc:es.length≤cap)(hs:vs.size=cap*sz)(hr:CU g w FQ es.flatten (vs.toList.take (es.length*sz)))(w1:World)(LO:w1.heap=w.heap∧w1.os=w.os∧w1.tape=w.tape∧w1.output=w.output) :
  ∃g' av h',K av h'∧DV w0 g0 h0 h' g' (w1.alloc (.cells vs E (0,0)))∧Le h g w h' g' (w1.alloc (.cells vs E (0,0))) ∧
   BP g' (w1.alloc (.cells vs E (0,0))) (AT h') av (.slice (some ⟨w.heap.size,0,none⟩) es.length cap):=by
 have Fp:(w1.alloc (.cells vs E (0,0))).heap[w.heap.size]?=some (.cells vs E (0,0)):=Ip w1 _ (by rw[LO.1]);unfold E0 at hk;split at hk
 ·exact hk.elim
 ·rename_i d;generalize Lr cx d=d1 at hk;split at hk
  ·rename_i hd;split at hk
   ·obtain⟨k1,k2⟩:=hI.newOwn hd (.arr sz es) (.cells vs E (0,0)) (.slice (some ⟨w.heap.size,0,none⟩) es.length cap) es.length true w1 LO B0 (fun hg IN=>by
     obtain⟨u1,u2,u3,u4⟩:=BG g d1 (.slice (some ⟨w.heap.size,0,none⟩) es.length cap) es.length true (some w.heap.size) g.S;exact⟨u3,u2,hl,.inr ⟨w.heap.size,cap,E,vs,u1,u4,hc,Fp,hs,hr.mono IN (fun _ h=>h) (fun _ h=>h.elim),fun o ho=>by have:=hI.slt _ _ ho;omega⟩⟩)
    refine⟨_,_,_,hk,k1,k2,.msl _ d1 es.length _ cap (by unfold AT;rw[Bg];simp) ?_ ?_ (.inr ⟨_,rfl⟩) ?_⟩<;>simp[Gh.upd]
   ·by_cases ZK:es.length=cap
    ·obtain⟨k1,k2⟩:=hI.newStable hd (.tok sz es.length) vs E (es.length*sz) (.slice (some ⟨w.heap.size,0,none⟩) es.length cap) es.length true w1 LO B0 (fun hg IN=>by
      obtain⟨u1,u2,u3,u4⟩:=BG g d1 (.slice (some ⟨w.heap.size,0,none⟩) es.length cap) es.length true none (g.more w.heap.size (es.length*sz));exact⟨u3,u2,_,cap,u1,.inl ⟨ZK,u4⟩⟩)
     refine⟨_,_,_,hk,k1,k2,.tok _ d1 sz es _ (BP.slice_row Fp hl hc (hr.mono k2.keeps (fun _ h=>h) (fun _ h=>h.elim)) (fun o ho=>.inr ⟨rfl,ho⟩)) hl (by unfold AT;rw[Bg];simp) ?_ ?_ ?_⟩<;>simp[Gh.upd]
    ·have tO:=hI.upd d1 (.tok sz es.length) (.slice (some ⟨w.heap.size,0,none⟩) es.length cap) es.length true (some w.heap.size) (g.more w.heap.size (es.length*sz)) (w1.alloc (.cells vs E (0,0))) none
      ⟨LO.2.1,LO.2.2.1,LO.2.2.2,by rw[World.size_alloc,LO.1];omega⟩ (fun k KX _=>by rw[heap_alloc_old _ _ (by rw[LO.1];exact KX),LO.1]) (fun b e=>by cases e) (fun _ _ h=>.inl h)
      (fun b o hb=>by
       rcases hb with hb | ⟨rfl,_⟩
       ·exact .inl hb
       ·exact .inr ⟨by rw[World.size_alloc,LO.1];omega,.inl (Ao _)⟩) (fun b o e=>by cases e)
      (fun b _ e=>by cases e;rw[World.size_alloc,LO.1];exact⟨by omega,.inr (Ao _)⟩) B0 (fun hu=>absurd hd hu) (fun hg IN=>by
       obtain⟨u1,u2,u3,u4⟩:=BG g d1 (.slice (some ⟨w.heap.size,0,none⟩) es.length cap) es.length true (some w.heap.size) (g.more w.heap.size (es.length*sz));exact⟨u3,u2,_,cap,u1,.inr ⟨hc,w.heap.size,E,vs,0,rfl,u4,Fp,by rw[hs,Bi],fun o ho=>by
        rcases ho with ho | ⟨_,ho⟩
        ·have:=hI.slt _ _ ho;omega
        ·omega⟩⟩)
     obtain⟨k1,k2⟩:=tO;refine⟨_,_,_,hk,k1,k2,.tok _ d1 sz es _ (BP.slice_row Fp hl hc (hr.mono k2.keeps (fun _ h=>h) (fun _ h=>h.elim)) (fun o ho=>.inr ⟨rfl,ho⟩)) hl (by unfold AT;rw[Bg];simp) ?_ ?_ ?_⟩<;>simp[Gh.upd]
  ·exact hk.elim
end
theorem NQ{α:Type}:∀(cs:List α) (o:Nat) (vs:List α),o+vs.length≤cs.length→over cs o vs=cs.take o++vs++cs.drop (o+vs.length)
 | [],o,vs,h=>by
  simp at h;obtain⟨rfl,rfl⟩:=h
  rfl
 |c::cs,o+1,vs,h=>by
  rw[over,NQ cs o vs (by simp at h;omega)];simp only[JN,Eg,Bx,Nat.add_right_comm o 1,List.drop_succ_cons]
 |c::cs,0,[],h=>by simp[over]
 |c::cs,0,v::vs,h=>by
  rw[over,NQ cs 0 vs (by simp at h;omega)];simp
theorem Xc(cs:List α)(o n:Nat)(vs:List α)(h:o+vs.length≤n)(hn:n≤cs.length):(over cs o vs).take n=over (cs.take n) o vs:=by
 apply Dq;intro i;rw[Gb _ _ _ _ (by simp;omega)]
 by_cases hi:i<n
 ·rw[BQ hi,Gb _ _ _ _ ch,BQ hi]
 ·rw[Ae ch,A6 (by rw[AB,Gc];omega),A6 (by simp;omega)]
theorem MY{n:Nat}:∀{es:List (List α)},(∀c∈es,c.length=n)→∀{i:Nat} {c:List α},es[i]?=some c→∀(o:Nat) (vs:List α),o+vs.length≤n →
  (es.set i (over c o vs)).flatten=over es.flatten (i*n+o) vs
 | [],_,i,c,h,_,_,_=>by simp at h
 |d::es,hl,i,c,h,o,vs,HD=>by
  have hd:=hl d (Aa ..);have hfl:=Dt (es:=d::es) (n:=n) hl;have DJ:=(Aw.1 h).1;have vW:i*n+o+vs.length≤(d::es).flatten.length:=by
   rw[hfl]
   have:=Bk n (show i+1≤(d::es).length from DJ)
   rw[Ei]at this;omega
  have hcl:=hl c (Ay h);apply Dq;intro j;rw[Gb _ _ _ _ vW];have OO:∀e∈(d::es).set i (over c o vs),e.length=n:=fun e he=>by
   rcases Fq he with he | rfl
   ·exact hl e he
   ·rw[Gc];exact hcl
  by_cases hn:n=0
  ·subst hn;have h1:=Dt OO;have h2:=hfl;simp only[Nat.mul_zero,List.length_eq_zero_iff]at h1 h2;rw[h1,h2]
   have:¬(i*0+o≤j∧j<i*0+o+vs.length):=by omega
   rw[Ae this]
  ·have tR:j=j / n*n+j % n:=by rw[Nat.mul_comm];exact(Wh j n).symm
   have ZO:j % n<n:=Nat.mod_lt _ ch
   by_cases hj:j / n<(d::es).length
   ·have g1:(d::es)[j / n]?=some ((d::es)[j / n]):=AE hj;have g2:((d::es).set i (over c o vs))[j / n]?=some (if i=j / n then over c o vs else(d::es)[j / n]):=by
     rw[List.getElem?_set]
     by_cases e:i=j / n
     ·rw[Al e,Al ch,Al e]
     ·rw[Ae e,Ae e];exact g1
    have f1:=FK hl g1 ZO;have f2:=FK OO g2 ZO;rw[←tR]at f1 f2;rw[f1,f2];split
    ·rename_i e;rw[e]at h;rw[g1]at h;cases h;rw[Gb _ _ _ _ ch];have e2:i*n+o≤j↔o≤j % n:=by rw[e];omega
     have e3:j<i*n+o+vs.length↔j % n<o+vs.length:=by rw[e];omega
     simp only[e2,e3];split
     ·congr 1;rw[e];omega
     ·rfl
    ·rename_i e
     have:¬(i*n+o≤j∧j<i*n+o+vs.length):=by
      rintro⟨q1,q2⟩
      apply e;have a1:i*n≤j:=by omega
      have a2:j<(i+1)*n:=by rw[Ei];omega
      have:=(Nat.le_div_iff_mul_le ch).2 a1
      have:=(Ml ch).2 a2
      omega
     rw[Ae this]
   ·have tT:(d::es).length*n≤j:=by
     have:=Nat.not_lt.1 hj
     have:=(Nat.le_div_iff_mul_le ch).1 this
     exact this
    have:¬(i*n+o≤j∧j<i*n+o+vs.length):=by rw[hfl]at vW;omega
    rw[Ae this,A6 (by rw[Dt OO,CJ];exact tT),A6 (by rw[hfl];exact tT)]
theorem QF{P:Program}(hT:CL P T)(w:World){t:Nat}{x:Value}(hd:(T t).d≠.other)(hs:x.cells.toList.length=(T t).size)(h1:∀v∈x.cells.toList,v.oneCell'=true)(hb:w.heap[b]?=some (.cells F6 E (0,0)))(HD:off+x.cells.toList.length≤F6.size) :
  (Instr.storeAt t (.pointer (some ⟨b,off,none⟩)) x).run P w=.ok () (w.setRow b (over F6.toList off x.cells.toList).toArray):=by
 have JU:=run_storeCells_at P b off E x.cells.toList 0 F6 w hb (by simpa using HD) h1;simp only[GV]at JU;have VH : x.cells.size=(T t).size:=by simpa using hs
 rw[NQ _ _ _ (by simpa using HD)];simp only[Instr.storeAt,Sem.run_bind,Instr.sureAddr,Sem.run_pure,Result.andThen_ok,storeVar,hT.size w hd,VH,W9,not_true_eq_false,GZ];exact JU
section
variable {P:Program}{w0:World}{g0:Gh}{h0 h:Nat→HO}{g:Gh}{w:World}(hI:DV w0 g0 h0 h g w)
include hI
theorem fB(hT:CL P T){d:Option Nat}{e:Nat}(hk:TT T d h e K):Po P w0 g0 h0 h g w (Instr.alloc e true (.tuple #[])) K:=by
 unfold TT at hk;split at hk
 ·exact hk.elim
 ·split at hk
  ·rename_i hd;split at hk
   ·exact hk.elim
   ·rename_i DM;split at hk
    ·rename_i ha;obtain⟨z,z1,z2,_⟩:=QT hT (w:=w) DM;have hr:CU g w (AT h) ((T e).zc.map .v) z.cells.toList:=by rw[z2]at ha⊢;exact CU.vals ha
     obtain⟨g',k1,k2,k3⟩:=SJ hI hd (vs:=z.cells) e hr;refine⟨_,_,g',_,_,?_,hk,k1,k2,k3⟩;simp[Instr.alloc,z1,newVar,newRow]
    ·exact hk.elim
  ·exact hk.elim
theorem QM{vs:List Value}(hr:CU g w (AT h) cs vs):CU g w FQ (cs.map (str h)) vs:=by
 refine⟨by rw[A8];exact hr.1,hr.2.1,fun i av x h1 h2=>?_⟩;rw[AL,AW]at h1;obtain⟨a,a1,rfl⟩:=h1;exact(hr.2.2 i a x a1 h2).str hI.objs
theorem nG{d:Option Nat}{e:Nat}{x:AV}(hx:BP g w (AT h) x vx)(hk:fK cx d h e x K):Po P w0 g0 h0 h g w (Instr.box e vx) K:=by
 unfold fK at hk;split at hk
 ·exact hk.elim
 ·split at hk
  ·rename_i hd;split at hk
   ·exact hk.elim
   ·obtain⟨cs,hk,hn,hr⟩:=NC hx hk;split at hk
    ·obtain⟨g',k1,k2,k3⟩:=lE hI hd (vs:=vx.cells) e (QM hI hr);exact⟨_,_,g',_,_,rfl,hk,k1,k2,k3⟩
    ·obtain⟨g',k1,k2,k3⟩:=SJ hI hd (vs:=vx.cells) e hr;exact⟨_,_,g',_,_,rfl,hk,k1,k2,k3⟩
  ·exact hk.elim
theorem DV.write{r b:Nat}(hl:(h r).live)(ho:g.own r=some b)(o' : HO)(hb:w.heap[b]?=some (.cells F6 E (0,0)))(new:Array Value)(n:Nat)(ow:Option Nat)(S' : Nat→Nat→Prop)(DM:o'≠.free)(hn:n=g.ln r)(we:∀b',ow=some b'→b'=b)(hS:∀b o,g.S b o→S' b o)(xW:∀b' o,S' b' o→g.S b' o∨b'=b)(vS:∀o,g.S b o→new[o]?=F6[o]?)(Kg:KT g (g.upd r (g.ρ r) n (g.tk r) ow S') (AT h)→E3 g w (g.upd r (g.ρ r) n (g.tk r) ow S') (w.setRow b new)→(w.setRow b new).heap[b]?=some (.cells new E (0,0)) →
   Ez (g.upd r (g.ρ r) n (g.tk r) ow S') (w.setRow b new) (AT (A0 h r o')) r o') :
  DV w0 g0 h0 (A0 h r o') (g.upd r (g.ρ r) n (g.tk r) ow S') (w.setRow b new)∧Le h g w (A0 h r o') (g.upd r (g.ρ r) n (g.tk r) ow S') (w.setRow b new):=by
 have Fp:=setRow_heap w b F6 new E (0,0) hb;have DJ:=(hI.loc r b hl ho).1
 refine hI.upd r o' _ _ _ _ _ _ (some b) ⟨rfl,rfl,rfl,by rw[size_setRow];exact Ao _⟩ (fun k hk DM=>setRow_other w b k new (fun e=>DM (by rw[e]))) (fun b' e=>by cases e;exact⟨hl,ho⟩) hS (fun b' o hs=>?_)
  (fun b' o e hs=>?_) (fun b' _ e=>?_) DM (fun _=>⟨rfl,by omega,fun _=>rfl,fun _=>rfl⟩) (fun hg hk=>Kg hg hk Fp)
 ·rcases xW b' o hs with h1 | rfl
  ·exact .inl h1
  ·exact .inr ⟨by rw[size_setRow];exact DJ,.inr ⟨hl,ho⟩⟩
 ·cases e
  refine⟨?_,fun es ck he=>by rw[hb]at he;cases he⟩;rw[F8 Fp,F8 hb];exact vS o hs
 ·obtain rfl:=we b' e;exact⟨by rw[size_setRow];exact DJ,.inl ⟨hl,ho⟩⟩
theorem iO(hT:CL P cx.T){t:Nat}{p x:AV}{vp:Value}(hp:BP g w (AT h) p vp)(hx:BP g w (AT h) x vx)(hk:Pi cx h t p x K) :
  jj P w0 g0 h0 h g w (Instr.storeAt t vp vx) K:=by
 unfold Pi at hk;split at hk
 ·exact hk.elim
 ·rename_i hd;have h5:=NC hx hk
  clear hk
  obtain⟨vs,hk,hn,hr⟩:=h5;have CB:vx.cells.toList.length=vs.length:=hr.1;split at hk
  ·rename_i r off;have ho:=hI.objs r;split at hk
   ·rename_i cs e;obtain⟨HD,hk⟩:=hk;rw[e]at ho;obtain⟨t0,b,E,F6,a1,a2,a3,a4,a5⟩:=ho;cases hp with
    |ref _ _ _ b' hu ht Td =>
     rw[a2]at Td;cases Td;have hcs:F6.toList.length=cs.length:=a4.1;have Da:=QF hT w (t:=t) (off:=off) (x:=vx) hd (by rw[CB,hn]) hr.2.1 a3 (by rw[CB];simp at hcs;omega);have hl:(h r).live:=by rw[e];trivial
     have sc:=a4.over hr off HD;split at hk
     ·obtain⟨k1,k2⟩:=hI.write hl a1 (.ro ((over cs off vs).map (str h))) a3 (over F6.toList off vx.cells.toList).toArray (g.ln r) none (g.more b cs.length) B0 rfl (fun _ e=>by cases e) (fun _ _ h=>.inl h)
       (fun b' o hs=>hs.elim .inl (fun hs=>.inr hs.1)) (fun o hs=>absurd hs (a5 o)) (fun hg IN Fp=>by
        obtain⟨u1,u2,u3,u4⟩:=BG g r (g.ρ r) (g.ln r) (g.tk r) none (g.more b cs.length);refine⟨u3.trans t0,b,u1.trans a2,BP.cptr_row Fp ?_ (fun o ho=>.inr ⟨rfl,?_⟩)⟩
        ·exact(QM hI sc).mono IN (fun _ h=>h) (fun _ h=>h.elim)
        ·rw[A8,Gc]at ho;exact ho)
      exact⟨_,_,_,Da,hk,k1,k2⟩
     ·obtain⟨k1,k2⟩:=hI.write hl a1 (.cells (over cs off vs)) a3 (over F6.toList off vx.cells.toList).toArray (g.ln r) (g.own r) g.S B0 rfl (fun b' e=>by rw[a1]at e;cases e;rfl) (fun _ _ h=>h)
       (fun b' o hs=>.inl hs) (fun o hs=>absurd hs (a5 o)) (fun hg IN Fp=>by
        obtain⟨u1,u2,u3,u4⟩:=BG g r (g.ρ r) (g.ln r) (g.tk r) (g.own r) g.S;exact⟨u3.trans t0,b,E,_,u4.trans a1,u1.trans a2,Fp,sc.mono IN (fun i hi=>D5 B0 i hi) hg,a5⟩)
      exact⟨_,_,_,Da,hk,k1,k2⟩
   ·exact hk.elim
  ·rename_i r n sz i off;have ho:=hI.objs r;split at hk
   ·rename_i G2 es e;rw[e]at ho;split at hk
    ·rename_i hz;obtain rfl:=AM hz;obtain⟨hnl,cs,hi,HD,hk⟩:=hk;obtain⟨t1,l1,al,a1⟩:=ho;have DJ:=(Aw.1 hi).1;rcases a1 with ⟨rfl,_⟩ | ⟨b,cap,E,F6,e1,e2,e3,e4,e5,e6,e7⟩
     ·simp at hi
     ·cases hp with
      |eref _ _ _ _ _ _ b' LR hu ht ZP Td =>
       have Td:=Td (hnl.trans l1.symm);rw[e1]at Td;simp only[Value.slice.injEq,Bq,Addr.mk.injEq]at Td;obtain⟨⟨rfl,_,_⟩,_,_⟩:=Td;have hcl:=al cs (Ay hi);have Ru:i*sz+sz≤es.length*sz:=by
        have:=Bk sz (show i+1≤es.length from DJ)
        rwa [Ei]at this
       have kM:es.length*sz≤cap*sz:=Bk sz e3;have Da:=QF hT w (t:=t) (off:=i*sz+off) (x:=vx) hd (by rw[CB,hn]) hr.2.1 e4 (by rw[CB];omega);have hl:(h r).live:=by rw[e];trivial
       have vo : ∀c∈es.set i (over cs off (vs.map (str h))),c.length=sz:=fun c hc=>by
        rcases Fq hc with hc | rfl
        ·exact al c hc
        ·rw[Gc];exact hcl
       have hfl:=MY al hi off (vs.map (str h)) (by rw[A8];exact HD);have ZE:F6.toList.length=cap*sz:=by rw[B9];exact e5
       have m9:((over F6.toList (i*sz+off) vx.cells.toList).toArray.toList.take ((es.set i (over cs off (vs.map (str h)))).length*sz))=over (F6.toList.take (es.length*sz)) (i*sz+off) vx.cells.toList:=by
        rw[CJ];exact Xc _ _ _ _ (by rw[CB];omega) (by rw[ZE];exact kM)
       have sc:CU g w FQ (es.set i (over cs off (vs.map (str h)))).flatten ((over F6.toList (i*sz+off) vx.cells.toList).toArray.toList.take ((es.set i (over cs off (vs.map (str h)))).length*sz)):=by
        rw[m9,hfl];exact e6.over (QM hI hr) _ (by rw[A8,Dt al];omega)
       split at hk
       ·rename_i j m;have jf:∃x0,vx.cells.toList=[x0]:=by
         revert CB
         cases vx.cells.toList with
         |nil=>intro CB;cases CB
         |cons x0 l=>cases l with
          |nil=>intro _;exact⟨x0,rfl⟩
          |cons _ _=>intro CB;simp at CB
        obtain⟨x0,jf⟩:=jf;have EG:=hr.2.2 0 (.msl j m) x0 rfl (by rw[jf];rfl)
        obtain⟨k1,k2⟩:=hI.write hl e2 (.hol sz (es.set i (over cs off [.junk])) i off (.msl j m)) e4 (over F6.toList (i*sz+off) vx.cells.toList).toArray (g.ln r) (g.own r) g.S B0 rfl (fun b' e=>by rw[e2]at e;cases e;rfl) (fun _ _ h=>h)
         (fun b' o hs=>.inl hs) (fun o hs=>absurd hs (e7 o)) (fun hg IN Fp=>by
          obtain⟨u1,u2,u3,u4⟩:=BG g r (g.ρ r) (g.ln r) (g.tk r) (g.own r) g.S;have r9:i*sz+off<es.length*sz:=by simp only[Av,Ax]at HD;omega
          refine⟨u3.trans t1,u2.trans (by rw[CJ];exact l1),vo,b,cap,E,_,?_,u4.trans e2,by rw[CJ];exact e3,Fp,?_,sc.mono IN (fun _ h=>h) (fun _ h=>h.elim),e7,by rw[CJ];exact r9,x0,?_,EG.mono IN (fun i hi=>D5 B0 i hi) hg⟩
          ·rw[u1,e1,CJ]
          ·simp only[FW,Gc,B9];exact e5
          ·rw[←AQ,jf,Gb _ _ _ _ (by rw[ZE];simp only[Av,Ax];omega),Al ⟨Ao _,by simp only[Av,Ax];omega⟩,EF];rfl)
        exact⟨_,_,_,Da,hk,k1,k2⟩
       ·obtain⟨k1,k2⟩:=hI.write hl e2 (.arr sz (es.set i (over cs off (vs.map (str h))))) e4 (over F6.toList (i*sz+off) vx.cells.toList).toArray (g.ln r) (g.own r) g.S B0 rfl (fun b' e=>by rw[e2]at e;cases e;rfl) (fun _ _ h=>h)
         (fun b' o hs=>.inl hs) (fun o hs=>absurd hs (e7 o)) (fun hg IN Fp=>by
          obtain⟨u1,u2,u3,u4⟩:=BG g r (g.ρ r) (g.ln r) (g.tk r) (g.own r) g.S;refine⟨u3.trans t1,u2.trans (by rw[CJ];exact l1),vo,.inr ⟨b,cap,E,_,?_,u4.trans e2,by rw[CJ];exact e3,Fp,?_,sc.mono IN (fun _ h=>h) (fun _ h=>h.elim),e7⟩⟩
          ·rw[u1,e1,CJ]
          ·simp only[FW,Gc,B9];exact e5)
        exact⟨_,_,_,Da,hk,k1,k2⟩
    ·exact hk.elim
   ·exact hk.elim
  ·exact hk.elim
end
theorem iq(c vs:List α)(h:vs.length=c.length):over c 0 vs=vs:=by
 rw[NQ _ _ _ ch];simp[h]
theorem ID[Inhabited α](z:List α)(hz:z≠[]):(List.replicate n z).flatten=(List.range (n*z.length)).map fun k=>z[k % z.length]!:=by
 have hl:∀c∈List.replicate n z,c.length=z.length:=fun c hc=>by rw[Ci hc]
 have cp:0<z.length:=Ho.2 hz;apply Dq;intro k
 by_cases hk:k<n*z.length
 ·have tR:k=k / z.length*z.length+k % z.length:=by rw[Nat.mul_comm];exact(Wh k _).symm
  have ZO:k % z.length<z.length:=Nat.mod_lt _ cp;have hi:k / z.length<n:=(Ml cp).2 hk;have f1:=FK hl (i:=k / z.length) (c:=z) (by rw[List.getElem?_replicate,Al hi]) ZO;rw[←tR]at f1;rw[f1];simp[hk,ZO]
 ·rw[A6 (by rw[Dt hl,D0];omega),A6 (by simp;omega)]
section
variable {P:Program}{w0:World}{g0:Gh}{h0 h:Nat→HO}{g:Gh}{w:World}(hI:DV w0 g0 h0 h g w)
include hI
theorem Zo{n sz:Nat}{t:Nat→AV}{ρ:Operand→Value}(ht:∀x:Operand,BP g w (AT h) (ev t x) (ρ x)) :
  ∀{ps:List (Nat×Operand)} {es:List (List AV)} {xs:Array Value} {K:List (List AV)→Prop},es.length=n→(∀c∈es,c.length=sz)→CU g w FQ es.flatten xs.toList→Ss n sz h es t ps K →
   ∃F7 XE,K F7∧F7.length=n∧(∀c∈F7,c.length=sz)∧CU g w FQ F7.flatten XE.toList∧Instr.fill (fun i=>some (i*sz,sz)) xs (ps.map fun(i,x)=>(i,ρ x))=some XE
 | [],es,xs,K,hn,hl,h,hk=>⟨es,xs,hk,hn,hl,h,rfl⟩
 |(i,x)::ps,es,xs,K,hn,hl,h,hk=>by
  unfold Ss at hk;split at hk
  ·rename_i hi;have hi:i<n:=GA hi;have h5:=NC (ht x) hk
   clear hk
   obtain⟨VP,hk,sa,hr⟩:=h5;have Ev:(ρ x).cells.size=sz:=by rw[←sa];simpa using hr.1
   have WR:=QM hI hr;obtain⟨c,hc⟩:∃c,es[i]?=some c:=⟨_,AE ch⟩;have hcl:=hl c (Ay hc);have HD:i*sz+sz≤es.flatten.length:=by
    rw[Dt hl,hn]
    have:=Bk sz (show i+1≤n from hi)
    rwa [Ei]at this
   have hfl:=MY hl hc 0 (VP.map (str ‹Nat→HO›)) (by rw[A8,sa];omega);rw[iq _ _ (by rw[A8,sa,hcl]),GV]at hfl;have Fp:=h.over WR (i*sz) (by rw[A8,sa];exact HD);have na:xs.size=es.flatten.length:=by have:=h.1;rwa [B9]at this
   have e:=OK (ρ x).cells.toList 0 (i*sz) xs (by rw[B9];omega);simp only[GV]at e;rw[←e,←hfl]at Fp;obtain⟨F7,XE,k1,k2,k3,k4,k5⟩:=Zo ht (es:=es.set i (VP.map (str _))) (by rw[CJ];exact hn) (fun c' tN=>by
    rcases Fq tN with tN | rfl
    ·exact hl c' tN
    ·rw[A8];exact sa) Fp hk
   refine⟨F7,XE,k1,k2,k3,k4,?_⟩;simp only[AJ,Instr.fill];have e2:(ρ x).cells.zipIdx.foldl (fun cs (c,j)=>cs.setIfInBounds (i*sz+j) c) xs=((ρ x).cells.toList.zipIdx 0).foldl (fun(cs:Array Value) (p:Value×Nat)=>cs.setIfInBounds (i*sz+p.2) p.1) xs:=by
    rw[←Array.foldl_toList];simp
   rw[Ae (by simp[Ev];omega),e2];exact k5
  ·exact hk.elim
theorem T0(hT:CL P cx.T){d:Option Nat}{ty n:Nat}{t:Nat→AV}{ρ:Operand→Value}(ht:∀x:Operand,BP g w (AT h) (ev t x) (ρ x)){ps:Array (Nat×Operand)}(hk:Jg cx d h ty n t ps.toList K):Po P w0 g0 h0 h g w (Instr.buildSlice ty n (ps.map fun(i,x)=>(i,ρ x))) K:=by
 unfold Jg at hk;split at hk
 ·rename_i e hs;split at hk
  ·rename_i Tc NZ;have NZ:=AM NZ;split at hk
   ·exact hk.elim
   ·rename_i m hm;split at hk
    ·rename_i HD;have HD:=GA HD;have sv:(cx.T e).zc≠[]:=fun e0=>by rw[e0]at NZ;rw[hm]at NZ;cases NZ
     have ya:∀c∈List.replicate n ((cx.T e).zc.map AV.v),c.length=(cx.T e).size:=fun c hc=>by rw[Ci hc,A8];exact NZ
     have vO:CU g w FQ (List.replicate n ((cx.T e).zc.map AV.v)).flatten ((Array.range (n*(cx.T e).size)).map fun k=>(cx.T e).zc.toArray[k % (cx.T e).zc.toArray.size]!).toList:=by
      have e1:((Array.range (n*(cx.T e).size)).map fun k=>(cx.T e).zc.toArray[k % (cx.T e).zc.toArray.size]!).toList=(List.replicate n (cx.T e).zc).flatten:=by
       rw[ID n _ sv];simp[NZ]
      have e2:(List.replicate n ((cx.T e).zc.map AV.v)).flatten=(List.replicate n (cx.T e).zc).flatten.map AV.v:=by
       rw[TO,List.map_replicate]
      rw[e1,e2];refine CU.vals ?_;have Gr:∀l:List AV,(∀a∈l,one a=true)→Hz l=true:=by
       intro l
       induction l with
       |nil=>intro _;rfl
       |cons a l ih=>intro h;simp[Hz,h a (List.mem_cons_self ..),ih (fun b hb=>h b (List.mem_cons_of_mem _ hb))]
      refine Gr _ (fun a ha=>?_);obtain⟨x,hx,rfl⟩:=Am.1 ha;obtain⟨l,hl,hx⟩:=Eh.1 hx;rw[Ci hl]at hx;exact Nu Tc _ (Am.2 ⟨x,hx,rfl⟩)
     obtain⟨F7,XE,k1,k2,k3,k4,k5⟩:=Zo hI ht (by rw[D0]) ya vO hk;have na:XE.size=n*(cx.T e).size:=by
      have:=k4.1
      rw[B9,Dt k3,k2]at this;exact this
     obtain⟨g',av,h',q1,q2,q3,q4⟩:=KN hI k1 (vs:=XE) (cap:=n) e k3 ch na (by
      rw[k2,Au (by rw[B9,na];exact Ao _)];exact k4) w ⟨rfl,rfl,rfl,rfl⟩
     rw[k2]at q4;refine⟨_,_,g',av,h',?_,q1,q2,q3,q4⟩;obtain⟨z,z1,z2⟩:=XG hT (w:=w) hm;have Ev:=hT.size1 w hm;have e3:(Array.map (fun x:Nat×Operand=>match x with | (i,x)=>(i,ρ x)) ps).toList=ps.toList.map fun(i,x)=>(i,ρ x):=by simp
     have AaF:¬(n*(m+1)>2 ^ 24):=by rw[hm]at HD;have HD:n*(m+1)≤16777216:=HD;omega
     simp only[Instr.buildSlice,Sem.run_bind,run_underlying (hT.slice hs),Result.andThen_ok,Ev,Ae AaF];rw[e3];rw[hm]at k5
     by_cases h0:n*(m+1)=0
     ·have yc:n=0:=by
       rcases Nat.mul_eq_zero.1 h0 with h | h
       ·exact h
       ·cases h
      subst yc;have er:Array.range 0=#[]:=rfl;simp only[Jx,er,List.map_toArray,FA]at k5;simp only[Jx,SA,er,List.map_toArray,FA,k5];simp[newRow]
     ·rw[z2]at k5;simp only[Array.toArray_toList]at k5;simp only[Ae h0,Sem.run_bind,z1,Result.andThen_ok,Sem.run_pure,k5];simp[newRow]
    ·exact hk.elim
  ·exact hk.elim
 ·exact hk.elim
end
theorem Gn{sz:Nat}:∀{es:List (List AV)},Cf sz es→∀c∈es,c.length=sz
 | [],_,c,h=>by cases h
 |d::es,h,c,hc=>by
  rcases AF.1 hc with rfl | hc
  ·exact h.1
  ·exact Gn h.2 c hc
def Pv(x:Value)(n sz:Nat)(news:List Value):Prop :=
 news.length=n*sz∧(∀v∈news,v.oneCell'=true)∧∃(a:Option Addr) (c:Nat),x=.slice a n c∧(n=0∨∃b:Addr,a=some b∧∀j u,news[j]?=some u→w.cell? (b.add j)=some u)
theorem Pv.of_rep{w:World}{x:Value}(h:BP g w U (.slice .none es) x)(hl:∀c∈es,c.length=sz) :
  ∃news,Pv w x es.length sz news∧CU g w FQ es.flatten news:=by
 cases h with
 |snil _ a cap=>exact⟨[],⟨by simp,by simp,a,cap,rfl,.inl rfl⟩,by simp,by simp,fun i av x h1 h2=>by simp at h2⟩
 |slice _ _ b off G2 cap val hc Rs DP EG =>
  have hf:=Dt hl;have key:∀j,j<es.length*sz→∃cs,es[j / sz]?=some cs∧es.flatten[j]?=cs[j % sz]?∧j % sz<cs.length∧G2=sz∧j=j / sz*sz+j % sz:=by
   intro j hj;have cp:0<sz:=Nat.pos_of_ne_zero (fun e=>by rw[e]at hj;omega);have tR:j=j / sz*sz+j % sz:=by rw[Nat.mul_comm];exact(Wh j sz).symm
   have hi:j / sz<es.length:=(Ml cp).2 hj;have ZO:j % sz<sz:=Nat.mod_lt _ cp;have h1:es[j / sz]?=some es[j / sz]:=AE hi;have h2:=FK hl h1 ZO;rw[←tR]at h2;have h3:=hl _ (Aj hi);exact⟨_,h1,h2,by rw[h3];exact ZO,by rw[←h3];exact(Rs _ _ h1).symm,tR⟩
  have Yf:∀j,j<es.length*sz→∃av,es.flatten[j]?=some av∧w.cell? ⟨b,off+j,none⟩=some (val (j / sz) (j % sz))∧(val (j / sz) (j % sz)).oneCell'=true∧BP g w FQ av (val (j / sz) (j % sz)):=by
   intro j hj;obtain⟨cs,k1,k2,k3,rfl,k5⟩:=key j hj;have kD:cs[j % G2]?=some cs[j % G2]:=AE k3;obtain⟨_,c2,c3⟩:=DP _ _ _ _ k1 kD;rw[G3,←k5]at c2;exact⟨_,k2.trans kD,c2,c3,EG _ _ _ _ k1 kD⟩
  refine⟨(List.range (es.length*sz)).map fun j=>val (j / sz) (j % sz),⟨by simp,fun v hv=>?_,some ⟨b,off,none⟩,cap,rfl,.inr ⟨_,rfl,fun j u hu=>?_⟩⟩,by rw[hf];simp,fun v hv=>?_,fun i av x h1 h2=>?_⟩
  ·obtain⟨j,hj,rfl⟩:=Am.1 hv;obtain⟨_,_,_,c,_⟩:=Yf j (Pq.1 hj);exact c
  ·obtain⟨hj,rfl⟩:=Ht hu;rw[Addr.add_lit];exact(Yf j hj).choose_spec.2.1
  ·obtain⟨j,hj,rfl⟩:=Am.1 hv;obtain⟨_,_,_,c,_⟩:=Yf j (Pq.1 hj);exact c
  ·obtain⟨hj,rfl⟩:=Ht h2;obtain⟨un,c1,_,_,c4⟩:=Yf i hj;rw[h1]at c1;cases c1;exact c4
section
variable {P:Program}{T:G4}(hT:CL P T)
include hT
theorem Ie{n:Nat}(hs:(T e).size=n+1):∃i z,P.info? e=some i∧i.zero=some z∧i.size=(T e).size∧i.bytes=(T e).bytes∧(T e).zc=z.cells.toList:=by
 rcases hT e with h | h
 ·rw[h]at hs;cases hs
 unfold iP at h;split at h
 ·split at h
  ·rename_i d i h1 h2 _ z h3;exact⟨i,z,h2,h3,by rw[h],by rw[h],by rw[TI.zc_cells,h]⟩
  ·rw[h]at hs;cases hs
 ·rw[h]at hs;cases hs
theorem JD(w:World){t ty k:Nat}(ht:(T t).d=.slice e)(hk:(T e).size=k+1)(a a' : Option Addr)(n cap c:Nat)(hc:n≤cap) :
  (Builtin.append_ #[t,t] ty #[.slice a n cap,.slice a' 0 c]).run P w=.ok (.slice a n cap) w:=by
 have hu:=hT.slice ht;cases a<;>cases a'<;>simp[Builtin.append_,run_underlying hu,hT.size1 w hk,Builtin.lenOf,hc,Builtin.firstCells,loadCells,loadCellsFrom,storeCells]
theorem IE(w:World){t ty k:Nat}(ht:(T t).d=.slice e)(hk:(T e).size=k+1)(hz:(T e).zc.length=(T e).size){s x:Value}{n m c:Nat}{olds news:List Value}{a a' : Option Addr}(hso:Pv w s n (T e).size olds)(hs:s=.slice a n cap)(Qg:a=none→cap=0)(hsx:Pv w x m (T e).size news)(hx:x=.slice a' m c)(hm:0<m)(hg:cap<n+m)(hb:(n+m)*(T e).bytes≤140737488355328)(h63:n+m≤9223372036854775807) :
  ∃nc rest,(Builtin.append_ #[t,t] ty #[s,x]).run P w=.ok (.slice (some ⟨w.heap.size,0,none⟩) (n+m) nc) (w.drew.alloc (.cells (olds++news++rest).toArray e (0,0)))∧n+m≤nc ∧
   (olds++news++rest).length=nc*(T e).size:=by
 obtain⟨i,z,i1,i2,i3,i4,i5⟩:=Ie hT hk;have hu:=hT.slice ht;obtain⟨n1,n2,a1,c1,n3,n4⟩:=hsx;subst hx;cases n3;rcases n4 with h | ⟨b,rfl,JJ⟩
 ·omega
 ·have NZ:z.cells.size=(T e).size:=by rw[←hz,i5];simp
  have ZL:∀(nc:Nat) (pre:List Value),pre.length=(n+m)*(T e).size→n+m≤nc→(pre++(Builtin.zeroCells z.cells (nc-(n+m))).toList).length=nc*(T e).size:=by
   intro nc pre hp HD;have e1:(Builtin.zeroCells z.cells (nc-(n+m))).toList.length=(nc-(n+m))*(T e).size:=by simp only[B9,size_zeroCells,NZ]
   rw[Ad,e1,hp,←Fj]
   congr 1;omega
  obtain⟨o1,o2,a2,c2,o3,o4⟩:=hso;subst hs;cases o3;cases a with
  |none =>
   obtain rfl:=Qg rfl;have yc:n=0:=by
    rcases o4 with h | ⟨b',h,_⟩
    ·exact h
    ·cases h
   subst yc;have ho:olds=[]:=AK (by simpa using o1);subst ho;have hr:=run_append_nil (P:=P) w t ty e i z hu i1 i2 b m c news (by rw[i3];exact n1) JJ hm ch (by rw[i4];rw[Bi]at hb;omega);refine⟨grownCap w m 0 e,(Builtin.zeroCells z.cells (grownCap w m 0 e-m)).toList,?_,by rw[Bi];exact grownCap_ge w m 0 e,?_⟩
   ·rw[hr,Bi]
    congr 3
    apply Pm;simp
   ·have:=ZL (grownCap w m 0 e) news (by rw[Bi];exact n1) (by rw[Bi];exact grownCap_ge w m 0 e)
    rw[Bi]at this;simpa using this
  |some b' =>
   have Hi:∀j u,olds[j]?=some u→w.cell? (b'.add j)=some u:=by
    rcases o4 with h | ⟨b2,h,h'⟩
    ·intro j u hj;rw[h,Jx]at o1
     have:olds=[]:=AK o1
     rw[this]at hj;simp at hj
    ·cases h;exact h'
   have hr:=run_append_grow (P:=P) w t ty e i z hu i1 i2 b' n cap olds (by rw[i3];exact o1) Hi b m c news (by rw[i3];exact n1) JJ hg ch (by rw[i4];exact growslice_fits hg hb);refine⟨grownCap w (n+m) cap e,(Builtin.zeroCells z.cells (grownCap w (n+m) cap e-(n+m))).toList,?_,grownCap_ge w (n+m) cap e,ZL _ _ (by rw[Ad,o1,n1,←Fj]) (grownCap_ge w (n+m) cap e)⟩;rw[hr]
   congr 3
   apply Pm;simp
end
end Go.Eng
