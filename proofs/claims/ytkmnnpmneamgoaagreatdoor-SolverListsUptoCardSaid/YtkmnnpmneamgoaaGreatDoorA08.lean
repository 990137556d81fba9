/- Lemmas for the claims of this seat, without a condition: part 8 (EngN, EngO, EngP, EngQ). -/
import Derived.Test.YtkmnnpmneamgoaaGreatDoorA07
namespace Go.Eng

def Ob(P:Program)(w0:World)(g0:Gh)(h0 h:Nat→HO)(g:Gh)(w:World)(m:Sem Value)(K:HK):Prop :=
 ∃x w' g' av h',m.run P w=.ok x w'∧K av h'∧Dx w0 g0 h0 h' g' w'∧Le h g w h' g' w'∧BI g' w' (AM h') av x
def d9(P:Program)(w0:World)(g0:Gh)(h0 h:Nat→HO)(g:Gh)(w:World)(m:Sem Unit)(K:HK):Prop :=
 ∃w' g' h',m.run P w=.ok () w'∧K (.v undef) h'∧Dx w0 g0 h0 h' g' w'∧Le h g w h' g' w'

section
variable {P:Program}{w0:World}{g0:Gh}{h0 h:Nat→HO}{g:Gh}{w:World}(hI:Dx w0 g0 h0 h g w)
include hI

theorem BZ.does{m:Sem Value}{K:HK}(hg:BZ P h g w m (fun v=>K v h)):Ob P w0 g0 h0 h g w m K :=
 let ⟨x,av,h1,h2,h3⟩:=hg
 ⟨x,w,g,av,h,h1,h2,hI,.refl _ _ _,h3⟩


theorem Dx.newOwn{d:Nat}(hd:h d=.free)(o' : HO)(ob:Obj)(x:Value)(n:Nat)(t:Bool)(w1:World)(K4:w1.heap=w.heap∧w1.os=w.os∧w1.tape=w.tape∧w1.output=w.output)(Dy:o'≠.free)
  (Js:J6 g (g.upd d x n t (some w.heap.size) g.S) (AM h)→E0 g w (g.upd d x n t (some w.heap.size) g.S) (w1.alloc ob) →
   Ec (g.upd d x n t (some w.heap.size) g.S) (w1.alloc ob) (AM (AW h d o')) d o') :
  Dx w0 g0 h0 (AW h d o') (g.upd d x n t (some w.heap.size) g.S) (w1.alloc ob)∧Le h g w (AW h d o') (g.upd d x n t (some w.heap.size) g.S) (w1.alloc ob):=by
 refine hI.upd d o' x n t _ _ _ none ⟨K4.2.1,K4.2.2.1,K4.2.2.2,by rw[World.size_alloc,K4.1];omega⟩ (fun k hk _=>?_) (fun b e=>by cases e) (fun _ _ h=>h) (fun _ _ h=>.inl h) (fun b o e=>by cases e)
  (fun b _ e=>?_) Dy (fun hu=>absurd hd hu) Js
 ·rw[heap_alloc_old _ _ (by rw[K4.1];exact hk),K4.1]
 ·cases e;rw[World.size_alloc,K4.1];exact⟨by omega,.inr (Ao _)⟩

def Gh.more(g:Gh)(b n:Nat):Nat→Nat→Prop:=fun b' o=>g.S b' o∨(b'=b∧o<n)
theorem Dx.newStable{d:Nat}(hd:h d=.free)(o' : HO)(vs:Array Value)(E:TypeId)(m:Nat)(x:Value)(n:Nat)(t:Bool)(w1:World)(K4:w1.heap=w.heap∧w1.os=w.os∧w1.tape=w.tape∧w1.output=w.output)(Dy:o'≠.free)
  (Js:J6 g (g.upd d x n t none (g.more w.heap.size m)) (AM h)→E0 g w (g.upd d x n t none (g.more w.heap.size m)) (w1.alloc (.cells vs E (0,0))) →
   Ec (g.upd d x n t none (g.more w.heap.size m)) (w1.alloc (.cells vs E (0,0))) (AM (AW h d o')) d o') :
  Dx w0 g0 h0 (AW h d o') (g.upd d x n t none (g.more w.heap.size m)) (w1.alloc (.cells vs E (0,0))) ∧
   Le h g w (AW h d o') (g.upd d x n t none (g.more w.heap.size m)) (w1.alloc (.cells vs E (0,0))):=by
 refine hI.upd d o' x n t _ _ _ none ⟨K4.2.1,K4.2.2.1,K4.2.2.2,by rw[World.size_alloc,K4.1];omega⟩ (fun k hk _=>?_) (fun b e=>by cases e) (fun _ _ h=>.inl h) (fun b o hb=>?_) (fun b o e=>by cases e)
  (fun b _ e=>by cases e) Dy (fun hu=>absurd hd hu) Js
 ·rw[heap_alloc_old _ _ (by rw[K4.1];exact hk),K4.1]
 ·rcases hb with hb | ⟨rfl,_⟩
  ·exact .inl hb
  ·exact .inr ⟨by rw[World.size_alloc,K4.1];omega,.inl (Ao _)⟩
end

theorem BM(g:Gh)(r:Nat)(x:Value)(n:Nat)(t:Bool)(o:Option Nat)(S:Nat→Nat→Prop) :
  (g.upd r x n t o S).ρ r=x∧(g.upd r x n t o S).ln r=n∧(g.upd r x n t o S).tk r=t∧(g.upd r x n t o S).own r=o:=by simp[Gh.upd]
theorem HF(w:World)(o:Obj){b:Nat}(hb:b=w.heap.size):(w.alloc o).heap[b]?=some o:=by subst hb;exact heap_alloc_new w o

theorem BI.cptr_row{g:Gh}{w:World}{U:Nat→Prop}{b:Nat}{cs:List AV}{vs:Array Value}{E:TypeId}{f:Nat×Nat}(hb:w.heap[b]?=some (.cells vs E f))(hr:CT g w Fj cs vs.toList)
  (hS:∀o,o<cs.length→g.S b o):BI g w U (.cptr cs) (.pointer (some ⟨b,0,none⟩)):=by
 refine .cptr U cs b 0 (fun j=>vs[j]?.getD default) (fun j av hj=>?_) (fun j av hj=>?_)
 ·obtain⟨x,x1,x2,x3⟩:=hr.at hj;rw[AO]at x1;refine⟨hS _ (by rw[Bc];exact(Aw.1 hj).1),?_,?_⟩
  ·rw[F8 hb,Bc,x1];rfl
  ·rw[x1];exact x2
 ·obtain⟨x,x1,x2,x3⟩:=hr.at hj;rw[AO]at x1;rw[x1];exact x3
theorem BI.slice_off{g:Gh}{w:World}{U:Nat→Prop}{b off sz cap:Nat}{es:List (List AV)}{vs:Array Value}{E:TypeId}{f:Nat×Nat}(hb:w.heap[b]?=some (.cells vs E f))(hl:∀cs∈es,cs.length=sz)
  (hc:es.length≤cap) (hr:CT g w Fj es.flatten ((vs.toList.drop off).take (es.length*sz))) (hS:∀o,o<es.length*sz→g.S b (off+o)):BI g w U (.slice .none es) (.slice (some ⟨b,off,none⟩) es.length cap):=by
 have key:∀(i:Nat) (cs:List AV) (j:Nat) (av:AV),es[i]?=some cs→cs[j]?=some av→∃x,vs[off+(i*sz+j)]?=some x∧x.oneCell'=true∧BI g w Fj av x∧i*sz+j<es.length*sz:=by
  intro i cs j av h1 h2;have hcl:=hl cs (Ay h1);have hj:j<sz:=by rw[←hcl];exact(Aw.1 h2).1
  have hi:=(Aw.1 h1).1;have Dz:i*sz+j<es.length*sz:=by
   have:=Bg sz (show i+1≤es.length from hi)
   rw[D0]at this;omega
  have hf:=Fp hl h1 hj;rw[h2]at hf;obtain⟨x,x1,x2,x3⟩:=hr.at hf;rw[B8 Dz,DE,AO]at x1;exact⟨x,x1,x2,x3,Dz⟩
 refine .slice U es b off sz cap (fun i j=>vs[off+(i*sz+j)]?.getD default) hc (fun i cs h=>hl cs (Ay h)) (fun i cs j av h1 h2=>?_) (fun i cs j av h1 h2=>?_)
 ·obtain⟨x,x1,x2,x3,x4⟩:=key i cs j av h1 h2;rw[GG];refine⟨hS _ x4,?_,?_⟩
  ·rw[F8 hb,x1];rfl
  ·rw[x1];exact x2
 ·obtain⟨x,x1,x2,x3,x4⟩:=key i cs j av h1 h2;rw[x1];exact x3
theorem BI.slice_row{g:Gh}{w:World}{U:Nat→Prop}{b sz cap:Nat}{es:List (List AV)}{vs:Array Value}{E:TypeId}{f:Nat×Nat}(hb:w.heap[b]?=some (.cells vs E f))(hl:∀cs∈es,cs.length=sz)
  (hc:es.length≤cap) (hr:CT g w Fj es.flatten (vs.toList.take (es.length*sz))) (hS:∀o,o<es.length*sz→g.S b o):BI g w U (.slice .none es) (.slice (some ⟨b,0,none⟩) es.length cap):=by
 have key:∀(i:Nat) (cs:List AV) (j:Nat) (av:AV),es[i]?=some cs→cs[j]?=some av→∃x,vs[i*sz+j]?=some x∧x.oneCell'=true∧BI g w Fj av x∧i*sz+j<es.length*sz:=by
  intro i cs j av h1 h2;have hcl:=hl cs (Ay h1);have hj:j<sz:=by rw[←hcl];exact(Aw.1 h2).1
  have hi:=(Aw.1 h1).1;have Dz:i*sz+j<es.length*sz:=by
   have:=Bg sz (show i+1≤es.length from hi)
   rw[D0]at this;omega
  have hf:=Fp hl h1 hj;rw[h2]at hf;obtain⟨x,x1,x2,x3⟩:=hr.at hf;rw[B8 Dz,AO]at x1;exact⟨x,x1,x2,x3,Dz⟩
 refine .slice U es b 0 sz cap (fun i j=>vs[i*sz+j]?.getD default) hc (fun i cs h=>hl cs (Ay h)) (fun i cs j av h1 h2=>?_) (fun i cs j av h1 h2=>?_)
 ·obtain⟨x,x1,x2,x3,x4⟩:=key i cs j av h1 h2;rw[Bc];refine⟨hS _ x4,?_,?_⟩
  ·rw[F8 hb,x1];rfl
  ·rw[x1];exact x2
 ·obtain⟨x,x1,x2,x3,x4⟩:=key i cs j av h1 h2;rw[x1];exact x3

section
variable {P:Program}{w0:World}{g0:Gh}{h0 h:Nat→HO}{g:Gh}{w:World}

theorem QX(hI:Dx w0 g0 h0 h g w){d:Nat}(hd:h d=.free){cs:List AV}{vs:Array Value}(E:TypeId)(hr:CT g w (AM h) cs vs.toList) :
  ∃g',Dx w0 g0 h0 (AW h d (.cells cs)) g' (w.alloc (.cells vs E (0,0)))∧Le h g w (AW h d (.cells cs)) g' (w.alloc (.cells vs E (0,0))) ∧
   BI g' (w.alloc (.cells vs E (0,0))) (AM (AW h d (.cells cs))) (.ref d 0) (.pointer (some ⟨w.heap.size,0,none⟩)):=by
 obtain⟨k1,k2⟩:=hI.newOwn hd (.cells cs) (.cells vs E (0,0)) (.pointer (some ⟨w.heap.size,0,none⟩)) 0 false w ⟨rfl,rfl,rfl,rfl⟩ (by simp) (fun hg hk=>by
  obtain⟨u1,u2,u3,u4⟩:=BM g d (.pointer (some ⟨w.heap.size,0,none⟩)) 0 false (some w.heap.size) g.S;exact⟨u3,w.heap.size,E,vs,u4,u1,HF w _ rfl,hr.mono hk (fun i hi=>DW (by simp) i hi) hg,fun o ho=>by have:=hI.slt _ _ ho;omega⟩)
 refine⟨_,k1,k2,.ref _ d 0 w.heap.size (by unfold AM;rw[Bd];simp) ?_ ?_⟩
 ·simp[Gh.upd]
 ·simp[Gh.upd]
theorem ii(hI:Dx w0 g0 h0 h g w){d:Nat}(hd:h d=.free){cs:List AV}{vs:Array Value}(E:TypeId)(hr:CT g w Fj cs vs.toList) :
  ∃g',Dx w0 g0 h0 (AW h d (.ro cs)) g' (w.alloc (.cells vs E (0,0)))∧Le h g w (AW h d (.ro cs)) g' (w.alloc (.cells vs E (0,0))) ∧
   BI g' (w.alloc (.cells vs E (0,0))) (AM (AW h d (.ro cs))) (.ref d 0) (.pointer (some ⟨w.heap.size,0,none⟩)):=by
 obtain⟨k1,k2⟩:=hI.newStable hd (.ro cs) vs E cs.length (.pointer (some ⟨w.heap.size,0,none⟩)) 0 false w ⟨rfl,rfl,rfl,rfl⟩ (by simp) (fun hg hk=>by
  obtain⟨u1,u2,u3,u4⟩:=BM g d (.pointer (some ⟨w.heap.size,0,none⟩)) 0 false none (g.more w.heap.size cs.length);exact⟨u3,w.heap.size,u1,BI.cptr_row (HF w _ rfl) (hr.mono hk (fun _ h=>h) (fun _ h=>h.elim)) (fun o ho=>.inr ⟨rfl,ho⟩)⟩)
 refine⟨_,k1,k2,.ref _ d 0 w.heap.size (by unfold AM;rw[Bd];simp) ?_ ?_⟩
 ·simp[Gh.upd]
 ·simp[Gh.upd]
theorem JX(hI:Dx w0 g0 h0 h g w){cx:Cx}{d:Option Nat}{sz:Nat}{es:List (List AV)}{K:HK}(hk:EF cx d h sz es K){vs:Array Value}{cap:Nat}(E:TypeId)(hl:∀cs∈es,cs.length=sz)
  (hc:es.length≤cap) (hs:vs.size=cap*sz) (hr:CT g w Fj es.flatten (vs.toList.take (es.length*sz))) (w1:World) (K4:w1.heap=w.heap∧w1.os=w.os∧w1.tape=w.tape∧w1.output=w.output) :
  ∃g' av h',K av h'∧Dx w0 g0 h0 h' g' (w1.alloc (.cells vs E (0,0)))∧Le h g w h' g' (w1.alloc (.cells vs E (0,0))) ∧
   BI g' (w1.alloc (.cells vs E (0,0))) (AM h') av (.slice (some ⟨w.heap.size,0,none⟩) es.length cap):=by
 have Fr:(w1.alloc (.cells vs E (0,0))).heap[w.heap.size]?=some (.cells vs E (0,0)):=HF w1 _ (by rw[K4.1]);unfold EF at hk;split at hk
 ·exact hk.elim
 ·rename_i d;generalize KB cx d=d1 at hk;split at hk
  ·rename_i hd;split at hk
   ·obtain⟨k1,k2⟩:=hI.newOwn hd (.arr sz es) (.cells vs E (0,0)) (.slice (some ⟨w.heap.size,0,none⟩) es.length cap) es.length true w1 K4 (by simp) (fun hg Jb=>by
     obtain⟨u1,u2,u3,u4⟩:=BM g d1 (.slice (some ⟨w.heap.size,0,none⟩) es.length cap) es.length true (some w.heap.size) g.S;exact⟨u3,u2,hl,.inr ⟨w.heap.size,cap,E,vs,u1,u4,hc,Fr,hs,hr.mono Jb (fun _ h=>h) (fun _ h=>h.elim),fun o ho=>by have:=hI.slt _ _ ho;omega⟩⟩)
    refine⟨_,_,_,hk,k1,k2,.msl _ d1 es.length _ cap (by unfold AM;rw[Bd];simp) ?_ ?_ (.inr ⟨_,rfl⟩) ?_⟩<;>simp[Gh.upd]
   ·by_cases gu:es.length=cap
    ·obtain⟨k1,k2⟩:=hI.newStable hd (.tok sz es.length) vs E (es.length*sz) (.slice (some ⟨w.heap.size,0,none⟩) es.length cap) es.length true w1 K4 (by simp) (fun hg Jb=>by
      obtain⟨u1,u2,u3,u4⟩:=BM g d1 (.slice (some ⟨w.heap.size,0,none⟩) es.length cap) es.length true none (g.more w.heap.size (es.length*sz));exact⟨u3,u2,_,cap,u1,.inl ⟨gu,u4⟩⟩)
     refine⟨_,_,_,hk,k1,k2,.tok _ d1 sz es _ (BI.slice_row Fr hl hc (hr.mono k2.keeps (fun _ h=>h) (fun _ h=>h.elim)) (fun o ho=>.inr ⟨rfl,ho⟩)) hl (by unfold AM;rw[Bd];simp) ?_ ?_ ?_⟩<;>simp[Gh.upd]
    ·have pt:=hI.upd d1 (.tok sz es.length) (.slice (some ⟨w.heap.size,0,none⟩) es.length cap) es.length true (some w.heap.size) (g.more w.heap.size (es.length*sz)) (w1.alloc (.cells vs E (0,0))) none
      ⟨K4.2.1,K4.2.2.1,K4.2.2.2,by rw[World.size_alloc,K4.1];omega⟩ (fun k K3 _=>by rw[heap_alloc_old _ _ (by rw[K4.1];exact K3),K4.1]) (fun b e=>by cases e) (fun _ _ h=>.inl h)
      (fun b o hb=>by
       rcases hb with hb | ⟨rfl,_⟩
       ·exact .inl hb
       ·exact .inr ⟨by rw[World.size_alloc,K4.1];omega,.inl (Ao _)⟩) (fun b o e=>by cases e)
      (fun b _ e=>by cases e;rw[World.size_alloc,K4.1];exact⟨by omega,.inr (Ao _)⟩) (by simp) (fun hu=>absurd hd hu) (fun hg Jb=>by
       obtain⟨u1,u2,u3,u4⟩:=BM g d1 (.slice (some ⟨w.heap.size,0,none⟩) es.length cap) es.length true (some w.heap.size) (g.more w.heap.size (es.length*sz));exact⟨u3,u2,_,cap,u1,.inr ⟨hc,w.heap.size,E,vs,0,rfl,u4,Fr,by rw[hs,Bc],fun o ho=>by
        rcases ho with ho | ⟨_,ho⟩
        ·have:=hI.slt _ _ ho;omega
        ·omega⟩⟩)
     obtain⟨k1,k2⟩:=pt;refine⟨_,_,_,hk,k1,k2,.tok _ d1 sz es _ (BI.slice_row Fr hl hc (hr.mono k2.keeps (fun _ h=>h) (fun _ h=>h.elim)) (fun o ho=>.inr ⟨rfl,ho⟩)) hl (by unfold AM;rw[Bd];simp) ?_ ?_ ?_⟩<;>simp[Gh.upd]
  ·exact hk.elim
end
end Go.Eng

namespace Go.Eng

theorem RJ{α:Type}:∀(cs:List α) (o:Nat) (vs:List α),o+vs.length≤cs.length→over cs o vs=cs.take o++vs++cs.drop (o+vs.length)
 | [],o,vs,h=>by
  simp at h;obtain⟨rfl,rfl⟩:=h
  rfl
 |c::cs,o+1,vs,h=>by
  rw[over,RJ cs o vs (by simp at h;omega)];simp only[IU,DZ,BU,Nat.add_right_comm o 1,List.drop_succ_cons]
 |c::cs,0,[],h=>by simp[over]
 |c::cs,0,v::vs,h=>by
  rw[over,RJ cs 0 vs (by simp at h;omega)];simp
theorem dj{α:Type}(cs:List α)(o n:Nat)(vs:List α)(h:o+vs.length≤n)(hn:n≤cs.length):(over cs o vs).take n=over (cs.take n) o vs:=by
 apply Dq;intro i;rw[GB _ _ _ _ (by simp;omega)]
 by_cases hi:i<n
 ·rw[B8 hi,GB _ _ _ _ (by omega),B8 hi]
 ·rw[Ar (by omega),A4 (by rw[AK,HN];omega),A4 (by simp;omega)]
theorem QJ{α:Type}{n:Nat}:∀{es:List (List α)},(∀c∈es,c.length=n)→∀{i:Nat} {c:List α},es[i]?=some c→∀(o:Nat) (vs:List α),o+vs.length≤n →
  (es.set i (over c o vs)).flatten=over es.flatten (i*n+o) vs
 | [],_,i,c,h,_,_,_=>by simp at h
 |d::es,hl,i,c,h,o,vs,Hs=>by
  have hd:=hl d (Ab ..);have hfl:=Ey (es:=d::es) (n:=n) hl;have Dz:=(Aw.1 h).1;have rG:i*n+o+vs.length≤(d::es).flatten.length:=by
   rw[hfl]
   have:=Bg n (show i+1≤(d::es).length from Dz)
   rw[D0]at this;omega
  have hcl:=hl c (Ay h);apply Dq;intro j;rw[GB _ _ _ _ rG];have NL:∀e∈(d::es).set i (over c o vs),e.length=n:=fun e he=>by
   rcases Pp he with he | rfl
   ·exact hl e he
   ·rw[HN];exact hcl
  by_cases hn:n=0
  ·subst hn;have h1:=Ey NL;have h2:=hfl;simp only[Nat.mul_zero,List.length_eq_zero_iff]at h1 h2;rw[h1,h2]
   have:¬(i*0+o≤j∧j<i*0+o+vs.length):=by omega
   rw[Ar this]
  ·have px:j=j / n*n+j % n:=by rw[Nat.mul_comm];exact(Uz j n).symm
   have XG:j % n<n:=Nat.mod_lt _ (by omega)
   by_cases hj:j / n<(d::es).length
   ·have g1:(d::es)[j / n]?=some ((d::es)[j / n]):=AD hj;have g2:((d::es).set i (over c o vs))[j / n]?=some (if i=j / n then over c o vs else(d::es)[j / n]):=by
     rw[List.getElem?_set]
     by_cases e:i=j / n
     ·rw[AB e,AB (by omega),AB e]
     ·rw[Ar e,Ar e];exact g1
    have f1:=Fp hl g1 XG;have f2:=Fp NL g2 XG;rw[←px]at f1 f2;rw[f1,f2];split
    ·rename_i e;rw[e]at h;rw[g1]at h;cases h;rw[GB _ _ _ _ (by omega)];have e2:i*n+o≤j↔o≤j % n:=by rw[e];omega
     have e3:j<i*n+o+vs.length↔j % n<o+vs.length:=by rw[e];omega
     simp only[e2,e3];split
     ·congr 1;rw[e];omega
     ·rfl
    ·rename_i e
     have:¬(i*n+o≤j∧j<i*n+o+vs.length):=by
      rintro⟨q1,q2⟩
      apply e;have a1:i*n≤j:=by omega
      have a2:j<(i+1)*n:=by rw[D0];omega
      have:=(Nat.le_div_iff_mul_le (by omega)).2 a1
      have:=(Lz (by omega)).2 a2
      omega
     rw[Ar this]
   ·have py:(d::es).length*n≤j:=by
     have:=Nat.not_lt.1 hj
     have:=(Nat.le_div_iff_mul_le (by omega)).1 this
     exact this
    have:¬(i*n+o≤j∧j<i*n+o+vs.length):=by rw[hfl]at rG;omega
    rw[Ar this,A4 (by rw[Ey NL,Gn];exact py),A4 (by rw[hfl];exact py)]

theorem Pa{P:Program}{T:GQ}(hT:Cu P T)(w:World){t b off:Nat}{x:Value}{F6:Array Value}{E:TypeId}(hd:(T t).d≠.other)(hs:x.cells.toList.length=(T t).size)
  (h1:∀v∈x.cells.toList,v.oneCell'=true) (hb:w.heap[b]?=some (.cells F6 E (0,0))) (Hs:off+x.cells.toList.length≤F6.size) :
  (Instr.storeAt t (.pointer (some ⟨b,off,none⟩)) x).run P w=.ok () (w.setRow b (over F6.toList off x.cells.toList).toArray):=by
 have Gy:=run_storeCells_at P b off E x.cells.toList 0 F6 w hb (by simpa using Hs) h1;simp only[ID]at Gy;have T4 : x.cells.size=(T t).size:=by simpa using hs
 rw[RJ _ _ _ (by simpa using Hs)];simp only[Instr.storeAt,Sem.run_bind,Instr.sureAddr,Sem.run_pure,Result.andThen_ok,storeVar,hT.size w hd,T4,Vf,not_true_eq_false,Ga];exact Gy

section
variable {P:Program}{w0:World}{g0:Gh}{h0 h:Nat→HO}{g:Gh}{w:World}(hI:Dx w0 g0 h0 h g w)
include hI

theorem bD{T:GQ}(hT:Cu P T){d:Option Nat}{e:Nat}{K:HK}(hk:RX T d h e K):Ob P w0 g0 h0 h g w (Instr.alloc e true (.tuple #[])) K:=by
 unfold RX at hk;split at hk
 ·exact hk.elim
 ·split at hk
  ·rename_i hd;split at hk
   ·exact hk.elim
   ·rename_i Dy;split at hk
    ·rename_i ha;obtain⟨z,z1,z2,_⟩:=Pl hT (w:=w) Dy;have hr:CT g w (AM h) ((T e).zc.map .v) z.cells.toList:=by rw[z2]at ha⊢;exact CT.vals ha
     obtain⟨g',k1,k2,k3⟩:=QX hI hd (vs:=z.cells) e hr;refine⟨_,_,g',_,_,?_,hk,k1,k2,k3⟩;simp[Instr.alloc,z1,newVar,newRow]
    ·exact hk.elim
  ·exact hk.elim

theorem Pf{cs:List AV}{vs:List Value}(hr:CT g w (AM h) cs vs):CT g w Fj (cs.map (str h)) vs:=by
 refine⟨by rw[Bx];exact hr.1,hr.2.1,fun i av x h1 h2=>?_⟩;rw[AI,AQ]at h1;obtain⟨a,a1,rfl⟩:=h1;exact(hr.2.2 i a x a1 h2).str hI.objs

theorem jV{cx:Cx}{d:Option Nat}{e:Nat}{x:AV}{vx:Value}{K:HK}(hx:BI g w (AM h) x vx)(hk:bL cx d h e x K):Ob P w0 g0 h0 h g w (Instr.box e vx) K:=by
 unfold bL at hk;split at hk
 ·exact hk.elim
 ·split at hk
  ·rename_i hd;split at hk
   ·exact hk.elim
   ·obtain⟨cs,hk,hn,hr⟩:=MF hx hk;split at hk
    ·obtain⟨g',k1,k2,k3⟩:=ii hI hd (vs:=vx.cells) e (Pf hI hr);exact⟨_,_,g',_,_,rfl,hk,k1,k2,k3⟩
    ·obtain⟨g',k1,k2,k3⟩:=QX hI hd (vs:=vx.cells) e hr;exact⟨_,_,g',_,_,rfl,hk,k1,k2,k3⟩
  ·exact hk.elim

theorem Dx.write{r b:Nat}(hl:(h r).live)(ho:g.own r=some b)(o' : HO){F6:Array Value}{E:TypeId}(hb:w.heap[b]?=some (.cells F6 E (0,0)))(new:Array Value)(n:Nat)(ow:Option Nat)(S' : Nat→Nat→Prop)
  (Dy:o'≠.free) (hn:n=g.ln r) (rM:∀b',ow=some b'→b'=b) (hS:∀b o,g.S b o→S' b o) (th:∀b' o,S' b' o→g.S b' o∨b'=b) (rA:∀o,g.S b o→new[o]?=F6[o]?)
  (Js:J6 g (g.upd r (g.ρ r) n (g.tk r) ow S') (AM h)→E0 g w (g.upd r (g.ρ r) n (g.tk r) ow S') (w.setRow b new)→(w.setRow b new).heap[b]?=some (.cells new E (0,0)) →
   Ec (g.upd r (g.ρ r) n (g.tk r) ow S') (w.setRow b new) (AM (AW h r o')) r o') :
  Dx w0 g0 h0 (AW h r o') (g.upd r (g.ρ r) n (g.tk r) ow S') (w.setRow b new)∧Le h g w (AW h r o') (g.upd r (g.ρ r) n (g.tk r) ow S') (w.setRow b new):=by
 have Fr:=setRow_heap w b F6 new E (0,0) hb;have Dz:=(hI.loc r b hl ho).1
 refine hI.upd r o' _ _ _ _ _ _ (some b) ⟨rfl,rfl,rfl,by rw[size_setRow];exact Ao _⟩ (fun k hk Dy=>setRow_other w b k new (fun e=>Dy (by rw[e]))) (fun b' e=>by cases e;exact⟨hl,ho⟩) hS (fun b' o hs=>?_)
  (fun b' o e hs=>?_) (fun b' _ e=>?_) Dy (fun _=>⟨rfl,by omega,fun _=>rfl,fun _=>rfl⟩) (fun hg hk=>Js hg hk Fr)
 ·rcases th b' o hs with h1 | rfl
  ·exact .inl h1
  ·exact .inr ⟨by rw[size_setRow];exact Dz,.inr ⟨hl,ho⟩⟩
 ·cases e
  refine⟨?_,fun es ck he=>by rw[hb]at he;cases he⟩;rw[F8 Fr,F8 hb];exact rA o hs
 ·obtain rfl:=rM b' e;exact⟨by rw[size_setRow];exact Dz,.inl ⟨hl,ho⟩⟩

theorem dO{cx:Cx}(hT:Cu P cx.T){t:Nat}{p x:AV}{vp vx:Value}{K:HK}(hp:BI g w (AM h) p vp)(hx:BI g w (AM h) x vx)(hk:Qm cx h t p x K) :
  d9 P w0 g0 h0 h g w (Instr.storeAt t vp vx) K:=by
 unfold Qm at hk;split at hk
 ·exact hk.elim
 ·rename_i hd;have h5:=MF hx hk
  clear hk
  obtain⟨vs,hk,hn,hr⟩:=h5;have CW:vx.cells.toList.length=vs.length:=hr.1;split at hk
  ·rename_i r off;have ho:=hI.objs r;split at hk
   ·rename_i cs e;obtain⟨Hs,hk⟩:=hk;rw[e]at ho;obtain⟨t0,b,E,F6,a1,a2,a3,a4,a5⟩:=ho;cases hp with
    |ref _ _ _ b' hu ht Rk =>
     rw[a2]at Rk;cases Rk;have hcs:F6.toList.length=cs.length:=a4.1;have Dd:=Pa hT w (t:=t) (off:=off) (x:=vx) hd (by rw[CW,hn]) hr.2.1 a3 (by rw[CW];simp at hcs;omega);have hl:(h r).live:=by rw[e];trivial
     have tw:=a4.over hr off Hs;split at hk
     ·obtain⟨k1,k2⟩:=hI.write hl a1 (.ro ((over cs off vs).map (str h))) a3 (over F6.toList off vx.cells.toList).toArray (g.ln r) none (g.more b cs.length) (by simp) rfl (fun _ e=>by cases e) (fun _ _ h=>.inl h)
       (fun b' o hs=>hs.elim .inl (fun hs=>.inr hs.1)) (fun o hs=>absurd hs (a5 o)) (fun hg Jb Fr=>by
        obtain⟨u1,u2,u3,u4⟩:=BM g r (g.ρ r) (g.ln r) (g.tk r) none (g.more b cs.length);refine⟨u3.trans t0,b,u1.trans a2,BI.cptr_row Fr ?_ (fun o ho=>.inr ⟨rfl,?_⟩)⟩
        ·exact(Pf hI tw).mono Jb (fun _ h=>h) (fun _ h=>h.elim)
        ·rw[Bx,HN]at ho;exact ho)
      exact⟨_,_,_,Dd,hk,k1,k2⟩
     ·obtain⟨k1,k2⟩:=hI.write hl a1 (.cells (over cs off vs)) a3 (over F6.toList off vx.cells.toList).toArray (g.ln r) (g.own r) g.S (by simp) rfl (fun b' e=>by rw[a1]at e;cases e;rfl) (fun _ _ h=>h)
       (fun b' o hs=>.inl hs) (fun o hs=>absurd hs (a5 o)) (fun hg Jb Fr=>by
        obtain⟨u1,u2,u3,u4⟩:=BM g r (g.ρ r) (g.ln r) (g.tk r) (g.own r) g.S;exact⟨u3.trans t0,b,E,_,u4.trans a1,u1.trans a2,Fr,tw.mono Jb (fun i hi=>DW (by simp) i hi) hg,a5⟩)
      exact⟨_,_,_,Dd,hk,k1,k2⟩
   ·exact hk.elim
  ·rename_i r n sz i off;have ho:=hI.objs r;split at hk
   ·rename_i GW es e;rw[e]at ho;split at hk
    ·rename_i hz;obtain rfl:=AU hz;obtain⟨hnl,cs,hi,Hs,hk⟩:=hk;obtain⟨t1,l1,al,a1⟩:=ho;have Dz:=(Aw.1 hi).1;rcases a1 with ⟨rfl,_⟩ | ⟨b,cap,E,F6,e1,e2,e3,e4,e5,e6,e7⟩
     ·simp at hi
     ·cases hp with
      |eref _ _ _ _ _ _ b' Oo hu ht XI Rk =>
       have Rk:=Rk (hnl.trans l1.symm);rw[e1]at Rk;simp only[Value.slice.injEq,Br,Addr.mk.injEq]at Rk;obtain⟨⟨rfl,_,_⟩,_,_⟩:=Rk;have hcl:=al cs (Ay hi);have XH:i*sz+sz≤es.length*sz:=by
        have:=Bg sz (show i+1≤es.length from Dz)
        rwa [D0]at this
       have gy:es.length*sz≤cap*sz:=Bg sz e3;have Dd:=Pa hT w (t:=t) (off:=i*sz+off) (x:=vx) hd (by rw[CW,hn]) hr.2.1 e4 (by rw[CW];omega);have hl:(h r).live:=by rw[e];trivial
       have vV : ∀c∈es.set i (over cs off (vs.map (str h))),c.length=sz:=fun c hc=>by
        rcases Pp hc with hc | rfl
        ·exact al c hc
        ·rw[HN];exact hcl
       have hfl:=QJ al hi off (vs.map (str h)) (by rw[Bx];exact Hs);have Zi:F6.toList.length=cap*sz:=by rw[CB];exact e5
       have mw:((over F6.toList (i*sz+off) vx.cells.toList).toArray.toList.take ((es.set i (over cs off (vs.map (str h)))).length*sz))=over (F6.toList.take (es.length*sz)) (i*sz+off) vx.cells.toList:=by
        rw[Gn];exact dj _ _ _ _ (by rw[CW];omega) (by rw[Zi];exact gy)
       have tw:CT g w Fj (es.set i (over cs off (vs.map (str h)))).flatten ((over F6.toList (i*sz+off) vx.cells.toList).toArray.toList.take ((es.set i (over cs off (vs.map (str h)))).length*sz)):=by
        rw[mw,hfl];exact e6.over (Pf hI hr) _ (by rw[Bx,Ey al];omega)
       obtain⟨k1,k2⟩:=hI.write hl e2 (.arr sz (es.set i (over cs off (vs.map (str h))))) e4 (over F6.toList (i*sz+off) vx.cells.toList).toArray (g.ln r) (g.own r) g.S (by simp) rfl (fun b' e=>by rw[e2]at e;cases e;rfl) (fun _ _ h=>h)
        (fun b' o hs=>.inl hs) (fun o hs=>absurd hs (e7 o)) (fun hg Jb Fr=>by
         obtain⟨u1,u2,u3,u4⟩:=BM g r (g.ρ r) (g.ln r) (g.tk r) (g.own r) g.S;refine⟨u3.trans t1,u2.trans (by rw[Gn];exact l1),vV,.inr ⟨b,cap,E,_,?_,u4.trans e2,by rw[Gn];exact e3,Fr,?_,tw.mono Jb (fun _ h=>h) (fun _ h=>h.elim),e7⟩⟩
         ·rw[u1,e1,Gn]
         ·simp only[HZ,HN,CB];exact e5)
       exact⟨_,_,_,Dd,hk,k1,k2⟩
    ·exact hk.elim
   ·exact hk.elim
  ·exact hk.elim
end
end Go.Eng

namespace Go.Eng

theorem di{α:Type}(c vs:List α)(h:vs.length=c.length):over c 0 vs=vs:=by
 rw[RJ _ _ _ (by omega)];simp[h]
theorem JZ{α:Type}[Inhabited α](n:Nat)(z:List α)(hz:z≠[]):(List.replicate n z).flatten=(List.range (n*z.length)).map fun k=>z[k % z.length]!:=by
 have hl:∀c∈List.replicate n z,c.length=z.length:=fun c hc=>by rw[Eg hc]
 have Zq:0<z.length:=GT.2 hz;apply Dq;intro k
 by_cases hk:k<n*z.length
 ·have px:k=k / z.length*z.length+k % z.length:=by rw[Nat.mul_comm];exact(Uz k _).symm
  have XG:k % z.length<z.length:=Nat.mod_lt _ Zq;have hi:k / z.length<n:=(Lz Zq).2 hk;have f1:=Fp hl (i:=k / z.length) (c:=z) (by rw[List.getElem?_replicate,AB hi]) XG;rw[←px]at f1;rw[f1];simp[hk,XG]
 ·rw[A4 (by rw[Ey hl,Gb];omega),A4 (by simp;omega)]

section
variable {P:Program}{w0:World}{g0:Gh}{h0 h:Nat→HO}{g:Gh}{w:World}(hI:Dx w0 g0 h0 h g w)
include hI

theorem Xk{n sz:Nat}{t:Nat→AV}{ρ:Operand→Value}(ht:∀x:Operand,BI g w (AM h) (ev t x) (ρ x)) :
  ∀{ps:List (Nat×Operand)} {es:List (List AV)} {xs:Array Value} {K:List (List AV)→Prop},es.length=n→(∀c∈es,c.length=sz)→CT g w Fj es.flatten xs.toList→QH n sz h es t ps K →
   ∃EM VJ,K EM∧EM.length=n∧(∀c∈EM,c.length=sz)∧CT g w Fj EM.flatten VJ.toList∧Instr.fill (fun i=>some (i*sz,sz)) xs (ps.map fun(i,x)=>(i,ρ x))=some VJ
 | [],es,xs,K,hn,hl,h,hk=>⟨es,xs,hk,hn,hl,h,rfl⟩
 |(i,x)::ps,es,xs,K,hn,hl,h,hk=>by
  unfold QH at hk;split at hk
  ·rename_i hi;have hi:i<n:=HU hi;have h5:=MF (ht x) hk
   clear hk
   obtain⟨Uc,hk,nZ,hr⟩:=h5;have Ed:(ρ x).cells.size=sz:=by rw[←nZ];simpa using hr.1
   have T5:=Pf hI hr;obtain⟨c,hc⟩:∃c,es[i]?=some c:=⟨_,AD (by omega)⟩;have hcl:=hl c (Ay hc);have Hs:i*sz+sz≤es.flatten.length:=by
    rw[Ey hl,hn]
    have:=Bg sz (show i+1≤n from hi)
    rwa [D0]at this
   have hfl:=QJ hl hc 0 (Uc.map (str ‹Nat→HO›)) (by rw[Bx,nZ];omega);rw[di _ _ (by rw[Bx,nZ,hcl]),ID]at hfl;have Fr:=h.over T5 (i*sz) (by rw[Bx,nZ];exact Hs);have jE:xs.size=es.flatten.length:=by have:=h.1;rwa [CB]at this
   have e:=NH (ρ x).cells.toList 0 (i*sz) xs (by rw[CB];omega);simp only[ID]at e;rw[←e,←hfl]at Fr;obtain⟨EM,VJ,k1,k2,k3,k4,k5⟩:=Xk ht (es:=es.set i (Uc.map (str _))) (by rw[Gn];exact hn) (fun c' nM=>by
    rcases Pp nM with nM | rfl
    ·exact hl c' nM
    ·rw[Bx];exact nZ) Fr hk
   refine⟨EM,VJ,k1,k2,k3,k4,?_⟩;simp only[AN,Instr.fill];have e2:(ρ x).cells.zipIdx.foldl (fun cs (c,j)=>cs.setIfInBounds (i*sz+j) c) xs=((ρ x).cells.toList.zipIdx 0).foldl (fun(cs:Array Value) (p:Value×Nat)=>cs.setIfInBounds (i*sz+p.2) p.1) xs:=by
    rw[←N9];simp
   rw[Ar (by simp[Ed];omega),e2];exact k5
  ·exact hk.elim

theorem Sf{cx:Cx}(hT:Cu P cx.T){d:Option Nat}{ty n:Nat}{t:Nat→AV}{ρ:Operand→Value}{K:HK}(ht:∀x:Operand,BI g w (AM h) (ev t x) (ρ x)){ps:Array (Nat×Operand)}
  (hk:Ip cx d h ty n t ps.toList K):Ob P w0 g0 h0 h g w (Instr.buildSlice ty n (ps.map fun(i,x)=>(i,ρ x))) K:=by
 unfold Ip at hk;split at hk
 ·rename_i e hs;split at hk
  ·rename_i Ul Un;have Un:=AU Un;split at hk
   ·exact hk.elim
   ·rename_i m hm;split at hk
    ·rename_i Hs;have Hs:=HU Hs;have rY:(cx.T e).zc≠[]:=fun e0=>by rw[e0]at Un;rw[hm]at Un;cases Un
     have ml:∀c∈List.replicate n ((cx.T e).zc.map AV.v),c.length=(cx.T e).size:=fun c hc=>by rw[Eg hc,Bx];exact Un
     have rx:CT g w Fj (List.replicate n ((cx.T e).zc.map AV.v)).flatten ((Array.range (n*(cx.T e).size)).map fun k=>(cx.T e).zc.toArray[k % (cx.T e).zc.toArray.size]!).toList:=by
      have e1:((Array.range (n*(cx.T e).size)).map fun k=>(cx.T e).zc.toArray[k % (cx.T e).zc.toArray.size]!).toList=(List.replicate n (cx.T e).zc).flatten:=by
       rw[JZ n _ rY];simp[Un]
      have e2:(List.replicate n ((cx.T e).zc.map AV.v)).flatten=(List.replicate n (cx.T e).zc).flatten.map AV.v:=by
       rw[List.map_flatten,List.map_replicate]
      rw[e1,e2];refine CT.vals ?_;have GJ:∀l:List AV,(∀a∈l,one a=true)→H7 l=true:=by
       intro l
       induction l with
       |nil=>intro _;rfl
       |cons a l ih=>intro h;simp[H7,h a (List.mem_cons_self ..),ih (fun b hb=>h b (List.mem_cons_of_mem _ hb))]
      refine GJ _ (fun a ha=>?_);obtain⟨x,hx,rfl⟩:=Aq.1 ha;obtain⟨l,hl,hx⟩:=E9.1 hx;rw[Eg hl]at hx;exact Mz Ul _ (Aq.2 ⟨x,hx,rfl⟩)
     obtain⟨EM,VJ,k1,k2,k3,k4,k5⟩:=Xk hI ht (by rw[Gb]) ml rx hk;have jE:VJ.size=n*(cx.T e).size:=by
      have:=k4.1
      rw[CB,Ey k3,k2]at this;exact this
     obtain⟨g',av,h',q1,q2,q3,q4⟩:=JX hI k1 (vs:=VJ) (cap:=n) e k3 (by omega) jE (by
      rw[k2,Az (by rw[CB,jE];exact Ao _)];exact k4) w ⟨rfl,rfl,rfl,rfl⟩
     rw[k2]at q4;refine⟨_,_,g',av,h',?_,q1,q2,q3,q4⟩;obtain⟨z,z1,z2⟩:=dU hT (w:=w) hm;have Ed:=hT.size1 w hm;have e3:(Array.map (fun x:Nat×Operand=>match x with | (i,x)=>(i,ρ x)) ps).toList=ps.toList.map fun(i,x)=>(i,ρ x):=by simp
     have wD:¬(n*(m+1)>2 ^ 24):=by rw[hm]at Hs;have Hs:n*(m+1)≤16777216:=Hs;omega
     simp only[Instr.buildSlice,Sem.run_bind,run_underlying (hT.slice hs),Result.andThen_ok,Ed,Ar wD];rw[e3];rw[hm]at k5
     by_cases h0:n*(m+1)=0
     ·have tt:n=0:=by
       rcases Nat.mul_eq_zero.1 h0 with h | h
       ·exact h
       ·cases h
      subst tt;have er:Array.range 0=#[]:=rfl;simp only[Ks,er,List.map_toArray,Fe]at k5;simp only[Ks,NM,er,List.map_toArray,Fe,k5];simp[newRow]
     ·rw[z2]at k5;simp only[Array.toArray_toList]at k5;simp only[Ar h0,Sem.run_bind,z1,Result.andThen_ok,Sem.run_pure,k5];simp[newRow]
    ·exact hk.elim
  ·exact hk.elim
 ·exact hk.elim
end
end Go.Eng

namespace Go.Eng

theorem FY{sz:Nat}:∀{es:List (List AV)},B1 sz es→∀c∈es,c.length=sz
 | [],_,c,h=>by cases h
 |d::es,h,c,hc=>by
  rcases AF.1 hc with rfl | hc
  ·exact h.1
  ·exact FY h.2 c hc

def Oh(w:World)(x:Value)(n sz:Nat)(news:List Value):Prop :=
 news.length=n*sz∧(∀v∈news,v.oneCell'=true)∧∃(a:Option Addr) (c:Nat),x=.slice a n c∧(n=0∨∃b:Addr,a=some b∧∀j u,news[j]?=some u→w.cell? (b.add j)=some u)

theorem Oh.of_rep{g:Gh}{w:World}{U:Nat→Prop}{es:List (List AV)}{sz:Nat}{x:Value}(h:BI g w U (.slice .none es) x)(hl:∀c∈es,c.length=sz) :
  ∃news,Oh w x es.length sz news∧CT g w Fj es.flatten news:=by
 cases h with
 |snil _ a cap=>exact⟨[],⟨by simp,by simp,a,cap,rfl,.inl rfl⟩,by simp,by simp,fun i av x h1 h2=>by simp at h2⟩
 |slice _ _ b off GW cap val hc PK Di Ez =>
  have hf:=Ey hl;have key:∀j,j<es.length*sz→∃cs,es[j / sz]?=some cs∧es.flatten[j]?=cs[j % sz]?∧j % sz<cs.length∧GW=sz∧j=j / sz*sz+j % sz:=by
   intro j hj;have Zq:0<sz:=Nat.pos_of_ne_zero (fun e=>by rw[e]at hj;omega);have px:j=j / sz*sz+j % sz:=by rw[Nat.mul_comm];exact(Uz j sz).symm
   have hi:j / sz<es.length:=(Lz Zq).2 hj;have XG:j % sz<sz:=Nat.mod_lt _ Zq;have h1:es[j / sz]?=some es[j / sz]:=AD hi;have h2:=Fp hl h1 XG;rw[←px]at h2;have h3:=hl _ (Aj hi);exact⟨_,h1,h2,by rw[h3];exact XG,by rw[←h3];exact(PK _ _ h1).symm,px⟩
  have We:∀j,j<es.length*sz→∃av,es.flatten[j]?=some av∧w.cell? ⟨b,off+j,none⟩=some (val (j / sz) (j % sz))∧(val (j / sz) (j % sz)).oneCell'=true∧BI g w Fj av (val (j / sz) (j % sz)):=by
   intro j hj;obtain⟨cs,k1,k2,k3,rfl,k5⟩:=key j hj;have f8:cs[j % GW]?=some cs[j % GW]:=AD k3;obtain⟨_,c2,c3⟩:=Di _ _ _ _ k1 f8;rw[GG,←k5]at c2;exact⟨_,k2.trans f8,c2,c3,Ez _ _ _ _ k1 f8⟩
  refine⟨(List.range (es.length*sz)).map fun j=>val (j / sz) (j % sz),⟨by simp,fun v hv=>?_,some ⟨b,off,none⟩,cap,rfl,.inr ⟨_,rfl,fun j u hu=>?_⟩⟩,by rw[hf];simp,fun v hv=>?_,fun i av x h1 h2=>?_⟩
  ·obtain⟨j,hj,rfl⟩:=Aq.1 hv;obtain⟨_,_,_,c,_⟩:=We j (Oc.1 hj);exact c
  ·obtain⟨hj,rfl⟩:=G1 hu;rw[Addr.add_lit];exact(We j hj).choose_spec.2.1
  ·obtain⟨j,hj,rfl⟩:=Aq.1 hv;obtain⟨_,_,_,c,_⟩:=We j (Oc.1 hj);exact c
  ·obtain⟨hj,rfl⟩:=G1 h2;obtain⟨p9,c1,_,_,c4⟩:=We i hj;rw[h1]at c1;cases c1;exact c4

section
variable {P:Program}{T:GQ}(hT:Cu P T)
include hT

theorem Hv{e n:Nat}(hs:(T e).size=n+1):∃i z,P.info? e=some i∧i.zero=some z∧i.size=(T e).size∧i.bytes=(T e).bytes∧(T e).zc=z.cells.toList:=by
 rcases hT e with h | h
 ·rw[h]at hs;cases hs
 unfold dP at h;split at h
 ·split at h
  ·rename_i d i h1 h2 _ z h3;exact⟨i,z,h2,h3,by rw[h],by rw[h],by rw[TI.zc_cells,h]⟩
  ·rw[h]at hs;cases hs
 ·rw[h]at hs;cases hs

theorem IK(w:World){t e ty k:Nat}(ht:(T t).d=.slice e)(hk:(T e).size=k+1)(a a' : Option Addr)(n cap c:Nat)(hc:n≤cap) :
  (Builtin.append_ #[t,t] ty #[.slice a n cap,.slice a' 0 c]).run P w=.ok (.slice a n cap) w:=by
 have hu:=hT.slice ht;cases a<;>cases a'<;>simp[Builtin.append_,run_underlying hu,hT.size1 w hk,Builtin.lenOf,hc,Builtin.firstCells,loadCells,loadCellsFrom,storeCells]

theorem HP(w:World){t e ty k:Nat}(ht:(T t).d=.slice e)(hk:(T e).size=k+1)(hz:(T e).zc.length=(T e).size){s x:Value}{n m cap c:Nat}{olds news:List Value}{a a' : Option Addr}
  (hso:Oh w s n (T e).size olds) (hs:s=.slice a n cap) (M3:a=none→cap=0) (hsx:Oh w x m (T e).size news) (hx:x=.slice a' m c) (hm:0<m) (hg:cap<n+m) (hb:(n+m)*(T e).bytes≤140737488355328) (h63:n+m≤9223372036854775807) :
  ∃nc rest,(Builtin.append_ #[t,t] ty #[s,x]).run P w=.ok (.slice (some ⟨w.heap.size,0,none⟩) (n+m) nc) (w.drew.alloc (.cells (olds++news++rest).toArray e (0,0)))∧n+m≤nc ∧
   (olds++news++rest).length=nc*(T e).size:=by
 obtain⟨i,z,i1,i2,i3,i4,i5⟩:=Hv hT hk;have hu:=hT.slice ht;obtain⟨n1,n2,a1,c1,n3,n4⟩:=hsx;subst hx;cases n3;rcases n4 with h | ⟨b,rfl,IR⟩
 ·omega
 ·have Un:z.cells.size=(T e).size:=by rw[←hz,i5];simp
  have XE:∀(nc:Nat) (pre:List Value),pre.length=(n+m)*(T e).size→n+m≤nc→(pre++(Builtin.zeroCells z.cells (nc-(n+m))).toList).length=nc*(T e).size:=by
   intro nc pre hp Hs;have e1:(Builtin.zeroCells z.cells (nc-(n+m))).toList.length=(nc-(n+m))*(T e).size:=by simp only[CB,size_zeroCells,Un]
   rw[Ad,e1,hp,←FU]
   congr 1;omega
  obtain⟨o1,o2,a2,c2,o3,o4⟩:=hso;subst hs;cases o3;cases a with
  |none =>
   obtain rfl:=M3 rfl;have tt:n=0:=by
    rcases o4 with h | ⟨b',h,_⟩
    ·exact h
    ·cases h
   subst tt;have ho:olds=[]:=AJ (by simpa using o1);subst ho;have hr:=run_append_nil (P:=P) w t ty e i z hu i1 i2 b m c news (by rw[i3];exact n1) IR hm (by omega) (by rw[i4];rw[Bc]at hb;omega);refine⟨grownCap w m 0 e,(Builtin.zeroCells z.cells (grownCap w m 0 e-m)).toList,?_,by rw[Bc];exact grownCap_ge w m 0 e,?_⟩
   ·rw[hr,Bc]
    congr 3
    apply N8;simp
   ·have:=XE (grownCap w m 0 e) news (by rw[Bc];exact n1) (by rw[Bc];exact grownCap_ge w m 0 e)
    rw[Bc]at this;simpa using this
  |some b' =>
   have GP:∀j u,olds[j]?=some u→w.cell? (b'.add j)=some u:=by
    rcases o4 with h | ⟨b2,h,h'⟩
    ·intro j u hj;rw[h,Ks]at o1
     have:olds=[]:=AJ o1
     rw[this]at hj;simp at hj
    ·cases h;exact h'
   have hr:=run_append_grow (P:=P) w t ty e i z hu i1 i2 b' n cap olds (by rw[i3];exact o1) GP b m c news (by rw[i3];exact n1) IR hg (by omega) (by rw[i4];exact growslice_fits hg hb);refine⟨grownCap w (n+m) cap e,(Builtin.zeroCells z.cells (grownCap w (n+m) cap e-(n+m))).toList,?_,grownCap_ge w (n+m) cap e,XE _ _ (by rw[Ad,o1,n1,←FU]) (grownCap_ge w (n+m) cap e)⟩;rw[hr]
   congr 3
   apply N8;simp
end
end Go.Eng
