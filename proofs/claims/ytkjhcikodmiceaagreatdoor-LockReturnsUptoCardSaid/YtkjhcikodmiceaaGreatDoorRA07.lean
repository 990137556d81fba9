/- Lemmas 7. -/
import Derived.Test.YtkjhcikodmiceaaGreatDoorRA06
namespace Go.Eng
variable {vs:Array Value}{es:List (List AV)}{U:Nat->Prop}{E:TypeId}{cs:List AV}{f:Nat×Nat}{K:HK}{b:Nat}{α:Type}{Dn:Array Value}{g:Gh}{cx:Cx}{sz cap e:Nat}{vx:Value}{off:Nat}{T:Gf}(P:Program)(w0:World)(g0:Gh)(n:Nat)(h0 h:Nat->HO)(w:World)
def Ni(g:Gh)(w:World)(m:Sem Value)(K:HK):Prop:=
 ∃x w' g' av h',m.run P w=.ok x w'/\K av h'/\CA w0 g0 h0 h' g' w'/\Le h g w h' g' w'/\A3 g' w' (AI h') av x
def gA(g:Gh)(w:World)(m:Sem Unit)(K:HK):Prop:=
 ∃w' g' h',m.run P w=.ok () w'/\K (.v undef) h'/\CA w0 g0 h0 h' g' w'/\Le h g w h' g' w'
section
variable {P:Program}{w0:World}{g0:Gh}{h0 h:Nat->HO}{g:Gh}{w:World}(hI:CA w0 g0 h0 h g w)
include hI
theorem Bs.does{m:Sem Value}(hg:Bs P h g w m (fun v=>K v h)):Ni P w0 g0 h0 h g w m K:=
 let ⟨x,av,h1,h2,h3⟩:=hg
 ⟨x,w,g,av,h,h1,h2,hI,.refl _ _ _,h3⟩
theorem CA.newOwn{d:Nat}(hd:h d=.free)(o' : HO)(ob:Obj)(x:Value)(n:Nat)(t:Bool)(w1:World)(SW:w1.heap=w.heap/\w1.os=w.os/\w1.tape=w.tape/\w1.output=w.output)(CU:o'≠.free)
  (Li:JA g (g.upd d x n t (some w.heap.size) g.S) (AI h)->D2 g w (g.upd d x n t (some w.heap.size) g.S) (w1.alloc ob) ->
   DD (g.upd d x n t (some w.heap.size) g.S) (w1.alloc ob) (AI (AP h d o')) d o') :
  CA w0 g0 h0 (AP h d o') (g.upd d x n t (some w.heap.size) g.S) (w1.alloc ob)/\Le h g w (AP h d o') (g.upd d x n t (some w.heap.size) g.S) (w1.alloc ob):=by
 refine hI.upd d o' x n t _ _ _ none ⟨SW.2.1,SW.2.2.1,SW.2.2.2,by simp_all⟩ (fun k hk _=>?_) (fun b e=>by cases e) (fun _ _ h=>h) (fun _ _ h=>.inl h) (fun b o e=>by cases e)
  (fun b _ e=>?_) CU (fun hu=>absurd hd hu) Li
 all_goals grind [heap_alloc_old,World.size_alloc]
def Gh.more(g:Gh)(b n:Nat):Nat->Nat->Prop:=fun b' o=>g.S b' o\/(b'=b/\o<n)
theorem CA.newStable{d:Nat}(hd:h d=.free)(o' : HO)(vs:Array Value)(E:TypeId)(m:Nat)(x:Value)(n:Nat)(t:Bool)(w1:World)(SW:w1.heap=w.heap/\w1.os=w.os/\w1.tape=w.tape/\w1.output=w.output)(CU:o'≠.free)
  (Li:JA g (g.upd d x n t none (g.more w.heap.size m)) (AI h)->D2 g w (g.upd d x n t none (g.more w.heap.size m)) (w1.alloc (.cells vs E (0,0))) ->
   DD (g.upd d x n t none (g.more w.heap.size m)) (w1.alloc (.cells vs E (0,0))) (AI (AP h d o')) d o') :
  CA w0 g0 h0 (AP h d o') (g.upd d x n t none (g.more w.heap.size m)) (w1.alloc (.cells vs E (0,0))) /\
   Le h g w (AP h d o') (g.upd d x n t none (g.more w.heap.size m)) (w1.alloc (.cells vs E (0,0))):=by
 refine hI.upd d o' x n t _ _ _ none ⟨SW.2.1,SW.2.2.1,SW.2.2.2,by simp_all⟩ (fun k hk _=>?_) (fun b e=>by cases e) (fun _ _ h=>.inl h) (fun b o hb=>?_) (fun b o e=>by cases e)
  (fun b _ e=>by cases e) CU (fun hu=>absurd hd hu) Li
 .grind [heap_alloc_old]
 .rcases hb with hb | ⟨rfl,_⟩<;>simp_all
end
theorem Bl(g:Gh)(r:Nat)(x:Value)(n:Nat)(t:Bool)(o:Option Nat)(S:Nat->Nat->Prop) :
  (g.upd r x n t o S).ρ r=x/\(g.upd r x n t o S).ln r=n/\(g.upd r x n t o S).tk r=t/\(g.upd r x n t o S).own r=o:=by simp[Gh.upd]
theorem GE(o:Obj)(hb:b=w.heap.size):(w.alloc o).heap[b]?=some o:=by grind [heap_alloc_new]
theorem A3.cptr_row{w:World}(hb:w.heap[b]?=some (.cells vs E f))(hr:Cg g w DR cs vs.toList)(hS:∀o,o<cs.length->g.S b o):A3 g w U (.cptr cs) (.pointer (some ⟨b,0,none⟩)):=by
 refine .cptr U cs b 0 (fun j=>vs[j]?.getD default) (fun j av hj=>?_) (fun j av hj=>?_)
 .grind [FG,Cg.at]
 .obtain⟨x,x1,x2,x3⟩:=hr.at hj;rw[Be]at x1;rw[x1];exact x3
theorem A3.slice_off{w:World}(hb:w.heap[b]?=some (.cells vs E f))(hl:∀cs∈es,cs.length=sz)(hc:es.length<=cap)(hr:Cg g w DR es.flatten ((vs.toList.drop off).take (es.length*sz)))(hS:∀o,o<es.length*sz->g.S b (off+o)):A3 g w U (.slice .none es) (.slice (some ⟨b,off,none⟩) es.length cap):=by
 have key:∀(i:Nat) (cs:List AV) (j:Nat) (av:AV),es[i]?=some cs->cs[j]?=some av->∃x,vs[off+(i*sz+j)]?=some x/\x.oneCell'=true/\A3 g w DR av x/\i*sz+j<es.length*sz:=by
  intro i cs j av h1 h2;have hcl:=hl cs (Ax h1);have hj:j<sz:=aa1
  have hi:=(AE.1 h1).1;have BW:i*sz+j<es.length*sz:=by
   have:=AZ sz (show i+1<=es.length from hi)
   grind
  have hf:=E1 hl h1 hj
  grind [Cg.at]
 refine .slice U es b off sz cap (fun i j=>vs[off+(i*sz+j)]?.getD default) hc (fun i cs h=>hl cs (Ax h)) (fun i cs j av h1 h2=>?_) (fun i cs j av h1 h2=>?_)
 .grind [FG]
 .obtain⟨x,x1,x2,x3,x4⟩:=key i cs j av h1 h2;rw[x1];exact x3
theorem A3.slice_row{w:World}(hb:w.heap[b]?=some (.cells vs E f))(hl:∀cs∈es,cs.length=sz)(hc:es.length<=cap)(hr:Cg g w DR es.flatten (vs.toList.take (es.length*sz)))(hS:∀o,o<es.length*sz->g.S b o):A3 g w U (.slice .none es) (.slice (some ⟨b,0,none⟩) es.length cap):=by
 have key:∀(i:Nat) (cs:List AV) (j:Nat) (av:AV),es[i]?=some cs->cs[j]?=some av->∃x,vs[i*sz+j]?=some x/\x.oneCell'=true/\A3 g w DR av x/\i*sz+j<es.length*sz:=by
  intro i cs j av h1 h2;have hcl:=hl cs (Ax h1);have hj:j<sz:=aa1
  have hi:=(AE.1 h1).1;have BW:i*sz+j<es.length*sz:=by
   have:=AZ sz (show i+1<=es.length from hi)
   grind
  have hf:=E1 hl h1 hj
  grind [Cg.at]
 refine .slice U es b 0 sz cap (fun i j=>vs[i*sz+j]?.getD default) hc (fun i cs h=>hl cs (Ax h)) (fun i cs j av h1 h2=>?_) (fun i cs j av h1 h2=>?_)
 .grind [FG]
 .obtain⟨x,x1,x2,x3,x4⟩:=key i cs j av h1 h2;rw[x1];exact x3
section
variable {P:Program}{w0:World}{g0:Gh}{h0 h:Nat->HO}{g:Gh}{w:World}
theorem QW(hI:CA w0 g0 h0 h g w){d:Nat}(hd:h d=.free)(E:TypeId)(hr:Cg g w (AI h) cs vs.toList) :
  ∃g',CA w0 g0 h0 (AP h d (.cells cs)) g' (w.alloc (.cells vs E (0,0)))/\Le h g w (AP h d (.cells cs)) g' (w.alloc (.cells vs E (0,0))) /\
   A3 g' (w.alloc (.cells vs E (0,0))) (AI (AP h d (.cells cs))) (.ref d 0) (.pointer (some ⟨w.heap.size,0,none⟩)):=by
 obtain⟨k1,k2⟩:=hI.newOwn hd (.cells cs) (.cells vs E (0,0)) (.pointer (some ⟨w.heap.size,0,none⟩)) 0 false w ⟨rfl,rfl,rfl,rfl⟩ aa0 (fun hg hk=>by
  obtain⟨u1,u2,u3,u4⟩:=Bl g d (.pointer (some ⟨w.heap.size,0,none⟩)) 0 false (some w.heap.size) g.S;exact⟨u3,w.heap.size,E,vs,u4,u1,GE w _ rfl,hr.mono hk (fun i hi=>Do aa0 i hi) hg,fun o ho=>by have:=hI.slt _ _ ho;omega⟩)
 refine⟨_,k1,k2,.ref _ d 0 w.heap.size (by unfold AI;rw[A2];simp) ?_ ?_⟩
 .simp[Gh.upd]
 .simp[Gh.upd]
theorem jy(hI:CA w0 g0 h0 h g w){d:Nat}(hd:h d=.free)(E:TypeId)(hr:Cg g w DR cs vs.toList) :
  ∃g',CA w0 g0 h0 (AP h d (.ro cs)) g' (w.alloc (.cells vs E (0,0)))/\Le h g w (AP h d (.ro cs)) g' (w.alloc (.cells vs E (0,0))) /\
   A3 g' (w.alloc (.cells vs E (0,0))) (AI (AP h d (.ro cs))) (.ref d 0) (.pointer (some ⟨w.heap.size,0,none⟩)):=by
 obtain⟨k1,k2⟩:=hI.newStable hd (.ro cs) vs E cs.length (.pointer (some ⟨w.heap.size,0,none⟩)) 0 false w ⟨rfl,rfl,rfl,rfl⟩ aa0 (fun hg hk=>by
  obtain⟨u1,u2,u3,u4⟩:=Bl g d (.pointer (some ⟨w.heap.size,0,none⟩)) 0 false none (g.more w.heap.size cs.length);exact⟨u3,w.heap.size,u1,A3.cptr_row (GE w _ rfl) (hr.mono hk (fun _ h=>h) (fun _ h=>h.elim)) (fun o ho=>.inr ⟨rfl,ho⟩)⟩)
 refine⟨_,k1,k2,.ref _ d 0 w.heap.size (by unfold AI;rw[A2];simp) ?_ ?_⟩
 .simp[Gh.upd]
 .simp[Gh.upd]
theorem Ju(hI:CA w0 g0 h0 h g w){d:Option Nat}{sz:Nat}(hk:EG cx d h sz es K){cap:Nat}(E:TypeId)(hl:∀cs∈es,cs.length=sz)(hc:es.length<=cap)(hs:vs.size=cap*sz)(hr:Cg g w DR es.flatten (vs.toList.take (es.length*sz)))(w1:World)(SW:w1.heap=w.heap/\w1.os=w.os/\w1.tape=w.tape/\w1.output=w.output) :
  ∃g' av h',K av h'/\CA w0 g0 h0 h' g' (w1.alloc (.cells vs E (0,0)))/\Le h g w h' g' (w1.alloc (.cells vs E (0,0))) /\
   A3 g' (w1.alloc (.cells vs E (0,0))) (AI h') av (.slice (some ⟨w.heap.size,0,none⟩) es.length cap):=by
 have Db:(w1.alloc (.cells vs E (0,0))).heap[w.heap.size]?=some (.cells vs E (0,0)):=GE w1 _ Wk;unfold EG at hk;split at hk
 .simp_all
 .rename_i d;generalize JD cx d=d1 at hk;split at hk
  .rename_i hd;split at hk
   .obtain⟨k1,k2⟩:=hI.newOwn hd (.arr sz es) (.cells vs E (0,0)) (.slice (some ⟨w.heap.size,0,none⟩) es.length cap) es.length true w1 SW aa0 (fun hg If=>by
     obtain⟨u1,u2,u3,u4⟩:=Bl g d1 (.slice (some ⟨w.heap.size,0,none⟩) es.length cap) es.length true (some w.heap.size) g.S;exact⟨u3,u2,hl,.inr ⟨w.heap.size,cap,E,vs,u1,u4,hc,Db,hs,hr.mono If (fun _ h=>h) (fun _ h=>h.elim),fun o ho=>by have:=hI.slt _ _ ho;omega⟩⟩)
    refine⟨_,_,_,hk,k1,k2,.msl _ d1 es.length _ cap (by unfold AI;rw[A2];simp) ?_ ?_ (.inr ⟨_,rfl⟩) ?_⟩<;>simp[Gh.upd]
   .by_cases oH:es.length=cap
    .obtain⟨k1,k2⟩:=hI.newStable hd (.tok sz es.length) vs E (es.length*sz) (.slice (some ⟨w.heap.size,0,none⟩) es.length cap) es.length true w1 SW aa0 (fun hg If=>by
      obtain⟨u1,u2,u3,u4⟩:=Bl g d1 (.slice (some ⟨w.heap.size,0,none⟩) es.length cap) es.length true none (g.more w.heap.size (es.length*sz));exact⟨u3,u2,_,cap,u1,.inl ⟨oH,u4⟩⟩)
     refine⟨_,_,_,hk,k1,k2,.tok _ d1 sz es _ (A3.slice_row Db hl hc (hr.mono k2.keeps (fun _ h=>h) (fun _ h=>h.elim)) (fun o ho=>.inr ⟨rfl,ho⟩)) hl (by grind [AI,A2]) ?_ ?_ ?_⟩<;>simp[Gh.upd]
    .have rK:=hI.upd d1 (.tok sz es.length) (.slice (some ⟨w.heap.size,0,none⟩) es.length cap) es.length true (some w.heap.size) (g.more w.heap.size (es.length*sz)) (w1.alloc (.cells vs E (0,0))) none
      ⟨SW.2.1,SW.2.2.1,SW.2.2.2,by simp_all⟩ (fun k hk' _=>by grind [heap_alloc_old]) (fun b e=>by cases e) (fun _ _ h=>.inl h)
      (fun b o hb=>by
       rcases hb with hb | ⟨rfl,_⟩<;>simp_all) (fun b o e=>by cases e)
      (fun b _ e=>by simp_all) aa0 (fun hu=>absurd hd hu) (fun hg If=>by
       obtain⟨u1,u2,u3,u4⟩:=Bl g d1 (.slice (some ⟨w.heap.size,0,none⟩) es.length cap) es.length true (some w.heap.size) (g.more w.heap.size (es.length*sz));exact⟨u3,u2,_,cap,u1,.inr ⟨hc,w.heap.size,E,vs,0,rfl,u4,.of Db,by omega,fun o ho=>by
        rcases ho with ho | ⟨_,ho⟩
        .have:=hI.slt _ _ ho;omega
        .omega⟩⟩)
     obtain⟨k1,k2⟩:=rK;refine⟨_,_,_,hk,k1,k2,.tok _ d1 sz es _ (A3.slice_row Db hl hc (hr.mono k2.keeps (fun _ h=>h) (fun _ h=>h.elim)) (fun o ho=>.inr ⟨rfl,ho⟩)) hl (by grind [AI,A2]) ?_ ?_ ?_⟩<;>simp[Gh.upd]
  .exact hk.elim
end
theorem MF{α:Type}:∀(cs:List α) (o:Nat) (vs:List α),o+vs.length<=cs.length->over cs o vs=cs.take o++vs++cs.drop (o+vs.length)
 | [],o,vs,h=>by
  simp at h;obtain⟨rfl,rfl⟩:=h
  rfl
 |c::cs,o+1,vs,h=>by
  rw[over,MF cs o vs aa1]
  grind
 |c::cs,0,[],h=>by simp[over]
 |c::cs,0,v::vs,h=>by
  rw[over,MF cs 0 vs Wk];simp
theorem Vj(cs:List α)(o n:Nat)(vs:List α)(h:o+vs.length<=n)(hn:n<=cs.length):(over cs o vs).take n=over (cs.take n) o vs:=by
 apply Cr
 grind [Gc]
theorem LC{n:Nat}:∀{es:List (List α)},(∀c∈es,c.length=n)->∀{i:Nat} {c:List α},es[i]?=some c->∀(o:Nat) (vs:List α),o+vs.length<=n ->
  (es.set i (over c o vs)).flatten=over es.flatten (i*n+o) vs
 | [],_,i,c,h,_,_,_=>by simp_all
 |d::es,hl,i,c,h,o,vs,Ig=>by
  have hd:=hl d (Ae ..);have hfl:=CZ (es:=d::es) (n:=n) hl;have BW:=(AE.1 h).1;have yW:i*n+o+vs.length<=(d::es).flatten.length:=by
   rw[hfl]
   have:=AZ n (show i+1<=(d::es).length from BW)
   grind
  have hcl:=hl c (Ax h);apply Cr;intro j;rw[Gc _ _ _ _ yW];have ND:∀e∈(d::es).set i (over c o vs),e.length=n:=fun e he=>by
   rcases List.mem_or_eq_of_mem_set he with he | rfl
   .grind
   .rw[FI];exact hcl
  by_cases hn:n=0
  .subst hn;have h1:=CZ ND;simp_all
  .have hdm:j=j / n*n+j % n:=by rw[Nj];exact(Nat.div_add_mod j n).symm
   have tT:j % n<n:=Nat.mod_lt _ B0
   by_cases hj:j / n<(d::es).length
   .have g1:(d::es)[j / n]?=some ((d::es)[j / n]):=Aw hj;have g2:((d::es).set i (over c o vs))[j / n]?=some (if i=j / n then over c o vs else(d::es)[j / n]):=by
     grind
    have f1:=E1 hl g1 tT;have f2:=E1 ND g2 tT;rw[<-hdm]at f1 f2;rw[f1,f2];split
    .rename_i e;rw[e]at h;rw[g1]at h;cases h;rw[Gc _ _ _ _ B0];have e2:i*n+o<=j↔o<=j % n:=by rw[e];omega
     have e3:j<i*n+o+vs.length↔j % n<o+vs.length:=by rw[e];omega
     simp only[e2,e3];split
     .congr 1;rw[e];omega
     .rfl
    .rename_i e
     have:¬(i*n+o<=j/\j<i*n+o+vs.length):=by
      rintro⟨q1,q2⟩
      apply e;have a1:i*n<=j:=B0
      have a2:j<(i+1)*n:=aa1
      have:=(Nat.le_div_iff_mul_le B0).2 a1
      have:=(Nat.div_lt_iff_lt_mul B0).2 a2
      omega
     grind
   .have WT:(d::es).length*n<=j:=by
     have:=Nat.not_lt.1 hj
     have:=(Nat.le_div_iff_mul_le B0).1 this
     omega
    have:¬(i*n+o<=j/\j<i*n+o+vs.length):=B0
    rw[AB this,EI (by rw[CZ ND,G9];exact WT),EI B0]
theorem Pb{P:Program}(hT:Cb P T)(w:World){t:Nat}{x:Value}(hd:(T t).d≠.other)(hs:x.cells.toList.length=(T t).size)(h1:∀v∈x.cells.toList,v.oneCell'=true)(hb:w.heap[b]?=some (.cells Dn E (0,0)))(Ig:off+x.cells.toList.length<=Dn.size) :
  (Instr.storeAt t (.pointer (some ⟨b,off,none⟩)) x).run P w=.ok () (w.setRow b (over Dn.toList off x.cells.toList).toArray):=by
 have IM:=run_storeCells_at P b off E x.cells.toList 0 Dn w hb B0 h1;simp only[Dp]at IM;have ao : x.cells.size=(T t).size:=B0
 rw[MF _ _ _ B0];simp only[Instr.storeAt,Sem.run_bind,Instr.sureAddr,Sem.run_pure,Result.andThen_ok,storeVar,hT.size w hd,ao,ne_eq,not_true_eq_false,if_false];exact IM
section
variable {P:Program}{w0:World}{g0:Gh}{h0 h:Nat->HO}{g:Gh}{w:World}(hI:CA w0 g0 h0 h g w)
include hI
theorem dt{d:Nat}(hd:h d=.free)(h1:h 1001=.free)(hn:d≠1001)(hv:vs=#[.pointer none,.slice none 0 0]) :
  ∃g',CA w0 g0 h0 (AP (AP h 1001 (.bbf 0)) d (.bld (.slice (.id 1001 1) []))) g' (w.alloc (.cells vs W9 (0,0)))/\Le h g w (AP (AP h 1001 (.bbf 0)) d (.bld (.slice (.id 1001 1) []))) g' (w.alloc (.cells vs W9 (0,0))) /\
   A3 g' (w.alloc (.cells vs W9 (0,0))) (AI (AP (AP h 1001 (.bbf 0)) d (.bld (.slice (.id 1001 1) [])))) (.ref d 0) (.pointer (some ⟨w.heap.size,0,none⟩)):=by
 obtain⟨k1,k2⟩:=hI.upd 1001 (.bbf 0) (.slice none 0 0) 0 true none g.S w none ⟨rfl,rfl,rfl,Ai _⟩ (fun _ _ _=>rfl) (fun b e=>by cases e) (fun _ _ h=>h) (fun _ _ h=>.inl h) (fun b o e=>by cases e)
  (fun b _ e=>by cases e) aa0 (fun hu=>absurd h1 hu) (fun _ _=>⟨by simp[Gh.upd],by simp[Gh.upd],.inl ⟨rfl,by simp[Gh.upd],by simp[Gh.upd]⟩⟩)
 obtain⟨m1,m2⟩:=k1.newOwn (d:=d) (by grind [BQ]) (.bld (.slice (.id 1001 1) [])) (.cells vs W9 (0,0)) (.pointer (some ⟨w.heap.size,0,none⟩)) 0 false w ⟨rfl,rfl,rfl,rfl⟩ aa0
  (fun _ _=>by
   subst hv;refine⟨by simp[Gh.upd],w.heap.size,.pointer none,.slice none 0 0,by simp[Gh.upd],by simp[Gh.upd],heap_alloc_new w _,.inl rfl,?_,fun o hs=>?_⟩
   .refine .tok _ 1001 1 [] _ (.snil _ _ _) aa0 ?_ ?_ (Ao _) (fun _=>?_)
    .grind [AI,BQ,A2]
    .simp[Gh.upd,Ne.symm hn]
    .simp[Gh.upd,Ne.symm hn]
   .have:=hI.slt _ _ hs;omega)
 exact⟨_,m1,k2.trans m2,.ref _ d 0 w.heap.size (by grind [AI,A2]) (by simp[Gh.upd]) (by simp[Gh.upd])⟩
theorem dg(hT:Cb P T){d:Option Nat}{e:Nat}(hk:RV T d h e K):Ni P w0 g0 h0 h g w (Instr.alloc e true (.tuple #[])) K:=by
 unfold RV at hk;split at hk
 .simp_all
 .split at hk
  .rename_i hd;split at hk
   .simp_all
   .rename_i CU;split at hk
    .rename_i he;obtain rfl:=AT he;split at hk
     .rename_i h1 hn hz;obtain⟨z,z1,z2,_⟩:=Ml hT (w:=w) CU;have hv:z.cells=#[.pointer none,.slice none 0 0]:=aa1
      obtain⟨g',k1,k2,k3⟩:=dt hI hd h1 (fun e=>by simp_all) hv;refine⟨_,_,g',_,_,?_,hk,k1,k2,k3⟩;simp[Instr.alloc,z1,newVar,newRow]
     simp_all
    split at hk
    .rename_i ha;obtain⟨z,z1,z2,_⟩:=Ml hT (w:=w) CU;have hr:Cg g w (AI h) ((T e).zc.map .v) z.cells.toList:=by grind [Cg.vals]
     obtain⟨g',k1,k2,k3⟩:=QW hI hd (vs:=z.cells) e hr;refine⟨_,_,g',_,_,?_,hk,k1,k2,k3⟩;simp[Instr.alloc,z1,newVar,newRow]
    simp_all
  simp_all
theorem Pf{vs:List Value}(hr:Cg g w (AI h) cs vs):Cg g w DR (cs.map (str h)) vs:=by
 refine⟨by rw[AW];exact hr.1,hr.2.1,fun i av x h1 h2=>?_⟩;rw[BE,B1]at h1;obtain⟨a,a1,rfl⟩:=h1;exact(hr.2.2 i a x a1 h2).str hI.objs
theorem lE{d:Option Nat}{e:Nat}{x:AV}(hx:A3 g w (AI h) x vx)(hk:dv cx d h e x K):Ni P w0 g0 h0 h g w (Instr.box e vx) K:=by
 unfold dv at hk;split at hk
 .simp_all
 .split at hk
  .rename_i hd;split at hk
   .simp_all
   .obtain⟨cs,hk,hn,hr⟩:=Mp hx hk;split at hk
    .obtain⟨g',k1,k2,k3⟩:=jy hI hd (vs:=vx.cells) e (Pf hI hr);exact⟨_,_,g',_,_,rfl,hk,k1,k2,k3⟩
    .obtain⟨g',k1,k2,k3⟩:=QW hI hd (vs:=vx.cells) e hr;exact⟨_,_,g',_,_,rfl,hk,k1,k2,k3⟩
  simp_all
theorem CA.write{r b:Nat}(hl:(h r).live)(ho:g.own r=some b)(o' : HO)(hb:w.heap[b]?=some (.cells Dn E (0,0)))(new:Array Value)(n:Nat)(ow:Option Nat)(S' : Nat->Nat->Prop)(CU:o'≠.free)(hn:n=g.ln r)(zl:∀b',ow=some b'->b'=b)(hS:∀b o,g.S b o->S' b o)(yi:∀b' o,S' b' o->g.S b' o\/b'=b)(bQ:∀o,g.S b o->new[o]?=Dn[o]?)(Li:JA g (g.upd r (g.ρ r) n (g.tk r) ow S') (AI h)->D2 g w (g.upd r (g.ρ r) n (g.tk r) ow S') (w.setRow b new)->(w.setRow b new).heap[b]?=some (.cells new E (0,0)) ->
   DD (g.upd r (g.ρ r) n (g.tk r) ow S') (w.setRow b new) (AI (AP h r o')) r o') :
  CA w0 g0 h0 (AP h r o') (g.upd r (g.ρ r) n (g.tk r) ow S') (w.setRow b new)/\Le h g w (AP h r o') (g.upd r (g.ρ r) n (g.tk r) ow S') (w.setRow b new):=by
 have Db:=setRow_heap w b Dn new E (0,0) hb;have BW:=(hI.loc r b hl ho).1
 refine hI.upd r o' _ _ _ _ _ _ (some b) ⟨rfl,rfl,rfl,by simp_all⟩ (fun k hk CU=>setRow_other w b k new (fun e=>CU (by rw[e]))) (fun b' e=>by simp_all) hS (fun b' o hs=>?_)
  (fun b' o e hs=>?_) (fun b' _ e=>?_) CU (fun _=>⟨rfl,by omega,fun _=>rfl,fun _=>rfl⟩) (fun hg hk=>Li hg hk Db)
 all_goals grind [FG]
theorem gm(hT:Cb P cx.T){t:Nat}{p x:AV}{vp:Value}(hp:A3 g w (AI h) p vp)(hx:A3 g w (AI h) x vx)(hk:NU cx h t p x K) :
  gA P w0 g0 h0 h g w (Instr.storeAt t vp vx) K:=by
 unfold NU at hk;split at hk
 .simp_all
 .rename_i hd;have h5:=Mp hx hk
  clear hk
  obtain⟨vs,hk,hn,hr⟩:=h5;have CF:vx.cells.toList.length=vs.length:=hr.1;split at hk
  .rename_i r off;have ho:=hI.objs r;split at hk
   .rename_i cs e;obtain⟨Ig,hk⟩:=hk;rw[e]at ho;obtain⟨t0,b,E,Dn,a1,a2,a3,a4,a5⟩:=ho;cases hp with
    |ref _ _ _ b' hu ht oR=>
     rw[a2]at oR;cases oR;have hcs:Dn.toList.length=cs.length:=a4.1;have Cu:=Pb hT w (t:=t) (off:=off) (x:=vx) hd B0 hr.2.1 a3 Wk;have hl:(h r).live:=by rw[e];trivial
     have qz:=a4.over hr off Ig;split at hk
     .obtain⟨k1,k2⟩:=hI.write hl a1 (.ro ((over cs off vs).map (str h))) a3 (over Dn.toList off vx.cells.toList).toArray (g.ln r) none (g.more b cs.length) aa0 rfl (fun _ e=>by cases e) (fun _ _ h=>.inl h)
       (fun b' o hs=>hs.elim .inl (fun hs=>.inr hs.1)) (fun o hs=>absurd hs (a5 o)) (fun hg If Db=>by
        obtain⟨u1,u2,u3,u4⟩:=Bl g r (g.ρ r) (g.ln r) (g.tk r) none (g.more b cs.length);refine⟨u3.trans t0,b,u1.trans a2,A3.cptr_row Db ?_ (fun o ho=>.inr ⟨rfl,?_⟩)⟩
        .exact(Pf hI qz).mono If (fun _ h=>h) (fun _ h=>h.elim)
        grind [FI])
      exact⟨_,_,_,Cu,hk,k1,k2⟩
     .obtain⟨k1,k2⟩:=hI.write hl a1 (.cells (over cs off vs)) a3 (over Dn.toList off vx.cells.toList).toArray (g.ln r) (g.own r) g.S aa0 rfl (fun b' e=>by simp_all) (fun _ _ h=>h)
       (fun b' o hs=>.inl hs) (fun o hs=>absurd hs (a5 o)) (fun hg If Db=>by
        obtain⟨u1,u2,u3,u4⟩:=Bl g r (g.ρ r) (g.ln r) (g.tk r) (g.own r) g.S;exact⟨u3.trans t0,b,E,_,u4.trans a1,u1.trans a2,Db,qz.mono If (fun i hi=>Do aa0 i hi) hg,a5⟩)
      exact⟨_,_,_,Cu,hk,k1,k2⟩
   simp_all
  .rename_i r n sz i off;have ho:=hI.objs r;split at hk
   .rename_i GS es e;rw[e]at ho;split at hk
    .rename_i hz;obtain rfl:=AT hz;obtain⟨hnl,cs,hi,Ig,hk⟩:=hk;obtain⟨t1,l1,al,a1⟩:=ho;have BW:=(AE.1 hi).1;rcases a1 with ⟨rfl,_⟩ | ⟨b,cap,E,Dn,e1,e2,e3,e4,e5,e6,e7⟩
     .simp_all
     .cases hp with
      |eref _ _ _ _ _ _ b' Ko hu ht bS oR=>
       have oR:=oR (hnl.trans l1.symm);rw[e1]at oR;simp only[Value.slice.injEq,Dq,Addr.mk.injEq]at oR;obtain⟨⟨rfl,_,_⟩,_,_⟩:=oR;have hcl:=al cs (Ax hi);have Wf:i*sz+sz<=es.length*sz:=by
        have:=AZ sz (show i+1<=es.length from BW)
        grind
       have oN:es.length*sz<=cap*sz:=AZ sz e3;have Cu:=Pb hT w (t:=t) (off:=i*sz+off) (x:=vx) hd B0 hr.2.1 e4 B0;have hl:(h r).live:=by rw[e];trivial
       have ti : ∀c∈es.set i (over cs off (vs.map (str h))),c.length=sz:=fun c hc=>by
        rcases List.mem_or_eq_of_mem_set hc with hc | rfl
        .simp_all
        .rw[FI];exact hcl
       have hfl:=LC al hi off (vs.map (str h)) Wk;have mw:Dn.toList.length=cap*sz:=B0
       have wy:((over Dn.toList (i*sz+off) vx.cells.toList).toArray.toList.take ((es.set i (over cs off (vs.map (str h)))).length*sz))=over (Dn.toList.take (es.length*sz)) (i*sz+off) vx.cells.toList:=by
        rw[G9];exact Vj _ _ _ _ B0 B0
       have qz:Cg g w DR (es.set i (over cs off (vs.map (str h)))).flatten ((over Dn.toList (i*sz+off) vx.cells.toList).toArray.toList.take ((es.set i (over cs off (vs.map (str h)))).length*sz)):=by
        rw[wy,hfl];exact e6.over (Pf hI hr) _ (by rw[AW,CZ al];omega)
       split at hk
       .rename_i j m;have ja:∃x0,vx.cells.toList=[x0]:=by
         revert CF
         cases vx.cells.toList with
         |nil=>grind
         |cons x0 l=>simp_all
        obtain⟨x0,ja⟩:=ja;have DH:=hr.2.2 0 (.msl j m) x0 rfl aa1
        obtain⟨k1,k2⟩:=hI.write hl e2 (.hol sz (es.set i (over cs off [.junk])) i off (.msl j m)) e4 (over Dn.toList (i*sz+off) vx.cells.toList).toArray (g.ln r) (g.own r) g.S aa0 rfl (fun b' e=>by simp_all) (fun _ _ h=>h)
         (fun b' o hs=>.inl hs) (fun o hs=>absurd hs (e7 o)) (fun hg If Db=>by
          obtain⟨u1,u2,u3,u4⟩:=Bl g r (g.ρ r) (g.ln r) (g.tk r) (g.own r) g.S;have AdQ:i*sz+off<es.length*sz:=aa1
          refine⟨u3.trans t1,u2.trans Wk,ti,b,cap,E,_,?_,u4.trans e2,by simp_all,Db,?_,qz.mono If (fun _ h=>h) (fun _ h=>h.elim),e7,by simp_all,x0,?_,DH.mono If (fun i hi=>Do aa0 i hi) hg⟩
          .simp_all
          .simp only[List.size_toArray,FI,Array.length_toList];exact e5
          .rw[<-Be,ja,Gc _ _ _ _ aa1,As ⟨Ai _,by grind⟩,DF];rfl)
        exact⟨_,_,_,Cu,hk,k1,k2⟩
       .obtain⟨k1,k2⟩:=hI.write hl e2 (.arr sz (es.set i (over cs off (vs.map (str h))))) e4 (over Dn.toList (i*sz+off) vx.cells.toList).toArray (g.ln r) (g.own r) g.S aa0 rfl (fun b' e=>by simp_all) (fun _ _ h=>h)
         (fun b' o hs=>.inl hs) (fun o hs=>absurd hs (e7 o)) (fun hg If Db=>by
          obtain⟨u1,u2,u3,u4⟩:=Bl g r (g.ρ r) (g.ln r) (g.tk r) (g.own r) g.S;refine⟨u3.trans t1,u2.trans Wk,ti,.inr ⟨b,cap,E,_,?_,u4.trans e2,by simp_all,Db,?_,qz.mono If (fun _ h=>h) (fun _ h=>h.elim),e7⟩⟩
          all_goals grind [FI])
        exact⟨_,_,_,Cu,hk,k1,k2⟩
    simp_all
   simp_all
  simp_all
end
theorem fH(c vs:List α)(h:vs.length=c.length):over c 0 vs=vs:=by
 grind [MF]
theorem Hv[Inhabited α](z:List α)(hz:z≠[]):(List.replicate n z).flatten=(List.range (n*z.length)).map fun k=>z[k % z.length]!:=by
 have hl:∀c∈List.replicate n z,c.length=z.length:=fun c hc=>by simp_all
 have t6:0<z.length:=List.length_pos_iff.2 hz;apply Cr;intro k
 by_cases hk:k<n*z.length
 all_goals grind [Nat.mul_comm,Nat.div_add_mod,Nat.mod_lt,Nat.div_lt_iff_lt_mul,E1,CZ,List.length_map,List.length_range]
section
variable {P:Program}{w0:World}{g0:Gh}{h0 h:Nat->HO}{g:Gh}{w:World}(hI:CA w0 g0 h0 h g w)
include hI
theorem Xw{n sz:Nat}{t:Nat->AV}{ρ:Operand->Value}(ht:∀x:Operand,A3 g w (AI h) (ev t x) (ρ x)) :
  ∀{ps:List (Nat×Operand)} {es:List (List AV)} {xs:Array Value} {K:List (List AV)->Prop},es.length=n->(∀c∈es,c.length=sz)->Cg g w DR es.flatten xs.toList->QI n sz h es t ps K ->
   ∃Fp WQ,K Fp/\Fp.length=n/\(∀c∈Fp,c.length=sz)/\Cg g w DR Fp.flatten WQ.toList/\Instr.fill (fun i=>some (i*sz,sz)) xs (ps.map fun(i,x)=>(i,ρ x))=some WQ
 | [],es,xs,K,hn,hl,h,hk=>⟨es,xs,hk,hn,hl,h,rfl⟩
 |(i,x)::ps,es,xs,K,hn,hl,h,hk=>by
  unfold QI at hk;split at hk
  .rename_i hi;have hi:i<n:=Ak hi;have h5:=Mp (ht x) hk
   clear hk
   obtain⟨Ug,hk,hna,hr⟩:=h5;have EQ:(ρ x).cells.size=sz:=by rw[<-hna];simpa using hr.1
   have JZ:=Pf hI hr;obtain⟨c,hc⟩:∃c,es[i]?=some c:=⟨_,Aw B0⟩;have hcl:=hl c (Ax hc);have Ig:i*sz+sz<=es.flatten.length:=by
    rw[CZ hl,hn]
    have:=AZ sz (show i+1<=n from hi)
    grind
   have hfl:=LC hl hc 0 (Ug.map (str ‹Nat->HO›)) Wk;rw[fH _ _ Wk,Dp]at hfl;have Db:=h.over JZ (i*sz) Wk;have mL:xs.size=es.flatten.length:=by have:=h.1;omega
   have e:=Ny (ρ x).cells.toList 0 (i*sz) xs Wk;simp only[Dp]at e;rw[<-e,<-hfl]at Db;obtain⟨Fp,WQ,k1,k2,k3,k4,k5⟩:=Xw ht (es:=es.set i (Ug.map (str _))) Wk (fun c' yx=>by
    grind) Db hk
   refine⟨Fp,WQ,k1,k2,k3,k4,?_⟩;simp only[Bb,Instr.fill]
   grind [Array.toList_zipIdx]
  simp_all
theorem Sd(hT:Cb P cx.T){d:Option Nat}{ty n:Nat}{t:Nat->AV}{ρ:Operand->Value}(ht:∀x:Operand,A3 g w (AI h) (ev t x) (ρ x)){ps:Array (Nat×Operand)}(hk:H5 cx d h ty n t ps.toList K):Ni P w0 g0 h0 h g w (Instr.buildSlice ty n (ps.map fun(i,x)=>(i,ρ x))) K:=by
 unfold H5 at hk;split at hk
 .rename_i e hs;split at hk
  .rename_i Ho WU;have WU:=AT WU;split at hk
   .simp_all
   .rename_i m hm;split at hk
    .rename_i Ig;have Ig:=Ak Ig;have T6:(cx.T e).zc≠[]:=fun e0=>by simp_all
     have wj:∀c∈List.replicate n ((cx.T e).zc.map AV.v),c.length=(cx.T e).size:=fun c hc=>by simp_all
     have tJ:Cg g w DR (List.replicate n ((cx.T e).zc.map AV.v)).flatten ((Array.range (n*(cx.T e).size)).map fun k=>(cx.T e).zc.toArray[k % (cx.T e).zc.toArray.size]!).toList:=by
      have e1:((Array.range (n*(cx.T e).size)).map fun k=>(cx.T e).zc.toArray[k % (cx.T e).zc.toArray.size]!).toList=(List.replicate n (cx.T e).zc).flatten:=by
       rw[Hv n _ T6];simp_all
      have e2:(List.replicate n ((cx.T e).zc.map AV.v)).flatten=(List.replicate n (cx.T e).zc).flatten.map AV.v:=by
       simp_all
      rw[e1,e2];refine Cg.vals ?_;have GP:∀l:List AV,(∀a∈l,one a=true)->Gu l=true:=by
       intro l
       induction l<;>grind [Gu]
      grind [Mm]
     obtain⟨Fp,WQ,k1,k2,k3,k4,k5⟩:=Xw hI ht Wk wj tJ hk;have mL:WQ.size=n*(cx.T e).size:=by
      have:=k4.1
      grind [CZ]
     obtain⟨g',av,h',q1,q2,q3,q4⟩:=Ju hI k1 (vs:=WQ) (cap:=n) e k3 B0 mL (by
      grind [Array.length_toList]) w ⟨rfl,rfl,rfl,rfl⟩
     rw[k2]at q4;refine⟨_,_,g',av,h',?_,q1,q2,q3,q4⟩;obtain⟨z,z1,z2⟩:=Vx hT (w:=w) hm;have EQ:=hT.size1 w hm;have e3:(Array.map (fun x:Nat×Operand=>match x with | (i,x)=>(i,ρ x)) ps).toList=ps.toList.map fun(i,x)=>(i,ρ x):=aa0
     have zf:¬(n*(m+1)>2 ^ 24):=Wk
     simp only[Instr.buildSlice,Sem.run_bind,run_underlying (hT.slice hs),Result.andThen_ok,EQ,AB zf];rw[e3];rw[hm]at k5
     by_cases h0:n*(m+1)=0
     .have rQ:n=0:=by
       grind
      subst rQ;have er:Array.range 0=#[]:=rfl;simp only[Nl,er,List.map_toArray,G4]at k5;simp only[Nl,if_true,er,List.map_toArray,G4,k5];simp[newRow]
     .rw[z2]at k5;simp only[Array.toArray_toList]at k5;simp only[AB h0,Sem.run_bind,z1,Result.andThen_ok,Sem.run_pure,k5];simp[newRow]
    simp_all
  simp_all
 simp_all
end
theorem Fw{sz:Nat}:∀{es:List (List AV)},BX sz es->∀c∈es,c.length=sz
 | [],_,c,h=>by cases h
 |d::es,h,c,hc=>by
  rcases AM.1 hc with rfl | hc
  .exact h.1
  .exact Fw h.2 c hc
def N1(x:Value)(n sz:Nat)(news:List Value):Prop:=
 news.length=n*sz/\(∀v∈news,v.oneCell'=true)/\∃(a:Option Addr) (c:Nat),x=.slice a n c/\(n=0\/∃b:Addr,a=some b/\∀j u,news[j]?=some u->w.cell? (b.add j)=some u)
theorem N1.of_rep{w:World}{x:Value}(h:A3 g w U (.slice .none es) x)(hl:∀c∈es,c.length=sz) :
  ∃news,N1 w x es.length sz news/\Cg g w DR es.flatten news:=by
 cases h with
 |snil _ a cap=>exact⟨[],⟨by simp,by simp,a,cap,rfl,.inl rfl⟩,by simp,by simp,fun i av x h1 h2=>by simp_all⟩
 |slice _ _ b off GS cap val hc Pk Dg DH=>
  have hf:=CZ hl;have key:∀j,j<es.length*sz->∃cs,es[j / sz]?=some cs/\es.flatten[j]?=cs[j % sz]?/\j % sz<cs.length/\GS=sz/\j=j / sz*sz+j % sz:=by
   intro j hj
   grind [Nat.pos_of_ne_zero,Nat.div_add_mod,Nat.div_lt_iff_lt_mul,Nat.mod_lt,E1]
  have yB:∀j,j<es.length*sz->∃av,es.flatten[j]?=some av/\w.cell? ⟨b,off+j,none⟩=some (val (j / sz) (j % sz))/\(val (j / sz) (j % sz)).oneCell'=true/\A3 g w DR av (val (j / sz) (j % sz)):=by
   intro j hj;obtain⟨cs,k1,k2,k3,rfl,k5⟩:=key j hj;have qj:cs[j % GS]?=some cs[j % GS]:=Aw k3;obtain⟨_,c2,c3⟩:=Dg _ _ _ _ k1 qj;rw[Ft,<-k5]at c2;exact⟨_,k2.trans qj,c2,c3,DH _ _ _ _ k1 qj⟩
  refine⟨(List.range (es.length*sz)).map fun j=>val (j / sz) (j % sz),⟨by simp,fun v hv=>?_,some ⟨b,off,none⟩,cap,rfl,.inr ⟨_,rfl,fun j u hu=>?_⟩⟩,by simp_all,fun v hv=>?_,fun i av x h1 h2=>?_⟩
  .grind
  .obtain⟨hj,rfl⟩:=Up hu;rw[Addr.add_lit];simp_all
  all_goals grind
section
variable {P:Program}{T:Gf}(hT:Cb P T)
include hT
theorem Hb{n:Nat}(hs:(T e).size=n+1):∃i z,P.info? e=some i/\i.zero=some z/\i.size=(T e).size/\i.bytes=(T e).bytes/\(T e).zc=z.cells.toList:=by
 rcases hT e with h | h
 .rw[h]at hs;cases hs
 grind [gp,TI.zc_cells]
theorem Ip(w:World){t ty k:Nat}(ht:(T t).d=.slice e)(hk:(T e).size=k+1)(a a' : Option Addr)(n cap c:Nat)(hc:n<=cap) :
  (Builtin.append_ #[t,t] ty #[.slice a n cap,.slice a' 0 c]).run P w=.ok (.slice a n cap) w:=by
 have hu:=hT.slice ht;cases a<;>cases a'<;>simp[Builtin.append_,run_underlying hu,hT.size1 w hk,Builtin.lenOf,hc,Builtin.firstCells,loadCells,loadCellsFrom,storeCells]
theorem Hw(w:World){t ty k:Nat}(ht:(T t).d=.slice e)(hk:(T e).size=k+1)(hz:(T e).zc.length=(T e).size){s x:Value}{n m c:Nat}{olds news:List Value}{a a' : Option Addr}(hso:N1 w s n (T e).size olds)(hs:s=.slice a n cap)(OE:a=none->cap=0)(hsx:N1 w x m (T e).size news)(hx:x=.slice a' m c)(hm:0<m)(hg:cap<n+m)(hb:(n+m)*(T e).bytes<=140737488355328)(h63:n+m<=9223372036854775807) :
  ∃nc rest,(Builtin.append_ #[t,t] ty #[s,x]).run P w=.ok (.slice (some ⟨w.heap.size,0,none⟩) (n+m) nc) (w.drew.alloc (.cells (olds++news++rest).toArray e (0,0)))/\n+m<=nc /\
   (olds++news++rest).length=nc*(T e).size:=by
 obtain⟨i,z,i1,i2,i3,i4,i5⟩:=Hb hT hk;have hu:=hT.slice ht;obtain⟨n1,n2,a1,c1,n3,n4⟩:=hsx;subst hx;cases n3;rcases n4 with h | ⟨b,rfl,HE⟩
 .omega
 .have WU:z.cells.size=(T e).size:=Wk
  have oM:∀(nc:Nat) (pre:List Value),pre.length=(n+m)*(T e).size->n+m<=nc->(pre++(Builtin.zeroCells z.cells (nc-(n+m))).toList).length=nc*(T e).size:=by
   intro nc pre hp Ig;have e1:(Builtin.zeroCells z.cells (nc-(n+m))).toList.length=(nc-(n+m))*(T e).size:=by grind [size_zeroCells]
   rw[Aa,e1,hp,<-H2];simp_all
  obtain⟨o1,o2,a2,c2,o3,o4⟩:=hso;subst hs;cases o3;cases a with
  |none=>
   obtain rfl:=OE rfl;have rQ:n=0:=by
    simp_all
   subst rQ;have ho:olds=[]:=AU B0;subst ho;have hr:=run_append_nil (P:=P) w t ty e i z hu i1 i2 b m c news Wk HE hm B0 aa1;refine⟨grownCap w m 0 e,(Builtin.zeroCells z.cells (grownCap w m 0 e-m)).toList,?_,by rw[Bz];exact grownCap_ge w m 0 e,?_⟩
   .rw[hr,Bz]
    congr 3
    simp_all
   .have:=oM (grownCap w m 0 e) news Wk (by rw[Bz];exact grownCap_ge w m 0 e)
    simp_all
  |some b'=>
   have GZ:∀j u,olds[j]?=some u->w.cell? (b'.add j)=some u:=by
    grind
   have hr:=run_append_grow (P:=P) w t ty e i z hu i1 i2 b' n cap olds Wk GZ b m c news Wk HE hg B0 (by rw[i4];exact growslice_fits hg hb);refine⟨grownCap w (n+m) cap e,(Builtin.zeroCells z.cells (grownCap w (n+m) cap e-(n+m))).toList,?_,grownCap_ge w (n+m) cap e,oM _ _ aa1 (grownCap_ge w (n+m) cap e)⟩;rw[hr]
   congr 3
   simp_all
end
end Go.Eng
