/- Lemmas 7. -/
import Derived.Test.YtkjhcikodmiceaaGreatDoorCA06
namespace Go.Eng
variable {vs:Array Value}{es:C0}{U:Nat->Prop}{E:TypeId}{cs:List AV}{f:Nat×Nat}{K:HK}{b:Nat}{α:Type}{DU:Array Value}{g:D}{cx:Cx}{sz cap e:Nat}{vx:Value}{off:Nat}{T:GL}(P:Program)(w0:World)(g0:D)(n:Nat)(h0 h:Nat->HO)(w:World)
def OS(g:D)(w:World)(m:Sem Value)(K:HK):Prop:=
 ∃x w' g' av h',m.run P w=.ok x w'/\K av h'/\CH w0 g0 h0 h' g' w'/\Le h g w h' g' w'/\O g' w' (L h') av x
def pX(g:D)(w:World)(m:Sem Unit)(K:HK):Prop:=
 ∃w' g' h',m.run P w=.ok () w'/\K (.v undef) h'/\CH w0 g0 h0 h' g' w'/\Le h g w h' g' w'
section
variable {P:Program}{w0:World}{g0:D}{h0 h:Nat->HO}{g:D}{w:World}(hI:CH w0 g0 h0 h g w)
include hI
theorem Bm.does{m:Sem Value}(hg:Bm P h g w m (fun v=>K v h)):OS P w0 g0 h0 h g w m K:=
 let ⟨x,av,h1,h2,h3⟩:=hg
 ⟨x,w,g,av,h,h1,h2,hI,.refl _ _ _,h3⟩
theorem CH.newOwn{d:Nat}(hd:h d=.free)(o' : HO)(ob:Obj)(x:Value)(n:Nat)(t:Bool)(w1:World)(VP:w1.heap=w.heap/\w1.os=w.os/\w1.tape=w.tape/\w1.output=w.output)(Ec:o'≠.free)
  (MC:JA g (g.upd d x n t (some w.heap.size) g.S) (L h)->D8 g w (g.upd d x n t (some w.heap.size) g.S) (w1.alloc ob) ->
   DE (g.upd d x n t (some w.heap.size) g.S) (w1.alloc ob) (L (AS h d o')) d o') :
  CH w0 g0 h0 (AS h d o') (g.upd d x n t (some w.heap.size) g.S) (w1.alloc ob)/\Le h g w (AS h d o') (g.upd d x n t (some w.heap.size) g.S) (w1.alloc ob):=by
 refine hI.upd d o' x n t _ _ _ none ⟨VP.2.1,VP.2.2.1,VP.2.2.2,by simp_all⟩ (fun k hk _=>?_) (fun b e=>by cases e) (fun _ _ h=>h) (fun _ _ h=>.inl h) (fun b o e=>by cases e)
  (fun b _ e=>?_) Ec (fun hu=>absurd hd hu) MC
 all_goals grind [heap_alloc_old,World.size_alloc]
def D.more(g:D)(b n:Nat):Nat->Nat->Prop:=fun b' o=>g.S b' o\/(b'=b/\o<n)
theorem CH.newStable{d:Nat}(hd:h d=.free)(o' : HO)(vs:Array Value)(E:TypeId)(m:Nat)(x:Value)(n:Nat)(t:Bool)(w1:World)(VP:w1.heap=w.heap/\w1.os=w.os/\w1.tape=w.tape/\w1.output=w.output)(Ec:o'≠.free)
  (MC:JA g (g.upd d x n t none (g.more w.heap.size m)) (L h)->D8 g w (g.upd d x n t none (g.more w.heap.size m)) (w1.alloc (.cells vs E (0,0))) ->
   DE (g.upd d x n t none (g.more w.heap.size m)) (w1.alloc (.cells vs E (0,0))) (L (AS h d o')) d o') :
  CH w0 g0 h0 (AS h d o') (g.upd d x n t none (g.more w.heap.size m)) (w1.alloc (.cells vs E (0,0))) /\
   Le h g w (AS h d o') (g.upd d x n t none (g.more w.heap.size m)) (w1.alloc (.cells vs E (0,0))):=by
 refine hI.upd d o' x n t _ _ _ none ⟨VP.2.1,VP.2.2.1,VP.2.2.2,by simp_all⟩ (fun k hk _=>?_) (fun b e=>by cases e) (fun _ _ h=>.inl h) (fun b o hb=>?_) (fun b o e=>by cases e)
  (fun b _ e=>by cases e) Ec (fun hu=>absurd hd hu) MC
 .grind [heap_alloc_old]
 .rcases hb with hb | ⟨rfl,_⟩<;>simp_all
end
theorem Bn(g:D)(r:Nat)(x:Value)(n:Nat)(t:Bool)(o:Option Nat)(S:Nat->Nat->Prop) :
  (g.upd r x n t o S).ρ r=x/\(g.upd r x n t o S).ln r=n/\(g.upd r x n t o S).tk r=t/\(g.upd r x n t o S).own r=o:=by simp[D.upd]
theorem G3(o:Obj)(hb:b=w.heap.size):(w.alloc o).heap[b]?=some o:=by grind [heap_alloc_new]
theorem O.cptr_row{w:World}(hb:w.heap[b]?=some (.cells vs E f))(hr:Cg g w DS cs vs.toList)(hS:∀o,o<cs.length->g.S b o):O g w U (.cptr cs) (.pointer (some ⟨b,0,none⟩)):=by
 refine .cptr U cs b 0 (fun j=>vs[j]?.getD default) (fun j av hj=>?_) (fun j av hj=>?_)
 .grind [Gt,Cg.at]
 .obtain⟨x,x1,x2,x3⟩:=hr.at hj;rw[BY]at x1;rw[x1];exact x3
theorem O.slice_off{w:World}(hb:w.heap[b]?=some (.cells vs E f))(hl:∀cs∈es,cs.length=sz)(hc:es.length<=cap)(hr:Cg g w DS es.flatten ((vs.toList.drop off).take (es.length*sz)))(hS:∀o,o<es.length*sz->g.S b (off+o)):O g w U (.slice .none es) (.slice (some ⟨b,off,none⟩) es.length cap):=by
 have key:∀(i:Nat) (cs:List AV) (j:Nat) (av:AV),es[i]?=some cs->cs[j]?=some av->∃x,vs[off+(i*sz+j)]?=some x/\x.oneCell'=true/\O g w DS av x/\i*sz+j<es.length*sz:=by
  intro i cs j av h1 h2;have hcl:=hl cs (Ax h1);have hj:j<sz:=aa2
  have hi:=(AN.1 h1).1;have CL:i*sz+j<es.length*sz:=by
   have:=A6 sz (show i+1<=es.length from hi)
   grind
  have hf:=Ff hl h1 hj
  grind [Cg.at]
 refine .slice U es b off sz cap (fun i j=>vs[off+(i*sz+j)]?.getD default) hc (fun i cs h=>hl cs (Ax h)) (fun i cs j av h1 h2=>?_) (fun i cs j av h1 h2=>?_)
 .grind [Gt]
 .obtain⟨x,x1,x2,x3,x4⟩:=key i cs j av h1 h2;rw[x1];exact x3
theorem O.slice_row{w:World}(hb:w.heap[b]?=some (.cells vs E f))(hl:∀cs∈es,cs.length=sz)(hc:es.length<=cap)(hr:Cg g w DS es.flatten (vs.toList.take (es.length*sz)))(hS:∀o,o<es.length*sz->g.S b o):O g w U (.slice .none es) (.slice (some ⟨b,0,none⟩) es.length cap):=by
 have key:∀(i:Nat) (cs:List AV) (j:Nat) (av:AV),es[i]?=some cs->cs[j]?=some av->∃x,vs[i*sz+j]?=some x/\x.oneCell'=true/\O g w DS av x/\i*sz+j<es.length*sz:=by
  intro i cs j av h1 h2;have hcl:=hl cs (Ax h1);have hj:j<sz:=aa2
  have hi:=(AN.1 h1).1;have CL:i*sz+j<es.length*sz:=by
   have:=A6 sz (show i+1<=es.length from hi)
   grind
  have hf:=Ff hl h1 hj
  grind [Cg.at]
 refine .slice U es b 0 sz cap (fun i j=>vs[i*sz+j]?.getD default) hc (fun i cs h=>hl cs (Ax h)) (fun i cs j av h1 h2=>?_) (fun i cs j av h1 h2=>?_)
 .grind [Gt]
 .obtain⟨x,x1,x2,x3,x4⟩:=key i cs j av h1 h2;rw[x1];exact x3
section
variable {P:Program}{w0:World}{g0:D}{h0 h:Nat->HO}{g:D}{w:World}
theorem TU(hI:CH w0 g0 h0 h g w){d:Nat}(hd:h d=.free)(E:TypeId)(hr:Cg g w (L h) cs vs.toList) :
  ∃g',CH w0 g0 h0 (AS h d (.cells cs)) g' (w.alloc (.cells vs E (0,0)))/\Le h g w (AS h d (.cells cs)) g' (w.alloc (.cells vs E (0,0))) /\
   O g' (w.alloc (.cells vs E (0,0))) (L (AS h d (.cells cs))) (.ref d 0) (.pointer (some ⟨w.heap.size,0,none⟩)):=by
 obtain⟨k1,k2⟩:=hI.newOwn hd (.cells cs) (.cells vs E (0,0)) (.pointer (some ⟨w.heap.size,0,none⟩)) 0 false w ⟨rfl,rfl,rfl,rfl⟩ aa1 (fun hg hk=>by
  obtain⟨u1,u2,u3,u4⟩:=Bn g d (.pointer (some ⟨w.heap.size,0,none⟩)) 0 false (some w.heap.size) g.S;exact⟨u3,w.heap.size,E,vs,u4,u1,G3 w _ rfl,hr.mono hk (fun i hi=>DC aa1 i hi) hg,fun o ho=>by have:=hI.slt _ _ ho;omega⟩)
 refine⟨_,k1,k2,.ref _ d 0 w.heap.size (by unfold L;rw[A0];simp) ?_ ?_⟩
 .simp[D.upd]
 .simp[D.upd]
theorem sD(hI:CH w0 g0 h0 h g w){d:Nat}(hd:h d=.free)(E:TypeId)(hr:Cg g w DS cs vs.toList) :
  ∃g',CH w0 g0 h0 (AS h d (.ro cs)) g' (w.alloc (.cells vs E (0,0)))/\Le h g w (AS h d (.ro cs)) g' (w.alloc (.cells vs E (0,0))) /\
   O g' (w.alloc (.cells vs E (0,0))) (L (AS h d (.ro cs))) (.ref d 0) (.pointer (some ⟨w.heap.size,0,none⟩)):=by
 obtain⟨k1,k2⟩:=hI.newStable hd (.ro cs) vs E cs.length (.pointer (some ⟨w.heap.size,0,none⟩)) 0 false w ⟨rfl,rfl,rfl,rfl⟩ aa1 (fun hg hk=>by
  obtain⟨u1,u2,u3,u4⟩:=Bn g d (.pointer (some ⟨w.heap.size,0,none⟩)) 0 false none (g.more w.heap.size cs.length);exact⟨u3,w.heap.size,u1,O.cptr_row (G3 w _ rfl) (hr.mono hk (fun _ h=>h) (fun _ h=>h.elim)) (fun o ho=>.inr ⟨rfl,ho⟩)⟩)
 refine⟨_,k1,k2,.ref _ d 0 w.heap.size (by unfold L;rw[A0];simp) ?_ ?_⟩
 .simp[D.upd]
 .simp[D.upd]
theorem Kq(hI:CH w0 g0 h0 h g w){d:Option Nat}{sz:Nat}(hk:EO cx d h sz es K){cap:Nat}(E:TypeId)(hl:∀cs∈es,cs.length=sz)(hc:es.length<=cap)(hs:vs.size=cap*sz)(hr:Cg g w DS es.flatten (vs.toList.take (es.length*sz)))(w1:World)(VP:w1.heap=w.heap/\w1.os=w.os/\w1.tape=w.tape/\w1.output=w.output) :
  ∃g' av h',K av h'/\CH w0 g0 h0 h' g' (w1.alloc (.cells vs E (0,0)))/\Le h g w h' g' (w1.alloc (.cells vs E (0,0))) /\
   O g' (w1.alloc (.cells vs E (0,0))) (L h') av (.slice (some ⟨w.heap.size,0,none⟩) es.length cap):=by
 have EY:(w1.alloc (.cells vs E (0,0))).heap[w.heap.size]?=some (.cells vs E (0,0)):=G3 w1 _ aa0;unfold EO at hk;split at hk
 .simp_all
 .rename_i d;generalize KA cx d=d1 at hk;split at hk
  .rename_i hd;split at hk
   .obtain⟨k1,k2⟩:=hI.newOwn hd (.arr sz es) (.cells vs E (0,0)) (.slice (some ⟨w.heap.size,0,none⟩) es.length cap) es.length true w1 VP aa1 (fun hg Hq=>by
     obtain⟨u1,u2,u3,u4⟩:=Bn g d1 (.slice (some ⟨w.heap.size,0,none⟩) es.length cap) es.length true (some w.heap.size) g.S;exact⟨u3,u2,hl,.inr ⟨w.heap.size,cap,E,vs,u1,u4,hc,EY,hs,hr.mono Hq (fun _ h=>h) (fun _ h=>h.elim),fun o ho=>by have:=hI.slt _ _ ho;omega⟩⟩)
    refine⟨_,_,_,hk,k1,k2,.msl _ d1 es.length _ cap (by unfold L;rw[A0];simp) ?_ ?_ (.inr ⟨_,rfl⟩) ?_⟩<;>simp[D.upd]
   .by_cases zF:es.length=cap
    .obtain⟨k1,k2⟩:=hI.newStable hd (.tok sz es.length) vs E (es.length*sz) (.slice (some ⟨w.heap.size,0,none⟩) es.length cap) es.length true w1 VP aa1 (fun hg Hq=>by
      obtain⟨u1,u2,u3,u4⟩:=Bn g d1 (.slice (some ⟨w.heap.size,0,none⟩) es.length cap) es.length true none (g.more w.heap.size (es.length*sz));exact⟨u3,u2,_,cap,u1,.inl ⟨zF,u4⟩⟩)
     refine⟨_,_,_,hk,k1,k2,.tok _ d1 sz es _ (O.slice_row EY hl hc (hr.mono k2.keeps (fun _ h=>h) (fun _ h=>h.elim)) (fun o ho=>.inr ⟨rfl,ho⟩)) hl (by grind [L,A0]) ?_ ?_ ?_⟩<;>simp[D.upd]
    .have wP:=hI.upd d1 (.tok sz es.length) (.slice (some ⟨w.heap.size,0,none⟩) es.length cap) es.length true (some w.heap.size) (g.more w.heap.size (es.length*sz)) (w1.alloc (.cells vs E (0,0))) none
      ⟨VP.2.1,VP.2.2.1,VP.2.2.2,by simp_all⟩ (fun k hk' _=>by grind [heap_alloc_old]) (fun b e=>by cases e) (fun _ _ h=>.inl h)
      (fun b o hb=>by
       rcases hb with hb | ⟨rfl,_⟩<;>simp_all) (fun b o e=>by cases e)
      (fun b _ e=>by simp_all) aa1 (fun hu=>absurd hd hu) (fun hg Hq=>by
       obtain⟨u1,u2,u3,u4⟩:=Bn g d1 (.slice (some ⟨w.heap.size,0,none⟩) es.length cap) es.length true (some w.heap.size) (g.more w.heap.size (es.length*sz));exact⟨u3,u2,_,cap,u1,.inr ⟨hc,w.heap.size,E,vs,0,rfl,u4,.of EY,by omega,fun o ho=>by
        rcases ho with ho | ⟨_,ho⟩
        .have:=hI.slt _ _ ho;omega
        .omega⟩⟩)
     obtain⟨k1,k2⟩:=wP;refine⟨_,_,_,hk,k1,k2,.tok _ d1 sz es _ (O.slice_row EY hl hc (hr.mono k2.keeps (fun _ h=>h) (fun _ h=>h.elim)) (fun o ho=>.inr ⟨rfl,ho⟩)) hl (by grind [L,A0]) ?_ ?_ ?_⟩<;>simp[D.upd]
  .exact hk.elim
end
theorem UJ{α:Type}:∀(cs:List α) (o:Nat) (vs:List α),o+vs.length<=cs.length->over cs o vs=cs.take o++vs++cs.drop (o+vs.length)
 | [],o,vs,h=>by
  simp at h;obtain⟨rfl,rfl⟩:=h
  rfl
 |c::cs,o+1,vs,h=>by
  rw[over,UJ cs o vs aa2]
  grind
 |c::cs,0,[],h=>by simp[over]
 |c::cs,0,v::vs,h=>by
  rw[over,UJ cs 0 vs aa0];simp
theorem oK(cs:List α)(o n:Nat)(vs:List α)(h:o+vs.length<=n)(hn:n<=cs.length):(over cs o vs).take n=over (cs.take n) o vs:=by
 apply Cu
 grind [H7]
theorem TF{n:Nat}:∀{es:List (List α)},(∀c∈es,c.length=n)->∀{i:Nat} {c:List α},es[i]?=some c->∀(o:Nat) (vs:List α),o+vs.length<=n ->
  (es.set i (over c o vs)).flatten=over es.flatten (i*n+o) vs
 | [],_,i,c,h,_,_,_=>by simp_all
 |d::es,hl,i,c,h,o,vs,Jo=>by
  have hd:=hl d (Ad ..);have hfl:=EK (es:=d::es) (n:=n) hl;have CL:=(AN.1 h).1;have Akd:i*n+o+vs.length<=(d::es).flatten.length:=by
   rw[hfl]
   have:=A6 n (show i+1<=(d::es).length from CL)
   grind
  have hcl:=hl c (Ax h);apply Cu;intro j;rw[H7 _ _ _ _ Akd];have Pi:∀e∈(d::es).set i (over c o vs),e.length=n:=fun e he=>by
   rcases List.mem_or_eq_of_mem_set he with he | rfl
   .grind
   .rw[IQ];exact hcl
  by_cases hn:n=0
  .subst hn;have h1:=EK Pi;simp_all
  .have hdm:j=j / n*n+j % n:=by rw[Nat.mul_comm];exact(Nat.div_add_mod j n).symm
   have Afj:j % n<n:=Nat.mod_lt _ I
   by_cases hj:j / n<(d::es).length
   .have g1:(d::es)[j / n]?=some ((d::es)[j / n]):=AC hj;have g2:((d::es).set i (over c o vs))[j / n]?=some (if i=j / n then over c o vs else(d::es)[j / n]):=by
     grind
    have f1:=Ff hl g1 Afj;have f2:=Ff Pi g2 Afj;rw[<-hdm]at f1 f2;rw[f1,f2];split
    .rename_i e;rw[e]at h;rw[g1]at h;cases h;rw[H7 _ _ _ _ I];have e2:i*n+o<=j↔o<=j % n:=by rw[e];omega
     have e3:j<i*n+o+vs.length↔j % n<o+vs.length:=by rw[e];omega
     simp only[e2,e3];split
     .congr 1;rw[e];omega
     .rfl
    .rename_i e
     have:¬(i*n+o<=j/\j<i*n+o+vs.length):=by
      rintro⟨q1,q2⟩
      apply e;have a1:i*n<=j:=I
      have a2:j<(i+1)*n:=aa2
      have:=(Nat.le_div_iff_mul_le I).2 a1
      have:=(Nat.div_lt_iff_lt_mul I).2 a2
      omega
     grind
   .have dq:(d::es).length*n<=j:=by
     have:=Nat.not_lt.1 hj
     have:=(Nat.le_div_iff_mul_le I).1 this
     omega
    have:¬(i*n+o<=j/\j<i*n+o+vs.length):=I
    rw[AB this,EP (by rw[EK Pi,JY];exact dq),EP I]
theorem Rd{P:Program}(hT:B8 P T)(w:World){t:Nat}{x:Value}(hd:(T t).d≠.other)(hs:x.cells.toList.length=(T t).size)(h1:∀v∈x.cells.toList,v.oneCell'=true)(hb:w.heap[b]?=some (.cells DU E (0,0)))(Jo:off+x.cells.toList.length<=DU.size) :
  (Instr.storeAt t (.pointer (some ⟨b,off,none⟩)) x).run P w=.ok () (w.setRow b (over DU.toList off x.cells.toList).toArray):=by
 have Jp:=run_storeCells_at P b off E x.cells.toList 0 DU w hb I h1;simp only[FF]at Jp;have iw : x.cells.size=(T t).size:=I
 rw[UJ _ _ _ I];simp only[Instr.storeAt,Sem.run_bind,Instr.sureAddr,Sem.run_pure,Result.andThen_ok,storeVar,hT.size w hd,iw,ne_eq,not_true_eq_false,if_false];exact Jp
section
variable {P:Program}{w0:World}{g0:D}{h0 h:Nat->HO}{g:D}{w:World}(hI:CH w0 g0 h0 h g w)
include hI
theorem mJ(hT:B8 P T){d:Option Nat}{e:Nat}(hk:UY T d h e K):OS P w0 g0 h0 h g w (Instr.alloc e true (.tuple #[])) K:=by
 unfold UY at hk;split at hk
 .simp_all
 .split at hk
  .rename_i hd;split at hk
   .simp_all
   .rename_i Ec;split at hk
    .rename_i ha;obtain⟨z,z1,z2,_⟩:=Rp hT (w:=w) Ec;have hr:Cg g w (L h) ((T e).zc.map .v) z.cells.toList:=by grind [Cg.vals]
     obtain⟨g',k1,k2,k3⟩:=TU hI hd (vs:=z.cells) e hr;refine⟨_,_,g',_,_,?_,hk,k1,k2,k3⟩;simp[Instr.alloc,z1,newVar,newRow]
    simp_all
  simp_all
theorem Rh{vs:List Value}(hr:Cg g w (L h) cs vs):Cg g w DS (cs.map (str h)) vs:=by
 refine⟨by rw[Bs];exact hr.1,hr.2.1,fun i av x h1 h2=>?_⟩;rw[BC,BH]at h1;obtain⟨a,a1,rfl⟩:=h1;exact(hr.2.2 i a x a1 h2).str hI.objs
theorem vQ{d:Option Nat}{e:Nat}{x:AV}(hx:O g w (L h) x vx)(hk:mT cx d h e x K):OS P w0 g0 h0 h g w (Instr.box e vx) K:=by
 unfold mT at hk;split at hk
 .simp_all
 .split at hk
  .rename_i hd;split at hk
   .simp_all
   .obtain⟨cs,hk,hn,hr⟩:=NM hx hk;split at hk
    .obtain⟨g',k1,k2,k3⟩:=sD hI hd (vs:=vx.cells) e (Rh hI hr);exact⟨_,_,g',_,_,rfl,hk,k1,k2,k3⟩
    .obtain⟨g',k1,k2,k3⟩:=TU hI hd (vs:=vx.cells) e hr;exact⟨_,_,g',_,_,rfl,hk,k1,k2,k3⟩
  simp_all
theorem CH.write{r b:Nat}(hl:(h r).live)(ho:g.own r=some b)(o' : HO)(hb:w.heap[b]?=some (.cells DU E (0,0)))(new:Array Value)(n:Nat)(ow:Option Nat)(S' : Nat->Nat->Prop)(Ec:o'≠.free)(hn:n=g.ln r)(how:∀b',ow=some b'->b'=b)(hS:∀b o,g.S b o->S' b o)(hSn:∀b' o,S' b' o->g.S b' o\/b'=b)(kH:∀o,g.S b o->new[o]?=DU[o]?)(MC:JA g (g.upd r (g.ρ r) n (g.tk r) ow S') (L h)->D8 g w (g.upd r (g.ρ r) n (g.tk r) ow S') (w.setRow b new)->(w.setRow b new).heap[b]?=some (.cells new E (0,0)) ->
   DE (g.upd r (g.ρ r) n (g.tk r) ow S') (w.setRow b new) (L (AS h r o')) r o') :
  CH w0 g0 h0 (AS h r o') (g.upd r (g.ρ r) n (g.tk r) ow S') (w.setRow b new)/\Le h g w (AS h r o') (g.upd r (g.ρ r) n (g.tk r) ow S') (w.setRow b new):=by
 have EY:=setRow_heap w b DU new E (0,0) hb;have CL:=(hI.loc r b hl ho).1
 refine hI.upd r o' _ _ _ _ _ _ (some b) ⟨rfl,rfl,rfl,by simp_all⟩ (fun k hk Ec=>setRow_other w b k new (fun e=>Ec (by rw[e]))) (fun b' e=>by simp_all) hS (fun b' o hs=>?_)
  (fun b' o e hs=>?_) (fun b' _ e=>?_) Ec (fun _=>⟨rfl,by omega,fun _=>rfl,fun _=>rfl⟩) (fun hg hk=>MC hg hk EY)
 all_goals grind [Gt]
theorem pv(hT:B8 P cx.T){t:Nat}{p x:AV}{vp:Value}(hp:O g w (L h) p vp)(hx:O g w (L h) x vx)(hk:SN cx h t p x K) :
  pX P w0 g0 h0 h g w (Instr.storeAt t vp vx) K:=by
 unfold SN at hk;split at hk
 .simp_all
 .rename_i hd;have h5:=NM hx hk
  clear hk
  obtain⟨vs,hk,hn,hr⟩:=h5;have CN:vx.cells.toList.length=vs.length:=hr.1;split at hk
  .rename_i r off;have ho:=hI.objs r;split at hk
   .rename_i cs e;obtain⟨Jo,hk⟩:=hk;rw[e]at ho;obtain⟨t0,b,E,DU,a1,a2,a3,a4,a5⟩:=ho;cases hp with
    |ref _ _ _ b' hu ht vq=>
     rw[a2]at vq;cases vq;have hcs:DU.toList.length=cs.length:=a4.1;have CV:=Rd hT w (t:=t) (off:=off) (x:=vx) hd I hr.2.1 a3 aa0;have hl:(h r).live:=by rw[e];trivial
     have hov:=a4.over hr off Jo;split at hk
     .obtain⟨k1,k2⟩:=hI.write hl a1 (.ro ((over cs off vs).map (str h))) a3 (over DU.toList off vx.cells.toList).toArray (g.ln r) none (g.more b cs.length) aa1 rfl (fun _ e=>by cases e) (fun _ _ h=>.inl h)
       (fun b' o hs=>hs.elim .inl (fun hs=>.inr hs.1)) (fun o hs=>absurd hs (a5 o)) (fun hg Hq EY=>by
        obtain⟨u1,u2,u3,u4⟩:=Bn g r (g.ρ r) (g.ln r) (g.tk r) none (g.more b cs.length);refine⟨u3.trans t0,b,u1.trans a2,O.cptr_row EY ?_ (fun o ho=>.inr ⟨rfl,?_⟩)⟩
        .exact(Rh hI hov).mono Hq (fun _ h=>h) (fun _ h=>h.elim)
        grind [IQ])
      exact⟨_,_,_,CV,hk,k1,k2⟩
     .obtain⟨k1,k2⟩:=hI.write hl a1 (.cells (over cs off vs)) a3 (over DU.toList off vx.cells.toList).toArray (g.ln r) (g.own r) g.S aa1 rfl (fun b' e=>by simp_all) (fun _ _ h=>h)
       (fun b' o hs=>.inl hs) (fun o hs=>absurd hs (a5 o)) (fun hg Hq EY=>by
        obtain⟨u1,u2,u3,u4⟩:=Bn g r (g.ρ r) (g.ln r) (g.tk r) (g.own r) g.S;exact⟨u3.trans t0,b,E,_,u4.trans a1,u1.trans a2,EY,hov.mono Hq (fun i hi=>DC aa1 i hi) hg,a5⟩)
      exact⟨_,_,_,CV,hk,k1,k2⟩
   simp_all
  .rename_i r n sz i off;have ho:=hI.objs r;split at hk
   .rename_i HG es e;rw[e]at ho;split at hk
    .rename_i hz;obtain rfl:=A5 hz;obtain⟨hnl,cs,hi,Jo,hk⟩:=hk;obtain⟨t1,l1,al,a1⟩:=ho;have CL:=(AN.1 hi).1;rcases a1 with ⟨rfl,_⟩ | ⟨b,cap,E,DU,e1,e2,e3,e4,e5,e6,e7⟩
     .simp_all
     .cases hp with
      |eref _ _ _ _ _ _ b' P0 hu ht nI vq=>
       have vq:=vq (hnl.trans l1.symm);rw[e1]at vq;simp only[Value.slice.injEq,Ey,Addr.mk.injEq]at vq;obtain⟨⟨rfl,_,_⟩,_,_⟩:=vq;have hcl:=al cs (Ax hi);have dw:i*sz+sz<=es.length*sz:=by
        have:=A6 sz (show i+1<=es.length from CL)
        grind
       have zH:es.length*sz<=cap*sz:=A6 sz e3;have CV:=Rd hT w (t:=t) (off:=i*sz+off) (x:=vx) hd I hr.2.1 e4 I;have hl:(h r).live:=by rw[e];trivial
       have AjM : ∀c∈es.set i (over cs off (vs.map (str h))),c.length=sz:=fun c hc=>by
        rcases List.mem_or_eq_of_mem_set hc with hc | rfl
        .simp_all
        .rw[IQ];exact hcl
       have hfl:=TF al hi off (vs.map (str h)) aa0;have wR:DU.toList.length=cap*sz:=I
       have htk:((over DU.toList (i*sz+off) vx.cells.toList).toArray.toList.take ((es.set i (over cs off (vs.map (str h)))).length*sz))=over (DU.toList.take (es.length*sz)) (i*sz+off) vx.cells.toList:=by
        rw[JY];exact oK _ _ _ _ I I
       have hov:Cg g w DS (es.set i (over cs off (vs.map (str h)))).flatten ((over DU.toList (i*sz+off) vx.cells.toList).toArray.toList.take ((es.set i (over cs off (vs.map (str h)))).length*sz)):=by
        rw[htk,hfl];exact e6.over (Rh hI hr) _ (by rw[Bs,EK al];omega)
       obtain⟨k1,k2⟩:=hI.write hl e2 (.arr sz (es.set i (over cs off (vs.map (str h))))) e4 (over DU.toList (i*sz+off) vx.cells.toList).toArray (g.ln r) (g.own r) g.S aa1 rfl (fun b' e=>by simp_all) (fun _ _ h=>h)
        (fun b' o hs=>.inl hs) (fun o hs=>absurd hs (e7 o)) (fun hg Hq EY=>by
         obtain⟨u1,u2,u3,u4⟩:=Bn g r (g.ρ r) (g.ln r) (g.tk r) (g.own r) g.S;refine⟨u3.trans t1,u2.trans aa0,AjM,.inr ⟨b,cap,E,_,?_,u4.trans e2,by simp_all,EY,?_,hov.mono Hq (fun _ h=>h) (fun _ h=>h.elim),e7⟩⟩
         all_goals grind [IQ])
       exact⟨_,_,_,CV,hk,k1,k2⟩
    simp_all
   simp_all
  simp_all
end
theorem oJ(c vs:List α)(h:vs.length=c.length):over c 0 vs=vs:=by
 grind [UJ]
theorem Ks[Inhabited α](z:List α)(hz:z≠[]):(List.replicate n z).flatten=(List.range (n*z.length)).map fun k=>z[k % z.length]!:=by
 have hl:∀c∈List.replicate n z,c.length=z.length:=fun c hc=>by simp_all
 have Afr:0<z.length:=List.length_pos_iff.2 hz;apply Cu;intro k
 by_cases hk:k<n*z.length
 all_goals grind [Nat.mul_comm,Nat.div_add_mod,Nat.mod_lt,Nat.div_lt_iff_lt_mul,Ff,EK,List.length_map,List.length_range]
section
variable {P:Program}{w0:World}{g0:D}{h0 h:Nat->HO}{g:D}{w:World}(hI:CH w0 g0 h0 h g w)
include hI
theorem cV{n sz:Nat}{t:Nat->AV}{ρ:Operand->Value}(ht:∀x:Operand,O g w (L h) (ev t x) (ρ x)) :
  ∀{ps:List (Nat×Operand)} {es:C0} {xs:Array Value} {K:C0->Prop},es.length=n->(∀c∈es,c.length=sz)->Cg g w DS es.flatten xs.toList->TA n sz h es t ps K ->
   ∃FG bO,K FG/\FG.length=n/\(∀c∈FG,c.length=sz)/\Cg g w DS FG.flatten bO.toList/\Instr.fill (fun i=>some (i*sz,sz)) xs (ps.map fun(i,x)=>(i,ρ x))=some bO
 | [],es,xs,K,hn,hl,h,hk=>⟨es,xs,hk,hn,hl,h,rfl⟩
 |(i,x)::ps,es,xs,K,hn,hl,h,hk=>by
  unfold TA at hk;split at hk
  .rename_i hi;have hi:i<n:=By hi;have h5:=NM (ht x) hk
   clear hk
   obtain⟨Xo,hk,hna,hr⟩:=h5;have EC:(ρ x).cells.size=sz:=by rw[<-hna];simpa using hr.1
   have VO:=Rh hI hr;obtain⟨c,hc⟩:∃c,es[i]?=some c:=⟨_,AC I⟩;have hcl:=hl c (Ax hc);have Jo:i*sz+sz<=es.flatten.length:=by
    rw[EK hl,hn]
    have:=A6 sz (show i+1<=n from hi)
    grind
   have hfl:=TF hl hc 0 (Xo.map (str ‹Nat->HO›)) aa0;rw[oJ _ _ aa0,FF]at hfl;have EY:=h.over VO (i*sz) aa0;have xk:xs.size=es.flatten.length:=by have:=h.1;omega
   have e:=Pb (ρ x).cells.toList 0 (i*sz) xs aa0;simp only[FF]at e;rw[<-e,<-hfl]at EY;obtain⟨FG,bO,k1,k2,k3,k4,k5⟩:=cV ht (es:=es.set i (Xo.map (str _))) aa0 (fun c' hc'=>by
    grind) EY hk
   refine⟨FG,bO,k1,k2,k3,k4,?_⟩;simp only[A7,Instr.fill]
   grind [Array.toList_zipIdx]
  simp_all
theorem U5(hT:B8 P cx.T){d:Option Nat}{ty n:Nat}{t:Nat->AV}{ρ:Operand->Value}(ht:∀x:Operand,O g w (L h) (ev t x) (ρ x)){ps:Array (Nat×Operand)}(hk:II cx d h ty n t ps.toList K):OS P w0 g0 h0 h g w (Instr.buildSlice ty n (ps.map fun(i,x)=>(i,ρ x))) K:=by
 unfold II at hk;split at hk
 .rename_i e hs;split at hk
  .rename_i IZ kO;have kO:=A5 kO;split at hk
   .simp_all
   .rename_i m hm;split at hk
    .rename_i Jo;have Jo:=By Jo;have hz0:(cx.T e).zc≠[]:=fun e0=>by simp_all
     have hlr:∀c∈List.replicate n ((cx.T e).zc.map AV.v),c.length=(cx.T e).size:=fun c hc=>by simp_all
     have Af8:Cg g w DS (List.replicate n ((cx.T e).zc.map AV.v)).flatten ((Array.range (n*(cx.T e).size)).map fun k=>(cx.T e).zc.toArray[k % (cx.T e).zc.toArray.size]!).toList:=by
      have e1:((Array.range (n*(cx.T e).size)).map fun k=>(cx.T e).zc.toArray[k % (cx.T e).zc.toArray.size]!).toList=(List.replicate n (cx.T e).zc).flatten:=by
       rw[Ks n _ hz0];simp_all
      have e2:(List.replicate n ((cx.T e).zc.map AV.v)).flatten=(List.replicate n (cx.T e).zc).flatten.map AV.v:=by
       simp_all
      rw[e1,e2];refine Cg.vals ?_;have HE:∀l:List AV,(∀a∈l,one a=true)->HP l=true:=by
       intro l
       induction l<;>grind [HP]
      grind [NH]
     obtain⟨FG,bO,k1,k2,k3,k4,k5⟩:=cV hI ht aa0 hlr Af8 hk;have xk:bO.size=n*(cx.T e).size:=by
      have:=k4.1
      grind [EK]
     obtain⟨g',av,h',q1,q2,q3,q4⟩:=Kq hI k1 (vs:=bO) (cap:=n) e k3 I xk (by
      grind [Array.length_toList]) w ⟨rfl,rfl,rfl,rfl⟩
     rw[k2]at q4;refine⟨_,_,g',av,h',?_,q1,q2,q3,q4⟩;obtain⟨z,z1,z2⟩:=pO hT (w:=w) hm;have EC:=hT.size1 w hm;have e3:(Array.map (fun x:Nat×Operand=>match x with | (i,x)=>(i,ρ x)) ps).toList=ps.toList.map fun(i,x)=>(i,ρ x):=aa1
     have Akn:¬(n*(m+1)>2 ^ 24):=aa0
     simp only[Instr.buildSlice,Sem.run_bind,run_underlying (hT.slice hs),Result.andThen_ok,EC,AB Akn];rw[e3];rw[hm]at k5
     by_cases h0:n*(m+1)=0
     .have hn0:n=0:=by
       grind
      subst hn0;have er:Array.range 0=#[]:=rfl;simp only[Xm,er,List.map_toArray,HC]at k5;simp only[Xm,if_true,er,List.map_toArray,HC,k5];simp[newRow]
     .rw[z2]at k5;simp only[Array.toArray_toList]at k5;simp only[AB h0,Sem.run_bind,z1,Result.andThen_ok,Sem.run_pure,k5];simp[newRow]
    simp_all
  simp_all
 simp_all
end
theorem FM{sz:Nat}:∀{es:C0},Cq sz es->∀c∈es,c.length=sz
 | [],_,c,h=>by cases h
 |d::es,h,c,hc=>by
  rcases AJ.1 hc with rfl | hc
  .exact h.1
  .exact FM h.2 c hc
def PQ(x:Value)(n sz:Nat)(news:List Value):Prop:=
 news.length=n*sz/\(∀v∈news,v.oneCell'=true)/\∃(a:Option Addr) (c:Nat),x=.slice a n c/\(n=0\/∃b:Addr,a=some b/\∀j u,news[j]?=some u->w.cell? (b.add j)=some u)
theorem PQ.of_rep{w:World}{x:Value}(h:O g w U (.slice .none es) x)(hl:∀c∈es,c.length=sz) :
  ∃news,PQ w x es.length sz news/\Cg g w DS es.flatten news:=by
 cases h with
 |snil _ a cap=>exact⟨[],⟨by simp,by simp,a,cap,rfl,.inl rfl⟩,by simp,by simp,fun i av x h1 h2=>by simp_all⟩
 |slice _ _ b off HG cap val hc RV Dj DN=>
  have hf:=EK hl;have key:∀j,j<es.length*sz->∃cs,es[j / sz]?=some cs/\es.flatten[j]?=cs[j % sz]?/\j % sz<cs.length/\HG=sz/\j=j / sz*sz+j % sz:=by
   intro j hj
   grind [Nat.pos_of_ne_zero,Nat.div_add_mod,Nat.div_lt_iff_lt_mul,Nat.mod_lt,Ff]
  have AjX:∀j,j<es.length*sz->∃av,es.flatten[j]?=some av/\w.cell? ⟨b,off+j,none⟩=some (val (j / sz) (j % sz))/\(val (j / sz) (j % sz)).oneCell'=true/\O g w DS av (val (j / sz) (j % sz)):=by
   intro j hj;obtain⟨cs,k1,k2,k3,rfl,k5⟩:=key j hj;have hav:cs[j % HG]?=some cs[j % HG]:=AC k3;obtain⟨_,c2,c3⟩:=Dj _ _ _ _ k1 hav;rw[Nat.add_assoc,<-k5]at c2;exact⟨_,k2.trans hav,c2,c3,DN _ _ _ _ k1 hav⟩
  refine⟨(List.range (es.length*sz)).map fun j=>val (j / sz) (j % sz),⟨by simp,fun v hv=>?_,some ⟨b,off,none⟩,cap,rfl,.inr ⟨_,rfl,fun j u hu=>?_⟩⟩,by simp_all,fun v hv=>?_,fun i av x h1 h2=>?_⟩
  .grind
  .obtain⟨hj,rfl⟩:=XE hu;rw[Addr.add_lit];simp_all
  all_goals grind
section
variable {P:Program}{T:GL}(hT:B8 P T)
include hT
theorem HQ{n:Nat}(hs:(T e).size=n+1):∃i z,P.info? e=some i/\i.zero=some z/\i.size=(T e).size/\i.bytes=(T e).bytes/\(T e).zc=z.cells.toList:=by
 rcases hT e with h | h
 .rw[h]at hs;cases hs
 grind [pF,TI.zc_cells]
theorem I4(w:World){t ty k:Nat}(ht:(T t).d=.slice e)(hk:(T e).size=k+1)(a a' : Option Addr)(n cap c:Nat)(hc:n<=cap) :
  (Builtin.append_ #[t,t] ty #[.slice a n cap,.slice a' 0 c]).run P w=.ok (.slice a n cap) w:=by
 have hu:=hT.slice ht;cases a<;>cases a'<;>simp[Builtin.append_,run_underlying hu,hT.size1 w hk,Builtin.lenOf,hc,Builtin.firstCells,loadCells,loadCellsFrom,storeCells]
theorem Ie(w:World){t ty k:Nat}(ht:(T t).d=.slice e)(hk:(T e).size=k+1)(hz:(T e).zc.length=(T e).size){s x:Value}{n m c:Nat}{olds news:List Value}{a a' : Option Addr}(hso:PQ w s n (T e).size olds)(hs:s=.slice a n cap)(Pf:a=none->cap=0)(hsx:PQ w x m (T e).size news)(hx:x=.slice a' m c)(hm:0<m)(hg:cap<n+m)(hb:(n+m)*(T e).bytes<=2^47)(h63:n+m<=2^63-1) :
  ∃nc rest,(Builtin.append_ #[t,t] ty #[s,x]).run P w=.ok (.slice (some ⟨w.heap.size,0,none⟩) (n+m) nc) (w.drew.alloc (.cells (olds++news++rest).toArray e (0,0)))/\n+m<=nc /\
   (olds++news++rest).length=nc*(T e).size:=by
 obtain⟨i,z,i1,i2,i3,i4,i5⟩:=HQ hT hk;have hu:=hT.slice ht;obtain⟨n1,n2,a1,c1,n3,n4⟩:=hsx;subst hx;cases n3;rcases n4 with h | ⟨b,rfl,Hr⟩
 .omega
 .have kO:z.cells.size=(T e).size:=aa0
  have kL:∀(nc:Nat) (pre:List Value),pre.length=(n+m)*(T e).size->n+m<=nc->(pre++(Builtin.zeroCells z.cells (nc-(n+m))).toList).length=nc*(T e).size:=by
   intro nc pre hp Jo;have e1:(Builtin.zeroCells z.cells (nc-(n+m))).toList.length=(nc-(n+m))*(T e).size:=by grind [size_zeroCells]
   rw[Ac,e1,hp,<-Kd];simp_all
  obtain⟨o1,o2,a2,c2,o3,o4⟩:=hso;subst hs;cases o3;cases a with
  |none=>
   obtain rfl:=Pf rfl;have hn0:n=0:=by
    simp_all
   subst hn0;have ho:olds=[]:=AI I;subst ho;have hr:=run_append_nil (P:=P) w t ty e i z hu i1 i2 b m c news aa0 Hr hm I aa2;refine⟨grownCap w m 0 e,(Builtin.zeroCells z.cells (grownCap w m 0 e-m)).toList,?_,by rw[Dp];exact grownCap_ge w m 0 e,?_⟩
   .rw[hr,Dp]
    congr 3
    simp_all
   .have:=kL (grownCap w m 0 e) news aa0 (by rw[Dp];exact grownCap_ge w m 0 e)
    simp_all
  |some b'=>
   have Hs:∀j u,olds[j]?=some u->w.cell? (b'.add j)=some u:=by
    grind
   have hr:=run_append_grow (P:=P) w t ty e i z hu i1 i2 b' n cap olds aa0 Hs b m c news aa0 Hr hg I (by rw[i4];exact growslice_fits hg hb);refine⟨grownCap w (n+m) cap e,(Builtin.zeroCells z.cells (grownCap w (n+m) cap e-(n+m))).toList,?_,grownCap_ge w (n+m) cap e,kL _ _ aa2 (grownCap_ge w (n+m) cap e)⟩;rw[hr]
   congr 3
   simp_all
end
end Go.Eng
