/- Lemmas 5. -/
import Derived.Test.YtjhkbdgingfbaaaGreatDoorGA04
namespace Go.Eng
variable {vs:Array Value}{es:List (List AV)}{U:Nat->Prop}{E:TypeId}{cs:List AV}{f:Nat×Nat}{K:HK}{b:Nat}{α:Type}{Cl:Array Value}{g:Gh}{cx:Cx}{sz cap e:Nat}{vx:Value}{off:Nat}{T:EU}(P:Program)(w0:World)(g0:Gh)(n:Nat)(h0 h:Nat->HO)(w:World)
def Kb(g:Gh)(w:World)(m:Sem Value)(K:HK):Prop:=
 ∃x w' g' av h',m.run P w=.ok x w'/\K av h'/\Do w0 g0 h0 h' g' w'/\Le h g w h' g' w'/\Bo g' w' (AD h') av x
def XM(g:Gh)(w:World)(m:Sem Unit)(K:HK):Prop:=
 ∃w' g' h',m.run P w=.ok () w'/\K (.v undef) h'/\Do w0 g0 h0 h' g' w'/\Le h g w h' g' w'
section
variable {P:Program}{w0:World}{g0:Gh}{h0 h:Nat->HO}{g:Gh}{w:World}(hI:Do w0 g0 h0 h g w)
include hI
theorem Bk.does{m:Sem Value}(hg:Bk P h g w m (fun v=>K v h)):Kb P w0 g0 h0 h g w m K:=
 let ⟨x,av,h1,h2,h3⟩:=hg
 ⟨x,w,g,av,h,h1,h2,hI,.refl _ _ _,h3⟩
theorem Do.newOwn{d:Nat}(hd:h d=.free)(o' : HO)(ob:Obj)(x:Value)(n:Nat)(t:Bool)(w1:World)(IK:w1.heap=w.heap/\w1.os=w.os/\w1.tape=w.tape/\w1.output=w.output)(Dn:o'≠.free)
  (G0:Ho g (g.upd d x n t (some w.heap.size) g.S) (AD h)->DO g w (g.upd d x n t (some w.heap.size) g.S) (w1.alloc ob) ->
   C3 (g.upd d x n t (some w.heap.size) g.S) (w1.alloc ob) (AD (AH h d o')) d o') :
  Do w0 g0 h0 (AH h d o') (g.upd d x n t (some w.heap.size) g.S) (w1.alloc ob)/\Le h g w (AH h d o') (g.upd d x n t (some w.heap.size) g.S) (w1.alloc ob):=by
 refine hI.upd d o' x n t _ _ _ none ⟨IK.2.1,IK.2.2.1,IK.2.2.2,by rw[World.size_alloc,IK.1];omega⟩ (fun k hk _=>?_) (fun b e=>by cases e) (fun _ _ h=>h) (fun _ _ h=>.inl h) (fun b o e=>by cases e)
  (fun b _ e=>?_) Dn (fun hu=>absurd hd hu) G0
 .rw[heap_alloc_old _ _ (by rw[IK.1];exact hk),IK.1]
 .cases e;rw[World.size_alloc,IK.1];exact⟨by omega,.inr (Ad _)⟩
def Gh.more(g:Gh)(b n:Nat):Nat->Nat->Prop:=fun b' o=>g.S b' o\/(b'=b/\o<n)
theorem Do.newStable{d:Nat}(hd:h d=.free)(o' : HO)(vs:Array Value)(E:TypeId)(m:Nat)(x:Value)(n:Nat)(t:Bool)(w1:World)(IK:w1.heap=w.heap/\w1.os=w.os/\w1.tape=w.tape/\w1.output=w.output)(Dn:o'≠.free)
  (G0:Ho g (g.upd d x n t none (g.more w.heap.size m)) (AD h)->DO g w (g.upd d x n t none (g.more w.heap.size m)) (w1.alloc (.cells vs E (0,0))) ->
   C3 (g.upd d x n t none (g.more w.heap.size m)) (w1.alloc (.cells vs E (0,0))) (AD (AH h d o')) d o') :
  Do w0 g0 h0 (AH h d o') (g.upd d x n t none (g.more w.heap.size m)) (w1.alloc (.cells vs E (0,0))) /\
   Le h g w (AH h d o') (g.upd d x n t none (g.more w.heap.size m)) (w1.alloc (.cells vs E (0,0))):=by
 refine hI.upd d o' x n t _ _ _ none ⟨IK.2.1,IK.2.2.1,IK.2.2.2,by rw[World.size_alloc,IK.1];omega⟩ (fun k hk _=>?_) (fun b e=>by cases e) (fun _ _ h=>.inl h) (fun b o hb=>?_) (fun b o e=>by cases e)
  (fun b _ e=>by cases e) Dn (fun hu=>absurd hd hu) G0
 .rw[heap_alloc_old _ _ (by rw[IK.1];exact hk),IK.1]
 .rcases hb with hb | ⟨rfl,_⟩
  .exact .inl hb
  .exact .inr ⟨by rw[World.size_alloc,IK.1];omega,.inl (Ad _)⟩
end
theorem Bi(g:Gh)(r:Nat)(x:Value)(n:Nat)(t:Bool)(o:Option Nat)(S:Nat->Nat->Prop) :
  (g.upd r x n t o S).ρ r=x/\(g.upd r x n t o S).ln r=n/\(g.upd r x n t o S).tk r=t/\(g.upd r x n t o S).own r=o:=by simp[Gh.upd]
theorem E7(o:Obj)(hb:b=w.heap.size):(w.alloc o).heap[b]?=some o:=by subst hb;exact heap_alloc_new w o
theorem Bo.cptr_row{w:World}(hb:w.heap[b]?=some (.cells vs E f))(hr:B3 g w D2 cs vs.toList)(hS:∀o,o<cs.length->g.S b o):Bo g w U (.cptr cs) (.pointer (some ⟨b,0,none⟩)):=by
 refine .cptr U cs b 0 (fun j=>vs[j]?.getD default) (fun j av hj=>?_) (fun j av hj=>?_)
 .obtain⟨x,x1,x2,x3⟩:=hr.at hj;rw[Az]at x1;refine⟨hS _ (by rw[Bf];exact(Au.1 hj).1),?_,?_⟩
  .rw[Ee hb,Bf,x1];rfl
  .rw[x1];exact x2
 .obtain⟨x,x1,x2,x3⟩:=hr.at hj;rw[Az]at x1;rw[x1];exact x3
theorem Bo.slice_off{w:World}(hb:w.heap[b]?=some (.cells vs E f))(hl:∀cs∈es,cs.length=sz)(hc:es.length<=cap)(hr:B3 g w D2 es.flatten ((vs.toList.drop off).take (es.length*sz)))(hS:∀o,o<es.length*sz->g.S b (off+o)):Bo g w U (.slice .none es) (.slice (some ⟨b,off,none⟩) es.length cap):=by
 have key:∀(i:Nat) (cs:List AV) (j:Nat) (av:AV),es[i]?=some cs->cs[j]?=some av->∃x,vs[off+(i*sz+j)]?=some x/\x.oneCell'=true/\Bo g w D2 av x/\i*sz+j<es.length*sz:=by
  intro i cs j av h1 h2;have MQ:=hl cs (AW h1);have hj:j<sz:=by rw[<-MQ];exact(Au.1 h2).1
  have hi:=(Au.1 h1).1;have Dc:i*sz+j<es.length*sz:=by
   have:=A0 sz (show i+1<=es.length from hi)
   rw[Dg]at this;omega
  have hf:=D3 hl h1 hj;rw[h2]at hf;obtain⟨x,x1,x2,x3⟩:=hr.at hf;rw[Bm Dc,BW,Az]at x1;exact⟨x,x1,x2,x3,Dc⟩
 refine .slice U es b off sz cap (fun i j=>vs[off+(i*sz+j)]?.getD default) hc (fun i cs h=>hl cs (AW h)) (fun i cs j av h1 h2=>?_) (fun i cs j av h1 h2=>?_)
 .obtain⟨x,x1,x2,x3,x4⟩:=key i cs j av h1 h2;rw[ET];refine⟨hS _ x4,?_,?_⟩
  .rw[Ee hb,x1];rfl
  .rw[x1];exact x2
 .obtain⟨x,x1,x2,x3,x4⟩:=key i cs j av h1 h2;rw[x1];exact x3
theorem Bo.slice_row{w:World}(hb:w.heap[b]?=some (.cells vs E f))(hl:∀cs∈es,cs.length=sz)(hc:es.length<=cap)(hr:B3 g w D2 es.flatten (vs.toList.take (es.length*sz)))(hS:∀o,o<es.length*sz->g.S b o):Bo g w U (.slice .none es) (.slice (some ⟨b,0,none⟩) es.length cap):=by
 have key:∀(i:Nat) (cs:List AV) (j:Nat) (av:AV),es[i]?=some cs->cs[j]?=some av->∃x,vs[i*sz+j]?=some x/\x.oneCell'=true/\Bo g w D2 av x/\i*sz+j<es.length*sz:=by
  intro i cs j av h1 h2;have MQ:=hl cs (AW h1);have hj:j<sz:=by rw[<-MQ];exact(Au.1 h2).1
  have hi:=(Au.1 h1).1;have Dc:i*sz+j<es.length*sz:=by
   have:=A0 sz (show i+1<=es.length from hi)
   rw[Dg]at this;omega
  have hf:=D3 hl h1 hj;rw[h2]at hf;obtain⟨x,x1,x2,x3⟩:=hr.at hf;rw[Bm Dc,Az]at x1;exact⟨x,x1,x2,x3,Dc⟩
 refine .slice U es b 0 sz cap (fun i j=>vs[i*sz+j]?.getD default) hc (fun i cs h=>hl cs (AW h)) (fun i cs j av h1 h2=>?_) (fun i cs j av h1 h2=>?_)
 .obtain⟨x,x1,x2,x3,x4⟩:=key i cs j av h1 h2;rw[Bf];refine⟨hS _ x4,?_,?_⟩
  .rw[Ee hb,x1];rfl
  .rw[x1];exact x2
 .obtain⟨x,x1,x2,x3,x4⟩:=key i cs j av h1 h2;rw[x1];exact x3
section
variable {P:Program}{w0:World}{g0:Gh}{h0 h:Nat->HO}{g:Gh}{w:World}
theorem Mz(hI:Do w0 g0 h0 h g w){d:Nat}(hd:h d=.free)(E:TypeId)(hr:B3 g w (AD h) cs vs.toList) :
  ∃g',Do w0 g0 h0 (AH h d (.cells cs)) g' (w.alloc (.cells vs E (0,0)))/\Le h g w (AH h d (.cells cs)) g' (w.alloc (.cells vs E (0,0))) /\
   Bo g' (w.alloc (.cells vs E (0,0))) (AD (AH h d (.cells cs))) (.ref d 0) (.pointer (some ⟨w.heap.size,0,none⟩)):=by
 obtain⟨k1,k2⟩:=hI.newOwn hd (.cells cs) (.cells vs E (0,0)) (.pointer (some ⟨w.heap.size,0,none⟩)) 0 false w ⟨rfl,rfl,rfl,rfl⟩ sS (fun hg hk=>by
  obtain⟨u1,u2,u3,u4⟩:=Bi g d (.pointer (some ⟨w.heap.size,0,none⟩)) 0 false (some w.heap.size) g.S;exact⟨u3,w.heap.size,E,vs,u4,u1,E7 w _ rfl,hr.mono hk (fun i hi=>CV sS i hi) hg,fun o ho=>by have:=hI.slt _ _ ho;omega⟩)
 refine⟨_,k1,k2,.ref _ d 0 w.heap.size (by unfold AD;rw[AM];simp) ?_ ?_⟩
 .simp[Gh.upd]
 .simp[Gh.upd]
theorem ZJ(hI:Do w0 g0 h0 h g w){d:Nat}(hd:h d=.free)(E:TypeId)(hr:B3 g w D2 cs vs.toList) :
  ∃g',Do w0 g0 h0 (AH h d (.ro cs)) g' (w.alloc (.cells vs E (0,0)))/\Le h g w (AH h d (.ro cs)) g' (w.alloc (.cells vs E (0,0))) /\
   Bo g' (w.alloc (.cells vs E (0,0))) (AD (AH h d (.ro cs))) (.ref d 0) (.pointer (some ⟨w.heap.size,0,none⟩)):=by
 obtain⟨k1,k2⟩:=hI.newStable hd (.ro cs) vs E cs.length (.pointer (some ⟨w.heap.size,0,none⟩)) 0 false w ⟨rfl,rfl,rfl,rfl⟩ sS (fun hg hk=>by
  obtain⟨u1,u2,u3,u4⟩:=Bi g d (.pointer (some ⟨w.heap.size,0,none⟩)) 0 false none (g.more w.heap.size cs.length);exact⟨u3,w.heap.size,u1,Bo.cptr_row (E7 w _ rfl) (hr.mono hk (fun _ h=>h) (fun _ h=>h.elim)) (fun o ho=>.inr ⟨rfl,ho⟩)⟩)
 refine⟨_,k1,k2,.ref _ d 0 w.heap.size (by unfold AD;rw[AM];simp) ?_ ?_⟩
 .simp[Gh.upd]
 .simp[Gh.upd]
theorem Hk(hI:Do w0 g0 h0 h g w){d:Option Nat}{sz:Nat}(hk:Dv cx d h sz es K){cap:Nat}(E:TypeId)(hl:∀cs∈es,cs.length=sz)(hc:es.length<=cap)(hs:vs.size=cap*sz)(hr:B3 g w D2 es.flatten (vs.toList.take (es.length*sz)))(w1:World)(IK:w1.heap=w.heap/\w1.os=w.os/\w1.tape=w.tape/\w1.output=w.output) :
  ∃g' av h',K av h'/\Do w0 g0 h0 h' g' (w1.alloc (.cells vs E (0,0)))/\Le h g w h' g' (w1.alloc (.cells vs E (0,0))) /\
   Bo g' (w1.alloc (.cells vs E (0,0))) (AD h') av (.slice (some ⟨w.heap.size,0,none⟩) es.length cap):=by
 have Dz:(w1.alloc (.cells vs E (0,0))).heap[w.heap.size]?=some (.cells vs E (0,0)):=E7 w1 _ (by rw[IK.1]);unfold Dv at hk;split at hk
 .exact hk.elim
 .rename_i d;generalize He cx d=d1 at hk;split at hk
  .rename_i hd;split at hk
   .obtain⟨k1,k2⟩:=hI.newOwn hd (.arr sz es) (.cells vs E (0,0)) (.slice (some ⟨w.heap.size,0,none⟩) es.length cap) es.length true w1 IK sS (fun hg FW=>by
     obtain⟨u1,u2,u3,u4⟩:=Bi g d1 (.slice (some ⟨w.heap.size,0,none⟩) es.length cap) es.length true (some w.heap.size) g.S;exact⟨u3,u2,hl,.inr ⟨w.heap.size,cap,E,vs,u1,u4,hc,Dz,hs,hr.mono FW (fun _ h=>h) (fun _ h=>h.elim),fun o ho=>by have:=hI.slt _ _ ho;omega⟩⟩)
    refine⟨_,_,_,hk,k1,k2,.msl _ d1 es.length _ cap (by unfold AD;rw[AM];simp) ?_ ?_ (.inr ⟨_,rfl⟩) ?_⟩<;>simp[Gh.upd]
   .by_cases hfull:es.length=cap
    .obtain⟨k1,k2⟩:=hI.newStable hd (.tok sz es.length) vs E (es.length*sz) (.slice (some ⟨w.heap.size,0,none⟩) es.length cap) es.length true w1 IK sS (fun hg FW=>by
      obtain⟨u1,u2,u3,u4⟩:=Bi g d1 (.slice (some ⟨w.heap.size,0,none⟩) es.length cap) es.length true none (g.more w.heap.size (es.length*sz));exact⟨u3,u2,_,cap,u1,.inl ⟨hfull,u4⟩⟩)
     refine⟨_,_,_,hk,k1,k2,.tok _ d1 sz es _ (Bo.slice_row Dz hl hc (hr.mono k2.keeps (fun _ h=>h) (fun _ h=>h.elim)) (fun o ho=>.inr ⟨rfl,ho⟩)) hl (by unfold AD;rw[AM];simp) ?_ ?_ ?_⟩<;>simp[Gh.upd]
    .have nW:=hI.upd d1 (.tok sz es.length) (.slice (some ⟨w.heap.size,0,none⟩) es.length cap) es.length true (some w.heap.size) (g.more w.heap.size (es.length*sz)) (w1.alloc (.cells vs E (0,0))) none
      ⟨IK.2.1,IK.2.2.1,IK.2.2.2,by rw[World.size_alloc,IK.1];omega⟩ (fun k hk' _=>by rw[heap_alloc_old _ _ (by rw[IK.1];exact hk'),IK.1]) (fun b e=>by cases e) (fun _ _ h=>.inl h)
      (fun b o hb=>by
       rcases hb with hb | ⟨rfl,_⟩
       .exact .inl hb
       .exact .inr ⟨by rw[World.size_alloc,IK.1];omega,.inl (Ad _)⟩) (fun b o e=>by cases e)
      (fun b _ e=>by cases e;rw[World.size_alloc,IK.1];exact⟨by omega,.inr (Ad _)⟩) sS (fun hu=>absurd hd hu) (fun hg FW=>by
       obtain⟨u1,u2,u3,u4⟩:=Bi g d1 (.slice (some ⟨w.heap.size,0,none⟩) es.length cap) es.length true (some w.heap.size) (g.more w.heap.size (es.length*sz));exact⟨u3,u2,_,cap,u1,.inr ⟨hc,w.heap.size,E,vs,0,rfl,u4,.of Dz,by rw[hs,Bf],fun o ho=>by
        rcases ho with ho | ⟨_,ho⟩
        .have:=hI.slt _ _ ho;omega
        .omega⟩⟩)
     obtain⟨k1,k2⟩:=nW;refine⟨_,_,_,hk,k1,k2,.tok _ d1 sz es _ (Bo.slice_row Dz hl hc (hr.mono k2.keeps (fun _ h=>h) (fun _ h=>h.elim)) (fun o ho=>.inr ⟨rfl,ho⟩)) hl (by unfold AD;rw[AM];simp) ?_ ?_ ?_⟩<;>simp[Gh.upd]
  .exact hk.elim
end
theorem JA{α:Type}:∀(cs:List α) (o:Nat) (vs:List α),o+vs.length<=cs.length->over cs o vs=cs.take o++vs++cs.drop (o+vs.length)
 | [],o,vs,h=>by
  simp at h;obtain⟨rfl,rfl⟩:=h
  rfl
 |c::cs,o+1,vs,h=>by
  rw[over,JA cs o vs (by simp at h;omega)];simp only[JT,De,B2,Nat.add_right_comm o 1,List.drop_succ_cons]
 |c::cs,0,[],h=>by simp[over]
 |c::cs,0,v::vs,h=>by
  rw[over,JA cs 0 vs (by simp at h;omega)];simp
theorem Qf(cs:List α)(o n:Nat)(vs:List α)(h:o+vs.length<=n)(hn:n<=cs.length):(over cs o vs).take n=over (cs.take n) o vs:=by
 apply Cc;intro i;rw[Ef _ _ _ _ (by simp;omega)]
 by_cases hi:i<n
 .rw[Bm hi,Ef _ _ _ _ sP,Bm hi]
 .rw[Aj sP,AN (by rw[Al,Eg];omega),AN (by simp;omega)]
theorem I1{n:Nat}:∀{es:List (List α)},(∀c∈es,c.length=n)->∀{i:Nat} {c:List α},es[i]?=some c->∀(o:Nat) (vs:List α),o+vs.length<=n ->
  (es.set i (over c o vs)).flatten=over es.flatten (i*n+o) vs
 | [],_,i,c,h,_,_,_=>by simp at h
 |d::es,hl,i,c,h,o,vs,Fc=>by
  have hd:=hl d (Ab ..);have hfl:=Cr (es:=d::es) (n:=n) hl;have Dc:=(Au.1 h).1;have ko:i*n+o+vs.length<=(d::es).flatten.length:=by
   rw[hfl]
   have:=A0 n (show i+1<=(d::es).length from Dc)
   rw[Dg]at this;omega
  have MQ:=hl c (AW h);apply Cc;intro j;rw[Ef _ _ _ _ ko];have Rd:∀e∈(d::es).set i (over c o vs),e.length=n:=fun e he=>by
   rcases CI he with he | rfl
   .exact hl e he
   .rw[Eg];exact MQ
  by_cases hn:n=0
  .subst hn;have h1:=Cr Rd;have h2:=hfl;simp only[Nat.mul_zero,List.length_eq_zero_iff]at h1 h2;rw[h1,h2]
   have:¬(i*0+o<=j/\j<i*0+o+vs.length):=by omega
   rw[Aj this]
  .have iH:j=j / n*n+j % n:=by rw[Nat.mul_comm];exact(Pv j n).symm
   have SB:j % n<n:=Nat.mod_lt _ sP
   by_cases hj:j / n<(d::es).length
   .have g1:(d::es)[j / n]?=some ((d::es)[j / n]):=At hj;have g2:((d::es).set i (over c o vs))[j / n]?=some (if i=j / n then over c o vs else(d::es)[j / n]):=by
     rw[List.getElem?_set]
     by_cases e:i=j / n
     .rw[Av e,Av sP,Av e]
     .rw[Aj e,Aj e];exact g1
    have f1:=D3 hl g1 SB;have f2:=D3 Rd g2 SB;rw[<-iH]at f1 f2;rw[f1,f2];split
    .rename_i e;rw[e]at h;rw[g1]at h;cases h;rw[Ef _ _ _ _ sP];have e2:i*n+o<=j↔o<=j % n:=by rw[e];omega
     have e3:j<i*n+o+vs.length↔j % n<o+vs.length:=by rw[e];omega
     simp only[e2,e3];split
     .congr 1;rw[e];omega
     .rfl
    .rename_i e
     have:¬(i*n+o<=j/\j<i*n+o+vs.length):=by
      rintro⟨q1,q2⟩
      apply e;have a1:i*n<=j:=by omega
      have a2:j<(i+1)*n:=by rw[Dg];omega
      have:=(Nat.le_div_iff_mul_le sP).2 a1
      have:=(Iz sP).2 a2
      omega
     rw[Aj this]
   .have fS:(d::es).length*n<=j:=by
     have:=Nat.not_lt.1 hj
     have:=(Nat.le_div_iff_mul_le sP).1 this
     exact this
    have:¬(i*n+o<=j/\j<i*n+o+vs.length):=by rw[hfl]at ko;omega
    rw[Aj this,AN (by rw[Cr Rd,Bg];exact fS),AN (by rw[hfl];exact fS)]
theorem Lq{P:Program}(hT:B7 P T)(w:World){t:Nat}{x:Value}(hd:(T t).d≠.other)(hs:x.cells.toList.length=(T t).size)(h1:∀v∈x.cells.toList,v.oneCell'=true)(hb:w.heap[b]?=some (.cells Cl E (0,0)))(Fc:off+x.cells.toList.length<=Cl.size) :
  (Instr.storeAt t (.pointer (some ⟨b,off,none⟩)) x).run P w=.ok () (w.setRow b (over Cl.toList off x.cells.toList).toArray):=by
 have JM:=run_storeCells_at P b off E x.cells.toList 0 Cl w hb (by simpa using Fc) h1;simp only[CJ]at JM;have bh : x.cells.size=(T t).size:=by simpa using hs
 rw[JA _ _ _ (by simpa using Fc)];simp only[Instr.storeAt,Sem.run_bind,Instr.sureAddr,Sem.run_pure,Result.andThen_ok,storeVar,hT.size w hd,bh,ne_eq,not_true_eq_false,FK];exact JM
section
variable {P:Program}{w0:World}{g0:Gh}{h0 h:Nat->HO}{g:Gh}{w:World}(hI:Do w0 g0 h0 h g w)
include hI
theorem V0{d:Nat}(hd:h d=.free)(h1:h 1001=.free)(hn:d≠1001)(hv:vs=#[.pointer none,.slice none 0 0]) :
  ∃g',Do w0 g0 h0 (AH (AH h 1001 (.bbf 0)) d (.bld (.slice (.id 1001 1) []))) g' (w.alloc (.cells vs QT (0,0)))/\Le h g w (AH (AH h 1001 (.bbf 0)) d (.bld (.slice (.id 1001 1) []))) g' (w.alloc (.cells vs QT (0,0))) /\
   Bo g' (w.alloc (.cells vs QT (0,0))) (AD (AH (AH h 1001 (.bbf 0)) d (.bld (.slice (.id 1001 1) [])))) (.ref d 0) (.pointer (some ⟨w.heap.size,0,none⟩)):=by
 obtain⟨k1,k2⟩:=hI.upd 1001 (.bbf 0) (.slice none 0 0) 0 true none g.S w none ⟨rfl,rfl,rfl,Ad _⟩ (fun _ _ _=>rfl) (fun b e=>by cases e) (fun _ _ h=>h) (fun _ _ h=>.inl h) (fun b o e=>by cases e)
  (fun b _ e=>by cases e) sS (fun hu=>absurd h1 hu) (fun _ _=>⟨by simp[Gh.upd],by simp[Gh.upd],.inl ⟨rfl,by simp[Gh.upd],by simp[Gh.upd]⟩⟩)
 obtain⟨m1,m2⟩:=k1.newOwn (d:=d) (by rw[Bs _ _ _ _ hn];exact hd) (.bld (.slice (.id 1001 1) [])) (.cells vs QT (0,0)) (.pointer (some ⟨w.heap.size,0,none⟩)) 0 false w ⟨rfl,rfl,rfl,rfl⟩ sS
  (fun _ _=>by
   subst hv;refine⟨by simp[Gh.upd],w.heap.size,.pointer none,.slice none 0 0,by simp[Gh.upd],by simp[Gh.upd],heap_alloc_new w _,.inl rfl,?_,fun o hs=>?_⟩
   .refine .tok _ 1001 1 [] _ (.snil _ _ _) sS ?_ ?_ (Ar _) (fun _=>?_)
    .unfold AD;rw[Bs _ _ _ _ (OZ hn),AM];simp
    .simp[Gh.upd,Ne.symm hn]
    .simp[Gh.upd,Ne.symm hn]
   .have:=hI.slt _ _ hs;omega)
 exact⟨_,m1,k2.trans m2,.ref _ d 0 w.heap.size (by unfold AD;rw[AM];simp) (by simp[Gh.upd]) (by simp[Gh.upd])⟩
theorem VR(hT:B7 P T){d:Option Nat}{e:Nat}(hk:Nq T d h e K):Kb P w0 g0 h0 h g w (Instr.alloc e true (.tuple #[])) K:=by
 unfold Nq at hk;split at hk
 .exact hk.elim
 .split at hk
  .rename_i hd;split at hk
   .exact hk.elim
   .rename_i Dn;split at hk
    .rename_i he;obtain rfl:=AB he;split at hk
     .rename_i h1 hn hz;obtain⟨z,z1,z2,_⟩:=Jl hT (w:=w) Dn;have hv:z.cells=#[.pointer none,.slice none 0 0]:=by rw[hz]at z2;exact IF.1 z2.symm
      obtain⟨g',k1,k2,k3⟩:=V0 hI hd h1 (fun e=>by rw[e]at hn;exact absurd hn sR) hv;refine⟨_,_,g',_,_,?_,hk,k1,k2,k3⟩;simp[Instr.alloc,z1,newVar,newRow]
     .exact hk.elim
    split at hk
    .rename_i ha;obtain⟨z,z1,z2,_⟩:=Jl hT (w:=w) Dn;have hr:B3 g w (AD h) ((T e).zc.map .v) z.cells.toList:=by rw[z2]at ha⊢;exact B3.vals ha
     obtain⟨g',k1,k2,k3⟩:=Mz hI hd (vs:=z.cells) e hr;refine⟨_,_,g',_,_,?_,hk,k1,k2,k3⟩;simp[Instr.alloc,z1,newVar,newRow]
    .exact hk.elim
  .exact hk.elim
theorem Lt{vs:List Value}(hr:B3 g w (AD h) cs vs):B3 g w D2 (cs.map (str h)) vs:=by
 refine⟨by rw[AO];exact hr.1,hr.2.1,fun i av x h1 h2=>?_⟩;rw[Ap,Ay]at h1;obtain⟨a,a1,rfl⟩:=h1;exact(hr.2.2 i a x a1 h2).str hI.objs
theorem bC{d:Option Nat}{e:Nat}{x:AV}(hx:Bo g w (AD h) x vx)(hk:V1 cx d h e x K):Kb P w0 g0 h0 h g w (Instr.box e vx) K:=by
 unfold V1 at hk;split at hk
 .exact hk.elim
 .split at hk
  .rename_i hd;split at hk
   .exact hk.elim
   .obtain⟨cs,hk,hn,hr⟩:=Jq hx hk;split at hk
    .obtain⟨g',k1,k2,k3⟩:=ZJ hI hd (vs:=vx.cells) e (Lt hI hr);exact⟨_,_,g',_,_,rfl,hk,k1,k2,k3⟩
    .obtain⟨g',k1,k2,k3⟩:=Mz hI hd (vs:=vx.cells) e hr;exact⟨_,_,g',_,_,rfl,hk,k1,k2,k3⟩
  .exact hk.elim
theorem Do.write{r b:Nat}(hl:(h r).live)(ho:g.own r=some b)(o' : HO)(hb:w.heap[b]?=some (.cells Cl E (0,0)))(new:Array Value)(n:Nat)(ow:Option Nat)(S' : Nat->Nat->Prop)(Dn:o'≠.free)(hn:n=g.ln r)(kz:∀b',ow=some b'->b'=b)(hS:∀b o,g.S b o->S' b o)(lV:∀b' o,S' b' o->g.S b' o\/b'=b)(kj:∀o,g.S b o->new[o]?=Cl[o]?)(G0:Ho g (g.upd r (g.ρ r) n (g.tk r) ow S') (AD h)->DO g w (g.upd r (g.ρ r) n (g.tk r) ow S') (w.setRow b new)->(w.setRow b new).heap[b]?=some (.cells new E (0,0)) ->
   C3 (g.upd r (g.ρ r) n (g.tk r) ow S') (w.setRow b new) (AD (AH h r o')) r o') :
  Do w0 g0 h0 (AH h r o') (g.upd r (g.ρ r) n (g.tk r) ow S') (w.setRow b new)/\Le h g w (AH h r o') (g.upd r (g.ρ r) n (g.tk r) ow S') (w.setRow b new):=by
 have Dz:=setRow_heap w b Cl new E (0,0) hb;have Dc:=(hI.loc r b hl ho).1
 refine hI.upd r o' _ _ _ _ _ _ (some b) ⟨rfl,rfl,rfl,by rw[size_setRow];exact Ad _⟩ (fun k hk Dn=>setRow_other w b k new (fun e=>Dn (by rw[e]))) (fun b' e=>by cases e;exact⟨hl,ho⟩) hS (fun b' o hs=>?_)
  (fun b' o e hs=>?_) (fun b' _ e=>?_) Dn (fun _=>⟨rfl,by omega,fun _=>rfl,fun _=>rfl⟩) (fun hg hk=>G0 hg hk Dz)
 .rcases lV b' o hs with h1 | rfl
  .exact .inl h1
  .exact .inr ⟨by rw[size_setRow];exact Dc,.inr ⟨hl,ho⟩⟩
 .cases e
  refine⟨?_,fun es ck he=>by rw[hb]at he;cases he⟩;rw[Ee Dz,Ee hb];exact kj o hs
 .obtain rfl:=kz b' e;exact⟨by rw[size_setRow];exact Dc,.inl ⟨hl,ho⟩⟩
theorem Xv(hT:B7 P cx.T){t:Nat}{p x:AV}{vp:Value}(hp:Bo g w (AD h) p vp)(hx:Bo g w (AD h) x vx)(hk:Ky cx h t p x K) :
  XM P w0 g0 h0 h g w (Instr.storeAt t vp vx) K:=by
 unfold Ky at hk;split at hk
 .exact hk.elim
 .rename_i hd;have h5:=Jq hx hk
  clear hk
  obtain⟨vs,hk,hn,hr⟩:=h5;have BQ:vx.cells.toList.length=vs.length:=hr.1;split at hk
  .rename_i r off;have ho:=hI.objs r;split at hk
   .rename_i cs e;obtain⟨Fc,hk⟩:=hk;rw[e]at ho;obtain⟨t0,b,E,Cl,a1,a2,a3,a4,a5⟩:=ho;cases hp with
    |ref _ _ _ b' hu ht bg=>
     rw[a2]at bg;cases bg;have Vd:Cl.toList.length=cs.length:=a4.1;have Ce:=Lq hT w (t:=t) (off:=off) (x:=vx) hd (by rw[BQ,hn]) hr.2.1 a3 (by rw[BQ];simp at Vd;omega);have hl:(h r).live:=by rw[e];trivial
     have gn:=a4.over hr off Fc;split at hk
     .obtain⟨k1,k2⟩:=hI.write hl a1 (.ro ((over cs off vs).map (str h))) a3 (over Cl.toList off vx.cells.toList).toArray (g.ln r) none (g.more b cs.length) sS rfl (fun _ e=>by cases e) (fun _ _ h=>.inl h)
       (fun b' o hs=>hs.elim .inl (fun hs=>.inr hs.1)) (fun o hs=>absurd hs (a5 o)) (fun hg FW Dz=>by
        obtain⟨u1,u2,u3,u4⟩:=Bi g r (g.ρ r) (g.ln r) (g.tk r) none (g.more b cs.length);refine⟨u3.trans t0,b,u1.trans a2,Bo.cptr_row Dz ?_ (fun o ho=>.inr ⟨rfl,?_⟩)⟩
        .exact(Lt hI gn).mono FW (fun _ h=>h) (fun _ h=>h.elim)
        .rw[AO,Eg]at ho;exact ho)
      exact⟨_,_,_,Ce,hk,k1,k2⟩
     .obtain⟨k1,k2⟩:=hI.write hl a1 (.cells (over cs off vs)) a3 (over Cl.toList off vx.cells.toList).toArray (g.ln r) (g.own r) g.S sS rfl (fun b' e=>by rw[a1]at e;cases e;rfl) (fun _ _ h=>h)
       (fun b' o hs=>.inl hs) (fun o hs=>absurd hs (a5 o)) (fun hg FW Dz=>by
        obtain⟨u1,u2,u3,u4⟩:=Bi g r (g.ρ r) (g.ln r) (g.tk r) (g.own r) g.S;exact⟨u3.trans t0,b,E,_,u4.trans a1,u1.trans a2,Dz,gn.mono FW (fun i hi=>CV sS i hi) hg,a5⟩)
      exact⟨_,_,_,Ce,hk,k1,k2⟩
   .exact hk.elim
  .rename_i r n sz i off;have ho:=hI.objs r;split at hk
   .rename_i ES es e;rw[e]at ho;split at hk
    .rename_i hz;obtain rfl:=AB hz;obtain⟨gl,cs,hi,Fc,hk⟩:=hk;obtain⟨t1,l1,al,a1⟩:=ho;have Dc:=(Au.1 hi).1;rcases a1 with ⟨rfl,_⟩ | ⟨b,cap,E,Cl,e1,e2,e3,e4,e5,e6,e7⟩
     .simp at hi
     .cases hp with
      |eref _ _ _ _ _ _ b' HL hu ht Za bg=>
       have bg:=bg (gl.trans l1.symm);rw[e1]at bg;simp only[Value.slice.injEq,Ba,Addr.mk.injEq]at bg;obtain⟨⟨rfl,_,_⟩,_,_⟩:=bg;have MQ:=al cs (AW hi);have N1:i*sz+sz<=es.length*sz:=by
        have:=A0 sz (show i+1<=es.length from Dc)
        rwa [Dg]at this
       have Y9:es.length*sz<=cap*sz:=A0 sz e3;have Ce:=Lq hT w (t:=t) (off:=i*sz+off) (x:=vx) hd (by rw[BQ,hn]) hr.2.1 e4 (by rw[BQ];omega);have hl:(h r).live:=by rw[e];trivial
       have jR : ∀c∈es.set i (over cs off (vs.map (str h))),c.length=sz:=fun c hc=>by
        rcases CI hc with hc | rfl
        .exact al c hc
        .rw[Eg];exact MQ
       have hfl:=I1 al hi off (vs.map (str h)) (by rw[AO];exact Fc);have Sv:Cl.toList.length=cap*sz:=by rw[A4];exact e5
       have bj:((over Cl.toList (i*sz+off) vx.cells.toList).toArray.toList.take ((es.set i (over cs off (vs.map (str h)))).length*sz))=over (Cl.toList.take (es.length*sz)) (i*sz+off) vx.cells.toList:=by
        rw[Bg];exact Qf _ _ _ _ (by rw[BQ];omega) (by rw[Sv];exact Y9)
       have gn:B3 g w D2 (es.set i (over cs off (vs.map (str h)))).flatten ((over Cl.toList (i*sz+off) vx.cells.toList).toArray.toList.take ((es.set i (over cs off (vs.map (str h)))).length*sz)):=by
        rw[bj,hfl];exact e6.over (Lt hI hr) _ (by rw[AO,Cr al];omega)
       split at hk
       .rename_i j m;have SH:∃x0,vx.cells.toList=[x0]:=by
         revert BQ
         cases vx.cells.toList with
         |nil=>intro BQ;cases BQ
         |cons x0 l=>cases l with
          |nil=>intro _;exact⟨x0,rfl⟩
          |cons _ _=>intro BQ;simp at BQ
        obtain⟨x0,SH⟩:=SH;have Dd:=hr.2.2 0 (.msl j m) x0 rfl (by rw[SH];rfl)
        obtain⟨k1,k2⟩:=hI.write hl e2 (.hol sz (es.set i (over cs off [.junk])) i off (.msl j m)) e4 (over Cl.toList (i*sz+off) vx.cells.toList).toArray (g.ln r) (g.own r) g.S sS rfl (fun b' e=>by rw[e2]at e;cases e;rfl) (fun _ _ h=>h)
         (fun b' o hs=>.inl hs) (fun o hs=>absurd hs (e7 o)) (fun hg FW Dz=>by
          obtain⟨u1,u2,u3,u4⟩:=Bi g r (g.ρ r) (g.ln r) (g.tk r) (g.own r) g.S;have Wx:i*sz+off<es.length*sz:=by simp only[Am,Aw]at Fc;omega
          refine⟨u3.trans t1,u2.trans (by rw[Bg];exact l1),jR,b,cap,E,_,?_,u4.trans e2,by rw[Bg];exact e3,Dz,?_,gn.mono FW (fun _ h=>h) (fun _ h=>h.elim),e7,by rw[Bg];exact Wx,x0,?_,Dd.mono FW (fun i hi=>CV sS i hi) hg⟩
          .rw[u1,e1,Bg]
          .simp only[CF,Eg,A4];exact e5
          .rw[<-Az,SH,Ef _ _ _ _ (by rw[Sv];simp only[Am,Aw];omega),Av ⟨Ad _,by simp only[Am,Aw];omega⟩,DB];rfl)
        exact⟨_,_,_,Ce,hk,k1,k2⟩
       .obtain⟨k1,k2⟩:=hI.write hl e2 (.arr sz (es.set i (over cs off (vs.map (str h))))) e4 (over Cl.toList (i*sz+off) vx.cells.toList).toArray (g.ln r) (g.own r) g.S sS rfl (fun b' e=>by rw[e2]at e;cases e;rfl) (fun _ _ h=>h)
         (fun b' o hs=>.inl hs) (fun o hs=>absurd hs (e7 o)) (fun hg FW Dz=>by
          obtain⟨u1,u2,u3,u4⟩:=Bi g r (g.ρ r) (g.ln r) (g.tk r) (g.own r) g.S;refine⟨u3.trans t1,u2.trans (by rw[Bg];exact l1),jR,.inr ⟨b,cap,E,_,?_,u4.trans e2,by rw[Bg];exact e3,Dz,?_,gn.mono FW (fun _ h=>h) (fun _ h=>h.elim),e7⟩⟩
          .rw[u1,e1,Bg]
          .simp only[CF,Eg,A4];exact e5)
        exact⟨_,_,_,Ce,hk,k1,k2⟩
    .exact hk.elim
   .exact hk.elim
  .exact hk.elim
end
theorem WX(c vs:List α)(h:vs.length=c.length):over c 0 vs=vs:=by
 rw[JA _ _ _ sP];simp[h]
theorem FP[Inhabited α](z:List α)(hz:z≠[]):(List.replicate n z).flatten=(List.range (n*z.length)).map fun k=>z[k % z.length]!:=by
 have hl:∀c∈List.replicate n z,c.length=z.length:=fun c hc=>by rw[BM hc]
 have MS:0<z.length:=GG.2 hz;apply Cc;intro k
 by_cases hk:k<n*z.length
 .have iH:k=k / z.length*z.length+k % z.length:=by rw[Nat.mul_comm];exact(Pv k _).symm
  have SB:k % z.length<z.length:=Nat.mod_lt _ MS;have hi:k / z.length<n:=(Iz MS).2 hk;have f1:=D3 hl (i:=k / z.length) (c:=z) (by rw[List.getElem?_replicate,Av hi]) SB;rw[<-iH]at f1;rw[f1];simp[hk,SB]
 .rw[AN (by rw[Cr hl,A7];omega),AN (by simp;omega)]
section
variable {P:Program}{w0:World}{g0:Gh}{h0 h:Nat->HO}{g:Gh}{w:World}(hI:Do w0 g0 h0 h g w)
include hI
theorem Sp{n sz:Nat}{t:Nat->AV}{ρ:Operand->Value}(ht:∀x:Operand,Bo g w (AD h) (ev t x) (ρ x)) :
  ∀{ps:List (Nat×Operand)} {es:List (List AV)} {xs:Array Value} {K:List (List AV)->Prop},es.length=n->(∀c∈es,c.length=sz)->B3 g w D2 es.flatten xs.toList->Mo n sz h es t ps K ->
   ∃EA QB,K EA/\EA.length=n/\(∀c∈EA,c.length=sz)/\B3 g w D2 EA.flatten QB.toList/\Instr.fill (fun i=>some (i*sz,sz)) xs (ps.map fun(i,x)=>(i,ρ x))=some QB
 | [],es,xs,K,hn,hl,h,hk=>⟨es,xs,hk,hn,hl,h,rfl⟩
 |(i,x)::ps,es,xs,K,hn,hl,h,hk=>by
  unfold Mo at hk;split at hk
  .rename_i hi;have hi:i<n:=DQ hi;have h5:=Jq (ht x) hk
   clear hk
   obtain⟨Pa,hk,gc,hr⟩:=h5;have Dm:(ρ x).cells.size=sz:=by rw[<-gc];simpa using hr.1
   have XJ:=Lt hI hr;obtain⟨c,hc⟩:∃c,es[i]?=some c:=⟨_,At sP⟩;have MQ:=hl c (AW hc);have Fc:i*sz+sz<=es.flatten.length:=by
    rw[Cr hl,hn]
    have:=A0 sz (show i+1<=n from hi)
    rwa [Dg]at this
   have hfl:=I1 hl hc 0 (Pa.map (str ‹Nat->HO›)) (by rw[AO,gc];omega);rw[WX _ _ (by rw[AO,gc,MQ]),CJ]at hfl;have Dz:=h.over XJ (i*sz) (by rw[AO,gc];exact Fc);have bl:xs.size=es.flatten.length:=by have:=h.1;rwa [A4]at this
   have e:=Km (ρ x).cells.toList 0 (i*sz) xs (by rw[A4];omega);simp only[CJ]at e;rw[<-e,<-hfl]at Dz;obtain⟨EA,QB,k1,k2,k3,k4,k5⟩:=Sp ht (es:=es.set i (Pa.map (str _))) (by rw[Bg];exact hn) (fun c' lZ=>by
    rcases CI lZ with lZ | rfl
    .exact hl c' lZ
    .rw[AO];exact gc) Dz hk
   refine⟨EA,QB,k1,k2,k3,k4,?_⟩;simp only[Bq,Instr.fill];have e2:(ρ x).cells.zipIdx.foldl (fun cs (c,j)=>cs.setIfInBounds (i*sz+j) c) xs=((ρ x).cells.toList.zipIdx 0).foldl (fun(cs:Array Value) (p:Value×Nat)=>cs.setIfInBounds (i*sz+p.2) p.1) xs:=by
    rw[<-Array.foldl_toList];simp
   rw[Aj (by simp[Dm];omega),e2];exact k5
  .exact hk.elim
theorem Nv(hT:B7 P cx.T){d:Option Nat}{ty n:Nat}{t:Nat->AV}{ρ:Operand->Value}(ht:∀x:Operand,Bo g w (AD h) (ev t x) (ρ x)){ps:Array (Nat×Operand)}(hk:Gf cx d h ty n t ps.toList K):Kb P w0 g0 h0 h g w (Instr.buildSlice ty n (ps.map fun(i,x)=>(i,ρ x))) K:=by
 unfold Gf at hk;split at hk
 .rename_i e hs;split at hk
  .rename_i K7 LQ;have LQ:=AB LQ;split at hk
   .exact hk.elim
   .rename_i m hm;split at hk
    .rename_i Fc;have Fc:=DQ Fc;have cy:(cx.T e).zc≠[]:=fun e0=>by rw[e0]at LQ;rw[hm]at LQ;cases LQ
     have qc:∀c∈List.replicate n ((cx.T e).zc.map AV.v),c.length=(cx.T e).size:=fun c hc=>by rw[BM hc,AO];exact LQ
     have kc:B3 g w D2 (List.replicate n ((cx.T e).zc.map AV.v)).flatten ((Array.range (n*(cx.T e).size)).map fun k=>(cx.T e).zc.toArray[k % (cx.T e).zc.toArray.size]!).toList:=by
      have e1:((Array.range (n*(cx.T e).size)).map fun k=>(cx.T e).zc.toArray[k % (cx.T e).zc.toArray.size]!).toList=(List.replicate n (cx.T e).zc).flatten:=by
       rw[FP n _ cy];simp[LQ]
      have e2:(List.replicate n ((cx.T e).zc.map AV.v)).flatten=(List.replicate n (cx.T e).zc).flatten.map AV.v:=by
       rw[List.map_flatten,List.map_replicate]
      rw[e1,e2];refine B3.vals ?_;have EM:∀l:List AV,(∀a∈l,one a=true)->EY l=true:=by
       intro l
       induction l with
       |nil=>intro _;rfl
       |cons a l ih=>intro h;simp[EY,h a (List.mem_cons_self ..),ih (fun b hb=>h b (List.mem_cons_of_mem _ hb))]
      refine EM _ (fun a ha=>?_);obtain⟨x,hx,rfl⟩:=AA.1 ha;obtain⟨l,hl,hx⟩:=Nj.1 hx;rw[BM hl]at hx;exact Jm K7 _ (AA.2 ⟨x,hx,rfl⟩)
     obtain⟨EA,QB,k1,k2,k3,k4,k5⟩:=Sp hI ht (by rw[A7]) qc kc hk;have bl:QB.size=n*(cx.T e).size:=by
      have:=k4.1
      rw[A4,Cr k3,k2]at this;exact this
     obtain⟨g',av,h',q1,q2,q3,q4⟩:=Hk hI k1 (vs:=QB) (cap:=n) e k3 sP bl (by
      rw[k2,As (by rw[A4,bl];exact Ad _)];exact k4) w ⟨rfl,rfl,rfl,rfl⟩
     rw[k2]at q4;refine⟨_,_,g',av,h',?_,q1,q2,q3,q4⟩;obtain⟨z,z1,z2⟩:=QD hT (w:=w) hm;have Dm:=hT.size1 w hm;have e3:(Array.map (fun x:Nat×Operand=>match x with | (i,x)=>(i,ρ x)) ps).toList=ps.toList.map fun(i,x)=>(i,ρ x):=by simp
     have ox:¬(n*(m+1)>2 ^ 24):=by rw[hm]at Fc;have Fc:n*(m+1)<=16777216:=Fc;omega
     simp only[Instr.buildSlice,Sem.run_bind,run_underlying (hT.slice hs),Result.andThen_ok,Dm,Aj ox];rw[e3];rw[hm]at k5
     by_cases h0:n*(m+1)=0
     .have ot:n=0:=by
       rcases Nat.mul_eq_zero.1 h0 with h | h
       .exact h
       .cases h
      subst ot;have er:Array.range 0=#[]:=rfl;simp only[Gt,er,List.map_toArray,EJ]at k5;simp only[Gt,if_true,er,List.map_toArray,EJ,k5];simp[newRow]
     .rw[z2]at k5;simp only[Array.toArray_toList]at k5;simp only[Aj h0,Sem.run_bind,z1,Result.andThen_ok,Sem.run_pure,k5];simp[newRow]
    .exact hk.elim
  .exact hk.elim
 .exact hk.elim
end
theorem El{sz:Nat}:∀{es:List (List AV)},Cn sz es->∀c∈es,c.length=sz
 | [],_,c,h=>by cases h
 |d::es,h,c,hc=>by
  rcases AS.1 hc with rfl | hc
  .exact h.1
  .exact El h.2 c hc
def KL(x:Value)(n sz:Nat)(news:List Value):Prop:=
 news.length=n*sz/\(∀v∈news,v.oneCell'=true)/\∃(a:Option Addr) (c:Nat),x=.slice a n c/\(n=0\/∃b:Addr,a=some b/\∀j u,news[j]?=some u->w.cell? (b.add j)=some u)
theorem KL.of_rep{w:World}{x:Value}(h:Bo g w U (.slice .none es) x)(hl:∀c∈es,c.length=sz) :
  ∃news,KL w x es.length sz news/\B3 g w D2 es.flatten news:=by
 cases h with
 |snil _ a cap=>exact⟨[],⟨by simp,by simp,a,cap,rfl,.inl rfl⟩,by simp,by simp,fun i av x h1 h2=>by simp at h2⟩
 |slice _ _ b off ES cap val hc NZ Cm Dd=>
  have hf:=Cr hl;have key:∀j,j<es.length*sz->∃cs,es[j / sz]?=some cs/\es.flatten[j]?=cs[j % sz]?/\j % sz<cs.length/\ES=sz/\j=j / sz*sz+j % sz:=by
   intro j hj;have MS:0<sz:=Nat.pos_of_ne_zero (fun e=>by rw[e]at hj;omega);have iH:j=j / sz*sz+j % sz:=by rw[Nat.mul_comm];exact(Pv j sz).symm
   have hi:j / sz<es.length:=(Iz MS).2 hj;have SB:j % sz<sz:=Nat.mod_lt _ MS;have h1:es[j / sz]?=some es[j / sz]:=At hi;have h2:=D3 hl h1 SB;rw[<-iH]at h2;have h3:=hl _ (Af hi);exact⟨_,h1,h2,by rw[h3];exact SB,by rw[<-h3];exact(NZ _ _ h1).symm,iH⟩
  have Io:∀j,j<es.length*sz->∃av,es.flatten[j]?=some av/\w.cell? ⟨b,off+j,none⟩=some (val (j / sz) (j % sz))/\(val (j / sz) (j % sz)).oneCell'=true/\Bo g w D2 av (val (j / sz) (j % sz)):=by
   intro j hj;obtain⟨cs,k1,k2,k3,rfl,k5⟩:=key j hj;have Y0:cs[j % ES]?=some cs[j % ES]:=At k3;obtain⟨_,c2,c3⟩:=Cm _ _ _ _ k1 Y0;rw[ET,<-k5]at c2;exact⟨_,k2.trans Y0,c2,c3,Dd _ _ _ _ k1 Y0⟩
  refine⟨(List.range (es.length*sz)).map fun j=>val (j / sz) (j % sz),⟨by simp,fun v hv=>?_,some ⟨b,off,none⟩,cap,rfl,.inr ⟨_,rfl,fun j u hu=>?_⟩⟩,by rw[hf];simp,fun v hv=>?_,fun i av x h1 h2=>?_⟩
  .obtain⟨j,hj,rfl⟩:=AA.1 hv;obtain⟨_,_,_,c,_⟩:=Io j (KJ.1 hj);exact c
  .obtain⟨hj,rfl⟩:=range_map_get hu;rw[Addr.add_lit];exact(Io j hj).choose_spec.2.1
  .obtain⟨j,hj,rfl⟩:=AA.1 hv;obtain⟨_,_,_,c,_⟩:=Io j (KJ.1 hj);exact c
  .obtain⟨hj,rfl⟩:=range_map_get h2;obtain⟨je,c1,_,_,c4⟩:=Io i hj;rw[h1]at c1;cases c1;exact c4
section
variable {P:Program}{T:EU}(hT:B7 P T)
include hT
theorem FF{n:Nat}(hs:(T e).size=n+1):∃i z,P.info? e=some i/\i.zero=some z/\i.size=(T e).size/\i.bytes=(T e).bytes/\(T e).zc=z.cells.toList:=by
 rcases hT e with h | h
 .rw[h]at hs;cases hs
 unfold Xz at h;split at h
 .split at h
  .rename_i d i h1 h2 _ z h3;exact⟨i,z,h2,h3,by rw[h],by rw[h],by rw[TI.zc_cells,h]⟩
  .rw[h]at hs;cases hs
 .rw[h]at hs;cases hs
theorem Gx(w:World){t ty k:Nat}(ht:(T t).d=.slice e)(hk:(T e).size=k+1)(a a' : Option Addr)(n cap c:Nat)(hc:n<=cap) :
  (Builtin.append_ #[t,t] ty #[.slice a n cap,.slice a' 0 c]).run P w=.ok (.slice a n cap) w:=by
 have hu:=hT.slice ht;cases a<;>cases a'<;>simp[Builtin.append_,run_underlying hu,hT.size1 w hk,Builtin.lenOf,hc,Builtin.firstCells,loadCells,loadCellsFrom,storeCells]
theorem FQ(w:World){t ty k:Nat}(ht:(T t).d=.slice e)(hk:(T e).size=k+1)(hz:(T e).zc.length=(T e).size){s x:Value}{n m c:Nat}{olds news:List Value}{a a' : Option Addr}(rL:KL w s n (T e).size olds)(hs:s=.slice a n cap)(I4:a=none->cap=0)(rM:KL w x m (T e).size news)(hx:x=.slice a' m c)(hm:0<m)(hg:cap<n+m)(hb:(n+m)*(T e).bytes<=140737488355328)(sw:n+m<=9223372036854775807) :
  ∃nc rest,(Builtin.append_ #[t,t] ty #[s,x]).run P w=.ok (.slice (some ⟨w.heap.size,0,none⟩) (n+m) nc) (w.drew.alloc (.cells (olds++news++rest).toArray e (0,0)))/\n+m<=nc /\
   (olds++news++rest).length=nc*(T e).size:=by
 obtain⟨i,z,i1,i2,i3,i4,i5⟩:=FF hT hk;have hu:=hT.slice ht;obtain⟨n1,n2,a1,c1,n3,n4⟩:=rM;subst hx;cases n3;rcases n4 with h | ⟨b,rfl,GC⟩
 .omega
 .have LQ:z.cells.size=(T e).size:=by rw[<-hz,i5];simp
  have SA:∀(nc:Nat) (pre:List Value),pre.length=(n+m)*(T e).size->n+m<=nc->(pre++(Builtin.zeroCells z.cells (nc-(n+m))).toList).length=nc*(T e).size:=by
   intro nc pre hp Fc;have e1:(Builtin.zeroCells z.cells (nc-(n+m))).toList.length=(nc-(n+m))*(T e).size:=by simp only[A4,size_zeroCells,LQ]
   rw[Ac,e1,hp,<-D1]
   congr 1;omega
  obtain⟨o1,o2,a2,c2,o3,o4⟩:=rL;subst hs;cases o3;cases a with
  |none=>
   obtain rfl:=I4 rfl;have ot:n=0:=by
    rcases o4 with h | ⟨b',h,_⟩
    .exact h
    .cases h
   subst ot;have ho:olds=[]:=AF (by simpa using o1);subst ho;have hr:=run_append_nil (P:=P) w t ty e i z hu i1 i2 b m c news (by rw[i3];exact n1) GC hm sP (by rw[i4];rw[Bf]at hb;omega);refine⟨grownCap w m 0 e,(Builtin.zeroCells z.cells (grownCap w m 0 e-m)).toList,?_,by rw[Bf];exact grownCap_ge w m 0 e,?_⟩
   .rw[hr,Bf]
    congr 3
    apply Ha;simp
   .have:=SA (grownCap w m 0 e) news (by rw[Bf];exact n1) (by rw[Bf];exact grownCap_ge w m 0 e)
    rw[Bf]at this;simpa using this
  |some b'=>
   have IB:∀j u,olds[j]?=some u->w.cell? (b'.add j)=some u:=by
    rcases o4 with h | ⟨b2,h,h'⟩
    .intro j u hj;rw[h,Gt]at o1
     have:olds=[]:=AF o1
     rw[this]at hj;simp at hj
    .cases h;exact h'
   have hr:=run_append_grow (P:=P) w t ty e i z hu i1 i2 b' n cap olds (by rw[i3];exact o1) IB b m c news (by rw[i3];exact n1) GC hg sP (by rw[i4];exact growslice_fits hg hb);refine⟨grownCap w (n+m) cap e,(Builtin.zeroCells z.cells (grownCap w (n+m) cap e-(n+m))).toList,?_,grownCap_ge w (n+m) cap e,SA _ _ (by rw[Ac,o1,n1,<-D1]) (grownCap_ge w (n+m) cap e)⟩;rw[hr]
   congr 3
   apply Ha;simp
end
end Go.Eng
