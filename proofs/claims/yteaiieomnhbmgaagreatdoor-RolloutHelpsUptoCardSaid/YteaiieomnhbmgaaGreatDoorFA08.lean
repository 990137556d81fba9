/- Lemmas 8. -/
import Derived.Test.YteaiieomnhbmgaaGreatDoorFA07
namespace Go.Eng
variable {vs:Array Value}{es:List (List AV)}{U:Nat->Prop}{E:TypeId}{cs:List AV}{f:Nat×Nat}{K:HK}{b:Nat}{α:Type}{EJ:Array Value}{g:Gh}{cx:Cx}{sz cap e:Nat}{vx:Value}{off:Nat}{T:Ha}(P:Program)(w0:World)(g0:Gh)(n:Nat)(h0 h:Nat->HO)(w:World)
def OT(g:Gh)(w:World)(m:Sem Value)(K:HK):Prop:=
 ∃x w' g' av h',m.run P w=.ok x w'/\K av h'/\D3 w0 g0 h0 h' g' w'/\Le h g w h' g' w'/\BU g' w' (AR h') av x
def ly(g:Gh)(w:World)(m:Sem Unit)(K:HK):Prop:=
 ∃w' g' h',m.run P w=.ok () w'/\K (.v undef) h'/\D3 w0 g0 h0 h' g' w'/\Le h g w h' g' w'
section
variable {P:Program}{w0:World}{g0:Gh}{h0 h:Nat->HO}{g:Gh}{w:World}(hI:D3 w0 g0 h0 h g w)
include hI
theorem BW.does{m:Sem Value}(hg:BW P h g w m (fun v=>K v h)):OT P w0 g0 h0 h g w m K:=
 let ⟨x,av,h1,h2,h3⟩:=hg
 ⟨x,w,g,av,h,h1,h2,hI,.refl _ _ _,h3⟩
theorem D3.newOwn{d:Nat}(hd:h d=.free)(o' : HO)(ob:Obj)(x:Value)(n:Nat)(t:Bool)(w1:World)(Me:w1.heap=w.heap/\w1.os=w.os/\w1.tape=w.tape/\w1.output=w.output)(DJ:o'≠.free)
  (KD:Lp g (g.upd d x n t (some w.heap.size) g.S) (AR h)->EO g w (g.upd d x n t (some w.heap.size) g.S) (w1.alloc ob) ->
   Ez (g.upd d x n t (some w.heap.size) g.S) (w1.alloc ob) (AR (A3 h d o')) d o') :
  D3 w0 g0 h0 (A3 h d o') (g.upd d x n t (some w.heap.size) g.S) (w1.alloc ob)/\Le h g w (A3 h d o') (g.upd d x n t (some w.heap.size) g.S) (w1.alloc ob):=by
 refine hI.upd d o' x n t _ _ _ none ⟨Me.2.1,Me.2.2.1,Me.2.2.2,by rw[World.size_alloc,Me.1];omega⟩ (fun k hk _=>?_) (fun b e=>by cases e) (fun _ _ h=>h) (fun _ _ h=>.inl h) (fun b o e=>by cases e)
  (fun b _ e=>?_) DJ (fun hu=>absurd hd hu) KD
 .rw[heap_alloc_old _ _ (by rw[Me.1];exact hk),Me.1]
 .cases e;rw[World.size_alloc,Me.1];exact⟨by omega,.inr (Am _)⟩
def Gh.more(g:Gh)(b n:Nat):Nat->Nat->Prop:=fun b' o=>g.S b' o\/(b'=b/\o<n)
theorem D3.newStable{d:Nat}(hd:h d=.free)(o' : HO)(vs:Array Value)(E:TypeId)(m:Nat)(x:Value)(n:Nat)(t:Bool)(w1:World)(Me:w1.heap=w.heap/\w1.os=w.os/\w1.tape=w.tape/\w1.output=w.output)(DJ:o'≠.free)
  (KD:Lp g (g.upd d x n t none (g.more w.heap.size m)) (AR h)->EO g w (g.upd d x n t none (g.more w.heap.size m)) (w1.alloc (.cells vs E (0,0))) ->
   Ez (g.upd d x n t none (g.more w.heap.size m)) (w1.alloc (.cells vs E (0,0))) (AR (A3 h d o')) d o') :
  D3 w0 g0 h0 (A3 h d o') (g.upd d x n t none (g.more w.heap.size m)) (w1.alloc (.cells vs E (0,0))) /\
   Le h g w (A3 h d o') (g.upd d x n t none (g.more w.heap.size m)) (w1.alloc (.cells vs E (0,0))):=by
 refine hI.upd d o' x n t _ _ _ none ⟨Me.2.1,Me.2.2.1,Me.2.2.2,by rw[World.size_alloc,Me.1];omega⟩ (fun k hk _=>?_) (fun b e=>by cases e) (fun _ _ h=>.inl h) (fun b o hb=>?_) (fun b o e=>by cases e)
  (fun b _ e=>by cases e) DJ (fun hu=>absurd hd hu) KD
 .rw[heap_alloc_old _ _ (by rw[Me.1];exact hk),Me.1]
 .rcases hb with hb|⟨rfl,_⟩
  .exact .inl hb
  .exact .inr ⟨by rw[World.size_alloc,Me.1];omega,.inl (Am _)⟩
end
theorem BK(g:Gh)(r:Nat)(x:Value)(n:Nat)(t:Bool)(o:Option Nat)(S:Nat->Nat->Prop) :
  (g.upd r x n t o S).ρ r=x/\(g.upd r x n t o S).ln r=n/\(g.upd r x n t o S).tk r=t/\(g.upd r x n t o S).own r=o:=by simp[Gh.upd]
theorem G0(o:Obj)(hb:b=w.heap.size):(w.alloc o).heap[b]?=some o:=by subst hb;exact heap_alloc_new w o
theorem BU.cptr_row{w:World}(hb:w.heap[b]?=some (.cells vs E f))(hr:CW g w FB cs vs.toList)(hS:∀o,o<cs.length->g.S b o):BU g w U (.cptr cs) (.pointer (some ⟨b,0,none⟩)):=by
 refine .cptr U cs b 0 (fun j=>vs[j]?.getD default) (fun j av hj=>?_) (fun j av hj=>?_)
 .obtain⟨x,x1,x2,x3⟩:=hr.at hj;rw[A5]at x1;refine⟨hS _ (by rw[Bb];exact(Aw.1 hj).1),?_,?_⟩
  .rw[F5 hb,Bb,x1];rfl
  .rw[x1];exact x2
 .obtain⟨x,x1,x2,x3⟩:=hr.at hj;rw[A5]at x1;rw[x1];exact x3
theorem BU.slice_off{w:World}(hb:w.heap[b]?=some (.cells vs E f))(hl:∀cs∈es,cs.length=sz)(hc:es.length<=cap)(hr:CW g w FB es.flatten ((vs.toList.drop off).take (es.length*sz)))(hS:∀o,o<es.length*sz->g.S b (off+o)):BU g w U (.slice .none es) (.slice (some ⟨b,off,none⟩) es.length cap):=by
 have key:∀(i:Nat) (cs:List AV) (j:Nat) (av:AV),es[i]?=some cs->cs[j]?=some av->∃x,vs[off+(i*sz+j)]?=some x/\x.oneCell'=true/\BU g w FB av x/\i*sz+j<es.length*sz:=by
  intro i cs j av h1 h2;have hcl:=hl cs (Az h1);have hj:j<sz:=by rw[<-hcl];exact(Aw.1 h2).1
  have hi:=(Aw.1 h1).1;have DF:i*sz+j<es.length*sz:=by
   have:=Bf sz (show i+1<=es.length from hi)
   rw[Ec]at this;omega
  have hf:=FG hl h1 hj;rw[h2]at hf;obtain⟨x,x1,x2,x3⟩:=hr.at hf;rw[BZ DF,DX,A5]at x1;exact⟨x,x1,x2,x3,DF⟩
 refine .slice U es b off sz cap (fun i j=>vs[off+(i*sz+j)]?.getD default) hc (fun i cs h=>hl cs (Az h)) (fun i cs j av h1 h2=>?_) (fun i cs j av h1 h2=>?_)
 .obtain⟨x,x1,x2,x3,x4⟩:=key i cs j av h1 h2;rw[Hc];refine⟨hS _ x4,?_,?_⟩
  .rw[F5 hb,x1];rfl
  .rw[x1];exact x2
 .obtain⟨x,x1,x2,x3,x4⟩:=key i cs j av h1 h2;rw[x1];exact x3
theorem BU.slice_row{w:World}(hb:w.heap[b]?=some (.cells vs E f))(hl:∀cs∈es,cs.length=sz)(hc:es.length<=cap)(hr:CW g w FB es.flatten (vs.toList.take (es.length*sz)))(hS:∀o,o<es.length*sz->g.S b o):BU g w U (.slice .none es) (.slice (some ⟨b,0,none⟩) es.length cap):=by
 have key:∀(i:Nat) (cs:List AV) (j:Nat) (av:AV),es[i]?=some cs->cs[j]?=some av->∃x,vs[i*sz+j]?=some x/\x.oneCell'=true/\BU g w FB av x/\i*sz+j<es.length*sz:=by
  intro i cs j av h1 h2;have hcl:=hl cs (Az h1);have hj:j<sz:=by rw[<-hcl];exact(Aw.1 h2).1
  have hi:=(Aw.1 h1).1;have DF:i*sz+j<es.length*sz:=by
   have:=Bf sz (show i+1<=es.length from hi)
   rw[Ec]at this;omega
  have hf:=FG hl h1 hj;rw[h2]at hf;obtain⟨x,x1,x2,x3⟩:=hr.at hf;rw[BZ DF,A5]at x1;exact⟨x,x1,x2,x3,DF⟩
 refine .slice U es b 0 sz cap (fun i j=>vs[i*sz+j]?.getD default) hc (fun i cs h=>hl cs (Az h)) (fun i cs j av h1 h2=>?_) (fun i cs j av h1 h2=>?_)
 .obtain⟨x,x1,x2,x3,x4⟩:=key i cs j av h1 h2;rw[Bb];refine⟨hS _ x4,?_,?_⟩
  .rw[F5 hb,x1];rfl
  .rw[x1];exact x2
 .obtain⟨x,x1,x2,x3,x4⟩:=key i cs j av h1 h2;rw[x1];exact x3
section
variable {P:Program}{w0:World}{g0:Gh}{h0 h:Nat->HO}{g:Gh}{w:World}
theorem Td(hI:D3 w0 g0 h0 h g w){d:Nat}(hd:h d=.free)(E:TypeId)(hr:CW g w (AR h) cs vs.toList) :
  ∃g',D3 w0 g0 h0 (A3 h d (.cells cs)) g' (w.alloc (.cells vs E (0,0)))/\Le h g w (A3 h d (.cells cs)) g' (w.alloc (.cells vs E (0,0))) /\
   BU g' (w.alloc (.cells vs E (0,0))) (AR (A3 h d (.cells cs))) (.ref d 0) (.pointer (some ⟨w.heap.size,0,none⟩)):=by
 obtain⟨k1,k2⟩:=hI.newOwn hd (.cells cs) (.cells vs E (0,0)) (.pointer (some ⟨w.heap.size,0,none⟩)) 0 false w ⟨rfl,rfl,rfl,rfl⟩ B0 (fun hg hk=>by
  obtain⟨u1,u2,u3,u4⟩:=BK g d (.pointer (some ⟨w.heap.size,0,none⟩)) 0 false (some w.heap.size) g.S;exact⟨u3,w.heap.size,E,vs,u4,u1,G0 w _ rfl,hr.mono hk (fun i hi=>Ea B0 i hi) hg,fun o ho=>by have:=hI.slt _ _ ho;omega⟩)
 refine⟨_,k1,k2,.ref _ d 0 w.heap.size (by unfold AR;rw[Bi];simp) ?_ ?_⟩
 .simp[Gh.upd]
 .simp[Gh.upd]
theorem nW(hI:D3 w0 g0 h0 h g w){d:Nat}(hd:h d=.free)(E:TypeId)(hr:CW g w FB cs vs.toList) :
  ∃g',D3 w0 g0 h0 (A3 h d (.ro cs)) g' (w.alloc (.cells vs E (0,0)))/\Le h g w (A3 h d (.ro cs)) g' (w.alloc (.cells vs E (0,0))) /\
   BU g' (w.alloc (.cells vs E (0,0))) (AR (A3 h d (.ro cs))) (.ref d 0) (.pointer (some ⟨w.heap.size,0,none⟩)):=by
 obtain⟨k1,k2⟩:=hI.newStable hd (.ro cs) vs E cs.length (.pointer (some ⟨w.heap.size,0,none⟩)) 0 false w ⟨rfl,rfl,rfl,rfl⟩ B0 (fun hg hk=>by
  obtain⟨u1,u2,u3,u4⟩:=BK g d (.pointer (some ⟨w.heap.size,0,none⟩)) 0 false none (g.more w.heap.size cs.length);exact⟨u3,w.heap.size,u1,BU.cptr_row (G0 w _ rfl) (hr.mono hk (fun _ h=>h) (fun _ h=>h.elim)) (fun o ho=>.inr ⟨rfl,ho⟩)⟩)
 refine⟨_,k1,k2,.ref _ d 0 w.heap.size (by unfold AR;rw[Bi];simp) ?_ ?_⟩
 .simp[Gh.upd]
 .simp[Gh.upd]
theorem Li(hI:D3 w0 g0 h0 h g w){d:Option Nat}{sz:Nat}(hk:EY cx d h sz es K){cap:Nat}(E:TypeId)(hl:∀cs∈es,cs.length=sz)(hc:es.length<=cap)(hs:vs.size=cap*sz)(hr:CW g w FB es.flatten (vs.toList.take (es.length*sz)))(w1:World)(Me:w1.heap=w.heap/\w1.os=w.os/\w1.tape=w.tape/\w1.output=w.output) :
  ∃g' av h',K av h'/\D3 w0 g0 h0 h' g' (w1.alloc (.cells vs E (0,0)))/\Le h g w h' g' (w1.alloc (.cells vs E (0,0))) /\
   BU g' (w1.alloc (.cells vs E (0,0))) (AR h') av (.slice (some ⟨w.heap.size,0,none⟩) es.length cap):=by
 have ED:(w1.alloc (.cells vs E (0,0))).heap[w.heap.size]?=some (.cells vs E (0,0)):=G0 w1 _ (by rw[Me.1]);unfold EY at hk;split at hk
 .exact hk.elim
 .rename_i d;generalize KZ cx d=d1 at hk;split at hk
  .rename_i hd;split at hk
   .obtain⟨k1,k2⟩:=hI.newOwn hd (.arr sz es) (.cells vs E (0,0)) (.slice (some ⟨w.heap.size,0,none⟩) es.length cap) es.length true w1 Me B0 (fun hg IY=>by
     obtain⟨u1,u2,u3,u4⟩:=BK g d1 (.slice (some ⟨w.heap.size,0,none⟩) es.length cap) es.length true (some w.heap.size) g.S;exact⟨u3,u2,hl,.inr ⟨w.heap.size,cap,E,vs,u1,u4,hc,ED,hs,hr.mono IY (fun _ h=>h) (fun _ h=>h.elim),fun o ho=>by have:=hI.slt _ _ ho;omega⟩⟩)
    refine⟨_,_,_,hk,k1,k2,.msl _ d1 es.length _ cap (by unfold AR;rw[Bi];simp) ?_ ?_ (.inr ⟨_,rfl⟩) ?_⟩<;>simp[Gh.upd]
   .by_cases U9:es.length=cap
    .obtain⟨k1,k2⟩:=hI.newStable hd (.tok sz es.length) vs E (es.length*sz) (.slice (some ⟨w.heap.size,0,none⟩) es.length cap) es.length true w1 Me B0 (fun hg IY=>by
      obtain⟨u1,u2,u3,u4⟩:=BK g d1 (.slice (some ⟨w.heap.size,0,none⟩) es.length cap) es.length true none (g.more w.heap.size (es.length*sz));exact⟨u3,u2,_,cap,u1,.inl ⟨U9,u4⟩⟩)
     refine⟨_,_,_,hk,k1,k2,.tok _ d1 sz es _ (BU.slice_row ED hl hc (hr.mono k2.keeps (fun _ h=>h) (fun _ h=>h.elim)) (fun o ho=>.inr ⟨rfl,ho⟩)) hl (by unfold AR;rw[Bi];simp) ?_ ?_ ?_⟩<;>simp[Gh.upd]
    .have tb:=hI.upd d1 (.tok sz es.length) (.slice (some ⟨w.heap.size,0,none⟩) es.length cap) es.length true (some w.heap.size) (g.more w.heap.size (es.length*sz)) (w1.alloc (.cells vs E (0,0))) none
      ⟨Me.2.1,Me.2.2.1,Me.2.2.2,by rw[World.size_alloc,Me.1];omega⟩ (fun k hk' _=>by rw[heap_alloc_old _ _ (by rw[Me.1];exact hk'),Me.1]) (fun b e=>by cases e) (fun _ _ h=>.inl h)
      (fun b o hb=>by
       rcases hb with hb|⟨rfl,_⟩
       .exact .inl hb
       .exact .inr ⟨by rw[World.size_alloc,Me.1];omega,.inl (Am _)⟩) (fun b o e=>by cases e)
      (fun b _ e=>by cases e;rw[World.size_alloc,Me.1];exact⟨by omega,.inr (Am _)⟩) B0 (fun hu=>absurd hd hu) (fun hg IY=>by
       obtain⟨u1,u2,u3,u4⟩:=BK g d1 (.slice (some ⟨w.heap.size,0,none⟩) es.length cap) es.length true (some w.heap.size) (g.more w.heap.size (es.length*sz));exact⟨u3,u2,_,cap,u1,.inr ⟨hc,w.heap.size,E,vs,0,rfl,u4,.of ED,by rw[hs,Bb],fun o ho=>by
        rcases ho with ho|⟨_,ho⟩
        .have:=hI.slt _ _ ho;omega
        .omega⟩⟩)
     obtain⟨k1,k2⟩:=tb;refine⟨_,_,_,hk,k1,k2,.tok _ d1 sz es _ (BU.slice_row ED hl hc (hr.mono k2.keeps (fun _ h=>h) (fun _ h=>h.elim)) (fun o ho=>.inr ⟨rfl,ho⟩)) hl (by unfold AR;rw[Bi];simp) ?_ ?_ ?_⟩<;>simp[Gh.upd]
  .exact hk.elim
end
theorem Od{α:Type}:∀(cs:List α) (o:Nat) (vs:List α),o+vs.length<=cs.length->over cs o vs=cs.take o++vs++cs.drop (o+vs.length)
 | [],o,vs,h=>by
  simp at h;obtain⟨rfl,rfl⟩:=h
  rfl
 |c::cs,o+1,vs,h=>by
  rw[over,Od cs o vs (by simp at h;omega)];simp only[J5,HB,BD,Nat.add_right_comm o 1,List.drop_succ_cons]
 |c::cs,0,[],h=>by simp[over]
 |c::cs,0,v::vs,h=>by
  rw[over,Od cs 0 vs (by simp at h;omega)];simp
theorem X2(cs:List α)(o n:Nat)(vs:List α)(h:o+vs.length<=n)(hn:n<=cs.length):(over cs o vs).take n=over (cs.take n) o vs:=by
 apply Dz;intro i;rw[Ga _ _ _ _ (by simp;omega)]
 by_cases hi:i<n
 .rw[BZ hi,Ga _ _ _ _ ch,BZ hi]
 .rw[Aj ch,A8 (by rw[Ax,Gb];omega),A8 (by simp;omega)]
theorem Nu{n:Nat}:∀{es:List (List α)},(∀c∈es,c.length=n)->∀{i:Nat} {c:List α},es[i]?=some c->∀(o:Nat) (vs:List α),o+vs.length<=n ->
  (es.set i (over c o vs)).flatten=over es.flatten (i*n+o) vs
 | [],_,i,c,h,_,_,_=>by simp at h
 |d::es,hl,i,c,h,o,vs,Is=>by
  have hd:=hl d (Ab ..);have hfl:=DC (es:=d::es) (n:=n) hl;have DF:=(Aw.1 h).1;have zo:i*n+o+vs.length<=(d::es).flatten.length:=by
   rw[hfl]
   have:=Bf n (show i+1<=(d::es).length from DF)
   rw[Ec]at this;omega
  have hcl:=hl c (Az h);apply Dz;intro j;rw[Ga _ _ _ _ zo];have Ph:∀e∈(d::es).set i (over c o vs),e.length=n:=fun e he=>by
   rcases Fr he with he|rfl
   .exact hl e he
   .rw[Gb];exact hcl
  by_cases hn:n=0
  .subst hn;have h1:=DC Ph;have h2:=hfl;simp only[Nat.mul_zero,EP]at h1 h2;rw[h1,h2]
   have:¬(i*0+o<=j/\j<i*0+o+vs.length):=by omega
   rw[Aj this]
  .have xC:j=j / n*n+j % n:=by rw[Nat.mul_comm];exact(Xa j n).symm
   have bv:j % n<n:=Nat.mod_lt _ ch
   by_cases hj:j / n<(d::es).length
   .have g1:(d::es)[j / n]?=some ((d::es)[j / n]):=AD hj;have g2:((d::es).set i (over c o vs))[j / n]?=some (if i=j / n then over c o vs else(d::es)[j / n]):=by
     rw[List.getElem?_set]
     by_cases e:i=j / n
     .rw[Ap e,Ap ch,Ap e]
     .rw[Aj e,Aj e];exact g1
    have f1:=FG hl g1 bv;have f2:=FG Ph g2 bv;rw[<-xC]at f1 f2;rw[f1,f2];split
    .rename_i e;rw[e]at h;rw[g1]at h;cases h;rw[Ga _ _ _ _ ch];have e2:i*n+o<=j↔o<=j % n:=by rw[e];omega
     have e3:j<i*n+o+vs.length↔j % n<o+vs.length:=by rw[e];omega
     simp only[e2,e3];split
     .congr 1;rw[e];omega
     .rfl
    .rename_i e
     have:¬(i*n+o<=j/\j<i*n+o+vs.length):=by
      rintro⟨q1,q2⟩
      apply e;have a1:i*n<=j:=by omega
      have a2:j<(i+1)*n:=by rw[Ec];omega
      have:=(Nat.le_div_iff_mul_le ch).2 a1
      have:=(MQ ch).2 a2
      omega
     rw[Aj this]
   .have xE:(d::es).length*n<=j:=by
     have:=Nat.not_lt.1 hj
     have:=(Nat.le_div_iff_mul_le ch).1 this
     exact this
    have:¬(i*n+o<=j/\j<i*n+o+vs.length):=by rw[hfl]at zo;omega
    rw[Aj this,A8 (by rw[DC Ph,Dj];exact xE),A8 (by rw[hfl];exact xE)]
theorem Rb{P:Program}(hT:CM P T)(w:World){t:Nat}{x:Value}(hd:(T t).d≠.other)(hs:x.cells.toList.length=(T t).size)(h1:∀v∈x.cells.toList,v.oneCell'=true)(hb:w.heap[b]?=some (.cells EJ E (0,0)))(Is:off+x.cells.toList.length<=EJ.size) :
  (Instr.storeAt t (.pointer (some ⟨b,off,none⟩)) x).run P w=.ok () (w.setRow b (over EJ.toList off x.cells.toList).toArray):=by
 have K4:=run_storeCells_at P b off E x.cells.toList 0 EJ w hb (by simpa using Is) h1;simp only[GT]at K4;have ZU:x.cells.size=(T t).size:=by simpa using hs
 rw[Od _ _ _ (by simpa using Is)];simp only[Instr.storeAt,Sem.run_bind,Instr.sureAddr,Sem.run_pure,Result.andThen_ok,storeVar,hT.size w hd,ZU,XX,not_true_eq_false,Gz];exact K4
section
variable {P:Program}{w0:World}{g0:Gh}{h0 h:Nat->HO}{g:Gh}{w:World}(hI:D3 w0 g0 h0 h g w)
include hI
theorem iR(hT:CM P T){d:Option Nat}{e:Nat}(hk:Um T d h e K):OT P w0 g0 h0 h g w (Instr.alloc e true (.tuple #[])) K:=by
 unfold Um at hk;split at hk
 .exact hk.elim
 .split at hk
  .rename_i hd;split at hk
   .exact hk.elim
   .rename_i DJ;split at hk
    .rename_i ha;obtain⟨z,z1,z2,_⟩:=Rp hT (w:=w) DJ;have hr:CW g w (AR h) ((T e).zc.map .v) z.cells.toList:=by rw[z2]at ha⊢;exact CW.vals ha
     obtain⟨g',k1,k2,k3⟩:=Td hI hd (vs:=z.cells) e hr;refine⟨_,_,g',_,_,?_,hk,k1,k2,k3⟩;simp[Instr.alloc,z1,newVar,newRow]
    .exact hk.elim
  .exact hk.elim
theorem Rh{vs:List Value}(hr:CW g w (AR h) cs vs):CW g w FB (cs.map (str h)) vs:=by
 refine⟨by rw[A7];exact hr.1,hr.2.1,fun i av x h1 h2=>?_⟩;rw[AG,AX]at h1;obtain⟨a,a1,rfl⟩:=h1;exact(hr.2.2 i a x a1 h2).str hI.objs
theorem qx{d:Option Nat}{e:Nat}{x:AV}(hx:BU g w (AR h) x vx)(hk:jb cx d h e x K):OT P w0 g0 h0 h g w (Instr.box e vx) K:=by
 unfold jb at hk;split at hk
 .exact hk.elim
 .split at hk
  .rename_i hd;split at hk
   .exact hk.elim
   .obtain⟨cs,hk,hn,hr⟩:=NY hx hk;split at hk
    .obtain⟨g',k1,k2,k3⟩:=nW hI hd (vs:=vx.cells) e (Rh hI hr);exact⟨_,_,g',_,_,rfl,hk,k1,k2,k3⟩
    .obtain⟨g',k1,k2,k3⟩:=Td hI hd (vs:=vx.cells) e hr;exact⟨_,_,g',_,_,rfl,hk,k1,k2,k3⟩
  .exact hk.elim
theorem D3.write{r b:Nat}(hl:(h r).live)(ho:g.own r=some b)(o' : HO)(hb:w.heap[b]?=some (.cells EJ E (0,0)))(new:Array Value)(n:Nat)(ow:Option Nat)(S' : Nat->Nat->Prop)(DJ:o'≠.free)(hn:n=g.ln r)(zu:∀b',ow=some b'->b'=b)(hS:∀b o,g.S b o->S' b o)(hSn:∀b' o,S' b' o->g.S b' o\/b'=b)(zl:∀o,g.S b o->new[o]?=EJ[o]?)(KD:Lp g (g.upd r (g.ρ r) n (g.tk r) ow S') (AR h)->EO g w (g.upd r (g.ρ r) n (g.tk r) ow S') (w.setRow b new)->(w.setRow b new).heap[b]?=some (.cells new E (0,0)) ->
   Ez (g.upd r (g.ρ r) n (g.tk r) ow S') (w.setRow b new) (AR (A3 h r o')) r o') :
  D3 w0 g0 h0 (A3 h r o') (g.upd r (g.ρ r) n (g.tk r) ow S') (w.setRow b new)/\Le h g w (A3 h r o') (g.upd r (g.ρ r) n (g.tk r) ow S') (w.setRow b new):=by
 have ED:=setRow_heap w b EJ new E (0,0) hb;have DF:=(hI.loc r b hl ho).1
 refine hI.upd r o' _ _ _ _ _ _ (some b) ⟨rfl,rfl,rfl,by rw[size_setRow];exact Am _⟩ (fun k hk DJ=>setRow_other w b k new (fun e=>DJ (by rw[e]))) (fun b' e=>by cases e;exact⟨hl,ho⟩) hS (fun b' o hs=>?_)
  (fun b' o e hs=>?_) (fun b' _ e=>?_) DJ (fun _=>⟨rfl,by omega,fun _=>rfl,fun _=>rfl⟩) (fun hg hk=>KD hg hk ED)
 .rcases hSn b' o hs with h1|rfl
  .exact .inl h1
  .exact .inr ⟨by rw[size_setRow];exact DF,.inr ⟨hl,ho⟩⟩
 .cases e
  refine⟨?_,fun es ck he=>by rw[hb]at he;cases he⟩;rw[F5 ED,F5 hb];exact zl o hs
 .obtain rfl:=zu b' e;exact⟨by rw[size_setRow];exact DF,.inl ⟨hl,ho⟩⟩
theorem kV(hT:CM P cx.T){t:Nat}{p x:AV}{vp:Value}(hp:BU g w (AR h) p vp)(hx:BU g w (AR h) x vx)(hk:PA cx h t p x K) :
  ly P w0 g0 h0 h g w (Instr.storeAt t vp vx) K:=by
 unfold PA at hk;split at hk
 .exact hk.elim
 .rename_i hd;have h5:=NY hx hk
  clear hk
  obtain⟨vs,hk,hn,hr⟩:=h5;have CH:vx.cells.toList.length=vs.length:=hr.1;split at hk
  .rename_i r off;have ho:=hI.objs r;split at hk
   .rename_i cs e;obtain⟨Is,hk⟩:=hk;rw[e]at ho;obtain⟨t0,b,E,EJ,a1,a2,a3,a4,a5⟩:=ho;cases hp with
    |ref _ _ _ b' hu ht tn=>
     rw[a2]at tn;cases tn;have hcs:EJ.toList.length=cs.length:=a4.1;have CZ:=Rb hT w (t:=t) (off:=off) (x:=vx) hd (by rw[CH,hn]) hr.2.1 a3 (by rw[CH];simp at hcs;omega);have hl:(h r).live:=by rw[e];trivial
     have vw:=a4.over hr off Is;split at hk
     .obtain⟨k1,k2⟩:=hI.write hl a1 (.ro ((over cs off vs).map (str h))) a3 (over EJ.toList off vx.cells.toList).toArray (g.ln r) none (g.more b cs.length) B0 rfl (fun _ e=>by cases e) (fun _ _ h=>.inl h)
       (fun b' o hs=>hs.elim .inl (fun hs=>.inr hs.1)) (fun o hs=>absurd hs (a5 o)) (fun hg IY ED=>by
        obtain⟨u1,u2,u3,u4⟩:=BK g r (g.ρ r) (g.ln r) (g.tk r) none (g.more b cs.length);refine⟨u3.trans t0,b,u1.trans a2,BU.cptr_row ED ?_ (fun o ho=>.inr ⟨rfl,?_⟩)⟩
        .exact(Rh hI vw).mono IY (fun _ h=>h) (fun _ h=>h.elim)
        .rw[A7,Gb]at ho;exact ho)
      exact⟨_,_,_,CZ,hk,k1,k2⟩
     .obtain⟨k1,k2⟩:=hI.write hl a1 (.cells (over cs off vs)) a3 (over EJ.toList off vx.cells.toList).toArray (g.ln r) (g.own r) g.S B0 rfl (fun b' e=>by rw[a1]at e;cases e;rfl) (fun _ _ h=>h)
       (fun b' o hs=>.inl hs) (fun o hs=>absurd hs (a5 o)) (fun hg IY ED=>by
        obtain⟨u1,u2,u3,u4⟩:=BK g r (g.ρ r) (g.ln r) (g.tk r) (g.own r) g.S;exact⟨u3.trans t0,b,E,_,u4.trans a1,u1.trans a2,ED,vw.mono IY (fun i hi=>Ea B0 i hi) hg,a5⟩)
      exact⟨_,_,_,CZ,hk,k1,k2⟩
   .exact hk.elim
  .rename_i r n sz i off;have ho:=hI.objs r;split at hk
   .rename_i Hb es e;rw[e]at ho;split at hk
    .rename_i hz;obtain rfl:=AL hz;obtain⟨hnl,cs,hi,Is,hk⟩:=hk;obtain⟨t1,l1,al,a1⟩:=ho;have DF:=(Aw.1 hi).1;rcases a1 with ⟨rfl,_⟩|⟨b,cap,E,EJ,e1,e2,e3,e4,e5,e6,e7⟩
     .simp at hi
     .cases hp with
      |eref _ _ _ _ _ _ b' Ml hu ht bw tn=>
       have tn:=tn (hnl.trans l1.symm);rw[e1]at tn;simp only[Value.slice.injEq,BB,Addr.mk.injEq]at tn;obtain⟨⟨rfl,_,_⟩,_,_⟩:=tn;have hcl:=al cs (Az hi);have RK:i*sz+sz<=es.length*sz:=by
        have:=Bf sz (show i+1<=es.length from DF)
        rwa [Ec]at this
       have m9:es.length*sz<=cap*sz:=Bf sz e3;have CZ:=Rb hT w (t:=t) (off:=i*sz+off) (x:=vx) hd (by rw[CH,hn]) hr.2.1 e4 (by rw[CH];omega);have hl:(h r).live:=by rw[e];trivial
       have yQ : ∀c∈es.set i (over cs off (vs.map (str h))),c.length=sz:=fun c hc=>by
        rcases Fr hc with hc|rfl
        .exact al c hc
        .rw[Gb];exact hcl
       have hfl:=Nu al hi off (vs.map (str h)) (by rw[A7];exact Is);have bp:EJ.toList.length=cap*sz:=by rw[B1];exact e5
       have zH:((over EJ.toList (i*sz+off) vx.cells.toList).toArray.toList.take ((es.set i (over cs off (vs.map (str h)))).length*sz))=over (EJ.toList.take (es.length*sz)) (i*sz+off) vx.cells.toList:=by
        rw[Dj];exact X2 _ _ _ _ (by rw[CH];omega) (by rw[bp];exact m9)
       have vw:CW g w FB (es.set i (over cs off (vs.map (str h)))).flatten ((over EJ.toList (i*sz+off) vx.cells.toList).toArray.toList.take ((es.set i (over cs off (vs.map (str h)))).length*sz)):=by
        rw[zH,hfl];exact e6.over (Rh hI hr) _ (by rw[A7,DC al];omega)
       split at hk
       .rename_i j m;have jK:∃x0,vx.cells.toList=[x0]:=by
         revert CH
         cases vx.cells.toList with
         |nil=>intro CH;cases CH
         |cons x0 l=>cases l with
          |nil=>intro _;exact⟨x0,rfl⟩
          |cons _ _=>intro CH;simp at CH
        obtain⟨x0,jK⟩:=jK;have EA:=hr.2.2 0 (.msl j m) x0 rfl (by rw[jK];rfl)
        obtain⟨k1,k2⟩:=hI.write hl e2 (.hol sz (es.set i (over cs off [.junk])) i off (.msl j m)) e4 (over EJ.toList (i*sz+off) vx.cells.toList).toArray (g.ln r) (g.own r) g.S B0 rfl (fun b' e=>by rw[e2]at e;cases e;rfl) (fun _ _ h=>h)
         (fun b' o hs=>.inl hs) (fun o hs=>absurd hs (e7 o)) (fun hg IY ED=>by
          obtain⟨u1,u2,u3,u4⟩:=BK g r (g.ρ r) (g.ln r) (g.tk r) (g.own r) g.S;have vo:i*sz+off<es.length*sz:=by simp only[Al,Au]at Is;omega
          refine⟨u3.trans t1,u2.trans (by rw[Dj];exact l1),yQ,b,cap,E,_,?_,u4.trans e2,by rw[Dj];exact e3,ED,?_,vw.mono IY (fun _ h=>h) (fun _ h=>h.elim),e7,by rw[Dj];exact vo,x0,?_,EA.mono IY (fun i hi=>Ea B0 i hi) hg⟩
          .rw[u1,e1,Dj]
          .simp only[Eb,Gb,B1];exact e5
          .rw[<-A5,jK,Ga _ _ _ _ (by rw[bp];simp only[Al,Au];omega),Ap ⟨Am _,by simp only[Al,Au];omega⟩,E7];rfl)
        exact⟨_,_,_,CZ,hk,k1,k2⟩
       .obtain⟨k1,k2⟩:=hI.write hl e2 (.arr sz (es.set i (over cs off (vs.map (str h))))) e4 (over EJ.toList (i*sz+off) vx.cells.toList).toArray (g.ln r) (g.own r) g.S B0 rfl (fun b' e=>by rw[e2]at e;cases e;rfl) (fun _ _ h=>h)
         (fun b' o hs=>.inl hs) (fun o hs=>absurd hs (e7 o)) (fun hg IY ED=>by
          obtain⟨u1,u2,u3,u4⟩:=BK g r (g.ρ r) (g.ln r) (g.tk r) (g.own r) g.S;refine⟨u3.trans t1,u2.trans (by rw[Dj];exact l1),yQ,.inr ⟨b,cap,E,_,?_,u4.trans e2,by rw[Dj];exact e3,ED,?_,vw.mono IY (fun _ h=>h) (fun _ h=>h.elim),e7⟩⟩
          .rw[u1,e1,Dj]
          .simp only[Eb,Gb,B1];exact e5)
        exact⟨_,_,_,CZ,hk,k1,k2⟩
    .exact hk.elim
   .exact hk.elim
  .exact hk.elim
end
theorem km(c vs:List α)(h:vs.length=c.length):over c 0 vs=vs:=by
 rw[Od _ _ _ ch];simp[h]
theorem IR[Inhabited α](z:List α)(hz:z≠[]):(List.replicate n z).flatten=(List.range (n*z.length)).map fun k=>z[k % z.length]!:=by
 have hl:∀c∈List.replicate n z,c.length=z.length:=fun c hc=>by rw[Cy hc]
 have d8:0<z.length:=Hx.2 hz;apply Dz;intro k
 by_cases hk:k<n*z.length
 .have xC:k=k / z.length*z.length+k % z.length:=by rw[Nat.mul_comm];exact(Xa k _).symm
  have bv:k % z.length<z.length:=Nat.mod_lt _ d8;have hi:k / z.length<n:=(MQ d8).2 hk;have f1:=FG hl (i:=k / z.length) (c:=z) (by rw[List.getElem?_replicate,Ap hi]) bv;rw[<-xC]at f1;rw[f1];simp[hk,bv]
 .rw[A8 (by rw[DC hl,B3];omega),A8 (by simp;omega)]
section
variable {P:Program}{w0:World}{g0:Gh}{h0 h:Nat->HO}{g:Gh}{w:World}(hI:D3 w0 g0 h0 h g w)
include hI
theorem aU{n sz:Nat}{t:Nat->AV}{ρ:Operand->Value}(ht:∀x:Operand,BU g w (AR h) (ev t x) (ρ x)) :
  ∀{ps:List (Nat×Operand)} {es:List (List AV)} {xs:Array Value} {K:List (List AV)->Prop},es.length=n->(∀c∈es,c.length=sz)->CW g w FB es.flatten xs.toList->SJ n sz h es t ps K ->
   ∃F2 Yp,K F2/\F2.length=n/\(∀c∈F2,c.length=sz)/\CW g w FB F2.flatten Yp.toList/\Instr.fill (fun i=>some (i*sz,sz)) xs (ps.map fun(i,x)=>(i,ρ x))=some Yp
 | [],es,xs,K,hn,hl,h,hk=>⟨es,xs,hk,hn,hl,h,rfl⟩
 |(i,x)::ps,es,xs,K,hn,hl,h,hk=>by
  unfold SJ at hk;split at hk
  .rename_i hi;have hi:i<n:=GE hi;have h5:=NY (ht x) hk
   clear hk
   obtain⟨WE,hk,vt,hr⟩:=h5;have ES:(ρ x).cells.size=sz:=by rw[<-vt];simpa using hr.1
   have OF:=Rh hI hr;obtain⟨c,hc⟩:∃c,es[i]?=some c:=⟨_,AD ch⟩;have hcl:=hl c (Az hc);have Is:i*sz+sz<=es.flatten.length:=by
    rw[DC hl,hn]
    have:=Bf sz (show i+1<=n from hi)
    rwa [Ec]at this
   have hfl:=Nu hl hc 0 (WE.map (str ‹Nat->HO›)) (by rw[A7,vt];omega);rw[km _ _ (by rw[A7,vt,hcl]),GT]at hfl;have ED:=h.over OF (i*sz) (by rw[A7,vt];exact Is);have qb:xs.size=es.flatten.length:=by have:=h.1;rwa [B1]at this
   have e:=Pf (ρ x).cells.toList 0 (i*sz) xs (by rw[B1];omega);simp only[GT]at e;rw[<-e,<-hfl]at ED;obtain⟨F2,Yp,k1,k2,k3,k4,k5⟩:=aU ht (es:=es.set i (WE.map (str _))) (by rw[Dj];exact hn) (fun c' u5=>by
    rcases Fr u5 with u5|rfl
    .exact hl c' u5
    .rw[A7];exact vt) ED hk
   refine⟨F2,Yp,k1,k2,k3,k4,?_⟩;simp only[AJ,Instr.fill];have e2:(ρ x).cells.zipIdx.foldl (fun cs (c,j)=>cs.setIfInBounds (i*sz+j) c) xs=((ρ x).cells.toList.zipIdx 0).foldl (fun(cs:Array Value) (p:Value×Nat)=>cs.setIfInBounds (i*sz+p.2) p.1) xs:=by
    rw[<-Array.foldl_toList];simp
   rw[Aj (by simp[ES];omega),e2];exact k5
  .exact hk.elim
theorem Ux(hT:CM P cx.T){d:Option Nat}{ty n:Nat}{t:Nat->AV}{ρ:Operand->Value}(ht:∀x:Operand,BU g w (AR h) (ev t x) (ρ x)){ps:Array (Nat×Operand)}(hk:Js cx d h ty n t ps.toList K):OT P w0 g0 h0 h g w (Instr.buildSlice ty n (ps.map fun(i,x)=>(i,ρ x))) K:=by
 unfold Js at hk;split at hk
 .rename_i e hs;split at hk
  .rename_i QD Ol;have Ol:=AL Ol;split at hk
   .exact hk.elim
   .rename_i m hm;split at hk
    .rename_i Is;have Is:=GE Is;have vK:(cx.T e).zc≠[]:=fun e0=>by rw[e0]at Ol;rw[hm]at Ol;cases Ol
     have hlr:∀c∈List.replicate n ((cx.T e).zc.map AV.v),c.length=(cx.T e).size:=fun c hc=>by rw[Cy hc,A7];exact Ol
     have zg:CW g w FB (List.replicate n ((cx.T e).zc.map AV.v)).flatten ((Array.range (n*(cx.T e).size)).map fun k=>(cx.T e).zc.toArray[k % (cx.T e).zc.toArray.size]!).toList:=by
      have e1:((Array.range (n*(cx.T e).size)).map fun k=>(cx.T e).zc.toArray[k % (cx.T e).zc.toArray.size]!).toList=(List.replicate n (cx.T e).zc).flatten:=by
       rw[IR n _ vK];simp[Ol]
      have e2:(List.replicate n ((cx.T e).zc.map AV.v)).flatten=(List.replicate n (cx.T e).zc).flatten.map AV.v:=by
       rw[Uf,List.map_replicate]
      rw[e1,e2];refine CW.vals ?_;have GJ:∀l:List AV,(∀a∈l,one a=true)->Hq l=true:=by
       intro l
       induction l with
       |nil=>intro _;rfl
       |cons a l ih=>intro h;simp[Hq,h a (List.mem_cons_self ..),ih (fun b hb=>h b (List.mem_cons_of_mem _ hb))]
      refine GJ _ (fun a ha=>?_);obtain⟨x,hx,rfl⟩:=Ai.1 ha;obtain⟨l,hl,hx⟩:=D4.1 hx;rw[Cy hl]at hx;exact NS QD _ (Ai.2 ⟨x,hx,rfl⟩)
     obtain⟨F2,Yp,k1,k2,k3,k4,k5⟩:=aU hI ht (by rw[B3]) hlr zg hk;have qb:Yp.size=n*(cx.T e).size:=by
      have:=k4.1
      rw[B1,DC k3,k2]at this;exact this
     obtain⟨g',av,h',q1,q2,q3,q4⟩:=Li hI k1 (vs:=Yp) (cap:=n) e k3 ch qb (by
      rw[k2,Av (by rw[B1,qb];exact Am _)];exact k4) w ⟨rfl,rfl,rfl,rfl⟩
     rw[k2]at q4;refine⟨_,_,g',av,h',?_,q1,q2,q3,q4⟩;obtain⟨z,z1,z2⟩:=Yr hT (w:=w) hm;have ES:=hT.size1 w hm;have e3:(Array.map (fun x:Nat×Operand=>match x with|(i,x)=>(i,ρ x)) ps).toList=ps.toList.map fun(i,x)=>(i,ρ x):=by simp
     have AdA:¬(n*(m+1)>2 ^ 24):=by rw[hm]at Is;have Is:n*(m+1)<=16777216:=Is;omega
     simp only[Instr.buildSlice,Sem.run_bind,run_underlying (hT.slice hs),Result.andThen_ok,ES,Aj AdA];rw[e3];rw[hm]at k5
     by_cases h0:n*(m+1)=0
     .have hn0:n=0:=by
       rcases Nat.mul_eq_zero.1 h0 with h|h
       .exact h
       .cases h
      subst hn0;have er:Array.range 0=#[]:=rfl;simp only[JL,er,List.map_toArray,E6]at k5;simp only[JL,SV,er,List.map_toArray,E6,k5];simp[newRow]
     .rw[z2]at k5;simp only[Array.toArray_toList]at k5;simp only[Aj h0,Sem.run_bind,z1,Result.andThen_ok,Sem.run_pure,k5];simp[newRow]
    .exact hk.elim
  .exact hk.elim
 .exact hk.elim
end
theorem Gp{sz:Nat}:∀{es:List (List AV)},Cr sz es->∀c∈es,c.length=sz
 | [],_,c,h=>by cases h
 |d::es,h,c,hc=>by
  rcases Ay.1 hc with rfl|hc
  .exact h.1
  .exact Gp h.2 c hc
def PO(x:Value)(n sz:Nat)(news:List Value):Prop:=
 news.length=n*sz/\(∀v∈news,v.oneCell'=true)/\∃(a:Option Addr) (c:Nat),x=.slice a n c/\(n=0\/∃b:Addr,a=some b/\∀j u,news[j]?=some u->w.cell? (b.add j)=some u)
theorem PO.of_rep{w:World}{x:Value}(h:BU g w U (.slice .none es) x)(hl:∀c∈es,c.length=sz) :
  ∃news,PO w x es.length sz news/\CW g w FB es.flatten news:=by
 cases h with
 |snil _ a cap=>exact⟨[],⟨by simp,by simp,a,cap,rfl,.inl rfl⟩,by simp,by simp,fun i av x h1 h2=>by simp at h2⟩
 |slice _ _ b off Hb cap val hc RJ DV EA=>
  have hf:=DC hl;have key:∀j,j<es.length*sz->∃cs,es[j / sz]?=some cs/\es.flatten[j]?=cs[j % sz]?/\j % sz<cs.length/\Hb=sz/\j=j / sz*sz+j % sz:=by
   intro j hj;have d8:0<sz:=Nat.pos_of_ne_zero (fun e=>by rw[e]at hj;omega);have xC:j=j / sz*sz+j % sz:=by rw[Nat.mul_comm];exact(Xa j sz).symm
   have hi:j / sz<es.length:=(MQ d8).2 hj;have bv:j % sz<sz:=Nat.mod_lt _ d8;have h1:es[j / sz]?=some es[j / sz]:=AD hi;have h2:=FG hl h1 bv;rw[<-xC]at h2;have h3:=hl _ (Ao hi);exact⟨_,h1,h2,by rw[h3];exact bv,by rw[<-h3];exact(RJ _ _ h1).symm,xC⟩
  have Zc:∀j,j<es.length*sz->∃av,es.flatten[j]?=some av/\w.cell? ⟨b,off+j,none⟩=some (val (j / sz) (j % sz))/\(val (j / sz) (j % sz)).oneCell'=true/\BU g w FB av (val (j / sz) (j % sz)):=by
   intro j hj;obtain⟨cs,k1,k2,k3,rfl,k5⟩:=key j hj;have mW:cs[j % Hb]?=some cs[j % Hb]:=AD k3;obtain⟨_,c2,c3⟩:=DV _ _ _ _ k1 mW;rw[Hc,<-k5]at c2;exact⟨_,k2.trans mW,c2,c3,EA _ _ _ _ k1 mW⟩
  refine⟨(List.range (es.length*sz)).map fun j=>val (j / sz) (j % sz),⟨by simp,fun v hv=>?_,some ⟨b,off,none⟩,cap,rfl,.inr ⟨_,rfl,fun j u hu=>?_⟩⟩,by rw[hf];simp,fun v hv=>?_,fun i av x h1 h2=>?_⟩
  .obtain⟨j,hj,rfl⟩:=Ai.1 hv;obtain⟨_,_,_,c,_⟩:=Zc j (Gx.1 hj);exact c
  .obtain⟨hj,rfl⟩:=HN hu;rw[Addr.add_lit];exact(Zc j hj).choose_spec.2.1
  .obtain⟨j,hj,rfl⟩:=Ai.1 hv;obtain⟨_,_,_,c,_⟩:=Zc j (Gx.1 hj);exact c
  .obtain⟨hj,rfl⟩:=HN h2;obtain⟨xZ,c1,_,_,c4⟩:=Zc i hj;rw[h1]at c1;cases c1;exact c4
section
variable {P:Program}{T:Ha}(hT:CM P T)
include hT
theorem IA{n:Nat}(hs:(T e).size=n+1):∃i z,P.info? e=some i/\i.zero=some z/\i.size=(T e).size/\i.bytes=(T e).bytes/\(T e).zc=z.cells.toList:=by
 rcases hT e with h|h
 .rw[h]at hs;cases hs
 unfold kZ at h;split at h
 .split at h
  .rename_i d i h1 h2 _ z h3;exact⟨i,z,h2,h3,by rw[h],by rw[h],by rw[TI.zc_cells,h]⟩
  .rw[h]at hs;cases hs
 .rw[h]at hs;cases hs
theorem JQ(w:World){t ty k:Nat}(ht:(T t).d=.slice e)(hk:(T e).size=k+1)(a a' : Option Addr)(n cap c:Nat)(hc:n<=cap) :
  (Builtin.append_ #[t,t] ty #[.slice a n cap,.slice a' 0 c]).run P w=.ok (.slice a n cap) w:=by
 have hu:=hT.slice ht;cases a<;>cases a'<;>simp[Builtin.append_,run_underlying hu,hT.size1 w hk,Builtin.lenOf,hc,Builtin.firstCells,loadCells,loadCellsFrom,storeCells]
theorem IT(w:World){t ty k:Nat}(ht:(T t).d=.slice e)(hk:(T e).size=k+1)(hz:(T e).zc.length=(T e).size){s x:Value}{n m c:Nat}{olds news:List Value}{a a' : Option Addr}(hso:PO w s n (T e).size olds)(hs:s=.slice a n cap)(Mx:a=none->cap=0)(lw:PO w x m (T e).size news)(hx:x=.slice a' m c)(hm:0<m)(hg:cap<n+m)(hb:(n+m)*(T e).bytes<=140737488355328)(h63:n+m<=9223372036854775807) :
  ∃nc rest,(Builtin.append_ #[t,t] ty #[s,x]).run P w=.ok (.slice (some ⟨w.heap.size,0,none⟩) (n+m) nc) (w.drew.alloc (.cells (olds++news++rest).toArray e (0,0)))/\n+m<=nc /\
   (olds++news++rest).length=nc*(T e).size:=by
 obtain⟨i,z,i1,i2,i3,i4,i5⟩:=IA hT hk;have hu:=hT.slice ht;obtain⟨n1,n2,a1,c1,n3,n4⟩:=lw;subst hx;cases n3;rcases n4 with h|⟨b,rfl,JY⟩
 .omega
 .have Ol:z.cells.size=(T e).size:=by rw[<-hz,i5];simp
  have tg:∀(nc:Nat) (pre:List Value),pre.length=(n+m)*(T e).size->n+m<=nc->(pre++(Builtin.zeroCells z.cells (nc-(n+m))).toList).length=nc*(T e).size:=by
   intro nc pre hp Is;have e1:(Builtin.zeroCells z.cells (nc-(n+m))).toList.length=(nc-(n+m))*(T e).size:=by simp only[B1,size_zeroCells,Ol]
   rw[Ac,e1,hp,<-Fl]
   congr 1;omega
  obtain⟨o1,o2,a2,c2,o3,o4⟩:=hso;subst hs;cases o3;cases a with
  |none=>
   obtain rfl:=Mx rfl;have hn0:n=0:=by
    rcases o4 with h|⟨b',h,_⟩
    .exact h
    .cases h
   subst hn0;have ho:olds=[]:=AQ (by simpa using o1);subst ho;have hr:=run_append_nil (P:=P) w t ty e i z hu i1 i2 b m c news (by rw[i3];exact n1) JY hm ch (by rw[i4];rw[Bb]at hb;omega);refine⟨grownCap w m 0 e,(Builtin.zeroCells z.cells (grownCap w m 0 e-m)).toList,?_,by rw[Bb];exact grownCap_ge w m 0 e,?_⟩
   .rw[hr,Bb]
    congr 3
    apply PG;simp
   .have:=tg (grownCap w m 0 e) news (by rw[Bb];exact n1) (by rw[Bb];exact grownCap_ge w m 0 e)
    rw[Bb]at this;simpa using this
  |some b'=>
   have Ho:∀j u,olds[j]?=some u->w.cell? (b'.add j)=some u:=by
    rcases o4 with h|⟨b2,h,h'⟩
    .intro j u hj;rw[h,JL]at o1
     have:olds=[]:=AQ o1
     rw[this]at hj;simp at hj
    .cases h;exact h'
   have hr:=run_append_grow (P:=P) w t ty e i z hu i1 i2 b' n cap olds (by rw[i3];exact o1) Ho b m c news (by rw[i3];exact n1) JY hg ch (by rw[i4];exact growslice_fits hg hb);refine⟨grownCap w (n+m) cap e,(Builtin.zeroCells z.cells (grownCap w (n+m) cap e-(n+m))).toList,?_,grownCap_ge w (n+m) cap e,tg _ _ (by rw[Ac,o1,n1,<-Fl]) (grownCap_ge w (n+m) cap e)⟩;rw[hr]
   congr 3
   apply PG;simp
end
end Go.Eng
