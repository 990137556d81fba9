/- Lemmas 8. -/
import Derived.Test.YteaiieomnhbmgaaGreatDoorEA07
namespace Go.Eng
variable {vs:Array Value}{es:List (List AV)}{U:Nat->Prop}{E:TypeId}{cs:List AV}{f:Nat×Nat}{K:HK}{b:Nat}{α:Type}{EI:Array Value}{g:Gh}{cx:Cx}{sz cap e:Nat}{vx:Value}{off:Nat}{T:G2}(P:Program)(w0:World)(g0:Gh)(n:Nat)(h0 h:Nat->HO)(w:World)
def OI(g:Gh)(w:World)(m:Sem Value)(K:HK):Prop:=
 ∃x w' g' av h',m.run P w=.ok x w'/\K av h'/\D2 w0 g0 h0 h' g' w'/\Le h g w h' g' w'/\BO g' w' (AS h') av x
def kQ(g:Gh)(w:World)(m:Sem Unit)(K:HK):Prop:=
 ∃w' g' h',m.run P w=.ok () w'/\K (.v undef) h'/\D2 w0 g0 h0 h' g' w'/\Le h g w h' g' w'
section
variable {P:Program}{w0:World}{g0:Gh}{h0 h:Nat->HO}{g:Gh}{w:World}(hI:D2 w0 g0 h0 h g w)
include hI
theorem BQ.does{m:Sem Value}(hg:BQ P h g w m (fun v=>K v h)):OI P w0 g0 h0 h g w m K:=
 let ⟨x,av,h1,h2,h3⟩:=hg
 ⟨x,w,g,av,h,h1,h2,hI,.refl _ _ _,h3⟩
theorem D2.newOwn{d:Nat}(hd:h d=.free)(o' : HO)(ob:Obj)(x:Value)(n:Nat)(t:Bool)(w1:World)(LZ:w1.heap=w.heap/\w1.os=w.os/\w1.tape=w.tape/\w1.output=w.output)(DD:o'≠.free)
  (Kg:KZ g (g.upd d x n t (some w.heap.size) g.S) (AS h)->EN g w (g.upd d x n t (some w.heap.size) g.S) (w1.alloc ob) ->
   Ew (g.upd d x n t (some w.heap.size) g.S) (w1.alloc ob) (AS (A2 h d o')) d o') :
  D2 w0 g0 h0 (A2 h d o') (g.upd d x n t (some w.heap.size) g.S) (w1.alloc ob)/\Le h g w (A2 h d o') (g.upd d x n t (some w.heap.size) g.S) (w1.alloc ob):=by
 refine hI.upd d o' x n t _ _ _ none ⟨LZ.2.1,LZ.2.2.1,LZ.2.2.2,by rw[World.size_alloc,LZ.1];omega⟩ (fun k hk _=>?_) (fun b e=>by cases e) (fun _ _ h=>h) (fun _ _ h=>.inl h) (fun b o e=>by cases e)
  (fun b _ e=>?_) DD (fun hu=>absurd hd hu) Kg
 .rw[heap_alloc_old _ _ (by rw[LZ.1];exact hk),LZ.1]
 .cases e;rw[World.size_alloc,LZ.1];exact⟨by omega,.inr (Ak _)⟩
def Gh.more(g:Gh)(b n:Nat):Nat->Nat->Prop:=fun b' o=>g.S b' o\/(b'=b/\o<n)
theorem D2.newStable{d:Nat}(hd:h d=.free)(o' : HO)(vs:Array Value)(E:TypeId)(m:Nat)(x:Value)(n:Nat)(t:Bool)(w1:World)(LZ:w1.heap=w.heap/\w1.os=w.os/\w1.tape=w.tape/\w1.output=w.output)(DD:o'≠.free)
  (Kg:KZ g (g.upd d x n t none (g.more w.heap.size m)) (AS h)->EN g w (g.upd d x n t none (g.more w.heap.size m)) (w1.alloc (.cells vs E (0,0))) ->
   Ew (g.upd d x n t none (g.more w.heap.size m)) (w1.alloc (.cells vs E (0,0))) (AS (A2 h d o')) d o') :
  D2 w0 g0 h0 (A2 h d o') (g.upd d x n t none (g.more w.heap.size m)) (w1.alloc (.cells vs E (0,0))) /\
   Le h g w (A2 h d o') (g.upd d x n t none (g.more w.heap.size m)) (w1.alloc (.cells vs E (0,0))):=by
 refine hI.upd d o' x n t _ _ _ none ⟨LZ.2.1,LZ.2.2.1,LZ.2.2.2,by rw[World.size_alloc,LZ.1];omega⟩ (fun k hk _=>?_) (fun b e=>by cases e) (fun _ _ h=>.inl h) (fun b o hb=>?_) (fun b o e=>by cases e)
  (fun b _ e=>by cases e) DD (fun hu=>absurd hd hu) Kg
 .rw[heap_alloc_old _ _ (by rw[LZ.1];exact hk),LZ.1]
 .rcases hb with hb | ⟨rfl,_⟩
  .exact .inl hb
  .exact .inr ⟨by rw[World.size_alloc,LZ.1];omega,.inl (Ak _)⟩
end
theorem BI(g:Gh)(r:Nat)(x:Value)(n:Nat)(t:Bool)(o:Option Nat)(S:Nat->Nat->Prop) :
  (g.upd r x n t o S).ρ r=x/\(g.upd r x n t o S).ln r=n/\(g.upd r x n t o S).tk r=t/\(g.upd r x n t o S).own r=o:=by simp[Gh.upd]
theorem GT(o:Obj)(hb:b=w.heap.size):(w.alloc o).heap[b]?=some o:=by subst hb;exact heap_alloc_new w o
theorem BO.cptr_row{w:World}(hb:w.heap[b]?=some (.cells vs E f))(hr:CU g w Fx cs vs.toList)(hS:∀o,o<cs.length->g.S b o):BO g w U (.cptr cs) (.pointer (some ⟨b,0,none⟩)):=by
 refine .cptr U cs b 0 (fun j=>vs[j]?.getD default) (fun j av hj=>?_) (fun j av hj=>?_)
 .obtain⟨x,x1,x2,x3⟩:=hr.at hj;rw[A5]at x1;refine⟨hS _ (by rw[Bf];exact(Ay.1 hj).1),?_,?_⟩
  .rw[F3 hb,Bf,x1];rfl
  .rw[x1];exact x2
 .obtain⟨x,x1,x2,x3⟩:=hr.at hj;rw[A5]at x1;rw[x1];exact x3
theorem BO.slice_off{w:World}(hb:w.heap[b]?=some (.cells vs E f))(hl:∀cs∈es,cs.length=sz)(hc:es.length<=cap)(hr:CU g w Fx es.flatten ((vs.toList.drop off).take (es.length*sz)))(hS:∀o,o<es.length*sz->g.S b (off+o)):BO g w U (.slice .none es) (.slice (some ⟨b,off,none⟩) es.length cap):=by
 have key:∀(i:Nat) (cs:List AV) (j:Nat) (av:AV),es[i]?=some cs->cs[j]?=some av->∃x,vs[off+(i*sz+j)]?=some x/\x.oneCell'=true/\BO g w Fx av x/\i*sz+j<es.length*sz:=by
  intro i cs j av h1 h2;have hcl:=hl cs (Az h1);have hj:j<sz:=by rw[<-hcl];exact(Ay.1 h2).1
  have hi:=(Ay.1 h1).1;have DE:i*sz+j<es.length*sz:=by
   have:=Bh sz (show i+1<=es.length from hi)
   rw[Ea]at this;omega
  have hf:=FF hl h1 hj;rw[h2]at hf;obtain⟨x,x1,x2,x3⟩:=hr.at hf;rw[BS DE,DV,A5]at x1;exact⟨x,x1,x2,x3,DE⟩
 refine .slice U es b off sz cap (fun i j=>vs[off+(i*sz+j)]?.getD default) hc (fun i cs h=>hl cs (Az h)) (fun i cs j av h1 h2=>?_) (fun i cs j av h1 h2=>?_)
 .obtain⟨x,x1,x2,x3,x4⟩:=key i cs j av h1 h2;rw[G4];refine⟨hS _ x4,?_,?_⟩
  .rw[F3 hb,x1];rfl
  .rw[x1];exact x2
 .obtain⟨x,x1,x2,x3,x4⟩:=key i cs j av h1 h2;rw[x1];exact x3
theorem BO.slice_row{w:World}(hb:w.heap[b]?=some (.cells vs E f))(hl:∀cs∈es,cs.length=sz)(hc:es.length<=cap)(hr:CU g w Fx es.flatten (vs.toList.take (es.length*sz)))(hS:∀o,o<es.length*sz->g.S b o):BO g w U (.slice .none es) (.slice (some ⟨b,0,none⟩) es.length cap):=by
 have key:∀(i:Nat) (cs:List AV) (j:Nat) (av:AV),es[i]?=some cs->cs[j]?=some av->∃x,vs[i*sz+j]?=some x/\x.oneCell'=true/\BO g w Fx av x/\i*sz+j<es.length*sz:=by
  intro i cs j av h1 h2;have hcl:=hl cs (Az h1);have hj:j<sz:=by rw[<-hcl];exact(Ay.1 h2).1
  have hi:=(Ay.1 h1).1;have DE:i*sz+j<es.length*sz:=by
   have:=Bh sz (show i+1<=es.length from hi)
   rw[Ea]at this;omega
  have hf:=FF hl h1 hj;rw[h2]at hf;obtain⟨x,x1,x2,x3⟩:=hr.at hf;rw[BS DE,A5]at x1;exact⟨x,x1,x2,x3,DE⟩
 refine .slice U es b 0 sz cap (fun i j=>vs[i*sz+j]?.getD default) hc (fun i cs h=>hl cs (Az h)) (fun i cs j av h1 h2=>?_) (fun i cs j av h1 h2=>?_)
 .obtain⟨x,x1,x2,x3,x4⟩:=key i cs j av h1 h2;rw[Bf];refine⟨hS _ x4,?_,?_⟩
  .rw[F3 hb,x1];rfl
  .rw[x1];exact x2
 .obtain⟨x,x1,x2,x3,x4⟩:=key i cs j av h1 h2;rw[x1];exact x3
section
variable {P:Program}{w0:World}{g0:Gh}{h0 h:Nat->HO}{g:Gh}{w:World}
theorem SW(hI:D2 w0 g0 h0 h g w){d:Nat}(hd:h d=.free)(E:TypeId)(hr:CU g w (AS h) cs vs.toList) :
  ∃g',D2 w0 g0 h0 (A2 h d (.cells cs)) g' (w.alloc (.cells vs E (0,0)))/\Le h g w (A2 h d (.cells cs)) g' (w.alloc (.cells vs E (0,0))) /\
   BO g' (w.alloc (.cells vs E (0,0))) (AS (A2 h d (.cells cs))) (.ref d 0) (.pointer (some ⟨w.heap.size,0,none⟩)):=by
 obtain⟨k1,k2⟩:=hI.newOwn hd (.cells cs) (.cells vs E (0,0)) (.pointer (some ⟨w.heap.size,0,none⟩)) 0 false w ⟨rfl,rfl,rfl,rfl⟩ B0 (fun hg hk=>by
  obtain⟨u1,u2,u3,u4⟩:=BI g d (.pointer (some ⟨w.heap.size,0,none⟩)) 0 false (some w.heap.size) g.S;exact⟨u3,w.heap.size,E,vs,u4,u1,GT w _ rfl,hr.mono hk (fun i hi=>D7 B0 i hi) hg,fun o ho=>by have:=hI.slt _ _ ho;omega⟩)
 refine⟨_,k1,k2,.ref _ d 0 w.heap.size (by unfold AS;rw[Bl];simp) ?_ ?_⟩
 .simp[Gh.upd]
 .simp[Gh.upd]
theorem np(hI:D2 w0 g0 h0 h g w){d:Nat}(hd:h d=.free)(E:TypeId)(hr:CU g w Fx cs vs.toList) :
  ∃g',D2 w0 g0 h0 (A2 h d (.ro cs)) g' (w.alloc (.cells vs E (0,0)))/\Le h g w (A2 h d (.ro cs)) g' (w.alloc (.cells vs E (0,0))) /\
   BO g' (w.alloc (.cells vs E (0,0))) (AS (A2 h d (.ro cs))) (.ref d 0) (.pointer (some ⟨w.heap.size,0,none⟩)):=by
 obtain⟨k1,k2⟩:=hI.newStable hd (.ro cs) vs E cs.length (.pointer (some ⟨w.heap.size,0,none⟩)) 0 false w ⟨rfl,rfl,rfl,rfl⟩ B0 (fun hg hk=>by
  obtain⟨u1,u2,u3,u4⟩:=BI g d (.pointer (some ⟨w.heap.size,0,none⟩)) 0 false none (g.more w.heap.size cs.length);exact⟨u3,w.heap.size,u1,BO.cptr_row (GT w _ rfl) (hr.mono hk (fun _ h=>h) (fun _ h=>h.elim)) (fun o ho=>.inr ⟨rfl,ho⟩)⟩)
 refine⟨_,k1,k2,.ref _ d 0 w.heap.size (by unfold AS;rw[Bl];simp) ?_ ?_⟩
 .simp[Gh.upd]
 .simp[Gh.upd]
theorem KR(hI:D2 w0 g0 h0 h g w){d:Option Nat}{sz:Nat}(hk:E0 cx d h sz es K){cap:Nat}(E:TypeId)(hl:∀cs∈es,cs.length=sz)(hc:es.length<=cap)(hs:vs.size=cap*sz)(hr:CU g w Fx es.flatten (vs.toList.take (es.length*sz)))(w1:World)(LZ:w1.heap=w.heap/\w1.os=w.os/\w1.tape=w.tape/\w1.output=w.output) :
  ∃g' av h',K av h'/\D2 w0 g0 h0 h' g' (w1.alloc (.cells vs E (0,0)))/\Le h g w h' g' (w1.alloc (.cells vs E (0,0))) /\
   BO g' (w1.alloc (.cells vs E (0,0))) (AS h') av (.slice (some ⟨w.heap.size,0,none⟩) es.length cap):=by
 have ES:(w1.alloc (.cells vs E (0,0))).heap[w.heap.size]?=some (.cells vs E (0,0)):=GT w1 _ (by rw[LZ.1]);unfold E0 at hk;split at hk
 .exact hk.elim
 .rename_i d;generalize KC cx d=d1 at hk;split at hk
  .rename_i hd;split at hk
   .obtain⟨k1,k2⟩:=hI.newOwn hd (.arr sz es) (.cells vs E (0,0)) (.slice (some ⟨w.heap.size,0,none⟩) es.length cap) es.length true w1 LZ B0 (fun hg IJ=>by
     obtain⟨u1,u2,u3,u4⟩:=BI g d1 (.slice (some ⟨w.heap.size,0,none⟩) es.length cap) es.length true (some w.heap.size) g.S;exact⟨u3,u2,hl,.inr ⟨w.heap.size,cap,E,vs,u1,u4,hc,ES,hs,hr.mono IJ (fun _ h=>h) (fun _ h=>h.elim),fun o ho=>by have:=hI.slt _ _ ho;omega⟩⟩)
    refine⟨_,_,_,hk,k1,k2,.msl _ d1 es.length _ cap (by unfold AS;rw[Bl];simp) ?_ ?_ (.inr ⟨_,rfl⟩) ?_⟩<;>simp[Gh.upd]
   .by_cases aK:es.length=cap
    .obtain⟨k1,k2⟩:=hI.newStable hd (.tok sz es.length) vs E (es.length*sz) (.slice (some ⟨w.heap.size,0,none⟩) es.length cap) es.length true w1 LZ B0 (fun hg IJ=>by
      obtain⟨u1,u2,u3,u4⟩:=BI g d1 (.slice (some ⟨w.heap.size,0,none⟩) es.length cap) es.length true none (g.more w.heap.size (es.length*sz));exact⟨u3,u2,_,cap,u1,.inl ⟨aK,u4⟩⟩)
     refine⟨_,_,_,hk,k1,k2,.tok _ d1 sz es _ (BO.slice_row ES hl hc (hr.mono k2.keeps (fun _ h=>h) (fun _ h=>h.elim)) (fun o ho=>.inr ⟨rfl,ho⟩)) hl (by unfold AS;rw[Bl];simp) ?_ ?_ ?_⟩<;>simp[Gh.upd]
    .have sJ:=hI.upd d1 (.tok sz es.length) (.slice (some ⟨w.heap.size,0,none⟩) es.length cap) es.length true (some w.heap.size) (g.more w.heap.size (es.length*sz)) (w1.alloc (.cells vs E (0,0))) none
      ⟨LZ.2.1,LZ.2.2.1,LZ.2.2.2,by rw[World.size_alloc,LZ.1];omega⟩ (fun k hk' _=>by rw[heap_alloc_old _ _ (by rw[LZ.1];exact hk'),LZ.1]) (fun b e=>by cases e) (fun _ _ h=>.inl h)
      (fun b o hb=>by
       rcases hb with hb | ⟨rfl,_⟩
       .exact .inl hb
       .exact .inr ⟨by rw[World.size_alloc,LZ.1];omega,.inl (Ak _)⟩) (fun b o e=>by cases e)
      (fun b _ e=>by cases e;rw[World.size_alloc,LZ.1];exact⟨by omega,.inr (Ak _)⟩) B0 (fun hu=>absurd hd hu) (fun hg IJ=>by
       obtain⟨u1,u2,u3,u4⟩:=BI g d1 (.slice (some ⟨w.heap.size,0,none⟩) es.length cap) es.length true (some w.heap.size) (g.more w.heap.size (es.length*sz));exact⟨u3,u2,_,cap,u1,.inr ⟨hc,w.heap.size,E,vs,0,rfl,u4,.of ES,by rw[hs,Bf],fun o ho=>by
        rcases ho with ho | ⟨_,ho⟩
        .have:=hI.slt _ _ ho;omega
        .omega⟩⟩)
     obtain⟨k1,k2⟩:=sJ;refine⟨_,_,_,hk,k1,k2,.tok _ d1 sz es _ (BO.slice_row ES hl hc (hr.mono k2.keeps (fun _ h=>h) (fun _ h=>h.elim)) (fun o ho=>.inr ⟨rfl,ho⟩)) hl (by unfold AS;rw[Bl];simp) ?_ ?_ ?_⟩<;>simp[Gh.upd]
  .exact hk.elim
end
theorem N3{α:Type}:∀(cs:List α) (o:Nat) (vs:List α),o+vs.length<=cs.length->over cs o vs=cs.take o++vs++cs.drop (o+vs.length)
 | [],o,vs,h=>by
  simp at h;obtain⟨rfl,rfl⟩:=h
  rfl
 |c::cs,o+1,vs,h=>by
  rw[over,N3 cs o vs (by simp at h;omega)];simp only[JM,Hr,BB,Nat.add_right_comm o 1,List.drop_succ_cons]
 |c::cs,0,[],h=>by simp[over]
 |c::cs,0,v::vs,h=>by
  rw[over,N3 cs 0 vs (by simp at h;omega)];simp
theorem XI(cs:List α)(o n:Nat)(vs:List α)(h:o+vs.length<=n)(hn:n<=cs.length):(over cs o vs).take n=over (cs.take n) o vs:=by
 apply Du;intro i;rw[F6 _ _ _ _ (by simp;omega)]
 by_cases hi:i<n
 .rw[BS hi,F6 _ _ _ _ ch,BS hi]
 .rw[Aj ch,A9 (by rw[Aw,F7];omega),A9 (by simp;omega)]
theorem M8{n:Nat}:∀{es:List (List α)},(∀c∈es,c.length=n)->∀{i:Nat} {c:List α},es[i]?=some c->∀(o:Nat) (vs:List α),o+vs.length<=n ->
  (es.set i (over c o vs)).flatten=over es.flatten (i*n+o) vs
 | [],_,i,c,h,_,_,_=>by simp at h
 |d::es,hl,i,c,h,o,vs,Ib=>by
  have hd:=hl d (Ab ..);have hfl:=Dx (es:=d::es) (n:=n) hl;have DE:=(Ay.1 h).1;have yC:i*n+o+vs.length<=(d::es).flatten.length:=by
   rw[hfl]
   have:=Bh n (show i+1<=(d::es).length from DE)
   rw[Ea]at this;omega
  have hcl:=hl c (Az h);apply Du;intro j;rw[F6 _ _ _ _ yC];have OX:∀e∈(d::es).set i (over c o vs),e.length=n:=fun e he=>by
   rcases Fm he with he | rfl
   .exact hl e he
   .rw[F7];exact hcl
  by_cases hn:n=0
  .subst hn;have h1:=Dx OX;have h2:=hfl;simp only[Nat.mul_zero,FP]at h1 h2;rw[h1,h2]
   have:¬(i*0+o<=j/\j<i*0+o+vs.length):=by omega
   rw[Aj this]
  .have wT:j=j / n*n+j % n:=by rw[Nat.mul_comm];exact(WI j n).symm
   have aN:j % n<n:=Nat.mod_lt _ ch
   by_cases hj:j / n<(d::es).length
   .have g1:(d::es)[j / n]?=some ((d::es)[j / n]):=AB hj;have g2:((d::es).set i (over c o vs))[j / n]?=some (if i=j / n then over c o vs else(d::es)[j / n]):=by
     rw[List.getElem?_set]
     by_cases e:i=j / n
     .rw[Ao e,Ao ch,Ao e]
     .rw[Aj e,Aj e];exact g1
    have f1:=FF hl g1 aN;have f2:=FF OX g2 aN;rw[<-wT]at f1 f2;rw[f1,f2];split
    .rename_i e;rw[e]at h;rw[g1]at h;cases h;rw[F6 _ _ _ _ ch];have e2:i*n+o<=j↔o<=j % n:=by rw[e];omega
     have e3:j<i*n+o+vs.length↔j % n<o+vs.length:=by rw[e];omega
     simp only[e2,e3];split
     .congr 1;rw[e];omega
     .rfl
    .rename_i e
     have:¬(i*n+o<=j/\j<i*n+o+vs.length):=by
      rintro⟨q1,q2⟩
      apply e;have a1:i*n<=j:=by omega
      have a2:j<(i+1)*n:=by rw[Ea];omega
      have:=(Nat.le_div_iff_mul_le ch).2 a1
      have:=(Mw ch).2 a2
      omega
     rw[Aj this]
   .have wV:(d::es).length*n<=j:=by
     have:=Nat.not_lt.1 hj
     have:=(Nat.le_div_iff_mul_le ch).1 this
     exact this
    have:¬(i*n+o<=j/\j<i*n+o+vs.length):=by rw[hfl]at yC;omega
    rw[Aj this,A9 (by rw[Dx OX,Dj];exact wV),A9 (by rw[hfl];exact wV)]
theorem QQ{P:Program}(hT:CK P T)(w:World){t:Nat}{x:Value}(hd:(T t).d≠.other)(hs:x.cells.toList.length=(T t).size)(h1:∀v∈x.cells.toList,v.oneCell'=true)(hb:w.heap[b]?=some (.cells EI E (0,0)))(Ib:off+x.cells.toList.length<=EI.size) :
  (Instr.storeAt t (.pointer (some ⟨b,off,none⟩)) x).run P w=.ok () (w.setRow b (over EI.toList off x.cells.toList).toArray):=by
 have Kh:=run_storeCells_at P b off E x.cells.toList 0 EI w hb (by simpa using Ib) h1;simp only[Ia]at Kh;have Zx : x.cells.size=(T t).size:=by simpa using hs
 rw[N3 _ _ _ (by simpa using Ib)];simp only[Instr.storeAt,Sem.run_bind,Instr.sureAddr,Sem.run_pure,Result.andThen_ok,storeVar,hT.size w hd,Zx,XE,not_true_eq_false,Gu];exact Kh
section
variable {P:Program}{w0:World}{g0:Gh}{h0 h:Nat->HO}{g:Gh}{w:World}(hI:D2 w0 g0 h0 h g w)
include hI
theorem ik(hT:CK P T){d:Option Nat}{e:Nat}(hk:Ug T d h e K):OI P w0 g0 h0 h g w (Instr.alloc e true (.tuple #[])) K:=by
 unfold Ug at hk;split at hk
 .exact hk.elim
 .split at hk
  .rename_i hd;split at hk
   .exact hk.elim
   .rename_i DD;split at hk
    .rename_i ha;obtain⟨z,z1,z2,_⟩:=Rc hT (w:=w) DD;have hr:CU g w (AS h) ((T e).zc.map .v) z.cells.toList:=by rw[z2]at ha⊢;exact CU.vals ha
     obtain⟨g',k1,k2,k3⟩:=SW hI hd (vs:=z.cells) e hr;refine⟨_,_,g',_,_,?_,hk,k1,k2,k3⟩;simp[Instr.alloc,z1,newVar,newRow]
    .exact hk.elim
  .exact hk.elim
theorem QX{vs:List Value}(hr:CU g w (AS h) cs vs):CU g w Fx (cs.map (str h)) vs:=by
 refine⟨by rw[Bb];exact hr.1,hr.2.1,fun i av x h1 h2=>?_⟩;rw[AH,AW]at h1;obtain⟨a,a1,rfl⟩:=h1;exact(hr.2.2 i a x a1 h2).str hI.objs
theorem pU{d:Option Nat}{e:Nat}{x:AV}(hx:BO g w (AS h) x vx)(hk:iz cx d h e x K):OI P w0 g0 h0 h g w (Instr.box e vx) K:=by
 unfold iz at hk;split at hk
 .exact hk.elim
 .split at hk
  .rename_i hd;split at hk
   .exact hk.elim
   .obtain⟨cs,hk,hn,hr⟩:=NM hx hk;split at hk
    .obtain⟨g',k1,k2,k3⟩:=np hI hd (vs:=vx.cells) e (QX hI hr);exact⟨_,_,g',_,_,rfl,hk,k1,k2,k3⟩
    .obtain⟨g',k1,k2,k3⟩:=SW hI hd (vs:=vx.cells) e hr;exact⟨_,_,g',_,_,rfl,hk,k1,k2,k3⟩
  .exact hk.elim
theorem D2.write{r b:Nat}(hl:(h r).live)(ho:g.own r=some b)(o' : HO)(hb:w.heap[b]?=some (.cells EI E (0,0)))(new:Array Value)(n:Nat)(ow:Option Nat)(S' : Nat->Nat->Prop)(DD:o'≠.free)(hn:n=g.ln r)(yI:∀b',ow=some b'->b'=b)(hS:∀b o,g.S b o->S' b o)(hSn:∀b' o,S' b' o->g.S b' o\/b'=b)(yz:∀o,g.S b o->new[o]?=EI[o]?)(Kg:KZ g (g.upd r (g.ρ r) n (g.tk r) ow S') (AS h)->EN g w (g.upd r (g.ρ r) n (g.tk r) ow S') (w.setRow b new)->(w.setRow b new).heap[b]?=some (.cells new E (0,0)) ->
   Ew (g.upd r (g.ρ r) n (g.tk r) ow S') (w.setRow b new) (AS (A2 h r o')) r o') :
  D2 w0 g0 h0 (A2 h r o') (g.upd r (g.ρ r) n (g.tk r) ow S') (w.setRow b new)/\Le h g w (A2 h r o') (g.upd r (g.ρ r) n (g.tk r) ow S') (w.setRow b new):=by
 have ES:=setRow_heap w b EI new E (0,0) hb;have DE:=(hI.loc r b hl ho).1
 refine hI.upd r o' _ _ _ _ _ _ (some b) ⟨rfl,rfl,rfl,by rw[size_setRow];exact Ak _⟩ (fun k hk DD=>setRow_other w b k new (fun e=>DD (by rw[e]))) (fun b' e=>by cases e;exact⟨hl,ho⟩) hS (fun b' o hs=>?_)
  (fun b' o e hs=>?_) (fun b' _ e=>?_) DD (fun _=>⟨rfl,by omega,fun _=>rfl,fun _=>rfl⟩) (fun hg hk=>Kg hg hk ES)
 .rcases hSn b' o hs with h1 | rfl
  .exact .inl h1
  .exact .inr ⟨by rw[size_setRow];exact DE,.inr ⟨hl,ho⟩⟩
 .cases e
  refine⟨?_,fun es ck he=>by rw[hb]at he;cases he⟩;rw[F3 ES,F3 hb];exact yz o hs
 .obtain rfl:=yI b' e;exact⟨by rw[size_setRow];exact DE,.inl ⟨hl,ho⟩⟩
theorem km(hT:CK P cx.T){t:Nat}{p x:AV}{vp:Value}(hp:BO g w (AS h) p vp)(hx:BO g w (AS h) x vx)(hk:Pn cx h t p x K) :
  kQ P w0 g0 h0 h g w (Instr.storeAt t vp vx) K:=by
 unfold Pn at hk;split at hk
 .exact hk.elim
 .rename_i hd;have h5:=NM hx hk
  clear hk
  obtain⟨vs,hk,hn,hr⟩:=h5;have CP:vx.cells.toList.length=vs.length:=hr.1;split at hk
  .rename_i r off;have ho:=hI.objs r;split at hk
   .rename_i cs e;obtain⟨Ib,hk⟩:=hk;rw[e]at ho;obtain⟨t0,b,E,EI,a1,a2,a3,a4,a5⟩:=ho;cases hp with
    |ref _ _ _ b' hu ht sT=>
     rw[a2]at sT;cases sT;have hcs:EI.toList.length=cs.length:=a4.1;have CV:=QQ hT w (t:=t) (off:=off) (x:=vx) hd (by rw[CP,hn]) hr.2.1 a3 (by rw[CP];simp at hcs;omega);have hl:(h r).live:=by rw[e];trivial
     have uP:=a4.over hr off Ib;split at hk
     .obtain⟨k1,k2⟩:=hI.write hl a1 (.ro ((over cs off vs).map (str h))) a3 (over EI.toList off vx.cells.toList).toArray (g.ln r) none (g.more b cs.length) B0 rfl (fun _ e=>by cases e) (fun _ _ h=>.inl h)
       (fun b' o hs=>hs.elim .inl (fun hs=>.inr hs.1)) (fun o hs=>absurd hs (a5 o)) (fun hg IJ ES=>by
        obtain⟨u1,u2,u3,u4⟩:=BI g r (g.ρ r) (g.ln r) (g.tk r) none (g.more b cs.length);refine⟨u3.trans t0,b,u1.trans a2,BO.cptr_row ES ?_ (fun o ho=>.inr ⟨rfl,?_⟩)⟩
        .exact(QX hI uP).mono IJ (fun _ h=>h) (fun _ h=>h.elim)
        .rw[Bb,F7]at ho;exact ho)
      exact⟨_,_,_,CV,hk,k1,k2⟩
     .obtain⟨k1,k2⟩:=hI.write hl a1 (.cells (over cs off vs)) a3 (over EI.toList off vx.cells.toList).toArray (g.ln r) (g.own r) g.S B0 rfl (fun b' e=>by rw[a1]at e;cases e;rfl) (fun _ _ h=>h)
       (fun b' o hs=>.inl hs) (fun o hs=>absurd hs (a5 o)) (fun hg IJ ES=>by
        obtain⟨u1,u2,u3,u4⟩:=BI g r (g.ρ r) (g.ln r) (g.tk r) (g.own r) g.S;exact⟨u3.trans t0,b,E,_,u4.trans a1,u1.trans a2,ES,uP.mono IJ (fun i hi=>D7 B0 i hi) hg,a5⟩)
      exact⟨_,_,_,CV,hk,k1,k2⟩
   .exact hk.elim
  .rename_i r n sz i off;have ho:=hI.objs r;split at hk
   .rename_i G3 es e;rw[e]at ho;split at hk
    .rename_i hz;obtain rfl:=AM hz;obtain⟨hnl,cs,hi,Ib,hk⟩:=hk;obtain⟨t1,l1,al,a1⟩:=ho;have DE:=(Ay.1 hi).1;rcases a1 with ⟨rfl,_⟩ | ⟨b,cap,E,EI,e1,e2,e3,e4,e5,e6,e7⟩
     .simp at hi
     .cases hp with
      |eref _ _ _ _ _ _ b' L6 hu ht aP sT=>
       have sT:=sT (hnl.trans l1.symm);rw[e1]at sT;simp only[Value.slice.injEq,Bz,Addr.mk.injEq]at sT;obtain⟨⟨rfl,_,_⟩,_,_⟩:=sT;have hcl:=al cs (Az hi);have U2:i*sz+sz<=es.length*sz:=by
        have:=Bh sz (show i+1<=es.length from DE)
        rwa [Ea]at this
       have mB:es.length*sz<=cap*sz:=Bh sz e3;have CV:=QQ hT w (t:=t) (off:=i*sz+off) (x:=vx) hd (by rw[CP,hn]) hr.2.1 e4 (by rw[CP];omega);have hl:(h r).live:=by rw[e];trivial
       have x9 : ∀c∈es.set i (over cs off (vs.map (str h))),c.length=sz:=fun c hc=>by
        rcases Fm hc with hc | rfl
        .exact al c hc
        .rw[F7];exact hcl
       have hfl:=M8 al hi off (vs.map (str h)) (by rw[Bb];exact Ib);have aI:EI.toList.length=cap*sz:=by rw[BT];exact e5
       have yY:((over EI.toList (i*sz+off) vx.cells.toList).toArray.toList.take ((es.set i (over cs off (vs.map (str h)))).length*sz))=over (EI.toList.take (es.length*sz)) (i*sz+off) vx.cells.toList:=by
        rw[Dj];exact XI _ _ _ _ (by rw[CP];omega) (by rw[aI];exact mB)
       have uP:CU g w Fx (es.set i (over cs off (vs.map (str h)))).flatten ((over EI.toList (i*sz+off) vx.cells.toList).toArray.toList.take ((es.set i (over cs off (vs.map (str h)))).length*sz)):=by
        rw[yY,hfl];exact e6.over (QX hI hr) _ (by rw[Bb,Dx al];omega)
       split at hk
       .rename_i j m;have fS:∃x0,vx.cells.toList=[x0]:=by
         revert CP
         cases vx.cells.toList with
         |nil=>intro CP;cases CP
         |cons x0 l=>cases l with
          |nil=>intro _;exact⟨x0,rfl⟩
          |cons _ _=>intro CP;simp at CP
        obtain⟨x0,fS⟩:=fS;have Ez:=hr.2.2 0 (.msl j m) x0 rfl (by rw[fS];rfl)
        obtain⟨k1,k2⟩:=hI.write hl e2 (.hol sz (es.set i (over cs off [.junk])) i off (.msl j m)) e4 (over EI.toList (i*sz+off) vx.cells.toList).toArray (g.ln r) (g.own r) g.S B0 rfl (fun b' e=>by rw[e2]at e;cases e;rfl) (fun _ _ h=>h)
         (fun b' o hs=>.inl hs) (fun o hs=>absurd hs (e7 o)) (fun hg IJ ES=>by
          obtain⟨u1,u2,u3,u4⟩:=BI g r (g.ρ r) (g.ln r) (g.tk r) (g.own r) g.S;have uL:i*sz+off<es.length*sz:=by simp only[Am,Au]at Ib;omega
          refine⟨u3.trans t1,u2.trans (by rw[Dj];exact l1),x9,b,cap,E,_,?_,u4.trans e2,by rw[Dj];exact e3,ES,?_,uP.mono IJ (fun _ h=>h) (fun _ h=>h.elim),e7,by rw[Dj];exact uL,x0,?_,Ez.mono IJ (fun i hi=>D7 B0 i hi) hg⟩
          .rw[u1,e1,Dj]
          .simp only[D8,F7,BT];exact e5
          .rw[<-A5,fS,F6 _ _ _ _ (by rw[aI];simp only[Am,Au];omega),Ao ⟨Ak _,by simp only[Am,Au];omega⟩,E8];rfl)
        exact⟨_,_,_,CV,hk,k1,k2⟩
       .obtain⟨k1,k2⟩:=hI.write hl e2 (.arr sz (es.set i (over cs off (vs.map (str h))))) e4 (over EI.toList (i*sz+off) vx.cells.toList).toArray (g.ln r) (g.own r) g.S B0 rfl (fun b' e=>by rw[e2]at e;cases e;rfl) (fun _ _ h=>h)
         (fun b' o hs=>.inl hs) (fun o hs=>absurd hs (e7 o)) (fun hg IJ ES=>by
          obtain⟨u1,u2,u3,u4⟩:=BI g r (g.ρ r) (g.ln r) (g.tk r) (g.own r) g.S;refine⟨u3.trans t1,u2.trans (by rw[Dj];exact l1),x9,.inr ⟨b,cap,E,_,?_,u4.trans e2,by rw[Dj];exact e3,ES,?_,uP.mono IJ (fun _ h=>h) (fun _ h=>h.elim),e7⟩⟩
          .rw[u1,e1,Dj]
          .simp only[D8,F7,BT];exact e5)
        exact⟨_,_,_,CV,hk,k1,k2⟩
    .exact hk.elim
   .exact hk.elim
  .exact hk.elim
end
theorem jO(c vs:List α)(h:vs.length=c.length):over c 0 vs=vs:=by
 rw[N3 _ _ _ ch];simp[h]
theorem IB[Inhabited α](z:List α)(hz:z≠[]):(List.replicate n z).flatten=(List.range (n*z.length)).map fun k=>z[k % z.length]!:=by
 have hl:∀c∈List.replicate n z,c.length=z.length:=fun c hc=>by rw[Ct hc]
 have dv:0<z.length:=Hm.2 hz;apply Du;intro k
 by_cases hk:k<n*z.length
 .have wT:k=k / z.length*z.length+k % z.length:=by rw[Nat.mul_comm];exact(WI k _).symm
  have aN:k % z.length<z.length:=Nat.mod_lt _ dv;have hi:k / z.length<n:=(Mw dv).2 hk;have f1:=FF hl (i:=k / z.length) (c:=z) (by rw[List.getElem?_replicate,Ao hi]) aN;rw[<-wT]at f1;rw[f1];simp[hk,aN]
 .rw[A9 (by rw[Dx hl,BV];omega),A9 (by simp;omega)]
section
variable {P:Program}{w0:World}{g0:Gh}{h0 h:Nat->HO}{g:Gh}{w:World}(hI:D2 w0 g0 h0 h g w)
include hI
theorem au{n sz:Nat}{t:Nat->AV}{ρ:Operand->Value}(ht:∀x:Operand,BO g w (AS h) (ev t x) (ρ x)) :
  ∀{ps:List (Nat×Operand)} {es:List (List AV)} {xs:Array Value} {K:List (List AV)->Prop},es.length=n->(∀c∈es,c.length=sz)->CU g w Fx es.flatten xs.toList->Sy n sz h es t ps K ->
   ∃F0 X6,K F0/\F0.length=n/\(∀c∈F0,c.length=sz)/\CU g w Fx F0.flatten X6.toList/\Instr.fill (fun i=>some (i*sz,sz)) xs (ps.map fun(i,x)=>(i,ρ x))=some X6
 | [],es,xs,K,hn,hl,h,hk=>⟨es,xs,hk,hn,hl,h,rfl⟩
 |(i,x)::ps,es,xs,K,hn,hl,h,hk=>by
  unfold Sy at hk;split at hk
  .rename_i hi;have hi:i<n:=Gy hi;have h5:=NM (ht x) hk
   clear hk
   obtain⟨Wl,hk,uN,hr⟩:=h5;have ET:(ρ x).cells.size=sz:=by rw[<-uN];simpa using hr.1
   have SH:=QX hI hr;obtain⟨c,hc⟩:∃c,es[i]?=some c:=⟨_,AB ch⟩;have hcl:=hl c (Az hc);have Ib:i*sz+sz<=es.flatten.length:=by
    rw[Dx hl,hn]
    have:=Bh sz (show i+1<=n from hi)
    rwa [Ea]at this
   have hfl:=M8 hl hc 0 (Wl.map (str ‹Nat->HO›)) (by rw[Bb,uN];omega);rw[jO _ _ (by rw[Bb,uN,hcl]),Ia]at hfl;have ES:=h.over SH (i*sz) (by rw[Bb,uN];exact Ib);have py:xs.size=es.flatten.length:=by have:=h.1;rwa [BT]at this
   have e:=OW (ρ x).cells.toList 0 (i*sz) xs (by rw[BT];omega);simp only[Ia]at e;rw[<-e,<-hfl]at ES;obtain⟨F0,X6,k1,k2,k3,k4,k5⟩:=au ht (es:=es.set i (Wl.map (str _))) (by rw[Dj];exact hn) (fun c' uB=>by
    rcases Fm uB with uB | rfl
    .exact hl c' uB
    .rw[Bb];exact uN) ES hk
   refine⟨F0,X6,k1,k2,k3,k4,?_⟩;simp only[AL,Instr.fill];have e2:(ρ x).cells.zipIdx.foldl (fun cs (c,j)=>cs.setIfInBounds (i*sz+j) c) xs=((ρ x).cells.toList.zipIdx 0).foldl (fun(cs:Array Value) (p:Value×Nat)=>cs.setIfInBounds (i*sz+p.2) p.1) xs:=by
    rw[<-Array.foldl_toList];simp
   rw[Aj (by simp[ET];omega),e2];exact k5
  .exact hk.elim
theorem Uq(hT:CK P cx.T){d:Option Nat}{ty n:Nat}{t:Nat->AV}{ρ:Operand->Value}(ht:∀x:Operand,BO g w (AS h) (ev t x) (ρ x)){ps:Array (Nat×Operand)}(hk:Je cx d h ty n t ps.toList K):OI P w0 g0 h0 h g w (Instr.buildSlice ty n (ps.map fun(i,x)=>(i,ρ x))) K:=by
 unfold Je at hk;split at hk
 .rename_i e hs;split at hk
  .rename_i Qr Oc;have Oc:=AM Oc;split at hk
   .exact hk.elim
   .rename_i m hm;split at hk
    .rename_i Ib;have Ib:=Gy Ib;have uY:(cx.T e).zc≠[]:=fun e0=>by rw[e0]at Oc;rw[hm]at Oc;cases Oc
     have hlr:∀c∈List.replicate n ((cx.T e).zc.map AV.v),c.length=(cx.T e).size:=fun c hc=>by rw[Ct hc,Bb];exact Oc
     have yu:CU g w Fx (List.replicate n ((cx.T e).zc.map AV.v)).flatten ((Array.range (n*(cx.T e).size)).map fun k=>(cx.T e).zc.toArray[k % (cx.T e).zc.toArray.size]!).toList:=by
      have e1:((Array.range (n*(cx.T e).size)).map fun k=>(cx.T e).zc.toArray[k % (cx.T e).zc.toArray.size]!).toList=(List.replicate n (cx.T e).zc).flatten:=by
       rw[IB n _ uY];simp[Oc]
      have e2:(List.replicate n ((cx.T e).zc.map AV.v)).flatten=(List.replicate n (cx.T e).zc).flatten.map AV.v:=by
       rw[T9,List.map_replicate]
      rw[e1,e2];refine CU.vals ?_;have GE:∀l:List AV,(∀a∈l,one a=true)->Hh l=true:=by
       intro l
       induction l with
       |nil=>intro _;rfl
       |cons a l ih=>intro h;simp[Hh,h a (List.mem_cons_self ..),ih (fun b hb=>h b (List.mem_cons_of_mem _ hb))]
      refine GE _ (fun a ha=>?_);obtain⟨x,hx,rfl⟩:=Ai.1 ha;obtain⟨l,hl,hx⟩:=D3.1 hx;rw[Ct hl]at hx;exact NG Qr _ (Ai.2 ⟨x,hx,rfl⟩)
     obtain⟨F0,X6,k1,k2,k3,k4,k5⟩:=au hI ht (by rw[BV]) hlr yu hk;have py:X6.size=n*(cx.T e).size:=by
      have:=k4.1
      rw[BT,Dx k3,k2]at this;exact this
     obtain⟨g',av,h',q1,q2,q3,q4⟩:=KR hI k1 (vs:=X6) (cap:=n) e k3 ch py (by
      rw[k2,At (by rw[BT,py];exact Ak _)];exact k4) w ⟨rfl,rfl,rfl,rfl⟩
     rw[k2]at q4;refine⟨_,_,g',av,h',?_,q1,q2,q3,q4⟩;obtain⟨z,z1,z2⟩:=X8 hT (w:=w) hm;have ET:=hT.size1 w hm;have e3:(Array.map (fun x:Nat×Operand=>match x with | (i,x)=>(i,ρ x)) ps).toList=ps.toList.map fun(i,x)=>(i,ρ x):=by simp
     have AcX:¬(n*(m+1)>2 ^ 24):=by rw[hm]at Ib;have Ib:n*(m+1)<=16777216:=Ib;omega
     simp only[Instr.buildSlice,Sem.run_bind,run_underlying (hT.slice hs),Result.andThen_ok,ET,Aj AcX];rw[e3];rw[hm]at k5
     by_cases h0:n*(m+1)=0
     .have hn0:n=0:=by
       rcases Nat.mul_eq_zero.1 h0 with h | h
       .exact h
       .cases h
      subst hn0;have er:Array.range 0=#[]:=rfl;simp only[Lw,er,List.map_toArray,E7]at k5;simp only[Lw,SJ,er,List.map_toArray,E7,k5];simp[newRow]
     .rw[z2]at k5;simp only[Array.toArray_toList]at k5;simp only[Aj h0,Sem.run_bind,z1,Result.andThen_ok,Sem.run_pure,k5];simp[newRow]
    .exact hk.elim
  .exact hk.elim
 .exact hk.elim
end
theorem Gg{sz:Nat}:∀{es:List (List AV)},Cf sz es->∀c∈es,c.length=sz
 | [],_,c,h=>by cases h
 |d::es,h,c,hc=>by
  rcases AC.1 hc with rfl | hc
  .exact h.1
  .exact Gg h.2 c hc
def PE(x:Value)(n sz:Nat)(news:List Value):Prop:=
 news.length=n*sz/\(∀v∈news,v.oneCell'=true)/\∃(a:Option Addr) (c:Nat),x=.slice a n c/\(n=0\/∃b:Addr,a=some b/\∀j u,news[j]?=some u->w.cell? (b.add j)=some u)
theorem PE.of_rep{w:World}{x:Value}(h:BO g w U (.slice .none es) x)(hl:∀c∈es,c.length=sz) :
  ∃news,PE w x es.length sz news/\CU g w Fx es.flatten news:=by
 cases h with
 |snil _ a cap=>exact⟨[],⟨by simp,by simp,a,cap,rfl,.inl rfl⟩,by simp,by simp,fun i av x h1 h2=>by simp at h2⟩
 |slice _ _ b off G3 cap val hc Ry DT Ez=>
  have hf:=Dx hl;have key:∀j,j<es.length*sz->∃cs,es[j / sz]?=some cs/\es.flatten[j]?=cs[j % sz]?/\j % sz<cs.length/\G3=sz/\j=j / sz*sz+j % sz:=by
   intro j hj;have dv:0<sz:=Nat.pos_of_ne_zero (fun e=>by rw[e]at hj;omega);have wT:j=j / sz*sz+j % sz:=by rw[Nat.mul_comm];exact(WI j sz).symm
   have hi:j / sz<es.length:=(Mw dv).2 hj;have aN:j % sz<sz:=Nat.mod_lt _ dv;have h1:es[j / sz]?=some es[j / sz]:=AB hi;have h2:=FF hl h1 aN;rw[<-wT]at h2;have h3:=hl _ (Al hi);exact⟨_,h1,h2,by rw[h3];exact aN,by rw[<-h3];exact(Ry _ _ h1).symm,wT⟩
  have YT:∀j,j<es.length*sz->∃av,es.flatten[j]?=some av/\w.cell? ⟨b,off+j,none⟩=some (val (j / sz) (j % sz))/\(val (j / sz) (j % sz)).oneCell'=true/\BO g w Fx av (val (j / sz) (j % sz)):=by
   intro j hj;obtain⟨cs,k1,k2,k3,rfl,k5⟩:=key j hj;have mu:cs[j % G3]?=some cs[j % G3]:=AB k3;obtain⟨_,c2,c3⟩:=DT _ _ _ _ k1 mu;rw[G4,<-k5]at c2;exact⟨_,k2.trans mu,c2,c3,Ez _ _ _ _ k1 mu⟩
  refine⟨(List.range (es.length*sz)).map fun j=>val (j / sz) (j % sz),⟨by simp,fun v hv=>?_,some ⟨b,off,none⟩,cap,rfl,.inr ⟨_,rfl,fun j u hu=>?_⟩⟩,by rw[hf];simp,fun v hv=>?_,fun i av x h1 h2=>?_⟩
  .obtain⟨j,hj,rfl⟩:=Ai.1 hv;obtain⟨_,_,_,c,_⟩:=YT j (FC.1 hj);exact c
  .obtain⟨hj,rfl⟩:=HC hu;rw[Addr.add_lit];exact(YT j hj).choose_spec.2.1
  .obtain⟨j,hj,rfl⟩:=Ai.1 hv;obtain⟨_,_,_,c,_⟩:=YT j (FC.1 hj);exact c
  .obtain⟨hj,rfl⟩:=HC h2;obtain⟨xk,c1,_,_,c4⟩:=YT i hj;rw[h1]at c1;cases c1;exact c4
section
variable {P:Program}{T:G2}(hT:CK P T)
include hT
theorem Ij{n:Nat}(hs:(T e).size=n+1):∃i z,P.info? e=some i/\i.zero=some z/\i.size=(T e).size/\i.bytes=(T e).bytes/\(T e).zc=z.cells.toList:=by
 rcases hT e with h | h
 .rw[h]at hs;cases hs
 unfold kq at h;split at h
 .split at h
  .rename_i d i h1 h2 _ z h3;exact⟨i,z,h2,h3,by rw[h],by rw[h],by rw[TI.zc_cells,h]⟩
  .rw[h]at hs;cases hs
 .rw[h]at hs;cases hs
theorem Jz(w:World){t ty k:Nat}(ht:(T t).d=.slice e)(hk:(T e).size=k+1)(a a' : Option Addr)(n cap c:Nat)(hc:n<=cap) :
  (Builtin.append_ #[t,t] ty #[.slice a n cap,.slice a' 0 c]).run P w=.ok (.slice a n cap) w:=by
 have hu:=hT.slice ht;cases a<;>cases a'<;>simp[Builtin.append_,run_underlying hu,hT.size1 w hk,Builtin.lenOf,hc,Builtin.firstCells,loadCells,loadCellsFrom,storeCells]
theorem ID(w:World){t ty k:Nat}(ht:(T t).d=.slice e)(hk:(T e).size=k+1)(hz:(T e).zc.length=(T e).size){s x:Value}{n m c:Nat}{olds news:List Value}{a a' : Option Addr}(hso:PE w s n (T e).size olds)(hs:s=.slice a n cap)(Mh:a=none->cap=0)(pv:PE w x m (T e).size news)(hx:x=.slice a' m c)(hm:0<m)(hg:cap<n+m)(hb:(n+m)*(T e).bytes<=140737488355328)(h63:n+m<=9223372036854775807) :
  ∃nc rest,(Builtin.append_ #[t,t] ty #[s,x]).run P w=.ok (.slice (some ⟨w.heap.size,0,none⟩) (n+m) nc) (w.drew.alloc (.cells (olds++news++rest).toArray e (0,0)))/\n+m<=nc /\
   (olds++news++rest).length=nc*(T e).size:=by
 obtain⟨i,z,i1,i2,i3,i4,i5⟩:=Ij hT hk;have hu:=hT.slice ht;obtain⟨n1,n2,a1,c1,n3,n4⟩:=pv;subst hx;cases n3;rcases n4 with h | ⟨b,rfl,JG⟩
 .omega
 .have Oc:z.cells.size=(T e).size:=by rw[<-hz,i5];simp
  have sO:∀(nc:Nat) (pre:List Value),pre.length=(n+m)*(T e).size->n+m<=nc->(pre++(Builtin.zeroCells z.cells (nc-(n+m))).toList).length=nc*(T e).size:=by
   intro nc pre hp Ib;have e1:(Builtin.zeroCells z.cells (nc-(n+m))).toList.length=(nc-(n+m))*(T e).size:=by simp only[BT,size_zeroCells,Oc]
   rw[Ac,e1,hp,<-FE]
   congr 1;omega
  obtain⟨o1,o2,a2,c2,o3,o4⟩:=hso;subst hs;cases o3;cases a with
  |none=>
   obtain rfl:=Mh rfl;have hn0:n=0:=by
    rcases o4 with h | ⟨b',h,_⟩
    .exact h
    .cases h
   subst hn0;have ho:olds=[]:=AQ (by simpa using o1);subst ho;have hr:=run_append_nil (P:=P) w t ty e i z hu i1 i2 b m c news (by rw[i3];exact n1) JG hm ch (by rw[i4];rw[Bf]at hb;omega);refine⟨grownCap w m 0 e,(Builtin.zeroCells z.cells (grownCap w m 0 e-m)).toList,?_,by rw[Bf];exact grownCap_ge w m 0 e,?_⟩
   .rw[hr,Bf]
    congr 3
    apply Pv;simp
   .have:=sO (grownCap w m 0 e) news (by rw[Bf];exact n1) (by rw[Bf];exact grownCap_ge w m 0 e)
    rw[Bf]at this;simpa using this
  |some b'=>
   have Hf:∀j u,olds[j]?=some u->w.cell? (b'.add j)=some u:=by
    rcases o4 with h | ⟨b2,h,h'⟩
    .intro j u hj;rw[h,Lw]at o1
     have:olds=[]:=AQ o1
     rw[this]at hj;simp at hj
    .cases h;exact h'
   have hr:=run_append_grow (P:=P) w t ty e i z hu i1 i2 b' n cap olds (by rw[i3];exact o1) Hf b m c news (by rw[i3];exact n1) JG hg ch (by rw[i4];exact growslice_fits hg hb);refine⟨grownCap w (n+m) cap e,(Builtin.zeroCells z.cells (grownCap w (n+m) cap e-(n+m))).toList,?_,grownCap_ge w (n+m) cap e,sO _ _ (by rw[Ac,o1,n1,<-FE]) (grownCap_ge w (n+m) cap e)⟩;rw[hr]
   congr 3
   apply Pv;simp
end
end Go.Eng
