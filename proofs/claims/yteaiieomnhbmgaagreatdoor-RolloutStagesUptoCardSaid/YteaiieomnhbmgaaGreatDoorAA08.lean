/- Lemmas 8. -/
import Derived.Test.YteaiieomnhbmgaaGreatDoorAA07
namespace Go.Eng
variable {vs:Array Value}{es:List (List AV)}{U:Nat->Prop}{E:TypeId}{cs:List AV}{f:Nat×Nat}{K:HK}{b:Nat}{α:Type}{EN:Array Value}{g:Gh}{cx:Cx}{sz cap e:Nat}{vx:Value}{off:Nat}{T:Ha}(P:Program)(w0:World)(g0:Gh)(n:Nat)(h0 h:Nat->HO)(w:World)
def OM(g:Gh)(w:World)(m:Sem Value)(K:HK):Prop:=
 ∃x w' g' av h',m.run P w=.ok x w'/\K av h'/\D7 w0 g0 h0 h' g' w'/\Le h g w h' g' w'/\BS g' w' (AQ h') av x
def kT(g:Gh)(w:World)(m:Sem Unit)(K:HK):Prop:=
 ∃w' g' h',m.run P w=.ok () w'/\K (.v undef) h'/\D7 w0 g0 h0 h' g' w'/\Le h g w h' g' w'
section
variable {P:Program}{w0:World}{g0:Gh}{h0 h:Nat->HO}{g:Gh}{w:World}(hI:D7 w0 g0 h0 h g w)
include hI
theorem BU.does{m:Sem Value}(hg:BU P h g w m (fun v=>K v h)):OM P w0 g0 h0 h g w m K:=
 let ⟨x,av,h1,h2,h3⟩:=hg
 ⟨x,w,g,av,h,h1,h2,hI,.refl _ _ _,h3⟩
theorem D7.newOwn{d:Nat}(hd:h d=.free)(o' : HO)(ob:Obj)(x:Value)(n:Nat)(t:Bool)(w1:World)(L4:w1.heap=w.heap/\w1.os=w.os/\w1.tape=w.tape/\w1.output=w.output)(DH:o'≠.free)
  (Kn:K9 g (g.upd d x n t (some w.heap.size) g.S) (AQ h)->ET g w (g.upd d x n t (some w.heap.size) g.S) (w1.alloc ob) ->
   EC (g.upd d x n t (some w.heap.size) g.S) (w1.alloc ob) (AQ (A1 h d o')) d o') :
  D7 w0 g0 h0 (A1 h d o') (g.upd d x n t (some w.heap.size) g.S) (w1.alloc ob)/\Le h g w (A1 h d o') (g.upd d x n t (some w.heap.size) g.S) (w1.alloc ob):=by
 refine hI.upd d o' x n t _ _ _ none ⟨L4.2.1,L4.2.2.1,L4.2.2.2,by rw[World.size_alloc,L4.1];omega⟩ (fun k hk _=>?_) (fun b e=>by cases e) (fun _ _ h=>h) (fun _ _ h=>.inl h) (fun b o e=>by cases e)
  (fun b _ e=>?_) DH (fun hu=>absurd hd hu) Kn
 .rw[heap_alloc_old _ _ (by rw[L4.1];exact hk),L4.1]
 .cases e;rw[World.size_alloc,L4.1];exact⟨by omega,.inr (Ak _)⟩
def Gh.more(g:Gh)(b n:Nat):Nat->Nat->Prop:=fun b' o=>g.S b' o\/(b'=b/\o<n)
theorem D7.newStable{d:Nat}(hd:h d=.free)(o' : HO)(vs:Array Value)(E:TypeId)(m:Nat)(x:Value)(n:Nat)(t:Bool)(w1:World)(L4:w1.heap=w.heap/\w1.os=w.os/\w1.tape=w.tape/\w1.output=w.output)(DH:o'≠.free)
  (Kn:K9 g (g.upd d x n t none (g.more w.heap.size m)) (AQ h)->ET g w (g.upd d x n t none (g.more w.heap.size m)) (w1.alloc (.cells vs E (0,0))) ->
   EC (g.upd d x n t none (g.more w.heap.size m)) (w1.alloc (.cells vs E (0,0))) (AQ (A1 h d o')) d o') :
  D7 w0 g0 h0 (A1 h d o') (g.upd d x n t none (g.more w.heap.size m)) (w1.alloc (.cells vs E (0,0))) /\
   Le h g w (A1 h d o') (g.upd d x n t none (g.more w.heap.size m)) (w1.alloc (.cells vs E (0,0))):=by
 refine hI.upd d o' x n t _ _ _ none ⟨L4.2.1,L4.2.2.1,L4.2.2.2,by rw[World.size_alloc,L4.1];omega⟩ (fun k hk _=>?_) (fun b e=>by cases e) (fun _ _ h=>.inl h) (fun b o hb=>?_) (fun b o e=>by cases e)
  (fun b _ e=>by cases e) DH (fun hu=>absurd hd hu) Kn
 .rw[heap_alloc_old _ _ (by rw[L4.1];exact hk),L4.1]
 .rcases hb with hb | ⟨rfl,_⟩
  .exact .inl hb
  .exact .inr ⟨by rw[World.size_alloc,L4.1];omega,.inl (Ak _)⟩
end
theorem BJ(g:Gh)(r:Nat)(x:Value)(n:Nat)(t:Bool)(o:Option Nat)(S:Nat->Nat->Prop) :
  (g.upd r x n t o S).ρ r=x/\(g.upd r x n t o S).ln r=n/\(g.upd r x n t o S).tk r=t/\(g.upd r x n t o S).own r=o:=by simp[Gh.upd]
theorem G2(o:Obj)(hb:b=w.heap.size):(w.alloc o).heap[b]?=some o:=by subst hb;exact heap_alloc_new w o
theorem BS.cptr_row{w:World}(hb:w.heap[b]?=some (.cells vs E f))(hr:CY g w FK cs vs.toList)(hS:∀o,o<cs.length->g.S b o):BS g w U (.cptr cs) (.pointer (some ⟨b,0,none⟩)):=by
 refine .cptr U cs b 0 (fun j=>vs[j]?.getD default) (fun j av hj=>?_) (fun j av hj=>?_)
 .obtain⟨x,x1,x2,x3⟩:=hr.at hj;rw[A4]at x1;refine⟨hS _ (by rw[Bg];exact(Av.1 hj).1),?_,?_⟩
  .rw[F7 hb,Bg,x1];rfl
  .rw[x1];exact x2
 .obtain⟨x,x1,x2,x3⟩:=hr.at hj;rw[A4]at x1;rw[x1];exact x3
theorem BS.slice_off{w:World}(hb:w.heap[b]?=some (.cells vs E f))(hl:∀cs∈es,cs.length=sz)(hc:es.length<=cap)(hr:CY g w FK es.flatten ((vs.toList.drop off).take (es.length*sz)))(hS:∀o,o<es.length*sz->g.S b (off+o)):BS g w U (.slice .none es) (.slice (some ⟨b,off,none⟩) es.length cap):=by
 have key:∀(i:Nat) (cs:List AV) (j:Nat) (av:AV),es[i]?=some cs->cs[j]?=some av->∃x,vs[off+(i*sz+j)]?=some x/\x.oneCell'=true/\BS g w FK av x/\i*sz+j<es.length*sz:=by
  intro i cs j av h1 h2;have hcl:=hl cs (Aw h1);have hj:j<sz:=by rw[<-hcl];exact(Av.1 h2).1
  have hi:=(Av.1 h1).1;have Du:i*sz+j<es.length*sz:=by
   have:=A9 sz (show i+1<=es.length from hi)
   rw[Eg]at this;omega
  have hf:=FL hl h1 hj;rw[h2]at hf;obtain⟨x,x1,x2,x3⟩:=hr.at hf;rw[BW Du,D0,A4]at x1;exact⟨x,x1,x2,x3,Du⟩
 refine .slice U es b off sz cap (fun i j=>vs[off+(i*sz+j)]?.getD default) hc (fun i cs h=>hl cs (Aw h)) (fun i cs j av h1 h2=>?_) (fun i cs j av h1 h2=>?_)
 .obtain⟨x,x1,x2,x3,x4⟩:=key i cs j av h1 h2;rw[Hc];refine⟨hS _ x4,?_,?_⟩
  .rw[F7 hb,x1];rfl
  .rw[x1];exact x2
 .obtain⟨x,x1,x2,x3,x4⟩:=key i cs j av h1 h2;rw[x1];exact x3
theorem BS.slice_row{w:World}(hb:w.heap[b]?=some (.cells vs E f))(hl:∀cs∈es,cs.length=sz)(hc:es.length<=cap)(hr:CY g w FK es.flatten (vs.toList.take (es.length*sz)))(hS:∀o,o<es.length*sz->g.S b o):BS g w U (.slice .none es) (.slice (some ⟨b,0,none⟩) es.length cap):=by
 have key:∀(i:Nat) (cs:List AV) (j:Nat) (av:AV),es[i]?=some cs->cs[j]?=some av->∃x,vs[i*sz+j]?=some x/\x.oneCell'=true/\BS g w FK av x/\i*sz+j<es.length*sz:=by
  intro i cs j av h1 h2;have hcl:=hl cs (Aw h1);have hj:j<sz:=by rw[<-hcl];exact(Av.1 h2).1
  have hi:=(Av.1 h1).1;have Du:i*sz+j<es.length*sz:=by
   have:=A9 sz (show i+1<=es.length from hi)
   rw[Eg]at this;omega
  have hf:=FL hl h1 hj;rw[h2]at hf;obtain⟨x,x1,x2,x3⟩:=hr.at hf;rw[BW Du,A4]at x1;exact⟨x,x1,x2,x3,Du⟩
 refine .slice U es b 0 sz cap (fun i j=>vs[i*sz+j]?.getD default) hc (fun i cs h=>hl cs (Aw h)) (fun i cs j av h1 h2=>?_) (fun i cs j av h1 h2=>?_)
 .obtain⟨x,x1,x2,x3,x4⟩:=key i cs j av h1 h2;rw[Bg];refine⟨hS _ x4,?_,?_⟩
  .rw[F7 hb,x1];rfl
  .rw[x1];exact x2
 .obtain⟨x,x1,x2,x3,x4⟩:=key i cs j av h1 h2;rw[x1];exact x3
section
variable {P:Program}{w0:World}{g0:Gh}{h0 h:Nat->HO}{g:Gh}{w:World}
theorem Ta(hI:D7 w0 g0 h0 h g w){d:Nat}(hd:h d=.free)(E:TypeId)(hr:CY g w (AQ h) cs vs.toList) :
  ∃g',D7 w0 g0 h0 (A1 h d (.cells cs)) g' (w.alloc (.cells vs E (0,0)))/\Le h g w (A1 h d (.cells cs)) g' (w.alloc (.cells vs E (0,0))) /\
   BS g' (w.alloc (.cells vs E (0,0))) (AQ (A1 h d (.cells cs))) (.ref d 0) (.pointer (some ⟨w.heap.size,0,none⟩)):=by
 obtain⟨k1,k2⟩:=hI.newOwn hd (.cells cs) (.cells vs E (0,0)) (.pointer (some ⟨w.heap.size,0,none⟩)) 0 false w ⟨rfl,rfl,rfl,rfl⟩ B0 (fun hg hk=>by
  obtain⟨u1,u2,u3,u4⟩:=BJ g d (.pointer (some ⟨w.heap.size,0,none⟩)) 0 false (some w.heap.size) g.S;exact⟨u3,w.heap.size,E,vs,u4,u1,G2 w _ rfl,hr.mono hk (fun i hi=>Ee B0 i hi) hg,fun o ho=>by have:=hI.slt _ _ ho;omega⟩)
 refine⟨_,k1,k2,.ref _ d 0 w.heap.size (by unfold AQ;rw[Bl];simp) ?_ ?_⟩
 .simp[Gh.upd]
 .simp[Gh.upd]
theorem nu(hI:D7 w0 g0 h0 h g w){d:Nat}(hd:h d=.free)(E:TypeId)(hr:CY g w FK cs vs.toList) :
  ∃g',D7 w0 g0 h0 (A1 h d (.ro cs)) g' (w.alloc (.cells vs E (0,0)))/\Le h g w (A1 h d (.ro cs)) g' (w.alloc (.cells vs E (0,0))) /\
   BS g' (w.alloc (.cells vs E (0,0))) (AQ (A1 h d (.ro cs))) (.ref d 0) (.pointer (some ⟨w.heap.size,0,none⟩)):=by
 obtain⟨k1,k2⟩:=hI.newStable hd (.ro cs) vs E cs.length (.pointer (some ⟨w.heap.size,0,none⟩)) 0 false w ⟨rfl,rfl,rfl,rfl⟩ B0 (fun hg hk=>by
  obtain⟨u1,u2,u3,u4⟩:=BJ g d (.pointer (some ⟨w.heap.size,0,none⟩)) 0 false none (g.more w.heap.size cs.length);exact⟨u3,w.heap.size,u1,BS.cptr_row (G2 w _ rfl) (hr.mono hk (fun _ h=>h) (fun _ h=>h.elim)) (fun o ho=>.inr ⟨rfl,ho⟩)⟩)
 refine⟨_,k1,k2,.ref _ d 0 w.heap.size (by unfold AQ;rw[Bl];simp) ?_ ?_⟩
 .simp[Gh.upd]
 .simp[Gh.upd]
theorem KZ(hI:D7 w0 g0 h0 h g w){d:Option Nat}{sz:Nat}(hk:E7 cx d h sz es K){cap:Nat}(E:TypeId)(hl:∀cs∈es,cs.length=sz)(hc:es.length<=cap)(hs:vs.size=cap*sz)(hr:CY g w FK es.flatten (vs.toList.take (es.length*sz)))(w1:World)(L4:w1.heap=w.heap/\w1.os=w.os/\w1.tape=w.tape/\w1.output=w.output) :
  ∃g' av h',K av h'/\D7 w0 g0 h0 h' g' (w1.alloc (.cells vs E (0,0)))/\Le h g w h' g' (w1.alloc (.cells vs E (0,0))) /\
   BS g' (w1.alloc (.cells vs E (0,0))) (AQ h') av (.slice (some ⟨w.heap.size,0,none⟩) es.length cap):=by
 have EY:(w1.alloc (.cells vs E (0,0))).heap[w.heap.size]?=some (.cells vs E (0,0)):=G2 w1 _ (by rw[L4.1]);unfold E7 at hk;split at hk
 .exact hk.elim
 .rename_i d;generalize KJ cx d=d1 at hk;split at hk
  .rename_i hd;split at hk
   .obtain⟨k1,k2⟩:=hI.newOwn hd (.arr sz es) (.cells vs E (0,0)) (.slice (some ⟨w.heap.size,0,none⟩) es.length cap) es.length true w1 L4 B0 (fun hg IM=>by
     obtain⟨u1,u2,u3,u4⟩:=BJ g d1 (.slice (some ⟨w.heap.size,0,none⟩) es.length cap) es.length true (some w.heap.size) g.S;exact⟨u3,u2,hl,.inr ⟨w.heap.size,cap,E,vs,u1,u4,hc,EY,hs,hr.mono IM (fun _ h=>h) (fun _ h=>h.elim),fun o ho=>by have:=hI.slt _ _ ho;omega⟩⟩)
    refine⟨_,_,_,hk,k1,k2,.msl _ d1 es.length _ cap (by unfold AQ;rw[Bl];simp) ?_ ?_ (.inr ⟨_,rfl⟩) ?_⟩<;>simp[Gh.upd]
   .by_cases aR:es.length=cap
    .obtain⟨k1,k2⟩:=hI.newStable hd (.tok sz es.length) vs E (es.length*sz) (.slice (some ⟨w.heap.size,0,none⟩) es.length cap) es.length true w1 L4 B0 (fun hg IM=>by
      obtain⟨u1,u2,u3,u4⟩:=BJ g d1 (.slice (some ⟨w.heap.size,0,none⟩) es.length cap) es.length true none (g.more w.heap.size (es.length*sz));exact⟨u3,u2,_,cap,u1,.inl ⟨aR,u4⟩⟩)
     refine⟨_,_,_,hk,k1,k2,.tok _ d1 sz es _ (BS.slice_row EY hl hc (hr.mono k2.keeps (fun _ h=>h) (fun _ h=>h.elim)) (fun o ho=>.inr ⟨rfl,ho⟩)) hl (by unfold AQ;rw[Bl];simp) ?_ ?_ ?_⟩<;>simp[Gh.upd]
    .have sF:=hI.upd d1 (.tok sz es.length) (.slice (some ⟨w.heap.size,0,none⟩) es.length cap) es.length true (some w.heap.size) (g.more w.heap.size (es.length*sz)) (w1.alloc (.cells vs E (0,0))) none
      ⟨L4.2.1,L4.2.2.1,L4.2.2.2,by rw[World.size_alloc,L4.1];omega⟩ (fun k hk' _=>by rw[heap_alloc_old _ _ (by rw[L4.1];exact hk'),L4.1]) (fun b e=>by cases e) (fun _ _ h=>.inl h)
      (fun b o hb=>by
       rcases hb with hb | ⟨rfl,_⟩
       .exact .inl hb
       .exact .inr ⟨by rw[World.size_alloc,L4.1];omega,.inl (Ak _)⟩) (fun b o e=>by cases e)
      (fun b _ e=>by cases e;rw[World.size_alloc,L4.1];exact⟨by omega,.inr (Ak _)⟩) B0 (fun hu=>absurd hd hu) (fun hg IM=>by
       obtain⟨u1,u2,u3,u4⟩:=BJ g d1 (.slice (some ⟨w.heap.size,0,none⟩) es.length cap) es.length true (some w.heap.size) (g.more w.heap.size (es.length*sz));exact⟨u3,u2,_,cap,u1,.inr ⟨hc,w.heap.size,E,vs,0,rfl,u4,.of EY,by rw[hs,Bg],fun o ho=>by
        rcases ho with ho | ⟨_,ho⟩
        .have:=hI.slt _ _ ho;omega
        .omega⟩⟩)
     obtain⟨k1,k2⟩:=sF;refine⟨_,_,_,hk,k1,k2,.tok _ d1 sz es _ (BS.slice_row EY hl hc (hr.mono k2.keeps (fun _ h=>h) (fun _ h=>h.elim)) (fun o ho=>.inr ⟨rfl,ho⟩)) hl (by unfold AQ;rw[Bl];simp) ?_ ?_ ?_⟩<;>simp[Gh.upd]
  .exact hk.elim
end
theorem N4{α:Type}:∀(cs:List α) (o:Nat) (vs:List α),o+vs.length<=cs.length->over cs o vs=cs.take o++vs++cs.drop (o+vs.length)
 | [],o,vs,h=>by
  simp at h;obtain⟨rfl,rfl⟩:=h
  rfl
 |c::cs,o+1,vs,h=>by
  rw[over,N4 cs o vs (by simp at h;omega)];simp only[JQ,Hx,BA,Nat.add_right_comm o 1,List.drop_succ_cons]
 |c::cs,0,[],h=>by simp[over]
 |c::cs,0,v::vs,h=>by
  rw[over,N4 cs 0 vs (by simp at h;omega)];simp
theorem XQ(cs:List α)(o n:Nat)(vs:List α)(h:o+vs.length<=n)(hn:n<=cs.length):(over cs o vs).take n=over (cs.take n) o vs:=by
 apply Dx;intro i;rw[Gb _ _ _ _ (by simp;omega)]
 by_cases hi:i<n
 .rw[BW hi,Gb _ _ _ _ ch,BW hi]
 .rw[Aj ch,A7 (by rw[Au,Gc];omega),A7 (by simp;omega)]
theorem Ng{n:Nat}:∀{es:List (List α)},(∀c∈es,c.length=n)->∀{i:Nat} {c:List α},es[i]?=some c->∀(o:Nat) (vs:List α),o+vs.length<=n ->
  (es.set i (over c o vs)).flatten=over es.flatten (i*n+o) vs
 | [],_,i,c,h,_,_,_=>by simp at h
 |d::es,hl,i,c,h,o,vs,Ij=>by
  have hd:=hl d (Ab ..);have hfl:=DA (es:=d::es) (n:=n) hl;have Du:=(Av.1 h).1;have yH:i*n+o+vs.length<=(d::es).flatten.length:=by
   rw[hfl]
   have:=A9 n (show i+1<=(d::es).length from Du)
   rw[Eg]at this;omega
  have hcl:=hl c (Aw h);apply Dx;intro j;rw[Gb _ _ _ _ yH];have O0:∀e∈(d::es).set i (over c o vs),e.length=n:=fun e he=>by
   rcases Fv he with he | rfl
   .exact hl e he
   .rw[Gc];exact hcl
  by_cases hn:n=0
  .subst hn;have h1:=DA O0;have h2:=hfl;simp only[Nat.mul_zero,FV]at h1 h2;rw[h1,h2]
   have:¬(i*0+o<=j/\j<i*0+o+vs.length):=by omega
   rw[Aj this]
  .have wU:j=j / n*n+j % n:=by rw[Nat.mul_comm];exact(WT j n).symm
   have aU:j % n<n:=Nat.mod_lt _ ch
   by_cases hj:j / n<(d::es).length
   .have g1:(d::es)[j / n]?=some ((d::es)[j / n]):=Az hj;have g2:((d::es).set i (over c o vs))[j / n]?=some (if i=j / n then over c o vs else(d::es)[j / n]):=by
     rw[List.getElem?_set]
     by_cases e:i=j / n
     .rw[Al e,Al ch,Al e]
     .rw[Aj e,Aj e];exact g1
    have f1:=FL hl g1 aU;have f2:=FL O0 g2 aU;rw[<-wU]at f1 f2;rw[f1,f2];split
    .rename_i e;rw[e]at h;rw[g1]at h;cases h;rw[Gb _ _ _ _ ch];have e2:i*n+o<=j↔o<=j % n:=by rw[e];omega
     have e3:j<i*n+o+vs.length↔j % n<o+vs.length:=by rw[e];omega
     simp only[e2,e3];split
     .congr 1;rw[e];omega
     .rfl
    .rename_i e
     have:¬(i*n+o<=j/\j<i*n+o+vs.length):=by
      rintro⟨q1,q2⟩
      apply e;have a1:i*n<=j:=by omega
      have a2:j<(i+1)*n:=by rw[Eg];omega
      have:=(Nat.le_div_iff_mul_le ch).2 a1
      have:=(ME ch).2 a2
      omega
     rw[Aj this]
   .have wW:(d::es).length*n<=j:=by
     have:=Nat.not_lt.1 hj
     have:=(Nat.le_div_iff_mul_le ch).1 this
     exact this
    have:¬(i*n+o<=j/\j<i*n+o+vs.length):=by rw[hfl]at yH;omega
    rw[Aj this,A7 (by rw[DA O0,Dk];exact wW),A7 (by rw[hfl];exact wW)]
theorem QV{P:Program}(hT:CI P T)(w:World){t:Nat}{x:Value}(hd:(T t).d≠.other)(hs:x.cells.toList.length=(T t).size)(h1:∀v∈x.cells.toList,v.oneCell'=true)(hb:w.heap[b]?=some (.cells EN E (0,0)))(Ij:off+x.cells.toList.length<=EN.size) :
  (Instr.storeAt t (.pointer (some ⟨b,off,none⟩)) x).run P w=.ok () (w.setRow b (over EN.toList off x.cells.toList).toArray):=by
 have KL:=run_storeCells_at P b off E x.cells.toList 0 EN w hb (by simpa using Ij) h1;simp only[Gi]at KL;have ZE : x.cells.size=(T t).size:=by simpa using hs
 rw[N4 _ _ _ (by simpa using Ij)];simp only[Instr.storeAt,Sem.run_bind,Instr.sureAddr,Sem.run_pure,Result.andThen_ok,storeVar,hT.size w hd,ZE,XM,not_true_eq_false,GB];exact KL
section
variable {P:Program}{w0:World}{g0:Gh}{h0 h:Nat->HO}{g:Gh}{w:World}(hI:D7 w0 g0 h0 h g w)
include hI
theorem ie(hT:CI P T){d:Option Nat}{e:Nat}(hk:Uh T d h e K):OM P w0 g0 h0 h g w (Instr.alloc e true (.tuple #[])) K:=by
 unfold Uh at hk;split at hk
 .exact hk.elim
 .split at hk
  .rename_i hd;split at hk
   .exact hk.elim
   .rename_i DH;split at hk
    .rename_i ha;obtain⟨z,z1,z2,_⟩:=Rh hT (w:=w) DH;have hr:CY g w (AQ h) ((T e).zc.map .v) z.cells.toList:=by rw[z2]at ha⊢;exact CY.vals ha
     obtain⟨g',k1,k2,k3⟩:=Ta hI hd (vs:=z.cells) e hr;refine⟨_,_,g',_,_,?_,hk,k1,k2,k3⟩;simp[Instr.alloc,z1,newVar,newRow]
    .exact hk.elim
  .exact hk.elim
theorem Rb{vs:List Value}(hr:CY g w (AQ h) cs vs):CY g w FK (cs.map (str h)) vs:=by
 refine⟨by rw[A8];exact hr.1,hr.2.1,fun i av x h1 h2=>?_⟩;rw[AG,AS]at h1;obtain⟨a,a1,rfl⟩:=h1;exact(hr.2.2 i a x a1 h2).str hI.objs
theorem p5{d:Option Nat}{e:Nat}{x:AV}(hx:BS g w (AQ h) x vx)(hk:iw cx d h e x K):OM P w0 g0 h0 h g w (Instr.box e vx) K:=by
 unfold iw at hk;split at hk
 .exact hk.elim
 .split at hk
  .rename_i hd;split at hk
   .exact hk.elim
   .obtain⟨cs,hk,hn,hr⟩:=NO hx hk;split at hk
    .obtain⟨g',k1,k2,k3⟩:=nu hI hd (vs:=vx.cells) e (Rb hI hr);exact⟨_,_,g',_,_,rfl,hk,k1,k2,k3⟩
    .obtain⟨g',k1,k2,k3⟩:=Ta hI hd (vs:=vx.cells) e hr;exact⟨_,_,g',_,_,rfl,hk,k1,k2,k3⟩
  .exact hk.elim
theorem D7.write{r b:Nat}(hl:(h r).live)(ho:g.own r=some b)(o' : HO)(hb:w.heap[b]?=some (.cells EN E (0,0)))(new:Array Value)(n:Nat)(ow:Option Nat)(S' : Nat->Nat->Prop)(DH:o'≠.free)(hn:n=g.ln r)(yM:∀b',ow=some b'->b'=b)(hS:∀b o,g.S b o->S' b o)(hSn:∀b' o,S' b' o->g.S b' o\/b'=b)(yE:∀o,g.S b o->new[o]?=EN[o]?)(Kn:K9 g (g.upd r (g.ρ r) n (g.tk r) ow S') (AQ h)->ET g w (g.upd r (g.ρ r) n (g.tk r) ow S') (w.setRow b new)->(w.setRow b new).heap[b]?=some (.cells new E (0,0)) ->
   EC (g.upd r (g.ρ r) n (g.tk r) ow S') (w.setRow b new) (AQ (A1 h r o')) r o') :
  D7 w0 g0 h0 (A1 h r o') (g.upd r (g.ρ r) n (g.tk r) ow S') (w.setRow b new)/\Le h g w (A1 h r o') (g.upd r (g.ρ r) n (g.tk r) ow S') (w.setRow b new):=by
 have EY:=setRow_heap w b EN new E (0,0) hb;have Du:=(hI.loc r b hl ho).1
 refine hI.upd r o' _ _ _ _ _ _ (some b) ⟨rfl,rfl,rfl,by rw[size_setRow];exact Ak _⟩ (fun k hk DH=>setRow_other w b k new (fun e=>DH (by rw[e]))) (fun b' e=>by cases e;exact⟨hl,ho⟩) hS (fun b' o hs=>?_)
  (fun b' o e hs=>?_) (fun b' _ e=>?_) DH (fun _=>⟨rfl,by omega,fun _=>rfl,fun _=>rfl⟩) (fun hg hk=>Kn hg hk EY)
 .rcases hSn b' o hs with h1 | rfl
  .exact .inl h1
  .exact .inr ⟨by rw[size_setRow];exact Du,.inr ⟨hl,ho⟩⟩
 .cases e
  refine⟨?_,fun es ck he=>by rw[hb]at he;cases he⟩;rw[F7 EY,F7 hb];exact yE o hs
 .obtain rfl:=yM b' e;exact⟨by rw[size_setRow];exact Du,.inl ⟨hl,ho⟩⟩
theorem kk(hT:CI P cx.T){t:Nat}{p x:AV}{vp:Value}(hp:BS g w (AQ h) p vp)(hx:BS g w (AQ h) x vx)(hk:Pr cx h t p x K) :
  kT P w0 g0 h0 h g w (Instr.storeAt t vp vx) K:=by
 unfold Pr at hk;split at hk
 .exact hk.elim
 .rename_i hd;have h5:=NO hx hk
  clear hk
  obtain⟨vs,hk,hn,hr⟩:=h5;have CQ:vx.cells.toList.length=vs.length:=hr.1;split at hk
  .rename_i r off;have ho:=hI.objs r;split at hk
   .rename_i cs e;obtain⟨Ij,hk⟩:=hk;rw[e]at ho;obtain⟨t0,b,E,EN,a1,a2,a3,a4,a5⟩:=ho;cases hp with
    |ref _ _ _ b' hu ht sO=>
     rw[a2]at sO;cases sO;have hcs:EN.toList.length=cs.length:=a4.1;have C3:=QV hT w (t:=t) (off:=off) (x:=vx) hd (by rw[CQ,hn]) hr.2.1 a3 (by rw[CQ];simp at hcs;omega);have hl:(h r).live:=by rw[e];trivial
     have uJ:=a4.over hr off Ij;split at hk
     .obtain⟨k1,k2⟩:=hI.write hl a1 (.ro ((over cs off vs).map (str h))) a3 (over EN.toList off vx.cells.toList).toArray (g.ln r) none (g.more b cs.length) B0 rfl (fun _ e=>by cases e) (fun _ _ h=>.inl h)
       (fun b' o hs=>hs.elim .inl (fun hs=>.inr hs.1)) (fun o hs=>absurd hs (a5 o)) (fun hg IM EY=>by
        obtain⟨u1,u2,u3,u4⟩:=BJ g r (g.ρ r) (g.ln r) (g.tk r) none (g.more b cs.length);refine⟨u3.trans t0,b,u1.trans a2,BS.cptr_row EY ?_ (fun o ho=>.inr ⟨rfl,?_⟩)⟩
        .exact(Rb hI uJ).mono IM (fun _ h=>h) (fun _ h=>h.elim)
        .rw[A8,Gc]at ho;exact ho)
      exact⟨_,_,_,C3,hk,k1,k2⟩
     .obtain⟨k1,k2⟩:=hI.write hl a1 (.cells (over cs off vs)) a3 (over EN.toList off vx.cells.toList).toArray (g.ln r) (g.own r) g.S B0 rfl (fun b' e=>by rw[a1]at e;cases e;rfl) (fun _ _ h=>h)
       (fun b' o hs=>.inl hs) (fun o hs=>absurd hs (a5 o)) (fun hg IM EY=>by
        obtain⟨u1,u2,u3,u4⟩:=BJ g r (g.ρ r) (g.ln r) (g.tk r) (g.own r) g.S;exact⟨u3.trans t0,b,E,_,u4.trans a1,u1.trans a2,EY,uJ.mono IM (fun i hi=>Ee B0 i hi) hg,a5⟩)
      exact⟨_,_,_,C3,hk,k1,k2⟩
   .exact hk.elim
  .rename_i r n sz i off;have ho:=hI.objs r;split at hk
   .rename_i Hb es e;rw[e]at ho;split at hk
    .rename_i hz;obtain rfl:=AL hz;obtain⟨hnl,cs,hi,Ij,hk⟩:=hk;obtain⟨t1,l1,al,a1⟩:=ho;have Du:=(Av.1 hi).1;rcases a1 with ⟨rfl,_⟩ | ⟨b,cap,E,EN,e1,e2,e3,e4,e5,e6,e7⟩
     .simp at hi
     .cases hp with
      |eref _ _ _ _ _ _ b' Mb hu ht aV sO=>
       have sO:=sO (hnl.trans l1.symm);rw[e1]at sO;simp only[Value.slice.injEq,BB,Addr.mk.injEq]at sO;obtain⟨⟨rfl,_,_⟩,_,_⟩:=sO;have hcl:=al cs (Aw hi);have U5:i*sz+sz<=es.length*sz:=by
        have:=A9 sz (show i+1<=es.length from Du)
        rwa [Eg]at this
       have mE:es.length*sz<=cap*sz:=A9 sz e3;have C3:=QV hT w (t:=t) (off:=i*sz+off) (x:=vx) hd (by rw[CQ,hn]) hr.2.1 e4 (by rw[CQ];omega);have hl:(h r).live:=by rw[e];trivial
       have yb : ∀c∈es.set i (over cs off (vs.map (str h))),c.length=sz:=fun c hc=>by
        rcases Fv hc with hc | rfl
        .exact al c hc
        .rw[Gc];exact hcl
       have hfl:=Ng al hi off (vs.map (str h)) (by rw[A8];exact Ij);have aP:EN.toList.length=cap*sz:=by rw[Br];exact e5
       have y8:((over EN.toList (i*sz+off) vx.cells.toList).toArray.toList.take ((es.set i (over cs off (vs.map (str h)))).length*sz))=over (EN.toList.take (es.length*sz)) (i*sz+off) vx.cells.toList:=by
        rw[Dk];exact XQ _ _ _ _ (by rw[CQ];omega) (by rw[aP];exact mE)
       have uJ:CY g w FK (es.set i (over cs off (vs.map (str h)))).flatten ((over EN.toList (i*sz+off) vx.cells.toList).toArray.toList.take ((es.set i (over cs off (vs.map (str h)))).length*sz)):=by
        rw[y8,hfl];exact e6.over (Rb hI hr) _ (by rw[A8,DA al];omega)
       split at hk
       .rename_i j m;have jf:∃x0,vx.cells.toList=[x0]:=by
         revert CQ
         cases vx.cells.toList with
         |nil=>intro CQ;cases CQ
         |cons x0 l=>cases l with
          |nil=>intro _;exact⟨x0,rfl⟩
          |cons _ _=>intro CQ;simp at CQ
        obtain⟨x0,jf⟩:=jf;have EE:=hr.2.2 0 (.msl j m) x0 rfl (by rw[jf];rfl)
        obtain⟨k1,k2⟩:=hI.write hl e2 (.hol sz (es.set i (over cs off [.junk])) i off (.msl j m)) e4 (over EN.toList (i*sz+off) vx.cells.toList).toArray (g.ln r) (g.own r) g.S B0 rfl (fun b' e=>by rw[e2]at e;cases e;rfl) (fun _ _ h=>h)
         (fun b' o hs=>.inl hs) (fun o hs=>absurd hs (e7 o)) (fun hg IM EY=>by
          obtain⟨u1,u2,u3,u4⟩:=BJ g r (g.ρ r) (g.ln r) (g.tk r) (g.own r) g.S;have uF:i*sz+off<es.length*sz:=by simp only[Ag,Ao]at Ij;omega
          refine⟨u3.trans t1,u2.trans (by rw[Dk];exact l1),yb,b,cap,E,_,?_,u4.trans e2,by rw[Dk];exact e3,EY,?_,uJ.mono IM (fun _ h=>h) (fun _ h=>h.elim),e7,by rw[Dk];exact uF,x0,?_,EE.mono IM (fun i hi=>Ee B0 i hi) hg⟩
          .rw[u1,e1,Dk]
          .simp only[DV,Gc,Br];exact e5
          .rw[<-A4,jf,Gb _ _ _ _ (by rw[aP];simp only[Ag,Ao];omega),Al ⟨Ak _,by simp only[Ag,Ao];omega⟩,Ff];rfl)
        exact⟨_,_,_,C3,hk,k1,k2⟩
       .obtain⟨k1,k2⟩:=hI.write hl e2 (.arr sz (es.set i (over cs off (vs.map (str h))))) e4 (over EN.toList (i*sz+off) vx.cells.toList).toArray (g.ln r) (g.own r) g.S B0 rfl (fun b' e=>by rw[e2]at e;cases e;rfl) (fun _ _ h=>h)
         (fun b' o hs=>.inl hs) (fun o hs=>absurd hs (e7 o)) (fun hg IM EY=>by
          obtain⟨u1,u2,u3,u4⟩:=BJ g r (g.ρ r) (g.ln r) (g.tk r) (g.own r) g.S;refine⟨u3.trans t1,u2.trans (by rw[Dk];exact l1),yb,.inr ⟨b,cap,E,_,?_,u4.trans e2,by rw[Dk];exact e3,EY,?_,uJ.mono IM (fun _ h=>h) (fun _ h=>h.elim),e7⟩⟩
          .rw[u1,e1,Dk]
          .simp only[DV,Gc,Br];exact e5)
        exact⟨_,_,_,C3,hk,k1,k2⟩
    .exact hk.elim
   .exact hk.elim
  .exact hk.elim
end
theorem jM(c vs:List α)(h:vs.length=c.length):over c 0 vs=vs:=by
 rw[N4 _ _ _ ch];simp[h]
theorem IF[Inhabited α](z:List α)(hz:z≠[]):(List.replicate n z).flatten=(List.range (n*z.length)).map fun k=>z[k % z.length]!:=by
 have hl:∀c∈List.replicate n z,c.length=z.length:=fun c hc=>by rw[Ct hc]
 have dH:0<z.length:=Hu.2 hz;apply Dx;intro k
 by_cases hk:k<n*z.length
 .have wU:k=k / z.length*z.length+k % z.length:=by rw[Nat.mul_comm];exact(WT k _).symm
  have aU:k % z.length<z.length:=Nat.mod_lt _ dH;have hi:k / z.length<n:=(ME dH).2 hk;have f1:=FL hl (i:=k / z.length) (c:=z) (by rw[List.getElem?_replicate,Al hi]) aU;rw[<-wU]at f1;rw[f1];simp[hk,aU]
 .rw[A7 (by rw[DA hl,BQ];omega),A7 (by simp;omega)]
section
variable {P:Program}{w0:World}{g0:Gh}{h0 h:Nat->HO}{g:Gh}{w:World}(hI:D7 w0 g0 h0 h g w)
include hI
theorem aD{n sz:Nat}{t:Nat->AV}{ρ:Operand->Value}(ht:∀x:Operand,BS g w (AQ h) (ev t x) (ρ x)) :
  ∀{ps:List (Nat×Operand)} {es:List (List AV)} {xs:Array Value} {K:List (List AV)->Prop},es.length=n->(∀c∈es,c.length=sz)->CY g w FK es.flatten xs.toList->SE n sz h es t ps K ->
   ∃F5 Ye,K F5/\F5.length=n/\(∀c∈F5,c.length=sz)/\CY g w FK F5.flatten Ye.toList/\Instr.fill (fun i=>some (i*sz,sz)) xs (ps.map fun(i,x)=>(i,ρ x))=some Ye
 | [],es,xs,K,hn,hl,h,hk=>⟨es,xs,hk,hn,hl,h,rfl⟩
 |(i,x)::ps,es,xs,K,hn,hl,h,hk=>by
  unfold SE at hk;split at hk
  .rename_i hi;have hi:i<n:=GG hi;have h5:=NO (ht x) hk
   clear hk
   obtain⟨Wu,hk,uH,hr⟩:=h5;have EZ:(ρ x).cells.size=sz:=by rw[<-uH];simpa using hr.1
   have SN:=Rb hI hr;obtain⟨c,hc⟩:∃c,es[i]?=some c:=⟨_,Az ch⟩;have hcl:=hl c (Aw hc);have Ij:i*sz+sz<=es.flatten.length:=by
    rw[DA hl,hn]
    have:=A9 sz (show i+1<=n from hi)
    rwa [Eg]at this
   have hfl:=Ng hl hc 0 (Wu.map (str ‹Nat->HO›)) (by rw[A8,uH];omega);rw[jM _ _ (by rw[A8,uH,hcl]),Gi]at hfl;have EY:=h.over SN (i*sz) (by rw[A8,uH];exact Ij);have pE:xs.size=es.flatten.length:=by have:=h.1;rwa [Br]at this
   have e:=OZ (ρ x).cells.toList 0 (i*sz) xs (by rw[Br];omega);simp only[Gi]at e;rw[<-e,<-hfl]at EY;obtain⟨F5,Ye,k1,k2,k3,k4,k5⟩:=aD ht (es:=es.set i (Wu.map (str _))) (by rw[Dk];exact hn) (fun c' uw=>by
    rcases Fv uw with uw | rfl
    .exact hl c' uw
    .rw[A8];exact uH) EY hk
   refine⟨F5,Ye,k1,k2,k3,k4,?_⟩;simp only[AK,Instr.fill];have e2:(ρ x).cells.zipIdx.foldl (fun cs (c,j)=>cs.setIfInBounds (i*sz+j) c) xs=((ρ x).cells.toList.zipIdx 0).foldl (fun(cs:Array Value) (p:Value×Nat)=>cs.setIfInBounds (i*sz+p.2) p.1) xs:=by
    rw[<-Array.foldl_toList];simp
   rw[Aj (by simp[EZ];omega),e2];exact k5
  .exact hk.elim
theorem Us(hT:CI P cx.T){d:Option Nat}{ty n:Nat}{t:Nat->AV}{ρ:Operand->Value}(ht:∀x:Operand,BS g w (AQ h) (ev t x) (ρ x)){ps:Array (Nat×Operand)}(hk:Jg cx d h ty n t ps.toList K):OM P w0 g0 h0 h g w (Instr.buildSlice ty n (ps.map fun(i,x)=>(i,ρ x))) K:=by
 unfold Jg at hk;split at hk
 .rename_i e hs;split at hk
  .rename_i Qt Oe;have Oe:=AL Oe;split at hk
   .exact hk.elim
   .rename_i m hm;split at hk
    .rename_i Ij;have Ij:=GG Ij;have uT:(cx.T e).zc≠[]:=fun e0=>by rw[e0]at Oe;rw[hm]at Oe;cases Oe
     have hlr:∀c∈List.replicate n ((cx.T e).zc.map AV.v),c.length=(cx.T e).size:=fun c hc=>by rw[Ct hc,A8];exact Oe
     have yy:CY g w FK (List.replicate n ((cx.T e).zc.map AV.v)).flatten ((Array.range (n*(cx.T e).size)).map fun k=>(cx.T e).zc.toArray[k % (cx.T e).zc.toArray.size]!).toList:=by
      have e1:((Array.range (n*(cx.T e).size)).map fun k=>(cx.T e).zc.toArray[k % (cx.T e).zc.toArray.size]!).toList=(List.replicate n (cx.T e).zc).flatten:=by
       rw[IF n _ uT];simp[Oe]
      have e2:(List.replicate n ((cx.T e).zc.map AV.v)).flatten=(List.replicate n (cx.T e).zc).flatten.map AV.v:=by
       rw[T9,List.map_replicate]
      rw[e1,e2];refine CY.vals ?_;have GL:∀l:List AV,(∀a∈l,one a=true)->Hp l=true:=by
       intro l
       induction l with
       |nil=>intro _;rfl
       |cons a l ih=>intro h;simp[Hp,h a (List.mem_cons_self ..),ih (fun b hb=>h b (List.mem_cons_of_mem _ hb))]
      refine GL _ (fun a ha=>?_);obtain⟨x,hx,rfl⟩:=Ai.1 ha;obtain⟨l,hl,hx⟩:=D8.1 hx;rw[Ct hl]at hx;exact NI Qt _ (Ai.2 ⟨x,hx,rfl⟩)
     obtain⟨F5,Ye,k1,k2,k3,k4,k5⟩:=aD hI ht (by rw[BQ]) hlr yy hk;have pE:Ye.size=n*(cx.T e).size:=by
      have:=k4.1
      rw[Br,DA k3,k2]at this;exact this
     obtain⟨g',av,h',q1,q2,q3,q4⟩:=KZ hI k1 (vs:=Ye) (cap:=n) e k3 ch pE (by
      rw[k2,At (by rw[Br,pE];exact Ak _)];exact k4) w ⟨rfl,rfl,rfl,rfl⟩
     rw[k2]at q4;refine⟨_,_,g',av,h',?_,q1,q2,q3,q4⟩;obtain⟨z,z1,z2⟩:=Yg hT (w:=w) hm;have EZ:=hT.size1 w hm;have e3:(Array.map (fun x:Nat×Operand=>match x with | (i,x)=>(i,ρ x)) ps).toList=ps.toList.map fun(i,x)=>(i,ρ x):=by simp
     have Ad0:¬(n*(m+1)>2 ^ 24):=by rw[hm]at Ij;have Ij:n*(m+1)<=16777216:=Ij;omega
     simp only[Instr.buildSlice,Sem.run_bind,run_underlying (hT.slice hs),Result.andThen_ok,EZ,Aj Ad0];rw[e3];rw[hm]at k5
     by_cases h0:n*(m+1)=0
     .have hn0:n=0:=by
       rcases Nat.mul_eq_zero.1 h0 with h | h
       .exact h
       .cases h
      subst hn0;have er:Array.range 0=#[]:=rfl;simp only[Lz,er,List.map_toArray,Fe]at k5;simp only[Lz,SP,er,List.map_toArray,Fe,k5];simp[newRow]
     .rw[z2]at k5;simp only[Array.toArray_toList]at k5;simp only[Aj h0,Sem.run_bind,z1,Result.andThen_ok,Sem.run_pure,k5];simp[newRow]
    .exact hk.elim
  .exact hk.elim
 .exact hk.elim
end
theorem Gn{sz:Nat}:∀{es:List (List AV)},B5 sz es->∀c∈es,c.length=sz
 | [],_,c,h=>by cases h
 |d::es,h,c,hc=>by
  rcases AA.1 hc with rfl | hc
  .exact h.1
  .exact Gn h.2 c hc
def PG(x:Value)(n sz:Nat)(news:List Value):Prop:=
 news.length=n*sz/\(∀v∈news,v.oneCell'=true)/\∃(a:Option Addr) (c:Nat),x=.slice a n c/\(n=0\/∃b:Addr,a=some b/\∀j u,news[j]?=some u->w.cell? (b.add j)=some u)
theorem PG.of_rep{w:World}{x:Value}(h:BS g w U (.slice .none es) x)(hl:∀c∈es,c.length=sz) :
  ∃news,PG w x es.length sz news/\CY g w FK es.flatten news:=by
 cases h with
 |snil _ a cap=>exact⟨[],⟨by simp,by simp,a,cap,rfl,.inl rfl⟩,by simp,by simp,fun i av x h1 h2=>by simp at h2⟩
 |slice _ _ b off Hb cap val hc RD DY EE=>
  have hf:=DA hl;have key:∀j,j<es.length*sz->∃cs,es[j / sz]?=some cs/\es.flatten[j]?=cs[j % sz]?/\j % sz<cs.length/\Hb=sz/\j=j / sz*sz+j % sz:=by
   intro j hj;have dH:0<sz:=Nat.pos_of_ne_zero (fun e=>by rw[e]at hj;omega);have wU:j=j / sz*sz+j % sz:=by rw[Nat.mul_comm];exact(WT j sz).symm
   have hi:j / sz<es.length:=(ME dH).2 hj;have aU:j % sz<sz:=Nat.mod_lt _ dH;have h1:es[j / sz]?=some es[j / sz]:=Az hi;have h2:=FL hl h1 aU;rw[<-wU]at h2;have h3:=hl _ (Aq hi);exact⟨_,h1,h2,by rw[h3];exact aU,by rw[<-h3];exact(RD _ _ h1).symm,wU⟩
  have YZ:∀j,j<es.length*sz->∃av,es.flatten[j]?=some av/\w.cell? ⟨b,off+j,none⟩=some (val (j / sz) (j % sz))/\(val (j / sz) (j % sz)).oneCell'=true/\BS g w FK av (val (j / sz) (j % sz)):=by
   intro j hj;obtain⟨cs,k1,k2,k3,rfl,k5⟩:=key j hj;have mw:cs[j % Hb]?=some cs[j % Hb]:=Az k3;obtain⟨_,c2,c3⟩:=DY _ _ _ _ k1 mw;rw[Hc,<-k5]at c2;exact⟨_,k2.trans mw,c2,c3,EE _ _ _ _ k1 mw⟩
  refine⟨(List.range (es.length*sz)).map fun j=>val (j / sz) (j % sz),⟨by simp,fun v hv=>?_,some ⟨b,off,none⟩,cap,rfl,.inr ⟨_,rfl,fun j u hu=>?_⟩⟩,by rw[hf];simp,fun v hv=>?_,fun i av x h1 h2=>?_⟩
  .obtain⟨j,hj,rfl⟩:=Ai.1 hv;obtain⟨_,_,_,c,_⟩:=YZ j (Gy.1 hj);exact c
  .obtain⟨hj,rfl⟩:=HI hu;rw[Addr.add_lit];exact(YZ j hj).choose_spec.2.1
  .obtain⟨j,hj,rfl⟩:=Ai.1 hv;obtain⟨_,_,_,c,_⟩:=YZ j (Gy.1 hj);exact c
  .obtain⟨hj,rfl⟩:=HI h2;obtain⟨xl,c1,_,_,c4⟩:=YZ i hj;rw[h1]at c1;cases c1;exact c4
section
variable {P:Program}{T:Ha}(hT:CI P T)
include hT
theorem Iq{n:Nat}(hs:(T e).size=n+1):∃i z,P.info? e=some i/\i.zero=some z/\i.size=(T e).size/\i.bytes=(T e).bytes/\(T e).zc=z.cells.toList:=by
 rcases hT e with h | h
 .rw[h]at hs;cases hs
 unfold kw at h;split at h
 .split at h
  .rename_i d i h1 h2 _ z h3;exact⟨i,z,h2,h3,by rw[h],by rw[h],by rw[TI.zc_cells,h]⟩
  .rw[h]at hs;cases hs
 .rw[h]at hs;cases hs
theorem JC(w:World){t ty k:Nat}(ht:(T t).d=.slice e)(hk:(T e).size=k+1)(a a' : Option Addr)(n cap c:Nat)(hc:n<=cap) :
  (Builtin.append_ #[t,t] ty #[.slice a n cap,.slice a' 0 c]).run P w=.ok (.slice a n cap) w:=by
 have hu:=hT.slice ht;cases a<;>cases a'<;>simp[Builtin.append_,run_underlying hu,hT.size1 w hk,Builtin.lenOf,hc,Builtin.firstCells,loadCells,loadCellsFrom,storeCells]
theorem IH(w:World){t ty k:Nat}(ht:(T t).d=.slice e)(hk:(T e).size=k+1)(hz:(T e).zc.length=(T e).size){s x:Value}{n m c:Nat}{olds news:List Value}{a a' : Option Addr}(hso:PG w s n (T e).size olds)(hs:s=.slice a n cap)(Mm:a=none->cap=0)(pD:PG w x m (T e).size news)(hx:x=.slice a' m c)(hm:0<m)(hg:cap<n+m)(hb:(n+m)*(T e).bytes<=140737488355328)(h63:n+m<=9223372036854775807) :
  ∃nc rest,(Builtin.append_ #[t,t] ty #[s,x]).run P w=.ok (.slice (some ⟨w.heap.size,0,none⟩) (n+m) nc) (w.drew.alloc (.cells (olds++news++rest).toArray e (0,0)))/\n+m<=nc /\
   (olds++news++rest).length=nc*(T e).size:=by
 obtain⟨i,z,i1,i2,i3,i4,i5⟩:=Iq hT hk;have hu:=hT.slice ht;obtain⟨n1,n2,a1,c1,n3,n4⟩:=pD;subst hx;cases n3;rcases n4 with h | ⟨b,rfl,JI⟩
 .omega
 .have Oe:z.cells.size=(T e).size:=by rw[<-hz,i5];simp
  have sK:∀(nc:Nat) (pre:List Value),pre.length=(n+m)*(T e).size->n+m<=nc->(pre++(Builtin.zeroCells z.cells (nc-(n+m))).toList).length=nc*(T e).size:=by
   intro nc pre hp Ij;have e1:(Builtin.zeroCells z.cells (nc-(n+m))).toList.length=(nc-(n+m))*(T e).size:=by simp only[Br,size_zeroCells,Oe]
   rw[Ac,e1,hp,<-EU]
   congr 1;omega
  obtain⟨o1,o2,a2,c2,o3,o4⟩:=hso;subst hs;cases o3;cases a with
  |none=>
   obtain rfl:=Mm rfl;have hn0:n=0:=by
    rcases o4 with h | ⟨b',h,_⟩
    .exact h
    .cases h
   subst hn0;have ho:olds=[]:=AP (by simpa using o1);subst ho;have hr:=run_append_nil (P:=P) w t ty e i z hu i1 i2 b m c news (by rw[i3];exact n1) JI hm ch (by rw[i4];rw[Bg]at hb;omega);refine⟨grownCap w m 0 e,(Builtin.zeroCells z.cells (grownCap w m 0 e-m)).toList,?_,by rw[Bg];exact grownCap_ge w m 0 e,?_⟩
   .rw[hr,Bg]
    congr 3
    apply KE;simp
   .have:=sK (grownCap w m 0 e) news (by rw[Bg];exact n1) (by rw[Bg];exact grownCap_ge w m 0 e)
    rw[Bg]at this;simpa using this
  |some b'=>
   have Hm:∀j u,olds[j]?=some u->w.cell? (b'.add j)=some u:=by
    rcases o4 with h | ⟨b2,h,h'⟩
    .intro j u hj;rw[h,Lz]at o1
     have:olds=[]:=AP o1
     rw[this]at hj;simp at hj
    .cases h;exact h'
   have hr:=run_append_grow (P:=P) w t ty e i z hu i1 i2 b' n cap olds (by rw[i3];exact o1) Hm b m c news (by rw[i3];exact n1) JI hg ch (by rw[i4];exact growslice_fits hg hb);refine⟨grownCap w (n+m) cap e,(Builtin.zeroCells z.cells (grownCap w (n+m) cap e-(n+m))).toList,?_,grownCap_ge w (n+m) cap e,sK _ _ (by rw[Ac,o1,n1,<-EU]) (grownCap_ge w (n+m) cap e)⟩;rw[hr]
   congr 3
   apply KE;simp
end
end Go.Eng
