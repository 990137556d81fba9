/- Lemmas for the claims of this seat, without a condition: part 8 (EngN, EngO, EngP, EngQ). -/
import Derived.Test.YteaiieomnhbmgaaGreatDoorA07
namespace Go.Eng
variable {vs:Array Value}{es:List (List AV)}{U:Nat->Prop}{E:TypeId}{cs:List AV}{f:Nat×Nat}{K:HK}{b:Nat}{α:Type}{EC:Array Value}{g:Gh}{cx:Cx}{sz cap e:Nat}{vx:Value}{off:Nat}{T:GU}(P:Program)(w0:World)(g0:Gh)(n:Nat)(h0 h:Nat->HO)(w:World)
def Og(g:Gh)(w:World)(m:Sem Value)(K:HK):Prop :=
 ∃x w' g' av h',m.run P w=.ok x w'/\K av h'/\DX w0 g0 h0 h' g' w'/\Le h g w h' g' w'/\BM g' w' (AQ h') av x
def jR(g:Gh)(w:World)(m:Sem Unit)(K:HK):Prop :=
 ∃w' g' h',m.run P w=.ok () w'/\K (.v undef) h'/\DX w0 g0 h0 h' g' w'/\Le h g w h' g' w'
section
variable {P:Program}{w0:World}{g0:Gh}{h0 h:Nat->HO}{g:Gh}{w:World}(hI:DX w0 g0 h0 h g w)
include hI
theorem BO.does{m:Sem Value}(hg:BO P h g w m (fun v=>K v h)):Og P w0 g0 h0 h g w m K :=
 let ⟨x,av,h1,h2,h3⟩:=hg
 ⟨x,w,g,av,h,h1,h2,hI,.refl _ _ _,h3⟩
theorem DX.newOwn{d:Nat}(hd:h d=.free)(o' : HO)(ob:Obj)(x:Value)(n:Nat)(t:Bool)(w1:World)(LG:w1.heap=w.heap/\w1.os=w.os/\w1.tape=w.tape/\w1.output=w.output)(Dy:o'≠.free)
  (J6:KN g (g.upd d x n t (some w.heap.size) g.S) (AQ h)->EH g w (g.upd d x n t (some w.heap.size) g.S) (w1.alloc ob) ->
   Ep (g.upd d x n t (some w.heap.size) g.S) (w1.alloc ob) (AQ (A0 h d o')) d o') :
  DX w0 g0 h0 (A0 h d o') (g.upd d x n t (some w.heap.size) g.S) (w1.alloc ob)/\Le h g w (A0 h d o') (g.upd d x n t (some w.heap.size) g.S) (w1.alloc ob):=by
 refine hI.upd d o' x n t _ _ _ none ⟨LG.2.1,LG.2.2.1,LG.2.2.2,by rw[World.size_alloc,LG.1];omega⟩ (fun k hk _=>?_) (fun b e=>by cases e) (fun _ _ h=>h) (fun _ _ h=>.inl h) (fun b o e=>by cases e)
  (fun b _ e=>?_) Dy (fun hu=>absurd hd hu) J6
 .rw[heap_alloc_old _ _ (by rw[LG.1];exact hk),LG.1]
 .cases e;rw[World.size_alloc,LG.1];exact⟨by omega,.inr (Aj _)⟩
def Gh.more(g:Gh)(b n:Nat):Nat->Nat->Prop:=fun b' o=>g.S b' o\/(b'=b/\o<n)
theorem DX.newStable{d:Nat}(hd:h d=.free)(o' : HO)(vs:Array Value)(E:TypeId)(m:Nat)(x:Value)(n:Nat)(t:Bool)(w1:World)(LG:w1.heap=w.heap/\w1.os=w.os/\w1.tape=w.tape/\w1.output=w.output)(Dy:o'≠.free)
  (J6:KN g (g.upd d x n t none (g.more w.heap.size m)) (AQ h)->EH g w (g.upd d x n t none (g.more w.heap.size m)) (w1.alloc (.cells vs E (0,0))) ->
   Ep (g.upd d x n t none (g.more w.heap.size m)) (w1.alloc (.cells vs E (0,0))) (AQ (A0 h d o')) d o') :
  DX w0 g0 h0 (A0 h d o') (g.upd d x n t none (g.more w.heap.size m)) (w1.alloc (.cells vs E (0,0))) /\
   Le h g w (A0 h d o') (g.upd d x n t none (g.more w.heap.size m)) (w1.alloc (.cells vs E (0,0))):=by
 refine hI.upd d o' x n t _ _ _ none ⟨LG.2.1,LG.2.2.1,LG.2.2.2,by rw[World.size_alloc,LG.1];omega⟩ (fun k hk _=>?_) (fun b e=>by cases e) (fun _ _ h=>.inl h) (fun b o hb=>?_) (fun b o e=>by cases e)
  (fun b _ e=>by cases e) Dy (fun hu=>absurd hd hu) J6
 .rw[heap_alloc_old _ _ (by rw[LG.1];exact hk),LG.1]
 .rcases hb with hb | ⟨rfl,_⟩
  .exact .inl hb
  .exact .inr ⟨by rw[World.size_alloc,LG.1];omega,.inl (Aj _)⟩
end
theorem BG(g:Gh)(r:Nat)(x:Value)(n:Nat)(t:Bool)(o:Option Nat)(S:Nat->Nat->Prop) :
  (g.upd r x n t o S).ρ r=x/\(g.upd r x n t o S).ln r=n/\(g.upd r x n t o S).tk r=t/\(g.upd r x n t o S).own r=o:=by simp[Gh.upd]
theorem GL(o:Obj)(hb:b=w.heap.size):(w.alloc o).heap[b]?=some o:=by subst hb;exact heap_alloc_new w o
theorem BM.cptr_row{w:World}(hb:w.heap[b]?=some (.cells vs E f))(hr:CO g w Fw cs vs.toList)(hS:∀o,o<cs.length->g.S b o):BM g w U (.cptr cs) (.pointer (some ⟨b,0,none⟩)):=by
 refine .cptr U cs b 0 (fun j=>vs[j]?.getD default) (fun j av hj=>?_) (fun j av hj=>?_)
 .obtain⟨x,x1,x2,x3⟩:=hr.at hj;rw[A3]at x1;refine⟨hS _ (by rw[Bf];exact(Au.1 hj).1),?_,?_⟩
  .rw[FR hb,Bf,x1];rfl
  .rw[x1];exact x2
 .obtain⟨x,x1,x2,x3⟩:=hr.at hj;rw[A3]at x1;rw[x1];exact x3
theorem BM.slice_off{w:World}(hb:w.heap[b]?=some (.cells vs E f))(hl:∀cs∈es,cs.length=sz)(hc:es.length<=cap)(hr:CO g w Fw es.flatten ((vs.toList.drop off).take (es.length*sz)))(hS:∀o,o<es.length*sz->g.S b (off+o)):BM g w U (.slice .none es) (.slice (some ⟨b,off,none⟩) es.length cap):=by
 have key:∀(i:Nat) (cs:List AV) (j:Nat) (av:AV),es[i]?=some cs->cs[j]?=some av->∃x,vs[off+(i*sz+j)]?=some x/\x.oneCell'=true/\BM g w Fw av x/\i*sz+j<es.length*sz:=by
  intro i cs j av h1 h2;have hcl:=hl cs (Aw h1);have hj:j<sz:=by rw[<-hcl];exact(Au.1 h2).1
  have hi:=(Au.1 h1).1;have Dz:i*sz+j<es.length*sz:=by
   have:=Bg sz (show i+1<=es.length from hi)
   rw[D5]at this;omega
  have hf:=Fx hl h1 hj;rw[h2]at hf;obtain⟨x,x1,x2,x3⟩:=hr.at hf;rw[BR Dz,DP,A3]at x1;exact⟨x,x1,x2,x3,Dz⟩
 refine .slice U es b off sz cap (fun i j=>vs[off+(i*sz+j)]?.getD default) hc (fun i cs h=>hl cs (Aw h)) (fun i cs j av h1 h2=>?_) (fun i cs j av h1 h2=>?_)
 .obtain⟨x,x1,x2,x3,x4⟩:=key i cs j av h1 h2;rw[GW];refine⟨hS _ x4,?_,?_⟩
  .rw[FR hb,x1];rfl
  .rw[x1];exact x2
 .obtain⟨x,x1,x2,x3,x4⟩:=key i cs j av h1 h2;rw[x1];exact x3
theorem BM.slice_row{w:World}(hb:w.heap[b]?=some (.cells vs E f))(hl:∀cs∈es,cs.length=sz)(hc:es.length<=cap)(hr:CO g w Fw es.flatten (vs.toList.take (es.length*sz)))(hS:∀o,o<es.length*sz->g.S b o):BM g w U (.slice .none es) (.slice (some ⟨b,0,none⟩) es.length cap):=by
 have key:∀(i:Nat) (cs:List AV) (j:Nat) (av:AV),es[i]?=some cs->cs[j]?=some av->∃x,vs[i*sz+j]?=some x/\x.oneCell'=true/\BM g w Fw av x/\i*sz+j<es.length*sz:=by
  intro i cs j av h1 h2;have hcl:=hl cs (Aw h1);have hj:j<sz:=by rw[<-hcl];exact(Au.1 h2).1
  have hi:=(Au.1 h1).1;have Dz:i*sz+j<es.length*sz:=by
   have:=Bg sz (show i+1<=es.length from hi)
   rw[D5]at this;omega
  have hf:=Fx hl h1 hj;rw[h2]at hf;obtain⟨x,x1,x2,x3⟩:=hr.at hf;rw[BR Dz,A3]at x1;exact⟨x,x1,x2,x3,Dz⟩
 refine .slice U es b 0 sz cap (fun i j=>vs[i*sz+j]?.getD default) hc (fun i cs h=>hl cs (Aw h)) (fun i cs j av h1 h2=>?_) (fun i cs j av h1 h2=>?_)
 .obtain⟨x,x1,x2,x3,x4⟩:=key i cs j av h1 h2;rw[Bf];refine⟨hS _ x4,?_,?_⟩
  .rw[FR hb,x1];rfl
  .rw[x1];exact x2
 .obtain⟨x,x1,x2,x3,x4⟩:=key i cs j av h1 h2;rw[x1];exact x3
section
variable {P:Program}{w0:World}{g0:Gh}{h0 h:Nat->HO}{g:Gh}{w:World}
theorem So(hI:DX w0 g0 h0 h g w){d:Nat}(hd:h d=.free)(E:TypeId)(hr:CO g w (AQ h) cs vs.toList) :
  ∃g',DX w0 g0 h0 (A0 h d (.cells cs)) g' (w.alloc (.cells vs E (0,0)))/\Le h g w (A0 h d (.cells cs)) g' (w.alloc (.cells vs E (0,0))) /\
   BM g' (w.alloc (.cells vs E (0,0))) (AQ (A0 h d (.cells cs))) (.ref d 0) (.pointer (some ⟨w.heap.size,0,none⟩)):=by
 obtain⟨k1,k2⟩:=hI.newOwn hd (.cells cs) (.cells vs E (0,0)) (.pointer (some ⟨w.heap.size,0,none⟩)) 0 false w ⟨rfl,rfl,rfl,rfl⟩ B0 (fun hg hk=>by
  obtain⟨u1,u2,u3,u4⟩:=BG g d (.pointer (some ⟨w.heap.size,0,none⟩)) 0 false (some w.heap.size) g.S;exact⟨u3,w.heap.size,E,vs,u4,u1,GL w _ rfl,hr.mono hk (fun i hi=>D3 B0 i hi) hg,fun o ho=>by have:=hI.slt _ _ ho;omega⟩)
 refine⟨_,k1,k2,.ref _ d 0 w.heap.size (by unfold AQ;rw[Bj];simp) ?_ ?_⟩
 .simp[Gh.upd]
 .simp[Gh.upd]
theorem mj(hI:DX w0 g0 h0 h g w){d:Nat}(hd:h d=.free)(E:TypeId)(hr:CO g w Fw cs vs.toList) :
  ∃g',DX w0 g0 h0 (A0 h d (.ro cs)) g' (w.alloc (.cells vs E (0,0)))/\Le h g w (A0 h d (.ro cs)) g' (w.alloc (.cells vs E (0,0))) /\
   BM g' (w.alloc (.cells vs E (0,0))) (AQ (A0 h d (.ro cs))) (.ref d 0) (.pointer (some ⟨w.heap.size,0,none⟩)):=by
 obtain⟨k1,k2⟩:=hI.newStable hd (.ro cs) vs E cs.length (.pointer (some ⟨w.heap.size,0,none⟩)) 0 false w ⟨rfl,rfl,rfl,rfl⟩ B0 (fun hg hk=>by
  obtain⟨u1,u2,u3,u4⟩:=BG g d (.pointer (some ⟨w.heap.size,0,none⟩)) 0 false none (g.more w.heap.size cs.length);exact⟨u3,w.heap.size,u1,BM.cptr_row (GL w _ rfl) (hr.mono hk (fun _ h=>h) (fun _ h=>h.elim)) (fun o ho=>.inr ⟨rfl,ho⟩)⟩)
 refine⟨_,k1,k2,.ref _ d 0 w.heap.size (by unfold AQ;rw[Bj];simp) ?_ ?_⟩
 .simp[Gh.upd]
 .simp[Gh.upd]
theorem KH(hI:DX w0 g0 h0 h g w){d:Option Nat}{sz:Nat}(hk:ET cx d h sz es K){cap:Nat}(E:TypeId)(hl:∀cs∈es,cs.length=sz)(hc:es.length<=cap)(hs:vs.size=cap*sz)(hr:CO g w Fw es.flatten (vs.toList.take (es.length*sz)))(w1:World)(LG:w1.heap=w.heap/\w1.os=w.os/\w1.tape=w.tape/\w1.output=w.output) :
  ∃g' av h',K av h'/\DX w0 g0 h0 h' g' (w1.alloc (.cells vs E (0,0)))/\Le h g w h' g' (w1.alloc (.cells vs E (0,0))) /\
   BM g' (w1.alloc (.cells vs E (0,0))) (AQ h') av (.slice (some ⟨w.heap.size,0,none⟩) es.length cap):=by
 have EL:(w1.alloc (.cells vs E (0,0))).heap[w.heap.size]?=some (.cells vs E (0,0)):=GL w1 _ (by rw[LG.1]);unfold ET at hk;split at hk
 .exact hk.elim
 .rename_i d;generalize Ks cx d=d1 at hk;split at hk
  .rename_i hd;split at hk
   .obtain⟨k1,k2⟩:=hI.newOwn hd (.arr sz es) (.cells vs E (0,0)) (.slice (some ⟨w.heap.size,0,none⟩) es.length cap) es.length true w1 LG B0 (fun hg Ix=>by
     obtain⟨u1,u2,u3,u4⟩:=BG g d1 (.slice (some ⟨w.heap.size,0,none⟩) es.length cap) es.length true (some w.heap.size) g.S;exact⟨u3,u2,hl,.inr ⟨w.heap.size,cap,E,vs,u1,u4,hc,EL,hs,hr.mono Ix (fun _ h=>h) (fun _ h=>h.elim),fun o ho=>by have:=hI.slt _ _ ho;omega⟩⟩)
    refine⟨_,_,_,hk,k1,k2,.msl _ d1 es.length _ cap (by unfold AQ;rw[Bj];simp) ?_ ?_ (.inr ⟨_,rfl⟩) ?_⟩<;>simp[Gh.upd]
   .by_cases ZV:es.length=cap
    .obtain⟨k1,k2⟩:=hI.newStable hd (.tok sz es.length) vs E (es.length*sz) (.slice (some ⟨w.heap.size,0,none⟩) es.length cap) es.length true w1 LG B0 (fun hg Ix=>by
      obtain⟨u1,u2,u3,u4⟩:=BG g d1 (.slice (some ⟨w.heap.size,0,none⟩) es.length cap) es.length true none (g.more w.heap.size (es.length*sz));exact⟨u3,u2,_,cap,u1,.inl ⟨ZV,u4⟩⟩)
     refine⟨_,_,_,hk,k1,k2,.tok _ d1 sz es _ (BM.slice_row EL hl hc (hr.mono k2.keeps (fun _ h=>h) (fun _ h=>h.elim)) (fun o ho=>.inr ⟨rfl,ho⟩)) hl (by unfold AQ;rw[Bj];simp) ?_ ?_ ?_⟩<;>simp[Gh.upd]
    .have rt:=hI.upd d1 (.tok sz es.length) (.slice (some ⟨w.heap.size,0,none⟩) es.length cap) es.length true (some w.heap.size) (g.more w.heap.size (es.length*sz)) (w1.alloc (.cells vs E (0,0))) none
      ⟨LG.2.1,LG.2.2.1,LG.2.2.2,by rw[World.size_alloc,LG.1];omega⟩ (fun k hk' _=>by rw[heap_alloc_old _ _ (by rw[LG.1];exact hk'),LG.1]) (fun b e=>by cases e) (fun _ _ h=>.inl h)
      (fun b o hb=>by
       rcases hb with hb | ⟨rfl,_⟩
       .exact .inl hb
       .exact .inr ⟨by rw[World.size_alloc,LG.1];omega,.inl (Aj _)⟩) (fun b o e=>by cases e)
      (fun b _ e=>by cases e;rw[World.size_alloc,LG.1];exact⟨by omega,.inr (Aj _)⟩) B0 (fun hu=>absurd hd hu) (fun hg Ix=>by
       obtain⟨u1,u2,u3,u4⟩:=BG g d1 (.slice (some ⟨w.heap.size,0,none⟩) es.length cap) es.length true (some w.heap.size) (g.more w.heap.size (es.length*sz));exact⟨u3,u2,_,cap,u1,.inr ⟨hc,w.heap.size,E,vs,0,rfl,u4,.of EL,by rw[hs,Bf],fun o ho=>by
        rcases ho with ho | ⟨_,ho⟩
        .have:=hI.slt _ _ ho;omega
        .omega⟩⟩)
     obtain⟨k1,k2⟩:=rt;refine⟨_,_,_,hk,k1,k2,.tok _ d1 sz es _ (BM.slice_row EL hl hc (hr.mono k2.keeps (fun _ h=>h) (fun _ h=>h.elim)) (fun o ho=>.inr ⟨rfl,ho⟩)) hl (by unfold AQ;rw[Bj];simp) ?_ ?_ ?_⟩<;>simp[Gh.upd]
  .exact hk.elim
end
theorem NG{α:Type}:∀(cs:List α) (o:Nat) (vs:List α),o+vs.length<=cs.length->over cs o vs=cs.take o++vs++cs.drop (o+vs.length)
 | [],o,vs,h=>by
  simp at h;obtain⟨rfl,rfl⟩:=h
  rfl
 |c::cs,o+1,vs,h=>by
  rw[over,NG cs o vs (by simp at h;omega)];simp only[Jz,Hi,BA,Nat.add_right_comm o 1,List.drop_succ_cons]
 |c::cs,0,[],h=>by simp[over]
 |c::cs,0,v::vs,h=>by
  rw[over,NG cs 0 vs (by simp at h;omega)];simp
theorem Xc(cs:List α)(o n:Nat)(vs:List α)(h:o+vs.length<=n)(hn:n<=cs.length):(over cs o vs).take n=over (cs.take n) o vs:=by
 apply Do;intro i;rw[FX _ _ _ _ (by simp;omega)]
 by_cases hi:i<n
 .rw[BR hi,FX _ _ _ _ ch,BR hi]
 .rw[Ai ch,A6 (by rw[Av,FY];omega),A6 (by simp;omega)]
theorem MQ{n:Nat}:∀{es:List (List α)},(∀c∈es,c.length=n)->∀{i:Nat} {c:List α},es[i]?=some c->∀(o:Nat) (vs:List α),o+vs.length<=n ->
  (es.set i (over c o vs)).flatten=over es.flatten (i*n+o) vs
 | [],_,i,c,h,_,_,_=>by simp at h
 |d::es,hl,i,c,h,o,vs,H2=>by
  have hd:=hl d (Ab ..);have hfl:=Dr (es:=d::es) (n:=n) hl;have Dz:=(Au.1 h).1;have xp:i*n+o+vs.length<=(d::es).flatten.length:=by
   rw[hfl]
   have:=Bg n (show i+1<=(d::es).length from Dz)
   rw[D5]at this;omega
  have hcl:=hl c (Aw h);apply Do;intro j;rw[FX _ _ _ _ xp];have Ow:∀e∈(d::es).set i (over c o vs),e.length=n:=fun e he=>by
   rcases Ff he with he | rfl
   .exact hl e he
   .rw[FY];exact hcl
  by_cases hn:n=0
  .subst hn;have h1:=Dr Ow;have h2:=hfl;simp only[Nat.mul_zero,FF]at h1 h2;rw[h1,h2]
   have:¬(i*0+o<=j/\j<i*0+o+vs.length):=by omega
   rw[Ai this]
  .have vC:j=j / n*n+j % n:=by rw[Nat.mul_comm];exact(Wb j n).symm
   have ZY:j % n<n:=Nat.mod_lt _ ch
   by_cases hj:j / n<(d::es).length
   .have g1:(d::es)[j / n]?=some ((d::es)[j / n]):=Ay hj;have g2:((d::es).set i (over c o vs))[j / n]?=some (if i=j / n then over c o vs else(d::es)[j / n]):=by
     rw[List.getElem?_set]
     by_cases e:i=j / n
     .rw[Al e,Al ch,Al e]
     .rw[Ai e,Ai e];exact g1
    have f1:=Fx hl g1 ZY;have f2:=Fx Ow g2 ZY;rw[<-vC]at f1 f2;rw[f1,f2];split
    .rename_i e;rw[e]at h;rw[g1]at h;cases h;rw[FX _ _ _ _ ch];have e2:i*n+o<=j↔o<=j % n:=by rw[e];omega
     have e3:j<i*n+o+vs.length↔j % n<o+vs.length:=by rw[e];omega
     simp only[e2,e3];split
     .congr 1;rw[e];omega
     .rfl
    .rename_i e
     have:¬(i*n+o<=j/\j<i*n+o+vs.length):=by
      rintro⟨q1,q2⟩
      apply e;have a1:i*n<=j:=by omega
      have a2:j<(i+1)*n:=by rw[D5];omega
      have:=(Nat.le_div_iff_mul_le ch).2 a1
      have:=(Mf ch).2 a2
      omega
     rw[Ai this]
   .have vE:(d::es).length*n<=j:=by
     have:=Nat.not_lt.1 hj
     have:=(Nat.le_div_iff_mul_le ch).1 this
     exact this
    have:¬(i*n+o<=j/\j<i*n+o+vs.length):=by rw[hfl]at xp;omega
    rw[Ai this,A6 (by rw[Dr Ow,Dd];exact vE),A6 (by rw[hfl];exact vE)]
theorem Qm{P:Program}(hT:CF P T)(w:World){t:Nat}{x:Value}(hd:(T t).d≠.other)(hs:x.cells.toList.length=(T t).size)(h1:∀v∈x.cells.toList,v.oneCell'=true)(hb:w.heap[b]?=some (.cells EC E (0,0)))(H2:off+x.cells.toList.length<=EC.size) :
  (Instr.storeAt t (.pointer (some ⟨b,off,none⟩)) x).run P w=.ok () (w.setRow b (over EC.toList off x.cells.toList).toArray):=by
 have Ku:=run_storeCells_at P b off E x.cells.toList 0 EC w hb (by simpa using H2) h1;simp only[H1]at Ku;have YY : x.cells.size=(T t).size:=by simpa using hs
 rw[NG _ _ _ (by simpa using H2)];simp only[Instr.storeAt,Sem.run_bind,Instr.sureAddr,Sem.run_pure,Result.andThen_ok,storeVar,hT.size w hd,YY,WY,not_true_eq_false,Gl];exact Ku
section
variable {P:Program}{w0:World}{g0:Gh}{h0 h:Nat->HO}{g:Gh}{w:World}(hI:DX w0 g0 h0 h g w)
include hI
theorem gn(hT:CF P T){d:Option Nat}{e:Nat}(hk:TJ T d h e K):Og P w0 g0 h0 h g w (Instr.alloc e true (.tuple #[])) K:=by
 unfold TJ at hk;split at hk
 .exact hk.elim
 .split at hk
  .rename_i hd;split at hk
   .exact hk.elim
   .rename_i Dy;split at hk
    .rename_i ha;obtain⟨z,z1,z2,_⟩:=Qz hT (w:=w) Dy;have hr:CO g w (AQ h) ((T e).zc.map .v) z.cells.toList:=by rw[z2]at ha⊢;exact CO.vals ha
     obtain⟨g',k1,k2,k3⟩:=So hI hd (vs:=z.cells) e hr;refine⟨_,_,g',_,_,?_,hk,k1,k2,k3⟩;simp[Instr.alloc,z1,newVar,newRow]
    .exact hk.elim
  .exact hk.elim
theorem Qt{vs:List Value}(hr:CO g w (AQ h) cs vs):CO g w Fw (cs.map (str h)) vs:=by
 refine⟨by rw[A8];exact hr.1,hr.2.1,fun i av x h1 h2=>?_⟩;rw[AG,AS]at h1;obtain⟨a,a1,rfl⟩:=h1;exact(hr.2.2 i a x a1 h2).str hI.objs
theorem oR{d:Option Nat}{e:Nat}{x:AV}(hx:BM g w (AQ h) x vx)(hk:gA cx d h e x K):Og P w0 g0 h0 h g w (Instr.box e vx) K:=by
 unfold gA at hk;split at hk
 .exact hk.elim
 .split at hk
  .rename_i hd;split at hk
   .exact hk.elim
   .obtain⟨cs,hk,hn,hr⟩:=No hx hk;split at hk
    .obtain⟨g',k1,k2,k3⟩:=mj hI hd (vs:=vx.cells) e (Qt hI hr);exact⟨_,_,g',_,_,rfl,hk,k1,k2,k3⟩
    .obtain⟨g',k1,k2,k3⟩:=So hI hd (vs:=vx.cells) e hr;exact⟨_,_,g',_,_,rfl,hk,k1,k2,k3⟩
  .exact hk.elim
theorem DX.write{r b:Nat}(hl:(h r).live)(ho:g.own r=some b)(o' : HO)(hb:w.heap[b]?=some (.cells EC E (0,0)))(new:Array Value)(n:Nat)(ow:Option Nat)(S' : Nat->Nat->Prop)(Dy:o'≠.free)(hn:n=g.ln r)(xw:∀b',ow=some b'->b'=b)(hS:∀b o,g.S b o->S' b o)(zx:∀b' o,S' b' o->g.S b' o\/b'=b)(xm:∀o,g.S b o->new[o]?=EC[o]?)(J6:KN g (g.upd r (g.ρ r) n (g.tk r) ow S') (AQ h)->EH g w (g.upd r (g.ρ r) n (g.tk r) ow S') (w.setRow b new)->(w.setRow b new).heap[b]?=some (.cells new E (0,0)) ->
   Ep (g.upd r (g.ρ r) n (g.tk r) ow S') (w.setRow b new) (AQ (A0 h r o')) r o') :
  DX w0 g0 h0 (A0 h r o') (g.upd r (g.ρ r) n (g.tk r) ow S') (w.setRow b new)/\Le h g w (A0 h r o') (g.upd r (g.ρ r) n (g.tk r) ow S') (w.setRow b new):=by
 have EL:=setRow_heap w b EC new E (0,0) hb;have Dz:=(hI.loc r b hl ho).1
 refine hI.upd r o' _ _ _ _ _ _ (some b) ⟨rfl,rfl,rfl,by rw[size_setRow];exact Aj _⟩ (fun k hk Dy=>setRow_other w b k new (fun e=>Dy (by rw[e]))) (fun b' e=>by cases e;exact⟨hl,ho⟩) hS (fun b' o hs=>?_)
  (fun b' o e hs=>?_) (fun b' _ e=>?_) Dy (fun _=>⟨rfl,by omega,fun _=>rfl,fun _=>rfl⟩) (fun hg hk=>J6 hg hk EL)
 .rcases zx b' o hs with h1 | rfl
  .exact .inl h1
  .exact .inr ⟨by rw[size_setRow];exact Dz,.inr ⟨hl,ho⟩⟩
 .cases e
  refine⟨?_,fun es ck he=>by rw[hb]at he;cases he⟩;rw[FR EL,FR hb];exact xm o hs
 .obtain rfl:=xw b' e;exact⟨by rw[size_setRow];exact Dz,.inl ⟨hl,ho⟩⟩
theorem jv(hT:CF P cx.T){t:Nat}{p x:AV}{vp:Value}(hp:BM g w (AQ h) p vp)(hx:BM g w (AQ h) x vx)(hk:OO cx h t p x K) :
  jR P w0 g0 h0 h g w (Instr.storeAt t vp vx) K:=by
 unfold OO at hk;split at hk
 .exact hk.elim
 .rename_i hd;have h5:=No hx hk
  clear hk
  obtain⟨vs,hk,hn,hr⟩:=h5;have CL:vx.cells.toList.length=vs.length:=hr.1;split at hk
  .rename_i r off;have ho:=hI.objs r;split at hk
   .rename_i cs e;obtain⟨H2,hk⟩:=hk;rw[e]at ho;obtain⟨t0,b,E,EC,a1,a2,a3,a4,a5⟩:=ho;cases hp with
    |ref _ _ _ b' hu ht rE =>
     rw[a2]at rE;cases rE;have hcs:EC.toList.length=cs.length:=a4.1;have CP:=Qm hT w (t:=t) (off:=off) (x:=vx) hd (by rw[CL,hn]) hr.2.1 a3 (by rw[CL];simp at hcs;omega);have hl:(h r).live:=by rw[e];trivial
     have tD:=a4.over hr off H2;split at hk
     .obtain⟨k1,k2⟩:=hI.write hl a1 (.ro ((over cs off vs).map (str h))) a3 (over EC.toList off vx.cells.toList).toArray (g.ln r) none (g.more b cs.length) B0 rfl (fun _ e=>by cases e) (fun _ _ h=>.inl h)
       (fun b' o hs=>hs.elim .inl (fun hs=>.inr hs.1)) (fun o hs=>absurd hs (a5 o)) (fun hg Ix EL=>by
        obtain⟨u1,u2,u3,u4⟩:=BG g r (g.ρ r) (g.ln r) (g.tk r) none (g.more b cs.length);refine⟨u3.trans t0,b,u1.trans a2,BM.cptr_row EL ?_ (fun o ho=>.inr ⟨rfl,?_⟩)⟩
        .exact(Qt hI tD).mono Ix (fun _ h=>h) (fun _ h=>h.elim)
        .rw[A8,FY]at ho;exact ho)
      exact⟨_,_,_,CP,hk,k1,k2⟩
     .obtain⟨k1,k2⟩:=hI.write hl a1 (.cells (over cs off vs)) a3 (over EC.toList off vx.cells.toList).toArray (g.ln r) (g.own r) g.S B0 rfl (fun b' e=>by rw[a1]at e;cases e;rfl) (fun _ _ h=>h)
       (fun b' o hs=>.inl hs) (fun o hs=>absurd hs (a5 o)) (fun hg Ix EL=>by
        obtain⟨u1,u2,u3,u4⟩:=BG g r (g.ρ r) (g.ln r) (g.tk r) (g.own r) g.S;exact⟨u3.trans t0,b,E,_,u4.trans a1,u1.trans a2,EL,tD.mono Ix (fun i hi=>D3 B0 i hi) hg,a5⟩)
      exact⟨_,_,_,CP,hk,k1,k2⟩
   .exact hk.elim
  .rename_i r n sz i off;have ho:=hI.objs r;split at hk
   .rename_i GV es e;rw[e]at ho;split at hk
    .rename_i hz;obtain rfl:=AK hz;obtain⟨hnl,cs,hi,H2,hk⟩:=hk;obtain⟨t1,l1,al,a1⟩:=ho;have Dz:=(Au.1 hi).1;rcases a1 with ⟨rfl,_⟩ | ⟨b,cap,E,EC,e1,e2,e3,e4,e5,e6,e7⟩
     .simp at hi
     .cases hp with
      |eref _ _ _ _ _ _ b' LO hu ht ZZ rE =>
       have rE:=rE (hnl.trans l1.symm);rw[e1]at rE;simp only[Value.slice.injEq,Bw,Addr.mk.injEq]at rE;obtain⟨⟨rfl,_,_⟩,_,_⟩:=rE;have hcl:=al cs (Aw hi);have Uu:i*sz+sz<=es.length*sz:=by
        have:=Bg sz (show i+1<=es.length from Dz)
        rwa [D5]at this
       have lA:es.length*sz<=cap*sz:=Bg sz e3;have CP:=Qm hT w (t:=t) (off:=i*sz+off) (x:=vx) hd (by rw[CL,hn]) hr.2.1 e4 (by rw[CL];omega);have hl:(h r).live:=by rw[e];trivial
       have wU : ∀c∈es.set i (over cs off (vs.map (str h))),c.length=sz:=fun c hc=>by
        rcases Ff hc with hc | rfl
        .exact al c hc
        .rw[FY];exact hcl
       have hfl:=MQ al hi off (vs.map (str h)) (by rw[A8];exact H2);have ZT:EC.toList.length=cap*sz:=by rw[BS];exact e5
       have xL:((over EC.toList (i*sz+off) vx.cells.toList).toArray.toList.take ((es.set i (over cs off (vs.map (str h)))).length*sz))=over (EC.toList.take (es.length*sz)) (i*sz+off) vx.cells.toList:=by
        rw[Dd];exact Xc _ _ _ _ (by rw[CL];omega) (by rw[ZT];exact lA)
       have tD:CO g w Fw (es.set i (over cs off (vs.map (str h)))).flatten ((over EC.toList (i*sz+off) vx.cells.toList).toArray.toList.take ((es.set i (over cs off (vs.map (str h)))).length*sz)):=by
        rw[xL,hfl];exact e6.over (Qt hI hr) _ (by rw[A8,Dr al];omega)
       split at hk
       .rename_i j m;have ik:∃x0,vx.cells.toList=[x0]:=by
         revert CL
         cases vx.cells.toList with
         |nil=>intro CL;cases CL
         |cons x0 l=>cases l with
          |nil=>intro _;exact⟨x0,rfl⟩
          |cons _ _=>intro CL;simp at CL
        obtain⟨x0,ik⟩:=ik;have Es:=hr.2.2 0 (.msl j m) x0 rfl (by rw[ik];rfl)
        obtain⟨k1,k2⟩:=hI.write hl e2 (.hol sz (es.set i (over cs off [.junk])) i off (.msl j m)) e4 (over EC.toList (i*sz+off) vx.cells.toList).toArray (g.ln r) (g.own r) g.S B0 rfl (fun b' e=>by rw[e2]at e;cases e;rfl) (fun _ _ h=>h)
         (fun b' o hs=>.inl hs) (fun o hs=>absurd hs (e7 o)) (fun hg Ix EL=>by
          obtain⟨u1,u2,u3,u4⟩:=BG g r (g.ρ r) (g.ln r) (g.tk r) (g.own r) g.S;have tx:i*sz+off<es.length*sz:=by simp only[Ak,At]at H2;omega
          refine⟨u3.trans t1,u2.trans (by rw[Dd];exact l1),wU,b,cap,E,_,?_,u4.trans e2,by rw[Dd];exact e3,EL,?_,tD.mono Ix (fun _ h=>h) (fun _ h=>h.elim),e7,by rw[Dd];exact tx,x0,?_,Es.mono Ix (fun i hi=>D3 B0 i hi) hg⟩
          .rw[u1,e1,Dd]
          .simp only[D4,FY,BS];exact e5
          .rw[<-A3,ik,FX _ _ _ _ (by rw[ZT];simp only[Ak,At];omega),Al ⟨Aj _,by simp only[Ak,At];omega⟩,E1];rfl)
        exact⟨_,_,_,CP,hk,k1,k2⟩
       .obtain⟨k1,k2⟩:=hI.write hl e2 (.arr sz (es.set i (over cs off (vs.map (str h))))) e4 (over EC.toList (i*sz+off) vx.cells.toList).toArray (g.ln r) (g.own r) g.S B0 rfl (fun b' e=>by rw[e2]at e;cases e;rfl) (fun _ _ h=>h)
         (fun b' o hs=>.inl hs) (fun o hs=>absurd hs (e7 o)) (fun hg Ix EL=>by
          obtain⟨u1,u2,u3,u4⟩:=BG g r (g.ρ r) (g.ln r) (g.tk r) (g.own r) g.S;refine⟨u3.trans t1,u2.trans (by rw[Dd];exact l1),wU,.inr ⟨b,cap,E,_,?_,u4.trans e2,by rw[Dd];exact e3,EL,?_,tD.mono Ix (fun _ h=>h) (fun _ h=>h.elim),e7⟩⟩
          .rw[u1,e1,Dd]
          .simp only[D4,FY,BS];exact e5)
        exact⟨_,_,_,CP,hk,k1,k2⟩
    .exact hk.elim
   .exact hk.elim
  .exact hk.elim
end
theorem iW(c vs:List α)(h:vs.length=c.length):over c 0 vs=vs:=by
 rw[NG _ _ _ ch];simp[h]
theorem Iq[Inhabited α](z:List α)(hz:z≠[]):(List.replicate n z).flatten=(List.range (n*z.length)).map fun k=>z[k % z.length]!:=by
 have hl:∀c∈List.replicate n z,c.length=z.length:=fun c hc=>by rw[Cp hc]
 have cH:0<z.length:=He.2 hz;apply Do;intro k
 by_cases hk:k<n*z.length
 .have vC:k=k / z.length*z.length+k % z.length:=by rw[Nat.mul_comm];exact(Wb k _).symm
  have ZY:k % z.length<z.length:=Nat.mod_lt _ cH;have hi:k / z.length<n:=(Mf cH).2 hk;have f1:=Fx hl (i:=k / z.length) (c:=z) (by rw[List.getElem?_replicate,Al hi]) ZY;rw[<-vC]at f1;rw[f1];simp[hk,ZY]
 .rw[A6 (by rw[Dr hl,BT];omega),A6 (by simp;omega)]
section
variable {P:Program}{w0:World}{g0:Gh}{h0 h:Nat->HO}{g:Gh}{w:World}(hI:DX w0 g0 h0 h g w)
include hI
theorem ZG{n sz:Nat}{t:Nat->AV}{ρ:Operand->Value}(ht:∀x:Operand,BM g w (AQ h) (ev t x) (ρ x)) :
  ∀{ps:List (Nat×Operand)} {es:List (List AV)} {xs:Array Value} {K:List (List AV)->Prop},es.length=n->(∀c∈es,c.length=sz)->CO g w Fw es.flatten xs.toList->RR n sz h es t ps K ->
   ∃FP Xz,K FP/\FP.length=n/\(∀c∈FP,c.length=sz)/\CO g w Fw FP.flatten Xz.toList/\Instr.fill (fun i=>some (i*sz,sz)) xs (ps.map fun(i,x)=>(i,ρ x))=some Xz
 | [],es,xs,K,hn,hl,h,hk=>⟨es,xs,hk,hn,hl,h,rfl⟩
 |(i,x)::ps,es,xs,K,hn,hl,h,hk=>by
  unfold RR at hk;split at hk
  .rename_i hi;have hi:i<n:=Gq hi;have h5:=No (ht x) hk
   clear hk
   obtain⟨VG,hk,tB,hr⟩:=h5;have EM:(ρ x).cells.size=sz:=by rw[<-tB];simpa using hr.1
   have Sa:=Qt hI hr;obtain⟨c,hc⟩:∃c,es[i]?=some c:=⟨_,Ay ch⟩;have hcl:=hl c (Aw hc);have H2:i*sz+sz<=es.flatten.length:=by
    rw[Dr hl,hn]
    have:=Bg sz (show i+1<=n from hi)
    rwa [D5]at this
   have hfl:=MQ hl hc 0 (VG.map (str ‹Nat->HO›)) (by rw[A8,tB];omega);rw[iW _ _ (by rw[A8,tB,hcl]),H1]at hfl;have EL:=h.over Sa (i*sz) (by rw[A8,tB];exact H2);have ot:xs.size=es.flatten.length:=by have:=h.1;rwa [BS]at this
   have e:=Ov (ρ x).cells.toList 0 (i*sz) xs (by rw[BS];omega);simp only[H1]at e;rw[<-e,<-hfl]at EL;obtain⟨FP,Xz,k1,k2,k3,k4,k5⟩:=ZG ht (es:=es.set i (VG.map (str _))) (by rw[Dd];exact hn) (fun c' ti=>by
    rcases Ff ti with ti | rfl
    .exact hl c' ti
    .rw[A8];exact tB) EL hk
   refine⟨FP,Xz,k1,k2,k3,k4,?_⟩;simp only[AI,Instr.fill];have e2:(ρ x).cells.zipIdx.foldl (fun cs (c,j)=>cs.setIfInBounds (i*sz+j) c) xs=((ρ x).cells.toList.zipIdx 0).foldl (fun(cs:Array Value) (p:Value×Nat)=>cs.setIfInBounds (i*sz+p.2) p.1) xs:=by
    rw[<-Array.foldl_toList];simp
   rw[Ai (by simp[EM];omega),e2];exact k5
  .exact hk.elim
theorem TU(hT:CF P cx.T){d:Option Nat}{ty n:Nat}{t:Nat->AV}{ρ:Operand->Value}(ht:∀x:Operand,BM g w (AQ h) (ev t x) (ρ x)){ps:Array (Nat×Operand)}(hk:I1 cx d h ty n t ps.toList K):Og P w0 g0 h0 h g w (Instr.buildSlice ty n (ps.map fun(i,x)=>(i,ρ x))) K:=by
 unfold I1 at hk;split at hk
 .rename_i e hs;split at hk
  .rename_i PP NP;have NP:=AK NP;split at hk
   .exact hk.elim
   .rename_i m hm;split at hk
    .rename_i H2;have H2:=Gq H2;have tN:(cx.T e).zc≠[]:=fun e0=>by rw[e0]at NP;rw[hm]at NP;cases NP
     have zG:∀c∈List.replicate n ((cx.T e).zc.map AV.v),c.length=(cx.T e).size:=fun c hc=>by rw[Cp hc,A8];exact NP
     have xi:CO g w Fw (List.replicate n ((cx.T e).zc.map AV.v)).flatten ((Array.range (n*(cx.T e).size)).map fun k=>(cx.T e).zc.toArray[k % (cx.T e).zc.toArray.size]!).toList:=by
      have e1:((Array.range (n*(cx.T e).size)).map fun k=>(cx.T e).zc.toArray[k % (cx.T e).zc.toArray.size]!).toList=(List.replicate n (cx.T e).zc).flatten:=by
       rw[Iq n _ tN];simp[NP]
      have e2:(List.replicate n ((cx.T e).zc.map AV.v)).flatten=(List.replicate n (cx.T e).zc).flatten.map AV.v:=by
       rw[TA,List.map_replicate]
      rw[e1,e2];refine CO.vals ?_;have Gw:∀l:List AV,(∀a∈l,one a=true)->G9 l=true:=by
       intro l
       induction l with
       |nil=>intro _;rfl
       |cons a l ih=>intro h;simp[G9,h a (List.mem_cons_self ..),ih (fun b hb=>h b (List.mem_cons_of_mem _ hb))]
      refine Gw _ (fun a ha=>?_);obtain⟨x,hx,rfl⟩:=Ag.1 ha;obtain⟨l,hl,hx⟩:=DY.1 hx;rw[Cp hl]at hx;exact Nh PP _ (Ag.2 ⟨x,hx,rfl⟩)
     obtain⟨FP,Xz,k1,k2,k3,k4,k5⟩:=ZG hI ht (by rw[BT]) zG xi hk;have ot:Xz.size=n*(cx.T e).size:=by
      have:=k4.1
      rw[BS,Dr k3,k2]at this;exact this
     obtain⟨g',av,h',q1,q2,q3,q4⟩:=KH hI k1 (vs:=Xz) (cap:=n) e k3 ch ot (by
      rw[k2,As (by rw[BS,ot];exact Aj _)];exact k4) w ⟨rfl,rfl,rfl,rfl⟩
     rw[k2]at q4;refine⟨_,_,g',av,h',?_,q1,q2,q3,q4⟩;obtain⟨z,z1,z2⟩:=XB hT (w:=w) hm;have EM:=hT.size1 w hm;have e3:(Array.map (fun x:Nat×Operand=>match x with | (i,x)=>(i,ρ x)) ps).toList=ps.toList.map fun(i,x)=>(i,ρ x):=by simp
     have AbO:¬(n*(m+1)>2 ^ 24):=by rw[hm]at H2;have H2:n*(m+1)<=16777216:=H2;omega
     simp only[Instr.buildSlice,Sem.run_bind,run_underlying (hT.slice hs),Result.andThen_ok,EM,Ai AbO];rw[e3];rw[hm]at k5
     by_cases h0:n*(m+1)=0
     .have zK:n=0:=by
       rcases Nat.mul_eq_zero.1 h0 with h | h
       .exact h
       .cases h
      subst zK;have er:Array.range 0=#[]:=rfl;simp only[Lg,er,List.map_toArray,E0]at k5;simp only[Lg,Sc,er,List.map_toArray,E0,k5];simp[newRow]
     .rw[z2]at k5;simp only[Array.toArray_toList]at k5;simp only[Ai h0,Sem.run_bind,z1,Result.andThen_ok,Sem.run_pure,k5];simp[newRow]
    .exact hk.elim
  .exact hk.elim
 .exact hk.elim
end
theorem F6{sz:Nat}:∀{es:List (List AV)},Cn sz es->∀c∈es,c.length=sz
 | [],_,c,h=>by cases h
 |d::es,h,c,hc=>by
  rcases Az.1 hc with rfl | hc
  .exact h.1
  .exact F6 h.2 c hc
def O0(x:Value)(n sz:Nat)(news:List Value):Prop :=
 news.length=n*sz/\(∀v∈news,v.oneCell'=true)/\∃(a:Option Addr) (c:Nat),x=.slice a n c/\(n=0\/∃b:Addr,a=some b/\∀j u,news[j]?=some u->w.cell? (b.add j)=some u)
theorem O0.of_rep{w:World}{x:Value}(h:BM g w U (.slice .none es) x)(hl:∀c∈es,c.length=sz) :
  ∃news,O0 w x es.length sz news/\CO g w Fw es.flatten news:=by
 cases h with
 |snil _ a cap=>exact⟨[],⟨by simp,by simp,a,cap,rfl,.inl rfl⟩,by simp,by simp,fun i av x h1 h2=>by simp at h2⟩
 |slice _ _ b off GV cap val hc QU DN Es =>
  have hf:=Dr hl;have key:∀j,j<es.length*sz->∃cs,es[j / sz]?=some cs/\es.flatten[j]?=cs[j % sz]?/\j % sz<cs.length/\GV=sz/\j=j / sz*sz+j % sz:=by
   intro j hj;have cH:0<sz:=Nat.pos_of_ne_zero (fun e=>by rw[e]at hj;omega);have vC:j=j / sz*sz+j % sz:=by rw[Nat.mul_comm];exact(Wb j sz).symm
   have hi:j / sz<es.length:=(Mf cH).2 hj;have ZY:j % sz<sz:=Nat.mod_lt _ cH;have h1:es[j / sz]?=some es[j / sz]:=Ay hi;have h2:=Fx hl h1 ZY;rw[<-vC]at h2;have h3:=hl _ (Aq hi);exact⟨_,h1,h2,by rw[h3];exact ZY,by rw[<-h3];exact(QU _ _ h1).symm,vC⟩
  have Yl:∀j,j<es.length*sz->∃av,es.flatten[j]?=some av/\w.cell? ⟨b,off+j,none⟩=some (val (j / sz) (j % sz))/\(val (j / sz) (j % sz)).oneCell'=true/\BM g w Fw av (val (j / sz) (j % sz)):=by
   intro j hj;obtain⟨cs,k1,k2,k3,rfl,k5⟩:=key j hj;have lq:cs[j % GV]?=some cs[j % GV]:=Ay k3;obtain⟨_,c2,c3⟩:=DN _ _ _ _ k1 lq;rw[GW,<-k5]at c2;exact⟨_,k2.trans lq,c2,c3,Es _ _ _ _ k1 lq⟩
  refine⟨(List.range (es.length*sz)).map fun j=>val (j / sz) (j % sz),⟨by simp,fun v hv=>?_,some ⟨b,off,none⟩,cap,rfl,.inr ⟨_,rfl,fun j u hu=>?_⟩⟩,by rw[hf];simp,fun v hv=>?_,fun i av x h1 h2=>?_⟩
  .obtain⟨j,hj,rfl⟩:=Ag.1 hv;obtain⟨_,_,_,c,_⟩:=Yl j (Gi.1 hj);exact c
  .obtain⟨hj,rfl⟩:=Hu hu;rw[Addr.add_lit];exact(Yl j hj).choose_spec.2.1
  .obtain⟨j,hj,rfl⟩:=Ag.1 hv;obtain⟨_,_,_,c,_⟩:=Yl j (Gi.1 hj);exact c
  .obtain⟨hj,rfl⟩:=Hu h2;obtain⟨vX,c1,_,_,c4⟩:=Yl i hj;rw[h1]at c1;cases c1;exact c4
section
variable {P:Program}{T:GU}(hT:CF P T)
include hT
theorem H7{n:Nat}(hs:(T e).size=n+1):∃i z,P.info? e=some i/\i.zero=some z/\i.size=(T e).size/\i.bytes=(T e).bytes/\(T e).zc=z.cells.toList:=by
 rcases hT e with h | h
 .rw[h]at hs;cases hs
 unfold jz at h;split at h
 .split at h
  .rename_i d i h1 h2 _ z h3;exact⟨i,z,h2,h3,by rw[h],by rw[h],by rw[TI.zc_cells,h]⟩
  .rw[h]at hs;cases hs
 .rw[h]at hs;cases hs
theorem Jm(w:World){t ty k:Nat}(ht:(T t).d=.slice e)(hk:(T e).size=k+1)(a a' : Option Addr)(n cap c:Nat)(hc:n<=cap) :
  (Builtin.append_ #[t,t] ty #[.slice a n cap,.slice a' 0 c]).run P w=.ok (.slice a n cap) w:=by
 have hu:=hT.slice ht;cases a<;>cases a'<;>simp[Builtin.append_,run_underlying hu,hT.size1 w hk,Builtin.lenOf,hc,Builtin.firstCells,loadCells,loadCellsFrom,storeCells]
theorem Is(w:World){t ty k:Nat}(ht:(T t).d=.slice e)(hk:(T e).size=k+1)(hz:(T e).zc.length=(T e).size){s x:Value}{n m c:Nat}{olds news:List Value}{a a' : Option Addr}(hso:O0 w s n (T e).size olds)(hs:s=.slice a n cap)(L1:a=none->cap=0)(oq:O0 w x m (T e).size news)(hx:x=.slice a' m c)(hm:0<m)(hg:cap<n+m)(hb:(n+m)*(T e).bytes<=140737488355328)(h63:n+m<=9223372036854775807) :
  ∃nc rest,(Builtin.append_ #[t,t] ty #[s,x]).run P w=.ok (.slice (some ⟨w.heap.size,0,none⟩) (n+m) nc) (w.drew.alloc (.cells (olds++news++rest).toArray e (0,0)))/\n+m<=nc /\
   (olds++news++rest).length=nc*(T e).size:=by
 obtain⟨i,z,i1,i2,i3,i4,i5⟩:=H7 hT hk;have hu:=hT.slice ht;obtain⟨n1,n2,a1,c1,n3,n4⟩:=oq;subst hx;cases n3;rcases n4 with h | ⟨b,rfl,Jt⟩
 .omega
 .have NP:z.cells.size=(T e).size:=by rw[<-hz,i5];simp
  have rz:∀(nc:Nat) (pre:List Value),pre.length=(n+m)*(T e).size->n+m<=nc->(pre++(Builtin.zeroCells z.cells (nc-(n+m))).toList).length=nc*(T e).size:=by
   intro nc pre hp H2;have e1:(Builtin.zeroCells z.cells (nc-(n+m))).toList.length=(nc-(n+m))*(T e).size:=by simp only[BS,size_zeroCells,NP]
   rw[Ac,e1,hp,<-Fv]
   congr 1;omega
  obtain⟨o1,o2,a2,c2,o3,o4⟩:=hso;subst hs;cases o3;cases a with
  |none =>
   obtain rfl:=L1 rfl;have zK:n=0:=by
    rcases o4 with h | ⟨b',h,_⟩
    .exact h
    .cases h
   subst zK;have ho:olds=[]:=AP (by simpa using o1);subst ho;have hr:=run_append_nil (P:=P) w t ty e i z hu i1 i2 b m c news (by rw[i3];exact n1) Jt hm ch (by rw[i4];rw[Bf]at hb;omega);refine⟨grownCap w m 0 e,(Builtin.zeroCells z.cells (grownCap w m 0 e-m)).toList,?_,by rw[Bf];exact grownCap_ge w m 0 e,?_⟩
   .rw[hr,Bf]
    congr 3
    apply OT;simp
   .have:=rz (grownCap w m 0 e) news (by rw[Bf];exact n1) (by rw[Bf];exact grownCap_ge w m 0 e)
    rw[Bf]at this;simpa using this
  |some b' =>
   have G7:∀j u,olds[j]?=some u->w.cell? (b'.add j)=some u:=by
    rcases o4 with h | ⟨b2,h,h'⟩
    .intro j u hj;rw[h,Lg]at o1
     have:olds=[]:=AP o1
     rw[this]at hj;simp at hj
    .cases h;exact h'
   have hr:=run_append_grow (P:=P) w t ty e i z hu i1 i2 b' n cap olds (by rw[i3];exact o1) G7 b m c news (by rw[i3];exact n1) Jt hg ch (by rw[i4];exact growslice_fits hg hb);refine⟨grownCap w (n+m) cap e,(Builtin.zeroCells z.cells (grownCap w (n+m) cap e-(n+m))).toList,?_,grownCap_ge w (n+m) cap e,rz _ _ (by rw[Ac,o1,n1,<-Fv]) (grownCap_ge w (n+m) cap e)⟩;rw[hr]
   congr 3
   apply OT;simp
end
end Go.Eng
