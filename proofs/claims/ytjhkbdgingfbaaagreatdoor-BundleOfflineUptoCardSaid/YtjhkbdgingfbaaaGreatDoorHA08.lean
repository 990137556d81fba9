/- Lemmas 8. -/
import Derived.Test.YtjhkbdgingfbaaaGreatDoorHA07
namespace Go.Eng
variable {vs:Array Value}{es:List (List AV)}{U:Nat->Prop}{E:TypeId}{cs:List AV}{f:Nat×Nat}{K:HK}{b:Nat}{α:Type}{Db:Array Value}{g:Gh}{cx:Cx}{sz cap e:Nat}{vx:Value}{off:Nat}{T:GV}(P:Program)(w0:World)(g0:Gh)(n:Nat)(h0 h:Nat->HO)(w:World)
def Ok(g:Gh)(w:World)(m:Sem Value)(K:HK):Prop:=
 ∃x w' g' av h',m.run P w=.ok x w'/\K av h'/\Dr w0 g0 h0 h' g' w'/\Le h g w h' g' w'/\Br g' w' (AN h') av x
def ku(g:Gh)(w:World)(m:Sem Unit)(K:HK):Prop:=
 ∃w' g' h',m.run P w=.ok () w'/\K (.v undef) h'/\Dr w0 g0 h0 h' g' w'/\Le h g w h' g' w'
section
variable {P:Program}{w0:World}{g0:Gh}{h0 h:Nat->HO}{g:Gh}{w:World}(hI:Dr w0 g0 h0 h g w)
include hI
theorem BF.does{m:Sem Value}(hg:BF P h g w m (fun v=>K v h)):Ok P w0 g0 h0 h g w m K:=
 let ⟨x,av,h1,h2,h3⟩:=hg
 ⟨x,w,g,av,h,h1,h2,hI,.refl _ _ _,h3⟩
theorem Dr.newOwn{d:Nat}(hd:h d=.free)(o' : HO)(ob:Obj)(x:Value)(n:Nat)(t:Bool)(w1:World)(LN:w1.heap=w.heap/\w1.os=w.os/\w1.tape=w.tape/\w1.output=w.output)(Dv:o'≠.free)
  (JX:KI g (g.upd d x n t (some w.heap.size) g.S) (AN h)->EV g w (g.upd d x n t (some w.heap.size) g.S) (w1.alloc ob) ->
   DR (g.upd d x n t (some w.heap.size) g.S) (w1.alloc ob) (AN (AR h d o')) d o') :
  Dr w0 g0 h0 (AR h d o') (g.upd d x n t (some w.heap.size) g.S) (w1.alloc ob)/\Le h g w (AR h d o') (g.upd d x n t (some w.heap.size) g.S) (w1.alloc ob):=by
 refine hI.upd d o' x n t _ _ _ none ⟨LN.2.1,LN.2.2.1,LN.2.2.2,by rw[World.size_alloc,LN.1];omega⟩ (fun k hk _=>?_) (fun b e=>by cases e) (fun _ _ h=>h) (fun _ _ h=>.inl h) (fun b o e=>by cases e)
  (fun b _ e=>?_) Dv (fun hu=>absurd hd hu) JX
 .rw[heap_alloc_old _ _ (by rw[LN.1];exact hk),LN.1]
 .cases e;rw[World.size_alloc,LN.1];exact⟨by omega,.inr (Ai _)⟩
def Gh.more(g:Gh)(b n:Nat):Nat->Nat->Prop:=fun b' o=>g.S b' o\/(b'=b/\o<n)
theorem Dr.newStable{d:Nat}(hd:h d=.free)(o' : HO)(vs:Array Value)(E:TypeId)(m:Nat)(x:Value)(n:Nat)(t:Bool)(w1:World)(LN:w1.heap=w.heap/\w1.os=w.os/\w1.tape=w.tape/\w1.output=w.output)(Dv:o'≠.free)
  (JX:KI g (g.upd d x n t none (g.more w.heap.size m)) (AN h)->EV g w (g.upd d x n t none (g.more w.heap.size m)) (w1.alloc (.cells vs E (0,0))) ->
   DR (g.upd d x n t none (g.more w.heap.size m)) (w1.alloc (.cells vs E (0,0))) (AN (AR h d o')) d o') :
  Dr w0 g0 h0 (AR h d o') (g.upd d x n t none (g.more w.heap.size m)) (w1.alloc (.cells vs E (0,0))) /\
   Le h g w (AR h d o') (g.upd d x n t none (g.more w.heap.size m)) (w1.alloc (.cells vs E (0,0))):=by
 refine hI.upd d o' x n t _ _ _ none ⟨LN.2.1,LN.2.2.1,LN.2.2.2,by rw[World.size_alloc,LN.1];omega⟩ (fun k hk _=>?_) (fun b e=>by cases e) (fun _ _ h=>.inl h) (fun b o hb=>?_) (fun b o e=>by cases e)
  (fun b _ e=>by cases e) Dv (fun hu=>absurd hd hu) JX
 .rw[heap_alloc_old _ _ (by rw[LN.1];exact hk),LN.1]
 .rcases hb with hb | ⟨rfl,_⟩
  .exact .inl hb
  .exact .inr ⟨by rw[World.size_alloc,LN.1];omega,.inl (Ai _)⟩
end
theorem Bq(g:Gh)(r:Nat)(x:Value)(n:Nat)(t:Bool)(o:Option Nat)(S:Nat->Nat->Prop) :
  (g.upd r x n t o S).ρ r=x/\(g.upd r x n t o S).ln r=n/\(g.upd r x n t o S).tk r=t/\(g.upd r x n t o S).own r=o:=by simp[Gh.upd]
theorem Ho(o:Obj)(hb:b=w.heap.size):(w.alloc o).heap[b]?=some o:=by subst hb;exact heap_alloc_new w o
theorem Br.cptr_row{w:World}(hb:w.heap[b]?=some (.cells vs E f))(hr:CJ g w Fq cs vs.toList)(hS:∀o,o<cs.length->g.S b o):Br g w U (.cptr cs) (.pointer (some ⟨b,0,none⟩)):=by
 refine .cptr U cs b 0 (fun j=>vs[j]?.getD default) (fun j av hj=>?_) (fun j av hj=>?_)
 .obtain⟨x,x1,x2,x3⟩:=hr.at hj;rw[AI]at x1;refine⟨hS _ (by rw[A7];exact(Ar.1 hj).1),?_,?_⟩
  .rw[FU hb,A7,x1];rfl
  .rw[x1];exact x2
 .obtain⟨x,x1,x2,x3⟩:=hr.at hj;rw[AI]at x1;rw[x1];exact x3
theorem Br.slice_off{w:World}(hb:w.heap[b]?=some (.cells vs E f))(hl:∀cs∈es,cs.length=sz)(hc:es.length<=cap)(hr:CJ g w Fq es.flatten ((vs.toList.drop off).take (es.length*sz)))(hS:∀o,o<es.length*sz->g.S b (off+o)):Br g w U (.slice .none es) (.slice (some ⟨b,off,none⟩) es.length cap):=by
 have key:∀(i:Nat) (cs:List AV) (j:Nat) (av:AV),es[i]?=some cs->cs[j]?=some av->∃x,vs[off+(i*sz+j)]?=some x/\x.oneCell'=true/\Br g w Fq av x/\i*sz+j<es.length*sz:=by
  intro i cs j av h1 h2;have hcl:=hl cs (Av h1);have hj:j<sz:=by rw[<-hcl];exact(Ar.1 h2).1
  have hi:=(Ar.1 h1).1;have Dx:i*sz+j<es.length*sz:=by
   have:=Bh sz (show i+1<=es.length from hi)
   rw[Ec]at this;omega
  have hf:=FB hl h1 hj;rw[h2]at hf;obtain⟨x,x1,x2,x3⟩:=hr.at hf;rw[BI Dx,CA,AI]at x1;exact⟨x,x1,x2,x3,Dx⟩
 refine .slice U es b off sz cap (fun i j=>vs[off+(i*sz+j)]?.getD default) hc (fun i cs h=>hl cs (Av h)) (fun i cs j av h1 h2=>?_) (fun i cs j av h1 h2=>?_)
 .obtain⟨x,x1,x2,x3,x4⟩:=key i cs j av h1 h2;rw[GX];refine⟨hS _ x4,?_,?_⟩
  .rw[FU hb,x1];rfl
  .rw[x1];exact x2
 .obtain⟨x,x1,x2,x3,x4⟩:=key i cs j av h1 h2;rw[x1];exact x3
theorem Br.slice_row{w:World}(hb:w.heap[b]?=some (.cells vs E f))(hl:∀cs∈es,cs.length=sz)(hc:es.length<=cap)(hr:CJ g w Fq es.flatten (vs.toList.take (es.length*sz)))(hS:∀o,o<es.length*sz->g.S b o):Br g w U (.slice .none es) (.slice (some ⟨b,0,none⟩) es.length cap):=by
 have key:∀(i:Nat) (cs:List AV) (j:Nat) (av:AV),es[i]?=some cs->cs[j]?=some av->∃x,vs[i*sz+j]?=some x/\x.oneCell'=true/\Br g w Fq av x/\i*sz+j<es.length*sz:=by
  intro i cs j av h1 h2;have hcl:=hl cs (Av h1);have hj:j<sz:=by rw[<-hcl];exact(Ar.1 h2).1
  have hi:=(Ar.1 h1).1;have Dx:i*sz+j<es.length*sz:=by
   have:=Bh sz (show i+1<=es.length from hi)
   rw[Ec]at this;omega
  have hf:=FB hl h1 hj;rw[h2]at hf;obtain⟨x,x1,x2,x3⟩:=hr.at hf;rw[BI Dx,AI]at x1;exact⟨x,x1,x2,x3,Dx⟩
 refine .slice U es b 0 sz cap (fun i j=>vs[i*sz+j]?.getD default) hc (fun i cs h=>hl cs (Av h)) (fun i cs j av h1 h2=>?_) (fun i cs j av h1 h2=>?_)
 .obtain⟨x,x1,x2,x3,x4⟩:=key i cs j av h1 h2;rw[A7];refine⟨hS _ x4,?_,?_⟩
  .rw[FU hb,x1];rfl
  .rw[x1];exact x2
 .obtain⟨x,x1,x2,x3,x4⟩:=key i cs j av h1 h2;rw[x1];exact x3
section
variable {P:Program}{w0:World}{g0:Gh}{h0 h:Nat->HO}{g:Gh}{w:World}
theorem So(hI:Dr w0 g0 h0 h g w){d:Nat}(hd:h d=.free)(E:TypeId)(hr:CJ g w (AN h) cs vs.toList) :
  ∃g',Dr w0 g0 h0 (AR h d (.cells cs)) g' (w.alloc (.cells vs E (0,0)))/\Le h g w (AR h d (.cells cs)) g' (w.alloc (.cells vs E (0,0))) /\
   Br g' (w.alloc (.cells vs E (0,0))) (AN (AR h d (.cells cs))) (.ref d 0) (.pointer (some ⟨w.heap.size,0,none⟩)):=by
 obtain⟨k1,k2⟩:=hI.newOwn hd (.cells cs) (.cells vs E (0,0)) (.pointer (some ⟨w.heap.size,0,none⟩)) 0 false w ⟨rfl,rfl,rfl,rfl⟩ B0 (fun hg hk=>by
  obtain⟨u1,u2,u3,u4⟩:=Bq g d (.pointer (some ⟨w.heap.size,0,none⟩)) 0 false (some w.heap.size) g.S;exact⟨u3,w.heap.size,E,vs,u4,u1,Ho w _ rfl,hr.mono hk (fun i hi=>DV B0 i hi) hg,fun o ho=>by have:=hI.slt _ _ ho;omega⟩)
 refine⟨_,k1,k2,.ref _ d 0 w.heap.size (by unfold AN;rw[A3];simp) ?_ ?_⟩
 .simp[Gh.upd]
 .simp[Gh.upd]
theorem m0(hI:Dr w0 g0 h0 h g w){d:Nat}(hd:h d=.free)(E:TypeId)(hr:CJ g w Fq cs vs.toList) :
  ∃g',Dr w0 g0 h0 (AR h d (.ro cs)) g' (w.alloc (.cells vs E (0,0)))/\Le h g w (AR h d (.ro cs)) g' (w.alloc (.cells vs E (0,0))) /\
   Br g' (w.alloc (.cells vs E (0,0))) (AN (AR h d (.ro cs))) (.ref d 0) (.pointer (some ⟨w.heap.size,0,none⟩)):=by
 obtain⟨k1,k2⟩:=hI.newStable hd (.ro cs) vs E cs.length (.pointer (some ⟨w.heap.size,0,none⟩)) 0 false w ⟨rfl,rfl,rfl,rfl⟩ B0 (fun hg hk=>by
  obtain⟨u1,u2,u3,u4⟩:=Bq g d (.pointer (some ⟨w.heap.size,0,none⟩)) 0 false none (g.more w.heap.size cs.length);exact⟨u3,w.heap.size,u1,Br.cptr_row (Ho w _ rfl) (hr.mono hk (fun _ h=>h) (fun _ h=>h.elim)) (fun o ho=>.inr ⟨rfl,ho⟩)⟩)
 refine⟨_,k1,k2,.ref _ d 0 w.heap.size (by unfold AN;rw[A3];simp) ?_ ?_⟩
 .simp[Gh.upd]
 .simp[Gh.upd]
theorem KB(hI:Dr w0 g0 h0 h g w){d:Option Nat}{sz:Nat}(hk:EO cx d h sz es K){cap:Nat}(E:TypeId)(hl:∀cs∈es,cs.length=sz)(hc:es.length<=cap)(hs:vs.size=cap*sz)(hr:CJ g w Fq es.flatten (vs.toList.take (es.length*sz)))(w1:World)(LN:w1.heap=w.heap/\w1.os=w.os/\w1.tape=w.tape/\w1.output=w.output) :
  ∃g' av h',K av h'/\Dr w0 g0 h0 h' g' (w1.alloc (.cells vs E (0,0)))/\Le h g w h' g' (w1.alloc (.cells vs E (0,0))) /\
   Br g' (w1.alloc (.cells vs E (0,0))) (AN h') av (.slice (some ⟨w.heap.size,0,none⟩) es.length cap):=by
 have ER:(w1.alloc (.cells vs E (0,0))).heap[w.heap.size]?=some (.cells vs E (0,0)):=Ho w1 _ (by rw[LN.1]);unfold EO at hk;split at hk
 .exact hk.elim
 .rename_i d;generalize Ki cx d=d1 at hk;split at hk
  .rename_i hd;split at hk
   .obtain⟨k1,k2⟩:=hI.newOwn hd (.arr sz es) (.cells vs E (0,0)) (.slice (some ⟨w.heap.size,0,none⟩) es.length cap) es.length true w1 LN B0 (fun hg Io=>by
     obtain⟨u1,u2,u3,u4⟩:=Bq g d1 (.slice (some ⟨w.heap.size,0,none⟩) es.length cap) es.length true (some w.heap.size) g.S;exact⟨u3,u2,hl,.inr ⟨w.heap.size,cap,E,vs,u1,u4,hc,ER,hs,hr.mono Io (fun _ h=>h) (fun _ h=>h.elim),fun o ho=>by have:=hI.slt _ _ ho;omega⟩⟩)
    refine⟨_,_,_,hk,k1,k2,.msl _ d1 es.length _ cap (by unfold AN;rw[A3];simp) ?_ ?_ (.inr ⟨_,rfl⟩) ?_⟩<;>simp[Gh.upd]
   .by_cases mj:es.length=cap
    .obtain⟨k1,k2⟩:=hI.newStable hd (.tok sz es.length) vs E (es.length*sz) (.slice (some ⟨w.heap.size,0,none⟩) es.length cap) es.length true w1 LN B0 (fun hg Io=>by
      obtain⟨u1,u2,u3,u4⟩:=Bq g d1 (.slice (some ⟨w.heap.size,0,none⟩) es.length cap) es.length true none (g.more w.heap.size (es.length*sz));exact⟨u3,u2,_,cap,u1,.inl ⟨mj,u4⟩⟩)
     refine⟨_,_,_,hk,k1,k2,.tok _ d1 sz es _ (Br.slice_row ER hl hc (hr.mono k2.keeps (fun _ h=>h) (fun _ h=>h.elim)) (fun o ho=>.inr ⟨rfl,ho⟩)) hl (by unfold AN;rw[A3];simp) ?_ ?_ ?_⟩<;>simp[Gh.upd]
    .have rO:=hI.upd d1 (.tok sz es.length) (.slice (some ⟨w.heap.size,0,none⟩) es.length cap) es.length true (some w.heap.size) (g.more w.heap.size (es.length*sz)) (w1.alloc (.cells vs E (0,0))) none
      ⟨LN.2.1,LN.2.2.1,LN.2.2.2,by rw[World.size_alloc,LN.1];omega⟩ (fun k hk' _=>by rw[heap_alloc_old _ _ (by rw[LN.1];exact hk'),LN.1]) (fun b e=>by cases e) (fun _ _ h=>.inl h)
      (fun b o hb=>by
       rcases hb with hb | ⟨rfl,_⟩
       .exact .inl hb
       .exact .inr ⟨by rw[World.size_alloc,LN.1];omega,.inl (Ai _)⟩) (fun b o e=>by cases e)
      (fun b _ e=>by cases e;rw[World.size_alloc,LN.1];exact⟨by omega,.inr (Ai _)⟩) B0 (fun hu=>absurd hd hu) (fun hg Io=>by
       obtain⟨u1,u2,u3,u4⟩:=Bq g d1 (.slice (some ⟨w.heap.size,0,none⟩) es.length cap) es.length true (some w.heap.size) (g.more w.heap.size (es.length*sz));exact⟨u3,u2,_,cap,u1,.inr ⟨hc,w.heap.size,E,vs,0,rfl,u4,.of ER,by rw[hs,A7],fun o ho=>by
        rcases ho with ho | ⟨_,ho⟩
        .have:=hI.slt _ _ ho;omega
        .omega⟩⟩)
     obtain⟨k1,k2⟩:=rO;refine⟨_,_,_,hk,k1,k2,.tok _ d1 sz es _ (Br.slice_row ER hl hc (hr.mono k2.keeps (fun _ h=>h) (fun _ h=>h.elim)) (fun o ho=>.inr ⟨rfl,ho⟩)) hl (by unfold AN;rw[A3];simp) ?_ ?_ ?_⟩<;>simp[Gh.upd]
  .exact hk.elim
end
theorem NK{α:Type}:∀(cs:List α) (o:Nat) (vs:List α),o+vs.length<=cs.length->over cs o vs=cs.take o++vs++cs.drop (o+vs.length)
 | [],o,vs,h=>by
  simp at h;obtain⟨rfl,rfl⟩:=h
  rfl
 |c::cs,o+1,vs,h=>by
  rw[over,NK cs o vs (by simp at h;omega)];simp only[Jy,DA,Bm,Nat.add_right_comm o 1,List.drop_succ_cons]
 |c::cs,0,[],h=>by simp[over]
 |c::cs,0,v::vs,h=>by
  rw[over,NK cs 0 vs (by simp at h;omega)];simp
theorem WS(cs:List α)(o n:Nat)(vs:List α)(h:o+vs.length<=n)(hn:n<=cs.length):(over cs o vs).take n=over (cs.take n) o vs:=by
 apply Cz;intro i;rw[F0 _ _ _ _ (by simp;omega)]
 by_cases hi:i<n
 .rw[BI hi,F0 _ _ _ _ ch,BI hi]
 .rw[Ah ch,AQ (by rw[AA,F1];omega),AQ (by simp;omega)]
theorem MY{n:Nat}:∀{es:List (List α)},(∀c∈es,c.length=n)->∀{i:Nat} {c:List α},es[i]?=some c->∀(o:Nat) (vs:List α),o+vs.length<=n ->
  (es.set i (over c o vs)).flatten=over es.flatten (i*n+o) vs
 | [],_,i,c,h,_,_,_=>by simp at h
 |d::es,hl,i,c,h,o,vs,Hp=>by
  have hd:=hl d (Ab ..);have hfl:=Dm (es:=d::es) (n:=n) hl;have Dx:=(Ar.1 h).1;have x5:i*n+o+vs.length<=(d::es).flatten.length:=by
   rw[hfl]
   have:=Bh n (show i+1<=(d::es).length from Dx)
   rw[Ec]at this;omega
  have hcl:=hl c (Av h);apply Cz;intro j;rw[F0 _ _ _ _ x5];have OC:∀e∈(d::es).set i (over c o vs),e.length=n:=fun e he=>by
   rcases Jq he with he | rfl
   .exact hl e he
   .rw[F1];exact hcl
  by_cases hn:n=0
  .subst hn;have h1:=Dm OC;have h2:=hfl;simp only[Nat.mul_zero,List.length_eq_zero_iff]at h1 h2;rw[h1,h2]
   have:¬(i*0+o<=j/\j<i*0+o+vs.length):=by omega
   rw[Ah this]
  .have vE:j=j / n*n+j % n:=by rw[Nat.mul_comm];exact(VZ j n).symm
   have ac:j % n<n:=Nat.mod_lt _ ch
   by_cases hj:j / n<(d::es).length
   .have g1:(d::es)[j / n]?=some ((d::es)[j / n]):=At hj;have g2:((d::es).set i (over c o vs))[j / n]?=some (if i=j / n then over c o vs else(d::es)[j / n]):=by
     rw[List.getElem?_set]
     by_cases e:i=j / n
     .rw[As e,As ch,As e]
     .rw[Ah e,Ah e];exact g1
    have f1:=FB hl g1 ac;have f2:=FB OC g2 ac;rw[<-vE]at f1 f2;rw[f1,f2];split
    .rename_i e;rw[e]at h;rw[g1]at h;cases h;rw[F0 _ _ _ _ ch];have e2:i*n+o<=j↔o<=j % n:=by rw[e];omega
     have e3:j<i*n+o+vs.length↔j % n<o+vs.length:=by rw[e];omega
     simp only[e2,e3];split
     .congr 1;rw[e];omega
     .rfl
    .rename_i e
     have:¬(i*n+o<=j/\j<i*n+o+vs.length):=by
      rintro⟨q1,q2⟩
      apply e;have a1:i*n<=j:=by omega
      have a2:j<(i+1)*n:=by rw[Ec];omega
      have:=(Nat.le_div_iff_mul_le ch).2 a1
      have:=(Mp ch).2 a2
      omega
     rw[Ah this]
   .have tM:(d::es).length*n<=j:=by
     have:=Nat.not_lt.1 hj
     have:=(Nat.le_div_iff_mul_le ch).1 this
     exact this
    have:¬(i*n+o<=j/\j<i*n+o+vs.length):=by rw[hfl]at x5;omega
    rw[Ah this,AQ (by rw[Dm OC,CZ];exact tM),AQ (by rw[hfl];exact tM)]
theorem Qd{P:Program}(hT:Ci P T)(w:World){t:Nat}{x:Value}(hd:(T t).d≠.other)(hs:x.cells.toList.length=(T t).size)(h1:∀v∈x.cells.toList,v.oneCell'=true)(hb:w.heap[b]?=some (.cells Db E (0,0)))(Hp:off+x.cells.toList.length<=Db.size) :
  (Instr.storeAt t (.pointer (some ⟨b,off,none⟩)) x).run P w=.ok () (w.setRow b (over Db.toList off x.cells.toList).toArray):=by
 have Il:=run_storeCells_at P b off E x.cells.toList 0 Db w hb (by simpa using Hp) h1;simp only[DX]at Il;have Y2 : x.cells.size=(T t).size:=by simpa using hs
 rw[NK _ _ _ (by simpa using Hp)];simp only[Instr.storeAt,Sem.run_bind,Instr.sureAddr,Sem.run_pure,Result.andThen_ok,storeVar,hT.size w hd,Y2,WN,not_true_eq_false,FZ];exact Il
section
variable {P:Program}{w0:World}{g0:Gh}{h0 h:Nat->HO}{g:Gh}{w:World}(hI:Dr w0 g0 h0 h g w)
include hI
theorem gD{d:Nat}(hd:h d=.free)(h1:h 1001=.free)(hn:d≠1001)(hv:vs=#[.pointer none,.slice none 0 0]) :
  ∃g',Dr w0 g0 h0 (AR (AR h 1001 (.bbf 0)) d (.bld (.slice (.id 1001 1) []))) g' (w.alloc (.cells vs XP (0,0)))/\Le h g w (AR (AR h 1001 (.bbf 0)) d (.bld (.slice (.id 1001 1) []))) g' (w.alloc (.cells vs XP (0,0))) /\
   Br g' (w.alloc (.cells vs XP (0,0))) (AN (AR (AR h 1001 (.bbf 0)) d (.bld (.slice (.id 1001 1) [])))) (.ref d 0) (.pointer (some ⟨w.heap.size,0,none⟩)):=by
 obtain⟨k1,k2⟩:=hI.upd 1001 (.bbf 0) (.slice none 0 0) 0 true none g.S w none ⟨rfl,rfl,rfl,Ai _⟩ (fun _ _ _=>rfl) (fun b e=>by cases e) (fun _ _ h=>h) (fun _ _ h=>.inl h) (fun b o e=>by cases e)
  (fun b _ e=>by cases e) B0 (fun hu=>absurd h1 hu) (fun _ _=>⟨by simp[Gh.upd],by simp[Gh.upd],.inl ⟨rfl,by simp[Gh.upd],by simp[Gh.upd]⟩⟩)
 obtain⟨m1,m2⟩:=k1.newOwn (d:=d) (by rw[BR _ _ _ _ hn];exact hd) (.bld (.slice (.id 1001 1) [])) (.cells vs XP (0,0)) (.pointer (some ⟨w.heap.size,0,none⟩)) 0 false w ⟨rfl,rfl,rfl,rfl⟩ B0
  (fun _ _=>by
   subst hv;refine⟨by simp[Gh.upd],w.heap.size,.pointer none,.slice none 0 0,by simp[Gh.upd],by simp[Gh.upd],heap_alloc_new w _,.inl rfl,?_,fun o hs=>?_⟩
   .refine .tok _ 1001 1 [] _ (.snil _ _ _) B0 ?_ ?_ (AE _) (fun _=>?_)
    .unfold AN;rw[BR _ _ _ _ (RP hn),A3];simp
    .simp[Gh.upd,Ne.symm hn]
    .simp[Gh.upd,Ne.symm hn]
   .have:=hI.slt _ _ hs;omega)
 exact⟨_,m1,k2.trans m2,.ref _ d 0 w.heap.size (by unfold AN;rw[A3];simp) (by simp[Gh.upd]) (by simp[Gh.upd])⟩
theorem gc(hT:Ci P T){d:Option Nat}{e:Nat}(hk:Tu T d h e K):Ok P w0 g0 h0 h g w (Instr.alloc e true (.tuple #[])) K:=by
 unfold Tu at hk;split at hk
 .exact hk.elim
 .split at hk
  .rename_i hd;split at hk
   .exact hk.elim
   .rename_i Dv;split at hk
    .rename_i he;obtain rfl:=AM he;split at hk
     .rename_i h1 hn hz;obtain⟨z,z1,z2,_⟩:=Nq hT (w:=w) Dv;have hv:z.cells=#[.pointer none,.slice none 0 0]:=by rw[hz]at z2;exact Jb.1 z2.symm
      obtain⟨g',k1,k2,k3⟩:=gD hI hd h1 (fun e=>by rw[e]at hn;exact absurd hn Cl) hv;refine⟨_,_,g',_,_,?_,hk,k1,k2,k3⟩;simp[Instr.alloc,z1,newVar,newRow]
     .exact hk.elim
    split at hk
    .rename_i ha;obtain⟨z,z1,z2,_⟩:=Nq hT (w:=w) Dv;have hr:CJ g w (AN h) ((T e).zc.map .v) z.cells.toList:=by rw[z2]at ha⊢;exact CJ.vals ha
     obtain⟨g',k1,k2,k3⟩:=So hI hd (vs:=z.cells) e hr;refine⟨_,_,g',_,_,?_,hk,k1,k2,k3⟩;simp[Instr.alloc,z1,newVar,newRow]
    .exact hk.elim
  .exact hk.elim
theorem Qi{vs:List Value}(hr:CJ g w (AN h) cs vs):CJ g w Fq (cs.map (str h)) vs:=by
 refine⟨by rw[AS];exact hr.1,hr.2.1,fun i av x h1 h2=>?_⟩;rw[Aw,AD]at h1;obtain⟨a,a1,rfl⟩:=h1;exact(hr.2.2 i a x a1 h2).str hI.objs
theorem pp{d:Option Nat}{e:Nat}{x:AV}(hx:Br g w (AN h) x vx)(hk:gE cx d h e x K):Ok P w0 g0 h0 h g w (Instr.box e vx) K:=by
 unfold gE at hk;split at hk
 .exact hk.elim
 .split at hk
  .rename_i hd;split at hk
   .exact hk.elim
   .obtain⟨cs,hk,hn,hr⟩:=Nw hx hk;split at hk
    .obtain⟨g',k1,k2,k3⟩:=m0 hI hd (vs:=vx.cells) e (Qi hI hr);exact⟨_,_,g',_,_,rfl,hk,k1,k2,k3⟩
    .obtain⟨g',k1,k2,k3⟩:=So hI hd (vs:=vx.cells) e hr;exact⟨_,_,g',_,_,rfl,hk,k1,k2,k3⟩
  .exact hk.elim
theorem Dr.write{r b:Nat}(hl:(h r).live)(ho:g.own r=some b)(o' : HO)(hb:w.heap[b]?=some (.cells Db E (0,0)))(new:Array Value)(n:Nat)(ow:Option Nat)(S' : Nat->Nat->Prop)(Dv:o'≠.free)(hn:n=g.ln r)(yb:∀b',ow=some b'->b'=b)(hS:∀b o,g.S b o->S' b o)(zD:∀b' o,S' b' o->g.S b' o\/b'=b)(xW:∀o,g.S b o->new[o]?=Db[o]?)(JX:KI g (g.upd r (g.ρ r) n (g.tk r) ow S') (AN h)->EV g w (g.upd r (g.ρ r) n (g.tk r) ow S') (w.setRow b new)->(w.setRow b new).heap[b]?=some (.cells new E (0,0)) ->
   DR (g.upd r (g.ρ r) n (g.tk r) ow S') (w.setRow b new) (AN (AR h r o')) r o') :
  Dr w0 g0 h0 (AR h r o') (g.upd r (g.ρ r) n (g.tk r) ow S') (w.setRow b new)/\Le h g w (AR h r o') (g.upd r (g.ρ r) n (g.tk r) ow S') (w.setRow b new):=by
 have ER:=setRow_heap w b Db new E (0,0) hb;have Dx:=(hI.loc r b hl ho).1
 refine hI.upd r o' _ _ _ _ _ _ (some b) ⟨rfl,rfl,rfl,by rw[size_setRow];exact Ai _⟩ (fun k hk Dv=>setRow_other w b k new (fun e=>Dv (by rw[e]))) (fun b' e=>by cases e;exact⟨hl,ho⟩) hS (fun b' o hs=>?_)
  (fun b' o e hs=>?_) (fun b' _ e=>?_) Dv (fun _=>⟨rfl,by omega,fun _=>rfl,fun _=>rfl⟩) (fun hg hk=>JX hg hk ER)
 .rcases zD b' o hs with h1 | rfl
  .exact .inl h1
  .exact .inr ⟨by rw[size_setRow];exact Dx,.inr ⟨hl,ho⟩⟩
 .cases e
  refine⟨?_,fun es ck he=>by rw[hb]at he;cases he⟩;rw[FU ER,FU hb];exact xW o hs
 .obtain rfl:=yb b' e;exact⟨by rw[size_setRow];exact Dx,.inl ⟨hl,ho⟩⟩
theorem jT(hT:Ci P cx.T){t:Nat}{p x:AV}{vp:Value}(hp:Br g w (AN h) p vp)(hx:Br g w (AN h) x vx)(hk:OT cx h t p x K) :
  ku P w0 g0 h0 h g w (Instr.storeAt t vp vx) K:=by
 unfold OT at hk;split at hk
 .exact hk.elim
 .rename_i hd;have h5:=Nw hx hk
  clear hk
  obtain⟨vs,hk,hn,hr⟩:=h5;have Ca:vx.cells.toList.length=vs.length:=hr.1;split at hk
  .rename_i r off;have ho:=hI.objs r;split at hk
   .rename_i cs e;obtain⟨Hp,hk⟩:=hk;rw[e]at ho;obtain⟨t0,b,E,Db,a1,a2,a3,a4,a5⟩:=ho;cases hp with
    |ref _ _ _ b' hu ht oX=>
     rw[a2]at oX;cases oX;have hcs:Db.toList.length=cs.length:=a4.1;have CI:=Qd hT w (t:=t) (off:=off) (x:=vx) hd (by rw[Ca,hn]) hr.2.1 a3 (by rw[Ca];simp at hcs;omega);have hl:(h r).live:=by rw[e];trivial
     have t6:=a4.over hr off Hp;split at hk
     .obtain⟨k1,k2⟩:=hI.write hl a1 (.ro ((over cs off vs).map (str h))) a3 (over Db.toList off vx.cells.toList).toArray (g.ln r) none (g.more b cs.length) B0 rfl (fun _ e=>by cases e) (fun _ _ h=>.inl h)
       (fun b' o hs=>hs.elim .inl (fun hs=>.inr hs.1)) (fun o hs=>absurd hs (a5 o)) (fun hg Io ER=>by
        obtain⟨u1,u2,u3,u4⟩:=Bq g r (g.ρ r) (g.ln r) (g.tk r) none (g.more b cs.length);refine⟨u3.trans t0,b,u1.trans a2,Br.cptr_row ER ?_ (fun o ho=>.inr ⟨rfl,?_⟩)⟩
        .exact(Qi hI t6).mono Io (fun _ h=>h) (fun _ h=>h.elim)
        .rw[AS,F1]at ho;exact ho)
      exact⟨_,_,_,CI,hk,k1,k2⟩
     .obtain⟨k1,k2⟩:=hI.write hl a1 (.cells (over cs off vs)) a3 (over Db.toList off vx.cells.toList).toArray (g.ln r) (g.own r) g.S B0 rfl (fun b' e=>by rw[a1]at e;cases e;rfl) (fun _ _ h=>h)
       (fun b' o hs=>.inl hs) (fun o hs=>absurd hs (a5 o)) (fun hg Io ER=>by
        obtain⟨u1,u2,u3,u4⟩:=Bq g r (g.ρ r) (g.ln r) (g.tk r) (g.own r) g.S;exact⟨u3.trans t0,b,E,_,u4.trans a1,u1.trans a2,ER,t6.mono Io (fun i hi=>DV B0 i hi) hg,a5⟩)
      exact⟨_,_,_,CI,hk,k1,k2⟩
   .exact hk.elim
  .rename_i r n sz i off;have ho:=hI.objs r;split at hk
   .rename_i GW es e;rw[e]at ho;split at hk
    .rename_i hz;obtain rfl:=AM hz;obtain⟨hnl,cs,hi,Hp,hk⟩:=hk;obtain⟨t1,l1,al,a1⟩:=ho;have Dx:=(Ar.1 hi).1;rcases a1 with ⟨rfl,_⟩ | ⟨b,cap,E,Db,e1,e2,e3,e4,e5,e6,e7⟩
     .simp at hi
     .cases hp with
      |eref _ _ _ _ _ _ b' Ln hu ht ae oX=>
       have oX:=oX (hnl.trans l1.symm);rw[e1]at oX;simp only[Value.slice.injEq,Bk,Addr.mk.injEq]at oX;obtain⟨⟨rfl,_,_⟩,_,_⟩:=oX;have hcl:=al cs (Av hi);have QO:i*sz+sz<=es.length*sz:=by
        have:=Bh sz (show i+1<=es.length from Dx)
        rwa [Ec]at this
       have mn:es.length*sz<=cap*sz:=Bh sz e3;have CI:=Qd hT w (t:=t) (off:=i*sz+off) (x:=vx) hd (by rw[Ca,hn]) hr.2.1 e4 (by rw[Ca];omega);have hl:(h r).live:=by rw[e];trivial
       have xv : ∀c∈es.set i (over cs off (vs.map (str h))),c.length=sz:=fun c hc=>by
        rcases Jq hc with hc | rfl
        .exact al c hc
        .rw[F1];exact hcl
       have hfl:=MY al hi off (vs.map (str h)) (by rw[AS];exact Hp);have ZR:Db.toList.length=cap*sz:=by rw[BB];exact e5
       have oY:((over Db.toList (i*sz+off) vx.cells.toList).toArray.toList.take ((es.set i (over cs off (vs.map (str h)))).length*sz))=over (Db.toList.take (es.length*sz)) (i*sz+off) vx.cells.toList:=by
        rw[CZ];exact WS _ _ _ _ (by rw[Ca];omega) (by rw[ZR];exact mn)
       have t6:CJ g w Fq (es.set i (over cs off (vs.map (str h)))).flatten ((over Db.toList (i*sz+off) vx.cells.toList).toArray.toList.take ((es.set i (over cs off (vs.map (str h)))).length*sz)):=by
        rw[oY,hfl];exact e6.over (Qi hI hr) _ (by rw[AS,Dm al];omega)
       split at hk
       .rename_i j m;have iA:∃x0,vx.cells.toList=[x0]:=by
         revert Ca
         cases vx.cells.toList with
         |nil=>intro Ca;cases Ca
         |cons x0 l=>cases l with
          |nil=>intro _;exact⟨x0,rfl⟩
          |cons _ _=>intro Ca;simp at Ca
        obtain⟨x0,iA⟩:=iA;have D8:=hr.2.2 0 (.msl j m) x0 rfl (by rw[iA];rfl)
        obtain⟨k1,k2⟩:=hI.write hl e2 (.hol sz (es.set i (over cs off [.junk])) i off (.msl j m)) e4 (over Db.toList (i*sz+off) vx.cells.toList).toArray (g.ln r) (g.own r) g.S B0 rfl (fun b' e=>by rw[e2]at e;cases e;rfl) (fun _ _ h=>h)
         (fun b' o hs=>.inl hs) (fun o hs=>absurd hs (e7 o)) (fun hg Io ER=>by
          obtain⟨u1,u2,u3,u4⟩:=Bq g r (g.ρ r) (g.ln r) (g.tk r) (g.own r) g.S;have iq:i*sz+off<es.length*sz:=by simp only[Al,Ax]at Hp;omega
          refine⟨u3.trans t1,u2.trans (by rw[CZ];exact l1),xv,b,cap,E,_,?_,u4.trans e2,by rw[CZ];exact e3,ER,?_,t6.mono Io (fun _ h=>h) (fun _ h=>h.elim),e7,by rw[CZ];exact iq,x0,?_,D8.mono Io (fun i hi=>DV B0 i hi) hg⟩
          .rw[u1,e1,CZ]
          .simp only[DW,F1,BB];exact e5
          .rw[<-AI,iA,F0 _ _ _ _ (by rw[ZR];simp only[Al,Ax];omega),As ⟨Ai _,by simp only[Al,Ax];omega⟩,F7];rfl)
        exact⟨_,_,_,CI,hk,k1,k2⟩
       .obtain⟨k1,k2⟩:=hI.write hl e2 (.arr sz (es.set i (over cs off (vs.map (str h))))) e4 (over Db.toList (i*sz+off) vx.cells.toList).toArray (g.ln r) (g.own r) g.S B0 rfl (fun b' e=>by rw[e2]at e;cases e;rfl) (fun _ _ h=>h)
         (fun b' o hs=>.inl hs) (fun o hs=>absurd hs (e7 o)) (fun hg Io ER=>by
          obtain⟨u1,u2,u3,u4⟩:=Bq g r (g.ρ r) (g.ln r) (g.tk r) (g.own r) g.S;refine⟨u3.trans t1,u2.trans (by rw[CZ];exact l1),xv,.inr ⟨b,cap,E,_,?_,u4.trans e2,by rw[CZ];exact e3,ER,?_,t6.mono Io (fun _ h=>h) (fun _ h=>h.elim),e7⟩⟩
          .rw[u1,e1,CZ]
          .simp only[DW,F1,BB];exact e5)
        exact⟨_,_,_,CI,hk,k1,k2⟩
    .exact hk.elim
   .exact hk.elim
  .exact hk.elim
end
theorem jm(c vs:List α)(h:vs.length=c.length):over c 0 vs=vs:=by
 rw[NK _ _ _ ch];simp[h]
theorem Ig[Inhabited α](z:List α)(hz:z≠[]):(List.replicate n z).flatten=(List.range (n*z.length)).map fun k=>z[k % z.length]!:=by
 have hl:∀c∈List.replicate n z,c.length=z.length:=fun c hc=>by rw[Ck hc]
 have cM:0<z.length:=Hb.2 hz;apply Cz;intro k
 by_cases hk:k<n*z.length
 .have vE:k=k / z.length*z.length+k % z.length:=by rw[Nat.mul_comm];exact(VZ k _).symm
  have ac:k % z.length<z.length:=Nat.mod_lt _ cM;have hi:k / z.length<n:=(Mp cM).2 hk;have f1:=FB hl (i:=k / z.length) (c:=z) (by rw[List.getElem?_replicate,As hi]) ac;rw[<-vE]at f1;rw[f1];simp[hk,ac]
 .rw[AQ (by rw[Dm hl,Bv];omega),AQ (by simp;omega)]
section
variable {P:Program}{w0:World}{g0:Gh}{h0 h:Nat->HO}{g:Gh}{w:World}(hI:Dr w0 g0 h0 h g w)
include hI
theorem ZE{n sz:Nat}{t:Nat->AV}{ρ:Operand->Value}(ht:∀x:Operand,Br g w (AN h) (ev t x) (ρ x)) :
  ∀{ps:List (Nat×Operand)} {es:List (List AV)} {xs:Array Value} {K:List (List AV)->Prop},es.length=n->(∀c∈es,c.length=sz)->CJ g w Fq es.flatten xs.toList->RW n sz h es t ps K ->
   ∃Gm Xt,K Gm/\Gm.length=n/\(∀c∈Gm,c.length=sz)/\CJ g w Fq Gm.flatten Xt.toList/\Instr.fill (fun i=>some (i*sz,sz)) xs (ps.map fun(i,x)=>(i,ρ x))=some Xt
 | [],es,xs,K,hn,hl,h,hk=>⟨es,xs,hk,hn,hl,h,rfl⟩
 |(i,x)::ps,es,xs,K,hn,hl,h,hk=>by
  unfold RW at hk;split at hk
  .rename_i hi;have hi:i<n:=Gv hi;have h5:=Nw (ht x) hk
   clear hk
   obtain⟨VD,hk,tW,hr⟩:=h5;have D5:(ρ x).cells.size=sz:=by rw[<-tW];simpa using hr.1
   have Vw:=Qi hI hr;obtain⟨c,hc⟩:∃c,es[i]?=some c:=⟨_,At ch⟩;have hcl:=hl c (Av hc);have Hp:i*sz+sz<=es.flatten.length:=by
    rw[Dm hl,hn]
    have:=Bh sz (show i+1<=n from hi)
    rwa [Ec]at this
   have hfl:=MY hl hc 0 (VD.map (str ‹Nat->HO›)) (by rw[AS,tW];omega);rw[jm _ _ (by rw[AS,tW,hcl]),DX]at hfl;have ER:=h.over Vw (i*sz) (by rw[AS,tW];exact Hp);have oZ:xs.size=es.flatten.length:=by have:=h.1;rwa [BB]at this
   have e:=Oy (ρ x).cells.toList 0 (i*sz) xs (by rw[BB];omega);simp only[DX]at e;rw[<-e,<-hfl]at ER;obtain⟨Gm,Xt,k1,k2,k3,k4,k5⟩:=ZE ht (es:=es.set i (VD.map (str _))) (by rw[CZ];exact hn) (fun c' tD=>by
    rcases Jq tD with tD | rfl
    .exact hl c' tD
    .rw[AS];exact tW) ER hk
   refine⟨Gm,Xt,k1,k2,k3,k4,?_⟩;simp only[AK,Instr.fill];have e2:(ρ x).cells.zipIdx.foldl (fun cs (c,j)=>cs.setIfInBounds (i*sz+j) c) xs=((ρ x).cells.toList.zipIdx 0).foldl (fun(cs:Array Value) (p:Value×Nat)=>cs.setIfInBounds (i*sz+p.2) p.1) xs:=by
    rw[<-OY];simp
   rw[Ah (by simp[D5];omega),e2];exact k5
  .exact hk.elim
theorem TF(hT:Ci P cx.T){d:Option Nat}{ty n:Nat}{t:Nat->AV}{ρ:Operand->Value}(ht:∀x:Operand,Br g w (AN h) (ev t x) (ρ x)){ps:Array (Nat×Operand)}(hk:I0 cx d h ty n t ps.toList K):Ok P w0 g0 h0 h g w (Instr.buildSlice ty n (ps.map fun(i,x)=>(i,ρ x))) K:=by
 unfold I0 at hk;split at hk
 .rename_i e hs;split at hk
  .rename_i PJ QQ;have QQ:=AM QQ;split at hk
   .exact hk.elim
   .rename_i m hm;split at hk
    .rename_i Hp;have Hp:=Gv Hp;have qq:(cx.T e).zc≠[]:=fun e0=>by rw[e0]at QQ;rw[hm]at QQ;cases QQ
     have zN:∀c∈List.replicate n ((cx.T e).zc.map AV.v),c.length=(cx.T e).size:=fun c hc=>by rw[Ck hc,AS];exact QQ
     have xR:CJ g w Fq (List.replicate n ((cx.T e).zc.map AV.v)).flatten ((Array.range (n*(cx.T e).size)).map fun k=>(cx.T e).zc.toArray[k % (cx.T e).zc.toArray.size]!).toList:=by
      have e1:((Array.range (n*(cx.T e).size)).map fun k=>(cx.T e).zc.toArray[k % (cx.T e).zc.toArray.size]!).toList=(List.replicate n (cx.T e).zc).flatten:=by
       rw[Ig n _ qq];simp[QQ]
      have e2:(List.replicate n ((cx.T e).zc.map AV.v)).flatten=(List.replicate n (cx.T e).zc).flatten.map AV.v:=by
       rw[Tr,List.map_replicate]
      rw[e1,e2];refine CJ.vals ?_;have FN:∀l:List AV,(∀a∈l,one a=true)->G7 l=true:=by
       intro l
       induction l with
       |nil=>intro _;rfl
       |cons a l ih=>intro h;simp[G7,h a (List.mem_cons_self ..),ih (fun b hb=>h b (List.mem_cons_of_mem _ hb))]
      refine FN _ (fun a ha=>?_);obtain⟨x,hx,rfl⟩:=Ak.1 ha;obtain⟨l,hl,hx⟩:=DQ.1 hx;rw[Ck hl]at hx;exact Nr PJ _ (Ak.2 ⟨x,hx,rfl⟩)
     obtain⟨Gm,Xt,k1,k2,k3,k4,k5⟩:=ZE hI ht (by rw[Bv]) zN xR hk;have oZ:Xt.size=n*(cx.T e).size:=by
      have:=k4.1
      rw[BB,Dm k3,k2]at this;exact this
     obtain⟨g',av,h',q1,q2,q3,q4⟩:=KB hI k1 (vs:=Xt) (cap:=n) e k3 ch oZ (by
      rw[k2,AB (by rw[BB,oZ];exact Ai _)];exact k4) w ⟨rfl,rfl,rfl,rfl⟩
     rw[k2]at q4;refine⟨_,_,g',av,h',?_,q1,q2,q3,q4⟩;obtain⟨z,z1,z2⟩:=Xv hT (w:=w) hm;have D5:=hT.size1 w hm;have e3:(Array.map (fun x:Nat×Operand=>match x with | (i,x)=>(i,ρ x)) ps).toList=ps.toList.map fun(i,x)=>(i,ρ x):=by simp
     have AbW:¬(n*(m+1)>2 ^ 24):=by rw[hm]at Hp;have Hp:n*(m+1)<=16777216:=Hp;omega
     simp only[Instr.buildSlice,Sem.run_bind,run_underlying (hT.slice hs),Result.andThen_ok,D5,Ah AbW];rw[e3];rw[hm]at k5
     by_cases h0:n*(m+1)=0
     .have zP:n=0:=by
       rcases Nat.mul_eq_zero.1 h0 with h | h
       .exact h
       .cases h
      subst zP;have er:Array.range 0=#[]:=rfl;simp only[HT,er,List.map_toArray,Eb]at k5;simp only[HT,OD,er,List.map_toArray,Eb,k5];simp[newRow]
     .rw[z2]at k5;simp only[Array.toArray_toList]at k5;simp only[Ah h0,Sem.run_bind,z1,Result.andThen_ok,Sem.run_pure,k5];simp[newRow]
    .exact hk.elim
  .exact hk.elim
 .exact hk.elim
end
theorem Gc{sz:Nat}:∀{es:List (List AV)},CR sz es->∀c∈es,c.length=sz
 | [],_,c,h=>by cases h
 |d::es,h,c,hc=>by
  rcases Ay.1 hc with rfl | hc
  .exact h.1
  .exact Gc h.2 c hc
def Pc(x:Value)(n sz:Nat)(news:List Value):Prop:=
 news.length=n*sz/\(∀v∈news,v.oneCell'=true)/\∃(a:Option Addr) (c:Nat),x=.slice a n c/\(n=0\/∃b:Addr,a=some b/\∀j u,news[j]?=some u->w.cell? (b.add j)=some u)
theorem Pc.of_rep{w:World}{x:Value}(h:Br g w U (.slice .none es) x)(hl:∀c∈es,c.length=sz) :
  ∃news,Pc w x es.length sz news/\CJ g w Fq es.flatten news:=by
 cases h with
 |snil _ a cap=>exact⟨[],⟨by simp,by simp,a,cap,rfl,.inl rfl⟩,by simp,by simp,fun i av x h1 h2=>by simp at h2⟩
 |slice _ _ b off GW cap val hc QN Dg D8=>
  have hf:=Dm hl;have key:∀j,j<es.length*sz->∃cs,es[j / sz]?=some cs/\es.flatten[j]?=cs[j % sz]?/\j % sz<cs.length/\GW=sz/\j=j / sz*sz+j % sz:=by
   intro j hj;have cM:0<sz:=Nat.pos_of_ne_zero (fun e=>by rw[e]at hj;omega);have vE:j=j / sz*sz+j % sz:=by rw[Nat.mul_comm];exact(VZ j sz).symm
   have hi:j / sz<es.length:=(Mp cM).2 hj;have ac:j % sz<sz:=Nat.mod_lt _ cM;have h1:es[j / sz]?=some es[j / sz]:=At hi;have h2:=FB hl h1 ac;rw[<-vE]at h2;have h3:=hl _ (Aq hi);exact⟨_,h1,h2,by rw[h3];exact ac,by rw[<-h3];exact(QN _ _ h1).symm,vE⟩
  have L8:∀j,j<es.length*sz->∃av,es.flatten[j]?=some av/\w.cell? ⟨b,off+j,none⟩=some (val (j / sz) (j % sz))/\(val (j / sz) (j % sz)).oneCell'=true/\Br g w Fq av (val (j / sz) (j % sz)):=by
   intro j hj;obtain⟨cs,k1,k2,k3,rfl,k5⟩:=key j hj;have mc:cs[j % GW]?=some cs[j % GW]:=At k3;obtain⟨_,c2,c3⟩:=Dg _ _ _ _ k1 mc;rw[GX,<-k5]at c2;exact⟨_,k2.trans mc,c2,c3,D8 _ _ _ _ k1 mc⟩
  refine⟨(List.range (es.length*sz)).map fun j=>val (j / sz) (j % sz),⟨by simp,fun v hv=>?_,some ⟨b,off,none⟩,cap,rfl,.inr ⟨_,rfl,fun j u hu=>?_⟩⟩,by rw[hf];simp,fun v hv=>?_,fun i av x h1 h2=>?_⟩
  .obtain⟨j,hj,rfl⟩:=Ak.1 hv;obtain⟨_,_,_,c,_⟩:=L8 j (IW.1 hj);exact c
  .obtain⟨hj,rfl⟩:=Hq hu;rw[Addr.add_lit];exact(L8 j hj).choose_spec.2.1
  .obtain⟨j,hj,rfl⟩:=Ak.1 hv;obtain⟨_,_,_,c,_⟩:=L8 j (IW.1 hj);exact c
  .obtain⟨hj,rfl⟩:=Hq h2;obtain⟨ww,c1,_,_,c4⟩:=L8 i hj;rw[h1]at c1;cases c1;exact c4
section
variable {P:Program}{T:GV}(hT:Ci P T)
include hT
theorem H1{n:Nat}(hs:(T e).size=n+1):∃i z,P.info? e=some i/\i.zero=some z/\i.size=(T e).size/\i.bytes=(T e).bytes/\(T e).zc=z.cells.toList:=by
 rcases hT e with h | h
 .rw[h]at hs;cases hs
 unfold jW at h;split at h
 .split at h
  .rename_i d i h1 h2 _ z h3;exact⟨i,z,h2,h3,by rw[h],by rw[h],by rw[TI.zc_cells,h]⟩
  .rw[h]at hs;cases hs
 .rw[h]at hs;cases hs
theorem Jm(w:World){t ty k:Nat}(ht:(T t).d=.slice e)(hk:(T e).size=k+1)(a a' : Option Addr)(n cap c:Nat)(hc:n<=cap) :
  (Builtin.append_ #[t,t] ty #[.slice a n cap,.slice a' 0 c]).run P w=.ok (.slice a n cap) w:=by
 have hu:=hT.slice ht;cases a<;>cases a'<;>simp[Builtin.append_,run_underlying hu,hT.size1 w hk,Builtin.lenOf,hc,Builtin.firstCells,loadCells,loadCellsFrom,storeCells]
theorem Ih(w:World){t ty k:Nat}(ht:(T t).d=.slice e)(hk:(T e).size=k+1)(hz:(T e).zc.length=(T e).size){s x:Value}{n m c:Nat}{olds news:List Value}{a a' : Option Addr}(hso:Pc w s n (T e).size olds)(hs:s=.slice a n cap)(KO:a=none->cap=0)(hsx:Pc w x m (T e).size news)(hx:x=.slice a' m c)(hm:0<m)(hg:cap<n+m)(hb:(n+m)*(T e).bytes<=140737488355328)(h63:n+m<=9223372036854775807) :
  ∃nc rest,(Builtin.append_ #[t,t] ty #[s,x]).run P w=.ok (.slice (some ⟨w.heap.size,0,none⟩) (n+m) nc) (w.drew.alloc (.cells (olds++news++rest).toArray e (0,0)))/\n+m<=nc /\
   (olds++news++rest).length=nc*(T e).size:=by
 obtain⟨i,z,i1,i2,i3,i4,i5⟩:=H1 hT hk;have hu:=hT.slice ht;obtain⟨n1,n2,a1,c1,n3,n4⟩:=hsx;subst hx;cases n3;rcases n4 with h | ⟨b,rfl,Js⟩
 .omega
 .have QQ:z.cells.size=(T e).size:=by rw[<-hz,i5];simp
  have aa:∀(nc:Nat) (pre:List Value),pre.length=(n+m)*(T e).size->n+m<=nc->(pre++(Builtin.zeroCells z.cells (nc-(n+m))).toList).length=nc*(T e).size:=by
   intro nc pre hp Hp;have e1:(Builtin.zeroCells z.cells (nc-(n+m))).toList.length=(nc-(n+m))*(T e).size:=by simp only[BB,size_zeroCells,QQ]
   rw[Ac,e1,hp,<-E8]
   congr 1;omega
  obtain⟨o1,o2,a2,c2,o3,o4⟩:=hso;subst hs;cases o3;cases a with
  |none=>
   obtain rfl:=KO rfl;have zP:n=0:=by
    rcases o4 with h | ⟨b',h,_⟩
    .exact h
    .cases h
   subst zP;have ho:olds=[]:=AL (by simpa using o1);subst ho;have hr:=run_append_nil (P:=P) w t ty e i z hu i1 i2 b m c news (by rw[i3];exact n1) Js hm ch (by rw[i4];rw[A7]at hb;omega);refine⟨grownCap w m 0 e,(Builtin.zeroCells z.cells (grownCap w m 0 e-m)).toList,?_,by rw[A7];exact grownCap_ge w m 0 e,?_⟩
   .rw[hr,A7]
    congr 3
    apply OX;simp
   .have:=aa (grownCap w m 0 e) news (by rw[A7];exact n1) (by rw[A7];exact grownCap_ge w m 0 e)
    rw[A7]at this;simpa using this
  |some b'=>
   have GB:∀j u,olds[j]?=some u->w.cell? (b'.add j)=some u:=by
    rcases o4 with h | ⟨b2,h,h'⟩
    .intro j u hj;rw[h,HT]at o1
     have:olds=[]:=AL o1
     rw[this]at hj;simp at hj
    .cases h;exact h'
   have hr:=run_append_grow (P:=P) w t ty e i z hu i1 i2 b' n cap olds (by rw[i3];exact o1) GB b m c news (by rw[i3];exact n1) Js hg ch (by rw[i4];exact growslice_fits hg hb);refine⟨grownCap w (n+m) cap e,(Builtin.zeroCells z.cells (grownCap w (n+m) cap e-(n+m))).toList,?_,grownCap_ge w (n+m) cap e,aa _ _ (by rw[Ac,o1,n1,<-E8]) (grownCap_ge w (n+m) cap e)⟩;rw[hr]
   congr 3
   apply OX;simp
end
end Go.Eng
