/- Lemmas 5. -/
import Derived.Test.YtkjhcikodmiceaaGreatDoorCA04
import Derived.Test.YtkjhcikodmiceaaGreatDoorProg
namespace Go.Eng
open Go.RowKit (Below)
abbrev Ao8:=List TI
abbrev Ao9:=List Value
variable {U:Nat->Prop}{w:World}{x:Value}{g:D}{w':World}{av:AV}{g':D}
theorem O.mono(hk:D8 g w g' w')(h:O g w U av x) :
  ∀{U' : Nat->Prop},(∀i,U i->U' i)->JA g g' U->O g' w' U' av x:=by
 induction h with
 |v U x=>grind [v]
 |junk U x=>grind [junk]
 |snil U a cap=>grind [snil]
 |slice U es b off sz cap val hc hl Dj DN ih=>
  intro U' _ _;refine .slice U' es b off sz cap val hc hl (fun i cs j av h1 h2=>?_) (fun i cs j av h1 h2=>ih i cs j av h1 h2 (fun _ h=>h) (fun _ h=>h.elim));obtain⟨a1,a2,a3⟩:=Dj i cs j av h1 h2;obtain⟨k1,k2,_⟩:=hk _ _ a1<;>simp_all
 |tok U r sz es x h hl hu ht hn hx ih=>
  intro U' hU hg;obtain⟨g1,g2,g3,g4⟩:=hg r hu;refine .tok U' r sz es x (ih hU hg) hl (hU r hu) (g1.trans ht) (Az hn g2) (fun e=>?_)
  grind
 |ver U r sz v es x h hl hu ht hn hx ih=>
  intro U' hU hg;obtain⟨g1,g2,g3,g4⟩:=hg r hu;refine .ver U' r sz v es x (ih hU hg) hl (hU r hu) (g1.trans ht) (Az hn g2) (fun e=>?_)
  grind
 |full U sz es x h hl hx ih=>
  grind [full]
 |msl U r n a cap hu ht hn ha hx=>
  intro U' hU hg;obtain⟨g1,g2,g3,g4⟩:=hg r hu<;>grind [msl]
 |agg U cs vs hs h1 h ih=>grind [agg]
 |tup U cs vs hs h ih=>grind [tup]
 |cptr U cs b off val Dj DN ih=>
  intro U' _ _;refine .cptr U' cs b off val (fun j av h=>?_) (fun j av h=>ih j av h (fun _ h=>h) (fun _ h=>h.elim));obtain⟨a1,a2,a3⟩:=Dj j av h;obtain⟨k1,k2,_⟩:=hk _ _ a1<;>simp_all
 |ref U r off b hu ht hx=>
  intro U' hU hg;obtain⟨g1,g2,g3,g4⟩:=hg r hu<;>grind [ref]
 |eref U r n sz i off b cap hu ht hn hx=>
  intro U' hU hg;obtain⟨g1,g2,g3,g4⟩:=hg r hu<;>grind [eref]
 |mref U r b hu ht hx=>
  intro U' hU hg;obtain⟨g1,g2,g3,g4⟩:=hg r hu<;>grind [mref]
 |cmap U sh BM b es ck hS hb hm h ih=>
  intro U' _ _;obtain⟨k1,k2,k3⟩:=hk _ _ hS;exact .cmap U' sh BM b es ck k1 (k3 es ck hb) hm (fun i kv e a b=>ih i kv e a b (fun _ h=>h) (fun _ h=>h.elim))
 |clo U f cs vs hs h ih=>grind [clo]
theorem D8.refl(g:D)(w:World):D8 g w g w:=fun _ _ h=>⟨h,rfl,fun _ _ h=>h⟩
theorem D8.trans{g g1 g2:D}{w w1 w2:World}(h:D8 g w g1 w1)(k:D8 g1 w1 g2 w2):D8 g w g2 w2:=fun b o hS=>
 let ⟨a1,a2,a3⟩:=h b o hS
 let ⟨b1,b2,b3⟩:=k b o a1
 ⟨b1,b2.trans a2,fun es ck he=>b3 es ck (a3 es ck he)⟩
theorem JA.refl(g:D)(U:Nat->Prop):JA g g U:=fun _ _=>⟨rfl,Af _,fun _=>rfl,fun _=>rfl⟩
theorem JA.trans{g1 g2:D}{U1:Nat->Prop}(h:JA g g1 U)(hU:∀i,U i->U1 i)(k:JA g1 g2 U1):JA g g2 U:=fun i hi=>by
 obtain⟨a1,a2,a3,a4⟩:=h i hi;obtain⟨b1,b2,b3,b4⟩:=k i (hU i hi)<;>grind [Nat.le_trans]
theorem Le.refl(h:Nat->HO)(g:D)(w:World):Le h g w h g w:=⟨.refl _ _,fun _ h=>h,.refl _ _⟩
theorem Le.trans{h h1 h2:Nat->HO}{g g1 g2:D}{w w1 w2:World}(a:Le h g w h1 g1 w1)(b:Le h1 g1 w1 h2 g2 w2):Le h g w h2 g2 w2:=
 ⟨a.gh.trans a.us b.gh,fun i hi=>b.us i (a.us i hi),a.keeps.trans b.keeps⟩
theorem O.le{h h' : Nat->HO}(k:Le h g w h' g' w')(r:O g w (L h) av x):O g' w' (L h') av x:=
 r.mono k.keeps k.us k.gh
theorem O.up(r:O g w DS av x)(U:Nat->Prop):O g w U av x:=
 r.mono (.refl g w) (fun _ h=>h.elim) (.refl g _)
theorem Cg.mono{g g' : D}{w w' : World}{U U' : Nat->Prop}{cs:List AV}{vs:Ao9}(r:Cg g w U cs vs)(hk:D8 g w g' w')(hU:∀i,U i->U' i)(hg:JA g g' U):Cg g' w' U' cs vs:=
 ⟨r.1,r.2.1,fun i av x h1 h2=>(r.2.2 i av x h1 h2).mono hk hU hg⟩
theorem O.cptr_drop{cs:List AV}{b off:Nat}(n:Nat)(h:O g w U (.cptr cs) (.pointer (some ⟨b,off,none⟩))) :
  O g w U (.cptr (cs.drop n)) (.pointer (some ⟨b,off+n,none⟩)):=by
 cases h with
 |cptr _ _ _ _ val Dj DN=>
  refine .cptr U _ b (off+n) (fun j=>val (n+j)) (fun j av h=>?_) (fun j av h=>?_)
  all_goals grind
theorem O.slice_none{tk:Tk}{es:C0}(h:O g w U (.slice tk es) x):O g w DS (.slice .none es) x:=by
 cases h with
 |snil U a cap=>grind [snil]
 |slice U es b off sz cap val hc hl Dj DN=>exact .slice DS es b off sz cap val hc hl Dj DN
 |tok U r sz es x h=>cases h with
  |snil U a cap=>grind [snil]
  |slice U es b off sz cap val hc hl Dj DN=>exact .slice DS es b off sz cap val hc hl Dj DN
 |ver U r sz v es x h=>cases h with
  |snil U a cap=>grind [snil]
  |slice U es b off sz cap val hc hl Dj DN=>exact .slice DS es b off sz cap val hc hl Dj DN
 |full U sz es x h=>cases h with
  |snil U a cap=>grind [snil]
  |slice U es b off sz cap val hc hl Dj DN=>exact .slice DS es b off sz cap val hc hl Dj DN
theorem O.str0{g:D}{w:World}{h:Nat->HO}(ho:∀r,DE g w (L h) r (h r)){av:AV}{x:Value}(r:O g w (L h) av x):O g w DS (str0 h av) x:=by
 cases av with
 |v y=>cases r;exact .v _ _
 |slice tk es=>exact r.slice_none
 |ref i off=>
  simp only[Eng.str0];split
  .rename_i cs hc;have h1:=ho i;rw[hc]at h1;obtain⟨ht,b,hb,hr⟩:=h1;cases r with
   |ref _ _ _ b' hu ht' hx=>
    rw[hb]at hx;cases hx;simpa using hr.cptr_drop off
  grind [junk]
 |mref i=>
  simp only[Eng.str0];split
  .rename_i sh BM hc;have h1:=ho i;rw[hc]at h1;obtain⟨ht,b,hb,hr⟩:=h1<;>grind [cases O]
  grind [junk]
 |cptr cs=>cases r with |cptr _ _ b off val Dj DN=>exact .cptr _ _ b off val Dj DN
 |cmap sh m=>cases r with |cmap _ _ _ b es ck hS hb hm hh=>exact .cmap _ _ _ b es ck hS hb hm hh
 |_=>exact .junk _ _
theorem O.str{g:D}{w:World}{h:Nat->HO}(ho:∀r,DE g w (L h) r (h r)){av:AV}{x:Value}(r:O g w (L h) av x):O g w DS (str h av) x:=by
 cases av with
 |agg cs=>cases r with
  |agg _ _ vs hs h1 hr=>
   refine .agg _ _ vs aa0 h1 (fun i av x a b=>?_)
   grind [str0]
 |clo f cs=>cases r with
  |clo _ _ _ vs hs hr=>
   refine .clo _ f _ vs aa0 (fun i av x a b=>?_)
   grind [str0]
 |v y=>exact r.str0 ho
 |slice tk es=>exact r.str0 ho
 |ref i off=>exact r.str0 ho
 |mref i=>exact r.str0 ho
 |cptr cs=>exact r.str0 ho
 |cmap sh m=>exact r.str0 ho
 |msl i n=>exact r.str0 ho
 |tup cs=>exact r.str0 ho
 |eref i n z j o=>exact r.str0 ho
 |junk=>exact r.str0 ho
theorem O.rsv{g:D}{w:World}{h:Nat->HO}(ho:∀r,DE g w (L h) r (h r)){av:AV}{x:Value}(r:O g w (L h) av x):O g w (L h) (rsv h av) x:=by
 cases av with
 |ref i off=>
  simp only[Eng.rsv];split
  .rename_i cs hc
   have:=r.str0 ho
   grind [Eng.str0,O.up]
  omega
 |mref i=>
  simp only[Eng.rsv];split
  .rename_i sh BM hc
   have:=r.str0 ho
   grind [Eng.str0,O.up]
  omega
 |_=>exact r
end Go.Eng
namespace Go.Eng
variable {k:IntKind}{w w':World}{t:Nat}{m:Sem Value}{k':IntKind}{X Y:Operand}{a:Int}{op:BinOp}{g:D}{b:Bool}{g':D}(P:Program)(h:Nat->HO)(r:Nat)(o:HO)
def D.upd(g:D)(r:Nat)(x:Value)(n:Nat)(t:Bool)(o:Option Nat)(S:Nat->Nat->Prop):D:=
 ⟨fun i=>if i=r then x else g.ρ i,fun i=>if i=r then n else g.ln i,fun i=>if i=r then t else g.tk i,fun i=>if i=r then o else g.own i,S⟩
theorem Dw{i r:Nat}(h:i≠r):Nat.beq i r=false:=by
 grind [Nat.eq_of_beq_eq_true]
theorem A0:AS h r o r=o:=by
 grind [Nat.beq_refl,AS]
theorem BS(i:Nat)(o:HO)(hi:i≠r):AS h r o i=h i:=by
 grind [AS,Dw]
theorem DC{h:Nat->HO}{r:Nat}{o:HO}(ho:o≠.free)(i:Nat)(hi:L h i):L (AS h r o) i:=by
 grind [L,A0,BS]
theorem ZF.keep(h:ZF g w)(hk:D8 g w g' w'):ZF g' w':=by
 obtain⟨⟨h1,m,h2⟩,h3⟩:=h;obtain⟨k1,k2,_⟩:=hk _ _ h1;refine⟨⟨k1,m,k2.trans h2⟩,fun x hx=>?_⟩;obtain⟨e1,e2,_⟩:=hk _ _ (h3 x hx).1<;>grind
theorem DE.same{U U' : Nat->Prop}{r:Nat}{o:HO}(h:DE g w U r o)(hk:D8 g w g' w')(hU:∀i,U i->U' i)(hg:JA g g' U)(h1:g'.ρ r=g.ρ r)(h2:g'.ln r=g.ln r)(h3:g'.tk r=g.tk r)(h4:g'.own r=g.own r)(hb:∀b,o.live->g.own r=some b->w'.heap[b]?=w.heap[b]?/\∀k,g'.S b k->g.S b k):DE g' w' U' r o:=by
 cases o with
 |free=>trivial
 |dead=>trivial
 |cells cs=>
  obtain⟨t,b,E,vs,a1,a2,a3,a4,a5⟩:=h;obtain⟨c1,c2⟩:=hb b trivial a1;exact⟨h3.trans t,b,E,vs,h4.trans a1,h1.trans a2,c1.trans a3,a4.mono hk hU hg,fun k hk'=>a5 k (c2 k hk')⟩
 |ro cs=>
  obtain⟨t,b,a1,a2⟩:=h;exact⟨h3.trans t,b,h1.trans a1,a2.mono hk (fun _ h=>h) (fun _ h=>h.elim)⟩
 |tok sz n=>
  obtain⟨t,l,a,cap,a1,a2⟩:=h;refine⟨h3.trans t,h2.trans l,a,cap,h1.trans a1,?_⟩;rcases a2 with ⟨e1,e2⟩ | ⟨e1,b,E,vs,off,e2,e3,e4,e5,e6⟩
  .simp_all
  .obtain⟨c1,c2⟩:=hb b trivial e3;exact .inr ⟨e1,b,E,vs,off,e2,h4.trans e3,e4.eq c1,e5,fun o ho=>e6 o (c2 o ho)⟩
 |var sz v n=>
  obtain⟨t,l,a,cap,a1,a2⟩:=h;refine⟨h3.trans t,h2.trans l,a,cap,h1.trans a1,?_⟩;rcases a2 with ⟨e1,e2⟩ | ⟨e1,b,E,vs,off,e2,e3,e4,e5,e6⟩
  .simp_all
  .obtain⟨c1,c2⟩:=hb b trivial e3;exact .inr ⟨e1,b,E,vs,off,e2,h4.trans e3,e4.eq c1,e5,fun o ho=>e6 o (c2 o ho)⟩
 |vox v=>exact⟨h3.trans h.1,h2.trans h.2⟩
 |raw b ob=>
  obtain⟨t,a1,a2,a3,a4⟩:=h;obtain⟨c1,c2⟩:=hb b trivial a1;exact⟨h3.trans t,h4.trans a1,c1.trans a2,a3,fun k hk'=>a4 k (c2 k hk')⟩
 |arr sz es=>
  obtain⟨t,l,a0,a1⟩:=h;refine⟨h3.trans t,h2.trans l,a0,?_⟩;rcases a1 with ⟨e1,e2,e3⟩ | ⟨b,cap,E,vs,e1,e2,e3,e4,e5,e6,e7⟩
  .simp_all
  .obtain⟨c1,c2⟩:=hb b trivial e2;exact .inr ⟨b,cap,E,vs,h1.trans e1,h4.trans e2,e3,c1.trans e4,e5,e6.mono hk (fun _ h=>h) (fun _ h=>h.elim),fun o ho=>e7 o (c2 o ho)⟩
 |map sh BM=>
  obtain⟨t,b,es,ck,a1,a2,a3,a4,a5,a6⟩:=h;obtain⟨c1,c2⟩:=hb b trivial a1;exact⟨h3.trans t,b,es,ck,h4.trans a1,h1.trans a2,c1.trans a3,a4,fun i kv e p q=>(a5 i kv e p q).mono hk (fun _ h=>h) (fun _ h=>h.elim),fun k hk'=>a6 k (c2 k hk')⟩
 |mapU sh BM=>
  obtain⟨t,b,es,ck,a1,a2,a3,a4,a5,a6⟩:=h;obtain⟨c1,c2⟩:=hb b trivial a1;exact⟨h3.trans t,b,es,ck,h4.trans a1,h1.trans a2,c1.trans a3,a4,fun i kv e p q=>(a5 i kv e p q).mono hk hU hg,fun k hk'=>a6 k (c2 k hk')⟩
 |rom sh BM=>
  obtain⟨t,b,a1,a2⟩:=h;exact⟨h3.trans t,b,h1.trans a1,a2.mono hk (fun _ h=>h) (fun _ h=>h.elim)⟩
 |iter all rem DU=>
  obtain⟨t,b,mb,Ku,seen,st,es,ck,a1,a2,a3,a4,a5,a6,a7,a8,a9,bY,jK,a12,a13⟩:=h;obtain⟨c1,c2⟩:=hb b trivial a1;obtain⟨k1,k2,k3⟩:=hk _ _ a4
  exact⟨h3.trans t,b,mb,Ku,seen,st,es,ck,h4.trans a1,h1.trans a2,c1.trans a3,k1,k3 _ _ a5,a6,a7,a8,
   fun i kv e p q=>(a9 i kv e p q).mono hk (fun _ h=>h) (fun _ h=>h.elim),bY,jK,a12,fun k hk'=>a13 k (c2 k hk')⟩
theorem CH.upd{w0:World}{g0:D}{h0 h:Nat->HO}{g:D}{w:World}(hI:CH w0 g0 h0 h g w)(r:Nat)(o' : HO)(x:Value)(n:Nat)(t:Bool)(ow:Option Nat)(S' : Nat->Nat->Prop)(w' : World)
  (bch:Option Nat) (zK:w'.os=w.os/\w'.tape=w.tape/\w'.output=w.output/\w.heap.size<=w'.heap.size)
  (TL:∀k,k<w.heap.size->some k≠bch->w'.heap[k]?=w.heap[k]?)
  (hch:∀b,bch=some b->(h r).live/\g.own r=some b)
  (hS:∀b o,g.S b o->S' b o)
  (AjI : ∀b o,S' b o->g.S b o\/(b<w'.heap.size/\(w.heap.size<=b\/((h r).live/\g.own r=some b))))
  (hkc:∀b o,bch=some b->g.S b o->w'.cell? ⟨b,o,none⟩=w.cell? ⟨b,o,none⟩/\∀es ck,w.heap[b]?=some (.map es ck)->w'.heap[b]?=some (.map es ck))
  (how:∀b,o'.live->ow=some b->b<w'.heap.size/\(((h r).live/\g.own r=some b)\/w.heap.size<=b))
  (Ec:o'≠.free) (hgh:L h r->t=g.tk r/\g.ln r<=n/\(g.tk r=false->x=g.ρ r)/\(n=g.ln r->x=g.ρ r))
  (MC:JA g (g.upd r x n t ow S') (L h)->D8 g w (g.upd r x n t ow S') w'->DE (g.upd r x n t ow S') w' (L (AS h r o')) r o') :
  CH w0 g0 h0 (AS h r o') (g.upd r x n t ow S') w'/\Le h g w (AS h r o') (g.upd r x n t ow S') w':=by
 have hSn:∀b o,S' b o->g.S b o\/(b<w'.heap.size/\∀r',r'≠r->(h r').live->g.own r'≠some b):=fun b o hs=>by
  rcases AjI b o hs with h1 | ⟨h1,h2⟩
  .simp_all
  .refine .inr ⟨h1,fun r' hr hl e=>?_⟩;rcases h2 with h2 | ⟨h2,h3⟩
   .have:=(hI.loc r' b hl e).1;omega
   grind [CH.inj]
 have rk:JA g (g.upd r x n t ow S') (L h):=by
  intro i hi
  grind [D.upd]
 have hK:D8 g w (g.upd r x n t ow S') w':=by
  intro b o hb;refine⟨hS b o hb,?_⟩
  grind [World.cell?,CH.slt]
 have Na:∀i,L h i->L (AS h r o') i:=fun i hi=>DC Ec i hi;refine⟨⟨zK.1.trans hI.os,zK.2.1.trans hI.tape,zK.2.2.1.trans hI.output,Az hI.size zK.2.2.2,fun b hb hn=>?_,fun b o hb=>?_,fun i=>?_,fun i j b hi hj ei ej=>?_,fun i b hi ei=>?_,fun b o hs=>?_,hI.glob.keep hK⟩,rk,Na,hK⟩
 .grind [CH.loc,CH.frame]
 .rcases hSn b o hb with h1 | h1<;>grind [CH.slt]
 .by_cases e:i=r
  .grind [A0]
  .rw[BS _ _ _ _ e];refine(hI.objs i).same hK Na rk (by simp[D.upd,e]) (by simp[D.upd,e]) (by simp[D.upd,e]) (by simp[D.upd,e]) (fun b hl hb=>?_);have CL:=(hI.loc i b hl hb).1;refine⟨TL b CL (fun e'=>?_),fun k hk=>?_⟩
   .grind [CH.inj]
   .rcases hSn b k hk with h1 | h1<;>simp_all
 .have key:∀k,k≠r->(AS h r o' k).live->(h k).live:=fun k hk hl=>by grind [BS]
  by_cases e1:i=r<;>by_cases e2:j=r
  .omega
  .subst e1;simp only[D.upd,if_true,AB e2]at ei ej;rw[A0]at hi;have hl:=key j e2 hj;rcases(how b hi ei).2 with ⟨q1,q2⟩ | q
   .grind [CH.inj]
   .have:=(hI.loc j b hl ej).1;omega
  .subst e2;simp only[D.upd,if_true,AB e1]at ei ej;rw[A0]at hj;have hl:=key i e1 hi;rcases(how b hj ej).2 with ⟨q1,q2⟩ | q
   .grind [CH.inj]
   .have:=(hI.loc i b hl ei).1;omega
  grind [D.upd,CH.inj]
 all_goals grind [D.upd,A0,BS,Nat.lt_of_lt_of_le,CH.loc,CH.size,CH.sg]
theorem CH.heapEq{w0:World}{g0:D}{h0 h:Nat->HO}(hI:CH w0 g0 h0 h g w)(zK:w'.os=w.os/\w'.tape=w.tape/\w'.output=w.output)(hh:w'.heap=w.heap) :
  CH w0 g0 h0 h g w'/\Le h g w h g w':=by
 have hc:∀a,w'.cell? a=w.cell? a:=fun a=>by grind [World.cell?]
 have hK:D8 g w g w':=fun b o hb=>⟨hb,hc _,fun es ck he=>by simp_all⟩;refine⟨⟨zK.1.trans hI.os,zK.2.1.trans hI.tape,zK.2.2.trans hI.output,by rw[hh];exact hI.size,fun b hb hn=>by grind [CH.frame],fun b o hb=>by rw[hh];exact hI.slt b o hb,fun r=>?_,hI.inj,fun r b h1 h2=>by rw[hh];exact hI.loc r b h1 h2,hI.sg,hI.glob.keep hK⟩,.refl _ _,fun _ h=>h,hK⟩;exact(hI.objs r).same hK (fun _ h=>h) (.refl _ _) rfl rfl rfl rfl (fun b _ _=>⟨by rw[hh],fun _ h=>h⟩)
def PJ:TypeDesc->TD
 |.bool=>.bool
 |.int k=>.int k
 |.string=>.string
 |.slice e=>.slice e
 |.array n e=>.array n e
 | .struct fs => bif fs.any (fun f => f.name == "_") then .other else .struct (fs.toList.map fun f => (f.type, f.offset))
 |.pointer e=>.ptr e
 |.map k e=>.map k e
 |.func ..=>.func
 |.interface _=>.iface
 |_=>.other
def pF(t:Nat):TI:=
 match P.underlying t,P.info? t with
 |some d,some i=>match i.zero with
  |some z=>⟨PJ d,i.size,i.bytes,z,!P.stoodInHeld t&&!P.eqGuardType P.depth t⟩
  |none=>⟨.other,0,0,.nilIface,false⟩
 |_,_=>⟨.other,0,0,.nilIface,false⟩
def J8:TD->Bool
 |.struct _=>true
 |.array _ _=>true
 |_=>false
theorem TI.zc_cells(i:TI):i.zc=i.zero.cells.toList:=by
 grind [TI.zc,Value.cells]
def jr:TI:=⟨.other,0,0,.nilIface,false⟩
def B8(T:GL):Prop:=∀t,T t=jr\/T t=pF P t
section
variable {P:Program}{T:GL}(hT:B8 P T)
include hT
theorem B8.get(h:(T t).d≠.other):∃d i z,P.underlying t=some d/\(T t).d=PJ d/\P.info? t=some i/\i.zero=some z/\(T t).size=i.size/\(T t).bytes=i.bytes /\
  (T t).zero=z/\((T t).eqok=true->P.stoodInHeld t=false/\P.eqGuardType P.depth t=false):=by
 rcases hT t with e | e
 .rw[e]at h;exact absurd rfl h
 unfold pF at e;split at e
 .split at e
  all_goals simp_all
 simp_all
end
theorem fN(fs:Array Field):PJ (.struct fs)=.other\/PJ (.struct fs)=.struct (fs.toList.map fun f=>(f.type,f.offset)):=by
 grind [PJ]
section
variable {P:Program}{T:GL}(hT:B8 P T)
include hT
theorem B8.slice{t e:Nat}(h:(T t).d=.slice e):P.underlying t=some (.slice e):=by
 obtain⟨d,i,z,h1,h2,_⟩:=hT.get (t:=t) aa0;rw[h]at h2;cases d<;>grind [PJ]
theorem B8.string{t:Nat}(h:(T t).d=.string):P.underlying t=some .string:=by
 obtain⟨d,i,z,h1,h2,_⟩:=hT.get (t:=t) aa0;rw[h]at h2;cases d<;>grind [PJ]
theorem B8.bool{t:Nat}(h:(T t).d=.bool):P.underlying t=some .bool:=by
 obtain⟨d,i,z,h1,h2,_⟩:=hT.get (t:=t) aa0;rw[h]at h2;cases d<;>grind [PJ]
theorem B8.int{t:Nat}{k:IntKind}(h:(T t).d=.int k):P.underlying t=some (.int k):=by
 obtain⟨d,i,z,h1,h2,_⟩:=hT.get (t:=t) aa0;rw[h]at h2;cases d<;>grind [PJ]
theorem B8.ptr{e:Nat}(h:(T t).d=.ptr e):P.underlying t=some (.pointer e):=by
 obtain⟨d,i,z,h1,h2,_⟩:=hT.get (t:=t) aa0;rw[h]at h2;cases d<;>grind [PJ]
theorem B8.iface(h:(T t).d=.iface):∃ms,P.underlying t=some (.interface ms):=by
 obtain⟨d,i,z,h1,h2,_⟩:=hT.get (t:=t) aa0;rw[h]at h2;cases d<;>grind [PJ]
theorem B8.map{t k e:Nat}(h:(T t).d=.map k e):P.underlying t=some (.map k e):=by
 obtain⟨d,i,z,h1,h2,_⟩:=hT.get (t:=t) aa0;rw[h]at h2;cases d<;>grind [PJ]
theorem B8.array{t n e:Nat}(h:(T t).d=.array n e):P.underlying t=some (.array n e):=by
 obtain⟨d,i,z,h1,h2,_⟩:=hT.get (t:=t) aa0;rw[h]at h2;cases d<;>grind [PJ]
theorem B8.struct {t : Nat} {fs : List (Nat × Nat)} (h : (T t).d=.struct fs) : ∃ fa : Array Field, P.underlying t=some (.struct fa) /\ fs=fa.toList.map (fun f => (f.type, f.offset)) /\ ∀ f ∈ fa.toList, f.name ≠ "_":=by
 obtain⟨d,i,z,h1,h2,_⟩:=hT.get (t:=t) aa0;rw[h]at h2;cases d<;>grind [List.mem_iff_getElem,PJ]
theorem B8.size(w:World){t:Nat}(h:(T t).d≠.other):(sizeOf t).run P w=.ok (T t).size w:=by
 obtain⟨d,i,z,h1,h2,h3,h4,h5,_⟩:=hT.get h;simp[sizeOf,typeInfo,h3,h5]
theorem B8.size1(w:World){n:Nat}(h:(T t).size=n+1):(sizeOf t).run P w=.ok (n+1) w:=by
 rcases hT t with e | e
 .rw[e]at h;cases h
 unfold pF at e;split at e
 .split at e
  .rename_i d i h1 h2 _ z h3;rw[e]at h;dsimp only at h;simp[sizeOf,typeInfo,h2,h]
  simp_all
 simp_all
theorem B8.isAgg(w:World){t:Nat}(h:(T t).d≠.other):(isAgg t).run P w=.ok (J8 (T t).d) w:=by
 obtain⟨d,i,z,h1,h2,_⟩:=hT.get h;rw[h2];rw[h2]at h;cases d with
 |struct fs=>
  rcases fN fs with e | e
  .simp_all
  .rw[e];simp[Go.isAgg,run_underlying h1,J8]
 |_=>simp[Go.isAgg,run_underlying h1,PJ,J8]
end
def Bm(g:D)(w:World)(m:Sem Value)(K:AV->Prop):Prop:=∃x av,m.run P w=.ok x w/\K av/\O g w (L h) av x
theorem U4{p:Prop}{K:AV->Prop}(h:Ja p K)(hb:b=true↔p):K (.v (.bool b)):=by
 cases b with
 |true=>exact h.1 (hb.1 rfl)
 |false=>exact h.2 (fun e=>by simp_all)
theorem LY(h:ikB k k'=true):k=k':=by cases k<;>cases k'<;>first | rfl | grind [ikB]
theorem Od(h:As a):IntKind.i64.wrap a=a:=by
 grind [As,IntKind.wrap,IntKind.bits,IntKind.signed]
theorem Kx:∀l m:List UInt8,(Op.bytesLess l m||l == m)=!Op.bytesLess m l
 | [],[]=>rfl
 | [],_::_=>rfl
 |_::_,[]=>rfl
 |a::l,b::m=>by
  have ih:=Kx l m
  grind [Op.bytesLess]
theorem JV(a b:CS):(a.toList == b.toList)=true↔a=b:=by
 rw[ByteArray.toList_eq,ByteArray.toList_eq];constructor
 .intro h;have h1:=eq_of_beq h;cases a<;>simp_all
 simp_all
section
variable {P:Program}{T:GL}{h:Nat->HO}{g:D}{w:World}{K:AV->Prop}
theorem Bm.bool{p:Prop}(hm:m.run P w=.ok (.bool b) w)(hb:b=true↔p)(hk:Ja p K):Bm P h g w m K:=
 ⟨_,_,hm,U4 hk hb,.v _ _⟩
theorem Bm.val{x:Value}(hm:m.run P w=.ok x w)(hk:K (.v x)):Bm P h g w m K:=⟨_,_,hm,hk,.v _ _⟩
theorem SF{t:Nat}{b:Int}(hk:WN op k a b K) :
  Bm P h g w (do eqGuard op t X Y (.int k a) (.int k' b);binOp op t (.int k a) (.int k' b)) K:=by
 cases op
 case shl=>exact Bm.val (by simp[eqGuard,binOp,Op.shift,DY,Int.not_lt.2 hk.1]) hk.2
 case shr=>exact Bm.val (by simp[eqGuard,binOp,Op.shift,DY,Int.not_lt.2 hk.1]) hk.2
 all_goals exact hk.elim
theorem mM{t:Nat}{b:Int}(hk:U0 op k a b K) :
  Bm P h g w (do eqGuard op t X Y (.int k a) (.int k b);binOp op t (.int k a) (.int k b)) K:=by
 have key:∀{k:IntKind},ZM op k a b K->Bm P h g w (do eqGuard op t X Y (.int k a) (.int k b);binOp op t (.int k a) (.int k b)) K:=by
  intro k hk;cases op
  case quo=>
   obtain⟨⟨h1,h2,h3⟩,hk⟩:=hk;have hb:¬b=0:=I
   exact Bm.val (by simp[eqGuard,binOp,Op.intDiv,hb,Int.tdiv_eq_ediv_of_nonneg h1,h3]) hk
  case rem=>
   obtain⟨⟨h1,h2⟩,hk⟩:=hk;have hb:¬b=0:=I
   exact Bm.val (by simp[eqGuard,binOp,Op.intDiv,hb,Int.tmod_eq_emod_of_nonneg h1]) hk
  case shl=>exact SF hk
  case shr=>exact SF hk
  all_goals first | exact hk.elim | exact Bm.val (by simp[eqGuard,binOp,Op.intArith,Op.intBits,Dv]) hk
 cases k with
 |i64=>
  unfold U0 at hk
  cases op<;>dsimp only at hk<;>first
   |exact hk.elim
   |(refine Bm.val ?_ hk.2;simp[eqGuard,binOp,Op.intArith,Od hk.1];done)
   |exact key (k:=.i64) hk
   |skip
  .obtain⟨⟨h1,h2,h3⟩,hk⟩:=hk;refine Bm.val ?_ hk;have e1:a.tdiv b=a / b:=Int.tdiv_eq_ediv_of_nonneg h1;have e3:a / b<=a:=Int.ediv_le_self b h1;have e2:IntKind.i64.wrap (a / b)=a / b:=Od ⟨by have:=Int.ediv_nonneg h1 (by omega:0<=b);omega,by grind [As]⟩;have hb:¬b=0:=I
   simp[eqGuard,binOp,Op.intDiv,hb,e1,e2]
 |_=>exact key hk
end
end Go.Eng
namespace Go.Eng
open Go.Proofs
abbrev dTI:TI:=jr
abbrev tF:TI:=⟨.func,1,8,.nilFunc,true⟩
abbrev tI:TI:=⟨.int .i64,1,8,.int .i64 0,true⟩
abbrev tP(n:Nat):TI:=⟨.ptr n,1,8,.pointer none,true⟩
abbrev tS(n:Nat):TI:=⟨.slice n,1,24,.slice none 0 0,true⟩
def sO{α:Type}(d:α):List α -> Nat -> α
 | [],_ => d
 |a::r,n => match n with |0 => a |n + 1 => sO d r n
abbrev tiN:TI:=jr
def Aly:Ao8:=[⟨.other,1,0,(.tuple #[]),true⟩,tF,tI,tI,⟨.bool,1,1,(.bool .false),true⟩,⟨.int .u8,1,1,(.int .u8 0),true⟩,⟨.int .u8,1,1,(.int .u8 0),true⟩,⟨.struct [(2,0),(3,1),(4,2),(6,3)],4,24,(.agg #[.int .i64 0,.int .i64 0,.bool .false,.int .u8 0]),true⟩,⟨.struct [(2,0),(3,1),(4,2),(6,3)],4,24,(.agg #[.int .i64 0,.int .i64 0,.bool .false,.int .u8 0]),true⟩,⟨.string,1,16,(.string ⟨#[]⟩),true⟩,⟨.string,1,16,(.string ⟨#[]⟩),true⟩,⟨.string,1,16,(.string ⟨#[]⟩),true⟩,⟨.int .u64,1,8,(.int .u64 0),true⟩,⟨.struct [(9,0),(12,1)],2,24,(.agg #[.string ⟨#[]⟩,.int .u64 0]),false⟩,⟨.struct [(9,0),(12,1)],2,24,(.agg #[.string ⟨#[]⟩,.int .u64 0]),false⟩,⟨.ptr 462,1,8,(.pointer .none),true⟩]
def Alz:Ao8:=[⟨.ptr 465,1,8,(.pointer .none),true⟩,⟨.ptr 472,1,8,(.pointer .none),true⟩,⟨.struct [(17,0)],1,8,(.agg #[.pointer .none]),false⟩,⟨.struct [(17,0)],1,8,(.agg #[.pointer .none]),false⟩,⟨.iface,1,16,.nilIface,true⟩,⟨.int .i32,1,4,(.int .i32 0),true⟩,⟨.slice 70,1,24,(.slice .none 0 0),true⟩,⟨.slice 478,1,24,(.slice .none 0 0),true⟩,⟨.struct [(22,0),(23,1)],2,48,(.agg #[.slice .none 0 0,.slice .none 0 0]),true⟩,⟨.struct [(22,0),(23,1)],2,48,(.agg #[.slice .none 0 0,.slice .none 0 0]),true⟩,⟨.slice 68,1,24,(.slice .none 0 0),true⟩,tF,tF,⟨.slice 53,1,24,(.slice .none 0 0),true⟩,⟨.slice 96,1,24,(.slice .none 0 0),true⟩,⟨.slice 92,1,24,(.slice .none 0 0),true⟩]
def AlA:Ao8:=[⟨.struct [(26,0),(29,1),(30,2),(31,3)],4,96,(.agg #[.slice .none 0 0,.slice .none 0 0,.slice .none 0 0,.slice .none 0 0]),true⟩,⟨.struct [(26,0),(29,1),(30,2),(31,3)],4,96,(.agg #[.slice .none 0 0,.slice .none 0 0,.slice .none 0 0,.slice .none 0 0]),true⟩,tI,⟨.other,1,0,(.tuple #[.agg #[.slice .none 0 0,.slice .none 0 0,.slice .none 0 0,.slice .none 0 0],.int .i64 0]),true⟩,tF,⟨.slice 45,1,24,(.slice .none 0 0),true⟩,⟨.other,1,0,(.tuple #[.slice .none 0 0,.int .i64 0]),true⟩,tF,tF,tF,⟨.struct [(3,0),(3,1),(3,2)],3,24,(.agg #[.int .i64 0,.int .i64 0,.int .i64 0]),true⟩,⟨.struct [(3,0),(3,1),(3,2)],3,24,(.agg #[.int .i64 0,.int .i64 0,.int .i64 0]),true⟩,tiN,⟨.struct [(9,0),(43,1)],4,40,(.agg #[.string ⟨#[]⟩,.int .i64 0,.int .i64 0,.int .i64 0]),true⟩,tiN,tiN]
def WE:Ao8:=[tiN,tiN,tiN,tiN,tiN,⟨.struct [(9,0),(43,1),(9,4),(9,5)],6,72,(.agg #[.string ⟨#[]⟩,.int .i64 0,.int .i64 0,.int .i64 0,.string ⟨#[]⟩,.string ⟨#[]⟩]),true⟩,tiN,tiN,tiN,tiN,tiN,tiN,tiN,tiN,tiN,tiN]
def AlB:Ao8:=[⟨.struct [(3,0),(3,1)],2,16,(.agg #[.int .i64 0,.int .i64 0]),true⟩,⟨.slice 64,1,24,(.slice .none 0 0),true⟩,⟨.slice 64,1,24,(.slice .none 0 0),true⟩,tiN,⟨.struct [(9,0),(66,1)],2,40,(.agg #[.string ⟨#[]⟩,.slice .none 0 0]),true⟩,tiN,⟨.struct [(9,0),(43,1),(26,4),(9,5),(9,6),(9,7),(4,8)],9,120,(.agg #[.string ⟨#[]⟩,.int .i64 0,.int .i64 0,.int .i64 0,.slice .none 0 0,.string ⟨#[]⟩,.string ⟨#[]⟩,.string ⟨#[]⟩,.bool .false]),true⟩,⟨.slice 76,1,24,(.slice .none 0 0),true⟩,tiN,tiN,tiN,tiN,⟨.struct [(9,0),(3,1),(3,2)],3,32,(.agg #[.string ⟨#[]⟩,.int .i64 0,.int .i64 0]),true⟩,tiN,tiN,tiN]
def AlC:Ao8:=[⟨.struct [(4,0),(37,1),(30,2),(31,3)],4,80,(.agg #[.bool .false,.slice .none 0 0,.slice .none 0 0,.slice .none 0 0]),true⟩,tiN,tiN,tiN,tiN,tiN,tiN,tiN,tiN,tiN,tiN,tiN,⟨.struct [(9,0),(3,1),(3,2)],3,32,(.agg #[.string ⟨#[]⟩,.int .i64 0,.int .i64 0]),true⟩,tiN,tiN,tiN]
def tU:Ao8:=[⟨.struct [(3,0),(9,1),(3,2),(3,3),(3,4),(3,5)],6,56,(.agg #[.int .i64 0,.string ⟨#[]⟩,.int .i64 0,.int .i64 0,.int .i64 0,.int .i64 0]),true⟩,tiN,⟨.map 45 70,1,8,(.map .none),true⟩,⟨.map 9 22,1,8,(.map .none),true⟩,tiN,⟨.struct [(98,0),(99,1)],2,16,(.agg #[.map .none,.map .none]),true⟩,tiN,tiN,tiN,tiN,⟨.map 9 70,1,8,(.map .none),true⟩,tiN,tiN,tF,tiN,⟨.map 9 4,1,8,(.map .none),true⟩]
def yd:Ao8:=[tiN,tiN,tiN,tiN,tiN,tiN,tiN,⟨.ptr 121,1,8,(.pointer .none),true⟩,tiN,⟨.struct [(9,0)],1,16,(.agg #[.string ⟨#[]⟩]),true⟩,tiN,⟨.ptr 33,1,8,(.pointer .none),true⟩,⟨.ptr 128,1,8,(.pointer .none),true⟩,⟨.ptr 225,1,8,(.pointer .none),true⟩,tiN,tiN]
def AlD:Ao8:=[⟨.struct [(125,0),(3,1)],2,16,(.agg #[.pointer .none,.int .i64 0]),true⟩,tiN,tiN,tiN,⟨.slice 3,1,24,(.slice .none 0 0),true⟩,tiN,tiN,⟨.struct [(9,0),(3,1),(4,2)],3,32,(.agg #[.string ⟨#[]⟩,.int .i64 0,.bool .false]),true⟩,tiN,tiN,tiN,tiN,tiN,tiN,tiN,tiN]
def AlE:Ao8:=[⟨.slice 9,1,24,(.slice .none 0 0),true⟩,⟨.map 9 3,1,8,(.map .none),true⟩,tiN,tiN,tiN,tiN,⟨.other,1,0,(.tuple #[.int .i64 0,.bool .false]),true⟩,tiN,tiN,⟨.ptr 163,1,8,(.pointer .none),true⟩,tiN,tiN,⟨.map 9 160,1,8,(.map .none),true⟩,⟨.map 9 66,1,8,(.map .none),true⟩,⟨.slice 258,1,24,(.slice .none 0 0),true⟩,⟨.map 96 3,1,8,(.map .none),true⟩]
def Agb:Ao8:=[⟨.slice 242,1,24,(.slice .none 0 0),true⟩,⟨.slice 31,1,24,(.slice .none 0 0),true⟩,tiN,⟨.struct [(26,0),(156,1),(157,2),(30,3),(158,4),(159,5),(4,6),(160,7),(37,8),(161,9)],10,176,(.agg #[.slice .none 0 0,.map .none,.map .none,.slice .none 0 0,.slice .none 0 0,.map .none,.bool .false,.slice .none 0 0,.slice .none 0 0,.slice .none 0 0]),true⟩,tiN,tiN,tF,tiN,tiN,tiN,tiN,tiN,tiN,tiN,tiN,tiN]
def Agc:Ao8:=[tiN,tiN,tiN,tiN,tF,⟨.ptr 281,1,8,(.pointer .none),true⟩,tiN,tiN,tiN,tiN,tiN,tF,tiN,tF,tiN,tiN]
def Agd:Ao8:=[tiN,tiN,tiN,tF,tiN,⟨.iface,1,16,.nilIface,false⟩,tiN,⟨.ptr 26,1,8,(.pointer .none),true⟩,⟨.ptr 68,1,8,(.pointer .none),true⟩,tiN,⟨.ptr 9,1,8,(.pointer .none),true⟩,tiN,⟨.ptr 65,1,8,(.pointer .none),true⟩,tiN,⟨.ptr 64,1,8,(.pointer .none),true⟩,tiN]
def Age:Ao8:=[⟨.ptr 3,1,8,(.pointer .none),true⟩,tF,tF,tiN,⟨.ptr 29,1,8,(.pointer .none),true⟩,⟨.ptr 53,1,8,(.pointer .none),true⟩,tF,tiN,⟨.ptr 30,1,8,(.pointer .none),true⟩,⟨.ptr 96,1,8,(.pointer .none),true⟩,tiN,tF,tiN,⟨.ptr 31,1,8,(.pointer .none),true⟩,⟨.ptr 92,1,8,(.pointer .none),true⟩,tF]
def Agf:Ao8:=[tiN,⟨.struct [(9,0),(3,1),(34,2)],3,32,(.agg #[.string ⟨#[]⟩,.int .i64 0,.int .i64 0]),true⟩,tiN,tiN,tiN,⟨.int .u64,1,8,(.int .u64 0),true⟩,tiN,tiN,tiN,tiN,⟨.ptr 302,1,8,(.pointer .none),true⟩,tiN,tiN,tiN,tiN,tiN]
def Agg:Ao8:=[⟨.int .u64,1,8,(.int .u64 0),true⟩,tiN,⟨.struct [(3,0),(70,1)],10,128,(.agg #[.int .i64 0,.string ⟨#[]⟩,.int .i64 0,.int .i64 0,.int .i64 0,.slice .none 0 0,.string ⟨#[]⟩,.string ⟨#[]⟩,.string ⟨#[]⟩,.bool .false]),true⟩,tiN,⟨.slice 249,1,24,(.slice .none 0 0),true⟩,tiN,tiN,tiN,tiN,⟨.struct [(68,0),(9,2),(3,3),(3,4)],5,72,(.agg #[.string ⟨#[]⟩,.slice .none 0 0,.string ⟨#[]⟩,.int .i64 0,.int .i64 0]),true⟩,tF,tiN,tiN,tiN,tiN,tiN]
def Agh:Ao8:=[tF,⟨.slice 325,1,24,(.slice .none 0 0),true⟩,⟨.slice 325,1,24,(.slice .none 0 0),true⟩,tiN,tiN,⟨.other,1,0,(.tuple #[.string ⟨#[]⟩,.bool .false]),true⟩,tiN,tiN,tiN,tiN,tiN,tiN,tiN,tiN,tiN,tiN]
def Agi:Ao8:=[tiN,tiN,tiN,tiN,⟨.array 3 3,3,24,(.agg #[.int .i64 0,.int .i64 0,.int .i64 0]),true⟩,tiN,tiN,tiN,tiN,⟨.struct [(25,0),(26,2),(158,3)],4,96,(.agg #[.slice .none 0 0,.slice .none 0 0,.slice .none 0 0,.slice .none 0 0]),true⟩,tiN,tiN,tF,tiN,tiN,tiN]
def Agj:Ao8:=[tiN,tiN,⟨.slice 208,1,24,(.slice .none 0 0),true⟩,tiN,tiN,tiN,tF,tiN,⟨.slice 5,1,24,(.slice .none 0 0),true⟩,tiN,tiN,⟨.int .u32,1,4,(.int .u32 0),true⟩,⟨.array 8 299,8,32,(.agg (Array.replicate 8 (.int .u32 0))),true⟩,tiN,⟨.struct [(300,0),(9,8),(229,9)],10,56,(.agg #[.int .u32 0,.int .u32 0,.int .u32 0,.int .u32 0,.int .u32 0,.int .u32 0,.int .u32 0,.int .u32 0,.string ⟨#[]⟩,.int .u64 0]),true⟩,⟨.array 8 5,8,8,(.agg (Array.replicate 8 (.int .u8 0))),true⟩]
def Agk:Ao8:=[tiN,⟨.slice 299,1,24,(.slice .none 0 0),true⟩,tiN,tiN,tI,⟨.other,1,0,(.tuple #[.int .i64 0,.int .i64 0]),true⟩,tiN,tiN,tiN,tiN,tiN,tiN,tiN,tiN,tF,tiN]
def Agl:Ao8:=[tiN,tiN,tiN,tiN,tiN,⟨.struct [(9,0),(4,1),(66,2)],3,48,(.agg #[.string ⟨#[]⟩,.bool .false,.slice .none 0 0]),true⟩,tF,tiN,tiN,tiN,tiN,tiN,tiN,tiN,tiN,tiN]
def Agm:Ao8:=[tiN,tiN,tiN,tiN,tiN,tiN,tiN,tiN,tF,tF,tiN,⟨.struct [(344,0),(345,1)],2,16,(.agg #[.nilFunc,.nilFunc]),true⟩,⟨.array 4 347,8,64,(.agg #[.nilFunc,.nilFunc,.nilFunc,.nilFunc,.nilFunc,.nilFunc,.nilFunc,.nilFunc]),true⟩,tiN,tiN,tiN]
def Agn:Ao8:=[⟨.other,1,0,(.tuple #[.int .u32 0,.int .u32 0]),true⟩,tiN,tiN,tiN,⟨.array 64 299,64,256,(.agg (Array.replicate 64 (.int .u32 0))),true⟩,tiN,tiN,⟨.other,1,0,(.tuple #[.int .u64 0,.int .u64 0]),true⟩,tiN,⟨.ptr 363,1,8,(.pointer .none),true⟩,tiN,⟨.struct [(361,0),(296,1)],2,32,(.agg #[.pointer .none,.slice .none 0 0]),true⟩,tiN,tiN,⟨.iface,1,16,.nilIface,false⟩,⟨.other,1,0,(.tuple #[.int .i64 0,.nilIface]),true⟩]
def Ago:Ao8:=[tiN,tiN,tiN,tiN,⟨.int .u64,1,8,(.int .u64 0),true⟩,tiN,tiN,tiN,tiN,tiN,tF,tiN,tF,tiN,tiN,tiN]
def Agp:Ao8:=[tiN,tiN,tiN,tF,tiN,tiN,tiN,tiN,tiN,tiN,tiN,tiN,⟨.slice 66,1,24,(.slice .none 0 0),true⟩,tiN,tiN,tiN]
def Agq:Ao8:=[tiN,tiN,tiN,tiN,⟨.ptr 5,1,8,(.pointer .none),true⟩,tiN,⟨.other,1,0,(.tuple #[.int .u64 0,.int .u64 0]),true⟩,tiN,⟨.ptr 372,1,8,(.pointer .none),true⟩,⟨.other,1,0,(.tuple #[.int .i64 0,.int .i64 0]),true⟩,tiN,tiN,tiN,tiN,tiN,⟨.map 9 325,1,8,(.map .none),true⟩]
def Agr:Ao8:=[tiN,tiN,tF,tiN,tiN,tiN,⟨.other,1,0,(.tuple #[.int .i32 0,.int .i64 0]),true⟩,tiN,⟨.other,1,8,(.pointer .none),true⟩,tiN,tiN,tiN,tiN,tiN,tiN,tiN]
def Ags:Ao8:=[⟨.map 3 3,1,8,(.map .none),true⟩,tiN,tiN,tiN,tiN,tiN,tiN,tiN,tiN,tiN,tiN,tiN,⟨.array 256 5,256,256,(.agg (((List.replicate 64 (.int .u8 0)).append (List.replicate 64 (.int .u8 0))).append ((List.replicate 64 (.int .u8 0)).append (List.replicate 64 (.int .u8 0)))).toArray),true⟩,tiN,⟨.struct [(5,0),(5,1)],2,2,(.agg #[.int .u8 0,.int .u8 0]),true⟩,⟨.array 16 446,32,32,(.agg (Array.replicate 32 (.int .u8 0))),true⟩]
def Agt:Ao8:=[tiN,tiN,tiN,tiN,tiN,tiN,tiN,tiN,tiN,tiN,tiN,tiN,tiN,tiN,⟨.struct [(17,0),(17,1),(17,2),(9,3)],4,40,(.agg #[.pointer .none,.pointer .none,.pointer .none,.string ⟨#[]⟩]),false⟩,tiN]
def Agu:Ao8:=[tiN,⟨.other,0,0,(.agg #[]),false⟩,⟨.int .u8,1,1,(.int .u8 0),true⟩,⟨.int .u8,1,1,(.int .u8 0),true⟩,tF,⟨.int .i32,1,4,(.int .i32 0),true⟩,⟨.int .i32,1,4,(.int .i32 0),true⟩,tiN,⟨.struct [(12,0),(12,1),(299,2),(466,3),(5,4),(5,5),(467,6),(468,7),(404,8),(469,9),(470,10)],11,48,(.agg #[.int .u64 0,.int .u64 0,.int .u32 0,.int .u8 0,.int .u8 0,.int .u8 0,.int .u8 0,.nilFunc,.pointer .none,.int .i32 0,.int .i32 0]),false⟩,⟨.slice 490,1,24,(.slice .none 0 0),true⟩,⟨.slice 492,1,24,(.slice .none 0 0),true⟩,⟨.slice 494,1,24,(.slice .none 0 0),true⟩,⟨.slice 496,1,24,(.slice .none 0 0),true⟩,tiN,⟨.struct [(9,0),(473,1),(474,2),(475,3),(476,4)],5,112,(.agg #[.string ⟨#[]⟩,.slice .none 0 0,.slice .none 0 0,.slice .none 0 0,.slice .none 0 0]),true⟩,tiN]
def Agv:Ao8:=[tF,tiN,tF,tiN,⟨.slice 498,1,24,(.slice .none 0 0),true⟩,⟨.slice 488,1,24,(.slice .none 0 0),true⟩,⟨.slice 500,1,24,(.slice .none 0 0),true⟩,tiN,⟨.struct [(3,0),(9,1),(9,2),(485,3),(486,4)],5,88,(.agg #[.int .i64 0,.string ⟨#[]⟩,.string ⟨#[]⟩,.slice .none 0 0,.slice .none 0 0]),true⟩,tiN,⟨.struct [(9,0),(484,1),(488,2),(488,7)],12,216,(.agg #[.string ⟨#[]⟩,.slice .none 0 0,.int .i64 0,.string ⟨#[]⟩,.string ⟨#[]⟩,.slice .none 0 0,.slice .none 0 0,.int .i64 0,.string ⟨#[]⟩,.string ⟨#[]⟩,.slice .none 0 0,.slice .none 0 0]),true⟩,tiN,⟨.struct [(9,0),(484,1),(488,2)],7,128,(.agg #[.string ⟨#[]⟩,.slice .none 0 0,.int .i64 0,.string ⟨#[]⟩,.string ⟨#[]⟩,.slice .none 0 0,.slice .none 0 0]),true⟩,tiN,⟨.struct [(9,0),(9,1),(9,2)],3,48,(.agg #[.string ⟨#[]⟩,.string ⟨#[]⟩,.string ⟨#[]⟩]),true⟩,tiN]
def Agw:Ao8:=[⟨.struct [(9,0),(9,1)],2,32,(.agg #[.string ⟨#[]⟩,.string ⟨#[]⟩]),true⟩,tiN,⟨.struct [(9,0),(3,1),(488,2)],7,112,(.agg #[.string ⟨#[]⟩,.int .i64 0,.int .i64 0,.string ⟨#[]⟩,.string ⟨#[]⟩,.slice .none 0 0,.slice .none 0 0]),true⟩,tiN,⟨.struct [(9,0),(488,1),(4,6)],7,112,(.agg #[.string ⟨#[]⟩,.int .i64 0,.string ⟨#[]⟩,.string ⟨#[]⟩,.slice .none 0 0,.slice .none 0 0,.bool .false]),true⟩]
def tbl:List (Ao8):=[Aly,Alz,AlA,WE,AlB,AlC,tU,yd,AlD,AlE,Agb,Agc,Agd,Age,Agf,Agg,Agh,Agi,Agj,Agk,Agl,Agm,Agn,Ago,Agp,Agq,Agr,Ags,Agt,Agu,Agv,Agw]
def yB:GL:=fun t => sO dTI (sO [] tbl (t / 16)) (t % 16)
def usedT:List Nat:=[0,1,2,3,4,5,6,7,8,9,10,11,12,13,14,15,16,17,18,19,20,21,22,23,24,25,26,27,28,29,30,31,32,33,34,35,36,37,38,39,40,41,42,43,45,53,64,65,66,68,70,71,76,80,92,96,98,99,101,106,109,111,119,121,123,124,125,128,132,135,144,145,150,153,156,157,158,159,160,161,163,166,180,181,187,189,195,197,199,200,202,204,206,208,209,210,212,213,214,216,217,219,221,222,223,225,229,234,240,242,244,249,250,256,257,258,261,276,281,284,290,294,296,299,300,302,303,305,308,309,318,325,326,344,345,347,348,352,356,359,361,363,366,367,372,378,380,387,396,404,406,408,409,415,418,422,424,432,444,446,447,462,465,466,467,468,469,470,472,473,474,475,476,478,480,482,484,485,486,488,490,492,494,496,498,500]
def restT:List Nat:=(List.range 512).filter fun t => !usedT.contains t
theorem uq:usedT.map yB=usedT.map (pF Tryz.prog):=by kernel_rfl
theorem tab_rest:restT.map yB=restT.map fun _ => dTI:=by kernel_rfl
theorem lr{α:Type}(d:α):∀(l:List α) (n:Nat),l.length <= n -> sO d l n=d
 | [],_,_ => rfl
 |_::_,0,h => by simp at h
 |_::r,n + 1,h => lr d r n (by simpa using h)
theorem BO:B8 Tryz.prog yB:=by
 intro t
 by_cases h:t<512
 .by_cases u:t∈usedT
  .exact .inr (List.map_inj_left.1 uq t u)
  .exact .inl (List.map_inj_left.1 tab_rest t (C3.2 ⟨List.mem_range.2 h,by simpa using u⟩))
 .have h1:sO ([]:Ao8) tbl (t / 16)=[]:=lr _ _ _ (by show 32 <= t / 16;omega)
  have h2:yB t=dTI:=by unfold yB;rw[h1];rfl
  exact .inl h2
end Go.Eng
namespace Go.Eng
variable {α:Type}{X Y:Operand}{op:BinOp}{t:Nat}{P:Program}{U:Nat->Prop}{vx vy x:Value}{e:Nat}{g:D}(l:List α)(w:World)(o k:Nat)
def IU:List α:=(l.drop o).take k
theorem NW:∀{l:List KS} {vs:Ao9},J3 l vs=true->vs.length=l.length
 | [],[],_=>rfl
 |k::r,v::s,h=>by
  unfold J3 at h;split at h
  .simp[NW h]
  simp_all
theorem UA:∀{a b:List KS} {vs:Ao9},J3 (a++b) vs=true->J3 a (vs.take a.length)=true/\J3 b (vs.drop a.length)=true
 | [],b,vs,h=>⟨by cases vs<;>rfl,by simp_all⟩
 |k::a,b,[],h=>by grind [J3]
 |k::a,b,v::vs,h=>by
  simp only[FN,J3]at h;split at h
  .rename_i hk;obtain⟨h1,h2⟩:=UA h<;>grind [J3]
  simp_all
theorem lZ(a b:Nat)(h:a+b<=k):IU (IU l o k) a b=IU l (o+a) b:=by
 grind [IU,List.drop_take,List.drop_drop]
theorem yt:(IU l o k).length=min k (l.length-o):=by simp[IU]
theorem Re(a:Nat)(h:a<=k):(IU l o k).take a=IU l o a:=by
 grind [IU]
theorem WK(a:Nat):(IU l o k).drop a=IU l (o+a) (k-a):=by
 unfold IU;rw[List.drop_take,List.drop_drop]
theorem pd(m:List α)(o a b:Nat):(IU l o (a+b)=IU m o (a+b))↔(IU l o a=IU m o a/\IU l (o+a) b=IU m (o+a) b):=by
 constructor
 .intro h;constructor
  .rw[<-Re l o (a+b) a I,h,Re m o (a+b) a I]
  .have h1:=Aa (List.drop a) h
   grind [WK]
 grind [IU,List.drop_drop]
section
variable {P:Program}{T:GL}(hT:B8 P T)
include hT
theorem Du(w:World)(hd:(T t).d≠.other)(hs:J8 (T t).d=false)(xs:Array Value)(o:Nat)(x:Value)(h:xs[o]?=some x) :
  (part t xs o).run P w=.ok x w:=by
 unfold part;simp[Sem.run_bind,hT.isAgg w hd,hs,h]
theorem GK(w:World)(hd:(T t).d≠.other)(hs:J8 (T t).d=true)(xs:Array Value)(o:Nat) :
  (part t xs o).run P w=.ok (.agg (xs.extract o (o+(T t).size))) w:=by
 unfold part;simp[Sem.run_bind,hT.isAgg w hd,hs,hT.size w hd]
def zm(P:Program)(w:World)(d t:Nat)(xs ys:Array Value)(o k:Nat):Prop:=
 ∃b:Bool,(do let a <-part t xs o;let b <-part t ys o;Op.equalIn d t a b).run P w=.ok b w/\(b=true↔IU xs.toList o k=IU ys.toList o k)
omit hT in
theorem Mb{xs:Array Value}{o:Nat}{k:KS}(h:J3 [k] (IU xs.toList o 1)=true):∃x,xs[o]?=some x/\OE k x=true/\IU xs.toList o 1=[x]:=by
 grind [yt,IU,List.drop_eq_getElem_cons,J3.eq_def]
omit hT in
theorem Oy{f:Nat->Option (List KS)}:∀{fs:List (Nat×Nat)} {n:Nat} {l:List KS},Pa f n fs=some l ->
  match fs with | []=>l=[] | (t,o)::r=>o=n/\∃a b,f t=some a/\Pa f (n+a.length) r=some b/\l=a++b
 | [],n,l,h=>by cases h;rfl
 |(t,o)::r,n,l,h=>by
  grind [Pa,Nat.eq_of_beq_eq_true]
omit hT in
theorem Ou(w:World)(n d:Nat)(hB:∀t l,HY T n t=some l->∀xs ys o,J3 l (IU xs.toList o l.length)=true->J3 l (IU ys.toList o l.length)=true->zm P w d t xs ys o l.length) :
  ∀ (fa : List Field) (m : Nat) (l : List KS), (∀ f ∈ fa, f.name ≠ "_") -> Pa (HY T n) m (fa.map fun f => (f.type, f.offset))=some l ->
   ∀xs ys:Array Value,J3 l (IU xs.toList m l.length)=true->J3 l (IU ys.toList m l.length)=true ->
    ∃b:Bool,(Op.eqFields d xs ys fa).run P w=.ok b w/\(b=true↔IU xs.toList m l.length=IU ys.toList m l.length)
 | [],m,l,_,h,xs,ys,_,_=>by
  cases h
  exact⟨true,rfl,by simp[IU]⟩
 |f::fa,m,l,hn,h,xs,ys,hx,hy=>by
  obtain⟨ho,a,b,ha,hb,rfl⟩:=Oy h;rw[Ac]at hx hy⊢;obtain⟨x1,x2⟩:=UA hx;obtain⟨y1,y2⟩:=UA hy;rw[Re _ _ _ _ I]at x1 y1;rw[WK,Nat.add_sub_cancel_left]at x2 y2;obtain⟨c,c1,c2⟩:=hB _ _ ha xs ys m x1 y1;obtain⟨e,e1,e2⟩:=Ou w n d hB fa (m+a.length) b (fun f hf=>hn f (Aj _ hf)) hb xs ys x2 y2;have Ec:=hn f (Ad ..);have vS : (do let x <-part f.type xs f.offset;let y <-part f.type ys f.offset;Op.equalIn d f.type x y).run P w=.ok c w:=aa0
  have CV:(Op.eqFields d xs ys (f::fa)).run P w=.ok (if c=true then e else false) w:=by
   unfold Op.eqFields;rw[AO Ec];simp only[Sem.run_bind]at vS⊢;generalize (part f.type xs f.offset).run P w=r1 at vS⊢;cases r1 with
   |halt x w1=>cases vS
   |ok u w1=>
    simp only[Result.andThen_ok]at vS⊢;generalize (part f.type ys f.offset).run P w1=r2 at vS⊢;cases r2 with
    |halt x w1=>cases vS
    |ok u2 w2=>
     simp only[Result.andThen_ok]at vS⊢;rw[vS];simp only[Result.andThen_ok];cases c<;>simp[e1]
  grind [pd]
theorem Z0(w:World):∀(n t:Nat) (l:List KS),HY T n t=some l->∀d,n<=d->∀(xs ys:Array Value) (o:Nat),J3 l (IU xs.toList o l.length)=true->J3 l (IU ys.toList o l.length)=true ->
  zm P w d t xs ys o l.length
 |0,t,l,h=>by grind [HY]
 |n+1,t,l,h=>by
  intro d hd xs ys o hx hy;obtain⟨d,rfl⟩:∃d',d=d'+1:=⟨d-1,by omega⟩;unfold HY at h;split at h
  .rename_i k hk;split at h
   .cases h
    obtain⟨x,x1,x2,x3⟩:=Mb hx;obtain⟨y,y1,y2,y3⟩:=Mb hy;have kF:(T t).d≠.other:=aa0
    have hs:J8 (T t).d=false:=by rw[hk];rfl
    cases x<;>simp[OE]at x2
    cases y<;>simp[OE]at y2
    rename_i k1 n1 k2 n2;obtain rfl:=LY x2;obtain rfl:=LY y2;refine⟨n1 == n2,?_,?_⟩
    .simp[Sem.run_bind,Du hT w kF hs xs o _ x1,Du hT w kF hs ys o _ y1,run_equalIn_int w d t k k n1 n2 (hT.int hk)]
    simp_all
   simp_all
  .rename_i hk;split at h
   .cases h
    obtain⟨x,x1,x2,x3⟩:=Mb hx;obtain⟨y,y1,y2,y3⟩:=Mb hy;have kF:(T t).d≠.other:=aa0
    have hs:J8 (T t).d=false:=by rw[hk];rfl
    cases x<;>simp[OE]at x2
    cases y<;>simp[OE]at y2
    rename_i s1 s2;refine⟨s1.toList == s2.toList,?_,?_⟩
    .simp[Sem.run_bind,Du hT w kF hs xs o _ x1,Du hT w kF hs ys o _ y1,run_equalIn_string w d t s1 s2 (hT.string hk)]
    grind [JV]
   simp_all
  .rename_i hk;split at h
   .cases h
    obtain⟨x,x1,x2,x3⟩:=Mb hx;obtain⟨y,y1,y2,y3⟩:=Mb hy;have kF:(T t).d≠.other:=aa0
    have hs:J8 (T t).d=false:=by rw[hk];rfl
    cases x<;>simp[OE]at x2
    cases y<;>simp[OE]at y2
    rename_i s1 s2;refine⟨s1 == s2,?_,?_⟩
    .simp[Sem.run_bind,Du hT w kF hs xs o _ x1,Du hT w kF hs ys o _ y1,run_equalIn_bool' w d t s1 s2 (hT.bool hk)]
    simp_all
   simp_all
  .rename_i fs hk;split at h
   .rename_i EZ;split at h
    .rename_i l' MJ;split at h
     .rename_i CN;cases h;have CN:=A5 CN;have kF:(T t).d≠.other:=aa0
      have hs:J8 (T t).d=true:=by rw[hk];rfl
      obtain⟨fa,u1,u2,u3⟩:=hT.struct hk;obtain⟨_,_,_,_,_,_,_,_,_,_,hq⟩:=hT.get kF;obtain⟨q1,q2⟩:=hq EZ;rw[u2]at MJ;have hf:P.fieldsOf t=fa:=by grind [Program.fieldsOf]
      have ex:∀zs:Array Value,(zs.extract o (o+(T t).size)).toList=IU zs.toList o l.length:=fun zs=>by
       grind [IU,Array.toList_extract]
      have s0:∀zs:Array Value,IU (IU zs.toList o l.length) 0 l.length=IU zs.toList o l.length:=fun zs=>by
       grind [lZ]
      obtain⟨b,b1,b2⟩:=Ou w n d (fun t l h xs ys o hx hy=>Z0 w n t l h d I xs ys o hx hy) fa.toList 0 l u3 MJ (xs.extract o (o+(T t).size)) (ys.extract o (o+(T t).size))
       aa0 aa0
      rw[ex,ex,s0,s0]at b2;refine⟨b,?_,b2⟩
      grind [Sem.run_bind,GK,Result.andThen_ok,run_equalIn_struct]
     simp_all
    simp_all
   simp_all
  simp_all
end
theorem Sd:∀{l:List KS} {xs:List AV},dL l xs=true->∃vs:Ao9,xs=vs.map .v/\J3 l vs=true
 | [],[],_=>⟨[],rfl,rfl⟩
 |k::r,a::s,h=>by
  cases a with
  |v x=>
   simp only[dL]at h;split at h
   .rename_i h1;obtain⟨vs,rfl,h3⟩:=Sd h;exact⟨x::vs,rfl,by grind [J3]⟩
   simp_all
  |_=>grind [dL]
 | [],_::_,h=>by grind [dL]
 |_::_,[],h=>by grind [dL]
theorem cR:∀{l:List KS} {vs us:Ao9},J3 l vs=true->J3 l us=true->(zu (vs.map .v) (us.map .v)↔vs=us)
 | [],[],[],_,_=>by simp[zu]
 |k::r,v::vs,u::us,h1,h2=>by
  simp only[J3]at h1 h2;split at h1
  .rename_i e1;split at h2
   .rename_i e2;have ih:=cR h1 h2;cases k<;>cases v<;>simp[OE]at e1<;>cases u<;>simp[OE]at e2<;>simp only[A7,zu,ih,JX]
    all_goals grind [LY]
   simp_all
  simp_all
 | [],_::_,_,h,_=>by grind [J3]
 |_::_,[],_,h,_=>by grind [J3]
 | [],[],_::_,_,h=>by grind [J3]
 |_::_,_::_,[],_,h=>by grind [J3]
theorem O.v_eq{w:World}{a:Value}(h:O g w U (.v a) x):x=a:=by cases h;rfl
theorem O.agg_vals{w:World}{vs:Ao9}(h:O g w U (.agg (vs.map .v)) x):x=.agg vs.toArray:=by
 cases h with
 |agg _ _ us hs h1 hr=>
  congr 1
  apply Array.ext';apply Cu;intro i;simp only[Bs]at hs
  by_cases hi:i<vs.length
  .have Oi : i<us.size:=I
   have:=hr i (.v vs[i]) us[i] aa0 aa0
   grind [O.v_eq]
  simp_all
theorem Jg(hu:P.underlying t=some (.slice e))(a:Option Addr)(n c:Nat) :
  (Op.equal t (.slice a n c) (.slice none 0 0)).run P w=.ok a.isNone w:=by
 have key:∀d,(Op.equalIn (d+1) t (.slice a n c) (.slice none 0 0)).run P w=.ok a.isNone w:=fun d=>by
  cases a<;>simp[Op.equalIn,run_underlying hu]
 exact key 9999
theorem Kt(hu:P.underlying t=some (.pointer e))(a:Option Addr) :
  (Op.equal t (.pointer a) (.pointer none)).run P w=.ok a.isNone w:=by
 have key:∀d,(Op.equalIn (d+1) t (.pointer a) (.pointer none)).run P w=.ok a.isNone w:=fun d=>by
  cases a<;>simp[Op.equalIn,run_underlying hu]
 exact key 9999
theorem Jf{ms:Array (String×TypeId)}(hu:P.underlying t=some (.interface ms)) :
  (Op.equal t .nilIface .nilIface).run P w=.ok true w:=by
 have key:∀d,(Op.equalIn (d+1) t .nilIface .nilIface).run P w=.ok true w:=fun d=>by
  simp[Op.equalIn,run_underlying hu]
 exact key 9999
section
variable {P:Program}{T:GL}{h:Nat->HO}{g:D}{w:World}{K:AV->Prop}
theorem qj{t:Nat}{k k' : IntKind}{a b:Int}(hk:U3 T op t (.v (.int k a)) (.v (.int k' b)) K) :
  Bm P h g w (do eqGuard op t X Y (.int k a) (.int k' b);binOp op t (.int k a) (.int k' b)) K:=by
 unfold U3 at hk;dsimp only at hk;split at hk
 .exact SF hk
 .rename_i e;obtain rfl:=LY e;cases op<;>dsimp only at hk
  case eql=>exact Bm.bool (b:=a == b) (by simp[eqGuard,binOp,Op.intCmp]) aa1 hk
  case neq=>exact Bm.bool (b:=a != b) (by simp[eqGuard,binOp,Op.intCmp]) aa1 hk
  case lss=>exact Bm.bool (b:=decide (a<b)) (by simp[eqGuard,binOp,Op.intCmp]) aa1 hk
  case leq=>exact Bm.bool (b:=decide (a<=b)) (by simp[eqGuard,binOp,Op.intCmp]) aa1 hk
  case gtr=>exact Bm.bool (b:=decide (b<a)) (by simp[eqGuard,binOp,Op.intCmp]) aa1 hk
  case geq=>exact Bm.bool (b:=decide (b<=a)) (by simp[eqGuard,binOp,Op.intCmp]) aa1 hk
  all_goals exact mM hk
theorem qk{t:Nat}{a b:CS}(hk:U3 T op t (.v (.string a)) (.v (.string b)) K) :
  Bm P h g w (do eqGuard op t X Y (.string a) (.string b);binOp op t (.string a) (.string b)) K:=by
 unfold U3 at hk;have tri:=Kx a.toList b.toList;have AqS:=Kx b.toList a.toList;cases op<;>dsimp only at hk
 case eql=>exact Bm.bool (b:=a.toList == b.toList) (by simp[eqGuard,binOp,Op.stringOp]) (JV a b) hk
 case neq=>exact Bm.bool (b:=!(a.toList == b.toList)) (by simp[eqGuard,binOp,Op.stringOp]) (by
  grind [JV]) hk
 case lss=>exact Bm.bool (b:=Op.bytesLess a.toList b.toList) (by simp[eqGuard,binOp,Op.stringOp]) aa1 hk
 case leq=>exact Bm.bool (b:=Op.bytesLess a.toList b.toList||a.toList == b.toList) (by simp[eqGuard,binOp,Op.stringOp]) aa0 hk
 case gtr=>exact Bm.bool (b:=!(Op.bytesLess a.toList b.toList||a.toList == b.toList)) (by simp[eqGuard,binOp,Op.stringOp]) aa0 hk
 case geq=>exact Bm.bool (b:=!Op.bytesLess a.toList b.toList) (by simp[eqGuard,binOp,Op.stringOp]) aa1 hk
 case add=>
  refine Bm.val (x:=.string (a++b)) ?_ hk.2;have h1:¬((a.size:Int)+(b.size:Int)>IntKind.i64.max):=aa0
  simp[eqGuard,binOp,Op.stringOp];omega
 all_goals exact hk.elim
theorem oA{b:Bool}{K:AV->Prop}(hk:oz K (.v (.bool b))):K (.v (.bool (!b))):=by cases b<;>exact hk
theorem qM(hT:B8 P T){t:Nat}{x y:AV}(hx:O g w (L h) x vx)(hy:O g w (L h) y vy){K:AV->Prop}(hk:eqK T t x y K) :
  ∃b:Bool,(Op.equal t vx vy).run P w=.ok b w/\K (.v (.bool b))/\(∀op X Y,(op=.eql\/op=.neq)->(eqGuard op t X Y vx vy).run P w=.ok () w) /\
   binOp .eql t vx vy=(do pure (.bool (<-Op.equal t vx vy)))/\binOp .neq t vx vy=(do pure (.bool (!(<-Op.equal t vx vy)))):=by
 unfold eqK at hk;split at hk
 .rename_i ht;split at hk
  .obtain rfl:=hx.v_eq;obtain rfl:=hy.v_eq;refine⟨_,?_,hk,fun op X Y _=>by rcases ‹op=_\/op=_› with rfl | rfl<;>simp[eqGuard],rfl,rfl⟩
   grind [Op.equal,Op.maxDepth,run_equalIn_bool',B8.bool]
  simp_all
 .rename_i fs ht;split at hk
  .split at hk
   .rename_i l hl;split at hk
    .rename_i k1;split at hk
     .rename_i k2;obtain⟨vs,rfl,s1⟩:=Sd k1;obtain⟨us,rfl,s2⟩:=Sd k2;obtain rfl:=hx.agg_vals;obtain rfl:=hy.agg_vals;have Ec:(T t).d≠.other:=aa0
      obtain⟨_,_,_,_,_,_,_,_,_,_,hq⟩:=hT.get Ec;have hag:J8 (T t).d=true:=by rw[ht];rfl
      have hfl:=hl;unfold HY at hfl;rw[ht]at hfl;dsimp only at hfl;split at hfl
      .rename_i EZ;split at hfl
       .split at hfl
        .rename_i CN;cases hfl;have CN:=A5 CN;have e1:∀zs:Ao9,J3 l zs=true->IU zs.toArray.toList 0 l.length=zs:=fun zs hz=>by
          have:=NW hz
          grind [IU]
         obtain⟨b,b1,b2⟩:=Z0 hT w 8 t l hl 10000 I vs.toArray us.toArray 0 aa0 aa0;rw[e1 _ s1,e1 _ s2]at b2;have ex:∀zs:Ao9,J3 l zs=true->zs.toArray.extract 0 (0+(T t).size)=zs.toArray:=fun zs hz=>by
          grind [NW]
         simp only[Sem.run_bind,GK hT w Ec hag,Result.andThen_ok,ex _ s1,ex _ s2]at b1;refine⟨b,b1,U4 hk (by grind [cR]),fun op X Y _=>run_eqGuard_agg w op t X Y _ _ (hq EZ).2,rfl,rfl⟩
        simp_all
       simp_all
      simp_all
     simp_all
    simp_all
   simp_all
  simp_all
 .rename_i e ht;have hu:=hT.slice ht;split at hk
  .rename_i tk es;obtain rfl:=hy.v_eq;obtain⟨a,n,c,rfl,hn⟩:∃a n c,vx=.slice a n c/\(es≠[]->a.isNone=false):=by
    grind [cases O]
   refine⟨a.isNone,?_,?_,fun op X Y _=>by rcases ‹op=_\/op=_› with rfl | rfl<;>simp[eqGuard],rfl,rfl⟩
   .grind [Jg]
   .by_cases he:es=[]
    .cases a.isNone<;>simp_all
    grind
  .obtain rfl:=hx.v_eq;obtain rfl:=hy.v_eq;refine⟨true,?_,hk,fun op X Y _=>by rcases ‹op=_\/op=_› with rfl | rfl<;>simp[eqGuard],rfl,rfl⟩
   grind [Jg]
  simp_all
 .rename_i e ht;have hu:=hT.ptr ht
  have key:∀a:Addr,vx=.pointer (some a)->vy=.pointer none->K (.v (.bool false))->∃b:Bool,(Op.equal t vx vy).run P w=.ok b w/\K (.v (.bool b))/\(∀op X Y,(op=.eql\/op=.neq)->(eqGuard op t X Y vx vy).run P w=.ok () w) /\
   binOp .eql t vx vy=(do pure (.bool (<-Op.equal t vx vy)))/\binOp .neq t vx vy=(do pure (.bool (!(<-Op.equal t vx vy)))):=by
   rintro a rfl rfl hk
   refine⟨false,?_,hk,fun op X Y _=>by rcases ‹op=_\/op=_› with rfl | rfl<;>simp[eqGuard],rfl,rfl⟩
   grind [Kt]
  split at hk
  .obtain rfl:=hx.v_eq;obtain rfl:=hy.v_eq;refine⟨true,?_,hk,fun op X Y _=>by rcases ‹op=_\/op=_› with rfl | rfl<;>simp[eqGuard],rfl,rfl⟩
   grind [Kt]
  all_goals grind [cases O]
 simp_all
theorem vP(hT:B8 P T){t:Nat}{x y:AV}(hx:O g w (L h) x vx)(hy:O g w (L h) y vy)(hk:U3 T op t x y K) :
  Bm P h g w (do eqGuard op t X Y vx vy;binOp op t vx vy) K:=by
 unfold U3 at hk;split at hk
 .obtain rfl:=hx.v_eq;obtain rfl:=hy.v_eq;exact qj (T:=T) (by grind [U3])
 .obtain rfl:=hx.v_eq;obtain rfl:=hy.v_eq;exact qk (T:=T) (by grind [U3])
 .split at hk
  .obtain⟨b,b1,b2,b3,b4,b5⟩:=qM hT hx hy hk;refine⟨_,_,?_,b2,.v _ _⟩;simp_all
  .obtain⟨b,b1,b2,b3,b4,b5⟩:=qM hT hx hy hk;refine⟨_,_,?_,oA b2,.v _ _⟩;simp_all
  simp_all
theorem qi(hT:B8 P T){t:Nat}{x y:AV}(hx:O g w (L h) x vx)(hy:O g w (L h) y vy)(hc:∀v,Y=.const v->vy=v)(hk:co T op t Y x y K) :
  Bm P h g w (do eqGuard op t X Y vx vy;binOp op t vx vy) K:=by
 unfold co at hk;split at hk
 .obtain rfl:=hc _ rfl;split at hk
  .obtain rfl:=hx.v_eq;split at hk
   .rename_i ht;obtain⟨ms,hu⟩:=hT.iface ht;split at hk
    .refine⟨_,_,?_,hk,.v _ _⟩;have e:binOp .eql t .nilIface .nilIface=(do pure (.bool (<-Op.equal t .nilIface .nilIface))):=rfl;simp[eqGuard,e,Jf w hu]
    .refine⟨_,_,?_,hk,.v _ _⟩;have e:binOp .neq t .nilIface .nilIface=(do pure (.bool (!(<-Op.equal t .nilIface .nilIface)))):=rfl;simp[eqGuard,e,Jf w hu]
    simp_all
   simp_all
  simp_all
 grind [vP]
end
end Go.Eng
