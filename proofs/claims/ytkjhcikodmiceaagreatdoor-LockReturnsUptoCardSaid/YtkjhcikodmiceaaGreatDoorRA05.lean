/- Lemmas 5. -/
import Derived.Test.YtkjhcikodmiceaaGreatDoorRA04
import Derived.Test.YtkjhcikodmiceaaGreatDoorProg
namespace Go.Eng
open Go.RowKit (Below)
variable {U:Nat->Prop}{w:World}{x:Value}{g:Gh}{w':World}{av:AV}{g':Gh}
theorem A3.mono(hk:D2 g w g' w')(h:A3 g w U av x) :
  ∀{U' : Nat->Prop},(∀i,U i->U' i)->JA g g' U->A3 g' w' U' av x:=by
 induction h with
 |v U x=>grind [v]
 |junk U x=>grind [junk]
 |snil U a cap=>grind [snil]
 |slice U es b off sz cap val hc hl Dg DH ih=>
  intro U' _ _;refine .slice U' es b off sz cap val hc hl (fun i cs j av h1 h2=>?_) (fun i cs j av h1 h2=>ih i cs j av h1 h2 (fun _ h=>h) (fun _ h=>h.elim));obtain⟨a1,a2,a3⟩:=Dg i cs j av h1 h2;obtain⟨k1,k2,_⟩:=hk _ _ a1<;>simp_all
 |tok U r sz es x h hl hu ht hn hx ih=>
  intro U' hU hg;obtain⟨g1,g2,g3,g4⟩:=hg r hu;refine .tok U' r sz es x (ih hU hg) hl (hU r hu) (g1.trans ht) (AO hn g2) (fun e=>?_)
  grind
 |ver U r sz v es x h hl hu ht hn hx ih=>
  intro U' hU hg;obtain⟨g1,g2,g3,g4⟩:=hg r hu;refine .ver U' r sz v es x (ih hU hg) hl (hU r hu) (g1.trans ht) (AO hn g2) (fun e=>?_)
  grind
 |full U sz es x h hl hx ih=>
  grind [full]
 |msl U r n a cap hu ht hn ha hx=>
  intro U' hU hg;obtain⟨g1,g2,g3,g4⟩:=hg r hu<;>grind [msl]
 |agg U cs vs hs h1 h ih=>grind [agg]
 |tup U cs vs hs h ih=>grind [tup]
 |cptr U cs b off val Dg DH ih=>
  intro U' _ _;refine .cptr U' cs b off val (fun j av h=>?_) (fun j av h=>ih j av h (fun _ h=>h) (fun _ h=>h.elim));obtain⟨a1,a2,a3⟩:=Dg j av h;obtain⟨k1,k2,_⟩:=hk _ _ a1<;>simp_all
 |ref U r off b hu ht hx=>
  intro U' hU hg;obtain⟨g1,g2,g3,g4⟩:=hg r hu<;>grind [ref]
 |eref U r n sz i off b cap hu ht hn hx=>
  intro U' hU hg;obtain⟨g1,g2,g3,g4⟩:=hg r hu<;>grind [eref]
 |mref U r b hu ht hx=>
  intro U' hU hg;obtain⟨g1,g2,g3,g4⟩:=hg r hu<;>grind [mref]
 |cmap U sh BU b es ck hS hb hm h ih=>
  intro U' _ _;obtain⟨k1,k2,k3⟩:=hk _ _ hS;exact .cmap U' sh BU b es ck k1 (k3 es ck hb) hm (fun i kv e a b=>ih i kv e a b (fun _ h=>h) (fun _ h=>h.elim))
 |clo U f cs vs hs h ih=>grind [clo]
theorem D2.refl(g:Gh)(w:World):D2 g w g w:=fun _ _ h=>⟨h,rfl,fun _ _ h=>h⟩
theorem D2.trans{g g1 g2:Gh}{w w1 w2:World}(h:D2 g w g1 w1)(k:D2 g1 w1 g2 w2):D2 g w g2 w2:=fun b o hS=>
 let ⟨a1,a2,a3⟩:=h b o hS
 let ⟨b1,b2,b3⟩:=k b o a1
 ⟨b1,b2.trans a2,fun es ck he=>b3 es ck (a3 es ck he)⟩
theorem JA.refl(g:Gh)(U:Nat->Prop):JA g g U:=fun _ _=>⟨rfl,Ai _,fun _=>rfl,fun _=>rfl⟩
theorem JA.trans{g1 g2:Gh}{U1:Nat->Prop}(h:JA g g1 U)(hU:∀i,U i->U1 i)(k:JA g1 g2 U1):JA g g2 U:=fun i hi=>by
 obtain⟨a1,a2,a3,a4⟩:=h i hi;obtain⟨b1,b2,b3,b4⟩:=k i (hU i hi)<;>grind [Nat.le_trans]
theorem Le.refl(h:Nat->HO)(g:Gh)(w:World):Le h g w h g w:=⟨.refl _ _,fun _ h=>h,.refl _ _⟩
theorem Le.trans{h h1 h2:Nat->HO}{g g1 g2:Gh}{w w1 w2:World}(a:Le h g w h1 g1 w1)(b:Le h1 g1 w1 h2 g2 w2):Le h g w h2 g2 w2:=
 ⟨a.gh.trans a.us b.gh,fun i hi=>b.us i (a.us i hi),a.keeps.trans b.keeps⟩
theorem A3.le{h h' : Nat->HO}(k:Le h g w h' g' w')(r:A3 g w (AI h) av x):A3 g' w' (AI h') av x:=
 r.mono k.keeps k.us k.gh
theorem A3.up(r:A3 g w DR av x)(U:Nat->Prop):A3 g w U av x:=
 r.mono (.refl g w) (fun _ h=>h.elim) (.refl g _)
theorem Cg.mono{g g' : Gh}{w w' : World}{U U' : Nat->Prop}{cs:List AV}{vs:List Value}(r:Cg g w U cs vs)(hk:D2 g w g' w')(hU:∀i,U i->U' i)(hg:JA g g' U):Cg g' w' U' cs vs:=
 ⟨r.1,r.2.1,fun i av x h1 h2=>(r.2.2 i av x h1 h2).mono hk hU hg⟩
theorem A3.cptr_drop{cs:List AV}{b off:Nat}(n:Nat)(h:A3 g w U (.cptr cs) (.pointer (some ⟨b,off,none⟩))) :
  A3 g w U (.cptr (cs.drop n)) (.pointer (some ⟨b,off+n,none⟩)):=by
 cases h with
 |cptr _ _ _ _ val Dg DH=>
  refine .cptr U _ b (off+n) (fun j=>val (n+j)) (fun j av h=>?_) (fun j av h=>?_)
  all_goals grind
theorem A3.slice_none{tk:Tk}{es:List (List AV)}(h:A3 g w U (.slice tk es) x):A3 g w DR (.slice .none es) x:=by
 cases h with
 |snil U a cap=>grind [snil]
 |slice U es b off sz cap val hc hl Dg DH=>exact .slice DR es b off sz cap val hc hl Dg DH
 |tok U r sz es x h=>cases h with
  |snil U a cap=>grind [snil]
  |slice U es b off sz cap val hc hl Dg DH=>exact .slice DR es b off sz cap val hc hl Dg DH
 |ver U r sz v es x h=>cases h with
  |snil U a cap=>grind [snil]
  |slice U es b off sz cap val hc hl Dg DH=>exact .slice DR es b off sz cap val hc hl Dg DH
 |full U sz es x h=>cases h with
  |snil U a cap=>grind [snil]
  |slice U es b off sz cap val hc hl Dg DH=>exact .slice DR es b off sz cap val hc hl Dg DH
theorem A3.str0{g:Gh}{w:World}{h:Nat->HO}(ho:∀r,DD g w (AI h) r (h r)){av:AV}{x:Value}(r:A3 g w (AI h) av x):A3 g w DR (str0 h av) x:=by
 cases av with
 |v y=>cases r;exact .v _ _
 |slice tk es=>exact r.slice_none
 |ref i off=>
  simp only[Eng.str0];split
  .rename_i cs hc;have h1:=ho i;rw[hc]at h1;obtain⟨ht,b,hb,hr⟩:=h1;cases r with
   |ref _ _ _ b' hu ht' hx=>
    rw[hb]at hx;cases hx;simpa using hr.cptr_drop off
  grind [junk]
 |mref i=>
  simp only[Eng.str0];split
  .rename_i sh BU hc;have h1:=ho i;rw[hc]at h1;obtain⟨ht,b,hb,hr⟩:=h1<;>grind [cases A3]
  grind [junk]
 |cptr cs=>cases r with |cptr _ _ b off val Dg DH=>exact .cptr _ _ b off val Dg DH
 |cmap sh m=>cases r with |cmap _ _ _ b es ck hS hb hm hh=>exact .cmap _ _ _ b es ck hS hb hm hh
 |_=>exact .junk _ _
theorem A3.str{g:Gh}{w:World}{h:Nat->HO}(ho:∀r,DD g w (AI h) r (h r)){av:AV}{x:Value}(r:A3 g w (AI h) av x):A3 g w DR (str h av) x:=by
 cases av with
 |agg cs=>cases r with
  |agg _ _ vs hs h1 hr=>
   refine .agg _ _ vs Wk h1 (fun i av x a b=>?_)
   grind [str0]
 |clo f cs=>cases r with
  |clo _ _ _ vs hs hr=>
   refine .clo _ f _ vs Wk (fun i av x a b=>?_)
   grind [str0]
 |v y=>exact r.str0 ho
 |slice tk es=>exact r.str0 ho
 |ref i off=>exact r.str0 ho
 |mref i=>exact r.str0 ho
 |cptr cs=>exact r.str0 ho
 |cmap sh m=>exact r.str0 ho
 |msl i n=>exact r.str0 ho
 |tup cs=>exact r.str0 ho
 |eref i n z j o=>exact r.str0 ho
 |junk=>exact r.str0 ho
theorem A3.rsv{g:Gh}{w:World}{h:Nat->HO}(ho:∀r,DD g w (AI h) r (h r)){av:AV}{x:Value}(r:A3 g w (AI h) av x):A3 g w (AI h) (rsv h av) x:=by
 cases av with
 |ref i off=>
  simp only[Eng.rsv];split
  .rename_i cs hc
   have:=r.str0 ho
   grind [Eng.str0,A3.up]
  omega
 |mref i=>
  simp only[Eng.rsv];split
  .rename_i sh BU hc
   have:=r.str0 ho
   grind [Eng.str0,A3.up]
  omega
 |_=>exact r
end Go.Eng
namespace Go.Eng
variable {k:IntKind}{w w':World}{t:Nat}{m:Sem Value}{k':IntKind}{X Y:Operand}{a:Int}{op:BinOp}{g:Gh}{b:Bool}{g':Gh}(P:Program)(h:Nat->HO)(r:Nat)(o:HO)
def Gh.upd(g:Gh)(r:Nat)(x:Value)(n:Nat)(t:Bool)(o:Option Nat)(S:Nat->Nat->Prop):Gh:=
 ⟨fun i=>if i=r then x else g.ρ i,fun i=>if i=r then n else g.ln i,fun i=>if i=r then t else g.tk i,fun i=>if i=r then o else g.own i,S⟩
theorem Dx{i r:Nat}(h:i≠r):Nat.beq i r=false:=by
 grind [Nat.eq_of_beq_eq_true]
theorem A2:AP h r o r=o:=by
 grind [Nat.beq_refl,AP]
theorem BQ(i:Nat)(o:HO)(hi:i≠r):AP h r o i=h i:=by
 grind [AP,Dx]
theorem Do{h:Nat->HO}{r:Nat}{o:HO}(ho:o≠.free)(i:Nat)(hi:AI h i):AI (AP h r o) i:=by
 grind [AI,A2,BQ]
theorem VA.keep(h:VA g w)(hk:D2 g w g' w'):VA g' w':=by
 obtain⟨⟨h1,m,h2⟩,h3⟩:=h;obtain⟨k1,k2,_⟩:=hk _ _ h1;refine⟨⟨k1,m,k2.trans h2⟩,fun x hx=>?_⟩;obtain⟨e1,e2,_⟩:=hk _ _ (h3 x hx).1<;>grind
theorem DD.same{U U' : Nat->Prop}{r:Nat}{o:HO}(h:DD g w U r o)(hk:D2 g w g' w')(hU:∀i,U i->U' i)(hg:JA g g' U)(h1:g'.ρ r=g.ρ r)(h2:g'.ln r=g.ln r)(h3:g'.tk r=g.tk r)(h4:g'.own r=g.own r)(hb:∀b,o.live->g.own r=some b->w'.heap[b]?=w.heap[b]?/\∀k,g'.S b k->g.S b k):DD g' w' U' r o:=by
 cases o with
 |free=>trivial
 |dead=>trivial
 |cells cs=>
  obtain⟨t,b,E,vs,a1,a2,a3,a4,a5⟩:=h;obtain⟨c1,c2⟩:=hb b trivial a1;exact⟨h3.trans t,b,E,vs,h4.trans a1,h1.trans a2,c1.trans a3,a4.mono hk hU hg,fun k hk'=>a5 k (c2 k hk')⟩
 |ro cs=>
  obtain⟨t,b,a1,a2⟩:=h;exact⟨h3.trans t,b,h1.trans a1,a2.mono hk (fun _ h=>h) (fun _ h=>h.elim)⟩
 |tok sz n=>
  obtain⟨t,l,a,cap,a1,a2⟩:=h;refine⟨h3.trans t,h2.trans l,a,cap,h1.trans a1,?_⟩;rcases a2 with ⟨e1,e2⟩ | ⟨e1,b,E,vs,off,e2,e3,e4,e5,e6⟩
  .simp_all
  .obtain⟨c1,c2⟩:=hb b trivial e3;exact .inr ⟨e1,b,E,vs,off,e2,h4.trans e3,e4.eq c1,e5,fun o ho=>e6 o (c2 o ho)⟩
 |var sz v n=>
  obtain⟨t,l,a,cap,a1,a2⟩:=h;refine⟨h3.trans t,h2.trans l,a,cap,h1.trans a1,?_⟩;rcases a2 with ⟨e1,e2⟩ | ⟨e1,b,E,vs,off,e2,e3,e4,e5,e6⟩
  .simp_all
  .obtain⟨c1,c2⟩:=hb b trivial e3;exact .inr ⟨e1,b,E,vs,off,e2,h4.trans e3,e4.eq c1,e5,fun o ho=>e6 o (c2 o ho)⟩
 |vox v=>exact⟨h3.trans h.1,h2.trans h.2⟩
 |hol sz es i c av=>
  obtain⟨t,l,a0,b,cap,E,vs,e1,e2,e3,e4,e5,e6,e7,e8,x,e9,vR⟩:=h;obtain⟨c1,c2⟩:=hb b trivial e2;exact⟨h3.trans t,h2.trans l,a0,b,cap,E,vs,h1.trans e1,h4.trans e2,e3,c1.trans e4,e5,e6.mono hk (fun _ h=>h) (fun _ h=>h.elim),fun o ho=>e7 o (c2 o ho),e8,x,e9,vR.mono hk hU hg⟩
 |bld x=>
  obtain⟨t,b,p,v,a1,a2,a3,a4,a5,a6⟩:=h;obtain⟨c1,c2⟩:=hb b trivial a1;exact⟨h3.trans t,b,p,v,h4.trans a1,h1.trans a2,c1.trans a3,a4,a5.mono hk hU hg,fun k hk'=>a6 k (c2 k hk')⟩
 |bbf n=>
  obtain⟨t,l,a1⟩:=h;refine⟨h3.trans t,h2.trans l,?_⟩;rcases a1 with ⟨e0,e1,e2⟩ | ⟨b,cap,Dn,e1,e2,e3,e4,e5,e6,e7⟩
  .simp_all
  .obtain⟨c1,c2⟩:=hb b trivial e2<;>grind
 |raw b ob=>
  obtain⟨t,a1,a2,a3,a4⟩:=h;obtain⟨c1,c2⟩:=hb b trivial a1;exact⟨h3.trans t,h4.trans a1,c1.trans a2,a3,fun k hk'=>a4 k (c2 k hk')⟩
 |arr sz es=>
  obtain⟨t,l,a0,a1⟩:=h;refine⟨h3.trans t,h2.trans l,a0,?_⟩;rcases a1 with ⟨e1,e2,e3⟩ | ⟨b,cap,E,vs,e1,e2,e3,e4,e5,e6,e7⟩
  .simp_all
  .obtain⟨c1,c2⟩:=hb b trivial e2;exact .inr ⟨b,cap,E,vs,h1.trans e1,h4.trans e2,e3,c1.trans e4,e5,e6.mono hk (fun _ h=>h) (fun _ h=>h.elim),fun o ho=>e7 o (c2 o ho)⟩
 |map sh BU=>
  obtain⟨t,b,es,ck,a1,a2,a3,a4,a5,a6⟩:=h;obtain⟨c1,c2⟩:=hb b trivial a1;exact⟨h3.trans t,b,es,ck,h4.trans a1,h1.trans a2,c1.trans a3,a4,fun i kv e p q=>(a5 i kv e p q).mono hk (fun _ h=>h) (fun _ h=>h.elim),fun k hk'=>a6 k (c2 k hk')⟩
 |mapU sh BU=>
  obtain⟨t,b,es,ck,a1,a2,a3,a4,a5,a6⟩:=h;obtain⟨c1,c2⟩:=hb b trivial a1;exact⟨h3.trans t,b,es,ck,h4.trans a1,h1.trans a2,c1.trans a3,a4,fun i kv e p q=>(a5 i kv e p q).mono hk hU hg,fun k hk'=>a6 k (c2 k hk')⟩
 |rom sh BU=>
  obtain⟨t,b,a1,a2⟩:=h;exact⟨h3.trans t,b,h1.trans a1,a2.mono hk (fun _ h=>h) (fun _ h=>h.elim)⟩
 |iter all rem Dn=>
  obtain⟨t,b,mb,Jx,seen,st,es,ck,a1,a2,a3,a4,a5,a6,a7,a8,a9,WY,bo,a12,po⟩:=h;obtain⟨c1,c2⟩:=hb b trivial a1;obtain⟨k1,k2,k3⟩:=hk _ _ a4
  exact⟨h3.trans t,b,mb,Jx,seen,st,es,ck,h4.trans a1,h1.trans a2,c1.trans a3,k1,k3 _ _ a5,a6,a7,a8,
   fun i kv e p q=>(a9 i kv e p q).mono hk (fun _ h=>h) (fun _ h=>h.elim),WY,bo,a12,fun k hk'=>po k (c2 k hk')⟩
theorem CA.upd{w0:World}{g0:Gh}{h0 h:Nat->HO}{g:Gh}{w:World}(hI:CA w0 g0 h0 h g w)(r:Nat)(o' : HO)(x:Value)(n:Nat)(t:Bool)(ow:Option Nat)(S' : Nat->Nat->Prop)(w' : World)
  (w9:Option Nat) (oP:w'.os=w.os/\w'.tape=w.tape/\w'.output=w.output/\w.heap.size<=w'.heap.size)
  (QO:∀k,k<w.heap.size->some k≠w9->w'.heap[k]?=w.heap[k]?)
  (hch:∀b,w9=some b->(h r).live/\g.own r=some b)
  (hS:∀b o,g.S b o->S' b o)
  (yj : ∀b o,S' b o->g.S b o\/(b<w'.heap.size/\(w.heap.size<=b\/((h r).live/\g.own r=some b))))
  (hkc:∀b o,w9=some b->g.S b o->w'.cell? ⟨b,o,none⟩=w.cell? ⟨b,o,none⟩/\∀es ck,w.heap[b]?=some (.map es ck)->w'.heap[b]?=some (.map es ck))
  (zl:∀b,o'.live->ow=some b->b<w'.heap.size/\(((h r).live/\g.own r=some b)\/w.heap.size<=b))
  (CU:o'≠.free) (hgh:AI h r->t=g.tk r/\g.ln r<=n/\(g.tk r=false->x=g.ρ r)/\(n=g.ln r->x=g.ρ r))
  (Li:JA g (g.upd r x n t ow S') (AI h)->D2 g w (g.upd r x n t ow S') w'->DD (g.upd r x n t ow S') w' (AI (AP h r o')) r o') :
  CA w0 g0 h0 (AP h r o') (g.upd r x n t ow S') w'/\Le h g w (AP h r o') (g.upd r x n t ow S') w':=by
 have yi:∀b o,S' b o->g.S b o\/(b<w'.heap.size/\∀r',r'≠r->(h r').live->g.own r'≠some b):=fun b o hs=>by
  rcases yj b o hs with h1 | ⟨h1,h2⟩
  .simp_all
  .refine .inr ⟨h1,fun r' hr hl e=>?_⟩;rcases h2 with h2 | ⟨h2,h3⟩
   .have:=(hI.loc r' b hl e).1;omega
   grind [CA.inj]
 have iL:JA g (g.upd r x n t ow S') (AI h):=by
  intro i hi
  grind [Gh.upd]
 have hK:D2 g w (g.upd r x n t ow S') w':=by
  intro b o hb;refine⟨hS b o hb,?_⟩
  grind [World.cell?,CA.slt]
 have LQ:∀i,AI h i->AI (AP h r o') i:=fun i hi=>Do CU i hi;refine⟨⟨oP.1.trans hI.os,oP.2.1.trans hI.tape,oP.2.2.1.trans hI.output,AO hI.size oP.2.2.2,fun b hb hn=>?_,fun b o hb=>?_,fun i=>?_,fun i j b hi hj ei ej=>?_,fun i b hi ei=>?_,fun b o hs=>?_,hI.glob.keep hK⟩,iL,LQ,hK⟩
 .grind [CA.loc,CA.frame]
 .rcases yi b o hb with h1 | h1<;>grind [CA.slt]
 .by_cases e:i=r
  .grind [A2]
  .rw[BQ _ _ _ _ e];refine(hI.objs i).same hK LQ iL (by simp[Gh.upd,e]) (by simp[Gh.upd,e]) (by simp[Gh.upd,e]) (by simp[Gh.upd,e]) (fun b hl hb=>?_);have BW:=(hI.loc i b hl hb).1;refine⟨QO b BW (fun e'=>?_),fun k hk=>?_⟩
   .grind [CA.inj]
   .rcases yi b k hk with h1 | h1<;>simp_all
 .have key:∀k,k≠r->(AP h r o' k).live->(h k).live:=fun k hk hl=>by grind [BQ]
  by_cases e1:i=r<;>by_cases e2:j=r
  .omega
  .subst e1;simp only[Gh.upd,if_true,AB e2]at ei ej;rw[A2]at hi;have hl:=key j e2 hj;rcases(zl b hi ei).2 with ⟨q1,q2⟩ | q
   .grind [CA.inj]
   .have:=(hI.loc j b hl ej).1;omega
  .subst e2;simp only[Gh.upd,if_true,AB e1]at ei ej;rw[A2]at hj;have hl:=key i e1 hi;rcases(zl b hj ej).2 with ⟨q1,q2⟩ | q
   .grind [CA.inj]
   .have:=(hI.loc i b hl ei).1;omega
  grind [Gh.upd,CA.inj]
 all_goals grind [Gh.upd,A2,BQ,Nat.lt_of_lt_of_le,CA.loc,CA.size,CA.sg]
theorem CA.heapEq{w0:World}{g0:Gh}{h0 h:Nat->HO}(hI:CA w0 g0 h0 h g w)(oP:w'.os=w.os/\w'.tape=w.tape/\w'.output=w.output)(hh:w'.heap=w.heap) :
  CA w0 g0 h0 h g w'/\Le h g w h g w':=by
 have hc:∀a,w'.cell? a=w.cell? a:=fun a=>by grind [World.cell?]
 have hK:D2 g w g w':=fun b o hb=>⟨hb,hc _,fun es ck he=>by simp_all⟩;refine⟨⟨oP.1.trans hI.os,oP.2.1.trans hI.tape,oP.2.2.trans hI.output,by rw[hh];exact hI.size,fun b hb hn=>by grind [CA.frame],fun b o hb=>by rw[hh];exact hI.slt b o hb,fun r=>?_,hI.inj,fun r b h1 h2=>by rw[hh];exact hI.loc r b h1 h2,hI.sg,hI.glob.keep hK⟩,.refl _ _,fun _ h=>h,hK⟩;exact(hI.objs r).same hK (fun _ h=>h) (.refl _ _) rfl rfl rfl rfl (fun b _ _=>⟨by rw[hh],fun _ h=>h⟩)
def NV:TypeDesc->TD
 |.bool=>.bool
 |.int k=>.int k
 |.string=>.string
 |.slice e=>.slice e
 |.array n e=>.array n e
 | .struct fs => bif fs.any (fun f => f.name == "_") then .other else .struct (fs.toList.map fun f => (f.type, f.offset))
 |.pointer e=>.ptr e
 |.map k e=>.map k e
 |.func ..=>.func
 |.interface _=>.iface
 |_=>.other
def gp(t:Nat):TI:=
 match P.underlying t,P.info? t with
 |some d,some i=>match i.zero with
  |some z=>⟨NV d,i.size,i.bytes,z,!P.stoodInHeld t&&!P.eqGuardType P.depth t⟩
  |none=>⟨.other,0,0,.nilIface,false⟩
 |_,_=>⟨.other,0,0,.nilIface,false⟩
def Jg:TD->Bool
 |.struct _=>true
 |.array _ _=>true
 |_=>false
theorem TI.zc_cells(i:TI):i.zc=i.zero.cells.toList:=by
 grind [TI.zc,Value.cells]
def bi:TI:=⟨.other,0,0,.nilIface,false⟩
def Cb(T:Gf):Prop:=∀t,T t=bi\/T t=gp P t
section
variable {P:Program}{T:Gf}(hT:Cb P T)
include hT
theorem Cb.get(h:(T t).d≠.other):∃d i z,P.underlying t=some d/\(T t).d=NV d/\P.info? t=some i/\i.zero=some z/\(T t).size=i.size/\(T t).bytes=i.bytes /\
  (T t).zero=z/\((T t).eqok=true->P.stoodInHeld t=false/\P.eqGuardType P.depth t=false):=by
 rcases hT t with e | e
 .rw[e]at h;exact absurd rfl h
 unfold gp at e;split at e
 .split at e
  all_goals simp_all
 simp_all
end
theorem Zc(fs:Array Field):NV (.struct fs)=.other\/NV (.struct fs)=.struct (fs.toList.map fun f=>(f.type,f.offset)):=by
 grind [NV]
section
variable {P:Program}{T:Gf}(hT:Cb P T)
include hT
theorem Cb.slice{t e:Nat}(h:(T t).d=.slice e):P.underlying t=some (.slice e):=by
 obtain⟨d,i,z,h1,h2,_⟩:=hT.get (t:=t) Wk;rw[h]at h2;cases d<;>grind [NV]
theorem Cb.string{t:Nat}(h:(T t).d=.string):P.underlying t=some .string:=by
 obtain⟨d,i,z,h1,h2,_⟩:=hT.get (t:=t) Wk;rw[h]at h2;cases d<;>grind [NV]
theorem Cb.bool{t:Nat}(h:(T t).d=.bool):P.underlying t=some .bool:=by
 obtain⟨d,i,z,h1,h2,_⟩:=hT.get (t:=t) Wk;rw[h]at h2;cases d<;>grind [NV]
theorem Cb.int{t:Nat}{k:IntKind}(h:(T t).d=.int k):P.underlying t=some (.int k):=by
 obtain⟨d,i,z,h1,h2,_⟩:=hT.get (t:=t) Wk;rw[h]at h2;cases d<;>grind [NV]
theorem Cb.ptr{e:Nat}(h:(T t).d=.ptr e):P.underlying t=some (.pointer e):=by
 obtain⟨d,i,z,h1,h2,_⟩:=hT.get (t:=t) Wk;rw[h]at h2;cases d<;>grind [NV]
theorem Cb.iface(h:(T t).d=.iface):∃ms,P.underlying t=some (.interface ms):=by
 obtain⟨d,i,z,h1,h2,_⟩:=hT.get (t:=t) Wk;rw[h]at h2;cases d<;>grind [NV]
theorem Cb.map{t k e:Nat}(h:(T t).d=.map k e):P.underlying t=some (.map k e):=by
 obtain⟨d,i,z,h1,h2,_⟩:=hT.get (t:=t) Wk;rw[h]at h2;cases d<;>grind [NV]
theorem Cb.array{t n e:Nat}(h:(T t).d=.array n e):P.underlying t=some (.array n e):=by
 obtain⟨d,i,z,h1,h2,_⟩:=hT.get (t:=t) Wk;rw[h]at h2;cases d<;>grind [NV]
theorem Cb.struct {t : Nat} {fs : List (Nat × Nat)} (h : (T t).d = .struct fs) : ∃ fa : Array Field, P.underlying t = some (.struct fa) /\ fs = fa.toList.map (fun f => (f.type, f.offset)) /\ ∀ f ∈ fa.toList, f.name ≠ "_" := by
 obtain⟨d,i,z,h1,h2,_⟩:=hT.get (t:=t) Wk;rw[h]at h2;cases d<;>grind [List.mem_iff_getElem,NV]
theorem Cb.size(w:World){t:Nat}(h:(T t).d≠.other):(sizeOf t).run P w=.ok (T t).size w:=by
 obtain⟨d,i,z,h1,h2,h3,h4,h5,_⟩:=hT.get h;simp[sizeOf,typeInfo,h3,h5]
theorem Cb.size1(w:World){n:Nat}(h:(T t).size=n+1):(sizeOf t).run P w=.ok (n+1) w:=by
 rcases hT t with e | e
 .rw[e]at h;cases h
 unfold gp at e;split at e
 .split at e
  .rename_i d i h1 h2 _ z h3;rw[e]at h;dsimp only at h;simp[sizeOf,typeInfo,h2,h]
  simp_all
 simp_all
theorem Cb.isAgg(w:World){t:Nat}(h:(T t).d≠.other):(isAgg t).run P w=.ok (Jg (T t).d) w:=by
 obtain⟨d,i,z,h1,h2,_⟩:=hT.get h;rw[h2];rw[h2]at h;cases d with
 |struct fs=>
  rcases Zc fs with e | e
  .simp_all
  .rw[e];simp[Go.isAgg,run_underlying h1,Jg]
 |_=>simp[Go.isAgg,run_underlying h1,NV,Jg]
end
def Bs(g:Gh)(w:World)(m:Sem Value)(K:AV->Prop):Prop:=∃x av,m.run P w=.ok x w/\K av/\A3 g w (AI h) av x
theorem Sc{p:Prop}{K:AV->Prop}(h:Iv p K)(hb:b=true↔p):K (.v (.bool b)):=by
 cases b with
 |true=>exact h.1 (hb.1 rfl)
 |false=>exact h.2 (fun e=>by simp_all)
theorem KD(h:rX k k'=true):k=k':=by cases k<;>cases k'<;>first | rfl | grind [rX]
theorem MM(h:A8 a):IntKind.i64.wrap a=a:=by
 grind [A8,IntKind.wrap,IntKind.bits,IntKind.signed]
theorem JB:∀l m:List UInt8,(Op.bytesLess l m||l == m)=!Op.bytesLess m l
 | [],[]=>rfl
 | [],_::_=>rfl
 |_::_,[]=>rfl
 |a::l,b::m=>by
  have ih:=JB l m
  grind [Op.bytesLess]
theorem I8(a b:ByteArray):(a.toList == b.toList)=true↔a=b:=by
 rw[ByteArray.toList_eq,ByteArray.toList_eq];constructor
 .intro h;have h1:=eq_of_beq h;cases a<;>simp_all
 simp_all
section
variable {P:Program}{T:Gf}{h:Nat->HO}{g:Gh}{w:World}{K:AV->Prop}
theorem Bs.bool{p:Prop}(hm:m.run P w=.ok (.bool b) w)(hb:b=true↔p)(hk:Iv p K):Bs P h g w m K:=
 ⟨_,_,hm,Sc hk hb,.v _ _⟩
theorem Bs.val{x:Value}(hm:m.run P w=.ok x w)(hk:K (.v x)):Bs P h g w m K:=⟨_,_,hm,hk,.v _ _⟩
theorem Qf{t:Nat}{b:Int}(hk:TS op k a b K) :
  Bs P h g w (do eqGuard op t X Y (.int k a) (.int k' b);binOp op t (.int k a) (.int k' b)) K:=by
 cases op
 case shl=>exact Bs.val (by simp[eqGuard,binOp,Op.shift,WH,Int.not_lt.2 hk.1]) hk.2
 case shr=>exact Bs.val (by simp[eqGuard,binOp,Op.shift,WH,Int.not_lt.2 hk.1]) hk.2
 all_goals exact hk.elim
theorem dj{t:Nat}{b:Int}(hk:RY op k a b K) :
  Bs P h g w (do eqGuard op t X Y (.int k a) (.int k b);binOp op t (.int k a) (.int k b)) K:=by
 have key:∀{k:IntKind},VJ op k a b K->Bs P h g w (do eqGuard op t X Y (.int k a) (.int k b);binOp op t (.int k a) (.int k b)) K:=by
  intro k hk;cases op
  case quo=>
   obtain⟨⟨h1,h2,h3⟩,hk⟩:=hk;have hb:¬b=0:=B0
   exact Bs.val (by simp[eqGuard,binOp,Op.intDiv,hb,Int.tdiv_eq_ediv_of_nonneg h1,h3]) hk
  case rem=>
   obtain⟨⟨h1,h2⟩,hk⟩:=hk;have hb:¬b=0:=B0
   exact Bs.val (by simp[eqGuard,binOp,Op.intDiv,hb,Int.tmod_eq_emod_of_nonneg h1]) hk
  case shl=>exact Qf hk
  case shr=>exact Qf hk
  all_goals first | exact hk.elim | exact Bs.val (by simp[eqGuard,binOp,Op.intArith,Op.intBits,GV]) hk
 cases k with
 |i64=>
  unfold RY at hk
  cases op<;>dsimp only at hk<;>first
   |exact hk.elim
   |(refine Bs.val ?_ hk.2;simp[eqGuard,binOp,Op.intArith,MM hk.1];done)
   |exact key (k:=.i64) hk
   |skip
  .obtain⟨⟨h1,h2,h3⟩,hk⟩:=hk;refine Bs.val ?_ hk;have e1:a.tdiv b=a / b:=Int.tdiv_eq_ediv_of_nonneg h1;have e3:a / b<=a:=Int.ediv_le_self b h1;have e2:IntKind.i64.wrap (a / b)=a / b:=MM ⟨by have:=Int.ediv_nonneg h1 (by omega:0<=b);omega,by grind [A8]⟩;have hb:¬b=0:=B0
   simp[eqGuard,binOp,Op.intDiv,hb,e1,e2]
 |_=>exact key hk
end
end Go.Eng
namespace Go.Eng
open Go.Proofs
abbrev xV:TI := bi
abbrev tF:TI := ⟨.func,1,8,.nilFunc,true⟩
abbrev tI:TI := ⟨.int .i64,1,8,.int .i64 0,true⟩
abbrev tP(n:Nat):TI := ⟨.ptr n,1,8,.pointer none,true⟩
abbrev tS(n:Nat):TI := ⟨.slice n,1,24,.slice none 0 0,true⟩
def jE{α:Type}(d:α):List α -> Nat -> α
 | [],_ => d
 |a::r,n => match n with |0 => a |n + 1 => jE d r n
abbrev tiN:TI := bi
def Aai:List TI := [⟨.other,1,0,(.tuple #[]),true⟩,tF,tI,tI,⟨.bool,1,1,(.bool .false),true⟩,⟨.int .u8,1,1,(.int .u8 0),true⟩,⟨.int .u8,1,1,(.int .u8 0),true⟩,⟨.struct [(2,0),(3,1),(4,2),(6,3)],4,24,(.agg #[.int .i64 0,.int .i64 0,.bool .false,.int .u8 0]),true⟩,⟨.struct [(2,0),(3,1),(4,2),(6,3)],4,24,(.agg #[.int .i64 0,.int .i64 0,.bool .false,.int .u8 0]),true⟩,⟨.string,1,16,(.string ⟨#[]⟩),true⟩,⟨.string,1,16,(.string ⟨#[]⟩),true⟩,⟨.string,1,16,(.string ⟨#[]⟩),true⟩,⟨.int .u64,1,8,(.int .u64 0),true⟩,⟨.struct [(9,0),(12,1)],2,24,(.agg #[.string ⟨#[]⟩,.int .u64 0]),false⟩,⟨.struct [(9,0),(12,1)],2,24,(.agg #[.string ⟨#[]⟩,.int .u64 0]),false⟩,⟨.ptr 462,1,8,(.pointer .none),true⟩]
def Aaj:List TI := [⟨.ptr 465,1,8,(.pointer .none),true⟩,⟨.ptr 472,1,8,(.pointer .none),true⟩,⟨.struct [(17,0)],1,8,(.agg #[.pointer .none]),false⟩,⟨.struct [(17,0)],1,8,(.agg #[.pointer .none]),false⟩,⟨.iface,1,16,.nilIface,true⟩,⟨.int .i32,1,4,(.int .i32 0),true⟩,⟨.slice 70,1,24,(.slice .none 0 0),true⟩,⟨.slice 478,1,24,(.slice .none 0 0),true⟩,⟨.struct [(22,0),(23,1)],2,48,(.agg #[.slice .none 0 0,.slice .none 0 0]),true⟩,⟨.struct [(22,0),(23,1)],2,48,(.agg #[.slice .none 0 0,.slice .none 0 0]),true⟩,⟨.slice 68,1,24,(.slice .none 0 0),true⟩,tF,tF,⟨.slice 53,1,24,(.slice .none 0 0),true⟩,⟨.slice 96,1,24,(.slice .none 0 0),true⟩,⟨.slice 92,1,24,(.slice .none 0 0),true⟩]
def Aak:List TI := [⟨.struct [(26,0),(29,1),(30,2),(31,3)],4,96,(.agg #[.slice .none 0 0,.slice .none 0 0,.slice .none 0 0,.slice .none 0 0]),true⟩,⟨.struct [(26,0),(29,1),(30,2),(31,3)],4,96,(.agg #[.slice .none 0 0,.slice .none 0 0,.slice .none 0 0,.slice .none 0 0]),true⟩,tI,⟨.other,1,0,(.tuple #[.agg #[.slice .none 0 0,.slice .none 0 0,.slice .none 0 0,.slice .none 0 0],.int .i64 0]),true⟩,tF,⟨.slice 45,1,24,(.slice .none 0 0),true⟩,⟨.other,1,0,(.tuple #[.slice .none 0 0,.int .i64 0]),true⟩,tF,tF,tF,⟨.struct [(3,0),(3,1),(3,2)],3,24,(.agg #[.int .i64 0,.int .i64 0,.int .i64 0]),true⟩,⟨.struct [(3,0),(3,1),(3,2)],3,24,(.agg #[.int .i64 0,.int .i64 0,.int .i64 0]),true⟩,tiN,⟨.struct [(9,0),(43,1)],4,40,(.agg #[.string ⟨#[]⟩,.int .i64 0,.int .i64 0,.int .i64 0]),true⟩,tiN,tiN]
def Aal:List TI := [tiN,tiN,tiN,tiN,tiN,⟨.struct [(9,0),(43,1),(9,4),(9,5)],6,72,(.agg #[.string ⟨#[]⟩,.int .i64 0,.int .i64 0,.int .i64 0,.string ⟨#[]⟩,.string ⟨#[]⟩]),true⟩,tiN,tiN,tiN,tiN,tiN,tiN,tiN,tiN,tiN,tiN]
def Aam:List TI := [⟨.struct [(3,0),(3,1)],2,16,(.agg #[.int .i64 0,.int .i64 0]),true⟩,⟨.slice 64,1,24,(.slice .none 0 0),true⟩,⟨.slice 64,1,24,(.slice .none 0 0),true⟩,tiN,⟨.struct [(9,0),(66,1)],2,40,(.agg #[.string ⟨#[]⟩,.slice .none 0 0]),true⟩,tiN,⟨.struct [(9,0),(43,1),(26,4),(9,5),(9,6),(9,7),(4,8)],9,120,(.agg #[.string ⟨#[]⟩,.int .i64 0,.int .i64 0,.int .i64 0,.slice .none 0 0,.string ⟨#[]⟩,.string ⟨#[]⟩,.string ⟨#[]⟩,.bool .false]),true⟩,⟨.slice 76,1,24,(.slice .none 0 0),true⟩,tiN,tiN,tiN,tiN,⟨.struct [(9,0),(3,1),(3,2)],3,32,(.agg #[.string ⟨#[]⟩,.int .i64 0,.int .i64 0]),true⟩,tiN,tiN,tiN]
def Aan:List TI := [⟨.struct [(4,0),(37,1),(30,2),(31,3)],4,80,(.agg #[.bool .false,.slice .none 0 0,.slice .none 0 0,.slice .none 0 0]),true⟩,tiN,tiN,tiN,tiN,tiN,tiN,tiN,tiN,tiN,tiN,tiN,⟨.struct [(9,0),(3,1),(3,2)],3,32,(.agg #[.string ⟨#[]⟩,.int .i64 0,.int .i64 0]),true⟩,tiN,tiN,tiN]
def kk:List TI := [⟨.struct [(3,0),(9,1),(3,2),(3,3),(3,4),(3,5)],6,56,(.agg #[.int .i64 0,.string ⟨#[]⟩,.int .i64 0,.int .i64 0,.int .i64 0,.int .i64 0]),true⟩,tiN,⟨.map 45 70,1,8,(.map .none),true⟩,⟨.map 9 22,1,8,(.map .none),true⟩,tiN,⟨.struct [(98,0),(99,1)],2,16,(.agg #[.map .none,.map .none]),true⟩,tiN,tiN,tiN,tiN,⟨.map 9 70,1,8,(.map .none),true⟩,tiN,tiN,tF,tiN,⟨.map 9 4,1,8,(.map .none),true⟩]
def nL:List TI := [tiN,tiN,tiN,tiN,tiN,tiN,tiN,⟨.ptr 121,1,8,(.pointer .none),true⟩,tiN,⟨.struct [(9,0)],1,16,(.agg #[.string ⟨#[]⟩]),true⟩,tiN,⟨.ptr 33,1,8,(.pointer .none),true⟩,⟨.ptr 128,1,8,(.pointer .none),true⟩,⟨.ptr 225,1,8,(.pointer .none),true⟩,tiN,tiN]
def Aao:List TI := [⟨.struct [(125,0),(3,1)],2,16,(.agg #[.pointer .none,.int .i64 0]),true⟩,tiN,tiN,tiN,⟨.slice 3,1,24,(.slice .none 0 0),true⟩,tiN,tiN,tiN,tiN,tiN,tiN,tiN,tiN,tiN,tiN,tiN]
def Aap:List TI := [⟨.slice 9,1,24,(.slice .none 0 0),true⟩,⟨.map 9 3,1,8,(.map .none),true⟩,tiN,tiN,tiN,tiN,⟨.other,1,0,(.tuple #[.int .i64 0,.bool .false]),true⟩,tiN,tiN,⟨.ptr 163,1,8,(.pointer .none),true⟩,tiN,tiN,⟨.map 9 160,1,8,(.map .none),true⟩,⟨.map 9 66,1,8,(.map .none),true⟩,⟨.slice 258,1,24,(.slice .none 0 0),true⟩,⟨.map 96 3,1,8,(.map .none),true⟩]
def uI:List TI := [⟨.slice 242,1,24,(.slice .none 0 0),true⟩,⟨.slice 31,1,24,(.slice .none 0 0),true⟩,tiN,⟨.struct [(26,0),(156,1),(157,2),(30,3),(158,4),(159,5),(4,6),(160,7),(37,8),(161,9)],10,176,(.agg #[.slice .none 0 0,.map .none,.map .none,.slice .none 0 0,.slice .none 0 0,.map .none,.bool .false,.slice .none 0 0,.slice .none 0 0,.slice .none 0 0]),true⟩,tiN,tiN,tF,tiN,tiN,tiN,tiN,tiN,tiN,tiN,tiN,tiN]
def uJ:List TI := [tiN,tiN,tiN,tiN,tF,⟨.ptr 281,1,8,(.pointer .none),true⟩,tiN,tiN,tiN,tiN,tiN,tF,tiN,tF,tiN,tiN]
def uK:List TI := [tiN,tiN,tiN,tF,tiN,⟨.iface,1,16,.nilIface,false⟩,tiN,⟨.ptr 26,1,8,(.pointer .none),true⟩,⟨.ptr 68,1,8,(.pointer .none),true⟩,tiN,⟨.ptr 9,1,8,(.pointer .none),true⟩,tiN,⟨.ptr 65,1,8,(.pointer .none),true⟩,tiN,⟨.ptr 64,1,8,(.pointer .none),true⟩,tiN]
def uM:List TI := [⟨.ptr 3,1,8,(.pointer .none),true⟩,tF,tF,tiN,⟨.ptr 29,1,8,(.pointer .none),true⟩,⟨.ptr 53,1,8,(.pointer .none),true⟩,tF,tiN,⟨.ptr 30,1,8,(.pointer .none),true⟩,⟨.ptr 96,1,8,(.pointer .none),true⟩,tiN,tF,tiN,⟨.ptr 31,1,8,(.pointer .none),true⟩,⟨.ptr 92,1,8,(.pointer .none),true⟩,tF]
def uN:List TI := [tiN,⟨.struct [(9,0),(3,1),(34,2)],3,32,(.agg #[.string ⟨#[]⟩,.int .i64 0,.int .i64 0]),true⟩,tiN,tiN,tiN,⟨.int .u64,1,8,(.int .u64 0),true⟩,tiN,tiN,tiN,tiN,tiN,tiN,tiN,tiN,tiN,tiN]
def uO:List TI := [⟨.int .u64,1,8,(.int .u64 0),true⟩,tiN,⟨.struct [(3,0),(70,1)],10,128,(.agg #[.int .i64 0,.string ⟨#[]⟩,.int .i64 0,.int .i64 0,.int .i64 0,.slice .none 0 0,.string ⟨#[]⟩,.string ⟨#[]⟩,.string ⟨#[]⟩,.bool .false]),true⟩,tiN,⟨.slice 249,1,24,(.slice .none 0 0),true⟩,tiN,tiN,tiN,tiN,⟨.struct [(68,0),(9,2),(3,3),(3,4)],5,72,(.agg #[.string ⟨#[]⟩,.slice .none 0 0,.string ⟨#[]⟩,.int .i64 0,.int .i64 0]),true⟩,tF,tiN,tiN,tiN,tiN,tiN]
def uP:List TI := [tF,⟨.slice 325,1,24,(.slice .none 0 0),true⟩,⟨.slice 325,1,24,(.slice .none 0 0),true⟩,tiN,tiN,⟨.other,1,0,(.tuple #[.string ⟨#[]⟩,.bool .false]),true⟩,tiN,tiN,tiN,tiN,tiN,tiN,tiN,tiN,tiN,tiN]
def uQ:List TI := [tiN,tiN,tiN,tiN,⟨.array 3 3,3,24,(.agg #[.int .i64 0,.int .i64 0,.int .i64 0]),true⟩,tiN,tiN,tiN,tiN,⟨.struct [(25,0),(26,2),(158,3)],4,96,(.agg #[.slice .none 0 0,.slice .none 0 0,.slice .none 0 0,.slice .none 0 0]),true⟩,tiN,tiN,tF,tiN,tiN,tiN]
def uR:List TI := [tiN,tiN,⟨.slice 208,1,24,(.slice .none 0 0),true⟩,tiN,tiN,tiN,tF,tiN,⟨.slice 5,1,24,(.slice .none 0 0),true⟩,tiN,tiN,⟨.int .u32,1,4,(.int .u32 0),true⟩,tiN,tiN,tiN,tiN]
def uS:List TI := [tiN,tiN,tiN,tiN,tI,⟨.other,1,0,(.tuple #[.int .i64 0,.int .i64 0]),true⟩,tiN,tiN,tiN,tiN,tiN,tiN,tiN,tiN,tF,tiN]
def uT:List TI := [tiN,tiN,tiN,tiN,tiN,⟨.struct [(9,0),(4,1),(66,2)],3,48,(.agg #[.string ⟨#[]⟩,.bool .false,.slice .none 0 0]),true⟩,tF,tiN,tiN,tiN,tiN,tiN,tiN,tiN,tiN,tiN]
def uU:List TI := [tiN,tiN,tiN,tiN,tiN,tiN,tiN,tiN,tF,tF,tiN,⟨.struct [(344,0),(345,1)],2,16,(.agg #[.nilFunc,.nilFunc]),true⟩,⟨.array 4 347,8,64,(.agg #[.nilFunc,.nilFunc,.nilFunc,.nilFunc,.nilFunc,.nilFunc,.nilFunc,.nilFunc]),true⟩,tiN,tiN,tiN]
def uV:List TI := [⟨.other,1,0,(.tuple #[.int .u32 0,.int .u32 0]),true⟩,tiN,tiN,tiN,tiN,tiN,tiN,tiN,tiN,tiN,tiN,tiN,tiN,tiN,tiN,tiN]
def uW:List TI := [tiN,tiN,tiN,tiN,⟨.int .u64,1,8,(.int .u64 0),true⟩,tiN,tiN,tiN,tiN,tiN,tF,tiN,tF,tiN,tiN,tiN]
def uX:List TI := [tiN,tiN,tiN,tF,tiN,tiN,tiN,tiN,tiN,tiN,tiN,tiN,⟨.slice 66,1,24,(.slice .none 0 0),true⟩,tiN,tiN,tiN]
def uY:List TI := [tiN,tiN,tiN,tiN,⟨.ptr 5,1,8,(.pointer .none),true⟩,tiN,tiN,tiN,⟨.ptr 372,1,8,(.pointer .none),true⟩,⟨.other,1,0,(.tuple #[.int .i64 0,.int .i64 0]),true⟩,tiN,tiN,tiN,tiN,tiN,⟨.map 9 325,1,8,(.map .none),true⟩]
def uZ:List TI := [tiN,tiN,tF,tiN,tiN,tiN,⟨.other,1,0,(.tuple #[.int .i32 0,.int .i64 0]),true⟩,tiN,tiN,tiN,tiN,tiN,tiN,tiN,tiN,tiN]
def u6:List TI := [⟨.map 3 3,1,8,(.map .none),true⟩,tiN,tiN,tiN,tiN,tiN,tiN,tiN,tiN,tiN,tiN,tiN,⟨.array 256 5,256,256,(.agg (((List.replicate 64 (.int .u8 0)).append (List.replicate 64 (.int .u8 0))).append ((List.replicate 64 (.int .u8 0)).append (List.replicate 64 (.int .u8 0)))).toArray),true⟩,tiN,⟨.struct [(5,0),(5,1)],2,2,(.agg #[.int .u8 0,.int .u8 0]),true⟩,⟨.array 16 446,32,32,(.agg (Array.replicate 32 (.int .u8 0))),true⟩]
def u7:List TI := [tiN,tiN,tiN,tiN,tiN,tiN,tiN,tiN,tiN,tiN,tiN,tiN,tiN,tiN,⟨.struct [(17,0),(17,1),(17,2),(9,3)],4,40,(.agg #[.pointer .none,.pointer .none,.pointer .none,.string ⟨#[]⟩]),false⟩,tiN]
def u9:List TI := [tiN,⟨.other,0,0,(.agg #[]),false⟩,⟨.int .u8,1,1,(.int .u8 0),true⟩,⟨.int .u8,1,1,(.int .u8 0),true⟩,tF,⟨.int .i32,1,4,(.int .i32 0),true⟩,⟨.int .i32,1,4,(.int .i32 0),true⟩,tiN,⟨.struct [(12,0),(12,1),(299,2),(466,3),(5,4),(5,5),(467,6),(468,7),(404,8),(469,9),(470,10)],11,48,(.agg #[.int .u64 0,.int .u64 0,.int .u32 0,.int .u8 0,.int .u8 0,.int .u8 0,.int .u8 0,.nilFunc,.pointer .none,.int .i32 0,.int .i32 0]),false⟩,⟨.slice 490,1,24,(.slice .none 0 0),true⟩,⟨.slice 492,1,24,(.slice .none 0 0),true⟩,⟨.slice 494,1,24,(.slice .none 0 0),true⟩,⟨.slice 496,1,24,(.slice .none 0 0),true⟩,tiN,⟨.struct [(9,0),(473,1),(474,2),(475,3),(476,4)],5,112,(.agg #[.string ⟨#[]⟩,.slice .none 0 0,.slice .none 0 0,.slice .none 0 0,.slice .none 0 0]),true⟩,tiN]
def vd:List TI := [tF,tiN,tF,tiN,⟨.slice 498,1,24,(.slice .none 0 0),true⟩,⟨.slice 488,1,24,(.slice .none 0 0),true⟩,⟨.slice 500,1,24,(.slice .none 0 0),true⟩,tiN,⟨.struct [(3,0),(9,1),(9,2),(485,3),(486,4)],5,88,(.agg #[.int .i64 0,.string ⟨#[]⟩,.string ⟨#[]⟩,.slice .none 0 0,.slice .none 0 0]),true⟩,tiN,⟨.struct [(9,0),(484,1),(488,2),(488,7)],12,216,(.agg #[.string ⟨#[]⟩,.slice .none 0 0,.int .i64 0,.string ⟨#[]⟩,.string ⟨#[]⟩,.slice .none 0 0,.slice .none 0 0,.int .i64 0,.string ⟨#[]⟩,.string ⟨#[]⟩,.slice .none 0 0,.slice .none 0 0]),true⟩,tiN,⟨.struct [(9,0),(484,1),(488,2)],7,128,(.agg #[.string ⟨#[]⟩,.slice .none 0 0,.int .i64 0,.string ⟨#[]⟩,.string ⟨#[]⟩,.slice .none 0 0,.slice .none 0 0]),true⟩,tiN,⟨.struct [(9,0),(9,1),(9,2)],3,48,(.agg #[.string ⟨#[]⟩,.string ⟨#[]⟩,.string ⟨#[]⟩]),true⟩,tiN]
def ve:List TI := [⟨.struct [(9,0),(9,1)],2,32,(.agg #[.string ⟨#[]⟩,.string ⟨#[]⟩]),true⟩,tiN,⟨.struct [(9,0),(3,1),(488,2)],7,112,(.agg #[.string ⟨#[]⟩,.int .i64 0,.int .i64 0,.string ⟨#[]⟩,.string ⟨#[]⟩,.slice .none 0 0,.slice .none 0 0]),true⟩,tiN,⟨.struct [(9,0),(488,1),(4,6)],7,112,(.agg #[.string ⟨#[]⟩,.int .i64 0,.string ⟨#[]⟩,.string ⟨#[]⟩,.slice .none 0 0,.slice .none 0 0,.bool .false]),true⟩]
def tbl:List (List TI) := [Aai,Aaj,Aak,Aal,Aam,Aan,kk,nL,Aao,Aap,uI,uJ,uK,uM,uN,uO,uP,uQ,uR,uS,uT,uU,uV,uW,uX,uY,uZ,u6,u7,u9,vd,ve]
def nY:Gf := fun t => jE xV (jE [] tbl (t / 16)) (t % 16)
def usedT:List Nat := [0,1,2,3,4,5,6,7,8,9,10,11,12,13,14,15,16,17,18,19,20,21,22,23,24,25,26,27,28,29,30,31,32,33,34,35,36,37,38,39,40,41,42,43,45,53,64,65,66,68,70,71,76,80,92,96,98,99,101,106,109,111,119,121,123,124,125,128,132,144,145,150,153,156,157,158,159,160,161,163,166,180,181,187,189,195,197,199,200,202,204,206,208,209,210,212,213,214,216,217,219,221,222,223,225,229,240,242,244,249,250,256,257,258,261,276,281,284,290,294,296,299,308,309,318,325,326,344,345,347,348,352,372,378,380,387,396,404,408,409,415,418,422,432,444,446,447,462,465,466,467,468,469,470,472,473,474,475,476,478,480,482,484,485,486,488,490,492,494,496,498,500]
def restT:List Nat := (List.range 512).filter fun t => !usedT.contains t
theorem kK:usedT.map nY = usedT.map (gp Tryz.prog) := by kernel_rfl
theorem tab_rest:restT.map nY = restT.map fun _ => xV := by kernel_rfl
theorem cq{α:Type}(d:α):∀(l:List α) (n:Nat),l.length <= n -> jE d l n = d
 | [],_,_ => rfl
 |_::_,0,h => by simp at h
 |_::r,n + 1,h => cq d r n (by simpa using h)
theorem BB:Cb Tryz.prog nY := by
 intro t
 by_cases h:t<512
 .by_cases u:t∈usedT
  .exact .inr (List.map_inj_left.1 kK t u)
  .exact .inl (List.map_inj_left.1 tab_rest t (CQ.2 ⟨List.mem_range.2 h,by simpa using u⟩))
 .have h1:jE ([]:List TI) tbl (t / 16) = [] := cq _ _ _ (by show 32 <= t / 16;omega)
  have h2:nY t = xV := by unfold nY;rw[h1];rfl
  exact .inl h2
end Go.Eng
namespace Go.Eng
variable {α:Type}{X Y:Operand}{op:BinOp}{t:Nat}{P:Program}{U:Nat->Prop}{vx vy x:Value}{e:Nat}{g:Gh}(l:List α)(w:World)(o k:Nat)
def Ih:List α:=(l.drop o).take k
theorem Mx:∀{l:List KS} {vs:List Value},Je l vs=true->vs.length=l.length
 | [],[],_=>rfl
 |k::r,v::s,h=>by
  unfold Je at h;split at h
  .simp[Mx h]
  simp_all
theorem RH:∀{a b:List KS} {vs:List Value},Je (a++b) vs=true->Je a (vs.take a.length)=true/\Je b (vs.drop a.length)=true
 | [],b,vs,h=>⟨by cases vs<;>rfl,by simp_all⟩
 |k::a,b,[],h=>by grind [Je]
 |k::a,b,v::vs,h=>by
  simp only[K9,Je]at h;split at h
  .rename_i hk;obtain⟨h1,h2⟩:=RH h<;>grind [Je]
  simp_all
theorem cL(a b:Nat)(h:a+b<=k):Ih (Ih l o k) a b=Ih l (o+a) b:=by
 grind [Ih,List.drop_take,List.drop_drop]
theorem nT:(Ih l o k).length=min k (l.length-o):=by simp[Ih]
theorem Pc(a:Nat)(h:a<=k):(Ih l o k).take a=Ih l o a:=by
 grind [Ih]
theorem TQ(a:Nat):(Ih l o k).drop a=Ih l (o+a) (k-a):=by
 unfold Ih;rw[List.drop_take,List.drop_drop]
theorem fW(m:List α)(o a b:Nat):(Ih l o (a+b)=Ih m o (a+b))↔(Ih l o a=Ih m o a/\Ih l (o+a) b=Ih m (o+a) b):=by
 constructor
 .intro h;constructor
  .rw[<-Pc l o (a+b) a B0,h,Pc m o (a+b) a B0]
  .have h1:=Ab (List.drop a) h
   grind [TQ]
 grind [Ih,List.drop_drop]
section
variable {P:Program}{T:Gf}(hT:Cb P T)
include hT
theorem Dv(w:World)(hd:(T t).d≠.other)(hs:Jg (T t).d=false)(xs:Array Value)(o:Nat)(x:Value)(h:xs[o]?=some x) :
  (part t xs o).run P w=.ok x w:=by
 unfold part;simp[Sem.run_bind,hT.isAgg w hd,hs,h]
theorem Gr(w:World)(hd:(T t).d≠.other)(hs:Jg (T t).d=true)(xs:Array Value)(o:Nat) :
  (part t xs o).run P w=.ok (.agg (xs.extract o (o+(T t).size))) w:=by
 unfold part;simp[Sem.run_bind,hT.isAgg w hd,hs,hT.size w hd]
def ol(P:Program)(w:World)(d t:Nat)(xs ys:Array Value)(o k:Nat):Prop:=
 ∃b:Bool,(do let a <-part t xs o;let b <-part t ys o;Op.equalIn d t a b).run P w=.ok b w/\(b=true↔Ih xs.toList o k=Ih ys.toList o k)
omit hT in
theorem KO{xs:Array Value}{o:Nat}{k:KS}(h:Je [k] (Ih xs.toList o 1)=true):∃x,xs[o]?=some x/\M5 k x=true/\Ih xs.toList o 1=[x]:=by
 grind [nT,Ih,List.drop_eq_getElem_cons,Je.eq_def]
omit hT in
theorem M2{f:Nat->Option (List KS)}:∀{fs:List (Nat×Nat)} {n:Nat} {l:List KS},Nx f n fs=some l ->
  match fs with | []=>l=[] | (t,o)::r=>o=n/\∃a b,f t=some a/\Nx f (n+a.length) r=some b/\l=a++b
 | [],n,l,h=>by cases h;rfl
 |(t,o)::r,n,l,h=>by
  grind [Nx,Nat.eq_of_beq_eq_true]
omit hT in
theorem MY(w:World)(n d:Nat)(hB:∀t l,Hf T n t=some l->∀xs ys o,Je l (Ih xs.toList o l.length)=true->Je l (Ih ys.toList o l.length)=true->ol P w d t xs ys o l.length) :
  ∀ (fa : List Field) (m : Nat) (l : List KS), (∀ f ∈ fa, f.name ≠ "_") -> Nx (Hf T n) m (fa.map fun f => (f.type, f.offset)) = some l ->
   ∀xs ys:Array Value,Je l (Ih xs.toList m l.length)=true->Je l (Ih ys.toList m l.length)=true ->
    ∃b:Bool,(Op.eqFields d xs ys fa).run P w=.ok b w/\(b=true↔Ih xs.toList m l.length=Ih ys.toList m l.length)
 | [],m,l,_,h,xs,ys,_,_=>by
  cases h
  exact⟨true,rfl,by simp[Ih]⟩
 |f::fa,m,l,hn,h,xs,ys,hx,hy=>by
  obtain⟨ho,a,b,ha,hb,rfl⟩:=M2 h;rw[Aa]at hx hy⊢;obtain⟨x1,x2⟩:=RH hx;obtain⟨y1,y2⟩:=RH hy;rw[Pc _ _ _ _ B0]at x1 y1;rw[TQ,RQ]at x2 y2;obtain⟨c,c1,c2⟩:=hB _ _ ha xs ys m x1 y1;obtain⟨e,e1,e2⟩:=MY w n d hB fa (m+a.length) b (fun f hf=>hn f (Ah _ hf)) hb xs ys x2 y2;have CU:=hn f (Ae ..);have lI : (do let x <-part f.type xs f.offset;let y <-part f.type ys f.offset;Op.equalIn d f.type x y).run P w=.ok c w:=Wk
  have Cu:(Op.eqFields d xs ys (f::fa)).run P w=.ok (if c=true then e else false) w:=by
   unfold Op.eqFields;rw[As CU];simp only[Sem.run_bind]at lI⊢;generalize (part f.type xs f.offset).run P w=r1 at lI⊢;cases r1 with
   |halt x w1=>cases lI
   |ok u w1=>
    simp only[Result.andThen_ok]at lI⊢;generalize (part f.type ys f.offset).run P w1=r2 at lI⊢;cases r2 with
    |halt x w1=>cases lI
    |ok u2 w2=>
     simp only[Result.andThen_ok]at lI⊢;rw[lI];simp only[Result.andThen_ok];cases c<;>simp[e1]
  grind [fW]
theorem VW(w:World):∀(n t:Nat) (l:List KS),Hf T n t=some l->∀d,n<=d->∀(xs ys:Array Value) (o:Nat),Je l (Ih xs.toList o l.length)=true->Je l (Ih ys.toList o l.length)=true ->
  ol P w d t xs ys o l.length
 |0,t,l,h=>by grind [Hf]
 |n+1,t,l,h=>by
  intro d hd xs ys o hx hy;obtain⟨d,rfl⟩:∃d',d=d'+1:=⟨d-1,by omega⟩;unfold Hf at h;split at h
  .rename_i k hk;split at h
   .cases h
    obtain⟨x,x1,x2,x3⟩:=KO hx;obtain⟨y,y1,y2,y3⟩:=KO hy;have bN:(T t).d≠.other:=Wk
    have hs:Jg (T t).d=false:=by rw[hk];rfl
    cases x<;>simp[M5]at x2
    cases y<;>simp[M5]at y2
    rename_i k1 n1 k2 n2;obtain rfl:=KD x2;obtain rfl:=KD y2;refine⟨n1 == n2,?_,?_⟩
    .simp[Sem.run_bind,Dv hT w bN hs xs o _ x1,Dv hT w bN hs ys o _ y1,run_equalIn_int w d t k k n1 n2 (hT.int hk)]
    simp_all
   simp_all
  .rename_i hk;split at h
   .cases h
    obtain⟨x,x1,x2,x3⟩:=KO hx;obtain⟨y,y1,y2,y3⟩:=KO hy;have bN:(T t).d≠.other:=Wk
    have hs:Jg (T t).d=false:=by rw[hk];rfl
    cases x<;>simp[M5]at x2
    cases y<;>simp[M5]at y2
    rename_i s1 s2;refine⟨s1.toList == s2.toList,?_,?_⟩
    .simp[Sem.run_bind,Dv hT w bN hs xs o _ x1,Dv hT w bN hs ys o _ y1,run_equalIn_string w d t s1 s2 (hT.string hk)]
    grind [I8]
   simp_all
  .rename_i hk;split at h
   .cases h
    obtain⟨x,x1,x2,x3⟩:=KO hx;obtain⟨y,y1,y2,y3⟩:=KO hy;have bN:(T t).d≠.other:=Wk
    have hs:Jg (T t).d=false:=by rw[hk];rfl
    cases x<;>simp[M5]at x2
    cases y<;>simp[M5]at y2
    rename_i s1 s2;refine⟨s1 == s2,?_,?_⟩
    .simp[Sem.run_bind,Dv hT w bN hs xs o _ x1,Dv hT w bN hs ys o _ y1,run_equalIn_bool' w d t s1 s2 (hT.bool hk)]
    simp_all
   simp_all
  .rename_i fs hk;split at h
   .rename_i DY;split at h
    .rename_i l' LL;split at h
     .rename_i CF;cases h;have CF:=AT CF;have bN:(T t).d≠.other:=Wk
      have hs:Jg (T t).d=true:=by rw[hk];rfl
      obtain⟨fa,u1,u2,u3⟩:=hT.struct hk;obtain⟨_,_,_,_,_,_,_,_,_,_,hq⟩:=hT.get bN;obtain⟨q1,q2⟩:=hq DY;rw[u2]at LL;have hf:P.fieldsOf t=fa:=by grind [Program.fieldsOf]
      have ex:∀zs:Array Value,(zs.extract o (o+(T t).size)).toList=Ih zs.toList o l.length:=fun zs=>by
       grind [Ih,Array.toList_extract]
      have s0:∀zs:Array Value,Ih (Ih zs.toList o l.length) 0 l.length=Ih zs.toList o l.length:=fun zs=>by
       grind [cL]
      obtain⟨b,b1,b2⟩:=MY w n d (fun t l h xs ys o hx hy=>VW w n t l h d B0 xs ys o hx hy) fa.toList 0 l u3 LL (xs.extract o (o+(T t).size)) (ys.extract o (o+(T t).size))
       Wk Wk
      rw[ex,ex,s0,s0]at b2;refine⟨b,?_,b2⟩
      grind [Sem.run_bind,Gr,Result.andThen_ok,run_equalIn_struct]
     simp_all
    simp_all
   simp_all
  simp_all
end
theorem PN:∀{l:List KS} {xs:List AV},X2 l xs=true->∃vs:List Value,xs=vs.map .v/\Je l vs=true
 | [],[],_=>⟨[],rfl,rfl⟩
 |k::r,a::s,h=>by
  cases a with
  |v x=>
   simp only[X2]at h;split at h
   .rename_i h1;obtain⟨vs,rfl,h3⟩:=PN h;exact⟨x::vs,rfl,by grind [Je]⟩
   simp_all
  |_=>grind [X2]
 | [],_::_,h=>by grind [X2]
 |_::_,[],h=>by grind [X2]
theorem Xu:∀{l:List KS} {vs us:List Value},Je l vs=true->Je l us=true->(Zn (vs.map .v) (us.map .v)↔vs=us)
 | [],[],[],_,_=>by simp[Zn]
 |k::r,v::vs,u::us,h1,h2=>by
  simp only[Je]at h1 h2;split at h1
  .rename_i e1;split at h2
   .rename_i e2;have ih:=Xu h1 h2;cases k<;>cases v<;>simp[M5]at e1<;>cases u<;>simp[M5]at e2<;>simp only[Bb,Zn,ih,Jb]
    all_goals grind [KD]
   simp_all
  simp_all
 | [],_::_,_,h,_=>by grind [Je]
 |_::_,[],_,h,_=>by grind [Je]
 | [],[],_::_,_,h=>by grind [Je]
 |_::_,_::_,[],_,h=>by grind [Je]
theorem A3.v_eq{w:World}{a:Value}(h:A3 g w U (.v a) x):x=a:=by cases h;rfl
theorem A3.agg_vals{w:World}{vs:List Value}(h:A3 g w U (.agg (vs.map .v)) x):x=.agg vs.toArray:=by
 cases h with
 |agg _ _ us hs h1 hr=>
  congr 1
  apply Array.ext';apply Cr;intro i;simp only[AW]at hs
  by_cases hi:i<vs.length
  .have LN : i<us.size:=B0
   have:=hr i (.v vs[i]) us[i] Wk Wk
   grind [A3.v_eq]
  simp_all
theorem IA(hu:P.underlying t=some (.slice e))(a:Option Addr)(n c:Nat) :
  (Op.equal t (.slice a n c) (.slice none 0 0)).run P w=.ok a.isNone w:=by
 have key:∀d,(Op.equalIn (d+1) t (.slice a n c) (.slice none 0 0)).run P w=.ok a.isNone w:=fun d=>by
  cases a<;>simp[Op.equalIn,run_underlying hu]
 exact key 9999
theorem Jw(hu:P.underlying t=some (.pointer e))(a:Option Addr) :
  (Op.equal t (.pointer a) (.pointer none)).run P w=.ok a.isNone w:=by
 have key:∀d,(Op.equalIn (d+1) t (.pointer a) (.pointer none)).run P w=.ok a.isNone w:=fun d=>by
  cases a<;>simp[Op.equalIn,run_underlying hu]
 exact key 9999
theorem Iz{ms:Array (String×TypeId)}(hu:P.underlying t=some (.interface ms)) :
  (Op.equal t .nilIface .nilIface).run P w=.ok true w:=by
 have key:∀d,(Op.equalIn (d+1) t .nilIface .nilIface).run P w=.ok true w:=fun d=>by
  simp[Op.equalIn,run_underlying hu]
 exact key 9999
section
variable {P:Program}{T:Gf}{h:Nat->HO}{g:Gh}{w:World}{K:AV->Prop}
theorem gP{t:Nat}{k k' : IntKind}{a b:Int}(hk:Sb T op t (.v (.int k a)) (.v (.int k' b)) K) :
  Bs P h g w (do eqGuard op t X Y (.int k a) (.int k' b);binOp op t (.int k a) (.int k' b)) K:=by
 unfold Sb at hk;dsimp only at hk;split at hk
 .exact Qf hk
 .rename_i e;obtain rfl:=KD e;cases op<;>dsimp only at hk
  case eql=>exact Bs.bool (b:=a == b) (by simp[eqGuard,binOp,Op.intCmp]) aa0 hk
  case neq=>exact Bs.bool (b:=a != b) (by simp[eqGuard,binOp,Op.intCmp]) aa0 hk
  case lss=>exact Bs.bool (b:=decide (a<b)) (by simp[eqGuard,binOp,Op.intCmp]) aa0 hk
  case leq=>exact Bs.bool (b:=decide (a<=b)) (by simp[eqGuard,binOp,Op.intCmp]) aa0 hk
  case gtr=>exact Bs.bool (b:=decide (b<a)) (by simp[eqGuard,binOp,Op.intCmp]) aa0 hk
  case geq=>exact Bs.bool (b:=decide (b<=a)) (by simp[eqGuard,binOp,Op.intCmp]) aa0 hk
  all_goals exact dj hk
theorem gQ{t:Nat}{a b:ByteArray}(hk:Sb T op t (.v (.string a)) (.v (.string b)) K) :
  Bs P h g w (do eqGuard op t X Y (.string a) (.string b);binOp op t (.string a) (.string b)) K:=by
 unfold Sb at hk;have tri:=JB a.toList b.toList;have AeW:=JB b.toList a.toList;cases op<;>dsimp only at hk
 case eql=>exact Bs.bool (b:=a.toList == b.toList) (by simp[eqGuard,binOp,Op.stringOp]) (I8 a b) hk
 case neq=>exact Bs.bool (b:=!(a.toList == b.toList)) (by simp[eqGuard,binOp,Op.stringOp]) (by
  grind [I8]) hk
 case lss=>exact Bs.bool (b:=Op.bytesLess a.toList b.toList) (by simp[eqGuard,binOp,Op.stringOp]) aa0 hk
 case leq=>exact Bs.bool (b:=Op.bytesLess a.toList b.toList||a.toList == b.toList) (by simp[eqGuard,binOp,Op.stringOp]) Wk hk
 case gtr=>exact Bs.bool (b:=!(Op.bytesLess a.toList b.toList||a.toList == b.toList)) (by simp[eqGuard,binOp,Op.stringOp]) Wk hk
 case geq=>exact Bs.bool (b:=!Op.bytesLess a.toList b.toList) (by simp[eqGuard,binOp,Op.stringOp]) aa0 hk
 case add=>
  refine Bs.val (x:=.string (a++b)) ?_ hk.2;have h1:¬((a.size:Int)+(b.size:Int)>IntKind.i64.max):=Wk
  simp[eqGuard,binOp,Op.stringOp];omega
 all_goals exact hk.elim
theorem fA{b:Bool}{K:AV->Prop}(hk:fy K (.v (.bool b))):K (.v (.bool (!b))):=by cases b<;>exact hk
theorem io(hT:Cb P T){t:Nat}{x y:AV}(hx:A3 g w (AI h) x vx)(hy:A3 g w (AI h) y vy){K:AV->Prop}(hk:rI T t x y K) :
  ∃b:Bool,(Op.equal t vx vy).run P w=.ok b w/\K (.v (.bool b))/\(∀op X Y,(op=.eql\/op=.neq)->(eqGuard op t X Y vx vy).run P w=.ok () w) /\
   binOp .eql t vx vy=(do pure (.bool (<-Op.equal t vx vy)))/\binOp .neq t vx vy=(do pure (.bool (!(<-Op.equal t vx vy)))):=by
 unfold rI at hk;split at hk
 .rename_i ht;split at hk
  .obtain rfl:=hx.v_eq;obtain rfl:=hy.v_eq;refine⟨_,?_,hk,fun op X Y _=>by rcases ‹op=_\/op=_› with rfl | rfl<;>simp[eqGuard],rfl,rfl⟩
   grind [Op.equal,Op.maxDepth,run_equalIn_bool',Cb.bool]
  simp_all
 .rename_i fs ht;split at hk
  .split at hk
   .rename_i l hl;split at hk
    .rename_i k1;split at hk
     .rename_i k2;obtain⟨vs,rfl,s1⟩:=PN k1;obtain⟨us,rfl,s2⟩:=PN k2;obtain rfl:=hx.agg_vals;obtain rfl:=hy.agg_vals;have CU:(T t).d≠.other:=Wk
      obtain⟨_,_,_,_,_,_,_,_,_,_,hq⟩:=hT.get CU;have hag:Jg (T t).d=true:=by rw[ht];rfl
      have hfl:=hl;unfold Hf at hfl;rw[ht]at hfl;dsimp only at hfl;split at hfl
      .rename_i DY;split at hfl
       .split at hfl
        .rename_i CF;cases hfl;have CF:=AT CF;have e1:∀zs:List Value,Je l zs=true->Ih zs.toArray.toList 0 l.length=zs:=fun zs hz=>by
          have:=Mx hz
          grind [Ih]
         obtain⟨b,b1,b2⟩:=VW hT w 8 t l hl 10000 B0 vs.toArray us.toArray 0 Wk Wk;rw[e1 _ s1,e1 _ s2]at b2;have ex:∀zs:List Value,Je l zs=true->zs.toArray.extract 0 (0+(T t).size)=zs.toArray:=fun zs hz=>by
          grind [Mx]
         simp only[Sem.run_bind,Gr hT w CU hag,Result.andThen_ok,ex _ s1,ex _ s2]at b1;refine⟨b,b1,Sc hk (by grind [Xu]),fun op X Y _=>run_eqGuard_agg w op t X Y _ _ (hq DY).2,rfl,rfl⟩
        simp_all
       simp_all
      simp_all
     simp_all
    simp_all
   simp_all
  simp_all
 .rename_i e ht;have hu:=hT.slice ht;split at hk
  .rename_i tk es;obtain rfl:=hy.v_eq;obtain⟨a,n,c,rfl,hn⟩:∃a n c,vx=.slice a n c/\(es≠[]->a.isNone=false):=by
    grind [cases A3]
   refine⟨a.isNone,?_,?_,fun op X Y _=>by rcases ‹op=_\/op=_› with rfl | rfl<;>simp[eqGuard],rfl,rfl⟩
   .grind [IA]
   .by_cases he:es=[]
    .cases a.isNone<;>simp_all
    grind
  .obtain rfl:=hx.v_eq;obtain rfl:=hy.v_eq;refine⟨true,?_,hk,fun op X Y _=>by rcases ‹op=_\/op=_› with rfl | rfl<;>simp[eqGuard],rfl,rfl⟩
   grind [IA]
  simp_all
 .rename_i e ht;have hu:=hT.ptr ht
  have key:∀a:Addr,vx=.pointer (some a)->vy=.pointer none->K (.v (.bool false))->∃b:Bool,(Op.equal t vx vy).run P w=.ok b w/\K (.v (.bool b))/\(∀op X Y,(op=.eql\/op=.neq)->(eqGuard op t X Y vx vy).run P w=.ok () w) /\
   binOp .eql t vx vy=(do pure (.bool (<-Op.equal t vx vy)))/\binOp .neq t vx vy=(do pure (.bool (!(<-Op.equal t vx vy)))):=by
   rintro a rfl rfl hk
   refine⟨false,?_,hk,fun op X Y _=>by rcases ‹op=_\/op=_› with rfl | rfl<;>simp[eqGuard],rfl,rfl⟩
   grind [Jw]
  split at hk
  .obtain rfl:=hx.v_eq;obtain rfl:=hy.v_eq;refine⟨true,?_,hk,fun op X Y _=>by rcases ‹op=_\/op=_› with rfl | rfl<;>simp[eqGuard],rfl,rfl⟩
   grind [Jw]
  all_goals grind [cases A3]
 simp_all
theorem lD(hT:Cb P T){t:Nat}{x y:AV}(hx:A3 g w (AI h) x vx)(hy:A3 g w (AI h) y vy)(hk:Sb T op t x y K) :
  Bs P h g w (do eqGuard op t X Y vx vy;binOp op t vx vy) K:=by
 unfold Sb at hk;split at hk
 .obtain rfl:=hx.v_eq;obtain rfl:=hy.v_eq;exact gP (T:=T) (by grind [Sb])
 .obtain rfl:=hx.v_eq;obtain rfl:=hy.v_eq;exact gQ (T:=T) (by grind [Sb])
 .split at hk
  .obtain⟨b,b1,b2,b3,b4,b5⟩:=io hT hx hy hk;refine⟨_,_,?_,b2,.v _ _⟩;simp_all
  .obtain⟨b,b1,b2,b3,b4,b5⟩:=io hT hx hy hk;refine⟨_,_,?_,fA b2,.v _ _⟩;simp_all
  simp_all
theorem gO(hT:Cb P T){t:Nat}{x y:AV}(hx:A3 g w (AI h) x vx)(hy:A3 g w (AI h) y vy)(hc:∀v,Y=.const v->vy=v)(hk:W8 T op t Y x y K) :
  Bs P h g w (do eqGuard op t X Y vx vy;binOp op t vx vy) K:=by
 unfold W8 at hk;split at hk
 .obtain rfl:=hc _ rfl;split at hk
  .obtain rfl:=hx.v_eq;split at hk
   .rename_i ht;obtain⟨ms,hu⟩:=hT.iface ht;split at hk
    .refine⟨_,_,?_,hk,.v _ _⟩;have e:binOp .eql t .nilIface .nilIface=(do pure (.bool (<-Op.equal t .nilIface .nilIface))):=rfl;simp[eqGuard,e,Iz w hu]
    .refine⟨_,_,?_,hk,.v _ _⟩;have e:binOp .neq t .nilIface .nilIface=(do pure (.bool (!(<-Op.equal t .nilIface .nilIface)))):=rfl;simp[eqGuard,e,Iz w hu]
    simp_all
   simp_all
  simp_all
 grind [lD]
end
end Go.Eng
