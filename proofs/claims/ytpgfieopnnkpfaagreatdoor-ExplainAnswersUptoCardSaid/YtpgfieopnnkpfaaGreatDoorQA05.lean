/- Lemmas 5. -/
import Derived.Test.YtpgfieopnnkpfaaGreatDoorQA04
import Derived.Laws.IdiomStrings
import Derived.Lib.BufferRead
namespace Go.Eng
open Go.RowKit (Below)
variable {U:Nat->Prop}{w:World}{x:Value}{g:Gh}{w':World}{av:AV}{g':Gh}
theorem A5.mono(hk:ED g w g' w')(h:A5 g w U av x) :
  ∀{U' : Nat->Prop},(∀i,U i->U' i)->JS g g' U->A5 g' w' U' av x:=by
 induction h with
 |v U x=>grind [v]
 |junk U x=>grind [junk]
 |snil U a cap=>grind [snil]
 |slice U es b off sz cap val hc hl CY DS ih=>
  intro U' _ _;refine .slice U' es b off sz cap val hc hl (fun i cs j av h1 h2=>?_) (fun i cs j av h1 h2=>ih i cs j av h1 h2 (fun _ h=>h) (fun _ h=>h.elim));obtain⟨a1,a2,a3⟩:=CY i cs j av h1 h2;obtain⟨k1,k2,_⟩:=hk _ _ a1<;>simp_all
 |tok U r sz es x h hl hu ht hn hx ih=>
  intro U' hU hg;obtain⟨g1,g2,g3,g4⟩:=hg r hu;refine .tok U' r sz es x (ih hU hg) hl (hU r hu) (g1.trans ht) (AL hn g2) (fun e=>?_)
  grind
 |ver U r sz v es x h hl hu ht hn hx ih=>
  intro U' hU hg;obtain⟨g1,g2,g3,g4⟩:=hg r hu;refine .ver U' r sz v es x (ih hU hg) hl (hU r hu) (g1.trans ht) (AL hn g2) (fun e=>?_)
  grind
 |full U sz es x h hl hx ih=>
  grind [full]
 |msl U r n a cap hu ht hn ha hx=>
  intro U' hU hg;obtain⟨g1,g2,g3,g4⟩:=hg r hu<;>grind [msl]
 |agg U cs vs hs h1 h ih=>grind [agg]
 |tup U cs vs hs h ih=>grind [tup]
 |cptr U cs b off val CY DS ih=>
  intro U' _ _;refine .cptr U' cs b off val (fun j av h=>?_) (fun j av h=>ih j av h (fun _ h=>h) (fun _ h=>h.elim));obtain⟨a1,a2,a3⟩:=CY j av h;obtain⟨k1,k2,_⟩:=hk _ _ a1<;>simp_all
 |ref U r off b hu ht hx=>
  intro U' hU hg;obtain⟨g1,g2,g3,g4⟩:=hg r hu<;>grind [ref]
 |eref U r n sz i off b cap hu ht hn hx=>
  intro U' hU hg;obtain⟨g1,g2,g3,g4⟩:=hg r hu<;>grind [eref]
 |mref U r b hu ht hx=>
  intro U' hU hg;obtain⟨g1,g2,g3,g4⟩:=hg r hu<;>grind [mref]
 |cmap U sh BN b es ck hS hb hm h ih=>
  intro U' _ _;obtain⟨k1,k2,k3⟩:=hk _ _ hS;exact .cmap U' sh BN b es ck k1 (k3 es ck hb) hm (fun i kv e a b=>ih i kv e a b (fun _ h=>h) (fun _ h=>h.elim))
 |clo U f cs vs hs h ih=>grind [clo]
theorem ED.refl(g:Gh)(w:World):ED g w g w:=fun _ _ h=>⟨h,rfl,fun _ _ h=>h⟩
theorem ED.trans{g g1 g2:Gh}{w w1 w2:World}(h:ED g w g1 w1)(k:ED g1 w1 g2 w2):ED g w g2 w2:=fun b o hS=>
 let ⟨a1,a2,a3⟩:=h b o hS
 let ⟨b1,b2,b3⟩:=k b o a1
 ⟨b1,b2.trans a2,fun es ck he=>b3 es ck (a3 es ck he)⟩
theorem JS.refl(g:Gh)(U:Nat->Prop):JS g g U:=fun _ _=>⟨rfl,Aq _,fun _=>rfl,fun _=>rfl⟩
theorem JS.trans{g1 g2:Gh}{U1:Nat->Prop}(h:JS g g1 U)(hU:∀i,U i->U1 i)(k:JS g1 g2 U1):JS g g2 U:=fun i hi=>by
 obtain⟨a1,a2,a3,a4⟩:=h i hi;obtain⟨b1,b2,b3,b4⟩:=k i (hU i hi)<;>grind [Nat.le_trans]
theorem Le.refl(h:Nat->HO)(g:Gh)(w:World):Le h g w h g w:=⟨.refl _ _,fun _ h=>h,.refl _ _⟩
theorem Le.trans{h h1 h2:Nat->HO}{g g1 g2:Gh}{w w1 w2:World}(a:Le h g w h1 g1 w1)(b:Le h1 g1 w1 h2 g2 w2):Le h g w h2 g2 w2:=
 ⟨a.gh.trans a.us b.gh,fun i hi=>b.us i (a.us i hi),a.keeps.trans b.keeps⟩
theorem A5.le{h h' : Nat->HO}(k:Le h g w h' g' w')(r:A5 g w (used h) av x):A5 g' w' (used h') av x:=
 r.mono k.keeps k.us k.gh
theorem A5.up(r:A5 g w EZ av x)(U:Nat->Prop):A5 g w U av x:=
 r.mono (.refl g w) (fun _ h=>h.elim) (.refl g _)
theorem B2.mono{g g' : Gh}{w w' : World}{U U' : Nat->Prop}{cs:List AV}{vs:List Value}(r:B2 g w U cs vs)(hk:ED g w g' w')(hU:∀i,U i->U' i)(hg:JS g g' U):B2 g' w' U' cs vs:=
 ⟨r.1,r.2.1,fun i av x h1 h2=>(r.2.2 i av x h1 h2).mono hk hU hg⟩
theorem A5.cptr_drop{cs:List AV}{b off:Nat}(n:Nat)(h:A5 g w U (.cptr cs) (.pointer (some ⟨b,off,none⟩))) :
  A5 g w U (.cptr (cs.drop n)) (.pointer (some ⟨b,off+n,none⟩)):=by
 cases h with
 |cptr _ _ _ _ val CY DS=>
  refine .cptr U _ b (off+n) (fun j=>val (n+j)) (fun j av h=>?_) (fun j av h=>?_)
  all_goals grind
theorem A5.slice_none{tk:Tk}{es:List (List AV)}(h:A5 g w U (.slice tk es) x):A5 g w EZ (.slice .none es) x:=by
 cases h with
 |snil U a cap=>grind [snil]
 |slice U es b off sz cap val hc hl CY DS=>exact .slice EZ es b off sz cap val hc hl CY DS
 |tok U r sz es x h=>cases h with
  |snil U a cap=>grind [snil]
  |slice U es b off sz cap val hc hl CY DS=>exact .slice EZ es b off sz cap val hc hl CY DS
 |ver U r sz v es x h=>cases h with
  |snil U a cap=>grind [snil]
  |slice U es b off sz cap val hc hl CY DS=>exact .slice EZ es b off sz cap val hc hl CY DS
 |full U sz es x h=>cases h with
  |snil U a cap=>grind [snil]
  |slice U es b off sz cap val hc hl CY DS=>exact .slice EZ es b off sz cap val hc hl CY DS
theorem A5.str0{g:Gh}{w:World}{h:Nat->HO}(ho:∀r,DB g w (used h) r (h r)){av:AV}{x:Value}(r:A5 g w (used h) av x):A5 g w EZ (str0 h av) x:=by
 cases av with
 |v y=>cases r;exact .v _ _
 |slice tk es=>exact r.slice_none
 |ref i off=>
  simp only[Eng.str0];split
  .rename_i cs hc;have h1:=ho i;rw[hc]at h1;obtain⟨ht,b,hb,hr⟩:=h1;cases r with
   |ref _ _ _ b' hu ZE hx=>
    rw[hb]at hx;cases hx;simpa using hr.cptr_drop off
  grind [junk]
 |mref i=>
  simp only[Eng.str0];split
  .rename_i sh BN hc;have h1:=ho i;rw[hc]at h1;obtain⟨ht,b,hb,hr⟩:=h1<;>grind [cases A5]
  grind [junk]
 |cptr cs=>cases r with |cptr _ _ b off val CY DS=>exact .cptr _ _ b off val CY DS
 |cmap sh m=>cases r with |cmap _ _ _ b es ck hS hb hm hh=>exact .cmap _ _ _ b es ck hS hb hm hh
 |_=>exact .junk _ _
theorem A5.str{g:Gh}{w:World}{h:Nat->HO}(ho:∀r,DB g w (used h) r (h r)){av:AV}{x:Value}(r:A5 g w (used h) av x):A5 g w EZ (str h av) x:=by
 cases av with
 |agg cs=>cases r with
  |agg _ _ vs hs h1 hr=>
   refine .agg _ _ vs (by simp_all) h1 (fun i av x a b=>?_)
   grind [str0]
 |clo f cs=>cases r with
  |clo _ _ _ vs hs hr=>
   refine .clo _ f _ vs (by simp_all) (fun i av x a b=>?_)
   grind [str0]
 |v y=>exact r.str0 ho
 |slice tk es=>exact r.str0 ho
 |ref i off=>exact r.str0 ho
 |mref i=>exact r.str0 ho
 |cptr cs=>exact r.str0 ho
 |cmap sh m=>exact r.str0 ho
 |msl i n=>exact r.str0 ho
 |tup cs=>exact r.str0 ho
 |eref i n z j o=>exact r.str0 ho
 |junk=>exact r.str0 ho
theorem A5.rsv{g:Gh}{w:World}{h:Nat->HO}(ho:∀r,DB g w (used h) r (h r)){av:AV}{x:Value}(r:A5 g w (used h) av x):A5 g w (used h) (rsv h av) x:=by
 cases av with
 |ref i off=>
  simp only[Eng.rsv];split
  .rename_i cs hc
   have:=r.str0 ho
   grind [Eng.str0,A5.up]
  omega
 |mref i=>
  simp only[Eng.rsv];split
  .rename_i sh BN hc
   have:=r.str0 ho
   grind [Eng.str0,A5.up]
  omega
 |_=>exact r
end Go.Eng
namespace Go.Eng
variable {vx:Value}{U:Nat->Prop}{X Y:Operand}{t:Nat}{α:Type}{op:BinOp}{k:IntKind}{vy:Value}{g:Gh}{x:Value}{k':IntKind}{G0:Array TypeId}{vs:Array Value}{w':World}{m:Sem Value}{f:Nat×Nat}{b:Bool}{cs:List AV}{e:Nat}{E:TypeId}{vi:Value}{g':Gh}(l:List α)(P:Program)(w:World)(o:Nat)
def Gh.upd(g:Gh)(r:Nat)(x:Value)(n:Nat)(t:Bool)(o:Option Nat)(S:Nat->Nat->Prop):Gh:=
 ⟨fun i=>if i=r then x else g.ρ i,fun i=>if i=r then n else g.ln i,fun i=>if i=r then t else g.tk i,fun i=>if i=r then o else g.own i,S⟩
theorem Ds{i r:Nat}(h:i≠r):Nat.beq i r=false:=by
 grind [Nat.eq_of_beq_eq_true]
theorem AX(h:Nat->HO)(r:Nat)(o:HO):AJ h r o r=o:=by
 grind [Nat.beq_refl,AJ]
theorem BK(h:Nat->HO)(r i:Nat)(o:HO)(hi:i≠r):AJ h r o i=h i:=by
 grind [AJ,Ds]
theorem Do{h:Nat->HO}{r:Nat}{o:HO}(ho:o≠.free)(i:Nat)(hi:used h i):used (AJ h r o) i:=by
 grind [used,AX,BK]
theorem VJ.keep{w:World}(h:VJ g w)(hk:ED g w g' w'):VJ g' w':=by
 obtain⟨⟨h1,m,h2⟩,h3⟩:=h;obtain⟨k1,k2,_⟩:=hk _ _ h1;refine⟨⟨k1,m,k2.trans h2⟩,fun x hx=>?_⟩;obtain⟨e1,e2,_⟩:=hk _ _ (h3 x hx).1<;>grind
theorem DB.same{w:World}{U':Nat->Prop}{r:Nat}{o:HO}(h:DB g w U r o)(hk:ED g w g' w')(hU:∀i,U i->U' i)(hg:JS g g' U)(h1:g'.ρ r=g.ρ r)(h2:g'.ln r=g.ln r)(h3:g'.tk r=g.tk r)(h4:g'.own r=g.own r)(hb:∀b,o.live->g.own r=some b->w'.heap[b]?=w.heap[b]?/\∀k,g'.S b k->g.S b k):DB g' w' U' r o:=by
 cases o with
 |free=>trivial
 |dead=>trivial
 |cells cs=>
  obtain⟨t,b,E,vs,a1,a2,a3,a4,a5⟩:=h;obtain⟨c1,c2⟩:=hb b trivial a1;exact⟨h3.trans t,b,E,vs,h4.trans a1,h1.trans a2,c1.trans a3,a4.mono hk hU hg,fun k hk'=>a5 k (c2 k hk')⟩
 |ro cs=>
  obtain⟨t,b,a1,a2⟩:=h;exact⟨h3.trans t,b,h1.trans a1,a2.mono hk (fun _ h=>h) (fun _ h=>h.elim)⟩
 |tok sz n=>
  obtain⟨t,l,a,cap,a1,a2⟩:=h;refine⟨h3.trans t,h2.trans l,a,cap,h1.trans a1,?_⟩;rcases a2 with ⟨e1,e2⟩ | ⟨e1,b,E,vs,off,e2,e3,e4,e5,e6⟩
  .simp_all
  .obtain⟨c1,c2⟩:=hb b trivial e3;exact .inr ⟨e1,b,E,vs,off,e2,h4.trans e3,e4.eq c1,e5,fun o ho=>e6 o (c2 o ho)⟩
 |var sz v n=>
  obtain⟨t,l,a,cap,a1,a2⟩:=h;refine⟨h3.trans t,h2.trans l,a,cap,h1.trans a1,?_⟩;rcases a2 with ⟨e1,e2⟩ | ⟨e1,b,E,vs,off,e2,e3,e4,e5,e6⟩
  .simp_all
  .obtain⟨c1,c2⟩:=hb b trivial e3;exact .inr ⟨e1,b,E,vs,off,e2,h4.trans e3,e4.eq c1,e5,fun o ho=>e6 o (c2 o ho)⟩
 |vox v=>exact⟨h3.trans h.1,h2.trans h.2⟩
 |hol sz es i c av=>
  obtain⟨t,l,a0,b,cap,E,vs,e1,e2,e3,e4,e5,e6,e7,e8,x,e9,UE⟩:=h;obtain⟨c1,c2⟩:=hb b trivial e2;exact⟨h3.trans t,h2.trans l,a0,b,cap,E,vs,h1.trans e1,h4.trans e2,e3,c1.trans e4,e5,e6.mono hk (fun _ h=>h) (fun _ h=>h.elim),fun o ho=>e7 o (c2 o ho),e8,x,e9,UE.mono hk hU hg⟩
 |bld x=>
  obtain⟨t,b,p,v,a1,a2,a3,a4,a5,a6⟩:=h;obtain⟨c1,c2⟩:=hb b trivial a1;exact⟨h3.trans t,b,p,v,h4.trans a1,h1.trans a2,c1.trans a3,a4,a5.mono hk hU hg,fun k hk'=>a6 k (c2 k hk')⟩
 |bbf n=>
  obtain⟨t,l,a1⟩:=h;refine⟨h3.trans t,h2.trans l,?_⟩;rcases a1 with ⟨e0,e1,e2⟩ | ⟨b,cap,D1,e1,e2,e3,e4,e5,e6,e7⟩
  .simp_all
  .obtain⟨c1,c2⟩:=hb b trivial e2<;>grind
 |raw b ob=>
  obtain⟨t,a1,a2,a3,a4⟩:=h;obtain⟨c1,c2⟩:=hb b trivial a1;exact⟨h3.trans t,h4.trans a1,c1.trans a2,a3,fun k hk'=>a4 k (c2 k hk')⟩
 |arr sz es=>
  obtain⟨t,l,a0,a1⟩:=h;refine⟨h3.trans t,h2.trans l,a0,?_⟩;rcases a1 with ⟨e1,e2,e3⟩ | ⟨b,cap,E,vs,e1,e2,e3,e4,e5,e6,e7⟩
  .simp_all
  .obtain⟨c1,c2⟩:=hb b trivial e2;exact .inr ⟨b,cap,E,vs,h1.trans e1,h4.trans e2,e3,c1.trans e4,e5,e6.mono hk (fun _ h=>h) (fun _ h=>h.elim),fun o ho=>e7 o (c2 o ho)⟩
 |map sh BN=>
  obtain⟨t,b,es,ck,a1,a2,a3,a4,a5,a6⟩:=h;obtain⟨c1,c2⟩:=hb b trivial a1;exact⟨h3.trans t,b,es,ck,h4.trans a1,h1.trans a2,c1.trans a3,a4,fun i kv e p q=>(a5 i kv e p q).mono hk (fun _ h=>h) (fun _ h=>h.elim),fun k hk'=>a6 k (c2 k hk')⟩
 |mapU sh BN=>
  obtain⟨t,b,es,ck,a1,a2,a3,a4,a5,a6⟩:=h;obtain⟨c1,c2⟩:=hb b trivial a1;exact⟨h3.trans t,b,es,ck,h4.trans a1,h1.trans a2,c1.trans a3,a4,fun i kv e p q=>(a5 i kv e p q).mono hk hU hg,fun k hk'=>a6 k (c2 k hk')⟩
 |rom sh BN=>
  obtain⟨t,b,a1,a2⟩:=h;exact⟨h3.trans t,b,h1.trans a1,a2.mono hk (fun _ h=>h) (fun _ h=>h.elim)⟩
 |iter all rem D1=>
  obtain⟨t,b,mb,JP,seen,st,es,ck,a1,a2,a3,a4,a5,a6,a7,a8,a9,Xu,bL,a12,pZ⟩:=h;obtain⟨c1,c2⟩:=hb b trivial a1;obtain⟨k1,k2,k3⟩:=hk _ _ a4
  exact⟨h3.trans t,b,mb,JP,seen,st,es,ck,h4.trans a1,h1.trans a2,c1.trans a3,k1,k3 _ _ a5,a6,a7,a8,
   fun i kv e p q=>(a9 i kv e p q).mono hk (fun _ h=>h) (fun _ h=>h.elim),Xu,bL,a12,fun k hk'=>pZ k (c2 k hk')⟩
theorem Cv.upd{w0:World}{g0:Gh}{h0 h:Nat->HO}{g:Gh}{w:World}(hI:Cv w0 g0 h0 h g w)(r:Nat)(o' : HO)(x:Value)(n:Nat)(t:Bool)(ow:Option Nat)(S' : Nat->Nat->Prop)(w' : World)
  (xl:Option Nat) (pJ:w'.os=w.os/\w'.tape=w.tape/\w'.output=w.output/\w.heap.size<=w'.heap.size)
  (j6:∀k,k<w.heap.size->some k≠xl->w'.heap[k]?=w.heap[k]?)
  (hch:∀b,xl=some b->(h r).live/\g.own r=some b)
  (hS:∀b o,g.S b o->S' b o)
  (zl : ∀b o,S' b o->g.S b o\/(b<w'.heap.size/\(w.heap.size<=b\/((h r).live/\g.own r=some b))))
  (hkc:∀b o,xl=some b->g.S b o->w'.cell? ⟨b,o,none⟩=w.cell? ⟨b,o,none⟩/\∀es ck,w.heap[b]?=some (.map es ck)->w'.heap[b]?=some (.map es ck))
  (fb:∀b,o'.live->ow=some b->b<w'.heap.size/\(((h r).live/\g.own r=some b)\/w.heap.size<=b))
  (Fi:o'≠.free) (hgh:used h r->t=g.tk r/\g.ln r<=n/\(g.tk r=false->x=g.ρ r)/\(n=g.ln r->x=g.ρ r))
  (Lq:JS g (g.upd r x n t ow S') (used h)->ED g w (g.upd r x n t ow S') w'->DB (g.upd r x n t ow S') w' (used (AJ h r o')) r o') :
  Cv w0 g0 h0 (AJ h r o') (g.upd r x n t ow S') w'/\Le h g w (AJ h r o') (g.upd r x n t ow S') w':=by
 have zk:∀b o,S' b o->g.S b o\/(b<w'.heap.size/\∀r',r'≠r->(h r').live->g.own r'≠some b):=fun b o hs=>by
  rcases zl b o hs with h1 | ⟨h1,h2⟩
  .simp_all
  .refine .inr ⟨h1,fun r' hr hl e=>?_⟩;rcases h2 with h2 | ⟨h2,h3⟩
   .have:=(hI.loc r' b hl e).1;omega
   grind [Cv.inj]
 have jx:JS g (g.upd r x n t ow S') (used h):=by
  intro i hi
  grind [Gh.upd]
 have hK:ED g w (g.upd r x n t ow S') w':=by
  intro b o hb;refine⟨hS b o hb,?_⟩
  grind [World.cell?,Cv.slt]
 have Ij:∀i,used h i->used (AJ h r o') i:=fun i hi=>Do Fi i hi;refine⟨⟨pJ.1.trans hI.os,pJ.2.1.trans hI.tape,pJ.2.2.1.trans hI.output,AL hI.size pJ.2.2.2,fun b hb hn=>?_,fun b o hb=>?_,fun i=>?_,fun i j b hi hj ei ej=>?_,fun i b hi ei=>?_,fun b o hs=>?_,hI.glob.keep hK⟩,jx,Ij,hK⟩
 .grind [Cv.loc,Cv.frame]
 .rcases zk b o hb with h1 | h1<;>grind [Cv.slt]
 .by_cases e:i=r
  .grind [AX]
  .rw[BK _ _ _ _ e];refine(hI.objs i).same hK Ij jx (by simp[Gh.upd,e]) (by simp[Gh.upd,e]) (by simp[Gh.upd,e]) (by simp[Gh.upd,e]) (fun b hl hb=>?_);have Fp:=(hI.loc i b hl hb).1;refine⟨j6 b Fp (fun e'=>?_),fun k hk=>?_⟩
   .grind [Cv.inj]
   .rcases zk b k hk with h1 | h1<;>simp_all
 .have key:∀k,k≠r->(AJ h r o' k).live->(h k).live:=fun k hk hl=>by grind [BK]
  by_cases e1:i=r<;>by_cases e2:j=r
  .omega
  .subst e1;simp only[Gh.upd,Qx,Aw e2]at ei ej;rw[AX]at hi;have hl:=key j e2 hj;rcases(fb b hi ei).2 with ⟨q1,q2⟩ | q
   .grind [Cv.inj]
   .have:=(hI.loc j b hl ej).1;omega
  .subst e2;simp only[Gh.upd,Qx,Aw e1]at ei ej;rw[AX]at hj;have hl:=key i e1 hi;rcases(fb b hj ej).2 with ⟨q1,q2⟩ | q
   .grind [Cv.inj]
   .have:=(hI.loc i b hl ei).1;omega
  grind [Gh.upd,Cv.inj]
 all_goals grind [Gh.upd,AX,BK,Nat.lt_of_lt_of_le,Cv.loc,Cv.size,Cv.sg]
theorem Cv.heapEq{w0:World}{g0:Gh}{h0 h:Nat->HO}{w:World}(hI:Cv w0 g0 h0 h g w)(pJ:w'.os=w.os/\w'.tape=w.tape/\w'.output=w.output)(hh:w'.heap=w.heap) :
  Cv w0 g0 h0 h g w'/\Le h g w h g w':=by
 have hc:∀a,w'.cell? a=w.cell? a:=fun a=>by grind [World.cell?]
 have hK:ED g w g w':=fun b o hb=>⟨hb,hc _,fun es ck he=>by simp_all⟩;refine⟨⟨pJ.1.trans hI.os,pJ.2.1.trans hI.tape,pJ.2.2.trans hI.output,by rw[hh];exact hI.size,fun b hb hn=>by grind [Cv.frame],fun b o hb=>by rw[hh];exact hI.slt b o hb,fun r=>?_,hI.inj,fun r b h1 h2=>by rw[hh];exact hI.loc r b h1 h2,hI.sg,hI.glob.keep hK⟩,.refl _ _,fun _ h=>h,hK⟩;exact(hI.objs r).same hK (fun _ h=>h) (.refl _ _) rfl rfl rfl rfl (fun b _ _=>⟨by rw[hh],fun _ h=>h⟩)
def NY:TypeDesc->TD
 |.bool=>.bool
 |.int k=>.int k
 |.string=>.string
 |.slice e=>.slice e
 |.array n e=>.array n e
 | .struct fs => bif fs.any (fun f => f.name == "_") then .other else .struct (fs.toList.map fun f => (f.type, f.offset))
 |.pointer e=>.ptr e
 |.map k e=>.map k e
 |.func ..=>.func
 |.interface _=>.iface
 |_=>.other
def gK(t:Nat):TI:=
 match P.underlying t,P.info? t with
 |some d,some i=>match i.zero with
  |some z=>⟨NY d,i.size,i.bytes,z,!P.stoodInHeld t&&!P.eqGuardType P.depth t⟩
  |none=>⟨.other,0,0,.nilIface,false⟩
 |_,_=>⟨.other,0,0,.nilIface,false⟩
def Ju:TD->Bool
 |.struct _=>true
 |.array _ _=>true
 |_=>false
theorem TI.zc_cells(i:TI):i.zc=i.zero.cells.toList:=by
 grind [TI.zc,Value.cells]
def bF:TI:=⟨.other,0,0,.nilIface,false⟩
def BY(T:GB):Prop:=∀t,T t=bF\/T t=gK P t
section
variable {P:Program}{T:GB}(hT:BY P T)
include hT
theorem BY.get(h:(T t).d≠.other):∃d i z,P.underlying t=some d/\(T t).d=NY d/\P.info? t=some i/\i.zero=some z/\(T t).size=i.size/\(T t).bytes=i.bytes /\
  (T t).zero=z/\((T t).eqok=true->P.stoodInHeld t=false/\P.eqGuardType P.depth t=false):=by
 rcases hT t with e | e
 .rw[e]at h;exact absurd rfl h
 unfold gK at e;split at e
 .split at e
  all_goals simp_all
 simp_all
end
theorem Zu(fs:Array Field):NY (.struct fs)=.other\/NY (.struct fs)=.struct (fs.toList.map fun f=>(f.type,f.offset)):=by
 grind [NY]
section
variable {P:Program}{T:GB}(hT:BY P T)
include hT
theorem BY.slice{t e:Nat}(h:(T t).d=.slice e):P.underlying t=some (.slice e):=by
 obtain⟨d,i,z,h1,h2,_⟩:=hT.get (t:=t) (by simp_all);rw[h]at h2;cases d<;>grind [NY]
theorem BY.string{t:Nat}(h:(T t).d=.string):P.underlying t=some .string:=by
 obtain⟨d,i,z,h1,h2,_⟩:=hT.get (t:=t) (by simp_all);rw[h]at h2;cases d<;>grind [NY]
theorem BY.bool{t:Nat}(h:(T t).d=.bool):P.underlying t=some .bool:=by
 obtain⟨d,i,z,h1,h2,_⟩:=hT.get (t:=t) (by simp_all);rw[h]at h2;cases d<;>grind [NY]
theorem BY.int{t:Nat}{k:IntKind}(h:(T t).d=.int k):P.underlying t=some (.int k):=by
 obtain⟨d,i,z,h1,h2,_⟩:=hT.get (t:=t) (by simp_all);rw[h]at h2;cases d<;>grind [NY]
theorem BY.ptr(h:(T t).d=.ptr e):P.underlying t=some (.pointer e):=by
 obtain⟨d,i,z,h1,h2,_⟩:=hT.get (t:=t) (by simp_all);rw[h]at h2;cases d<;>grind [NY]
theorem BY.iface(h:(T t).d=.iface):∃ms,P.underlying t=some (.interface ms):=by
 obtain⟨d,i,z,h1,h2,_⟩:=hT.get (t:=t) (by simp_all);rw[h]at h2;cases d<;>grind [NY]
theorem BY.map{t k e:Nat}(h:(T t).d=.map k e):P.underlying t=some (.map k e):=by
 obtain⟨d,i,z,h1,h2,_⟩:=hT.get (t:=t) (by simp_all);rw[h]at h2;cases d<;>grind [NY]
theorem BY.array{t n e:Nat}(h:(T t).d=.array n e):P.underlying t=some (.array n e):=by
 obtain⟨d,i,z,h1,h2,_⟩:=hT.get (t:=t) (by simp_all);rw[h]at h2;cases d<;>grind [NY]
theorem BY.struct {t : Nat} {fs : List (Nat × Nat)} (h : (T t).d = .struct fs) : ∃ fa : Array Field, P.underlying t = some (.struct fa) /\ fs = fa.toList.map (fun f => (f.type, f.offset)) /\ ∀ f ∈ fa.toList, f.name ≠ "_" := by
 obtain⟨d,i,z,h1,h2,_⟩:=hT.get (t:=t) (by simp_all);rw[h]at h2;cases d<;>grind [List.mem_iff_getElem,NY]
theorem BY.size(w:World){t:Nat}(h:(T t).d≠.other):(sizeOf t).run P w=.ok (T t).size w:=by
 obtain⟨d,i,z,h1,h2,h3,h4,h5,_⟩:=hT.get h;simp[sizeOf,typeInfo,h3,h5]
theorem BY.size1(w:World){n:Nat}(h:(T t).size=n+1):(sizeOf t).run P w=.ok (n+1) w:=by
 rcases hT t with e | e
 .rw[e]at h;cases h
 unfold gK at e;split at e
 .split at e
  .rename_i d i h1 h2 _ z h3;rw[e]at h;dsimp only at h;simp[sizeOf,typeInfo,h2,h]
  simp_all
 simp_all
theorem BY.isAgg(w:World){t:Nat}(h:(T t).d≠.other):(isAgg t).run P w=.ok (Ju (T t).d) w:=by
 obtain⟨d,i,z,h1,h2,_⟩:=hT.get h;rw[h2];rw[h2]at h;cases d with
 |struct fs=>
  rcases Zu fs with e | e
  .simp_all
  .rw[e];simp[Go.isAgg,run_underlying h1,Ju]
 |_=>simp[Go.isAgg,run_underlying h1,NY,Ju]
end
def Bp(h:Nat->HO)(g:Gh)(w:World)(m:Sem Value)(K:AV->Prop):Prop:=∃x av,m.run P w=.ok x w/\K av/\A5 g w (used h) av x
theorem RI{p:Prop}{K:AV->Prop}(h:Iy p K)(hb:b=true↔p):K (.v (.bool b)):=by
 cases b with
 |true=>exact h.1 (hb.1 rfl)
 |false=>exact h.2 (fun e=>by simp_all)
theorem KL(h:sR k k'=true):k=k':=by cases k<;>cases k'<;>first | rfl | grind [sR]
theorem MP{a:Int}(h:Al a):IntKind.i64.wrap a=a:=by
 grind [Al,IntKind.wrap,IntKind.bits,IntKind.signed]
theorem JV:∀l m:List UInt8,(Op.bytesLess l m||l == m)=!Op.bytesLess m l
 | [],[]=>rfl
 | [],_::_=>rfl
 |_::_,[]=>rfl
 |a::l,b::m=>by
  have ih:=JV l m
  grind [Op.bytesLess]
theorem Jn(a b:ByteArray):(a.toList == b.toList)=true↔a=b:=by
 rw[ByteArray.toList_eq,ByteArray.toList_eq];constructor
 .intro h;have h1:=eq_of_beq h;cases a<;>simp_all
 simp_all
section
variable {P:Program}{T:GB}{h:Nat->HO}{g:Gh}{w:World}{K:AV->Prop}
theorem Bp.bool{p:Prop}(hm:m.run P w=.ok (.bool b) w)(hb:b=true↔p)(hk:Iy p K):Bp P h g w m K:=
 ⟨_,_,hm,RI hk hb,.v _ _⟩
theorem Bp.val(hm:m.run P w=.ok x w)(hk:K (.v x)):Bp P h g w m K:=⟨_,_,hm,hk,.v _ _⟩
theorem PX{t:Nat}{a b:Int}(hk:TA op k a b K) :
  Bp P h g w (do eqGuard op t X Y (.int k a) (.int k' b);binOp op t (.int k a) (.int k' b)) K:=by
 cases op
 case shl=>exact Bp.val (by simp[eqGuard,binOp,Op.shift,oW,Int.not_lt.2 hk.1]) hk.2
 case shr=>exact Bp.val (by simp[eqGuard,binOp,Op.shift,oW,Int.not_lt.2 hk.1]) hk.2
 all_goals exact hk.elim
theorem dz{t:Nat}{a b:Int}(hk:RB op k a b K) :
  Bp P h g w (do eqGuard op t X Y (.int k a) (.int k b);binOp op t (.int k a) (.int k b)) K:=by
 have key:∀{k:IntKind},VS op k a b K->Bp P h g w (do eqGuard op t X Y (.int k a) (.int k b);binOp op t (.int k a) (.int k b)) K:=by
  intro k hk;cases op
  case quo=>
   obtain⟨⟨h1,h2,h3⟩,hk⟩:=hk;have hb:¬b=0:=by omega
   exact Bp.val (by simp[eqGuard,binOp,Op.intDiv,hb,Int.tdiv_eq_ediv_of_nonneg h1,h3]) hk
  case rem=>
   obtain⟨⟨h1,h2⟩,hk⟩:=hk;have hb:¬b=0:=by omega
   exact Bp.val (by simp[eqGuard,binOp,Op.intDiv,hb,Int.tmod_eq_emod_of_nonneg h1]) hk
  case shl=>exact PX hk
  case shr=>exact PX hk
  all_goals first | exact hk.elim | exact Bp.val (by simp[eqGuard,binOp,Op.intArith,Op.intBits,Uu]) hk
 cases k with
 |i64=>
  unfold RB at hk
  cases op<;>dsimp only at hk<;>first
   |exact hk.elim
   |(refine Bp.val ?_ hk.2;simp[eqGuard,binOp,Op.intArith,MP hk.1];done)
   |exact key (k:=.i64) hk
   |skip
  .obtain⟨⟨h1,h2,h3⟩,hk⟩:=hk;refine Bp.val ?_ hk;have e1:a.tdiv b=a / b:=Int.tdiv_eq_ediv_of_nonneg h1;have e3:a / b<=a:=Int.ediv_le_self b h1;have e2:IntKind.i64.wrap (a / b)=a / b:=MP ⟨by have:=Int.ediv_nonneg h1 (by omega:0<=b);omega,by grind [Al]⟩;have hb:¬b=0:=by omega
   simp[eqGuard,binOp,Op.intDiv,hb,e1,e2]
 |_=>exact key hk
end
def Im(k:Nat):List α:=(l.drop o).take k
theorem MA:∀{l:List KS} {vs:List Value},Jt l vs=true->vs.length=l.length
 | [],[],_=>rfl
 |k::r,v::s,h=>by
  unfold Jt at h;split at h
  .simp[MA h]
  simp_all
theorem Rf:∀{a b:List KS} {vs:List Value},Jt (a++b) vs=true->Jt a (vs.take a.length)=true/\Jt b (vs.drop a.length)=true
 | [],b,vs,h=>⟨by cases vs<;>rfl,by simp_all⟩
 |k::a,b,[],h=>by grind [Jt]
 |k::a,b,v::vs,h=>by
  simp only[D8,Jt]at h;split at h
  .rename_i hk;obtain⟨h1,h2⟩:=Rf h<;>grind [Jt]
  simp_all
theorem c9(k a b:Nat)(h:a+b<=k):Im (Im l o k) a b=Im l (o+a) b:=by
 grind [Im,List.drop_take,List.drop_drop]
theorem oQ(k:Nat):(Im l o k).length=min k (l.length-o):=by simp[Im]
theorem O4(k a:Nat)(h:a<=k):(Im l o k).take a=Im l o a:=by
 grind [Im]
theorem Ty(k a:Nat):(Im l o k).drop a=Im l (o+a) (k-a):=by
 unfold Im;rw[List.drop_take,List.drop_drop]
theorem gn(m:List α)(o a b:Nat):(Im l o (a+b)=Im m o (a+b))↔(Im l o a=Im m o a/\Im l (o+a) b=Im m (o+a) b):=by
 constructor
 .intro h;constructor
  .rw[<-O4 l o (a+b) a aa0,h,O4 m o (a+b) a aa0]
  .have h1:=Aa (List.drop a) h
   grind [Ty]
 grind [Im,List.drop_drop]
section
variable {P:Program}{T:GB}(hT:BY P T)
include hT
theorem DA(w:World)(hd:(T t).d≠.other)(hs:Ju (T t).d=false)(xs:Array Value)(o:Nat)(x:Value)(h:xs[o]?=some x) :
  (part t xs o).run P w=.ok x w:=by
 unfold part;simp[Sem.run_bind,hT.isAgg w hd,hs,h]
theorem GJ(w:World)(hd:(T t).d≠.other)(hs:Ju (T t).d=true)(xs:Array Value)(o:Nat) :
  (part t xs o).run P w=.ok (.agg (xs.extract o (o+(T t).size))) w:=by
 unfold part;simp[Sem.run_bind,hT.isAgg w hd,hs,hT.size w hd]
def pm(P:Program)(w:World)(d t:Nat)(xs ys:Array Value)(o k:Nat):Prop:=
 ∃b:Bool,(do let a <-part t xs o;let b <-part t ys o;Op.equalIn d t a b).run P w=.ok b w/\(b=true↔Im xs.toList o k=Im ys.toList o k)
omit hT in
theorem KZ{xs:Array Value}{o:Nat}{k:KS}(h:Jt [k] (Im xs.toList o 1)=true):∃x,xs[o]?=some x/\M9 k x=true/\Im xs.toList o 1=[x]:=by
 grind [oQ,Im,List.drop_eq_getElem_cons,Jt.eq_def]
omit hT in
theorem M6{f:Nat->Option (List KS)}:∀{fs:List (Nat×Nat)} {n:Nat} {l:List KS},Nw f n fs=some l ->
  match fs with | []=>l=[] | (t,o)::r=>o=n/\∃a b,f t=some a/\Nw f (n+a.length) r=some b/\l=a++b
 | [],n,l,h=>by cases h;rfl
 |(t,o)::r,n,l,h=>by
  grind [Nw,Nat.eq_of_beq_eq_true]
omit hT in
theorem M3(w:World)(n d:Nat)(hB:∀t l,Hx T n t=some l->∀xs ys o,Jt l (Im xs.toList o l.length)=true->Jt l (Im ys.toList o l.length)=true->pm P w d t xs ys o l.length) :
  ∀ (fa : List Field) (m : Nat) (l : List KS), (∀ f ∈ fa, f.name ≠ "_") -> Nw (Hx T n) m (fa.map fun f => (f.type, f.offset)) = some l ->
   ∀xs ys:Array Value,Jt l (Im xs.toList m l.length)=true->Jt l (Im ys.toList m l.length)=true ->
    ∃b:Bool,(Op.eqFields d xs ys fa).run P w=.ok b w/\(b=true↔Im xs.toList m l.length=Im ys.toList m l.length)
 | [],m,l,_,h,xs,ys,_,_=>by
  cases h
  exact⟨true,rfl,by simp[Im]⟩
 |f::fa,m,l,hn,h,xs,ys,hx,hy=>by
  obtain⟨ho,a,b,ha,hb,rfl⟩:=M6 h;rw[As]at hx hy⊢;obtain⟨x1,x2⟩:=Rf hx;obtain⟨y1,y2⟩:=Rf hy;rw[O4 _ _ _ _ aa0]at x1 y1;rw[Ty,Nat.add_sub_cancel_left]at x2 y2;obtain⟨c,c1,c2⟩:=hB _ _ ha xs ys m x1 y1;obtain⟨e,e1,e2⟩:=M3 w n d hB fa (m+a.length) b (fun f hf=>hn f (At _ hf)) hb xs ys x2 y2;have Fi:=hn f (Ai ..);have mG : (do let x <-part f.type xs f.offset;let y <-part f.type ys f.offset;Op.equalIn d f.type x y).run P w=.ok c w:=by simp_all
  have Cm:(Op.eqFields d xs ys (f::fa)).run P w=.ok (if c=true then e else false) w:=by
   unfold Op.eqFields;rw[AE Fi];simp only[Sem.run_bind]at mG⊢;generalize (part f.type xs f.offset).run P w=r1 at mG⊢;cases r1 with
   |halt x w1=>cases mG
   |ok u w1=>
    simp only[Result.andThen_ok]at mG⊢;generalize (part f.type ys f.offset).run P w1=r2 at mG⊢;cases r2 with
    |halt x w1=>cases mG
    |ok u2 w2=>
     simp only[Result.andThen_ok]at mG⊢;rw[mG];simp only[Result.andThen_ok];cases c<;>simp[e1]
  grind [gn]
theorem Wc(w:World):∀(n t:Nat) (l:List KS),Hx T n t=some l->∀d,n<=d->∀(xs ys:Array Value) (o:Nat),Jt l (Im xs.toList o l.length)=true->Jt l (Im ys.toList o l.length)=true ->
  pm P w d t xs ys o l.length
 |0,t,l,h=>by grind [Hx]
 |n+1,t,l,h=>by
  intro d hd xs ys o hx hy;obtain⟨d,rfl⟩:∃d',d=d'+1:=⟨d-1,by omega⟩;unfold Hx at h;split at h
  .rename_i k hk;split at h
   .cases h
    obtain⟨x,x1,x2,x3⟩:=KZ hx;obtain⟨y,y1,y2,y3⟩:=KZ hy;have cy:(T t).d≠.other:=by simp_all
    have hs:Ju (T t).d=false:=by rw[hk];rfl
    cases x<;>simp[M9]at x2
    cases y<;>simp[M9]at y2
    rename_i k1 n1 k2 n2;obtain rfl:=KL x2;obtain rfl:=KL y2;refine⟨n1 == n2,?_,?_⟩
    .simp[Sem.run_bind,DA hT w cy hs xs o _ x1,DA hT w cy hs ys o _ y1,run_equalIn_int w d t k k n1 n2 (hT.int hk)]
    simp_all
   simp_all
  .rename_i hk;split at h
   .cases h
    obtain⟨x,x1,x2,x3⟩:=KZ hx;obtain⟨y,y1,y2,y3⟩:=KZ hy;have cy:(T t).d≠.other:=by simp_all
    have hs:Ju (T t).d=false:=by rw[hk];rfl
    cases x<;>simp[M9]at x2
    cases y<;>simp[M9]at y2
    rename_i s1 s2;refine⟨s1.toList == s2.toList,?_,?_⟩
    .simp[Sem.run_bind,DA hT w cy hs xs o _ x1,DA hT w cy hs ys o _ y1,run_equalIn_string w d t s1 s2 (hT.string hk)]
    grind [Jn]
   simp_all
  .rename_i hk;split at h
   .cases h
    obtain⟨x,x1,x2,x3⟩:=KZ hx;obtain⟨y,y1,y2,y3⟩:=KZ hy;have cy:(T t).d≠.other:=by simp_all
    have hs:Ju (T t).d=false:=by rw[hk];rfl
    cases x<;>simp[M9]at x2
    cases y<;>simp[M9]at y2
    rename_i s1 s2;refine⟨s1 == s2,?_,?_⟩
    .simp[Sem.run_bind,DA hT w cy hs xs o _ x1,DA hT w cy hs ys o _ y1,run_equalIn_bool' w d t s1 s2 (hT.bool hk)]
    simp_all
   simp_all
  .rename_i fs hk;split at h
   .rename_i Qw;split at h
    .rename_i l' Ja;split at h
     .rename_i Cy;cases h;have Cy:=AT Cy;have cy:(T t).d≠.other:=by simp_all
      have hs:Ju (T t).d=true:=by rw[hk];rfl
      obtain⟨fa,u1,u2,u3⟩:=hT.struct hk;obtain⟨_,_,_,_,_,_,_,_,_,_,hq⟩:=hT.get cy;obtain⟨q1,q2⟩:=hq Qw;rw[u2]at Ja;have hf:P.fieldsOf t=fa:=by grind [Program.fieldsOf]
      have ex:∀zs:Array Value,(zs.extract o (o+(T t).size)).toList=Im zs.toList o l.length:=fun zs=>by
       grind [Im,Array.toList_extract]
      have s0:∀zs:Array Value,Im (Im zs.toList o l.length) 0 l.length=Im zs.toList o l.length:=fun zs=>by
       grind [c9]
      obtain⟨b,b1,b2⟩:=M3 w n d (fun t l h xs ys o hx hy=>Wc w n t l h d aa0 xs ys o hx hy) fa.toList 0 l u3 Ja (xs.extract o (o+(T t).size)) (ys.extract o (o+(T t).size))
       (by simp_all) (by simp_all)
      rw[ex,ex,s0,s0]at b2;refine⟨b,?_,b2⟩
      grind [Sem.run_bind,GJ,Result.andThen_ok,run_equalIn_struct]
     simp_all
    simp_all
   simp_all
  simp_all
end
theorem PG:∀{l:List KS} {xs:List AV},YB l xs=true->∃vs:List Value,xs=vs.map .v/\Jt l vs=true
 | [],[],_=>⟨[],rfl,rfl⟩
 |k::r,a::s,h=>by
  cases a with
  |v x=>
   simp only[YB]at h;split at h
   .rename_i h1;obtain⟨vs,rfl,h3⟩:=PG h;exact⟨x::vs,rfl,by grind [Jt]⟩
   simp_all
  |_=>grind [YB]
 | [],_::_,h=>by grind [YB]
 |_::_,[],h=>by grind [YB]
theorem X1:∀{l:List KS} {vs us:List Value},Jt l vs=true->Jt l us=true->(ZA (vs.map .v) (us.map .v)↔vs=us)
 | [],[],[],_,_=>by simp[ZA]
 |k::r,v::vs,u::us,h1,h2=>by
  simp only[Jt]at h1 h2;split at h1
  .rename_i e1;split at h2
   .rename_i e2;have ih:=X1 h1 h2;cases k<;>cases v<;>simp[M9]at e1<;>cases u<;>simp[M9]at e2<;>simp only[BU,ZA,ih,MQ]
    all_goals grind [KL]
   simp_all
  simp_all
 | [],_::_,_,h,_=>by grind [Jt]
 |_::_,[],_,h,_=>by grind [Jt]
 | [],[],_::_,_,h=>by grind [Jt]
 |_::_,_::_,[],_,h=>by grind [Jt]
theorem A5.v_eq{w:World}{a:Value}(h:A5 g w U (.v a) x):x=a:=by cases h;rfl
theorem A5.agg_vals{w:World}{vs:List Value}(h:A5 g w U (.agg (vs.map .v)) x):x=.agg vs.toArray:=by
 cases h with
 |agg _ _ us hs h1 hr=>
  congr 1
  apply Array.ext';apply CR;intro i;simp only[Bv]at hs
  by_cases hi:i<vs.length
  .have N0 : i<us.size:=by omega
   have:=hr i (.v vs[i]) us[i] (by simp_all) (by simp_all)
   grind [A5.v_eq]
  simp_all
theorem IE{P:Program}(hu:P.underlying t=some (.slice e))(a:Option Addr)(n c:Nat) :
  (Op.equal t (.slice a n c) (.slice none 0 0)).run P w=.ok a.isNone w:=by
 have key:∀d,(Op.equalIn (d+1) t (.slice a n c) (.slice none 0 0)).run P w=.ok a.isNone w:=fun d=>by
  cases a<;>simp[Op.equalIn,run_underlying hu]
 exact key 9999
theorem JO{P:Program}(hu:P.underlying t=some (.pointer e))(a:Option Addr) :
  (Op.equal t (.pointer a) (.pointer none)).run P w=.ok a.isNone w:=by
 have key:∀d,(Op.equalIn (d+1) t (.pointer a) (.pointer none)).run P w=.ok a.isNone w:=fun d=>by
  cases a<;>simp[Op.equalIn,run_underlying hu]
 exact key 9999
theorem ID{P:Program}{ms:Array (String×TypeId)}(hu:P.underlying t=some (.interface ms)) :
  (Op.equal t .nilIface .nilIface).run P w=.ok true w:=by
 have key:∀d,(Op.equalIn (d+1) t .nilIface .nilIface).run P w=.ok true w:=fun d=>by
  simp[Op.equalIn,run_underlying hu]
 exact key 9999
section
variable {P:Program}{T:GB}{h:Nat->HO}{g:Gh}{w:World}{K:AV->Prop}
theorem iv{t:Nat}{a b:Int}(hk:RG T op t (.v (.int k a)) (.v (.int k' b)) K) :
  Bp P h g w (do eqGuard op t X Y (.int k a) (.int k' b);binOp op t (.int k a) (.int k' b)) K:=by
 unfold RG at hk;dsimp only at hk;split at hk
 .exact PX hk
 .rename_i e;obtain rfl:=KL e;cases op<;>dsimp only at hk
  case eql=>exact Bp.bool (b:=a == b) (by simp[eqGuard,binOp,Op.intCmp]) aa1 hk
  case neq=>exact Bp.bool (b:=a != b) (by simp[eqGuard,binOp,Op.intCmp]) aa1 hk
  case lss=>exact Bp.bool (b:=decide (a<b)) (by simp[eqGuard,binOp,Op.intCmp]) aa1 hk
  case leq=>exact Bp.bool (b:=decide (a<=b)) (by simp[eqGuard,binOp,Op.intCmp]) aa1 hk
  case gtr=>exact Bp.bool (b:=decide (b<a)) (by simp[eqGuard,binOp,Op.intCmp]) aa1 hk
  case geq=>exact Bp.bool (b:=decide (b<=a)) (by simp[eqGuard,binOp,Op.intCmp]) aa1 hk
  all_goals exact dz hk
theorem iw{t:Nat}{a b:ByteArray}(hk:RG T op t (.v (.string a)) (.v (.string b)) K) :
  Bp P h g w (do eqGuard op t X Y (.string a) (.string b);binOp op t (.string a) (.string b)) K:=by
 unfold RG at hk;have tri:=JV a.toList b.toList;have Ag0:=JV b.toList a.toList;cases op<;>dsimp only at hk
 case eql=>exact Bp.bool (b:=a.toList == b.toList) (by simp[eqGuard,binOp,Op.stringOp]) (Jn a b) hk
 case neq=>exact Bp.bool (b:=!(a.toList == b.toList)) (by simp[eqGuard,binOp,Op.stringOp]) (by
  grind [Jn]) hk
 case lss=>exact Bp.bool (b:=Op.bytesLess a.toList b.toList) (by simp[eqGuard,binOp,Op.stringOp]) aa1 hk
 case leq=>exact Bp.bool (b:=Op.bytesLess a.toList b.toList||a.toList == b.toList) (by simp[eqGuard,binOp,Op.stringOp]) (by simp_all) hk
 case gtr=>exact Bp.bool (b:=!(Op.bytesLess a.toList b.toList||a.toList == b.toList)) (by simp[eqGuard,binOp,Op.stringOp]) (by simp_all) hk
 case geq=>exact Bp.bool (b:=!Op.bytesLess a.toList b.toList) (by simp[eqGuard,binOp,Op.stringOp]) aa1 hk
 case add=>
  refine Bp.val (x:=.string (a++b)) ?_ hk.2;have h1:¬((a.size:Int)+(b.size:Int)>IntKind.i64.max):=by simp_all
  simp[eqGuard,binOp,Op.stringOp];omega
 all_goals exact hk.elim
theorem fL{K:AV->Prop}(hk:fK K (.v (.bool b))):K (.v (.bool (!b))):=by cases b<;>exact hk
theorem iY(hT:BY P T){t:Nat}{x y:AV}(hx:A5 g w (used h) x vx)(hy:A5 g w (used h) y vy){K:AV->Prop}(hk:sv T t x y K) :
  ∃b:Bool,(Op.equal t vx vy).run P w=.ok b w/\K (.v (.bool b))/\(∀op X Y,(op=.eql\/op=.neq)->(eqGuard op t X Y vx vy).run P w=.ok () w) /\
   binOp .eql t vx vy=(do pure (.bool (<-Op.equal t vx vy)))/\binOp .neq t vx vy=(do pure (.bool (!(<-Op.equal t vx vy)))):=by
 unfold sv at hk;split at hk
 .rename_i ht;split at hk
  .obtain rfl:=hx.v_eq;obtain rfl:=hy.v_eq;refine⟨_,?_,hk,fun op X Y _=>by rcases ‹op=_\/op=_› with rfl | rfl<;>simp[eqGuard],rfl,rfl⟩
   grind [Op.equal,Op.maxDepth,run_equalIn_bool',BY.bool]
  simp_all
 .rename_i fs ht;split at hk
  .split at hk
   .rename_i l hl;split at hk
    .rename_i k1;split at hk
     .rename_i k2;obtain⟨vs,rfl,s1⟩:=PG k1;obtain⟨us,rfl,s2⟩:=PG k2;obtain rfl:=hx.agg_vals;obtain rfl:=hy.agg_vals;have Fi:(T t).d≠.other:=by simp_all
      obtain⟨_,_,_,_,_,_,_,_,_,_,hq⟩:=hT.get Fi;have hag:Ju (T t).d=true:=by rw[ht];rfl
      have hfl:=hl;unfold Hx at hfl;rw[ht]at hfl;dsimp only at hfl;split at hfl
      .rename_i Qw;split at hfl
       .split at hfl
        .rename_i Cy;cases hfl;have Cy:=AT Cy;have e1:∀zs:List Value,Jt l zs=true->Im zs.toArray.toList 0 l.length=zs:=fun zs hz=>by
          have:=MA hz
          grind [Im]
         obtain⟨b,b1,b2⟩:=Wc hT w 8 t l hl 10000 aa0 vs.toArray us.toArray 0 (by simp_all) (by simp_all);rw[e1 _ s1,e1 _ s2]at b2;have ex:∀zs:List Value,Jt l zs=true->zs.toArray.extract 0 (0+(T t).size)=zs.toArray:=fun zs hz=>by
          grind [MA]
         simp only[Sem.run_bind,GJ hT w Fi hag,Result.andThen_ok,ex _ s1,ex _ s2]at b1;refine⟨b,b1,RI hk (by grind [X1]),fun op X Y _=>run_eqGuard_agg w op t X Y _ _ (hq Qw).2,rfl,rfl⟩
        simp_all
       simp_all
      simp_all
     simp_all
    simp_all
   simp_all
  simp_all
 .rename_i e ht;have hu:=hT.slice ht;split at hk
  .rename_i tk es;obtain rfl:=hy.v_eq;obtain⟨a,n,c,rfl,hn⟩:∃a n c,vx=.slice a n c/\(es≠[]->a.isNone=false):=by
    grind [cases A5]
   refine⟨a.isNone,?_,?_,fun op X Y _=>by rcases ‹op=_\/op=_› with rfl | rfl<;>simp[eqGuard],rfl,rfl⟩
   .grind [IE]
   .by_cases he:es=[]
    .cases a.isNone<;>simp_all
    grind
  .obtain rfl:=hx.v_eq;obtain rfl:=hy.v_eq;refine⟨true,?_,hk,fun op X Y _=>by rcases ‹op=_\/op=_› with rfl | rfl<;>simp[eqGuard],rfl,rfl⟩
   grind [IE]
  simp_all
 .rename_i e ht;have hu:=hT.ptr ht
  have key:∀a:Addr,vx=.pointer (some a)->vy=.pointer none->K (.v (.bool false))->∃b:Bool,(Op.equal t vx vy).run P w=.ok b w/\K (.v (.bool b))/\(∀op X Y,(op=.eql\/op=.neq)->(eqGuard op t X Y vx vy).run P w=.ok () w) /\
   binOp .eql t vx vy=(do pure (.bool (<-Op.equal t vx vy)))/\binOp .neq t vx vy=(do pure (.bool (!(<-Op.equal t vx vy)))):=by
   rintro a rfl rfl hk
   refine⟨false,?_,hk,fun op X Y _=>by rcases ‹op=_\/op=_› with rfl | rfl<;>simp[eqGuard],rfl,rfl⟩
   grind [JO]
  split at hk
  .obtain rfl:=hx.v_eq;obtain rfl:=hy.v_eq;refine⟨true,?_,hk,fun op X Y _=>by rcases ‹op=_\/op=_› with rfl | rfl<;>simp[eqGuard],rfl,rfl⟩
   grind [JO]
  all_goals grind [cases A5]
 simp_all
theorem mE(hT:BY P T){t:Nat}{x y:AV}(hx:A5 g w (used h) x vx)(hy:A5 g w (used h) y vy)(hk:RG T op t x y K) :
  Bp P h g w (do eqGuard op t X Y vx vy;binOp op t vx vy) K:=by
 unfold RG at hk;split at hk
 .obtain rfl:=hx.v_eq;obtain rfl:=hy.v_eq;exact iv (T:=T) (by grind [RG])
 .obtain rfl:=hx.v_eq;obtain rfl:=hy.v_eq;exact iw (T:=T) (by grind [RG])
 .split at hk
  .obtain⟨b,b1,b2,b3,b4,b5⟩:=iY hT hx hy hk;refine⟨_,_,?_,b2,.v _ _⟩;simp_all
  .obtain⟨b,b1,b2,b3,b4,b5⟩:=iY hT hx hy hk;refine⟨_,_,?_,fL b2,.v _ _⟩;simp_all
  simp_all
theorem iu(hT:BY P T){t:Nat}{x y:AV}(hx:A5 g w (used h) x vx)(hy:A5 g w (used h) y vy)(hc:∀v,Y=.const v->vy=v)(hk:XI T op t Y x y K) :
  Bp P h g w (do eqGuard op t X Y vx vy;binOp op t vx vy) K:=by
 unfold XI at hk;split at hk
 .obtain rfl:=hc _ rfl;split at hk
  .obtain rfl:=hx.v_eq;split at hk
   .rename_i ht;obtain⟨ms,hu⟩:=hT.iface ht;split at hk
    .refine⟨_,_,?_,hk,.v _ _⟩;have e:binOp .eql t .nilIface .nilIface=(do pure (.bool (<-Op.equal t .nilIface .nilIface))):=rfl;simp[eqGuard,e,ID w hu]
    .refine⟨_,_,?_,hk,.v _ _⟩;have e:binOp .neq t .nilIface .nilIface=(do pure (.bool (!(<-Op.equal t .nilIface .nilIface)))):=rfl;simp[eqGuard,e,ID w hu]
    simp_all
   simp_all
  simp_all
 grind [mE]
end
def Hp(g:Gh)(w:World)(U:Nat->Prop)(b off:Nat)(cs:List AV):Prop:=
 ∀(j:Nat) (av:AV),cs[j]?=some av->∃x,w.cell? ⟨b,off+j,none⟩=some x/\x.oneCell'=true/\A5 g w U av x
theorem Hp.drop{g:Gh}{w:World}{U:Nat->Prop}{b off:Nat}{cs:List AV}(h:Hp g w U b off cs)(n:Nat):Hp g w U b (off+n) (cs.drop n):=fun j av hj=>by
 rw[FO]at hj
 have:=h _ _ hj
 grind
theorem Hp.of_cptr{w:World}{b off:Nat}(h:A5 g w U (.cptr cs) (.pointer (some ⟨b,off,none⟩)))(V:Nat->Prop):Hp g w V b off cs:=by
 cases h with
 |cptr _ _ _ _ val CY DS=>exact fun j av hj=>⟨_,(CY j av hj).2.1,(CY j av hj).2.2,(DS j av hj).up V⟩
theorem FS{w:World}{b o:Nat}(h:w.heap[b]?=some (.cells vs E f)):w.cell? ⟨b,o,none⟩=vs[o]?:=by
 simp[World.cell?,h]
theorem Hp.of_row{w:World}{b:Nat}(h:w.heap[b]?=some (.cells vs E f))(hr:B2 g w U cs vs.toList):Hp g w U b 0 cs:=fun j av hj=>by
 have Fp:j<vs.toList.length:=by rw[hr.1];grind
 have hx:vs.toList[j]?=some vs.toList[j]:=AI Fp;refine⟨vs.toList[j],?_,hr.2.1 _ (Ah Fp),hr.2.2 j av _ hj hx⟩
 grind [FS]
theorem Ub{n j:Nat}{f:Nat->α}{x:α}(h:((List.range n).map f)[j]?=some x):j<n/\x=f j:=by
 grind
section
variable {P:Program}{T:GB}(hT:BY P T){h:Nat->HO}{g:Gh}{w:World}{K:AV->Prop}
include hT
theorem Lj{t:Nat}{b off:Nat}(hd:(T t).d≠.other)(ha:Ju (T t).d=false)(hc:w.cell? ⟨b,off,none⟩=some x):(loadVar t ⟨b,off,none⟩).run P w=.ok x w:=by
 unfold loadVar;simp[Sem.run_bind,hT.isAgg w hd,ha,hc]
theorem Q2{t:Nat}{b off:Nat}{vs:List Value}(hd:(T t).d≠.other)(ha:Ju (T t).d=true)(hl:vs.length=(T t).size)
  (hc:∀j x,vs[j]?=some x->w.cell? ⟨b,off+j,none⟩=some x):(loadVar t ⟨b,off,none⟩).run P w=.ok (.agg vs.toArray) w:=by
 unfold loadVar;have hr:=run_loadCells_list (P:=P) w ⟨b,off,none⟩ vs (fun j x hj=>by grind [Addr.add_lit]);simp[Sem.run_bind,hT.isAgg w hd,ha,hT.size w hd,<-hl,hr]
theorem LZ{t:Nat}{b off:Nat}{cs:List AV}(hc:Hp g w (used h) b off cs)(hk:Lh T t cs K):Bp P h g w (loadVar t ⟨b,off,none⟩) K:=by
 have agg:Ju (T t).d=true->(T t).d≠.other->(T t).size<=cs.length->K (.agg (cs.take (T t).size))->Bp P h g w (loadVar t ⟨b,off,none⟩) K:=by
  intro ha hd HB hk;have hex:∀j:Nat,∃x:Value,∀av,cs[j]?=some av->w.cell? ⟨b,off+j,none⟩=some x/\x.oneCell'=true/\A5 g w (used h) av x:=fun j=>by
   cases e:cs[j]? with
   |none=>simp_all
   |some av=>obtain⟨x,hx⟩:=hc j av e<;>simp_all
  obtain⟨val,Lr⟩:=Classical.axiomOfChoice hex;have j7:∀j,j<(T t).size->∃av,cs[j]?=some av:=fun j hj=>⟨_,AI aa0⟩;refine⟨_,_,Q2 hT (vs:=(List.range (T t).size).map val) hd ha aa1 (fun j x hx=>?_),hk,.agg _ _ _ (by simp_all) (fun i x hx=>?_) (fun i av x hi hx=>?_)⟩
  all_goals grind
 have single:Ju (T t).d=false->(T t).d≠.other->Ld cs K->Bp P h g w (loadVar t ⟨b,off,none⟩) K:=by
  intro ha hd hk;cases cs with
  |nil=>exact hk.elim
  |cons a r=>
   obtain⟨x,x1,x2,x3⟩:=hc 0 a rfl;exact⟨x,a,Lj hT hd ha x1,hk,x3⟩
 unfold Lh at hk;split at hk
 .rename_i fs e;exact agg (by rw[e];rfl) (by simp_all) hk.1 hk.2
 .rename_i n m e;exact agg (by rw[e];rfl) (by simp_all) hk.1 hk.2
 .rename_i e;have hd:(T t).d≠.other:=by simp_all
  have ha:Ju (T t).d=false:=by rw[e];rfl
  cases cs with
  |nil=>exact hk.elim
  |cons a r=>
   obtain⟨x,x1,x2,x3⟩:=hc 0 a rfl;simp only[Ld]at hk;split at hk
   .obtain rfl:=x3.v_eq;rename_i bb;refine⟨_,_,Lj hT hd ha x1,?_,.v _ _⟩;cases bb<;>simp_all
   simp_all
 .simp_all
 .rename_i e1 e2 e3 e4;refine single ?_ e4 hk;cases e:(T t).d<;>first | rfl | simp_all | simp_all
def Xq(g:Gh)(w:World)(U:Nat->Prop)(xs:Array Value)(off:Nat)(cs:List AV):Prop:=
 ∀(j:Nat) (av:AV),cs[j]?=some av->∃x,xs[off+j]?=some x/\x.oneCell'=true/\A5 g w U av x
omit hT in
theorem Xq.of_agg{cs:List AV}{xs:Array Value}{U:Nat->Prop}(hr:A5 g w U (.agg cs) (.agg xs))(o:Nat):Xq g w U xs o (cs.drop o):=by
 cases hr with
 |agg _ _ _ hs h1 hh=>
  intro j av hj;rw[FO]at hj;have Fp:o+j<xs.size:=by grind
  have hx:xs[o+j]?=some xs[o+j]:=by simp_all
  grind
theorem Y3{t:Nat}{xs:Array Value}{off:Nat}{cs:List AV}(hc:Xq g w (used h) xs off cs)(hk:Y2 T t cs K):Bp P h g w (part t xs off) K:=by
 have agg:Ju (T t).d=true->(T t).d≠.other->(T t).size<=cs.length->K (.agg (cs.take (T t).size))->Bp P h g w (part t xs off) K:=by
  intro ha hd HB hk;have j7:∀j,j<(T t).size->∃av,cs[j]?=some av:=fun j hj=>⟨_,AI aa0⟩;have GR:∀(j:Nat) (x:Value),(xs.extract off (off+(T t).size))[j]?=some x->j<(T t).size/\xs[off+j]?=some x:=fun j x hx=>by
   grind
  have FM:(xs.extract off (off+(T t).size)).size=(T t).size:=by
   by_cases h0:(T t).size=0
   .grind
   .obtain⟨av,qO⟩:=j7 ((T t).size-1) aa0;obtain⟨x,x1,_⟩:=hc _ _ qO<;>grind [Array.getElem?_eq_some_iff]
  refine⟨_,_,GJ hT w hd ha xs off,hk,.agg _ _ _ (by simp_all) (fun i x hx=>?_) (fun i av x hi hx=>?_)⟩
  .obtain⟨hj,Q0⟩:=GR i x hx;obtain⟨av,qO⟩:=j7 i hj;obtain⟨y,y1,y2,y3⟩:=hc i av qO<;>simp_all
  .obtain⟨hj,Q0⟩:=GR i x hx;rw[QT hj]at hi;obtain⟨y,y1,y2,y3⟩:=hc i av hi<;>simp_all
 have single:Ju (T t).d=false->(T t).d≠.other->Ld cs K->Bp P h g w (part t xs off) K:=by
  intro ha hd hk;cases cs with
  |nil=>exact hk.elim
  |cons a r=>
   obtain⟨x,x1,x2,x3⟩:=hc 0 a rfl;exact⟨x,a,DA hT w hd ha xs off x x1,hk,x3⟩
 unfold Y2 Lh at hk;split at hk
 .rename_i fs e;exact agg (by rw[e];rfl) (by simp_all) hk.1 hk.2
 .rename_i n m e;exact agg (by rw[e];rfl) (by simp_all) hk.1 hk.2
 .rename_i e;have hd:(T t).d≠.other:=by simp_all
  have ha:Ju (T t).d=false:=by rw[e];rfl
  cases cs with
  |nil=>exact hk.elim
  |cons a r=>
   obtain⟨x,x1,x2,x3⟩:=hc 0 a rfl;simp only[Ld]at hk;split at hk
   .obtain rfl:=x3.v_eq;rename_i bb;refine⟨_,_,DA hT w hd ha xs off _ x1,?_,.v _ _⟩;cases bb<;>simp_all
   simp_all
 .simp_all
 .rename_i e1 e2 e3 e4;refine single ?_ e4 hk;cases e:(T t).d<;>first | rfl | simp_all | simp_all
theorem ap{s f:Nat}{x:AV}(hx:A5 g w (used h) x vx)(hk:Ot T s f x K):Bp P h g w (Instr.field s vx f) K:=by
 unfold Ot at hk;split at hk
 .rename_i fs cs hs;split at hk
  .rename_i t o hf;obtain⟨fa,u1,u2,u3⟩:=hT.struct hs;cases hx with
   |agg _ _ xs a1 a2 a3=>
    have pB:∃fd,fa[f]?=some fd/\fd.type=t/\fd.offset=o:=by
     have key:∀(l:List (Nat×Nat)) (n:Nat) (p:Nat×Nat),Wf l n=some p->l[n]?=some p:=by
      intro l
      induction l with
      |nil=>intro n p h;cases h
      |cons y r ih=>intro n p h;cases n<;>grind [Wf]
     grind
    obtain⟨fd,e1,rfl,rfl⟩:=pB;obtain⟨y,av,p1,p2,p3⟩:=Y3 hT (Xq.of_agg (.agg _ _ xs a1 a2 a3) fd.offset) hk;refine⟨y,av,?_,p2,p3⟩;simp only[Instr.field,Sem.run_bind,run_underlying u1,Result.andThen_ok,e1];simpa[asAgg]using p1
  simp_all
 simp_all
theorem Sj{s f:Nat}{fs:List (Nat×Nat)}{t o:Nat}(hs:(T s).d=.struct fs)(hf:Wf fs f=some (t,o)):∃fa fd,P.underlying s=some (.struct fa)/\fa[f]?=some fd/\fd.type=t/\fd.offset=o:=by
 obtain⟨fa,u1,u2,u3⟩:=hT.struct hs;have key:∀(l:List (Nat×Nat)) (n:Nat) (p:Nat×Nat),Wf l n=some p->l[n]?=some p:=by
  intro l
  induction l with
  |nil=>intro n p h;cases h
  |cons y r ih=>intro n p h;cases n<;>grind [Wf]
 grind
theorem eG{s f:Nat}{x:AV}(hx:A5 g w (used h) x vx)(hk:Sb T s f x K):Bp P h g w (Instr.fieldAt s vx f) K:=by
 unfold Sb at hk;split at hk
 .rename_i fs hs;split at hk
  .rename_i t o hf;obtain⟨fa,fd,u1,e1,rfl,rfl⟩:=Sj hT hs hf;split at hk
   .simp_all
   .rename_i k FM;have Cm:∀b off,(Instr.fieldAt s (.pointer (some ⟨b,off,none⟩)) f).run P w=.ok (.pointer (some ⟨b,off+fd.offset,none⟩)) w:=fun b off=>by
     simp[Instr.fieldAt,run_underlying u1,e1,Instr.sureAddr,fieldPlace,hT.size1 w FM,Addr.add_lit]
    split at hk
    .cases hx with
     |cptr _ _ b off val CY DS=>exact⟨_,_,Cm b off,hk,(A5.cptr _ _ b off val CY DS).cptr_drop _⟩
    .rename_i r off;cases hx with
     |ref _ _ _ b hu ht hp=>exact⟨_,_,Cm b off,hk,.ref _ r _ b hu ht hp⟩
    .rename_i r n sz i off;cases hx with
     |eref _ _ _ _ _ _ b cap hu ht hn hp=>
      refine⟨_,_,Cm b _,hk,?_⟩
      grind [A5.eref]
    simp_all
  simp_all
 simp_all
end
section
variable {P:Program}{T:GB}(hT:BY P T){h:Nat->HO}{g:Gh}{w:World}{K:AV->Prop}
section
include hT
theorem T4{t:Nat}{x ix:AV}(hx:A5 g w (used h) x vx)(hi:A5 g w (used h) ix vi)(hk:Jc T t x ix K):Bp P h g w (Instr.indexAt t vx vi) K:=by
 unfold Jc at hk;split at hk
 .rename_i e i ht;obtain rfl:=hi.v_eq;have hu:=hT.slice ht;split at hk
  .simp_all
  .rename_i m hm;have Cm:∀b off (len cap:Nat),0<=i->i<(len:Int)->(Instr.indexAt t (.slice (some ⟨b,off,none⟩) len cap) (.int .i64 i)).run P w=.ok (.pointer (some ⟨b,off+i.toNat*(T e).size,none⟩)) w:=fun b off len cap h0 h1=>by
    simp[Instr.indexAt,asIntOf,run_underlying hu,h0,h1,hT.size1 w hm,Addr.add_lit,hm]
   split at hk
   .rename_i tk es;obtain⟨cs,⟨h0,h1⟩,h2,hk⟩:=hk;have hs:=hx.slice_none;have Fp:=(AR.1 h1).1;cases hs with
    |snil=>simp_all
    |slice _ _ b off sz cap val hc hl CY DS=>
     have FM:sz=(T e).size:=by grind
     subst FM;refine⟨_,_,Cm b off es.length cap h0 aa0,hk,.cptr _ cs b _ (val i.toNat) (fun j av hj=>?_) (fun j av hj=>DS _ _ _ _ h1 hj)⟩
     grind
   .rename_i r n;obtain⟨⟨h0,h1⟩,hk⟩:=hk;cases hx with
    |msl _ _ _ a cap fg ZE hn ha Q0=>
     rcases ha with rfl | ⟨b,rfl⟩
     .omega
     .refine⟨_,_,Cm b 0 n cap h0 h1,hk,?_⟩;rw[Ip];exact .eref _ r n _ _ 0 b cap fg ZE ⟨by omega,hn⟩ (fun e=>(Q0 e).symm)
   simp_all
 .rename_i n e i ht;obtain rfl:=hi.v_eq;have hu:=hT.array ht;split at hk
  .simp_all
  .rename_i m hm;have Cm:∀b off,0<=i->i<(n:Int)->(Instr.indexAt t (.pointer (some ⟨b,off,none⟩)) (.int .i64 i)).run P w=.ok (.pointer (some ⟨b,off+i.toNat*(T e).size,none⟩)) w:=fun b off h0 h1=>by
    simp[Instr.indexAt,asIntOf,run_underlying hu,h0,h1,hT.size1 w hm,Addr.add_lit,hm,Instr.sureAddr]
   split at hk
   .cases hx with
    |cptr _ _ b off val CY DS=>exact⟨_,_,Cm b off hk.1.1 hk.1.2,hk.2,(A5.cptr _ _ b off val CY DS).cptr_drop _⟩
   .rename_i r off;cases hx with
    |ref _ _ _ b hu ht hp=>exact⟨_,_,Cm b off hk.1.1 hk.1.2,hk.2,.ref _ r _ b hu ht hp⟩
   simp_all
 simp_all
theorem fk{t:Nat}{x ix:AV}(hx:A5 g w (used h) x vx)(hi:A5 g w (used h) ix vi)(hk:SL T t x ix K):Bp P h g w (Instr.index t vx vi) K:=by
 unfold SL at hk;split at hk
 .rename_i s k i ht;obtain rfl:=hx.v_eq;obtain rfl:=hi.v_eq;obtain⟨b,⟨h0,h1⟩,hk⟩:=hk;refine Bp.val (x:=.int .u8 b.toNat) ?_ hk;have h2:s[i.toNat]?=some b:=by
   have:=(B6.1 h1)
   obtain⟨l1,l2⟩:=this;have l1' : i.toNat<s.size:=l1;rw[getElem?_pos s i.toNat l1'];exact Aa some l2
  simp[Instr.index,asIntOf,run_underlying (hT.string ht),h0,h2]
 .rename_i n e cs i ht;obtain rfl:=hi.v_eq;obtain⟨⟨h0,h1⟩,hk⟩:=hk;cases hx with
  |agg _ _ xs a1 a2 a3=>
   have hd:(T e).d≠.other:=by
    grind [Y2,Lh]
   obtain⟨y,av,p1,p2,p3⟩:=Y3 hT (Xq.of_agg (.agg _ _ xs a1 a2 a3) _) hk;refine⟨y,av,?_,p2,p3⟩;simp[Instr.index,asIntOf,run_underlying (hT.array ht),h0,h1,hT.size w hd,p1]
 simp_all
theorem XU{s t:Nat}{x:AV}(hx:A5 g w (used h) x vx)(hk:UC T s t x K):Bp P h g w (convert s t vx) K:=by
 unfold UC at hk;split at hk
 .rename_i k n h1 h2;obtain rfl:=hx.v_eq;refine Bp.val (x:=.int .i64 n) ?_ hk.2;have hw:=MP hk.1;simp[convert,run_underlying (hT.int h1),run_underlying (hT.int h2),Conv.intToInt,hw]
 .rename_i k k' m n Fi h1 h2;obtain rfl:=hx.v_eq;refine Bp.val (x:=.int k' (k'.wrap n)) ?_ hk;simp[convert,run_underlying (hT.int h1),run_underlying (hT.int h2),Conv.intToInt]
 .rename_i s' h1 h2;obtain rfl:=hx.v_eq;refine Bp.val (x:=.string s') ?_ hk;simp[convert,run_underlying (hT.string h1),run_underlying (hT.string h2)]
 .rename_i e tk es h1 h2;split at hk
  .rename_i h3;obtain⟨l,rfl,hk⟩:=hk;have hr:=hx.slice_none;refine Bp.val (x:=.string ⟨l.toArray⟩) ?_ hk;generalize hes:l.map (fun b=>[AV.v (.int .u8 b.toNat)])=es at hr;cases hr with
   |snil _ a cap=>
    have hl:l=[]:=by simp_all
    subst hl;cases a with
    |none=>exact Lib.run_convert_nil_bytes w s t e cap (hT.slice h1) (hT.int h3) (hT.string h2)
    |some a=>exact run_convert_bytes_back w s t e a cap [] (hT.slice h1) (hT.int h3) (hT.string h2) (fun j hj=>by grind)
   |slice _ _ b off sz cap val hc hl CY DS=>
    have Cy:l.length=es.length:=by grind
    have:=run_convert_bytes_back (P:=P) w s t e ⟨b,off,none⟩ cap l (hT.slice h1) (hT.int h3) (hT.string h2) (fun j hj=>by
     have hg:es[j]?=some [AV.v (.int .u8 l[j].toNat)]:=by grind
     have Wz:sz=1:=(hl j _ hg).symm;have h4:=CY j _ 0 _ hg rfl;have h5:=DS j _ 0 _ hg rfl
     grind [Addr.add_lit,A5.v_eq])
    simp_all
  simp_all
 simp_all
end
theorem lO{op:UnOp}{x:AV}(hx:A5 g w (used h) x vx)(hk:Zx op x K):Bp P h g w (Op.unary op vx) K:=by
 unfold Zx at hk;split at hk
 .unfold fK at hk;split at hk
  .obtain rfl:=hx.v_eq;exact Bp.val (x:=.bool false) (by simp[Op.unary]) hk
  .obtain rfl:=hx.v_eq;exact Bp.val (x:=.bool true) (by simp[Op.unary]) hk
  simp_all
 .rename_i a;obtain rfl:=hx.v_eq;refine Bp.val (x:=.int .i64 (-a)) ?_ hk.2
  have:=MP hk.1
  simp[Op.unary,Op.intArith,this]
 .obtain rfl:=hx.v_eq;exact Bp.val (by simp[Op.unary,Op.intBits,Uu]) hk
 simp_all
theorem YW:∀{l:List AV} {j:Nat} {a:AV},oE l j=some a->l[j]?=some a
 | [],j,a,h=>by cases h
 |b::r,0,a,h=>by grind [oE]
 |b::r,j+1,a,h=>by simpa using YW (l:=r) (j:=j) h
theorem X2{i:Nat}{x:AV}(hx:A5 g w (used h) x vx)(hk:LF x i K):Bp P h g w (Instr.extract vx i) K:=by
 unfold LF at hk;split at hk
 .rename_i cs;cases hx with
  |tup _ _ vs hs hh=>
   split at hk
   .rename_i a ha;have hc:=YW ha;have hi:i<vs.size:=by grind
    exact⟨vs[i],_,by simp[Instr.extract,hi],hk,hh _ _ _ hc (by simp_all)⟩
   simp_all
 simp_all
theorem kX{c a b:AV}{vc va vb:Value}(hc:A5 g w (used h) c vc)(ha:A5 g w (used h) a va)(hb:A5 g w (used h) b vb)(hk:Y5 c a b K) :
  Bp P h g w (do pure (if <-asBool vc then va else vb)) K:=by
 unfold Y5 at hk;split at hk
 .obtain rfl:=hc.v_eq;exact⟨va,a,by simp[asBool],hk,ha⟩
 .obtain rfl:=hc.v_eq;exact⟨vb,b,by simp[asBool],hk,hb⟩
 simp_all
theorem ov{t:Nat}{x y:AV}(hx:A5 g w (used h) x vx)(hy:A5 g w (used h) y vy)(hk:oz max x y K):Bp P h g w (Builtin.max_ G0 t #[vx,vy]) K:=by
 unfold oz at hk;split at hk
 .rename_i k a k' b;split at hk
  .obtain rfl:=hx.v_eq;obtain rfl:=hy.v_eq;refine Bp.val (x:=.int k (max a b)) ?_ hk;simp[Builtin.max_,Builtin.max2];omega
  simp_all
 simp_all
theorem oy{t:Nat}{x y:AV}(hx:A5 g w (used h) x vx)(hy:A5 g w (used h) y vy)(hk:oz min x y K):Bp P h g w (Builtin.min_ G0 t #[vx,vy]) K:=by
 unfold oz at hk;split at hk
 .rename_i k a k' b;split at hk
  .obtain rfl:=hx.v_eq;obtain rfl:=hy.v_eq;refine Bp.val (x:=.int k (min a b)) ?_ hk;simp[Builtin.min_,Builtin.min2];omega
  simp_all
 simp_all
end
end Go.Eng
