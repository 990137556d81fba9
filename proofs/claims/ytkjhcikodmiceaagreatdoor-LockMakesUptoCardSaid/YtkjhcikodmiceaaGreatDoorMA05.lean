/- Lemmas 5. -/
import Derived.Test.YtkjhcikodmiceaaGreatDoorMA04
import Derived.Laws.IdiomStrings
import Derived.Lib.BufferRead
namespace Go.Eng
open Go.RowKit (Below)
variable {U:Nat->Prop}{w:World}{x:Value}{g:D}{w':World}{av:AV}{g':D}
theorem O.mono(hk:Fg g w g' w')(h:O g w U av x) :
  ∀{U' : Nat->Prop},(∀i,U i->U' i)->KK g g' U->O g' w' U' av x:=by
 induction h with
 |v U x=>grind [v]
 |junk U x=>grind [junk]
 |snil U a cap=>grind [snil]
 |slice U es b off sz cap val hc hl DS EB ih=>
  intro U' _ _;refine .slice U' es b off sz cap val hc hl (fun i cs j av h1 h2=>?_) (fun i cs j av h1 h2=>ih i cs j av h1 h2 (fun _ h=>h) (fun _ h=>h.elim));obtain⟨a1,a2,a3⟩:=DS i cs j av h1 h2;obtain⟨k1,k2,_⟩:=hk _ _ a1<;>simp_all
 |tok U r sz es x h hl hu ht hn hx ih=>
  intro U' hU hg;obtain⟨g1,g2,g3,g4⟩:=hg r hu;refine .tok U' r sz es x (ih hU hg) hl (hU r hu) (g1.trans ht) (Bd hn g2) (fun e=>?_)
  grind
 |ver U r sz v es x h hl hu ht hn hx ih=>
  intro U' hU hg;obtain⟨g1,g2,g3,g4⟩:=hg r hu;refine .ver U' r sz v es x (ih hU hg) hl (hU r hu) (g1.trans ht) (Bd hn g2) (fun e=>?_)
  grind
 |full U sz es x h hl hx ih=>
  grind [full]
 |msl U r n a cap hu ht hn ha hx=>
  intro U' hU hg;obtain⟨g1,g2,g3,g4⟩:=hg r hu<;>grind [msl]
 |agg U cs vs hs h1 h ih=>grind [agg]
 |tup U cs vs hs h ih=>grind [tup]
 |cptr U cs b off val DS EB ih=>
  intro U' _ _;refine .cptr U' cs b off val (fun j av h=>?_) (fun j av h=>ih j av h (fun _ h=>h) (fun _ h=>h.elim));obtain⟨a1,a2,a3⟩:=DS j av h;obtain⟨k1,k2,_⟩:=hk _ _ a1<;>simp_all
 |ref U r off b hu ht hx=>
  intro U' hU hg;obtain⟨g1,g2,g3,g4⟩:=hg r hu<;>grind [ref]
 |eref U r n sz i off b cap hu ht hn hx=>
  intro U' hU hg;obtain⟨g1,g2,g3,g4⟩:=hg r hu<;>grind [eref]
 |mref U r b hu ht hx=>
  intro U' hU hg;obtain⟨g1,g2,g3,g4⟩:=hg r hu<;>grind [mref]
 |cmap U sh BZ b es ck hS hb hm h ih=>
  intro U' _ _;obtain⟨k1,k2,k3⟩:=hk _ _ hS;exact .cmap U' sh BZ b es ck k1 (k3 es ck hb) hm (fun i kv e a b=>ih i kv e a b (fun _ h=>h) (fun _ h=>h.elim))
 |clo U f cs vs hs h ih=>grind [clo]
theorem Fg.refl(g:D)(w:World):Fg g w g w:=fun _ _ h=>⟨h,rfl,fun _ _ h=>h⟩
theorem Fg.trans{g g1 g2:D}{w w1 w2:World}(h:Fg g w g1 w1)(k:Fg g1 w1 g2 w2):Fg g w g2 w2:=fun b o hS=>
 let ⟨a1,a2,a3⟩:=h b o hS
 let ⟨b1,b2,b3⟩:=k b o a1
 ⟨b1,b2.trans a2,fun es ck he=>b3 es ck (a3 es ck he)⟩
theorem KK.refl(g:D)(U:Nat->Prop):KK g g U:=fun _ _=>⟨rfl,Ao _,fun _=>rfl,fun _=>rfl⟩
theorem KK.trans{g1 g2:D}{U1:Nat->Prop}(h:KK g g1 U)(hU:∀i,U i->U1 i)(k:KK g1 g2 U1):KK g g2 U:=fun i hi=>by
 obtain⟨a1,a2,a3,a4⟩:=h i hi;obtain⟨b1,b2,b3,b4⟩:=k i (hU i hi)<;>grind [Nat.le_trans]
theorem Le.refl(h:Nat->HO)(g:D)(w:World):Le h g w h g w:=⟨.refl _ _,fun _ h=>h,.refl _ _⟩
theorem Le.trans{h h1 h2:Nat->HO}{g g1 g2:D}{w w1 w2:World}(a:Le h g w h1 g1 w1)(b:Le h1 g1 w1 h2 g2 w2):Le h g w h2 g2 w2:=
 ⟨a.gh.trans a.us b.gh,fun i hi=>b.us i (a.us i hi),a.keeps.trans b.keeps⟩
theorem O.le{h h' : Nat->HO}(k:Le h g w h' g' w')(r:O g w (L h) av x):O g' w' (L h') av x:=
 r.mono k.keeps k.us k.gh
theorem O.up(r:O g w FK av x)(U:Nat->Prop):O g w U av x:=
 r.mono (.refl g w) (fun _ h=>h.elim) (.refl g _)
theorem Ci.mono{g g' : D}{w w' : World}{U U' : Nat->Prop}{cs:List AV}{vs:List Value}(r:Ci g w U cs vs)(hk:Fg g w g' w')(hU:∀i,U i->U' i)(hg:KK g g' U):Ci g' w' U' cs vs:=
 ⟨r.1,r.2.1,fun i av x h1 h2=>(r.2.2 i av x h1 h2).mono hk hU hg⟩
theorem O.cptr_drop{cs:List AV}{b off:Nat}(n:Nat)(h:O g w U (.cptr cs) (.pointer (some ⟨b,off,none⟩))) :
  O g w U (.cptr (cs.drop n)) (.pointer (some ⟨b,off+n,none⟩)):=by
 cases h with
 |cptr _ _ _ _ val DS EB=>
  refine .cptr U _ b (off+n) (fun j=>val (n+j)) (fun j av h=>?_) (fun j av h=>?_)
  all_goals grind
theorem O.slice_none{tk:Tk}{es:C0}(h:O g w U (.slice tk es) x):O g w FK (.slice .none es) x:=by
 cases h with
 |snil U a cap=>grind [snil]
 |slice U es b off sz cap val hc hl DS EB=>exact .slice FK es b off sz cap val hc hl DS EB
 |tok U r sz es x h=>cases h with
  |snil U a cap=>grind [snil]
  |slice U es b off sz cap val hc hl DS EB=>exact .slice FK es b off sz cap val hc hl DS EB
 |ver U r sz v es x h=>cases h with
  |snil U a cap=>grind [snil]
  |slice U es b off sz cap val hc hl DS EB=>exact .slice FK es b off sz cap val hc hl DS EB
 |full U sz es x h=>cases h with
  |snil U a cap=>grind [snil]
  |slice U es b off sz cap val hc hl DS EB=>exact .slice FK es b off sz cap val hc hl DS EB
theorem O.str0{g:D}{w:World}{h:Nat->HO}(ho:∀r,D6 g w (L h) r (h r)){av:AV}{x:Value}(r:O g w (L h) av x):O g w FK (str0 h av) x:=by
 cases av with
 |v y=>cases r;exact .v _ _
 |slice tk es=>exact r.slice_none
 |ref i off=>
  simp only[Eng.str0];split
  .rename_i cs hc;have h1:=ho i;rw[hc]at h1;obtain⟨ht,b,hb,hr⟩:=h1;cases r with
   |ref _ _ _ b' hu ht' hx=>
    rw[hb]at hx;cases hx;simpa using hr.cptr_drop off
  grind [junk]
 |mref i=>
  simp only[Eng.str0];split
  .rename_i sh BZ hc;have h1:=ho i;rw[hc]at h1;obtain⟨ht,b,hb,hr⟩:=h1<;>grind [cases O]
  grind [junk]
 |cptr cs=>cases r with |cptr _ _ b off val DS EB=>exact .cptr _ _ b off val DS EB
 |cmap sh m=>cases r with |cmap _ _ _ b es ck hS hb hm hh=>exact .cmap _ _ _ b es ck hS hb hm hh
 |_=>exact .junk _ _
theorem O.str{g:D}{w:World}{h:Nat->HO}(ho:∀r,D6 g w (L h) r (h r)){av:AV}{x:Value}(r:O g w (L h) av x):O g w FK (str h av) x:=by
 cases av with
 |agg cs=>cases r with
  |agg _ _ vs hs h1 hr=>
   refine .agg _ _ vs aa0 h1 (fun i av x a b=>?_)
   grind [str0]
 |clo f cs=>cases r with
  |clo _ _ _ vs hs hr=>
   refine .clo _ f _ vs aa0 (fun i av x a b=>?_)
   grind [str0]
 |v y=>exact r.str0 ho
 |slice tk es=>exact r.str0 ho
 |ref i off=>exact r.str0 ho
 |mref i=>exact r.str0 ho
 |cptr cs=>exact r.str0 ho
 |cmap sh m=>exact r.str0 ho
 |msl i n=>exact r.str0 ho
 |tup cs=>exact r.str0 ho
 |eref i n z j o=>exact r.str0 ho
 |junk=>exact r.str0 ho
theorem O.rsv{g:D}{w:World}{h:Nat->HO}(ho:∀r,D6 g w (L h) r (h r)){av:AV}{x:Value}(r:O g w (L h) av x):O g w (L h) (rsv h av) x:=by
 cases av with
 |ref i off=>
  simp only[Eng.rsv];split
  .rename_i cs hc
   have:=r.str0 ho
   grind [Eng.str0,O.up]
  omega
 |mref i=>
  simp only[Eng.rsv];split
  .rename_i sh BZ hc
   have:=r.str0 ho
   grind [Eng.str0,O.up]
  omega
 |_=>exact r
end Go.Eng
namespace Go.Eng
variable {vx:Value}{U:Nat->Prop}{X Y:Operand}{t:Nat}{α:Type}{op:BinOp}{k:IntKind}{vy:Value}{g:D}{x:Value}{k':IntKind}{HA:Array TypeId}{vs:Array Value}{w':World}{m:Sem Value}{f:Nat×Nat}{b:Bool}{cs:List AV}{e:Nat}{E:TypeId}{G:Value}{g':D}(l:List α)(P:Program)(w:World)(o:Nat)
def D.upd(g:D)(r:Nat)(x:Value)(n:Nat)(t:Bool)(o:Option Nat)(S:Nat->Nat->Prop):D:=
 ⟨fun i=>if i=r then x else g.ρ i,fun i=>if i=r then n else g.ln i,fun i=>if i=r then t else g.tk i,fun i=>if i=r then o else g.own i,S⟩
theorem DY{i r:Nat}(h:i≠r):Nat.beq i r=false:=by
 grind [Nat.eq_of_beq_eq_true]
theorem A0(h:Nat->HO)(r:Nat)(o:HO):AJ h r o r=o:=by
 grind [Nat.beq_refl,AJ]
theorem BQ(h:Nat->HO)(r i:Nat)(o:HO)(hi:i≠r):AJ h r o i=h i:=by
 grind [AJ,DY]
theorem DP{h:Nat->HO}{r:Nat}{o:HO}(ho:o≠.free)(i:Nat)(hi:L h i):L (AJ h r o) i:=by
 grind [L,A0,BQ]
theorem X4.keep{w:World}(h:X4 g w)(hk:Fg g w g' w'):X4 g' w':=by
 obtain⟨⟨h1,m,h2⟩,h3⟩:=h;obtain⟨k1,k2,_⟩:=hk _ _ h1;refine⟨⟨k1,m,k2.trans h2⟩,fun x hx=>?_⟩;obtain⟨e1,e2,_⟩:=hk _ _ (h3 x hx).1<;>grind
theorem D6.same{w:World}{U':Nat->Prop}{r:Nat}{o:HO}(h:D6 g w U r o)(hk:Fg g w g' w')(hU:∀i,U i->U' i)(hg:KK g g' U)(h1:g'.ρ r=g.ρ r)(h2:g'.ln r=g.ln r)(h3:g'.tk r=g.tk r)(h4:g'.own r=g.own r)(hb:∀b,o.live->g.own r=some b->w'.heap[b]?=w.heap[b]?/\∀k,g'.S b k->g.S b k):D6 g' w' U' r o:=by
 cases o with
 |free=>trivial
 |dead=>trivial
 |cells cs=>
  obtain⟨t,b,E,vs,a1,a2,a3,a4,a5⟩:=h;obtain⟨c1,c2⟩:=hb b trivial a1;exact⟨h3.trans t,b,E,vs,h4.trans a1,h1.trans a2,c1.trans a3,a4.mono hk hU hg,fun k hk'=>a5 k (c2 k hk')⟩
 |ro cs=>
  obtain⟨t,b,a1,a2⟩:=h;exact⟨h3.trans t,b,h1.trans a1,a2.mono hk (fun _ h=>h) (fun _ h=>h.elim)⟩
 |tok sz n=>
  obtain⟨t,l,a,cap,a1,a2⟩:=h;refine⟨h3.trans t,h2.trans l,a,cap,h1.trans a1,?_⟩;rcases a2 with ⟨e1,e2⟩ | ⟨e1,b,E,vs,off,e2,e3,e4,e5,e6⟩
  .simp_all
  .obtain⟨c1,c2⟩:=hb b trivial e3;exact .inr ⟨e1,b,E,vs,off,e2,h4.trans e3,e4.eq c1,e5,fun o ho=>e6 o (c2 o ho)⟩
 |var sz v n=>
  obtain⟨t,l,a,cap,a1,a2⟩:=h;refine⟨h3.trans t,h2.trans l,a,cap,h1.trans a1,?_⟩;rcases a2 with ⟨e1,e2⟩ | ⟨e1,b,E,vs,off,e2,e3,e4,e5,e6⟩
  .simp_all
  .obtain⟨c1,c2⟩:=hb b trivial e3;exact .inr ⟨e1,b,E,vs,off,e2,h4.trans e3,e4.eq c1,e5,fun o ho=>e6 o (c2 o ho)⟩
 |vox v=>exact⟨h3.trans h.1,h2.trans h.2⟩
 |hol sz es i c av=>
  obtain⟨t,l,a0,b,cap,E,vs,e1,e2,e3,e4,e5,e6,e7,e8,x,e9,W6⟩:=h;obtain⟨c1,c2⟩:=hb b trivial e2;exact⟨h3.trans t,h2.trans l,a0,b,cap,E,vs,h1.trans e1,h4.trans e2,e3,c1.trans e4,e5,e6.mono hk (fun _ h=>h) (fun _ h=>h.elim),fun o ho=>e7 o (c2 o ho),e8,x,e9,W6.mono hk hU hg⟩
 |bld x=>
  obtain⟨t,b,p,v,a1,a2,a3,a4,a5,a6⟩:=h;obtain⟨c1,c2⟩:=hb b trivial a1;exact⟨h3.trans t,b,p,v,h4.trans a1,h1.trans a2,c1.trans a3,a4,a5.mono hk hU hg,fun k hk'=>a6 k (c2 k hk')⟩
 |bbf n=>
  obtain⟨t,l,a1⟩:=h;refine⟨h3.trans t,h2.trans l,?_⟩;rcases a1 with ⟨e0,e1,e2⟩ | ⟨b,cap,Ew,e1,e2,e3,e4,e5,e6,e7⟩
  .simp_all
  .obtain⟨c1,c2⟩:=hb b trivial e2<;>grind
 |raw b ob=>
  obtain⟨t,a1,a2,a3,a4⟩:=h;obtain⟨c1,c2⟩:=hb b trivial a1;exact⟨h3.trans t,h4.trans a1,c1.trans a2,a3,fun k hk'=>a4 k (c2 k hk')⟩
 |arr sz es=>
  obtain⟨t,l,a0,a1⟩:=h;refine⟨h3.trans t,h2.trans l,a0,?_⟩;rcases a1 with ⟨e1,e2,e3⟩ | ⟨b,cap,E,vs,e1,e2,e3,e4,e5,e6,e7⟩
  .simp_all
  .obtain⟨c1,c2⟩:=hb b trivial e2;exact .inr ⟨b,cap,E,vs,h1.trans e1,h4.trans e2,e3,c1.trans e4,e5,e6.mono hk (fun _ h=>h) (fun _ h=>h.elim),fun o ho=>e7 o (c2 o ho)⟩
 |map sh BZ=>
  obtain⟨t,b,es,ck,a1,a2,a3,a4,a5,a6⟩:=h;obtain⟨c1,c2⟩:=hb b trivial a1;exact⟨h3.trans t,b,es,ck,h4.trans a1,h1.trans a2,c1.trans a3,a4,fun i kv e p q=>(a5 i kv e p q).mono hk (fun _ h=>h) (fun _ h=>h.elim),fun k hk'=>a6 k (c2 k hk')⟩
 |mapU sh BZ=>
  obtain⟨t,b,es,ck,a1,a2,a3,a4,a5,a6⟩:=h;obtain⟨c1,c2⟩:=hb b trivial a1;exact⟨h3.trans t,b,es,ck,h4.trans a1,h1.trans a2,c1.trans a3,a4,fun i kv e p q=>(a5 i kv e p q).mono hk hU hg,fun k hk'=>a6 k (c2 k hk')⟩
 |rom sh BZ=>
  obtain⟨t,b,a1,a2⟩:=h;exact⟨h3.trans t,b,h1.trans a1,a2.mono hk (fun _ h=>h) (fun _ h=>h.elim)⟩
 |iter all rem Ew=>
  obtain⟨t,b,mb,KI,seen,st,es,ck,a1,a2,a3,a4,a5,a6,a7,a8,a9,ZQ,gm,a12,vt⟩:=h;obtain⟨c1,c2⟩:=hb b trivial a1;obtain⟨k1,k2,k3⟩:=hk _ _ a4
  exact⟨h3.trans t,b,mb,KI,seen,st,es,ck,h4.trans a1,h1.trans a2,c1.trans a3,k1,k3 _ _ a5,a6,a7,a8,
   fun i kv e p q=>(a9 i kv e p q).mono hk (fun _ h=>h) (fun _ h=>h.elim),ZQ,gm,a12,fun k hk'=>vt k (c2 k hk')⟩
theorem CZ.upd{w0:World}{g0:D}{h0 h:Nat->HO}{g:D}{w:World}(hI:CZ w0 g0 h0 h g w)(r:Nat)(o' : HO)(x:Value)(n:Nat)(t:Bool)(ow:Option Nat)(S' : Nat->Nat->Prop)(w' : World)
  (bch:Option Nat) (uJ:w'.os=w.os/\w'.tape=w.tape/\w'.output=w.output/\w.heap.size<=w'.heap.size)
  (SE:∀k,k<w.heap.size->some k≠bch->w'.heap[k]?=w.heap[k]?)
  (hch:∀b,bch=some b->(h r).live/\g.own r=some b)
  (hS:∀b o,g.S b o->S' b o)
  (Aev : ∀b o,S' b o->g.S b o\/(b<w'.heap.size/\(w.heap.size<=b\/((h r).live/\g.own r=some b))))
  (hkc:∀b o,bch=some b->g.S b o->w'.cell? ⟨b,o,none⟩=w.cell? ⟨b,o,none⟩/\∀es ck,w.heap[b]?=some (.map es ck)->w'.heap[b]?=some (.map es ck))
  (how:∀b,o'.live->ow=some b->b<w'.heap.size/\(((h r).live/\g.own r=some b)\/w.heap.size<=b))
  (ER:o'≠.free) (hgh:L h r->t=g.tk r/\g.ln r<=n/\(g.tk r=false->x=g.ρ r)/\(n=g.ln r->x=g.ρ r))
  (Mt:KK g (g.upd r x n t ow S') (L h)->Fg g w (g.upd r x n t ow S') w'->D6 (g.upd r x n t ow S') w' (L (AJ h r o')) r o') :
  CZ w0 g0 h0 (AJ h r o') (g.upd r x n t ow S') w'/\Le h g w (AJ h r o') (g.upd r x n t ow S') w':=by
 have hSn:∀b o,S' b o->g.S b o\/(b<w'.heap.size/\∀r',r'≠r->(h r').live->g.own r'≠some b):=fun b o hs=>by
  rcases Aev b o hs with h1 | ⟨h1,h2⟩
  .simp_all
  .refine .inr ⟨h1,fun r' hr hl e=>?_⟩;rcases h2 with h2 | ⟨h2,h3⟩
   .have:=(hI.loc r' b hl e).1;omega
   grind [CZ.inj]
 have nA:KK g (g.upd r x n t ow S') (L h):=by
  intro i hi
  grind [D.upd]
 have hK:Fg g w (g.upd r x n t ow S') w':=by
  intro b o hb;refine⟨hS b o hb,?_⟩
  grind [World.cell?,CZ.slt]
 have Oa:∀i,L h i->L (AJ h r o') i:=fun i hi=>DP ER i hi;refine⟨⟨uJ.1.trans hI.os,uJ.2.1.trans hI.tape,uJ.2.2.1.trans hI.output,Bd hI.size uJ.2.2.2,fun b hb hn=>?_,fun b o hb=>?_,fun i=>?_,fun i j b hi hj ei ej=>?_,fun i b hi ei=>?_,fun b o hs=>?_,hI.glob.keep hK⟩,nA,Oa,hK⟩
 .grind [CZ.loc,CZ.frame]
 .rcases hSn b o hb with h1 | h1<;>grind [CZ.slt]
 .by_cases e:i=r
  .grind [A0]
  .rw[BQ _ _ _ _ e];refine(hI.objs i).same hK Oa nA (by simp[D.upd,e]) (by simp[D.upd,e]) (by simp[D.upd,e]) (by simp[D.upd,e]) (fun b hl hb=>?_);have E4:=(hI.loc i b hl hb).1;refine⟨SE b E4 (fun e'=>?_),fun k hk=>?_⟩
   .grind [CZ.inj]
   .rcases hSn b k hk with h1 | h1<;>simp_all
 .have key:∀k,k≠r->(AJ h r o' k).live->(h k).live:=fun k hk hl=>by grind [BQ]
  by_cases e1:i=r<;>by_cases e2:j=r
  .omega
  .subst e1;simp only[D.upd,if_true,AL e2]at ei ej;rw[A0]at hi;have hl:=key j e2 hj;rcases(how b hi ei).2 with ⟨q1,q2⟩ | q
   .grind [CZ.inj]
   .have:=(hI.loc j b hl ej).1;omega
  .subst e2;simp only[D.upd,if_true,AL e1]at ei ej;rw[A0]at hj;have hl:=key i e1 hi;rcases(how b hj ej).2 with ⟨q1,q2⟩ | q
   .grind [CZ.inj]
   .have:=(hI.loc i b hl ei).1;omega
  grind [D.upd,CZ.inj]
 all_goals grind [D.upd,A0,BQ,Nat.lt_of_lt_of_le,CZ.loc,CZ.size,CZ.sg]
theorem CZ.heapEq{w0:World}{g0:D}{h0 h:Nat->HO}{w:World}(hI:CZ w0 g0 h0 h g w)(uJ:w'.os=w.os/\w'.tape=w.tape/\w'.output=w.output)(hh:w'.heap=w.heap) :
  CZ w0 g0 h0 h g w'/\Le h g w h g w':=by
 have hc:∀a,w'.cell? a=w.cell? a:=fun a=>by grind [World.cell?]
 have hK:Fg g w g w':=fun b o hb=>⟨hb,hc _,fun es ck he=>by simp_all⟩;refine⟨⟨uJ.1.trans hI.os,uJ.2.1.trans hI.tape,uJ.2.2.trans hI.output,by rw[hh];exact hI.size,fun b hb hn=>by grind [CZ.frame],fun b o hb=>by rw[hh];exact hI.slt b o hb,fun r=>?_,hI.inj,fun r b h1 h2=>by rw[hh];exact hI.loc r b h1 h2,hI.sg,hI.glob.keep hK⟩,.refl _ _,fun _ h=>h,hK⟩;exact(hI.objs r).same hK (fun _ h=>h) (.refl _ _) rfl rfl rfl rfl (fun b _ _=>⟨by rw[hh],fun _ h=>h⟩)
def Pv:TypeDesc->TD
 |.bool=>.bool
 |.int k=>.int k
 |.string=>.string
 |.slice e=>.slice e
 |.array n e=>.array n e
 | .struct fs => bif fs.any (fun f => f.name == "_") then .other else .struct (fs.toList.map fun f => (f.type, f.offset))
 |.pointer e=>.ptr e
 |.map k e=>.map k e
 |.func ..=>.func
 |.interface _=>.iface
 |_=>.other
def lN(t:Nat):TI:=
 match P.underlying t,P.info? t with
 |some d,some i=>match i.zero with
  |some z=>⟨Pv d,i.size,i.bytes,z,!P.stoodInHeld t&&!P.eqGuardType P.depth t⟩
  |none=>⟨.other,0,0,.nilIface,false⟩
 |_,_=>⟨.other,0,0,.nilIface,false⟩
def Kp:TD->Bool
 |.struct _=>true
 |.array _ _=>true
 |_=>false
theorem TI.zc_cells(i:TI):i.zc=i.zero.cells.toList:=by
 grind [TI.zc,Value.cells]
def gc:TI:=⟨.other,0,0,.nilIface,false⟩
def Cc(T:G4):Prop:=∀t,T t=gc\/T t=lN P t
section
variable {P:Program}{T:G4}(hT:Cc P T)
include hT
theorem Cc.get(h:(T t).d≠.other):∃d i z,P.underlying t=some d/\(T t).d=Pv d/\P.info? t=some i/\i.zero=some z/\(T t).size=i.size/\(T t).bytes=i.bytes /\
  (T t).zero=z/\((T t).eqok=true->P.stoodInHeld t=false/\P.eqGuardType P.depth t=false):=by
 rcases hT t with e | e
 .rw[e]at h;exact absurd rfl h
 unfold lN at e;split at e
 .split at e
  all_goals simp_all
 simp_all
end
theorem cM(fs:Array Field):Pv (.struct fs)=.other\/Pv (.struct fs)=.struct (fs.toList.map fun f=>(f.type,f.offset)):=by
 grind [Pv]
section
variable {P:Program}{T:G4}(hT:Cc P T)
include hT
theorem Cc.slice{t e:Nat}(h:(T t).d=.slice e):P.underlying t=some (.slice e):=by
 obtain⟨d,i,z,h1,h2,_⟩:=hT.get (t:=t) aa0;rw[h]at h2;cases d<;>grind [Pv]
theorem Cc.string{t:Nat}(h:(T t).d=.string):P.underlying t=some .string:=by
 obtain⟨d,i,z,h1,h2,_⟩:=hT.get (t:=t) aa0;rw[h]at h2;cases d<;>grind [Pv]
theorem Cc.bool{t:Nat}(h:(T t).d=.bool):P.underlying t=some .bool:=by
 obtain⟨d,i,z,h1,h2,_⟩:=hT.get (t:=t) aa0;rw[h]at h2;cases d<;>grind [Pv]
theorem Cc.int{t:Nat}{k:IntKind}(h:(T t).d=.int k):P.underlying t=some (.int k):=by
 obtain⟨d,i,z,h1,h2,_⟩:=hT.get (t:=t) aa0;rw[h]at h2;cases d<;>grind [Pv]
theorem Cc.ptr(h:(T t).d=.ptr e):P.underlying t=some (.pointer e):=by
 obtain⟨d,i,z,h1,h2,_⟩:=hT.get (t:=t) aa0;rw[h]at h2;cases d<;>grind [Pv]
theorem Cc.iface(h:(T t).d=.iface):∃ms,P.underlying t=some (.interface ms):=by
 obtain⟨d,i,z,h1,h2,_⟩:=hT.get (t:=t) aa0;rw[h]at h2;cases d<;>grind [Pv]
theorem Cc.map{t k e:Nat}(h:(T t).d=.map k e):P.underlying t=some (.map k e):=by
 obtain⟨d,i,z,h1,h2,_⟩:=hT.get (t:=t) aa0;rw[h]at h2;cases d<;>grind [Pv]
theorem Cc.array{t n e:Nat}(h:(T t).d=.array n e):P.underlying t=some (.array n e):=by
 obtain⟨d,i,z,h1,h2,_⟩:=hT.get (t:=t) aa0;rw[h]at h2;cases d<;>grind [Pv]
theorem Cc.struct {t : Nat} {fs : List (Nat × Nat)} (h : (T t).d=.struct fs) : ∃ fa : Array Field, P.underlying t=some (.struct fa) /\ fs=fa.toList.map (fun f => (f.type, f.offset)) /\ ∀ f ∈ fa.toList, f.name ≠ "_":=by
 obtain⟨d,i,z,h1,h2,_⟩:=hT.get (t:=t) aa0;rw[h]at h2;cases d<;>grind [List.mem_iff_getElem,Pv]
theorem Cc.size(w:World){t:Nat}(h:(T t).d≠.other):(sizeOf t).run P w=.ok (T t).size w:=by
 obtain⟨d,i,z,h1,h2,h3,h4,h5,_⟩:=hT.get h;simp[sizeOf,typeInfo,h3,h5]
theorem Cc.size1(w:World){n:Nat}(h:(T t).size=n+1):(sizeOf t).run P w=.ok (n+1) w:=by
 rcases hT t with e | e
 .rw[e]at h;cases h
 unfold lN at e;split at e
 .split at e
  .rename_i d i h1 h2 _ z h3;rw[e]at h;dsimp only at h;simp[sizeOf,typeInfo,h2,h]
  simp_all
 simp_all
theorem Cc.isAgg(w:World){t:Nat}(h:(T t).d≠.other):(isAgg t).run P w=.ok (Kp (T t).d) w:=by
 obtain⟨d,i,z,h1,h2,_⟩:=hT.get h;rw[h2];rw[h2]at h;cases d with
 |struct fs=>
  rcases cM fs with e | e
  .simp_all
  .rw[e];simp[Go.isAgg,run_underlying h1,Kp]
 |_=>simp[Go.isAgg,run_underlying h1,Pv,Kp]
end
def Bw(h:Nat->HO)(g:D)(w:World)(m:Sem Value)(K:AV->Prop):Prop:=∃x av,m.run P w=.ok x w/\K av/\O g w (L h) av x
theorem T4{p:Prop}{K:AV->Prop}(h:Jv p K)(hb:b=true↔p):K (.v (.bool b)):=by
 cases b with
 |true=>exact h.1 (hb.1 rfl)
 |false=>exact h.2 (fun e=>by simp_all)
theorem LV(h:yA k k'=true):k=k':=by cases k<;>cases k'<;>first | rfl | grind [yA]
theorem N3{a:Int}(h:Au a):IntKind.i64.wrap a=a:=by
 grind [Au,IntKind.wrap,IntKind.bits,IntKind.signed]
theorem KM:∀l m:List UInt8,(Op.bytesLess l m||l == m)=!Op.bytesLess m l
 | [],[]=>rfl
 | [],_::_=>rfl
 |_::_,[]=>rfl
 |a::l,b::m=>by
  have ih:=KM l m
  grind [Op.bytesLess]
theorem Kj(a b:CS):(a.toList == b.toList)=true↔a=b:=by
 rw[ByteArray.toList_eq,ByteArray.toList_eq];constructor
 .intro h;have h1:=eq_of_beq h;cases a<;>simp_all
 simp_all
section
variable {P:Program}{T:G4}{h:Nat->HO}{g:D}{w:World}{K:AV->Prop}
theorem Bw.bool{p:Prop}(hm:m.run P w=.ok (.bool b) w)(hb:b=true↔p)(hk:Jv p K):Bw P h g w m K:=
 ⟨_,_,hm,T4 hk hb,.v _ _⟩
theorem Bw.val(hm:m.run P w=.ok x w)(hk:K (.v x)):Bw P h g w m K:=⟨_,_,hm,hk,.v _ _⟩
theorem RT{t:Nat}{a b:Int}(hk:VT op k a b K) :
  Bw P h g w (do eqGuard op t X Y (.int k a) (.int k' b);binOp op t (.int k a) (.int k' b)) K:=by
 cases op
 case shl=>exact Bw.val (by simp[eqGuard,binOp,Op.shift,tH,Int.not_lt.2 hk.1]) hk.2
 case shr=>exact Bw.val (by simp[eqGuard,binOp,Op.shift,tH,Int.not_lt.2 hk.1]) hk.2
 all_goals exact hk.elim
theorem jk{t:Nat}{a b:Int}(hk:T0 op k a b K) :
  Bw P h g w (do eqGuard op t X Y (.int k a) (.int k b);binOp op t (.int k a) (.int k b)) K:=by
 have key:∀{k:IntKind},Ye op k a b K->Bw P h g w (do eqGuard op t X Y (.int k a) (.int k b);binOp op t (.int k a) (.int k b)) K:=by
  intro k hk;cases op
  case quo=>
   obtain⟨⟨h1,h2,h3⟩,hk⟩:=hk;have hb:¬b=0:=Wk
   exact Bw.val (by simp[eqGuard,binOp,Op.intDiv,hb,Int.tdiv_eq_ediv_of_nonneg h1,h3]) hk
  case rem=>
   obtain⟨⟨h1,h2⟩,hk⟩:=hk;have hb:¬b=0:=Wk
   exact Bw.val (by simp[eqGuard,binOp,Op.intDiv,hb,Int.tmod_eq_emod_of_nonneg h1]) hk
  case shl=>exact RT hk
  case shr=>exact RT hk
  all_goals first | exact hk.elim | exact Bw.val (by simp[eqGuard,binOp,Op.intArith,Op.intBits,WS]) hk
 cases k with
 |i64=>
  unfold T0 at hk
  cases op<;>dsimp only at hk<;>first
   |exact hk.elim
   |(refine Bw.val ?_ hk.2;simp[eqGuard,binOp,Op.intArith,N3 hk.1];done)
   |exact key (k:=.i64) hk
   |skip
  .obtain⟨⟨h1,h2,h3⟩,hk⟩:=hk;refine Bw.val ?_ hk;have e1:a.tdiv b=a / b:=Int.tdiv_eq_ediv_of_nonneg h1;have e3:a / b<=a:=Int.ediv_le_self b h1;have e2:IntKind.i64.wrap (a / b)=a / b:=N3 ⟨by have:=Int.ediv_nonneg h1 (by omega:0<=b);omega,by grind [Au]⟩;have hb:¬b=0:=Wk
   simp[eqGuard,binOp,Op.intDiv,hb,e1,e2]
 |_=>exact key hk
end
def Jg(k:Nat):List α:=(l.drop o).take k
theorem NH:∀{l:List KS} {vs:List Value},Kn l vs=true->vs.length=l.length
 | [],[],_=>rfl
 |k::r,v::s,h=>by
  unfold Kn at h;split at h
  .simp[NH h]
  simp_all
theorem TA:∀{a b:List KS} {vs:List Value},Kn (a++b) vs=true->Kn a (vs.take a.length)=true/\Kn b (vs.drop a.length)=true
 | [],b,vs,h=>⟨by cases vs<;>rfl,by simp_all⟩
 |k::a,b,[],h=>by grind [Kn]
 |k::a,b,v::vs,h=>by
  simp only[F3,Kn]at h;split at h
  .rename_i hk;obtain⟨h1,h2⟩:=TA h<;>grind [Kn]
  simp_all
theorem iN(k a b:Nat)(h:a+b<=k):Jg (Jg l o k) a b=Jg l (o+a) b:=by
 grind [Jg,List.drop_take,List.drop_drop]
theorem tA(k:Nat):(Jg l o k).length=min k (l.length-o):=by simp[Jg]
theorem QU(k a:Nat)(h:a<=k):(Jg l o k).take a=Jg l o a:=by
 grind [Jg]
theorem VQ(k a:Nat):(Jg l o k).drop a=Jg l (o+a) (k-a):=by
 unfold Jg;rw[List.drop_take,List.drop_drop]
theorem ly(m:List α)(o a b:Nat):(Jg l o (a+b)=Jg m o (a+b))↔(Jg l o a=Jg m o a/\Jg l (o+a) b=Jg m (o+a) b):=by
 constructor
 .intro h;constructor
  .rw[<-QU l o (a+b) a Wk,h,QU m o (a+b) a Wk]
  .have h1:=Aa (List.drop a) h
   grind [VQ]
 grind [Jg,List.drop_drop]
section
variable {P:Program}{T:G4}(hT:Cc P T)
include hT
theorem DX(w:World)(hd:(T t).d≠.other)(hs:Kp (T t).d=false)(xs:Array Value)(o:Nat)(x:Value)(h:xs[o]?=some x) :
  (part t xs o).run P w=.ok x w:=by
 unfold part;simp[Sem.run_bind,hT.isAgg w hd,hs,h]
theorem Hf(w:World)(hd:(T t).d≠.other)(hs:Kp (T t).d=true)(xs:Array Value)(o:Nat) :
  (part t xs o).run P w=.ok (.agg (xs.extract o (o+(T t).size))) w:=by
 unfold part;simp[Sem.run_bind,hT.isAgg w hd,hs,hT.size w hd]
def ue(P:Program)(w:World)(d t:Nat)(xs ys:Array Value)(o k:Nat):Prop:=
 ∃b:Bool,(do let a <-part t xs o;let b <-part t ys o;Op.equalIn d t a b).run P w=.ok b w/\(b=true↔Jg xs.toList o k=Jg ys.toList o k)
omit hT in
theorem L8{xs:Array Value}{o:Nat}{k:KS}(h:Kn [k] (Jg xs.toList o 1)=true):∃x,xs[o]?=some x/\On k x=true/\Jg xs.toList o 1=[x]:=by
 grind [tA,Jg,List.drop_eq_getElem_cons,Kn.eq_def]
omit hT in
theorem Ok{f:Nat->Option (List KS)}:∀{fs:List (Nat×Nat)} {n:Nat} {l:List KS},OO f n fs=some l ->
  match fs with | []=>l=[] | (t,o)::r=>o=n/\∃a b,f t=some a/\OO f (n+a.length) r=some b/\l=a++b
 | [],n,l,h=>by cases h;rfl
 |(t,o)::r,n,l,h=>by
  grind [OO,Nat.eq_of_beq_eq_true]
omit hT in
theorem Og(w:World)(n d:Nat)(hB:∀t l,In T n t=some l->∀xs ys o,Kn l (Jg xs.toList o l.length)=true->Kn l (Jg ys.toList o l.length)=true->ue P w d t xs ys o l.length) :
  ∀ (fa : List Field) (m : Nat) (l : List KS), (∀ f ∈ fa, f.name ≠ "_") -> OO (In T n) m (fa.map fun f => (f.type, f.offset))=some l ->
   ∀xs ys:Array Value,Kn l (Jg xs.toList m l.length)=true->Kn l (Jg ys.toList m l.length)=true ->
    ∃b:Bool,(Op.eqFields d xs ys fa).run P w=.ok b w/\(b=true↔Jg xs.toList m l.length=Jg ys.toList m l.length)
 | [],m,l,_,h,xs,ys,_,_=>by
  cases h
  exact⟨true,rfl,by simp[Jg]⟩
 |f::fa,m,l,hn,h,xs,ys,hx,hy=>by
  obtain⟨ho,a,b,ha,hb,rfl⟩:=Ok h;rw[AD]at hx hy⊢;obtain⟨x1,x2⟩:=TA hx;obtain⟨y1,y2⟩:=TA hy;rw[QU _ _ _ _ Wk]at x1 y1;rw[VQ,Nat.add_sub_cancel_left]at x2 y2;obtain⟨c,c1,c2⟩:=hB _ _ ha xs ys m x1 y1;obtain⟨e,e1,e2⟩:=Og w n d hB fa (m+a.length) b (fun f hf=>hn f (Aj _ hf)) hb xs ys x2 y2;have ER:=hn f (Ah ..);have qZ : (do let x <-part f.type xs f.offset;let y <-part f.type ys f.offset;Op.equalIn d f.type x y).run P w=.ok c w:=aa0
  have CL:(Op.eqFields d xs ys (f::fa)).run P w=.ok (if c=true then e else false) w:=by
   unfold Op.eqFields;rw[A1 ER];simp only[Sem.run_bind]at qZ⊢;generalize (part f.type xs f.offset).run P w=r1 at qZ⊢;cases r1 with
   |halt x w1=>cases qZ
   |ok u w1=>
    simp only[Result.andThen_ok]at qZ⊢;generalize (part f.type ys f.offset).run P w1=r2 at qZ⊢;cases r2 with
    |halt x w1=>cases qZ
    |ok u2 w2=>
     simp only[Result.andThen_ok]at qZ⊢;rw[qZ];simp only[Result.andThen_ok];cases c<;>simp[e1]
  grind [ly]
theorem Yy(w:World):∀(n t:Nat) (l:List KS),In T n t=some l->∀d,n<=d->∀(xs ys:Array Value) (o:Nat),Kn l (Jg xs.toList o l.length)=true->Kn l (Jg ys.toList o l.length)=true ->
  ue P w d t xs ys o l.length
 |0,t,l,h=>by grind [In]
 |n+1,t,l,h=>by
  intro d hd xs ys o hx hy;obtain⟨d,rfl⟩:∃d',d=d'+1:=⟨d-1,by omega⟩;unfold In at h;split at h
  .rename_i k hk;split at h
   .cases h
    obtain⟨x,x1,x2,x3⟩:=L8 hx;obtain⟨y,y1,y2,y3⟩:=L8 hy;have gW:(T t).d≠.other:=aa0
    have hs:Kp (T t).d=false:=by rw[hk];rfl
    cases x<;>simp[On]at x2
    cases y<;>simp[On]at y2
    rename_i k1 n1 k2 n2;obtain rfl:=LV x2;obtain rfl:=LV y2;refine⟨n1 == n2,?_,?_⟩
    .simp[Sem.run_bind,DX hT w gW hs xs o _ x1,DX hT w gW hs ys o _ y1,run_equalIn_int w d t k k n1 n2 (hT.int hk)]
    simp_all
   simp_all
  .rename_i hk;split at h
   .cases h
    obtain⟨x,x1,x2,x3⟩:=L8 hx;obtain⟨y,y1,y2,y3⟩:=L8 hy;have gW:(T t).d≠.other:=aa0
    have hs:Kp (T t).d=false:=by rw[hk];rfl
    cases x<;>simp[On]at x2
    cases y<;>simp[On]at y2
    rename_i s1 s2;refine⟨s1.toList == s2.toList,?_,?_⟩
    .simp[Sem.run_bind,DX hT w gW hs xs o _ x1,DX hT w gW hs ys o _ y1,run_equalIn_string w d t s1 s2 (hT.string hk)]
    grind [Kj]
   simp_all
  .rename_i hk;split at h
   .cases h
    obtain⟨x,x1,x2,x3⟩:=L8 hx;obtain⟨y,y1,y2,y3⟩:=L8 hy;have gW:(T t).d≠.other:=aa0
    have hs:Kp (T t).d=false:=by rw[hk];rfl
    cases x<;>simp[On]at x2
    cases y<;>simp[On]at y2
    rename_i s1 s2;refine⟨s1 == s2,?_,?_⟩
    .simp[Sem.run_bind,DX hT w gW hs xs o _ x1,DX hT w gW hs ys o _ y1,run_equalIn_bool' w d t s1 s2 (hT.bool hk)]
    simp_all
   simp_all
  .rename_i fs hk;split at h
   .rename_i GJ;split at h
    .rename_i l' J7;split at h
     .rename_i CN;cases h;have CN:=AY CN;have gW:(T t).d≠.other:=aa0
      have hs:Kp (T t).d=true:=by rw[hk];rfl
      obtain⟨fa,u1,u2,u3⟩:=hT.struct hk;obtain⟨_,_,_,_,_,_,_,_,_,_,hq⟩:=hT.get gW;obtain⟨q1,q2⟩:=hq GJ;rw[u2]at J7;have hf:P.fieldsOf t=fa:=by grind [Program.fieldsOf]
      have ex:∀zs:Array Value,(zs.extract o (o+(T t).size)).toList=Jg zs.toList o l.length:=fun zs=>by
       grind [Jg,Array.toList_extract]
      have s0:∀zs:Array Value,Jg (Jg zs.toList o l.length) 0 l.length=Jg zs.toList o l.length:=fun zs=>by
       grind [iN]
      obtain⟨b,b1,b2⟩:=Og w n d (fun t l h xs ys o hx hy=>Yy w n t l h d Wk xs ys o hx hy) fa.toList 0 l u3 J7 (xs.extract o (o+(T t).size)) (ys.extract o (o+(T t).size))
       aa0 aa0
      rw[ex,ex,s0,s0]at b2;refine⟨b,?_,b2⟩
      grind [Sem.run_bind,Hf,Result.andThen_ok,run_equalIn_struct]
     simp_all
    simp_all
   simp_all
  simp_all
end
theorem RB:∀{l:List KS} {xs:List AV},bD l xs=true->∃vs:List Value,xs=vs.map .v/\Kn l vs=true
 | [],[],_=>⟨[],rfl,rfl⟩
 |k::r,a::s,h=>by
  cases a with
  |v x=>
   simp only[bD]at h;split at h
   .rename_i h1;obtain⟨vs,rfl,h3⟩:=RB h;exact⟨x::vs,rfl,by grind [Kn]⟩
   simp_all
  |_=>grind [bD]
 | [],_::_,h=>by grind [bD]
 |_::_,[],h=>by grind [bD]
theorem aF:∀{l:List KS} {vs us:List Value},Kn l vs=true->Kn l us=true->(aE (vs.map .v) (us.map .v)↔vs=us)
 | [],[],[],_,_=>by simp[aE]
 |k::r,v::vs,u::us,h1,h2=>by
  simp only[Kn]at h1 h2;split at h1
  .rename_i e1;split at h2
   .rename_i e2;have ih:=aF h1 h2;cases k<;>cases v<;>simp[On]at e1<;>cases u<;>simp[On]at e2<;>simp only[Bo,aE,ih,N4]
    all_goals grind [LV]
   simp_all
  simp_all
 | [],_::_,_,h,_=>by grind [Kn]
 |_::_,[],_,h,_=>by grind [Kn]
 | [],[],_::_,_,h=>by grind [Kn]
 |_::_,_::_,[],_,h=>by grind [Kn]
theorem O.v_eq{w:World}{a:Value}(h:O g w U (.v a) x):x=a:=by cases h;rfl
theorem O.agg_vals{w:World}{vs:List Value}(h:O g w U (.agg (vs.map .v)) x):x=.agg vs.toArray:=by
 cases h with
 |agg _ _ us hs h1 hr=>
  congr 1
  apply Array.ext';apply C3;intro i;simp only[BG]at hs
  by_cases hi:i<vs.length
  .have Pw : i<us.size:=Wk
   have:=hr i (.v vs[i]) us[i] aa0 aa0
   grind [O.v_eq]
  simp_all
theorem JB{P:Program}(hu:P.underlying t=some (.slice e))(a:Option Addr)(n c:Nat) :
  (Op.equal t (.slice a n c) (.slice none 0 0)).run P w=.ok a.isNone w:=by
 have key:∀d,(Op.equalIn (d+1) t (.slice a n c) (.slice none 0 0)).run P w=.ok a.isNone w:=fun d=>by
  cases a<;>simp[Op.equalIn,run_underlying hu]
 exact key 9999
theorem KH{P:Program}(hu:P.underlying t=some (.pointer e))(a:Option Addr) :
  (Op.equal t (.pointer a) (.pointer none)).run P w=.ok a.isNone w:=by
 have key:∀d,(Op.equalIn (d+1) t (.pointer a) (.pointer none)).run P w=.ok a.isNone w:=fun d=>by
  cases a<;>simp[Op.equalIn,run_underlying hu]
 exact key 9999
theorem JA{P:Program}{ms:Array (String×TypeId)}(hu:P.underlying t=some (.interface ms)) :
  (Op.equal t .nilIface .nilIface).run P w=.ok true w:=by
 have key:∀d,(Op.equalIn (d+1) t .nilIface .nilIface).run P w=.ok true w:=fun d=>by
  simp[Op.equalIn,run_underlying hu]
 exact key 9999
section
variable {P:Program}{T:G4}{h:Nat->HO}{g:D}{w:World}{K:AV->Prop}
theorem mq{t:Nat}{a b:Int}(hk:T2 T op t (.v (.int k a)) (.v (.int k' b)) K) :
  Bw P h g w (do eqGuard op t X Y (.int k a) (.int k' b);binOp op t (.int k a) (.int k' b)) K:=by
 unfold T2 at hk;dsimp only at hk;split at hk
 .exact RT hk
 .rename_i e;obtain rfl:=LV e;cases op<;>dsimp only at hk
  case eql=>exact Bw.bool (b:=a == b) (by simp[eqGuard,binOp,Op.intCmp]) aa1 hk
  case neq=>exact Bw.bool (b:=a != b) (by simp[eqGuard,binOp,Op.intCmp]) aa1 hk
  case lss=>exact Bw.bool (b:=decide (a<b)) (by simp[eqGuard,binOp,Op.intCmp]) aa1 hk
  case leq=>exact Bw.bool (b:=decide (a<=b)) (by simp[eqGuard,binOp,Op.intCmp]) aa1 hk
  case gtr=>exact Bw.bool (b:=decide (b<a)) (by simp[eqGuard,binOp,Op.intCmp]) aa1 hk
  case geq=>exact Bw.bool (b:=decide (b<=a)) (by simp[eqGuard,binOp,Op.intCmp]) aa1 hk
  all_goals exact jk hk
theorem mr{t:Nat}{a b:CS}(hk:T2 T op t (.v (.string a)) (.v (.string b)) K) :
  Bw P h g w (do eqGuard op t X Y (.string a) (.string b);binOp op t (.string a) (.string b)) K:=by
 unfold T2 at hk;have tri:=KM a.toList b.toList;have AlW:=KM b.toList a.toList;cases op<;>dsimp only at hk
 case eql=>exact Bw.bool (b:=a.toList == b.toList) (by simp[eqGuard,binOp,Op.stringOp]) (Kj a b) hk
 case neq=>exact Bw.bool (b:=!(a.toList == b.toList)) (by simp[eqGuard,binOp,Op.stringOp]) (by
  grind [Kj]) hk
 case lss=>exact Bw.bool (b:=Op.bytesLess a.toList b.toList) (by simp[eqGuard,binOp,Op.stringOp]) aa1 hk
 case leq=>exact Bw.bool (b:=Op.bytesLess a.toList b.toList||a.toList == b.toList) (by simp[eqGuard,binOp,Op.stringOp]) aa0 hk
 case gtr=>exact Bw.bool (b:=!(Op.bytesLess a.toList b.toList||a.toList == b.toList)) (by simp[eqGuard,binOp,Op.stringOp]) aa0 hk
 case geq=>exact Bw.bool (b:=!Op.bytesLess a.toList b.toList) (by simp[eqGuard,binOp,Op.stringOp]) aa1 hk
 case add=>
  refine Bw.val (x:=.string (a++b)) ?_ hk.2;have h1:¬((a.size:Int)+(b.size:Int)>IntKind.i64.max):=aa0
  simp[eqGuard,binOp,Op.stringOp];omega
 all_goals exact hk.elim
theorem kV{K:AV->Prop}(hk:kU K (.v (.bool b))):K (.v (.bool (!b))):=by cases b<;>exact hk
theorem mZ(hT:Cc P T){t:Nat}{x y:AV}(hx:O g w (L h) x vx)(hy:O g w (L h) y vy){K:AV->Prop}(hk:yc T t x y K) :
  ∃b:Bool,(Op.equal t vx vy).run P w=.ok b w/\K (.v (.bool b))/\(∀op X Y,(op=.eql\/op=.neq)->(eqGuard op t X Y vx vy).run P w=.ok () w) /\
   binOp .eql t vx vy=(do pure (.bool (<-Op.equal t vx vy)))/\binOp .neq t vx vy=(do pure (.bool (!(<-Op.equal t vx vy)))):=by
 unfold yc at hk;split at hk
 .rename_i ht;split at hk
  .obtain rfl:=hx.v_eq;obtain rfl:=hy.v_eq;refine⟨_,?_,hk,fun op X Y _=>by rcases ‹op=_\/op=_› with rfl | rfl<;>simp[eqGuard],rfl,rfl⟩
   grind [Op.equal,Op.maxDepth,run_equalIn_bool',Cc.bool]
  simp_all
 .rename_i fs ht;split at hk
  .split at hk
   .rename_i l hl;split at hk
    .rename_i k1;split at hk
     .rename_i k2;obtain⟨vs,rfl,s1⟩:=RB k1;obtain⟨us,rfl,s2⟩:=RB k2;obtain rfl:=hx.agg_vals;obtain rfl:=hy.agg_vals;have ER:(T t).d≠.other:=aa0
      obtain⟨_,_,_,_,_,_,_,_,_,_,hq⟩:=hT.get ER;have hag:Kp (T t).d=true:=by rw[ht];rfl
      have hfl:=hl;unfold In at hfl;rw[ht]at hfl;dsimp only at hfl;split at hfl
      .rename_i GJ;split at hfl
       .split at hfl
        .rename_i CN;cases hfl;have CN:=AY CN;have e1:∀zs:List Value,Kn l zs=true->Jg zs.toArray.toList 0 l.length=zs:=fun zs hz=>by
          have:=NH hz
          grind [Jg]
         obtain⟨b,b1,b2⟩:=Yy hT w 8 t l hl 10000 Wk vs.toArray us.toArray 0 aa0 aa0;rw[e1 _ s1,e1 _ s2]at b2;have ex:∀zs:List Value,Kn l zs=true->zs.toArray.extract 0 (0+(T t).size)=zs.toArray:=fun zs hz=>by
          grind [NH]
         simp only[Sem.run_bind,Hf hT w ER hag,Result.andThen_ok,ex _ s1,ex _ s2]at b1;refine⟨b,b1,T4 hk (by grind [aF]),fun op X Y _=>run_eqGuard_agg w op t X Y _ _ (hq GJ).2,rfl,rfl⟩
        simp_all
       simp_all
      simp_all
     simp_all
    simp_all
   simp_all
  simp_all
 .rename_i e ht;have hu:=hT.slice ht;split at hk
  .rename_i tk es;obtain rfl:=hy.v_eq;obtain⟨a,n,c,rfl,hn⟩:∃a n c,vx=.slice a n c/\(es≠[]->a.isNone=false):=by
    grind [cases O]
   refine⟨a.isNone,?_,?_,fun op X Y _=>by rcases ‹op=_\/op=_› with rfl | rfl<;>simp[eqGuard],rfl,rfl⟩
   .grind [JB]
   .by_cases he:es=[]
    .cases a.isNone<;>simp_all
    grind
  .obtain rfl:=hx.v_eq;obtain rfl:=hy.v_eq;refine⟨true,?_,hk,fun op X Y _=>by rcases ‹op=_\/op=_› with rfl | rfl<;>simp[eqGuard],rfl,rfl⟩
   grind [JB]
  simp_all
 .rename_i e ht;have hu:=hT.ptr ht
  have key:∀a:Addr,vx=.pointer (some a)->vy=.pointer none->K (.v (.bool false))->∃b:Bool,(Op.equal t vx vy).run P w=.ok b w/\K (.v (.bool b))/\(∀op X Y,(op=.eql\/op=.neq)->(eqGuard op t X Y vx vy).run P w=.ok () w) /\
   binOp .eql t vx vy=(do pure (.bool (<-Op.equal t vx vy)))/\binOp .neq t vx vy=(do pure (.bool (!(<-Op.equal t vx vy)))):=by
   rintro a rfl rfl hk
   refine⟨false,?_,hk,fun op X Y _=>by rcases ‹op=_\/op=_› with rfl | rfl<;>simp[eqGuard],rfl,rfl⟩
   grind [KH]
  split at hk
  .obtain rfl:=hx.v_eq;obtain rfl:=hy.v_eq;refine⟨true,?_,hk,fun op X Y _=>by rcases ‹op=_\/op=_› with rfl | rfl<;>simp[eqGuard],rfl,rfl⟩
   grind [KH]
  all_goals grind [cases O]
 simp_all
theorem qW(hT:Cc P T){t:Nat}{x y:AV}(hx:O g w (L h) x vx)(hy:O g w (L h) y vy)(hk:T2 T op t x y K) :
  Bw P h g w (do eqGuard op t X Y vx vy;binOp op t vx vy) K:=by
 unfold T2 at hk;split at hk
 .obtain rfl:=hx.v_eq;obtain rfl:=hy.v_eq;exact mq (T:=T) (by grind [T2])
 .obtain rfl:=hx.v_eq;obtain rfl:=hy.v_eq;exact mr (T:=T) (by grind [T2])
 .split at hk
  .obtain⟨b,b1,b2,b3,b4,b5⟩:=mZ hT hx hy hk;refine⟨_,_,?_,b2,.v _ _⟩;simp_all
  .obtain⟨b,b1,b2,b3,b4,b5⟩:=mZ hT hx hy hk;refine⟨_,_,?_,kV b2,.v _ _⟩;simp_all
  simp_all
theorem mp(hT:Cc P T){t:Nat}{x y:AV}(hx:O g w (L h) x vx)(hy:O g w (L h) y vy)(hc:∀v,Y=.const v->vy=v)(hk:ab T op t Y x y K) :
  Bw P h g w (do eqGuard op t X Y vx vy;binOp op t vx vy) K:=by
 unfold ab at hk;split at hk
 .obtain rfl:=hc _ rfl;split at hk
  .obtain rfl:=hx.v_eq;split at hk
   .rename_i ht;obtain⟨ms,hu⟩:=hT.iface ht;split at hk
    .refine⟨_,_,?_,hk,.v _ _⟩;have e:binOp .eql t .nilIface .nilIface=(do pure (.bool (<-Op.equal t .nilIface .nilIface))):=rfl;simp[eqGuard,e,JA w hu]
    .refine⟨_,_,?_,hk,.v _ _⟩;have e:binOp .neq t .nilIface .nilIface=(do pure (.bool (!(<-Op.equal t .nilIface .nilIface)))):=rfl;simp[eqGuard,e,JA w hu]
    simp_all
   simp_all
  simp_all
 grind [qW]
end
def Ia(g:D)(w:World)(U:Nat->Prop)(b off:Nat)(cs:List AV):Prop:=
 ∀(j:Nat) (av:AV),cs[j]?=some av->∃x,w.cell? ⟨b,off+j,none⟩=some x/\x.oneCell'=true/\O g w U av x
theorem Ia.drop{g:D}{w:World}{U:Nat->Prop}{b off:Nat}{cs:List AV}(h:Ia g w U b off cs)(n:Nat):Ia g w U b (off+n) (cs.drop n):=fun j av hj=>by
 rw[Gf]at hj
 have:=h _ _ hj
 grind
theorem Ia.of_cptr{w:World}{b off:Nat}(h:O g w U (.cptr cs) (.pointer (some ⟨b,off,none⟩)))(V:Nat->Prop):Ia g w V b off cs:=by
 cases h with
 |cptr _ _ _ _ val DS EB=>exact fun j av hj=>⟨_,(DS j av hj).2.1,(DS j av hj).2.2,(EB j av hj).up V⟩
theorem Gj{w:World}{b o:Nat}(h:w.heap[b]?=some (.cells vs E f)):w.cell? ⟨b,o,none⟩=vs[o]?:=by
 simp[World.cell?,h]
theorem Ia.of_row{w:World}{b:Nat}(h:w.heap[b]?=some (.cells vs E f))(hr:Ci g w U cs vs.toList):Ia g w U b 0 cs:=fun j av hj=>by
 have E4:j<vs.toList.length:=by rw[hr.1];grind
 have hx:vs.toList[j]?=some vs.toList[j]:=AT E4;refine⟨vs.toList[j],?_,hr.2.1 _ (Ag E4),hr.2.2 j av _ hj hx⟩
 grind [Gj]
theorem Wz{n j:Nat}{f:Nat->α}{x:α}(h:((List.range n).map f)[j]?=some x):j<n/\x=f j:=by
 grind
section
variable {P:Program}{T:G4}(hT:Cc P T){h:Nat->HO}{g:D}{w:World}{K:AV->Prop}
include hT
theorem Mm{t:Nat}{b off:Nat}(hd:(T t).d≠.other)(ha:Kp (T t).d=false)(hc:w.cell? ⟨b,off,none⟩=some x):(loadVar t ⟨b,off,none⟩).run P w=.ok x w:=by
 unfold loadVar;simp[Sem.run_bind,hT.isAgg w hd,ha,hc]
theorem Tj{t:Nat}{b off:Nat}{vs:List Value}(hd:(T t).d≠.other)(ha:Kp (T t).d=true)(hl:vs.length=(T t).size)
  (hc:∀j x,vs[j]?=some x->w.cell? ⟨b,off+j,none⟩=some x):(loadVar t ⟨b,off,none⟩).run P w=.ok (.agg vs.toArray) w:=by
 unfold loadVar;have hr:=run_loadCells_list (P:=P) w ⟨b,off,none⟩ vs (fun j x hj=>by grind [Addr.add_lit]);simp[Sem.run_bind,hT.isAgg w hd,ha,hT.size w hd,<-hl,hr]
theorem M2{t:Nat}{b off:Nat}{cs:List AV}(hc:Ia g w (L h) b off cs)(hk:Ml T t cs K):Bw P h g w (loadVar t ⟨b,off,none⟩) K:=by
 have agg:Kp (T t).d=true->(T t).d≠.other->(T t).size<=cs.length->K (.agg (cs.take (T t).size))->Bw P h g w (loadVar t ⟨b,off,none⟩) K:=by
  intro ha hd JP hk;have hex:∀j:Nat,∃x:Value,∀av,cs[j]?=some av->w.cell? ⟨b,off+j,none⟩=some x/\x.oneCell'=true/\O g w (L h) av x:=fun j=>by
   cases e:cs[j]? with
   |none=>simp_all
   |some av=>obtain⟨x,hx⟩:=hc j av e<;>simp_all
  obtain⟨val,hval⟩:=Classical.axiomOfChoice hex;have oa:∀j,j<(T t).size->∃av,cs[j]?=some av:=fun j hj=>⟨_,AT Wk⟩;refine⟨_,_,Tj hT (vs:=(List.range (T t).size).map val) hd ha aa1 (fun j x hx=>?_),hk,.agg _ _ _ aa0 (fun i x hx=>?_) (fun i av x hi hx=>?_)⟩
  all_goals grind
 have single:Kp (T t).d=false->(T t).d≠.other->MV cs K->Bw P h g w (loadVar t ⟨b,off,none⟩) K:=by
  intro ha hd hk;cases cs with
  |nil=>exact hk.elim
  |cons a r=>
   obtain⟨x,x1,x2,x3⟩:=hc 0 a rfl;exact⟨x,a,Mm hT hd ha x1,hk,x3⟩
 unfold Ml at hk;split at hk
 .rename_i fs e;exact agg (by rw[e];rfl) aa0 hk.1 hk.2
 .rename_i n m e;exact agg (by rw[e];rfl) aa0 hk.1 hk.2
 .rename_i e;have hd:(T t).d≠.other:=aa0
  have ha:Kp (T t).d=false:=by rw[e];rfl
  cases cs with
  |nil=>exact hk.elim
  |cons a r=>
   obtain⟨x,x1,x2,x3⟩:=hc 0 a rfl;simp only[MV]at hk;split at hk
   .obtain rfl:=x3.v_eq;rename_i bb;refine⟨_,_,Mm hT hd ha x1,?_,.v _ _⟩;cases bb<;>simp_all
   simp_all
 .simp_all
 .rename_i e1 e2 e3 e4;refine single ?_ e4 hk;cases e:(T t).d<;>first | rfl | simp_all | simp_all
def ZP(g:D)(w:World)(U:Nat->Prop)(xs:Array Value)(off:Nat)(cs:List AV):Prop:=
 ∀(j:Nat) (av:AV),cs[j]?=some av->∃x,xs[off+j]?=some x/\x.oneCell'=true/\O g w U av x
omit hT in
theorem ZP.of_agg{cs:List AV}{xs:Array Value}{U:Nat->Prop}(hr:O g w U (.agg cs) (.agg xs))(o:Nat):ZP g w U xs o (cs.drop o):=by
 cases hr with
 |agg _ _ _ hs h1 hh=>
  intro j av hj;rw[Gf]at hj;have E4:o+j<xs.size:=aa2
  have hx:xs[o+j]?=some xs[o+j]:=aa0
  grind
theorem cp{t:Nat}{xs:Array Value}{off:Nat}{cs:List AV}(hc:ZP g w (L h) xs off cs)(hk:co T t cs K):Bw P h g w (part t xs off) K:=by
 have agg:Kp (T t).d=true->(T t).d≠.other->(T t).size<=cs.length->K (.agg (cs.take (T t).size))->Bw P h g w (part t xs off) K:=by
  intro ha hd JP hk;have oa:∀j,j<(T t).size->∃av,cs[j]?=some av:=fun j hj=>⟨_,AT Wk⟩;have F5:∀(j:Nat) (x:Value),(xs.extract off (off+(T t).size))[j]?=some x->j<(T t).size/\xs[off+j]?=some x:=fun j x hx=>by
   grind
  have FW:(xs.extract off (off+(T t).size)).size=(T t).size:=by
   by_cases h0:(T t).size=0
   .grind
   .obtain⟨av,wA⟩:=oa ((T t).size-1) Wk;obtain⟨x,x1,_⟩:=hc _ _ wA<;>grind [Array.getElem?_eq_some_iff]
  refine⟨_,_,Hf hT w hd ha xs off,hk,.agg _ _ _ aa0 (fun i x hx=>?_) (fun i av x hi hx=>?_)⟩
  .obtain⟨hj,Tg⟩:=F5 i x hx;obtain⟨av,wA⟩:=oa i hj;obtain⟨y,y1,y2,y3⟩:=hc i av wA<;>simp_all
  .obtain⟨hj,Tg⟩:=F5 i x hx;rw[S7 hj]at hi;obtain⟨y,y1,y2,y3⟩:=hc i av hi<;>simp_all
 have single:Kp (T t).d=false->(T t).d≠.other->MV cs K->Bw P h g w (part t xs off) K:=by
  intro ha hd hk;cases cs with
  |nil=>exact hk.elim
  |cons a r=>
   obtain⟨x,x1,x2,x3⟩:=hc 0 a rfl;exact⟨x,a,DX hT w hd ha xs off x x1,hk,x3⟩
 unfold co Ml at hk;split at hk
 .rename_i fs e;exact agg (by rw[e];rfl) aa0 hk.1 hk.2
 .rename_i n m e;exact agg (by rw[e];rfl) aa0 hk.1 hk.2
 .rename_i e;have hd:(T t).d≠.other:=aa0
  have ha:Kp (T t).d=false:=by rw[e];rfl
  cases cs with
  |nil=>exact hk.elim
  |cons a r=>
   obtain⟨x,x1,x2,x3⟩:=hc 0 a rfl;simp only[MV]at hk;split at hk
   .obtain rfl:=x3.v_eq;rename_i bb;refine⟨_,_,DX hT w hd ha xs off _ x1,?_,.v _ _⟩;cases bb<;>simp_all
   simp_all
 .simp_all
 .rename_i e1 e2 e3 e4;refine single ?_ e4 hk;cases e:(T t).d<;>first | rfl | simp_all | simp_all
theorem dS{s f:Nat}{x:AV}(hx:O g w (L h) x vx)(hk:Qd T s f x K):Bw P h g w (Instr.field s vx f) K:=by
 unfold Qd at hk;split at hk
 .rename_i fs cs hs;split at hk
  .rename_i t o hf;obtain⟨fa,u1,u2,u3⟩:=hT.struct hs;cases hx with
   |agg _ _ xs a1 a2 a3=>
    have uB:∃fd,fa[f]?=some fd/\fd.type=t/\fd.offset=o:=by
     have key:∀(l:List (Nat×Nat)) (n:Nat) (p:Nat×Nat),YB l n=some p->l[n]?=some p:=by
      intro l
      induction l with
      |nil=>intro n p h;cases h
      |cons y r ih=>intro n p h;cases n<;>grind [YB]
     grind
    obtain⟨fd,e1,rfl,rfl⟩:=uB;obtain⟨y,av,p1,p2,p3⟩:=cp hT (ZP.of_agg (.agg _ _ xs a1 a2 a3) fd.offset) hk;refine⟨y,av,?_,p2,p3⟩;simp only[Instr.field,Sem.run_bind,run_underlying u1,Result.andThen_ok,e1];simpa[asAgg]using p1
  simp_all
 simp_all
theorem UA{s f:Nat}{fs:List (Nat×Nat)}{t o:Nat}(hs:(T s).d=.struct fs)(hf:YB fs f=some (t,o)):∃fa fd,P.underlying s=some (.struct fa)/\fa[f]?=some fd/\fd.type=t/\fd.offset=o:=by
 obtain⟨fa,u1,u2,u3⟩:=hT.struct hs;have key:∀(l:List (Nat×Nat)) (n:Nat) (p:Nat×Nat),YB l n=some p->l[n]?=some p:=by
  intro l
  induction l with
  |nil=>intro n p h;cases h
  |cons y r ih=>intro n p h;cases n<;>grind [YB]
 grind
theorem jK{s f:Nat}{x:AV}(hx:O g w (L h) x vx)(hk:Ut T s f x K):Bw P h g w (Instr.fieldAt s vx f) K:=by
 unfold Ut at hk;split at hk
 .rename_i fs hs;split at hk
  .rename_i t o hf;obtain⟨fa,fd,u1,e1,rfl,rfl⟩:=UA hT hs hf;split at hk
   .simp_all
   .rename_i k FW;have CL:∀b off,(Instr.fieldAt s (.pointer (some ⟨b,off,none⟩)) f).run P w=.ok (.pointer (some ⟨b,off+fd.offset,none⟩)) w:=fun b off=>by
     simp[Instr.fieldAt,run_underlying u1,e1,Instr.sureAddr,fieldPlace,hT.size1 w FW,Addr.add_lit]
    split at hk
    .cases hx with
     |cptr _ _ b off val DS EB=>exact⟨_,_,CL b off,hk,(O.cptr _ _ b off val DS EB).cptr_drop _⟩
    .rename_i r off;cases hx with
     |ref _ _ _ b hu ht hp=>exact⟨_,_,CL b off,hk,.ref _ r _ b hu ht hp⟩
    .rename_i r n sz i off;cases hx with
     |eref _ _ _ _ _ _ b cap hu ht hn hp=>
      refine⟨_,_,CL b _,hk,?_⟩
      grind [O.eref]
    simp_all
  simp_all
 simp_all
end
section
variable {P:Program}{T:G4}(hT:Cc P T){h:Nat->HO}{g:D}{w:World}{K:AV->Prop}
section
include hT
theorem Wt{t:Nat}{x ix:AV}(hx:O g w (L h) x vx)(hi:O g w (L h) ix G)(hk:J8 T t x ix K):Bw P h g w (Instr.indexAt t vx G) K:=by
 unfold J8 at hk;split at hk
 .rename_i e i ht;obtain rfl:=hi.v_eq;have hu:=hT.slice ht;split at hk
  .simp_all
  .rename_i m hm;have CL:∀b off (len cap:Nat),0<=i->i<(len:Int)->(Instr.indexAt t (.slice (some ⟨b,off,none⟩) len cap) (.int .i64 i)).run P w=.ok (.pointer (some ⟨b,off+i.toNat*(T e).size,none⟩)) w:=fun b off len cap h0 h1=>by
    simp[Instr.indexAt,asIntOf,run_underlying hu,h0,h1,hT.size1 w hm,Addr.add_lit,hm]
   split at hk
   .rename_i tk es;obtain⟨cs,⟨h0,h1⟩,h2,hk⟩:=hk;have hs:=hx.slice_none;have E4:=(Bg.1 h1).1;cases hs with
    |snil=>simp_all
    |slice _ _ b off sz cap val hc hl DS EB=>
     have FW:sz=(T e).size:=aa2
     subst FW;refine⟨_,_,CL b off es.length cap h0 Wk,hk,.cptr _ cs b _ (val i.toNat) (fun j av hj=>?_) (fun j av hj=>EB _ _ _ _ h1 hj)⟩
     grind
   .rename_i r n;obtain⟨⟨h0,h1⟩,hk⟩:=hk;cases hx with
    |msl _ _ _ a cap oc ht' hn ha Tg=>
     rcases ha with rfl | ⟨b,rfl⟩
     .omega
     .refine⟨_,_,CL b 0 n cap h0 h1,hk,?_⟩;rw[H7];exact .eref _ r n _ _ 0 b cap oc ht' ⟨by omega,hn⟩ (fun e=>(Tg e).symm)
   simp_all
 .rename_i n e i ht;obtain rfl:=hi.v_eq;have hu:=hT.array ht;split at hk
  .simp_all
  .rename_i m hm;have CL:∀b off,0<=i->i<(n:Int)->(Instr.indexAt t (.pointer (some ⟨b,off,none⟩)) (.int .i64 i)).run P w=.ok (.pointer (some ⟨b,off+i.toNat*(T e).size,none⟩)) w:=fun b off h0 h1=>by
    simp[Instr.indexAt,asIntOf,run_underlying hu,h0,h1,hT.size1 w hm,Addr.add_lit,hm,Instr.sureAddr]
   split at hk
   .cases hx with
    |cptr _ _ b off val DS EB=>exact⟨_,_,CL b off hk.1.1 hk.1.2,hk.2,(O.cptr _ _ b off val DS EB).cptr_drop _⟩
   .rename_i r off;cases hx with
    |ref _ _ _ b hu ht hp=>exact⟨_,_,CL b off hk.1.1 hk.1.2,hk.2,.ref _ r _ b hu ht hp⟩
   simp_all
 simp_all
theorem kn{t:Nat}{x ix:AV}(hx:O g w (L h) x vx)(hi:O g w (L h) ix G)(hk:U0 T t x ix K):Bw P h g w (Instr.index t vx G) K:=by
 unfold U0 at hk;split at hk
 .rename_i s k i ht;obtain rfl:=hx.v_eq;obtain rfl:=hi.v_eq;obtain⟨b,⟨h0,h1⟩,hk⟩:=hk;refine Bw.val (x:=.int .u8 b.toNat) ?_ hk;have h2:s[i.toNat]?=some b:=by
   have:=(B5.1 h1)
   obtain⟨l1,l2⟩:=this;have l1' : i.toNat<s.size:=l1;rw[getElem?_pos s i.toNat l1'];exact Aa some l2
  simp[Instr.index,asIntOf,run_underlying (hT.string ht),h0,h2]
 .rename_i n e cs i ht;obtain rfl:=hi.v_eq;obtain⟨⟨h0,h1⟩,hk⟩:=hk;cases hx with
  |agg _ _ xs a1 a2 a3=>
   have hd:(T e).d≠.other:=by
    grind [co,Ml]
   obtain⟨y,av,p1,p2,p3⟩:=cp hT (ZP.of_agg (.agg _ _ xs a1 a2 a3) _) hk;refine⟨y,av,?_,p2,p3⟩;simp[Instr.index,asIntOf,run_underlying (hT.array ht),h0,h1,hT.size w hd,p1]
 simp_all
theorem ar{s t:Nat}{x:AV}(hx:O g w (L h) x vx)(hk:W4 T s t x K):Bw P h g w (convert s t vx) K:=by
 unfold W4 at hk;split at hk
 .rename_i k n h1 h2;obtain rfl:=hx.v_eq;refine Bw.val (x:=.int .i64 n) ?_ hk.2;have hw:=N3 hk.1;simp[convert,run_underlying (hT.int h1),run_underlying (hT.int h2),Conv.intToInt,hw]
 .rename_i k k' m n ER h1 h2;obtain rfl:=hx.v_eq;refine Bw.val (x:=.int k' (k'.wrap n)) ?_ hk;simp[convert,run_underlying (hT.int h1),run_underlying (hT.int h2),Conv.intToInt]
 .rename_i s' h1 h2;obtain rfl:=hx.v_eq;refine Bw.val (x:=.string s') ?_ hk;simp[convert,run_underlying (hT.string h1),run_underlying (hT.string h2)]
 .rename_i e tk es h1 h2;split at hk
  .rename_i h3;obtain⟨l,rfl,hk⟩:=hk;have hr:=hx.slice_none;refine Bw.val (x:=.string ⟨l.toArray⟩) ?_ hk;generalize yj:l.map (fun b=>[AV.v (.int .u8 b.toNat)])=es at hr;cases hr with
   |snil _ a cap=>
    have hl:l=[]:=aa0
    subst hl;cases a with
    |none=>exact Lib.run_convert_nil_bytes w s t e cap (hT.slice h1) (hT.int h3) (hT.string h2)
    |some a=>exact run_convert_bytes_back w s t e a cap [] (hT.slice h1) (hT.int h3) (hT.string h2) (fun j hj=>by grind)
   |slice _ _ b off sz cap val hc hl DS EB=>
    have CN:l.length=es.length:=aa2
    have:=run_convert_bytes_back (P:=P) w s t e ⟨b,off,none⟩ cap l (hT.slice h1) (hT.int h3) (hT.string h2) (fun j hj=>by
     have hg:es[j]?=some [AV.v (.int .u8 l[j].toNat)]:=aa2
     have YS:sz=1:=(hl j _ hg).symm;have h4:=DS j _ 0 _ hg rfl;have h5:=EB j _ 0 _ hg rfl
     grind [Addr.add_lit,O.v_eq])
    simp_all
  simp_all
 simp_all
end
theorem qi{op:UnOp}{x:AV}(hx:O g w (L h) x vx)(hk:cO op x K):Bw P h g w (Op.unary op vx) K:=by
 unfold cO at hk;split at hk
 .unfold kU at hk;split at hk
  .obtain rfl:=hx.v_eq;exact Bw.val (x:=.bool false) (by simp[Op.unary]) hk
  .obtain rfl:=hx.v_eq;exact Bw.val (x:=.bool true) (by simp[Op.unary]) hk
  simp_all
 .rename_i a;obtain rfl:=hx.v_eq;refine Bw.val (x:=.int .i64 (-a)) ?_ hk.2
  have:=N3 hk.1
  simp[Op.unary,Op.intArith,this]
 .obtain rfl:=hx.v_eq;exact Bw.val (by simp[Op.unary,Op.intBits,WS]) hk
 simp_all
theorem cc:∀{l:List AV} {j:Nat} {a:AV},sR l j=some a->l[j]?=some a
 | [],j,a,h=>by cases h
 |b::r,0,a,h=>by grind [sR]
 |b::r,j+1,a,h=>by simpa using cc (l:=r) (j:=j) h
theorem aG{i:Nat}{x:AV}(hx:O g w (L h) x vx)(hk:MM x i K):Bw P h g w (Instr.extract vx i) K:=by
 unfold MM at hk;split at hk
 .rename_i cs;cases hx with
  |tup _ _ vs hs hh=>
   split at hk
   .rename_i a ha;have hc:=cc ha;have hi:i<vs.size:=aa2
    exact⟨vs[i],_,by simp[Instr.extract,hi],hk,hh _ _ _ hc aa0⟩
   simp_all
 simp_all
theorem po{c a b:AV}{vc va I:Value}(hc:O g w (L h) c vc)(ha:O g w (L h) a va)(hb:O g w (L h) b I)(hk:cq c a b K) :
  Bw P h g w (do pure (if <-asBool vc then va else I)) K:=by
 unfold cq at hk;split at hk
 .obtain rfl:=hc.v_eq;exact⟨va,a,by simp[asBool],hk,ha⟩
 .obtain rfl:=hc.v_eq;exact⟨I,b,by simp[asBool],hk,hb⟩
 simp_all
theorem sE{t:Nat}{x y:AV}(hx:O g w (L h) x vx)(hy:O g w (L h) y vy)(hk:sI max x y K):Bw P h g w (Builtin.max_ HA t #[vx,vy]) K:=by
 unfold sI at hk;split at hk
 .rename_i k a k' b;split at hk
  .obtain rfl:=hx.v_eq;obtain rfl:=hy.v_eq;refine Bw.val (x:=.int k (max a b)) ?_ hk;simp[Builtin.max_,Builtin.max2];omega
  simp_all
 simp_all
theorem sG{t:Nat}{x y:AV}(hx:O g w (L h) x vx)(hy:O g w (L h) y vy)(hk:sI min x y K):Bw P h g w (Builtin.min_ HA t #[vx,vy]) K:=by
 unfold sI at hk;split at hk
 .rename_i k a k' b;split at hk
  .obtain rfl:=hx.v_eq;obtain rfl:=hy.v_eq;refine Bw.val (x:=.int k (min a b)) ?_ hk;simp[Builtin.min_,Builtin.min2];omega
  simp_all
 simp_all
end
end Go.Eng
