/- Lemmas 6. -/
import Derived.Test.YtjhkbdgingfbaaaGreatDoorHA05
namespace Go.Eng
open Go.RowKit (Below)
variable {w:World}{U:Nat->Prop}{x:Value}{g:Gh}{w':World}{av:AV}{g':Gh}
theorem Br.mono(hk:EV g w g' w')(h:Br g w U av x) :
  ∀{U' : Nat->Prop},(∀i,U i->U' i)->KI g g' U->Br g' w' U' av x:=by
 induction h with
 |v U x=>intro U' _ _;exact .v U' x
 |junk U x=>intro U' _ _;exact .junk U' x
 |snil U a cap=>intro U' _ _;exact .snil U' a cap
 |slice U es b off sz cap val hc hl Dg D8 ih=>
  intro U' _ _;refine .slice U' es b off sz cap val hc hl (fun i cs j av h1 h2=>?_) (fun i cs j av h1 h2=>ih i cs j av h1 h2 (fun _ h=>h) (fun _ h=>h.elim));obtain⟨a1,a2,a3⟩:=Dg i cs j av h1 h2;obtain⟨k1,k2,_⟩:=hk _ _ a1;exact⟨k1,k2.trans a2,a3⟩
 |tok U r sz es x h hl hu ht hn hx ih=>
  intro U' hU hg;obtain⟨g1,g2,g3,g4⟩:=hg r hu;refine .tok U' r sz es x (ih hU hg) hl (hU r hu) (g1.trans ht) (A9 hn g2) (fun e=>?_);have e1:g'.ln r=g.ln r:=by omega
  rw[g4 e1];exact hx ch
 |ver U r sz v es x h hl hu ht hn hx ih=>
  intro U' hU hg;obtain⟨g1,g2,g3,g4⟩:=hg r hu;refine .ver U' r sz v es x (ih hU hg) hl (hU r hu) (g1.trans ht) (A9 hn g2) (fun e=>?_);have e1:g'.ln r=g.ln r:=by omega
  rw[g4 e1];exact hx ch
 |full U sz es x h hl hx ih=>
  intro U' hU hg;exact .full U' sz es x (ih hU hg) hl hx
 |msl U r n a cap hu ht hn ha hx=>
  intro U' hU hg;obtain⟨g1,g2,g3,g4⟩:=hg r hu;refine .msl U' r n a cap (hU r hu) (g1.trans ht) (A9 hn g2) ha (fun e=>?_);have e1:g'.ln r=g.ln r:=by omega
  rw[g4 e1];exact hx ch
 |agg U cs vs hs h1 h ih=>intro U' hU hg;exact .agg U' cs vs hs h1 (fun i av x a b=>ih i av x a b hU hg)
 |tup U cs vs hs h ih=>intro U' hU hg;exact .tup U' cs vs hs (fun i av x a b=>ih i av x a b hU hg)
 |cptr U cs b off val Dg D8 ih=>
  intro U' _ _;refine .cptr U' cs b off val (fun j av h=>?_) (fun j av h=>ih j av h (fun _ h=>h) (fun _ h=>h.elim));obtain⟨a1,a2,a3⟩:=Dg j av h;obtain⟨k1,k2,_⟩:=hk _ _ a1;exact⟨k1,k2.trans a2,a3⟩
 |ref U r off b hu ht hx=>
  intro U' hU hg;obtain⟨g1,g2,g3,g4⟩:=hg r hu;exact .ref U' r off b (hU r hu) (g1.trans ht) ((g3 ht).trans hx)
 |eref U r n sz i off b cap hu ht hn hx=>
  intro U' hU hg;obtain⟨g1,g2,g3,g4⟩:=hg r hu;refine .eref U' r n sz i off b cap (hU r hu) (g1.trans ht) ⟨hn.1,by omega⟩ (fun e=>?_);have e1:g'.ln r=g.ln r:=by omega
  rw[g4 e1];exact hx ch
 |mref U r b hu ht hx=>
  intro U' hU hg;obtain⟨g1,g2,g3,g4⟩:=hg r hu;exact .mref U' r b (hU r hu) (g1.trans ht) ((g3 ht).trans hx)
 |cmap U sh B7 b es ck hS hb hm h ih=>
  intro U' _ _;obtain⟨k1,k2,k3⟩:=hk _ _ hS;exact .cmap U' sh B7 b es ck k1 (k3 es ck hb) hm (fun i kv e a b=>ih i kv e a b (fun _ h=>h) (fun _ h=>h.elim))
 |clo U f cs vs hs h ih=>intro U' hU hg;exact .clo U' f cs vs hs (fun i av x a b=>ih i av x a b hU hg)
theorem EV.refl(g:Gh)(w:World):EV g w g w:=fun _ _ h=>⟨h,rfl,fun _ _ h=>h⟩
theorem EV.trans{g g1 g2:Gh}{w w1 w2:World}(h:EV g w g1 w1)(k:EV g1 w1 g2 w2):EV g w g2 w2:=fun b o hS=>
 let ⟨a1,a2,a3⟩:=h b o hS
 let ⟨b1,b2,b3⟩:=k b o a1
 ⟨b1,b2.trans a2,fun es ck he=>b3 es ck (a3 es ck he)⟩
theorem KI.refl(g:Gh)(U:Nat->Prop):KI g g U:=fun _ _=>⟨rfl,Ai _,fun _=>rfl,fun _=>rfl⟩
theorem KI.trans{g g1 g2:Gh}{U U1:Nat->Prop}(h:KI g g1 U)(hU:∀i,U i->U1 i)(k:KI g1 g2 U1):KI g g2 U:=fun i hi=>by
 obtain⟨a1,a2,a3,a4⟩:=h i hi;obtain⟨b1,b2,b3,b4⟩:=k i (hU i hi);exact⟨b1.trans a1,A9 a2 b2,fun e=>(b3 (a1.trans e)).trans (a3 e),fun e=>(b4 ch).trans (a4 ch)⟩
theorem Le.refl(h:Nat->HO)(g:Gh)(w:World):Le h g w h g w:=⟨.refl _ _,fun _ h=>h,.refl _ _⟩
theorem Le.trans{h h1 h2:Nat->HO}{g g1 g2:Gh}{w w1 w2:World}(a:Le h g w h1 g1 w1)(b:Le h1 g1 w1 h2 g2 w2):Le h g w h2 g2 w2:=
 ⟨a.gh.trans a.us b.gh,fun i hi=>b.us i (a.us i hi),a.keeps.trans b.keeps⟩
theorem Br.le{h h' : Nat->HO}(k:Le h g w h' g' w')(r:Br g w (AN h) av x):Br g' w' (AN h') av x:=
 r.mono k.keeps k.us k.gh
theorem Br.up(r:Br g w Fq av x)(U:Nat->Prop):Br g w U av x:=
 r.mono (.refl g w) (fun _ h=>h.elim) (.refl g _)
theorem CJ.mono{g g' : Gh}{w w' : World}{U U' : Nat->Prop}{cs:List AV}{vs:List Value}(r:CJ g w U cs vs)(hk:EV g w g' w')(hU:∀i,U i->U' i)(hg:KI g g' U):CJ g' w' U' cs vs:=
 ⟨r.1,r.2.1,fun i av x h1 h2=>(r.2.2 i av x h1 h2).mono hk hU hg⟩
theorem Br.cptr_drop{cs:List AV}{b off:Nat}(n:Nat)(h:Br g w U (.cptr cs) (.pointer (some ⟨b,off,none⟩))) :
  Br g w U (.cptr (cs.drop n)) (.pointer (some ⟨b,off+n,none⟩)):=by
 cases h with
 |cptr _ _ _ _ val Dg D8=>
  refine .cptr U _ b (off+n) (fun j=>val (n+j)) (fun j av h=>?_) (fun j av h=>?_)
  .rw[CA]at h
   have:=Dg _ _ h
   rwa [<-GX]at this
  .rw[CA]at h;exact D8 _ _ h
theorem Br.slice_none{tk:Tk}{es:List (List AV)}(h:Br g w U (.slice tk es) x):Br g w Fq (.slice .none es) x:=by
 cases h with
 |snil U a cap=>exact .snil Fq a cap
 |slice U es b off sz cap val hc hl Dg D8=>exact .slice Fq es b off sz cap val hc hl Dg D8
 |tok U r sz es x h=>cases h with
  |snil U a cap=>exact .snil Fq a cap
  |slice U es b off sz cap val hc hl Dg D8=>exact .slice Fq es b off sz cap val hc hl Dg D8
 |ver U r sz v es x h=>cases h with
  |snil U a cap=>exact .snil Fq a cap
  |slice U es b off sz cap val hc hl Dg D8=>exact .slice Fq es b off sz cap val hc hl Dg D8
 |full U sz es x h=>cases h with
  |snil U a cap=>exact .snil Fq a cap
  |slice U es b off sz cap val hc hl Dg D8=>exact .slice Fq es b off sz cap val hc hl Dg D8
theorem Br.str0{g:Gh}{w:World}{h:Nat->HO}(ho:∀r,DR g w (AN h) r (h r)){av:AV}{x:Value}(r:Br g w (AN h) av x):Br g w Fq (str0 h av) x:=by
 cases av with
 |v y=>cases r;exact .v _ _
 |slice tk es=>exact r.slice_none
 |ref i off=>
  simp only[Eng.str0];split
  .rename_i cs hc;have h1:=ho i;rw[hc]at h1;obtain⟨ht,b,hb,hr⟩:=h1;cases r with
   |ref _ _ _ b' hu ht' hx=>
    rw[hb]at hx;cases hx;simpa using hr.cptr_drop off
  .exact .junk _ _
 |mref i=>
  simp only[Eng.str0];split
  .rename_i sh B7 hc;have h1:=ho i;rw[hc]at h1;obtain⟨ht,b,hb,hr⟩:=h1;cases r with
   |mref _ _ b' hu ht' hx=>
    rw[hb]at hx;cases hx;exact hr
  .exact .junk _ _
 |cptr cs=>cases r with |cptr _ _ b off val Dg D8=>exact .cptr _ _ b off val Dg D8
 |cmap sh m=>cases r with |cmap _ _ _ b es ck hS hb hm hh=>exact .cmap _ _ _ b es ck hS hb hm hh
 |_=>exact .junk _ _
theorem Br.str{g:Gh}{w:World}{h:Nat->HO}(ho:∀r,DR g w (AN h) r (h r)){av:AV}{x:Value}(r:Br g w (AN h) av x):Br g w Fq (str h av) x:=by
 cases av with
 |agg cs=>cases r with
  |agg _ _ vs hs h1 hr=>
   refine .agg _ _ vs (by simpa using hs) h1 (fun i av x a b=>?_);rw[Aw,AD]at a;obtain⟨ww,a',rfl⟩:=a;exact(hr i ww x a' b).str0 ho
 |clo f cs=>cases r with
  |clo _ _ _ vs hs hr=>
   refine .clo _ f _ vs (by simpa using hs) (fun i av x a b=>?_);rw[Aw,AD]at a;obtain⟨ww,a',rfl⟩:=a;exact(hr i ww x a' b).str0 ho
 |v y=>exact r.str0 ho
 |slice tk es=>exact r.str0 ho
 |ref i off=>exact r.str0 ho
 |mref i=>exact r.str0 ho
 |cptr cs=>exact r.str0 ho
 |cmap sh m=>exact r.str0 ho
 |msl i n=>exact r.str0 ho
 |tup cs=>exact r.str0 ho
 |eref i n z j o=>exact r.str0 ho
 |junk=>exact r.str0 ho
theorem Br.rsv{g:Gh}{w:World}{h:Nat->HO}(ho:∀r,DR g w (AN h) r (h r)){av:AV}{x:Value}(r:Br g w (AN h) av x):Br g w (AN h) (rsv h av) x:=by
 cases av with
 |ref i off=>
  simp only[Eng.rsv];split
  .rename_i cs hc
   have:=r.str0 ho
   simp only[Eng.str0,hc]at this;exact this.up _
  .exact r
 |mref i=>
  simp only[Eng.rsv];split
  .rename_i sh B7 hc
   have:=r.str0 ho
   simp only[Eng.str0,hc]at this;exact this.up _
  .exact r
 |_=>exact r
end Go.Eng
namespace Go.Eng
variable {U:Nat->Prop}{X Y:Operand}{t:Nat}{α:Type}{op:BinOp}{k:IntKind}{vx:Value}{g:Gh}{x:Value}{k':IntKind}{vs:Array Value}{w':World}{m:Sem Value}{vy:Value}{f:Nat×Nat}{b:Bool}{cs:List AV}{e:Nat}{E:TypeId}{g':Gh}(l:List α)(P:Program)(w:World)(o:Nat)
def Gh.upd(g:Gh)(r:Nat)(x:Value)(n:Nat)(t:Bool)(o:Option Nat)(S:Nat->Nat->Prop):Gh:=
 ⟨fun i=>if i=r then x else g.ρ i,fun i=>if i=r then n else g.ln i,fun i=>if i=r then t else g.tk i,fun i=>if i=r then o else g.own i,S⟩
theorem B9{i r:Nat}(h:i≠r):Nat.beq i r=false:=by
 cases e:Nat.beq i r with
 |false=>rfl
 |true=>exact absurd (AM e) h
theorem A3(h:Nat->HO)(r:Nat)(o:HO):AR h r o r=o:=by
 have:Nat.beq r r=true:=CU r
 simp only[AR,this,Kr]
theorem BR(h:Nat->HO)(r i:Nat)(o:HO)(hi:i≠r):AR h r o i=h i:=by
 simp only[AR,B9 hi,Eh]
theorem DV{h:Nat->HO}{r:Nat}{o:HO}(ho:o≠.free)(i:Nat)(hi:AN h i):AN (AR h r o) i:=by
 by_cases e:i=r
 .subst e;unfold AN;rw[A3];exact ho
 .unfold AN;rw[BR _ _ _ _ e];exact hi
theorem Xx.keep{w:World}(h:Xx g w)(hk:EV g w g' w'):Xx g' w':=by
 obtain⟨⟨h1,m,h2⟩,h3⟩:=h;obtain⟨k1,k2,_⟩:=hk _ _ h1;refine⟨⟨k1,m,k2.trans h2⟩,fun x hx=>?_⟩;obtain⟨e1,e2,_⟩:=hk _ _ (h3 x hx).1;exact⟨e1,e2.trans (h3 x hx).2⟩
theorem DR.same{w:World}{U':Nat->Prop}{r:Nat}{o:HO}(h:DR g w U r o)(hk:EV g w g' w')(hU:∀i,U i->U' i)(hg:KI g g' U)(h1:g'.ρ r=g.ρ r)(h2:g'.ln r=g.ln r)(h3:g'.tk r=g.tk r)(h4:g'.own r=g.own r)(hb:∀b,o.live->g.own r=some b->w'.heap[b]?=w.heap[b]?/\∀k,g'.S b k->g.S b k):DR g' w' U' r o:=by
 cases o with
 |free=>trivial
 |dead=>trivial
 |cells cs=>
  obtain⟨t,b,E,vs,a1,a2,a3,a4,a5⟩:=h;obtain⟨c1,c2⟩:=hb b trivial a1;exact⟨h3.trans t,b,E,vs,h4.trans a1,h1.trans a2,c1.trans a3,a4.mono hk hU hg,fun k hk'=>a5 k (c2 k hk')⟩
 |ro cs=>
  obtain⟨t,b,a1,a2⟩:=h;exact⟨h3.trans t,b,h1.trans a1,a2.mono hk (fun _ h=>h) (fun _ h=>h.elim)⟩
 |tok sz n=>
  obtain⟨t,l,a,cap,a1,a2⟩:=h;refine⟨h3.trans t,h2.trans l,a,cap,h1.trans a1,?_⟩;rcases a2 with ⟨e1,e2⟩ | ⟨e1,b,E,vs,off,e2,e3,e4,e5,e6⟩
  .exact .inl ⟨e1,h4.trans e2⟩
  .obtain⟨c1,c2⟩:=hb b trivial e3;exact .inr ⟨e1,b,E,vs,off,e2,h4.trans e3,e4.eq c1,e5,fun o ho=>e6 o (c2 o ho)⟩
 |var sz v n=>
  obtain⟨t,l,a,cap,a1,a2⟩:=h;refine⟨h3.trans t,h2.trans l,a,cap,h1.trans a1,?_⟩;rcases a2 with ⟨e1,e2⟩ | ⟨e1,b,E,vs,off,e2,e3,e4,e5,e6⟩
  .exact .inl ⟨e1,h4.trans e2⟩
  .obtain⟨c1,c2⟩:=hb b trivial e3;exact .inr ⟨e1,b,E,vs,off,e2,h4.trans e3,e4.eq c1,e5,fun o ho=>e6 o (c2 o ho)⟩
 |vox v=>exact⟨h3.trans h.1,h2.trans h.2⟩
 |hol sz es i c av=>
  obtain⟨t,l,a0,b,cap,E,vs,e1,e2,e3,e4,e5,e6,e7,e8,x,e9,w8⟩:=h;obtain⟨c1,c2⟩:=hb b trivial e2;exact⟨h3.trans t,h2.trans l,a0,b,cap,E,vs,h1.trans e1,h4.trans e2,e3,c1.trans e4,e5,e6.mono hk (fun _ h=>h) (fun _ h=>h.elim),fun o ho=>e7 o (c2 o ho),e8,x,e9,w8.mono hk hU hg⟩
 |bld x=>
  obtain⟨t,b,p,v,a1,a2,a3,a4,a5,a6⟩:=h;obtain⟨c1,c2⟩:=hb b trivial a1;exact⟨h3.trans t,b,p,v,h4.trans a1,h1.trans a2,c1.trans a3,a4,a5.mono hk hU hg,fun k hk'=>a6 k (c2 k hk')⟩
 |bbf n=>
  obtain⟨t,l,a1⟩:=h;refine⟨h3.trans t,h2.trans l,?_⟩;rcases a1 with ⟨e0,e1,e2⟩ | ⟨b,cap,Db,e1,e2,e3,e4,e5,e6,e7⟩
  .exact .inl ⟨e0,h1.trans e1,h4.trans e2⟩
  .obtain⟨c1,c2⟩:=hb b trivial e2;exact .inr ⟨b,cap,Db,h1.trans e1,h4.trans e2,e3,e4,c1.trans e5,e6,fun o ho=>e7 o (c2 o ho)⟩
 |raw b ob=>
  obtain⟨t,a1,a2,a3,a4⟩:=h;obtain⟨c1,c2⟩:=hb b trivial a1;exact⟨h3.trans t,h4.trans a1,c1.trans a2,a3,fun k hk'=>a4 k (c2 k hk')⟩
 |arr sz es=>
  obtain⟨t,l,a0,a1⟩:=h;refine⟨h3.trans t,h2.trans l,a0,?_⟩;rcases a1 with ⟨e1,e2,e3⟩ | ⟨b,cap,E,vs,e1,e2,e3,e4,e5,e6,e7⟩
  .exact .inl ⟨e1,h1.trans e2,h4.trans e3⟩
  .obtain⟨c1,c2⟩:=hb b trivial e2;exact .inr ⟨b,cap,E,vs,h1.trans e1,h4.trans e2,e3,c1.trans e4,e5,e6.mono hk (fun _ h=>h) (fun _ h=>h.elim),fun o ho=>e7 o (c2 o ho)⟩
 |map sh B7=>
  obtain⟨t,b,es,ck,a1,a2,a3,a4,a5,a6⟩:=h;obtain⟨c1,c2⟩:=hb b trivial a1;exact⟨h3.trans t,b,es,ck,h4.trans a1,h1.trans a2,c1.trans a3,a4,fun i kv e p q=>(a5 i kv e p q).mono hk (fun _ h=>h) (fun _ h=>h.elim),fun k hk'=>a6 k (c2 k hk')⟩
 |mapU sh B7=>
  obtain⟨t,b,es,ck,a1,a2,a3,a4,a5,a6⟩:=h;obtain⟨c1,c2⟩:=hb b trivial a1;exact⟨h3.trans t,b,es,ck,h4.trans a1,h1.trans a2,c1.trans a3,a4,fun i kv e p q=>(a5 i kv e p q).mono hk hU hg,fun k hk'=>a6 k (c2 k hk')⟩
 |rom sh B7=>
  obtain⟨t,b,a1,a2⟩:=h;exact⟨h3.trans t,b,h1.trans a1,a2.mono hk (fun _ h=>h) (fun _ h=>h.elim)⟩
 |iter all rem Db=>
  obtain⟨t,b,mb,KG,seen,st,es,ck,a1,a2,a3,a4,a5,a6,a7,a8,a9,Y9,dR,a12,sA⟩:=h;obtain⟨c1,c2⟩:=hb b trivial a1;obtain⟨k1,k2,k3⟩:=hk _ _ a4
  exact⟨h3.trans t,b,mb,KG,seen,st,es,ck,h4.trans a1,h1.trans a2,c1.trans a3,k1,k3 _ _ a5,a6,a7,a8,
   fun i kv e p q=>(a9 i kv e p q).mono hk (fun _ h=>h) (fun _ h=>h.elim),Y9,dR,a12,fun k hk'=>sA k (c2 k hk')⟩
theorem Dr.upd{w0:World}{g0:Gh}{h0 h:Nat->HO}{g:Gh}{w:World}(hI:Dr w0 g0 h0 h g w)(r:Nat)(o' : HO)(x:Value)(n:Nat)(t:Bool)(ow:Option Nat)(S' : Nat->Nat->Prop)(w' : World)
  (oJ:Option Nat) (oW:w'.os=w.os/\w'.tape=w.tape/\w'.output=w.output/\w.heap.size<=w'.heap.size)
  (Mu:∀k,k<w.heap.size->some k≠oJ->w'.heap[k]?=w.heap[k]?)
  (hch:∀b,oJ=some b->(h r).live/\g.own r=some b)
  (hS:∀b o,g.S b o->S' b o)
  (xp : ∀b o,S' b o->g.S b o\/(b<w'.heap.size/\(w.heap.size<=b\/((h r).live/\g.own r=some b))))
  (hkc:∀b o,oJ=some b->g.S b o->w'.cell? ⟨b,o,none⟩=w.cell? ⟨b,o,none⟩/\∀es ck,w.heap[b]?=some (.map es ck)->w'.heap[b]?=some (.map es ck))
  (yb:∀b,o'.live->ow=some b->b<w'.heap.size/\(((h r).live/\g.own r=some b)\/w.heap.size<=b))
  (Dv:o'≠.free) (hgh:AN h r->t=g.tk r/\g.ln r<=n/\(g.tk r=false->x=g.ρ r)/\(n=g.ln r->x=g.ρ r))
  (JX:KI g (g.upd r x n t ow S') (AN h)->EV g w (g.upd r x n t ow S') w'->DR (g.upd r x n t ow S') w' (AN (AR h r o')) r o') :
  Dr w0 g0 h0 (AR h r o') (g.upd r x n t ow S') w'/\Le h g w (AR h r o') (g.upd r x n t ow S') w':=by
 have zD:∀b o,S' b o->g.S b o\/(b<w'.heap.size/\∀r',r'≠r->(h r').live->g.own r'≠some b):=fun b o hs=>by
  rcases xp b o hs with h1 | ⟨h1,h2⟩
  .exact .inl h1
  .refine .inr ⟨h1,fun r' hr hl e=>?_⟩;rcases h2 with h2 | ⟨h2,h3⟩
   .have:=(hI.loc r' b hl e).1;omega
   .exact hr (hI.inj r' r b hl h2 e h3)
 have kd:KI g (g.upd r x n t ow S') (AN h):=by
  intro i hi
  by_cases e:i=r
  .subst e;obtain⟨h1,h2,h3,h4⟩:=hgh hi;simp only[Gh.upd,OD];exact⟨h1,h2,h3,h4⟩
  .refine⟨by simp[Gh.upd,e],by simp[Gh.upd,e],fun _=>by simp[Gh.upd,e],fun _=>by simp[Gh.upd,e]⟩
 have hK:EV g w (g.upd r x n t ow S') w':=by
  intro b o hb;refine⟨hS b o hb,?_⟩
  by_cases e:oJ=some b
  .exact hkc b o e hb
  .have Dx:=hI.slt b o hb;have ko:=Mu b Dx (fun e'=>e e'.symm);exact⟨by simp only[World.cell?,ko],fun es ck he=>ko.trans he⟩
 have L9:∀i,AN h i->AN (AR h r o') i:=fun i hi=>DV Dv i hi;refine⟨⟨oW.1.trans hI.os,oW.2.1.trans hI.tape,oW.2.2.1.trans hI.output,A9 hI.size oW.2.2.2,fun b hb hn=>?_,fun b o hb=>?_,fun i=>?_,fun i j b hi hj ei ej=>?_,fun i b hi ei=>?_,fun b o hs=>?_,hI.glob.keep hK⟩,kd,L9,hK⟩
 .have Dx:b<w.heap.size:=Bx hb hI.size;have x8:some b≠oJ:=fun e=>by
   obtain⟨l1,l2⟩:=hch b e.symm;rcases(hI.loc r b l1 l2).2 with h1 | ⟨r',h1,h2⟩
   .omega
   .exact hn r' h1 h2
  exact(Mu b Dx x8).trans (hI.frame b hb hn)
 .rcases zD b o hb with h1 | h1
  .exact Bx (hI.slt b o h1) oW.2.2.2
  .exact h1.1
 .by_cases e:i=r
  .subst e;rw[A3];exact JX kd hK
  .rw[BR _ _ _ _ e];refine(hI.objs i).same hK L9 kd (by simp[Gh.upd,e]) (by simp[Gh.upd,e]) (by simp[Gh.upd,e]) (by simp[Gh.upd,e]) (fun b hl hb=>?_);have Dx:=(hI.loc i b hl hb).1;refine⟨Mu b Dx (fun e'=>?_),fun k hk=>?_⟩
   .obtain⟨l1,l2⟩:=hch b e'.symm;exact e (hI.inj i r b hl l1 hb l2)
   .rcases zD b k hk with h1 | h1
    .exact h1
    .exact absurd hb (h1.2 i e hl)
 .have key:∀k,k≠r->(AR h r o' k).live->(h k).live:=fun k hk hl=>by rwa [BR _ _ _ _ hk]at hl
  by_cases e1:i=r<;>by_cases e2:j=r
  .exact e1.trans e2.symm
  .subst e1;simp only[Gh.upd,OD,Ah e2]at ei ej;rw[A3]at hi;have hl:=key j e2 hj;rcases(yb b hi ei).2 with ⟨q1,q2⟩ | q
   .exact hI.inj i j b q1 hl q2 ej
   .have:=(hI.loc j b hl ej).1;omega
  .subst e2;simp only[Gh.upd,OD,Ah e1]at ei ej;rw[A3]at hj;have hl:=key i e1 hi;rcases(yb b hj ej).2 with ⟨q1,q2⟩ | q
   .exact hI.inj i j b hl q1 ei q2
   .have:=(hI.loc i b hl ei).1;omega
  .simp only[Gh.upd,Ah e1,Ah e2]at ei ej;exact hI.inj i j b (key i e1 hi) (key j e2 hj) ei ej
 .by_cases e:i=r
  .subst e;simp only[Gh.upd,OD]at ei;rw[A3]at hi;obtain⟨q0,q⟩:=yb b hi ei;refine⟨q0,?_⟩;rcases q with ⟨q1,q2⟩ | q
   .exact(hI.loc i b q1 q2).2
   .exact .inl (A9 hI.size q)
  .simp only[Gh.upd,Ah e]at ei;rw[BR _ _ _ _ e]at hi;obtain⟨l1,l2⟩:=hI.loc i b hi ei;exact⟨Bx l1 oW.2.2.2,l2⟩
 .rcases xp b o hs with h1 | ⟨_,h2⟩
  .exact hI.sg b o h1
  .rcases h2 with h2 | ⟨h2,h3⟩
   .exact .inr (.inl (A9 hI.size h2))
   .exact .inr (hI.loc r b h2 h3).2
theorem Dr.heapEq{w0:World}{g0:Gh}{h0 h:Nat->HO}{w:World}(hI:Dr w0 g0 h0 h g w)(oW:w'.os=w.os/\w'.tape=w.tape/\w'.output=w.output)(hh:w'.heap=w.heap) :
  Dr w0 g0 h0 h g w'/\Le h g w h g w':=by
 have hc:∀a,w'.cell? a=w.cell? a:=fun a=>by simp only[World.cell?,hh]
 have hK:EV g w g w':=fun b o hb=>⟨hb,hc _,fun es ck he=>by rw[hh];exact he⟩;refine⟨⟨oW.1.trans hI.os,oW.2.1.trans hI.tape,oW.2.2.trans hI.output,by rw[hh];exact hI.size,fun b hb hn=>by rw[hh];exact hI.frame b hb hn,fun b o hb=>by rw[hh];exact hI.slt b o hb,fun r=>?_,hI.inj,fun r b h1 h2=>by rw[hh];exact hI.loc r b h1 h2,hI.sg,hI.glob.keep hK⟩,.refl _ _,fun _ h=>h,hK⟩;exact(hI.objs r).same hK (fun _ h=>h) (.refl _ _) rfl rfl rfl rfl (fun b _ _=>⟨by rw[hh],fun _ h=>h⟩)
def OU:TypeDesc->TD
 |.bool=>.bool
 |.int k=>.int k
 |.string=>.string
 |.slice e=>.slice e
 |.array n e=>.array n e
 | .struct fs => bif fs.any (fun f => f.name == "_") then .other else .struct (fs.toList.map fun f => (f.type, f.offset))
 |.pointer e=>.ptr e
 |.map k e=>.map k e
 |.func ..=>.func
 |.interface _=>.iface
 |_=>.other
def jW(t:Nat):TI:=
 match P.underlying t,P.info? t with
 |some d,some i=>match i.zero with
  |some z=>⟨OU d,i.size,i.bytes,z,!P.stoodInHeld t&&!P.eqGuardType P.depth t⟩
  |none=>⟨.other,0,0,.nilIface,false⟩
 |_,_=>⟨.other,0,0,.nilIface,false⟩
def Kh:TD->Bool
 |.struct _=>true
 |.array _ _=>true
 |_=>false
theorem TI.zc_cells(i:TI):i.zc=i.zero.cells.toList:=by
 unfold TI.zc Value.cells;cases i.zero<;>rfl
def dK:TI:=⟨.other,0,0,.nilIface,false⟩
def Ci(T:GV):Prop:=∀t,T t=dK\/T t=jW P t
section
variable {P:Program}{T:GV}(hT:Ci P T)
include hT
theorem Ci.get(h:(T t).d≠.other):∃d i z,P.underlying t=some d/\(T t).d=OU d/\P.info? t=some i/\i.zero=some z/\(T t).size=i.size/\(T t).bytes=i.bytes /\
  (T t).zero=z/\((T t).eqok=true->P.stoodInHeld t=false/\P.eqGuardType P.depth t=false):=by
 rcases hT t with e | e
 .rw[e]at h;exact absurd rfl h
 unfold jW at e;split at e
 .split at e
  .rename_i d i h1 h2 _ z h3;exact⟨d,i,z,h1,by rw[e],h2,h3,by rw[e],by rw[e],by rw[e],fun he=>by rw[e]at he;simpa using he⟩
  .rw[e]at h;exact absurd rfl h
 .rw[e]at h;exact absurd rfl h
end
theorem Fb(fs:Array Field):OU (.struct fs)=.other\/OU (.struct fs)=.struct (fs.toList.map fun f=>(f.type,f.offset)):=by
 have e : OU (.struct fs) = bif fs.any (fun f => f.name == "_") then .other else .struct (fs.toList.map fun f => (f.type, f.offset)) := rfl
 rw [e];cases fs.any (fun f => f.name == "_")
 .exact .inr rfl
 .exact .inl rfl
section
variable {P:Program}{T:GV}(hT:Ci P T)
include hT
theorem Ci.slice{t e:Nat}(h:(T t).d=.slice e):P.underlying t=some (.slice e):=by
 obtain⟨d,i,z,h1,h2,_⟩:=hT.get (t:=t) (by rw[h];simp);rw[h]at h2;cases d with
 |struct fs=>rcases Fb fs with e |e<;>rw[e]at h2<;>cases h2
 |_=>simp[OU]at h2<;>(subst h2;exact h1)
theorem Ci.string{t:Nat}(h:(T t).d=.string):P.underlying t=some .string:=by
 obtain⟨d,i,z,h1,h2,_⟩:=hT.get (t:=t) (by rw[h];simp);rw[h]at h2;cases d with
 |struct fs=>rcases Fb fs with e |e<;>rw[e]at h2<;>cases h2
 |_=>first |exact h1 |(simp[OU]at h2;done)
theorem Ci.bool{t:Nat}(h:(T t).d=.bool):P.underlying t=some .bool:=by
 obtain⟨d,i,z,h1,h2,_⟩:=hT.get (t:=t) (by rw[h];simp);rw[h]at h2;cases d with
 |struct fs=>rcases Fb fs with e |e<;>rw[e]at h2<;>cases h2
 |_=>first |exact h1 |(simp[OU]at h2;done)
theorem Ci.int{t:Nat}{k:IntKind}(h:(T t).d=.int k):P.underlying t=some (.int k):=by
 obtain⟨d,i,z,h1,h2,_⟩:=hT.get (t:=t) (by rw[h];simp);rw[h]at h2;cases d with
 |struct fs=>rcases Fb fs with e |e<;>rw[e]at h2<;>cases h2
 |_=>simp[OU]at h2<;>(subst h2;exact h1)
theorem Ci.ptr(h:(T t).d=.ptr e):P.underlying t=some (.pointer e):=by
 obtain⟨d,i,z,h1,h2,_⟩:=hT.get (t:=t) (by rw[h];simp);rw[h]at h2;cases d with
 |struct fs=>rcases Fb fs with e |e<;>rw[e]at h2<;>cases h2
 |_=>simp[OU]at h2<;>(subst h2;exact h1)
theorem Ci.iface(h:(T t).d=.iface):∃ms,P.underlying t=some (.interface ms):=by
 obtain⟨d,i,z,h1,h2,_⟩:=hT.get (t:=t) (by rw[h];simp);rw[h]at h2;cases d with
 |struct fs=>rcases Fb fs with e |e<;>rw[e]at h2<;>cases h2
 |interface ms=>exact⟨ms,h1⟩
 |_=>simp[OU]at h2
theorem Ci.map{t k e:Nat}(h:(T t).d=.map k e):P.underlying t=some (.map k e):=by
 obtain⟨d,i,z,h1,h2,_⟩:=hT.get (t:=t) (by rw[h];simp);rw[h]at h2;cases d with
 |struct fs=>rcases Fb fs with e |e<;>rw[e]at h2<;>cases h2
 |_=>simp[OU]at h2<;>(obtain⟨rfl,rfl⟩:=h2;exact h1)
theorem Ci.array{t n e:Nat}(h:(T t).d=.array n e):P.underlying t=some (.array n e):=by
 obtain⟨d,i,z,h1,h2,_⟩:=hT.get (t:=t) (by rw[h];simp);rw[h]at h2;cases d with
 |struct fs=>rcases Fb fs with e |e<;>rw[e]at h2<;>cases h2
 |_=>simp[OU]at h2<;>(obtain⟨rfl,rfl⟩:=h2;exact h1)
theorem Ci.struct {t : Nat} {fs : List (Nat × Nat)} (h : (T t).d = .struct fs) : ∃ fa : Array Field, P.underlying t = some (.struct fa) /\ fs = fa.toList.map (fun f => (f.type, f.offset)) /\ ∀ f ∈ fa.toList, f.name ≠ "_" := by
 obtain⟨d,i,z,h1,h2,_⟩:=hT.get (t:=t) (by rw[h];simp);rw[h]at h2;cases d with
 |struct fa=>
  refine⟨fa,h1,?_,?_⟩
  .rcases Fb fa with e | e<;>rw[e]at h2<;>cases h2;rfl
  .change TD.struct fs = (bif fa.any (fun f => f.name == "_") then .other else .struct (fa.toList.map fun f => (f.type, f.offset))) at h2
   cases hh : fa.any (fun f => f.name == "_") with
   |true=>rw[hh]at h2;cases h2
   |false=>
    intro f hf e;rw[Array.any_eq_false]at hh;obtain⟨j,hj,rfl⟩:=B1.1 hf
    have:=hh j (by simpa using hj)
    simp at this;exact this (by simpa using e)
 |_=>simp[OU]at h2
theorem Ci.size(w:World){t:Nat}(h:(T t).d≠.other):(sizeOf t).run P w=.ok (T t).size w:=by
 obtain⟨d,i,z,h1,h2,h3,h4,h5,_⟩:=hT.get h;simp[sizeOf,typeInfo,h3,h5]
theorem Ci.size1(w:World){n:Nat}(h:(T t).size=n+1):(sizeOf t).run P w=.ok (n+1) w:=by
 rcases hT t with e | e
 .rw[e]at h;cases h
 unfold jW at e;split at e
 .split at e
  .rename_i d i h1 h2 _ z h3;rw[e]at h;dsimp only at h;simp[sizeOf,typeInfo,h2,h]
  .rw[e]at h;cases h
 .rw[e]at h;cases h
theorem Ci.isAgg(w:World){t:Nat}(h:(T t).d≠.other):(isAgg t).run P w=.ok (Kh (T t).d) w:=by
 obtain⟨d,i,z,h1,h2,_⟩:=hT.get h;rw[h2];rw[h2]at h;cases d with
 |struct fs=>
  rcases Fb fs with e | e
  .exact absurd e h
  .rw[e];simp[Go.isAgg,run_underlying h1,Kh]
 |_=>simp[Go.isAgg,run_underlying h1,OU,Kh]
end
def BF(h:Nat->HO)(g:Gh)(w:World)(m:Sem Value)(K:AV->Prop):Prop:=∃x av,m.run P w=.ok x w/\K av/\Br g w (AN h) av x
theorem TE{p:Prop}{K:AV->Prop}(h:Jr p K)(hb:b=true↔p):K (.v (.bool b)):=by
 cases b with
 |true=>exact h.1 (hb.1 rfl)
 |false=>exact h.2 (fun e=>by have:=hb.2 e;cases this)
theorem KQ(h:vV k k'=true):k=k':=by cases k<;>cases k'<;>first | rfl | (simp[vV]at h)
theorem NP{a:Int}(h:A5 a):IntKind.i64.wrap a=a:=by
 unfold A5 at h;simp[IntKind.wrap,IntKind.bits,IntKind.signed];omega
theorem KL:∀l m:List UInt8,(Op.bytesLess l m||l == m)=!Op.bytesLess m l
 | [],[]=>rfl
 | [],_::_=>rfl
 |_::_,[]=>rfl
 |a::l,b::m=>by
  have ih:=KL l m;simp only[Op.bytesLess];rcases Lb a.toNat b.toNat with h | h | h
  .have h1:a<b:=h;have h2:¬b<a:=fun e=>by have:b.toNat<a.toNat:=e;omega
   have h3:b≠a:=fun e=>by subst e;omega
   simp[h1,h2,h3]
  .have h1:a=b:=GG.1 h;subst h1;simpa using ih
  .have h1:b<a:=h;have h2:¬a<b:=fun e=>by have:a.toNat<b.toNat:=e;omega
   have h3:a≠b:=fun e=>by subst e;omega
   simp[h1,h2,h3]
theorem Kc(a b:ByteArray):(a.toList == b.toList)=true↔a=b:=by
 rw[ByteArray.toList_eq,ByteArray.toList_eq];constructor
 .intro h;have h1:=eq_of_beq h;cases a;cases b
  congr
  exact OX h1
 .rintro rfl;simp
section
variable {P:Program}{T:GV}{h:Nat->HO}{g:Gh}{w:World}{K:AV->Prop}
theorem BF.bool{p:Prop}(hm:m.run P w=.ok (.bool b) w)(hb:b=true↔p)(hk:Jr p K):BF P h g w m K:=
 ⟨_,_,hm,TE hk hb,.v _ _⟩
theorem BF.val(hm:m.run P w=.ok x w)(hk:K (.v x)):BF P h g w m K:=⟨_,_,hm,hk,.v _ _⟩
theorem Rt{t:Nat}{a b:Int}(hk:Ve op k a b K) :
  BF P h g w (do eqGuard op t X Y (.int k a) (.int k' b);binOp op t (.int k a) (.int k' b)) K:=by
 cases op
 case shl=>exact BF.val (by simp[eqGuard,binOp,Op.shift,FP,Int.not_lt.2 hk.1]) hk.2
 case shr=>exact BF.val (by simp[eqGuard,binOp,Op.shift,FP,Int.not_lt.2 hk.1]) hk.2
 all_goals exact hk.elim
theorem gp{t:Nat}{a b:Int}(hk:Ty op k a b K) :
  BF P h g w (do eqGuard op t X Y (.int k a) (.int k b);binOp op t (.int k a) (.int k b)) K:=by
 have key:∀{k:IntKind},XJ op k a b K->BF P h g w (do eqGuard op t X Y (.int k a) (.int k b);binOp op t (.int k a) (.int k b)) K:=by
  intro k hk;cases op
  case quo=>
   obtain⟨⟨h1,h2,h3⟩,hk⟩:=hk;have hb:¬b=0:=by omega
   exact BF.val (by simp[eqGuard,binOp,Op.intDiv,hb,Int.tdiv_eq_ediv_of_nonneg h1,h3]) hk
  case rem=>
   obtain⟨⟨h1,h2⟩,hk⟩:=hk;have hb:¬b=0:=by omega
   exact BF.val (by simp[eqGuard,binOp,Op.intDiv,hb,Int.tmod_eq_emod_of_nonneg h1]) hk
  case shl=>exact Rt hk
  case shr=>exact Rt hk
  all_goals first | exact hk.elim | exact BF.val (by simp[eqGuard,binOp,Op.intArith,Op.intBits,G5]) hk
 cases k with
 |i64=>
  unfold Ty at hk
  cases op<;>dsimp only at hk<;>first
   |exact hk.elim
   |(refine BF.val ?_ hk.2;simp[eqGuard,binOp,Op.intArith,NP hk.1];done)
   |exact key (k:=.i64) hk
   |skip
  .obtain⟨⟨h1,h2,h3⟩,hk⟩:=hk;refine BF.val ?_ hk;have e1:a.tdiv b=a / b:=Int.tdiv_eq_ediv_of_nonneg h1;have e3:a / b<=a:=Int.ediv_le_self b h1;have e2:IntKind.i64.wrap (a / b)=a / b:=NP ⟨by have:=Int.ediv_nonneg h1 (by omega:0<=b);omega,by unfold A5 at h3;omega⟩;have hb:¬b=0:=by omega
   simp[eqGuard,binOp,Op.intDiv,hb,e1,e2]
 |_=>exact key hk
end
def Iw(k:Nat):List α:=(l.drop o).take k
theorem Md:∀{l:List KS} {vs:List Value},JI l vs=true->vs.length=l.length
 | [],[],_=>rfl
 |k::r,v::s,h=>by
  unfold JI at h;split at h
  .simp[Md h]
  .cases h
theorem Tb:∀{a b:List KS} {vs:List Value},JI (a++b) vs=true->JI a (vs.take a.length)=true/\JI b (vs.drop a.length)=true
 | [],b,vs,h=>⟨by cases vs<;>rfl,by simpa using h⟩
 |k::a,b,[],h=>by simp[JI]at h
 |k::a,b,v::vs,h=>by
  simp only[DA,JI]at h;split at h
  .rename_i hk;obtain⟨h1,h2⟩:=Tb h;simp only[Al,Jy,List.drop_succ_cons,JI,hk];exact⟨h1,h2⟩
  .cases h
theorem fH(k a b:Nat)(h:a+b<=k):Iw (Iw l o k) a b=Iw l (o+a) b:=by
 unfold Iw;rw[List.drop_take,He,La]
 congr 1
 omega
theorem rl(k:Nat):(Iw l o k).length=min k (l.length-o):=by simp[Iw]
theorem Qf(k a:Nat)(h:a<=k):(Iw l o k).take a=Iw l o a:=by
 unfold Iw;rw[La];congr 1;omega
theorem Qe(k a:Nat):(Iw l o k).drop a=Iw l (o+a) (k-a):=by
 unfold Iw;rw[List.drop_take,He]
theorem jH(m:List α)(o a b:Nat):(Iw l o (a+b)=Iw m o (a+b))↔(Iw l o a=Iw m o a/\Iw l (o+a) b=Iw m (o+a) b):=by
 constructor
 .intro h;constructor
  .rw[<-Qf l o (a+b) a ch,h,Qf m o (a+b) a ch]
  .have h1:=Aa (List.drop a) h;rw[Qe,Qe,Hg]at h1;exact h1
 .rintro⟨h1,h2⟩
  have e:∀x:List α,Iw x o (a+b)=Iw x o a++Iw x (o+a) b:=fun x=>by
   unfold Iw;rw[List.take_add,He]
  rw[e,e,h1,h2]
section
variable {P:Program}{T:GV}(hT:Ci P T)
include hT
theorem D2(w:World)(hd:(T t).d≠.other)(hs:Kh (T t).d=false)(xs:Array Value)(o:Nat)(x:Value)(h:xs[o]?=some x) :
  (part t xs o).run P w=.ok x w:=by
 unfold part;simp[Sem.run_bind,hT.isAgg w hd,hs,h]
theorem G2(w:World)(hd:(T t).d≠.other)(hs:Kh (T t).d=true)(xs:Array Value)(o:Nat) :
  (part t xs o).run P w=.ok (.agg (xs.extract o (o+(T t).size))) w:=by
 unfold part;simp[Sem.run_bind,hT.isAgg w hd,hs,hT.size w hd]
def rE(P:Program)(w:World)(d t:Nat)(xs ys:Array Value)(o k:Nat):Prop:=
 ∃b:Bool,(do let a <-part t xs o;let b <-part t ys o;Op.equalIn d t a b).run P w=.ok b w/\(b=true↔Iw xs.toList o k=Iw ys.toList o k)
omit hT in
theorem Mg{xs:Array Value}{o:Nat}{k:KS}(h:JI [k] (Iw xs.toList o 1)=true):∃x,xs[o]?=some x/\Oc k x=true/\Iw xs.toList o 1=[x]:=by
 have hl:=Md h;rw[rl]at hl;simp at hl;have Dx:o<xs.size:=by omega
 have e:Iw xs.toList o 1=[xs[o]]:=by
  unfold Iw;rw[AY (by simpa using Dx)];simp
 rw[e]at h;refine⟨xs[o],by simp[Dx],?_,e⟩;unfold JI at h;split at h
 .assumption
 .cases h
omit hT in
theorem N7{f:Nat->Option (List KS)}:∀{fs:List (Nat×Nat)} {n:Nat} {l:List KS},Ox f n fs=some l ->
  match fs with | []=>l=[] | (t,o)::r=>o=n/\∃a b,f t=some a/\Ox f (n+a.length) r=some b/\l=a++b
 | [],n,l,h=>by cases h;rfl
 |(t,o)::r,n,l,h=>by
  unfold Ox at h;split at h
  .rename_i ho;split at h
   .rename_i a ha;split at h
    .rename_i b hb;cases h;exact⟨AM ho,a,b,ha,hb,rfl⟩
    .cases h
   .cases h
  .cases h
omit hT in
theorem N3(w:World)(n d:Nat)(hB:∀t l,H4 T n t=some l->∀xs ys o,JI l (Iw xs.toList o l.length)=true->JI l (Iw ys.toList o l.length)=true->rE P w d t xs ys o l.length) :
  ∀ (fa : List Field) (m : Nat) (l : List KS), (∀ f ∈ fa, f.name ≠ "_") -> Ox (H4 T n) m (fa.map fun f => (f.type, f.offset)) = some l ->
   ∀xs ys:Array Value,JI l (Iw xs.toList m l.length)=true->JI l (Iw ys.toList m l.length)=true ->
    ∃b:Bool,(Op.eqFields d xs ys fa).run P w=.ok b w/\(b=true↔Iw xs.toList m l.length=Iw ys.toList m l.length)
 | [],m,l,_,h,xs,ys,_,_=>by
  cases h
  exact⟨true,rfl,by simp[Iw]⟩
 |f::fa,m,l,hn,h,xs,ys,hx,hy=>by
  obtain⟨ho,a,b,ha,hb,rfl⟩:=N7 h;rw[Ac]at hx hy⊢;obtain⟨x1,x2⟩:=Tb hx;obtain⟨y1,y2⟩:=Tb hy;rw[Qf _ _ _ _ ch]at x1 y1;rw[Qe,Hg]at x2 y2;obtain⟨c,c1,c2⟩:=hB _ _ ha xs ys m x1 y1;obtain⟨e,e1,e2⟩:=N3 w n d hB fa (m+a.length) b (fun f hf=>hn f (Ae _ hf)) hb xs ys x2 y2;have Dv:=hn f (Ab ..);have pq : (do let x <-part f.type xs f.offset;let y <-part f.type ys f.offset;Op.equalIn d f.type x y).run P w=.ok c w:=by rw[ho];exact c1
  have CI:(Op.eqFields d xs ys (f::fa)).run P w=.ok (if c=true then e else false) w:=by
   unfold Op.eqFields;rw[As Dv];simp only[Sem.run_bind]at pq⊢;generalize (part f.type xs f.offset).run P w=r1 at pq⊢;cases r1 with
   |halt x w1=>cases pq
   |ok u w1=>
    simp only[Result.andThen_ok]at pq⊢;generalize (part f.type ys f.offset).run P w1=r2 at pq⊢;cases r2 with
    |halt x w1=>cases pq
    |ok u2 w2=>
     simp only[Result.andThen_ok]at pq⊢;rw[pq];simp only[Result.andThen_ok];cases c<;>simp[e1]
  refine⟨_,CI,?_⟩;rw[jH];cases c<;>cases e<;>simp_all
theorem Ya(w:World):∀(n t:Nat) (l:List KS),H4 T n t=some l->∀d,n<=d->∀(xs ys:Array Value) (o:Nat),JI l (Iw xs.toList o l.length)=true->JI l (Iw ys.toList o l.length)=true ->
  rE P w d t xs ys o l.length
 |0,t,l,h=>by simp[H4]at h
 |n+1,t,l,h=>by
  intro d hd xs ys o hx hy;obtain⟨d,rfl⟩:∃d',d=d'+1:=⟨d-1,by omega⟩;unfold H4 at h;split at h
  .rename_i k hk;split at h
   .cases h
    obtain⟨x,x1,x2,x3⟩:=Mg hx;obtain⟨y,y1,y2,y3⟩:=Mg hy;have ZS:(T t).d≠.other:=by rw[hk];simp
    have hs:Kh (T t).d=false:=by rw[hk];rfl
    cases x<;>simp[Oc]at x2
    cases y<;>simp[Oc]at y2
    rename_i k1 n1 k2 n2;obtain rfl:=KQ x2;obtain rfl:=KQ y2;refine⟨n1 == n2,?_,?_⟩
    .simp[Sem.run_bind,D2 hT w ZS hs xs o _ x1,D2 hT w ZS hs ys o _ y1,run_equalIn_int w d t k k n1 n2 (hT.int hk)]
    .simp only[AJ];rw[x3,y3];simp
   .cases h
  .rename_i hk;split at h
   .cases h
    obtain⟨x,x1,x2,x3⟩:=Mg hx;obtain⟨y,y1,y2,y3⟩:=Mg hy;have ZS:(T t).d≠.other:=by rw[hk];simp
    have hs:Kh (T t).d=false:=by rw[hk];rfl
    cases x<;>simp[Oc]at x2
    cases y<;>simp[Oc]at y2
    rename_i s1 s2;refine⟨s1.toList == s2.toList,?_,?_⟩
    .simp[Sem.run_bind,D2 hT w ZS hs xs o _ x1,D2 hT w ZS hs ys o _ y1,run_equalIn_string w d t s1 s2 (hT.string hk)]
    .simp only[AJ];rw[x3,y3,Kc];simp
   .cases h
  .rename_i hk;split at h
   .cases h
    obtain⟨x,x1,x2,x3⟩:=Mg hx;obtain⟨y,y1,y2,y3⟩:=Mg hy;have ZS:(T t).d≠.other:=by rw[hk];simp
    have hs:Kh (T t).d=false:=by rw[hk];rfl
    cases x<;>simp[Oc]at x2
    cases y<;>simp[Oc]at y2
    rename_i s1 s2;refine⟨s1 == s2,?_,?_⟩
    .simp[Sem.run_bind,D2 hT w ZS hs xs o _ x1,D2 hT w ZS hs ys o _ y1,run_equalIn_bool' w d t s1 s2 (hT.bool hk)]
    .simp only[AJ];rw[x3,y3];simp
   .cases h
  .rename_i fs hk;split at h
   .rename_i FY;split at h
    .rename_i l' KP;split at h
     .rename_i Ca;cases h;have Ca:=AM Ca;have ZS:(T t).d≠.other:=by rw[hk];simp
      have hs:Kh (T t).d=true:=by rw[hk];rfl
      obtain⟨fa,u1,u2,u3⟩:=hT.struct hk;obtain⟨_,_,_,_,_,_,_,_,_,_,hq⟩:=hT.get ZS;obtain⟨q1,q2⟩:=hq FY;rw[u2]at KP;have hf:P.fieldsOf t=fa:=by simp[Program.fieldsOf,u1]
      have ex:∀zs:Array Value,(zs.extract o (o+(T t).size)).toList=Iw zs.toList o l.length:=fun zs=>by
       rw[<-Ca];simp[Iw]
      have s0:∀zs:Array Value,Iw (Iw zs.toList o l.length) 0 l.length=Iw zs.toList o l.length:=fun zs=>by
       rw[fH _ _ _ _ _ ch];rfl
      obtain⟨b,b1,b2⟩:=N3 w n d (fun t l h xs ys o hx hy=>Ya w n t l h d ch xs ys o hx hy) fa.toList 0 l u3 KP (xs.extract o (o+(T t).size)) (ys.extract o (o+(T t).size))
       (by rw[ex,s0];exact hx) (by rw[ex,s0];exact hy)
      rw[ex,ex,s0,s0]at b2;refine⟨b,?_,b2⟩;simp only[Sem.run_bind,G2 hT w ZS hs,Result.andThen_ok];rw[run_equalIn_struct w d t _ _ (by rw[hf];exact u1) q1,hf];exact b1
     .cases h
    .cases h
   .cases h
  .cases h
end
theorem QZ:∀{l:List KS} {xs:List AV},aA l xs=true->∃vs:List Value,xs=vs.map .v/\JI l vs=true
 | [],[],_=>⟨[],rfl,rfl⟩
 |k::r,a::s,h=>by
  cases a with
  |v x=>
   simp only[aA]at h;split at h
   .rename_i h1;obtain⟨vs,rfl,h3⟩:=QZ h;exact⟨x::vs,rfl,by simp[JI,h1,h3]⟩
   .cases h
  |_=>simp[aA]at h
 | [],_::_,h=>by simp[aA]at h
 |_::_,[],h=>by simp[aA]at h
theorem ZC:∀{l:List KS} {vs us:List Value},JI l vs=true->JI l us=true->(pO (vs.map .v) (us.map .v)↔vs=us)
 | [],[],[],_,_=>by simp[pO]
 |k::r,v::vs,u::us,h1,h2=>by
  simp only[JI]at h1 h2;split at h1
  .rename_i e1;split at h2
   .rename_i e2;have ih:=ZC h1 h2;cases k<;>cases v<;>simp[Oc]at e1<;>cases u<;>simp[Oc]at e2<;>simp only[AK,pO,ih,Eu]
    .rename_i k1 n1 k2 n2;obtain rfl:=KQ e1;obtain rfl:=KQ e2;simp
    .simp
    .simp
   .cases h2
  .cases h1
 | [],_::_,_,h,_=>by simp[JI]at h
 |_::_,[],_,h,_=>by simp[JI]at h
 | [],[],_::_,_,h=>by simp[JI]at h
 |_::_,_::_,[],_,h=>by simp[JI]at h
theorem Br.v_eq{w:World}{a:Value}(h:Br g w U (.v a) x):x=a:=by cases h;rfl
theorem Br.agg_vals{w:World}{vs:List Value}(h:Br g w U (.agg (vs.map .v)) x):x=.agg vs.toArray:=by
 cases h with
 |agg _ _ us hs h1 hr=>
  congr 1
  apply OX;apply Cz;intro i;simp only[AS]at hs
  by_cases hi:i<vs.length
  .have MJ : i<us.size:=by omega
   have:=hr i (.v vs[i]) us[i] (by simp[hi]) (by simp[MJ])
   have:=this.v_eq
   simp[hi,MJ,this]
  .rw[AQ (by simp;omega),AQ (by simpa using hi)]
theorem Jv{P:Program}(hu:P.underlying t=some (.slice e))(a:Option Addr)(n c:Nat) :
  (Op.equal t (.slice a n c) (.slice none 0 0)).run P w=.ok a.isNone w:=by
 have key:∀d,(Op.equalIn (d+1) t (.slice a n c) (.slice none 0 0)).run P w=.ok a.isNone w:=fun d=>by
  cases a<;>simp[Op.equalIn,run_underlying hu]
 exact key 9999
theorem KF{P:Program}(hu:P.underlying t=some (.pointer e))(a:Option Addr) :
  (Op.equal t (.pointer a) (.pointer none)).run P w=.ok a.isNone w:=by
 have key:∀d,(Op.equalIn (d+1) t (.pointer a) (.pointer none)).run P w=.ok a.isNone w:=fun d=>by
  cases a<;>simp[Op.equalIn,run_underlying hu]
 exact key 9999
theorem Ju{P:Program}{ms:Array (String×TypeId)}(hu:P.underlying t=some (.interface ms)) :
  (Op.equal t .nilIface .nilIface).run P w=.ok true w:=by
 have key:∀d,(Op.equalIn (d+1) t .nilIface .nilIface).run P w=.ok true w:=fun d=>by
  simp[Op.equalIn,run_underlying hu]
 exact key 9999
section
variable {P:Program}{T:GV}{h:Nat->HO}{g:Gh}{w:World}{K:AV->Prop}
theorem la{t:Nat}{a b:Int}(hk:TC T op t (.v (.int k a)) (.v (.int k' b)) K) :
  BF P h g w (do eqGuard op t X Y (.int k a) (.int k' b);binOp op t (.int k a) (.int k' b)) K:=by
 unfold TC at hk;dsimp only at hk;split at hk
 .exact Rt hk
 .rename_i e;obtain rfl:=KQ e;cases op<;>dsimp only at hk
  case eql=>exact BF.bool (b:=a == b) (by simp[eqGuard,binOp,Op.intCmp]) B0 hk
  case neq=>exact BF.bool (b:=a != b) (by simp[eqGuard,binOp,Op.intCmp]) B0 hk
  case lss=>exact BF.bool (b:=decide (a<b)) (by simp[eqGuard,binOp,Op.intCmp]) B0 hk
  case leq=>exact BF.bool (b:=decide (a<=b)) (by simp[eqGuard,binOp,Op.intCmp]) B0 hk
  case gtr=>exact BF.bool (b:=decide (b<a)) (by simp[eqGuard,binOp,Op.intCmp]) B0 hk
  case geq=>exact BF.bool (b:=decide (b<=a)) (by simp[eqGuard,binOp,Op.intCmp]) B0 hk
  all_goals exact gp hk
theorem lc{t:Nat}{a b:ByteArray}(hk:TC T op t (.v (.string a)) (.v (.string b)) K) :
  BF P h g w (do eqGuard op t X Y (.string a) (.string b);binOp op t (.string a) (.string b)) K:=by
 unfold TC at hk;have tri:=KL a.toList b.toList;have Ah7:=KL b.toList a.toList;cases op<;>dsimp only at hk
 case eql=>exact BF.bool (b:=a.toList == b.toList) (by simp[eqGuard,binOp,Op.stringOp]) (Kc a b) hk
 case neq=>exact BF.bool (b:=!(a.toList == b.toList)) (by simp[eqGuard,binOp,Op.stringOp]) (by
  have:=Kc a b
  cases hq:a.toList == b.toList<;>simp_all) hk
 case lss=>exact BF.bool (b:=Op.bytesLess a.toList b.toList) (by simp[eqGuard,binOp,Op.stringOp]) B0 hk
 case leq=>exact BF.bool (b:=Op.bytesLess a.toList b.toList||a.toList == b.toList) (by simp[eqGuard,binOp,Op.stringOp]) (by rw[tri];simp) hk
 case gtr=>exact BF.bool (b:=!(Op.bytesLess a.toList b.toList||a.toList == b.toList)) (by simp[eqGuard,binOp,Op.stringOp]) (by rw[tri];simp) hk
 case geq=>exact BF.bool (b:=!Op.bytesLess a.toList b.toList) (by simp[eqGuard,binOp,Op.stringOp]) B0 hk
 case add=>
  refine BF.val (x:=.string (a++b)) ?_ hk.2;have h1:¬((a.size:Int)+(b.size:Int)>IntKind.i64.max):=by have:=hk.1;simp[IntKind.max,IntKind.bits,IntKind.signed];omega
  simp[eqGuard,binOp,Op.stringOp];omega
 all_goals exact hk.elim
theorem jc{K:AV->Prop}(hk:jb K (.v (.bool b))):K (.v (.bool (!b))):=by cases b<;>exact hk
theorem lJ(hT:Ci P T){t:Nat}{x y:AV}(hx:Br g w (AN h) x vx)(hy:Br g w (AN h) y vy){K:AV->Prop}(hk:vw T t x y K) :
  ∃b:Bool,(Op.equal t vx vy).run P w=.ok b w/\K (.v (.bool b))/\(∀op X Y,(op=.eql\/op=.neq)->(eqGuard op t X Y vx vy).run P w=.ok () w) /\
   binOp .eql t vx vy=(do pure (.bool (<-Op.equal t vx vy)))/\binOp .neq t vx vy=(do pure (.bool (!(<-Op.equal t vx vy)))):=by
 unfold vw at hk;split at hk
 .rename_i ht;split at hk
  .obtain rfl:=hx.v_eq;obtain rfl:=hy.v_eq;refine⟨_,?_,hk,fun op X Y _=>by rcases ‹op=_\/op=_› with rfl | rfl<;>simp[eqGuard],rfl,rfl⟩
   rw[Op.equal,Op.maxDepth];exact run_equalIn_bool' w 9999 t _ _ (hT.bool ht)
  .exact hk.elim
 .rename_i fs ht;split at hk
  .split at hk
   .rename_i l hl;split at hk
    .rename_i k1;split at hk
     .rename_i k2;obtain⟨vs,rfl,s1⟩:=QZ k1;obtain⟨us,rfl,s2⟩:=QZ k2;obtain rfl:=hx.agg_vals;obtain rfl:=hy.agg_vals;have Dv:(T t).d≠.other:=by rw[ht];simp
      obtain⟨_,_,_,_,_,_,_,_,_,_,hq⟩:=hT.get Dv;have hag:Kh (T t).d=true:=by rw[ht];rfl
      have hfl:=hl;unfold H4 at hfl;rw[ht]at hfl;dsimp only at hfl;split at hfl
      .rename_i FY;split at hfl
       .split at hfl
        .rename_i Ca;cases hfl;have Ca:=AM Ca;have e1:∀zs:List Value,JI l zs=true->Iw zs.toArray.toList 0 l.length=zs:=fun zs hz=>by
          have:=Md hz
          simp[Iw,<-this]
         obtain⟨b,b1,b2⟩:=Ya hT w 8 t l hl 10000 ch vs.toArray us.toArray 0 (by rw[e1 _ s1];exact s1) (by rw[e1 _ s2];exact s2);rw[e1 _ s1,e1 _ s2]at b2;have ex:∀zs:List Value,JI l zs=true->zs.toArray.extract 0 (0+(T t).size)=zs.toArray:=fun zs hz=>by
          have:=Md hz
          rw[<-Ca,<-this];simp
         simp only[Sem.run_bind,G2 hT w Dv hag,Result.andThen_ok,ex _ s1,ex _ s2]at b1;refine⟨b,b1,TE hk (by rw[b2,ZC s1 s2]),fun op X Y _=>run_eqGuard_agg w op t X Y _ _ (hq FY).2,rfl,rfl⟩
        .cases hfl
       .cases hfl
      .cases hfl
     .exact hk.elim
    .exact hk.elim
   .exact hk.elim
  .exact hk.elim
 .rename_i e ht;have hu:=hT.slice ht;split at hk
  .rename_i tk es;obtain rfl:=hy.v_eq;obtain⟨a,n,c,rfl,hn⟩:∃a n c,vx=.slice a n c/\(es≠[]->a.isNone=false):=by
    have:=hx.slice_none
    cases this with
    |snil _ a c=>exact⟨_,_,_,rfl,fun h=>absurd rfl h⟩
    |slice _ _ b off sz cap val=>exact⟨_,_,_,rfl,fun _=>rfl⟩
   refine⟨a.isNone,?_,?_,fun op X Y _=>by rcases ‹op=_\/op=_› with rfl | rfl<;>simp[eqGuard],rfl,rfl⟩
   .exact Jv w hu _ _ _
   .by_cases he:es=[]
    .cases a.isNone
     .exact(hk.2 he).2
     .exact(hk.2 he).1
    .rw[hn he];exact hk.1 he
  .obtain rfl:=hx.v_eq;obtain rfl:=hy.v_eq;refine⟨true,?_,hk,fun op X Y _=>by rcases ‹op=_\/op=_› with rfl | rfl<;>simp[eqGuard],rfl,rfl⟩
   exact Jv w hu _ _ _
  .exact hk.elim
 .rename_i e ht;have hu:=hT.ptr ht
  have key:∀a:Addr,vx=.pointer (some a)->vy=.pointer none->K (.v (.bool false))->∃b:Bool,(Op.equal t vx vy).run P w=.ok b w/\K (.v (.bool b))/\(∀op X Y,(op=.eql\/op=.neq)->(eqGuard op t X Y vx vy).run P w=.ok () w) /\
   binOp .eql t vx vy=(do pure (.bool (<-Op.equal t vx vy)))/\binOp .neq t vx vy=(do pure (.bool (!(<-Op.equal t vx vy)))):=by
   rintro a rfl rfl hk
   refine⟨false,?_,hk,fun op X Y _=>by rcases ‹op=_\/op=_› with rfl | rfl<;>simp[eqGuard],rfl,rfl⟩
   exact KF w hu _
  split at hk
  .obtain rfl:=hx.v_eq;obtain rfl:=hy.v_eq;refine⟨true,?_,hk,fun op X Y _=>by rcases ‹op=_\/op=_› with rfl | rfl<;>simp[eqGuard],rfl,rfl⟩
   exact KF w hu _
  .cases hx;exact key _ rfl hy.v_eq hk
  .cases hx;exact key _ rfl hy.v_eq hk
  .cases hx;exact key _ rfl hy.v_eq hk
  .exact hk.elim
 .exact hk.elim
theorem po(hT:Ci P T){t:Nat}{x y:AV}(hx:Br g w (AN h) x vx)(hy:Br g w (AN h) y vy)(hk:TC T op t x y K) :
  BF P h g w (do eqGuard op t X Y vx vy;binOp op t vx vy) K:=by
 unfold TC at hk;split at hk
 .obtain rfl:=hx.v_eq;obtain rfl:=hy.v_eq;exact la (T:=T) (by unfold TC;exact hk)
 .obtain rfl:=hx.v_eq;obtain rfl:=hy.v_eq;exact lc (T:=T) (by unfold TC;exact hk)
 .split at hk
  .obtain⟨b,b1,b2,b3,b4,b5⟩:=lJ hT hx hy hk;refine⟨_,_,?_,b2,.v _ _⟩;simp[Sem.run_bind,b3 .eql X Y (.inl rfl),b4,b1]
  .obtain⟨b,b1,b2,b3,b4,b5⟩:=lJ hT hx hy hk;refine⟨_,_,?_,jc b2,.v _ _⟩;simp[Sem.run_bind,b3 .neq X Y (.inr rfl),b5,b1]
  .exact hk.elim
theorem kZ(hT:Ci P T){t:Nat}{x y:AV}(hx:Br g w (AN h) x vx)(hy:Br g w (AN h) y vy)(hc:∀v,Y=.const v->vy=v)(hk:Zi T op t Y x y K) :
  BF P h g w (do eqGuard op t X Y vx vy;binOp op t vx vy) K:=by
 unfold Zi at hk;split at hk
 .obtain rfl:=hc _ rfl;split at hk
  .obtain rfl:=hx.v_eq;split at hk
   .rename_i ht;obtain⟨ms,hu⟩:=hT.iface ht;split at hk
    .refine⟨_,_,?_,hk,.v _ _⟩;have e:binOp .eql t .nilIface .nilIface=(do pure (.bool (<-Op.equal t .nilIface .nilIface))):=rfl;simp[eqGuard,e,Ju w hu]
    .refine⟨_,_,?_,hk,.v _ _⟩;have e:binOp .neq t .nilIface .nilIface=(do pure (.bool (!(<-Op.equal t .nilIface .nilIface)))):=rfl;simp[eqGuard,e,Ju w hu]
    .exact hk.elim
   .exact hk.elim
  .exact hk.elim
 .exact po hT hx hy hk
end
def HY(g:Gh)(w:World)(U:Nat->Prop)(b off:Nat)(cs:List AV):Prop:=
 ∀(j:Nat) (av:AV),cs[j]?=some av->∃x,w.cell? ⟨b,off+j,none⟩=some x/\x.oneCell'=true/\Br g w U av x
theorem HY.drop{g:Gh}{w:World}{U:Nat->Prop}{b off:Nat}{cs:List AV}(h:HY g w U b off cs)(n:Nat):HY g w U b (off+n) (cs.drop n):=fun j av hj=>by
 rw[CA]at hj
 have:=h _ _ hj
 rwa [<-GX]at this
theorem HY.of_cptr{w:World}{b off:Nat}(h:Br g w U (.cptr cs) (.pointer (some ⟨b,off,none⟩)))(V:Nat->Prop):HY g w V b off cs:=by
 cases h with
 |cptr _ _ _ _ val Dg D8=>exact fun j av hj=>⟨_,(Dg j av hj).2.1,(Dg j av hj).2.2,(D8 j av hj).up V⟩
theorem FU{w:World}{b o:Nat}(h:w.heap[b]?=some (.cells vs E f)):w.cell? ⟨b,o,none⟩=vs[o]?:=by
 simp[World.cell?,h]
theorem HY.of_row{w:World}{b:Nat}(h:w.heap[b]?=some (.cells vs E f))(hr:CJ g w U cs vs.toList):HY g w U b 0 cs:=fun j av hj=>by
 have Dx:j<vs.toList.length:=by rw[hr.1];exact(Ar.1 hj).1
 have hx:vs.toList[j]?=some vs.toList[j]:=At Dx;refine⟨vs.toList[j],?_,hr.2.1 _ (Aq Dx),hr.2.2 j av _ hj hx⟩;rw[FU h,A7];simp only[AI]at hx;exact hx
theorem Hq{n j:Nat}{f:Nat->α}{x:α}(h:((List.range n).map f)[j]?=some x):j<n/\x=f j:=by
 by_cases hj:j<n
 .simp[hj]at h;exact⟨hj,h.symm⟩
 .rw[AQ (by simp;omega)]at h;cases h
section
variable {P:Program}{T:GV}(hT:Ci P T){h:Nat->HO}{g:Gh}{w:World}{K:AV->Prop}
include hT
theorem Mx{t:Nat}{b off:Nat}(hd:(T t).d≠.other)(ha:Kh (T t).d=false)(hc:w.cell? ⟨b,off,none⟩=some x):(loadVar t ⟨b,off,none⟩).run P w=.ok x w:=by
 unfold loadVar;simp[Sem.run_bind,hT.isAgg w hd,ha,hc]
theorem SO{t:Nat}{b off:Nat}{vs:List Value}(hd:(T t).d≠.other)(ha:Kh (T t).d=true)(hl:vs.length=(T t).size)
  (hc:∀j x,vs[j]?=some x->w.cell? ⟨b,off+j,none⟩=some x):(loadVar t ⟨b,off,none⟩).run P w=.ok (.agg vs.toArray) w:=by
 unfold loadVar;have hr:=run_loadCells_list (P:=P) w ⟨b,off,none⟩ vs (fun j x hj=>by rw[Addr.add_lit];exact hc j x hj);simp[Sem.run_bind,hT.isAgg w hd,ha,hT.size w hd,<-hl,hr]
theorem M9{t:Nat}{b off:Nat}{cs:List AV}(hc:HY g w (AN h) b off cs)(hk:Mw T t cs K):BF P h g w (loadVar t ⟨b,off,none⟩) K:=by
 have agg:Kh (T t).d=true->(T t).d≠.other->(T t).size<=cs.length->K (.agg (cs.take (T t).size))->BF P h g w (loadVar t ⟨b,off,none⟩) K:=by
  intro ha hd Hp hk;have hex:∀j:Nat,∃x:Value,∀av,cs[j]?=some av->w.cell? ⟨b,off+j,none⟩=some x/\x.oneCell'=true/\Br g w (AN h) av x:=fun j=>by
   cases e:cs[j]? with
   |none=>exact⟨default,fun _ h=>by cases h⟩
   |some av=>obtain⟨x,hx⟩:=hc j av e;exact⟨x,fun ww h'=>by cases h';exact hx⟩
  obtain⟨val,Kj⟩:=Classical.axiomOfChoice hex;have ap:∀j,j<(T t).size->∃av,cs[j]?=some av:=fun j hj=>⟨_,At ch⟩;refine⟨_,_,SO hT (vs:=(List.range (T t).size).map val) hd ha B0 (fun j x hx=>?_),hk,.agg _ _ _ (by simp;omega) (fun i x hx=>?_) (fun i av x hi hx=>?_)⟩
  .obtain⟨hj,rfl⟩:=Hq hx;obtain⟨av,mc⟩:=ap j hj;exact(Kj j av mc).1
  .rw[Gu]at hx;obtain⟨hj,rfl⟩:=Hq hx;obtain⟨av,mc⟩:=ap i hj;exact(Kj i av mc).2.1
  .rw[Gu]at hx;obtain⟨hj,rfl⟩:=Hq hx;rw[BI hj]at hi;exact(Kj i av hi).2.2
 have single:Kh (T t).d=false->(T t).d≠.other->Ls cs K->BF P h g w (loadVar t ⟨b,off,none⟩) K:=by
  intro ha hd hk;cases cs with
  |nil=>exact hk.elim
  |cons a r=>
   obtain⟨x,x1,x2,x3⟩:=hc 0 a rfl;exact⟨x,a,Mx hT hd ha x1,hk,x3⟩
 unfold Mw at hk;split at hk
 .rename_i fs e;exact agg (by rw[e];rfl) (by rw[e];simp) hk.1 hk.2
 .rename_i n m e;exact agg (by rw[e];rfl) (by rw[e];simp) hk.1 hk.2
 .rename_i e;have hd:(T t).d≠.other:=by rw[e];simp
  have ha:Kh (T t).d=false:=by rw[e];rfl
  cases cs with
  |nil=>exact hk.elim
  |cons a r=>
   obtain⟨x,x1,x2,x3⟩:=hc 0 a rfl;simp only[Ls]at hk;split at hk
   .obtain rfl:=x3.v_eq;rename_i bb;refine⟨_,_,Mx hT hd ha x1,?_,.v _ _⟩;cases bb
    .exact hk.2 rfl
    .exact hk.1 rfl
   .exact hk.elim
 .exact hk.elim
 .rename_i e1 e2 e3 e4;refine single ?_ e4 hk;cases e:(T t).d<;>first | rfl | exact absurd e (e1 _) | exact absurd e (e2 _ _)
def Y7(g:Gh)(w:World)(U:Nat->Prop)(xs:Array Value)(off:Nat)(cs:List AV):Prop:=
 ∀(j:Nat) (av:AV),cs[j]?=some av->∃x,xs[off+j]?=some x/\x.oneCell'=true/\Br g w U av x
omit hT in
theorem Y7.of_agg{cs:List AV}{xs:Array Value}{U:Nat->Prop}(hr:Br g w U (.agg cs) (.agg xs))(o:Nat):Y7 g w U xs o (cs.drop o):=by
 cases hr with
 |agg _ _ _ hs h1 hh=>
  intro j av hj;rw[CA]at hj;have Dx:o+j<xs.size:=by rw[hs];exact(Ar.1 hj).1
  have hx:xs[o+j]?=some xs[o+j]:=by simp[Dx]
  exact⟨_,hx,h1 _ _ hx,hh _ _ _ hj hx⟩
theorem bm{t:Nat}{xs:Array Value}{off:Nat}{cs:List AV}(hc:Y7 g w (AN h) xs off cs)(hk:bl T t cs K):BF P h g w (part t xs off) K:=by
 have agg:Kh (T t).d=true->(T t).d≠.other->(T t).size<=cs.length->K (.agg (cs.take (T t).size))->BF P h g w (part t xs off) K:=by
  intro ha hd Hp hk;have ap:∀j,j<(T t).size->∃av,cs[j]?=some av:=fun j hj=>⟨_,At ch⟩;have E1:∀(j:Nat) (x:Value),(xs.extract off (off+(T t).size))[j]?=some x->j<(T t).size/\xs[off+j]?=some x:=fun j x hx=>by
   rw[Array.getElem?_extract]at hx;split at hx
   .exact⟨by omega,hx⟩
   .cases hx
  have D5:(xs.extract off (off+(T t).size)).size=(T t).size:=by
   by_cases h0:(T t).size=0
   .simp[h0];omega
   .obtain⟨av,mc⟩:=ap ((T t).size-1) ch;obtain⟨x,x1,_⟩:=hc _ _ mc
    have:=(Be.1 x1).1
    simp;omega
  refine⟨_,_,G2 hT w hd ha xs off,hk,.agg _ _ _ (by rw[D5];simp;omega) (fun i x hx=>?_) (fun i av x hi hx=>?_)⟩
  .obtain⟨hj,ME⟩:=E1 i x hx;obtain⟨av,mc⟩:=ap i hj;obtain⟨y,y1,y2,y3⟩:=hc i av mc;rw[ME]at y1;cases y1;exact y2
  .obtain⟨hj,ME⟩:=E1 i x hx;rw[BI hj]at hi;obtain⟨y,y1,y2,y3⟩:=hc i av hi;rw[ME]at y1;cases y1;exact y3
 have single:Kh (T t).d=false->(T t).d≠.other->Ls cs K->BF P h g w (part t xs off) K:=by
  intro ha hd hk;cases cs with
  |nil=>exact hk.elim
  |cons a r=>
   obtain⟨x,x1,x2,x3⟩:=hc 0 a rfl;exact⟨x,a,D2 hT w hd ha xs off x x1,hk,x3⟩
 unfold bl Mw at hk;split at hk
 .rename_i fs e;exact agg (by rw[e];rfl) (by rw[e];simp) hk.1 hk.2
 .rename_i n m e;exact agg (by rw[e];rfl) (by rw[e];simp) hk.1 hk.2
 .rename_i e;have hd:(T t).d≠.other:=by rw[e];simp
  have ha:Kh (T t).d=false:=by rw[e];rfl
  cases cs with
  |nil=>exact hk.elim
  |cons a r=>
   obtain⟨x,x1,x2,x3⟩:=hc 0 a rfl;simp only[Ls]at hk;split at hk
   .obtain rfl:=x3.v_eq;rename_i bb;refine⟨_,_,D2 hT w hd ha xs off _ x1,?_,.v _ _⟩;cases bb
    .exact hk.2 rfl
    .exact hk.1 rfl
   .exact hk.elim
 .exact hk.elim
 .rename_i e1 e2 e3 e4;refine single ?_ e4 hk;cases e:(T t).d<;>first | rfl | exact absurd e (e1 _) | exact absurd e (e2 _ _)
theorem cw{s f:Nat}{x:AV}(hx:Br g w (AN h) x vx)(hk:Pt T s f x K):BF P h g w (Instr.field s vx f) K:=by
 unfold Pt at hk;split at hk
 .rename_i fs cs hs;split at hk
  .rename_i t o hf;obtain⟨fa,u1,u2,u3⟩:=hT.struct hs;cases hx with
   |agg _ _ xs a1 a2 a3=>
    have xI:∃fd,fa[f]?=some fd/\fd.type=t/\fd.offset=o:=by
     have key:∀(l:List (Nat×Nat)) (n:Nat) (p:Nat×Nat),Yd l n=some p->l[n]?=some p:=by
      intro l
      induction l with
      |nil=>intro n p h;cases h
      |cons y r ih=>intro n p h;cases n with
       |zero=>simpa[Yd]using h
       |succ n=>simpa using ih n p h
     have:=key _ _ _ hf
     rw[u2,Aw,AD]at this;obtain⟨fd,e1,e2⟩:=this;cases e2;exact⟨fd,by simpa using e1,rfl,rfl⟩
    obtain⟨fd,e1,rfl,rfl⟩:=xI;obtain⟨y,av,p1,p2,p3⟩:=bm hT (Y7.of_agg (.agg _ _ xs a1 a2 a3) fd.offset) hk;refine⟨y,av,?_,p2,p3⟩;simp only[Instr.field,Sem.run_bind,run_underlying u1,Result.andThen_ok,e1];simpa[asAgg]using p1
  .exact hk.elim
 .exact hk.elim
theorem T8{s f:Nat}{fs:List (Nat×Nat)}{t o:Nat}(hs:(T s).d=.struct fs)(hf:Yd fs f=some (t,o)):∃fa fd,P.underlying s=some (.struct fa)/\fa[f]?=some fd/\fd.type=t/\fd.offset=o:=by
 obtain⟨fa,u1,u2,u3⟩:=hT.struct hs;have key:∀(l:List (Nat×Nat)) (n:Nat) (p:Nat×Nat),Yd l n=some p->l[n]?=some p:=by
  intro l
  induction l with
  |nil=>intro n p h;cases h
  |cons y r ih=>intro n p h;cases n with
   |zero=>simpa[Yd]using h
   |succ n=>simpa using ih n p h
 have:=key _ _ _ hf
 rw[u2,Aw,AD]at this;obtain⟨fd,e1,e2⟩:=this;cases e2;exact⟨fa,fd,u1,by simpa using e1,rfl,rfl⟩
theorem gX{s f:Nat}{x:AV}(hx:Br g w (AN h) x vx)(hk:T1 T s f x K):BF P h g w (Instr.fieldAt s vx f) K:=by
 unfold T1 at hk;split at hk
 .rename_i fs hs;split at hk
  .rename_i t o hf;obtain⟨fa,fd,u1,e1,rfl,rfl⟩:=T8 hT hs hf;split at hk
   .exact hk.elim
   .rename_i k D5;have CI:∀b off,(Instr.fieldAt s (.pointer (some ⟨b,off,none⟩)) f).run P w=.ok (.pointer (some ⟨b,off+fd.offset,none⟩)) w:=fun b off=>by
     simp[Instr.fieldAt,run_underlying u1,e1,Instr.sureAddr,fieldPlace,hT.size1 w D5,Addr.add_lit]
    split at hk
    .cases hx with
     |cptr _ _ b off val Dg D8=>exact⟨_,_,CI b off,hk,(Br.cptr _ _ b off val Dg D8).cptr_drop _⟩
    .rename_i r off;cases hx with
     |ref _ _ _ b hu ht hp=>exact⟨_,_,CI b off,hk,.ref _ r _ b hu ht hp⟩
    .rename_i r n sz i off;cases hx with
     |eref _ _ _ _ _ _ b cap hu ht hn hp=>
      refine⟨_,_,CI b _,hk,?_⟩;rw[GX];exact .eref _ r n sz i _ b cap hu ht hn hp
    .exact hk.elim
  .exact hk.elim
 .exact hk.elim
end
end Go.Eng
