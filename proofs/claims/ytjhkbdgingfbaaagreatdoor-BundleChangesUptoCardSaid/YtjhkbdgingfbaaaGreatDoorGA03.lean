/- Lemmas 3. -/
import Derived.Test.YtjhkbdgingfbaaaGreatDoorGA02
namespace Go.Eng
open Go.RowKit (Below)
variable {w:World}{U:Nat->Prop}{x:Value}{g:Gh}{w':World}{av:AV}{g':Gh}
theorem Bo.mono(hk:DO g w g' w')(h:Bo g w U av x) :
  ∀{U' : Nat->Prop},(∀i,U i->U' i)->Ho g g' U->Bo g' w' U' av x:=by
 induction h with
 |v U x=>intro U' _ _;exact .v U' x
 |junk U x=>intro U' _ _;exact .junk U' x
 |snil U a cap=>intro U' _ _;exact .snil U' a cap
 |slice U es b off sz cap val hc hl Cm Dd ih=>
  intro U' _ _;refine .slice U' es b off sz cap val hc hl (fun i cs j av h1 h2=>?_) (fun i cs j av h1 h2=>ih i cs j av h1 h2 (fun _ h=>h) (fun _ h=>h.elim));obtain⟨a1,a2,a3⟩:=Cm i cs j av h1 h2;obtain⟨k1,k2,_⟩:=hk _ _ a1;exact⟨k1,k2.trans a2,a3⟩
 |tok U r sz es x h hl hu ht hn hx ih=>
  intro U' hU hg;obtain⟨g1,g2,g3,g4⟩:=hg r hu;refine .tok U' r sz es x (ih hU hg) hl (hU r hu) (g1.trans ht) (AP hn g2) (fun e=>?_);have e1:g'.ln r=g.ln r:=by omega
  rw[g4 e1];exact hx sP
 |ver U r sz v es x h hl hu ht hn hx ih=>
  intro U' hU hg;obtain⟨g1,g2,g3,g4⟩:=hg r hu;refine .ver U' r sz v es x (ih hU hg) hl (hU r hu) (g1.trans ht) (AP hn g2) (fun e=>?_);have e1:g'.ln r=g.ln r:=by omega
  rw[g4 e1];exact hx sP
 |full U sz es x h hl hx ih=>
  intro U' hU hg;exact .full U' sz es x (ih hU hg) hl hx
 |msl U r n a cap hu ht hn ha hx=>
  intro U' hU hg;obtain⟨g1,g2,g3,g4⟩:=hg r hu;refine .msl U' r n a cap (hU r hu) (g1.trans ht) (AP hn g2) ha (fun e=>?_);have e1:g'.ln r=g.ln r:=by omega
  rw[g4 e1];exact hx sP
 |agg U cs vs hs h1 h ih=>intro U' hU hg;exact .agg U' cs vs hs h1 (fun i av x a b=>ih i av x a b hU hg)
 |tup U cs vs hs h ih=>intro U' hU hg;exact .tup U' cs vs hs (fun i av x a b=>ih i av x a b hU hg)
 |cptr U cs b off val Cm Dd ih=>
  intro U' _ _;refine .cptr U' cs b off val (fun j av h=>?_) (fun j av h=>ih j av h (fun _ h=>h) (fun _ h=>h.elim));obtain⟨a1,a2,a3⟩:=Cm j av h;obtain⟨k1,k2,_⟩:=hk _ _ a1;exact⟨k1,k2.trans a2,a3⟩
 |ref U r off b hu ht hx=>
  intro U' hU hg;obtain⟨g1,g2,g3,g4⟩:=hg r hu;exact .ref U' r off b (hU r hu) (g1.trans ht) ((g3 ht).trans hx)
 |eref U r n sz i off b cap hu ht hn hx=>
  intro U' hU hg;obtain⟨g1,g2,g3,g4⟩:=hg r hu;refine .eref U' r n sz i off b cap (hU r hu) (g1.trans ht) ⟨hn.1,by omega⟩ (fun e=>?_);have e1:g'.ln r=g.ln r:=by omega
  rw[g4 e1];exact hx sP
 |mref U r b hu ht hx=>
  intro U' hU hg;obtain⟨g1,g2,g3,g4⟩:=hg r hu;exact .mref U' r b (hU r hu) (g1.trans ht) ((g3 ht).trans hx)
 |cmap U sh BK b es ck hS hb hm h ih=>
  intro U' _ _;obtain⟨k1,k2,k3⟩:=hk _ _ hS;exact .cmap U' sh BK b es ck k1 (k3 es ck hb) hm (fun i kv e a b=>ih i kv e a b (fun _ h=>h) (fun _ h=>h.elim))
 |clo U f cs vs hs h ih=>intro U' hU hg;exact .clo U' f cs vs hs (fun i av x a b=>ih i av x a b hU hg)
theorem DO.refl(g:Gh)(w:World):DO g w g w:=fun _ _ h=>⟨h,rfl,fun _ _ h=>h⟩
theorem DO.trans{g g1 g2:Gh}{w w1 w2:World}(h:DO g w g1 w1)(k:DO g1 w1 g2 w2):DO g w g2 w2:=fun b o hS=>
 let ⟨a1,a2,a3⟩:=h b o hS
 let ⟨b1,b2,b3⟩:=k b o a1
 ⟨b1,b2.trans a2,fun es ck he=>b3 es ck (a3 es ck he)⟩
theorem Ho.refl(g:Gh)(U:Nat->Prop):Ho g g U:=fun _ _=>⟨rfl,Ad _,fun _=>rfl,fun _=>rfl⟩
theorem Ho.trans{g g1 g2:Gh}{U U1:Nat->Prop}(h:Ho g g1 U)(hU:∀i,U i->U1 i)(k:Ho g1 g2 U1):Ho g g2 U:=fun i hi=>by
 obtain⟨a1,a2,a3,a4⟩:=h i hi;obtain⟨b1,b2,b3,b4⟩:=k i (hU i hi);exact⟨b1.trans a1,AP a2 b2,fun e=>(b3 (a1.trans e)).trans (a3 e),fun e=>(b4 sP).trans (a4 sP)⟩
theorem Le.refl(h:Nat->HO)(g:Gh)(w:World):Le h g w h g w:=⟨.refl _ _,fun _ h=>h,.refl _ _⟩
theorem Le.trans{h h1 h2:Nat->HO}{g g1 g2:Gh}{w w1 w2:World}(a:Le h g w h1 g1 w1)(b:Le h1 g1 w1 h2 g2 w2):Le h g w h2 g2 w2:=
 ⟨a.gh.trans a.us b.gh,fun i hi=>b.us i (a.us i hi),a.keeps.trans b.keeps⟩
theorem Bo.le{h h' : Nat->HO}(k:Le h g w h' g' w')(r:Bo g w (AD h) av x):Bo g' w' (AD h') av x:=
 r.mono k.keeps k.us k.gh
theorem Bo.up(r:Bo g w D2 av x)(U:Nat->Prop):Bo g w U av x:=
 r.mono (.refl g w) (fun _ h=>h.elim) (.refl g _)
theorem B3.mono{g g' : Gh}{w w' : World}{U U' : Nat->Prop}{cs:List AV}{vs:List Value}(r:B3 g w U cs vs)(hk:DO g w g' w')(hU:∀i,U i->U' i)(hg:Ho g g' U):B3 g' w' U' cs vs:=
 ⟨r.1,r.2.1,fun i av x h1 h2=>(r.2.2 i av x h1 h2).mono hk hU hg⟩
theorem Bo.cptr_drop{cs:List AV}{b off:Nat}(n:Nat)(h:Bo g w U (.cptr cs) (.pointer (some ⟨b,off,none⟩))) :
  Bo g w U (.cptr (cs.drop n)) (.pointer (some ⟨b,off+n,none⟩)):=by
 cases h with
 |cptr _ _ _ _ val Cm Dd=>
  refine .cptr U _ b (off+n) (fun j=>val (n+j)) (fun j av h=>?_) (fun j av h=>?_)
  .rw[BW]at h
   have:=Cm _ _ h
   rwa [<-ET]at this
  .rw[BW]at h;exact Dd _ _ h
theorem Bo.slice_none{tk:Tk}{es:List (List AV)}(h:Bo g w U (.slice tk es) x):Bo g w D2 (.slice .none es) x:=by
 cases h with
 |snil U a cap=>exact .snil D2 a cap
 |slice U es b off sz cap val hc hl Cm Dd=>exact .slice D2 es b off sz cap val hc hl Cm Dd
 |tok U r sz es x h=>cases h with
  |snil U a cap=>exact .snil D2 a cap
  |slice U es b off sz cap val hc hl Cm Dd=>exact .slice D2 es b off sz cap val hc hl Cm Dd
 |ver U r sz v es x h=>cases h with
  |snil U a cap=>exact .snil D2 a cap
  |slice U es b off sz cap val hc hl Cm Dd=>exact .slice D2 es b off sz cap val hc hl Cm Dd
 |full U sz es x h=>cases h with
  |snil U a cap=>exact .snil D2 a cap
  |slice U es b off sz cap val hc hl Cm Dd=>exact .slice D2 es b off sz cap val hc hl Cm Dd
theorem Bo.str0{g:Gh}{w:World}{h:Nat->HO}(ho:∀r,C3 g w (AD h) r (h r)){av:AV}{x:Value}(r:Bo g w (AD h) av x):Bo g w D2 (str0 h av) x:=by
 cases av with
 |v y=>cases r;exact .v _ _
 |slice tk es=>exact r.slice_none
 |ref i off=>
  simp only[Eng.str0];split
  .rename_i cs hc;have h1:=ho i;rw[hc]at h1;obtain⟨ht,b,hb,hr⟩:=h1;cases r with
   |ref _ _ _ b' hu ht' hx=>
    rw[hb]at hx;cases hx;simpa using hr.cptr_drop off
  .exact .junk _ _
 |mref i=>
  simp only[Eng.str0];split
  .rename_i sh BK hc;have h1:=ho i;rw[hc]at h1;obtain⟨ht,b,hb,hr⟩:=h1;cases r with
   |mref _ _ b' hu ht' hx=>
    rw[hb]at hx;cases hx;exact hr
  .exact .junk _ _
 |cptr cs=>cases r with |cptr _ _ b off val Cm Dd=>exact .cptr _ _ b off val Cm Dd
 |cmap sh m=>cases r with |cmap _ _ _ b es ck hS hb hm hh=>exact .cmap _ _ _ b es ck hS hb hm hh
 |_=>exact .junk _ _
theorem Bo.str{g:Gh}{w:World}{h:Nat->HO}(ho:∀r,C3 g w (AD h) r (h r)){av:AV}{x:Value}(r:Bo g w (AD h) av x):Bo g w D2 (str h av) x:=by
 cases av with
 |agg cs=>cases r with
  |agg _ _ vs hs h1 hr=>
   refine .agg _ _ vs (by simpa using hs) h1 (fun i av x a b=>?_);rw[Ap,Ay]at a;obtain⟨je,a',rfl⟩:=a;exact(hr i je x a' b).str0 ho
 |clo f cs=>cases r with
  |clo _ _ _ vs hs hr=>
   refine .clo _ f _ vs (by simpa using hs) (fun i av x a b=>?_);rw[Ap,Ay]at a;obtain⟨je,a',rfl⟩:=a;exact(hr i je x a' b).str0 ho
 |v y=>exact r.str0 ho
 |slice tk es=>exact r.str0 ho
 |ref i off=>exact r.str0 ho
 |mref i=>exact r.str0 ho
 |cptr cs=>exact r.str0 ho
 |cmap sh m=>exact r.str0 ho
 |msl i n=>exact r.str0 ho
 |tup cs=>exact r.str0 ho
 |eref i n z j o=>exact r.str0 ho
 |junk=>exact r.str0 ho
theorem Bo.rsv{g:Gh}{w:World}{h:Nat->HO}(ho:∀r,C3 g w (AD h) r (h r)){av:AV}{x:Value}(r:Bo g w (AD h) av x):Bo g w (AD h) (rsv h av) x:=by
 cases av with
 |ref i off=>
  simp only[Eng.rsv];split
  .rename_i cs hc
   have:=r.str0 ho
   simp only[Eng.str0,hc]at this;exact this.up _
  .exact r
 |mref i=>
  simp only[Eng.rsv];split
  .rename_i sh BK hc
   have:=r.str0 ho
   simp only[Eng.str0,hc]at this;exact this.up _
  .exact r
 |_=>exact r
end Go.Eng
namespace Go.Eng
variable {U:Nat->Prop}{X Y:Operand}{t:Nat}{α:Type}{op:BinOp}{k:IntKind}{vx:Value}{g:Gh}{x:Value}{k':IntKind}{vs:Array Value}{w':World}{m:Sem Value}{vy:Value}{f:Nat×Nat}{b:Bool}{cs:List AV}{e:Nat}{E:TypeId}{g':Gh}(l:List α)(P:Program)(w:World)(o:Nat)
def Gh.upd(g:Gh)(r:Nat)(x:Value)(n:Nat)(t:Bool)(o:Option Nat)(S:Nat->Nat->Prop):Gh:=
 ⟨fun i=>if i=r then x else g.ρ i,fun i=>if i=r then n else g.ln i,fun i=>if i=r then t else g.tk i,fun i=>if i=r then o else g.own i,S⟩
theorem B4{i r:Nat}(h:i≠r):Nat.beq i r=false:=by
 cases e:Nat.beq i r with
 |false=>rfl
 |true=>exact absurd (AB e) h
theorem AM(h:Nat->HO)(r:Nat)(o:HO):AH h r o r=o:=by
 have:Nat.beq r r=true:=CK r
 simp only[AH,this,IJ]
theorem Bs(h:Nat->HO)(r i:Nat)(o:HO)(hi:i≠r):AH h r o i=h i:=by
 simp only[AH,B4 hi,DU]
theorem CV{h:Nat->HO}{r:Nat}{o:HO}(ho:o≠.free)(i:Nat)(hi:AD h i):AD (AH h r o) i:=by
 by_cases e:i=r
 .subst e;unfold AD;rw[AM];exact ho
 .unfold AD;rw[Bs _ _ _ _ e];exact hi
theorem QF.keep{w:World}(h:QF g w)(hk:DO g w g' w'):QF g' w':=by
 obtain⟨⟨h1,m,h2⟩,h3⟩:=h;obtain⟨k1,k2,_⟩:=hk _ _ h1;refine⟨⟨k1,m,k2.trans h2⟩,fun x hx=>?_⟩;obtain⟨e1,e2,_⟩:=hk _ _ (h3 x hx).1;exact⟨e1,e2.trans (h3 x hx).2⟩
theorem C3.same{w:World}{U':Nat->Prop}{r:Nat}{o:HO}(h:C3 g w U r o)(hk:DO g w g' w')(hU:∀i,U i->U' i)(hg:Ho g g' U)(h1:g'.ρ r=g.ρ r)(h2:g'.ln r=g.ln r)(h3:g'.tk r=g.tk r)(h4:g'.own r=g.own r)(hb:∀b,o.live->g.own r=some b->w'.heap[b]?=w.heap[b]?/\∀k,g'.S b k->g.S b k):C3 g' w' U' r o:=by
 cases o with
 |free=>trivial
 |dead=>trivial
 |cells cs=>
  obtain⟨t,b,E,vs,a1,a2,a3,a4,a5⟩:=h;obtain⟨c1,c2⟩:=hb b trivial a1;exact⟨h3.trans t,b,E,vs,h4.trans a1,h1.trans a2,c1.trans a3,a4.mono hk hU hg,fun k hk'=>a5 k (c2 k hk')⟩
 |ro cs=>
  obtain⟨t,b,a1,a2⟩:=h;exact⟨h3.trans t,b,h1.trans a1,a2.mono hk (fun _ h=>h) (fun _ h=>h.elim)⟩
 |tok sz n=>
  obtain⟨t,l,a,cap,a1,a2⟩:=h;refine⟨h3.trans t,h2.trans l,a,cap,h1.trans a1,?_⟩;rcases a2 with ⟨e1,e2⟩ | ⟨e1,b,E,vs,off,e2,e3,e4,e5,e6⟩
  .exact .inl ⟨e1,h4.trans e2⟩
  .obtain⟨c1,c2⟩:=hb b trivial e3;exact .inr ⟨e1,b,E,vs,off,e2,h4.trans e3,e4.eq c1,e5,fun o ho=>e6 o (c2 o ho)⟩
 |var sz v n=>
  obtain⟨t,l,a,cap,a1,a2⟩:=h;refine⟨h3.trans t,h2.trans l,a,cap,h1.trans a1,?_⟩;rcases a2 with ⟨e1,e2⟩ | ⟨e1,b,E,vs,off,e2,e3,e4,e5,e6⟩
  .exact .inl ⟨e1,h4.trans e2⟩
  .obtain⟨c1,c2⟩:=hb b trivial e3;exact .inr ⟨e1,b,E,vs,off,e2,h4.trans e3,e4.eq c1,e5,fun o ho=>e6 o (c2 o ho)⟩
 |vox v=>exact⟨h3.trans h.1,h2.trans h.2⟩
 |hol sz es i c av=>
  obtain⟨t,l,a0,b,cap,E,vs,e1,e2,e3,e4,e5,e6,e7,e8,x,e9,jI⟩:=h;obtain⟨c1,c2⟩:=hb b trivial e2;exact⟨h3.trans t,h2.trans l,a0,b,cap,E,vs,h1.trans e1,h4.trans e2,e3,c1.trans e4,e5,e6.mono hk (fun _ h=>h) (fun _ h=>h.elim),fun o ho=>e7 o (c2 o ho),e8,x,e9,jI.mono hk hU hg⟩
 |bld x=>
  obtain⟨t,b,p,v,a1,a2,a3,a4,a5,a6⟩:=h;obtain⟨c1,c2⟩:=hb b trivial a1;exact⟨h3.trans t,b,p,v,h4.trans a1,h1.trans a2,c1.trans a3,a4,a5.mono hk hU hg,fun k hk'=>a6 k (c2 k hk')⟩
 |bbf n=>
  obtain⟨t,l,a1⟩:=h;refine⟨h3.trans t,h2.trans l,?_⟩;rcases a1 with ⟨e0,e1,e2⟩ | ⟨b,cap,Cl,e1,e2,e3,e4,e5,e6,e7⟩
  .exact .inl ⟨e0,h1.trans e1,h4.trans e2⟩
  .obtain⟨c1,c2⟩:=hb b trivial e2;exact .inr ⟨b,cap,Cl,h1.trans e1,h4.trans e2,e3,e4,c1.trans e5,e6,fun o ho=>e7 o (c2 o ho)⟩
 |raw b ob=>
  obtain⟨t,a1,a2,a3,a4⟩:=h;obtain⟨c1,c2⟩:=hb b trivial a1;exact⟨h3.trans t,h4.trans a1,c1.trans a2,a3,fun k hk'=>a4 k (c2 k hk')⟩
 |arr sz es=>
  obtain⟨t,l,a0,a1⟩:=h;refine⟨h3.trans t,h2.trans l,a0,?_⟩;rcases a1 with ⟨e1,e2,e3⟩ | ⟨b,cap,E,vs,e1,e2,e3,e4,e5,e6,e7⟩
  .exact .inl ⟨e1,h1.trans e2,h4.trans e3⟩
  .obtain⟨c1,c2⟩:=hb b trivial e2;exact .inr ⟨b,cap,E,vs,h1.trans e1,h4.trans e2,e3,c1.trans e4,e5,e6.mono hk (fun _ h=>h) (fun _ h=>h.elim),fun o ho=>e7 o (c2 o ho)⟩
 |map sh BK=>
  obtain⟨t,b,es,ck,a1,a2,a3,a4,a5,a6⟩:=h;obtain⟨c1,c2⟩:=hb b trivial a1;exact⟨h3.trans t,b,es,ck,h4.trans a1,h1.trans a2,c1.trans a3,a4,fun i kv e p q=>(a5 i kv e p q).mono hk (fun _ h=>h) (fun _ h=>h.elim),fun k hk'=>a6 k (c2 k hk')⟩
 |mapU sh BK=>
  obtain⟨t,b,es,ck,a1,a2,a3,a4,a5,a6⟩:=h;obtain⟨c1,c2⟩:=hb b trivial a1;exact⟨h3.trans t,b,es,ck,h4.trans a1,h1.trans a2,c1.trans a3,a4,fun i kv e p q=>(a5 i kv e p q).mono hk hU hg,fun k hk'=>a6 k (c2 k hk')⟩
 |rom sh BK=>
  obtain⟨t,b,a1,a2⟩:=h;exact⟨h3.trans t,b,h1.trans a1,a2.mono hk (fun _ h=>h) (fun _ h=>h.elim)⟩
 |iter all rem Cl=>
  obtain⟨t,b,mb,Ia,seen,st,es,ck,a1,a2,a3,a4,a5,a6,a7,a8,a9,RQ,UR,a12,eK⟩:=h;obtain⟨c1,c2⟩:=hb b trivial a1;obtain⟨k1,k2,k3⟩:=hk _ _ a4
  exact⟨h3.trans t,b,mb,Ia,seen,st,es,ck,h4.trans a1,h1.trans a2,c1.trans a3,k1,k3 _ _ a5,a6,a7,a8,
   fun i kv e p q=>(a9 i kv e p q).mono hk (fun _ h=>h) (fun _ h=>h.elim),RQ,UR,a12,fun k hk'=>eK k (c2 k hk')⟩
theorem Do.upd{w0:World}{g0:Gh}{h0 h:Nat->HO}{g:Gh}{w:World}(hI:Do w0 g0 h0 h g w)(r:Nat)(o' : HO)(x:Value)(n:Nat)(t:Bool)(ow:Option Nat)(S' : Nat->Nat->Prop)(w' : World)
  (aT:Option Nat) (bf:w'.os=w.os/\w'.tape=w.tape/\w'.output=w.output/\w.heap.size<=w'.heap.size)
  (N2:∀k,k<w.heap.size->some k≠aT->w'.heap[k]?=w.heap[k]?)
  (pQ:∀b,aT=some b->(h r).live/\g.own r=some b)
  (hS:∀b o,g.S b o->S' b o)
  (jQ : ∀b o,S' b o->g.S b o\/(b<w'.heap.size/\(w.heap.size<=b\/((h r).live/\g.own r=some b))))
  (rt:∀b o,aT=some b->g.S b o->w'.cell? ⟨b,o,none⟩=w.cell? ⟨b,o,none⟩/\∀es ck,w.heap[b]?=some (.map es ck)->w'.heap[b]?=some (.map es ck))
  (kz:∀b,o'.live->ow=some b->b<w'.heap.size/\(((h r).live/\g.own r=some b)\/w.heap.size<=b))
  (Dn:o'≠.free) (rm:AD h r->t=g.tk r/\g.ln r<=n/\(g.tk r=false->x=g.ρ r)/\(n=g.ln r->x=g.ρ r))
  (G0:Ho g (g.upd r x n t ow S') (AD h)->DO g w (g.upd r x n t ow S') w'->C3 (g.upd r x n t ow S') w' (AD (AH h r o')) r o') :
  Do w0 g0 h0 (AH h r o') (g.upd r x n t ow S') w'/\Le h g w (AH h r o') (g.upd r x n t ow S') w':=by
 have lV:∀b o,S' b o->g.S b o\/(b<w'.heap.size/\∀r',r'≠r->(h r').live->g.own r'≠some b):=fun b o hs=>by
  rcases jQ b o hs with h1 | ⟨h1,h2⟩
  .exact .inl h1
  .refine .inr ⟨h1,fun r' hr hl e=>?_⟩;rcases h2 with h2 | ⟨h2,h3⟩
   .have:=(hI.loc r' b hl e).1;omega
   .exact hr (hI.inj r' r b hl h2 e h3)
 have XH:Ho g (g.upd r x n t ow S') (AD h):=by
  intro i hi
  by_cases e:i=r
  .subst e;obtain⟨h1,h2,h3,h4⟩:=rm hi;simp only[Gh.upd,if_true];exact⟨h1,h2,h3,h4⟩
  .refine⟨by simp[Gh.upd,e],by simp[Gh.upd,e],fun _=>by simp[Gh.upd,e],fun _=>by simp[Gh.upd,e]⟩
 have hK:DO g w (g.upd r x n t ow S') w':=by
  intro b o hb;refine⟨hS b o hb,?_⟩
  by_cases e:aT=some b
  .exact rt b o e hb
  .have Dc:=hI.slt b o hb;have cu:=N2 b Dc (fun e'=>e e'.symm);exact⟨by simp only[World.cell?,cu],fun es ck he=>cu.trans he⟩
 have IP:∀i,AD h i->AD (AH h r o') i:=fun i hi=>CV Dn i hi;refine⟨⟨bf.1.trans hI.os,bf.2.1.trans hI.tape,bf.2.2.1.trans hI.output,AP hI.size bf.2.2.2,fun b hb hn=>?_,fun b o hb=>?_,fun i=>?_,fun i j b hi hj ei ej=>?_,fun i b hi ei=>?_,fun b o hs=>?_,hI.glob.keep hK⟩,XH,IP,hK⟩
 .have Dc:b<w.heap.size:=CL hb hI.size;have ov:some b≠aT:=fun e=>by
   obtain⟨l1,l2⟩:=pQ b e.symm;rcases(hI.loc r b l1 l2).2 with h1 | ⟨r',h1,h2⟩
   .omega
   .exact hn r' h1 h2
  exact(N2 b Dc ov).trans (hI.frame b hb hn)
 .rcases lV b o hb with h1 | h1
  .exact CL (hI.slt b o h1) bf.2.2.2
  .exact h1.1
 .by_cases e:i=r
  .subst e;rw[AM];exact G0 XH hK
  .rw[Bs _ _ _ _ e];refine(hI.objs i).same hK IP XH (by simp[Gh.upd,e]) (by simp[Gh.upd,e]) (by simp[Gh.upd,e]) (by simp[Gh.upd,e]) (fun b hl hb=>?_);have Dc:=(hI.loc i b hl hb).1;refine⟨N2 b Dc (fun e'=>?_),fun k hk=>?_⟩
   .obtain⟨l1,l2⟩:=pQ b e'.symm;exact e (hI.inj i r b hl l1 hb l2)
   .rcases lV b k hk with h1 | h1
    .exact h1
    .exact absurd hb (h1.2 i e hl)
 .have key:∀k,k≠r->(AH h r o' k).live->(h k).live:=fun k hk hl=>by rwa [Bs _ _ _ _ hk]at hl
  by_cases e1:i=r<;>by_cases e2:j=r
  .exact e1.trans e2.symm
  .subst e1;simp only[Gh.upd,if_true,Aj e2]at ei ej;rw[AM]at hi;have hl:=key j e2 hj;rcases(kz b hi ei).2 with ⟨q1,q2⟩ | q
   .exact hI.inj i j b q1 hl q2 ej
   .have:=(hI.loc j b hl ej).1;omega
  .subst e2;simp only[Gh.upd,if_true,Aj e1]at ei ej;rw[AM]at hj;have hl:=key i e1 hi;rcases(kz b hj ej).2 with ⟨q1,q2⟩ | q
   .exact hI.inj i j b hl q1 ei q2
   .have:=(hI.loc i b hl ei).1;omega
  .simp only[Gh.upd,Aj e1,Aj e2]at ei ej;exact hI.inj i j b (key i e1 hi) (key j e2 hj) ei ej
 .by_cases e:i=r
  .subst e;simp only[Gh.upd,if_true]at ei;rw[AM]at hi;obtain⟨q0,q⟩:=kz b hi ei;refine⟨q0,?_⟩;rcases q with ⟨q1,q2⟩ | q
   .exact(hI.loc i b q1 q2).2
   .exact .inl (AP hI.size q)
  .simp only[Gh.upd,Aj e]at ei;rw[Bs _ _ _ _ e]at hi;obtain⟨l1,l2⟩:=hI.loc i b hi ei;exact⟨CL l1 bf.2.2.2,l2⟩
 .rcases jQ b o hs with h1 | ⟨_,h2⟩
  .exact hI.sg b o h1
  .rcases h2 with h2 | ⟨h2,h3⟩
   .exact .inr (.inl (AP hI.size h2))
   .exact .inr (hI.loc r b h2 h3).2
theorem Do.heapEq{w0:World}{g0:Gh}{h0 h:Nat->HO}{w:World}(hI:Do w0 g0 h0 h g w)(bf:w'.os=w.os/\w'.tape=w.tape/\w'.output=w.output)(hh:w'.heap=w.heap) :
  Do w0 g0 h0 h g w'/\Le h g w h g w':=by
 have hc:∀a,w'.cell? a=w.cell? a:=fun a=>by simp only[World.cell?,hh]
 have hK:DO g w g w':=fun b o hb=>⟨hb,hc _,fun es ck he=>by rw[hh];exact he⟩;refine⟨⟨bf.1.trans hI.os,bf.2.1.trans hI.tape,bf.2.2.trans hI.output,by rw[hh];exact hI.size,fun b hb hn=>by rw[hh];exact hI.frame b hb hn,fun b o hb=>by rw[hh];exact hI.slt b o hb,fun r=>?_,hI.inj,fun r b h1 h2=>by rw[hh];exact hI.loc r b h1 h2,hI.sg,hI.glob.keep hK⟩,.refl _ _,fun _ h=>h,hK⟩;exact(hI.objs r).same hK (fun _ h=>h) (.refl _ _) rfl rfl rfl rfl (fun b _ _=>⟨by rw[hh],fun _ h=>h⟩)
def Kz:TypeDesc->TD
 |.bool=>.bool
 |.int k=>.int k
 |.string=>.string
 |.slice e=>.slice e
 |.array n e=>.array n e
 | .struct fs => bif fs.any (fun f => f.name == "_") then .other else .struct (fs.toList.map fun f => (f.type, f.offset))
 |.pointer e=>.ptr e
 |.map k e=>.map k e
 |.func ..=>.func
 |.interface _=>.iface
 |_=>.other
def Xz(t:Nat):TI:=
 match P.underlying t,P.info? t with
 |some d,some i=>match i.zero with
  |some z=>⟨Kz d,i.size,i.bytes,z,!P.stoodInHeld t&&!P.eqGuardType P.depth t⟩
  |none=>⟨.other,0,0,.nilIface,false⟩
 |_,_=>⟨.other,0,0,.nilIface,false⟩
def Hc:TD->Bool
 |.struct _=>true
 |.array _ _=>true
 |_=>false
theorem TI.zc_cells(i:TI):i.zc=i.zero.cells.toList:=by
 unfold TI.zc Value.cells;cases i.zero<;>rfl
def UP:TI:=⟨.other,0,0,.nilIface,false⟩
def B7(T:EU):Prop:=∀t,T t=UP\/T t=Xz P t
section
variable {P:Program}{T:EU}(hT:B7 P T)
include hT
theorem B7.get(h:(T t).d≠.other):∃d i z,P.underlying t=some d/\(T t).d=Kz d/\P.info? t=some i/\i.zero=some z/\(T t).size=i.size/\(T t).bytes=i.bytes /\
  (T t).zero=z/\((T t).eqok=true->P.stoodInHeld t=false/\P.eqGuardType P.depth t=false):=by
 rcases hT t with e | e
 .rw[e]at h;exact absurd rfl h
 unfold Xz at e;split at e
 .split at e
  .rename_i d i h1 h2 _ z h3;exact⟨d,i,z,h1,by rw[e],h2,h3,by rw[e],by rw[e],by rw[e],fun he=>by rw[e]at he;simpa using he⟩
  .rw[e]at h;exact absurd rfl h
 .rw[e]at h;exact absurd rfl h
end
theorem DJ(fs:Array Field):Kz (.struct fs)=.other\/Kz (.struct fs)=.struct (fs.toList.map fun f=>(f.type,f.offset)):=by
 have e : Kz (.struct fs) = bif fs.any (fun f => f.name == "_") then .other else .struct (fs.toList.map fun f => (f.type, f.offset)) := rfl
 rw [e];cases fs.any (fun f => f.name == "_")
 .exact .inr rfl
 .exact .inl rfl
section
variable {P:Program}{T:EU}(hT:B7 P T)
include hT
theorem B7.slice{t e:Nat}(h:(T t).d=.slice e):P.underlying t=some (.slice e):=by
 obtain⟨d,i,z,h1,h2,_⟩:=hT.get (t:=t) (by rw[h];simp);rw[h]at h2;cases d with
 |struct fs=>rcases DJ fs with e |e<;>rw[e]at h2<;>cases h2
 |_=>simp[Kz]at h2<;>(subst h2;exact h1)
theorem B7.string{t:Nat}(h:(T t).d=.string):P.underlying t=some .string:=by
 obtain⟨d,i,z,h1,h2,_⟩:=hT.get (t:=t) (by rw[h];simp);rw[h]at h2;cases d with
 |struct fs=>rcases DJ fs with e |e<;>rw[e]at h2<;>cases h2
 |_=>first |exact h1 |(simp[Kz]at h2;done)
theorem B7.bool{t:Nat}(h:(T t).d=.bool):P.underlying t=some .bool:=by
 obtain⟨d,i,z,h1,h2,_⟩:=hT.get (t:=t) (by rw[h];simp);rw[h]at h2;cases d with
 |struct fs=>rcases DJ fs with e |e<;>rw[e]at h2<;>cases h2
 |_=>first |exact h1 |(simp[Kz]at h2;done)
theorem B7.int{t:Nat}{k:IntKind}(h:(T t).d=.int k):P.underlying t=some (.int k):=by
 obtain⟨d,i,z,h1,h2,_⟩:=hT.get (t:=t) (by rw[h];simp);rw[h]at h2;cases d with
 |struct fs=>rcases DJ fs with e |e<;>rw[e]at h2<;>cases h2
 |_=>simp[Kz]at h2<;>(subst h2;exact h1)
theorem B7.ptr(h:(T t).d=.ptr e):P.underlying t=some (.pointer e):=by
 obtain⟨d,i,z,h1,h2,_⟩:=hT.get (t:=t) (by rw[h];simp);rw[h]at h2;cases d with
 |struct fs=>rcases DJ fs with e |e<;>rw[e]at h2<;>cases h2
 |_=>simp[Kz]at h2<;>(subst h2;exact h1)
theorem B7.iface(h:(T t).d=.iface):∃ms,P.underlying t=some (.interface ms):=by
 obtain⟨d,i,z,h1,h2,_⟩:=hT.get (t:=t) (by rw[h];simp);rw[h]at h2;cases d with
 |struct fs=>rcases DJ fs with e |e<;>rw[e]at h2<;>cases h2
 |interface ms=>exact⟨ms,h1⟩
 |_=>simp[Kz]at h2
theorem B7.map{t k e:Nat}(h:(T t).d=.map k e):P.underlying t=some (.map k e):=by
 obtain⟨d,i,z,h1,h2,_⟩:=hT.get (t:=t) (by rw[h];simp);rw[h]at h2;cases d with
 |struct fs=>rcases DJ fs with e |e<;>rw[e]at h2<;>cases h2
 |_=>simp[Kz]at h2<;>(obtain⟨rfl,rfl⟩:=h2;exact h1)
theorem B7.array{t n e:Nat}(h:(T t).d=.array n e):P.underlying t=some (.array n e):=by
 obtain⟨d,i,z,h1,h2,_⟩:=hT.get (t:=t) (by rw[h];simp);rw[h]at h2;cases d with
 |struct fs=>rcases DJ fs with e |e<;>rw[e]at h2<;>cases h2
 |_=>simp[Kz]at h2<;>(obtain⟨rfl,rfl⟩:=h2;exact h1)
theorem B7.struct {t : Nat} {fs : List (Nat × Nat)} (h : (T t).d = .struct fs) : ∃ fa : Array Field, P.underlying t = some (.struct fa) /\ fs = fa.toList.map (fun f => (f.type, f.offset)) /\ ∀ f ∈ fa.toList, f.name ≠ "_" := by
 obtain⟨d,i,z,h1,h2,_⟩:=hT.get (t:=t) (by rw[h];simp);rw[h]at h2;cases d with
 |struct fa=>
  refine⟨fa,h1,?_,?_⟩
  .rcases DJ fa with e | e<;>rw[e]at h2<;>cases h2;rfl
  .change TD.struct fs = (bif fa.any (fun f => f.name == "_") then .other else .struct (fa.toList.map fun f => (f.type, f.offset))) at h2
   cases hh : fa.any (fun f => f.name == "_") with
   |true=>rw[hh]at h2;cases h2
   |false=>
    intro f hf e;rw[Array.any_eq_false]at hh;obtain⟨j,hj,rfl⟩:=A9.1 hf
    have:=hh j (by simpa using hj)
    simp at this;exact this (by simpa using e)
 |_=>simp[Kz]at h2
theorem B7.size(w:World){t:Nat}(h:(T t).d≠.other):(sizeOf t).run P w=.ok (T t).size w:=by
 obtain⟨d,i,z,h1,h2,h3,h4,h5,_⟩:=hT.get h;simp[sizeOf,typeInfo,h3,h5]
theorem B7.size1(w:World){n:Nat}(h:(T t).size=n+1):(sizeOf t).run P w=.ok (n+1) w:=by
 rcases hT t with e | e
 .rw[e]at h;cases h
 unfold Xz at e;split at e
 .split at e
  .rename_i d i h1 h2 _ z h3;rw[e]at h;dsimp only at h;simp[sizeOf,typeInfo,h2,h]
  .rw[e]at h;cases h
 .rw[e]at h;cases h
theorem B7.isAgg(w:World){t:Nat}(h:(T t).d≠.other):(isAgg t).run P w=.ok (Hc (T t).d) w:=by
 obtain⟨d,i,z,h1,h2,_⟩:=hT.get h;rw[h2];rw[h2]at h;cases d with
 |struct fs=>
  rcases DJ fs with e | e
  .exact absurd e h
  .rw[e];simp[Go.isAgg,run_underlying h1,Hc]
 |_=>simp[Go.isAgg,run_underlying h1,Kz,Hc]
end
def Bk(h:Nat->HO)(g:Gh)(w:World)(m:Sem Value)(K:AV->Prop):Prop:=∃x av,m.run P w=.ok x w/\K av/\Bo g w (AD h) av x
theorem Nu{p:Prop}{K:AV->Prop}(h:GB p K)(hb:b=true↔p):K (.v (.bool b)):=by
 cases b with
 |true=>exact h.1 (hb.1 rfl)
 |false=>exact h.2 (fun e=>by have:=hb.2 e;cases this)
theorem Hr(h:iQ k k'=true):k=k':=by cases k<;>cases k'<;>first | rfl | (simp[iQ]at h)
theorem JE{a:Int}(h:AE a):IntKind.i64.wrap a=a:=by
 unfold AE at h;simp[IntKind.wrap,IntKind.bits,IntKind.signed];omega
theorem Hp:∀l m:List UInt8,(Op.bytesLess l m||l == m)=!Op.bytesLess m l
 | [],[]=>rfl
 | [],_::_=>rfl
 |_::_,[]=>rfl
 |a::l,b::m=>by
  have ih:=Hp l m;simp only[Op.bytesLess];rcases EK a.toNat b.toNat with h | h | h
  .have h1:a<b:=h;have h2:¬b<a:=fun e=>by have:b.toNat<a.toNat:=e;omega
   have h3:b≠a:=fun e=>by subst e;omega
   simp[h1,h2,h3]
  .have h1:a=b:=EH.1 h;subst h1;simpa using ih
  .have h1:b<a:=h;have h2:¬a<b:=fun e=>by have:a.toNat<b.toNat:=e;omega
   have h3:a≠b:=fun e=>by subst e;omega
   simp[h1,h2,h3]
theorem G7(a b:ByteArray):(a.toList == b.toList)=true↔a=b:=by
 rw[ByteArray.toList_eq,ByteArray.toList_eq];constructor
 .intro h;have h1:=eq_of_beq h;cases a;cases b
  congr
  exact Ha h1
 .rintro rfl;simp
section
variable {P:Program}{T:EU}{h:Nat->HO}{g:Gh}{w:World}{K:AV->Prop}
theorem Bk.bool{p:Prop}(hm:m.run P w=.ok (.bool b) w)(hb:b=true↔p)(hk:GB p K):Bk P h g w m K:=
 ⟨_,_,hm,Nu hk hb,.v _ _⟩
theorem Bk.val(hm:m.run P w=.ok x w)(hk:K (.v x)):Bk P h g w m K:=⟨_,_,hm,hk,.v _ _⟩
theorem Ma{t:Nat}{a b:Int}(hk:OJ op k a b K) :
  Bk P h g w (do eqGuard op t X Y (.int k a) (.int k' b);binOp op t (.int k a) (.int k' b)) K:=by
 cases op
 case shl=>exact Bk.val (by simp[eqGuard,binOp,Op.shift,B0,Int.not_lt.2 hk.1]) hk.2
 case shr=>exact Bk.val (by simp[eqGuard,binOp,Op.shift,B0,Int.not_lt.2 hk.1]) hk.2
 all_goals exact hk.elim
theorem VT{t:Nat}{a b:Int}(hk:Ns op k a b K) :
  Bk P h g w (do eqGuard op t X Y (.int k a) (.int k b);binOp op t (.int k a) (.int k b)) K:=by
 have key:∀{k:IntKind},QN op k a b K->Bk P h g w (do eqGuard op t X Y (.int k a) (.int k b);binOp op t (.int k a) (.int k b)) K:=by
  intro k hk;cases op
  case quo=>
   obtain⟨⟨h1,h2,h3⟩,hk⟩:=hk;have hb:¬b=0:=by omega
   exact Bk.val (by simp[eqGuard,binOp,Op.intDiv,hb,Int.tdiv_eq_ediv_of_nonneg h1,h3]) hk
  case rem=>
   obtain⟨⟨h1,h2⟩,hk⟩:=hk;have hb:¬b=0:=by omega
   exact Bk.val (by simp[eqGuard,binOp,Op.intDiv,hb,Int.tmod_eq_emod_of_nonneg h1]) hk
  case shl=>exact Ma hk
  case shr=>exact Ma hk
  all_goals first | exact hk.elim | exact Bk.val (by simp[eqGuard,binOp,Op.intArith,Op.intBits,BV]) hk
 cases k with
 |i64=>
  unfold Ns at hk
  cases op<;>dsimp only at hk<;>first
   |exact hk.elim
   |(refine Bk.val ?_ hk.2;simp[eqGuard,binOp,Op.intArith,JE hk.1];done)
   |exact key (k:=.i64) hk
   |skip
  .obtain⟨⟨h1,h2,h3⟩,hk⟩:=hk;refine Bk.val ?_ hk;have e1:a.tdiv b=a / b:=Int.tdiv_eq_ediv_of_nonneg h1;have e3:a / b<=a:=Int.ediv_le_self b h1;have e2:IntKind.i64.wrap (a / b)=a / b:=JE ⟨by have:=Int.ediv_nonneg h1 (by omega:0<=b);omega,by unfold AE at h3;omega⟩;have hb:¬b=0:=by omega
   simp[eqGuard,binOp,Op.intDiv,hb,e1,e2]
 |_=>exact key hk
end
def F1(k:Nat):List α:=(l.drop o).take k
theorem Ir:∀{l:List KS} {vs:List Value},GS l vs=true->vs.length=l.length
 | [],[],_=>rfl
 |k::r,v::s,h=>by
  unfold GS at h;split at h
  .simp[Ir h]
  .cases h
theorem M7:∀{a b:List KS} {vs:List Value},GS (a++b) vs=true->GS a (vs.take a.length)=true/\GS b (vs.drop a.length)=true
 | [],b,vs,h=>⟨by cases vs<;>rfl,by simpa using h⟩
 |k::a,b,[],h=>by simp[GS]at h
 |k::a,b,v::vs,h=>by
  simp only[De,GS]at h;split at h
  .rename_i hk;obtain⟨h1,h2⟩:=M7 h;simp only[Am,JT,List.drop_succ_cons,GS,hk];exact⟨h1,h2⟩
  .cases h
theorem VE(k a b:Nat)(h:a+b<=k):F1 (F1 l o k) a b=F1 l (o+a) b:=by
 unfold F1;rw[List.drop_take,E3,HG]
 congr 1
 omega
theorem df(k:Nat):(F1 l o k).length=min k (l.length-o):=by simp[F1]
theorem Ls(k a:Nat)(h:a<=k):(F1 l o k).take a=F1 l o a:=by
 unfold F1;rw[HG];congr 1;omega
theorem Lr(k a:Nat):(F1 l o k).drop a=F1 l (o+a) (k-a):=by
 unfold F1;rw[List.drop_take,E3]
theorem Xp(m:List α)(o a b:Nat):(F1 l o (a+b)=F1 m o (a+b))↔(F1 l o a=F1 m o a/\F1 l (o+a) b=F1 m (o+a) b):=by
 constructor
 .intro h;constructor
  .rw[<-Ls l o (a+b) a sP,h,Ls m o (a+b) a sP]
  .have h1:=Aa (List.drop a) h;rw[Lr,Lr,E4]at h1;exact h1
 .rintro⟨h1,h2⟩
  have e:∀x:List α,F1 x o (a+b)=F1 x o a++F1 x (o+a) b:=fun x=>by
   unfold F1;rw[List.take_add,E3]
  rw[e,e,h1,h2]
section
variable {P:Program}{T:EU}(hT:B7 P T)
include hT
theorem CY(w:World)(hd:(T t).d≠.other)(hs:Hc (T t).d=false)(xs:Array Value)(o:Nat)(x:Value)(h:xs[o]?=some x) :
  (part t xs o).run P w=.ok x w:=by
 unfold part;simp[Sem.run_bind,hT.isAgg w hd,hs,h]
theorem EW(w:World)(hd:(T t).d≠.other)(hs:Hc (T t).d=true)(xs:Array Value)(o:Nat) :
  (part t xs o).run P w=.ok (.agg (xs.extract o (o+(T t).size))) w:=by
 unfold part;simp[Sem.run_bind,hT.isAgg w hd,hs,hT.size w hd]
def dz(P:Program)(w:World)(d t:Nat)(xs ys:Array Value)(o k:Nat):Prop:=
 ∃b:Bool,(do let a <-part t xs o;let b <-part t ys o;Op.equalIn d t a b).run P w=.ok b w/\(b=true↔F1 xs.toList o k=F1 ys.toList o k)
omit hT in
theorem Iv{xs:Array Value}{o:Nat}{k:KS}(h:GS [k] (F1 xs.toList o 1)=true):∃x,xs[o]?=some x/\J4 k x=true/\F1 xs.toList o 1=[x]:=by
 have hl:=Ir h;rw[df]at hl;simp at hl;have Dc:o<xs.size:=by omega
 have e:F1 xs.toList o 1=[xs[o]]:=by
  unfold F1;rw[AG (by simpa using Dc)];simp
 rw[e]at h;refine⟨xs[o],by simp[Dc],?_,e⟩;unfold GS at h;split at h
 .assumption
 .cases h
omit hT in
theorem JY{f:Nat->Option (List KS)}:∀{fs:List (Nat×Nat)} {n:Nat} {l:List KS},Kl f n fs=some l ->
  match fs with | []=>l=[] | (t,o)::r=>o=n/\∃a b,f t=some a/\Kl f (n+a.length) r=some b/\l=a++b
 | [],n,l,h=>by cases h;rfl
 |(t,o)::r,n,l,h=>by
  unfold Kl at h;split at h
  .rename_i ho;split at h
   .rename_i a ha;split at h
    .rename_i b hb;cases h;exact⟨AB ho,a,b,ha,hb,rfl⟩
    .cases h
   .cases h
  .cases h
omit hT in
theorem JW(w:World)(n d:Nat)(hB:∀t l,FH T n t=some l->∀xs ys o,GS l (F1 xs.toList o l.length)=true->GS l (F1 ys.toList o l.length)=true->dz P w d t xs ys o l.length) :
  ∀ (fa : List Field) (m : Nat) (l : List KS), (∀ f ∈ fa, f.name ≠ "_") -> Kl (FH T n) m (fa.map fun f => (f.type, f.offset)) = some l ->
   ∀xs ys:Array Value,GS l (F1 xs.toList m l.length)=true->GS l (F1 ys.toList m l.length)=true ->
    ∃b:Bool,(Op.eqFields d xs ys fa).run P w=.ok b w/\(b=true↔F1 xs.toList m l.length=F1 ys.toList m l.length)
 | [],m,l,_,h,xs,ys,_,_=>by
  cases h
  exact⟨true,rfl,by simp[F1]⟩
 |f::fa,m,l,hn,h,xs,ys,hx,hy=>by
  obtain⟨ho,a,b,ha,hb,rfl⟩:=JY h;rw[Ac]at hx hy⊢;obtain⟨x1,x2⟩:=M7 hx;obtain⟨y1,y2⟩:=M7 hy;rw[Ls _ _ _ _ sP]at x1 y1;rw[Lr,E4]at x2 y2;obtain⟨c,c1,c2⟩:=hB _ _ ha xs ys m x1 y1;obtain⟨e,e1,e2⟩:=JW w n d hB fa (m+a.length) b (fun f hf=>hn f (Ai _ hf)) hb xs ys x2 y2;have Dn:=hn f (Ab ..);have bD : (do let x <-part f.type xs f.offset;let y <-part f.type ys f.offset;Op.equalIn d f.type x y).run P w=.ok c w:=by rw[ho];exact c1
  have Ce:(Op.eqFields d xs ys (f::fa)).run P w=.ok (if c=true then e else false) w:=by
   unfold Op.eqFields;rw[Av Dn];simp only[Sem.run_bind]at bD⊢;generalize (part f.type xs f.offset).run P w=r1 at bD⊢;cases r1 with
   |halt x w1=>cases bD
   |ok u w1=>
    simp only[Result.andThen_ok]at bD⊢;generalize (part f.type ys f.offset).run P w1=r2 at bD⊢;cases r2 with
    |halt x w1=>cases bD
    |ok u2 w2=>
     simp only[Result.andThen_ok]at bD⊢;rw[bD];simp only[Result.andThen_ok];cases c<;>simp[e1]
  refine⟨_,Ce,?_⟩;rw[Xp];cases c<;>cases e<;>simp_all
theorem Q6(w:World):∀(n t:Nat) (l:List KS),FH T n t=some l->∀d,n<=d->∀(xs ys:Array Value) (o:Nat),GS l (F1 xs.toList o l.length)=true->GS l (F1 ys.toList o l.length)=true ->
  dz P w d t xs ys o l.length
 |0,t,l,h=>by simp[FH]at h
 |n+1,t,l,h=>by
  intro d hd xs ys o hx hy;obtain⟨d,rfl⟩:∃d',d=d'+1:=⟨d-1,by omega⟩;unfold FH at h;split at h
  .rename_i k hk;split at h
   .cases h
    obtain⟨x,x1,x2,x3⟩:=Iv hx;obtain⟨y,y1,y2,y3⟩:=Iv hy;have Ul:(T t).d≠.other:=by rw[hk];simp
    have hs:Hc (T t).d=false:=by rw[hk];rfl
    cases x<;>simp[J4]at x2
    cases y<;>simp[J4]at y2
    rename_i k1 n1 k2 n2;obtain rfl:=Hr x2;obtain rfl:=Hr y2;refine⟨n1 == n2,?_,?_⟩
    .simp[Sem.run_bind,CY hT w Ul hs xs o _ x1,CY hT w Ul hs ys o _ y1,run_equalIn_int w d t k k n1 n2 (hT.int hk)]
    .simp only[AI];rw[x3,y3];simp
   .cases h
  .rename_i hk;split at h
   .cases h
    obtain⟨x,x1,x2,x3⟩:=Iv hx;obtain⟨y,y1,y2,y3⟩:=Iv hy;have Ul:(T t).d≠.other:=by rw[hk];simp
    have hs:Hc (T t).d=false:=by rw[hk];rfl
    cases x<;>simp[J4]at x2
    cases y<;>simp[J4]at y2
    rename_i s1 s2;refine⟨s1.toList == s2.toList,?_,?_⟩
    .simp[Sem.run_bind,CY hT w Ul hs xs o _ x1,CY hT w Ul hs ys o _ y1,run_equalIn_string w d t s1 s2 (hT.string hk)]
    .simp only[AI];rw[x3,y3,G7];simp
   .cases h
  .rename_i hk;split at h
   .cases h
    obtain⟨x,x1,x2,x3⟩:=Iv hx;obtain⟨y,y1,y2,y3⟩:=Iv hy;have Ul:(T t).d≠.other:=by rw[hk];simp
    have hs:Hc (T t).d=false:=by rw[hk];rfl
    cases x<;>simp[J4]at x2
    cases y<;>simp[J4]at y2
    rename_i s1 s2;refine⟨s1 == s2,?_,?_⟩
    .simp[Sem.run_bind,CY hT w Ul hs xs o _ x1,CY hT w Ul hs ys o _ y1,run_equalIn_bool' w d t s1 s2 (hT.bool hk)]
    .simp only[AI];rw[x3,y3];simp
   .cases h
  .rename_i fs hk;split at h
   .rename_i JL;split at h
    .rename_i l' FD;split at h
     .rename_i BQ;cases h;have BQ:=AB BQ;have Ul:(T t).d≠.other:=by rw[hk];simp
      have hs:Hc (T t).d=true:=by rw[hk];rfl
      obtain⟨fa,u1,u2,u3⟩:=hT.struct hk;obtain⟨_,_,_,_,_,_,_,_,_,_,hq⟩:=hT.get Ul;obtain⟨q1,q2⟩:=hq JL;rw[u2]at FD;have hf:P.fieldsOf t=fa:=by simp[Program.fieldsOf,u1]
      have ex:∀zs:Array Value,(zs.extract o (o+(T t).size)).toList=F1 zs.toList o l.length:=fun zs=>by
       rw[<-BQ];simp[F1]
      have s0:∀zs:Array Value,F1 (F1 zs.toList o l.length) 0 l.length=F1 zs.toList o l.length:=fun zs=>by
       rw[VE _ _ _ _ _ sP];rfl
      obtain⟨b,b1,b2⟩:=JW w n d (fun t l h xs ys o hx hy=>Q6 w n t l h d sP xs ys o hx hy) fa.toList 0 l u3 FD (xs.extract o (o+(T t).size)) (ys.extract o (o+(T t).size))
       (by rw[ex,s0];exact hx) (by rw[ex,s0];exact hy)
      rw[ex,ex,s0,s0]at b2;refine⟨b,?_,b2⟩;simp only[Sem.run_bind,EW hT w Ul hs,Result.andThen_ok];rw[run_equalIn_struct w d t _ _ (by rw[hf];exact u1) q1,hf];exact b1
     .cases h
    .cases h
   .cases h
  .cases h
end
theorem LX:∀{l:List KS} {xs:List AV},SQ l xs=true->∃vs:List Value,xs=vs.map .v/\GS l vs=true
 | [],[],_=>⟨[],rfl,rfl⟩
 |k::r,a::s,h=>by
  cases a with
  |v x=>
   simp only[SQ]at h;split at h
   .rename_i h1;obtain⟨vs,rfl,h3⟩:=LX h;exact⟨x::vs,rfl,by simp[GS,h1,h3]⟩
   .cases h
  |_=>simp[SQ]at h
 | [],_::_,h=>by simp[SQ]at h
 |_::_,[],h=>by simp[SQ]at h
theorem Sn:∀{l:List KS} {vs us:List Value},GS l vs=true->GS l us=true->(bT (vs.map .v) (us.map .v)↔vs=us)
 | [],[],[],_,_=>by simp[bT]
 |k::r,v::vs,u::us,h1,h2=>by
  simp only[GS]at h1 h2;split at h1
  .rename_i e1;split at h2
   .rename_i e2;have ih:=Sn h1 h2;cases k<;>cases v<;>simp[J4]at e1<;>cases u<;>simp[J4]at e2<;>simp only[Bq,bT,ih,Ea]
    .rename_i k1 n1 k2 n2;obtain rfl:=Hr e1;obtain rfl:=Hr e2;simp
    .simp
    .simp
   .cases h2
  .cases h1
 | [],_::_,_,h,_=>by simp[GS]at h
 |_::_,[],_,h,_=>by simp[GS]at h
 | [],[],_::_,_,h=>by simp[GS]at h
 |_::_,_::_,[],_,h=>by simp[GS]at h
theorem Bo.v_eq{w:World}{a:Value}(h:Bo g w U (.v a) x):x=a:=by cases h;rfl
theorem Bo.agg_vals{w:World}{vs:List Value}(h:Bo g w U (.agg (vs.map .v)) x):x=.agg vs.toArray:=by
 cases h with
 |agg _ _ us hs h1 hr=>
  congr 1
  apply Ha;apply Cc;intro i;simp only[AO]at hs
  by_cases hi:i<vs.length
  .have IN : i<us.size:=by omega
   have:=hr i (.v vs[i]) us[i] (by simp[hi]) (by simp[IN])
   have:=this.v_eq
   simp[hi,IN,this]
  .rw[AN (by simp;omega),AN (by simpa using hi)]
theorem GE{P:Program}(hu:P.underlying t=some (.slice e))(a:Option Addr)(n c:Nat) :
  (Op.equal t (.slice a n c) (.slice none 0 0)).run P w=.ok a.isNone w:=by
 have key:∀d,(Op.equalIn (d+1) t (.slice a n c) (.slice none 0 0)).run P w=.ok a.isNone w:=fun d=>by
  cases a<;>simp[Op.equalIn,run_underlying hu]
 exact key 9999
theorem Hm{P:Program}(hu:P.underlying t=some (.pointer e))(a:Option Addr) :
  (Op.equal t (.pointer a) (.pointer none)).run P w=.ok a.isNone w:=by
 have key:∀d,(Op.equalIn (d+1) t (.pointer a) (.pointer none)).run P w=.ok a.isNone w:=fun d=>by
  cases a<;>simp[Op.equalIn,run_underlying hu]
 exact key 9999
theorem GD{P:Program}{ms:Array (String×TypeId)}(hu:P.underlying t=some (.interface ms)) :
  (Op.equal t .nilIface .nilIface).run P w=.ok true w:=by
 have key:∀d,(Op.equalIn (d+1) t .nilIface .nilIface).run P w=.ok true w:=fun d=>by
  simp[Op.equalIn,run_underlying hu]
 exact key 9999
section
variable {P:Program}{T:EU}{h:Nat->HO}{g:Gh}{w:World}{K:AV->Prop}
theorem Yl{t:Nat}{a b:Int}(hk:Nt T op t (.v (.int k a)) (.v (.int k' b)) K) :
  Bk P h g w (do eqGuard op t X Y (.int k a) (.int k' b);binOp op t (.int k a) (.int k' b)) K:=by
 unfold Nt at hk;dsimp only at hk;split at hk
 .exact Ma hk
 .rename_i e;obtain rfl:=Hr e;cases op<;>dsimp only at hk
  case eql=>exact Bk.bool (b:=a == b) (by simp[eqGuard,binOp,Op.intCmp]) sS hk
  case neq=>exact Bk.bool (b:=a != b) (by simp[eqGuard,binOp,Op.intCmp]) sS hk
  case lss=>exact Bk.bool (b:=decide (a<b)) (by simp[eqGuard,binOp,Op.intCmp]) sS hk
  case leq=>exact Bk.bool (b:=decide (a<=b)) (by simp[eqGuard,binOp,Op.intCmp]) sS hk
  case gtr=>exact Bk.bool (b:=decide (b<a)) (by simp[eqGuard,binOp,Op.intCmp]) sS hk
  case geq=>exact Bk.bool (b:=decide (b<=a)) (by simp[eqGuard,binOp,Op.intCmp]) sS hk
  all_goals exact VT hk
theorem Ym{t:Nat}{a b:ByteArray}(hk:Nt T op t (.v (.string a)) (.v (.string b)) K) :
  Bk P h g w (do eqGuard op t X Y (.string a) (.string b);binOp op t (.string a) (.string b)) K:=by
 unfold Nt at hk;have tri:=Hp a.toList b.toList;have sc:=Hp b.toList a.toList;cases op<;>dsimp only at hk
 case eql=>exact Bk.bool (b:=a.toList == b.toList) (by simp[eqGuard,binOp,Op.stringOp]) (G7 a b) hk
 case neq=>exact Bk.bool (b:=!(a.toList == b.toList)) (by simp[eqGuard,binOp,Op.stringOp]) (by
  have:=G7 a b
  cases hq:a.toList == b.toList<;>simp_all) hk
 case lss=>exact Bk.bool (b:=Op.bytesLess a.toList b.toList) (by simp[eqGuard,binOp,Op.stringOp]) sS hk
 case leq=>exact Bk.bool (b:=Op.bytesLess a.toList b.toList||a.toList == b.toList) (by simp[eqGuard,binOp,Op.stringOp]) (by rw[tri];simp) hk
 case gtr=>exact Bk.bool (b:=!(Op.bytesLess a.toList b.toList||a.toList == b.toList)) (by simp[eqGuard,binOp,Op.stringOp]) (by rw[tri];simp) hk
 case geq=>exact Bk.bool (b:=!Op.bytesLess a.toList b.toList) (by simp[eqGuard,binOp,Op.stringOp]) sS hk
 case add=>
  refine Bk.val (x:=.string (a++b)) ?_ hk.2;have h1:¬((a.size:Int)+(b.size:Int)>IntKind.i64.max):=by have:=hk.1;simp[IntKind.max,IntKind.bits,IntKind.signed];omega
  simp[eqGuard,binOp,Op.stringOp];omega
 all_goals exact hk.elim
theorem WT{K:AV->Prop}(hk:WS K (.v (.bool b))):K (.v (.bool (!b))):=by cases b<;>exact hk
theorem YJ(hT:B7 P T){t:Nat}{x y:AV}(hx:Bo g w (AD h) x vx)(hy:Bo g w (AD h) y vy){K:AV->Prop}(hk:iB T t x y K) :
  ∃b:Bool,(Op.equal t vx vy).run P w=.ok b w/\K (.v (.bool b))/\(∀op X Y,(op=.eql\/op=.neq)->(eqGuard op t X Y vx vy).run P w=.ok () w) /\
   binOp .eql t vx vy=(do pure (.bool (<-Op.equal t vx vy)))/\binOp .neq t vx vy=(do pure (.bool (!(<-Op.equal t vx vy)))):=by
 unfold iB at hk;split at hk
 .rename_i ht;split at hk
  .obtain rfl:=hx.v_eq;obtain rfl:=hy.v_eq;refine⟨_,?_,hk,fun op X Y _=>by rcases ‹op=_\/op=_› with rfl | rfl<;>simp[eqGuard],rfl,rfl⟩
   rw[Op.equal,Op.maxDepth];exact run_equalIn_bool' w 9999 t _ _ (hT.bool ht)
  .exact hk.elim
 .rename_i fs ht;split at hk
  .split at hk
   .rename_i l hl;split at hk
    .rename_i k1;split at hk
     .rename_i k2;obtain⟨vs,rfl,s1⟩:=LX k1;obtain⟨us,rfl,s2⟩:=LX k2;obtain rfl:=hx.agg_vals;obtain rfl:=hy.agg_vals;have Dn:(T t).d≠.other:=by rw[ht];simp
      obtain⟨_,_,_,_,_,_,_,_,_,_,hq⟩:=hT.get Dn;have qZ:Hc (T t).d=true:=by rw[ht];rfl
      have hfl:=hl;unfold FH at hfl;rw[ht]at hfl;dsimp only at hfl;split at hfl
      .rename_i JL;split at hfl
       .split at hfl
        .rename_i BQ;cases hfl;have BQ:=AB BQ;have e1:∀zs:List Value,GS l zs=true->F1 zs.toArray.toList 0 l.length=zs:=fun zs hz=>by
          have:=Ir hz
          simp[F1,<-this]
         obtain⟨b,b1,b2⟩:=Q6 hT w 8 t l hl 10000 sP vs.toArray us.toArray 0 (by rw[e1 _ s1];exact s1) (by rw[e1 _ s2];exact s2);rw[e1 _ s1,e1 _ s2]at b2;have ex:∀zs:List Value,GS l zs=true->zs.toArray.extract 0 (0+(T t).size)=zs.toArray:=fun zs hz=>by
          have:=Ir hz
          rw[<-BQ,<-this];simp
         simp only[Sem.run_bind,EW hT w Dn qZ,Result.andThen_ok,ex _ s1,ex _ s2]at b1;refine⟨b,b1,Nu hk (by rw[b2,Sn s1 s2]),fun op X Y _=>run_eqGuard_agg w op t X Y _ _ (hq JL).2,rfl,rfl⟩
        .cases hfl
       .cases hfl
      .cases hfl
     .exact hk.elim
    .exact hk.elim
   .exact hk.elim
  .exact hk.elim
 .rename_i e ht;have hu:=hT.slice ht;split at hk
  .rename_i tk es;obtain rfl:=hy.v_eq;obtain⟨a,n,c,rfl,hn⟩:∃a n c,vx=.slice a n c/\(es≠[]->a.isNone=false):=by
    have:=hx.slice_none
    cases this with
    |snil _ a c=>exact⟨_,_,_,rfl,fun h=>absurd rfl h⟩
    |slice _ _ b off sz cap val=>exact⟨_,_,_,rfl,fun _=>rfl⟩
   refine⟨a.isNone,?_,?_,fun op X Y _=>by rcases ‹op=_\/op=_› with rfl | rfl<;>simp[eqGuard],rfl,rfl⟩
   .exact GE w hu _ _ _
   .by_cases he:es=[]
    .cases a.isNone
     .exact(hk.2 he).2
     .exact(hk.2 he).1
    .rw[hn he];exact hk.1 he
  .obtain rfl:=hx.v_eq;obtain rfl:=hy.v_eq;refine⟨true,?_,hk,fun op X Y _=>by rcases ‹op=_\/op=_› with rfl | rfl<;>simp[eqGuard],rfl,rfl⟩
   exact GE w hu _ _ _
  .exact hk.elim
 .rename_i e ht;have hu:=hT.ptr ht
  have key:∀a:Addr,vx=.pointer (some a)->vy=.pointer none->K (.v (.bool false))->∃b:Bool,(Op.equal t vx vy).run P w=.ok b w/\K (.v (.bool b))/\(∀op X Y,(op=.eql\/op=.neq)->(eqGuard op t X Y vx vy).run P w=.ok () w) /\
   binOp .eql t vx vy=(do pure (.bool (<-Op.equal t vx vy)))/\binOp .neq t vx vy=(do pure (.bool (!(<-Op.equal t vx vy)))):=by
   rintro a rfl rfl hk
   refine⟨false,?_,hk,fun op X Y _=>by rcases ‹op=_\/op=_› with rfl | rfl<;>simp[eqGuard],rfl,rfl⟩
   exact Hm w hu _
  split at hk
  .obtain rfl:=hx.v_eq;obtain rfl:=hy.v_eq;refine⟨true,?_,hk,fun op X Y _=>by rcases ‹op=_\/op=_› with rfl | rfl<;>simp[eqGuard],rfl,rfl⟩
   exact Hm w hu _
  .cases hx;exact key _ rfl hy.v_eq hk
  .cases hx;exact key _ rfl hy.v_eq hk
  .cases hx;exact key _ rfl hy.v_eq hk
  .exact hk.elim
 .exact hk.elim
theorem bB(hT:B7 P T){t:Nat}{x y:AV}(hx:Bo g w (AD h) x vx)(hy:Bo g w (AD h) y vy)(hk:Nt T op t x y K) :
  Bk P h g w (do eqGuard op t X Y vx vy;binOp op t vx vy) K:=by
 unfold Nt at hk;split at hk
 .obtain rfl:=hx.v_eq;obtain rfl:=hy.v_eq;exact Yl (T:=T) (by unfold Nt;exact hk)
 .obtain rfl:=hx.v_eq;obtain rfl:=hy.v_eq;exact Ym (T:=T) (by unfold Nt;exact hk)
 .split at hk
  .obtain⟨b,b1,b2,b3,b4,b5⟩:=YJ hT hx hy hk;refine⟨_,_,?_,b2,.v _ _⟩;simp[Sem.run_bind,b3 .eql X Y (.inl rfl),b4,b1]
  .obtain⟨b,b1,b2,b3,b4,b5⟩:=YJ hT hx hy hk;refine⟨_,_,?_,WT b2,.v _ _⟩;simp[Sem.run_bind,b3 .neq X Y (.inr rfl),b5,b1]
  .exact hk.elim
theorem Yk(hT:B7 P T){t:Nat}{x y:AV}(hx:Bo g w (AD h) x vx)(hy:Bo g w (AD h) y vy)(hc:∀v,Y=.const v->vy=v)(hk:Sa T op t Y x y K) :
  Bk P h g w (do eqGuard op t X Y vx vy;binOp op t vx vy) K:=by
 unfold Sa at hk;split at hk
 .obtain rfl:=hc _ rfl;split at hk
  .obtain rfl:=hx.v_eq;split at hk
   .rename_i ht;obtain⟨ms,hu⟩:=hT.iface ht;split at hk
    .refine⟨_,_,?_,hk,.v _ _⟩;have e:binOp .eql t .nilIface .nilIface=(do pure (.bool (<-Op.equal t .nilIface .nilIface))):=rfl;simp[eqGuard,e,GD w hu]
    .refine⟨_,_,?_,hk,.v _ _⟩;have e:binOp .neq t .nilIface .nilIface=(do pure (.bool (!(<-Op.equal t .nilIface .nilIface)))):=rfl;simp[eqGuard,e,GD w hu]
    .exact hk.elim
   .exact hk.elim
  .exact hk.elim
 .exact bB hT hx hy hk
end
def FE(g:Gh)(w:World)(U:Nat->Prop)(b off:Nat)(cs:List AV):Prop:=
 ∀(j:Nat) (av:AV),cs[j]?=some av->∃x,w.cell? ⟨b,off+j,none⟩=some x/\x.oneCell'=true/\Bo g w U av x
theorem FE.drop{g:Gh}{w:World}{U:Nat->Prop}{b off:Nat}{cs:List AV}(h:FE g w U b off cs)(n:Nat):FE g w U b (off+n) (cs.drop n):=fun j av hj=>by
 rw[BW]at hj
 have:=h _ _ hj
 rwa [<-ET]at this
theorem FE.of_cptr{w:World}{b off:Nat}(h:Bo g w U (.cptr cs) (.pointer (some ⟨b,off,none⟩)))(V:Nat->Prop):FE g w V b off cs:=by
 cases h with
 |cptr _ _ _ _ val Cm Dd=>exact fun j av hj=>⟨_,(Cm j av hj).2.1,(Cm j av hj).2.2,(Dd j av hj).up V⟩
theorem Ee{w:World}{b o:Nat}(h:w.heap[b]?=some (.cells vs E f)):w.cell? ⟨b,o,none⟩=vs[o]?:=by
 simp[World.cell?,h]
theorem FE.of_row{w:World}{b:Nat}(h:w.heap[b]?=some (.cells vs E f))(hr:B3 g w U cs vs.toList):FE g w U b 0 cs:=fun j av hj=>by
 have Dc:j<vs.toList.length:=by rw[hr.1];exact(Au.1 hj).1
 have hx:vs.toList[j]?=some vs.toList[j]:=At Dc;refine⟨vs.toList[j],?_,hr.2.1 _ (Af Dc),hr.2.2 j av _ hj hx⟩;rw[Ee h,Bf];simp only[Az]at hx;exact hx
theorem range_map_get{n j:Nat}{f:Nat->α}{x:α}(h:((List.range n).map f)[j]?=some x):j<n/\x=f j:=by
 by_cases hj:j<n
 .simp[hj]at h;exact⟨hj,h.symm⟩
 .rw[AN (by simp;omega)]at h;cases h
section
variable {P:Program}{T:EU}(hT:B7 P T){h:Nat->HO}{g:Gh}{w:World}{K:AV->Prop}
include hT
theorem ID{t:Nat}{b off:Nat}(hd:(T t).d≠.other)(ha:Hc (T t).d=false)(hc:w.cell? ⟨b,off,none⟩=some x):(loadVar t ⟨b,off,none⟩).run P w=.ok x w:=by
 unfold loadVar;simp[Sem.run_bind,hT.isAgg w hd,ha,hc]
theorem MX{t:Nat}{b off:Nat}{vs:List Value}(hd:(T t).d≠.other)(ha:Hc (T t).d=true)(hl:vs.length=(T t).size)
  (hc:∀j x,vs[j]?=some x->w.cell? ⟨b,off+j,none⟩=some x):(loadVar t ⟨b,off,none⟩).run P w=.ok (.agg vs.toArray) w:=by
 unfold loadVar;have hr:=run_loadCells_list (P:=P) w ⟨b,off,none⟩ vs (fun j x hj=>by rw[Addr.add_lit];exact hc j x hj);simp[Sem.run_bind,hT.isAgg w hd,ha,hT.size w hd,<-hl,hr]
theorem I9{t:Nat}{b off:Nat}{cs:List AV}(hc:FE g w (AD h) b off cs)(hk:IC T t cs K):Bk P h g w (loadVar t ⟨b,off,none⟩) K:=by
 have agg:Hc (T t).d=true->(T t).d≠.other->(T t).size<=cs.length->K (.agg (cs.take (T t).size))->Bk P h g w (loadVar t ⟨b,off,none⟩) K:=by
  intro ha hd Fc hk;have hex:∀j:Nat,∃x:Value,∀av,cs[j]?=some av->w.cell? ⟨b,off+j,none⟩=some x/\x.oneCell'=true/\Bo g w (AD h) av x:=fun j=>by
   cases e:cs[j]? with
   |none=>exact⟨default,fun _ h=>by cases h⟩
   |some av=>obtain⟨x,hx⟩:=hc j av e;exact⟨x,fun je h'=>by cases h';exact hx⟩
  obtain⟨val,DM⟩:=Classical.axiomOfChoice hex;have SF:∀j,j<(T t).size->∃av,cs[j]?=some av:=fun j hj=>⟨_,At sP⟩;refine⟨_,_,MX hT (vs:=(List.range (T t).size).map val) hd ha sS (fun j x hx=>?_),hk,.agg _ _ _ (by simp;omega) (fun i x hx=>?_) (fun i av x hi hx=>?_)⟩
  .obtain⟨hj,rfl⟩:=range_map_get hx;obtain⟨av,Y0⟩:=SF j hj;exact(DM j av Y0).1
  .rw[Eu]at hx;obtain⟨hj,rfl⟩:=range_map_get hx;obtain⟨av,Y0⟩:=SF i hj;exact(DM i av Y0).2.1
  .rw[Eu]at hx;obtain⟨hj,rfl⟩:=range_map_get hx;rw[Bm hj]at hi;exact(DM i av hi).2.2
 have single:Hc (T t).d=false->(T t).d≠.other->HQ cs K->Bk P h g w (loadVar t ⟨b,off,none⟩) K:=by
  intro ha hd hk;cases cs with
  |nil=>exact hk.elim
  |cons a r=>
   obtain⟨x,x1,x2,x3⟩:=hc 0 a rfl;exact⟨x,a,ID hT hd ha x1,hk,x3⟩
 unfold IC at hk;split at hk
 .rename_i fs e;exact agg (by rw[e];rfl) (by rw[e];simp) hk.1 hk.2
 .rename_i n m e;exact agg (by rw[e];rfl) (by rw[e];simp) hk.1 hk.2
 .rename_i e;have hd:(T t).d≠.other:=by rw[e];simp
  have ha:Hc (T t).d=false:=by rw[e];rfl
  cases cs with
  |nil=>exact hk.elim
  |cons a r=>
   obtain⟨x,x1,x2,x3⟩:=hc 0 a rfl;simp only[HQ]at hk;split at hk
   .obtain rfl:=x3.v_eq;rename_i bb;refine⟨_,_,ID hT hd ha x1,?_,.v _ _⟩;cases bb
    .exact hk.2 rfl
    .exact hk.1 rfl
   .exact hk.elim
 .exact hk.elim
 .rename_i e1 e2 e3 e4;refine single ?_ e4 hk;cases e:(T t).d<;>first | rfl | exact absurd e (e1 _) | exact absurd e (e2 _ _)
def RP(g:Gh)(w:World)(U:Nat->Prop)(xs:Array Value)(off:Nat)(cs:List AV):Prop:=
 ∀(j:Nat) (av:AV),cs[j]?=some av->∃x,xs[off+j]?=some x/\x.oneCell'=true/\Bo g w U av x
omit hT in
theorem RP.of_agg{cs:List AV}{xs:Array Value}{U:Nat->Prop}(hr:Bo g w U (.agg cs) (.agg xs))(o:Nat):RP g w U xs o (cs.drop o):=by
 cases hr with
 |agg _ _ _ hs h1 hh=>
  intro j av hj;rw[BW]at hj;have Dc:o+j<xs.size:=by rw[hs];exact(Au.1 hj).1
  have hx:xs[o+j]?=some xs[o+j]:=by simp[Dc]
  exact⟨_,hx,h1 _ _ hx,hh _ _ _ hj hx⟩
theorem Tr{t:Nat}{xs:Array Value}{off:Nat}{cs:List AV}(hc:RP g w (AD h) xs off cs)(hk:Tq T t cs K):Bk P h g w (part t xs off) K:=by
 have agg:Hc (T t).d=true->(T t).d≠.other->(T t).size<=cs.length->K (.agg (cs.take (T t).size))->Bk P h g w (part t xs off) K:=by
  intro ha hd Fc hk;have SF:∀j,j<(T t).size->∃av,cs[j]?=some av:=fun j hj=>⟨_,At sP⟩;have Fg:∀(j:Nat) (x:Value),(xs.extract off (off+(T t).size))[j]?=some x->j<(T t).size/\xs[off+j]?=some x:=fun j x hx=>by
   rw[Array.getElem?_extract]at hx;split at hx
   .exact⟨by omega,hx⟩
   .cases hx
  have Dm:(xs.extract off (off+(T t).size)).size=(T t).size:=by
   by_cases h0:(T t).size=0
   .simp[h0];omega
   .obtain⟨av,Y0⟩:=SF ((T t).size-1) sP;obtain⟨x,x1,_⟩:=hc _ _ Y0
    have:=(BN.1 x1).1
    simp;omega
  refine⟨_,_,EW hT w hd ha xs off,hk,.agg _ _ _ (by rw[Dm];simp;omega) (fun i x hx=>?_) (fun i av x hi hx=>?_)⟩
  .obtain⟨hj,IL⟩:=Fg i x hx;obtain⟨av,Y0⟩:=SF i hj;obtain⟨y,y1,y2,y3⟩:=hc i av Y0;rw[IL]at y1;cases y1;exact y2
  .obtain⟨hj,IL⟩:=Fg i x hx;rw[Bm hj]at hi;obtain⟨y,y1,y2,y3⟩:=hc i av hi;rw[IL]at y1;cases y1;exact y3
 have single:Hc (T t).d=false->(T t).d≠.other->HQ cs K->Bk P h g w (part t xs off) K:=by
  intro ha hd hk;cases cs with
  |nil=>exact hk.elim
  |cons a r=>
   obtain⟨x,x1,x2,x3⟩:=hc 0 a rfl;exact⟨x,a,CY hT w hd ha xs off x x1,hk,x3⟩
 unfold Tq IC at hk;split at hk
 .rename_i fs e;exact agg (by rw[e];rfl) (by rw[e];simp) hk.1 hk.2
 .rename_i n m e;exact agg (by rw[e];rfl) (by rw[e];simp) hk.1 hk.2
 .rename_i e;have hd:(T t).d≠.other:=by rw[e];simp
  have ha:Hc (T t).d=false:=by rw[e];rfl
  cases cs with
  |nil=>exact hk.elim
  |cons a r=>
   obtain⟨x,x1,x2,x3⟩:=hc 0 a rfl;simp only[HQ]at hk;split at hk
   .obtain rfl:=x3.v_eq;rename_i bb;refine⟨_,_,CY hT w hd ha xs off _ x1,?_,.v _ _⟩;cases bb
    .exact hk.2 rfl
    .exact hk.1 rfl
   .exact hk.elim
 .exact hk.elim
 .rename_i e1 e2 e3 e4;refine single ?_ e4 hk;cases e:(T t).d<;>first | rfl | exact absurd e (e1 _) | exact absurd e (e2 _ _)
theorem Ue{s f:Nat}{x:AV}(hx:Bo g w (AD h) x vx)(hk:KY T s f x K):Bk P h g w (Instr.field s vx f) K:=by
 unfold KY at hk;split at hk
 .rename_i fs cs hs;split at hk
  .rename_i t o hf;obtain⟨fa,u1,u2,u3⟩:=hT.struct hs;cases hx with
   |agg _ _ xs a1 a2 a3=>
    have rk:∃fd,fa[f]?=some fd/\fd.type=t/\fd.offset=o:=by
     have key:∀(l:List (Nat×Nat)) (n:Nat) (p:Nat×Nat),Q7 l n=some p->l[n]?=some p:=by
      intro l
      induction l with
      |nil=>intro n p h;cases h
      |cons y r ih=>intro n p h;cases n with
       |zero=>simpa[Q7]using h
       |succ n=>simpa using ih n p h
     have:=key _ _ _ hf
     rw[u2,Ap,Ay]at this;obtain⟨fd,e1,e2⟩:=this;cases e2;exact⟨fd,by simpa using e1,rfl,rfl⟩
    obtain⟨fd,e1,rfl,rfl⟩:=rk;obtain⟨y,av,p1,p2,p3⟩:=Tr hT (RP.of_agg (.agg _ _ xs a1 a2 a3) fd.offset) hk;refine⟨y,av,?_,p2,p3⟩;simp only[Instr.field,Sem.run_bind,run_underlying u1,Result.andThen_ok,e1];simpa[asAgg]using p1
  .exact hk.elim
 .exact hk.elim
theorem NR{s f:Nat}{fs:List (Nat×Nat)}{t o:Nat}(hs:(T s).d=.struct fs)(hf:Q7 fs f=some (t,o)):∃fa fd,P.underlying s=some (.struct fa)/\fa[f]?=some fd/\fd.type=t/\fd.offset=o:=by
 obtain⟨fa,u1,u2,u3⟩:=hT.struct hs;have key:∀(l:List (Nat×Nat)) (n:Nat) (p:Nat×Nat),Q7 l n=some p->l[n]?=some p:=by
  intro l
  induction l with
  |nil=>intro n p h;cases h
  |cons y r ih=>intro n p h;cases n with
   |zero=>simpa[Q7]using h
   |succ n=>simpa using ih n p h
 have:=key _ _ _ hf
 rw[u2,Ap,Ay]at this;obtain⟨fd,e1,e2⟩:=this;cases e2;exact⟨fa,fd,u1,by simpa using e1,rfl,rfl⟩
theorem Wk{s f:Nat}{x:AV}(hx:Bo g w (AD h) x vx)(hk:NM T s f x K):Bk P h g w (Instr.fieldAt s vx f) K:=by
 unfold NM at hk;split at hk
 .rename_i fs hs;split at hk
  .rename_i t o hf;obtain⟨fa,fd,u1,e1,rfl,rfl⟩:=NR hT hs hf;split at hk
   .exact hk.elim
   .rename_i k Dm;have Ce:∀b off,(Instr.fieldAt s (.pointer (some ⟨b,off,none⟩)) f).run P w=.ok (.pointer (some ⟨b,off+fd.offset,none⟩)) w:=fun b off=>by
     simp[Instr.fieldAt,run_underlying u1,e1,Instr.sureAddr,fieldPlace,hT.size1 w Dm,Addr.add_lit]
    split at hk
    .cases hx with
     |cptr _ _ b off val Cm Dd=>exact⟨_,_,Ce b off,hk,(Bo.cptr _ _ b off val Cm Dd).cptr_drop _⟩
    .rename_i r off;cases hx with
     |ref _ _ _ b hu ht hp=>exact⟨_,_,Ce b off,hk,.ref _ r _ b hu ht hp⟩
    .rename_i r n sz i off;cases hx with
     |eref _ _ _ _ _ _ b cap hu ht hn hp=>
      refine⟨_,_,Ce b _,hk,?_⟩;rw[ET];exact .eref _ r n sz i _ b cap hu ht hn hp
    .exact hk.elim
  .exact hk.elim
 .exact hk.elim
end
end Go.Eng
