/- Lemmas for the claims of this seat, without a condition: part 6 (EngB, EngC, EngD, EngE, EngF, EngG). -/
import Derived.Test.YteaiieomnhbmgaaGreatDoorA05
namespace Go.Eng
open Go.RowKit (Below)
variable {w:World}{U:Nat->Prop}{x:Value}{g:Gh}{w':World}{av:AV}{g':Gh}
theorem BM.mono(hk:EH g w g' w')(h:BM g w U av x) :
  ∀{U' : Nat->Prop},(∀i,U i->U' i)->KN g g' U->BM g' w' U' av x:=by
 induction h with
 |v U x=>intro U' _ _;exact .v U' x
 |junk U x=>intro U' _ _;exact .junk U' x
 |snil U a cap=>intro U' _ _;exact .snil U' a cap
 |slice U es b off sz cap val hc hl DN Es ih =>
  intro U' _ _;refine .slice U' es b off sz cap val hc hl (fun i cs j av h1 h2=>?_) (fun i cs j av h1 h2=>ih i cs j av h1 h2 (fun _ h=>h) (fun _ h=>h.elim));obtain⟨a1,a2,a3⟩:=DN i cs j av h1 h2;obtain⟨k1,k2,_⟩:=hk _ _ a1;exact⟨k1,k2.trans a2,a3⟩
 |tok U r sz es x h hl hu ht hn hx ih =>
  intro U' hU hg;obtain⟨g1,g2,g3,g4⟩:=hg r hu;refine .tok U' r sz es x (ih hU hg) hl (hU r hu) (g1.trans ht) (AJ hn g2) (fun e=>?_);have e1:g'.ln r=g.ln r:=by omega
  rw[g4 e1];exact hx ch
 |ver U r sz v es x h hl hu ht hn hx ih =>
  intro U' hU hg;obtain⟨g1,g2,g3,g4⟩:=hg r hu;refine .ver U' r sz v es x (ih hU hg) hl (hU r hu) (g1.trans ht) (AJ hn g2) (fun e=>?_);have e1:g'.ln r=g.ln r:=by omega
  rw[g4 e1];exact hx ch
 |full U sz es x h hl hx ih =>
  intro U' hU hg;exact .full U' sz es x (ih hU hg) hl hx
 |msl U r n a cap hu ht hn ha hx =>
  intro U' hU hg;obtain⟨g1,g2,g3,g4⟩:=hg r hu;refine .msl U' r n a cap (hU r hu) (g1.trans ht) (AJ hn g2) ha (fun e=>?_);have e1:g'.ln r=g.ln r:=by omega
  rw[g4 e1];exact hx ch
 |agg U cs vs hs h1 h ih=>intro U' hU hg;exact .agg U' cs vs hs h1 (fun i av x a b=>ih i av x a b hU hg)
 |tup U cs vs hs h ih=>intro U' hU hg;exact .tup U' cs vs hs (fun i av x a b=>ih i av x a b hU hg)
 |cptr U cs b off val DN Es ih =>
  intro U' _ _;refine .cptr U' cs b off val (fun j av h=>?_) (fun j av h=>ih j av h (fun _ h=>h) (fun _ h=>h.elim));obtain⟨a1,a2,a3⟩:=DN j av h;obtain⟨k1,k2,_⟩:=hk _ _ a1;exact⟨k1,k2.trans a2,a3⟩
 |ref U r off b hu ht hx =>
  intro U' hU hg;obtain⟨g1,g2,g3,g4⟩:=hg r hu;exact .ref U' r off b (hU r hu) (g1.trans ht) ((g3 ht).trans hx)
 |eref U r n sz i off b cap hu ht hn hx =>
  intro U' hU hg;obtain⟨g1,g2,g3,g4⟩:=hg r hu;refine .eref U' r n sz i off b cap (hU r hu) (g1.trans ht) ⟨hn.1,by omega⟩ (fun e=>?_);have e1:g'.ln r=g.ln r:=by omega
  rw[g4 e1];exact hx ch
 |mref U r b hu ht hx =>
  intro U' hU hg;obtain⟨g1,g2,g3,g4⟩:=hg r hu;exact .mref U' r b (hU r hu) (g1.trans ht) ((g3 ht).trans hx)
 |cmap U sh B7 b es ck hS hb hm h ih =>
  intro U' _ _;obtain⟨k1,k2,k3⟩:=hk _ _ hS;exact .cmap U' sh B7 b es ck k1 (k3 es ck hb) hm (fun i kv e a b=>ih i kv e a b (fun _ h=>h) (fun _ h=>h.elim))
 |clo U f cs vs hs h ih=>intro U' hU hg;exact .clo U' f cs vs hs (fun i av x a b=>ih i av x a b hU hg)
theorem EH.refl(g:Gh)(w:World):EH g w g w:=fun _ _ h=>⟨h,rfl,fun _ _ h=>h⟩
theorem EH.trans{g g1 g2:Gh}{w w1 w2:World}(h:EH g w g1 w1)(k:EH g1 w1 g2 w2):EH g w g2 w2:=fun b o hS =>
 let ⟨a1,a2,a3⟩:=h b o hS
 let ⟨b1,b2,b3⟩:=k b o a1
 ⟨b1,b2.trans a2,fun es ck he=>b3 es ck (a3 es ck he)⟩
theorem KN.refl(g:Gh)(U:Nat->Prop):KN g g U:=fun _ _=>⟨rfl,Aj _,fun _=>rfl,fun _=>rfl⟩
theorem KN.trans{g g1 g2:Gh}{U U1:Nat->Prop}(h:KN g g1 U)(hU:∀i,U i->U1 i)(k:KN g1 g2 U1):KN g g2 U:=fun i hi=>by
 obtain⟨a1,a2,a3,a4⟩:=h i hi;obtain⟨b1,b2,b3,b4⟩:=k i (hU i hi);exact⟨b1.trans a1,AJ a2 b2,fun e=>(b3 (a1.trans e)).trans (a3 e),fun e=>(b4 ch).trans (a4 ch)⟩
theorem Le.refl(h:Nat->HO)(g:Gh)(w:World):Le h g w h g w:=⟨.refl _ _,fun _ h=>h,.refl _ _⟩
theorem Le.trans{h h1 h2:Nat->HO}{g g1 g2:Gh}{w w1 w2:World}(a:Le h g w h1 g1 w1)(b:Le h1 g1 w1 h2 g2 w2):Le h g w h2 g2 w2 :=
 ⟨a.gh.trans a.us b.gh,fun i hi=>b.us i (a.us i hi),a.keeps.trans b.keeps⟩
theorem BM.le{h h' : Nat->HO}(k:Le h g w h' g' w')(r:BM g w (AQ h) av x):BM g' w' (AQ h') av x :=
 r.mono k.keeps k.us k.gh
theorem BM.up(r:BM g w Fw av x)(U:Nat->Prop):BM g w U av x :=
 r.mono (.refl g w) (fun _ h=>h.elim) (.refl g _)
theorem CO.mono{g g' : Gh}{w w' : World}{U U' : Nat->Prop}{cs:List AV}{vs:List Value}(r:CO g w U cs vs)(hk:EH g w g' w')(hU:∀i,U i->U' i)(hg:KN g g' U):CO g' w' U' cs vs :=
 ⟨r.1,r.2.1,fun i av x h1 h2=>(r.2.2 i av x h1 h2).mono hk hU hg⟩
theorem BM.cptr_drop{cs:List AV}{b off:Nat}(n:Nat)(h:BM g w U (.cptr cs) (.pointer (some ⟨b,off,none⟩))) :
  BM g w U (.cptr (cs.drop n)) (.pointer (some ⟨b,off+n,none⟩)):=by
 cases h with
 |cptr _ _ _ _ val DN Es =>
  refine .cptr U _ b (off+n) (fun j=>val (n+j)) (fun j av h=>?_) (fun j av h=>?_)
  .rw[DP]at h
   have:=DN _ _ h
   rwa [<-GW]at this
  .rw[DP]at h;exact Es _ _ h
theorem BM.slice_none{tk:Tk}{es:List (List AV)}(h:BM g w U (.slice tk es) x):BM g w Fw (.slice .none es) x:=by
 cases h with
 |snil U a cap=>exact .snil Fw a cap
 |slice U es b off sz cap val hc hl DN Es=>exact .slice Fw es b off sz cap val hc hl DN Es
 |tok U r sz es x h=>cases h with
  |snil U a cap=>exact .snil Fw a cap
  |slice U es b off sz cap val hc hl DN Es=>exact .slice Fw es b off sz cap val hc hl DN Es
 |ver U r sz v es x h=>cases h with
  |snil U a cap=>exact .snil Fw a cap
  |slice U es b off sz cap val hc hl DN Es=>exact .slice Fw es b off sz cap val hc hl DN Es
 |full U sz es x h=>cases h with
  |snil U a cap=>exact .snil Fw a cap
  |slice U es b off sz cap val hc hl DN Es=>exact .slice Fw es b off sz cap val hc hl DN Es
theorem BM.str0{g:Gh}{w:World}{h:Nat->HO}(ho:∀r,Ep g w (AQ h) r (h r)){av:AV}{x:Value}(r:BM g w (AQ h) av x):BM g w Fw (str0 h av) x:=by
 cases av with
 |v y=>cases r;exact .v _ _
 |slice tk es=>exact r.slice_none
 |ref i off =>
  simp only[Eng.str0];split
  .rename_i cs hc;have h1:=ho i;rw[hc]at h1;obtain⟨ht,b,hb,hr⟩:=h1;cases r with
   |ref _ _ _ b' hu ht' hx =>
    rw[hb]at hx;cases hx;simpa using hr.cptr_drop off
  .exact .junk _ _
 |mref i =>
  simp only[Eng.str0];split
  .rename_i sh B7 hc;have h1:=ho i;rw[hc]at h1;obtain⟨ht,b,hb,hr⟩:=h1;cases r with
   |mref _ _ b' hu ht' hx =>
    rw[hb]at hx;cases hx;exact hr
  .exact .junk _ _
 |cptr cs=>cases r with |cptr _ _ b off val DN Es=>exact .cptr _ _ b off val DN Es
 |cmap sh m=>cases r with |cmap _ _ _ b es ck hS hb hm hh=>exact .cmap _ _ _ b es ck hS hb hm hh
 |_=>exact .junk _ _
theorem BM.str{g:Gh}{w:World}{h:Nat->HO}(ho:∀r,Ep g w (AQ h) r (h r)){av:AV}{x:Value}(r:BM g w (AQ h) av x):BM g w Fw (str h av) x:=by
 cases av with
 |agg cs=>cases r with
  |agg _ _ vs hs h1 hr =>
   refine .agg _ _ vs (by simpa using hs) h1 (fun i av x a b=>?_);rw[AG,AS]at a;obtain⟨vX,a',rfl⟩:=a;exact(hr i vX x a' b).str0 ho
 |clo f cs=>cases r with
  |clo _ _ _ vs hs hr =>
   refine .clo _ f _ vs (by simpa using hs) (fun i av x a b=>?_);rw[AG,AS]at a;obtain⟨vX,a',rfl⟩:=a;exact(hr i vX x a' b).str0 ho
 |v y=>exact r.str0 ho
 |slice tk es=>exact r.str0 ho
 |ref i off=>exact r.str0 ho
 |mref i=>exact r.str0 ho
 |cptr cs=>exact r.str0 ho
 |cmap sh m=>exact r.str0 ho
 |msl i n=>exact r.str0 ho
 |tup cs=>exact r.str0 ho
 |eref i n z j o=>exact r.str0 ho
 |junk=>exact r.str0 ho
theorem BM.rsv{g:Gh}{w:World}{h:Nat->HO}(ho:∀r,Ep g w (AQ h) r (h r)){av:AV}{x:Value}(r:BM g w (AQ h) av x):BM g w (AQ h) (rsv h av) x:=by
 cases av with
 |ref i off =>
  simp only[Eng.rsv];split
  .rename_i cs hc
   have:=r.str0 ho
   simp only[Eng.str0,hc]at this;exact this.up _
  .exact r
 |mref i =>
  simp only[Eng.rsv];split
  .rename_i sh B7 hc
   have:=r.str0 ho
   simp only[Eng.str0,hc]at this;exact this.up _
  .exact r
 |_=>exact r
end Go.Eng
namespace Go.Eng
variable {U:Nat->Prop}{X Y:Operand}{t:Nat}{α:Type}{op:BinOp}{k:IntKind}{vx:Value}{g:Gh}{x:Value}{k':IntKind}{vs:Array Value}{w':World}{m:Sem Value}{vy:Value}{f:Nat×Nat}{b:Bool}{cs:List AV}{e:Nat}{E:TypeId}{g':Gh}(l:List α)(P:Program)(w:World)(o:Nat)
def Gh.upd(g:Gh)(r:Nat)(x:Value)(n:Nat)(t:Bool)(o:Option Nat)(S:Nat->Nat->Prop):Gh :=
 ⟨fun i=>if i=r then x else g.ρ i,fun i=>if i=r then n else g.ln i,fun i=>if i=r then t else g.tk i,fun i=>if i=r then o else g.own i,S⟩
theorem CW{i r:Nat}(h:i≠r):Nat.beq i r=false:=by
 cases e:Nat.beq i r with
 |false=>rfl
 |true=>exact absurd (AK e) h
theorem Bj(h:Nat->HO)(r:Nat)(o:HO):A0 h r o r=o:=by
 have:Nat.beq r r=true:=Di r
 simp only[A0,this,KC]
theorem B6(h:Nat->HO)(r i:Nat)(o:HO)(hi:i≠r):A0 h r o i=h i:=by
 simp only[A0,CW hi,Ek]
theorem D3{h:Nat->HO}{r:Nat}{o:HO}(ho:o≠.free)(i:Nat)(hi:AQ h i):AQ (A0 h r o) i:=by
 by_cases e:i=r
 .subst e;unfold AQ;rw[Bj];exact ho
 .unfold AQ;rw[B6 _ _ _ _ e];exact hi
theorem XD.keep{w:World}(h:XD g w)(hk:EH g w g' w'):XD g' w':=by
 obtain⟨⟨h1,m,h2⟩,h3⟩:=h;obtain⟨k1,k2,_⟩:=hk _ _ h1;refine⟨⟨k1,m,k2.trans h2⟩,fun x hx=>?_⟩;obtain⟨e1,e2,_⟩:=hk _ _ (h3 x hx).1;exact⟨e1,e2.trans (h3 x hx).2⟩
theorem Ep.same{w:World}{U':Nat->Prop}{r:Nat}{o:HO}(h:Ep g w U r o)(hk:EH g w g' w')(hU:∀i,U i->U' i)(hg:KN g g' U)(h1:g'.ρ r=g.ρ r)(h2:g'.ln r=g.ln r)(h3:g'.tk r=g.tk r)(h4:g'.own r=g.own r)(hb:∀b,o.live->g.own r=some b->w'.heap[b]?=w.heap[b]?/\∀k,g'.S b k->g.S b k):Ep g' w' U' r o:=by
 cases o with
 |free=>trivial
 |dead=>trivial
 |cells cs =>
  obtain⟨t,b,E,vs,a1,a2,a3,a4,a5⟩:=h;obtain⟨c1,c2⟩:=hb b trivial a1;exact⟨h3.trans t,b,E,vs,h4.trans a1,h1.trans a2,c1.trans a3,a4.mono hk hU hg,fun k hk'=>a5 k (c2 k hk')⟩
 |ro cs =>
  obtain⟨t,b,a1,a2⟩:=h;exact⟨h3.trans t,b,h1.trans a1,a2.mono hk (fun _ h=>h) (fun _ h=>h.elim)⟩
 |tok sz n =>
  obtain⟨t,l,a,cap,a1,a2⟩:=h;refine⟨h3.trans t,h2.trans l,a,cap,h1.trans a1,?_⟩;rcases a2 with ⟨e1,e2⟩ | ⟨e1,b,E,vs,off,e2,e3,e4,e5,e6⟩
  .exact .inl ⟨e1,h4.trans e2⟩
  .obtain⟨c1,c2⟩:=hb b trivial e3;exact .inr ⟨e1,b,E,vs,off,e2,h4.trans e3,e4.eq c1,e5,fun o ho=>e6 o (c2 o ho)⟩
 |var sz v n =>
  obtain⟨t,l,a,cap,a1,a2⟩:=h;refine⟨h3.trans t,h2.trans l,a,cap,h1.trans a1,?_⟩;rcases a2 with ⟨e1,e2⟩ | ⟨e1,b,E,vs,off,e2,e3,e4,e5,e6⟩
  .exact .inl ⟨e1,h4.trans e2⟩
  .obtain⟨c1,c2⟩:=hb b trivial e3;exact .inr ⟨e1,b,E,vs,off,e2,h4.trans e3,e4.eq c1,e5,fun o ho=>e6 o (c2 o ho)⟩
 |vox v=>exact⟨h3.trans h.1,h2.trans h.2⟩
 |hol sz es i c av =>
  obtain⟨t,l,a0,b,cap,E,vs,e1,e2,e3,e4,e5,e6,e7,e8,x,e9,wA⟩:=h;obtain⟨c1,c2⟩:=hb b trivial e2;exact⟨h3.trans t,h2.trans l,a0,b,cap,E,vs,h1.trans e1,h4.trans e2,e3,c1.trans e4,e5,e6.mono hk (fun _ h=>h) (fun _ h=>h.elim),fun o ho=>e7 o (c2 o ho),e8,x,e9,wA.mono hk hU hg⟩
 |raw b ob =>
  obtain⟨t,a1,a2,a3,a4⟩:=h;obtain⟨c1,c2⟩:=hb b trivial a1;exact⟨h3.trans t,h4.trans a1,c1.trans a2,a3,fun k hk'=>a4 k (c2 k hk')⟩
 |arr sz es =>
  obtain⟨t,l,a0,a1⟩:=h;refine⟨h3.trans t,h2.trans l,a0,?_⟩;rcases a1 with ⟨e1,e2,e3⟩ | ⟨b,cap,E,vs,e1,e2,e3,e4,e5,e6,e7⟩
  .exact .inl ⟨e1,h1.trans e2,h4.trans e3⟩
  .obtain⟨c1,c2⟩:=hb b trivial e2;exact .inr ⟨b,cap,E,vs,h1.trans e1,h4.trans e2,e3,c1.trans e4,e5,e6.mono hk (fun _ h=>h) (fun _ h=>h.elim),fun o ho=>e7 o (c2 o ho)⟩
 |map sh B7 =>
  obtain⟨t,b,es,ck,a1,a2,a3,a4,a5,a6⟩:=h;obtain⟨c1,c2⟩:=hb b trivial a1;exact⟨h3.trans t,b,es,ck,h4.trans a1,h1.trans a2,c1.trans a3,a4,fun i kv e p q=>(a5 i kv e p q).mono hk (fun _ h=>h) (fun _ h=>h.elim),fun k hk'=>a6 k (c2 k hk')⟩
 |mapU sh B7 =>
  obtain⟨t,b,es,ck,a1,a2,a3,a4,a5,a6⟩:=h;obtain⟨c1,c2⟩:=hb b trivial a1;exact⟨h3.trans t,b,es,ck,h4.trans a1,h1.trans a2,c1.trans a3,a4,fun i kv e p q=>(a5 i kv e p q).mono hk hU hg,fun k hk'=>a6 k (c2 k hk')⟩
 |rom sh B7 =>
  obtain⟨t,b,a1,a2⟩:=h;exact⟨h3.trans t,b,h1.trans a1,a2.mono hk (fun _ h=>h) (fun _ h=>h.elim)⟩
 |iter all rem EC =>
  obtain⟨t,b,mb,KL,seen,st,es,ck,a1,a2,a3,a4,a5,a6,a7,a8,a9,Y9,dJ,a12,si⟩:=h;obtain⟨c1,c2⟩:=hb b trivial a1;obtain⟨k1,k2,k3⟩:=hk _ _ a4
  exact⟨h3.trans t,b,mb,KL,seen,st,es,ck,h4.trans a1,h1.trans a2,c1.trans a3,k1,k3 _ _ a5,a6,a7,a8,
   fun i kv e p q=>(a9 i kv e p q).mono hk (fun _ h=>h) (fun _ h=>h.elim),Y9,dJ,a12,fun k hk'=>si k (c2 k hk')⟩
theorem DX.upd{w0:World}{g0:Gh}{h0 h:Nat->HO}{g:Gh}{w:World}(hI:DX w0 g0 h0 h g w)(r:Nat)(o' : HO)(x:Value)(n:Nat)(t:Bool)(ow:Option Nat)(S' : Nat->Nat->Prop)(w' : World)
  (vZ:Option Nat) (om:w'.os=w.os/\w'.tape=w.tape/\w'.output=w.output/\w.heap.size<=w'.heap.size)
  (Mn:∀k,k<w.heap.size->some k≠vZ->w'.heap[k]?=w.heap[k]?)
  (hch:∀b,vZ=some b->(h r).live/\g.own r=some b)
  (hS:∀b o,g.S b o->S' b o)
  (wQ : ∀b o,S' b o->g.S b o\/(b<w'.heap.size/\(w.heap.size<=b\/((h r).live/\g.own r=some b))))
  (hkc:∀b o,vZ=some b->g.S b o->w'.cell? ⟨b,o,none⟩=w.cell? ⟨b,o,none⟩/\∀es ck,w.heap[b]?=some (.map es ck)->w'.heap[b]?=some (.map es ck))
  (xw:∀b,o'.live->ow=some b->b<w'.heap.size/\(((h r).live/\g.own r=some b)\/w.heap.size<=b))
  (Dy:o'≠.free) (hgh:AQ h r->t=g.tk r/\g.ln r<=n/\(g.tk r=false->x=g.ρ r)/\(n=g.ln r->x=g.ρ r))
  (J6:KN g (g.upd r x n t ow S') (AQ h)->EH g w (g.upd r x n t ow S') w'->Ep (g.upd r x n t ow S') w' (AQ (A0 h r o')) r o') :
  DX w0 g0 h0 (A0 h r o') (g.upd r x n t ow S') w'/\Le h g w (A0 h r o') (g.upd r x n t ow S') w':=by
 have zx:∀b o,S' b o->g.S b o\/(b<w'.heap.size/\∀r',r'≠r->(h r').live->g.own r'≠some b):=fun b o hs=>by
  rcases wQ b o hs with h1 | ⟨h1,h2⟩
  .exact .inl h1
  .refine .inr ⟨h1,fun r' hr hl e=>?_⟩;rcases h2 with h2 | ⟨h2,h3⟩
   .have:=(hI.loc r' b hl e).1;omega
   .exact hr (hI.inj r' r b hl h2 e h3)
 have jI:KN g (g.upd r x n t ow S') (AQ h):=by
  intro i hi
  by_cases e:i=r
  .subst e;obtain⟨h1,h2,h3,h4⟩:=hgh hi;simp only[Gh.upd,Sc];exact⟨h1,h2,h3,h4⟩
  .refine⟨by simp[Gh.upd,e],by simp[Gh.upd,e],fun _=>by simp[Gh.upd,e],fun _=>by simp[Gh.upd,e]⟩
 have hK:EH g w (g.upd r x n t ow S') w':=by
  intro b o hb;refine⟨hS b o hb,?_⟩
  by_cases e:vZ=some b
  .exact hkc b o e hb
  .have Dz:=hI.slt b o hb;have oo:=Mn b Dz (fun e'=>e e'.symm);exact⟨by simp only[World.cell?,oo],fun es ck he=>oo.trans he⟩
 have K8:∀i,AQ h i->AQ (A0 h r o') i:=fun i hi=>D3 Dy i hi;refine⟨⟨om.1.trans hI.os,om.2.1.trans hI.tape,om.2.2.1.trans hI.output,AJ hI.size om.2.2.2,fun b hb hn=>?_,fun b o hb=>?_,fun i=>?_,fun i j b hi hj ei ej=>?_,fun i b hi ei=>?_,fun b o hs=>?_,hI.glob.keep hK⟩,jI,K8,hK⟩
 .have Dz:b<w.heap.size:=By hb hI.size;have hnb:some b≠vZ:=fun e=>by
   obtain⟨l1,l2⟩:=hch b e.symm;rcases(hI.loc r b l1 l2).2 with h1 | ⟨r',h1,h2⟩
   .omega
   .exact hn r' h1 h2
  exact(Mn b Dz hnb).trans (hI.frame b hb hn)
 .rcases zx b o hb with h1 | h1
  .exact By (hI.slt b o h1) om.2.2.2
  .exact h1.1
 .by_cases e:i=r
  .subst e;rw[Bj];exact J6 jI hK
  .rw[B6 _ _ _ _ e];refine(hI.objs i).same hK K8 jI (by simp[Gh.upd,e]) (by simp[Gh.upd,e]) (by simp[Gh.upd,e]) (by simp[Gh.upd,e]) (fun b hl hb=>?_);have Dz:=(hI.loc i b hl hb).1;refine⟨Mn b Dz (fun e'=>?_),fun k hk=>?_⟩
   .obtain⟨l1,l2⟩:=hch b e'.symm;exact e (hI.inj i r b hl l1 hb l2)
   .rcases zx b k hk with h1 | h1
    .exact h1
    .exact absurd hb (h1.2 i e hl)
 .have key:∀k,k≠r->(A0 h r o' k).live->(h k).live:=fun k hk hl=>by rwa [B6 _ _ _ _ hk]at hl
  by_cases e1:i=r<;>by_cases e2:j=r
  .exact e1.trans e2.symm
  .subst e1;simp only[Gh.upd,Sc,Ai e2]at ei ej;rw[Bj]at hi;have hl:=key j e2 hj;rcases(xw b hi ei).2 with ⟨q1,q2⟩ | q
   .exact hI.inj i j b q1 hl q2 ej
   .have:=(hI.loc j b hl ej).1;omega
  .subst e2;simp only[Gh.upd,Sc,Ai e1]at ei ej;rw[Bj]at hj;have hl:=key i e1 hi;rcases(xw b hj ej).2 with ⟨q1,q2⟩ | q
   .exact hI.inj i j b hl q1 ei q2
   .have:=(hI.loc i b hl ei).1;omega
  .simp only[Gh.upd,Ai e1,Ai e2]at ei ej;exact hI.inj i j b (key i e1 hi) (key j e2 hj) ei ej
 .by_cases e:i=r
  .subst e;simp only[Gh.upd,Sc]at ei;rw[Bj]at hi;obtain⟨q0,q⟩:=xw b hi ei;refine⟨q0,?_⟩;rcases q with ⟨q1,q2⟩ | q
   .exact(hI.loc i b q1 q2).2
   .exact .inl (AJ hI.size q)
  .simp only[Gh.upd,Ai e]at ei;rw[B6 _ _ _ _ e]at hi;obtain⟨l1,l2⟩:=hI.loc i b hi ei;exact⟨By l1 om.2.2.2,l2⟩
 .rcases wQ b o hs with h1 | ⟨_,h2⟩
  .exact hI.sg b o h1
  .rcases h2 with h2 | ⟨h2,h3⟩
   .exact .inr (.inl (AJ hI.size h2))
   .exact .inr (hI.loc r b h2 h3).2
theorem DX.heapEq{w0:World}{g0:Gh}{h0 h:Nat->HO}{w:World}(hI:DX w0 g0 h0 h g w)(om:w'.os=w.os/\w'.tape=w.tape/\w'.output=w.output)(hh:w'.heap=w.heap) :
  DX w0 g0 h0 h g w'/\Le h g w h g w':=by
 have hc:∀a,w'.cell? a=w.cell? a:=fun a=>by simp only[World.cell?,hh]
 have hK:EH g w g w':=fun b o hb=>⟨hb,hc _,fun es ck he=>by rw[hh];exact he⟩;refine⟨⟨om.1.trans hI.os,om.2.1.trans hI.tape,om.2.2.trans hI.output,by rw[hh];exact hI.size,fun b hb hn=>by rw[hh];exact hI.frame b hb hn,fun b o hb=>by rw[hh];exact hI.slt b o hb,fun r=>?_,hI.inj,fun r b h1 h2=>by rw[hh];exact hI.loc r b h1 h2,hI.sg,hI.glob.keep hK⟩,.refl _ _,fun _ h=>h,hK⟩;exact(hI.objs r).same hK (fun _ h=>h) (.refl _ _) rfl rfl rfl rfl (fun b _ _=>⟨by rw[hh],fun _ h=>h⟩)
def OP:TypeDesc->TD
 |.bool=>.bool
 |.int k=>.int k
 |.string=>.string
 |.slice e=>.slice e
 |.array n e=>.array n e
 | .struct fs => bif fs.any (fun f => f.name == "_") then .other else .struct (fs.toList.map fun f => (f.type, f.offset))
 |.pointer e=>.ptr e
 |.map k e=>.map k e
 |.func ..=>.func
 |.interface _=>.iface
 |_=>.other
def jz(t:Nat):TI :=
 match P.underlying t,P.info? t with
 |some d,some i=>match i.zero with
  |some z=>⟨OP d,i.size,i.bytes,z,!P.stoodInHeld t&&!P.eqGuardType P.depth t⟩
  |none=>⟨.other,0,0,.nilIface,false⟩
 |_,_=>⟨.other,0,0,.nilIface,false⟩
def Kq:TD->Bool
 |.struct _=>true
 |.array _ _=>true
 |_=>false
theorem TI.zc_cells(i:TI):i.zc=i.zero.cells.toList:=by
 unfold TI.zc Value.cells;cases i.zero<;>rfl
def dC:TI:=⟨.other,0,0,.nilIface,false⟩
def CF(T:GU):Prop:=∀t,T t=dC\/T t=jz P t
section
variable {P:Program}{T:GU}(hT:CF P T)
include hT
theorem CF.get(h:(T t).d≠.other):∃d i z,P.underlying t=some d/\(T t).d=OP d/\P.info? t=some i/\i.zero=some z/\(T t).size=i.size/\(T t).bytes=i.bytes /\
  (T t).zero=z/\((T t).eqok=true->P.stoodInHeld t=false/\P.eqGuardType P.depth t=false):=by
 rcases hT t with e | e
 .rw[e]at h;exact absurd rfl h
 unfold jz at e;split at e
 .split at e
  .rename_i d i h1 h2 _ z h3;exact⟨d,i,z,h1,by rw[e],h2,h3,by rw[e],by rw[e],by rw[e],fun he=>by rw[e]at he;simpa using he⟩
  .rw[e]at h;exact absurd rfl h
 .rw[e]at h;exact absurd rfl h
end
theorem Fe(fs:Array Field):OP (.struct fs)=.other\/OP (.struct fs)=.struct (fs.toList.map fun f=>(f.type,f.offset)):=by
 have e : OP (.struct fs) = bif fs.any (fun f => f.name == "_") then .other else .struct (fs.toList.map fun f => (f.type, f.offset)) := rfl
 rw [e];cases fs.any (fun f => f.name == "_")
 .exact .inr rfl
 .exact .inl rfl
section
variable {P:Program}{T:GU}(hT:CF P T)
include hT
theorem CF.slice{t e:Nat}(h:(T t).d=.slice e):P.underlying t=some (.slice e):=by
 obtain⟨d,i,z,h1,h2,_⟩:=hT.get (t:=t) (by rw[h];simp);rw[h]at h2;cases d with
 |struct fs=>rcases Fe fs with e |e<;>rw[e]at h2<;>cases h2
 |_=>simp[OP]at h2<;>(subst h2;exact h1)
theorem CF.string{t:Nat}(h:(T t).d=.string):P.underlying t=some .string:=by
 obtain⟨d,i,z,h1,h2,_⟩:=hT.get (t:=t) (by rw[h];simp);rw[h]at h2;cases d with
 |struct fs=>rcases Fe fs with e |e<;>rw[e]at h2<;>cases h2
 |_=>first |exact h1 |(simp[OP]at h2;done)
theorem CF.bool{t:Nat}(h:(T t).d=.bool):P.underlying t=some .bool:=by
 obtain⟨d,i,z,h1,h2,_⟩:=hT.get (t:=t) (by rw[h];simp);rw[h]at h2;cases d with
 |struct fs=>rcases Fe fs with e |e<;>rw[e]at h2<;>cases h2
 |_=>first |exact h1 |(simp[OP]at h2;done)
theorem CF.int{t:Nat}{k:IntKind}(h:(T t).d=.int k):P.underlying t=some (.int k):=by
 obtain⟨d,i,z,h1,h2,_⟩:=hT.get (t:=t) (by rw[h];simp);rw[h]at h2;cases d with
 |struct fs=>rcases Fe fs with e |e<;>rw[e]at h2<;>cases h2
 |_=>simp[OP]at h2<;>(subst h2;exact h1)
theorem CF.ptr(h:(T t).d=.ptr e):P.underlying t=some (.pointer e):=by
 obtain⟨d,i,z,h1,h2,_⟩:=hT.get (t:=t) (by rw[h];simp);rw[h]at h2;cases d with
 |struct fs=>rcases Fe fs with e |e<;>rw[e]at h2<;>cases h2
 |_=>simp[OP]at h2<;>(subst h2;exact h1)
theorem CF.iface(h:(T t).d=.iface):∃ms,P.underlying t=some (.interface ms):=by
 obtain⟨d,i,z,h1,h2,_⟩:=hT.get (t:=t) (by rw[h];simp);rw[h]at h2;cases d with
 |struct fs=>rcases Fe fs with e |e<;>rw[e]at h2<;>cases h2
 |interface ms=>exact⟨ms,h1⟩
 |_=>simp[OP]at h2
theorem CF.map{t k e:Nat}(h:(T t).d=.map k e):P.underlying t=some (.map k e):=by
 obtain⟨d,i,z,h1,h2,_⟩:=hT.get (t:=t) (by rw[h];simp);rw[h]at h2;cases d with
 |struct fs=>rcases Fe fs with e |e<;>rw[e]at h2<;>cases h2
 |_=>simp[OP]at h2<;>(obtain⟨rfl,rfl⟩:=h2;exact h1)
theorem CF.array{t n e:Nat}(h:(T t).d=.array n e):P.underlying t=some (.array n e):=by
 obtain⟨d,i,z,h1,h2,_⟩:=hT.get (t:=t) (by rw[h];simp);rw[h]at h2;cases d with
 |struct fs=>rcases Fe fs with e |e<;>rw[e]at h2<;>cases h2
 |_=>simp[OP]at h2<;>(obtain⟨rfl,rfl⟩:=h2;exact h1)
theorem CF.struct {t : Nat} {fs : List (Nat × Nat)} (h : (T t).d = .struct fs) : ∃ fa : Array Field, P.underlying t = some (.struct fa) /\ fs = fa.toList.map (fun f => (f.type, f.offset)) /\ ∀ f ∈ fa.toList, f.name ≠ "_" := by
 obtain⟨d,i,z,h1,h2,_⟩:=hT.get (t:=t) (by rw[h];simp);rw[h]at h2;cases d with
 |struct fa =>
  refine⟨fa,h1,?_,?_⟩
  .rcases Fe fa with e | e<;>rw[e]at h2<;>cases h2;rfl
  .change TD.struct fs = (bif fa.any (fun f => f.name == "_") then .other else .struct (fa.toList.map fun f => (f.type, f.offset))) at h2
   cases hh : fa.any (fun f => f.name == "_") with
   |true=>rw[hh]at h2;cases h2
   |false =>
    intro f hf e;rw[Array.any_eq_false]at hh;obtain⟨j,hj,rfl⟩:=Cf.1 hf
    have:=hh j (by simpa using hj)
    simp at this;exact this (by simpa using e)
 |_=>simp[OP]at h2
theorem CF.size(w:World){t:Nat}(h:(T t).d≠.other):(sizeOf t).run P w=.ok (T t).size w:=by
 obtain⟨d,i,z,h1,h2,h3,h4,h5,_⟩:=hT.get h;simp[sizeOf,typeInfo,h3,h5]
theorem CF.size1(w:World){n:Nat}(h:(T t).size=n+1):(sizeOf t).run P w=.ok (n+1) w:=by
 rcases hT t with e | e
 .rw[e]at h;cases h
 unfold jz at e;split at e
 .split at e
  .rename_i d i h1 h2 _ z h3;rw[e]at h;dsimp only at h;simp[sizeOf,typeInfo,h2,h]
  .rw[e]at h;cases h
 .rw[e]at h;cases h
theorem CF.isAgg(w:World){t:Nat}(h:(T t).d≠.other):(isAgg t).run P w=.ok (Kq (T t).d) w:=by
 obtain⟨d,i,z,h1,h2,_⟩:=hT.get h;rw[h2];rw[h2]at h;cases d with
 |struct fs =>
  rcases Fe fs with e | e
  .exact absurd e h
  .rw[e];simp[Go.isAgg,run_underlying h1,Kq]
 |_=>simp[Go.isAgg,run_underlying h1,OP,Kq]
end
def BO(h:Nat->HO)(g:Gh)(w:World)(m:Sem Value)(K:AV->Prop):Prop:=∃x av,m.run P w=.ok x w/\K av/\BM g w (AQ h) av x
theorem TR{p:Prop}{K:AV->Prop}(h:Jr p K)(hb:b=true↔p):K (.v (.bool b)):=by
 cases b with
 |true=>exact h.1 (hb.1 rfl)
 |false=>exact h.2 (fun e=>by have:=hb.2 e;cases this)
theorem KV(h:vM k k'=true):k=k':=by cases k<;>cases k'<;>first | rfl | (simp[vM]at h)
theorem NK{a:Int}(h:A7 a):IntKind.i64.wrap a=a:=by
 unfold A7 at h;simp[IntKind.wrap,IntKind.bits,IntKind.signed];omega
theorem KQ:∀l m:List UInt8,(Op.bytesLess l m||l == m)=!Op.bytesLess m l
 | [],[]=>rfl
 | [],_::_=>rfl
 |_::_,[]=>rfl
 |a::l,b::m=>by
  have ih:=KQ l m;simp only[Op.bytesLess];rcases Nat.lt_trichotomy a.toNat b.toNat with h | h | h
  .have h1:a<b:=h;have h2:¬b<a:=fun e=>by have:b.toNat<a.toNat:=e;omega
   have h3:b≠a:=fun e=>by subst e;omega
   simp[h1,h2,h3]
  .have h1:a=b:=UInt8.toNat_inj.1 h;subst h1;simpa using ih
  .have h1:b<a:=h;have h2:¬a<b:=fun e=>by have:a.toNat<b.toNat:=e;omega
   have h3:a≠b:=fun e=>by subst e;omega
   simp[h1,h2,h3]
theorem Km(a b:ByteArray):(a.toList == b.toList)=true↔a=b:=by
 rw[ByteArray.toList_eq,ByteArray.toList_eq];constructor
 .intro h;have h1:=eq_of_beq h;cases a;cases b
  congr
  exact OT h1
 .rintro rfl;simp
section
variable {P:Program}{T:GU}{h:Nat->HO}{g:Gh}{w:World}{K:AV->Prop}
theorem BO.bool{p:Prop}(hm:m.run P w=.ok (.bool b) w)(hb:b=true↔p)(hk:Jr p K):BO P h g w m K :=
 ⟨_,_,hm,TR hk hb,.v _ _⟩
theorem BO.val(hm:m.run P w=.ok x w)(hk:K (.v x)):BO P h g w m K:=⟨_,_,hm,hk,.v _ _⟩
theorem Rs{t:Nat}{a b:Int}(hk:Vh op k a b K) :
  BO P h g w (do eqGuard op t X Y (.int k a) (.int k' b);binOp op t (.int k a) (.int k' b)) K:=by
 cases op
 case shl=>exact BO.val (by simp[eqGuard,binOp,Op.shift,Gx,Int.not_lt.2 hk.1]) hk.2
 case shr=>exact BO.val (by simp[eqGuard,binOp,Op.shift,Gx,Int.not_lt.2 hk.1]) hk.2
 all_goals exact hk.elim
theorem gt{t:Nat}{a b:Int}(hk:TL op k a b K) :
  BO P h g w (do eqGuard op t X Y (.int k a) (.int k b);binOp op t (.int k a) (.int k b)) K:=by
 have key:∀{k:IntKind},XO op k a b K->BO P h g w (do eqGuard op t X Y (.int k a) (.int k b);binOp op t (.int k a) (.int k b)) K:=by
  intro k hk;cases op
  case quo =>
   obtain⟨⟨h1,h2,h3⟩,hk⟩:=hk;have hb:¬b=0:=by omega
   exact BO.val (by simp[eqGuard,binOp,Op.intDiv,hb,Int.tdiv_eq_ediv_of_nonneg h1,h3]) hk
  case rem =>
   obtain⟨⟨h1,h2⟩,hk⟩:=hk;have hb:¬b=0:=by omega
   exact BO.val (by simp[eqGuard,binOp,Op.intDiv,hb,Int.tmod_eq_emod_of_nonneg h1]) hk
  case shl=>exact Rs hk
  case shr=>exact Rs hk
  all_goals first | exact hk.elim | exact BO.val (by simp[eqGuard,binOp,Op.intArith,Op.intBits,Jq]) hk
 cases k with
 |i64 =>
  unfold TL at hk
  cases op<;>dsimp only at hk<;>first
   |exact hk.elim
   |(refine BO.val ?_ hk.2;simp[eqGuard,binOp,Op.intArith,NK hk.1];done)
   |exact key (k:=.i64) hk
   |skip
  .obtain⟨⟨h1,h2,h3⟩,hk⟩:=hk;refine BO.val ?_ hk;have e1:a.tdiv b=a / b:=Int.tdiv_eq_ediv_of_nonneg h1;have e3:a / b<=a:=Int.ediv_le_self b h1;have e2:IntKind.i64.wrap (a / b)=a / b:=NK ⟨by have:=Int.ediv_nonneg h1 (by omega:0<=b);omega,by unfold A7 at h3;omega⟩;have hb:¬b=0:=by omega
   simp[eqGuard,binOp,Op.intDiv,hb,e1,e2]
 |_=>exact key hk
end
def IB(k:Nat):List α:=(l.drop o).take k
theorem L5:∀{l:List KS} {vs:List Value},JM l vs=true->vs.length=l.length
 | [],[],_=>rfl
 |k::r,v::s,h=>by
  unfold JM at h;split at h
  .simp[L5 h]
  .cases h
theorem Td:∀{a b:List KS} {vs:List Value},JM (a++b) vs=true->JM a (vs.take a.length)=true/\JM b (vs.drop a.length)=true
 | [],b,vs,h=>⟨by cases vs<;>rfl,by simpa using h⟩
 |k::a,b,[],h=>by simp[JM]at h
 |k::a,b,v::vs,h=>by
  simp only[Hi,JM]at h;split at h
  .rename_i hk;obtain⟨h1,h2⟩:=Td h;simp only[Ak,Jz,List.drop_succ_cons,JM,hk];exact⟨h1,h2⟩
  .cases h
theorem fJ(k a b:Nat)(h:a+b<=k):IB (IB l o k) a b=IB l (o+a) b:=by
 unfold IB;rw[List.drop_take,List.drop_drop,OY]
 congr 1
 omega
theorem qC(k:Nat):(IB l o k).length=min k (l.length-o):=by simp[IB]
theorem Qp(k a:Nat)(h:a<=k):(IB l o k).take a=IB l o a:=by
 unfold IB;rw[OY];congr 1;omega
theorem Qo(k a:Nat):(IB l o k).drop a=IB l (o+a) (k-a):=by
 unfold IB;rw[List.drop_take,List.drop_drop]
theorem jn(m:List α)(o a b:Nat):(IB l o (a+b)=IB m o (a+b))↔(IB l o a=IB m o a/\IB l (o+a) b=IB m (o+a) b):=by
 constructor
 .intro h;constructor
  .rw[<-Qp l o (a+b) a ch,h,Qp m o (a+b) a ch]
  .have h1:=Aa (List.drop a) h;rw[Qo,Qo,Hl]at h1;exact h1
 .rintro⟨h1,h2⟩
  have e:∀x:List α,IB x o (a+b)=IB x o a++IB x (o+a) b:=fun x=>by
   unfold IB;rw[List.take_add,List.drop_drop]
  rw[e,e,h1,h2]
section
variable {P:Program}{T:GU}(hT:CF P T)
include hT
theorem Eb(w:World)(hd:(T t).d≠.other)(hs:Kq (T t).d=false)(xs:Array Value)(o:Nat)(x:Value)(h:xs[o]?=some x) :
  (part t xs o).run P w=.ok x w:=by
 unfold part;simp[Sem.run_bind,hT.isAgg w hd,hs,h]
theorem G4(w:World)(hd:(T t).d≠.other)(hs:Kq (T t).d=true)(xs:Array Value)(o:Nat) :
  (part t xs o).run P w=.ok (.agg (xs.extract o (o+(T t).size))) w:=by
 unfold part;simp[Sem.run_bind,hT.isAgg w hd,hs,hT.size w hd]
def rd(P:Program)(w:World)(d t:Nat)(xs ys:Array Value)(o k:Nat):Prop :=
 ∃b:Bool,(do let a <-part t xs o;let b <-part t ys o;Op.equalIn d t a b).run P w=.ok b w/\(b=true↔IB xs.toList o k=IB ys.toList o k)
omit hT in
theorem Mc{xs:Array Value}{o:Nat}{k:KS}(h:JM [k] (IB xs.toList o 1)=true):∃x,xs[o]?=some x/\N4 k x=true/\IB xs.toList o 1=[x]:=by
 have hl:=L5 h;rw[qC]at hl;simp at hl;have Dz:o<xs.size:=by omega
 have e:IB xs.toList o 1=[xs[o]]:=by
  unfold IB;rw[AH (by simpa using Dz)];simp
 rw[e]at h;refine⟨xs[o],by simp[Dz],?_,e⟩;unfold JM at h;split at h
 .assumption
 .cases h
omit hT in
theorem N1{f:Nat->Option (List KS)}:∀{fs:List (Nat×Nat)} {n:Nat} {l:List KS},Ou f n fs=some l ->
  match fs with | []=>l=[] | (t,o)::r=>o=n/\∃a b,f t=some a/\Ou f (n+a.length) r=some b/\l=a++b
 | [],n,l,h=>by cases h;rfl
 |(t,o)::r,n,l,h=>by
  unfold Ou at h;split at h
  .rename_i ho;split at h
   .rename_i a ha;split at h
    .rename_i b hb;cases h;exact⟨AK ho,a,b,ha,hb,rfl⟩
    .cases h
   .cases h
  .cases h
omit hT in
theorem NX(w:World)(n d:Nat)(hB:∀t l,Ie T n t=some l->∀xs ys o,JM l (IB xs.toList o l.length)=true->JM l (IB ys.toList o l.length)=true->rd P w d t xs ys o l.length) :
  ∀ (fa : List Field) (m : Nat) (l : List KS), (∀ f ∈ fa, f.name ≠ "_") -> Ou (Ie T n) m (fa.map fun f => (f.type, f.offset)) = some l ->
   ∀xs ys:Array Value,JM l (IB xs.toList m l.length)=true->JM l (IB ys.toList m l.length)=true ->
    ∃b:Bool,(Op.eqFields d xs ys fa).run P w=.ok b w/\(b=true↔IB xs.toList m l.length=IB ys.toList m l.length)
 | [],m,l,_,h,xs,ys,_,_=>by
  cases h
  exact⟨true,rfl,by simp[IB]⟩
 |f::fa,m,l,hn,h,xs,ys,hx,hy=>by
  obtain⟨ho,a,b,ha,hb,rfl⟩:=N1 h;rw[Ac]at hx hy⊢;obtain⟨x1,x2⟩:=Td hx;obtain⟨y1,y2⟩:=Td hy;rw[Qp _ _ _ _ ch]at x1 y1;rw[Qo,Hl]at x2 y2;obtain⟨c,c1,c2⟩:=hB _ _ ha xs ys m x1 y1;obtain⟨e,e1,e2⟩:=NX w n d hB fa (m+a.length) b (fun f hf=>hn f (Ah _ hf)) hb xs ys x2 y2;have Dy:=hn f (Ab ..);have oW : (do let x <-part f.type xs f.offset;let y <-part f.type ys f.offset;Op.equalIn d f.type x y).run P w=.ok c w:=by rw[ho];exact c1
  have CP:(Op.eqFields d xs ys (f::fa)).run P w=.ok (if c=true then e else false) w:=by
   unfold Op.eqFields;rw[Al Dy];simp only[Sem.run_bind]at oW⊢;generalize (part f.type xs f.offset).run P w=r1 at oW⊢;cases r1 with
   |halt x w1=>cases oW
   |ok u w1 =>
    simp only[Result.andThen_ok]at oW⊢;generalize (part f.type ys f.offset).run P w1=r2 at oW⊢;cases r2 with
    |halt x w1=>cases oW
    |ok u2 w2 =>
     simp only[Result.andThen_ok]at oW⊢;rw[oW];simp only[Result.andThen_ok];cases c<;>simp[e1]
  refine⟨_,CP,?_⟩;rw[jn];cases c<;>cases e<;>simp_all
theorem X6(w:World):∀(n t:Nat) (l:List KS),Ie T n t=some l->∀d,n<=d->∀(xs ys:Array Value) (o:Nat),JM l (IB xs.toList o l.length)=true->JM l (IB ys.toList o l.length)=true ->
  rd P w d t xs ys o l.length
 |0,t,l,h=>by simp[Ie]at h
 |n+1,t,l,h=>by
  intro d hd xs ys o hx hy;obtain⟨d,rfl⟩:∃d',d=d'+1:=⟨d-1,by omega⟩;unfold Ie at h;split at h
  .rename_i k hk;split at h
   .cases h
    obtain⟨x,x1,x2,x3⟩:=Mc hx;obtain⟨y,y1,y2,y3⟩:=Mc hy;have cz:(T t).d≠.other:=by rw[hk];simp
    have hs:Kq (T t).d=false:=by rw[hk];rfl
    cases x<;>simp[N4]at x2
    cases y<;>simp[N4]at y2
    rename_i k1 n1 k2 n2;obtain rfl:=KV x2;obtain rfl:=KV y2;refine⟨n1 == n2,?_,?_⟩
    .simp[Sem.run_bind,Eb hT w cz hs xs o _ x1,Eb hT w cz hs ys o _ y1,run_equalIn_int w d t k k n1 n2 (hT.int hk)]
    .simp only[Bb];rw[x3,y3];simp
   .cases h
  .rename_i hk;split at h
   .cases h
    obtain⟨x,x1,x2,x3⟩:=Mc hx;obtain⟨y,y1,y2,y3⟩:=Mc hy;have cz:(T t).d≠.other:=by rw[hk];simp
    have hs:Kq (T t).d=false:=by rw[hk];rfl
    cases x<;>simp[N4]at x2
    cases y<;>simp[N4]at y2
    rename_i s1 s2;refine⟨s1.toList == s2.toList,?_,?_⟩
    .simp[Sem.run_bind,Eb hT w cz hs xs o _ x1,Eb hT w cz hs ys o _ y1,run_equalIn_string w d t s1 s2 (hT.string hk)]
    .simp only[Bb];rw[x3,y3,Km];simp
   .cases h
  .rename_i hk;split at h
   .cases h
    obtain⟨x,x1,x2,x3⟩:=Mc hx;obtain⟨y,y1,y2,y3⟩:=Mc hy;have cz:(T t).d≠.other:=by rw[hk];simp
    have hs:Kq (T t).d=false:=by rw[hk];rfl
    cases x<;>simp[N4]at x2
    cases y<;>simp[N4]at y2
    rename_i s1 s2;refine⟨s1 == s2,?_,?_⟩
    .simp[Sem.run_bind,Eb hT w cz hs xs o _ x1,Eb hT w cz hs ys o _ y1,run_equalIn_bool' w d t s1 s2 (hT.bool hk)]
    .simp only[Bb];rw[x3,y3];simp
   .cases h
  .rename_i fs hk;split at h
   .rename_i GM;split at h
    .rename_i l' KU;split at h
     .rename_i CL;cases h;have CL:=AK CL;have cz:(T t).d≠.other:=by rw[hk];simp
      have hs:Kq (T t).d=true:=by rw[hk];rfl
      obtain⟨fa,u1,u2,u3⟩:=hT.struct hk;obtain⟨_,_,_,_,_,_,_,_,_,_,hq⟩:=hT.get cz;obtain⟨q1,q2⟩:=hq GM;rw[u2]at KU;have hf:P.fieldsOf t=fa:=by simp[Program.fieldsOf,u1]
      have ex:∀zs:Array Value,(zs.extract o (o+(T t).size)).toList=IB zs.toList o l.length:=fun zs=>by
       rw[<-CL];simp[IB]
      have s0:∀zs:Array Value,IB (IB zs.toList o l.length) 0 l.length=IB zs.toList o l.length:=fun zs=>by
       rw[fJ _ _ _ _ _ ch];rfl
      obtain⟨b,b1,b2⟩:=NX w n d (fun t l h xs ys o hx hy=>X6 w n t l h d ch xs ys o hx hy) fa.toList 0 l u3 KU (xs.extract o (o+(T t).size)) (ys.extract o (o+(T t).size))
       (by rw[ex,s0];exact hx) (by rw[ex,s0];exact hy)
      rw[ex,ex,s0,s0]at b2;refine⟨b,?_,b2⟩;simp only[Sem.run_bind,G4 hT w cz hs,Result.andThen_ok];rw[run_equalIn_struct w d t _ _ (by rw[hf];exact u1) q1,hf];exact b1
     .cases h
    .cases h
   .cases h
  .cases h
end
theorem Ra:∀{l:List KS} {xs:List AV},ah l xs=true->∃vs:List Value,xs=vs.map .v/\JM l vs=true
 | [],[],_=>⟨[],rfl,rfl⟩
 |k::r,a::s,h=>by
  cases a with
  |v x =>
   simp only[ah]at h;split at h
   .rename_i h1;obtain⟨vs,rfl,h3⟩:=Ra h;exact⟨x::vs,rfl,by simp[JM,h1,h3]⟩
   .cases h
  |_=>simp[ah]at h
 | [],_::_,h=>by simp[ah]at h
 |_::_,[],h=>by simp[ah]at h
theorem ZC:∀{l:List KS} {vs us:List Value},JM l vs=true->JM l us=true->(oa (vs.map .v) (us.map .v)↔vs=us)
 | [],[],[],_,_=>by simp[oa]
 |k::r,v::vs,u::us,h1,h2=>by
  simp only[JM]at h1 h2;split at h1
  .rename_i e1;split at h2
   .rename_i e2;have ih:=ZC h1 h2;cases k<;>cases v<;>simp[N4]at e1<;>cases u<;>simp[N4]at e2<;>simp only[AI,oa,ih,E7]
    .rename_i k1 n1 k2 n2;obtain rfl:=KV e1;obtain rfl:=KV e2;simp
    .simp
    .simp
   .cases h2
  .cases h1
 | [],_::_,_,h,_=>by simp[JM]at h
 |_::_,[],_,h,_=>by simp[JM]at h
 | [],[],_::_,_,h=>by simp[JM]at h
 |_::_,_::_,[],_,h=>by simp[JM]at h
theorem BM.v_eq{w:World}{a:Value}(h:BM g w U (.v a) x):x=a:=by cases h;rfl
theorem BM.agg_vals{w:World}{vs:List Value}(h:BM g w U (.agg (vs.map .v)) x):x=.agg vs.toArray:=by
 cases h with
 |agg _ _ us hs h1 hr =>
  congr 1
  apply OT;apply Do;intro i;simp only[A8]at hs
  by_cases hi:i<vs.length
  .have MC : i<us.size:=by omega
   have:=hr i (.v vs[i]) us[i] (by simp[hi]) (by simp[MC])
   have:=this.v_eq
   simp[hi,MC,this]
  .rw[A6 (by simp;omega),A6 (by simpa using hi)]
theorem Jx{P:Program}(hu:P.underlying t=some (.slice e))(a:Option Addr)(n c:Nat) :
  (Op.equal t (.slice a n c) (.slice none 0 0)).run P w=.ok a.isNone w:=by
 have key:∀d,(Op.equalIn (d+1) t (.slice a n c) (.slice none 0 0)).run P w=.ok a.isNone w:=fun d=>by
  cases a<;>simp[Op.equalIn,run_underlying hu]
 exact key 9999
theorem KK{P:Program}(hu:P.underlying t=some (.pointer e))(a:Option Addr) :
  (Op.equal t (.pointer a) (.pointer none)).run P w=.ok a.isNone w:=by
 have key:∀d,(Op.equalIn (d+1) t (.pointer a) (.pointer none)).run P w=.ok a.isNone w:=fun d=>by
  cases a<;>simp[Op.equalIn,run_underlying hu]
 exact key 9999
theorem Jw{P:Program}{ms:Array (String×TypeId)}(hu:P.underlying t=some (.interface ms)) :
  (Op.equal t .nilIface .nilIface).run P w=.ok true w:=by
 have key:∀d,(Op.equalIn (d+1) t .nilIface .nilIface).run P w=.ok true w:=fun d=>by
  simp[Op.equalIn,run_underlying hu]
 exact key 9999
section
variable {P:Program}{T:GU}{h:Nat->HO}{g:Gh}{w:World}{K:AV->Prop}
theorem kc{t:Nat}{a b:Int}(hk:TQ T op t (.v (.int k a)) (.v (.int k' b)) K) :
  BO P h g w (do eqGuard op t X Y (.int k a) (.int k' b);binOp op t (.int k a) (.int k' b)) K:=by
 unfold TQ at hk;dsimp only at hk;split at hk
 .exact Rs hk
 .rename_i e;obtain rfl:=KV e;cases op<;>dsimp only at hk
  case eql=>exact BO.bool (b:=a == b) (by simp[eqGuard,binOp,Op.intCmp]) B0 hk
  case neq=>exact BO.bool (b:=a != b) (by simp[eqGuard,binOp,Op.intCmp]) B0 hk
  case lss=>exact BO.bool (b:=decide (a<b)) (by simp[eqGuard,binOp,Op.intCmp]) B0 hk
  case leq=>exact BO.bool (b:=decide (a<=b)) (by simp[eqGuard,binOp,Op.intCmp]) B0 hk
  case gtr=>exact BO.bool (b:=decide (b<a)) (by simp[eqGuard,binOp,Op.intCmp]) B0 hk
  case geq=>exact BO.bool (b:=decide (b<=a)) (by simp[eqGuard,binOp,Op.intCmp]) B0 hk
  all_goals exact gt hk
theorem kd{t:Nat}{a b:ByteArray}(hk:TQ T op t (.v (.string a)) (.v (.string b)) K) :
  BO P h g w (do eqGuard op t X Y (.string a) (.string b);binOp op t (.string a) (.string b)) K:=by
 unfold TQ at hk;have tri:=KQ a.toList b.toList;have Ah5:=KQ b.toList a.toList;cases op<;>dsimp only at hk
 case eql=>exact BO.bool (b:=a.toList == b.toList) (by simp[eqGuard,binOp,Op.stringOp]) (Km a b) hk
 case neq=>exact BO.bool (b:=!(a.toList == b.toList)) (by simp[eqGuard,binOp,Op.stringOp]) (by
  have:=Km a b
  cases hq:a.toList == b.toList<;>simp_all) hk
 case lss=>exact BO.bool (b:=Op.bytesLess a.toList b.toList) (by simp[eqGuard,binOp,Op.stringOp]) B0 hk
 case leq=>exact BO.bool (b:=Op.bytesLess a.toList b.toList||a.toList == b.toList) (by simp[eqGuard,binOp,Op.stringOp]) (by rw[tri];simp) hk
 case gtr=>exact BO.bool (b:=!(Op.bytesLess a.toList b.toList||a.toList == b.toList)) (by simp[eqGuard,binOp,Op.stringOp]) (by rw[tri];simp) hk
 case geq=>exact BO.bool (b:=!Op.bytesLess a.toList b.toList) (by simp[eqGuard,binOp,Op.stringOp]) B0 hk
 case add =>
  refine BO.val (x:=.string (a++b)) ?_ hk.2;have h1:¬((a.size:Int)+(b.size:Int)>IntKind.i64.max):=by have:=hk.1;simp[IntKind.max,IntKind.bits,IntKind.signed];omega
  simp[eqGuard,binOp,Op.stringOp];omega
 all_goals exact hk.elim
theorem iN{K:AV->Prop}(hk:iM K (.v (.bool b))):K (.v (.bool (!b))):=by cases b<;>exact hk
theorem kQ(hT:CF P T){t:Nat}{x y:AV}(hx:BM g w (AQ h) x vx)(hy:BM g w (AQ h) y vy){K:AV->Prop}(hk:vt T t x y K) :
  ∃b:Bool,(Op.equal t vx vy).run P w=.ok b w/\K (.v (.bool b))/\(∀op X Y,(op=.eql\/op=.neq)->(eqGuard op t X Y vx vy).run P w=.ok () w) /\
   binOp .eql t vx vy=(do pure (.bool (<-Op.equal t vx vy)))/\binOp .neq t vx vy=(do pure (.bool (!(<-Op.equal t vx vy)))):=by
 unfold vt at hk;split at hk
 .rename_i ht;split at hk
  .obtain rfl:=hx.v_eq;obtain rfl:=hy.v_eq;refine⟨_,?_,hk,fun op X Y _=>by rcases ‹op=_\/op=_› with rfl | rfl<;>simp[eqGuard],rfl,rfl⟩
   rw[Op.equal,Op.maxDepth];exact run_equalIn_bool' w 9999 t _ _ (hT.bool ht)
  .exact hk.elim
 .rename_i fs ht;split at hk
  .split at hk
   .rename_i l hl;split at hk
    .rename_i k1;split at hk
     .rename_i k2;obtain⟨vs,rfl,s1⟩:=Ra k1;obtain⟨us,rfl,s2⟩:=Ra k2;obtain rfl:=hx.agg_vals;obtain rfl:=hy.agg_vals;have Dy:(T t).d≠.other:=by rw[ht];simp
      obtain⟨_,_,_,_,_,_,_,_,_,_,hq⟩:=hT.get Dy;have hag:Kq (T t).d=true:=by rw[ht];rfl
      have hfl:=hl;unfold Ie at hfl;rw[ht]at hfl;dsimp only at hfl;split at hfl
      .rename_i GM;split at hfl
       .split at hfl
        .rename_i CL;cases hfl;have CL:=AK CL;have e1:∀zs:List Value,JM l zs=true->IB zs.toArray.toList 0 l.length=zs:=fun zs hz=>by
          have:=L5 hz
          simp[IB,<-this]
         obtain⟨b,b1,b2⟩:=X6 hT w 8 t l hl 10000 ch vs.toArray us.toArray 0 (by rw[e1 _ s1];exact s1) (by rw[e1 _ s2];exact s2);rw[e1 _ s1,e1 _ s2]at b2;have ex:∀zs:List Value,JM l zs=true->zs.toArray.extract 0 (0+(T t).size)=zs.toArray:=fun zs hz=>by
          have:=L5 hz
          rw[<-CL,<-this];simp
         simp only[Sem.run_bind,G4 hT w Dy hag,Result.andThen_ok,ex _ s1,ex _ s2]at b1;refine⟨b,b1,TR hk (by rw[b2,ZC s1 s2]),fun op X Y _=>run_eqGuard_agg w op t X Y _ _ (hq GM).2,rfl,rfl⟩
        .cases hfl
       .cases hfl
      .cases hfl
     .exact hk.elim
    .exact hk.elim
   .exact hk.elim
  .exact hk.elim
 .rename_i e ht;have hu:=hT.slice ht;split at hk
  .rename_i tk es;obtain rfl:=hy.v_eq;obtain⟨a,n,c,rfl,hn⟩:∃a n c,vx=.slice a n c/\(es≠[]->a.isNone=false):=by
    have:=hx.slice_none
    cases this with
    |snil _ a c=>exact⟨_,_,_,rfl,fun h=>absurd rfl h⟩
    |slice _ _ b off sz cap val=>exact⟨_,_,_,rfl,fun _=>rfl⟩
   refine⟨a.isNone,?_,?_,fun op X Y _=>by rcases ‹op=_\/op=_› with rfl | rfl<;>simp[eqGuard],rfl,rfl⟩
   .exact Jx w hu _ _ _
   .by_cases he:es=[]
    .cases a.isNone
     .exact(hk.2 he).2
     .exact(hk.2 he).1
    .rw[hn he];exact hk.1 he
  .obtain rfl:=hx.v_eq;obtain rfl:=hy.v_eq;refine⟨true,?_,hk,fun op X Y _=>by rcases ‹op=_\/op=_› with rfl | rfl<;>simp[eqGuard],rfl,rfl⟩
   exact Jx w hu _ _ _
  .exact hk.elim
 .rename_i e ht;have hu:=hT.ptr ht
  have key:∀a:Addr,vx=.pointer (some a)->vy=.pointer none->K (.v (.bool false))->∃b:Bool,(Op.equal t vx vy).run P w=.ok b w/\K (.v (.bool b))/\(∀op X Y,(op=.eql\/op=.neq)->(eqGuard op t X Y vx vy).run P w=.ok () w) /\
   binOp .eql t vx vy=(do pure (.bool (<-Op.equal t vx vy)))/\binOp .neq t vx vy=(do pure (.bool (!(<-Op.equal t vx vy)))):=by
   rintro a rfl rfl hk
   refine⟨false,?_,hk,fun op X Y _=>by rcases ‹op=_\/op=_› with rfl | rfl<;>simp[eqGuard],rfl,rfl⟩
   exact KK w hu _
  split at hk
  .obtain rfl:=hx.v_eq;obtain rfl:=hy.v_eq;refine⟨true,?_,hk,fun op X Y _=>by rcases ‹op=_\/op=_› with rfl | rfl<;>simp[eqGuard],rfl,rfl⟩
   exact KK w hu _
  .cases hx;exact key _ rfl hy.v_eq hk
  .cases hx;exact key _ rfl hy.v_eq hk
  .cases hx;exact key _ rfl hy.v_eq hk
  .exact hk.elim
 .exact hk.elim
theorem oQ(hT:CF P T){t:Nat}{x y:AV}(hx:BM g w (AQ h) x vx)(hy:BM g w (AQ h) y vy)(hk:TQ T op t x y K) :
  BO P h g w (do eqGuard op t X Y vx vy;binOp op t vx vy) K:=by
 unfold TQ at hk;split at hk
 .obtain rfl:=hx.v_eq;obtain rfl:=hy.v_eq;exact kc (T:=T) (by unfold TQ;exact hk)
 .obtain rfl:=hx.v_eq;obtain rfl:=hy.v_eq;exact kd (T:=T) (by unfold TQ;exact hk)
 .split at hk
  .obtain⟨b,b1,b2,b3,b4,b5⟩:=kQ hT hx hy hk;refine⟨_,_,?_,b2,.v _ _⟩;simp[Sem.run_bind,b3 .eql X Y (.inl rfl),b4,b1]
  .obtain⟨b,b1,b2,b3,b4,b5⟩:=kQ hT hx hy hk;refine⟨_,_,?_,iN b2,.v _ _⟩;simp[Sem.run_bind,b3 .neq X Y (.inr rfl),b5,b1]
  .exact hk.elim
theorem kb(hT:CF P T){t:Nat}{x y:AV}(hx:BM g w (AQ h) x vx)(hy:BM g w (AQ h) y vy)(hc:∀v,Y=.const v->vy=v)(hk:Zf T op t Y x y K) :
  BO P h g w (do eqGuard op t X Y vx vy;binOp op t vx vy) K:=by
 unfold Zf at hk;split at hk
 .obtain rfl:=hc _ rfl;split at hk
  .obtain rfl:=hx.v_eq;split at hk
   .rename_i ht;obtain⟨ms,hu⟩:=hT.iface ht;split at hk
    .refine⟨_,_,?_,hk,.v _ _⟩;have e:binOp .eql t .nilIface .nilIface=(do pure (.bool (<-Op.equal t .nilIface .nilIface))):=rfl;simp[eqGuard,e,Jw w hu]
    .refine⟨_,_,?_,hk,.v _ _⟩;have e:binOp .neq t .nilIface .nilIface=(do pure (.bool (!(<-Op.equal t .nilIface .nilIface)))):=rfl;simp[eqGuard,e,Jw w hu]
    .exact hk.elim
   .exact hk.elim
  .exact hk.elim
 .exact oQ hT hx hy hk
end
def H4(g:Gh)(w:World)(U:Nat->Prop)(b off:Nat)(cs:List AV):Prop :=
 ∀(j:Nat) (av:AV),cs[j]?=some av->∃x,w.cell? ⟨b,off+j,none⟩=some x/\x.oneCell'=true/\BM g w U av x
theorem H4.drop{g:Gh}{w:World}{U:Nat->Prop}{b off:Nat}{cs:List AV}(h:H4 g w U b off cs)(n:Nat):H4 g w U b (off+n) (cs.drop n):=fun j av hj=>by
 rw[DP]at hj
 have:=h _ _ hj
 rwa [<-GW]at this
theorem H4.of_cptr{w:World}{b off:Nat}(h:BM g w U (.cptr cs) (.pointer (some ⟨b,off,none⟩)))(V:Nat->Prop):H4 g w V b off cs:=by
 cases h with
 |cptr _ _ _ _ val DN Es=>exact fun j av hj=>⟨_,(DN j av hj).2.1,(DN j av hj).2.2,(Es j av hj).up V⟩
theorem FR{w:World}{b o:Nat}(h:w.heap[b]?=some (.cells vs E f)):w.cell? ⟨b,o,none⟩=vs[o]?:=by
 simp[World.cell?,h]
theorem H4.of_row{w:World}{b:Nat}(h:w.heap[b]?=some (.cells vs E f))(hr:CO g w U cs vs.toList):H4 g w U b 0 cs:=fun j av hj=>by
 have Dz:j<vs.toList.length:=by rw[hr.1];exact(Au.1 hj).1
 have hx:vs.toList[j]?=some vs.toList[j]:=Ay Dz;refine⟨vs.toList[j],?_,hr.2.1 _ (Aq Dz),hr.2.2 j av _ hj hx⟩;rw[FR h,Bf];simp only[A3]at hx;exact hx
theorem Hu{n j:Nat}{f:Nat->α}{x:α}(h:((List.range n).map f)[j]?=some x):j<n/\x=f j:=by
 by_cases hj:j<n
 .simp[hj]at h;exact⟨hj,h.symm⟩
 .rw[A6 (by simp;omega)]at h;cases h
section
variable {P:Program}{T:GU}(hT:CF P T){h:Nat->HO}{g:Gh}{w:World}{K:AV->Prop}
include hT
theorem Mr{t:Nat}{b off:Nat}(hd:(T t).d≠.other)(ha:Kq (T t).d=false)(hc:w.cell? ⟨b,off,none⟩=some x):(loadVar t ⟨b,off,none⟩).run P w=.ok x w:=by
 unfold loadVar;simp[Sem.run_bind,hT.isAgg w hd,ha,hc]
theorem SO{t:Nat}{b off:Nat}{vs:List Value}(hd:(T t).d≠.other)(ha:Kq (T t).d=true)(hl:vs.length=(T t).size)
  (hc:∀j x,vs[j]?=some x->w.cell? ⟨b,off+j,none⟩=some x):(loadVar t ⟨b,off,none⟩).run P w=.ok (.agg vs.toArray) w:=by
 unfold loadVar;have hr:=run_loadCells_list (P:=P) w ⟨b,off,none⟩ vs (fun j x hj=>by rw[Addr.add_lit];exact hc j x hj);simp[Sem.run_bind,hT.isAgg w hd,ha,hT.size w hd,<-hl,hr]
theorem M0{t:Nat}{b off:Nat}{cs:List AV}(hc:H4 g w (AQ h) b off cs)(hk:Mq T t cs K):BO P h g w (loadVar t ⟨b,off,none⟩) K:=by
 have agg:Kq (T t).d=true->(T t).d≠.other->(T t).size<=cs.length->K (.agg (cs.take (T t).size))->BO P h g w (loadVar t ⟨b,off,none⟩) K:=by
  intro ha hd H2 hk;have hex:∀j:Nat,∃x:Value,∀av,cs[j]?=some av->w.cell? ⟨b,off+j,none⟩=some x/\x.oneCell'=true/\BM g w (AQ h) av x:=fun j=>by
   cases e:cs[j]? with
   |none=>exact⟨default,fun _ h=>by cases h⟩
   |some av=>obtain⟨x,hx⟩:=hc j av e;exact⟨x,fun vX h'=>by cases h';exact hx⟩
  obtain⟨val,hval⟩:=Classical.axiomOfChoice hex;have aa:∀j,j<(T t).size->∃av,cs[j]?=some av:=fun j hj=>⟨_,Ay ch⟩;refine⟨_,_,SO hT (vs:=(List.range (T t).size).map val) hd ha B0 (fun j x hx=>?_),hk,.agg _ _ _ (by simp;omega) (fun i x hx=>?_) (fun i av x hi hx=>?_)⟩
  .obtain⟨hj,rfl⟩:=Hu hx;obtain⟨av,lq⟩:=aa j hj;exact(hval j av lq).1
  .rw[Gn]at hx;obtain⟨hj,rfl⟩:=Hu hx;obtain⟨av,lq⟩:=aa i hj;exact(hval i av lq).2.1
  .rw[Gn]at hx;obtain⟨hj,rfl⟩:=Hu hx;rw[BR hj]at hi;exact(hval i av hi).2.2
 have single:Kq (T t).d=false->(T t).d≠.other->Ml cs K->BO P h g w (loadVar t ⟨b,off,none⟩) K:=by
  intro ha hd hk;cases cs with
  |nil=>exact hk.elim
  |cons a r =>
   obtain⟨x,x1,x2,x3⟩:=hc 0 a rfl;exact⟨x,a,Mr hT hd ha x1,hk,x3⟩
 unfold Mq at hk;split at hk
 .rename_i fs e;exact agg (by rw[e];rfl) (by rw[e];simp) hk.1 hk.2
 .rename_i n m e;exact agg (by rw[e];rfl) (by rw[e];simp) hk.1 hk.2
 .rename_i e;have hd:(T t).d≠.other:=by rw[e];simp
  have ha:Kq (T t).d=false:=by rw[e];rfl
  cases cs with
  |nil=>exact hk.elim
  |cons a r =>
   obtain⟨x,x1,x2,x3⟩:=hc 0 a rfl;simp only[Ml]at hk;split at hk
   .obtain rfl:=x3.v_eq;rename_i bb;refine⟨_,_,Mr hT hd ha x1,?_,.v _ _⟩;cases bb
    .exact hk.2 rfl
    .exact hk.1 rfl
   .exact hk.elim
 .exact hk.elim
 .rename_i e1 e2 e3 e4;refine single ?_ e4 hk;cases e:(T t).d<;>first | rfl | exact absurd e (e1 _) | exact absurd e (e2 _ _)
def Y6(g:Gh)(w:World)(U:Nat->Prop)(xs:Array Value)(off:Nat)(cs:List AV):Prop :=
 ∀(j:Nat) (av:AV),cs[j]?=some av->∃x,xs[off+j]?=some x/\x.oneCell'=true/\BM g w U av x
omit hT in
theorem Y6.of_agg{cs:List AV}{xs:Array Value}{U:Nat->Prop}(hr:BM g w U (.agg cs) (.agg xs))(o:Nat):Y6 g w U xs o (cs.drop o):=by
 cases hr with
 |agg _ _ _ hs h1 hh =>
  intro j av hj;rw[DP]at hj;have Dz:o+j<xs.size:=by rw[hs];exact(Au.1 hj).1
  have hx:xs[o+j]?=some xs[o+j]:=by simp[Dz]
  exact⟨_,hx,h1 _ _ hx,hh _ _ _ hj hx⟩
theorem aO{t:Nat}{xs:Array Value}{off:Nat}{cs:List AV}(hc:Y6 g w (AQ h) xs off cs)(hk:aN T t cs K):BO P h g w (part t xs off) K:=by
 have agg:Kq (T t).d=true->(T t).d≠.other->(T t).size<=cs.length->K (.agg (cs.take (T t).size))->BO P h g w (part t xs off) K:=by
  intro ha hd H2 hk;have aa:∀j,j<(T t).size->∃av,cs[j]?=some av:=fun j hj=>⟨_,Ay ch⟩;have Fz:∀(j:Nat) (x:Value),(xs.extract off (off+(T t).size))[j]?=some x->j<(T t).size/\xs[off+j]?=some x:=fun j x hx=>by
   rw[Array.getElem?_extract]at hx;split at hx
   .exact⟨by omega,hx⟩
   .cases hx
  have EM:(xs.extract off (off+(T t).size)).size=(T t).size:=by
   by_cases h0:(T t).size=0
   .simp[h0];omega
   .obtain⟨av,lq⟩:=aa ((T t).size-1) ch;obtain⟨x,x1,_⟩:=hc _ _ lq
    have:=(Bp.1 x1).1
    simp;omega
  refine⟨_,_,G4 hT w hd ha xs off,hk,.agg _ _ _ (by rw[EM];simp;omega) (fun i x hx=>?_) (fun i av x hi hx=>?_)⟩
  .obtain⟨hj,Mw⟩:=Fz i x hx;obtain⟨av,lq⟩:=aa i hj;obtain⟨y,y1,y2,y3⟩:=hc i av lq;rw[Mw]at y1;cases y1;exact y2
  .obtain⟨hj,Mw⟩:=Fz i x hx;rw[BR hj]at hi;obtain⟨y,y1,y2,y3⟩:=hc i av hi;rw[Mw]at y1;cases y1;exact y3
 have single:Kq (T t).d=false->(T t).d≠.other->Ml cs K->BO P h g w (part t xs off) K:=by
  intro ha hd hk;cases cs with
  |nil=>exact hk.elim
  |cons a r =>
   obtain⟨x,x1,x2,x3⟩:=hc 0 a rfl;exact⟨x,a,Eb hT w hd ha xs off x x1,hk,x3⟩
 unfold aN Mq at hk;split at hk
 .rename_i fs e;exact agg (by rw[e];rfl) (by rw[e];simp) hk.1 hk.2
 .rename_i n m e;exact agg (by rw[e];rfl) (by rw[e];simp) hk.1 hk.2
 .rename_i e;have hd:(T t).d≠.other:=by rw[e];simp
  have ha:Kq (T t).d=false:=by rw[e];rfl
  cases cs with
  |nil=>exact hk.elim
  |cons a r =>
   obtain⟨x,x1,x2,x3⟩:=hc 0 a rfl;simp only[Ml]at hk;split at hk
   .obtain rfl:=x3.v_eq;rename_i bb;refine⟨_,_,Eb hT w hd ha xs off _ x1,?_,.v _ _⟩;cases bb
    .exact hk.2 rfl
    .exact hk.1 rfl
   .exact hk.elim
 .exact hk.elim
 .rename_i e1 e2 e3 e4;refine single ?_ e4 hk;cases e:(T t).d<;>first | rfl | exact absurd e (e1 _) | exact absurd e (e2 _ _)
theorem cg{s f:Nat}{x:AV}(hx:BM g w (AQ h) x vx)(hk:PA T s f x K):BO P h g w (Instr.field s vx f) K:=by
 unfold PA at hk;split at hk
 .rename_i fs cs hs;split at hk
  .rename_i t o hf;obtain⟨fa,u1,u2,u3⟩:=hT.struct hs;cases hx with
   |agg _ _ xs a1 a2 a3 =>
    have xb:∃fd,fa[f]?=some fd/\fd.type=t/\fd.offset=o:=by
     have key:∀(l:List (Nat×Nat)) (n:Nat) (p:Nat×Nat),Yc l n=some p->l[n]?=some p:=by
      intro l
      induction l with
      |nil=>intro n p h;cases h
      |cons y r ih=>intro n p h;cases n with
       |zero=>simpa[Yc]using h
       |succ n=>simpa using ih n p h
     have:=key _ _ _ hf
     rw[u2,AG,AS]at this;obtain⟨fd,e1,e2⟩:=this;cases e2;exact⟨fd,by simpa using e1,rfl,rfl⟩
    obtain⟨fd,e1,rfl,rfl⟩:=xb;obtain⟨y,av,p1,p2,p3⟩:=aO hT (Y6.of_agg (.agg _ _ xs a1 a2 a3) fd.offset) hk;refine⟨y,av,?_,p2,p3⟩;simp only[Instr.field,Sem.run_bind,run_underlying u1,Result.andThen_ok,e1];simpa[asAgg]using p1
  .exact hk.elim
 .exact hk.elim
theorem Ug{s f:Nat}{fs:List (Nat×Nat)}{t o:Nat}(hs:(T s).d=.struct fs)(hf:Yc fs f=some (t,o)):∃fa fd,P.underlying s=some (.struct fa)/\fa[f]?=some fd/\fd.type=t/\fd.offset=o:=by
 obtain⟨fa,u1,u2,u3⟩:=hT.struct hs;have key:∀(l:List (Nat×Nat)) (n:Nat) (p:Nat×Nat),Yc l n=some p->l[n]?=some p:=by
  intro l
  induction l with
  |nil=>intro n p h;cases h
  |cons y r ih=>intro n p h;cases n with
   |zero=>simpa[Yc]using h
   |succ n=>simpa using ih n p h
 have:=key _ _ _ hf
 rw[u2,AG,AS]at this;obtain⟨fd,e1,e2⟩:=this;cases e2;exact⟨fa,fd,u1,by simpa using e1,rfl,rfl⟩
theorem gU{s f:Nat}{x:AV}(hx:BM g w (AQ h) x vx)(hk:Ua T s f x K):BO P h g w (Instr.fieldAt s vx f) K:=by
 unfold Ua at hk;split at hk
 .rename_i fs hs;split at hk
  .rename_i t o hf;obtain⟨fa,fd,u1,e1,rfl,rfl⟩:=Ug hT hs hf;split at hk
   .exact hk.elim
   .rename_i k EM;have CP:∀b off,(Instr.fieldAt s (.pointer (some ⟨b,off,none⟩)) f).run P w=.ok (.pointer (some ⟨b,off+fd.offset,none⟩)) w:=fun b off=>by
     simp[Instr.fieldAt,run_underlying u1,e1,Instr.sureAddr,fieldPlace,hT.size1 w EM,Addr.add_lit]
    split at hk
    .cases hx with
     |cptr _ _ b off val DN Es=>exact⟨_,_,CP b off,hk,(BM.cptr _ _ b off val DN Es).cptr_drop _⟩
    .rename_i r off;cases hx with
     |ref _ _ _ b hu ht hp=>exact⟨_,_,CP b off,hk,.ref _ r _ b hu ht hp⟩
    .rename_i r n sz i off;cases hx with
     |eref _ _ _ _ _ _ b cap hu ht hn hp =>
      refine⟨_,_,CP b _,hk,?_⟩;rw[GW];exact .eref _ r n sz i _ b cap hu ht hn hp
    .exact hk.elim
  .exact hk.elim
 .exact hk.elim
end
end Go.Eng
