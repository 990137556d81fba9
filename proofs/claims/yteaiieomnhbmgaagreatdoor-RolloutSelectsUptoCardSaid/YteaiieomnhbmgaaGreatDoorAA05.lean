/- Lemmas 5. -/
import Derived.Test.YteaiieomnhbmgaaGreatDoorAA04
import Derived.Laws.IdiomStrings
import Derived.Lib.BufferRead
namespace Go.Eng
open Go.RowKit (Below)
variable {U:Nat->Prop}{w:World}{x:Value}{g:Gh}{w':World}{av:AV}{g':Gh}
theorem Ba.mono(hk:EF g w g' w')(h:Ba g w U av x) :
  ∀{U' : Nat->Prop},(∀i,U i->U' i)->Kr g g' U->Ba g' w' U' av x:=by
 induction h with
 |v U x=>grind [v]
 |junk U x=>grind [junk]
 |snil U a cap=>grind [snil]
 |slice U es b off sz cap val hc hl DM Ey ih=>
  intro U' _ _;refine .slice U' es b off sz cap val hc hl (fun i cs j av h1 h2=>?_) (fun i cs j av h1 h2=>ih i cs j av h1 h2 (fun _ h=>h) (fun _ h=>h.elim));obtain⟨a1,a2,a3⟩:=DM i cs j av h1 h2;obtain⟨k1,k2,_⟩:=hk _ _ a1<;>simp_all
 |tok U r sz es x h hl hu ht hn hx ih=>
  intro U' hU hg;obtain⟨g1,g2,g3,g4⟩:=hg r hu;refine .tok U' r sz es x (ih hU hg) hl (hU r hu) (g1.trans ht) (Av hn g2) (fun e=>?_)
  grind
 |ver U r sz v es x h hl hu ht hn hx ih=>
  intro U' hU hg;obtain⟨g1,g2,g3,g4⟩:=hg r hu;refine .ver U' r sz v es x (ih hU hg) hl (hU r hu) (g1.trans ht) (Av hn g2) (fun e=>?_)
  grind
 |full U sz es x h hl hx ih=>
  grind [full]
 |msl U r n a cap hu ht hn ha hx=>
  intro U' hU hg;obtain⟨g1,g2,g3,g4⟩:=hg r hu<;>grind [msl]
 |agg U cs vs hs h1 h ih=>grind [agg]
 |tup U cs vs hs h ih=>grind [tup]
 |cptr U cs b off val DM Ey ih=>
  intro U' _ _;refine .cptr U' cs b off val (fun j av h=>?_) (fun j av h=>ih j av h (fun _ h=>h) (fun _ h=>h.elim));obtain⟨a1,a2,a3⟩:=DM j av h;obtain⟨k1,k2,_⟩:=hk _ _ a1<;>simp_all
 |ref U r off b hu ht hx=>
  intro U' hU hg;obtain⟨g1,g2,g3,g4⟩:=hg r hu<;>grind [ref]
 |eref U r n sz i off b cap hu ht hn hx=>
  intro U' hU hg;obtain⟨g1,g2,g3,g4⟩:=hg r hu<;>grind [eref]
 |mref U r b hu ht hx=>
  intro U' hU hg;obtain⟨g1,g2,g3,g4⟩:=hg r hu<;>grind [mref]
 |cmap U sh BU b es ck hS hb hm h ih=>
  intro U' _ _;obtain⟨k1,k2,k3⟩:=hk _ _ hS;exact .cmap U' sh BU b es ck k1 (k3 es ck hb) hm (fun i kv e a b=>ih i kv e a b (fun _ h=>h) (fun _ h=>h.elim))
 |clo U f cs vs hs h ih=>grind [clo]
theorem EF.refl(g:Gh)(w:World):EF g w g w:=fun _ _ h=>⟨h,rfl,fun _ _ h=>h⟩
theorem EF.trans{g g1 g2:Gh}{w w1 w2:World}(h:EF g w g1 w1)(k:EF g1 w1 g2 w2):EF g w g2 w2:=fun b o hS=>
 let ⟨a1,a2,a3⟩:=h b o hS
 let ⟨b1,b2,b3⟩:=k b o a1
 ⟨b1,b2.trans a2,fun es ck he=>b3 es ck (a3 es ck he)⟩
theorem Kr.refl(g:Gh)(U:Nat->Prop):Kr g g U:=fun _ _=>⟨rfl,Ao _,fun _=>rfl,fun _=>rfl⟩
theorem Kr.trans{g1 g2:Gh}{U1:Nat->Prop}(h:Kr g g1 U)(hU:∀i,U i->U1 i)(k:Kr g1 g2 U1):Kr g g2 U:=fun i hi=>by
 obtain⟨a1,a2,a3,a4⟩:=h i hi;obtain⟨b1,b2,b3,b4⟩:=k i (hU i hi)<;>grind [Nat.le_trans]
theorem Le.refl(h:Nat->HO)(g:Gh)(w:World):Le h g w h g w:=⟨.refl _ _,fun _ h=>h,.refl _ _⟩
theorem Le.trans{h h1 h2:Nat->HO}{g g1 g2:Gh}{w w1 w2:World}(a:Le h g w h1 g1 w1)(b:Le h1 g1 w1 h2 g2 w2):Le h g w h2 g2 w2:=
 ⟨a.gh.trans a.us b.gh,fun i hi=>b.us i (a.us i hi),a.keeps.trans b.keeps⟩
theorem Ba.le{h h' : Nat->HO}(k:Le h g w h' g' w')(r:Ba g w (AJ h) av x):Ba g' w' (AJ h') av x:=
 r.mono k.keeps k.us k.gh
theorem Ba.up(r:Ba g w FD av x)(U:Nat->Prop):Ba g w U av x:=
 r.mono (.refl g w) (fun _ h=>h.elim) (.refl g _)
theorem Ck.mono{g g' : Gh}{w w' : World}{U U' : Nat->Prop}{cs:List AV}{vs:List Value}(r:Ck g w U cs vs)(hk:EF g w g' w')(hU:∀i,U i->U' i)(hg:Kr g g' U):Ck g' w' U' cs vs:=
 ⟨r.1,r.2.1,fun i av x h1 h2=>(r.2.2 i av x h1 h2).mono hk hU hg⟩
theorem Ba.cptr_drop{cs:List AV}{b off:Nat}(n:Nat)(h:Ba g w U (.cptr cs) (.pointer (some ⟨b,off,none⟩))) :
  Ba g w U (.cptr (cs.drop n)) (.pointer (some ⟨b,off+n,none⟩)):=by
 cases h with
 |cptr _ _ _ _ val DM Ey=>
  refine .cptr U _ b (off+n) (fun j=>val (n+j)) (fun j av h=>?_) (fun j av h=>?_)
  all_goals grind
theorem Ba.slice_none{tk:Tk}{es:C0}(h:Ba g w U (.slice tk es) x):Ba g w FD (.slice .none es) x:=by
 cases h with
 |snil U a cap=>grind [snil]
 |slice U es b off sz cap val hc hl DM Ey=>exact .slice FD es b off sz cap val hc hl DM Ey
 |tok U r sz es x h=>cases h with
  |snil U a cap=>grind [snil]
  |slice U es b off sz cap val hc hl DM Ey=>exact .slice FD es b off sz cap val hc hl DM Ey
 |ver U r sz v es x h=>cases h with
  |snil U a cap=>grind [snil]
  |slice U es b off sz cap val hc hl DM Ey=>exact .slice FD es b off sz cap val hc hl DM Ey
 |full U sz es x h=>cases h with
  |snil U a cap=>grind [snil]
  |slice U es b off sz cap val hc hl DM Ey=>exact .slice FD es b off sz cap val hc hl DM Ey
theorem Ba.str0{g:Gh}{w:World}{h:Nat->HO}(ho:∀r,DR g w (AJ h) r (h r)){av:AV}{x:Value}(r:Ba g w (AJ h) av x):Ba g w FD (str0 h av) x:=by
 cases av with
 |v y=>cases r;exact .v _ _
 |slice tk es=>exact r.slice_none
 |ref i off=>
  simp only[Eng.str0];split
  .rename_i cs hc;have h1:=ho i;rw[hc]at h1;obtain⟨ht,b,hb,hr⟩:=h1;cases r with
   |ref _ _ _ b' hu ht' hx=>
    rw[hb]at hx;cases hx;simpa using hr.cptr_drop off
  grind [junk]
 |mref i=>
  simp only[Eng.str0];split
  .rename_i sh BU hc;have h1:=ho i;rw[hc]at h1;obtain⟨ht,b,hb,hr⟩:=h1<;>grind [cases Ba]
  grind [junk]
 |cptr cs=>cases r with |cptr _ _ b off val DM Ey=>exact .cptr _ _ b off val DM Ey
 |cmap sh m=>cases r with |cmap _ _ _ b es ck hS hb hm hh=>exact .cmap _ _ _ b es ck hS hb hm hh
 |_=>exact .junk _ _
theorem Ba.str{g:Gh}{w:World}{h:Nat->HO}(ho:∀r,DR g w (AJ h) r (h r)){av:AV}{x:Value}(r:Ba g w (AJ h) av x):Ba g w FD (str h av) x:=by
 cases av with
 |agg cs=>cases r with
  |agg _ _ vs hs h1 hr=>
   refine .agg _ _ vs B0 h1 (fun i av x a b=>?_)
   grind [str0]
 |clo f cs=>cases r with
  |clo _ _ _ vs hs hr=>
   refine .clo _ f _ vs B0 (fun i av x a b=>?_)
   grind [str0]
 |v y=>exact r.str0 ho
 |slice tk es=>exact r.str0 ho
 |ref i off=>exact r.str0 ho
 |mref i=>exact r.str0 ho
 |cptr cs=>exact r.str0 ho
 |cmap sh m=>exact r.str0 ho
 |msl i n=>exact r.str0 ho
 |tup cs=>exact r.str0 ho
 |eref i n z j o=>exact r.str0 ho
 |junk=>exact r.str0 ho
theorem Ba.rsv{g:Gh}{w:World}{h:Nat->HO}(ho:∀r,DR g w (AJ h) r (h r)){av:AV}{x:Value}(r:Ba g w (AJ h) av x):Ba g w (AJ h) (rsv h av) x:=by
 cases av with
 |ref i off=>
  simp only[Eng.rsv];split
  .rename_i cs hc
   have:=r.str0 ho
   grind [Eng.str0,Ba.up]
  omega
 |mref i=>
  simp only[Eng.rsv];split
  .rename_i sh BU hc
   have:=r.str0 ho
   grind [Eng.str0,Ba.up]
  omega
 |_=>exact r
end Go.Eng
namespace Go.Eng
variable {vx:Value}{U:Nat->Prop}{X Y:Operand}{t:Nat}{α:Type}{op:BinOp}{k:IntKind}{vy:Value}{g:Gh}{x:Value}{k':IntKind}{Hb:Array TypeId}{vs:Array Value}{w':World}{m:Sem Value}{f:Nat×Nat}{b:Bool}{cs:List AV}{e:Nat}{E:TypeId}{vi:Value}{g':Gh}(l:List α)(P:Program)(w:World)(o:Nat)
def Gh.upd(g:Gh)(r:Nat)(x:Value)(n:Nat)(t:Bool)(o:Option Nat)(S:Nat->Nat->Prop):Gh:=
 ⟨fun i=>if i=r then x else g.ρ i,fun i=>if i=r then n else g.ln i,fun i=>if i=r then t else g.tk i,fun i=>if i=r then o else g.own i,S⟩
theorem DK{i r:Nat}(h:i≠r):Nat.beq i r=false:=by
 grind [Nat.eq_of_beq_eq_true]
theorem A5(h:Nat->HO)(r:Nat)(o:HO):AO h r o r=o:=by
 grind [Nat.beq_refl,AO]
theorem BR(h:Nat->HO)(r i:Nat)(o:HO)(hi:i≠r):AO h r o i=h i:=by
 grind [AO,DK]
theorem DG{h:Nat->HO}{r:Nat}{o:HO}(ho:o≠.free)(i:Nat)(hi:AJ h i):AJ (AO h r o) i:=by
 grind [AJ,A5,BR]
theorem XF.keep{w:World}(h:XF g w)(hk:EF g w g' w'):XF g' w':=by
 obtain⟨⟨h1,m,h2⟩,h3⟩:=h;obtain⟨k1,k2,_⟩:=hk _ _ h1;refine⟨⟨k1,m,k2.trans h2⟩,fun x hx=>?_⟩;obtain⟨e1,e2,_⟩:=hk _ _ (h3 x hx).1<;>grind
theorem DR.same{w:World}{U':Nat->Prop}{r:Nat}{o:HO}(h:DR g w U r o)(hk:EF g w g' w')(hU:∀i,U i->U' i)(hg:Kr g g' U)(h1:g'.ρ r=g.ρ r)(h2:g'.ln r=g.ln r)(h3:g'.tk r=g.tk r)(h4:g'.own r=g.own r)(hb:∀b,o.live->g.own r=some b->w'.heap[b]?=w.heap[b]?/\∀k,g'.S b k->g.S b k):DR g' w' U' r o:=by
 cases o with
 |free=>trivial
 |dead=>trivial
 |cells cs=>
  obtain⟨t,b,E,vs,a1,a2,a3,a4,a5⟩:=h;obtain⟨c1,c2⟩:=hb b trivial a1;exact⟨h3.trans t,b,E,vs,h4.trans a1,h1.trans a2,c1.trans a3,a4.mono hk hU hg,fun k hk'=>a5 k (c2 k hk')⟩
 |ro cs=>
  obtain⟨t,b,a1,a2⟩:=h;exact⟨h3.trans t,b,h1.trans a1,a2.mono hk (fun _ h=>h) (fun _ h=>h.elim)⟩
 |tok sz n=>
  obtain⟨t,l,a,cap,a1,a2⟩:=h;refine⟨h3.trans t,h2.trans l,a,cap,h1.trans a1,?_⟩;rcases a2 with ⟨e1,e2⟩ | ⟨e1,b,E,vs,off,e2,e3,e4,e5,e6⟩
  .simp_all
  .obtain⟨c1,c2⟩:=hb b trivial e3;exact .inr ⟨e1,b,E,vs,off,e2,h4.trans e3,e4.eq c1,e5,fun o ho=>e6 o (c2 o ho)⟩
 |var sz v n=>
  obtain⟨t,l,a,cap,a1,a2⟩:=h;refine⟨h3.trans t,h2.trans l,a,cap,h1.trans a1,?_⟩;rcases a2 with ⟨e1,e2⟩ | ⟨e1,b,E,vs,off,e2,e3,e4,e5,e6⟩
  .simp_all
  .obtain⟨c1,c2⟩:=hb b trivial e3;exact .inr ⟨e1,b,E,vs,off,e2,h4.trans e3,e4.eq c1,e5,fun o ho=>e6 o (c2 o ho)⟩
 |vox v=>exact⟨h3.trans h.1,h2.trans h.2⟩
 |hol sz es i c av=>
  obtain⟨t,l,a0,b,cap,E,vs,e1,e2,e3,e4,e5,e6,e7,e8,x,e9,e10⟩:=h;obtain⟨c1,c2⟩:=hb b trivial e2;exact⟨h3.trans t,h2.trans l,a0,b,cap,E,vs,h1.trans e1,h4.trans e2,e3,c1.trans e4,e5,e6.mono hk (fun _ h=>h) (fun _ h=>h.elim),fun o ho=>e7 o (c2 o ho),e8,x,e9,e10.mono hk hU hg⟩
 |bld x=>
  obtain⟨t,b,p,v,a1,a2,a3,a4,a5,a6⟩:=h;obtain⟨c1,c2⟩:=hb b trivial a1;exact⟨h3.trans t,b,p,v,h4.trans a1,h1.trans a2,c1.trans a3,a4,a5.mono hk hU hg,fun k hk'=>a6 k (c2 k hk')⟩
 |bbf n=>
  obtain⟨t,l,a1⟩:=h;refine⟨h3.trans t,h2.trans l,?_⟩;rcases a1 with ⟨e0,e1,e2⟩ | ⟨b,cap,Ep,e1,e2,e3,e4,e5,e6,e7⟩
  .simp_all
  .obtain⟨c1,c2⟩:=hb b trivial e2<;>grind
 |raw b ob=>
  obtain⟨t,a1,a2,a3,a4⟩:=h;obtain⟨c1,c2⟩:=hb b trivial a1;exact⟨h3.trans t,h4.trans a1,c1.trans a2,a3,fun k hk'=>a4 k (c2 k hk')⟩
 |arr sz es=>
  obtain⟨t,l,a0,a1⟩:=h;refine⟨h3.trans t,h2.trans l,a0,?_⟩;rcases a1 with ⟨e1,e2,e3⟩ | ⟨b,cap,E,vs,e1,e2,e3,e4,e5,e6,e7⟩
  .simp_all
  .obtain⟨c1,c2⟩:=hb b trivial e2;exact .inr ⟨b,cap,E,vs,h1.trans e1,h4.trans e2,e3,c1.trans e4,e5,e6.mono hk (fun _ h=>h) (fun _ h=>h.elim),fun o ho=>e7 o (c2 o ho)⟩
 |map sh BU=>
  obtain⟨t,b,es,ck,a1,a2,a3,a4,a5,a6⟩:=h;obtain⟨c1,c2⟩:=hb b trivial a1;exact⟨h3.trans t,b,es,ck,h4.trans a1,h1.trans a2,c1.trans a3,a4,fun i kv e p q=>(a5 i kv e p q).mono hk (fun _ h=>h) (fun _ h=>h.elim),fun k hk'=>a6 k (c2 k hk')⟩
 |mapU sh BU=>
  obtain⟨t,b,es,ck,a1,a2,a3,a4,a5,a6⟩:=h;obtain⟨c1,c2⟩:=hb b trivial a1;exact⟨h3.trans t,b,es,ck,h4.trans a1,h1.trans a2,c1.trans a3,a4,fun i kv e p q=>(a5 i kv e p q).mono hk hU hg,fun k hk'=>a6 k (c2 k hk')⟩
 |rom sh BU=>
  obtain⟨t,b,a1,a2⟩:=h;exact⟨h3.trans t,b,h1.trans a1,a2.mono hk (fun _ h=>h) (fun _ h=>h.elim)⟩
 |iter all rem Ep=>
  obtain⟨t,b,mb,Kp,seen,st,es,ck,a1,a2,a3,a4,a5,a6,a7,a8,a9,Zs,fp,a12,vM⟩:=h;obtain⟨c1,c2⟩:=hb b trivial a1;obtain⟨k1,k2,k3⟩:=hk _ _ a4
  exact⟨h3.trans t,b,mb,Kp,seen,st,es,ck,h4.trans a1,h1.trans a2,c1.trans a3,k1,k3 _ _ a5,a6,a7,a8,
   fun i kv e p q=>(a9 i kv e p q).mono hk (fun _ h=>h) (fun _ h=>h.elim),Zs,fp,a12,fun k hk'=>vM k (c2 k hk')⟩
theorem CU.upd{w0:World}{g0:Gh}{h0 h:Nat->HO}{g:Gh}{w:World}(hI:CU w0 g0 h0 h g w)(r:Nat)(o' : HO)(x:Value)(n:Nat)(t:Bool)(ow:Option Nat)(S' : Nat->Nat->Prop)(w' : World)
  (bch:Option Nat) (uX:w'.os=w.os/\w'.tape=w.tape/\w'.output=w.output/\w.heap.size<=w'.heap.size)
  (RP:∀k,k<w.heap.size->some k≠bch->w'.heap[k]?=w.heap[k]?)
  (hch:∀b,bch=some b->(h r).live/\g.own r=some b)
  (hS:∀b o,g.S b o->S' b o)
  (Afg : ∀b o,S' b o->g.S b o\/(b<w'.heap.size/\(w.heap.size<=b\/((h r).live/\g.own r=some b))))
  (hkc:∀b o,bch=some b->g.S b o->w'.cell? ⟨b,o,none⟩=w.cell? ⟨b,o,none⟩/\∀es ck,w.heap[b]?=some (.map es ck)->w'.heap[b]?=some (.map es ck))
  (how:∀b,o'.live->ow=some b->b<w'.heap.size/\(((h r).live/\g.own r=some b)\/w.heap.size<=b))
  (Ef:o'≠.free) (hgh:AJ h r->t=g.tk r/\g.ln r<=n/\(g.tk r=false->x=g.ρ r)/\(n=g.ln r->x=g.ρ r))
  (Ma:Kr g (g.upd r x n t ow S') (AJ h)->EF g w (g.upd r x n t ow S') w'->DR (g.upd r x n t ow S') w' (AJ (AO h r o')) r o') :
  CU w0 g0 h0 (AO h r o') (g.upd r x n t ow S') w'/\Le h g w (AO h r o') (g.upd r x n t ow S') w':=by
 have hSn:∀b o,S' b o->g.S b o\/(b<w'.heap.size/\∀r',r'≠r->(h r').live->g.own r'≠some b):=fun b o hs=>by
  rcases Afg b o hs with h1 | ⟨h1,h2⟩
  .simp_all
  .refine .inr ⟨h1,fun r' hr hl e=>?_⟩;rcases h2 with h2 | ⟨h2,h3⟩
   .have:=(hI.loc r' b hl e).1;omega
   grind [CU.inj]
 have ny:Kr g (g.upd r x n t ow S') (AJ h):=by
  intro i hi
  grind [Gh.upd]
 have hK:EF g w (g.upd r x n t ow S') w':=by
  intro b o hb;refine⟨hS b o hb,?_⟩
  grind [World.cell?,CU.slt]
 have Mh:∀i,AJ h i->AJ (AO h r o') i:=fun i hi=>DG Ef i hi;refine⟨⟨uX.1.trans hI.os,uX.2.1.trans hI.tape,uX.2.2.1.trans hI.output,Av hI.size uX.2.2.2,fun b hb hn=>?_,fun b o hb=>?_,fun i=>?_,fun i j b hi hj ei ej=>?_,fun i b hi ei=>?_,fun b o hs=>?_,hI.glob.keep hK⟩,ny,Mh,hK⟩
 .grind [CU.loc,CU.frame]
 .rcases hSn b o hb with h1 | h1<;>grind [CU.slt]
 .by_cases e:i=r
  .grind [A5]
  .rw[BR _ _ _ _ e];refine(hI.objs i).same hK Mh ny (by simp[Gh.upd,e]) (by simp[Gh.upd,e]) (by simp[Gh.upd,e]) (by simp[Gh.upd,e]) (fun b hl hb=>?_);have EU:=(hI.loc i b hl hb).1;refine⟨RP b EU (fun e'=>?_),fun k hk=>?_⟩
   .grind [CU.inj]
   .rcases hSn b k hk with h1 | h1<;>simp_all
 .have key:∀k,k≠r->(AO h r o' k).live->(h k).live:=fun k hk hl=>by grind [BR]
  by_cases e1:i=r<;>by_cases e2:j=r
  .omega
  .subst e1;simp only[Gh.upd,if_true,AA e2]at ei ej;rw[A5]at hi;have hl:=key j e2 hj;rcases(how b hi ei).2 with ⟨q1,q2⟩ | q
   .grind [CU.inj]
   .have:=(hI.loc j b hl ej).1;omega
  .subst e2;simp only[Gh.upd,if_true,AA e1]at ei ej;rw[A5]at hj;have hl:=key i e1 hi;rcases(how b hj ej).2 with ⟨q1,q2⟩ | q
   .grind [CU.inj]
   .have:=(hI.loc i b hl ei).1;omega
  grind [Gh.upd,CU.inj]
 all_goals grind [Gh.upd,A5,BR,Nat.lt_of_lt_of_le,CU.loc,CU.size,CU.sg]
theorem CU.heapEq{w0:World}{g0:Gh}{h0 h:Nat->HO}{w:World}(hI:CU w0 g0 h0 h g w)(uX:w'.os=w.os/\w'.tape=w.tape/\w'.output=w.output)(hh:w'.heap=w.heap) :
  CU w0 g0 h0 h g w'/\Le h g w h g w':=by
 have hc:∀a,w'.cell? a=w.cell? a:=fun a=>by grind [World.cell?]
 have hK:EF g w g w':=fun b o hb=>⟨hb,hc _,fun es ck he=>by simp_all⟩;refine⟨⟨uX.1.trans hI.os,uX.2.1.trans hI.tape,uX.2.2.trans hI.output,by rw[hh];exact hI.size,fun b hb hn=>by grind [CU.frame],fun b o hb=>by rw[hh];exact hI.slt b o hb,fun r=>?_,hI.inj,fun r b h1 h2=>by rw[hh];exact hI.loc r b h1 h2,hI.sg,hI.glob.keep hK⟩,.refl _ _,fun _ h=>h,hK⟩;exact(hI.objs r).same hK (fun _ h=>h) (.refl _ _) rfl rfl rfl rfl (fun b _ _=>⟨by rw[hh],fun _ h=>h⟩)
def OE:TypeDesc->TD
 |.bool=>.bool
 |.int k=>.int k
 |.string=>.string
 |.slice e=>.slice e
 |.array n e=>.array n e
 | .struct fs => bif fs.any (fun f => f.name == "_") then .other else .struct (fs.toList.map fun f => (f.type, f.offset))
 |.pointer e=>.ptr e
 |.map k e=>.map k e
 |.func ..=>.func
 |.interface _=>.iface
 |_=>.other
def lk(t:Nat):TI:=
 match P.underlying t,P.info? t with
 |some d,some i=>match i.zero with
  |some z=>⟨OE d,i.size,i.bytes,z,!P.stoodInHeld t&&!P.eqGuardType P.depth t⟩
  |none=>⟨.other,0,0,.nilIface,false⟩
 |_,_=>⟨.other,0,0,.nilIface,false⟩
def J3:TD->Bool
 |.struct _=>true
 |.array _ _=>true
 |_=>false
theorem TI.zc_cells(i:TI):i.zc=i.zero.cells.toList:=by
 grind [TI.zc,Value.cells]
def fb:TI:=⟨.other,0,0,.nilIface,false⟩
def Ca(T:GK):Prop:=∀t,T t=fb\/T t=lk P t
section
variable {P:Program}{T:GK}(hT:Ca P T)
include hT
theorem Ca.get(h:(T t).d≠.other):∃d i z,P.underlying t=some d/\(T t).d=OE d/\P.info? t=some i/\i.zero=some z/\(T t).size=i.size/\(T t).bytes=i.bytes /\
  (T t).zero=z/\((T t).eqok=true->P.stoodInHeld t=false/\P.eqGuardType P.depth t=false):=by
 rcases hT t with e | e
 .rw[e]at h;exact absurd rfl h
 unfold lk at e;split at e
 .split at e
  all_goals simp_all
 simp_all
end
theorem bY(fs:Array Field):OE (.struct fs)=.other\/OE (.struct fs)=.struct (fs.toList.map fun f=>(f.type,f.offset)):=by
 grind [OE]
section
variable {P:Program}{T:GK}(hT:Ca P T)
include hT
theorem Ca.slice{t e:Nat}(h:(T t).d=.slice e):P.underlying t=some (.slice e):=by
 obtain⟨d,i,z,h1,h2,_⟩:=hT.get (t:=t) B0;rw[h]at h2;cases d<;>grind [OE]
theorem Ca.string{t:Nat}(h:(T t).d=.string):P.underlying t=some .string:=by
 obtain⟨d,i,z,h1,h2,_⟩:=hT.get (t:=t) B0;rw[h]at h2;cases d<;>grind [OE]
theorem Ca.bool{t:Nat}(h:(T t).d=.bool):P.underlying t=some .bool:=by
 obtain⟨d,i,z,h1,h2,_⟩:=hT.get (t:=t) B0;rw[h]at h2;cases d<;>grind [OE]
theorem Ca.int{t:Nat}{k:IntKind}(h:(T t).d=.int k):P.underlying t=some (.int k):=by
 obtain⟨d,i,z,h1,h2,_⟩:=hT.get (t:=t) B0;rw[h]at h2;cases d<;>grind [OE]
theorem Ca.ptr(h:(T t).d=.ptr e):P.underlying t=some (.pointer e):=by
 obtain⟨d,i,z,h1,h2,_⟩:=hT.get (t:=t) B0;rw[h]at h2;cases d<;>grind [OE]
theorem Ca.iface(h:(T t).d=.iface):∃ms,P.underlying t=some (.interface ms):=by
 obtain⟨d,i,z,h1,h2,_⟩:=hT.get (t:=t) B0;rw[h]at h2;cases d<;>grind [OE]
theorem Ca.map{t k e:Nat}(h:(T t).d=.map k e):P.underlying t=some (.map k e):=by
 obtain⟨d,i,z,h1,h2,_⟩:=hT.get (t:=t) B0;rw[h]at h2;cases d<;>grind [OE]
theorem Ca.array{t n e:Nat}(h:(T t).d=.array n e):P.underlying t=some (.array n e):=by
 obtain⟨d,i,z,h1,h2,_⟩:=hT.get (t:=t) B0;rw[h]at h2;cases d<;>grind [OE]
theorem Ca.struct {t : Nat} {fs : List (Nat × Nat)} (h : (T t).d = .struct fs) : ∃ fa : Array Field, P.underlying t = some (.struct fa) /\ fs = fa.toList.map (fun f => (f.type, f.offset)) /\ ∀ f ∈ fa.toList, f.name ≠ "_":=by
 obtain⟨d,i,z,h1,h2,_⟩:=hT.get (t:=t) B0;rw[h]at h2;cases d<;>grind [List.mem_iff_getElem,OE]
theorem Ca.size(w:World){t:Nat}(h:(T t).d≠.other):(sizeOf t).run P w=.ok (T t).size w:=by
 obtain⟨d,i,z,h1,h2,h3,h4,h5,_⟩:=hT.get h;simp[sizeOf,typeInfo,h3,h5]
theorem Ca.size1(w:World){n:Nat}(h:(T t).size=n+1):(sizeOf t).run P w=.ok (n+1) w:=by
 rcases hT t with e | e
 .rw[e]at h;cases h
 unfold lk at e;split at e
 .split at e
  .rename_i d i h1 h2 _ z h3;rw[e]at h;dsimp only at h;simp[sizeOf,typeInfo,h2,h]
  simp_all
 simp_all
theorem Ca.isAgg(w:World){t:Nat}(h:(T t).d≠.other):(isAgg t).run P w=.ok (J3 (T t).d) w:=by
 obtain⟨d,i,z,h1,h2,_⟩:=hT.get h;rw[h2];rw[h2]at h;cases d with
 |struct fs=>
  rcases bY fs with e | e
  .simp_all
  .rw[e];simp[Go.isAgg,run_underlying h1,J3]
 |_=>simp[Go.isAgg,run_underlying h1,OE,J3]
end
def Bv(h:Nat->HO)(g:Gh)(w:World)(m:Sem Value)(K:AV->Prop):Prop:=∃x av,m.run P w=.ok x w/\K av/\Ba g w (AJ h) av x
theorem Ty{p:Prop}{K:AV->Prop}(h:I2 p K)(hb:b=true↔p):K (.v (.bool b)):=by
 cases b with
 |true=>exact h.1 (hb.1 rfl)
 |false=>exact h.2 (fun e=>by simp_all)
theorem Ly(h:zF k k'=true):k=k':=by cases k<;>cases k'<;>first | rfl | grind [zF]
theorem Nv{a:Int}(h:Az a):IntKind.i64.wrap a=a:=by
 grind [Az,IntKind.wrap,IntKind.bits,IntKind.signed]
theorem Kt:∀l m:List UInt8,(Op.bytesLess l m||l == m)=!Op.bytesLess m l
 | [],[]=>rfl
 | [],_::_=>rfl
 |_::_,[]=>rfl
 |a::l,b::m=>by
  have ih:=Kt l m
  grind [Op.bytesLess]
theorem JT(a b:CS):(a.toList == b.toList)=true↔a=b:=by
 rw[ByteArray.toList_eq,ByteArray.toList_eq];constructor
 .intro h;have h1:=eq_of_beq h;cases a<;>simp_all
 simp_all
section
variable {P:Program}{T:GK}{h:Nat->HO}{g:Gh}{w:World}{K:AV->Prop}
theorem Bv.bool{p:Prop}(hm:m.run P w=.ok (.bool b) w)(hb:b=true↔p)(hk:I2 p K):Bv P h g w m K:=
 ⟨_,_,hm,Ty hk hb,.v _ _⟩
theorem Bv.val(hm:m.run P w=.ok x w)(hk:K (.v x)):Bv P h g w m K:=⟨_,_,hm,hk,.v _ _⟩
theorem Rj{t:Nat}{a b:Int}(hk:Vd op k a b K) :
  Bv P h g w (do eqGuard op t X Y (.int k a) (.int k' b);binOp op t (.int k a) (.int k' b)) K:=by
 cases op
 case shl=>exact Bv.val (by simp[eqGuard,binOp,Op.shift,Cr,Int.not_lt.2 hk.1]) hk.2
 case shr=>exact Bv.val (by simp[eqGuard,binOp,Op.shift,Cr,Int.not_lt.2 hk.1]) hk.2
 all_goals exact hk.elim
theorem iL{t:Nat}{a b:Int}(hk:Tr op k a b K) :
  Bv P h g w (do eqGuard op t X Y (.int k a) (.int k b);binOp op t (.int k a) (.int k b)) K:=by
 have key:∀{k:IntKind},XP op k a b K->Bv P h g w (do eqGuard op t X Y (.int k a) (.int k b);binOp op t (.int k a) (.int k b)) K:=by
  intro k hk;cases op
  case quo=>
   obtain⟨⟨h1,h2,h3⟩,hk⟩:=hk;have hb:¬b=0:=ch
   exact Bv.val (by simp[eqGuard,binOp,Op.intDiv,hb,Int.tdiv_eq_ediv_of_nonneg h1,h3]) hk
  case rem=>
   obtain⟨⟨h1,h2⟩,hk⟩:=hk;have hb:¬b=0:=ch
   exact Bv.val (by simp[eqGuard,binOp,Op.intDiv,hb,Int.tmod_eq_emod_of_nonneg h1]) hk
  case shl=>exact Rj hk
  case shr=>exact Rj hk
  all_goals first | exact hk.elim | exact Bv.val (by simp[eqGuard,binOp,Op.intArith,Op.intBits,Cq]) hk
 cases k with
 |i64=>
  unfold Tr at hk
  cases op<;>dsimp only at hk<;>first
   |exact hk.elim
   |(refine Bv.val ?_ hk.2;simp[eqGuard,binOp,Op.intArith,Nv hk.1];done)
   |exact key (k:=.i64) hk
   |skip
  .obtain⟨⟨h1,h2,h3⟩,hk⟩:=hk;refine Bv.val ?_ hk;have e1:a.tdiv b=a / b:=Int.tdiv_eq_ediv_of_nonneg h1;have e3:a / b<=a:=Int.ediv_le_self b h1;have e2:IntKind.i64.wrap (a / b)=a / b:=Nv ⟨by have:=Int.ediv_nonneg h1 (by omega:0<=b);omega,by grind [Az]⟩;have hb:¬b=0:=ch
   simp[eqGuard,binOp,Op.intDiv,hb,e1,e2]
 |_=>exact key hk
end
def IP(k:Nat):List α:=(l.drop o).take k
theorem Na:∀{l:List KS} {vs:List Value},JZ l vs=true->vs.length=l.length
 | [],[],_=>rfl
 |k::r,v::s,h=>by
  unfold JZ at h;split at h
  .simp[Na h]
  simp_all
theorem SP:∀{a b:List KS} {vs:List Value},JZ (a++b) vs=true->JZ a (vs.take a.length)=true/\JZ b (vs.drop a.length)=true
 | [],b,vs,h=>⟨by cases vs<;>rfl,by simp_all⟩
 |k::a,b,[],h=>by grind [JZ]
 |k::a,b,v::vs,h=>by
  simp only[G0,JZ]at h;split at h
  .rename_i hk;obtain⟨h1,h2⟩:=SP h<;>grind [JZ]
  simp_all
theorem gZ(k a b:Nat)(h:a+b<=k):IP (IP l o k) a b=IP l (o+a) b:=by
 grind [IP,List.drop_take,List.drop_drop]
theorem tL(k:Nat):(IP l o k).length=min k (l.length-o):=by simp[IP]
theorem Qg(k a:Nat)(h:a<=k):(IP l o k).take a=IP l o a:=by
 grind [IP]
theorem Vb(k a:Nat):(IP l o k).drop a=IP l (o+a) (k-a):=by
 unfold IP;rw[List.drop_take,List.drop_drop]
theorem kO(m:List α)(o a b:Nat):(IP l o (a+b)=IP m o (a+b))↔(IP l o a=IP m o a/\IP l (o+a) b=IP m (o+a) b):=by
 constructor
 .intro h;constructor
  .rw[<-Qg l o (a+b) a ch,h,Qg m o (a+b) a ch]
  .have h1:=Aa (List.drop a) h
   grind [Vb]
 grind [IP,List.drop_drop]
section
variable {P:Program}{T:GK}(hT:Ca P T)
include hT
theorem DQ(w:World)(hd:(T t).d≠.other)(hs:J3 (T t).d=false)(xs:Array Value)(o:Nat)(x:Value)(h:xs[o]?=some x) :
  (part t xs o).run P w=.ok x w:=by
 unfold part;simp[Sem.run_bind,hT.isAgg w hd,hs,h]
theorem GP(w:World)(hd:(T t).d≠.other)(hs:J3 (T t).d=true)(xs:Array Value)(o:Nat) :
  (part t xs o).run P w=.ok (.agg (xs.extract o (o+(T t).size))) w:=by
 unfold part;simp[Sem.run_bind,hT.isAgg w hd,hs,hT.size w hd]
def uz(P:Program)(w:World)(d t:Nat)(xs ys:Array Value)(o k:Nat):Prop:=
 ∃b:Bool,(do let a <-part t xs o;let b <-part t ys o;Op.equalIn d t a b).run P w=.ok b w/\(b=true↔IP xs.toList o k=IP ys.toList o k)
omit hT in
theorem LK{xs:Array Value}{o:Nat}{k:KS}(h:JZ [k] (IP xs.toList o 1)=true):∃x,xs[o]?=some x/\NR k x=true/\IP xs.toList o 1=[x]:=by
 grind [tL,IP,List.drop_eq_getElem_cons,JZ.eq_def]
omit hT in
theorem NO{f:Nat->Option (List KS)}:∀{fs:List (Nat×Nat)} {n:Nat} {l:List KS},Ob f n fs=some l ->
  match fs with | []=>l=[] | (t,o)::r=>o=n/\∃a b,f t=some a/\Ob f (n+a.length) r=some b/\l=a++b
 | [],n,l,h=>by cases h;rfl
 |(t,o)::r,n,l,h=>by
  grind [Ob,Nat.eq_of_beq_eq_true]
omit hT in
theorem NK(w:World)(n d:Nat)(hB:∀t l,HT T n t=some l->∀xs ys o,JZ l (IP xs.toList o l.length)=true->JZ l (IP ys.toList o l.length)=true->uz P w d t xs ys o l.length) :
  ∀ (fa : List Field) (m : Nat) (l : List KS), (∀ f ∈ fa, f.name ≠ "_") -> Ob (HT T n) m (fa.map fun f => (f.type, f.offset)) = some l ->
   ∀xs ys:Array Value,JZ l (IP xs.toList m l.length)=true->JZ l (IP ys.toList m l.length)=true ->
    ∃b:Bool,(Op.eqFields d xs ys fa).run P w=.ok b w/\(b=true↔IP xs.toList m l.length=IP ys.toList m l.length)
 | [],m,l,_,h,xs,ys,_,_=>by
  cases h
  exact⟨true,rfl,by simp[IP]⟩
 |f::fa,m,l,hn,h,xs,ys,hx,hy=>by
  obtain⟨ho,a,b,ha,hb,rfl⟩:=NO h;rw[Ac]at hx hy⊢;obtain⟨x1,x2⟩:=SP hx;obtain⟨y1,y2⟩:=SP hy;rw[Qg _ _ _ _ ch]at x1 y1;rw[Vb,Nat.add_sub_cancel_left]at x2 y2;obtain⟨c,c1,c2⟩:=hB _ _ ha xs ys m x1 y1;obtain⟨e,e1,e2⟩:=NK w n d hB fa (m+a.length) b (fun f hf=>hn f (Am _ hf)) hb xs ys x2 y2;have Ef:=hn f (Ah ..);have rn : (do let x <-part f.type xs f.offset;let y <-part f.type ys f.offset;Op.equalIn d f.type x y).run P w=.ok c w:=B0
  have CP:(Op.eqFields d xs ys (f::fa)).run P w=.ok (if c=true then e else false) w:=by
   unfold Op.eqFields;rw[Ax Ef];simp only[Sem.run_bind]at rn⊢;generalize (part f.type xs f.offset).run P w=r1 at rn⊢;cases r1 with
   |halt x w1=>cases rn
   |ok u w1=>
    simp only[Result.andThen_ok]at rn⊢;generalize (part f.type ys f.offset).run P w1=r2 at rn⊢;cases r2 with
    |halt x w1=>cases rn
    |ok u2 w2=>
     simp only[Result.andThen_ok]at rn⊢;rw[rn];simp only[Result.andThen_ok];cases c<;>simp[e1]
  grind [kO]
theorem X9(w:World):∀(n t:Nat) (l:List KS),HT T n t=some l->∀d,n<=d->∀(xs ys:Array Value) (o:Nat),JZ l (IP xs.toList o l.length)=true->JZ l (IP ys.toList o l.length)=true ->
  uz P w d t xs ys o l.length
 |0,t,l,h=>by grind [HT]
 |n+1,t,l,h=>by
  intro d hd xs ys o hx hy;obtain⟨d,rfl⟩:∃d',d=d'+1:=⟨d-1,by omega⟩;unfold HT at h;split at h
  .rename_i k hk;split at h
   .cases h
    obtain⟨x,x1,x2,x3⟩:=LK hx;obtain⟨y,y1,y2,y3⟩:=LK hy;have gi:(T t).d≠.other:=B0
    have hs:J3 (T t).d=false:=by rw[hk];rfl
    cases x<;>simp[NR]at x2
    cases y<;>simp[NR]at y2
    rename_i k1 n1 k2 n2;obtain rfl:=Ly x2;obtain rfl:=Ly y2;refine⟨n1 == n2,?_,?_⟩
    .simp[Sem.run_bind,DQ hT w gi hs xs o _ x1,DQ hT w gi hs ys o _ y1,run_equalIn_int w d t k k n1 n2 (hT.int hk)]
    simp_all
   simp_all
  .rename_i hk;split at h
   .cases h
    obtain⟨x,x1,x2,x3⟩:=LK hx;obtain⟨y,y1,y2,y3⟩:=LK hy;have gi:(T t).d≠.other:=B0
    have hs:J3 (T t).d=false:=by rw[hk];rfl
    cases x<;>simp[NR]at x2
    cases y<;>simp[NR]at y2
    rename_i s1 s2;refine⟨s1.toList == s2.toList,?_,?_⟩
    .simp[Sem.run_bind,DQ hT w gi hs xs o _ x1,DQ hT w gi hs ys o _ y1,run_equalIn_string w d t s1 s2 (hT.string hk)]
    grind [JT]
   simp_all
  .rename_i hk;split at h
   .cases h
    obtain⟨x,x1,x2,x3⟩:=LK hx;obtain⟨y,y1,y2,y3⟩:=LK hy;have gi:(T t).d≠.other:=B0
    have hs:J3 (T t).d=false:=by rw[hk];rfl
    cases x<;>simp[NR]at x2
    cases y<;>simp[NR]at y2
    rename_i s1 s2;refine⟨s1 == s2,?_,?_⟩
    .simp[Sem.run_bind,DQ hT w gi hs xs o _ x1,DQ hT w gi hs ys o _ y1,run_equalIn_bool' w d t s1 s2 (hT.bool hk)]
    simp_all
   simp_all
  .rename_i fs hk;split at h
   .rename_i GX;split at h
    .rename_i l' JD;split at h
     .rename_i Dr;cases h;have Dr:=A3 Dr;have gi:(T t).d≠.other:=B0
      have hs:J3 (T t).d=true:=by rw[hk];rfl
      obtain⟨fa,u1,u2,u3⟩:=hT.struct hk;obtain⟨_,_,_,_,_,_,_,_,_,_,hq⟩:=hT.get gi;obtain⟨q1,q2⟩:=hq GX;rw[u2]at JD;have hf:P.fieldsOf t=fa:=by grind [Program.fieldsOf]
      have ex:∀zs:Array Value,(zs.extract o (o+(T t).size)).toList=IP zs.toList o l.length:=fun zs=>by
       grind [IP,Array.toList_extract]
      have s0:∀zs:Array Value,IP (IP zs.toList o l.length) 0 l.length=IP zs.toList o l.length:=fun zs=>by
       grind [gZ]
      obtain⟨b,b1,b2⟩:=NK w n d (fun t l h xs ys o hx hy=>X9 w n t l h d ch xs ys o hx hy) fa.toList 0 l u3 JD (xs.extract o (o+(T t).size)) (ys.extract o (o+(T t).size))
       B0 B0
      rw[ex,ex,s0,s0]at b2;refine⟨b,?_,b2⟩
      grind [Sem.run_bind,GP,Result.andThen_ok,run_equalIn_struct]
     simp_all
    simp_all
   simp_all
  simp_all
end
theorem QR:∀{l:List KS} {xs:List AV},aR l xs=true->∃vs:List Value,xs=vs.map .v/\JZ l vs=true
 | [],[],_=>⟨[],rfl,rfl⟩
 |k::r,a::s,h=>by
  cases a with
  |v x=>
   simp only[aR]at h;split at h
   .rename_i h1;obtain⟨vs,rfl,h3⟩:=QR h;exact⟨x::vs,rfl,by grind [JZ]⟩
   simp_all
  |_=>grind [aR]
 | [],_::_,h=>by grind [aR]
 |_::_,[],h=>by grind [aR]
theorem aa:∀{l:List KS} {vs us:List Value},JZ l vs=true->JZ l us=true->(qD (vs.map .v) (us.map .v)↔vs=us)
 | [],[],[],_,_=>by simp[qD]
 |k::r,v::vs,u::us,h1,h2=>by
  simp only[JZ]at h1 h2;split at h1
  .rename_i e1;split at h2
   .rename_i e2;have ih:=aa h1 h2;cases k<;>cases v<;>simp[NR]at e1<;>cases u<;>simp[NR]at e2<;>simp only[Bq,qD,ih,JW]
    all_goals grind [Ly]
   simp_all
  simp_all
 | [],_::_,_,h,_=>by grind [JZ]
 |_::_,[],_,h,_=>by grind [JZ]
 | [],[],_::_,_,h=>by grind [JZ]
 |_::_,_::_,[],_,h=>by grind [JZ]
theorem Ba.v_eq{w:World}{a:Value}(h:Ba g w U (.v a) x):x=a:=by cases h;rfl
theorem Ba.agg_vals{w:World}{vs:List Value}(h:Ba g w U (.agg (vs.map .v)) x):x=.agg vs.toArray:=by
 cases h with
 |agg _ _ us hs h1 hr=>
  congr 1
  apply Array.ext';apply Da;intro i;simp only[BO]at hs
  by_cases hi:i<vs.length
  .have OH : i<us.size:=ch
   have:=hr i (.v vs[i]) us[i] B0 B0
   grind [Ba.v_eq]
  simp_all
theorem I9{P:Program}(hu:P.underlying t=some (.slice e))(a:Option Addr)(n c:Nat) :
  (Op.equal t (.slice a n c) (.slice none 0 0)).run P w=.ok a.isNone w:=by
 have key:∀d,(Op.equalIn (d+1) t (.slice a n c) (.slice none 0 0)).run P w=.ok a.isNone w:=fun d=>by
  cases a<;>simp[Op.equalIn,run_underlying hu]
 exact key 9999
theorem Ko{P:Program}(hu:P.underlying t=some (.pointer e))(a:Option Addr) :
  (Op.equal t (.pointer a) (.pointer none)).run P w=.ok a.isNone w:=by
 have key:∀d,(Op.equalIn (d+1) t (.pointer a) (.pointer none)).run P w=.ok a.isNone w:=fun d=>by
  cases a<;>simp[Op.equalIn,run_underlying hu]
 exact key 9999
theorem I8{P:Program}{ms:Array (String×TypeId)}(hu:P.underlying t=some (.interface ms)) :
  (Op.equal t .nilIface .nilIface).run P w=.ok true w:=by
 have key:∀d,(Op.equalIn (d+1) t .nilIface .nilIface).run P w=.ok true w:=fun d=>by
  simp[Op.equalIn,run_underlying hu]
 exact key 9999
section
variable {P:Program}{T:GK}{h:Nat->HO}{g:Gh}{w:World}{K:AV->Prop}
theorem lW{t:Nat}{a b:Int}(hk:Tx T op t (.v (.int k a)) (.v (.int k' b)) K) :
  Bv P h g w (do eqGuard op t X Y (.int k a) (.int k' b);binOp op t (.int k a) (.int k' b)) K:=by
 unfold Tx at hk;dsimp only at hk;split at hk
 .exact Rj hk
 .rename_i e;obtain rfl:=Ly e;cases op<;>dsimp only at hk
  case eql=>exact Bv.bool (b:=a == b) (by simp[eqGuard,binOp,Op.intCmp]) Cl hk
  case neq=>exact Bv.bool (b:=a != b) (by simp[eqGuard,binOp,Op.intCmp]) Cl hk
  case lss=>exact Bv.bool (b:=decide (a<b)) (by simp[eqGuard,binOp,Op.intCmp]) Cl hk
  case leq=>exact Bv.bool (b:=decide (a<=b)) (by simp[eqGuard,binOp,Op.intCmp]) Cl hk
  case gtr=>exact Bv.bool (b:=decide (b<a)) (by simp[eqGuard,binOp,Op.intCmp]) Cl hk
  case geq=>exact Bv.bool (b:=decide (b<=a)) (by simp[eqGuard,binOp,Op.intCmp]) Cl hk
  all_goals exact iL hk
theorem lX{t:Nat}{a b:CS}(hk:Tx T op t (.v (.string a)) (.v (.string b)) K) :
  Bv P h g w (do eqGuard op t X Y (.string a) (.string b);binOp op t (.string a) (.string b)) K:=by
 unfold Tx at hk;have tri:=Kt a.toList b.toList;have Alu:=Kt b.toList a.toList;cases op<;>dsimp only at hk
 case eql=>exact Bv.bool (b:=a.toList == b.toList) (by simp[eqGuard,binOp,Op.stringOp]) (JT a b) hk
 case neq=>exact Bv.bool (b:=!(a.toList == b.toList)) (by simp[eqGuard,binOp,Op.stringOp]) (by
  grind [JT]) hk
 case lss=>exact Bv.bool (b:=Op.bytesLess a.toList b.toList) (by simp[eqGuard,binOp,Op.stringOp]) Cl hk
 case leq=>exact Bv.bool (b:=Op.bytesLess a.toList b.toList||a.toList == b.toList) (by simp[eqGuard,binOp,Op.stringOp]) B0 hk
 case gtr=>exact Bv.bool (b:=!(Op.bytesLess a.toList b.toList||a.toList == b.toList)) (by simp[eqGuard,binOp,Op.stringOp]) B0 hk
 case geq=>exact Bv.bool (b:=!Op.bytesLess a.toList b.toList) (by simp[eqGuard,binOp,Op.stringOp]) Cl hk
 case add=>
  refine Bv.val (x:=.string (a++b)) ?_ hk.2;have h1:¬((a.size:Int)+(b.size:Int)>IntKind.i64.max):=B0
  simp[eqGuard,binOp,Op.stringOp];omega
 all_goals exact hk.elim
theorem kg{K:AV->Prop}(hk:kd K (.v (.bool b))):K (.v (.bool (!b))):=by cases b<;>exact hk
theorem mS(hT:Ca P T){t:Nat}{x y:AV}(hx:Ba g w (AJ h) x vx)(hy:Ba g w (AJ h) y vy){K:AV->Prop}(hk:zj T t x y K) :
  ∃b:Bool,(Op.equal t vx vy).run P w=.ok b w/\K (.v (.bool b))/\(∀op X Y,(op=.eql\/op=.neq)->(eqGuard op t X Y vx vy).run P w=.ok () w) /\
   binOp .eql t vx vy=(do pure (.bool (<-Op.equal t vx vy)))/\binOp .neq t vx vy=(do pure (.bool (!(<-Op.equal t vx vy)))):=by
 unfold zj at hk;split at hk
 .rename_i ht;split at hk
  .obtain rfl:=hx.v_eq;obtain rfl:=hy.v_eq;refine⟨_,?_,hk,fun op X Y _=>by rcases ‹op=_\/op=_› with rfl | rfl<;>simp[eqGuard],rfl,rfl⟩
   grind [Op.equal,Op.maxDepth,run_equalIn_bool',Ca.bool]
  simp_all
 .rename_i fs ht;split at hk
  .split at hk
   .rename_i l hl;split at hk
    .rename_i k1;split at hk
     .rename_i k2;obtain⟨vs,rfl,s1⟩:=QR k1;obtain⟨us,rfl,s2⟩:=QR k2;obtain rfl:=hx.agg_vals;obtain rfl:=hy.agg_vals;have Ef:(T t).d≠.other:=B0
      obtain⟨_,_,_,_,_,_,_,_,_,_,hq⟩:=hT.get Ef;have hag:J3 (T t).d=true:=by rw[ht];rfl
      have hfl:=hl;unfold HT at hfl;rw[ht]at hfl;dsimp only at hfl;split at hfl
      .rename_i GX;split at hfl
       .split at hfl
        .rename_i Dr;cases hfl;have Dr:=A3 Dr;have e1:∀zs:List Value,JZ l zs=true->IP zs.toArray.toList 0 l.length=zs:=fun zs hz=>by
          have:=Na hz
          grind [IP]
         obtain⟨b,b1,b2⟩:=X9 hT w 8 t l hl 10000 ch vs.toArray us.toArray 0 B0 B0;rw[e1 _ s1,e1 _ s2]at b2;have ex:∀zs:List Value,JZ l zs=true->zs.toArray.extract 0 (0+(T t).size)=zs.toArray:=fun zs hz=>by
          grind [Na]
         simp only[Sem.run_bind,GP hT w Ef hag,Result.andThen_ok,ex _ s1,ex _ s2]at b1;refine⟨b,b1,Ty hk (by grind [aa]),fun op X Y _=>run_eqGuard_agg w op t X Y _ _ (hq GX).2,rfl,rfl⟩
        simp_all
       simp_all
      simp_all
     simp_all
    simp_all
   simp_all
  simp_all
 .rename_i e ht;have hu:=hT.slice ht;split at hk
  .rename_i tk es;obtain rfl:=hy.v_eq;obtain⟨a,n,c,rfl,hn⟩:∃a n c,vx=.slice a n c/\(es≠[]->a.isNone=false):=by
    grind [cases Ba]
   refine⟨a.isNone,?_,?_,fun op X Y _=>by rcases ‹op=_\/op=_› with rfl | rfl<;>simp[eqGuard],rfl,rfl⟩
   .grind [I9]
   .by_cases he:es=[]
    .cases a.isNone<;>simp_all
    grind
  .obtain rfl:=hx.v_eq;obtain rfl:=hy.v_eq;refine⟨true,?_,hk,fun op X Y _=>by rcases ‹op=_\/op=_› with rfl | rfl<;>simp[eqGuard],rfl,rfl⟩
   grind [I9]
  simp_all
 .rename_i e ht;have hu:=hT.ptr ht
  have key:∀a:Addr,vx=.pointer (some a)->vy=.pointer none->K (.v (.bool false))->∃b:Bool,(Op.equal t vx vy).run P w=.ok b w/\K (.v (.bool b))/\(∀op X Y,(op=.eql\/op=.neq)->(eqGuard op t X Y vx vy).run P w=.ok () w) /\
   binOp .eql t vx vy=(do pure (.bool (<-Op.equal t vx vy)))/\binOp .neq t vx vy=(do pure (.bool (!(<-Op.equal t vx vy)))):=by
   rintro a rfl rfl hk
   refine⟨false,?_,hk,fun op X Y _=>by rcases ‹op=_\/op=_› with rfl | rfl<;>simp[eqGuard],rfl,rfl⟩
   grind [Ko]
  split at hk
  .obtain rfl:=hx.v_eq;obtain rfl:=hy.v_eq;refine⟨true,?_,hk,fun op X Y _=>by rcases ‹op=_\/op=_› with rfl | rfl<;>simp[eqGuard],rfl,rfl⟩
   grind [Ko]
  all_goals grind [cases Ba]
 simp_all
theorem rh(hT:Ca P T){t:Nat}{x y:AV}(hx:Ba g w (AJ h) x vx)(hy:Ba g w (AJ h) y vy)(hk:Tx T op t x y K) :
  Bv P h g w (do eqGuard op t X Y vx vy;binOp op t vx vy) K:=by
 unfold Tx at hk;split at hk
 .obtain rfl:=hx.v_eq;obtain rfl:=hy.v_eq;exact lW (T:=T) (by grind [Tx])
 .obtain rfl:=hx.v_eq;obtain rfl:=hy.v_eq;exact lX (T:=T) (by grind [Tx])
 .split at hk
  .obtain⟨b,b1,b2,b3,b4,b5⟩:=mS hT hx hy hk;refine⟨_,_,?_,b2,.v _ _⟩;simp_all
  .obtain⟨b,b1,b2,b3,b4,b5⟩:=mS hT hx hy hk;refine⟨_,_,?_,kg b2,.v _ _⟩;simp_all
  simp_all
theorem lV(hT:Ca P T){t:Nat}{x y:AV}(hx:Ba g w (AJ h) x vx)(hy:Ba g w (AJ h) y vy)(hc:∀v,Y=.const v->vy=v)(hk:ZD T op t Y x y K) :
  Bv P h g w (do eqGuard op t X Y vx vy;binOp op t vx vy) K:=by
 unfold ZD at hk;split at hk
 .obtain rfl:=hc _ rfl;split at hk
  .obtain rfl:=hx.v_eq;split at hk
   .rename_i ht;obtain⟨ms,hu⟩:=hT.iface ht;split at hk
    .refine⟨_,_,?_,hk,.v _ _⟩;have e:binOp .eql t .nilIface .nilIface=(do pure (.bool (<-Op.equal t .nilIface .nilIface))):=rfl;simp[eqGuard,e,I8 w hu]
    .refine⟨_,_,?_,hk,.v _ _⟩;have e:binOp .neq t .nilIface .nilIface=(do pure (.bool (!(<-Op.equal t .nilIface .nilIface)))):=rfl;simp[eqGuard,e,I8 w hu]
    simp_all
   simp_all
  simp_all
 grind [rh]
end
def HL(g:Gh)(w:World)(U:Nat->Prop)(b off:Nat)(cs:List AV):Prop:=
 ∀(j:Nat) (av:AV),cs[j]?=some av->∃x,w.cell? ⟨b,off+j,none⟩=some x/\x.oneCell'=true/\Ba g w U av x
theorem HL.drop{g:Gh}{w:World}{U:Nat->Prop}{b off:Nat}{cs:List AV}(h:HL g w U b off cs)(n:Nat):HL g w U b (off+n) (cs.drop n):=fun j av hj=>by
 rw[F2]at hj
 have:=h _ _ hj
 grind
theorem HL.of_cptr{w:World}{b off:Nat}(h:Ba g w U (.cptr cs) (.pointer (some ⟨b,off,none⟩)))(V:Nat->Prop):HL g w V b off cs:=by
 cases h with
 |cptr _ _ _ _ val DM Ey=>exact fun j av hj=>⟨_,(DM j av hj).2.1,(DM j av hj).2.2,(Ey j av hj).up V⟩
theorem F6{w:World}{b o:Nat}(h:w.heap[b]?=some (.cells vs E f)):w.cell? ⟨b,o,none⟩=vs[o]?:=by
 simp[World.cell?,h]
theorem HL.of_row{w:World}{b:Nat}(h:w.heap[b]?=some (.cells vs E f))(hr:Ck g w U cs vs.toList):HL g w U b 0 cs:=fun j av hj=>by
 have EU:j<vs.toList.length:=by rw[hr.1];grind
 have hx:vs.toList[j]?=some vs.toList[j]:=A0 EU;refine⟨vs.toList[j],?_,hr.2.1 _ (Ai EU),hr.2.2 j av _ hj hx⟩
 grind [F6]
theorem VQ{n j:Nat}{f:Nat->α}{x:α}(h:((List.range n).map f)[j]?=some x):j<n/\x=f j:=by
 grind
section
variable {P:Program}{T:GK}(hT:Ca P T){h:Nat->HO}{g:Gh}{w:World}{K:AV->Prop}
include hT
theorem L4{t:Nat}{b off:Nat}(hd:(T t).d≠.other)(ha:J3 (T t).d=false)(hc:w.cell? ⟨b,off,none⟩=some x):(loadVar t ⟨b,off,none⟩).run P w=.ok x w:=by
 unfold loadVar;simp[Sem.run_bind,hT.isAgg w hd,ha,hc]
theorem SE{t:Nat}{b off:Nat}{vs:List Value}(hd:(T t).d≠.other)(ha:J3 (T t).d=true)(hl:vs.length=(T t).size)
  (hc:∀j x,vs[j]?=some x->w.cell? ⟨b,off+j,none⟩=some x):(loadVar t ⟨b,off,none⟩).run P w=.ok (.agg vs.toArray) w:=by
 unfold loadVar;have hr:=run_loadCells_list (P:=P) w ⟨b,off,none⟩ vs (fun j x hj=>by grind [Addr.add_lit]);simp[Sem.run_bind,hT.isAgg w hd,ha,hT.size w hd,<-hl,hr]
theorem MG{t:Nat}{b off:Nat}{cs:List AV}(hc:HL g w (AJ h) b off cs)(hk:L0 T t cs K):Bv P h g w (loadVar t ⟨b,off,none⟩) K:=by
 have agg:J3 (T t).d=true->(T t).d≠.other->(T t).size<=cs.length->K (.agg (cs.take (T t).size))->Bv P h g w (loadVar t ⟨b,off,none⟩) K:=by
  intro ha hd Jk hk;have hex:∀j:Nat,∃x:Value,∀av,cs[j]?=some av->w.cell? ⟨b,off+j,none⟩=some x/\x.oneCell'=true/\Ba g w (AJ h) av x:=fun j=>by
   cases e:cs[j]? with
   |none=>simp_all
   |some av=>obtain⟨x,hx⟩:=hc j av e<;>simp_all
  obtain⟨val,hval⟩:=Classical.axiomOfChoice hex;have nQ:∀j,j<(T t).size->∃av,cs[j]?=some av:=fun j hj=>⟨_,A0 ch⟩;refine⟨_,_,SE hT (vs:=(List.range (T t).size).map val) hd ha Cl (fun j x hx=>?_),hk,.agg _ _ _ B0 (fun i x hx=>?_) (fun i av x hi hx=>?_)⟩
  all_goals grind
 have single:J3 (T t).d=false->(T t).d≠.other->LX cs K->Bv P h g w (loadVar t ⟨b,off,none⟩) K:=by
  intro ha hd hk;cases cs with
  |nil=>exact hk.elim
  |cons a r=>
   obtain⟨x,x1,x2,x3⟩:=hc 0 a rfl;exact⟨x,a,L4 hT hd ha x1,hk,x3⟩
 unfold L0 at hk;split at hk
 .rename_i fs e;exact agg (by rw[e];rfl) B0 hk.1 hk.2
 .rename_i n m e;exact agg (by rw[e];rfl) B0 hk.1 hk.2
 .rename_i e;have hd:(T t).d≠.other:=B0
  have ha:J3 (T t).d=false:=by rw[e];rfl
  cases cs with
  |nil=>exact hk.elim
  |cons a r=>
   obtain⟨x,x1,x2,x3⟩:=hc 0 a rfl;simp only[LX]at hk;split at hk
   .obtain rfl:=x3.v_eq;rename_i bb;refine⟨_,_,L4 hT hd ha x1,?_,.v _ _⟩;cases bb<;>simp_all
   simp_all
 .simp_all
 .rename_i e1 e2 e3 e4;refine single ?_ e4 hk;cases e:(T t).d<;>first | rfl | simp_all | simp_all
def Zq(g:Gh)(w:World)(U:Nat->Prop)(xs:Array Value)(off:Nat)(cs:List AV):Prop:=
 ∀(j:Nat) (av:AV),cs[j]?=some av->∃x,xs[off+j]?=some x/\x.oneCell'=true/\Ba g w U av x
omit hT in
theorem Zq.of_agg{cs:List AV}{xs:Array Value}{U:Nat->Prop}(hr:Ba g w U (.agg cs) (.agg xs))(o:Nat):Zq g w U xs o (cs.drop o):=by
 cases hr with
 |agg _ _ _ hs h1 hh=>
  intro j av hj;rw[F2]at hj;have EU:o+j<xs.size:=aa0
  have hx:xs[o+j]?=some xs[o+j]:=B0
  grind
theorem bI{t:Nat}{xs:Array Value}{off:Nat}{cs:List AV}(hc:Zq g w (AJ h) xs off cs)(hk:bH T t cs K):Bv P h g w (part t xs off) K:=by
 have agg:J3 (T t).d=true->(T t).d≠.other->(T t).size<=cs.length->K (.agg (cs.take (T t).size))->Bv P h g w (part t xs off) K:=by
  intro ha hd Jk hk;have nQ:∀j,j<(T t).size->∃av,cs[j]?=some av:=fun j hj=>⟨_,A0 ch⟩;have FW:∀(j:Nat) (x:Value),(xs.extract off (off+(T t).size))[j]?=some x->j<(T t).size/\xs[off+j]?=some x:=fun j x hx=>by
   grind
  have FE:(xs.extract off (off+(T t).size)).size=(T t).size:=by
   by_cases h0:(T t).size=0
   .grind
   .obtain⟨av,wR⟩:=nQ ((T t).size-1) ch;obtain⟨x,x1,_⟩:=hc _ _ wR<;>grind [Array.getElem?_eq_some_iff]
  refine⟨_,_,GP hT w hd ha xs off,hk,.agg _ _ _ B0 (fun i x hx=>?_) (fun i av x hi hx=>?_)⟩
  .obtain⟨hj,Sy⟩:=FW i x hx;obtain⟨av,wR⟩:=nQ i hj;obtain⟨y,y1,y2,y3⟩:=hc i av wR<;>simp_all
  .obtain⟨hj,Sy⟩:=FW i x hx;rw[Sn hj]at hi;obtain⟨y,y1,y2,y3⟩:=hc i av hi<;>simp_all
 have single:J3 (T t).d=false->(T t).d≠.other->LX cs K->Bv P h g w (part t xs off) K:=by
  intro ha hd hk;cases cs with
  |nil=>exact hk.elim
  |cons a r=>
   obtain⟨x,x1,x2,x3⟩:=hc 0 a rfl;exact⟨x,a,DQ hT w hd ha xs off x x1,hk,x3⟩
 unfold bH L0 at hk;split at hk
 .rename_i fs e;exact agg (by rw[e];rfl) B0 hk.1 hk.2
 .rename_i n m e;exact agg (by rw[e];rfl) B0 hk.1 hk.2
 .rename_i e;have hd:(T t).d≠.other:=B0
  have ha:J3 (T t).d=false:=by rw[e];rfl
  cases cs with
  |nil=>exact hk.elim
  |cons a r=>
   obtain⟨x,x1,x2,x3⟩:=hc 0 a rfl;simp only[LX]at hk;split at hk
   .obtain rfl:=x3.v_eq;rename_i bb;refine⟨_,_,DQ hT w hd ha xs off _ x1,?_,.v _ _⟩;cases bb<;>simp_all
   simp_all
 .simp_all
 .rename_i e1 e2 e3 e4;refine single ?_ e4 hk;cases e:(T t).d<;>first | rfl | simp_all | simp_all
theorem dj{s f:Nat}{x:AV}(hx:Ba g w (AJ h) x vx)(hk:Pl T s f x K):Bv P h g w (Instr.field s vx f) K:=by
 unfold Pl at hk;split at hk
 .rename_i fs cs hs;split at hk
  .rename_i t o hf;obtain⟨fa,u1,u2,u3⟩:=hT.struct hs;cases hx with
   |agg _ _ xs a1 a2 a3=>
    have hfa:∃fd,fa[f]?=some fd/\fd.type=t/\fd.offset=o:=by
     have key:∀(l:List (Nat×Nat)) (n:Nat) (p:Nat×Nat),Yf l n=some p->l[n]?=some p:=by
      intro l
      induction l with
      |nil=>intro n p h;cases h
      |cons y r ih=>intro n p h;cases n<;>grind [Yf]
     grind
    obtain⟨fd,e1,rfl,rfl⟩:=hfa;obtain⟨y,av,p1,p2,p3⟩:=bI hT (Zq.of_agg (.agg _ _ xs a1 a2 a3) fd.offset) hk;refine⟨y,av,?_,p2,p3⟩;simp only[Instr.field,Sem.run_bind,run_underlying u1,Result.andThen_ok,e1];simpa[asAgg]using p1
  simp_all
 simp_all
theorem T6{s f:Nat}{fs:List (Nat×Nat)}{t o:Nat}(hs:(T s).d=.struct fs)(hf:Yf fs f=some (t,o)):∃fa fd,P.underlying s=some (.struct fa)/\fa[f]?=some fd/\fd.type=t/\fd.offset=o:=by
 obtain⟨fa,u1,u2,u3⟩:=hT.struct hs;have key:∀(l:List (Nat×Nat)) (n:Nat) (p:Nat×Nat),Yf l n=some p->l[n]?=some p:=by
  intro l
  induction l with
  |nil=>intro n p h;cases h
  |cons y r ih=>intro n p h;cases n<;>grind [Yf]
 grind
theorem jk{s f:Nat}{x:AV}(hx:Ba g w (AJ h) x vx)(hk:TZ T s f x K):Bv P h g w (Instr.fieldAt s vx f) K:=by
 unfold TZ at hk;split at hk
 .rename_i fs hs;split at hk
  .rename_i t o hf;obtain⟨fa,fd,u1,e1,rfl,rfl⟩:=T6 hT hs hf;split at hk
   .simp_all
   .rename_i k FE;have CP:∀b off,(Instr.fieldAt s (.pointer (some ⟨b,off,none⟩)) f).run P w=.ok (.pointer (some ⟨b,off+fd.offset,none⟩)) w:=fun b off=>by
     simp[Instr.fieldAt,run_underlying u1,e1,Instr.sureAddr,fieldPlace,hT.size1 w FE,Addr.add_lit]
    split at hk
    .cases hx with
     |cptr _ _ b off val DM Ey=>exact⟨_,_,CP b off,hk,(Ba.cptr _ _ b off val DM Ey).cptr_drop _⟩
    .rename_i r off;cases hx with
     |ref _ _ _ b hu ht hp=>exact⟨_,_,CP b off,hk,.ref _ r _ b hu ht hp⟩
    .rename_i r n sz i off;cases hx with
     |eref _ _ _ _ _ _ b cap hu ht hn hp=>
      refine⟨_,_,CP b _,hk,?_⟩
      grind [Ba.eref]
    simp_all
  simp_all
 simp_all
end
section
variable {P:Program}{T:GK}(hT:Ca P T){h:Nat->HO}{g:Gh}{w:World}{K:AV->Prop}
section
include hT
theorem VI{t:Nat}{x ix:AV}(hx:Ba g w (AJ h) x vx)(hi:Ba g w (AJ h) ix vi)(hk:JG T t x ix K):Bv P h g w (Instr.indexAt t vx vi) K:=by
 unfold JG at hk;split at hk
 .rename_i e i ht;obtain rfl:=hi.v_eq;have hu:=hT.slice ht;split at hk
  .simp_all
  .rename_i m hm;have CP:∀b off (len cap:Nat),0<=i->i<(len:Int)->(Instr.indexAt t (.slice (some ⟨b,off,none⟩) len cap) (.int .i64 i)).run P w=.ok (.pointer (some ⟨b,off+i.toNat*(T e).size,none⟩)) w:=fun b off len cap h0 h1=>by
    simp[Instr.indexAt,asIntOf,run_underlying hu,h0,h1,hT.size1 w hm,Addr.add_lit,hm]
   split at hk
   .rename_i tk es;obtain⟨cs,⟨h0,h1⟩,h2,hk⟩:=hk;have hs:=hx.slice_none;have EU:=(Bf.1 h1).1;cases hs with
    |snil=>simp_all
    |slice _ _ b off sz cap val hc hl DM Ey=>
     have FE:sz=(T e).size:=aa0
     subst FE;refine⟨_,_,CP b off es.length cap h0 ch,hk,.cptr _ cs b _ (val i.toNat) (fun j av hj=>?_) (fun j av hj=>Ey _ _ _ _ h1 hj)⟩
     grind
   .rename_i r n;obtain⟨⟨h0,h1⟩,hk⟩:=hk;cases hx with
    |msl _ _ _ a cap nS ht' hn ha Sy=>
     rcases ha with rfl | ⟨b,rfl⟩
     .omega
     .refine⟨_,_,CP b 0 n cap h0 h1,hk,?_⟩;rw[Fq];exact .eref _ r n _ _ 0 b cap nS ht' ⟨by omega,hn⟩ (fun e=>(Sy e).symm)
   simp_all
 .rename_i n e i ht;obtain rfl:=hi.v_eq;have hu:=hT.array ht;split at hk
  .simp_all
  .rename_i m hm;have CP:∀b off,0<=i->i<(n:Int)->(Instr.indexAt t (.pointer (some ⟨b,off,none⟩)) (.int .i64 i)).run P w=.ok (.pointer (some ⟨b,off+i.toNat*(T e).size,none⟩)) w:=fun b off h0 h1=>by
    simp[Instr.indexAt,asIntOf,run_underlying hu,h0,h1,hT.size1 w hm,Addr.add_lit,hm,Instr.sureAddr]
   split at hk
   .cases hx with
    |cptr _ _ b off val DM Ey=>exact⟨_,_,CP b off hk.1.1 hk.1.2,hk.2,(Ba.cptr _ _ b off val DM Ey).cptr_drop _⟩
   .rename_i r off;cases hx with
    |ref _ _ _ b hu ht hp=>exact⟨_,_,CP b off hk.1.1 hk.1.2,hk.2,.ref _ r _ b hu ht hp⟩
   simp_all
 simp_all
theorem jI{t:Nat}{x ix:AV}(hx:Ba g w (AJ h) x vx)(hi:Ba g w (AJ h) ix vi)(hk:Ut T t x ix K):Bv P h g w (Instr.index t vx vi) K:=by
 unfold Ut at hk;split at hk
 .rename_i s k i ht;obtain rfl:=hx.v_eq;obtain rfl:=hi.v_eq;obtain⟨b,⟨h0,h1⟩,hk⟩:=hk;refine Bv.val (x:=.int .u8 b.toNat) ?_ hk;have h2:s[i.toNat]?=some b:=by
   have:=(Co.1 h1)
   obtain⟨l1,l2⟩:=this;have l1' : i.toNat<s.size:=l1;rw[getElem?_pos s i.toNat l1'];exact Aa some l2
  simp[Instr.index,asIntOf,run_underlying (hT.string ht),h0,h2]
 .rename_i n e cs i ht;obtain rfl:=hi.v_eq;obtain⟨⟨h0,h1⟩,hk⟩:=hk;cases hx with
  |agg _ _ xs a1 a2 a3=>
   have hd:(T e).d≠.other:=by
    grind [bH,L0]
   obtain⟨y,av,p1,p2,p3⟩:=bI hT (Zq.of_agg (.agg _ _ xs a1 a2 a3) _) hk;refine⟨y,av,?_,p2,p3⟩;simp[Instr.index,asIntOf,run_underlying (hT.array ht),h0,h1,hT.size w hd,p1]
 simp_all
theorem ZN{s t:Nat}{x:AV}(hx:Ba g w (AJ h) x vx)(hk:Wx T s t x K):Bv P h g w (convert s t vx) K:=by
 unfold Wx at hk;split at hk
 .rename_i k n h1 h2;obtain rfl:=hx.v_eq;refine Bv.val (x:=.int .i64 n) ?_ hk.2;have hw:=Nv hk.1;simp[convert,run_underlying (hT.int h1),run_underlying (hT.int h2),Conv.intToInt,hw]
 .rename_i k k' m n Ef h1 h2;obtain rfl:=hx.v_eq;refine Bv.val (x:=.int k' (k'.wrap n)) ?_ hk;simp[convert,run_underlying (hT.int h1),run_underlying (hT.int h2),Conv.intToInt]
 .rename_i s' h1 h2;obtain rfl:=hx.v_eq;refine Bv.val (x:=.string s') ?_ hk;simp[convert,run_underlying (hT.string h1),run_underlying (hT.string h2)]
 .rename_i e tk es h1 h2;split at hk
  .rename_i h3;obtain⟨l,rfl,hk⟩:=hk;have hr:=hx.slice_none;refine Bv.val (x:=.string ⟨l.toArray⟩) ?_ hk;generalize hes:l.map (fun b=>[AV.v (.int .u8 b.toNat)])=es at hr;cases hr with
   |snil _ a cap=>
    have hl:l=[]:=B0
    subst hl;cases a with
    |none=>exact Lib.run_convert_nil_bytes w s t e cap (hT.slice h1) (hT.int h3) (hT.string h2)
    |some a=>exact run_convert_bytes_back w s t e a cap [] (hT.slice h1) (hT.int h3) (hT.string h2) (fun j hj=>by grind)
   |slice _ _ b off sz cap val hc hl DM Ey=>
    have Dr:l.length=es.length:=aa0
    have:=run_convert_bytes_back (P:=P) w s t e ⟨b,off,none⟩ cap l (hT.slice h1) (hT.int h3) (hT.string h2) (fun j hj=>by
     have hg:es[j]?=some [AV.v (.int .u8 l[j].toNat)]:=aa0
     have Ys:sz=1:=(hl j _ hg).symm;have h4:=DM j _ 0 _ hg rfl;have h5:=Ey j _ 0 _ hg rfl
     grind [Addr.add_lit,Ba.v_eq])
    simp_all
  simp_all
 simp_all
end
theorem p9{op:UnOp}{x:AV}(hx:Ba g w (AJ h) x vx)(hk:ca op x K):Bv P h g w (Op.unary op vx) K:=by
 unfold ca at hk;split at hk
 .unfold kd at hk;split at hk
  .obtain rfl:=hx.v_eq;exact Bv.val (x:=.bool false) (by simp[Op.unary]) hk
  .obtain rfl:=hx.v_eq;exact Bv.val (x:=.bool true) (by simp[Op.unary]) hk
  simp_all
 .rename_i a;obtain rfl:=hx.v_eq;refine Bv.val (x:=.int .i64 (-a)) ?_ hk.2
  have:=Nv hk.1
  simp[Op.unary,Op.intArith,this]
 .obtain rfl:=hx.v_eq;exact Bv.val (by simp[Op.unary,Op.intBits,Cq]) hk
 simp_all
theorem bx:∀{l:List AV} {j:Nat} {a:AV},s5 l j=some a->l[j]?=some a
 | [],j,a,h=>by cases h
 |b::r,0,a,h=>by grind [s5]
 |b::r,j+1,a,h=>by simpa using bx (l:=r) (j:=j) h
theorem ab{i:Nat}{x:AV}(hx:Ba g w (AJ h) x vx)(hk:Mw x i K):Bv P h g w (Instr.extract vx i) K:=by
 unfold Mw at hk;split at hk
 .rename_i cs;cases hx with
  |tup _ _ vs hs hh=>
   split at hk
   .rename_i a ha;have hc:=bx ha;have hi:i<vs.size:=aa0
    exact⟨vs[i],_,by simp[Instr.extract,hi],hk,hh _ _ _ hc B0⟩
   simp_all
 simp_all
theorem pf{c a b:AV}{vc va vb:Value}(hc:Ba g w (AJ h) c vc)(ha:Ba g w (AJ h) a va)(hb:Ba g w (AJ h) b vb)(hk:bJ c a b K) :
  Bv P h g w (do pure (if <-asBool vc then va else vb)) K:=by
 unfold bJ at hk;split at hk
 .obtain rfl:=hc.v_eq;exact⟨va,a,by simp[asBool],hk,ha⟩
 .obtain rfl:=hc.v_eq;exact⟨vb,b,by simp[asBool],hk,hb⟩
 simp_all
theorem sL{t:Nat}{x y:AV}(hx:Ba g w (AJ h) x vx)(hy:Ba g w (AJ h) y vy)(hk:sO max x y K):Bv P h g w (Builtin.max_ Hb t #[vx,vy]) K:=by
 unfold sO at hk;split at hk
 .rename_i k a k' b;split at hk
  .obtain rfl:=hx.v_eq;obtain rfl:=hy.v_eq;refine Bv.val (x:=.int k (max a b)) ?_ hk;simp[Builtin.max_,Builtin.max2];omega
  simp_all
 simp_all
theorem sN{t:Nat}{x y:AV}(hx:Ba g w (AJ h) x vx)(hy:Ba g w (AJ h) y vy)(hk:sO min x y K):Bv P h g w (Builtin.min_ Hb t #[vx,vy]) K:=by
 unfold sO at hk;split at hk
 .rename_i k a k' b;split at hk
  .obtain rfl:=hx.v_eq;obtain rfl:=hy.v_eq;refine Bv.val (x:=.int k (min a b)) ?_ hk;simp[Builtin.min_,Builtin.min2];omega
  simp_all
 simp_all
end
end Go.Eng
