/- Lemmas for the claims of this seat, without a condition: part 17 (EngZT, EngZU, EngZV, EngZW, EngZX, EngZR). -/
import Derived.Test.YteaiieomnhbmgaaGreatDoorA16
namespace Go.Eng
section
variable {P:Program}{N:Nat}{w:World}{g:Gh}
theorem jC(o k r:Nat){H:List (Nat×HO)}(cx:Cx)(hP:cx.P=P)(hT:CF P cx.T)(hm:P.follows .mixedOrders=true)(hx:cx.ext=true){σ:JA}(hσ:(Hd σ&&I3 σ H)=true){fn:FuncId}{tm:Array Value}{ps:Array Tmp}{G6 body:Code}{D l:Nat}
  {env:Nat->AV} {args:List AV} {U:Nat->Prop} {Q:AV->(Nat->HO)->Prop} (hps:args.length=ps.toList.length) (hN:tm.size=N) (hpN:(ps.toList.all fun p=>Nat.blt p N)=true) (hca:EK N G6=true) (hcb:EK N body=true)
  (hU:∀i,U i->AQ (Ao H Af) i)
  (hk:SC cx G6 (fun e st=>match e with | .normal=>SC cx body (fun e st=>match e with | .normal=>zY st.h o k r fun h'=>Q (.v (.bool true)) (FO σ (PM h' cx.pl.fin)) | _=>False) st | _=>False) ⟨pe ps.toList args env,Ao H Af⟩)
  (hY:∀l σ g w,cx.yp l σ g w:=by exact fun _ _ _ _=>trivial) (hbk:Pg [] body=false:=by kernel_rfl) :
  Jp P (fun g w=>w.heap[l]?=some (.loop (Iy fn tm ps G6 body D .ready))/\∀i,BM g w U (env i) (tm.getD i undef)) l args (Ao H Af) Q:=by
 simp only[Ae]at hσ;intro g w vals hs hv hI ⟨hl,Ox⟩;have Dz:l<w.heap.size:=(Bp.1 hl).1;have hdl:∀s,X2 (.loop (Iy fn tm ps G6 body D s))=true:=fun s=>by show(!Pg [] body)=true;rw[hbk];rfl
 have hE:Me cx (Ao H Af):=by unfold Me;rw[hx];exact fun i hi=>⟨(GK hσ.2 i hi).1,(GK hσ.2 i hi).2.1⟩
 have NO:∀r,((Ao H Af) r).live->g.own r≠some l:=fun r hr e=>P0 (hI.objs r) hr e hl (hdl _);have rx:∀(t0:Array Value),(ps.zip vals).foldl (fun tmps (p:Nat×Value)=>tmps.setIfInBounds p.1 p.2) t0=(ps.toList.zip vals.toList).foldl (fun t p=>t.setIfInBounds p.1 p.2) t0:=fun t0=>by
  rw[<-Array.foldl_toList,Array.toList_zip]
 have hry:=run_yield (P:=P) (args:=vals) hl (by simp only[hs,hps,BS]);refine⟨fn,_,G6,body,hry,roundIn_of_wpIn trivial ?_⟩;obtain⟨z1,z2⟩:=ZB (U:=AQ (Ao H Af)) (ps:=ps.toList) (args:=args) (vals:=vals.toList) (tm:=tm) (env:=env) (by simpa using hs) hps (fun p hp=>by
  have:=(Bc.1 hpN) p hp
  rw[hN];simpa using this) (fun i av x e1 e2=>hv i av x e1 (by simpa using e2)) (fun i=>(Ox i).mono (.refl _ _) hU (.refl _ _))
 have hS0:SR N [] w g (Ao H Af) ⟨pe ps.toList args env,Ao H Af⟩ g { tmps:=(ps.zip vals).foldl (fun tmps (p:Nat×Value)=>tmps.setIfInBounds p.1 p.2) tm,defers:=[] } w:=by
  refine⟨hI,.refl _ _ _,rfl,?_,fun i=>?_⟩
  .rw[rx];exact z1.trans hN
  .rw[rx];exact z2 i
 refine Ok hP hT hm hE (fun l σ _ _ w _ _ _=>hY l σ _ w) (some l) G6 hca (fun e st1 g1 a1 w1 hq lm=>?_) hS0 hk;cases e with
 |exit _=>exact hq.elim
 |ret=>exact hq.elim
 |normal =>
  have hl1:w1.heap[l]?=some (.loop (Iy fn tm ps G6 body D .ready)):=(lm.inv.frame l Dz NO).trans hl;refine⟨_,run_beginRound hl1 rfl,?_⟩;obtain⟨iS,sS⟩:=hI.put (n0:=w.heap.size) (x:=l) (o':=.loop (Iy fn tm ps G6 body D .busy)) hl (hdl _) (hdl _) (.inr rfl);have hlS:(w.putObj l (.loop (Iy fn tm ps G6 body D .busy))).heap[l]?=some (.loop (Iy fn tm ps G6 body D .busy)):=World.putObj_heap_same Dz;have pF:(w.putObj l (.loop (Iy fn tm ps G6 body D .busy))).heap.size=w.heap.size:=by simp[World.putObj]
  obtain⟨_,sB⟩:=iS.dullS (w':=w) (n0:=w.heap.size) (x:=l) ⟨rfl,rfl,rfl⟩ (by rw[pF];exact Aj _) (fun b _=>by
   by_cases e:b=l
   .subst e;exact .inr ⟨_,_,hlS,hl,hdl _,hdl _⟩
   .exact .inl (World.putObj_heap_other e).symm) (fun b _ Dy=>(World.putObj_heap_other Dy).symm)
  obtain⟨i2,s2⟩:=lm.inv.base.put (n0:=w.heap.size) (x:=l) (o':=.loop (Iy fn tm ps G6 body D .busy)) hl1 (hdl _) (hdl _) (.inr rfl);have S2:=(sB.trans (dI.of_inv lm.inv lm.le (Aj _))).trans s2;have ib:(w1.putObj l (.loop (Iy fn tm ps G6 body D .busy))).heap[l]?=some (.loop (Iy fn tm ps G6 body D .busy)):=World.putObj_heap_same (Bp.1 hl1).1;have hI2:=i2.of_seg (by rw[pF];exact S2) (fun _=>ib.trans hlS.symm);have hS2:SR N [] (w.putObj l (.loop (Iy fn tm ps G6 body D .busy))) g (Ao H Af) st1 g1 a1 (w1.putObj l (.loop (Iy fn tm ps G6 body D .busy))):=⟨hI2,S2.le,lm.dfs,lm.size,fun i=>(lm.slots i).le s2.le⟩;refine Ok hP hT hm hE (fun l σ _ _ w _ _ _=>hY l σ _ w) (some l) body hcb (fun e st3 g3 a3 w3 hq wP=>?_) hS2 hq;cases e with
  |exit _=>exact hq.elim
  |ret=>exact hq.elim
  |normal =>
   obtain⟨h3,g3',wP,hq⟩:=m8 wP hq;have zE:w3.heap[l]?=some (.loop (Iy fn tm ps G6 body D .busy)):=(wP.inv.frame l (by rw[pF];exact Dz) NO).trans hlS;refine⟨.bool true,w3.putObj l (.loop (Iy fn tm ps G6 body D .ready)),run_endRound none zE,?_⟩;obtain⟨gf,if1,if2⟩:=Ns cx.pl.fin wP.inv;obtain⟨i4,s4⟩:=if1.base.put (n0:=w.heap.size) (x:=l) (o':=.loop (Iy fn tm ps G6 body D .ready)) zE (hdl _) (hdl _) (.inr rfl);have S4:=(sS.trans (dI.of_inv if1 (wP.le.trans if2) (by rw[pF];exact Aj _))).trans s4;have hl4:(w3.putObj l (.loop (Iy fn tm ps G6 body D .ready))).heap[l]?=some (.loop (Iy fn tm ps G6 body D .ready)):=World.putObj_heap_same (Bp.1 zE).1;have hI4:=i4.of_seg S4 (fun _=>hl4.trans hl.symm);obtain⟨_,j1,j2⟩:=Py hσ.1 hσ.2 hI4 S4.le;exact⟨.bool true,.v (.bool true),_,_,rfl,hq,.v _ _,j1,j2⟩
end
def vN(h:Nat->HO)(o k r sz:Nat)(K:(Nat->HO)->Prop):Prop :=
 match h o with
 |.cells cs=>match JJ cs k with
  |.v (.slice none 0 0)=>match h r with
   |.free=>K (A0 (A0 h r (.var sz 0 0)) o (.cells (EU cs k (.slice (.ver r sz 0) []))))
   |_=>False
  |_=>False
 |_=>False
section
variable {P:Program}{N:Nat}{ds:List Deferred}{w0:World}{g0:Gh}{h0:Nat->HO}{st:St}{g:Gh}{a:Act}{w:World}
theorem ub(hS:SR N ds w0 g0 h0 st g a w){o k r sz:Nat}{K:(Nat->HO)->Prop}(hk:vN st.h o k r sz K):∃h' g',SR N ds w0 g0 h0 ⟨st.t,h'⟩ g' a w/\K h':=by
 unfold vN at hk;split at hk
 .rename_i cs e0;split at hk
  .rename_i e1;split at hk
   .rename_i hf;have ol:o≠r:=fun e=>by rw[e,hf]at e0;cases e0
    have ZW:=JP cs k _ e1 B0
    obtain⟨m1,m2⟩:=hS.inv.upd r (.var sz 0 0) (.slice none 0 0) 0 true none g.S w none ⟨rfl,rfl,rfl,Aj _⟩ (fun _ _ _=>rfl) (fun b e=>by cases e) (fun _ _ h=>h) (fun _ _ h=>.inl h) (fun b o e=>by cases e) (fun b hh e=>by first | (cases e;done) | (exact absurd hh.2 B0)) B0
     (fun hu=>absurd hf hu) (fun _ _=>by
      obtain⟨u1,u2,u3,u4⟩:=BG g r (.slice none 0 0) 0 true none g.S;exact⟨u3,u2,none,0,u1,.inl ⟨rfl,u4⟩⟩)
    generalize VL:g.upd r (.slice none 0 0) 0 true none g.S=g1 at m1 m2;have gr:g1.tk r=true/\g1.ln r=0/\g1.ρ r=.slice none 0 0:=by rw[<-VL];simp[Gh.upd]
    have sZ : (A0 st.h r (.var sz 0 0)) o=.cells cs:=by rw[B6 _ _ _ _ ol,e0]
    obtain⟨g3,p1,p2⟩:=Pi m1 sZ ZW (new:=.slice (.ver r sz 0) []) (fun y hy=>by
     cases hy
     exact .ver _ r sz 0 [] _ (.snil _ _ _) (fun c hc=>by cases hc) (by unfold AQ;rw[Bj];simp) gr.1 (AE _) (fun _=>gr.2.2.symm))
    exact⟨_,g3,⟨p1,hS.le.trans (m2.trans p2),hS.dfs,hS.size,fun i=>(hS.slots i).le (m2.trans p2)⟩,hk⟩
   .exact hk.elim
  .exact hk.elim
 .exact hk.elim
def RfV(o k r sz:Nat)(gN:Cx)(P:Program)(N:Nat)(fn:Func)(σ:JA)(Q:AV->(Nat->HO)->Prop)(b rest:Code)(st:St):Prop :=
 vN st.h o k r sz fun h1 =>
  ∃(σF σr:JA) (H0 Hn:List (Nat×HO)) (rg s:Nat) (ps:Array Tmp) (G6 body:Code) (gf:Nat) (caps:List AV),
  b=.block rg (.rangeFunc (.tmp s) ps G6 body)/\(ED σF&&DU h1 0 0&&DA σF 0 0)=true/\FO σF h1=Ao H0 Af/\(Hd σr&&I3 σr H0)=true/\I3 σr Hn=true /\
  ren (CC σF) h1 (st.t s)=.clo gf caps /\
  (∀(l D:Nat) (f' : FuncId) (tm:Array Value),tm.size=N->Y5 P (fun g w=>w.heap[l]?=some (.loop (Iy f' tm ps G6 body D .ready))/\∀i,BM g w (AQ (Ao H0 Af)) (ren (CC σF) h1 (st.t i)) (tm.getD i undef)) σr gf
   (.v (.func (.yield l) #[] #[])::caps) (Ao H0 Af) fun _ h'=>h'=Ao Hn Af) /\
  EK N rest=true/\Pg [] body=false/\SC gN rest (Zx gN fn.results.toList σr fun r h'=>Q (ren (CC σ) (En σF 0 0 h1 h') (ren (Fq σF 0 0) h' r)) (FO σ (En σF 0 0 h1 h')))
   ⟨fun i=>ren (CC σF) h1 (st.t i),Ao Hn Af⟩
theorem gj (o k r sz : Nat) {f : Nat} {fn : Func} {c : Code} {args : List AV} {H : List (Nat × HO)} {Q : AV -> (Nat -> HO) -> Prop} (cx gN : Cx) (σ : JA) (hP : cx.P = P) (hT : CF P cx.T) (hP2 : gN.P = P) (hT2 : CF P gN.T) (hm : P.follows .mixedOrders = true) (hx : cx.ext = true) (rJ : gN.ext = true) (hf : P.funcs[f]? = some fn) (hn : (fn.name == "runtime.NumGoroutine") = false)
  (hb:fn.body=some c) (hN:args.length<=fn.ntmps) (hc:EK fn.ntmps c=true) (hσ:(Hd σ&&I3 σ H)=true) (n:Nat)
  (hk:oM cx n c (Zx cx fn.results.toList σ fun r h'=>∃r',CZ r r'/\Q r' h') (RfV o k r sz gN P fn.ntmps fn σ fun r h'=>∃r',CZ r r'/\Q r' h') ⟨Pw args,Ao H Af⟩)
  (hY:∀l σ g w,cx.yp l σ g w:=by exact fun _ _ _ _=>trivial) (hY2:∀l σ g w,gN.yp l σ g w:=by exact fun _ _ _ _=>trivial):A9 P f args (Ao H Af) Q:=by
 refine A9.mono (Q:=fun r h'=>∃r',CZ r r'/\Q r' h') ?_ fun _ _ ⟨r',s,q⟩=>⟨r',s,q⟩;simp only[Ae]at hσ;refine⟨⟨fn,hf,hn,by simp[hb]⟩,fun g w vals hs hv hI=>callsIn_wide.1 (callsIn_of_wp_marks (F:=Fence.wide) (n:=0) hf hb trivial ?_ rfl)⟩;have hE:Me cx (Ao H Af):=by unfold Me;rw[hx];exact fun i hi=>⟨(GK hσ.2 i hi).1,(GK hσ.2 i hi).2.1⟩
 have hS:SR fn.ntmps [] w g (Ao H Af) ⟨Pw args,Ao H Af⟩ g { tmps:=vals++Array.replicate (fn.ntmps-vals.size) undef,defers:=[] } w:=by
  refine⟨hI,.refl _ _ _,rfl,by simp[hs];omega,fun i=>?_⟩
  have:=Px (n:=fn.ntmps-vals.size) (args:=args) (vals:=vals.toList) (by simpa using hs) (fun i av x q1 q2=>hv i av x q1 (by simpa using q2)) i
  rw[CD,<-A3];rw[B5]at this;simpa using this
 refine oN hP hT hm hE (fun l σ _ _ w _ _ _=>hY l σ _ w) (fun e st g' a w' Dy hk hS=>?_) (fun b rest st g' a w' hk hS=>?_) n c hc hS hk
 .have out:iV cx st fn.results.toList σ (fun r h'=>∃r',CZ r r'/\Q r' h')->LeavesInM (Kt none) 0 P fn a.tmps (fun e w'=>∃v r h' g',e=Ending.returned v/\(∃r',CZ r r'/\Q r' h')/\BM g' w' (AQ h') r v/\DX w g (Ao H Af) h' g' w'/\Le (Ao H Af) g w h' g' w') a.defers .returning w':=by
   intro hk;obtain⟨v,q2,r,h',g2,q1,q3,q4,q5⟩:=fy hT hσ.1 hσ.2 hS hk;rw[hS.dfs];exact⟨v,q2,v,r,h',g2,rfl,q1,q3,q4,q5⟩
  cases e with
  |normal=>exact absurd rfl Dy
  |ret=>exact out hk
  |exit id=>exact hk.elim
 .obtain⟨h1,g',hS,hk⟩:=ub hS hk;obtain⟨σF,σr,H0,Hn,rg,s,ps,G6,body,gf,caps,rfl,k1,k2,k3,k4,k5,k6,k7,k9,k8⟩:=hk;have hσF:ED σF=true:=by simp only[Ae]at k1;exact k1.1.1
  obtain⟨Abh,zv⟩:=Yh hS.inv hσF;rw[k2]at zv;have Ox:∀i,BM (DM σF g') w' (AQ (Ao H0 Af)) (ren (CC σF) h1 (st.t i)) (a.tmps.getD i undef):=fun i=>by
   have:=(hS.slots i).ren Abh
   rwa [k2]at this
  refine Nl (Q:=fun r h'=>∃r',CZ (ren (CC σ) (En σF 0 0 h1 h') (ren (Fq σF 0 0) h' r)) r'/\Q r' (FO σ (En σF 0 0 h1 h'))) (C:=fun R'=>(∀e fS,R' e fS->(∃v r h' g',e=Ending.returned v/\(∃r',CZ r r'/\Q r' h')/\BM g' fS (AQ h') r v/\DX w g (Ao H Af) h' g' fS/\Le (Ao H Af) g w h' g' fS)) ->
   (Code.block rg (.rangeFunc (.tmp s) ps G6 body)).wpIn (Kt none) 0 P (Exit.then (rest.wpIn (Kt none) 0 P (bodyPostM (Kt none) 0 P fn (fun e fS=>∃v r h' g',e=Ending.returned v/\(∃r',CZ r r'/\Q r' h')/\BM g' fS (AQ h') r v/\DX w g (Ao H Af) h' g' fS/\Le (Ao H Af) g w h' g' fS))) (bodyPostM (Kt none) 0 P fn (fun e fS=>∃v r h' g',e=Ending.returned v/\(∃r',CZ r r'/\Q r' h')/\BM g' fS (AQ h') r v/\DX w g (Ao H Af) h' g' fS/\Le (Ao H Af) g w h' g' fS))) a w')
   (fun h k h2=>h fun e w r=>h2 _ _ (k _ _ r)) hS.inv (d:=0) (nn:=0) k1 (fun _ rD=>?_) (fun v r h' g2 w2 q1 q2 q3 q4=>?_) (fun _ _ h=>h)
  .rw[k2]at rD;exact uo gN hP2 hT2 hm rJ k3 k4 k5 k6 k7 k9 k8 hY2 hS.dfs hS.size zv Ox fun v r h' g5 w5 q1 q2 q3 q4=>rD _ _ ⟨v,r,h',g5,rfl,q1,q2,q3,q4⟩
  .obtain⟨hR,j1,j2⟩:=Py hσ.1 hσ.2 q2 (hS.le.trans q3);exact⟨v,_,_,_,rfl,q1,q4.ren hR,j1,j2⟩
end
end Go.Eng
namespace Go.Eng
open Go.Sort
end Go.Eng
namespace Go.Eng
end Go.Eng
namespace Go.Eng
open Go.Proofs
variable {P:Program}
theorem IY.lend{f:Nat}{sz:Nat}{es:List (List AV)}{vs:List Value}{x:Value}(hp:IY P f [.agg (.slice .none es::vs.map .v)] (.v x)) :
  A9 P f [.agg (.msl 1000 es.length::vs.map .v)] (Ao [(1000,.arr sz es)] Af) fun r h'=>r=.v x/\h'=Ao [(1000,.arr sz es)] Af:=by
 refine⟨hp.1,fun g w us hs hv hI=>?_⟩;have ho:Ep g w (AQ (Ao [(1000,.arr sz es)] Af)) 1000 (.arr sz es):=hI.objs 1000;have hl:∀r,(Ao [(1000,HO.arr sz es)] Af r).live->r=1000:=fun r hr=>by
  unfold Ao at hr;cases e:Nat.beq r 1000 with
  |true=>exact AK e
  |false=>rw[e]at hr;exact hr.elim
 obtain⟨t,hln,EM,w8⟩:=ho
 match us,hs with
 | ⟨[u]⟩,_ =>
 have h0:=hv 0 _ u rfl rfl;generalize hU:AQ (Ao [(1000,HO.arr sz es)] Af)=U at h0;generalize hc:AV.msl 1000 es.length::vs.map AV.v=cs at h0;cases h0 with
 |agg _ _ us h1 h2 h3 =>
  subst hc;have K8:0<us.size:=by rw[h1];simp
  have hm:=h3 0 _ us[0] rfl (A5 K8);generalize hy:us[0]=y at hm;cases hm with
  |msl _ _ _ a cap q1 q2 q3 q4 q5 =>
   have hρ:=q5 hln.symm
   -- the ghost in which the array is stable
   obtain⟨S1,lm,hS2,hR⟩:∃S1:Nat->Nat->Prop,(∀b o,g.S b o->S1 b o)/\(∀b o,S1 b o->b<w.heap.size)/\BM { g with S:=S1 } w Fw (.slice .none es) (.slice a es.length cap):=by
    rcases w8 with ⟨e1,e2,e3⟩ | ⟨b,LO,E,xs,e1,e2,e3,e4,e5,e6,e7⟩
    .subst e1;exact⟨g.S,fun _ _ h=>h,hI.slt,.snil _ _ _⟩
    .rw[e1]at hρ;cases hρ;have hK:EH g w { g with S:=fun c o=>g.S c o\/c=b } w:=fun c o h=>⟨.inl h,rfl,fun _ _ h=>h⟩
     refine⟨fun c o=>g.S c o\/c=b,fun _ _ h=>.inl h,fun c o h=>h.elim (hI.slt c o) fun h=>?_,?_⟩
     .subst h;exact(Bp.1 e4).1
     .exact BM.slice_row e4 EM e3 (e6.mono hK (fun _ h=>h) (fun _ h=>h.elim)) fun o _=>.inr rfl
   have hK:EH g w { g with S:=S1 } w:=fun c o h=>⟨lm _ _ h,rfl,fun _ _ h=>h⟩;have hA:BM { g with S:=S1 } w (AQ Af) (.agg (.slice .none es::vs.map .v)) (.agg us):=by
    refine .agg _ _ _ (by rw[h1];rfl) h2 fun i av z k1 k2=>?_
    match i,k1 with
    |0,k1 =>
     have:us[0]?=some us[0]:=A5 K8
     rw[this]at k2;cases k2;cases k1;rw[hy];exact hR.up _
    |i+1,k1 =>
     have k3:=h3 (i+1) av z k1 k2
     have:∃q,av=.v q:=by
      have k1' : (vs.map AV.v)[i]?=some av:=k1;rw[AG,AS]at k1';exact k1'.imp fun _ h=>h.2.symm
     obtain⟨q,rfl⟩:=this;rw[k3.v_eq];exact .v _ _
   have zv:DX w { g with S:=S1 } Af Af { g with S:=S1 } w :=
    ⟨rfl,rfl,rfl,Aj _,fun _ _ _=>rfl,hS2,fun _=>trivial,fun _ _ _ h=>h.elim,fun _ _ h=>h.elim,fun _ _ h=>.inl h,hI.glob.keep hK⟩
   refine(hp.2 { g with S:=S1 } w ⟨[Value.agg us]⟩ rfl (fun i av z k1 k2=>by
    match i,k1,k2 with
    |0,k1,k2=>cases k1;cases k2;exact hA) zv).mono ?_
   rintro e w' ⟨v,r,h',g',rfl,⟨rfl,rfl⟩,p1,p2,p3⟩
   have jL:∀b,b<w.heap.size->w'.heap[b]?=w.heap[b]?:=fun b hb=>p2.frame b hb fun _ h=>h.elim;have hKw:EH g w g w':=fun b o hS=>by
    have:=jL b (hI.slt b o hS)
    exact⟨hS,by simp[World.cell?,this],fun es ck h=>this.trans h⟩
   refine⟨v,.v x,_,g,rfl,⟨rfl,rfl⟩,by rw[p1.v_eq];exact .v _ _,?_,⟨.refl _ _,fun _ h=>h,hKw⟩⟩;refine⟨p2.os,p2.tape,p2.output,p2.size,fun b hb _=>jL b hb,fun b o h=>By (hI.slt b o h) p2.size,fun r=>?_,hI.inj,fun r b h1 h2=>?_,fun _ _ h=>.inl h,hI.glob.keep hKw⟩
   .exact(hI.objs r).same hKw (fun _ h=>h) (.refl _ _) rfl rfl rfl rfl fun b hb1 QA=>⟨jL b (hI.loc r b hb1 QA).1,fun _ h=>h⟩
   .exact⟨By (hI.loc r b h1 h2).1 p2.size,.inr ⟨r,h1,h2⟩⟩
end Go.Eng
namespace Go.Eng
section
variable {P:Program}
theorem Xu{i:Nat}(h:AQ Af i):False:=h rfl
theorem ZU{r i:Nat}{o:HO}(h:r≠i):Ao [(i,o)] Af r=.free:=by
 simp only[Ao,CW h,Ek];rfl
theorem bH{f sz:Nat}{n:Int}(hE:FQ P f)
  (h:∀w:World,Calls P f #[.slice none 0 0,.int .i64 n] w fun e w'=>∃(G:Nat) (cs:Array Value) (T:TypeId),e=.returned (.slice (some ⟨w.heap.size,0,none⟩) 0 G)/\cs.size=G*sz/\w'=w.drew.alloc (.cells cs T)) :
  A9 P f [nzA,.v (.int .i64 n)] Af fun r h'=>r=.slice (.id 2000 sz) []/\h'=Ao [(2000,.tok sz 0)] Af:=by
 refine⟨hE,fun g w us hs hv hI=>?_⟩;have hu:us=#[.slice none 0 0,.int .i64 n]:=by
  have h0:=hv 0 nzA (us[0]'(by simp only[Ak,At]at hs;omega)) rfl (A5 _);have h1:=hv 1 (.v (.int .i64 n)) (us[1]'(by simp only[Ak,At]at hs;omega)) rfl (A5 _);refine OS (by simpa using hs) fun i q1 q2=>?_
  match i,q1,q2 with
  |0,_,_=>exact h0.v_eq
  |1,_,_=>exact h1.v_eq
  |_+2,_,q2=>exact absurd q2 B0
 subst hu;refine(h w).mono ?_
 rintro e w' ⟨G,cs,T,rfl,hc,rfl⟩
 have EL:(w.drew.alloc (.cells cs T)).heap[w.heap.size]?=some (.cells cs T (0,0)):=GL w.drew _ rfl;have QV:∀b,b<w.heap.size->(w.drew.alloc (.cells cs T)).heap[b]?=w.heap[b]?:=fun b hb=>heap_alloc_old (w:=w.drew) _ hb;have EM:(w.drew.alloc (.cells cs T)).heap.size=w.heap.size+1:=World.size_alloc ..;obtain⟨g',Ta⟩:∃g' : Gh,g'=⟨fun r=>bif Nat.beq r 2000 then .slice (some ⟨w.heap.size,0,none⟩) 0 G else g.ρ r,fun r=>bif Nat.beq r 2000 then 0 else g.ln r,fun r=>bif Nat.beq r 2000 then true else g.tk r,fun r=>bif Nat.beq r 2000 then some w.heap.size else g.own r,g.S⟩:=⟨_,rfl⟩;have eS:g'.S=g.S:=by rw[Ta]
 have e1:g'.ρ 2000=.slice (some ⟨w.heap.size,0,none⟩) 0 G:=by rw[Ta];rfl
 have e2:g'.ln 2000=0:=by rw[Ta];rfl
 have e3:g'.tk 2000=true:=by rw[Ta];rfl
 have e4:g'.own 2000=some w.heap.size:=by rw[Ta];rfl
 have hK:EH g w g' (w.drew.alloc (.cells cs T)):=fun b o hb=>by
  have Dz:=hI.slt b o hb;exact⟨eS▸hb,by simp only[World.cell?,QV b Dz],fun es ck he=>(QV b Dz).trans he⟩
 have J5:∀r,(Ao [(2000,HO.tok sz 0)] Af r).live->r=2000:=fun r hr=>by
  by_cases e:r=2000
  .exact e
  .rw[ZU e]at hr;exact hr.elim
 refine⟨_,_,_,g',rfl,⟨rfl,rfl⟩,.tok _ 2000 sz [] _ (.snil _ _ _) B0 (fun q=>by cases q) e3 (by rw[e2];exact Aj _) (fun _=>e1.symm),⟨rfl,rfl,rfl,by rw[EM];omega,fun b hb _=>QV b hb,fun b o hs=>?_,fun r=>?_,fun r r' b h1 h2 _ _=>(J5 r h1).trans (J5 r' h2).symm,fun r b hr hb=>?_,fun b o hs=>.inl (eS▸hs),?_⟩,⟨fun i hi=>(Xu hi).elim,fun i hi=>(Xu hi).elim,hK⟩⟩
 .rw[EM]
  have:=hI.slt b o (eS▸hs);omega
 .by_cases e:r=2000
  .subst e;refine⟨e3,e2,_,G,e1,.inr ⟨AE _,w.heap.size,T,cs,0,rfl,e4,.of EL,by rw[hc];omega,fun o ho=>?_⟩⟩;rw[eS]at ho
   have:=hI.slt _ o ho;omega
  .rw[ZU e];trivial
 .obtain rfl:=J5 r hr;rw[e4]at hb;cases hb;exact⟨by rw[EM];omega,.inl (Aj _)⟩
 .have:=hI.glob.keep hK
  exact this
end
end Go.Eng
