/- Lemmas 17. -/
import Derived.Test.YtjhkbdgingfbaaaGreatDoorHA16
namespace Go.Eng
variable {args:List AV}{tm:Array Value}{fn:Func}{c:Code}(cx:Cx)(σ σy:HU)
section
variable {P:Program}{N:Nat}{w:World}{g:Gh}
theorem ka(o k r:Nat){H:List (Nat×HO)}(cx:Cx)(hP:cx.P=P)(hT:Ci P cx.T)(hm:P.follows .mixedOrders=true)(hx:cx.ext=true){σ:HU}(hσ:(E4 σ&&FH σ H)=true){fn:FuncId}{ps:Array Tmp}{Ew body:Code}{D l:Nat}{env:Nat->AV}{U:Nat->Prop}{Q:AV->(Nat->HO)->Prop}(rW:args.length=ps.toList.length)(hN:tm.size=N)(hpN:(ps.toList.all fun p=>Nat.blt p N)=true)(hca:DJ N Ew=true)(xE:DJ N body=true)(hU:∀i,U i->AN (Ag H Ad) i)(hk:NZ cx Ew (fun e st=>match e with | .normal=>NZ cx body (fun e st=>match e with | .normal=>rvK st.h o k r fun h'=>Q (.v (.bool true)) (Ft σ (NS h' cx.pl.fin)) | _=>False) st | _=>False) ⟨gV ps.toList args env,Ag H Ad⟩)(hY:∀l σ g w,cx.yp l σ g w:=by exact fun _ _ _ _=>trivial)(oQ:MB [] body=false:=by kernel_rfl) :
  G4 P (fun g w=>w.heap[l]?=some (.loop (Fs fn tm ps Ew body D .ready))/\∀i,Br g w U (env i) (tm.getD i undef)) l args (Ag H Ad) Q:=by
 simp only[Af]at hσ;intro g w vals hs hv hI ⟨hl,GN⟩;have Dx:l<w.heap.size:=(Be.1 hl).1;have hdl:∀s,VG (.loop (Fs fn tm ps Ew body D s))=true:=fun s=>by show(!MB [] body)=true;rw[oQ];rfl
 have hE:IU cx (Ag H Ad):=by unfold IU;rw[hx];exact fun i hi=>⟨(Fl hσ.2 i hi).1,(Fl hσ.2 i hi).2.1⟩
 have JH:∀r,((Ag H Ad) r).live->g.own r≠some l:=fun r hr e=>LB (hI.objs r) hr e hl (hdl _);have ZZ:∀(t0:Array Value),(ps.zip vals).foldl (fun tmps (p:Nat×Value)=>tmps.setIfInBounds p.1 p.2) t0=(ps.toList.zip vals.toList).foldl (fun t p=>t.setIfInBounds p.1 p.2) t0:=fun t0=>by
  rw[<-OY,Array.toList_zip]
 have hry:=run_yield (P:=P) (args:=vals) hl (by simp only[hs,rW,BB]);refine⟨fn,_,Ew,body,hry,roundIn_of_wpIn trivial ?_⟩;obtain⟨z1,z2⟩:=TY (U:=AN (Ag H Ad)) (ps:=ps.toList) (args:=args) (vals:=vals.toList) (tm:=tm) (env:=env) (by simpa using hs) rW (fun p hp=>by
  have:=(AP.1 hpN) p hp
  rw[hN];simpa using this) (fun i av x e1 e2=>hv i av x e1 (by simpa using e2)) (fun i=>(GN i).mono (.refl _ _) hU (.refl _ _))
 have hS0:SR N [] w g (Ag H Ad) ⟨gV ps.toList args env,Ag H Ad⟩ g { tmps:=(ps.zip vals).foldl (fun tmps (p:Nat×Value)=>tmps.setIfInBounds p.1 p.2) tm,defers:=[] } w:=by
  refine⟨hI,.refl _ _ _,rfl,?_,fun i=>?_⟩
  .rw[ZZ];exact z1.trans hN
  .rw[ZZ];exact z2 i
 refine KJ hP hT hm hE (fun l σ _ _ w _ _ _=>hY l σ _ w) (some l) Ew hca (fun e st1 g1 a1 w1 hq bH=>?_) hS0 hk;cases e with
 |exit _=>exact hq.elim
 |ret=>exact hq.elim
 |normal=>
  have kl:w1.heap[l]?=some (.loop (Fs fn tm ps Ew body D .ready)):=(bH.inv.frame l Dx JH).trans hl;refine⟨_,run_beginRound kl rfl,?_⟩;obtain⟨iS,sS⟩:=hI.put (n0:=w.heap.size) (x:=l) (o':=.loop (Fs fn tm ps Ew body D .busy)) hl (hdl _) (hdl _) (.inr rfl);have hlS:(w.putObj l (.loop (Fs fn tm ps Ew body D .busy))).heap[l]?=some (.loop (Fs fn tm ps Ew body D .busy)):=World.putObj_heap_same Dx;have qn:(w.putObj l (.loop (Fs fn tm ps Ew body D .busy))).heap.size=w.heap.size:=by simp[World.putObj]
  obtain⟨_,sB⟩:=iS.dullS (w':=w) (n0:=w.heap.size) (x:=l) ⟨rfl,rfl,rfl⟩ (by rw[qn];exact Ai _) (fun b _=>by
   by_cases e:b=l
   .subst e;exact .inr ⟨_,_,hlS,hl,hdl _,hdl _⟩
   .exact .inl (World.putObj_heap_other e).symm) (fun b _ Dv=>(World.putObj_heap_other Dv).symm)
  obtain⟨i2,s2⟩:=bH.inv.base.put (n0:=w.heap.size) (x:=l) (o':=.loop (Fs fn tm ps Ew body D .busy)) kl (hdl _) (hdl _) (.inr rfl);have S2:=(sB.trans (XB.of_inv bH.inv bH.le (Ai _))).trans s2;have Yl:(w1.putObj l (.loop (Fs fn tm ps Ew body D .busy))).heap[l]?=some (.loop (Fs fn tm ps Ew body D .busy)):=World.putObj_heap_same (Be.1 kl).1;have hI2:=i2.of_seg (by rw[qn];exact S2) (fun _=>Yl.trans hlS.symm);have hS2:SR N [] (w.putObj l (.loop (Fs fn tm ps Ew body D .busy))) g (Ag H Ad) st1 g1 a1 (w1.putObj l (.loop (Fs fn tm ps Ew body D .busy))):=⟨hI2,S2.le,bH.dfs,bH.size,fun i=>(bH.slots i).le s2.le⟩;refine KJ hP hT hm hE (fun l σ _ _ w _ _ _=>hY l σ _ w) (some l) body xE (fun e st3 g3 a3 w3 hq kf=>?_) hS2 hq;cases e with
  |exit _=>exact hq.elim
  |ret=>exact hq.elim
  |normal=>
   obtain⟨h3,g3',kf,hq⟩:=nS kf hq;have xY:w3.heap[l]?=some (.loop (Fs fn tm ps Ew body D .busy)):=(kf.inv.frame l (by rw[qn];exact Dx) JH).trans hlS;refine⟨.bool true,w3.putObj l (.loop (Fs fn tm ps Ew body D .ready)),run_endRound none xY,?_⟩;obtain⟨gf,vU,yv⟩:=Ku cx.pl.fin kf.inv;obtain⟨i4,s4⟩:=vU.base.put (n0:=w.heap.size) (x:=l) (o':=.loop (Fs fn tm ps Ew body D .ready)) xY (hdl _) (hdl _) (.inr rfl);have S4:=(sS.trans (XB.of_inv vU (kf.le.trans yv) (by rw[qn];exact Ai _))).trans s4;have hl4:(w3.putObj l (.loop (Fs fn tm ps Ew body D .ready))).heap[l]?=some (.loop (Fs fn tm ps Ew body D .ready)):=World.putObj_heap_same (Be.1 xY).1;have hI4:=i4.of_seg S4 (fun _=>hl4.trans hl.symm);obtain⟨_,j1,j2⟩:=JD hσ.1 hσ.2 hI4 S4.le;exact⟨.bool true,.v (.bool true),_,_,rfl,hq,.v _ _,j1,j2⟩
end
def vZ(h:Nat->HO)(o k r sz:Nat)(K:(Nat->HO)->Prop):Prop:=
 match h o with
 |.cells cs=>match JG cs k with
  |.v (.slice none 0 0)=>match h r with
   |.free=>K (AR (AR h r (.var sz 0 0)) o (.cells (EP cs k (.slice (.ver r sz 0) []))))
   |_=>False
  |_=>False
 |_=>False
section
variable {P:Program}{N:Nat}{ds:List Deferred}{w0:World}{g0:Gh}{h0:Nat->HO}{st:St}{g:Gh}{a:Act}{w:World}
theorem uG(hS:SR N ds w0 g0 h0 st g a w){o k r sz:Nat}{K:(Nat->HO)->Prop}(hk:vZ st.h o k r sz K):∃h' g',SR N ds w0 g0 h0 ⟨st.t,h'⟩ g' a w/\K h':=by
 unfold vZ at hk;split at hk
 .rename_i cs e0;split at hk
  .rename_i e1;split at hk
   .rename_i hf;have oV:o≠r:=fun e=>by rw[e,hf]at e0;cases e0
    have Wx:=JM cs k _ e1 B0
    obtain⟨m1,m2⟩:=hS.inv.upd r (.var sz 0 0) (.slice none 0 0) 0 true none g.S w none ⟨rfl,rfl,rfl,Ai _⟩ (fun _ _ _=>rfl) (fun b e=>by cases e) (fun _ _ h=>h) (fun _ _ h=>.inl h) (fun b o e=>by cases e) (fun b hh e=>by first | (cases e;done) | (exact absurd hh.2 B0)) B0
     (fun hu=>absurd hf hu) (fun _ _=>by
      obtain⟨u1,u2,u3,u4⟩:=Bq g r (.slice none 0 0) 0 true none g.S;exact⟨u3,u2,none,0,u1,.inl ⟨rfl,u4⟩⟩)
    generalize VL:g.upd r (.slice none 0 0) 0 true none g.S=g1 at m1 m2;have gr:g1.tk r=true/\g1.ln r=0/\g1.ρ r=.slice none 0 0:=by rw[<-VL];simp[Gh.upd]
    have ti : (AR st.h r (.var sz 0 0)) o=.cells cs:=by rw[BR _ _ _ _ oV,e0]
    obtain⟨g3,p1,p2⟩:=Pl m1 ti Wx (new:=.slice (.ver r sz 0) []) (fun y hy=>by
     cases hy
     exact .ver _ r sz 0 [] _ (.snil _ _ _) (fun c hc=>by cases hc) (by unfold AN;rw[A3];simp) gr.1 (AE _) (fun _=>gr.2.2.symm))
    exact⟨_,g3,⟨p1,hS.le.trans (m2.trans p2),hS.dfs,hS.size,fun i=>(hS.slots i).le (m2.trans p2)⟩,hk⟩
   .exact hk.elim
  .exact hk.elim
 .exact hk.elim
def RfV(o k r sz:Nat)(QD:Cx)(P:Program)(N:Nat)(fn:Func)(σ:HU)(Q:AV->(Nat->HO)->Prop)(b rest:Code)(st:St):Prop:=
 vZ st.h o k r sz fun h1=>
  ∃(σF σr:HU) (H0 Hn:List (Nat×HO)) (Qo s:Nat) (ps:Array Tmp) (Ew body:Code) (gf:Nat) (caps:List AV),
  b=.block Qo (.rangeFunc (.tmp s) ps Ew body)/\(Ef σF&&DC h1 0 0&&De σF 0 0)=true/\Ft σF h1=Ag H0 Ad/\(E4 σr&&FH σr H0)=true/\FH σr Hn=true /\
  ren (Cc σF) h1 (st.t s)=.clo gf caps /\
  (∀(l D:Nat) (f' : FuncId) (tm:Array Value),tm.size=N->NY P (fun g w=>w.heap[l]?=some (.loop (Fs f' tm ps Ew body D .ready))/\∀i,Br g w (AN (Ag H0 Ad)) (ren (Cc σF) h1 (st.t i)) (tm.getD i undef)) σr gf
   (.v (.func (.yield l) #[] #[])::caps) (Ag H0 Ad) fun _ h'=>h'=Ag Hn Ad) /\
  DJ N rest=true/\MB [] body=false/\NZ QD rest (VH QD fn.results.toList σr fun r h'=>Q (ren (Cc σ) (Ei σF 0 0 h1 h') (ren (Fv σF 0 0) h' r)) (Ft σ (Ei σF 0 0 h1 h')))
   ⟨fun i=>ren (Cc σF) h1 (st.t i),Ag Hn Ad⟩
theorem fZ (o k r sz : Nat){f : Nat}{args : List AV}{H : List (Nat × HO)}{Q : AV -> (Nat -> HO) -> Prop}(cx QD : Cx)(σ : HU)(hP : cx.P = P)(hT : Ci P cx.T)(hP2 : QD.P = P)(hT2 : Ci P QD.T)(hm : P.follows .mixedOrders = true)(hx : cx.ext = true)(kp : QD.ext = true)(hf : P.funcs[f]? = some fn)(hn : (fn.name == "runtime.NumGoroutine") = false)(hb:fn.body=some c)(hN:args.length<=fn.ntmps)(hc:DJ fn.ntmps c=true)(hσ:(E4 σ&&FH σ H)=true)(n:Nat)(hk:kM cx n c (VH cx fn.results.toList σ fun r h'=>∃r',EY r r'/\Q r' h') (RfV o k r sz QD P fn.ntmps fn σ fun r h'=>∃r',EY r r'/\Q r' h') ⟨MD args,Ag H Ad⟩)(hY:∀l σ g w,cx.yp l σ g w:=by exact fun _ _ _ _=>trivial)(hY2:∀l σ g w,QD.yp l σ g w:=by exact fun _ _ _ _=>trivial):Bb P f args (Ag H Ad) Q:=by
 refine Bb.mono (Q:=fun r h'=>∃r',EY r r'/\Q r' h') ?_ fun _ _ ⟨r',s,q⟩=>⟨r',s,q⟩;simp only[Af]at hσ;refine⟨⟨fn,hf,hn,by simp[hb]⟩,fun g w vals hs hv hI=>callsIn_wide.1 (callsIn_of_wp_marks (F:=Fence.wide) (n:=0) hf hb trivial ?_ rfl)⟩;have hE:IU cx (Ag H Ad):=by unfold IU;rw[hx];exact fun i hi=>⟨(Fl hσ.2 i hi).1,(Fl hσ.2 i hi).2.1⟩
 have hS:SR fn.ntmps [] w g (Ag H Ad) ⟨MD args,Ag H Ad⟩ g { tmps:=vals++Array.replicate (fn.ntmps-vals.size) undef,defers:=[] } w:=by
  refine⟨hI,.refl _ _ _,rfl,by simp[hs];omega,fun i=>?_⟩
  have:=MU (n:=fn.ntmps-vals.size) (args:=args) (vals:=vals.toList) (by simpa using hs) (fun i av x q1 q2=>hv i av x q1 (by simpa using q2)) i
  rw[Ce,<-AI];rw[BU]at this;simpa using this
 refine dU hP hT hm hE (fun l σ _ _ w _ _ _=>hY l σ _ w) (fun e st g' a w' Dv hk hS=>?_) (fun b rest st g' a w' hk hS=>?_) n c hc hS hk
 .have out:jk cx st fn.results.toList σ (fun r h'=>∃r',EY r r'/\Q r' h')->LeavesInM (In none) 0 P fn a.tmps (fun e w'=>∃v r h' g',e=Ending.returned v/\(∃r',EY r r'/\Q r' h')/\Br g' w' (AN h') r v/\Dr w g (Ag H Ad) h' g' w'/\Le (Ag H Ad) g w h' g' w') a.defers .returning w':=by
   intro hk;obtain⟨v,q2,r,h',g2,q1,q3,q4,q5⟩:=fq hT hσ.1 hσ.2 hS hk;rw[hS.dfs];exact⟨v,q2,v,r,h',g2,rfl,q1,q3,q4,q5⟩
  cases e with
  |normal=>exact absurd rfl Dv
  |ret=>exact out hk
  |exit id=>exact hk.elim
 .obtain⟨h1,g',hS,hk⟩:=uG hS hk;obtain⟨σF,σr,H0,Hn,Qo,s,ps,Ew,body,gf,caps,rfl,k1,k2,k3,k4,k5,k6,k7,k9,k8⟩:=hk;have hσF:Ef σF=true:=by simp only[Af]at k1;exact k1.1.1
  obtain⟨tw,xn⟩:=Ub hS.inv hσF;rw[k2]at xn;have GN:∀i,Br (CL σF g') w' (AN (Ag H0 Ad)) (ren (Cc σF) h1 (st.t i)) (a.tmps.getD i undef):=fun i=>by
   have:=(hS.slots i).ren tw
   rwa [k2]at this
  refine Lj (Q:=fun r h'=>∃r',EY (ren (Cc σ) (Ei σF 0 0 h1 h') (ren (Fv σF 0 0) h' r)) r'/\Q r' (Ft σ (Ei σF 0 0 h1 h'))) (C:=fun R'=>(∀e RH,R' e RH->(∃v r h' g',e=Ending.returned v/\(∃r',EY r r'/\Q r' h')/\Br g' RH (AN h') r v/\Dr w g (Ag H Ad) h' g' RH/\Le (Ag H Ad) g w h' g' RH)) ->
   (Code.block Qo (.rangeFunc (.tmp s) ps Ew body)).wpIn (In none) 0 P (Exit.then (rest.wpIn (In none) 0 P (bodyPostM (In none) 0 P fn (fun e RH=>∃v r h' g',e=Ending.returned v/\(∃r',EY r r'/\Q r' h')/\Br g' RH (AN h') r v/\Dr w g (Ag H Ad) h' g' RH/\Le (Ag H Ad) g w h' g' RH))) (bodyPostM (In none) 0 P fn (fun e RH=>∃v r h' g',e=Ending.returned v/\(∃r',EY r r'/\Q r' h')/\Br g' RH (AN h') r v/\Dr w g (Ag H Ad) h' g' RH/\Le (Ag H Ad) g w h' g' RH))) a w')
   (fun h k h2=>h fun e w r=>h2 _ _ (k _ _ r)) hS.inv (d:=0) (nn:=0) k1 (fun _ ai=>?_) (fun v r h' g2 w2 q1 q2 q3 q4=>?_) (fun _ _ h=>h)
  .rw[k2]at ai;exact uP QD hP2 hT2 hm kp k3 k4 k5 k6 k7 k9 k8 hY2 hS.dfs hS.size xn GN fun v r h' g5 w5 q1 q2 q3 q4=>ai _ _ ⟨v,r,h',g5,rfl,q1,q2,q3,q4⟩
  .obtain⟨hR,j1,j2⟩:=JD hσ.1 hσ.2 q2 (hS.le.trans q3);exact⟨v,_,_,_,rfl,q1,q4.ren hR,j1,j2⟩
end
section
variable {P:Program}{N:Nat}{w:World}{g:Gh}
theorem Qu{Y:Gh->World->Prop}{l:Nat}{f:Nat}{H0:List (Nat×HO)}{Q:AV->(Nat->HO)->Prop}(hP:cx.P=P)(hT:Ci P cx.T)(hm:P.follows .mixedOrders=true)(hx:cx.ext=true)(hf:P.funcs[f]?=some fn)(hn : (fn.name == "runtime.NumGoroutine") = false)(hb : fn.body = some c)(hN : args.length <= fn.ntmps)(hc : DJ fn.ntmps c = true)(hσ : (E4 σ && FH σ H0) = true)(hy:cx.yp=fun l' σ' g w=>l'=l->σ'=σy->Y g w)(Il:∀g w h' g' w',Dr w g (Ag H0 Ad) (Ag H0 Ad) g w->Dr w g (Ag H0 Ad) h' g' w'->Le (Ag H0 Ad) g w h' g' w'->Y g w->Y (CL σy g') w')(hk:NZ cx c (VH cx fn.results.toList σ Q) ⟨MD args,Ag H0 Ad⟩):Gb P Y f args (Ag H0 Ad) Q:=
 ⟨⟨fn,hf,hn,by simp[hb]⟩,fun g w vals hs hv hI hY=>PF cx σ hP hT hm hx hf hn hb hN hc hσ hk hs hv hI fun l' σ' h' g' w' _ q1 q2=>by
  rw[hy];intro _ e;subst e;exact Il g w h' g' w' hI q1 q2 hY⟩
theorem Gb.imp{Y:Gh->World->Prop}{f:Nat}{h0:Nat->HO}{Q Q' : AV->(Nat->HO)->Prop}(h:Gb P Y f args h0 Q)(hq:∀r h',Q r h'->Q' r h'):Gb P Y f args h0 Q':=
 ⟨h.1,fun g w vals a b c d=>(h.2 g w vals a b c d).mono fun _ _ ⟨v,r,h',g',e,q,k⟩=>⟨v,r,h',g',e,hq r h' q,k⟩⟩
theorem Gb.pre{Y Y' : Gh->World->Prop}{f:Nat}{h0:Nat->HO}{Q:AV->(Nat->HO)->Prop}(h:Gb P Y f args h0 Q)(hp:∀g w,Y' g w->Y g w):Gb P Y' f args h0 Q:=
 ⟨h.1,fun g w vals a b c d=>h.2 g w vals a b c (hp g w d)⟩
theorem iB{Y0 Y:Gh->World->Prop}{l:Nat}{f:Nat}{H0:List (Nat×HO)}{Q:AV->(Nat->HO)->Prop}(hP:cx.P=P)(hT:Ci P cx.T)(hm:P.follows .mixedOrders=true)(hx:cx.ext=true)(hf:P.funcs[f]?=some fn)(hn : (fn.name == "runtime.NumGoroutine") = false)(hb : fn.body = some c)(hN : args.length <= fn.ntmps)(hc : DJ fn.ntmps c = true)(hσ : (E4 σ && FH σ H0) = true)(hy:cx.yp=fun l' σ' g w=>l'=l->σ'=σy->Y g w)(tr:∀g w,Y0 (CL σ g) w->Y (CL σy g) w)(hk:NZ cx c (VH cx fn.results.toList σ Q) ⟨MD args,Ag H0 Ad⟩):NY P Y0 σ f args (Ag H0 Ad) Q:=
 ⟨⟨fn,hf,hn,by simp[hb]⟩,fun g w vals hs hv hI hp=>PF cx σ hP hT hm hx hf hn hb hN hc hσ hk hs hv hI fun l' σ' h' g' w' _ q1 q2=>by
  rw[hy];intro _ e;subst e;exact tr _ _ (hp h' g' w' q1 q2)⟩
theorem ra{σ σ' : HU}{U:Nat->Prop}(h:∀i,U i->GS σ' i=GS σ i){R:World->Prop}{env:Nat->AV} :
  ∀g w,(R w/\∀i,Br (CL σ g) w U (env i) (tm.getD i undef))->(R w/\∀i,Br (CL σ' g) w U (env i) (tm.getD i undef)):=fun g w ⟨h1,h2⟩=>
 ⟨h1,fun i=>(h2 i).mono (show EV (CL σ g) w (CL σ' g) w from fun b o hs=>⟨hs,rfl,fun _ _ e=>e⟩) (fun _ h=>h) fun j hj=>by
  have e:=h j hj;unfold CL;dsimp only;rw[e];exact⟨rfl,Ai _,fun _=>rfl,fun _=>rfl⟩⟩
end
end Go.Eng
namespace Go.Eng
open Go.Sort
end Go.Eng
namespace Go.Eng
variable {tm:Array Value}{ps:Array Tmp}{σ:HU}{Ew body:Code}{fn:Func}{ob:Obj}
abbrev U2(fn:FuncId)(tm:Array Value)(ps:Array Tmp)(Ew body:Code)(D Qo:Nat):Bool->Loop
 |true=>Fs fn tm ps Ew body D .ready
 |false=>{ Fs fn tm ps Ew body D .done with pending:=some (.exit Qo) }
section
variable {P:Program}{N:Nat}{ds:List Deferred}{w0 w:World}{g0 g:Gh}{h0 h:Nat->HO}
theorem Ti(hI:Dr w0 g0 h0 h g w){r l:Nat}{ob':Obj}(hr:h r=.raw l ob)(hb:sR ob'=true) :
  ∃g',Dr w0 g0 h0 (AR h r (.raw l ob')) g' (w.putObj l ob')/\Le h g w (AR h r (.raw l ob')) g' (w.putObj l ob'):=by
 have ho:=hI.objs r;rw[hr]at ho;obtain⟨t,a1,a2,_,a4⟩:=ho;have hl:(h r).live:=by rw[hr];trivial
 have Dx:l<w.heap.size:=(Be.1 a2).1;have D5:(w.putObj l ob').heap.size=w.heap.size:=by simp[World.putObj]
 obtain⟨m1,m2⟩:=hI.upd r (.raw l ob') (g.ρ r) (g.ln r) (g.tk r) (g.own r) g.S (w.putObj l ob') (some l) ⟨rfl,rfl,rfl,by rw[D5];exact Ai _⟩
  (fun k _ Dv=>World.putObj_heap_other fun e=>Dv (by rw[e])) (fun b e=>by cases e;exact⟨hl,a1⟩) (fun _ _ h=>h) (fun _ _ h=>.inl h) (fun b o e hs=>by cases e;exact absurd hs (a4 o))
  (fun b _ e=>⟨by rw[D5];exact(hI.loc r b hl e).1,.inl ⟨hl,e⟩⟩) (fun e=>by cases e) (fun _=>⟨rfl,Ai _,fun _=>rfl,fun _=>rfl⟩) (fun _ _=>by
   obtain⟨_,_,u3,u4⟩:=Bq g r (g.ρ r) (g.ln r) (g.tk r) (g.own r) g.S;exact⟨u3.trans t,u4.trans a1,World.putObj_heap_same Dx,hb,a4⟩)
 exact⟨_,m1,m2⟩
theorem U0(hI:Dr w0 g0 h0 h g w){r l:Nat}(hr:h r=.raw l ob):w.heap[l]?=some ob:=by
 have ho:=hI.objs r;rw[hr]at ho;exact ho.2.2.1
theorem j9(r0:Nat){H:List (Nat×HO)}(cx:Cx)(hP:cx.P=P)(hT:Ci P cx.T)(hm:P.follows .mixedOrders=true)(hx:cx.ext=true)(hσ:(E4 σ&&FH σ H)=true){fn:FuncId}{D l:Nat}{env:Nat->AV}{args:List AV}{U:Nat->Prop}{Q:AV->(Nat->HO)->Prop}(SH:Ag H Ad r0=.raw l (.loop (Fs fn tm ps Ew body D .ready)))(rW:args.length=ps.toList.length)(hN:tm.size=N)(hpN:(ps.toList.all fun p=>Nat.blt p N)=true)(hca:DJ N Ew=true)(xE:DJ N body=true)(hU:∀i,U i->AN (Ag H Ad) i)(hk:NZ cx Ew (fun e st=>match e with
   |.normal=>st.h r0=.raw l (.loop (Fs fn tm ps Ew body D .ready))/\NZ cx body (fun e st=>match e with
    |.normal=>st.h r0=.raw l (.loop (Fs fn tm ps Ew body D .busy))/\Q (.v (.bool true)) (Ft σ (NS (AR st.h r0 (.raw l (.loop (U2 fn tm ps Ew body D 0 true)))) cx.pl.fin))
    |.exit id=>st.h r0=.raw l (.loop (Fs fn tm ps Ew body D .busy))/\Q (.v (.bool false)) (Ft σ (NS (AR st.h r0 (.raw l (.loop (U2 fn tm ps Ew body D id false)))) cx.pl.fin))
    |.ret=>False) ⟨st.t,AR st.h r0 (.raw l (.loop (Fs fn tm ps Ew body D .busy)))⟩
   |_=>False) ⟨gV ps.toList args env,Ag H Ad⟩)(hY:∀l σ g w,cx.yp l σ g w:=by exact fun _ _ _ _=>trivial)(oQ:MB [] body=true:=by kernel_rfl) :
  G4 P (fun g w=>∀i,Br g w U (env i) (tm.getD i undef)) l args (Ag H Ad) Q:=by
 simp only[Af]at hσ;intro g w vals hs hv hI GN;have hl:=U0 hI SH;have hE:IU cx (Ag H Ad):=by unfold IU;rw[hx];exact fun i hi=>⟨(Fl hσ.2 i hi).1,(Fl hσ.2 i hi).2.1⟩
 have ZZ:∀(t0:Array Value),(ps.zip vals).foldl (fun tmps (p:Nat×Value)=>tmps.setIfInBounds p.1 p.2) t0=(ps.toList.zip vals.toList).foldl (fun t p=>t.setIfInBounds p.1 p.2) t0:=fun t0=>by
  rw[<-OY,Array.toList_zip]
 have hry:=run_yield (P:=P) (args:=vals) hl (by simp only[hs,rW,BB]);refine⟨fn,_,Ew,body,hry,roundIn_of_wpIn trivial ?_⟩;obtain⟨z1,z2⟩:=TY (U:=AN (Ag H Ad)) (ps:=ps.toList) (args:=args) (vals:=vals.toList) (tm:=tm) (env:=env) (by simpa using hs) rW (fun p hp=>by
  have:=(AP.1 hpN) p hp
  rw[hN];simpa using this) (fun i av x e1 e2=>hv i av x e1 (by simpa using e2)) (fun i=>(GN i).mono (.refl _ _) hU (.refl _ _))
 have hS0:SR N [] w g (Ag H Ad) ⟨gV ps.toList args env,Ag H Ad⟩ g { tmps:=(ps.zip vals).foldl (fun tmps (p:Nat×Value)=>tmps.setIfInBounds p.1 p.2) tm,defers:=[] } w:=by
  refine⟨hI,.refl _ _ _,rfl,?_,fun i=>?_⟩
  .rw[ZZ];exact z1.trans hN
  .rw[ZZ];exact z2 i
 refine KJ hP hT hm hE (fun l σ _ _ w _ _ _=>hY l σ _ w) (some l) Ew hca (fun e st1 g1 a1 w1 hq bH=>?_) hS0 hk;cases e with
 |exit _=>exact hq.elim
 |ret=>exact hq.elim
 |normal=>
  obtain⟨eO,hq⟩:=hq;refine⟨_,run_beginRound (U0 bH.inv eO) rfl,?_⟩;obtain⟨g2,i2,s2⟩:=Ti bH.inv eO (ob':=.loop (Fs fn tm ps Ew body D .busy)) oQ;have hS2:SR N [] w g (Ag H Ad) ⟨st1.t,AR st1.h r0 (.raw l (.loop (Fs fn tm ps Ew body D .busy)))⟩ g2 a1 (w1.putObj l (.loop (Fs fn tm ps Ew body D .busy))):=
   ⟨i2,bH.le.trans s2,bH.dfs,bH.size,fun i=>(bH.slots i).le s2⟩
  refine KJ hP hT hm hE (fun l σ _ _ w _ _ _=>hY l σ _ w) (some l) body xE (fun e st3 g3 a3 w3 hq kf=>?_) hS2 hq;cases e with
  |ret=>exact hq.elim
  |normal=>
   obtain⟨yi,hq⟩:=hq;refine⟨.bool true,_,run_endRound none (U0 kf.inv yi),?_⟩;obtain⟨g4,i4,s4⟩:=Ti kf.inv yi (ob':=.loop (Fs fn tm ps Ew body D .ready)) oQ;obtain⟨gf,vU,yv⟩:=Ku cx.pl.fin i4;obtain⟨_,j1,j2⟩:=JD hσ.1 hσ.2 vU ((kf.le.trans s4).trans yv);exact⟨.bool true,.v (.bool true),_,_,rfl,hq,.v _ _,j1,j2⟩
  |exit id=>
   obtain⟨yi,hq⟩:=hq;refine⟨.bool false,_,run_endRound (some (.exit id)) (U0 kf.inv yi),?_⟩;obtain⟨g4,i4,s4⟩:=Ti kf.inv yi (ob':=.loop (U2 fn tm ps Ew body D id false)) oQ;obtain⟨gf,vU,yv⟩:=Ku cx.pl.fin i4;obtain⟨_,j1,j2⟩:=JD hσ.1 hσ.2 vU ((kf.le.trans s4).trans yv);exact⟨.bool false,.v (.bool false),_,_,rfl,hq,.v _ _,j1,j2⟩
theorem iu(r:Nat)(o o' : HO)(H:List (Nat×HO)):AR (Ag ((r,o)::H) Ad) r o'=Ag ((r,o')::H) Ad:=funext fun i=>by
 show(bif Nat.beq i r then o' else bif Nat.beq i r then o else Ag H Ad i)=bif Nat.beq i r then o' else Ag H Ad i;cases Nat.beq i r<;>rfl
theorem Ww(r:Nat)(o:HO)(H:List (Nat×HO)):Ag ((r,o)::H) Ad r=o:=by
 show(bif Nat.beq r r then o else Ag H Ad r)=o;rw[CU];rfl
theorem uO(r0:Nat){Qo s:Nat}{rest:Code}(cx:Cx)(hP:cx.P=P)(hT:Ci P cx.T)(hm:P.follows .mixedOrders=true)(hx:cx.ext=true){H0 Hn:List (Nat×HO)}(SH:Ag H0 Ad r0=.free)(hσ:∀o,(E4 σ&&FH σ ((r0,o)::H0))=true)(yr:∀o,FH σ ((r0,o)::Hn)=true){env:Nat->AV}{gf:Nat}{caps:List AV}(hF:env s=.clo gf caps){Qv:AV->Prop}(hIT:∀(l D:Nat) (f' : FuncId) (tm:Array Value),tm.size=N->NY P (fun g w=>∀i,Br g w (AN (Ag ((r0,.raw l (.loop (Fs f' tm ps Ew body D .ready)))::H0) Ad)) (env i) (tm.getD i undef)) σ gf
   (.v (.func (.yield l) #[] #[])::caps) (Ag ((r0,.raw l (.loop (Fs f' tm ps Ew body D .ready)))::H0) Ad) fun _ h'=>∃b,h'=Ag ((r0,.raw l (.loop (U2 f' tm ps Ew body D Qo b)))::Hn) Ad)(hcr:DJ N rest=true)(oQ:MB [] body=true)(mu:∀o,NZ cx rest (ct cx fn.results.toList Qv) ⟨env,Ag ((r0,o)::Hn) Ad⟩)(hY:∀l σ g w,cx.yp l σ g w){a:Act}(ha:a.defers=[])(hN:a.tmps.size=N)(hI:Dr w g (Ag H0 Ad) (Ag H0 Ad) g w)(GN:∀i,Br g w (AN (Ag H0 Ad)) (env i) (a.tmps.getD i undef)){R:Ending->World->Prop}(hR:∀v r h' g' w',Qv r->Br g' w' Fq r v->Dr w g (Ag H0 Ad) h' g' w'->Le (Ag H0 Ad) g w h' g' w'->R (.returned v) w') :
  (Code.block Qo (.rangeFunc (.tmp s) ps Ew body)).wpIn (In none) 0 P (Exit.then (rest.wpIn (In none) 0 P (bodyPostM (In none) 0 P fn R)) (bodyPostM (In none) 0 P fn R)) a w:=by
 have hσ1:E4 σ=true/\∀o,FH σ ((r0,o)::H0)=true:=⟨(Bool.and_eq_true_iff.1 (hσ .free)).1,fun o=>(Bool.and_eq_true_iff.1 (hσ o)).2⟩;refine wpIn_block (wpIn_rangeFunc fun f' _=>?_);have hs:=GN s;rw[hF]at hs;have ZT:a.eval (.tmp s)=a.tmps.getD s undef:=rfl;generalize hfv:a.tmps.getD s undef=fv at hs ZT;cases hs with
 |clo _ _ _ lb D5 KO=>
 obtain⟨i0,s0⟩:=hI.allocS (n0:=w.heap.size) (x:=w.heap.size) (.deferred (some [])) (Ai _);obtain⟨rec,QP⟩:∃rec,rec=Fs f' a.tmps ps Ew body w.heap.size .ready:=⟨_,rfl⟩;have ud:(w.alloc (.deferred (some []))).heap.size=w.heap.size+1:=World.size_alloc ..;obtain⟨W1,hW⟩:∃W1,W1=(w.alloc (.deferred (some []))).alloc (.loop rec):=⟨_,rfl⟩;have uc:W1.heap.size=w.heap.size+2:=by rw[hW,World.size_alloc,World.size_alloc]
 have hl:W1.heap[w.heap.size+1]?=some (.loop rec):=by
  rw[hW]
  have:=World.alloc_heap_new (w.alloc (.deferred (some []))) (.loop rec)
  rwa [World.size_alloc]at this
 have hD:W1.heap[w.heap.size]?=some (.deferred (some [])):=by
  rw[hW,heap_alloc_old _ _ (by rw[World.size_alloc];omega)];exact World.alloc_heap_new w _
 obtain⟨i1,e1⟩:=i0.upd r0 (.raw (w.heap.size+1) (.loop rec)) (.pointer none) (g.ln r0) false (some (w.heap.size+1)) g.S W1 none (by rw[hW];exact⟨rfl,rfl,rfl,by simp only[World.size_alloc];omega⟩)
  (fun k hk _=>by rw[hW];exact heap_alloc_old _ _ hk) (fun b e=>by cases e) (fun _ _ h=>h) (fun _ _ h=>.inl h) (fun b o e=>by cases e) (fun b _ e=>by cases e;exact⟨by rw[uc];omega,.inr (by rw[ud];exact Ai _)⟩) (fun e=>by cases e) (fun hu=>absurd SH hu) (fun _ _=>by
   obtain⟨_,_,u3,u4⟩:=Bq g r0 (.pointer none) (g.ln r0) false (some (w.heap.size+1)) g.S;exact⟨u3,u4,hl,by rw[QP];exact oQ,fun o hs=>by have:=i0.slt _ _ hs;rw[ud]at this;omega⟩)
 generalize kh:g.upd r0 (.pointer none) (g.ln r0) false (some (w.heap.size+1)) g.S=g2 at i1 e1;have eh1:AR (Ag H0 Ad) r0 (.raw (w.heap.size+1) (.loop rec))=Ag ((r0,.raw (w.heap.size+1) (.loop rec))::H0) Ad:=rfl;rw[eh1]at i1 e1;have S1:=s0.trans (XB.of_inv i1 e1 (by rw[ud];omega));have i2:=i1.base;have JH:∀b ob,W1.heap[b]?=some ob->VG ob=true->∀r,((Ag ((r0,.raw (w.heap.size+1) (.loop rec))::H0) Ad) r).live->g2.own r≠some b:=fun b ob hb hd r hr e=>LB (i2.objs r) hr e hb hd;have hit:=hIT (w.heap.size+1) w.heap.size f' a.tmps hN;rw[<-QP]at hit
 refine⟨w.heap.size+1,[{ target:=.collected w.heap.size,args:=#[] }],W1,{ target:=.fn (.func gf) lb,args:=#[.func (.yield (w.heap.size+1)) #[] #[]] },W1,gf,
  #[.func (.yield (w.heap.size+1)) #[] #[]]++lb,W1,?_,?_,fun _ _=>trivial,?_,fun e=>(by cases e),?_⟩
 .rw[hW,QP];exact run_enterLoop_outer _ _ _ _ _
 .simp only[resolve,ZT];simp[go_sem]
 .simp only[invoke];rw[Gk hit.1]
 refine callsIn_wide.2 ((hit.2 g2 W1 _ (by simp[D5];omega) (fun i av x e1 e2=>?_) i2 (fun h' g' w' q1 q2=>?_)).mono ?_)
 .cases i with
  |zero=>
   simp only[A4,Bk]at e1;rw[Fg]at e2
   have:x=.func (.yield (w.heap.size+1)) #[] #[]:=(BW e2).symm
   subst e1;subst this;exact .v _ _
  |succ i=>
   have e2:lb[i]?=some x:=by rw[<-e2,Fg];simp
   exact(KO i av x (by simpa using e1) e2).le S1.le
 .obtain⟨_,_,j2⟩:=JD hσ1.1 (hσ1.2 _) q1 q2;exact fun i=>((GN i).le S1.le).mono j2.keeps (fun _ h=>h) j2.gh
 rintro e w2 ⟨v,r,h',g3,rfl,⟨b,rfl⟩,_,q3,q4⟩
 have Yl:=U0 q3 (Ww _ _ _);have hD2:w2.heap[w.heap.size]?=some (.deferred (some [])):=(q3.frame _ ch (JH _ _ hD rfl)).trans hD;have x8:(U2 f' a.tmps ps Ew body w.heap.size Qo b).state≠.busy:=by cases b<;>(intro e;cases e)
 obtain⟨g4,i4,s4⟩:=Ti q3 (Ww _ _ _) (ob':=.loop { U2 f' a.tmps ps Ew body w.heap.size Qo b with state:=.exhausted }) (by cases b<;>exact oQ)
 rw[iu]at i4 s4;generalize hex:HO.raw (w.heap.size+1) (.loop { U2 f' a.tmps ps Ew body w.heap.size Qo b with state:=.exhausted })=ex at i4 s4;have S4:=S1.trans (XB.of_inv i4 (q4.trans s4) (by rw[uc];omega));have CI:=run_endLoop (P:=P) Yl x8;generalize hW4:w2.putObj (w.heap.size+1) (.loop { U2 f' a.tmps ps Ew body w.heap.size Qo b with state:=.exhausted })=w4 at i4 s4 S4 CI;have tv:w4.heap[w.heap.size]?=some (.deferred (some [])):=by rw[<-hW4,World.putObj_heap_other ch];exact hD2
 have i5:=i4.base;have hE:IU cx (Ag ((r0,ex)::Hn) Ad):=by unfold IU;rw[hx];exact fun i hi=>⟨(Fl (yr ex) i hi).1,(Fl (yr ex) i hi).2.1⟩
 have hS4:SR N [{ target:=.collected w.heap.size,args:=#[] }] w4 g4 (Ag ((r0,ex)::Hn) Ad) ⟨env,Ag ((r0,ex)::Hn) Ad⟩ g4 { a with defers:=[{ target:=.collected w.heap.size,args:=#[] }]++a.defers } w4:=
  ⟨i5,.refl _ _ _,by simp[ha],hN,fun i=>(GN i).le S4.le⟩
 have main:rest.wpIn (In none) 0 P (bodyPostM (In none) 0 P fn R) { a with defers:=[{ target:=.collected w.heap.size,args:=#[] }]++a.defers } w4:=by
  refine KJ hP hT hm hE (fun l σ _ _ w _ _ _=>hY l σ _ w) none rest hcr (fun e uY g5 a5 w5 hq Yj=>?_) hS4 (mu ex);have fin:jl cx uY fn.results.toList Qv->LeavesInM (In none) 0 P fn a5.tmps R a5.defers .returning w5:=by
   intro hk;have xm:w5.heap[w.heap.size]?=some (.deferred (some [])):=(Yj.inv.frame _ (Be.1 tv).1 (fun r hr e=>LB (i5.objs r) hr e tv rfl)).trans tv;rw[Yj.dfs];refine⟨by simp,.inl ⟨w.heap.size,_,rfl,run_takeDeferred xm,?_⟩⟩;obtain⟨i6,s6⟩:=Yj.inv.base.put (n0:=w.heap.size) (x:=w.heap.size) (o':=.deferred none) xm rfl rfl (.inr rfl);have hS6:SR N [{ target:=.collected w.heap.size,args:=#[] }] (w5.putObj w.heap.size (.deferred none)) g5 uY.h uY g5 a5 (w5.putObj w.heap.size (.deferred none)):=⟨i6,.refl _ _ _,Yj.dfs,Yj.size,fun i=>(Yj.slots i).le s6.le⟩;obtain⟨g7,r,v,h7,k1,k2,k3,k4,k5⟩:=YF hT hS6 hk;have S7:=((S4.trans (XB.of_inv Yj.inv Yj.le (A9 (Ai _) S4.size))).trans s6).trans (XB.of_inv k3 k4 (A9 (Ai _) ((S4.trans (XB.of_inv Yj.inv Yj.le (A9 (Ai _) S4.size))).trans s6).size));exact⟨v,k2,hR v r h7 g7 _ k1 k5 (k3.base.of_seg S7 fun h=>absurd h (Nat.lt_irrefl _)) S7.le⟩
  cases e with
  |normal=>exact fin hq
  |ret=>exact fin hq
  |exit id=>exact hq.elim
 refine⟨_,w4,CI,?_⟩;cases b with
 |true=>exact main
 |false=>
  refine wpIn_exit ?_;show Exit.inBlock Qo _ (.exit Qo) _ _;simp only[Exit.inBlock,OD];exact main
def RfB(r0:Nat)(QD:Cx)(P:Program)(N:Nat)(fn:Func)(res:AV)(b rest:Code)(st:St):Prop:=
 ∃(σF σ:HU) (H0 Hn:List (Nat×HO)) (Qo s:Nat) (ps:Array Tmp) (Ew body:Code) (gf:Nat) (caps:List AV),
  b=.block Qo (.rangeFunc (.tmp s) ps Ew body)/\(Ef σF&&DC st.h 0 0&&De σF 0 0)=true/\Ft σF st.h=Ag H0 Ad/\Ag H0 Ad r0=.free/\(∀o,(E4 σ&&FH σ ((r0,o)::H0))=true)/\(∀o,FH σ ((r0,o)::Hn)=true) /\
  ren (Cc σF) st.h (st.t s)=.clo gf caps /\
  (∀(l D:Nat) (f' : FuncId) (tm:Array Value),tm.size=N->NY P (fun g w=>∀i,Br g w (AN (Ag ((r0,.raw l (.loop (Fs f' tm ps Ew body D .ready)))::H0) Ad)) (ren (Cc σF) st.h (st.t i)) (tm.getD i undef)) σ gf
   (.v (.func (.yield l) #[] #[])::caps) (Ag ((r0,.raw l (.loop (Fs f' tm ps Ew body D .ready)))::H0) Ad) fun _ h'=>∃b,h'=Ag ((r0,.raw l (.loop (U2 f' tm ps Ew body D Qo b)))::Hn) Ad) /\
  DJ N rest=true/\MB [] body=true/\(∀o,NZ QD rest (ct QD fn.results.toList fun r=>EY r res) ⟨fun i=>ren (Cc σF) st.h (st.t i),Ag ((r0,o)::Hn) Ad⟩)
theorem ju (r0 : Nat){f : Nat}{c : Code}{args : List AV}{res : AV}(cx QD : Cx)(hP : cx.P = P)(hT : Ci P cx.T)(hP2 : QD.P = P)(hT2 : Ci P QD.T)(hm : P.follows .mixedOrders = true)(hx : cx.ext = false)(kp : QD.ext = true)(hf : P.funcs[f]? = some fn)(hn : (fn.name == "runtime.NumGoroutine") = false)(hb:fn.body=some c)(hN:args.length<=fn.ntmps)(hc:DJ fn.ntmps c=true)(n:Nat)(aj:∀g h,ren g h res=res/\strT h res=res)(hk:kM cx n c (ct cx fn.results.toList fun r=>EY r res) (RfB r0 QD P fn.ntmps fn res) ⟨MD args,Ad⟩)(hY:∀l σ g w,cx.yp l σ g w:=by exact fun _ _ _ _=>trivial)(hY2:∀l σ g w,QD.yp l σ g w:=by exact fun _ _ _ _=>trivial):Lc P f args res:=by
 refine⟨⟨fn,hf,hn,by simp[hb]⟩,fun g w vals hs hv hI=>callsIn_wide.1 (callsIn_of_wp_marks (F:=Fence.wide) (n:=0) hf hb trivial ?_ rfl)⟩;have hU:AN Ad=Fq:=by funext i;unfold AN Fq Ad;simp
 have hS:SR fn.ntmps [] w g Ad ⟨MD args,Ad⟩ g { tmps:=vals++Array.replicate (fn.ntmps-vals.size) undef,defers:=[] } w:=by
  refine⟨hI,.refl _ _ _,rfl,by simp[hs];omega,fun i=>?_⟩
  have:=MU (n:=fn.ntmps-vals.size) (args:=args) (vals:=vals.toList) (by simpa using hs) (fun i av x q1 q2=>hv i av x q1 (by simpa using q2)) i
  rw[Ce,<-AI];rw[BU]at this;simpa using this
 refine dU hP hT hm (by unfold IU;rw[hx];exact fun _=>rfl) (fun l σ _ _ w _ _ _=>hY l σ _ w) (fun e st g' a w' Dv hk hS=>?_) (fun b rest st g' a w' hk hS=>?_) n c hc hS hk
 .have out:jl cx st fn.results.toList (fun r=>EY r res)->LeavesInM (In none) 0 P fn a.tmps (fun e w'=>∃v r h' g',e=Ending.returned v/\(r=res/\h'=Ad)/\Br g' w' (AN h') r v/\Dr w g Ad h' g' w'/\Le Ad g w h' g' w') a.defers .returning w':=by
   intro hk;obtain⟨g2,r,v,h',q1,q2,q3,q4,q5⟩:=YF hT hS hk;rw[hS.dfs];exact⟨v,q2,v,res,Ad,g2,rfl,⟨rfl,rfl⟩,by rw[hU];exact q1 _ _ _ _ q5,Dr.toFree (st:=⟨st.t,h'⟩) q3,⟨fun i hi=>absurd rfl hi,fun i hi=>absurd rfl hi,q4.keeps⟩⟩
  cases e with
  |normal=>exact absurd rfl Dv
  |ret=>exact out hk
  |exit id=>exact hk.elim
 .obtain⟨σF,σ,H0,Hn,Qo,s,ps,Ew,body,gf,caps,rfl,k1,k2,k0,k3,k4,k5,k6,k7,k9,k8⟩:=hk;have hσF:Ef σF=true:=by simp only[Af]at k1;exact k1.1.1
  obtain⟨tw,xn⟩:=Ub hS.inv hσF;rw[k2]at xn;have GN:∀i,Br (CL σF g') w' (AN (Ag H0 Ad)) (ren (Cc σF) st.h (st.t i)) (a.tmps.getD i undef):=fun i=>by
   have:=(hS.slots i).ren tw
   rwa [k2]at this
  refine Lj (Q:=fun r h'=>r=res) (C:=fun R'=>(∀e RH,R' e RH->(∃v r h' g',e=Ending.returned v/\(r=res/\h'=Ad)/\Br g' RH (AN h') r v/\Dr w g Ad h' g' RH/\Le Ad g w h' g' RH)) ->
   (Code.block Qo (.rangeFunc (.tmp s) ps Ew body)).wpIn (In none) 0 P (Exit.then (rest.wpIn (In none) 0 P (bodyPostM (In none) 0 P fn (fun e RH=>∃v r h' g',e=Ending.returned v/\(r=res/\h'=Ad)/\Br g' RH (AN h') r v/\Dr w g Ad h' g' RH/\Le Ad g w h' g' RH))) (bodyPostM (In none) 0 P fn (fun e RH=>∃v r h' g',e=Ending.returned v/\(r=res/\h'=Ad)/\Br g' RH (AN h') r v/\Dr w g Ad h' g' RH/\Le Ad g w h' g' RH))) a w')
   (fun h k h2=>h fun e w r=>h2 _ _ (k _ _ r)) hS.inv (d:=0) (nn:=0) k1 (fun _ ai=>?_) (fun v r h' g2 w2 q1 q2 q3 q4=>?_) (fun _ _ h=>h)
  .rw[k2]at ai;exact uO r0 QD hP2 hT2 hm kp k0 k3 k4 k5 k6 k7 k9 k8 hY2 hS.dfs hS.size xn GN fun v r h' g5 w5 q1 q2 q3 q4=>ai _ _ ⟨v,res,h',g5,rfl,rfl,(q1 _ _ _ _ q2).up _,q3,q4⟩
  .subst q1;rw[(aj _ _).1]at q4;have q5:=Br.strT q2.objs q4;rw[(aj (fun _=>none) _).2]at q5;exact⟨v,r,Ad,g2,rfl,⟨rfl,rfl⟩,by rw[hU];exact q5,Dr.toFree (st:=⟨st.t,_⟩) q2,⟨fun i hi=>absurd rfl hi,fun i hi=>absurd rfl hi,(hS.le.trans q3).keeps⟩⟩
theorem nL{H:List (Nat×HO)}(hσ:(E4 σ&&FH σ H)=true){U:Nat->Prop}(hU:∀i,U i->AN (Ag H Ad) i){env:Nat->AV} :
  ∀g w h' g' w',Dr w g (Ag H Ad) (Ag H Ad) g w->Dr w g (Ag H Ad) h' g' w'->Le (Ag H Ad) g w h' g' w' ->
   (∀i,Br g w U (env i) (tm.getD i undef))->∀i,Br (CL σ g') w' U (env i) (tm.getD i undef):=by
 intro g w h' g' w' _ q1 q2 GN;simp only[Af]at hσ;obtain⟨_,_,j2⟩:=JD hσ.1 hσ.2 q1 q2;exact fun i=>(GN i).mono j2.keeps (fun _ h=>h) fun r hr=>j2.gh r (hU r hr)
end
end Go.Eng
namespace Go.Eng
open Go.Proofs
variable {P:Program}
end Go.Eng
