/- Lemmas 12. -/
import Derived.Test.YtkmnnpmneamgoaaGreatDoorPA11
import Derived.ReadAgain
import Derived.RowKit
import Derived.Test.YtkmnnpmneamgoaaGreatDoorProg
import Derived.Sort.Grow
import Derived.Shelf.GgSortFunc.InsertionK
namespace Go.Eng
variable {fn:Func}{c:Code}{K:AV->Prop}{f:Nat}(cx:Cx)(r:AV)(σ:HJ)
section
variable {P:Program}{N:Nat}{ds:List Deferred}{w0:World}{g0:Gh}{h0:Nat->HO}{st:St}{g:Gh}{a:Act}{w:World}
theorem ZA{T:G0}(hT:BY P T){h:Nat->HO}(ho:∀r,DO g w (Az h) r (h r)){t:Nat}{p:AV}{vp:Value}(hp:AY g w (Az h) p vp)(hk:Jw T h t p K) :
  ∃ad,(asAddr vp).run P w=.ok ad w/\Br P h g w (loadVar t ad) K:=by
 obtain⟨x,av,h1,h2,h3⟩:=We ho hT hp hk;have fin:∀b off,vp=.pointer (some ⟨b,off,none⟩)->∃ad,(asAddr vp).run P w=.ok ad w/\Br P h g w (loadVar t ad) K:=by
  rintro b off rfl
  refine⟨⟨b,off,none⟩,by simp[asAddr],x,av,?_,h2,h3⟩
  grind [Instr.loadAt,Instr.sureAddr]
 unfold Jw at hk;split at hk
 all_goals grind [cases AY]
def cK(tmps:Array Value):ResultVar->Sem Value
 |.tmp t=>pure (tmps.getD t undef)
 |.cell ad t=>do loadVar t (<-asAddr (tmps.getD ad undef))
theorem Ox(fn:Func)(tmps:Array Value):results fn tmps=(do
 let vs <-fn.results.mapM (cK tmps)
 pure (if h:vs.size=1 then vs[0]else .tuple vs)):=rfl
theorem XN{cx:Cx}(hT:BY P cx.T)(hS:SR N ds w0 g0 h0 st g a w):∀(rs:List ResultVar) {K:List AV->Prop},qD cx.T st rs K ->
  ∃l vs,K l/\(rs.mapM (cK a.tmps)).run P w=.ok vs w/\vs.length=l.length/\vs.length=rs.length /\
   ∀(i:Nat) (av:AV) (x:Value),l[i]?=some av->vs[i]?=some x->AY g w Fs av x
 | [],K,hk=>⟨[],[],hk,by simp,rfl,rfl,fun i av x h=>by simp_all⟩
 |.tmp t::r,K,hk=>by
  obtain⟨l,vs,h1,h2,h3,h4,h5⟩:=XN hT hS r hk;refine⟨_,a.tmps.getD t undef::vs,h1,?_,by simp_all,by simp_all,fun i av x q1 q2=>?_⟩
  .grind [cK,Sem.run_bind,Sem.run_pure,Result.andThen_ok]
  .cases i with
   |zero=>
    simp only[DN,Cm]at q1 q2;subst q1;subst q2;exact AY.str hS.inv.objs (hS.slots t)
   |succ i=>grind
 |.cell ad t::r,K,hk=>by
  obtain⟨addr,e1,x0,av0,e2,hk',e4⟩:=ZA hT hS.inv.objs (hS.slots ad) hk;obtain⟨l,vs,h1,h2,h3,h4,h5⟩:=XN hT hS r hk';refine⟨_,x0::vs,h1,?_,by simp_all,by simp_all,fun i av x q1 q2=>?_⟩
  .grind [cK,Sem.run_bind,Sem.run_pure,Result.andThen_ok]
  .cases i with
   |zero=>
    simp only[DN,Cm]at q1 q2;subst q1;subst q2;exact AY.str hS.inv.objs e4
   |succ i=>grind
theorem XM{cx:Cx}(hT:BY P cx.T)(hS:SR N ds w0 g0 h0 st g a w)(hk:iF cx st fn.results.toList K) :
  ∃g' r v h',K r/\(results fn a.tmps).run P w=.ok v w/\Cw w0 g0 h0 h' g' w/\Le h0 g0 w0 h' g' w/\AY g' w Fs r v:=by
 obtain⟨g',i1,i2⟩:=J3 cx.pl.fin hS.inv;have TF : SR N ds w0 g0 h0 ⟨st.t,Nw st.h cx.pl.fin⟩ g' a w:=⟨i1,hS.le.trans i2,hS.dfs,hS.size,fun i=>(hS.slots i).le i2⟩;obtain⟨l,vs,h1,h2,h3,h4,h5⟩:=XN hT TF _ hk;have Ct:(results fn a.tmps).run P w=.ok (if h:vs.toArray.size=1 then vs.toArray[0]else .tuple vs.toArray) w:=by
  rw[Ox,show fn.results=fn.results.toList.toArray by simp,List.mapM_toArray];simp_all
 refine⟨g',?_⟩
 match l,vs,h1,h3,h5,Ct with
 | [v],[x],h1,h3,h5,Ct=>exact⟨v,x,_,h1,by simp_all,i1,TF.le,h5 0 v x rfl rfl⟩
 | [],vs,h1,h3,h5,Ct=>
  have:vs=[]:=Aw h3
  subst this;exact⟨.tup [],.tuple #[],_,h1,by simp_all,i1,TF.le,.tup _ _ _ rfl fun i av x q=>by simp_all⟩
 |v::v' :: l,vs,h1,h3,h5,Ct=>
  refine⟨.tup (v::v' :: l),.tuple vs.toArray,_,h1,?_,i1,TF.le,.tup _ _ _ aa0 fun i av x q1 q2=>h5 i av x q1 (by simp_all)⟩;simp_all
theorem Cw.toFree(hI:Cw w0 g0 Ae st.h g w):Cw w0 g0 Ae Ae g w:=
 ⟨hI.os,hI.tape,hI.output,hI.size,hI.frame,hI.slt,fun _=>trivial,fun _ _ _ h=>h.elim,fun _ _ h=>h.elim,hI.sg,hI.glob⟩
theorem Mr{U:Nat->Prop}{n:Nat}:∀{args:List AV} {vals:List Value},vals.length=args.length->(∀(i:Nat) (av:AV) (x:Value),args[i]?=some av->vals[i]?=some x->AY g w U av x) ->
  ∀i,AY g w U (L6 args i) ((vals++List.replicate n undef).getD i undef)
 | [],[],_,_,i=>by
  have:(([]:List Value)++List.replicate n undef).getD i undef=undef:=by
   grind
  rw[this];exact .v _ _
 | [],_::_,h,_,_=>by simp_all
 |_::_,[],h,_,_=>by simp_all
 |x::l,v::vs,h,hr,i=>by
  cases i with
  |zero=>exact hr 0 x v rfl rfl
  |succ i=>
   have:=Mr (n:=n) (args:=l) (vals:=vs) (by simp_all) (fun i av x q1 q2=>hr (i+1) av x (by simp_all) (by simp_all)) i
   grind [L6]
theorem jF {f : Nat}{args : List AV}{Q : AV -> Prop}(hP : cx.P = P)(hT : BY P cx.T)(hm : P.follows .mixedOrders = true)(hx : cx.ext = false)(hf : P.funcs[f]? = some fn)(hn : (fn.name == "runtime.NumGoroutine") = false)(hb:fn.body=some c)(hN:args.length<=fn.ntmps)(hc:Dr fn.ntmps c=true)(hk:M0 cx c (bv cx fn.results.toList Q) ⟨L6 args,Ae⟩)(hY:∀l σ g w,cx.yp l σ g w:=by exact fun _ _ _ _=>trivial):A6 P f args Ae fun r h'=>h'=Ae/\Q r:=by
 refine⟨⟨fn,hf,hn,by simp_all⟩,fun g w vals hs hv hI=>calls_of_wp hf hb ?_⟩;have hU:Az Ae=Fs:=by grind [Az,Fs,Ae]
 have hS:SR fn.ntmps [] w g Ae ⟨L6 args,Ae⟩ g { tmps:=vals++Array.replicate (fn.ntmps-vals.size) undef,defers:=[] } w:=by
  refine⟨hI,.refl _ _ _,rfl,by simp_all,fun i=>?_⟩
  have:=Mr (n:=fn.ntmps-vals.size) (args:=args) (vals:=vals.toList) aa0 (fun i av x q1 q2=>hv i av x q1 (by simp_all)) i
  grind [Array.getD_eq_getD_getElem?,Array.toList_append,Array.toList_replicate]
 refine wpIn_wide.1 (Kh hP hT hm (by unfold Iv;rw[hx];exact fun _=>rfl) (fun l σ _ _ w _ _ _=>hY l σ _ w) none c hc (fun e st g' a w' hk hS=>?_) hS hk);have out:iF cx st fn.results.toList Q->a.defers=[]/\∃v,(results fn a.tmps).run P w'=.ok v w'/\∃v' r h' g',(Ending.returned v:Ending)=.returned v'/\(h'=Ae/\Q r)/\AY g' w' (Az h') r v'/\Cw w g Ae h' g' w'/\Le Ae g w h' g' w':=by
  intro hk;obtain⟨g2,r,v,h',q1,q2,q3,q4,q5⟩:=XM hT hS hk;exact⟨hS.dfs,v,q2,v,r,Ae,g2,rfl,⟨rfl,q1⟩,by simp_all,Cw.toFree (st:=⟨st.t,h'⟩) q3,⟨fun i hi=>absurd rfl hi,fun i hi=>absurd rfl hi,q4.keeps⟩⟩
 cases e with
 |normal=>exact out hk
 |ret=>exact out hk
 |exit id=>exact hk.elim
theorem Sv{cx:Cx}(hT:BY P cx.T)(hS:SR N ds w0 g0 h0 st g a w):∀(rs:List ResultVar) {K:List AV->Prop},qE cx.T st rs K ->
  ∃l vs,K l/\(rs.mapM (cK a.tmps)).run P w=.ok vs w/\vs.length=l.length/\vs.length=rs.length /\
   ∀(i:Nat) (av:AV) (x:Value),l[i]?=some av->vs[i]?=some x->AY g w (Az st.h) av x
 | [],K,hk=>⟨[],[],hk,by simp,rfl,rfl,fun i av x h=>by simp_all⟩
 |.tmp t::r,K,hk=>by
  obtain⟨l,vs,h1,h2,h3,h4,h5⟩:=Sv hT hS r hk;refine⟨_,a.tmps.getD t undef::vs,h1,?_,by simp_all,by simp_all,fun i av x q1 q2=>?_⟩
  all_goals grind [cK,Sem.run_bind,Sem.run_pure,Result.andThen_ok,SR.slots]
 |.cell ad t::r,K,hk=>by
  obtain⟨addr,e1,x0,av0,e2,hk',e4⟩:=ZA hT hS.inv.objs (hS.slots ad) hk;obtain⟨l,vs,h1,h2,h3,h4,h5⟩:=Sv hT hS r hk';refine⟨_,x0::vs,h1,?_,by simp_all,by simp_all,fun i av x q1 q2=>?_⟩
  all_goals grind [cK,Sem.run_bind,Sem.run_pure,Result.andThen_ok]
theorem Fa{σ:HJ}:∀{H0:List (Nat×HO)},FJ σ H0=true->∀i,Af H0 Ae i≠.free->1000<=i/\i<2000/\Cf σ i=some i
 | [],_,i,h=>absurd rfl h
 |(a,o)::r,hx,i,h=>by
  simp only[FJ,Aj,EK,Do]at hx;obtain⟨⟨⟨h1,h2⟩,h3⟩,h4⟩:=hx
  by_cases e:i=a
  .grind [Nat.eq_of_beq_eq_true]
  .unfold Af at h;simp only[CC e,Gf]at h;exact Fa h4 i h
theorem I9{H0:List (Nat×HO)}{σ:HJ}(hσ:EU σ=true)(hx:FJ σ H0=true){h:Nat->HO}(hI:Cw w0 g0 (Af H0 Ae) h g w)(hL:Le (Af H0 Ae) g0 w0 h g w) :
  Ga (Cf σ) h (Fo σ h) g (CF σ g) w/\Cw w0 g0 (Af H0 Ae) (Fo σ h) (CF σ g) w/\Le (Af H0 Ae) g0 w0 (Fo σ h) (CF σ g) w:=by
 have inv:=XB hσ;have Fu:∀j,Fo σ h j=match G3 σ j with | some i=>(h i).ren (Cf σ) h | none=>.free:=PH _ _ σ
 have hR:Ga (Cf σ) h (Fo σ h) g (CF σ g) w:=by
  refine⟨fun r r' hr hu=>?_,fun b o=>Iff.rfl,hI.objs⟩
  grind [CF,Az,MP]
 have My:∀j,(Fo σ h j).live->∃i,G3 σ j=some i/\(h i).live:=fun j hl=>by
  rw[Fu]at hl;cases e:G3 σ j with
  |none=>rw[e]at hl;exact hl.elim
  |some i=>grind [MO]
 have Xx:∀j i,G3 σ j=some i->(CF σ g).own j=g.own i:=fun j i e=>by simp[CF,e]
 refine⟨hR,⟨hI.os,hI.tape,hI.output,hI.size,hI.frame,hI.slt,fun j=>?_,fun j j' b hl RT e e'=>?_,fun j b hl e=>?_,hI.sg,hI.glob⟩,⟨fun i hi=>?_,fun i hi=>?_,hL.keeps⟩⟩
 .rw[Fu];cases e:G3 σ j with
  |none=>trivial
  |some i=>
   by_cases hu:Az h i
   .grind [DO.ren,Cw.objs]
   .have:h i=.free:=Cc.1 hu
    dsimp only;rw[this];trivial
 .obtain⟨i,e1,l1⟩:=My j hl;obtain⟨i',e2,l2⟩:=My j' RT;rw[Xx j i e1]at e;rw[Xx j' i' e2]at e';obtain rfl:=hI.inj i i' b l1 l2 e e'
  have:=(inv i j).2 e1
  rw[(inv i j').2 e2]at this;simp_all
 .obtain⟨i,e1,l1⟩:=My j hl;rw[Xx j i e1]at e;exact hI.loc i b l1 e
 .obtain⟨_,_,hf⟩:=Fa hx i hi;have hb:=(inv i i).1 hf;have e1:(CF σ g).ρ i=g.ρ i/\(CF σ g).ln i=g.ln i/\(CF σ g).tk i=g.tk i:=by grind [CF]
  obtain⟨k1,k2,k3,k4⟩:=hL.gh i hi<;>simp_all
 .obtain⟨_,_,hf⟩:=Fa hx i hi;have hb:=(inv i i).1 hf;unfold Az;rw[Fu,hb];exact(MP _ _ _).2 (hL.us i hi)
theorem Pc{f:Nat}{args:List AV}{H0:List (Nat×HO)}{Q:AV->(Nat->HO)->Prop}(hP:cx.P=P)(hT:BY P cx.T)(hm:P.follows .mixedOrders=true)(hx:cx.ext=true)(hf:P.funcs[f]?=some fn)(_hn : (fn.name == "runtime.NumGoroutine") = false)(hb : fn.body = some c)(hN : args.length <= fn.ntmps)(hc : Dr fn.ntmps c = true)(hσ : (EU σ && FJ σ H0) = true)(hk:M0 cx c (Vc cx fn.results.toList σ Q) ⟨L6 args,Af H0 Ae⟩){g:Gh}{w:World}{vals:Array Value}(hs:vals.size=args.length)(hv:∀(i:Nat) (av:AV) (x:Value),args[i]?=some av->vals[i]?=some x->AY g w (Az (Af H0 Ae)) av x)(hI:Cw w g (Af H0 Ae) (Af H0 Ae) g w)(hY:∀l σ h' g' w',D7 σ=true->Cw w g (Af H0 Ae) h' g' w'->Le (Af H0 Ae) g w h' g' w'->cx.yp l σ (CF σ g') w') :
  Calls P f vals w fun e w'=>∃v r h' g',e=.returned v/\Q r h'/\AY g' w' (Az h') r v/\Cw w g (Af H0 Ae) h' g' w'/\Le (Af H0 Ae) g w h' g' w':=by
 simp only[Aj]at hσ;obtain⟨hσ,tW⟩:=hσ;refine calls_of_wp hf hb ?_;have hS:SR fn.ntmps [] w g (Af H0 Ae) ⟨L6 args,Af H0 Ae⟩ g { tmps:=vals++Array.replicate (fn.ntmps-vals.size) undef,defers:=[] } w:=by
  refine⟨hI,.refl _ _ _,rfl,by simp_all,fun i=>?_⟩
  have:=Mr (n:=fn.ntmps-vals.size) (args:=args) (vals:=vals.toList) aa0 (fun i av x q1 q2=>hv i av x q1 (by simp_all)) i
  grind [Array.getD_eq_getD_getElem?,Array.toList_append,Array.toList_replicate]
 refine wpIn_wide.1 (Kh hP hT hm (by unfold Iv;rw[hx];exact fun i hi=>⟨(Fa tW i hi).1,(Fa tW i hi).2.1⟩) hY none c hc (fun e st g' a w' hk hS=>?_) hS hk);have out:iE cx st fn.results.toList σ Q->a.defers=[]/\∃v,(results fn a.tmps).run P w'=.ok v w'/\∃v' r h' g',(Ending.returned v:Ending)=.returned v'/\Q r h'/\AY g' w' (Az h') r v'/\Cw w g (Af H0 Ae) h' g' w'/\Le (Af H0 Ae) g w h' g' w':=by
  intro hk;obtain⟨g2,i1,i2⟩:=J3 cx.pl.fin hS.inv;have TF : SR fn.ntmps [] w g (Af H0 Ae) ⟨st.t,Nw st.h cx.pl.fin⟩ g2 a w':=⟨i1,hS.le.trans i2,hS.dfs,hS.size,fun i=>(hS.slots i).le i2⟩;obtain⟨l,vs,h1,h2,h3,h4,h5⟩:=Sv hT TF _ hk;obtain⟨hR,j1,j2⟩:=I9 hσ tW i1 TF.le;have Ct:(results fn a.tmps).run P w'=.ok (if h:vs.toArray.size=1 then vs.toArray[0]else .tuple vs.toArray) w':=by
   rw[Ox,show fn.results=fn.results.toList.toArray by simp,List.mapM_toArray];simp_all
  refine⟨hS.dfs,?_⟩
  match l,vs,h1,h3,h5,Ct with
  | [v],[x],h1,h3,h5,Ct=>exact⟨x,by simp_all,x,_,_,_,rfl,h1,(h5 0 v x rfl rfl).ren hR,j1,j2⟩
  | [],vs,h1,h3,h5,Ct=>
   have:vs=[]:=Aw h3
   subst this;exact⟨.tuple #[],by simp_all,.tuple #[],_,_,_,rfl,h1,AY.ren hR (.tup _ [] _ rfl fun i av x q=>by simp_all),j1,j2⟩
  |v::v' :: l,vs,h1,h3,h5,Ct=>
   refine⟨.tuple vs.toArray,?_,.tuple vs.toArray,_,_,_,rfl,h1,AY.ren hR (.tup _ _ _ aa0 fun i av x q1 q2=>h5 i av x q1 (by simp_all)),j1,j2⟩;simp_all
 cases e with
 |normal=>exact out hk
 |ret=>exact out hk
 |exit id=>exact hk.elim
theorem kN{f:Nat}{args:List AV}{H0:List (Nat×HO)}{Q:AV->(Nat->HO)->Prop}(hP:cx.P=P)(hT:BY P cx.T)(hm:P.follows .mixedOrders=true)(hx:cx.ext=true)(hf:P.funcs[f]?=some fn)(hn : (fn.name == "runtime.NumGoroutine") = false)(hb : fn.body = some c)(hN : args.length <= fn.ntmps)(hc : Dr fn.ntmps c = true)(hσ : (EU σ && FJ σ H0) = true)(hk:M0 cx c (Vc cx fn.results.toList σ Q) ⟨L6 args,Af H0 Ae⟩)(hY:∀l σ g w,cx.yp l σ g w:=by exact fun _ _ _ _=>trivial):A6 P f args (Af H0 Ae) Q:=
 ⟨⟨fn,hf,hn,by simp_all⟩,fun g w vals hs hv hI=>Pc cx σ hP hT hm hx hf hn hb hN hc hσ hk hs hv hI (fun l σ _ _ w _ _ _=>hY l σ _ w)⟩
end
def Ea(r':AV):Prop:=∀(g:Gh) (w:World) (U:Nat->Prop) (x:Value),AY g w U r x->AY g w U r' x
theorem Ea.refl:Ea r r:=fun _ _ _ _ h=>h
theorem Ea.of_eq{r r' : AV}(h:r=r'):Ea r r':=h▸.refl r
theorem Ea.trans{a b c:AV}(h:Ea a b)(k:Ea b c):Ea a c:=fun g w U x r=>k g w U x (h g w U x r)
theorem Ea.nil:Ea nzA (.slice .none []):=fun _ _ _ _ h=>by cases h;grind [AY.snil]
def L4:List AV->List AV->Prop
 | [],[]=>True
 |a::r,b::s=>Ea a b/\L4 r s
 |_,_=>False
theorem L4.refl:∀l:List AV,L4 l l
 | []=>trivial
 |a::l=>⟨.refl a,L4.refl l⟩
theorem L4.len:∀{l l' : List AV},L4 l l'->l'.length=l.length
 | [],[],_=>rfl
 |_::_,_::_,h=>Aa (·+1) h.2.len
 | [],_::_,h=>h.elim
 |_::_,[],h=>h.elim
theorem L4.get:∀{l l' : List AV},L4 l l'->∀(i:Nat) (b:AV),l'[i]?=some b->∃a,l[i]?=some a/\Ea a b
 | [],[],_,i,b,h=>by simp_all
 |a::r,b::s,hs,i,c,h=>by
  cases i with
  |zero=>simp only[DN,Cm]at h;subst h;exact⟨a,rfl,hs.1⟩
  |succ i=>exact L4.get hs.2 i c (by simpa using h)
 | [],_::_,h,_,_,_=>h.elim
 |_::_,[],h,_,_,_=>h.elim
theorem Ea.tup{l l' : List AV}(h:L4 l l'):Ea (.tup l) (.tup l'):=fun g w U x r=>by
 cases r with
 |tup _ _ vs hs hr=>
  refine .tup _ _ vs (by rw[hs,h.len]) fun i av x q1 q2=>?_;obtain⟨a,e1,e2⟩:=h.get i av q1;exact e2 _ _ _ _ (hr i a x e1 q2)
theorem Ea.agg{l l' : List AV}(h:L4 l l'):Ea (.agg l) (.agg l'):=fun g w U x r=>by
 cases r with
 |agg _ _ vs hs h1 hr=>
  refine .agg _ _ vs (by rw[hs,h.len]) h1 fun i av x q1 q2=>?_;obtain⟨a,e1,e2⟩:=h.get i av q1;exact e2 _ _ _ _ (hr i a x e1 q2)
def WS:List (List AV)->List (List AV)->Prop
 | [],[]=>True
 |a::r,b::s=>L4 a b/\WS r s
 |_,_=>False
theorem WS.len:∀{l l' : List (List AV)},WS l l'->l'.length=l.length
 | [],[],_=>rfl
 |_::_,_::_,h=>Aa (·+1) h.2.len
 | [],_::_,h=>h.elim
 |_::_,[],h=>h.elim
theorem WS.get:∀{l l' : List (List AV)},WS l l'->∀(i:Nat) (b:List AV),l'[i]?=some b->∃a,l[i]?=some a/\L4 a b
 | [],[],_,i,b,h=>by simp_all
 |a::r,b::s,hs,i,c,h=>by
  cases i with
  |zero=>simp only[DN,Cm]at h;subst h;exact⟨a,rfl,hs.1⟩
  |succ i=>exact WS.get hs.2 i c (by simpa using h)
 | [],_::_,h,_,_,_=>h.elim
 |_::_,[],h,_,_,_=>h.elim
theorem Ea.slice{l l' : List (List AV)}(h:WS l l'):Ea (.slice .none l) (.slice .none l'):=fun g w U x r=>by
 have CD:=h.len;cases r with
 |snil _ a cap=>
  grind [AY.snil]
 |slice _ _ b off sz cap val hc hl CT Ef=>
  rw[<-CD];refine .slice _ _ b off sz cap val aa0 (fun i cs hi=>?_) (fun i cs j av hi hj=>?_) (fun i cs j av hi hj=>?_)
  .grind [WS.get,L4.len]
  .grind [WS.get,L4.get]
  .obtain⟨a,e1,e2⟩:=h.get i cs hi;obtain⟨c,f1,f2⟩:=e2.get j av hj;exact f2 _ _ _ _ (Ef i a j c e1 f1)
section
variable {P:Program}
theorem A6.mono{f:Nat}{args:List AV}{h0:Nat->HO}{Q Q' : AV->(Nat->HO)->Prop}(h:A6 P f args h0 Q)(hq:∀r h',Q r h'->∃r',Ea r r'/\Q' r' h'):A6 P f args h0 Q':=
 ⟨h.1,fun g w vals q1 q2 q3=>(h.2 g w vals q1 q2 q3).mono fun _ _ ⟨v,r,h',g',e1,e2,e3,rest⟩=>
  let ⟨r',s,k⟩:=hq r h' e2
  ⟨v,r',h',g',e1,k,s _ _ _ _ e3,rest⟩⟩
theorem A6.args{args args' : List AV}{h0:Nat->HO}{Q:AV->(Nat->HO)->Prop}(h:A6 P f args h0 Q)(hs:L4 args' args):A6 P f args' h0 Q:=
 ⟨h.1,fun g w vals q1 q2 q3=>h.2 g w vals (by rw[q1,hs.len]) (fun i av x e1 e2=>by
  obtain⟨a,f1,f2⟩:=hs.get i av e1;exact f2 _ _ _ _ (q2 i a x f1 e2)) q3⟩
theorem LM.args{f:Nat}{args args' : List AV}{res:AV}(h:LM P f args res)(hs:L4 args' args):LM P f args' res:=A6.args h hs
theorem Fz {args : List AV}{res : AV}(hP : cx.P = P)(hT : BY P cx.T)(hm : P.follows .mixedOrders = true)(hx : cx.ext = false)(hf : P.funcs[f]? = some fn)(hn : (fn.name == "runtime.NumGoroutine") = false)(hb:fn.body=some c)(hN:args.length<=fn.ntmps)(hc:Dr fn.ntmps c=true)(hk:M0 cx c (bv cx fn.results.toList fun r=>Ea r res) ⟨L6 args,Ae⟩)(hY:∀l σ g w,cx.yp l σ g w:=by exact fun _ _ _ _=>trivial):LM P f args res:=
 (jF cx hP hT hm hx hf hn hb hN hc hk hY).mono fun _ _ ⟨e1,e2⟩=>⟨res,e2,rfl,e1⟩
end
end Go.Eng
namespace Go.Eng
open Go.ChangeShapes Go.WideShapes
variable {p:List MemPlace}{w:World}{g:Gh}
def kM(w:World):Gh:=⟨fun _=>undef,fun _=>0,fun _=>false,fun _=>none,fun b _=>b<w.heap.size⟩
theorem dn{b o:Nat}{v:Value}(h:w.cell? ⟨b,o,none⟩=some v):b<w.heap.size:=by
 grind [World.cell?]
theorem yf(hg:∃m,w.cell? ⟨0,0,none⟩=some (.int .i64 m))(ht:∀x∈wL,x.1<w.heap.size/\w.cell? ⟨x.1,x.2.1,none⟩=x.2.2):Cw w (kM w) Ae Ae (kM w) w where
 os:=rfl
 tape:=rfl
 output:=rfl
 size:=Ao _
 frame:=fun _ _ _=>rfl
 slt:=fun _ _ h=>h
 objs:=fun _=>trivial
 inj:=fun _ _ _ h=>h.elim
 loc:=fun _ _ h=>h.elim
 sg:=fun _ _ h=>.inl h
 glob:=⟨⟨by obtain⟨m,h⟩:=hg;exact dn h,hg⟩,fun x hx=>ht x hx⟩
theorem T8{α β:Type}{f:α->Option β}:∀{l:List α} {r:List β},l.mapM f=some r->r.length=l.length/\∀(i:Nat) x,l[i]?=some x->∃y,r[i]?=some y/\f x=some y
 | [],r,h=>by simp_all
 |a::l,r,h=>by
  rw[List.mapM_cons]at h;cases ha:f a with
  |none=>simp_all
  |some b=>
   cases hl:l.mapM f with
   |none=>simp_all
   |some s=>
    simp[ha,hl]at h;subst h;obtain⟨h1,h2⟩:=T8 hl<;>grind
theorem VM{base:Nat}{a:Addr}{n:Nat}{cs:List Value}(h:w.cells? base a n=some cs) :
  cs.length=n/\(0<n->a.spot=none)/\∀j,j<n->∃v,cs[j]?=some v/\w.cell? ⟨a.block,a.off+j,none⟩=some v:=by
 unfold World.cells? at h;split at h
 .obtain⟨h1,h2⟩:=T8 h;have one:∀j,j<n->∃v,cs[j]?=some v/\w.cell? (a.add j)=some v:=fun j hj=>by
   obtain⟨v,e1,e2⟩:=h2 j j (by simp[hj])<;>simp_all
  have vw:0<n->a.spot=none:=fun hn=>by
   obtain⟨v,_,hv⟩:=one 0 hn;simp only[Addr.add,AX]at hv;cases hs:a.spot<;>grind [World.cell?]
  refine⟨by simp_all,vw,fun j hj=>?_⟩;obtain⟨v,e1,e2⟩:=one j hj;refine⟨v,e1,?_⟩;have hs:=vw aa0;have e:a.add j=⟨a.block,a.off+j,none⟩:=by
   unfold Addr.add;split
   .rename_i h0;subst h0;cases a;simp_all
   .rfl
  simp_all
 simp_all
section
variable {H:Type}{enc:TypeId×Value->H}{P:Program}{w:World}{bk:DataW H->Nat}{N:Nat}
structure WO(bk:DataW H->Nat):Prop where
 slice:∀es sp,es.length<=bk (.slice es sp)/\∀d∈es,bk d<=bk (.slice es sp)
 agg:∀ps,∀d∈ps,bk d<=bk (.agg ps)
 str:∀b:List UInt8,b.length<=bk (.lit (.string b))
def JV(enc:TypeId×Value->H)(P:Program)(w:World)(bk:DataW H->Nat)(N:Nat)(t:TypeId){α:Type}(e:α->List AV)(ok:α->Prop):Prop:=
 ∀(fuel:Nat) (cs:List Value) (d:DataW H) (ps:List MemPlace),DataW.trod enc P w 0 (fun _=>true) true fuel t cs=some (d,ps)->bk d<=N->∃x:α,Ca (kM w) w Fs (e x) cs/\ok x
theorem Rb{U:Nat->Prop}{a:AV}{v:Value}(h1:v.oneCell'=true)(h2:AY g w U a v):Ca g w U [a] [v]:=by
 refine⟨rfl,fun x hx=>by simp_all,fun i av x q1 q2=>?_⟩
 grind
theorem jq{U:Nat->Prop}{a b:List AV}{c d:List Value}(h:Ca g w U a c)(k:Ca g w U b d):Ca g w U (a++b) (c++d):=by
 obtain⟨h1,h2,h3⟩:=h;obtain⟨k1,k2,k3⟩:=k;refine⟨by simp_all,fun x hx=>(Bc.1 hx).elim (h2 x) (k2 x),fun i av x q1 q2=>?_⟩
 grind
theorem uQ{U:Nat->Prop}:Ca g w U [] []:=⟨rfl,(fun x hx=>by cases hx),fun i av x q1=>by simp_all⟩
theorem iD{t:TypeId}{k:IntKind}(hu:P.underlying t=some (.int k)):JV enc P w bk N t (fun n:Int=>[AV.v (.int k n)]) (fun n=>k.min<=n/\n<=k.max):=by
 intro fuel cs d ps h _;cases fuel with
 |zero=>simp[DataW.trod]at h
 |succ fuel=>
  rw[DataW.trod_step]at h;unfold DataW.trodStep at h;rw[hu]at h;split at h<;>rename_i he<;>first | cases he | skip
  all_goals first | (split at h<;>first | cases h | skip) | cases h | skip
  rename_i n hc _;obtain⟨rfl,hw⟩:=hc;simp only[Lit.wf,Aj,A8]at hw;exact⟨_,Rb rfl (.v _ _),hw⟩
theorem cr{t:TypeId}(hu:P.underlying t=some .bool):JV enc P w bk N t (fun b:Bool=>[AV.v (.bool b)]) (fun _=>True):=by
 intro fuel cs d ps h _;cases fuel with
 |zero=>simp[DataW.trod]at h
 |succ fuel=>
  rw[DataW.trod_step]at h;unfold DataW.trodStep at h;rw[hu]at h;split at h<;>rename_i he<;>first | cases he | skip
  all_goals first | cases h | skip
  exact⟨_,Rb rfl (.v _ _),trivial⟩
theorem XK{t:TypeId}(hB:WO bk)(hu:P.underlying t=some .string):JV enc P w bk N t (fun s:ByteArray=>[AV.v (.string s)]) (fun s=>s.size<=N):=by
 intro fuel cs d ps h hb;cases fuel with
 |zero=>simp[DataW.trod]at h
 |succ fuel=>
  rw[DataW.trod_step]at h;unfold DataW.trodStep at h;rw[hu]at h;split at h<;>rename_i he<;>first | cases he | skip
  all_goals first | (split at h<;>first | cases h | skip) | cases h | skip
  rename_i s hs;refine⟨s,Rb rfl (.v _ _),?_⟩
  have:=hB.str s.data.toList
  have e:s.data.toList.length=s.size:=by simp_all
  omega
theorem GV{t e:TypeId}{α:Type}{E:α->List AV}{ok:α->Prop}{m:Nat}(hB:WO bk)(hu:P.underlying t=some (.slice e))(hm:P.cellsOf e=m+1)(hE:∀x,(E x).length=m+1)(he:JV enc P w bk N e E ok) :
  JV enc P w bk N t (fun l:List α=>[AV.slice .none (l.map E)]) (fun l=>l.length<=N/\∀x∈l,ok x):=by
 intro fuel cs d ps h hb;cases fuel with
 |zero=>simp[DataW.trod]at h
 |succ fuel=>
  rw[DataW.trod_step]at h;unfold DataW.trodStep at h;rw[hu]at h;split at h<;>rename_i hq<;>first | cases hq | skip
  all_goals first | (cases h;done) | skip
  .cases h
   exact⟨[],Rb rfl (.snil _ _ _),Ap _,fun x hx=>by cases hx⟩
  .rename_i a len cap;simp only at h;split at h
   .rename_i hc;simp only[B3,SE]at h;obtain⟨rx,hel,rest,_,hd⟩:=h;simp only[Prod.mk.injEq]at hd;obtain⟨hd,_⟩:=hd;obtain⟨hl,Fu⟩:=T8 hel;rw[List.length_range]at hl;have hbs:=hB.slice (rx.map (·.1)) (rest.map (·.1));rw[hd]at hbs;rw[BR]at hbs;have one:∀i,i<len->∃(x:α) (vs:List Value),w.cells? 0 (a.add (i*P.cellsOf e)) (P.cellsOf e)=some vs/\Ca (kM w) w Fs (E x) vs/\ok x:=fun i hi=>by
     obtain⟨y,hy,hf⟩:=Fu i i (by simp_all);simp only[SE]at hf;obtain⟨vs,hv,ht⟩:=hf;obtain⟨x,r1,r2⟩:=he fuel vs y.1 y.2 ht (Bl (hbs.2 y.1 (Ar.2 ⟨y,Ax hy,rfl⟩)) hb)<;>grind
    have build:∀k,k<=len->∃l:List α,l.length=k/\∀(i:Nat) x,l[i]?=some x->∃vs:List Value,w.cells? 0 (a.add (i*P.cellsOf e)) (P.cellsOf e)=some vs/\Ca (kM w) w Fs (E x) vs/\ok x:=fun k=>by
     induction k with
     |zero=>simp_all
     |succ k ih=>
      intro hk;obtain⟨l,h1,h2⟩:=ih aa0;obtain⟨x,hx⟩:=one k aa0;refine⟨l++[x],by simp_all,fun i y q=>?_⟩
      grind
    obtain⟨l,h1,h2⟩:=build len (Ao _);refine⟨l,Rb rfl ?_,by omega,fun x hx=>?_⟩
    .cases CD:len with
     |zero=>
      grind [AY.snil]
     |succ n=>
      have vw:a.spot=none:=by
       obtain⟨x,vs,hv,_⟩:=one 0 aa0
       have:=(VM hv).2.1 aa0
       grind [Addr.add]
      have ea:a=⟨a.block,a.off,none⟩:=by cases a;simp_all
      rw[<-CD,<-h1,show l.length=(l.map E).length by simp,ea];have cell:∀(i:Nat) (c:List AV) (j:Nat) (av:AV),(l.map E)[i]?=some c->c[j]?=some av->∃v,w.cell? ⟨a.block,a.off+i*(m+1)+j,none⟩=some v/\v.oneCell'=true/\AY (kM w) w Fs av v:=by
       intro i c j av q1 q2;rw[BA,B3]at q1;obtain⟨x,q1,rfl⟩:=q1;obtain⟨vs,hv,hr,_⟩:=h2 i x q1;obtain⟨k1,_,k3⟩:=VM hv;have hj:j<m+1:=by
        grind
       obtain⟨v,e1,e2⟩:=k3 j aa0;refine⟨v,?_,hr.2.1 v (Ax e1),hr.2.2 j av v q2 e1⟩
       grind [Addr.add]
      refine .slice _ _ a.block a.off (m+1) cap (fun i j=>(w.cell? ⟨a.block,a.off+i*(m+1)+j,none⟩).getD undef) (by grind) (fun i c q=>?_) (fun i c j av q1 q2=>?_) (fun i c j av q1 q2=>?_)
      .grind
      .obtain⟨v,e1,e2,_⟩:=cell i c j av q1 q2;exact⟨dn e1,by grind,by grind⟩
      .obtain⟨v,e1,_,e3⟩:=cell i c j av q1 q2;rw[e1];exact e3
    grind [List.mem_iff_getElem?]
   simp_all
theorem Nj{t e:TypeId}(hu:P.underlying t=some (.slice e)):JV enc P w bk N t (fun _:Unit=>[AV.junk]) (fun _=>True):=by
 intro fuel cs d ps h _;cases fuel with
 |zero=>simp[DataW.trod]at h
 |succ fuel=>
  rw[DataW.trod_step]at h;unfold DataW.trodStep at h;rw[hu]at h;split at h<;>rename_i hq<;>first | cases hq | skip
  all_goals first | (cases h;done) | skip
  all_goals exact⟨(),Rb rfl (.junk _ _),trivial⟩
theorem JV.to{t:TypeId}{α β:Type}{e:α->List AV}{ok:α->Prop}{e' : β->List AV}{yq : β->Prop}(h:JV enc P w bk N t e ok)(f:α->β)(hf:∀x,ok x->e' (f x)=e x/\yq (f x)):JV enc P w bk N t e' yq:=by
 intro fuel cs d ps k hb;obtain⟨x,h1,h2⟩:=h fuel cs d ps k hb<;>grind
def WR(enc:TypeId×Value->H)(P:Program)(w:World)(bk:DataW H->Nat)(N L:Nat)(l:List Field)(o:Nat){α:Type}(e:α->List AV)(ok:α->Prop):Prop:=
 ∀(fuel:Nat) (cs:List Value) (xs:List (DataW H×List MemPlace)),cs.length=L->l.mapM (fun f=>DataW.trod enc P w 0 (fun _=>true) true fuel f.type ((cs.drop f.offset).take (P.cellsOf f.type)))=some xs->(∀x∈xs,bk x.1<=N) ->
  ∃x:α,Ca (kM w) w Fs (e x) (cs.drop o)/\ok x
theorem FH{L:Nat}:WR enc P w bk N L [] L (fun _:Unit=>[]) (fun _=>True):=by
 intro fuel cs xs hl _ _;refine⟨(),?_,trivial⟩
 grind [uQ]
theorem Bf{L o n:Nat}{f:Field}{l:List Field}{α β:Type}{e:α->List AV}{ok:α->Prop}{e' : β->List AV}{yq : β->Prop}(ho:f.offset=o)(hn:P.cellsOf f.type=n)(h:JV enc P w bk N f.type e ok)(k:WR enc P w bk N L l (o+n) e' yq) :
  WR enc P w bk N L (f::l) o (fun p:α×β=>e p.1++e' p.2) (fun p=>ok p.1/\yq p.2):=by
 intro fuel cs xs hl hx hb;rw[List.mapM_cons]at hx;simp only[Option.bind_eq_bind,SE]at hx;obtain⟨y,hy,ys,hys,p6⟩:=hx;simp only[Option.pure_def,Cm]at p6;subst p6;obtain⟨x,r1,r2⟩:=h fuel _ y.1 y.2 hy (hb y (Ah ..));obtain⟨z,s1,s2⟩:=k fuel cs ys hl hys (fun q hq=>hb q (Ai _ hq));refine⟨(x,z),?_,r2,s2⟩
 grind [List.drop_drop,List.take_append_drop,jq]
theorem Eu{t:TypeId}{L:Nat}{fs:Array Field}{α:Type}{e:α->List AV}{ok:α->Prop}(hB:WO bk)(hu:P.underlying t=some (.struct fs))(hL:P.cellsOf t=L)(h:WR enc P w bk N L fs.toList 0 e ok):JV enc P w bk N t e ok:=by
 intro fuel cs d ps k hb;cases fuel with
 |zero=>simp[DataW.trod]at k
 |succ fuel=>
  rw[DataW.trod_step]at k;unfold DataW.trodStep at k;rw[hu]at k
  change (if cs.length=P.cellsOf t then(fs.toList.mapM fun f=>DataW.trod enc P w 0 (fun _=>true) true fuel f.type ((cs.drop f.offset).take (P.cellsOf f.type))).map fun xs=>(DataW.agg (xs.map (·.1)),xs.flatMap (·.2))else none)=some (d,ps)at k
  split at k
  .rename_i hc;simp only[B3,Prod.mk.injEq]at k;obtain⟨xs,hx,hd,_⟩:=k;have hba:=hB.agg (xs.map (·.1));rw[hd]at hba;obtain⟨x,r1,r2⟩:=h fuel cs xs aa0 hx (fun y hy=>Bl (hba y.1 (Ar.2 ⟨y,hy,rfl⟩)) hb)<;>grind
  simp_all
theorem mK{t:TypeId}{α:Type}{e:α->AV}{ok:α->Prop}(h:JV enc P w bk N t (fun x=>[e x]) ok){v:Value}{d:DataW H}(hv:v.oneCell'=true)(k:DataW.Trod enc P w 0 (fun _=>true) true t v d p)(hb:bk d<=N) :
  ∃x,AY (kM w) w Fs (e x) v/\ok x:=by
 obtain⟨fuel,k⟩:=k;have ec:v.cells.toList=[v]:=by cases v<;>first | rfl | cases hv
 rw[ec]at k;obtain⟨x,r1,r2⟩:=h fuel _ d p k hb;exact⟨x,r1.2.2 0 _ _ rfl rfl,r2⟩
theorem mJ{t:TypeId}{α:Type}{e:α->List AV}{ok:α->Prop}(h:JV enc P w bk N t e ok){cs:Array Value}{d:DataW H}(k:DataW.Trod enc P w 0 (fun _=>true) true t (.agg cs) d p)(hb:bk d<=N) :
  ∃x,AY (kM w) w Fs (.agg (e x)) (.agg cs)/\ok x:=by
 obtain⟨fuel,k⟩:=k;obtain⟨x,r1,r2⟩:=h fuel cs.toList d p k hb;refine⟨x,.agg _ _ _ (by have:=r1.1;omega) (fun i y q=>r1.2.1 y (by grind)) (fun i av y q1 q2=>r1.2.2 i av y q1 (by simp_all)),r2⟩
end
end Go.Eng
namespace Go.Eng
open Go.Proofs
abbrev dTI:TI := cW
abbrev tF:TI := ⟨.func,1,8,.nilFunc,true⟩
abbrev tI:TI := ⟨.int .i64,1,8,.int .i64 0,true⟩
abbrev tP(n:Nat):TI := ⟨.ptr n,1,8,.pointer none,true⟩
abbrev tS(n:Nat):TI := ⟨.slice n,1,24,.slice none 0 0,true⟩
def mz{α:Type}(d:α):List α -> Nat -> α
 | [],_ => d
 |a::r,n => match n with |0 => a |n + 1 => mz d r n
abbrev tiN:TI := cW
def Ady:List TI := [⟨.other,1,0,(.tuple #[]),true⟩,tF,tI,tI,⟨.bool,1,1,(.bool .false),true⟩,⟨.int .u8,1,1,(.int .u8 0),true⟩,⟨.int .u8,1,1,(.int .u8 0),true⟩,⟨.struct [(2,0),(3,1),(4,2),(6,3)],4,24,(.agg #[.int .i64 0,.int .i64 0,.bool .false,.int .u8 0]),true⟩,⟨.struct [(2,0),(3,1),(4,2),(6,3)],4,24,(.agg #[.int .i64 0,.int .i64 0,.bool .false,.int .u8 0]),true⟩,⟨.string,1,16,(.string ⟨#[]⟩),true⟩,⟨.string,1,16,(.string ⟨#[]⟩),true⟩,⟨.string,1,16,(.string ⟨#[]⟩),true⟩,⟨.int .u64,1,8,(.int .u64 0),true⟩,⟨.struct [(9,0),(12,1)],2,24,(.agg #[.string ⟨#[]⟩,.int .u64 0]),false⟩,⟨.struct [(9,0),(12,1)],2,24,(.agg #[.string ⟨#[]⟩,.int .u64 0]),false⟩,⟨.ptr 331,1,8,(.pointer .none),true⟩]
def Adz:List TI := [⟨.ptr 334,1,8,(.pointer .none),true⟩,⟨.ptr 343,1,8,(.pointer .none),true⟩,⟨.struct [(17,0)],1,8,(.agg #[.pointer .none]),false⟩,⟨.struct [(17,0)],1,8,(.agg #[.pointer .none]),false⟩,⟨.iface,1,16,.nilIface,true⟩,⟨.int .i32,1,4,(.int .i32 0),true⟩,⟨.slice 67,1,24,(.slice .none 0 0),true⟩,⟨.slice 349,1,24,(.slice .none 0 0),true⟩,⟨.struct [(22,0),(23,1)],2,48,(.agg #[.slice .none 0 0,.slice .none 0 0]),true⟩,⟨.struct [(22,0),(23,1)],2,48,(.agg #[.slice .none 0 0,.slice .none 0 0]),true⟩,⟨.slice 45,1,24,(.slice .none 0 0),true⟩,tF,tF,⟨.slice 39,1,24,(.slice .none 0 0),true⟩,tI,⟨.other,1,0,(.tuple #[.slice .none 0 0,.int .i64 0]),true⟩]
def AdA:List TI := [tF,tF,tF,⟨.slice 3,1,24,(.slice .none 0 0),true⟩,⟨.other,1,0,(.tuple #[.slice .none 0 0,.int .i64 0]),true⟩,tF,tF,⟨.slice 51,1,24,(.slice .none 0 0),true⟩,⟨.other,1,0,(.tuple #[.slice .none 0 0,.int .i64 0]),true⟩,tF,⟨.slice 65,1,24,(.slice .none 0 0),true⟩,⟨.slice 65,1,24,(.slice .none 0 0),true⟩,tiN,⟨.struct [(9,0),(43,1)],2,40,(.agg #[.string ⟨#[]⟩,.slice .none 0 0]),true⟩,tiN,tiN]
def AdB:List TI := [tiN,⟨.struct [(3,0),(3,1),(3,2)],3,24,(.agg #[.int .i64 0,.int .i64 0,.int .i64 0]),true⟩,tiN,⟨.struct [(9,0),(49,1)],4,40,(.agg #[.string ⟨#[]⟩,.int .i64 0,.int .i64 0,.int .i64 0]),true⟩,⟨.slice 9,1,24,(.slice .none 0 0),true⟩,tiN,tiN,tiN,⟨.slice 136,1,24,(.slice .none 0 0),true⟩,⟨.slice 151,1,24,(.slice .none 0 0),true⟩,tiN,⟨.struct [(4,0),(39,1),(56,2),(57,3)],4,80,(.agg #[.bool .false,.slice .none 0 0,.slice .none 0 0,.slice .none 0 0]),true⟩,tiN,tiN,tiN,tiN]
def AdC:List TI := [tiN,⟨.struct [(3,0),(3,1)],2,16,(.agg #[.int .i64 0,.int .i64 0]),true⟩,tiN,⟨.struct [(9,0),(49,1),(26,4),(9,5),(9,6),(9,7),(4,8)],9,120,(.agg #[.string ⟨#[]⟩,.int .i64 0,.int .i64 0,.int .i64 0,.slice .none 0 0,.string ⟨#[]⟩,.string ⟨#[]⟩,.string ⟨#[]⟩,.bool .false]),true⟩,tiN,tiN,tiN,tiN,tF,⟨.ptr 99,1,8,(.pointer .none),true⟩,tiN,tiN,tiN,tiN,tiN,tF]
def AdD:List TI := [tiN,tiN,⟨.ptr 134,1,8,(.pointer .none),true⟩,tiN,tiN,tF,tiN,tF,tiN,tiN,⟨.other,1,0,(.tuple #[.int .i64 0,.bool .false]),true⟩,tiN,⟨.map 9 96,1,8,(.map .none),true⟩,⟨.map 9 43,1,8,(.map .none),true⟩,⟨.slice 149,1,24,(.slice .none 0 0),true⟩,⟨.map 136 3,1,8,(.map .none),true⟩]
def AdE:List TI := [⟨.slice 115,1,24,(.slice .none 0 0),true⟩,⟨.slice 57,1,24,(.slice .none 0 0),true⟩,tiN,⟨.struct [(26,0),(92,1),(93,2),(56,3),(94,4),(95,5),(4,6),(96,7),(39,8),(97,9)],10,176,(.agg #[.slice .none 0 0,.map .none,.map .none,.slice .none 0 0,.slice .none 0 0,.map .none,.bool .false,.slice .none 0 0,.slice .none 0 0,.slice .none 0 0]),true⟩,tiN,tiN,tiN,tF,tiN,tiN,tiN,tiN,tiN,tiN,tiN,tiN]
def AdF:List TI := [tiN,tiN,tiN,⟨.struct [(3,0),(67,1)],10,128,(.agg #[.int .i64 0,.string ⟨#[]⟩,.int .i64 0,.int .i64 0,.int .i64 0,.slice .none 0 0,.string ⟨#[]⟩,.string ⟨#[]⟩,.string ⟨#[]⟩,.bool .false]),true⟩,tiN,⟨.slice 122,1,24,(.slice .none 0 0),true⟩,tiN,tiN,tiN,tiN,⟨.struct [(45,0),(9,2),(3,3),(3,4)],5,72,(.agg #[.string ⟨#[]⟩,.slice .none 0 0,.string ⟨#[]⟩,.int .i64 0,.int .i64 0]),true⟩,tiN,tF,tiN,tiN,tiN]
def AdG:List TI := [⟨.other,1,0,(.tuple #[.string ⟨#[]⟩,.bool .false]),true⟩,tiN,tiN,tiN,tiN,tiN,⟨.struct [(25,0),(26,2),(94,3)],4,96,(.agg #[.slice .none 0 0,.slice .none 0 0,.slice .none 0 0,.slice .none 0 0]),true⟩,tiN,⟨.struct [(3,0),(9,1),(3,2),(3,3),(3,4),(3,5)],6,56,(.agg #[.int .i64 0,.string ⟨#[]⟩,.int .i64 0,.int .i64 0,.int .i64 0,.int .i64 0]),true⟩,tiN,tiN,tF,tiN,tiN,tiN,tiN]
def AdH:List TI := [tiN,tiN,tiN,tiN,⟨.slice 208,1,24,(.slice .none 0 0),true⟩,⟨.slice 208,1,24,(.slice .none 0 0),true⟩,tiN,⟨.struct [(9,0),(3,1),(3,2)],3,32,(.agg #[.string ⟨#[]⟩,.int .i64 0,.int .i64 0]),true⟩,tiN,tiN,tiN,⟨.int .u64,1,8,(.int .u64 0),true⟩,⟨.map 51 67,1,8,(.map .none),true⟩,⟨.map 9 22,1,8,(.map .none),true⟩,tiN,⟨.struct [(156,0),(157,1)],2,16,(.agg #[.map .none,.map .none]),true⟩]
def yF:List TI := [tiN,tiN,tiN,tiN,⟨.map 9 67,1,8,(.map .none),true⟩,tiN,tF,tiN,⟨.map 9 4,1,8,(.map .none),true⟩,tiN,tiN,tiN,tiN,tiN,tiN,tiN]
def yG:List TI := [tiN,tiN,tiN,tiN,⟨.ptr 45,1,8,(.pointer .none),true⟩,tiN,tiN,tiN,tF,tiN,tiN,tiN,tF,tiN,tiN,tiN]
def yH:List TI := [tiN,tiN,tF,tF,tiN,⟨.struct [(194,0),(195,1)],2,16,(.agg #[.nilFunc,.nilFunc]),true⟩,⟨.array 4 197,8,64,(.agg #[.nilFunc,.nilFunc,.nilFunc,.nilFunc,.nilFunc,.nilFunc,.nilFunc,.nilFunc]),true⟩,tiN,tiN,⟨.array 3 3,3,24,(.agg #[.int .i64 0,.int .i64 0,.int .i64 0]),true⟩,tiN,tiN,tiN,tiN,tiN,tiN]
def yI:List TI := [⟨.struct [(9,0),(4,1),(43,2)],3,48,(.agg #[.string ⟨#[]⟩,.bool .false,.slice .none 0 0]),true⟩,tF,tiN,tiN,tiN,tiN,tI,⟨.other,1,0,(.tuple #[.int .i64 0,.int .i64 0]),true⟩,tiN,tiN,tiN,tiN,tiN,⟨.int .u32,1,4,(.int .u32 0),true⟩,tiN,⟨.int .u64,1,8,(.int .u64 0),true⟩]
def yJ:List TI := [tiN,tiN,⟨.slice 4,1,24,(.slice .none 0 0),true⟩,tiN,tiN,tiN,tiN,tiN,tiN,tiN,tF,tiN,tF,tiN,tiN,tiN]
def yK:List TI := [tiN,tiN,tiN,tiN,tiN,tF,⟨.int .u64,1,8,(.int .u64 0),true⟩,tiN,tiN,tiN,⟨.ptr 3,1,8,(.pointer .none),true⟩,tiN,tiN,tiN,tiN,tiN]
def yL:List TI := [⟨.other,1,0,(.tuple #[.agg #[.string ⟨#[]⟩,.bool .false,.slice .none 0 0],.bool .false]),true⟩,tiN,tiN,⟨.slice 43,1,24,(.slice .none 0 0),true⟩,tiN,tiN,tiN,tiN,tiN,tiN,tiN,tiN,tiN,⟨.map 9 208,1,8,(.map .none),true⟩,tiN,tiN]
def yM:List TI := [tF,tiN,⟨.ptr 246,1,8,(.pointer .none),true⟩,⟨.other,1,0,(.tuple #[.int .i64 0,.int .i64 0]),true⟩,tiN,tiN,tiN,tiN,tF,tiN,tiN,tiN,tiN,tiN,tiN,tiN]
def yO:List TI := [⟨.map 3 3,1,8,(.map .none),true⟩,tiN,tiN,tiN,tiN,tiN,⟨.other,1,0,(.tuple #[.int .u32 0,.int .u32 0]),true⟩,tiN,tiN,tiN,⟨.slice 5,1,24,(.slice .none 0 0),true⟩,tiN,tiN,tiN,tiN,tiN]
def yP:List TI := [tiN,tiN,tiN,tiN,tiN,tiN,tiN,tiN,tiN,tiN,tiN,tiN,tiN,tiN,⟨.other,1,0,(.tuple #[.int .i32 0,.int .i64 0]),true⟩,tiN]
def yQ:List TI := [tiN,tiN,tiN,tiN,tiN,⟨.array 256 5,256,256,(.agg (((List.replicate 64 (.int .u8 0)).append (List.replicate 64 (.int .u8 0))).append ((List.replicate 64 (.int .u8 0)).append (List.replicate 64 (.int .u8 0)))).toArray),true⟩,tiN,⟨.struct [(5,0),(5,1)],2,2,(.agg #[.int .u8 0,.int .u8 0]),true⟩,⟨.array 16 327,32,32,(.agg (Array.replicate 32 (.int .u8 0))),true⟩,tiN,tiN,⟨.struct [(17,0),(17,1),(17,2),(9,3)],4,40,(.agg #[.pointer .none,.pointer .none,.pointer .none,.string ⟨#[]⟩]),false⟩,tiN,tiN,⟨.other,0,0,(.agg #[]),false⟩,tiN]
def yS:List TI := [⟨.int .u8,1,1,(.int .u8 0),true⟩,⟨.int .u8,1,1,(.int .u8 0),true⟩,tF,⟨.ptr 5,1,8,(.pointer .none),true⟩,⟨.int .i32,1,4,(.int .i32 0),true⟩,⟨.int .i32,1,4,(.int .i32 0),true⟩,tiN,⟨.struct [(12,0),(12,1),(221,2),(336,3),(5,4),(5,5),(337,6),(338,7),(339,8),(340,9),(341,10)],11,48,(.agg #[.int .u64 0,.int .u64 0,.int .u32 0,.int .u8 0,.int .u8 0,.int .u8 0,.int .u8 0,.nilFunc,.pointer .none,.int .i32 0,.int .i32 0]),false⟩,⟨.slice 357,1,24,(.slice .none 0 0),true⟩,⟨.slice 359,1,24,(.slice .none 0 0),true⟩,⟨.slice 361,1,24,(.slice .none 0 0),true⟩,⟨.slice 363,1,24,(.slice .none 0 0),true⟩,tiN,⟨.struct [(9,0),(344,1),(345,2),(346,3),(347,4)],5,112,(.agg #[.string ⟨#[]⟩,.slice .none 0 0,.slice .none 0 0,.slice .none 0 0,.slice .none 0 0]),true⟩,tiN,⟨.slice 365,1,24,(.slice .none 0 0),true⟩]
def yT:List TI := [⟨.slice 355,1,24,(.slice .none 0 0),true⟩,⟨.slice 367,1,24,(.slice .none 0 0),true⟩,tiN,⟨.struct [(3,0),(9,1),(9,2),(352,3),(353,4)],5,88,(.agg #[.int .i64 0,.string ⟨#[]⟩,.string ⟨#[]⟩,.slice .none 0 0,.slice .none 0 0]),true⟩,tiN,⟨.struct [(9,0),(351,1),(355,2),(355,7)],12,216,(.agg #[.string ⟨#[]⟩,.slice .none 0 0,.int .i64 0,.string ⟨#[]⟩,.string ⟨#[]⟩,.slice .none 0 0,.slice .none 0 0,.int .i64 0,.string ⟨#[]⟩,.string ⟨#[]⟩,.slice .none 0 0,.slice .none 0 0]),true⟩,tiN,⟨.struct [(9,0),(351,1),(355,2)],7,128,(.agg #[.string ⟨#[]⟩,.slice .none 0 0,.int .i64 0,.string ⟨#[]⟩,.string ⟨#[]⟩,.slice .none 0 0,.slice .none 0 0]),true⟩,tiN,⟨.struct [(9,0),(9,1),(9,2)],3,48,(.agg #[.string ⟨#[]⟩,.string ⟨#[]⟩,.string ⟨#[]⟩]),true⟩,tiN,⟨.struct [(9,0),(9,1)],2,32,(.agg #[.string ⟨#[]⟩,.string ⟨#[]⟩]),true⟩,tiN,⟨.struct [(9,0),(3,1),(355,2)],7,112,(.agg #[.string ⟨#[]⟩,.int .i64 0,.int .i64 0,.string ⟨#[]⟩,.string ⟨#[]⟩,.slice .none 0 0,.slice .none 0 0]),true⟩,tiN,⟨.struct [(9,0),(355,1),(4,6)],7,112,(.agg #[.string ⟨#[]⟩,.int .i64 0,.string ⟨#[]⟩,.string ⟨#[]⟩,.slice .none 0 0,.slice .none 0 0,.bool .false]),true⟩]
def tbl:List (List TI) := [Ady,Adz,AdA,AdB,AdC,AdD,AdE,AdF,AdG,AdH,yF,yG,yH,yI,yJ,yK,yL,yM,yO,yP,yQ,yS,yT]
def nK:G0 := fun t => mz dTI (mz [] tbl (t / 16)) (t % 16)
def usedT:List Nat := [0,1,2,3,4,5,6,7,8,9,10,11,12,13,14,15,16,17,18,19,20,21,22,23,24,25,26,27,28,29,30,31,32,33,34,35,36,37,38,39,40,41,42,43,45,49,51,52,56,57,59,65,67,72,73,79,82,85,87,90,92,93,94,95,96,97,99,103,115,117,122,124,128,134,136,139,148,149,151,155,156,157,159,164,166,168,180,184,188,194,195,197,198,201,208,209,214,215,221,223,226,234,236,245,246,250,256,259,269,272,274,275,280,288,294,298,318,325,327,328,331,334,336,337,338,339,340,341,343,344,345,346,347,349,351,352,353,355,357,359,361,363,365,367]
def restT:List Nat := (List.range 368).filter fun t => !usedT.contains t
theorem nL:usedT.map nK = usedT.map (jm Tryz.prog) := by kernel_rfl
theorem tab_rest:restT.map nK = restT.map fun _ => dTI := by kernel_rfl
theorem d8{α:Type}(d:α):∀(l:List α) (n:Nat),l.length <= n -> mz d l n = d
 | [],_,_ => rfl
 |_::_,0,h => by simp at h
 |_::r,n + 1,h => d8 d r n (by simpa using h)
theorem Bz:BY Tryz.prog nK := by
 intro t
 by_cases h:t<368
 .by_cases u:t∈usedT
  .exact .inr (List.map_inj_left.1 nL t u)
  .exact .inl (List.map_inj_left.1 tab_rest t (B6.2 ⟨Ks.2 h,by simpa using u⟩))
 .have h1:mz ([]:List TI) tbl (t / 16) = [] := d8 _ _ _ (by show 23 <= t / 16;omega)
  have h2:nK t = dTI := by unfold nK;rw[h1];rfl
  exact .inl h2
end Go.Eng
namespace Go.Eng
variable {args:List AV}{f:Nat}(vals:List Value)
section
variable {P:Program}
theorem gi {fn : Func}{c : Code}(hf : P.funcs[f]? = some fn)(hn : (fn.name == "runtime.NumGoroutine") = false)(hb : fn.body = some c) : Gr P f := ⟨fn, hf, hn, by simp_all⟩
theorem Ly{res:AV}(v:Value)(hE:Gr P f)(ha:args=vals.map .v)(lM:∀g w,AY g w Fs res v)(h:∀w,(∃m,w.cell? ⟨gB,0,none⟩=some (.int .i64 m))->Calls P f vals.toArray w fun e w'=>e=.returned v/\w'=w):LM P f args res:=by
 refine⟨hE,fun g w us hs hv hI=>?_⟩;have hu:us=vals.toArray:=by
  subst ha;rw[BR]at hs;refine Array.ext aa0 fun i h1 h2=>?_
  have:=hv i (.v (vals[i]' aa0)) us[i] (by simp_all) (by simp_all)
  grind [AY.v_eq]
 subst hu;refine(h w hI.glob.1.2).mono ?_
 rintro e w' ⟨rfl,rfl⟩
 grind [AY.up,Le.refl]
theorem m8{g:Gh}{w:World}:∀(vs:List Value),AY g w Fs (.tup (vs.map .v)) (.tuple vs.toArray):=fun vs=>
 .tup _ _ _ aa1 fun i av x h1 h2=>by
  grind [AY.v]
theorem iL(es:List Value)(T:TypeId)(hE:Gr P f)(ha:args=vals.map .v)(h1:∀x∈es,x.oneCell'=true)(h:∀w,(∃m,w.cell? ⟨gB,0,none⟩=some (.int .i64 m))->Calls P f vals.toArray w fun e w'=>e=.returned (.slice (some ⟨w.heap.size,0,none⟩) es.length es.length)/\w'=w.alloc (.cells es.toArray T)) :
  LM P f args (.slice .none (es.map fun x=>[.v x])):=by
 refine⟨hE,fun g w us hs hv hI=>?_⟩;have hu:us=vals.toArray:=by
  subst ha;rw[BR]at hs;refine Array.ext aa0 fun i h1 h2=>?_
  have:=hv i (.v (vals[i]' aa0)) us[i] (by simp_all) (by simp_all)
  grind [AY.v_eq]
 subst hu;refine(h w hI.glob.1.2).mono ?_
 rintro e w' ⟨rfl,rfl⟩
 have EN:(w.alloc (.cells es.toArray T)).heap[w.heap.size]?=some (.cells es.toArray T (0,0)):=Hj w _ rfl;have bN:∀b,b<w.heap.size->(w.alloc (.cells es.toArray T)).heap[b]?=w.heap[b]?:=fun b hb=>heap_alloc_old _ _ hb;have hK:E9 g w ⟨g.ρ,g.ln,g.tk,g.own,g.more w.heap.size es.length⟩ (w.alloc (.cells es.toArray T)):=fun b o hb=>by
  have E1:=hI.slt b o hb;exact⟨.inl hb,by grind [World.cell?],fun es ck he=>(bN b E1).trans he⟩
 refine⟨_,_,Ae,⟨g.ρ,g.ln,g.tk,g.own,g.more w.heap.size es.length⟩,rfl,⟨rfl,rfl⟩,?_,⟨rfl,rfl,rfl,?_,fun b hb _=>bN b hb,fun b o hs=>?_,fun _=>trivial,fun _ _ _ h=>h.elim,fun _ _ h=>h.elim,fun b o hs=>?_,hI.glob.keep hK⟩,⟨.refl _ _,fun _ h=>h,hK⟩⟩
 .have hr:Ca ⟨g.ρ,g.ln,g.tk,g.own,g.more w.heap.size es.length⟩ (w.alloc (.cells es.toArray T)) Fs (es.map fun x=>[AV.v x]).flatten (es.toArray.toList.take ((es.map fun x=>[AV.v x]).length*1)):=by
   have hfl:∀l:List Value,(l.map fun x=>[AV.v x]).flatten=l.map .v:=fun l=>by
    induction l<;>simp_all
   rw[hfl];simp only[BR,Nat.mul_one,F3];refine⟨by simp,fun x hx=>h1 x aa0,fun i av x q1 q2=>?_⟩
   grind [AY.v]
  have:=AY.slice_row (U:=Az Ae) (cap:=es.length) (sz:=1) (es:=es.map fun x=>[AV.v x]) EN (fun cs hcs=>by
   grind) aa1 hr (fun o ho=>.inr ⟨rfl,by simp_all⟩)
  simp_all
 .simp_all
 .rw[World.size_alloc];rcases hs with hs | ⟨rfl,_⟩
  .have:=hI.slt b o hs;omega
  .omega
 .rcases hs with hs | ⟨rfl,_⟩<;>simp_all
end
end Go.Eng
namespace Go.Eng
open Go.Sort
section
variable {P:Program}
theorem Kn(F c:Array Value)(h:F.size<=c.size):(putCells id 0 F c).toList.take F.size=F.toList/\(putCells id 0 F c).size=c.size:=by
 have hs:(putCells id 0 F c).size=c.size:=by simp[putCells]
 refine⟨?_,hs⟩;apply CR
 grind [putCells]
theorem Oc(r:Nat)(o o' : HO):AC (Af [(r,o)] Ae) r o'=Af [(r,o')] Ae:=by
 grind [AS,Af,BN,CC,Nat.beq_refl]
theorem Vz{f:Nat}{es:List (List AV)}{sz:Nat}{rest:List Value}{Q:List (List AV)->Prop}(hE:Gr P f)
  (h0:es=[]->Q []/\∀w,Calls P f (#[.slice none 0 0]++rest.toArray) w fun e w'=>e=.returned (.tuple #[])/\w'=w)
  (h1:∀(g:Gh) (w:World) (b cap:Nat) (F:Array Value),Ca g w Fs es.flatten F.toList->F.size=es.length*sz->Holds id w b 0 F->b<w.heap.size->Calls P f (#[.slice (some ⟨b,0,none⟩) es.length cap]++rest.toArray) w fun e w'=>
   e=.returned (.tuple #[])/\∃(F' : Array Value) (E7 : List (List AV)) (n:Nat) (os:Array Obj),F'.size=F.size/\Q E7/\E7.length=es.length/\(∀cs∈E7,cs.length=sz) /\
    (∀(g:Gh) (w:World),Ca g w Fs es.flatten F.toList->Ca g w Fs E7.flatten F'.toList)/\w'=grow (putRow id (Sort.ahead w n) b 0 F') os) :
  A6 P f (.msl 1000 es.length::rest.map .v) (Af [(1000,.arr sz es)] Ae) fun r h'=>r=.tup []/\∃E7,Q E7/\h'=Af [(1000,.arr sz E7)] Ae:=by
 refine⟨hE,fun g w us hs hv hI=>?_⟩;have ho:=hI.objs 1000;have he:Af [(1000,HO.arr sz es)] Ae 1000=.arr sz es:=rfl;rw[he]at ho;obtain⟨t1,l1,al,a2⟩:=ho;simp only[BF,BR]at hs
 -- the arguments
 have yc:0<us.size:=by omega
 have jA:=hv 0 (.msl 1000 es.length) us[0] rfl (CK yc);have Oe:us[0]=g.ρ 1000:=by
  grind [cases AY]
 have Mz:us=#[g.ρ 1000]++rest.toArray:=by
  refine Array.ext (by simp_all) fun i h1 h2=>?_;cases i with
  |zero=>simp_all
  |succ i=>
   have hi:i<rest.length:=by omega
   have:=hv (i+1) (.v rest[i]) us[i+1] (by simp_all) (CK h1)
   rw[this.v_eq];simp
 rw[Mz];rcases a2 with ⟨b1,b2,b3⟩ | ⟨b,cap,E,vs,b1,b2,b3,b4,b5,b6,b7⟩
 .subst b1;obtain⟨q,h0⟩:=h0 rfl;rw[b2];refine(h0 w).mono ?_
  rintro e w' ⟨rfl,rfl⟩
  grind [AY.tup,Le.refl]
 .have hl:(Af [(1000,HO.arr sz es)] Ae 1000).live:=trivial;have E1:=(hI.loc 1000 b hl b2).1;have IF:es.length*sz<=vs.size:=by rw[b5];exact Bx _ b3
  have hF:((vs.toList.take (es.length*sz)).toArray).size=es.length*sz:=by simp_all
  have hH:Holds id w b 0 (vs.toList.take (es.length*sz)).toArray:=fun j hj=>by
   grind [World.cell?,World.frozen?]
  rw[b1];refine(h1 g w b cap _ aa0 hF hH E1).mono ?_
  rintro e w' ⟨rfl,F',E7,n,os,f1,f2,f3,f4,f5,rfl⟩
  have th : F'.size=es.length*sz:=f1.trans hF;have vt:=Kn F' vs aa0;have nY : (grow (putRow id (Sort.ahead w n) b 0 F') os).heap[b]?=some (.cells (putCells id 0 F' vs) E (0,0)):=by
   rw[heap_grow_old _ _ (by simp_all)];show(w.heap.modify b (onCells (putCells id 0 F')))[b]?=_;rw[Array.getElem?_modify,AX rfl,b4];rfl
  have tG:∀k,k<w.heap.size->k≠b->(grow (putRow id (Sort.ahead w n) b 0 F') os).heap[k]?=w.heap[k]?:=fun k hk D8=>by
   rw[heap_grow_old _ _ (by simp_all)];simp[putRow,mapBlock,Array.getElem?_modify,Ne.symm D8]
  have FG:w.heap.size<=(grow (putRow id (Sort.ahead w n) b 0 F') os).heap.size:=by simp_all
  obtain⟨k1,k2⟩:=hI.upd 1000 (.arr sz E7) (g.ρ 1000) (g.ln 1000) (g.tk 1000) (g.own 1000) g.S (grow (putRow id (Sort.ahead w n) b 0 F') os) (some b) ⟨rfl,rfl,rfl,FG⟩
   (fun k hk D8=>tG k hk (fun e=>D8 (by rw[e]))) (fun b' e=>by cases e;exact⟨hl,b2⟩) (fun _ _ h=>h) (fun _ _ h=>.inl h) (fun b' o e hs=>by cases e;exact absurd hs (b7 o))
   (fun b' _ e=>by rw[b2]at e;cases e;exact⟨Cp E1 FG,.inl ⟨hl,b2⟩⟩) aa1 (fun _=>⟨rfl,Ao _,fun _=>rfl,fun _=>rfl⟩) (fun hg hk=>by
    refine⟨by simp[Gh.upd,t1],by simp[Gh.upd,l1,f3],f4,.inr ⟨b,cap,E,_,by simp[Gh.upd,b1,f3],by simp[Gh.upd,b2],by omega,nY,by rw[vt.2,b5],?_,b7⟩⟩
    have:=f5 g w (by simpa using b6)
    rw[f3,<-th,vt.1];exact this.mono hk (fun _ h=>h) (fun _ h=>h.elim))
  rw[Oc]at k1 k2;exact⟨_,.tup [],_,_,rfl,⟨rfl,E7,f2,rfl⟩,.tup _ _ _ rfl (fun i av x h=>by simp at h),k1,k2⟩
end
end Go.Eng
namespace Go.Eng
open Go.Sort Go.Proofs
variable {α β:Type}{k:Nat}
theorem RH{g:Gh}{w:World}{U:Nat->Prop}{cs dt : List AV}{vs fe : List Value}(h:vs.length=cs.length):Ca g w U (cs++dt) (vs++fe)↔Ca g w U cs vs/\Ca g w U dt fe:=by
 constructor
 .intro⟨h1,h2,h3⟩;refine⟨⟨h,fun x hx=>h2 x (Bw _ hx),fun i av x q1 q2=>?_⟩,⟨by simp_all,fun x hx=>h2 x (B8 _ hx),fun i av x q1 q2=>?_⟩⟩
  .have a1:=(Bb.1 q1).1;have a2:=(Bb.1 q2).1;exact h3 i av x (by grind) (by grind)
  .exact h3 (cs.length+i) av x (by grind) (by grind)
 .intro⟨⟨h1,h2,h3⟩,k1,k2,k3⟩;refine⟨by simp_all,fun x hx=>(Bc.1 hx).elim (h2 x) (k2 x),fun i av x q1 q2=>?_⟩
  grind
theorem QK{α β:Type}{g:Gh}{w:World}{U:Nat->Prop}{Dg:β->List AV}{enc:α->List Value}(hl:∀x y,(enc x).length=(Dg y).length):∀ps:List (β×α),
  Ca g w U (ps.map fun p=>Dg p.1).flatten (ps.map fun p=>enc p.2).flatten↔∀p∈ps,Ca g w U (Dg p.1) (enc p.2)
 | []=>by simp[Ca]
 |p::ps=>by
  simp only[Bv,Cj];rw[RH (hl _ _),QK hl ps];simp
theorem MM{f:α->β}:∀{m m' : List β},m.Perm m'->∀ps:List α,ps.map f=m->∃mY : List α,mY.Perm ps/\mY.map f=m':=by
 intro m m' h
 induction h with
 |nil=>simp_all
 |cons x h ih=>
  intro ps e;cases ps with
  |nil=>cases e
  |cons p ps=>
   rw[Bv]at e
   injection e with e1 e2
   obtain⟨mY,h1,h2⟩:=ih ps e2;exact⟨p::mY,h1.cons p,by simp_all⟩
 |swap x y l=>
  intro ps e
  match ps,e with
  |p::q::ps,e=>
   grind [List.Perm.swap]
 |trans h1 h2 ih1 ih2=>
  grind [List.Perm.trans]
theorem Tt[Inhabited α]{enc:α->List Value}(hk:∀x,(enc x).length=k)(d:Array α):(flatK enc k d).toList=(d.toList.map enc).flatten:=by
 have hl:∀cs∈d.toList.map enc,cs.length=k:=fun cs hcs=>by
  grind
 have CD:(d.toList.map enc).flatten.length=d.size*k:=by
  have:∀l:List α,(l.map enc).flatten.length=l.length*k:=fun l=>by
   induction l<;>grind [Nat.succ_mul]
  simp_all
 apply CR;intro t
 by_cases ht:t<d.size*k
 .have k0:0<k:=Nat.pos_of_ne_zero fun h=>by simp_all
  have h1:t / k<d.size:=by rw[Nat.div_lt_iff_lt_mul k0];exact ht
  have h2:t % k<k:=Nat.mod_lt _ k0;have e:t=t / k*k+t % k:=by grind [Nat.div_add_mod]
  rw[CB,CK (by simpa using ht),<-getElem!_pos _ t (by simpa using ht),get_flatK _ _ _ _ ht]
  grind [FD]
 simp_all
theorem zip_fst{α β:Type}:∀{l:List α} {m:List β},l.length=m.length->(l.zip m).map (·.1)=l/\(l.zip m).map (·.2)=m
 | [],[],_=>⟨rfl,rfl⟩
 |a::l,b::m,h=>by
  have:=zip_fst (l:=l) (m:=m) (by simp_all)
  simp_all
section
variable {P:Program}
theorem Jm[Inhabited α]{f:Nat}{rest:List Value}(hE:Gr P f)(Dg:β->List AV)(enc:α->List Value)(hB:∀x,(Dg x).length=k)(hk:∀x,(enc x).length=k)(lt:α->α->Bool)(R:β->α->Prop)(l:List β)(hl:l.length<4611686018427387904)(hR:∀x∈l,∀(g:Gh) (w:World) (vs:List Value),Ca g w Fs (Dg x) vs->∃a,enc a=vs/\R x a)(CV:∀(w:World) (b cap:Nat) (d:Array α),HoldsK enc k w b 0 d->b<w.heap.size->d.size<4611686018427387904->d.size=l.length->Calls P f (#[.slice (some ⟨b,0,none⟩) d.size cap]++rest.toArray) w fun e w'=>
   e=.returned (.tuple #[])/\∃d' n os,PermIn 0 d.size d d'/\SortedIn lt 0 d.size d'/\w'=sortWorldK enc k w b 0 n d' os)(AeW:l=[]->∀w:World,Calls P f (#[.slice none 0 0]++rest.toArray) w fun e w'=>e=.returned (.tuple #[])/\w'=w) :
  A6 P f (.msl 1000 l.length::rest.map .v) (Af [(1000,.arr k (l.map Dg))] Ae) fun r h'=>
   r=.tup []/\∃l' : List β,l'.Perm l/\(∃al:List α,al.length=l'.length/\(∀(i:Nat) (x:β) (a:α),l'[i]?=some x->al[i]?=some a->R x a)/\al.Pairwise (fun x y=>lt y x=false))/\h'=Af [(1000,.arr k (l'.map Dg))] Ae:=by
 have KI:=Vz (P:=P) (f:=f) (es:=l.map Dg) (sz:=k) (rest:=rest)
  (Q:=fun E7=>∃l' : List β,l'.Perm l/\(∃al:List α,al.length=l'.length/\(∀(i:Nat) (x:β) (a:α),l'[i]?=some x->al[i]?=some a->R x a)/\al.Pairwise (fun x y=>lt y x=false))/\E7=l'.map Dg) hE ?_ ?_
 .grind
 .simp_all
 .intro g w b cap F hr hF hH hb
  -- the elements in memory
  have tQ:∀(m:List β) (vs:List Value),(∀x∈m,x∈l)->Ca g w Fs (m.map Dg).flatten vs->∃al:List α,al.length=m.length/\vs=(al.map enc).flatten/\∀(i:Nat) (x:β) (a:α),m[i]?=some x->al[i]?=some a->R x a:=by
   intro m
   induction m with
   |nil=>
    intro vs _ h
    have:vs=[]:=Aw (by simpa using h.1)
    simp_all
   |cons x m ih=>
    intro vs hm h;rw[Bv,Cj]at h;have CD:=h.1;rw[Ay,hB]at CD;have e:vs=vs.take k++vs.drop k:=(List.take_append_drop k vs).symm;rw[e]at h;rw[RH (by grind)]at h;obtain⟨a,a1,a2⟩:=hR x (hm x (Ah ..)) g w _ h.1;obtain⟨al,b1,b2,b3⟩:=ih _ (fun y hy=>hm y (Ai _ hy)) h.2;refine⟨a::al,by grind,by grind,fun i y c q1 q2=>?_⟩
    grind
  obtain⟨al,s1,s2,s3⟩:=tQ l F.toList (fun _ h=>h) hr;have hFd:F=flatK enc k al.toArray:=Array.toList_inj.1 (by grind [Tt]);have hd:HoldsK enc k w b 0 al.toArray:=by grind [HoldsK]
  have hc:=CV w b cap al.toArray hd hb (by simp_all) aa0;have FG:al.toArray.size=(l.map Dg).length:=by simp_all
  rw[FG]at hc;refine hc.mono ?_
  rintro e w' ⟨rfl,d',n,os,p1,p2,rfl⟩
  obtain⟨z1,z2⟩:=zip_fst s1.symm;obtain⟨AcH,_,J6⟩:=p1;have AcH : d'.size=al.length:=by omega
  have e1:d'.extract 0 (l.map Dg).length=d':=by simp_all
  have e2:al.toArray.extract 0 (l.map Dg).length=al.toArray:=by grind
  rw[e1,e2]at J6;have J6:al.Perm d'.toList:=by
   first
   |exact J6.symm
   |exact J6
   |(have:=J6.symm;simpa using this)
  obtain⟨mY,r1,r2⟩:=MM J6 (l.zip al) z2;have rel:∀p∈l.zip al,R p.1 p.2:=fun p hp=>by
   obtain⟨i,hi⟩:=Eg.1 hp;rw[List.getElem?_zip_eq_some]at hi
   grind
  refine⟨rfl,flatK enc k d',(mY.map (·.1)).map Dg,n,os,by simp_all,⟨mY.map (·.1),?_,⟨d'.toList,by grind,fun i x a q1 q2=>?_,?_⟩,rfl⟩,by have:=r1.length_eq;simp_all,fun cs hcs=>?_,fun g w hr=>?_,?_⟩
  .grind
  .rw[<-r2]at q2;rw[BA,B3]at q1 q2;obtain⟨p,q1,rfl⟩:=q1
   grind
  .rw[Dm];intro i j hi hj aC;have OH : i<d'.size:=by omega
   have zz : j<d'.size:=by omega
   have:=p2 i j (Ap _) aC aa0
   simp_all
  .obtain⟨x,_,rfl⟩:=Ar.1 hcs;simp_all
  .have h1:Ca g w Fs ((l.zip al).map fun p=>Dg p.1).flatten ((l.zip al).map fun p=>enc p.2).flatten:=by
    have a1:(l.zip al).map (fun p=>Dg p.1)=l.map Dg:=by
     have:(l.zip al).map (fun p=>Dg p.1)=((l.zip al).map (·.1)).map Dg:=by rw[B2];rfl
     simp_all
    have a2:(l.zip al).map (fun p=>enc p.2)=al.map enc:=by
     have:(l.zip al).map (fun p=>enc p.2)=((l.zip al).map (·.2)).map enc:=by rw[B2];rfl
     simp_all
    simp_all
   have CD:∀(x:α) (y:β),(enc x).length=(Dg y).length:=fun x y=>by simp_all
   rw[QK CD]at h1;have h2:=(QK (g:=g) (w:=w) (U:=Fs) CD mY).2 fun p hp=>h1 p (r1.mem_iff.1 hp);have b1:(mY.map (·.1)).map Dg=mY.map fun p=>Dg p.1:=by simp_all
   have b2:(flatK enc k d').toList=(mY.map fun p=>enc p.2).flatten:=by
    rw[Tt hk,<-r2,B2];rfl
   grind
  .rfl
end
end Go.Eng
namespace Go.Eng
section
variable {P:Program}
theorem Bi{f:Nat}{fn:Func}{c:Code}{args:List AV}{H0:List (Nat×HO)}{Q:AV->(Nat->HO)->Prop}(cx:Cx)(σ:HJ)(hP:cx.P=P)(hT:BY P cx.T)(hm:P.follows .mixedOrders=true)(hx:cx.ext=true)(hf:P.funcs[f]?=some fn)
  (hn : (fn.name == "runtime.NumGoroutine") = false) (hb : fn.body = some c) (hN : args.length <= fn.ntmps) (hc : Dr fn.ntmps c = true) (hσ : (EU σ && FJ σ H0) = true)
  (hk:M0 cx c (Vc cx fn.results.toList σ fun r h'=>∃r',Ea r r'/\Q r' h') ⟨L6 args,Af H0 Ae⟩) (hY:∀l σ g w,cx.yp l σ g w:=by exact fun _ _ _ _=>trivial):A6 P f args (Af H0 Ae) Q:=
 (kN cx σ hP hT hm hx hf hn hb hN hc hσ hk hY).mono fun _ _ ⟨r',s,q⟩=>⟨r',s,q⟩
end
end Go.Eng
