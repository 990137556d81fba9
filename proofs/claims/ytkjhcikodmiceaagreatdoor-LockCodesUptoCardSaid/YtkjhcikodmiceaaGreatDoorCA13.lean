/- Lemmas 13. -/
import Derived.Test.YtkjhcikodmiceaaGreatDoorCA12
import Derived.Below
import Derived.Sort.Grow
import Derived.Shelf.GgSortFunc.InsertionK
import Derived.ReadAgain
import Derived.RowKit
namespace Go.Eng
abbrev Ap5:=List AV
abbrev Ap6:=List Value
abbrev Ap7:=List (Nat×HO)
variable {fn:Func}{c:Code}{f:Nat}{K:AV->Prop}{res:AV}(cx:Cx)(vals:Ap6)(r:AV)(σ:I7)
section
variable {P:Program}{N:Nat}{ds:List Deferred}{w0:World}{g0:D}{h0:Nat->HO}{st:St}{g:D}{a:Act}{w:World}
theorem dR{T:GL}(hT:B8 P T){h:Nat->HO}(ho:∀r,DE g w (L h) r (h r)){t:Nat}{p:AV}{vp:Value}(hp:O g w (L h) p vp)(hk:JN T h t p K) :
  ∃ad,(asAddr vp).run P w=.ok ad w/\Bm P h g w (loadVar t ad) K:=by
 obtain⟨x,av,h1,h2,h3⟩:=Yx ho hT hp hk;have fin:∀b off,vp=.pointer (some ⟨b,off,none⟩)->∃ad,(asAddr vp).run P w=.ok ad w/\Bm P h g w (loadVar t ad) K:=by
  rintro b off rfl
  refine⟨⟨b,off,none⟩,by simp[asAddr],x,av,?_,h2,h3⟩
  grind [Instr.loadAt,Instr.sureAddr]
 unfold JN at hk;split at hk
 all_goals grind [cases O]
def je(tmps:Array Value):ResultVar->Sem Value
 |.tmp t=>pure (tmps.getD t undef)
 |.cell ad t=>do loadVar t (<-asAddr (tmps.getD ad undef))
theorem Px(fn:Func)(tmps:Array Value):results fn tmps=(do
 let vs <-fn.results.mapM (je tmps)
 pure (if h:vs.size=1 then vs[0]else .tuple vs)):=rfl
theorem aY{cx:Cx}(hT:B8 P cx.T)(hS:SR N ds w0 g0 h0 st g a w):∀(rs:List ResultVar) {K:Ap5->Prop},xQ cx.T st rs K ->
  ∃l vs,K l/\(rs.mapM (je a.tmps)).run P w=.ok vs w/\vs.length=l.length/\vs.length=rs.length /\
   ∀(i:Nat) (av:AV) (x:Value),l[i]?=some av->vs[i]?=some x->O g w DS av x
 | [],K,hk=>⟨[],[],hk,by simp,rfl,rfl,fun i av x h=>by simp_all⟩
 |.tmp t::r,K,hk=>by
  obtain⟨l,vs,h1,h2,h3,h4,h5⟩:=aY hT hS r hk;refine⟨_,a.tmps.getD t undef::vs,h1,?_,by simp_all,by simp_all,fun i av x q1 q2=>?_⟩
  .grind [je,Sem.run_bind,Sem.run_pure,Result.andThen_ok]
  .cases i with
   |zero=>
    simp only[GT,Ey]at q1 q2;subst q1;subst q2;exact O.str hS.inv.objs (hS.slots t)
   |succ i=>grind
 |.cell ad t::r,K,hk=>by
  obtain⟨addr,e1,x0,av0,e2,hk',e4⟩:=dR hT hS.inv.objs (hS.slots ad) hk;obtain⟨l,vs,h1,h2,h3,h4,h5⟩:=aY hT hS r hk';refine⟨_,x0::vs,h1,?_,by simp_all,by simp_all,fun i av x q1 q2=>?_⟩
  .grind [je,Sem.run_bind,Sem.run_pure,Result.andThen_ok]
  .cases i with
   |zero=>
    simp only[GT,Ey]at q1 q2;subst q1;subst q2;exact O.str hS.inv.objs e4
   |succ i=>grind
theorem lz{cx:Cx}(hT:B8 P cx.T)(hS:SR N ds w0 g0 h0 st g a w)(hk:te cx st fn.results.toList K) :
  ∃g' r v h',K r/\(results fn a.tmps).run P w=.ok v w/\CH w0 g0 h0 h' g' w/\Le h0 g0 w0 h' g' w/\O g' w DS r v:=by
 obtain⟨g',i1,i2⟩:=NT cx.pl.fin hS.inv;have Pe : SR N ds w0 g0 h0 ⟨st.t,Qw st.h cx.pl.fin⟩ g' a w:=⟨i1,hS.le.trans i2,hS.dfs,hS.size,fun i=>(hS.slots i).le i2⟩;obtain⟨l,vs,h1,h2,h3,h4,h5⟩:=aY hT Pe _ hk;have CV:(results fn a.tmps).run P w=.ok (if h:vs.toArray.size=1 then vs.toArray[0]else .tuple vs.toArray) w:=by
  rw[Px,show fn.results=fn.results.toList.toArray by simp,List.mapM_toArray];simp_all
 refine⟨g',?_⟩
 match l,vs,h1,h3,h5,CV with
 | [v],[x],h1,h3,h5,CV=>exact⟨v,x,_,h1,by simp_all,i1,Pe.le,h5 0 v x rfl rfl⟩
 | [],vs,h1,h3,h5,CV=>
  have:vs=[]:=AI h3
  subst this;exact⟨.tup [],.tuple #[],_,h1,by simp_all,i1,Pe.le,.tup _ _ _ rfl fun i av x q=>by simp_all⟩
 |v::v' :: l,vs,h1,h3,h5,CV=>
  refine⟨.tup (v::v' :: l),.tuple vs.toArray,_,h1,?_,i1,Pe.le,.tup _ _ _ I fun i av x q1 q2=>h5 i av x q1 aa0⟩;simp_all
theorem CH.toFree(hI:CH w0 g0 Ab st.h g w):CH w0 g0 Ab Ab g w:=
 ⟨hI.os,hI.tape,hI.output,hI.size,hI.frame,hI.slt,fun _=>trivial,fun _ _ _ h=>h.elim,fun _ _ h=>h.elim,hI.sg,hI.glob⟩
theorem Qn{U:Nat->Prop}{n:Nat}:∀{args:Ap5} {vals:Ap6},vals.length=args.length->(∀(i:Nat) (av:AV) (x:Value),args[i]?=some av->vals[i]?=some x->O g w U av x) ->
  ∀i,O g w U (Qm args i) ((vals++List.replicate n undef).getD i undef)
 | [],[],_,_,i=>by
  have:(([]:Ap6)++List.replicate n undef).getD i undef=undef:=by
   grind
  rw[this];exact .v _ _
 | [],_::_,h,_,_=>by simp_all
 |_::_,[],h,_,_=>by simp_all
 |x::l,v::vs,h,hr,i=>by
  cases i with
  |zero=>exact hr 0 x v rfl rfl
  |succ i=>
   have:=Qn (n:=n) (args:=l) (vals:=vs) aa0 (fun i av x q1 q2=>hr (i+1) av x aa0 aa0) i
   grind [Qm]
theorem p7 {f : Nat}{args : Ap5}{Q : AV -> Prop}(hP : cx.P=P)(hT : B8 P cx.T)(hm : P.follows .mixedOrders=true)(hx : cx.ext=false)(hf : P.funcs[f]?=some fn)(hn : (fn.name == "runtime.NumGoroutine")=false)(hb:fn.body=some c)(hN:args.length<=fn.ntmps)(hc:D4 fn.ntmps c=true)(hk:Tn cx c (wj cx fn.results.toList Q) ⟨Qm args,Ab⟩)(hY:∀l σ g w,cx.yp l σ g w:=by exact fun _ _ _ _=>trivial):A1 P f args Ab fun r h'=>h'=Ab/\Q r:=by
 refine⟨⟨fn,hf,hn,by simp_all⟩,fun g w vals hs hv hI=>calls_of_wp hf hb ?_⟩;have hU:L Ab=DS:=by grind [L,DS,Ab]
 have hS:SR fn.ntmps [] w g Ab ⟨Qm args,Ab⟩ g { tmps:=vals++Array.replicate (fn.ntmps-vals.size) undef,defers:=[] } w:=by
  refine⟨hI,.refl _ _ _,rfl,by simp_all,fun i=>?_⟩
  have:=Qn (n:=fn.ntmps-vals.size) (args:=args) (vals:=vals.toList) I (fun i av x q1 q2=>hv i av x q1 aa0) i
  grind [Array.getD_eq_getD_getElem?,Array.toList_append,Array.toList_replicate]
 refine wpIn_wide.1 (MU hP hT hm (by unfold Kb;rw[hx];exact fun _=>rfl) (fun l σ _ _ w _ _ _=>hY l σ _ w) none c hc (fun e st g' a w' hk hS=>?_) hS hk);have out:te cx st fn.results.toList Q->a.defers=[]/\∃v,(results fn a.tmps).run P w'=.ok v w'/\∃v' r h' g',(Ending.returned v:Ending)=.returned v'/\(h'=Ab/\Q r)/\O g' w' (L h') r v'/\CH w g Ab h' g' w'/\Le Ab g w h' g' w':=by
  intro hk;obtain⟨g2,r,v,h',q1,q2,q3,q4,q5⟩:=lz hT hS hk;exact⟨hS.dfs,v,q2,v,r,Ab,g2,rfl,⟨rfl,q1⟩,by simp_all,CH.toFree (st:=⟨st.t,h'⟩) q3,⟨fun i hi=>absurd rfl hi,fun i hi=>absurd rfl hi,q4.keeps⟩⟩
 cases e with
 |normal=>exact out hk
 |ret=>exact out hk
 |exit id=>exact hk.elim
theorem UI{cx:Cx}(hT:B8 P cx.T)(hS:SR N ds w0 g0 h0 st g a w):∀(rs:List ResultVar) {K:Ap5->Prop},xS cx.T st rs K ->
  ∃l vs,K l/\(rs.mapM (je a.tmps)).run P w=.ok vs w/\vs.length=l.length/\vs.length=rs.length /\
   ∀(i:Nat) (av:AV) (x:Value),l[i]?=some av->vs[i]?=some x->O g w (L st.h) av x
 | [],K,hk=>⟨[],[],hk,by simp,rfl,rfl,fun i av x h=>by simp_all⟩
 |.tmp t::r,K,hk=>by
  obtain⟨l,vs,h1,h2,h3,h4,h5⟩:=UI hT hS r hk;refine⟨_,a.tmps.getD t undef::vs,h1,?_,by simp_all,by simp_all,fun i av x q1 q2=>?_⟩
  all_goals grind [je,Sem.run_bind,Sem.run_pure,Result.andThen_ok,SR.slots]
 |.cell ad t::r,K,hk=>by
  obtain⟨addr,e1,x0,av0,e2,hk',e4⟩:=dR hT hS.inv.objs (hS.slots ad) hk;obtain⟨l,vs,h1,h2,h3,h4,h5⟩:=UI hT hS r hk';refine⟨_,x0::vs,h1,?_,by simp_all,by simp_all,fun i av x q1 q2=>?_⟩
  all_goals grind [je,Sem.run_bind,Sem.run_pure,Result.andThen_ok]
theorem Fz{σ:I7}:∀{H0:Ap7},HX σ H0=true->∀i,Ah H0 Ab i≠.free->1000<=i/\i<2000/\Ck σ i=some i
 | [],_,i,h=>absurd rfl h
 |(a,o)::r,hx,i,h=>by
  simp only[HX,Ao,PP,FS]at hx;obtain⟨⟨⟨h1,h2⟩,h3⟩,h4⟩:=hx
  by_cases e:i=a
  .grind [Nat.eq_of_beq_eq_true]
  .unfold Ah at h;simp only[Dw e,GG]at h;exact Fz h4 i h
theorem NQ{H0:Ap7}{σ:I7}(hσ:GD σ=true)(hx:HX σ H0=true){h:Nat->HO}(hI:CH w0 g0 (Ah H0 Ab) h g w)(hL:Le (Ah H0 Ab) g0 w0 h g w) :
  Ga (Ck σ) h (Fv σ h) g (DA σ g) w/\CH w0 g0 (Ah H0 Ab) (Fv σ h) (DA σ g) w/\Le (Ah H0 Ab) g0 w0 (Fv σ h) (DA σ g) w:=by
 have inv:=aE hσ;have FA:∀j,Fv σ h j=match Il σ j with | some i=>(h i).ren (Ck σ) h | none=>.free:=QX _ _ σ
 have hR:Ga (Ck σ) h (Fv σ h) g (DA σ g) w:=by
  refine⟨fun r r' hr hu=>?_,fun b o=>Iff.rfl,hI.objs⟩
  grind [DA,L,Ny]
 have M9:∀j,(Fv σ h j).live->∃i,Il σ j=some i/\(h i).live:=fun j hl=>by
  rw[FA]at hl;cases e:Il σ j with
  |none=>rw[e]at hl;exact hl.elim
  |some i=>grind [Nx]
 have Ph:∀j i,Il σ j=some i->(DA σ g).own j=g.own i:=fun j i e=>by simp[DA,e]
 refine⟨hR,⟨hI.os,hI.tape,hI.output,hI.size,hI.frame,hI.slt,fun j=>?_,fun j j' b hl RV e e'=>?_,fun j b hl e=>?_,hI.sg,hI.glob⟩,⟨fun i hi=>?_,fun i hi=>?_,hL.keeps⟩⟩
 .rw[FA];cases e:Il σ j with
  |none=>trivial
  |some i=>
   by_cases hu:L h i
   .grind [DE.ren,CH.objs]
   .have:h i=.free:=BP.1 hu
    dsimp only;rw[this];trivial
 .obtain⟨i,e1,l1⟩:=M9 j hl;obtain⟨i',e2,l2⟩:=M9 j' RV;rw[Ph j i e1]at e;rw[Ph j' i' e2]at e';obtain rfl:=hI.inj i i' b l1 l2 e e'
  have:=(inv i j).2 e1
  rw[(inv i j').2 e2]at this;simp_all
 .obtain⟨i,e1,l1⟩:=M9 j hl;rw[Ph j i e1]at e;exact hI.loc i b l1 e
 .obtain⟨_,_,hf⟩:=Fz hx i hi;have hb:=(inv i i).1 hf;have e1:(DA σ g).ρ i=g.ρ i/\(DA σ g).ln i=g.ln i/\(DA σ g).tk i=g.tk i:=by grind [DA]
  obtain⟨k1,k2,k3,k4⟩:=hL.gh i hi<;>simp_all
 .obtain⟨_,_,hf⟩:=Fz hx i hi;have hb:=(inv i i).1 hf;unfold L;rw[FA,hb];exact(Ny _ _ _).2 (hL.us i hi)
theorem de{f:Nat}{args:Ap5}{H0:Ap7}{Q:AV->(Nat->HO)->Prop}(hP:cx.P=P)(hT:B8 P cx.T)(hm:P.follows .mixedOrders=true)(hx:cx.ext=true)(hf:P.funcs[f]?=some fn)(_hn : (fn.name == "runtime.NumGoroutine")=false)(hb : fn.body=some c)(hN : args.length <= fn.ntmps)(hc : D4 fn.ntmps c=true)(hσ : (GD σ && HX σ H0)=true)(hk:Tn cx c (cN cx fn.results.toList σ Q) ⟨Qm args,Ah H0 Ab⟩){g:D}{w:World}{vals:Array Value}(hs:vals.size=args.length)(hv:∀(i:Nat) (av:AV) (x:Value),args[i]?=some av->vals[i]?=some x->O g w (L (Ah H0 Ab)) av x)(hI:CH w g (Ah H0 Ab) (Ah H0 Ab) g w)(hY:∀l σ h' g' w',Ea σ=true->CH w g (Ah H0 Ab) h' g' w'->Le (Ah H0 Ab) g w h' g' w'->cx.yp l σ (DA σ g') w') :
  Calls P f vals w fun e w'=>∃v r h' g',e=.returned v/\Q r h'/\O g' w' (L h') r v/\CH w g (Ah H0 Ab) h' g' w'/\Le (Ah H0 Ab) g w h' g' w':=by
 simp only[Ao]at hσ;obtain⟨hσ,hxo⟩:=hσ;refine calls_of_wp hf hb ?_;have hS:SR fn.ntmps [] w g (Ah H0 Ab) ⟨Qm args,Ah H0 Ab⟩ g { tmps:=vals++Array.replicate (fn.ntmps-vals.size) undef,defers:=[] } w:=by
  refine⟨hI,.refl _ _ _,rfl,by simp_all,fun i=>?_⟩
  have:=Qn (n:=fn.ntmps-vals.size) (args:=args) (vals:=vals.toList) I (fun i av x q1 q2=>hv i av x q1 aa0) i
  grind [Array.getD_eq_getD_getElem?,Array.toList_append,Array.toList_replicate]
 refine wpIn_wide.1 (MU hP hT hm (by unfold Kb;rw[hx];exact fun i hi=>⟨(Fz hxo i hi).1,(Fz hxo i hi).2.1⟩) hY none c hc (fun e st g' a w' hk hS=>?_) hS hk);have out:oH cx st fn.results.toList σ Q->a.defers=[]/\∃v,(results fn a.tmps).run P w'=.ok v w'/\∃v' r h' g',(Ending.returned v:Ending)=.returned v'/\Q r h'/\O g' w' (L h') r v'/\CH w g (Ah H0 Ab) h' g' w'/\Le (Ah H0 Ab) g w h' g' w':=by
  intro hk;obtain⟨g2,i1,i2⟩:=NT cx.pl.fin hS.inv;have Pe : SR fn.ntmps [] w g (Ah H0 Ab) ⟨st.t,Qw st.h cx.pl.fin⟩ g2 a w':=⟨i1,hS.le.trans i2,hS.dfs,hS.size,fun i=>(hS.slots i).le i2⟩;obtain⟨l,vs,h1,h2,h3,h4,h5⟩:=UI hT Pe _ hk;obtain⟨hR,j1,j2⟩:=NQ hσ hxo i1 Pe.le;have CV:(results fn a.tmps).run P w'=.ok (if h:vs.toArray.size=1 then vs.toArray[0]else .tuple vs.toArray) w':=by
   rw[Px,show fn.results=fn.results.toList.toArray by simp,List.mapM_toArray];simp_all
  refine⟨hS.dfs,?_⟩
  match l,vs,h1,h3,h5,CV with
  | [v],[x],h1,h3,h5,CV=>exact⟨x,by simp_all,x,_,_,_,rfl,h1,(h5 0 v x rfl rfl).ren hR,j1,j2⟩
  | [],vs,h1,h3,h5,CV=>
   have:vs=[]:=AI h3
   subst this;exact⟨.tuple #[],by simp_all,.tuple #[],_,_,_,rfl,h1,O.ren hR (.tup _ [] _ rfl fun i av x q=>by simp_all),j1,j2⟩
  |v::v' :: l,vs,h1,h3,h5,CV=>
   refine⟨.tuple vs.toArray,?_,.tuple vs.toArray,_,_,_,rfl,h1,O.ren hR (.tup _ _ _ I fun i av x q1 q2=>h5 i av x q1 aa0),j1,j2⟩;simp_all
 cases e with
 |normal=>exact out hk
 |ret=>exact out hk
 |exit id=>exact hk.elim
theorem qZ{f:Nat}{args:Ap5}{H0:Ap7}{Q:AV->(Nat->HO)->Prop}(hP:cx.P=P)(hT:B8 P cx.T)(hm:P.follows .mixedOrders=true)(hx:cx.ext=true)(hf:P.funcs[f]?=some fn)(hn : (fn.name == "runtime.NumGoroutine")=false)(hb : fn.body=some c)(hN : args.length <= fn.ntmps)(hc : D4 fn.ntmps c=true)(hσ : (GD σ && HX σ H0)=true)(hk:Tn cx c (cN cx fn.results.toList σ Q) ⟨Qm args,Ah H0 Ab⟩)(hY:∀l σ g w,cx.yp l σ g w:=by exact fun _ _ _ _=>trivial):A1 P f args (Ah H0 Ab) Q:=
 ⟨⟨fn,hf,hn,by simp_all⟩,fun g w vals hs hv hI=>de cx σ hP hT hm hx hf hn hb hN hc hσ hk hs hv hI (fun l σ _ _ w _ _ _=>hY l σ _ w)⟩
end
def Da(r':AV):Prop:=∀(g:D) (w:World) (U:Nat->Prop) (x:Value),O g w U r x->O g w U r' x
theorem Da.refl:Da r r:=fun _ _ _ _ h=>h
theorem Da.of_eq{r r' : AV}(h:r=r'):Da r r':=h▸.refl r
theorem C{A:Type}{a b:A}(f:A->AV)(h:a=b):Da (f a) (f b):=.of_eq (congrArg f h)
theorem Da.trans{a b c:AV}(h:Da a b)(k:Da b c):Da a c:=fun g w U x r=>k g w U x (h g w U x r)
theorem Da.nil:Da nzA (.slice .none []):=fun _ _ _ _ h=>by cases h;grind [O.snil]
def MA:Ap5->Ap5->Prop
 | [],[]=>True
 |a::r,b::s=>Da a b/\MA r s
 |_,_=>False
theorem MA.refl:∀l:Ap5,MA l l
 | []=>trivial
 |a::l=>⟨.refl a,MA.refl l⟩
theorem MA.len:∀{l l' : Ap5},MA l l'->l'.length=l.length
 | [],[],_=>rfl
 |_::_,_::_,h=>Aa (·+1) h.2.len
 | [],_::_,h=>h.elim
 |_::_,[],h=>h.elim
theorem MA.get:∀{l l' : Ap5},MA l l'->∀(i:Nat) (b:AV),l'[i]?=some b->∃a,l[i]?=some a/\Da a b
 | [],[],_,i,b,h=>by simp_all
 |a::r,b::s,hs,i,c,h=>by
  cases i with
  |zero=>simp only[GT,Ey]at h;subst h;exact⟨a,rfl,hs.1⟩
  |succ i=>exact MA.get hs.2 i c (by simpa using h)
 | [],_::_,h,_,_,_=>h.elim
 |_::_,[],h,_,_,_=>h.elim
theorem Da.tup{l l' : Ap5}(h:MA l l'):Da (.tup l) (.tup l'):=fun g w U x r=>by
 cases r with
 |tup _ _ vs hs hr=>
  refine .tup _ _ vs (by rw[hs,h.len]) fun i av x q1 q2=>?_;obtain⟨a,e1,e2⟩:=h.get i av q1;exact e2 _ _ _ _ (hr i a x e1 q2)
theorem Da.agg{l l' : Ap5}(h:MA l l'):Da (.agg l) (.agg l'):=fun g w U x r=>by
 cases r with
 |agg _ _ vs hs h1 hr=>
  refine .agg _ _ vs (by rw[hs,h.len]) h1 fun i av x q1 q2=>?_;obtain⟨a,e1,e2⟩:=h.get i av q1;exact e2 _ _ _ _ (hr i a x e1 q2)
def ZI:C0->C0->Prop
 | [],[]=>True
 |a::r,b::s=>MA a b/\ZI r s
 |_,_=>False
theorem ZI.len:∀{l l' : C0},ZI l l'->l'.length=l.length
 | [],[],_=>rfl
 |_::_,_::_,h=>Aa (·+1) h.2.len
 | [],_::_,h=>h.elim
 |_::_,[],h=>h.elim
theorem ZI.get:∀{l l' : C0},ZI l l'->∀(i:Nat) (b:Ap5),l'[i]?=some b->∃a,l[i]?=some a/\MA a b
 | [],[],_,i,b,h=>by simp_all
 |a::r,b::s,hs,i,c,h=>by
  cases i with
  |zero=>simp only[GT,Ey]at h;subst h;exact⟨a,rfl,hs.1⟩
  |succ i=>exact ZI.get hs.2 i c (by simpa using h)
 | [],_::_,h,_,_,_=>h.elim
 |_::_,[],h,_,_,_=>h.elim
theorem Da.slice{l l' : C0}(h:ZI l l'):Da (.slice .none l) (.slice .none l'):=fun g w U x r=>by
 have CN:=h.len;cases r with
 |snil _ a cap=>
  grind [O.snil]
 |slice _ _ b off sz cap val hc hl Dj DN=>
  rw[<-CN];refine .slice _ _ b off sz cap val I (fun i cs hi=>?_) (fun i cs j av hi hj=>?_) (fun i cs j av hi hj=>?_)
  .grind [ZI.get,MA.len]
  .grind [ZI.get,MA.get]
  .obtain⟨a,e1,e2⟩:=h.get i cs hi;obtain⟨c,f1,f2⟩:=e2.get j av hj;exact f2 _ _ _ _ (DN i a j c e1 f1)
section
variable {P:Program}
theorem A1.mono{f:Nat}{args:Ap5}{h0:Nat->HO}{Q Q' : AV->(Nat->HO)->Prop}(h:A1 P f args h0 Q)(hq:∀r h',Q r h'->∃r',Da r r'/\Q' r' h'):A1 P f args h0 Q':=
 ⟨h.1,fun g w vals q1 q2 q3=>(h.2 g w vals q1 q2 q3).mono fun _ _ ⟨v,r,h',g',e1,e2,e3,rest⟩=>
  let ⟨r',s,k⟩:=hq r h' e2
  ⟨v,r',h',g',e1,k,s _ _ _ _ e3,rest⟩⟩
theorem A1.args{args args' : Ap5}{h0:Nat->HO}{Q:AV->(Nat->HO)->Prop}(h:A1 P f args h0 Q)(hs:MA args' args):A1 P f args' h0 Q:=
 ⟨h.1,fun g w vals q1 q2 q3=>h.2 g w vals (by rw[q1,hs.len]) (fun i av x e1 e2=>by
  obtain⟨a,f1,f2⟩:=hs.get i av e1;exact f2 _ _ _ _ (q2 i a x f1 e2)) q3⟩
theorem Mj.args{f:Nat}{args args' : Ap5}{res:AV}(h:Mj P f args res)(hs:MA args' args):Mj P f args' res:=A1.args h hs
theorem Fb {args : Ap5}(hP : cx.P=P)(hT : B8 P cx.T)(hm : P.follows .mixedOrders=true)(hx : cx.ext=false)(hf : P.funcs[f]?=some fn)(hn : (fn.name == "runtime.NumGoroutine")=false)(hb:fn.body=some c)(hN:args.length<=fn.ntmps)(hc:D4 fn.ntmps c=true)(hk:Tn cx c (wj cx fn.results.toList fun r=>Da r res) ⟨Qm args,Ab⟩)(hY:∀l σ g w,cx.yp l σ g w:=by exact fun _ _ _ _=>trivial):Mj P f args res:=
 (p7 cx hP hT hm hx hf hn hb hN hc hk hY).mono fun _ _ ⟨e1,e2⟩=>⟨res,e2,rfl,e1⟩
end
section
variable {P:Program}
theorem NO (hf : P.funcs[f]?=some fn)(hn : (fn.name == "runtime.NumGoroutine")=false)(hb : fn.body=some c) : Fx P f:=⟨fn, hf, hn, by simp_all⟩
theorem L7{args:Ap5}(v:Value)(hE:Fx P f)(ha:args=vals.map .v)(xg:∀g w,O g w DS res v)(h:∀w,(∃m,w.cell? ⟨gB,0,none⟩=some (.int .i64 m))->Calls P f vals.toArray w fun e w'=>e=.returned v/\w'=w):Mj P f args res:=by
 refine⟨hE,fun g w us hs hv hI=>?_⟩;have hu:us=vals.toArray:=by
  subst ha;rw[Bs]at hs;refine PL I fun i h1 h2=>?_
  have:=hv i (.v (vals[i]' I)) us[i] aa0 aa0
  grind [O.v_eq]
 subst hu;refine(h w hI.glob.1.2).mono ?_
 rintro e w' ⟨rfl,rfl⟩
 grind [O.up,Le.refl]
theorem tH{g:D}{w:World}:∀(vs:Ap6),O g w DS (.tup (vs.map .v)) (.tuple vs.toArray):=fun vs=>
 .tup _ _ _ aa1 fun i av x h1 h2=>by
  grind [O.v]
theorem oR{args:Ap5}(es:Ap6)(T:TypeId)(hE:Fx P f)(ha:args=vals.map .v)(h1:∀x∈es,x.oneCell'=true)(h:∀w,(∃m,w.cell? ⟨gB,0,none⟩=some (.int .i64 m))->Calls P f vals.toArray w fun e w'=>e=.returned (.slice (some ⟨w.heap.size,0,none⟩) es.length es.length)/\w'=w.alloc (.cells es.toArray T)) :
  Mj P f args (.slice .none (es.map fun x=>[.v x])):=by
 refine⟨hE,fun g w us hs hv hI=>?_⟩;have hu:us=vals.toArray:=by
  subst ha;rw[Bs]at hs;refine PL I fun i h1 h2=>?_
  have:=hv i (.v (vals[i]' I)) us[i] aa0 aa0
  grind [O.v_eq]
 subst hu;refine(h w hI.glob.1.2).mono ?_
 rintro e w' ⟨rfl,rfl⟩
 have EY:(w.alloc (.cells es.toArray T)).heap[w.heap.size]?=some (.cells es.toArray T (0,0)):=G3 w _ rfl;have ir:∀b,b<w.heap.size->(w.alloc (.cells es.toArray T)).heap[b]?=w.heap[b]?:=fun b hb=>heap_alloc_old _ _ hb;have hK:D8 g w ⟨g.ρ,g.ln,g.tk,g.own,g.more w.heap.size es.length⟩ (w.alloc (.cells es.toArray T)):=fun b o hb=>by
  have CL:=hI.slt b o hb;exact⟨.inl hb,by grind [World.cell?],fun es ck he=>(ir b CL).trans he⟩
 refine⟨_,_,Ab,⟨g.ρ,g.ln,g.tk,g.own,g.more w.heap.size es.length⟩,rfl,⟨rfl,rfl⟩,?_,⟨rfl,rfl,rfl,?_,fun b hb _=>ir b hb,fun b o hs=>?_,fun _=>trivial,fun _ _ _ h=>h.elim,fun _ _ h=>h.elim,fun b o hs=>?_,hI.glob.keep hK⟩,⟨.refl _ _,fun _ h=>h,hK⟩⟩
 .have hr:Cg ⟨g.ρ,g.ln,g.tk,g.own,g.more w.heap.size es.length⟩ (w.alloc (.cells es.toArray T)) DS (es.map fun x=>[AV.v x]).flatten (es.toArray.toList.take ((es.map fun x=>[AV.v x]).length*1)):=by
   have hfl:∀l:Ap6,(l.map fun x=>[AV.v x]).flatten=l.map .v:=fun l=>by
    induction l<;>simp_all
   rw[hfl];simp only[Bs,Nat.mul_one,IV];refine⟨by simp,fun x hx=>h1 x I,fun i av x q1 q2=>?_⟩
   grind [O.v]
  have:=O.slice_row (U:=L Ab) (cap:=es.length) (sz:=1) (es:=es.map fun x=>[AV.v x]) EY (fun cs hcs=>by
   grind) aa1 hr (fun o ho=>.inr ⟨rfl,by simp_all⟩)
  simp_all
 .simp_all
 .rw[World.size_alloc];rcases hs with hs | ⟨rfl,_⟩
  .have:=hI.slt b o hs;omega
  .omega
 .rcases hs with hs | ⟨rfl,_⟩<;>simp_all
end
end Go.Eng
namespace Go.Eng
open Go.RowKit
section
variable {P:Program}
theorem TY{f:Nat}{args:Ap5}{res:AV}(vals:Ap6)(v:Value)(hE:Fx P f)(ha:args=vals.map .v)(xg:∀g w,O g w DS res v)
  (h:∀w,(∃m,w.cell? ⟨gB,0,none⟩=some (.int .i64 m))->(∀x∈Ab8,w.cell? ⟨x.1,x.2.1,none⟩=x.2.2)->Calls P f vals.toArray w fun e w'=>e=.returned v/\Below w.heap.size w w'):Mj P f args res:=by
 refine⟨hE,fun g w us hs hv hI=>?_⟩;have hu:us=vals.toArray:=by
  subst ha;rw[Bs]at hs;refine PL I fun i h1 h2=>?_
  have:=hv i (.v (vals[i]' I)) us[i] aa0 aa0
  grind [O.v_eq]
 subst hu;refine(h w hI.glob.1.2 fun x hx=>(hI.glob.2 x hx).2).mono ?_
 rintro e w' ⟨rfl,q⟩
 have hK:D8 g w g w':=fun b o hb=>by
  grind [World.cell?,CH.slt,Go.RowKit.Below.block]
 refine⟨v,res,Ab,g,rfl,⟨rfl,rfl⟩,(xg g _).up _,⟨q.os,q.tape,q.output,q.size,fun b hb _=>q.block b hb,fun b o hs=>AF (hI.slt b o hs) q.size,fun _=>trivial,fun _ _ _ h=>h.elim,fun _ _ h=>h.elim,fun b o hs=>.inl hs,hI.glob.keep hK⟩,⟨.refl _ _,fun _ h=>h,hK⟩⟩
end
end Go.Eng
namespace Go.Eng
open Go.Sort
section
variable {P:Program}
theorem OL(F c:Array Value)(h:F.size<=c.size):(putCells id 0 F c).toList.take F.size=F.toList/\(putCells id 0 F c).size=c.size:=by
 have hs:(putCells id 0 F c).size=c.size:=by simp[putCells]
 refine⟨?_,hs⟩;apply Cu
 grind [putCells]
theorem VK(r:Nat)(o o' : HO):AS (Ah [(r,o)] Ab) r o'=Ah [(r,o')] Ab:=by
 grind [A0,Ah,BS,Dw,Nat.beq_refl]
theorem Rz{f:Nat}{es:C0}{sz:Nat}{rest:Ap6}{Q:C0->Prop}(hE:Fx P f)
  (h0:es=[]->Q []/\∀w,Calls P f (#[.slice none 0 0]++rest.toArray) w fun e w'=>e=.returned (.tuple #[])/\w'=w)
  (h1:∀(g:D) (w:World) (b cap:Nat) (F:Array Value),Cg g w DS es.flatten F.toList->F.size=es.length*sz->Holds id w b 0 F->b<w.heap.size->Calls P f (#[.slice (some ⟨b,0,none⟩) es.length cap]++rest.toArray) w fun e w'=>
   e=.returned (.tuple #[])/\∃(F' : Array Value) (FG : C0) (n:Nat) (os:Array Obj),F'.size=F.size/\Q FG/\FG.length=es.length/\(∀cs∈FG,cs.length=sz) /\
    (∀(g:D) (w:World),Cg g w DS es.flatten F.toList->Cg g w DS FG.flatten F'.toList)/\w'=grow (putRow id (Sort.ahead w n) b 0 F') os) :
  A1 P f (.msl 1000 es.length::rest.map .v) (Ah [(1000,.arr sz es)] Ab) fun r h'=>r=.tup []/\∃FG,Q FG/\h'=Ah [(1000,.arr sz FG)] Ab:=by
 refine⟨hE,fun g w us hs hv hI=>?_⟩;have ho:=hI.objs 1000;have he:Ah [(1000,HO.arr sz es)] Ab 1000=.arr sz es:=rfl;rw[he]at ho;obtain⟨t1,l1,al,a2⟩:=ho;simp only[AK,Bs]at hs
 -- the arguments
 have hu0:0<us.size:=I
 have hr0:=hv 0 (.msl 1000 es.length) us[0] rfl (BB hu0);have hval:us[0]=g.ρ 1000:=by
  grind [cases O]
 have Na:us=#[g.ρ 1000]++rest.toArray:=by
  refine PL aa0 fun i h1 h2=>?_;cases i with
  |zero=>simp_all
  |succ i=>
   have hi:i<rest.length:=I
   have:=hv (i+1) (.v rest[i]) us[i+1] aa0 (BB h1)
   rw[this.v_eq];simp
 rw[Na];rcases a2 with ⟨b1,b2,b3⟩ | ⟨b,cap,E,vs,b1,b2,b3,b4,b5,b6,b7⟩
 .subst b1;obtain⟨q,h0⟩:=h0 rfl;rw[b2];refine(h0 w).mono ?_
  rintro e w' ⟨rfl,rfl⟩
  grind [O.tup,Le.refl]
 .have hl:(Ah [(1000,HO.arr sz es)] Ab 1000).live:=trivial;have CL:=(hI.loc 1000 b hl b2).1;have Jo:es.length*sz<=vs.size:=by rw[b5];exact A6 _ b3
  have hF:((vs.toList.take (es.length*sz)).toArray).size=es.length*sz:=aa0
  have hH:Holds id w b 0 (vs.toList.take (es.length*sz)).toArray:=fun j hj=>by
   grind [World.cell?,World.frozen?]
  rw[b1];refine(h1 g w b cap _ I hF hH CL).mono ?_
  rintro e w' ⟨rfl,F',FG,n,os,f1,f2,f3,f4,f5,rfl⟩
  have hF' : F'.size=es.length*sz:=f1.trans hF;have hpt:=OL F' vs I;have ky : (grow (putRow id (Sort.ahead w n) b 0 F') os).heap[b]?=some (.cells (putCells id 0 F' vs) E (0,0)):=by
   rw[heap_grow_old _ _ aa0];show(w.heap.modify b (onCells (putCells id 0 F')))[b]?=_;rw[Array.getElem?_modify,AO rfl,b4];rfl
  have vo:∀k,k<w.heap.size->k≠b->(grow (putRow id (Sort.ahead w n) b 0 F') os).heap[k]?=w.heap[k]?:=fun k hk Ec=>by
   rw[heap_grow_old _ _ aa0];simp[putRow,mapBlock,Array.getElem?_modify,Ne.symm Ec]
  have EC:w.heap.size<=(grow (putRow id (Sort.ahead w n) b 0 F') os).heap.size:=aa0
  obtain⟨k1,k2⟩:=hI.upd 1000 (.arr sz FG) (g.ρ 1000) (g.ln 1000) (g.tk 1000) (g.own 1000) g.S (grow (putRow id (Sort.ahead w n) b 0 F') os) (some b) ⟨rfl,rfl,rfl,EC⟩
   (fun k hk Ec=>vo k hk (fun e=>Ec (by rw[e]))) (fun b' e=>by cases e;exact⟨hl,b2⟩) (fun _ _ h=>h) (fun _ _ h=>.inl h) (fun b' o e hs=>by cases e;exact absurd hs (b7 o))
   (fun b' _ e=>by rw[b2]at e;cases e;exact⟨AF CL EC,.inl ⟨hl,b2⟩⟩) aa1 (fun _=>⟨rfl,Af _,fun _=>rfl,fun _=>rfl⟩) (fun hg hk=>by
    refine⟨by simp[D.upd,t1],by simp[D.upd,l1,f3],f4,.inr ⟨b,cap,E,_,by simp[D.upd,b1,f3],by simp[D.upd,b2],by omega,ky,by rw[hpt.2,b5],?_,b7⟩⟩
    have:=f5 g w (by simpa using b6)
    rw[f3,<-hF',hpt.1];exact this.mono hk (fun _ h=>h) (fun _ h=>h.elim))
  rw[VK]at k1 k2;exact⟨_,.tup [],_,_,rfl,⟨rfl,FG,f2,rfl⟩,.tup _ _ _ rfl (fun i av x h=>by simp at h),k1,k2⟩
end
end Go.Eng
namespace Go.Eng
open Go.Sort Go.Proofs
variable {α β:Type}{k:Nat}
theorem T0{g:D}{w:World}{U:Nat->Prop}{cs ZU : Ap5}{vs yI : Ap6}(h:vs.length=cs.length):Cg g w U (cs++ZU) (vs++yI)↔Cg g w U cs vs/\Cg g w U ZU yI:=by
 constructor
 .intro⟨h1,h2,h3⟩;refine⟨⟨h,fun x hx=>h2 x (Bq _ hx),fun i av x q1 q2=>?_⟩,⟨by simp_all,fun x hx=>h2 x (BZ _ hx),fun i av x q1 q2=>?_⟩⟩
  .have a1:=(AN.1 q1).1;have a2:=(AN.1 q2).1;exact h3 i av x aa2 aa2
  .exact h3 (cs.length+i) av x aa2 aa2
 .intro⟨⟨h1,h2,h3⟩,k1,k2,k3⟩;refine⟨by simp_all,fun x hx=>(Bh.1 hx).elim (h2 x) (k2 x),fun i av x q1 q2=>?_⟩
  grind
theorem SB{α β:Type}{g:D}{w:World}{U:Nat->Prop}{Jk:β->Ap5}{enc:α->Ap6}(hl:∀x y,(enc x).length=(Jk y).length):∀ps:List (β×α),
  Cg g w U (ps.map fun p=>Jk p.1).flatten (ps.map fun p=>enc p.2).flatten↔∀p∈ps,Cg g w U (Jk p.1) (enc p.2)
 | []=>by simp[Cg]
 |p::ps=>by
  simp only[A7,BQ];rw[T0 (hl _ _),SB hl ps];simp
theorem Nt{f:α->β}:∀{m m' : List β},m.Perm m'->∀ps:List α,ps.map f=m->∃tD : List α,tD.Perm ps/\tD.map f=m':=by
 intro m m' h
 induction h with
 |nil=>simp_all
 |cons x h ih=>
  intro ps e;cases ps with
  |nil=>cases e
  |cons p ps=>
   rw[A7]at e
   injection e with e1 e2
   obtain⟨tD,h1,h2⟩:=ih ps e2;exact⟨p::tD,h1.cons p,by simp_all⟩
 |swap x y l=>
  intro ps e
  match ps,e with
  |p::q::ps,e=>
   grind [List.Perm.swap]
 |trans h1 h2 ih1 ih2=>
  grind [List.Perm.trans]
theorem Vw[Inhabited α]{enc:α->Ap6}(hk:∀x,(enc x).length=k)(d:Array α):(flatK enc k d).toList=(d.toList.map enc).flatten:=by
 have hl:∀cs∈d.toList.map enc,cs.length=k:=fun cs hcs=>by
  grind
 have CN:(d.toList.map enc).flatten.length=d.size*k:=by
  have:∀l:List α,(l.map enc).flatten.length=l.length*k:=fun l=>by
   induction l<;>grind [Nat.succ_mul]
  simp_all
 apply Cu;intro t
 by_cases ht:t<d.size*k
 .have k0:0<k:=Nat.pos_of_ne_zero fun h=>by simp_all
  have h1:t / k<d.size:=by rw[Nat.div_lt_iff_lt_mul k0];exact ht
  have h2:t % k<k:=Nat.mod_lt _ k0;have e:t=t / k*k+t % k:=by grind [Nat.div_add_mod]
  rw[BY,BB (by simpa using ht),<-Pc _ t (by simpa using ht),get_flatK _ _ _ _ ht]
  grind [Ff]
 simp_all
theorem zip_fst{α β:Type}:∀{l:List α} {m:List β},l.length=m.length->(l.zip m).map (·.1)=l/\(l.zip m).map (·.2)=m
 | [],[],_=>⟨rfl,rfl⟩
 |a::l,b::m,h=>by
  have:=zip_fst (l:=l) (m:=m) aa0
  simp_all
section
variable {P:Program}
theorem JC[Inhabited α]{f:Nat}{rest:Ap6}(hE:Fx P f)(Jk:β->Ap5)(enc:α->Ap6)(hB:∀x,(Jk x).length=k)(hk:∀x,(enc x).length=k)(lt:α->α->Bool)(R:β->α->Prop)(l:List β)(hl:l.length<2^62)(hR:∀x∈l,∀(g:D) (w:World) (vs:Ap6),Cg g w DS (Jk x) vs->∃a,enc a=vs/\R x a)(Cj:∀(w:World) (b cap:Nat) (d:Array α),HoldsK enc k w b 0 d->b<w.heap.size->d.size<4611686018427387904->d.size=l.length->Calls P f (#[.slice (some ⟨b,0,none⟩) d.size cap]++rest.toArray) w fun e w'=>
   e=.returned (.tuple #[])/\∃d' n os,PermIn 0 d.size d d'/\SortedIn lt 0 d.size d'/\w'=sortWorldK enc k w b 0 n d' os)(Anf:l=[]->∀w:World,Calls P f (#[.slice none 0 0]++rest.toArray) w fun e w'=>e=.returned (.tuple #[])/\w'=w) :
  A1 P f (.msl 1000 l.length::rest.map .v) (Ah [(1000,.arr k (l.map Jk))] Ab) fun r h'=>
   r=.tup []/\∃l' : List β,l'.Perm l/\(∃al:List α,al.length=l'.length/\(∀(i:Nat) (x:β) (a:α),l'[i]?=some x->al[i]?=some a->R x a)/\al.Pairwise (fun x y=>lt y x=false))/\h'=Ah [(1000,.arr k (l'.map Jk))] Ab:=by
 have Jc:=Rz (P:=P) (f:=f) (es:=l.map Jk) (sz:=k) (rest:=rest)
  (Q:=fun FG=>∃l' : List β,l'.Perm l/\(∃al:List α,al.length=l'.length/\(∀(i:Nat) (x:β) (a:α),l'[i]?=some x->al[i]?=some a->R x a)/\al.Pairwise (fun x y=>lt y x=false))/\FG=l'.map Jk) hE ?_ ?_
 .grind
 .simp_all
 .intro g w b cap F hr hF hH hb
  -- the elements in memory
  have AbL:∀(m:List β) (vs:Ap6),(∀x∈m,x∈l)->Cg g w DS (m.map Jk).flatten vs->∃al:List α,al.length=m.length/\vs=(al.map enc).flatten/\∀(i:Nat) (x:β) (a:α),m[i]?=some x->al[i]?=some a->R x a:=by
   intro m
   induction m with
   |nil=>
    intro vs _ h
    have:vs=[]:=AI (by simpa using h.1)
    simp_all
   |cons x m ih=>
    intro vs hm h;rw[A7,BQ]at h;have CN:=h.1;rw[Ac,hB]at CN;have e:vs=vs.take k++vs.drop k:=(List.take_append_drop k vs).symm;rw[e]at h;rw[T0 aa2]at h;obtain⟨a,a1,a2⟩:=hR x (hm x (Ad ..)) g w _ h.1;obtain⟨al,b1,b2,b3⟩:=ih _ (fun y hy=>hm y (Aj _ hy)) h.2;refine⟨a::al,by grind,by grind,fun i y c q1 q2=>?_⟩
    grind
  obtain⟨al,s1,s2,s3⟩:=AbL l F.toList (fun _ h=>h) hr;have hFd:F=flatK enc k al.toArray:=Mt.1 (by grind [Vw]);have hd:HoldsK enc k w b 0 al.toArray:=by grind [HoldsK]
  have hc:=Cj w b cap al.toArray hd hb aa0 I;have EC:al.toArray.size=(l.map Jk).length:=aa0
  rw[EC]at hc;refine hc.mono ?_
  rintro e w' ⟨rfl,d',n,os,p1,p2,rfl⟩
  obtain⟨z1,z2⟩:=zip_fst s1.symm;obtain⟨xj,_,Jd⟩:=p1;have xj : d'.size=al.length:=I
  have e1:d'.extract 0 (l.map Jk).length=d':=aa0
  have e2:al.toArray.extract 0 (l.map Jk).length=al.toArray:=aa2
  rw[e1,e2]at Jd;have Jd:al.Perm d'.toList:=by
   first
   |exact Jd.symm
   |exact Jd
   |(have:=Jd.symm;simpa using this)
  obtain⟨tD,r1,r2⟩:=Nt Jd (l.zip al) z2;have rel:∀p∈l.zip al,R p.1 p.2:=fun p hp=>by
   obtain⟨i,hi⟩:=B4.1 hp;rw[List.getElem?_zip_eq_some]at hi
   grind
  refine⟨rfl,flatK enc k d',(tD.map (·.1)).map Jk,n,os,by simp_all,⟨tD.map (·.1),?_,⟨d'.toList,by grind,fun i x a q1 q2=>?_,?_⟩,rfl⟩,by have:=r1.length_eq;simp_all,fun cs hcs=>?_,fun g w hr=>?_,?_⟩
  .grind
  .rw[<-r2]at q2;rw[BC,BH]at q1 q2;obtain⟨p,q1,rfl⟩:=q1
   grind
  .rw[Cn];intro i j hi hj gi;have Oi : i<d'.size:=I
   have hj' : j<d'.size:=I
   have:=p2 i j (Ai _) gi I
   simp_all
  .obtain⟨x,_,rfl⟩:=Ap.1 hcs;simp_all
  .have h1:Cg g w DS ((l.zip al).map fun p=>Jk p.1).flatten ((l.zip al).map fun p=>enc p.2).flatten:=by
    have a1:(l.zip al).map (fun p=>Jk p.1)=l.map Jk:=by
     have:(l.zip al).map (fun p=>Jk p.1)=((l.zip al).map (·.1)).map Jk:=by rw[Bo];rfl
     simp_all
    have a2:(l.zip al).map (fun p=>enc p.2)=al.map enc:=by
     have:(l.zip al).map (fun p=>enc p.2)=((l.zip al).map (·.2)).map enc:=by rw[Bo];rfl
     simp_all
    simp_all
   have CN:∀(x:α) (y:β),(enc x).length=(Jk y).length:=fun x y=>by simp_all
   rw[SB CN]at h1;have h2:=(SB (g:=g) (w:=w) (U:=DS) CN tD).2 fun p hp=>h1 p (r1.mem_iff.1 hp);have b1:(tD.map (·.1)).map Jk=tD.map fun p=>Jk p.1:=aa0
   have b2:(flatK enc k d').toList=(tD.map fun p=>enc p.2).flatten:=by
    rw[Vw hk,<-r2,Bo];rfl
   grind
  .rfl
end
end Go.Eng
namespace Go.Eng
section
variable {P:Program}
theorem Bv{f:Nat}{fn:Func}{c:Code}{args:Ap5}{H0:Ap7}{Q:AV->(Nat->HO)->Prop}(cx:Cx)(σ:I7)(hP:cx.P=P)(hT:B8 P cx.T)(hm:P.follows .mixedOrders=true)(hx:cx.ext=true)(hf:P.funcs[f]?=some fn)
  (hn : (fn.name == "runtime.NumGoroutine")=false) (hb : fn.body=some c) (hN : args.length <= fn.ntmps) (hc : D4 fn.ntmps c=true) (hσ : (GD σ && HX σ H0)=true)
  (hk:Tn cx c (cN cx fn.results.toList σ fun r h'=>∃r',Da r r'/\Q r' h') ⟨Qm args,Ah H0 Ab⟩) (hY:∀l σ g w,cx.yp l σ g w:=by exact fun _ _ _ _=>trivial):A1 P f args (Ah H0 Ab) Q:=
 (qZ cx σ hP hT hm hx hf hn hb hN hc hσ hk hY).mono fun _ _ ⟨r',s,q⟩=>⟨r',s,q⟩
end
end Go.Eng
namespace Go.Eng
open Go.Sort
theorem Cg.append{g:D}{w:World}{U:Nat->Prop}{Xo bs:Ap5}{xs ys:Ap6}(h:Cg g w U Xo xs)(k:Cg g w U bs ys):Cg g w U (Xo++bs) (xs++ys):=by
 refine⟨by rw[Ac,Ac,h.1,k.1],fun x hx=>?_,fun i av x q1 q2=>?_⟩
 .rcases Bh.1 hx with hx | hx
  .exact h.2.1 x hx
  .exact k.2.1 x hx
 .have hl:=h.1
  by_cases hi:i<Xo.length
  .rw[Cm hi]at q1;rw[Cm I]at q2;exact h.2.2 i av x q1 q2
  .rw[Ba I]at q1;rw[Ba I,hl]at q2;exact k.2.2 _ av x q1 q2
theorem Cg.take{g:D}{w:World}{U:Nat->Prop}{Xo:Ap5}{xs:Ap6}(h:Cg g w U Xo xs)(k:Nat):Cg g w U (Xo.take k) (xs.take k):=by
 refine⟨by rw[Bf,Bf,h.1],fun x hx=>h.2.1 x (Fe hx),fun i av x q1 q2=>?_⟩;rw[List.getElem?_take]at q1 q2;split at q1
 .rename_i hi;rw[AO hi]at q2;exact h.2.2 i av x q1 q2
 simp_all
theorem Cg.drop{g:D}{w:World}{U:Nat->Prop}{Xo:Ap5}{xs:Ap6}(h:Cg g w U Xo xs)(k:Nat):Cg g w U (Xo.drop k) (xs.drop k):=by
 refine⟨by rw[GV,GV,h.1],fun x hx=>h.2.1 x (IF hx),fun i av x q1 q2=>?_⟩;rw[FR]at q1 q2;exact h.2.2 _ av x q1 q2
theorem LP{α:Type}{k:Nat}:∀(es:List (List α)) (i:Nat),(∀e∈es,e.length=k)->es.flatten.take (i*k)=(es.take i).flatten
 | [],i,_=>by simp
 |e::es,0,_=>by simp
 |e::es,i+1,h=>by
  have he:=h e (Ad ..);rw[BQ,List.take_succ_cons,BQ,List.take_append,<-LP es i fun x hx=>h x (Aj _ hx),AD aa2,he,show(i+1)*k-k=i*k by grind]
theorem Qr{α:Type}{k:Nat}:∀(es:List (List α)) (i:Nat),(∀e∈es,e.length=k)->es.flatten.drop (i*k)=(es.drop i).flatten
 | [],i,_=>by simp
 |e::es,0,_=>by simp
 |e::es,i+1,h=>by
  have he:=h e (Ad ..);rw[BQ,List.drop_succ_cons,List.drop_append,<-Qr es i fun x hx=>h x (Aj _ hx),FE aa2,he,show(i+1)*k-k=i*k by grind,HL]
section
variable {P:Program}
theorem XP{f:Nat}{es:C0}{sz:Nat}{rest:Ap6}{n' : Nat}{Q:C0->Prop}(hE:Fx P f)(Ec:es≠[])(nI : n'<=es.length)
  (h1:∀(g:D) (w:World) (b cap:Nat) (F:Array Value),Cg g w DS es.flatten F.toList->F.size=es.length*sz->Holds id w b 0 F->b<w.heap.size->es.length<=cap->Calls P f (#[.slice (some ⟨b,0,none⟩) es.length cap]++rest.toArray) w fun e w'=>
   e=.returned (.slice (some ⟨b,0,none⟩) n' cap)/\∃(F' : Array Value) (FG : C0) (n:Nat) (os:Array Obj),F'.size=F.size/\Q FG/\FG.length=es.length/\(∀cs∈FG,cs.length=sz) /\
    (∀(g:D) (w:World),Cg g w DS es.flatten F.toList->Cg g w DS FG.flatten F'.toList)/\w'=grow (putRow id (Sort.ahead w n) b 0 F') os) :
  A1 P f (.msl 1000 es.length::rest.map .v) (Ah [(1000,.arr sz es)] Ab) fun r h'=>r=.msl 2000 n'/\∃FG,Q FG/\h'=Ah [(1000,.dead),(2000,.arr sz (FG.take n'))] Ab:=by
 refine⟨hE,fun g w us hs hv hI=>?_⟩;have ho:=hI.objs 1000;have he:Ah [(1000,HO.arr sz es)] Ab 1000=.arr sz es:=rfl;rw[he]at ho;obtain⟨t1,l1,al,a2⟩:=ho;simp only[AK,Bs]at hs;have hu0:0<us.size:=I
 have hr0:=hv 0 (.msl 1000 es.length) us[0] rfl (BB hu0);have hval:us[0]=g.ρ 1000:=by
  grind [cases O]
 have Na:us=#[g.ρ 1000]++rest.toArray:=by
  refine PL aa0 fun i h1 h2=>?_;cases i with
  |zero=>simp_all
  |succ i=>
   have hi:i<rest.length:=I
   have:=hv (i+1) (.v rest[i]) us[i+1] aa0 (BB h1)
   rw[this.v_eq];simp
 rw[Na];rcases a2 with ⟨b1,b2,b3⟩ | ⟨b,cap,E,vs,b1,b2,b3,b4,b5,b6,b7⟩
 .simp_all
 .have hl:(Ah [(1000,HO.arr sz es)] Ab 1000).live:=trivial;have CL:=(hI.loc 1000 b hl b2).1;have Jo:es.length*sz<=vs.size:=by rw[b5];exact A6 _ b3
  have hF:((vs.toList.take (es.length*sz)).toArray).size=es.length*sz:=aa0
  have hH:Holds id w b 0 (vs.toList.take (es.length*sz)).toArray:=fun j hj=>by
   grind [World.cell?,World.frozen?]
  rw[b1];refine(h1 g w b cap _ I hF hH CL b3).mono ?_
  rintro e w' ⟨rfl,F',FG,n,os,f1,f2,f3,f4,f5,rfl⟩
  have hF' : F'.size=es.length*sz:=f1.trans hF;have hpt:=OL F' vs I;have ky : (grow (putRow id (Sort.ahead w n) b 0 F') os).heap[b]?=some (.cells (putCells id 0 F' vs) E (0,0)):=by
   rw[heap_grow_old _ _ aa0];show(w.heap.modify b (onCells (putCells id 0 F')))[b]?=_;rw[Array.getElem?_modify,AO rfl,b4];rfl
  have vo:∀k,k<w.heap.size->k≠b->(grow (putRow id (Sort.ahead w n) b 0 F') os).heap[k]?=w.heap[k]?:=fun k hk Ec=>by
   rw[heap_grow_old _ _ aa0];simp[putRow,mapBlock,Array.getElem?_modify,Ne.symm Ec]
  have EC:w.heap.size<=(grow (putRow id (Sort.ahead w n) b 0 F') os).heap.size:=aa0
  obtain⟨k1,k2⟩:=hI.upd 1000 (.arr sz FG) (g.ρ 1000) (g.ln 1000) (g.tk 1000) (g.own 1000) g.S (grow (putRow id (Sort.ahead w n) b 0 F') os) (some b) ⟨rfl,rfl,rfl,EC⟩
   (fun k hk Ec=>vo k hk (fun e=>Ec (by rw[e]))) (fun b' e=>by simp_all) (fun _ _ h=>h) (fun _ _ h=>.inl h) (fun b' o e hs=>by simp_all)
   (fun b' _ e=>by grind) aa1 (fun _=>⟨rfl,Af _,fun _=>rfl,fun _=>rfl⟩) (fun hg hk=>by
    refine⟨by grind [D.upd],by grind [D.upd],f4,.inr ⟨b,cap,E,_,by grind [D.upd],by grind [D.upd],by omega,ky,by omega,?_,b7⟩⟩
    have:=f5 g w I
    rw[f3,<-hF',hpt.1];exact this.mono hk (fun _ h=>h) (fun _ h=>h.elim))
  rw[VK]at k1 k2;generalize hg' : g.upd 1000 (g.ρ 1000) (g.ln 1000) (g.tk 1000) (g.own 1000) g.S=g' at k1 k2;have ho' : g'.own 1000=some b:=by grind [D.upd]
  have Afm:=k1.objs 1000;have vh:Ah [(1000,HO.arr sz FG)] Ab 1000=.arr sz FG:=rfl;rw[vh]at Afm;obtain⟨m1,m2,m3,m4⟩:=Afm;have hρ:g'.ρ 1000=.slice (some ⟨b,0,none⟩) es.length cap:=by grind [D.upd]
  have ApI : FG≠[]:=fun e=>Ec (AI aa0);rcases m4 with ⟨m4,_⟩ | ⟨b',P0,E',yI,c1,c2,c3,c4,c5,c6,c7⟩
  .simp_all
  .rw[hρ]at c1;simp only[Value.slice.injEq,Ey,Addr.mk.injEq,and_true]at c1;obtain⟨c1a,c1b,c1c⟩:=c1;subst c1a;subst c1c;have nH : (FG.take n').length=n':=aa2
   obtain⟨k3,k4⟩:=k1.move 1000 2000 aa3 rfl trivial ho' (.arr sz (FG.take n')) (.slice (some ⟨b,0,none⟩) n' cap) n' true aa1 (fun hk=>by
    refine⟨by simp[D.upd],by grind [D.upd],fun cs hcs=>m3 cs (Fe hcs),.inr ⟨b,cap,E',yI,by grind [D.upd],by simp[D.upd],by omega,c4,c5,?_,c7⟩⟩
    have:=(c6.mono hk (fun _ h=>h) (fun _ h=>h.elim)).take (n'*sz)
    grind [LP,Nat.mul_le_mul_right])
   have Af6:AS (AS (Ah [(1000,HO.arr sz FG)] Ab) 1000 .dead) 2000 (.arr sz (FG.take n'))=Ah [(1000,.dead),(2000,.arr sz (FG.take n'))] Ab:=by
    funext i
    by_cases e1:i=2000
    .subst e1;rw[A0];rfl
    .rw[BS _ _ _ _ e1]
     by_cases e2:i=1000
     .subst e2;rw[A0];rfl
     grind [BS,Ah,Dw]
   rw[Af6]at k3 k4;exact⟨_,.msl 2000 n',_,_,rfl,⟨rfl,FG,f2,rfl⟩,.msl _ 2000 n' (some ⟨b,0,none⟩) cap (by intro c;cases c) (by simp[D.upd]) (by simp[D.upd]) (.inr ⟨b,rfl⟩) (fun _=>by simp[D.upd]),k3,k2.trans k4⟩
end
end Go.Eng
namespace Go.Eng
variable {h:Nat->HO}{r ty e m:Nat}{cx:Cx}{x:AV}{K:HK}
def qI(a b:Ft):Bool:=
 (match a.2 with | some r=>!I1 b.1 r | none=>true)&&(match b.2 with | some r=>!I1 a.1 r | none=>true)
def RD(ops:Array Oper)(oi:Oper)(fi:Ft)(D:List Nat)(k:Nat):List Oper->List Ft->Bool
 |o::r,f::fs=>(I1 D k||(oi.apart ops o&&qI fi f))&&RD ops oi fi D (k+1) r fs
 | [],[]=>true
 |_,_=>false
def X8(ops:Array Oper)(all:List Oper)(k:Nat):List Oper->List Ft->Bool
 |o::r,f::fs=>
  let D:=RK k [] 0 all
  (o.after.toList.all fun e=>!Region.binds .any e||Nat.blt e.on k)&&WR k D 0 all&&(D.all fun j=>Nat.blt k j&&Nat.blt j all.length)&&RD ops o f D (k+1) r fs&&X8 ops all (k+1) r fs
 | [],[]=>true
 |_,_=>false
def jY(ops:Array Oper)(fs:List Ft):Bool:=Region.noSelect ops&&X8 ops ops.toList 0 ops.toList fs
def SH(f:Ft):Prop:=∀r,f.2=some r->r<10000000
def UO:List Ft->Prop
 | []=>True
 |f::r=>SH f/\UO r
theorem AQ(l:List Nat):SH (l,none):=fun _ h=>by cases h
theorem DX{l:List Nat}(h:r<10000000):SH (l,some r):=fun _ e=>by simp_all
theorem qJ{a b:Ft}(ha:SH a)(hb:SH b)(h:qI a b=true):Vj a b=true:=by
 obtain⟨a1,a2⟩:=a;obtain⟨b1,b2⟩:=b;unfold qI at h;unfold Vj;rw[Ao]at h⊢;refine⟨?_,?_⟩
 .cases a2 with
  |none=>rfl
  |some r=>
   have h1:(!I1 b1 r)=true:=h.1;show eU b1 r=true;unfold eU;rw[Dw (show r≠ZL by have:=ha r rfl;grind [ZL]),GG,h1,show Nat.blt r 10000000=true by rw[FS];exact ha r rfl];rfl
 .cases b2 with
  |none=>rfl
  |some r=>
   have h1:(!I1 a1 r)=true:=h.2;show eU a1 r=true;unfold eU;rw[Dw (show r≠ZL by have:=hb r rfl;grind [ZL]),GG,h1,show Nat.blt r 10000000=true by rw[FS];exact hb r rfl];rfl
theorem XR{ops:Array Oper}{oi:Oper}{fi:Ft}{D:List Nat}(hi:SH fi):∀{l:List Oper} {fs:List Ft} {k:Nat},UO fs->RD ops oi fi D k l fs=true->IH ops oi fi D k l fs=true
 | [],[],_,_,h=>h
 |o::r,f::fs,k,hs,h=>by
  unfold RD at h;unfold IH;rw[Ao,JW,Ao]at h⊢;exact⟨h.1.imp id (fun q=>⟨q.1,qJ hi hs.1 q.2⟩),XR hi hs.2 h.2⟩
 | [],_::_,_,_,h=>by grind [RD]
 |_::_,[],_,_,h=>by grind [RD]
theorem cJ{ops:Array Oper}{all:List Oper}:∀{l:List Oper} {fs:List Ft} {k:Nat},UO fs->X8 ops all k l fs=true->M1 ops all k l fs=true
 | [],[],_,_,h=>h
 |o::r,f::fs,k,hs,h=>by
  unfold X8 at h;unfold M1;simp only[Ao]at h⊢;exact⟨⟨h.1.1,XR hs.1 hs.2 h.1.2⟩,cJ hs.2 h.2⟩
 | [],_::_,_,_,h=>by grind [X8]
 |_::_,[],_,_,h=>by grind [X8]
theorem Jj{ops:Array Oper}{fs:List Ft}(hs:UO fs)(h:jY ops fs=true):Vl ops fs=true:=by
 grind [jY,Vl,cJ]
theorem Tl{d:Option Nat}{es es2:C0}(hty:(cx.T ty).d=.slice e)(hz:Nat.beq (cx.T e).zc.length (cx.T e).size=true)(EC:(cx.T e).size=m+1)(hx:∀K' : C0->Prop,K' es2->LK h x K')(hr:h r=.tok (m+1) es.length)(hl:Cq (m+1) es2)(hb:(es.length+es2.length)*(cx.T e).bytes<=2^47)(hc:es.length+es2.length<=2^63-1)(hk:K (.slice (.id r (m+1)) (es++es2)) (AS h r (.tok (m+1) (es.length+es2.length)))):Iy cx d h ty (.slice (.id r (m+1)) es) x K:=by
 grind [Nat.beq_refl,Iy]
theorem Tj{d:Nat}{es2:C0}(hty:(cx.T ty).d=.slice e)(hz:Nat.beq (cx.T e).zc.length (cx.T e).size=true)(EC:(cx.T e).size=m+1)(hx:∀K' : C0->Prop,K' es2->LK h x K')(hr:h (KA cx d)=.free)(ha:F7 cx.pl.arr d=none)(hl:Cq (m+1) es2)(hb:es2.length*(cx.T e).bytes<=2^47)(hc:es2.length<=2^63-1)(hk:K (.slice (.id (KA cx d) (m+1)) es2) (AS h (KA cx d) (.tok (m+1) es2.length))):Iy cx (some d) h ty nzA x K:=by
 grind [Iy,EO]
end Go.Eng
namespace Go.Eng
open Go.ChangeShapes Go.WideShapes
variable {p:List MemPlace}{w:World}{g:D}
def aj(w:World):D:=⟨fun _=>undef,fun _=>0,fun _=>false,fun _=>none,fun b _=>b<w.heap.size⟩
theorem LD{b o:Nat}{v:Value}(h:w.cell? ⟨b,o,none⟩=some v):b<w.heap.size:=by
 grind [World.cell?]
theorem zU(hg:∃m,w.cell? ⟨0,0,none⟩=some (.int .i64 m))(ht:∀x∈Ab8,x.1<w.heap.size/\w.cell? ⟨x.1,x.2.1,none⟩=x.2.2):CH w (aj w) Ab Ab (aj w) w where
 os:=rfl
 tape:=rfl
 output:=rfl
 size:=Af _
 frame:=fun _ _ _=>rfl
 slt:=fun _ _ h=>h
 objs:=fun _=>trivial
 inj:=fun _ _ _ h=>h.elim
 loc:=fun _ _ h=>h.elim
 sg:=fun _ _ h=>.inl h
 glob:=⟨⟨by obtain⟨m,h⟩:=hg;exact LD h,hg⟩,fun x hx=>ht x hx⟩
theorem V8{α β:Type}{f:α->Option β}:∀{l:List α} {r:List β},l.mapM f=some r->r.length=l.length/\∀(i:Nat) x,l[i]?=some x->∃y,r[i]?=some y/\f x=some y
 | [],r,h=>by simp_all
 |a::l,r,h=>by
  rw[List.mapM_cons]at h;cases ha:f a with
  |none=>simp_all
  |some b=>
   cases hl:l.mapM f with
   |none=>simp_all
   |some s=>
    simp[ha,hl]at h;subst h;obtain⟨h1,h2⟩:=V8 hl<;>grind
theorem X1{base:Nat}{a:Addr}{n:Nat}{cs:Ap6}(h:w.cells? base a n=some cs) :
  cs.length=n/\(0<n->a.spot=none)/\∀j,j<n->∃v,cs[j]?=some v/\w.cell? ⟨a.block,a.off+j,none⟩=some v:=by
 unfold World.cells? at h;split at h
 .obtain⟨h1,h2⟩:=V8 h;have one:∀j,j<n->∃v,cs[j]?=some v/\w.cell? (a.add j)=some v:=fun j hj=>by
   obtain⟨v,e1,e2⟩:=h2 j j (by simp[hj])<;>simp_all
  have xh:0<n->a.spot=none:=fun hn=>by
   obtain⟨v,_,hv⟩:=one 0 hn;simp only[Addr.add,AO]at hv;cases hs:a.spot<;>grind [World.cell?]
  refine⟨by simp_all,xh,fun j hj=>?_⟩;obtain⟨v,e1,e2⟩:=one j hj;refine⟨v,e1,?_⟩;have hs:=xh I;have e:a.add j=⟨a.block,a.off+j,none⟩:=by
   unfold Addr.add;split
   .rename_i h0;subst h0;cases a;simp_all
   .rfl
  simp_all
 simp_all
section
variable {H:Type}{enc:TypeId×Value->H}{P:Program}{w:World}{bk:DataW H->Nat}{N:Nat}
structure ZD(bk:DataW H->Nat):Prop where
 slice:∀es sp,es.length<=bk (.slice es sp)/\∀d∈es,bk d<=bk (.slice es sp)
 agg:∀ps,∀d∈ps,bk d<=bk (.agg ps)
 str:∀b:List UInt8,b.length<=bk (.lit (.string b))
def Ke(enc:TypeId×Value->H)(P:Program)(w:World)(bk:DataW H->Nat)(N:Nat)(t:TypeId){α:Type}(e:α->Ap5)(ok:α->Prop):Prop:=
 ∀(fuel:Nat) (cs:Ap6) (d:DataW H) (ps:List MemPlace),DataW.trod enc P w 0 (fun _=>true) true fuel t cs=some (d,ps)->bk d<=N->∃x:α,Cg (aj w) w DS (e x) cs/\ok x
theorem Tb{U:Nat->Prop}{a:AV}{v:Value}(h1:v.oneCell'=true)(h2:O g w U a v):Cg g w U [a] [v]:=by
 refine⟨rfl,fun x hx=>by simp_all,fun i av x q1 q2=>?_⟩
 grind
theorem pM{U:Nat->Prop}{a b:Ap5}{c d:Ap6}(h:Cg g w U a c)(k:Cg g w U b d):Cg g w U (a++b) (c++d):=by
 obtain⟨h1,h2,h3⟩:=h;obtain⟨k1,k2,k3⟩:=k;refine⟨by simp_all,fun x hx=>(Bh.1 hx).elim (h2 x) (k2 x),fun i av x q1 q2=>?_⟩
 grind
theorem Adl{U:Nat->Prop}:Cg g w U [] []:=⟨rfl,(fun x hx=>by cases hx),fun i av x q1=>by simp_all⟩
theorem Sq{t:TypeId}{k:IntKind}(hu:P.underlying t=some (.int k)):Ke enc P w bk N t (fun n:Int=>[AV.v (.int k n)]) (fun n=>k.min<=n/\n<=k.max):=by
 intro fuel cs d ps h _;cases fuel with
 |zero=>simp[DataW.trod]at h
 |succ fuel=>
  rw[DataW.trod_step]at h;unfold DataW.trodStep at h;rw[hu]at h;split at h<;>rename_i he<;>first | cases he | skip
  all_goals first | (split at h<;>first | cases h | skip) | cases h | skip
  rename_i n hc _;obtain⟨rfl,hw⟩:=hc;simp only[Lit.wf,Ao,AP]at hw;exact⟨_,Tb rfl (.v _ _),hw⟩
theorem iO{t:TypeId}(hu:P.underlying t=some .bool):Ke enc P w bk N t (fun b:Bool=>[AV.v (.bool b)]) (fun _=>True):=by
 intro fuel cs d ps h _;cases fuel with
 |zero=>simp[DataW.trod]at h
 |succ fuel=>
  rw[DataW.trod_step]at h;unfold DataW.trodStep at h;rw[hu]at h;split at h<;>rename_i he<;>first | cases he | skip
  all_goals first | cases h | skip
  exact⟨_,Tb rfl (.v _ _),trivial⟩
theorem aX{t:TypeId}(hB:ZD bk)(hu:P.underlying t=some .string):Ke enc P w bk N t (fun s:CS=>[AV.v (.string s)]) (fun s=>s.size<=N):=by
 intro fuel cs d ps h hb;cases fuel with
 |zero=>simp[DataW.trod]at h
 |succ fuel=>
  rw[DataW.trod_step]at h;unfold DataW.trodStep at h;rw[hu]at h;split at h<;>rename_i he<;>first | cases he | skip
  all_goals first | (split at h<;>first | cases h | skip) | cases h | skip
  rename_i s hs;refine⟨s,Tb rfl (.v _ _),?_⟩
  have:=hB.str s.data.toList
  have e:s.data.toList.length=s.size:=aa0
  omega
theorem GB{t e:TypeId}{α:Type}{E:α->Ap5}{ok:α->Prop}{m:Nat}(hB:ZD bk)(hu:P.underlying t=some (.slice e))(hm:P.cellsOf e=m+1)(hE:∀x,(E x).length=m+1)(he:Ke enc P w bk N e E ok) :
  Ke enc P w bk N t (fun l:List α=>[AV.slice .none (l.map E)]) (fun l=>l.length<=N/\∀x∈l,ok x):=by
 intro fuel cs d ps h hb;cases fuel with
 |zero=>simp[DataW.trod]at h
 |succ fuel=>
  rw[DataW.trod_step]at h;unfold DataW.trodStep at h;rw[hu]at h;split at h<;>rename_i hq<;>first | cases hq | skip
  all_goals first | (cases h;done) | skip
  .cases h
   exact⟨[],Tb rfl (.snil _ _ _),Ai _,fun x hx=>by cases hx⟩
  .rename_i a len cap;simp only at h;split at h
   .rename_i hc;simp only[BH,UT]at h;obtain⟨zt,wS,rest,_,hd⟩:=h;simp only[Uc]at hd;obtain⟨hd,_⟩:=hd;obtain⟨hl,FA⟩:=V8 wS;rw[Te]at hl;have hbs:=hB.slice (zt.map (·.1)) (rest.map (·.1));rw[hd]at hbs;rw[Bs]at hbs;have one:∀i,i<len->∃(x:α) (vs:Ap6),w.cells? 0 (a.add (i*P.cellsOf e)) (P.cellsOf e)=some vs/\Cg (aj w) w DS (E x) vs/\ok x:=fun i hi=>by
     obtain⟨y,hy,hf⟩:=FA i i aa0;simp only[UT]at hf;obtain⟨vs,hv,ht⟩:=hf;obtain⟨x,r1,r2⟩:=he fuel vs y.1 y.2 ht (Az (hbs.2 y.1 (Ap.2 ⟨y,Ax hy,rfl⟩)) hb)<;>grind
    have build:∀k,k<=len->∃l:List α,l.length=k/\∀(i:Nat) x,l[i]?=some x->∃vs:Ap6,w.cells? 0 (a.add (i*P.cellsOf e)) (P.cellsOf e)=some vs/\Cg (aj w) w DS (E x) vs/\ok x:=fun k=>by
     induction k with
     |zero=>simp_all
     |succ k ih=>
      intro hk;obtain⟨l,h1,h2⟩:=ih I;obtain⟨x,hx⟩:=one k I;refine⟨l++[x],by simp_all,fun i y q=>?_⟩
      grind
    obtain⟨l,h1,h2⟩:=build len (Af _);refine⟨l,Tb rfl ?_,by omega,fun x hx=>?_⟩
    .cases CN:len with
     |zero=>
      grind [O.snil]
     |succ n=>
      have xh:a.spot=none:=by
       obtain⟨x,vs,hv,_⟩:=one 0 I
       have:=(X1 hv).2.1 I
       grind [Addr.add]
      have ea:a=⟨a.block,a.off,none⟩:=by cases a;simp_all
      rw[<-CN,<-h1,show l.length=(l.map E).length by simp,ea];have cell:∀(i:Nat) (c:Ap5) (j:Nat) (av:AV),(l.map E)[i]?=some c->c[j]?=some av->∃v,w.cell? ⟨a.block,a.off+i*(m+1)+j,none⟩=some v/\v.oneCell'=true/\O (aj w) w DS av v:=by
       intro i c j av q1 q2;rw[BC,BH]at q1;obtain⟨x,q1,rfl⟩:=q1;obtain⟨vs,hv,hr,_⟩:=h2 i x q1;obtain⟨k1,_,k3⟩:=X1 hv;have hj:j<m+1:=by
        grind
       obtain⟨v,e1,e2⟩:=k3 j I;refine⟨v,?_,hr.2.1 v (Ax e1),hr.2.2 j av v q2 e1⟩
       grind [Addr.add]
      refine .slice _ _ a.block a.off (m+1) cap (fun i j=>(w.cell? ⟨a.block,a.off+i*(m+1)+j,none⟩).getD undef) aa2 (fun i c q=>?_) (fun i c j av q1 q2=>?_) (fun i c j av q1 q2=>?_)
      .grind
      .obtain⟨v,e1,e2,_⟩:=cell i c j av q1 q2;exact⟨LD e1,by grind,by grind⟩
      .obtain⟨v,e1,_,e3⟩:=cell i c j av q1 q2;rw[e1];exact e3
    grind [List.mem_iff_getElem?]
   simp_all
theorem N3{t e:TypeId}(hu:P.underlying t=some (.slice e)):Ke enc P w bk N t (fun _:Unit=>[AV.junk]) (fun _=>True):=by
 intro fuel cs d ps h _;cases fuel with
 |zero=>simp[DataW.trod]at h
 |succ fuel=>
  rw[DataW.trod_step]at h;unfold DataW.trodStep at h;rw[hu]at h;split at h<;>rename_i hq<;>first | cases hq | skip
  all_goals first | (cases h;done) | skip
  all_goals exact⟨(),Tb rfl (.junk _ _),trivial⟩
theorem Ke.to{t:TypeId}{α β:Type}{e:α->Ap5}{ok:α->Prop}{e' : β->Ap5}{ok' : β->Prop}(h:Ke enc P w bk N t e ok)(f:α->β)(hf:∀x,ok x->e' (f x)=e x/\ok' (f x)):Ke enc P w bk N t e' ok':=by
 intro fuel cs d ps k hb;obtain⟨x,h1,h2⟩:=h fuel cs d ps k hb<;>grind
def ZH(enc:TypeId×Value->H)(P:Program)(w:World)(bk:DataW H->Nat)(N L:Nat)(l:List Field)(o:Nat){α:Type}(e:α->Ap5)(ok:α->Prop):Prop:=
 ∀(fuel:Nat) (cs:Ap6) (xs:List (DataW H×List MemPlace)),cs.length=L->l.mapM (fun f=>DataW.trod enc P w 0 (fun _=>true) true fuel f.type ((cs.drop f.offset).take (P.cellsOf f.type)))=some xs->(∀x∈xs,bk x.1<=N) ->
  ∃x:α,Cg (aj w) w DS (e x) (cs.drop o)/\ok x
theorem Fm{L:Nat}:ZH enc P w bk N L [] L (fun _:Unit=>[]) (fun _=>True):=by
 intro fuel cs xs hl _ _;refine⟨(),?_,trivial⟩
 grind [Adl]
theorem A9{L o n:Nat}{f:Field}{l:List Field}{α β:Type}{e:α->Ap5}{ok:α->Prop}{e' : β->Ap5}{ok' : β->Prop}(ho:f.offset=o)(hn:P.cellsOf f.type=n)(h:Ke enc P w bk N f.type e ok)(k:ZH enc P w bk N L l (o+n) e' ok') :
  ZH enc P w bk N L (f::l) o (fun p:α×β=>e p.1++e' p.2) (fun p=>ok p.1/\ok' p.2):=by
 intro fuel cs xs hl hx hb;rw[List.mapM_cons]at hx;simp only[Option.bind_eq_bind,UT]at hx;obtain⟨y,hy,ys,hys,xk⟩:=hx;simp only[Option.pure_def,Ey]at xk;subst xk;obtain⟨x,r1,r2⟩:=h fuel _ y.1 y.2 hy (hb y (Ad ..));obtain⟨z,s1,s2⟩:=k fuel cs ys hl hys (fun q hq=>hb q (Aj _ hq));refine⟨(x,z),?_,r2,s2⟩
 grind [List.drop_drop,List.take_append_drop,pM]
theorem Ee{t:TypeId}{L:Nat}{fs:Array Field}{α:Type}{e:α->Ap5}{ok:α->Prop}(hB:ZD bk)(hu:P.underlying t=some (.struct fs))(hL:P.cellsOf t=L)(h:ZH enc P w bk N L fs.toList 0 e ok):Ke enc P w bk N t e ok:=by
 intro fuel cs d ps k hb;cases fuel with
 |zero=>simp[DataW.trod]at k
 |succ fuel=>
  rw[DataW.trod_step]at k;unfold DataW.trodStep at k;rw[hu]at k
  change (if cs.length=P.cellsOf t then(fs.toList.mapM fun f=>DataW.trod enc P w 0 (fun _=>true) true fuel f.type ((cs.drop f.offset).take (P.cellsOf f.type))).map fun xs=>(DataW.agg (xs.map (·.1)),xs.flatMap (·.2))else none)=some (d,ps)at k
  split at k
  .rename_i hc;simp only[BH,Uc]at k;obtain⟨xs,hx,hd,_⟩:=k;have hba:=hB.agg (xs.map (·.1));rw[hd]at hba;obtain⟨x,r1,r2⟩:=h fuel cs xs I hx (fun y hy=>Az (hba y.1 (Ap.2 ⟨y,hy,rfl⟩)) hb)<;>grind
  simp_all
theorem tc{t:TypeId}{α:Type}{e:α->AV}{ok:α->Prop}(h:Ke enc P w bk N t (fun x=>[e x]) ok){v:Value}{d:DataW H}(hv:v.oneCell'=true)(k:DataW.Trod enc P w 0 (fun _=>true) true t v d p)(hb:bk d<=N) :
  ∃x,O (aj w) w DS (e x) v/\ok x:=by
 obtain⟨fuel,k⟩:=k;have ec:v.cells.toList=[v]:=by cases v<;>first | rfl | cases hv
 rw[ec]at k;obtain⟨x,r1,r2⟩:=h fuel _ d p k hb;exact⟨x,r1.2.2 0 _ _ rfl rfl,r2⟩
theorem s9{t:TypeId}{α:Type}{e:α->Ap5}{ok:α->Prop}(h:Ke enc P w bk N t e ok){cs:Array Value}{d:DataW H}(k:DataW.Trod enc P w 0 (fun _=>true) true t (.agg cs) d p)(hb:bk d<=N) :
  ∃x,O (aj w) w DS (.agg (e x)) (.agg cs)/\ok x:=by
 obtain⟨fuel,k⟩:=k;obtain⟨x,r1,r2⟩:=h fuel cs.toList d p k hb;refine⟨x,.agg _ _ _ (by have:=r1.1;omega) (fun i y q=>r1.2.1 y aa2) (fun i av y q1 q2=>r1.2.2 i av y q1 aa0),r2⟩
end
end Go.Eng
