/- Lemmas 12. -/
import Derived.Test.YtpgfieopnnkpfaaGreatDoorQA11
import Derived.ReadAgain
import Derived.RowKit
import Derived.Test.YtpgfieopnnkpfaaGreatDoorProg
import Derived.Sort.Grow
import Derived.Shelf.GgSortFunc.InsertionK
namespace Go.Eng
variable {fn:Func}{c:Code}{K:AV->Prop}{f:Nat}(cx:Cx)(r:AV)(σ:JT)
section
variable {P:Program}{N:Nat}{ds:List Deferred}{w0:World}{g0:Gh}{h0:Nat->HO}{st:St}{g:Gh}{a:Act}{w:World}
theorem YJ{T:GB}(hT:BY P T){h:Nat->HO}(ho:∀r,DB g w (used h) r (h r)){t:Nat}{p:AV}{vp:Value}(hp:A5 g w (used h) p vp)(hk:Jd T h t p K) :
  ∃ad,(asAddr vp).run P w=.ok ad w/\Bp P h g w (loadVar t ad) K:=by
 obtain⟨x,av,h1,h2,h3⟩:=U3 ho hT hp hk;have fin:∀b off,vp=.pointer (some ⟨b,off,none⟩)->∃ad,(asAddr vp).run P w=.ok ad w/\Bp P h g w (loadVar t ad) K:=by
  rintro b off rfl
  refine⟨⟨b,off,none⟩,by simp[asAddr],x,av,?_,h2,h3⟩
  grind [Instr.loadAt,Instr.sureAddr]
 unfold Jd at hk;split at hk
 all_goals grind [cases A5]
def bx(tmps:Array Value):ResultVar->Sem Value
 |.tmp t=>pure (tmps.getD t undef)
 |.cell ad t=>do loadVar t (<-asAddr (tmps.getD ad undef))
theorem Ts(fn:Func)(tmps:Array Value):results fn tmps=(do
 let vs <-fn.results.mapM (bx tmps)
 pure (if h:vs.size=1 then vs[0]else .tuple vs)):=rfl
theorem WR{cx:Cx}(hT:BY P cx.T)(hS:SR N ds w0 g0 h0 st g a w):∀(rs:List ResultVar) {K:List AV->Prop},oG cx.T st rs K ->
  ∃l vs,K l/\(rs.mapM (bx a.tmps)).run P w=.ok vs w/\vs.length=l.length/\vs.length=rs.length /\
   ∀(i:Nat) (av:AV) (x:Value),l[i]?=some av->vs[i]?=some x->A5 g w EZ av x
 | [],K,hk=>⟨[],[],hk,by simp,rfl,rfl,fun i av x h=>by simp_all⟩
 |.tmp t::r,K,hk=>by
  obtain⟨l,vs,h1,h2,h3,h4,h5⟩:=WR hT hS r hk;refine⟨_,a.tmps.getD t undef::vs,h1,?_,by simp_all,by simp_all,fun i av x q1 q2=>?_⟩
  .grind [bx,Sem.run_bind,Sem.run_pure,Result.andThen_ok]
  .cases i with
   |zero=>
    simp only[Ea,Dr]at q1 q2;subst q1;subst q2;exact A5.str hS.inv.objs (hS.slots t)
   |succ i=>grind
 |.cell ad t::r,K,hk=>by
  obtain⟨addr,e1,x0,av0,e2,hk',e4⟩:=YJ hT hS.inv.objs (hS.slots ad) hk;obtain⟨l,vs,h1,h2,h3,h4,h5⟩:=WR hT hS r hk';refine⟨_,x0::vs,h1,?_,by simp_all,by simp_all,fun i av x q1 q2=>?_⟩
  .grind [bx,Sem.run_bind,Sem.run_pure,Result.andThen_ok]
  .cases i with
   |zero=>
    simp only[Ea,Dr]at q1 q2;subst q1;subst q2;exact A5.str hS.inv.objs e4
   |succ i=>grind
theorem WQ{cx:Cx}(hT:BY P cx.T)(hS:SR N ds w0 g0 h0 st g a w)(hk:fN cx st fn.results.toList K) :
  ∃g' r v h',K r/\(results fn a.tmps).run P w=.ok v w/\Cv w0 g0 h0 h' g' w/\Le h0 g0 w0 h' g' w/\A5 g' w EZ r v:=by
 obtain⟨g',i1,i2⟩:=Oz cx.pl.fin hS.inv;have UL : SR N ds w0 g0 h0 ⟨st.t,Pz st.h cx.pl.fin⟩ g' a w:=⟨i1,hS.le.trans i2,hS.dfs,hS.size,fun i=>(hS.slots i).le i2⟩;obtain⟨l,vs,h1,h2,h3,h4,h5⟩:=WR hT UL _ hk;have Cm:(results fn a.tmps).run P w=.ok (if h:vs.toArray.size=1 then vs.toArray[0]else .tuple vs.toArray) w:=by
  rw[Ts,show fn.results=fn.results.toList.toArray by simp,List.mapM_toArray];simp_all
 refine⟨g',?_⟩
 match l,vs,h1,h3,h5,Cm with
 | [v],[x],h1,h3,h5,Cm=>exact⟨v,x,_,h1,by simp_all,i1,UL.le,h5 0 v x rfl rfl⟩
 | [],vs,h1,h3,h5,Cm=>
  have:vs=[]:=Az h3
  subst this;exact⟨.tup [],.tuple #[],_,h1,by simp_all,i1,UL.le,.tup _ _ _ rfl fun i av x q=>by simp_all⟩
 |v::v' :: l,vs,h1,h3,h5,Cm=>
  refine⟨.tup (v::v' :: l),.tuple vs.toArray,_,h1,?_,i1,UL.le,.tup _ _ _ aa0 fun i av x q1 q2=>h5 i av x q1 (by simp_all)⟩;simp_all
theorem Cv.toFree(hI:Cv w0 g0 Af st.h g w):Cv w0 g0 Af Af g w:=
 ⟨hI.os,hI.tape,hI.output,hI.size,hI.frame,hI.slt,fun _=>trivial,fun _ _ _ h=>h.elim,fun _ _ h=>h.elim,hI.sg,hI.glob⟩
theorem Oo{U:Nat->Prop}{n:Nat}:∀{args:List AV} {vals:List Value},vals.length=args.length->(∀(i:Nat) (av:AV) (x:Value),args[i]?=some av->vals[i]?=some x->A5 g w U av x) ->
  ∀i,A5 g w U (On args i) ((vals++List.replicate n undef).getD i undef)
 | [],[],_,_,i=>by
  have:(([]:List Value)++List.replicate n undef).getD i undef=undef:=by
   grind
  rw[this];exact .v _ _
 | [],_::_,h,_,_=>by simp_all
 |_::_,[],h,_,_=>by simp_all
 |x::l,v::vs,h,hr,i=>by
  cases i with
  |zero=>exact hr 0 x v rfl rfl
  |succ i=>
   have:=Oo (n:=n) (args:=l) (vals:=vs) (by simp_all) (fun i av x q1 q2=>hr (i+1) av x (by simp_all) (by simp_all)) i
   grind [On]
theorem g9 {f : Nat}{args : List AV}{Q : AV -> Prop}(hP : cx.P = P)(hT : BY P cx.T)(hm : P.follows .mixedOrders = true)(hx : cx.ext = false)(hf : P.funcs[f]? = some fn)(hn : (fn.name == "runtime.NumGoroutine") = false)(hb:fn.body=some c)(hN:args.length<=fn.ntmps)(hc:Ee fn.ntmps c=true)(hk:Pl cx c (aj cx fn.results.toList Q) ⟨On args,Af⟩)(hY:∀l σ g w,cx.yp l σ g w:=by exact fun _ _ _ _=>trivial):Cq P f args Af fun r h'=>h'=Af/\Q r:=by
 refine⟨⟨fn,hf,hn,by simp_all⟩,fun g w vals hs hv hI=>calls_of_wp hf hb ?_⟩;have hU:used Af=EZ:=by grind [used,EZ,Af]
 have hS:SR fn.ntmps [] w g Af ⟨On args,Af⟩ g { tmps:=vals++Array.replicate (fn.ntmps-vals.size) undef,defers:=[] } w:=by
  refine⟨hI,.refl _ _ _,rfl,by simp_all,fun i=>?_⟩
  have:=Oo (n:=fn.ntmps-vals.size) (args:=args) (vals:=vals.toList) aa0 (fun i av x q1 q2=>hv i av x q1 (by simp_all)) i
  grind [Array.getD_eq_getD_getElem?,Array.toList_append,Array.toList_replicate]
 refine wpIn_wide.1 (Nr hP hT hm (by unfold Lv;rw[hx];exact fun _=>rfl) (fun l σ _ _ w _ _ _=>hY l σ _ w) none c hc (fun e st g' a w' hk hS=>?_) hS hk);have out:fN cx st fn.results.toList Q->a.defers=[]/\∃v,(results fn a.tmps).run P w'=.ok v w'/\∃v' r h' g',(Ending.returned v:Ending)=.returned v'/\(h'=Af/\Q r)/\A5 g' w' (used h') r v'/\Cv w g Af h' g' w'/\Le Af g w h' g' w':=by
  intro hk;obtain⟨g2,r,v,h',q1,q2,q3,q4,q5⟩:=WQ hT hS hk;exact⟨hS.dfs,v,q2,v,r,Af,g2,rfl,⟨rfl,q1⟩,by simp_all,Cv.toFree (st:=⟨st.t,h'⟩) q3,⟨fun i hi=>absurd rfl hi,fun i hi=>absurd rfl hi,q4.keeps⟩⟩
 cases e with
 |normal=>exact out hk
 |ret=>exact out hk
 |exit id=>exact hk.elim
theorem WS{cx:Cx}(hT:BY P cx.T)(hS:SR N ds w0 g0 h0 st g a w):∀(rs:List ResultVar) {K:List AV->Prop},oH cx.T st rs K ->
  ∃l vs,K l/\(rs.mapM (bx a.tmps)).run P w=.ok vs w/\vs.length=l.length/\vs.length=rs.length /\
   ∀(i:Nat) (av:AV) (x:Value),l[i]?=some av->vs[i]?=some x->A5 g w (used st.h) av x
 | [],K,hk=>⟨[],[],hk,by simp,rfl,rfl,fun i av x h=>by simp_all⟩
 |.tmp t::r,K,hk=>by
  obtain⟨l,vs,h1,h2,h3,h4,h5⟩:=WS hT hS r hk;refine⟨_,a.tmps.getD t undef::vs,h1,?_,by simp_all,by simp_all,fun i av x q1 q2=>?_⟩
  all_goals grind [bx,Sem.run_bind,Sem.run_pure,Result.andThen_ok,SR.slots]
 |.cell ad t::r,K,hk=>by
  obtain⟨addr,e1,x0,av0,e2,hk',e4⟩:=YJ hT hS.inv.objs (hS.slots ad) hk;obtain⟨l,vs,h1,h2,h3,h4,h5⟩:=WS hT hS r hk';refine⟨_,x0::vs,h1,?_,by simp_all,by simp_all,fun i av x q1 q2=>?_⟩
  all_goals grind [bx,Sem.run_bind,Sem.run_pure,Result.andThen_ok]
theorem Hw{σ:JT}:∀{H0:List (Nat×HO)},I7 σ H0=true->∀i,Ar H0 Af i≠.free->1000<=i/\i<2000/\Cp σ i=some i
 | [],_,i,h=>absurd rfl h
 |(a,o)::r,hx,i,h=>by
  simp only[I7,Au,Nat.ble_eq,Ia]at hx;obtain⟨⟨⟨h1,h2⟩,h3⟩,h4⟩:=hx
  by_cases e:i=a
  .grind [Nat.eq_of_beq_eq_true]
  .unfold Ar at h;simp only[Ds e,GE]at h;exact Hw h4 i h
theorem Wd{H0:List (Nat×HO)}{σ:JT}(hσ:HF σ=true)(hx:I7 σ H0=true){h:Nat->HO}(hI:Cv w0 g0 (Ar H0 Af) h g w)(hL:Le (Ar H0 Af) g0 w0 h g w) :
  FQ (Cp σ) h (F8 σ h) g (DE σ g) w/\Cv w0 g0 (Ar H0 Af) (F8 σ h) (DE σ g) w/\Le (Ar H0 Af) g0 w0 (F8 σ h) (DE σ g) w:=by
 have inv:=WC hσ;have GR:∀j,F8 σ h j=match HR σ j with | some i=>(h i).ren (Cp σ) h | none=>.free:=O1 _ _ σ
 have hR:FQ (Cp σ) h (F8 σ h) g (DE σ g) w:=by
  refine⟨fun r r' hr hu=>?_,fun b o=>Iff.rfl,hI.objs⟩
  grind [DE,used,Md]
 have LP:∀j,(F8 σ h j).live->∃i,HR σ j=some i/\(h i).live:=fun j hl=>by
  rw[GR]at hl;cases e:HR σ j with
  |none=>rw[e]at hl;exact hl.elim
  |some i=>grind [Mc]
 have MX:∀j i,HR σ j=some i->(DE σ g).own j=g.own i:=fun j i e=>by simp[DE,e]
 refine⟨hR,⟨hI.os,hI.tape,hI.output,hI.size,hI.frame,hI.slt,fun j=>?_,fun j j' b hl T1 e e'=>?_,fun j b hl e=>?_,hI.sg,hI.glob⟩,⟨fun i hi=>?_,fun i hi=>?_,hL.keeps⟩⟩
 .rw[GR];cases e:HR σ j with
  |none=>trivial
  |some i=>
   by_cases hu:used h i
   .grind [DB.ren,Cv.objs]
   .have:h i=.free:=Bs.1 hu
    dsimp only;rw[this];trivial
 .obtain⟨i,e1,l1⟩:=LP j hl;obtain⟨i',e2,l2⟩:=LP j' T1;rw[MX j i e1]at e;rw[MX j' i' e2]at e';obtain rfl:=hI.inj i i' b l1 l2 e e'
  have:=(inv i j).2 e1
  rw[(inv i j').2 e2]at this;simp_all
 .obtain⟨i,e1,l1⟩:=LP j hl;rw[MX j i e1]at e;exact hI.loc i b l1 e
 .obtain⟨_,_,hf⟩:=Hw hx i hi;have hb:=(inv i i).1 hf;have e1:(DE σ g).ρ i=g.ρ i/\(DE σ g).ln i=g.ln i/\(DE σ g).tk i=g.tk i:=by grind [DE]
  obtain⟨k1,k2,k3,k4⟩:=hL.gh i hi<;>simp_all
 .obtain⟨_,_,hf⟩:=Hw hx i hi;have hb:=(inv i i).1 hf;unfold used;rw[GR,hb];exact(Md _ _ _).2 (hL.us i hi)
theorem X9{f:Nat}{args:List AV}{H0:List (Nat×HO)}{Q:AV->(Nat->HO)->Prop}(hP:cx.P=P)(hT:BY P cx.T)(hm:P.follows .mixedOrders=true)(hx:cx.ext=true)(hf:P.funcs[f]?=some fn)(_hn : (fn.name == "runtime.NumGoroutine") = false)(hb : fn.body = some c)(hN : args.length <= fn.ntmps)(hc : Ee fn.ntmps c = true)(hσ : (HF σ && I7 σ H0) = true)(hk:Pl cx c (ne cx fn.results.toList σ Q) ⟨On args,Ar H0 Af⟩){g:Gh}{w:World}{vals:Array Value}(hs:vals.size=args.length)(hv:∀(i:Nat) (av:AV) (x:Value),args[i]?=some av->vals[i]?=some x->A5 g w (used (Ar H0 Af)) av x)(hI:Cv w g (Ar H0 Af) (Ar H0 Af) g w)(hY:∀l σ h' g' w',D3 σ=true->Cv w g (Ar H0 Af) h' g' w'->Le (Ar H0 Af) g w h' g' w'->cx.yp l σ (DE σ g') w') :
  Calls P f vals w fun e w'=>∃v r h' g',e=.returned v/\Q r h'/\A5 g' w' (used h') r v/\Cv w g (Ar H0 Af) h' g' w'/\Le (Ar H0 Af) g w h' g' w':=by
 simp only[Au]at hσ;obtain⟨hσ,vD⟩:=hσ;refine calls_of_wp hf hb ?_;have hS:SR fn.ntmps [] w g (Ar H0 Af) ⟨On args,Ar H0 Af⟩ g { tmps:=vals++Array.replicate (fn.ntmps-vals.size) undef,defers:=[] } w:=by
  refine⟨hI,.refl _ _ _,rfl,by simp_all,fun i=>?_⟩
  have:=Oo (n:=fn.ntmps-vals.size) (args:=args) (vals:=vals.toList) aa0 (fun i av x q1 q2=>hv i av x q1 (by simp_all)) i
  grind [Array.getD_eq_getD_getElem?,Array.toList_append,Array.toList_replicate]
 refine wpIn_wide.1 (Nr hP hT hm (by unfold Lv;rw[hx];exact fun i hi=>⟨(Hw vD i hi).1,(Hw vD i hi).2.1⟩) hY none c hc (fun e st g' a w' hk hS=>?_) hS hk);have out:rT cx st fn.results.toList σ Q->a.defers=[]/\∃v,(results fn a.tmps).run P w'=.ok v w'/\∃v' r h' g',(Ending.returned v:Ending)=.returned v'/\Q r h'/\A5 g' w' (used h') r v'/\Cv w g (Ar H0 Af) h' g' w'/\Le (Ar H0 Af) g w h' g' w':=by
  intro hk;obtain⟨g2,i1,i2⟩:=Oz cx.pl.fin hS.inv;have UL : SR fn.ntmps [] w g (Ar H0 Af) ⟨st.t,Pz st.h cx.pl.fin⟩ g2 a w':=⟨i1,hS.le.trans i2,hS.dfs,hS.size,fun i=>(hS.slots i).le i2⟩;obtain⟨l,vs,h1,h2,h3,h4,h5⟩:=WS hT UL _ hk;obtain⟨hR,j1,j2⟩:=Wd hσ vD i1 UL.le;have Cm:(results fn a.tmps).run P w'=.ok (if h:vs.toArray.size=1 then vs.toArray[0]else .tuple vs.toArray) w':=by
   rw[Ts,show fn.results=fn.results.toList.toArray by simp,List.mapM_toArray];simp_all
  refine⟨hS.dfs,?_⟩
  match l,vs,h1,h3,h5,Cm with
  | [v],[x],h1,h3,h5,Cm=>exact⟨x,by simp_all,x,_,_,_,rfl,h1,(h5 0 v x rfl rfl).ren hR,j1,j2⟩
  | [],vs,h1,h3,h5,Cm=>
   have:vs=[]:=Az h3
   subst this;exact⟨.tuple #[],by simp_all,.tuple #[],_,_,_,rfl,h1,A5.ren hR (.tup _ [] _ rfl fun i av x q=>by simp_all),j1,j2⟩
  |v::v' :: l,vs,h1,h3,h5,Cm=>
   refine⟨.tuple vs.toArray,?_,.tuple vs.toArray,_,_,_,rfl,h1,A5.ren hR (.tup _ _ _ aa0 fun i av x q1 q2=>h5 i av x q1 (by simp_all)),j1,j2⟩;simp_all
 cases e with
 |normal=>exact out hk
 |ret=>exact out hk
 |exit id=>exact hk.elim
theorem jn{f:Nat}{args:List AV}{H0:List (Nat×HO)}{Q:AV->(Nat->HO)->Prop}(hP:cx.P=P)(hT:BY P cx.T)(hm:P.follows .mixedOrders=true)(hx:cx.ext=true)(hf:P.funcs[f]?=some fn)(hn : (fn.name == "runtime.NumGoroutine") = false)(hb : fn.body = some c)(hN : args.length <= fn.ntmps)(hc : Ee fn.ntmps c = true)(hσ : (HF σ && I7 σ H0) = true)(hk:Pl cx c (ne cx fn.results.toList σ Q) ⟨On args,Ar H0 Af⟩)(hY:∀l σ g w,cx.yp l σ g w:=by exact fun _ _ _ _=>trivial):Cq P f args (Ar H0 Af) Q:=
 ⟨⟨fn,hf,hn,by simp_all⟩,fun g w vals hs hv hI=>X9 cx σ hP hT hm hx hf hn hb hN hc hσ hk hs hv hI (fun l σ _ _ w _ _ _=>hY l σ _ w)⟩
end
def DC(r':AV):Prop:=∀(g:Gh) (w:World) (U:Nat->Prop) (x:Value),A5 g w U r x->A5 g w U r' x
theorem DC.refl:DC r r:=fun _ _ _ _ h=>h
theorem DC.of_eq{r r' : AV}(h:r=r'):DC r r':=h▸.refl r
theorem DC.trans{a b c:AV}(h:DC a b)(k:DC b c):DC a c:=fun g w U x r=>k g w U x (h g w U x r)
theorem DC.nil:DC nzA (.slice .none []):=fun _ _ _ _ h=>by cases h;grind [A5.snil]
def No:List AV->List AV->Prop
 | [],[]=>True
 |a::r,b::s=>DC a b/\No r s
 |_,_=>False
theorem No.len:∀{l l' : List AV},No l l'->l'.length=l.length
 | [],[],_=>rfl
 |_::_,_::_,h=>Aa (·+1) h.2.len
 | [],_::_,h=>h.elim
 |_::_,[],h=>h.elim
theorem No.get:∀{l l' : List AV},No l l'->∀(i:Nat) (b:AV),l'[i]?=some b->∃a,l[i]?=some a/\DC a b
 | [],[],_,i,b,h=>by simp_all
 |a::r,b::s,hs,i,c,h=>by
  cases i with
  |zero=>simp only[Ea,Dr]at h;subst h;exact⟨a,rfl,hs.1⟩
  |succ i=>exact No.get hs.2 i c (by simpa using h)
 | [],_::_,h,_,_,_=>h.elim
 |_::_,[],h,_,_,_=>h.elim
theorem DC.tup{l l' : List AV}(h:No l l'):DC (.tup l) (.tup l'):=fun g w U x r=>by
 cases r with
 |tup _ _ vs hs hr=>
  refine .tup _ _ vs (by rw[hs,h.len]) fun i av x q1 q2=>?_;obtain⟨a,e1,e2⟩:=h.get i av q1;exact e2 _ _ _ _ (hr i a x e1 q2)
theorem DC.agg{l l' : List AV}(h:No l l'):DC (.agg l) (.agg l'):=fun g w U x r=>by
 cases r with
 |agg _ _ vs hs h1 hr=>
  refine .agg _ _ vs (by rw[hs,h.len]) h1 fun i av x q1 q2=>?_;obtain⟨a,e1,e2⟩:=h.get i av q1;exact e2 _ _ _ _ (hr i a x e1 q2)
def VL:List (List AV)->List (List AV)->Prop
 | [],[]=>True
 |a::r,b::s=>No a b/\VL r s
 |_,_=>False
theorem VL.len:∀{l l' : List (List AV)},VL l l'->l'.length=l.length
 | [],[],_=>rfl
 |_::_,_::_,h=>Aa (·+1) h.2.len
 | [],_::_,h=>h.elim
 |_::_,[],h=>h.elim
theorem VL.get:∀{l l' : List (List AV)},VL l l'->∀(i:Nat) (b:List AV),l'[i]?=some b->∃a,l[i]?=some a/\No a b
 | [],[],_,i,b,h=>by simp_all
 |a::r,b::s,hs,i,c,h=>by
  cases i with
  |zero=>simp only[Ea,Dr]at h;subst h;exact⟨a,rfl,hs.1⟩
  |succ i=>exact VL.get hs.2 i c (by simpa using h)
 | [],_::_,h,_,_,_=>h.elim
 |_::_,[],h,_,_,_=>h.elim
theorem DC.slice{l l' : List (List AV)}(h:VL l l'):DC (.slice .none l) (.slice .none l'):=fun g w U x r=>by
 have Cy:=h.len;cases r with
 |snil _ a cap=>
  grind [A5.snil]
 |slice _ _ b off sz cap val hc hl CY DS=>
  rw[<-Cy];refine .slice _ _ b off sz cap val aa0 (fun i cs hi=>?_) (fun i cs j av hi hj=>?_) (fun i cs j av hi hj=>?_)
  .grind [VL.get,No.len]
  .grind [VL.get,No.get]
  .obtain⟨a,e1,e2⟩:=h.get i cs hi;obtain⟨c,f1,f2⟩:=e2.get j av hj;exact f2 _ _ _ _ (DS i a j c e1 f1)
section
variable {P:Program}
theorem Cq.mono{f:Nat}{args:List AV}{h0:Nat->HO}{Q Q' : AV->(Nat->HO)->Prop}(h:Cq P f args h0 Q)(hq:∀r h',Q r h'->∃r',DC r r'/\Q' r' h'):Cq P f args h0 Q':=
 ⟨h.1,fun g w vals q1 q2 q3=>(h.2 g w vals q1 q2 q3).mono fun _ _ ⟨v,r,h',g',e1,e2,e3,rest⟩=>
  let ⟨r',s,k⟩:=hq r h' e2
  ⟨v,r',h',g',e1,k,s _ _ _ _ e3,rest⟩⟩
theorem Cq.args{args args' : List AV}{h0:Nat->HO}{Q:AV->(Nat->HO)->Prop}(h:Cq P f args h0 Q)(hs:No args' args):Cq P f args' h0 Q:=
 ⟨h.1,fun g w vals q1 q2 q3=>h.2 g w vals (by rw[q1,hs.len]) (fun i av x e1 e2=>by
  obtain⟨a,f1,f2⟩:=hs.get i av e1;exact f2 _ _ _ _ (q2 i a x f1 e2)) q3⟩
theorem K6.args{f:Nat}{args args' : List AV}{Gz:AV}(h:K6 P f args Gz)(hs:No args' args):K6 P f args' Gz:=Cq.args h hs
theorem EW {args : List AV}{Gz : AV}(hP : cx.P = P)(hT : BY P cx.T)(hm : P.follows .mixedOrders = true)(hx : cx.ext = false)(hf : P.funcs[f]? = some fn)(hn : (fn.name == "runtime.NumGoroutine") = false)(hb:fn.body=some c)(hN:args.length<=fn.ntmps)(hc:Ee fn.ntmps c=true)(hk:Pl cx c (aj cx fn.results.toList fun r=>DC r Gz) ⟨On args,Af⟩)(hY:∀l σ g w,cx.yp l σ g w:=by exact fun _ _ _ _=>trivial):K6 P f args Gz:=
 (g9 cx hP hT hm hx hf hn hb hN hc hk hY).mono fun _ _ ⟨e1,e2⟩=>⟨Gz,e2,rfl,e1⟩
end
end Go.Eng
namespace Go.Eng
open Go.ChangeShapes Go.WideShapes
variable {p:List MemPlace}{w:World}{g:Gh}
def jk(w:World):Gh:=⟨fun _=>undef,fun _=>0,fun _=>false,fun _=>none,fun b _=>b<w.heap.size⟩
theorem V2{b o:Nat}{v:Value}(h:w.cell? ⟨b,o,none⟩=some v):b<w.heap.size:=by
 grind [World.cell?]
theorem vF(hg:∃m,w.cell? ⟨0,0,none⟩=some (.int .i64 m))(ht:∀x∈jm,x.1<w.heap.size/\w.cell? ⟨x.1,x.2.1,none⟩=x.2.2):Cv w (jk w) Af Af (jk w) w where
 os:=rfl
 tape:=rfl
 output:=rfl
 size:=Aq _
 frame:=fun _ _ _=>rfl
 slt:=fun _ _ h=>h
 objs:=fun _=>trivial
 inj:=fun _ _ _ h=>h.elim
 loc:=fun _ _ h=>h.elim
 sg:=fun _ _ h=>.inl h
 glob:=⟨⟨by obtain⟨m,h⟩:=hg;exact V2 h,hg⟩,fun x hx=>ht x hx⟩
theorem SZ{α β:Type}{f:α->Option β}:∀{l:List α} {r:List β},l.mapM f=some r->r.length=l.length/\∀(i:Nat) x,l[i]?=some x->∃y,r[i]?=some y/\f x=some y
 | [],r,h=>by simp_all
 |a::l,r,h=>by
  rw[List.mapM_cons]at h;cases ha:f a with
  |none=>simp_all
  |some b=>
   cases hl:l.mapM f with
   |none=>simp_all
   |some s=>
    simp[ha,hl]at h;subst h;obtain⟨h1,h2⟩:=SZ hl<;>grind
theorem Ux{base:Nat}{a:Addr}{n:Nat}{cs:List Value}(h:w.cells? base a n=some cs) :
  cs.length=n/\(0<n->a.spot=none)/\∀j,j<n->∃v,cs[j]?=some v/\w.cell? ⟨a.block,a.off+j,none⟩=some v:=by
 unfold World.cells? at h;split at h
 .obtain⟨h1,h2⟩:=SZ h;have Xm:∀j,j<n->∃v,cs[j]?=some v/\w.cell? (a.add j)=some v:=fun j hj=>by
   obtain⟨v,e1,e2⟩:=h2 j j (by simp[hj])<;>simp_all
  have cC:0<n->a.spot=none:=fun hn=>by
   obtain⟨v,_,hv⟩:=Xm 0 hn;simp only[Addr.add,AE]at hv;cases hs:a.spot<;>grind [World.cell?]
  refine⟨by simp_all,cC,fun j hj=>?_⟩;obtain⟨v,e1,e2⟩:=Xm j hj;refine⟨v,e1,?_⟩;have hs:=cC aa0;have e:a.add j=⟨a.block,a.off+j,none⟩:=by
   unfold Addr.add;split
   .rename_i h0;subst h0;cases a;simp_all
   .rfl
  simp_all
 simp_all
section
variable {H:Type}{enc:TypeId×Value->H}{P:Program}{w:World}{bk:DataW H->Nat}{N:Nat}
structure VI(bk:DataW H->Nat):Prop where
 slice:∀es sp,es.length<=bk (.slice es sp)/\∀d∈es,bk d<=bk (.slice es sp)
 agg:∀ps,∀d∈ps,bk d<=bk (.agg ps)
 str:∀b:List UInt8,b.length<=bk (.lit (.string b))
def JB(enc:TypeId×Value->H)(P:Program)(w:World)(bk:DataW H->Nat)(N:Nat)(t:TypeId){α:Type}(e:α->List AV)(ok:α->Prop):Prop:=
 ∀(fuel:Nat) (cs:List Value) (d:DataW H) (ps:List MemPlace),DataW.trod enc P w 0 (fun _=>true) true fuel t cs=some (d,ps)->bk d<=N->∃x:α,B2 (jk w) w EZ (e x) cs/\ok x
theorem Qi{U:Nat->Prop}{a:AV}{v:Value}(h1:v.oneCell'=true)(h2:A5 g w U a v):B2 g w U [a] [v]:=by
 refine⟨rfl,fun x hx=>by simp_all,fun i av x q1 q2=>?_⟩
 grind
theorem gO{U:Nat->Prop}{a b:List AV}{c d:List Value}(h:B2 g w U a c)(k:B2 g w U b d):B2 g w U (a++b) (c++d):=by
 obtain⟨h1,h2,h3⟩:=h;obtain⟨k1,k2,k3⟩:=k;refine⟨by simp_all,fun x hx=>(Bz.1 hx).elim (h2 x) (k2 x),fun i av x q1 q2=>?_⟩
 grind
theorem sk{U:Nat->Prop}:B2 g w U [] []:=⟨rfl,(fun x hx=>by cases hx),fun i av x q1=>by simp_all⟩
theorem PQ{t:TypeId}{k:IntKind}(hu:P.underlying t=some (.int k)):JB enc P w bk N t (fun n:Int=>[AV.v (.int k n)]) (fun n=>k.min<=n/\n<=k.max):=by
 intro fuel cs d ps h _;cases fuel with
 |zero=>simp[DataW.trod]at h
 |succ fuel=>
  rw[DataW.trod_step]at h;unfold DataW.trodStep at h;rw[hu]at h;split at h<;>rename_i he<;>first | cases he | skip
  all_goals first | (split at h<;>first | cases h | skip) | cases h | skip
  rename_i n hc _;obtain⟨rfl,hw⟩:=hc;simp only[Lit.wf,Au,Bg]at hw;exact⟨_,Qi rfl (.v _ _),hw⟩
theorem bm{t:TypeId}(hu:P.underlying t=some .bool):JB enc P w bk N t (fun b:Bool=>[AV.v (.bool b)]) (fun _=>True):=by
 intro fuel cs d ps h _;cases fuel with
 |zero=>simp[DataW.trod]at h
 |succ fuel=>
  rw[DataW.trod_step]at h;unfold DataW.trodStep at h;rw[hu]at h;split at h<;>rename_i he<;>first | cases he | skip
  all_goals first | cases h | skip
  exact⟨_,Qi rfl (.v _ _),trivial⟩
theorem WP{t:TypeId}(hB:VI bk)(hu:P.underlying t=some .string):JB enc P w bk N t (fun s:ByteArray=>[AV.v (.string s)]) (fun s=>s.size<=N):=by
 intro fuel cs d ps h hb;cases fuel with
 |zero=>simp[DataW.trod]at h
 |succ fuel=>
  rw[DataW.trod_step]at h;unfold DataW.trodStep at h;rw[hu]at h;split at h<;>rename_i he<;>first | cases he | skip
  all_goals first | (split at h<;>first | cases h | skip) | cases h | skip
  rename_i s hs;refine⟨s,Qi rfl (.v _ _),?_⟩
  have:=hB.str s.data.toList
  have e:s.data.toList.length=s.size:=by simp_all
  omega
theorem FB{t e:TypeId}{α:Type}{E:α->List AV}{ok:α->Prop}{m:Nat}(hB:VI bk)(hu:P.underlying t=some (.slice e))(hm:P.cellsOf e=m+1)(hE:∀x,(E x).length=m+1)(he:JB enc P w bk N e E ok) :
  JB enc P w bk N t (fun l:List α=>[AV.slice .none (l.map E)]) (fun l=>l.length<=N/\∀x∈l,ok x):=by
 intro fuel cs d ps h hb;cases fuel with
 |zero=>simp[DataW.trod]at h
 |succ fuel=>
  rw[DataW.trod_step]at h;unfold DataW.trodStep at h;rw[hu]at h;split at h<;>rename_i hq<;>first | cases hq | skip
  all_goals first | (cases h;done) | skip
  .cases h
   exact⟨[],Qi rfl (.snil _ _ _),Ao _,fun x hx=>by cases hx⟩
  .rename_i a len cap;simp only at h;split at h
   .rename_i hc;simp only[CD,Rv]at h;obtain⟨pt,hel,rest,_,hd⟩:=h;simp only[Prod.mk.injEq]at hd;obtain⟨hd,_⟩:=hd;obtain⟨hl,GR⟩:=SZ hel;rw[Es]at hl;have zx:=hB.slice (pt.map (·.1)) (rest.map (·.1));rw[hd]at zx;rw[Bv]at zx;have Xm:∀i,i<len->∃(x:α) (vs:List Value),w.cells? 0 (a.add (i*P.cellsOf e)) (P.cellsOf e)=some vs/\B2 (jk w) w EZ (E x) vs/\ok x:=fun i hi=>by
     obtain⟨y,hy,hf⟩:=GR i i (by simp_all);simp only[Rv]at hf;obtain⟨vs,hv,ht⟩:=hf;obtain⟨x,r1,r2⟩:=he fuel vs y.1 y.2 ht (AL (zx.2 y.1 (Ay.2 ⟨y,AO hy,rfl⟩)) hb)<;>grind
    have build:∀k,k<=len->∃l:List α,l.length=k/\∀(i:Nat) x,l[i]?=some x->∃vs:List Value,w.cells? 0 (a.add (i*P.cellsOf e)) (P.cellsOf e)=some vs/\B2 (jk w) w EZ (E x) vs/\ok x:=fun k=>by
     induction k with
     |zero=>simp_all
     |succ k ih=>
      intro hk;obtain⟨l,h1,h2⟩:=ih aa0;obtain⟨x,hx⟩:=Xm k aa0;refine⟨l++[x],by simp_all,fun i y q=>?_⟩
      grind
    obtain⟨l,h1,h2⟩:=build len (Aq _);refine⟨l,Qi rfl ?_,by omega,fun x hx=>?_⟩
    .cases Cy:len with
     |zero=>
      grind [A5.snil]
     |succ n=>
      have cC:a.spot=none:=by
       obtain⟨x,vs,hv,_⟩:=Xm 0 aa0
       have:=(Ux hv).2.1 aa0
       grind [Addr.add]
      have ea:a=⟨a.block,a.off,none⟩:=by cases a;simp_all
      rw[<-Cy,<-h1,show l.length=(l.map E).length by simp,ea];have cell:∀(i:Nat) (c:List AV) (j:Nat) (av:AV),(l.map E)[i]?=some c->c[j]?=some av->∃v,w.cell? ⟨a.block,a.off+i*(m+1)+j,none⟩=some v/\v.oneCell'=true/\A5 (jk w) w EZ av v:=by
       intro i c j av q1 q2;rw[BX,CD]at q1;obtain⟨x,q1,rfl⟩:=q1;obtain⟨vs,hv,hr,_⟩:=h2 i x q1;obtain⟨k1,_,k3⟩:=Ux hv;have hj:j<m+1:=by
        grind
       obtain⟨v,e1,e2⟩:=k3 j aa0;refine⟨v,?_,hr.2.1 v (AO e1),hr.2.2 j av v q2 e1⟩
       grind [Addr.add]
      refine .slice _ _ a.block a.off (m+1) cap (fun i j=>(w.cell? ⟨a.block,a.off+i*(m+1)+j,none⟩).getD undef) (by grind) (fun i c q=>?_) (fun i c j av q1 q2=>?_) (fun i c j av q1 q2=>?_)
      .grind
      .obtain⟨v,e1,e2,_⟩:=cell i c j av q1 q2;exact⟨V2 e1,by grind,by grind⟩
      .obtain⟨v,e1,_,e3⟩:=cell i c j av q1 q2;rw[e1];exact e3
    grind [List.mem_iff_getElem?]
   simp_all
theorem MI{t e:TypeId}(hu:P.underlying t=some (.slice e)):JB enc P w bk N t (fun _:Unit=>[AV.junk]) (fun _=>True):=by
 intro fuel cs d ps h _;cases fuel with
 |zero=>simp[DataW.trod]at h
 |succ fuel=>
  rw[DataW.trod_step]at h;unfold DataW.trodStep at h;rw[hu]at h;split at h<;>rename_i hq<;>first | cases hq | skip
  all_goals first | (cases h;done) | skip
  all_goals exact⟨(),Qi rfl (.junk _ _),trivial⟩
theorem JB.to{t:TypeId}{α β:Type}{e:α->List AV}{ok:α->Prop}{e' : β->List AV}{vQ : β->Prop}(h:JB enc P w bk N t e ok)(f:α->β)(hf:∀x,ok x->e' (f x)=e x/\vQ (f x)):JB enc P w bk N t e' vQ:=by
 intro fuel cs d ps k hb;obtain⟨x,h1,h2⟩:=h fuel cs d ps k hb<;>grind
def VK(enc:TypeId×Value->H)(P:Program)(w:World)(bk:DataW H->Nat)(N L:Nat)(l:List Field)(o:Nat){α:Type}(e:α->List AV)(ok:α->Prop):Prop:=
 ∀(fuel:Nat) (cs:List Value) (xs:List (DataW H×List MemPlace)),cs.length=L->l.mapM (fun f=>DataW.trod enc P w 0 (fun _=>true) true fuel f.type ((cs.drop f.offset).take (P.cellsOf f.type)))=some xs->(∀x∈xs,bk x.1<=N) ->
  ∃x:α,B2 (jk w) w EZ (e x) (cs.drop o)/\ok x
theorem Em{L:Nat}:VK enc P w bk N L [] L (fun _:Unit=>[]) (fun _=>True):=by
 intro fuel cs xs hl _ _;refine⟨(),?_,trivial⟩
 grind [sk]
theorem A2{L o n:Nat}{f:Field}{l:List Field}{α β:Type}{e:α->List AV}{ok:α->Prop}{e' : β->List AV}{vQ : β->Prop}(ho:f.offset=o)(hn:P.cellsOf f.type=n)(h:JB enc P w bk N f.type e ok)(k:VK enc P w bk N L l (o+n) e' vQ) :
  VK enc P w bk N L (f::l) o (fun p:α×β=>e p.1++e' p.2) (fun p=>ok p.1/\vQ p.2):=by
 intro fuel cs xs hl hx hb;rw[List.mapM_cons]at hx;simp only[Option.bind_eq_bind,Rv]at hx;obtain⟨y,hy,ys,hys,nZ⟩:=hx;simp only[Option.pure_def,Dr]at nZ;subst nZ;obtain⟨x,r1,r2⟩:=h fuel _ y.1 y.2 hy (hb y (Ai ..));obtain⟨z,s1,s2⟩:=k fuel cs ys hl hys (fun q hq=>hb q (At _ hq));refine⟨(x,z),?_,r2,s2⟩
 grind [List.drop_drop,List.take_append_drop,gO]
theorem Dz{t:TypeId}{L:Nat}{fs:Array Field}{α:Type}{e:α->List AV}{ok:α->Prop}(hB:VI bk)(hu:P.underlying t=some (.struct fs))(hL:P.cellsOf t=L)(h:VK enc P w bk N L fs.toList 0 e ok):JB enc P w bk N t e ok:=by
 intro fuel cs d ps k hb;cases fuel with
 |zero=>simp[DataW.trod]at k
 |succ fuel=>
  rw[DataW.trod_step]at k;unfold DataW.trodStep at k;rw[hu]at k
  change (if cs.length=P.cellsOf t then(fs.toList.mapM fun f=>DataW.trod enc P w 0 (fun _=>true) true fuel f.type ((cs.drop f.offset).take (P.cellsOf f.type))).map fun xs=>(DataW.agg (xs.map (·.1)),xs.flatMap (·.2))else none)=some (d,ps)at k
  split at k
  .rename_i hc;simp only[CD,Prod.mk.injEq]at k;obtain⟨xs,hx,hd,_⟩:=k;have hba:=hB.agg (xs.map (·.1));rw[hd]at hba;obtain⟨x,r1,r2⟩:=h fuel cs xs aa0 hx (fun y hy=>AL (hba y.1 (Ay.2 ⟨y,hy,rfl⟩)) hb)<;>grind
  simp_all
theorem kR{t:TypeId}{α:Type}{e:α->AV}{ok:α->Prop}(h:JB enc P w bk N t (fun x=>[e x]) ok){v:Value}{d:DataW H}(hv:v.oneCell'=true)(k:DataW.Trod enc P w 0 (fun _=>true) true t v d p)(hb:bk d<=N) :
  ∃x,A5 (jk w) w EZ (e x) v/\ok x:=by
 obtain⟨fuel,k⟩:=k;have ec:v.cells.toList=[v]:=by cases v<;>first | rfl | cases hv
 rw[ec]at k;obtain⟨x,r1,r2⟩:=h fuel _ d p k hb;exact⟨x,r1.2.2 0 _ _ rfl rfl,r2⟩
theorem Y1{t:TypeId}{α:Type}{e:α->List AV}{ok:α->Prop}(h:JB enc P w bk N t e ok){cs:Array Value}{d:DataW H}(k:DataW.Trod enc P w 0 (fun _=>true) true t (.agg cs) d p)(hb:bk d<=N) :
  ∃x,A5 (jk w) w EZ (.agg (e x)) (.agg cs)/\ok x:=by
 obtain⟨fuel,k⟩:=k;obtain⟨x,r1,r2⟩:=h fuel cs.toList d p k hb;refine⟨x,.agg _ _ _ (by have:=r1.1;omega) (fun i y q=>r1.2.1 y (by grind)) (fun i av y q1 q2=>r1.2.2 i av y q1 (by simp_all)),r2⟩
end
end Go.Eng
namespace Go.Eng
open Go.Proofs
abbrev yK:TI := bF
abbrev tF:TI := ⟨.func,1,8,.nilFunc,true⟩
abbrev tI:TI := ⟨.int .i64,1,8,.int .i64 0,true⟩
abbrev tP(n:Nat):TI := ⟨.ptr n,1,8,.pointer none,true⟩
abbrev tS(n:Nat):TI := ⟨.slice n,1,24,.slice none 0 0,true⟩
def kO{α:Type}(d:α):List α -> Nat -> α
 | [],_ => d
 |a::r,n => match n with |0 => a |n + 1 => kO d r n
abbrev tiN:TI := bF
def AaC:List TI := [⟨.other,1,0,(.tuple #[]),true⟩,tF,tI,tI,⟨.bool,1,1,(.bool .false),true⟩,⟨.int .u8,1,1,(.int .u8 0),true⟩,⟨.int .u8,1,1,(.int .u8 0),true⟩,⟨.struct [(2,0),(3,1),(4,2),(6,3)],4,24,(.agg #[.int .i64 0,.int .i64 0,.bool .false,.int .u8 0]),true⟩,⟨.struct [(2,0),(3,1),(4,2),(6,3)],4,24,(.agg #[.int .i64 0,.int .i64 0,.bool .false,.int .u8 0]),true⟩,⟨.string,1,16,(.string ⟨#[]⟩),true⟩,⟨.string,1,16,(.string ⟨#[]⟩),true⟩,⟨.string,1,16,(.string ⟨#[]⟩),true⟩,⟨.int .u64,1,8,(.int .u64 0),true⟩,tiN,⟨.struct [(9,0),(12,1)],2,24,(.agg #[.string ⟨#[]⟩,.int .u64 0]),false⟩,⟨.ptr 340,1,8,(.pointer .none),true⟩]
def AaD:List TI := [⟨.ptr 343,1,8,(.pointer .none),true⟩,⟨.ptr 351,1,8,(.pointer .none),true⟩,tiN,tiN,⟨.iface,1,16,.nilIface,true⟩,⟨.int .i32,1,4,(.int .i32 0),true⟩,⟨.slice 29,1,24,(.slice .none 0 0),true⟩,⟨.slice 29,1,24,(.slice .none 0 0),true⟩,tF,tiN,⟨.slice 85,1,24,(.slice .none 0 0),true⟩,⟨.slice 85,1,24,(.slice .none 0 0),true⟩,⟨.struct [(9,0),(4,1),(27,2)],3,48,(.agg #[.string ⟨#[]⟩,.bool .false,.slice .none 0 0]),true⟩,⟨.struct [(9,0),(4,1),(27,2)],3,48,(.agg #[.string ⟨#[]⟩,.bool .false,.slice .none 0 0]),true⟩,tiN,tiN]
def AaE:List TI := [⟨.slice 73,1,24,(.slice .none 0 0),true⟩,tiN,⟨.slice 3,1,24,(.slice .none 0 0),true⟩,tiN,tiN,tiN,tiN,⟨.slice 89,1,24,(.slice .none 0 0),true⟩,⟨.slice 357,1,24,(.slice .none 0 0),true⟩,tiN,⟨.struct [(39,0),(40,1)],2,48,(.agg #[.slice .none 0 0,.slice .none 0 0]),true⟩,⟨.slice 87,1,24,(.slice .none 0 0),true⟩,tiN,⟨.slice 9,1,24,(.slice .none 0 0),true⟩,tI,tiN]
def AaF:List TI := [tiN,tiN,tiN,⟨.int .u16,1,2,(.int .u16 0),true⟩,⟨.slice 23,1,24,(.slice .none 0 0),true⟩,tiN,tiN,tiN,tF,tF,⟨.other,1,0,(.tuple #[.slice .none 0 0,.bool .false]),true⟩,tF,tF,tiN,tiN,⟨.slice 126,1,24,(.slice .none 0 0),true⟩]
def AaG:List TI := [⟨.slice 122,1,24,(.slice .none 0 0),true⟩,⟨.struct [(4,0),(63,1),(32,2),(64,3)],4,80,(.agg #[.bool .false,.slice .none 0 0,.slice .none 0 0,.slice .none 0 0]),true⟩,⟨.struct [(4,0),(63,1),(32,2),(64,3)],4,80,(.agg #[.bool .false,.slice .none 0 0,.slice .none 0 0,.slice .none 0 0]),true⟩,tiN,tiN,tiN,tiN,tiN,tiN,⟨.struct [(3,0),(9,1),(3,2),(3,3),(3,4),(3,5)],6,56,(.agg #[.int .i64 0,.string ⟨#[]⟩,.int .i64 0,.int .i64 0,.int .i64 0,.int .i64 0]),true⟩,tiN,tiN,tiN,tiN,tiN,⟨.iface,1,16,.nilIface,false⟩]
def AaH:List TI := [⟨.other,1,0,(.tuple #[.int .i64 0,.nilIface]),true⟩,tiN,tiN,⟨.struct [(3,0),(3,1),(3,2)],3,24,(.agg #[.int .i64 0,.int .i64 0,.int .i64 0]),true⟩,tiN,⟨.struct [(3,0),(3,1)],2,16,(.agg #[.int .i64 0,.int .i64 0]),true⟩,tiN,⟨.struct [(9,0),(27,1)],2,40,(.agg #[.string ⟨#[]⟩,.slice .none 0 0]),true⟩,tiN,⟨.struct [(9,0),(83,1),(43,4),(9,5),(9,6),(9,7),(4,8)],9,120,(.agg #[.string ⟨#[]⟩,.int .i64 0,.int .i64 0,.int .i64 0,.slice .none 0 0,.string ⟨#[]⟩,.string ⟨#[]⟩,.string ⟨#[]⟩,.bool .false]),true⟩,tiN,tiN,tiN,tiN,⟨.slice 4,1,24,(.slice .none 0 0),true⟩,tiN]
def AaI:List TI := [tiN,tiN,tiN,tiN,tiN,tiN,tF,tiN,tiN,⟨.ptr 109,1,8,(.pointer .none),true⟩,tiN,tiN,tiN,⟨.struct [(42,0),(43,2),(52,3)],4,96,(.agg #[.slice .none 0 0,.slice .none 0 0,.slice .none 0 0,.slice .none 0 0]),true⟩,tiN,⟨.map 9 29,1,8,(.map .none),true⟩]
def AaJ:List TI := [tiN,tF,tF,tiN,tF,tiN,tiN,tiN,tF,tiN,⟨.struct [(9,0),(3,1),(3,2)],3,32,(.agg #[.string ⟨#[]⟩,.int .i64 0,.int .i64 0]),true⟩,tiN,tiN,tiN,⟨.struct [(9,0),(83,1)],4,40,(.agg #[.string ⟨#[]⟩,.int .i64 0,.int .i64 0,.int .i64 0]),true⟩,tF]
def AaK:List TI := [tiN,tiN,tiN,tiN,tiN,tiN,tiN,tF,tiN,tiN,tiN,tiN,tiN,tiN,tF,⟨.ptr 146,1,8,(.pointer .none),true⟩]
def AaL:List TI := [⟨.slice 5,1,24,(.slice .none 0 0),true⟩,tiN,⟨.struct [(143,0),(144,1)],2,32,(.agg #[.pointer .none,.slice .none 0 0]),true⟩,tiN,tiN,tiN,⟨.slice 27,1,24,(.slice .none 0 0),true⟩,tiN,tiN,tiN,tiN,tiN,tiN,tiN,tiN,⟨.int .u64,1,8,(.int .u64 0),true⟩]
def v7:List TI := [tiN,⟨.other,1,0,(.tuple #[.int .i64 0,.bool .false]),true⟩,tiN,tiN,tF,tiN,tiN,tiN,⟨.array 3 3,3,24,(.agg #[.int .i64 0,.int .i64 0,.int .i64 0]),true⟩,tiN,tiN,tiN,tiN,tiN,⟨.map 126 89,1,8,(.map .none),true⟩,⟨.map 9 39,1,8,(.map .none),true⟩]
def v8:List TI := [tiN,⟨.struct [(174,0),(175,1)],2,16,(.agg #[.map .none,.map .none]),true⟩,tiN,tiN,tiN,tiN,⟨.map 9 89,1,8,(.map .none),true⟩,tiN,tiN,tiN,tF,tiN,⟨.map 9 4,1,8,(.map .none),true⟩,tiN,tiN,tiN]
def wa:List TI := [tiN,tiN,tiN,tiN,⟨.int .u32,1,4,(.int .u32 0),true⟩,⟨.other,1,0,(.tuple #[.int .u32 0,.int .u32 0]),true⟩,tiN,tiN,tiN,tiN,tiN,tiN,tiN,⟨.map 3 3,1,8,(.map .none),true⟩,tiN,tiN]
def wb:List TI := [⟨.ptr 5,1,8,(.pointer .none),true⟩,tiN,tiN,tiN,tiN,tiN,tiN,tiN,tiN,tiN,tiN,tiN,⟨.ptr 87,1,8,(.pointer .none),true⟩,tiN,tF,tF]
def wd:List TI := [tiN,⟨.struct [(222,0),(223,1)],2,16,(.agg #[.nilFunc,.nilFunc]),true⟩,⟨.array 4 225,8,64,(.agg #[.nilFunc,.nilFunc,.nilFunc,.nilFunc,.nilFunc,.nilFunc,.nilFunc,.nilFunc]),true⟩,tiN,tiN,tF,tiN,tI,⟨.other,1,0,(.tuple #[.int .i64 0,.int .i64 0]),true⟩,tiN,tiN,tiN,tiN,tiN,tiN,⟨.int .u64,1,8,(.int .u64 0),true⟩]
def we:List TI := [tiN,⟨.other,1,0,(.tuple #[.string ⟨#[]⟩,.bool .false]),true⟩,tiN,tiN,tiN,tiN,tiN,tiN,tiN,tiN,tiN,tF,tiN,tiN,tiN,⟨.array 24 5,24,24,(.agg (Array.replicate 24 (.int .u8 0))),true⟩]
def wg:List TI := [tF,⟨.other,1,0,(.tuple #[.slice .none 0 0,.string ⟨#[]⟩]),true⟩,tiN,tiN,tiN,tiN,tiN,tiN,tiN,tiN,tiN,tiN,⟨.other,1,8,(.pointer .none),true⟩,tiN,tiN,tiN]
def wh:List TI := [tiN,tiN,tiN,tiN,tiN,tiN,tiN,tiN,tiN,⟨.int .u64,1,8,(.int .u64 0),true⟩,tiN,tiN,tiN,⟨.ptr 3,1,8,(.pointer .none),true⟩,tiN,tiN]
def wi:List TI := [tiN,tiN,tiN,tiN,tiN,tiN,tiN,tiN,⟨.array 20 239,20,160,(.agg (Array.replicate 20 (.int .u64 0))),true⟩,⟨.array 65 5,65,65,(.agg ((List.replicate 32 (.int .u8 0)).append (List.replicate 33 (.int .u8 0))).toArray),true⟩,tiN,tiN,tiN,tiN,tiN,tiN]
def wj:List TI := [tiN,tiN,tiN,tiN,tiN,tiN,tiN,tiN,tiN,tiN,tiN,⟨.ptr 281,1,8,(.pointer .none),true⟩,⟨.other,1,0,(.tuple #[.int .i64 0,.int .i64 0]),true⟩,tiN,⟨.other,1,0,(.tuple #[.int .i32 0,.int .i64 0]),true⟩,tiN]
def wk:List TI := [tiN,tiN,tiN,tiN,tiN,tiN,tiN,tiN,tiN,tiN,⟨.array 32 5,32,32,(.agg (Array.replicate 32 (.int .u8 0))),true⟩,⟨.array 64 5,64,64,(.agg (Array.replicate 64 (.int .u8 0))),true⟩,tiN,tiN,tiN,⟨.array 256 5,256,256,(.agg (((List.replicate 64 (.int .u8 0)).append (List.replicate 64 (.int .u8 0))).append ((List.replicate 64 (.int .u8 0)).append (List.replicate 64 (.int .u8 0)))).toArray),true⟩]
def wl:List TI := [tiN,⟨.struct [(5,0),(5,1)],2,2,(.agg #[.int .u8 0,.int .u8 0]),true⟩,⟨.array 16 337,32,32,(.agg (Array.replicate 32 (.int .u8 0))),true⟩,tiN,⟨.struct [(17,0),(17,1),(17,2),(9,3)],4,40,(.agg #[.pointer .none,.pointer .none,.pointer .none,.string ⟨#[]⟩]),false⟩,tiN,tiN,⟨.other,0,0,(.agg #[]),false⟩,tiN,⟨.int .u8,1,1,(.int .u8 0),true⟩,⟨.int .u8,1,1,(.int .u8 0),true⟩,tF,⟨.int .i32,1,4,(.int .i32 0),true⟩,⟨.int .i32,1,4,(.int .i32 0),true⟩,tiN,⟨.struct [(12,0),(12,1),(196,2),(345,3),(5,4),(5,5),(346,6),(347,7),(208,8),(348,9),(349,10)],11,48,(.agg #[.int .u64 0,.int .u64 0,.int .u32 0,.int .u8 0,.int .u8 0,.int .u8 0,.int .u8 0,.nilFunc,.pointer .none,.int .i32 0,.int .i32 0]),false⟩]
def wm:List TI := [⟨.slice 364,1,24,(.slice .none 0 0),true⟩,⟨.slice 366,1,24,(.slice .none 0 0),true⟩,⟨.slice 368,1,24,(.slice .none 0 0),true⟩,⟨.slice 370,1,24,(.slice .none 0 0),true⟩,tiN,⟨.struct [(9,0),(352,1),(353,2),(354,3),(355,4)],5,112,(.agg #[.string ⟨#[]⟩,.slice .none 0 0,.slice .none 0 0,.slice .none 0 0,.slice .none 0 0]),true⟩,⟨.slice 372,1,24,(.slice .none 0 0),true⟩,⟨.slice 362,1,24,(.slice .none 0 0),true⟩,⟨.slice 374,1,24,(.slice .none 0 0),true⟩,tiN,⟨.struct [(3,0),(9,1),(9,2),(359,3),(360,4)],5,88,(.agg #[.int .i64 0,.string ⟨#[]⟩,.string ⟨#[]⟩,.slice .none 0 0,.slice .none 0 0]),true⟩,tiN,⟨.struct [(9,0),(358,1),(362,2),(362,7)],12,216,(.agg #[.string ⟨#[]⟩,.slice .none 0 0,.int .i64 0,.string ⟨#[]⟩,.string ⟨#[]⟩,.slice .none 0 0,.slice .none 0 0,.int .i64 0,.string ⟨#[]⟩,.string ⟨#[]⟩,.slice .none 0 0,.slice .none 0 0]),true⟩,tiN,⟨.struct [(9,0),(358,1),(362,2)],7,128,(.agg #[.string ⟨#[]⟩,.slice .none 0 0,.int .i64 0,.string ⟨#[]⟩,.string ⟨#[]⟩,.slice .none 0 0,.slice .none 0 0]),true⟩,tiN]
def wo:List TI := [⟨.struct [(9,0),(9,1),(9,2)],3,48,(.agg #[.string ⟨#[]⟩,.string ⟨#[]⟩,.string ⟨#[]⟩]),true⟩,tiN,⟨.struct [(9,0),(9,1)],2,32,(.agg #[.string ⟨#[]⟩,.string ⟨#[]⟩]),true⟩,tiN,⟨.struct [(9,0),(3,1),(362,2)],7,112,(.agg #[.string ⟨#[]⟩,.int .i64 0,.int .i64 0,.string ⟨#[]⟩,.string ⟨#[]⟩,.slice .none 0 0,.slice .none 0 0]),true⟩,tiN,⟨.struct [(9,0),(362,1),(4,6)],7,112,(.agg #[.string ⟨#[]⟩,.int .i64 0,.string ⟨#[]⟩,.string ⟨#[]⟩,.slice .none 0 0,.slice .none 0 0,.bool .false]),true⟩]
def tbl:List (List TI) := [AaC,AaD,AaE,AaF,AaG,AaH,AaI,AaJ,AaK,AaL,v7,v8,wa,wb,wd,we,wg,wh,wi,wj,wk,wl,wm,wo]
def pa:GB := fun t => kO yK (kO [] tbl (t / 16)) (t % 16)
def usedT:List Nat := [0,1,2,3,4,5,6,7,8,9,10,11,12,14,15,16,17,20,21,22,23,24,26,27,28,29,32,34,39,40,42,43,45,46,51,52,56,57,58,59,60,63,64,65,66,73,79,80,83,85,87,89,94,102,105,109,111,113,114,116,120,122,126,127,135,142,143,144,146,150,159,161,164,168,174,175,177,182,186,188,196,197,205,208,220,222,223,225,226,229,231,232,239,241,251,255,256,257,268,281,285,296,297,315,316,318,330,331,335,337,338,340,343,345,346,347,348,349,351,352,353,354,355,357,358,359,360,362,364,366,368,370,372,374]
def restT:List Nat := (List.range 384).filter fun t => !usedT.contains t
theorem lL:usedT.map pa = usedT.map (gK Tryz.prog) := by kernel_rfl
theorem tab_rest:restT.map pa = restT.map fun _ => yK := by kernel_rfl
theorem cN{α:Type}(d:α):∀(l:List α) (n:Nat),l.length <= n -> kO d l n = d
 | [],_,_ => rfl
 |_::_,0,h => by simp at h
 |_::r,n + 1,h => cN d r n (by simpa using h)
theorem B8:BY Tryz.prog pa := by
 intro t
 by_cases h:t<384
 .by_cases u:t∈usedT
  .exact .inr (List.map_inj_left.1 lL t u)
  .exact .inl (List.map_inj_left.1 tab_rest t (DF.2 ⟨GU.2 h,by simpa using u⟩))
 .have h1:kO ([]:List TI) tbl (t / 16) = [] := cN _ _ _ (by show 24 <= t / 16;omega)
  have h2:pa t = yK := by unfold pa;rw[h1];rfl
  exact .inl h2
end Go.Eng
namespace Go.Eng
variable {args:List AV}{f:Nat}(vals:List Value)
section
variable {P:Program}
theorem eD {fn : Func}{c : Code}(hf : P.funcs[f]? = some fn)(hn : (fn.name == "runtime.NumGoroutine") = false)(hb : fn.body = some c) : GM P f := ⟨fn, hf, hn, by simp_all⟩
theorem KU{Gz:AV}(v:Value)(hE:GM P f)(ha:args=vals.map .v)(aL:∀g w,A5 g w EZ Gz v)(h:∀w,(∃m,w.cell? ⟨gB,0,none⟩=some (.int .i64 m))->Calls P f vals.toArray w fun e w'=>e=.returned v/\w'=w):K6 P f args Gz:=by
 refine⟨hE,fun g w us hs hv hI=>?_⟩;have hu:us=vals.toArray:=by
  subst ha;rw[Bv]at hs;refine Array.ext aa0 fun i h1 h2=>?_
  have:=hv i (.v (vals[i]' aa0)) us[i] (by simp_all) (by simp_all)
  grind [A5.v_eq]
 subst hu;refine(h w hI.glob.1.2).mono ?_
 rintro e w' ⟨rfl,rfl⟩
 grind [A5.up,Le.refl]
theorem lp{g:Gh}{w:World}:∀(vs:List Value),A5 g w EZ (.tup (vs.map .v)) (.tuple vs.toArray):=fun vs=>
 .tup _ _ _ aa1 fun i av x h1 h2=>by
  grind [A5.v]
theorem fU(es:List Value)(T:TypeId)(hE:GM P f)(ha:args=vals.map .v)(h1:∀x∈es,x.oneCell'=true)(h:∀w,(∃m,w.cell? ⟨gB,0,none⟩=some (.int .i64 m))->Calls P f vals.toArray w fun e w'=>e=.returned (.slice (some ⟨w.heap.size,0,none⟩) es.length es.length)/\w'=w.alloc (.cells es.toArray T)) :
  K6 P f args (.slice .none (es.map fun x=>[.v x])):=by
 refine⟨hE,fun g w us hs hv hI=>?_⟩;have hu:us=vals.toArray:=by
  subst ha;rw[Bv]at hs;refine Array.ext aa0 fun i h1 h2=>?_
  have:=hv i (.v (vals[i]' aa0)) us[i] (by simp_all) (by simp_all)
  grind [A5.v_eq]
 subst hu;refine(h w hI.glob.1.2).mono ?_
 rintro e w' ⟨rfl,rfl⟩
 have Et:(w.alloc (.cells es.toArray T)).heap[w.heap.size]?=some (.cells es.toArray T (0,0)):=GX w _ rfl;have jX:∀b,b<w.heap.size->(w.alloc (.cells es.toArray T)).heap[b]?=w.heap[b]?:=fun b hb=>heap_alloc_old _ _ hb;have hK:ED g w ⟨g.ρ,g.ln,g.tk,g.own,g.more w.heap.size es.length⟩ (w.alloc (.cells es.toArray T)):=fun b o hb=>by
  have Fp:=hI.slt b o hb;exact⟨.inl hb,by grind [World.cell?],fun es ck he=>(jX b Fp).trans he⟩
 refine⟨_,_,Af,⟨g.ρ,g.ln,g.tk,g.own,g.more w.heap.size es.length⟩,rfl,⟨rfl,rfl⟩,?_,⟨rfl,rfl,rfl,?_,fun b hb _=>jX b hb,fun b o hs=>?_,fun _=>trivial,fun _ _ _ h=>h.elim,fun _ _ h=>h.elim,fun b o hs=>?_,hI.glob.keep hK⟩,⟨.refl _ _,fun _ h=>h,hK⟩⟩
 .have hr:B2 ⟨g.ρ,g.ln,g.tk,g.own,g.more w.heap.size es.length⟩ (w.alloc (.cells es.toArray T)) EZ (es.map fun x=>[AV.v x]).flatten (es.toArray.toList.take ((es.map fun x=>[AV.v x]).length*1)):=by
   have hfl:∀l:List Value,(l.map fun x=>[AV.v x]).flatten=l.map .v:=fun l=>by
    induction l<;>simp_all
   rw[hfl];simp only[Bv,Nat.mul_one,Ec];refine⟨by simp,fun x hx=>h1 x aa0,fun i av x q1 q2=>?_⟩
   grind [A5.v]
  have:=A5.slice_row (U:=used Af) (cap:=es.length) (sz:=1) (es:=es.map fun x=>[AV.v x]) Et (fun cs OE=>by
   grind) aa1 hr (fun o ho=>.inr ⟨rfl,by simp_all⟩)
  simp_all
 .simp_all
 .rw[World.size_alloc];rcases hs with hs | ⟨rfl,_⟩
  .have:=hI.slt b o hs;omega
  .omega
 .rcases hs with hs | ⟨rfl,_⟩<;>simp_all
end
end Go.Eng
namespace Go.Eng
open Go.Sort
section
variable {P:Program}
theorem Nd(F c:Array Value)(h:F.size<=c.size):(putCells id 0 F c).toList.take F.size=F.toList/\(putCells id 0 F c).size=c.size:=by
 have hs:(putCells id 0 F c).size=c.size:=by simp[putCells]
 refine⟨?_,hs⟩;apply CR
 grind [putCells]
theorem Sy(r:Nat)(o o' : HO):AJ (Ar [(r,o)] Af) r o'=Ar [(r,o')] Af:=by
 grind [AX,Ar,BK,Ds,Nat.beq_refl]
theorem Ul{f:Nat}{es:List (List AV)}{sz:Nat}{rest:List Value}{Q:List (List AV)->Prop}(hE:GM P f)
  (h0:es=[]->Q []/\∀w,Calls P f (#[.slice none 0 0]++rest.toArray) w fun e w'=>e=.returned (.tuple #[])/\w'=w)
  (h1:∀(g:Gh) (w:World) (b cap:Nat) (F:Array Value),B2 g w EZ es.flatten F.toList->F.size=es.length*sz->Holds id w b 0 F->b<w.heap.size->Calls P f (#[.slice (some ⟨b,0,none⟩) es.length cap]++rest.toArray) w fun e w'=>
   e=.returned (.tuple #[])/\∃(F' : Array Value) (F6 : List (List AV)) (n:Nat) (os:Array Obj),F'.size=F.size/\Q F6/\F6.length=es.length/\(∀cs∈F6,cs.length=sz) /\
    (∀(g:Gh) (w:World),B2 g w EZ es.flatten F.toList->B2 g w EZ F6.flatten F'.toList)/\w'=grow (putRow id (Sort.ahead w n) b 0 F') os) :
  Cq P f (.msl 1000 es.length::rest.map .v) (Ar [(1000,.arr sz es)] Af) fun r h'=>r=.tup []/\∃F6,Q F6/\h'=Ar [(1000,.arr sz F6)] Af:=by
 refine⟨hE,fun g w us hs hv hI=>?_⟩;have ho:=hI.objs 1000;have he:Ar [(1000,HO.arr sz es)] Af 1000=.arr sz es:=rfl;rw[he]at ho;obtain⟨t1,l1,al,a2⟩:=ho;simp only[Av,Bv]at hs
 -- the arguments
 have hu0:0<us.size:=by omega
 have sN:=hv 0 (.msl 1000 es.length) us[0] rfl (DK hu0);have Lr:us[0]=g.ρ 1000:=by
  grind [cases A5]
 have Ij:us=#[g.ρ 1000]++rest.toArray:=by
  refine Array.ext (by simp_all) fun i h1 h2=>?_;cases i with
  |zero=>simp_all
  |succ i=>
   have hi:i<rest.length:=by omega
   have:=hv (i+1) (.v rest[i]) us[i+1] (by simp_all) (DK h1)
   rw[this.v_eq];simp
 rw[Ij];rcases a2 with ⟨b1,b2,b3⟩ | ⟨b,cap,E,vs,b1,b2,b3,b4,b5,b6,b7⟩
 .subst b1;obtain⟨q,h0⟩:=h0 rfl;rw[b2];refine(h0 w).mono ?_
  rintro e w' ⟨rfl,rfl⟩
  grind [A5.tup,Le.refl]
 .have hl:(Ar [(1000,HO.arr sz es)] Af 1000).live:=trivial;have Fp:=(hI.loc 1000 b hl b2).1;have HB:es.length*sz<=vs.size:=by rw[b5];exact By _ b3
  have hF:((vs.toList.take (es.length*sz)).toArray).size=es.length*sz:=by simp_all
  have hH:Holds id w b 0 (vs.toList.take (es.length*sz)).toArray:=fun j hj=>by
   grind [World.cell?,World.frozen?]
  rw[b1];refine(h1 g w b cap _ aa0 hF hH Fp).mono ?_
  rintro e w' ⟨rfl,F',F6,n,os,f1,f2,f3,f4,f5,rfl⟩
  have ut : F'.size=es.length*sz:=f1.trans hF;have wT:=Nd F' vs aa0;have sF : (grow (putRow id (Sort.ahead w n) b 0 F') os).heap[b]?=some (.cells (putCells id 0 F' vs) E (0,0)):=by
   rw[heap_grow_old _ _ (by simp_all)];show(w.heap.modify b (onCells (putCells id 0 F')))[b]?=_;rw[Array.getElem?_modify,AE rfl,b4];rfl
  have vr:∀k,k<w.heap.size->k≠b->(grow (putRow id (Sort.ahead w n) b 0 F') os).heap[k]?=w.heap[k]?:=fun k hk Fi=>by
   rw[heap_grow_old _ _ (by simp_all)];simp[putRow,mapBlock,Array.getElem?_modify,Ne.symm Fi]
  have FM:w.heap.size<=(grow (putRow id (Sort.ahead w n) b 0 F') os).heap.size:=by simp_all
  obtain⟨k1,k2⟩:=hI.upd 1000 (.arr sz F6) (g.ρ 1000) (g.ln 1000) (g.tk 1000) (g.own 1000) g.S (grow (putRow id (Sort.ahead w n) b 0 F') os) (some b) ⟨rfl,rfl,rfl,FM⟩
   (fun k hk Fi=>vr k hk (fun e=>Fi (by rw[e]))) (fun b' e=>by cases e;exact⟨hl,b2⟩) (fun _ _ h=>h) (fun _ _ h=>.inl h) (fun b' o e hs=>by cases e;exact absurd hs (b7 o))
   (fun b' _ e=>by rw[b2]at e;cases e;exact⟨Hm Fp FM,.inl ⟨hl,b2⟩⟩) aa1 (fun _=>⟨rfl,Aq _,fun _=>rfl,fun _=>rfl⟩) (fun hg hk=>by
    refine⟨by simp[Gh.upd,t1],by simp[Gh.upd,l1,f3],f4,.inr ⟨b,cap,E,_,by simp[Gh.upd,b1,f3],by simp[Gh.upd,b2],by omega,sF,by rw[wT.2,b5],?_,b7⟩⟩
    have:=f5 g w (by simpa using b6)
    rw[f3,<-ut,wT.1];exact this.mono hk (fun _ h=>h) (fun _ h=>h.elim))
  rw[Sy]at k1 k2;exact⟨_,.tup [],_,_,rfl,⟨rfl,F6,f2,rfl⟩,.tup _ _ _ rfl (fun i av x h=>by simp at h),k1,k2⟩
end
end Go.Eng
namespace Go.Eng
open Go.Sort Go.Proofs
variable {α β:Type}{k:Nat}
theorem QK{g:Gh}{w:World}{U:Nat->Prop}{cs bW : List AV}{vs gX : List Value}(h:vs.length=cs.length):B2 g w U (cs++bW) (vs++gX)↔B2 g w U cs vs/\B2 g w U bW gX:=by
 constructor
 .intro⟨h1,h2,h3⟩;refine⟨⟨h,fun x hx=>h2 x (Bh _ hx),fun i av x q1 q2=>?_⟩,⟨by simp_all,fun x hx=>h2 x (Bj _ hx),fun i av x q1 q2=>?_⟩⟩
  .have a1:=(AR.1 q1).1;have a2:=(AR.1 q2).1;exact h3 i av x (by grind) (by grind)
  .exact h3 (cs.length+i) av x (by grind) (by grind)
 .intro⟨⟨h1,h2,h3⟩,k1,k2,k3⟩;refine⟨by simp_all,fun x hx=>(Bz.1 hx).elim (h2 x) (k2 x),fun i av x q1 q2=>?_⟩
  grind
theorem PV{α β:Type}{g:Gh}{w:World}{U:Nat->Prop}{CL:β->List AV}{enc:α->List Value}(hl:∀x y,(enc x).length=(CL y).length):∀ps:List (β×α),
  B2 g w U (ps.map fun p=>CL p.1).flatten (ps.map fun p=>enc p.2).flatten↔∀p∈ps,B2 g w U (CL p.1) (enc p.2)
 | []=>by simp[B2]
 |p::ps=>by
  simp only[BU,Dp];rw[QK (hl _ _),PV hl ps];simp
theorem QI{f:α->β}:∀{m m' : List β},m.Perm m'->∀ps:List α,ps.map f=m->∃lj : List α,lj.Perm ps/\lj.map f=m':=by
 intro m m' h
 induction h with
 |nil=>simp_all
 |cons x h ih=>
  intro ps e;cases ps with
  |nil=>cases e
  |cons p ps=>
   rw[BU]at e
   injection e with e1 e2
   obtain⟨lj,h1,h2⟩:=ih ps e2;exact⟨p::lj,h1.cons p,by simp_all⟩
 |swap x y l=>
  intro ps e
  match ps,e with
  |p::q::ps,e=>
   grind [List.Perm.swap]
 |trans h1 h2 ih1 ih2=>
  grind [List.Perm.trans]
theorem Si[Inhabited α]{enc:α->List Value}(hk:∀x,(enc x).length=k)(d:Array α):(flatK enc k d).toList=(d.toList.map enc).flatten:=by
 have hl:∀cs∈d.toList.map enc,cs.length=k:=fun cs OE=>by
  grind
 have Cy:(d.toList.map enc).flatten.length=d.size*k:=by
  have:∀l:List α,(l.map enc).flatten.length=l.length*k:=fun l=>by
   induction l<;>grind [Nat.succ_mul]
  simp_all
 apply CR;intro t
 by_cases ht:t<d.size*k
 .have k0:0<k:=Nat.pos_of_ne_zero fun h=>by simp_all
  have h1:t / k<d.size:=by rw[Nat.div_lt_iff_lt_mul k0];exact ht
  have h2:t % k<k:=Nat.mod_lt _ k0;have e:t=t / k*k+t % k:=by grind [Nat.div_add_mod]
  rw[Co,DK (by simpa using ht),<-getElem!_pos _ t (by simpa using ht),get_flatK _ _ _ _ ht]
  grind [Fa]
 simp_all
theorem zip_fst{α β:Type}:∀{l:List α} {m:List β},l.length=m.length->(l.zip m).map (·.1)=l/\(l.zip m).map (·.2)=m
 | [],[],_=>⟨rfl,rfl⟩
 |a::l,b::m,h=>by
  have:=zip_fst (l:=l) (m:=m) (by simp_all)
  simp_all
section
variable {P:Program}
theorem Ly[Inhabited α]{f:Nat}{rest:List Value}(hE:GM P f)(CL:β->List AV)(enc:α->List Value)(hB:∀x,(CL x).length=k)(hk:∀x,(enc x).length=k)(lt:α->α->Bool)(R:β->α->Prop)(l:List β)(hl:l.length<4611686018427387904)(hR:∀x∈l,∀(g:Gh) (w:World) (vs:List Value),B2 g w EZ (CL x) vs->∃a,enc a=vs/\R x a)(DV:∀(w:World) (b cap:Nat) (d:Array α),HoldsK enc k w b 0 d->b<w.heap.size->d.size<4611686018427387904->d.size=l.length->Calls P f (#[.slice (some ⟨b,0,none⟩) d.size cap]++rest.toArray) w fun e w'=>
   e=.returned (.tuple #[])/\∃d' n os,PermIn 0 d.size d d'/\SortedIn lt 0 d.size d'/\w'=sortWorldK enc k w b 0 n d' os)(Ach:l=[]->∀w:World,Calls P f (#[.slice none 0 0]++rest.toArray) w fun e w'=>e=.returned (.tuple #[])/\w'=w) :
  Cq P f (.msl 1000 l.length::rest.map .v) (Ar [(1000,.arr k (l.map CL))] Af) fun r h'=>
   r=.tup []/\∃l' : List β,l'.Perm l/\(∃al:List α,al.length=l'.length/\(∀(i:Nat) (x:β) (a:α),l'[i]?=some x->al[i]?=some a->R x a)/\al.Pairwise (fun x y=>lt y x=false))/\h'=Ar [(1000,.arr k (l'.map CL))] Af:=by
 have Qu:=Ul (P:=P) (f:=f) (es:=l.map CL) (sz:=k) (rest:=rest)
  (Q:=fun F6=>∃l' : List β,l'.Perm l/\(∃al:List α,al.length=l'.length/\(∀(i:Nat) (x:β) (a:α),l'[i]?=some x->al[i]?=some a->R x a)/\al.Pairwise (fun x y=>lt y x=false))/\F6=l'.map CL) hE ?_ ?_
 .grind
 .simp_all
 .intro g w b cap F hr hF hH hb
  -- the elements in memory
  have rp:∀(m:List β) (vs:List Value),(∀x∈m,x∈l)->B2 g w EZ (m.map CL).flatten vs->∃al:List α,al.length=m.length/\vs=(al.map enc).flatten/\∀(i:Nat) (x:β) (a:α),m[i]?=some x->al[i]?=some a->R x a:=by
   intro m
   induction m with
   |nil=>
    intro vs _ h
    have:vs=[]:=Az (by simpa using h.1)
    simp_all
   |cons x m ih=>
    intro vs hm h;rw[BU,Dp]at h;have Cy:=h.1;rw[As,hB]at Cy;have e:vs=vs.take k++vs.drop k:=(List.take_append_drop k vs).symm;rw[e]at h;rw[QK (by grind)]at h;obtain⟨a,a1,a2⟩:=hR x (hm x (Ai ..)) g w _ h.1;obtain⟨al,b1,b2,b3⟩:=ih _ (fun y hy=>hm y (At _ hy)) h.2;refine⟨a::al,by grind,by grind,fun i y c q1 q2=>?_⟩
    grind
  obtain⟨al,s1,s2,s3⟩:=rp l F.toList (fun _ h=>h) hr;have hFd:F=flatK enc k al.toArray:=Array.toList_inj.1 (by grind [Si]);have hd:HoldsK enc k w b 0 al.toArray:=by grind [HoldsK]
  have hc:=DV w b cap al.toArray hd hb (by simp_all) aa0;have FM:al.toArray.size=(l.map CL).length:=by simp_all
  rw[FM]at hc;refine hc.mono ?_
  rintro e w' ⟨rfl,d',n,os,p1,p2,rfl⟩
  obtain⟨z1,z2⟩:=zip_fst s1.symm;obtain⟨Aad,_,JI⟩:=p1;have Aad : d'.size=al.length:=by omega
  have e1:d'.extract 0 (l.map CL).length=d':=by simp_all
  have e2:al.toArray.extract 0 (l.map CL).length=al.toArray:=by grind
  rw[e1,e2]at JI;have JI:al.Perm d'.toList:=by
   first
   |exact JI.symm
   |exact JI
   |(have:=JI.symm;simpa using this)
  obtain⟨lj,r1,r2⟩:=QI JI (l.zip al) z2;have rel:∀p∈l.zip al,R p.1 p.2:=fun p hp=>by
   obtain⟨i,hi⟩:=EK.1 hp;rw[List.getElem?_zip_eq_some]at hi
   grind
  refine⟨rfl,flatK enc k d',(lj.map (·.1)).map CL,n,os,by simp_all,⟨lj.map (·.1),?_,⟨d'.toList,by grind,fun i x a q1 q2=>?_,?_⟩,rfl⟩,by have:=r1.length_eq;simp_all,fun cs OE=>?_,fun g w hr=>?_,?_⟩
  .grind
  .rw[<-r2]at q2;rw[BX,CD]at q1 q2;obtain⟨p,q1,rfl⟩:=q1
   grind
  .rw[DM];intro i j hi hj jT;have N0 : i<d'.size:=by omega
   have sJ : j<d'.size:=by omega
   have:=p2 i j (Ao _) jT aa0
   simp_all
  .obtain⟨x,_,rfl⟩:=Ay.1 OE;simp_all
  .have h1:B2 g w EZ ((l.zip al).map fun p=>CL p.1).flatten ((l.zip al).map fun p=>enc p.2).flatten:=by
    have a1:(l.zip al).map (fun p=>CL p.1)=l.map CL:=by
     have:(l.zip al).map (fun p=>CL p.1)=((l.zip al).map (·.1)).map CL:=by rw[Cf];rfl
     simp_all
    have a2:(l.zip al).map (fun p=>enc p.2)=al.map enc:=by
     have:(l.zip al).map (fun p=>enc p.2)=((l.zip al).map (·.2)).map enc:=by rw[Cf];rfl
     simp_all
    simp_all
   have Cy:∀(x:α) (y:β),(enc x).length=(CL y).length:=fun x y=>by simp_all
   rw[PV Cy]at h1;have h2:=(PV (g:=g) (w:=w) (U:=EZ) Cy lj).2 fun p hp=>h1 p (r1.mem_iff.1 hp);have b1:(lj.map (·.1)).map CL=lj.map fun p=>CL p.1:=by simp_all
   have b2:(flatK enc k d').toList=(lj.map fun p=>enc p.2).flatten:=by
    rw[Si hk,<-r2,Cf];rfl
   grind
  .rfl
end
end Go.Eng
namespace Go.Eng
section
variable {P:Program}
theorem BO{f:Nat}{fn:Func}{c:Code}{args:List AV}{H0:List (Nat×HO)}{Q:AV->(Nat->HO)->Prop}(cx:Cx)(σ:JT)(hP:cx.P=P)(hT:BY P cx.T)(hm:P.follows .mixedOrders=true)(hx:cx.ext=true)(hf:P.funcs[f]?=some fn)
  (hn : (fn.name == "runtime.NumGoroutine") = false) (hb : fn.body = some c) (hN : args.length <= fn.ntmps) (hc : Ee fn.ntmps c = true) (hσ : (HF σ && I7 σ H0) = true)
  (hk:Pl cx c (ne cx fn.results.toList σ fun r h'=>∃r',DC r r'/\Q r' h') ⟨On args,Ar H0 Af⟩) (hY:∀l σ g w,cx.yp l σ g w:=by exact fun _ _ _ _=>trivial):Cq P f args (Ar H0 Af) Q:=
 (jn cx σ hP hT hm hx hf hn hb hN hc hσ hk hY).mono fun _ _ ⟨r',s,q⟩=>⟨r',s,q⟩
end
end Go.Eng
