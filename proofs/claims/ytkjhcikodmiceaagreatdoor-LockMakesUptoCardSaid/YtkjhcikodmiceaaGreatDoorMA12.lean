/- Lemmas 12. -/
import Derived.Test.YtkjhcikodmiceaaGreatDoorMA11
import Derived.ReadAgain
import Derived.RowKit
import Derived.Test.YtkjhcikodmiceaaGreatDoorProg
import Derived.Sort.Grow
import Derived.Shelf.GgSortFunc.InsertionK
namespace Go.Eng
variable {fn:Func}{c:Code}{K:AV->Prop}{f:Nat}(cx:Cx)(r:AV)(σ:JD)
section
variable {P:Program}{N:Nat}{ds:List Deferred}{w0:World}{g0:D}{h0:Nat->HO}{st:St}{g:D}{a:Act}{w:World}
theorem bJ{T:G4}(hT:Cc P T){h:Nat->HO}(ho:∀r,D6 g w (L h) r (h r)){t:Nat}{p:AV}{vp:Value}(hp:O g w (L h) p vp)(hk:Ka T h t p K) :
  ∃ad,(asAddr vp).run P w=.ok ad w/\Bw P h g w (loadVar t ad) K:=by
 obtain⟨x,av,h1,h2,h3⟩:=Xw ho hT hp hk;have fin:∀b off,vp=.pointer (some ⟨b,off,none⟩)->∃ad,(asAddr vp).run P w=.ok ad w/\Bw P h g w (loadVar t ad) K:=by
  rintro b off rfl
  refine⟨⟨b,off,none⟩,by simp[asAddr],x,av,?_,h2,h3⟩
  grind [Instr.loadAt,Instr.sureAddr]
 unfold Ka at hk;split at hk
 all_goals grind [cases O]
def fR(tmps:Array Value):ResultVar->Sem Value
 |.tmp t=>pure (tmps.getD t undef)
 |.cell ad t=>do loadVar t (<-asAddr (tmps.getD ad undef))
theorem Po(fn:Func)(tmps:Array Value):results fn tmps=(do
 let vs <-fn.results.mapM (fR tmps)
 pure (if h:vs.size=1 then vs[0]else .tuple vs)):=rfl
theorem Zm{cx:Cx}(hT:Cc P cx.T)(hS:SR N ds w0 g0 h0 st g a w):∀(rs:List ResultVar) {K:List AV->Prop},s5 cx.T st rs K ->
  ∃l vs,K l/\(rs.mapM (fR a.tmps)).run P w=.ok vs w/\vs.length=l.length/\vs.length=rs.length /\
   ∀(i:Nat) (av:AV) (x:Value),l[i]?=some av->vs[i]?=some x->O g w FK av x
 | [],K,hk=>⟨[],[],hk,by simp,rfl,rfl,fun i av x h=>by simp_all⟩
 |.tmp t::r,K,hk=>by
  obtain⟨l,vs,h1,h2,h3,h4,h5⟩:=Zm hT hS r hk;refine⟨_,a.tmps.getD t undef::vs,h1,?_,by simp_all,by simp_all,fun i av x q1 q2=>?_⟩
  .grind [fR,Sem.run_bind,Sem.run_pure,Result.andThen_ok]
  .cases i with
   |zero=>
    simp only[EH,DQ]at q1 q2;subst q1;subst q2;exact O.str hS.inv.objs (hS.slots t)
   |succ i=>grind
 |.cell ad t::r,K,hk=>by
  obtain⟨addr,e1,x0,av0,e2,hk',e4⟩:=bJ hT hS.inv.objs (hS.slots ad) hk;obtain⟨l,vs,h1,h2,h3,h4,h5⟩:=Zm hT hS r hk';refine⟨_,x0::vs,h1,?_,by simp_all,by simp_all,fun i av x q1 q2=>?_⟩
  .grind [fR,Sem.run_bind,Sem.run_pure,Result.andThen_ok]
  .cases i with
   |zero=>
    simp only[EH,DQ]at q1 q2;subst q1;subst q2;exact O.str hS.inv.objs e4
   |succ i=>grind
theorem sZ{cx:Cx}(hT:Cc P cx.T)(hS:SR N ds w0 g0 h0 st g a w)(hk:sY cx st fn.results.toList K) :
  ∃g' r v h',K r/\(results fn a.tmps).run P w=.ok v w/\CZ w0 g0 h0 h' g' w/\Le h0 g0 w0 h' g' w/\O g' w FK r v:=by
 obtain⟨g',i1,i2⟩:=NC cx.pl.fin hS.inv;have UJ : SR N ds w0 g0 h0 ⟨st.t,Ql st.h cx.pl.fin⟩ g' a w:=⟨i1,hS.le.trans i2,hS.dfs,hS.size,fun i=>(hS.slots i).le i2⟩;obtain⟨l,vs,h1,h2,h3,h4,h5⟩:=Zm hT UJ _ hk;have CL:(results fn a.tmps).run P w=.ok (if h:vs.toArray.size=1 then vs.toArray[0]else .tuple vs.toArray) w:=by
  rw[Po,show fn.results=fn.results.toList.toArray by simp,List.mapM_toArray];simp_all
 refine⟨g',?_⟩
 match l,vs,h1,h3,h5,CL with
 | [v],[x],h1,h3,h5,CL=>exact⟨v,x,_,h1,by simp_all,i1,UJ.le,h5 0 v x rfl rfl⟩
 | [],vs,h1,h3,h5,CL=>
  have:vs=[]:=Az h3
  subst this;exact⟨.tup [],.tuple #[],_,h1,by simp_all,i1,UJ.le,.tup _ _ _ rfl fun i av x q=>by simp_all⟩
 |v::v' :: l,vs,h1,h3,h5,CL=>
  refine⟨.tup (v::v' :: l),.tuple vs.toArray,_,h1,?_,i1,UJ.le,.tup _ _ _ Wk fun i av x q1 q2=>h5 i av x q1 aa0⟩;simp_all
theorem CZ.toFree(hI:CZ w0 g0 Af st.h g w):CZ w0 g0 Af Af g w:=
 ⟨hI.os,hI.tape,hI.output,hI.size,hI.frame,hI.slt,fun _=>trivial,fun _ _ _ h=>h.elim,fun _ _ h=>h.elim,hI.sg,hI.glob⟩
theorem P0{U:Nat->Prop}{n:Nat}:∀{args:List AV} {vals:List Value},vals.length=args.length->(∀(i:Nat) (av:AV) (x:Value),args[i]?=some av->vals[i]?=some x->O g w U av x) ->
  ∀i,O g w U (PZ args i) ((vals++List.replicate n undef).getD i undef)
 | [],[],_,_,i=>by
  have:(([]:List Value)++List.replicate n undef).getD i undef=undef:=by
   grind
  rw[this];exact .v _ _
 | [],_::_,h,_,_=>by simp_all
 |_::_,[],h,_,_=>by simp_all
 |x::l,v::vs,h,hr,i=>by
  cases i with
  |zero=>exact hr 0 x v rfl rfl
  |succ i=>
   have:=P0 (n:=n) (args:=l) (vals:=vs) aa0 (fun i av x q1 q2=>hr (i+1) av x aa0 aa0) i
   grind [PZ]
theorem l6 {f : Nat}{args : List AV}{Q : AV -> Prop}(hP : cx.P=P)(hT : Cc P cx.T)(hm : P.follows .mixedOrders=true)(hx : cx.ext=false)(hf : P.funcs[f]?=some fn)(hn : (fn.name == "runtime.NumGoroutine")=false)(hb:fn.body=some c)(hN:args.length<=fn.ntmps)(hc:EL fn.ntmps c=true)(hk:Rg cx c (wk cx fn.results.toList Q) ⟨PZ args,Af⟩)(hY:∀l σ g w,cx.yp l σ g w:=by exact fun _ _ _ _=>trivial):A6 P f args Af fun r h'=>h'=Af/\Q r:=by
 refine⟨⟨fn,hf,hn,by simp_all⟩,fun g w vals hs hv hI=>calls_of_wp hf hb ?_⟩;have hU:L Af=FK:=by grind [L,FK,Af]
 have hS:SR fn.ntmps [] w g Af ⟨PZ args,Af⟩ g { tmps:=vals++Array.replicate (fn.ntmps-vals.size) undef,defers:=[] } w:=by
  refine⟨hI,.refl _ _ _,rfl,by simp_all,fun i=>?_⟩
  have:=P0 (n:=fn.ntmps-vals.size) (args:=args) (vals:=vals.toList) Wk (fun i av x q1 q2=>hv i av x q1 aa0) i
  grind [Array.getD_eq_getD_getElem?,Array.toList_append,Array.toList_replicate]
 refine wpIn_wide.1 (OH hP hT hm (by unfold Me;rw[hx];exact fun _=>rfl) (fun l σ _ _ w _ _ _=>hY l σ _ w) none c hc (fun e st g' a w' hk hS=>?_) hS hk);have out:sY cx st fn.results.toList Q->a.defers=[]/\∃v,(results fn a.tmps).run P w'=.ok v w'/\∃v' r h' g',(Ending.returned v:Ending)=.returned v'/\(h'=Af/\Q r)/\O g' w' (L h') r v'/\CZ w g Af h' g' w'/\Le Af g w h' g' w':=by
  intro hk;obtain⟨g2,r,v,h',q1,q2,q3,q4,q5⟩:=sZ hT hS hk;exact⟨hS.dfs,v,q2,v,r,Af,g2,rfl,⟨rfl,q1⟩,by simp_all,CZ.toFree (st:=⟨st.t,h'⟩) q3,⟨fun i hi=>absurd rfl hi,fun i hi=>absurd rfl hi,q4.keeps⟩⟩
 cases e with
 |normal=>exact out hk
 |ret=>exact out hk
 |exit id=>exact hk.elim
theorem TK{cx:Cx}(hT:Cc P cx.T)(hS:SR N ds w0 g0 h0 st g a w):∀(rs:List ResultVar) {K:List AV->Prop},s7 cx.T st rs K ->
  ∃l vs,K l/\(rs.mapM (fR a.tmps)).run P w=.ok vs w/\vs.length=l.length/\vs.length=rs.length /\
   ∀(i:Nat) (av:AV) (x:Value),l[i]?=some av->vs[i]?=some x->O g w (L st.h) av x
 | [],K,hk=>⟨[],[],hk,by simp,rfl,rfl,fun i av x h=>by simp_all⟩
 |.tmp t::r,K,hk=>by
  obtain⟨l,vs,h1,h2,h3,h4,h5⟩:=TK hT hS r hk;refine⟨_,a.tmps.getD t undef::vs,h1,?_,by simp_all,by simp_all,fun i av x q1 q2=>?_⟩
  all_goals grind [fR,Sem.run_bind,Sem.run_pure,Result.andThen_ok,SR.slots]
 |.cell ad t::r,K,hk=>by
  obtain⟨addr,e1,x0,av0,e2,hk',e4⟩:=bJ hT hS.inv.objs (hS.slots ad) hk;obtain⟨l,vs,h1,h2,h3,h4,h5⟩:=TK hT hS r hk';refine⟨_,x0::vs,h1,?_,by simp_all,by simp_all,fun i av x q1 q2=>?_⟩
  all_goals grind [fR,Sem.run_bind,Sem.run_pure,Result.andThen_ok]
theorem GX{σ:JD}:∀{H0:List (Nat×HO)},I8 σ H0=true->∀i,Ai H0 Af i≠.free->1000<=i/\i<2000/\CB σ i=some i
 | [],_,i,h=>absurd rfl h
 |(a,o)::r,hx,i,h=>by
  simp only[I8,Aq,Nat.ble_eq,I2]at hx;obtain⟨⟨⟨h1,h2⟩,h3⟩,h4⟩:=hx
  by_cases e:i=a
  .grind [Nat.eq_of_beq_eq_true]
  .unfold Ai at h;simp only[DY e,G7]at h;exact GX h4 i h
theorem Qc{H0:List (Nat×HO)}{σ:JD}(hσ:Hp σ=true)(hx:I8 σ H0=true){h:Nat->HO}(hI:CZ w0 g0 (Ai H0 Af) h g w)(hL:Le (Ai H0 Af) g0 w0 h g w) :
  Gg (CB σ) h (FL σ h) g (D3 σ g) w/\CZ w0 g0 (Ai H0 Af) (FL σ h) (D3 σ g) w/\Le (Ai H0 Af) g0 w0 (FL σ h) (D3 σ g) w:=by
 have inv:=YY hσ;have F5:∀j,FL σ h j=match IB σ j with | some i=>(h i).ren (CB σ) h | none=>.free:=QS _ _ σ
 have hR:Gg (CB σ) h (FL σ h) g (D3 σ g) w:=by
  refine⟨fun r r' hr hu=>?_,fun b o=>Iff.rfl,hI.objs⟩
  grind [D3,L,Ng]
 have MW:∀j,(FL σ h j).live->∃i,IB σ j=some i/\(h i).live:=fun j hl=>by
  rw[F5]at hl;cases e:IB σ j with
  |none=>rw[e]at hl;exact hl.elim
  |some i=>grind [Nc]
 have YT:∀j i,IB σ j=some i->(D3 σ g).own j=g.own i:=fun j i e=>by simp[D3,e]
 refine⟨hR,⟨hI.os,hI.tape,hI.output,hI.size,hI.frame,hI.slt,fun j=>?_,fun j j' b hl Tf e e'=>?_,fun j b hl e=>?_,hI.sg,hI.glob⟩,⟨fun i hi=>?_,fun i hi=>?_,hL.keeps⟩⟩
 .rw[F5];cases e:IB σ j with
  |none=>trivial
  |some i=>
   by_cases hu:L h i
   .grind [D6.ren,CZ.objs]
   .have:h i=.free:=BV.1 hu
    dsimp only;rw[this];trivial
 .obtain⟨i,e1,l1⟩:=MW j hl;obtain⟨i',e2,l2⟩:=MW j' Tf;rw[YT j i e1]at e;rw[YT j' i' e2]at e';obtain rfl:=hI.inj i i' b l1 l2 e e'
  have:=(inv i j).2 e1
  rw[(inv i j').2 e2]at this;simp_all
 .obtain⟨i,e1,l1⟩:=MW j hl;rw[YT j i e1]at e;exact hI.loc i b l1 e
 .obtain⟨_,_,hf⟩:=GX hx i hi;have hb:=(inv i i).1 hf;have e1:(D3 σ g).ρ i=g.ρ i/\(D3 σ g).ln i=g.ln i/\(D3 σ g).tk i=g.tk i:=by grind [D3]
  obtain⟨k1,k2,k3,k4⟩:=hL.gh i hi<;>simp_all
 .obtain⟨_,_,hf⟩:=GX hx i hi;have hb:=(inv i i).1 hf;unfold L;rw[F5,hb];exact(Ng _ _ _).2 (hL.us i hi)
theorem aR{f:Nat}{args:List AV}{H0:List (Nat×HO)}{Q:AV->(Nat->HO)->Prop}(hP:cx.P=P)(hT:Cc P cx.T)(hm:P.follows .mixedOrders=true)(hx:cx.ext=true)(hf:P.funcs[f]?=some fn)(_hn : (fn.name == "runtime.NumGoroutine")=false)(hb : fn.body=some c)(hN : args.length <= fn.ntmps)(hc : EL fn.ntmps c=true)(hσ : (Hp σ && I8 σ H0)=true)(hk:Rg cx c (aA cx fn.results.toList σ Q) ⟨PZ args,Ai H0 Af⟩){g:D}{w:World}{vals:Array Value}(hs:vals.size=args.length)(hv:∀(i:Nat) (av:AV) (x:Value),args[i]?=some av->vals[i]?=some x->O g w (L (Ai H0 Af)) av x)(hI:CZ w g (Ai H0 Af) (Ai H0 Af) g w)(hY:∀l σ h' g' w',EE σ=true->CZ w g (Ai H0 Af) h' g' w'->Le (Ai H0 Af) g w h' g' w'->cx.yp l σ (D3 σ g') w') :
  Calls P f vals w fun e w'=>∃v r h' g',e=.returned v/\Q r h'/\O g' w' (L h') r v/\CZ w g (Ai H0 Af) h' g' w'/\Le (Ai H0 Af) g w h' g' w':=by
 simp only[Aq]at hσ;obtain⟨hσ,wY⟩:=hσ;refine calls_of_wp hf hb ?_;have hS:SR fn.ntmps [] w g (Ai H0 Af) ⟨PZ args,Ai H0 Af⟩ g { tmps:=vals++Array.replicate (fn.ntmps-vals.size) undef,defers:=[] } w:=by
  refine⟨hI,.refl _ _ _,rfl,by simp_all,fun i=>?_⟩
  have:=P0 (n:=fn.ntmps-vals.size) (args:=args) (vals:=vals.toList) Wk (fun i av x q1 q2=>hv i av x q1 aa0) i
  grind [Array.getD_eq_getD_getElem?,Array.toList_append,Array.toList_replicate]
 refine wpIn_wide.1 (OH hP hT hm (by unfold Me;rw[hx];exact fun i hi=>⟨(GX wY i hi).1,(GX wY i hi).2.1⟩) hY none c hc (fun e st g' a w' hk hS=>?_) hS hk);have out:la cx st fn.results.toList σ Q->a.defers=[]/\∃v,(results fn a.tmps).run P w'=.ok v w'/\∃v' r h' g',(Ending.returned v:Ending)=.returned v'/\Q r h'/\O g' w' (L h') r v'/\CZ w g (Ai H0 Af) h' g' w'/\Le (Ai H0 Af) g w h' g' w':=by
  intro hk;obtain⟨g2,i1,i2⟩:=NC cx.pl.fin hS.inv;have UJ : SR fn.ntmps [] w g (Ai H0 Af) ⟨st.t,Ql st.h cx.pl.fin⟩ g2 a w':=⟨i1,hS.le.trans i2,hS.dfs,hS.size,fun i=>(hS.slots i).le i2⟩;obtain⟨l,vs,h1,h2,h3,h4,h5⟩:=TK hT UJ _ hk;obtain⟨hR,j1,j2⟩:=Qc hσ wY i1 UJ.le;have CL:(results fn a.tmps).run P w'=.ok (if h:vs.toArray.size=1 then vs.toArray[0]else .tuple vs.toArray) w':=by
   rw[Po,show fn.results=fn.results.toList.toArray by simp,List.mapM_toArray];simp_all
  refine⟨hS.dfs,?_⟩
  match l,vs,h1,h3,h5,CL with
  | [v],[x],h1,h3,h5,CL=>exact⟨x,by simp_all,x,_,_,_,rfl,h1,(h5 0 v x rfl rfl).ren hR,j1,j2⟩
  | [],vs,h1,h3,h5,CL=>
   have:vs=[]:=Az h3
   subst this;exact⟨.tuple #[],by simp_all,.tuple #[],_,_,_,rfl,h1,O.ren hR (.tup _ [] _ rfl fun i av x q=>by simp_all),j1,j2⟩
  |v::v' :: l,vs,h1,h3,h5,CL=>
   refine⟨.tuple vs.toArray,?_,.tuple vs.toArray,_,_,_,rfl,h1,O.ren hR (.tup _ _ _ Wk fun i av x q1 q2=>h5 i av x q1 aa0),j1,j2⟩;simp_all
 cases e with
 |normal=>exact out hk
 |ret=>exact out hk
 |exit id=>exact hk.elim
theorem nh{f:Nat}{args:List AV}{H0:List (Nat×HO)}{Q:AV->(Nat->HO)->Prop}(hP:cx.P=P)(hT:Cc P cx.T)(hm:P.follows .mixedOrders=true)(hx:cx.ext=true)(hf:P.funcs[f]?=some fn)(hn : (fn.name == "runtime.NumGoroutine")=false)(hb : fn.body=some c)(hN : args.length <= fn.ntmps)(hc : EL fn.ntmps c=true)(hσ : (Hp σ && I8 σ H0)=true)(hk:Rg cx c (aA cx fn.results.toList σ Q) ⟨PZ args,Ai H0 Af⟩)(hY:∀l σ g w,cx.yp l σ g w:=by exact fun _ _ _ _=>trivial):A6 P f args (Ai H0 Af) Q:=
 ⟨⟨fn,hf,hn,by simp_all⟩,fun g w vals hs hv hI=>aR cx σ hP hT hm hx hf hn hb hN hc hσ hk hs hv hI (fun l σ _ _ w _ _ _=>hY l σ _ w)⟩
end
def CD(r':AV):Prop:=∀(g:D) (w:World) (U:Nat->Prop) (x:Value),O g w U r x->O g w U r' x
theorem CD.refl:CD r r:=fun _ _ _ _ h=>h
theorem CD.of_eq{r r' : AV}(h:r=r'):CD r r':=h▸.refl r
theorem E{A:Type}{a b:A}(f:A->AV)(h:a=b):CD (f a) (f b):=.of_eq (congrArg f h)
theorem CD.trans{a b c:AV}(h:CD a b)(k:CD b c):CD a c:=fun g w U x r=>k g w U x (h g w U x r)
theorem CD.nil:CD BY (.slice .none []):=fun _ _ _ _ h=>by cases h;grind [O.snil]
def Ms:List AV->List AV->Prop
 | [],[]=>True
 |a::r,b::s=>CD a b/\Ms r s
 |_,_=>False
theorem Ms.refl:∀l:List AV,Ms l l
 | []=>trivial
 |a::l=>⟨.refl a,Ms.refl l⟩
theorem Ms.len:∀{l l' : List AV},Ms l l'->l'.length=l.length
 | [],[],_=>rfl
 |_::_,_::_,h=>Aa (·+1) h.2.len
 | [],_::_,h=>h.elim
 |_::_,[],h=>h.elim
theorem Ms.get:∀{l l' : List AV},Ms l l'->∀(i:Nat) (b:AV),l'[i]?=some b->∃a,l[i]?=some a/\CD a b
 | [],[],_,i,b,h=>by simp_all
 |a::r,b::s,hs,i,c,h=>by
  cases i with
  |zero=>simp only[EH,DQ]at h;subst h;exact⟨a,rfl,hs.1⟩
  |succ i=>exact Ms.get hs.2 i c (by simpa using h)
 | [],_::_,h,_,_,_=>h.elim
 |_::_,[],h,_,_,_=>h.elim
theorem CD.tup{l l' : List AV}(h:Ms l l'):CD (.tup l) (.tup l'):=fun g w U x r=>by
 cases r with
 |tup _ _ vs hs hr=>
  refine .tup _ _ vs (by rw[hs,h.len]) fun i av x q1 q2=>?_;obtain⟨a,e1,e2⟩:=h.get i av q1;exact e2 _ _ _ _ (hr i a x e1 q2)
theorem CD.agg{l l' : List AV}(h:Ms l l'):CD (.agg l) (.agg l'):=fun g w U x r=>by
 cases r with
 |agg _ _ vs hs h1 hr=>
  refine .agg _ _ vs (by rw[hs,h.len]) h1 fun i av x q1 q2=>?_;obtain⟨a,e1,e2⟩:=h.get i av q1;exact e2 _ _ _ _ (hr i a x e1 q2)
def X6:C0->C0->Prop
 | [],[]=>True
 |a::r,b::s=>Ms a b/\X6 r s
 |_,_=>False
theorem X6.len:∀{l l' : C0},X6 l l'->l'.length=l.length
 | [],[],_=>rfl
 |_::_,_::_,h=>Aa (·+1) h.2.len
 | [],_::_,h=>h.elim
 |_::_,[],h=>h.elim
theorem X6.get:∀{l l' : C0},X6 l l'->∀(i:Nat) (b:List AV),l'[i]?=some b->∃a,l[i]?=some a/\Ms a b
 | [],[],_,i,b,h=>by simp_all
 |a::r,b::s,hs,i,c,h=>by
  cases i with
  |zero=>simp only[EH,DQ]at h;subst h;exact⟨a,rfl,hs.1⟩
  |succ i=>exact X6.get hs.2 i c (by simpa using h)
 | [],_::_,h,_,_,_=>h.elim
 |_::_,[],h,_,_,_=>h.elim
theorem CD.slice{l l' : C0}(h:X6 l l'):CD (.slice .none l) (.slice .none l'):=fun g w U x r=>by
 have CN:=h.len;cases r with
 |snil _ a cap=>
  grind [O.snil]
 |slice _ _ b off sz cap val hc hl DS EB=>
  rw[<-CN];refine .slice _ _ b off sz cap val Wk (fun i cs hi=>?_) (fun i cs j av hi hj=>?_) (fun i cs j av hi hj=>?_)
  .grind [X6.get,Ms.len]
  .grind [X6.get,Ms.get]
  .obtain⟨a,e1,e2⟩:=h.get i cs hi;obtain⟨c,f1,f2⟩:=e2.get j av hj;exact f2 _ _ _ _ (EB i a j c e1 f1)
section
variable {P:Program}
theorem A6.mono{f:Nat}{args:List AV}{h0:Nat->HO}{Q Q' : AV->(Nat->HO)->Prop}(h:A6 P f args h0 Q)(hq:∀r h',Q r h'->∃r',CD r r'/\Q' r' h'):A6 P f args h0 Q':=
 ⟨h.1,fun g w vals q1 q2 q3=>(h.2 g w vals q1 q2 q3).mono fun _ _ ⟨v,r,h',g',e1,e2,e3,rest⟩=>
  let ⟨r',s,k⟩:=hq r h' e2
  ⟨v,r',h',g',e1,k,s _ _ _ _ e3,rest⟩⟩
theorem A6.args{args args' : List AV}{h0:Nat->HO}{Q:AV->(Nat->HO)->Prop}(h:A6 P f args h0 Q)(hs:Ms args' args):A6 P f args' h0 Q:=
 ⟨h.1,fun g w vals q1 q2 q3=>h.2 g w vals (by rw[q1,hs.len]) (fun i av x e1 e2=>by
  obtain⟨a,f1,f2⟩:=hs.get i av e1;exact f2 _ _ _ _ (q2 i a x f1 e2)) q3⟩
theorem MF.args{f:Nat}{args args' : List AV}{res:AV}(h:MF P f args res)(hs:Ms args' args):MF P f args' res:=A6.args h hs
theorem Ff {args : List AV}{res : AV}(hP : cx.P=P)(hT : Cc P cx.T)(hm : P.follows .mixedOrders=true)(hx : cx.ext=false)(hf : P.funcs[f]?=some fn)(hn : (fn.name == "runtime.NumGoroutine")=false)(hb:fn.body=some c)(hN:args.length<=fn.ntmps)(hc:EL fn.ntmps c=true)(hk:Rg cx c (wk cx fn.results.toList fun r=>CD r res) ⟨PZ args,Af⟩)(hY:∀l σ g w,cx.yp l σ g w:=by exact fun _ _ _ _=>trivial):MF P f args res:=
 (l6 cx hP hT hm hx hf hn hb hN hc hk hY).mono fun _ _ ⟨e1,e2⟩=>⟨res,e2,rfl,e1⟩
end
end Go.Eng
namespace Go.Eng
open Go.ChangeShapes Go.WideShapes
variable {p:List MemPlace}{w:World}{g:D}
def jR(w:World):D:=⟨fun _=>undef,fun _=>0,fun _=>false,fun _=>none,fun b _=>b<w.heap.size⟩
theorem Yp{b o:Nat}{v:Value}(h:w.cell? ⟨b,o,none⟩=some v):b<w.heap.size:=by
 grind [World.cell?]
theorem uP(hg:∃m,w.cell? ⟨0,0,none⟩=some (.int .i64 m))(ht:∀x∈zF,x.1<w.heap.size/\w.cell? ⟨x.1,x.2.1,none⟩=x.2.2):CZ w (jR w) Af Af (jR w) w where
 os:=rfl
 tape:=rfl
 output:=rfl
 size:=Ao _
 frame:=fun _ _ _=>rfl
 slt:=fun _ _ h=>h
 objs:=fun _=>trivial
 inj:=fun _ _ _ h=>h.elim
 loc:=fun _ _ h=>h.elim
 sg:=fun _ _ h=>.inl h
 glob:=⟨⟨by obtain⟨m,h⟩:=hg;exact Yp h,hg⟩,fun x hx=>ht x hx⟩
theorem Vf{α β:Type}{f:α->Option β}:∀{l:List α} {r:List β},l.mapM f=some r->r.length=l.length/\∀(i:Nat) x,l[i]?=some x->∃y,r[i]?=some y/\f x=some y
 | [],r,h=>by simp_all
 |a::l,r,h=>by
  rw[List.mapM_cons]at h;cases ha:f a with
  |none=>simp_all
  |some b=>
   cases hl:l.mapM f with
   |none=>simp_all
   |some s=>
    simp[ha,hl]at h;subst h;obtain⟨h1,h2⟩:=Vf hl<;>grind
theorem WX{base:Nat}{a:Addr}{n:Nat}{cs:List Value}(h:w.cells? base a n=some cs) :
  cs.length=n/\(0<n->a.spot=none)/\∀j,j<n->∃v,cs[j]?=some v/\w.cell? ⟨a.block,a.off+j,none⟩=some v:=by
 unfold World.cells? at h;split at h
 .obtain⟨h1,h2⟩:=Vf h;have one:∀j,j<n->∃v,cs[j]?=some v/\w.cell? (a.add j)=some v:=fun j hj=>by
   obtain⟨v,e1,e2⟩:=h2 j j (by simp[hj])<;>simp_all
  have hsp:0<n->a.spot=none:=fun hn=>by
   obtain⟨v,_,hv⟩:=one 0 hn;simp only[Addr.add,A1]at hv;cases hs:a.spot<;>grind [World.cell?]
  refine⟨by simp_all,hsp,fun j hj=>?_⟩;obtain⟨v,e1,e2⟩:=one j hj;refine⟨v,e1,?_⟩;have hs:=hsp Wk;have e:a.add j=⟨a.block,a.off+j,none⟩:=by
   unfold Addr.add;split
   .rename_i h0;subst h0;cases a;simp_all
   .rfl
  simp_all
 simp_all
section
variable {H:Type}{enc:TypeId×Value->H}{P:Program}{w:World}{bk:DataW H->Nat}{N:Nat}
structure X2(bk:DataW H->Nat):Prop where
 slice:∀es sp,es.length<=bk (.slice es sp)/\∀d∈es,bk d<=bk (.slice es sp)
 agg:∀ps,∀d∈ps,bk d<=bk (.agg ps)
 str:∀b:List UInt8,b.length<=bk (.lit (.string b))
def Kt(enc:TypeId×Value->H)(P:Program)(w:World)(bk:DataW H->Nat)(N:Nat)(t:TypeId){α:Type}(e:α->List AV)(ok:α->Prop):Prop:=
 ∀(fuel:Nat) (cs:List Value) (d:DataW H) (ps:List MemPlace),DataW.trod enc P w 0 (fun _=>true) true fuel t cs=some (d,ps)->bk d<=N->∃x:α,Ci (jR w) w FK (e x) cs/\ok x
theorem Sg{U:Nat->Prop}{a:AV}{v:Value}(h1:v.oneCell'=true)(h2:O g w U a v):Ci g w U [a] [v]:=by
 refine⟨rfl,fun x hx=>by simp_all,fun i av x q1 q2=>?_⟩
 grind
theorem lQ{U:Nat->Prop}{a b:List AV}{c d:List Value}(h:Ci g w U a c)(k:Ci g w U b d):Ci g w U (a++b) (c++d):=by
 obtain⟨h1,h2,h3⟩:=h;obtain⟨k1,k2,k3⟩:=k;refine⟨by simp_all,fun x hx=>(Bc.1 hx).elim (h2 x) (k2 x),fun i av x q1 q2=>?_⟩
 grind
theorem xY{U:Nat->Prop}:Ci g w U [] []:=⟨rfl,(fun x hx=>by cases hx),fun i av x q1=>by simp_all⟩
theorem kZ{t:TypeId}{k:IntKind}(hu:P.underlying t=some (.int k)):Kt enc P w bk N t (fun n:Int=>[AV.v (.int k n)]) (fun n=>k.min<=n/\n<=k.max):=by
 intro fuel cs d ps h _;cases fuel with
 |zero=>simp[DataW.trod]at h
 |succ fuel=>
  rw[DataW.trod_step]at h;unfold DataW.trodStep at h;rw[hu]at h;split at h<;>rename_i he<;>first | cases he | skip
  all_goals first | (split at h<;>first | cases h | skip) | cases h | skip
  rename_i n hc _;obtain⟨rfl,hw⟩:=hc;simp only[Lit.wf,Aq,A4]at hw;exact⟨_,Sg rfl (.v _ _),hw⟩
theorem fG{t:TypeId}(hu:P.underlying t=some .bool):Kt enc P w bk N t (fun b:Bool=>[AV.v (.bool b)]) (fun _=>True):=by
 intro fuel cs d ps h _;cases fuel with
 |zero=>simp[DataW.trod]at h
 |succ fuel=>
  rw[DataW.trod_step]at h;unfold DataW.trodStep at h;rw[hu]at h;split at h<;>rename_i he<;>first | cases he | skip
  all_goals first | cases h | skip
  exact⟨_,Sg rfl (.v _ _),trivial⟩
theorem Zl{t:TypeId}(hB:X2 bk)(hu:P.underlying t=some .string):Kt enc P w bk N t (fun s:CS=>[AV.v (.string s)]) (fun s=>s.size<=N):=by
 intro fuel cs d ps h hb;cases fuel with
 |zero=>simp[DataW.trod]at h
 |succ fuel=>
  rw[DataW.trod_step]at h;unfold DataW.trodStep at h;rw[hu]at h;split at h<;>rename_i he<;>first | cases he | skip
  all_goals first | (split at h<;>first | cases h | skip) | cases h | skip
  rename_i s hs;refine⟨s,Sg rfl (.v _ _),?_⟩
  have:=hB.str s.data.toList
  have e:s.data.toList.length=s.size:=aa0
  omega
theorem KG{t e:TypeId}{α:Type}{E:α->List AV}{ok:α->Prop}{m:Nat}(hB:X2 bk)(hu:P.underlying t=some (.slice e))(hm:P.cellsOf e=m+1)(hE:∀x,(E x).length=m+1)(he:Kt enc P w bk N e E ok) :
  Kt enc P w bk N t (fun l:List α=>[AV.slice .none (l.map E)]) (fun l=>l.length<=N/\∀x∈l,ok x):=by
 intro fuel cs d ps h hb;cases fuel with
 |zero=>simp[DataW.trod]at h
 |succ fuel=>
  rw[DataW.trod_step]at h;unfold DataW.trodStep at h;rw[hu]at h;split at h<;>rename_i hq<;>first | cases hq | skip
  all_goals first | (cases h;done) | skip
  .cases h
   exact⟨[],Sg rfl (.snil _ _ _),Ak _,fun x hx=>by cases hx⟩
  .rename_i a len cap;simp only at h;split at h
   .rename_i hc;simp only[B6,TU]at h;obtain⟨um,uz,rest,_,hd⟩:=h;simp only[Prod.mk.injEq]at hd;obtain⟨hd,_⟩:=hd;obtain⟨hl,F5⟩:=Vf uz;rw[List.length_range]at hl;have hbs:=hB.slice (um.map (·.1)) (rest.map (·.1));rw[hd]at hbs;rw[BG]at hbs;have one:∀i,i<len->∃(x:α) (vs:List Value),w.cells? 0 (a.add (i*P.cellsOf e)) (P.cellsOf e)=some vs/\Ci (jR w) w FK (E x) vs/\ok x:=fun i hi=>by
     obtain⟨y,hy,hf⟩:=F5 i i aa0;simp only[TU]at hf;obtain⟨vs,hv,ht⟩:=hf;obtain⟨x,r1,r2⟩:=he fuel vs y.1 y.2 ht (Bd (hbs.2 y.1 (Ar.2 ⟨y,AA hy,rfl⟩)) hb)<;>grind
    have build:∀k,k<=len->∃l:List α,l.length=k/\∀(i:Nat) x,l[i]?=some x->∃vs:List Value,w.cells? 0 (a.add (i*P.cellsOf e)) (P.cellsOf e)=some vs/\Ci (jR w) w FK (E x) vs/\ok x:=fun k=>by
     induction k with
     |zero=>simp_all
     |succ k ih=>
      intro hk;obtain⟨l,h1,h2⟩:=ih Wk;obtain⟨x,hx⟩:=one k Wk;refine⟨l++[x],by simp_all,fun i y q=>?_⟩
      grind
    obtain⟨l,h1,h2⟩:=build len (Ao _);refine⟨l,Sg rfl ?_,by omega,fun x hx=>?_⟩
    .cases CN:len with
     |zero=>
      grind [O.snil]
     |succ n=>
      have hsp:a.spot=none:=by
       obtain⟨x,vs,hv,_⟩:=one 0 Wk
       have:=(WX hv).2.1 Wk
       grind [Addr.add]
      have ea:a=⟨a.block,a.off,none⟩:=by cases a;simp_all
      rw[<-CN,<-h1,show l.length=(l.map E).length by simp,ea];have cell:∀(i:Nat) (c:List AV) (j:Nat) (av:AV),(l.map E)[i]?=some c->c[j]?=some av->∃v,w.cell? ⟨a.block,a.off+i*(m+1)+j,none⟩=some v/\v.oneCell'=true/\O (jR w) w FK av v:=by
       intro i c j av q1 q2;rw[Ct,B6]at q1;obtain⟨x,q1,rfl⟩:=q1;obtain⟨vs,hv,hr,_⟩:=h2 i x q1;obtain⟨k1,_,k3⟩:=WX hv;have hj:j<m+1:=by
        grind
       obtain⟨v,e1,e2⟩:=k3 j Wk;refine⟨v,?_,hr.2.1 v (AA e1),hr.2.2 j av v q2 e1⟩
       grind [Addr.add]
      refine .slice _ _ a.block a.off (m+1) cap (fun i j=>(w.cell? ⟨a.block,a.off+i*(m+1)+j,none⟩).getD undef) aa2 (fun i c q=>?_) (fun i c j av q1 q2=>?_) (fun i c j av q1 q2=>?_)
      .grind
      .obtain⟨v,e1,e2,_⟩:=cell i c j av q1 q2;exact⟨Yp e1,by grind,by grind⟩
      .obtain⟨v,e1,_,e3⟩:=cell i c j av q1 q2;rw[e1];exact e3
    grind [List.mem_iff_getElem?]
   simp_all
theorem NR{t e:TypeId}(hu:P.underlying t=some (.slice e)):Kt enc P w bk N t (fun _:Unit=>[AV.junk]) (fun _=>True):=by
 intro fuel cs d ps h _;cases fuel with
 |zero=>simp[DataW.trod]at h
 |succ fuel=>
  rw[DataW.trod_step]at h;unfold DataW.trodStep at h;rw[hu]at h;split at h<;>rename_i hq<;>first | cases hq | skip
  all_goals first | (cases h;done) | skip
  all_goals exact⟨(),Sg rfl (.junk _ _),trivial⟩
theorem Kt.to{t:TypeId}{α β:Type}{e:α->List AV}{ok:α->Prop}{e' : β->List AV}{ok' : β->Prop}(h:Kt enc P w bk N t e ok)(f:α->β)(hf:∀x,ok x->e' (f x)=e x/\ok' (f x)):Kt enc P w bk N t e' ok':=by
 intro fuel cs d ps k hb;obtain⟨x,h1,h2⟩:=h fuel cs d ps k hb<;>grind
def X5(enc:TypeId×Value->H)(P:Program)(w:World)(bk:DataW H->Nat)(N L:Nat)(l:List Field)(o:Nat){α:Type}(e:α->List AV)(ok:α->Prop):Prop:=
 ∀(fuel:Nat) (cs:List Value) (xs:List (DataW H×List MemPlace)),cs.length=L->l.mapM (fun f=>DataW.trod enc P w 0 (fun _=>true) true fuel f.type ((cs.drop f.offset).take (P.cellsOf f.type)))=some xs->(∀x∈xs,bk x.1<=N) ->
  ∃x:α,Ci (jR w) w FK (e x) (cs.drop o)/\ok x
theorem IM{L:Nat}:X5 enc P w bk N L [] L (fun _:Unit=>[]) (fun _=>True):=by
 intro fuel cs xs hl _ _;refine⟨(),?_,trivial⟩
 grind [xY]
theorem Co{L o n:Nat}{f:Field}{l:List Field}{α β:Type}{e:α->List AV}{ok:α->Prop}{e' : β->List AV}{ok' : β->Prop}(ho:f.offset=o)(hn:P.cellsOf f.type=n)(h:Kt enc P w bk N f.type e ok)(k:X5 enc P w bk N L l (o+n) e' ok') :
  X5 enc P w bk N L (f::l) o (fun p:α×β=>e p.1++e' p.2) (fun p=>ok p.1/\ok' p.2):=by
 intro fuel cs xs hl hx hb;rw[List.mapM_cons]at hx;simp only[Option.bind_eq_bind,TU]at hx;obtain⟨y,hy,ys,hys,sj⟩:=hx;simp only[Option.pure_def,DQ]at sj;subst sj;obtain⟨x,r1,r2⟩:=h fuel _ y.1 y.2 hy (hb y (Ah ..));obtain⟨z,s1,s2⟩:=k fuel cs ys hl hys (fun q hq=>hb q (Aj _ hq));refine⟨(x,z),?_,r2,s2⟩
 grind [List.drop_drop,List.take_append_drop,lQ]
theorem Hc{t:TypeId}{L:Nat}{fs:Array Field}{α:Type}{e:α->List AV}{ok:α->Prop}(hB:X2 bk)(hu:P.underlying t=some (.struct fs))(hL:P.cellsOf t=L)(h:X5 enc P w bk N L fs.toList 0 e ok):Kt enc P w bk N t e ok:=by
 intro fuel cs d ps k hb;cases fuel with
 |zero=>simp[DataW.trod]at k
 |succ fuel=>
  rw[DataW.trod_step]at k;unfold DataW.trodStep at k;rw[hu]at k
  change (if cs.length=P.cellsOf t then(fs.toList.mapM fun f=>DataW.trod enc P w 0 (fun _=>true) true fuel f.type ((cs.drop f.offset).take (P.cellsOf f.type))).map fun xs=>(DataW.agg (xs.map (·.1)),xs.flatMap (·.2))else none)=some (d,ps)at k
  split at k
  .rename_i hc;simp only[B6,Prod.mk.injEq]at k;obtain⟨xs,hx,hd,_⟩:=k;have hba:=hB.agg (xs.map (·.1));rw[hd]at hba;obtain⟨x,r1,r2⟩:=h fuel cs xs Wk hx (fun y hy=>Bd (hba y.1 (Ar.2 ⟨y,hy,rfl⟩)) hb)<;>grind
  simp_all
theorem ph{t:TypeId}{α:Type}{e:α->AV}{ok:α->Prop}(h:Kt enc P w bk N t (fun x=>[e x]) ok){v:Value}{d:DataW H}(hv:v.oneCell'=true)(k:DataW.Trod enc P w 0 (fun _=>true) true t v d p)(hb:bk d<=N) :
  ∃x,O (jR w) w FK (e x) v/\ok x:=by
 obtain⟨fuel,k⟩:=k;have ec:v.cells.toList=[v]:=by cases v<;>first | rfl | cases hv
 rw[ec]at k;obtain⟨x,r1,r2⟩:=h fuel _ d p k hb;exact⟨x,r1.2.2 0 _ _ rfl rfl,r2⟩
theorem pg{t:TypeId}{α:Type}{e:α->List AV}{ok:α->Prop}(h:Kt enc P w bk N t e ok){cs:Array Value}{d:DataW H}(k:DataW.Trod enc P w 0 (fun _=>true) true t (.agg cs) d p)(hb:bk d<=N) :
  ∃x,O (jR w) w FK (.agg (e x)) (.agg cs)/\ok x:=by
 obtain⟨fuel,k⟩:=k;obtain⟨x,r1,r2⟩:=h fuel cs.toList d p k hb;refine⟨x,.agg _ _ _ (by have:=r1.1;omega) (fun i y q=>r1.2.1 y aa2) (fun i av y q1 q2=>r1.2.2 i av y q1 aa0),r2⟩
end
end Go.Eng
namespace Go.Eng
open Go.Proofs
abbrev dTI:TI:=gc
abbrev tF:TI:=⟨.func,1,8,.nilFunc,true⟩
abbrev tI:TI:=⟨.int .i64,1,8,.int .i64 0,true⟩
abbrev tP(n:Nat):TI:=⟨.ptr n,1,8,.pointer none,true⟩
abbrev tS(n:Nat):TI:=⟨.slice n,1,24,.slice none 0 0,true⟩
def oZ{α:Type}(d:α):List α -> Nat -> α
 | [],_ => d
 |a::r,n => match n with |0 => a |n + 1 => oZ d r n
abbrev tiN:TI:=gc
def Agr:List TI:=[⟨.other,1,0,(.tuple #[]),true⟩,tF,tI,tI,⟨.bool,1,1,(.bool .false),true⟩,⟨.int .u8,1,1,(.int .u8 0),true⟩,⟨.int .u8,1,1,(.int .u8 0),true⟩,⟨.struct [(2,0),(3,1),(4,2),(6,3)],4,24,(.agg #[.int .i64 0,.int .i64 0,.bool .false,.int .u8 0]),true⟩,⟨.struct [(2,0),(3,1),(4,2),(6,3)],4,24,(.agg #[.int .i64 0,.int .i64 0,.bool .false,.int .u8 0]),true⟩,⟨.string,1,16,(.string ⟨#[]⟩),true⟩,⟨.string,1,16,(.string ⟨#[]⟩),true⟩,⟨.string,1,16,(.string ⟨#[]⟩),true⟩,⟨.int .u64,1,8,(.int .u64 0),true⟩,⟨.struct [(9,0),(12,1)],2,24,(.agg #[.string ⟨#[]⟩,.int .u64 0]),false⟩,⟨.struct [(9,0),(12,1)],2,24,(.agg #[.string ⟨#[]⟩,.int .u64 0]),false⟩,⟨.ptr 462,1,8,(.pointer .none),true⟩]
def Ags:List TI:=[⟨.ptr 465,1,8,(.pointer .none),true⟩,⟨.ptr 472,1,8,(.pointer .none),true⟩,⟨.struct [(17,0)],1,8,(.agg #[.pointer .none]),false⟩,⟨.struct [(17,0)],1,8,(.agg #[.pointer .none]),false⟩,⟨.iface,1,16,.nilIface,true⟩,⟨.int .i32,1,4,(.int .i32 0),true⟩,⟨.slice 70,1,24,(.slice .none 0 0),true⟩,⟨.slice 478,1,24,(.slice .none 0 0),true⟩,⟨.struct [(22,0),(23,1)],2,48,(.agg #[.slice .none 0 0,.slice .none 0 0]),true⟩,⟨.struct [(22,0),(23,1)],2,48,(.agg #[.slice .none 0 0,.slice .none 0 0]),true⟩,⟨.slice 68,1,24,(.slice .none 0 0),true⟩,tF,tF,⟨.slice 53,1,24,(.slice .none 0 0),true⟩,⟨.slice 96,1,24,(.slice .none 0 0),true⟩,⟨.slice 92,1,24,(.slice .none 0 0),true⟩]
def Agt:List TI:=[⟨.struct [(26,0),(29,1),(30,2),(31,3)],4,96,(.agg #[.slice .none 0 0,.slice .none 0 0,.slice .none 0 0,.slice .none 0 0]),true⟩,⟨.struct [(26,0),(29,1),(30,2),(31,3)],4,96,(.agg #[.slice .none 0 0,.slice .none 0 0,.slice .none 0 0,.slice .none 0 0]),true⟩,tI,⟨.other,1,0,(.tuple #[.agg #[.slice .none 0 0,.slice .none 0 0,.slice .none 0 0,.slice .none 0 0],.int .i64 0]),true⟩,tF,⟨.slice 45,1,24,(.slice .none 0 0),true⟩,⟨.other,1,0,(.tuple #[.slice .none 0 0,.int .i64 0]),true⟩,tF,tF,tF,⟨.struct [(3,0),(3,1),(3,2)],3,24,(.agg #[.int .i64 0,.int .i64 0,.int .i64 0]),true⟩,⟨.struct [(3,0),(3,1),(3,2)],3,24,(.agg #[.int .i64 0,.int .i64 0,.int .i64 0]),true⟩,tiN,⟨.struct [(9,0),(43,1)],4,40,(.agg #[.string ⟨#[]⟩,.int .i64 0,.int .i64 0,.int .i64 0]),true⟩,tiN,tiN]
def Agu:List TI:=[tiN,tiN,tiN,tiN,tiN,⟨.struct [(9,0),(43,1),(9,4),(9,5)],6,72,(.agg #[.string ⟨#[]⟩,.int .i64 0,.int .i64 0,.int .i64 0,.string ⟨#[]⟩,.string ⟨#[]⟩]),true⟩,tiN,tiN,tiN,tiN,tiN,tiN,tiN,tiN,tiN,tiN]
def Agv:List TI:=[⟨.struct [(3,0),(3,1)],2,16,(.agg #[.int .i64 0,.int .i64 0]),true⟩,⟨.slice 64,1,24,(.slice .none 0 0),true⟩,⟨.slice 64,1,24,(.slice .none 0 0),true⟩,tiN,⟨.struct [(9,0),(66,1)],2,40,(.agg #[.string ⟨#[]⟩,.slice .none 0 0]),true⟩,tiN,⟨.struct [(9,0),(43,1),(26,4),(9,5),(9,6),(9,7),(4,8)],9,120,(.agg #[.string ⟨#[]⟩,.int .i64 0,.int .i64 0,.int .i64 0,.slice .none 0 0,.string ⟨#[]⟩,.string ⟨#[]⟩,.string ⟨#[]⟩,.bool .false]),true⟩,⟨.slice 76,1,24,(.slice .none 0 0),true⟩,tiN,tiN,tiN,tiN,⟨.struct [(9,0),(3,1),(3,2)],3,32,(.agg #[.string ⟨#[]⟩,.int .i64 0,.int .i64 0]),true⟩,tiN,tiN,tiN]
def Agw:List TI:=[⟨.struct [(4,0),(37,1),(30,2),(31,3)],4,80,(.agg #[.bool .false,.slice .none 0 0,.slice .none 0 0,.slice .none 0 0]),true⟩,tiN,tiN,tiN,tiN,tiN,⟨.slice 37,1,24,(.slice .none 0 0),true⟩,tiN,tiN,tiN,tiN,tiN,⟨.struct [(9,0),(3,1),(3,2)],3,32,(.agg #[.string ⟨#[]⟩,.int .i64 0,.int .i64 0]),true⟩,tiN,tiN,tiN]
def Agx:List TI:=[⟨.struct [(3,0),(9,1),(3,2),(3,3),(3,4),(3,5)],6,56,(.agg #[.int .i64 0,.string ⟨#[]⟩,.int .i64 0,.int .i64 0,.int .i64 0,.int .i64 0]),true⟩,tiN,⟨.map 45 70,1,8,(.map .none),true⟩,⟨.map 9 22,1,8,(.map .none),true⟩,tiN,⟨.struct [(98,0),(99,1)],2,16,(.agg #[.map .none,.map .none]),true⟩,tiN,tiN,tiN,tiN,⟨.map 9 70,1,8,(.map .none),true⟩,tiN,tiN,tF,tiN,⟨.map 9 4,1,8,(.map .none),true⟩]
def Agy:List TI:=[tiN,tiN,tiN,tiN,tiN,tiN,tiN,⟨.ptr 121,1,8,(.pointer .none),true⟩,tiN,⟨.struct [(9,0)],1,16,(.agg #[.string ⟨#[]⟩]),true⟩,tiN,⟨.ptr 33,1,8,(.pointer .none),true⟩,⟨.ptr 128,1,8,(.pointer .none),true⟩,⟨.ptr 225,1,8,(.pointer .none),true⟩,tiN,tiN]
def Agz:List TI:=[⟨.struct [(125,0),(3,1)],2,16,(.agg #[.pointer .none,.int .i64 0]),true⟩,tiN,tiN,tiN,⟨.slice 3,1,24,(.slice .none 0 0),true⟩,tiN,tiN,tiN,tiN,tiN,tiN,tiN,tiN,tiN,tiN,tiN]
def AgA:List TI:=[⟨.slice 9,1,24,(.slice .none 0 0),true⟩,⟨.map 9 3,1,8,(.map .none),true⟩,tiN,tiN,tiN,tiN,⟨.other,1,0,(.tuple #[.int .i64 0,.bool .false]),true⟩,tiN,tiN,⟨.ptr 163,1,8,(.pointer .none),true⟩,tiN,tiN,⟨.map 9 160,1,8,(.map .none),true⟩,⟨.map 9 66,1,8,(.map .none),true⟩,⟨.slice 258,1,24,(.slice .none 0 0),true⟩,⟨.map 96 3,1,8,(.map .none),true⟩]
def Abo:List TI:=[⟨.slice 242,1,24,(.slice .none 0 0),true⟩,⟨.slice 31,1,24,(.slice .none 0 0),true⟩,tiN,⟨.struct [(26,0),(156,1),(157,2),(30,3),(158,4),(159,5),(4,6),(160,7),(37,8),(161,9)],10,176,(.agg #[.slice .none 0 0,.map .none,.map .none,.slice .none 0 0,.slice .none 0 0,.map .none,.bool .false,.slice .none 0 0,.slice .none 0 0,.slice .none 0 0]),true⟩,tiN,tiN,tF,tiN,tiN,tiN,tiN,tiN,tiN,tiN,tiN,tiN]
def Abp:List TI:=[tiN,tiN,tiN,tiN,tF,⟨.ptr 281,1,8,(.pointer .none),true⟩,tiN,tiN,tiN,tiN,tiN,tF,tiN,tF,tiN,tiN]
def Abq:List TI:=[tiN,tiN,tiN,tF,tiN,⟨.iface,1,16,.nilIface,false⟩,tiN,⟨.ptr 26,1,8,(.pointer .none),true⟩,⟨.ptr 68,1,8,(.pointer .none),true⟩,tiN,tiN,tiN,tiN,tiN,tiN,tiN]
def Abr:List TI:=[⟨.ptr 3,1,8,(.pointer .none),true⟩,tiN,tF,tiN,⟨.ptr 29,1,8,(.pointer .none),true⟩,⟨.ptr 53,1,8,(.pointer .none),true⟩,tF,tiN,⟨.ptr 30,1,8,(.pointer .none),true⟩,⟨.ptr 96,1,8,(.pointer .none),true⟩,tiN,tF,tiN,⟨.ptr 31,1,8,(.pointer .none),true⟩,⟨.ptr 92,1,8,(.pointer .none),true⟩,tF]
def Abs:List TI:=[tiN,⟨.struct [(9,0),(3,1),(34,2)],3,32,(.agg #[.string ⟨#[]⟩,.int .i64 0,.int .i64 0]),true⟩,tiN,tiN,tiN,⟨.int .u64,1,8,(.int .u64 0),true⟩,tiN,tiN,tiN,tiN,tiN,tiN,tiN,tiN,tiN,tiN]
def Abt:List TI:=[⟨.int .u64,1,8,(.int .u64 0),true⟩,tiN,⟨.struct [(3,0),(70,1)],10,128,(.agg #[.int .i64 0,.string ⟨#[]⟩,.int .i64 0,.int .i64 0,.int .i64 0,.slice .none 0 0,.string ⟨#[]⟩,.string ⟨#[]⟩,.string ⟨#[]⟩,.bool .false]),true⟩,tiN,⟨.slice 249,1,24,(.slice .none 0 0),true⟩,tiN,tiN,tiN,tiN,⟨.struct [(68,0),(9,2),(3,3),(3,4)],5,72,(.agg #[.string ⟨#[]⟩,.slice .none 0 0,.string ⟨#[]⟩,.int .i64 0,.int .i64 0]),true⟩,tF,tiN,tiN,tiN,tiN,tiN]
def Abu:List TI:=[tF,⟨.slice 325,1,24,(.slice .none 0 0),true⟩,⟨.slice 325,1,24,(.slice .none 0 0),true⟩,tiN,tiN,⟨.other,1,0,(.tuple #[.string ⟨#[]⟩,.bool .false]),true⟩,tiN,tiN,tiN,tiN,tiN,tiN,tiN,tiN,tiN,tiN]
def Abv:List TI:=[tiN,tiN,tiN,tiN,⟨.array 3 3,3,24,(.agg #[.int .i64 0,.int .i64 0,.int .i64 0]),true⟩,tiN,tiN,tiN,tiN,⟨.struct [(25,0),(26,2),(158,3)],4,96,(.agg #[.slice .none 0 0,.slice .none 0 0,.slice .none 0 0,.slice .none 0 0]),true⟩,tiN,tiN,tF,tiN,tiN,tiN]
def Abw:List TI:=[tiN,tiN,tiN,tiN,tiN,tiN,tF,tiN,⟨.slice 5,1,24,(.slice .none 0 0),true⟩,tiN,tiN,⟨.int .u32,1,4,(.int .u32 0),true⟩,tiN,tiN,tiN,tiN]
def Abx:List TI:=[tiN,tiN,tiN,tiN,tI,⟨.other,1,0,(.tuple #[.int .i64 0,.int .i64 0]),true⟩,tiN,tiN,tiN,tiN,tiN,tiN,tiN,tiN,tF,tiN]
def Aby:List TI:=[tiN,tiN,tiN,tiN,tiN,⟨.struct [(9,0),(4,1),(66,2)],3,48,(.agg #[.string ⟨#[]⟩,.bool .false,.slice .none 0 0]),true⟩,tF,tiN,tiN,tiN,tiN,tiN,tiN,tiN,tiN,tiN]
def Abz:List TI:=[tiN,tiN,tiN,⟨.slice 4,1,24,(.slice .none 0 0),true⟩,tiN,tiN,tiN,tiN,tF,tF,tiN,⟨.struct [(344,0),(345,1)],2,16,(.agg #[.nilFunc,.nilFunc]),true⟩,⟨.array 4 347,8,64,(.agg #[.nilFunc,.nilFunc,.nilFunc,.nilFunc,.nilFunc,.nilFunc,.nilFunc,.nilFunc]),true⟩,tiN,tiN,tiN]
def AbA:List TI:=[⟨.other,1,0,(.tuple #[.int .u32 0,.int .u32 0]),true⟩,tiN,tiN,tiN,tiN,tiN,tiN,tiN,tiN,tiN,tiN,tiN,tiN,tiN,tiN,tiN]
def AbB:List TI:=[tiN,tiN,tiN,tiN,⟨.int .u64,1,8,(.int .u64 0),true⟩,tiN,tiN,tiN,tiN,tiN,tF,tiN,tF,tiN,tiN,tiN]
def AbC:List TI:=[tiN,tiN,tiN,tF,tiN,tiN,tiN,tiN,tiN,tiN,tiN,tiN,⟨.slice 66,1,24,(.slice .none 0 0),true⟩,tiN,tiN,tiN]
def AbD:List TI:=[tiN,tiN,tiN,tiN,⟨.ptr 5,1,8,(.pointer .none),true⟩,tiN,tiN,tiN,⟨.ptr 372,1,8,(.pointer .none),true⟩,⟨.other,1,0,(.tuple #[.int .i64 0,.int .i64 0]),true⟩,tiN,tiN,tiN,tiN,tiN,⟨.map 9 325,1,8,(.map .none),true⟩]
def AbE:List TI:=[tiN,tiN,tF,tiN,tiN,tiN,⟨.other,1,0,(.tuple #[.int .i32 0,.int .i64 0]),true⟩,tiN,tiN,tiN,tiN,tiN,tiN,tiN,tiN,tiN]
def AbF:List TI:=[⟨.map 3 3,1,8,(.map .none),true⟩,tiN,tiN,tiN,tiN,tiN,tiN,tiN,tiN,tiN,tiN,tiN,⟨.array 256 5,256,256,(.agg (((List.replicate 64 (.int .u8 0)).append (List.replicate 64 (.int .u8 0))).append ((List.replicate 64 (.int .u8 0)).append (List.replicate 64 (.int .u8 0)))).toArray),true⟩,tiN,⟨.struct [(5,0),(5,1)],2,2,(.agg #[.int .u8 0,.int .u8 0]),true⟩,⟨.array 16 446,32,32,(.agg (Array.replicate 32 (.int .u8 0))),true⟩]
def AbG:List TI:=[tiN,tiN,tiN,tiN,tiN,tiN,tiN,tiN,tiN,tiN,tiN,tiN,tiN,tiN,⟨.struct [(17,0),(17,1),(17,2),(9,3)],4,40,(.agg #[.pointer .none,.pointer .none,.pointer .none,.string ⟨#[]⟩]),false⟩,tiN]
def AbH:List TI:=[tiN,⟨.other,0,0,(.agg #[]),false⟩,⟨.int .u8,1,1,(.int .u8 0),true⟩,⟨.int .u8,1,1,(.int .u8 0),true⟩,tF,⟨.int .i32,1,4,(.int .i32 0),true⟩,⟨.int .i32,1,4,(.int .i32 0),true⟩,tiN,⟨.struct [(12,0),(12,1),(299,2),(466,3),(5,4),(5,5),(467,6),(468,7),(404,8),(469,9),(470,10)],11,48,(.agg #[.int .u64 0,.int .u64 0,.int .u32 0,.int .u8 0,.int .u8 0,.int .u8 0,.int .u8 0,.nilFunc,.pointer .none,.int .i32 0,.int .i32 0]),false⟩,⟨.slice 490,1,24,(.slice .none 0 0),true⟩,⟨.slice 492,1,24,(.slice .none 0 0),true⟩,⟨.slice 494,1,24,(.slice .none 0 0),true⟩,⟨.slice 496,1,24,(.slice .none 0 0),true⟩,tiN,⟨.struct [(9,0),(473,1),(474,2),(475,3),(476,4)],5,112,(.agg #[.string ⟨#[]⟩,.slice .none 0 0,.slice .none 0 0,.slice .none 0 0,.slice .none 0 0]),true⟩,tiN]
def AbI:List TI:=[tiN,tiN,tiN,tiN,⟨.slice 498,1,24,(.slice .none 0 0),true⟩,⟨.slice 488,1,24,(.slice .none 0 0),true⟩,⟨.slice 500,1,24,(.slice .none 0 0),true⟩,tiN,⟨.struct [(3,0),(9,1),(9,2),(485,3),(486,4)],5,88,(.agg #[.int .i64 0,.string ⟨#[]⟩,.string ⟨#[]⟩,.slice .none 0 0,.slice .none 0 0]),true⟩,tiN,⟨.struct [(9,0),(484,1),(488,2),(488,7)],12,216,(.agg #[.string ⟨#[]⟩,.slice .none 0 0,.int .i64 0,.string ⟨#[]⟩,.string ⟨#[]⟩,.slice .none 0 0,.slice .none 0 0,.int .i64 0,.string ⟨#[]⟩,.string ⟨#[]⟩,.slice .none 0 0,.slice .none 0 0]),true⟩,tiN,⟨.struct [(9,0),(484,1),(488,2)],7,128,(.agg #[.string ⟨#[]⟩,.slice .none 0 0,.int .i64 0,.string ⟨#[]⟩,.string ⟨#[]⟩,.slice .none 0 0,.slice .none 0 0]),true⟩,tiN,⟨.struct [(9,0),(9,1),(9,2)],3,48,(.agg #[.string ⟨#[]⟩,.string ⟨#[]⟩,.string ⟨#[]⟩]),true⟩,tiN]
def AbJ:List TI:=[⟨.struct [(9,0),(9,1)],2,32,(.agg #[.string ⟨#[]⟩,.string ⟨#[]⟩]),true⟩,tiN,⟨.struct [(9,0),(3,1),(488,2)],7,112,(.agg #[.string ⟨#[]⟩,.int .i64 0,.int .i64 0,.string ⟨#[]⟩,.string ⟨#[]⟩,.slice .none 0 0,.slice .none 0 0]),true⟩,tiN,⟨.struct [(9,0),(488,1),(4,6)],7,112,(.agg #[.string ⟨#[]⟩,.int .i64 0,.string ⟨#[]⟩,.string ⟨#[]⟩,.slice .none 0 0,.slice .none 0 0,.bool .false]),true⟩]
def tbl:List (List TI):=[Agr,Ags,Agt,Agu,Agv,Agw,Agx,Agy,Agz,AgA,Abo,Abp,Abq,Abr,Abs,Abt,Abu,Abv,Abw,Abx,Aby,Abz,AbA,AbB,AbC,AbD,AbE,AbF,AbG,AbH,AbI,AbJ]
def tQ:G4:=fun t => oZ dTI (oZ [] tbl (t / 16)) (t % 16)
def usedT:List Nat:=[0,1,2,3,4,5,6,7,8,9,10,11,12,13,14,15,16,17,18,19,20,21,22,23,24,25,26,27,28,29,30,31,32,33,34,35,36,37,38,39,40,41,42,43,45,53,64,65,66,68,70,71,76,80,86,92,96,98,99,101,106,109,111,119,121,123,124,125,128,132,144,145,150,153,156,157,158,159,160,161,163,166,180,181,187,189,195,197,199,200,208,210,212,213,214,216,217,219,221,222,223,225,229,240,242,244,249,250,256,257,258,261,276,281,284,294,296,299,308,309,318,325,326,339,344,345,347,348,352,372,378,380,387,396,404,408,409,415,418,422,432,444,446,447,462,465,466,467,468,469,470,472,473,474,475,476,478,484,485,486,488,490,492,494,496,498,500]
def restT:List Nat:=(List.range 512).filter fun t => !usedT.contains t
theorem qd:usedT.map tQ=usedT.map (lN Tryz.prog):=by kernel_rfl
theorem tab_rest:restT.map tQ=restT.map fun _ => dTI:=by kernel_rfl
theorem iw{α:Type}(d:α):∀(l:List α) (n:Nat),l.length <= n -> oZ d l n=d
 | [],_,_ => rfl
 |_::_,0,h => by simp at h
 |_::r,n + 1,h => iw d r n (by simpa using h)
theorem BA:Cc Tryz.prog tQ:=by
 intro t
 by_cases h:t<512
 .by_cases u:t∈usedT
  .exact .inr (List.map_inj_left.1 qd t u)
  .exact .inl (List.map_inj_left.1 tab_rest t (Cw.2 ⟨PA.2 h,by simpa using u⟩))
 .have h1:oZ ([]:List TI) tbl (t / 16)=[]:=iw _ _ _ (by show 32 <= t / 16;omega)
  have h2:tQ t=dTI:=by unfold tQ;rw[h1];rfl
  exact .inl h2
end Go.Eng
namespace Go.Eng
variable {args:List AV}{f:Nat}(vals:List Value)
section
variable {P:Program}
theorem jH {fn : Func}{c : Code}(hf : P.funcs[f]?=some fn)(hn : (fn.name == "runtime.NumGoroutine")=false)(hb : fn.body=some c) : Gt P f:=⟨fn, hf, hn, by simp_all⟩
theorem L3{res:AV}(v:Value)(hE:Gt P f)(ha:args=vals.map .v)(AaM:∀g w,O g w FK res v)(h:∀w,(∃m,w.cell? ⟨gB,0,none⟩=some (.int .i64 m))->Calls P f vals.toArray w fun e w'=>e=.returned v/\w'=w):MF P f args res:=by
 refine⟨hE,fun g w us hs hv hI=>?_⟩;have hu:us=vals.toArray:=by
  subst ha;rw[BG]at hs;refine Array.ext Wk fun i h1 h2=>?_
  have:=hv i (.v (vals[i]' Wk)) us[i] aa0 aa0
  grind [O.v_eq]
 subst hu;refine(h w hI.glob.1.2).mono ?_
 rintro e w' ⟨rfl,rfl⟩
 grind [O.up,Le.refl]
theorem pF{g:D}{w:World}:∀(vs:List Value),O g w FK (.tup (vs.map .v)) (.tuple vs.toArray):=fun vs=>
 .tup _ _ _ aa1 fun i av x h1 h2=>by
  grind [O.v]
theorem li(es:List Value)(T:TypeId)(hE:Gt P f)(ha:args=vals.map .v)(h1:∀x∈es,x.oneCell'=true)(h:∀w,(∃m,w.cell? ⟨gB,0,none⟩=some (.int .i64 m))->Calls P f vals.toArray w fun e w'=>e=.returned (.slice (some ⟨w.heap.size,0,none⟩) es.length es.length)/\w'=w.alloc (.cells es.toArray T)) :
  MF P f args (.slice .none (es.map fun x=>[.v x])):=by
 refine⟨hE,fun g w us hs hv hI=>?_⟩;have hu:us=vals.toArray:=by
  subst ha;rw[BG]at hs;refine Array.ext Wk fun i h1 h2=>?_
  have:=hv i (.v (vals[i]' Wk)) us[i] aa0 aa0
  grind [O.v_eq]
 subst hu;refine(h w hI.glob.1.2).mono ?_
 rintro e w' ⟨rfl,rfl⟩
 have E1:(w.alloc (.cells es.toArray T)).heap[w.heap.size]?=some (.cells es.toArray T (0,0)):=Hx w _ rfl;have eI:∀b,b<w.heap.size->(w.alloc (.cells es.toArray T)).heap[b]?=w.heap[b]?:=fun b hb=>heap_alloc_old _ _ hb;have hK:Fg g w ⟨g.ρ,g.ln,g.tk,g.own,g.more w.heap.size es.length⟩ (w.alloc (.cells es.toArray T)):=fun b o hb=>by
  have E4:=hI.slt b o hb;exact⟨.inl hb,by grind [World.cell?],fun es ck he=>(eI b E4).trans he⟩
 refine⟨_,_,Af,⟨g.ρ,g.ln,g.tk,g.own,g.more w.heap.size es.length⟩,rfl,⟨rfl,rfl⟩,?_,⟨rfl,rfl,rfl,?_,fun b hb _=>eI b hb,fun b o hs=>?_,fun _=>trivial,fun _ _ _ h=>h.elim,fun _ _ h=>h.elim,fun b o hs=>?_,hI.glob.keep hK⟩,⟨.refl _ _,fun _ h=>h,hK⟩⟩
 .have hr:Ci ⟨g.ρ,g.ln,g.tk,g.own,g.more w.heap.size es.length⟩ (w.alloc (.cells es.toArray T)) FK (es.map fun x=>[AV.v x]).flatten (es.toArray.toList.take ((es.map fun x=>[AV.v x]).length*1)):=by
   have hfl:∀l:List Value,(l.map fun x=>[AV.v x]).flatten=l.map .v:=fun l=>by
    induction l<;>simp_all
   rw[hfl];simp only[BG,Nat.mul_one,Hu];refine⟨by simp,fun x hx=>h1 x Wk,fun i av x q1 q2=>?_⟩
   grind [O.v]
  have:=O.slice_row (U:=L Af) (cap:=es.length) (sz:=1) (es:=es.map fun x=>[AV.v x]) E1 (fun cs hcs=>by
   grind) aa1 hr (fun o ho=>.inr ⟨rfl,by simp_all⟩)
  simp_all
 .simp_all
 .rw[World.size_alloc];rcases hs with hs | ⟨rfl,_⟩
  .have:=hI.slt b o hs;omega
  .omega
 .rcases hs with hs | ⟨rfl,_⟩<;>simp_all
end
end Go.Eng
namespace Go.Eng
open Go.Sort
section
variable {P:Program}
theorem Ov(F c:Array Value)(h:F.size<=c.size):(putCells id 0 F c).toList.take F.size=F.toList/\(putCells id 0 F c).size=c.size:=by
 have hs:(putCells id 0 F c).size=c.size:=by simp[putCells]
 refine⟨?_,hs⟩;apply C3
 grind [putCells]
theorem US(r:Nat)(o o' : HO):AJ (Ai [(r,o)] Af) r o'=Ai [(r,o')] Af:=by
 grind [A0,Ai,BQ,DY,Nat.beq_refl]
theorem Re{f:Nat}{es:C0}{sz:Nat}{rest:List Value}{Q:C0->Prop}(hE:Gt P f)
  (h0:es=[]->Q []/\∀w,Calls P f (#[.slice none 0 0]++rest.toArray) w fun e w'=>e=.returned (.tuple #[])/\w'=w)
  (h1:∀(g:D) (w:World) (b cap:Nat) (F:Array Value),Ci g w FK es.flatten F.toList->F.size=es.length*sz->Holds id w b 0 F->b<w.heap.size->Calls P f (#[.slice (some ⟨b,0,none⟩) es.length cap]++rest.toArray) w fun e w'=>
   e=.returned (.tuple #[])/\∃(F' : Array Value) (FX : C0) (n:Nat) (os:Array Obj),F'.size=F.size/\Q FX/\FX.length=es.length/\(∀cs∈FX,cs.length=sz) /\
    (∀(g:D) (w:World),Ci g w FK es.flatten F.toList->Ci g w FK FX.flatten F'.toList)/\w'=grow (putRow id (Sort.ahead w n) b 0 F') os) :
  A6 P f (.msl 1000 es.length::rest.map .v) (Ai [(1000,.arr sz es)] Af) fun r h'=>r=.tup []/\∃FX,Q FX/\h'=Ai [(1000,.arr sz FX)] Af:=by
 refine⟨hE,fun g w us hs hv hI=>?_⟩;have ho:=hI.objs 1000;have he:Ai [(1000,HO.arr sz es)] Af 1000=.arr sz es:=rfl;rw[he]at ho;obtain⟨t1,l1,al,a2⟩:=ho;simp only[Ec,BG]at hs
 -- the arguments
 have hu0:0<us.size:=Wk
 have yt:=hv 0 (.msl 1000 es.length) us[0] rfl (DA hu0);have hval:us[0]=g.ρ 1000:=by
  grind [cases O]
 have Oa:us=#[g.ρ 1000]++rest.toArray:=by
  refine Array.ext aa0 fun i h1 h2=>?_;cases i with
  |zero=>simp_all
  |succ i=>
   have hi:i<rest.length:=Wk
   have:=hv (i+1) (.v rest[i]) us[i+1] aa0 (DA h1)
   rw[this.v_eq];simp
 rw[Oa];rcases a2 with ⟨b1,b2,b3⟩ | ⟨b,cap,E,vs,b1,b2,b3,b4,b5,b6,b7⟩
 .subst b1;obtain⟨q,h0⟩:=h0 rfl;rw[b2];refine(h0 w).mono ?_
  rintro e w' ⟨rfl,rfl⟩
  grind [O.tup,Le.refl]
 .have hl:(Ai [(1000,HO.arr sz es)] Af 1000).live:=trivial;have E4:=(hI.loc 1000 b hl b2).1;have JP:es.length*sz<=vs.size:=by rw[b5];exact BB _ b3
  have hF:((vs.toList.take (es.length*sz)).toArray).size=es.length*sz:=aa0
  have hH:Holds id w b 0 (vs.toList.take (es.length*sz)).toArray:=fun j hj=>by
   grind [World.cell?,World.frozen?]
  rw[b1];refine(h1 g w b cap _ Wk hF hH E4).mono ?_
  rintro e w' ⟨rfl,F',FX,n,os,f1,f2,f3,f4,f5,rfl⟩
  have zQ : F'.size=es.length*sz:=f1.trans hF;have hpt:=Ov F' vs Wk;have wB : (grow (putRow id (Sort.ahead w n) b 0 F') os).heap[b]?=some (.cells (putCells id 0 F' vs) E (0,0)):=by
   rw[heap_grow_old _ _ aa0];show(w.heap.modify b (onCells (putCells id 0 F')))[b]?=_;rw[Array.getElem?_modify,A1 rfl,b4];rfl
  have hob:∀k,k<w.heap.size->k≠b->(grow (putRow id (Sort.ahead w n) b 0 F') os).heap[k]?=w.heap[k]?:=fun k hk ER=>by
   rw[heap_grow_old _ _ aa0];simp[putRow,mapBlock,Array.getElem?_modify,Ne.symm ER]
  have FW:w.heap.size<=(grow (putRow id (Sort.ahead w n) b 0 F') os).heap.size:=aa0
  obtain⟨k1,k2⟩:=hI.upd 1000 (.arr sz FX) (g.ρ 1000) (g.ln 1000) (g.tk 1000) (g.own 1000) g.S (grow (putRow id (Sort.ahead w n) b 0 F') os) (some b) ⟨rfl,rfl,rfl,FW⟩
   (fun k hk ER=>hob k hk (fun e=>ER (by rw[e]))) (fun b' e=>by cases e;exact⟨hl,b2⟩) (fun _ _ h=>h) (fun _ _ h=>.inl h) (fun b' o e hs=>by cases e;exact absurd hs (b7 o))
   (fun b' _ e=>by rw[b2]at e;cases e;exact⟨AZ E4 FW,.inl ⟨hl,b2⟩⟩) aa1 (fun _=>⟨rfl,Ao _,fun _=>rfl,fun _=>rfl⟩) (fun hg hk=>by
    refine⟨by simp[D.upd,t1],by simp[D.upd,l1,f3],f4,.inr ⟨b,cap,E,_,by simp[D.upd,b1,f3],by simp[D.upd,b2],by omega,wB,by rw[hpt.2,b5],?_,b7⟩⟩
    have:=f5 g w (by simpa using b6)
    rw[f3,<-zQ,hpt.1];exact this.mono hk (fun _ h=>h) (fun _ h=>h.elim))
  rw[US]at k1 k2;exact⟨_,.tup [],_,_,rfl,⟨rfl,FX,f2,rfl⟩,.tup _ _ _ rfl (fun i av x h=>by simp at h),k1,k2⟩
end
end Go.Eng
namespace Go.Eng
open Go.Sort Go.Proofs
variable {α β:Type}{k:Nat}
theorem SP{g:D}{w:World}{U:Nat->Prop}{cs gA : List AV}{vs lX : List Value}(h:vs.length=cs.length):Ci g w U (cs++gA) (vs++lX)↔Ci g w U cs vs/\Ci g w U gA lX:=by
 constructor
 .intro⟨h1,h2,h3⟩;refine⟨⟨h,fun x hx=>h2 x (Bz _ hx),fun i av x q1 q2=>?_⟩,⟨by simp_all,fun x hx=>h2 x (Cb _ hx),fun i av x q1 q2=>?_⟩⟩
  .have a1:=(Bg.1 q1).1;have a2:=(Bg.1 q2).1;exact h3 i av x aa2 aa2
  .exact h3 (cs.length+i) av x aa2 aa2
 .intro⟨⟨h1,h2,h3⟩,k1,k2,k3⟩;refine⟨by simp_all,fun x hx=>(Bc.1 hx).elim (h2 x) (k2 x),fun i av x q1 q2=>?_⟩
  grind
theorem RQ{α β:Type}{g:D}{w:World}{U:Nat->Prop}{Dq:β->List AV}{enc:α->List Value}(hl:∀x y,(enc x).length=(Dq y).length):∀ps:List (β×α),
  Ci g w U (ps.map fun p=>Dq p.1).flatten (ps.map fun p=>enc p.2).flatten↔∀p∈ps,Ci g w U (Dq p.1) (enc p.2)
 | []=>by simp[Ci]
 |p::ps=>by
  simp only[Bo,Cs];rw[SP (hl _ _),RQ hl ps];simp
theorem Na{f:α->β}:∀{m m' : List β},m.Perm m'->∀ps:List α,ps.map f=m->∃pB : List α,pB.Perm ps/\pB.map f=m':=by
 intro m m' h
 induction h with
 |nil=>simp_all
 |cons x h ih=>
  intro ps e;cases ps with
  |nil=>cases e
  |cons p ps=>
   rw[Bo]at e
   injection e with e1 e2
   obtain⟨pB,h1,h2⟩:=ih ps e2;exact⟨p::pB,h1.cons p,by simp_all⟩
 |swap x y l=>
  intro ps e
  match ps,e with
  |p::q::ps,e=>
   grind [List.Perm.swap]
 |trans h1 h2 ih1 ih2=>
  grind [List.Perm.trans]
theorem Uz[Inhabited α]{enc:α->List Value}(hk:∀x,(enc x).length=k)(d:Array α):(flatK enc k d).toList=(d.toList.map enc).flatten:=by
 have hl:∀cs∈d.toList.map enc,cs.length=k:=fun cs hcs=>by
  grind
 have CN:(d.toList.map enc).flatten.length=d.size*k:=by
  have:∀l:List α,(l.map enc).flatten.length=l.length*k:=fun l=>by
   induction l<;>grind [Nat.succ_mul]
  simp_all
 apply C3;intro t
 by_cases ht:t<d.size*k
 .have k0:0<k:=Nat.pos_of_ne_zero fun h=>by simp_all
  have h1:t / k<d.size:=by rw[Nat.div_lt_iff_lt_mul k0];exact ht
  have h2:t % k<k:=Nat.mod_lt _ k0;have e:t=t / k*k+t % k:=by grind [Nat.div_add_mod]
  rw[CM,DA (by simpa using ht),<-OS _ t (by simpa using ht),get_flatK _ _ _ _ ht]
  grind [Fz]
 simp_all
theorem zip_fst{α β:Type}:∀{l:List α} {m:List β},l.length=m.length->(l.zip m).map (·.1)=l/\(l.zip m).map (·.2)=m
 | [],[],_=>⟨rfl,rfl⟩
 |a::l,b::m,h=>by
  have:=zip_fst (l:=l) (m:=m) aa0
  simp_all
section
variable {P:Program}
theorem JY[Inhabited α]{f:Nat}{rest:List Value}(hE:Gt P f)(Dq:β->List AV)(enc:α->List Value)(hB:∀x,(Dq x).length=k)(hk:∀x,(enc x).length=k)(lt:α->α->Bool)(R:β->α->Prop)(l:List β)(hl:l.length<4611686018427387904)(hR:∀x∈l,∀(g:D) (w:World) (vs:List Value),Ci g w FK (Dq x) vs->∃a,enc a=vs/\R x a)(Cv:∀(w:World) (b cap:Nat) (d:Array α),HoldsK enc k w b 0 d->b<w.heap.size->d.size<4611686018427387904->d.size=l.length->Calls P f (#[.slice (some ⟨b,0,none⟩) d.size cap]++rest.toArray) w fun e w'=>
   e=.returned (.tuple #[])/\∃d' n os,PermIn 0 d.size d d'/\SortedIn lt 0 d.size d'/\w'=sortWorldK enc k w b 0 n d' os)(Ai5:l=[]->∀w:World,Calls P f (#[.slice none 0 0]++rest.toArray) w fun e w'=>e=.returned (.tuple #[])/\w'=w) :
  A6 P f (.msl 1000 l.length::rest.map .v) (Ai [(1000,.arr k (l.map Dq))] Af) fun r h'=>
   r=.tup []/\∃l' : List β,l'.Perm l/\(∃al:List α,al.length=l'.length/\(∀(i:Nat) (x:β) (a:α),l'[i]?=some x->al[i]?=some a->R x a)/\al.Pairwise (fun x y=>lt y x=false))/\h'=Ai [(1000,.arr k (l'.map Dq))] Af:=by
 have Jx:=Re (P:=P) (f:=f) (es:=l.map Dq) (sz:=k) (rest:=rest)
  (Q:=fun FX=>∃l' : List β,l'.Perm l/\(∃al:List α,al.length=l'.length/\(∀(i:Nat) (x:β) (a:α),l'[i]?=some x->al[i]?=some a->R x a)/\al.Pairwise (fun x y=>lt y x=false))/\FX=l'.map Dq) hE ?_ ?_
 .grind
 .simp_all
 .intro g w b cap F hr hF hH hb
  -- the elements in memory
  have wU:∀(m:List β) (vs:List Value),(∀x∈m,x∈l)->Ci g w FK (m.map Dq).flatten vs->∃al:List α,al.length=m.length/\vs=(al.map enc).flatten/\∀(i:Nat) (x:β) (a:α),m[i]?=some x->al[i]?=some a->R x a:=by
   intro m
   induction m with
   |nil=>
    intro vs _ h
    have:vs=[]:=Az (by simpa using h.1)
    simp_all
   |cons x m ih=>
    intro vs hm h;rw[Bo,Cs]at h;have CN:=h.1;rw[AD,hB]at CN;have e:vs=vs.take k++vs.drop k:=(List.take_append_drop k vs).symm;rw[e]at h;rw[SP aa2]at h;obtain⟨a,a1,a2⟩:=hR x (hm x (Ah ..)) g w _ h.1;obtain⟨al,b1,b2,b3⟩:=ih _ (fun y hy=>hm y (Aj _ hy)) h.2;refine⟨a::al,by grind,by grind,fun i y c q1 q2=>?_⟩
    grind
  obtain⟨al,s1,s2,s3⟩:=wU l F.toList (fun _ h=>h) hr;have hFd:F=flatK enc k al.toArray:=TP.1 (by grind [Uz]);have hd:HoldsK enc k w b 0 al.toArray:=by grind [HoldsK]
  have hc:=Cv w b cap al.toArray hd hb aa0 Wk;have FW:al.toArray.size=(l.map Dq).length:=aa0
  rw[FW]at hc;refine hc.mono ?_
  rintro e w' ⟨rfl,d',n,os,p1,p2,rfl⟩
  obtain⟨z1,z2⟩:=zip_fst s1.symm;obtain⟨Afw,_,Jz⟩:=p1;have Afw : d'.size=al.length:=Wk
  have e1:d'.extract 0 (l.map Dq).length=d':=aa0
  have e2:al.toArray.extract 0 (l.map Dq).length=al.toArray:=aa2
  rw[e1,e2]at Jz;have Jz:al.Perm d'.toList:=by
   first
   |exact Jz.symm
   |exact Jz
   |(have:=Jz.symm;simpa using this)
  obtain⟨pB,r1,r2⟩:=Na Jz (l.zip al) z2;have rel:∀p∈l.zip al,R p.1 p.2:=fun p hp=>by
   obtain⟨i,hi⟩:=Es.1 hp;rw[List.getElem?_zip_eq_some]at hi
   grind
  refine⟨rfl,flatK enc k d',(pB.map (·.1)).map Dq,n,os,by simp_all,⟨pB.map (·.1),?_,⟨d'.toList,by grind,fun i x a q1 q2=>?_,?_⟩,rfl⟩,by have:=r1.length_eq;simp_all,fun cs hcs=>?_,fun g w hr=>?_,?_⟩
  .grind
  .rw[<-r2]at q2;rw[Ct,B6]at q1 q2;obtain⟨p,q1,rfl⟩:=q1
   grind
  .rw[Cy];intro i j hi hj cX;have Pw : i<d'.size:=Wk
   have hj' : j<d'.size:=Wk
   have:=p2 i j (Ak _) cX Wk
   simp_all
  .obtain⟨x,_,rfl⟩:=Ar.1 hcs;simp_all
  .have h1:Ci g w FK ((l.zip al).map fun p=>Dq p.1).flatten ((l.zip al).map fun p=>enc p.2).flatten:=by
    have a1:(l.zip al).map (fun p=>Dq p.1)=l.map Dq:=by
     have:(l.zip al).map (fun p=>Dq p.1)=((l.zip al).map (·.1)).map Dq:=by rw[BH];rfl
     simp_all
    have a2:(l.zip al).map (fun p=>enc p.2)=al.map enc:=by
     have:(l.zip al).map (fun p=>enc p.2)=((l.zip al).map (·.2)).map enc:=by rw[BH];rfl
     simp_all
    simp_all
   have CN:∀(x:α) (y:β),(enc x).length=(Dq y).length:=fun x y=>by simp_all
   rw[RQ CN]at h1;have h2:=(RQ (g:=g) (w:=w) (U:=FK) CN pB).2 fun p hp=>h1 p (r1.mem_iff.1 hp);have b1:(pB.map (·.1)).map Dq=pB.map fun p=>Dq p.1:=aa0
   have b2:(flatK enc k d').toList=(pB.map fun p=>enc p.2).flatten:=by
    rw[Uz hk,<-r2,BH];rfl
   grind
  .rfl
end
end Go.Eng
