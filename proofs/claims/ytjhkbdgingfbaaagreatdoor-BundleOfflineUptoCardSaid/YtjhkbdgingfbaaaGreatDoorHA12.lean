/- Lemmas 12. -/
import Derived.Test.YtjhkbdgingfbaaaGreatDoorHA11
namespace Go.Eng
variable {K:St->Prop}{st:St}{l:List Nat}{o:Oper}{σ:HU}{d:Nat}{cx:Cx}{st2:St}{d' n:Nat}(ops:Array Oper)
theorem Ws(h:∀x∈o.op.operands,ev st2.t x=ev st.t x):Fr cx o st2=Fr cx o st:=by
 obtain⟨dst,op,ty,pos,after,gd⟩:=o;cases op with
 |call c=>
  obtain⟨te,args,Hd⟩:=c;have ha:args.toList.map (ev st2.t)=args.toList.map (ev st.t):=Ba fun x hx=>h x (by simp only[Op.operands,Call.operands,To];exact .inr (by simpa using hx));simp only[Fr];rw[ha];cases te with
  |value f=>
   have hf:ev st2.t f=ev st.t f:=h f (by simp[Op.operands,Call.operands]);simp only[Hl,hf]
  |builtin b=>
   generalize args.toList.map (ev st.t)=l
   match l with
   | []=>cases b<;>rfl
   | [x]=>cases b<;>cases x<;>rfl
   | [x,y]=>cases b<;>cases x<;>rfl
   |x::_::_::_=>cases b<;>cases x<;>rfl
  |invoke r m=>rfl
 |box e x=>simp only[Fr,h x (by simp[Op.operands])]
 |buildSlice t n ps=>
  have hx:ps.toList.map (fun p=>ev st2.t p.2)=ps.toList.map (fun p=>ev st.t p.2):=Ba fun p hp=>h p.2 (by
   simp only[Op.operands,List.mem_toArray];exact Ak.2 ⟨p,hp,rfl⟩)
  simp only[Fr,hx]
 |store t p x=>simp only[Fr,h p (by simp[Op.operands]),h x (by simp[Op.operands])]
 |mapUpdate t m k x=>simp only[Fr,h m (by simp[Op.operands]),h x (by simp[Op.operands])]
 |makeFunc fn first cap=>
  have hx:cap.toList.map (ev st2.t)=cap.toList.map (ev st.t):=Ba fun x hx=>h x (by simp only[Op.operands,To];exact .inr (by simpa using hx));simp only[Fr,hx]
 |load t p=>simp only[Fr,h p (by simp[Op.operands])]
 |assign x=>simp only[Fr,h x (by simp[Op.operands])]
 |binOp op t x y u=>simp only[Fr,h x (by simp[Op.operands])]
 |slice t x lo hi mx=>simp only[Fr,h x (by simp[Op.operands])]
 |lookup t x i ok=>simp only[Fr,h x (by simp[Op.operands])]
 |_=>rfl
def Looks(o:Oper)(st st2:St):Prop:=∀d∈o.looksAt ops,st2.t d=st.t d
theorem Looks.operands{ops:Array Oper}{o:Oper}{st st2:St}(h:Looks ops o st st2):∀x∈o.op.operands,ev st2.t x=ev st.t x:=fun x hx=>by
 cases x with
 |tmp t=>exact h t (Bn _ (List.mem_filterMap.2 ⟨.tmp t,by simpa using hx,rfl⟩))
 |_=>rfl
theorem WR(j:Nat):KV ops.toList j=(ops[j]?).bind (·.dst):=by
 have:∀(l:List Oper) (j:Nat),KV l j=(l[j]?).bind (·.dst):=by
  intro l
  induction l with
  |nil=>intro j;simp[KV]
  |cons o l ih=>
   intro j;cases j with
   |zero=>simp[KV]
   |succ j=>simp[KV,ih]
 rw[this];simp
theorem Looks.guard{ops:Array Oper}(h:Looks ops o st st2){j:Nat}{b:Bool}(hg:o.guard=some (j,b))(hd:KV ops.toList j=some d):st2.t d=st.t d:=
 h d (Bg _ (by rw[hg];simp only;rw[<-WR,hd];simp))
def St.after(st:St)(o:Oper)(v:AV)(e:List (Nat×HO)):St:=st.put o.dst v (Iz st.h e)
def Qt(cx:Cx)(ops:Array Oper)(o:Oper)(st:St)(f:FJ)(v:AV)(e:List (Nat×HO)):Prop:=
 (∀r o',(r,o')∈e->Tq f.2 r/\r∈f.1)/\∀st2,Looks ops o st st2->(∀r∈f.1,st2.h r=st.h r)->∀K:St->Prop,K (st2.after o v e)->HF cx true ops.toList o st2 K
theorem T9{ops:Array Oper}(h:Looks ops o st st2):N8 cx ops.toList o st2=N8 cx ops.toList o st:=by
 unfold N8;split
 .exact Ws h.operands
 .rename_i j want hg;split
  .rfl
  .rename_i d hd;simp only[h.guard hg hd];split<;>first | exact Ws h.operands | rfl
theorem Pg{ops:Array Oper}{f:FJ}(hk:HF cx true ops.toList o st K)(hf:N8 cx ops.toList o st=some f) :
  ∃v e,Qt cx ops o st f v e/\K (st.after o v e):=by
 obtain⟨R,w⟩:=f;have skip:R=[]/\w=none->K (st.put o.dst (.v undef) st.h)->(∀st2,Looks ops o st st2->∀K:St->Prop,K (st2.put o.dst (.v undef) st2.h)->HF cx true ops.toList o st2 K)->∃v e,Qt cx ops o st (R,w) v e/\K (st.after o v e):=by
  rintro⟨rfl,rfl⟩ h1 h2
  exact⟨.v undef,[],⟨fun r o' e=>(by cases e),fun st2 hl _ K h=>h2 st2 hl K h⟩,h1⟩
 have run:Fr cx o st=some (R,w)->F9 cx true o st (fun v h=>K (st.put o.dst v h))->(∀st2,Looks ops o st st2->∀K:St->Prop,F9 cx true o st2 (fun v h=>K (st2.put o.dst v h))->HF cx true ops.toList o st2 K)->∃v e,Qt cx ops o st (R,w) v e/\K (st.after o v e):=by
  intro hf hk h2;obtain⟨v,e,q1,q2,q3⟩:=gn hk hf;exact⟨v,e,⟨q2,fun st2 hl hh K h=>h2 st2 hl K (q3 st2 ⟨hl.operands,hh⟩ _ h)⟩,q1⟩
 unfold HF at hk;unfold N8 at hf;cases hg:o.guard with
 |none=>
  rw[hg]at hk hf;exact run hf hk (fun st2 hl K h=>by unfold HF;rw[hg];exact h)
 |some p=>
  obtain⟨j,want⟩:=p;rw[hg]at hk hf;simp only at hk hf;cases hd:KV ops.toList j with
  |none=>rw[hd]at hk;exact hk.elim
  |some d=>
   rw[hd]at hk hf;simp only at hk hf;have he:∀st2,Looks ops o st st2->st2.t d=st.t d:=fun st2 hl=>hl.guard hg hd;generalize hx:st.t d=x at hk hf he;split at hk
   .exact run hf hk (fun st2 hl K h=>by unfold HF;simp only[hg,hd,he st2 hl];exact h)
   .exact run hf hk (fun st2 hl K h=>by unfold HF;simp only[hg,hd,he st2 hl];exact h)
   .exact skip (by cases hf;exact⟨rfl,rfl⟩) hk (fun st2 hl K h=>by unfold HF;simp only[hg,hd,he st2 hl];exact h)
   .exact skip (by cases hf;exact⟨rfl,rfl⟩) hk (fun st2 hl K h=>by unfold HF;simp only[hg,hd,he st2 hl];exact h)
   .exact skip (by cases hf;exact⟨rfl,rfl⟩) hk (fun st2 hl K h=>by unfold HF;simp only[hg,hd,he st2 hl];exact h)
   .exact hk.elim
def wl(cx:Cx)(ops:Array Oper)(FT:Nat->FJ)(i:Nat)(K:St->Prop)(st:St):Prop:=
 match ops[i]? with
 |none=>K st
 |some o=>N8 cx ops.toList o st=some (FT i)/\HF cx true ops.toList o st K
def Za(cx:Cx)(ops:Array Oper)(FT:Nat->FJ)(K:St->Prop):Nat->Array Bool->St->Prop
 |0,listed,st=>Region.ready .any ops listed=[]/\K st
 |fuel+1,listed,st=>
  (Region.ready .any ops listed=[]->K st)/\∀i∈Region.ready .any ops listed,wl cx ops FT i (Za cx ops FT K fuel (listed.setIfInBounds i true)) st
theorem jX(t:Nat->AV)(h:d'≠d)(v v' : AV):HC (HC t d v) d' v'=HC (HC t d' v') d v:=by
 funext i
 unfold HC
 by_cases h1:i=d<;>by_cases h2:i=d'
 .exact absurd (h2.symm.trans h1) h
 .subst h1;simp[B9 h2]
 .subst h2;simp[B9 h1]
 .simp[B9 h1,B9 h2]
theorem ir(t:Nat->HO)(h:d'≠d)(v v' : HO):AR (AR t d v) d' v'=AR (AR t d' v') d v:=by
 funext i
 unfold AR
 by_cases h1:i=d<;>by_cases h2:i=d'
 .exact absurd (h2.symm.trans h1) h
 .subst h1;simp[B9 h2]
 .subst h2;simp[B9 h1]
 .simp[B9 h1,B9 h2]
theorem PO(h:n∈l):Jl l n=true:=by
 induction l with
 |nil=>cases h
 |cons a l ih=>
  unfold Jl
  by_cases e:a=n
  .subst e;simp
  .rw[B9 e];exact ih ((Ay.1 h).resolve_left (fun q=>e q.symm))
theorem aM(h:Jl l n=true):n∈l:=by
 induction l with
 |nil=>cases h
 |cons a l ih=>
  unfold Jl at h
  by_cases e:a=n
  .exact e▸Ab ..
  .rw[B9 e]at h;exact Ae _ (ih h)
theorem bh{x:Nat}(h:bc l x=true):∀r,Tq (some x) r->r∉l:=by
 intro r hc hr;unfold bc at h
 by_cases hx:x=XH
 .subst hx;rw[CU,Kr]at h;cases l with
  |nil=>cases hr
  |cons a l=>cases h
 rw[B9 hx,Eh]at h;simp only[Af,CD,Co,Cr]at h;rcases hc with rfl | ⟨h1,h2⟩ | hc
 .rw[PO hr]at h;cases h.1
 .rcases h.2 with h3 | h3
  .omega
  .rcases h2 with rfl | rfl
   .rw[PO hr]at h3;cases h3.1
   .rw[PO hr]at h3;cases h3.2
 .exact hx hc
theorem gQ{a b:FJ}(h:TT a b=true):(∀r,Tq a.2 r->r∉b.1)/\∀r,Tq b.2 r->r∉a.1:=by
 obtain⟨a1,a2⟩:=a;obtain⟨b1,b2⟩:=b;simp only[TT,Af]at h;refine⟨fun r e=>?_,fun r e=>?_⟩
 .cases a2 with
  |none=>exact e.elim
  |some x=>exact bh h.1 r e
 .cases b2 with
  |none=>exact e.elim
  |some x=>exact bh h.2 r e
section
variable {cx:Cx}{ops:Array Oper}{FT:Nat->FJ}
theorem Si{oi oj:Oper}(h:∀d,oi.dst=some d->d∉oj.looksAt ops)(st:St)(v:AV)(e:List (Nat×HO)):Looks ops oj st (st.after oi v e):=by
 intro d hd;cases hdst:oi.dst with
 |none=>simp[St.after,St.put,hdst]
 |some d'=>
  have:d≠d':=fun q=>h d' hdst (q▸hd)
  simp[St.after,St.put,hdst,HC,B9 this]
theorem Looks.symm{o:Oper}{st st2:St}(h:Looks ops o st st2):Looks ops o st2 st:=fun d hd=>(h d hd).symm
theorem eD{o:Oper}{v:AV}{e:List (Nat×HO)}:(st.after o v e).h=Iz st.h e:=by
 unfold St.after St.put;cases o.dst<;>rfl
theorem QG{r:Nat}:∀{e:List (Nat×HO)} {h:Nat->HO},(∀o',(r,o')∉e)->Iz h e r=h r
 | [],_,_=>rfl
 |p::e,h,hr=>by
  have:r≠p.1:=fun q=>hr p.2 (by rw[q];exact Ab ..)
  show Iz (AR h p.1 p.2) e r=h r;rw[QG fun o' ho=>hr o' (Ae _ ho),BR _ _ _ _ this]
theorem Zy{r:Nat}{o:HO}:∀{e:List (Nat×HO)} {h:Nat->HO},(∀r' o',(r',o')∈e->r'≠r)->Iz (AR h r o) e=AR (Iz h e) r o
 | [],_,_=>rfl
 |p::e,h,hr=>by
  show Iz (AR (AR h r o) p.1 p.2) e=AR (Iz (AR h p.1 p.2) e) r o;rw[ir h (hr p.1 p.2 (Ab ..)),Zy fun r' o' ho=>hr r' o' (Ae _ ho)]
theorem Wp:∀{e e' : List (Nat×HO)} {h:Nat->HO},(∀r o r' o',(r,o)∈e->(r',o')∈e'->r'≠r)->Iz (Iz h e) e'=Iz (Iz h e') e
 | [],_,_,_=>rfl
 |p::e,e',h,hd=>by
  show Iz (Iz (AR h p.1 p.2) e) e'=Iz (AR (Iz h e') p.1 p.2) e;rw[<-Zy fun r' o' ho=>hd p.1 p.2 r' o' (Ab ..) ho,Wp fun r o r' o' h1 h2=>hd r o r' o' (Ae _ h1) h2]
theorem bQ{oi oj:Oper}{v v' : AV}{e e' : List (Nat×HO)}(h1:∀d,oi.dst=some d->oj.dst≠some d)(h2:∀r o r' o',(r,o)∈e->(r',o')∈e'->r'≠r) :
  (st.after oi v e).after oj v' e'=(st.after oj v' e').after oi v e:=by
 have hh:Iz (Iz st.h e) e'=Iz (Iz st.h e') e:=Wp h2;have key:∀o:Oper,∀v e,∀st:St,st.after o v e=⟨match o.dst with | none=>st.t | some d=>HC st.t d v,Iz st.h e⟩:=fun o v e st=>by
  unfold St.after St.put;cases o.dst<;>rfl
 rw[key,key,key,key];simp only[hh];cases hi:oi.dst with
 |none=>rfl
 |some d=>
  cases hj:oj.dst with
  |none=>rfl
  |some d'=>
   have Dv:d'≠d:=fun q=>h1 d hi (by rw[hj,q]);simp only[jX st.t Dv v v']
theorem bO{i:Nat}{oi:Oper}{v:AV}{e:List (Nat×HO)}(hi:ops[i]?=some oi)(D:Nat->Prop)(hD:∀j,D j->∃oj,ops[j]?=some oj/\∃ed∈oj.after,Region.binds .any ed=true/\(ed.on=i\/D ed.on)) :
  ∀(fuel:Nat) (listed:Array Bool) (st:St),
   (∀j oj,ops[j]?=some oj->j≠i->listed.getD j true=false->¬D j->oi.apart ops oj=true/\TT (FT i) (FT j)=true) ->
   i∈Region.ready .any ops listed->(∀j,D j->listed.getD j true=false)->N8 cx ops.toList oi st=some (FT i)->Qt cx ops oi st (FT i) v e ->
   Za cx ops FT K fuel (listed.setIfInBounds i true) (st.after oi v e)->Za cx ops FT K (fuel+1) listed st:=by
 have here:∀(fuel:Nat) (listed:Array Bool) (st:St),N8 cx ops.toList oi st=some (FT i)->Qt cx ops oi st (FT i) v e ->
   Za cx ops FT K fuel (listed.setIfInBounds i true) (st.after oi v e)->wl cx ops FT i (Za cx ops FT K fuel (listed.setIfInBounds i true)) st:=by
  intro fuel listed st hf hy H;unfold wl;rw[hi];exact⟨hf,hy.2 st (fun _ _=>rfl) (fun _ _=>rfl) _ H⟩
 intro fuel
 induction fuel with
 |zero=>
  intro listed st _ hr _ hf hy H;refine⟨fun h=>(by rw[h]at hr;cases hr),fun j hj=>?_⟩
  by_cases Iu:j=i
  .subst Iu;exact here 0 listed st hf hy H
  .have:=ready_mono hj Iu
   rw[H.1]at this;cases this
 |succ fuel ih=>
  intro listed st Ad hr hDl hf hy H;refine⟨fun h=>(by rw[h]at hr;cases hr),fun j hj=>?_⟩
  by_cases Iu:j=i
  .subst Iu;exact here (fuel+1) listed st hf hy H
  .have h1:=H.2 j (ready_mono hj Iu);obtain⟨xT,oj,qh,FN⟩:=mem_ready.1 hj;have xe:∀k,listed.getD k true=false->listed.getD k false=true->False:=fun k h0 h1=>by
    rcases BT k listed.size with h' | h'
    .simp[h']at h0 h1;rw[h0]at h1;cases h1
    .simp[Array.getElem?_eq_none h']at h1
   have zQ:¬D j:=fun zH=>by
    obtain⟨oj',rT,ed,he,hb,hon⟩:=hD j zH;rw[qh]at rT;cases rT;have hl:=FN ed he hb;rcases hon with h2 | h2
    .exact xe _ (by rw[h2];exact(mem_ready.1 hr).1) hl
    .exact xe _ (hDl _ h2) hl
   obtain⟨xx,zH⟩:=Ad j oj qh Iu xT zQ;obtain⟨a1,a2,a3⟩:=Oper.apart_spec xx;obtain⟨d1,d2⟩:=gQ zH;unfold wl at h1⊢;rw[qh]at h1⊢;obtain⟨hfj,hkj⟩:=h1;have hlj:=Si (ops:=ops) a1 st v e;obtain⟨vj,ej,hyj,hK⟩:=Pg hkj hfj;have he1:∀r o',(r,o')∈e->r∉(FT j).1:=fun r o' q=>d1 r (hy.1 r o' q).1;have oT:∀r o',(r,o')∈ej->r∉(FT i).1:=fun r o' q=>d2 r (hyj.1 r o' q).1;refine⟨by rw[<-T9 hlj];exact hfj,hyj.2 st hlj.symm (fun r qj=>?_) _ ?_⟩
   .rw[eD,QG (fun o' q=>he1 r o' q qj)]
   .have hli:=Si (ops:=ops) a3 st vj ej;refine ih (listed.setIfInBounds j true) (st.after oj vj ej) (fun k ok hk hki qo JH=>?_) (ready_mono hr (RP Iu)) (fun k hk=>?_) (by rw[T9 hli];exact hf) ⟨hy.1,fun st2 hl hh K' h'=>?_⟩ ?_
    .by_cases qa:j=k
     .subst qa;exact Ad _ ok hk hki xT JH
     .rw[getD_set_ne true qa]at qo;exact Ad k ok hk hki qo JH
    .by_cases qa:j=k
     .subst qa;exact absurd hk zQ
     .rw[getD_set_ne true qa];exact hDl k hk
    .refine hy.2 st2 (fun d hd=>(hl d hd).trans (hli d hd)) (fun r qj=>?_) K' h';rw[hh r qj,eD,QG (fun o' q=>oT r o' q qj)]
    .rw[Array.setIfInBounds_comm _ _ (RP Iu)]at hK;rw[<-bQ a2 (fun r o r' o' q q' e2=>oT r' o' q' (by rw[e2];exact(hy.1 r o q).2))];exact hK
def sw(cx:Cx)(ops:Array Oper)(K:St->Prop):List Oper->List FJ->St->Prop
 | [],[],st=>K st
 |o::r,f::fs,st=>N8 cx ops.toList o st=some f/\∃v e,Qt cx ops o st f v e/\sw cx ops K r fs (st.after o v e)
 |_,_,_=>False
theorem Tt{K:St->Prop}:∀(l:List Oper) (acc:List FJ) (st:St),Zf cx ops l acc st K->∃fs,TU ops (acc.reverse++fs)=true/\sw cx ops K l fs st
 | [],acc,st,h=>⟨[],by simpa using h.1,h.2⟩
 |o::r,acc,st,h=>by
  unfold Zf at h;split at h
  .rename_i f hf;obtain⟨v,e,h1,h2⟩:=Pg h hf;obtain⟨fs,q1,q2⟩:=Tt r _ _ h2;exact⟨f::fs,by simpa using q1,hf,v,e,h1,q2⟩
  .exact h.elim
theorem Yk{o:Oper}{i:Nat}{D:List Nat}(h:PG o i D=true):∃ed∈o.after,Region.binds .any ed=true/\(ed.on=i\/ed.on∈D):=by
 unfold PG at h;obtain⟨ed,h1,h2⟩:=AX.1 h;simp only[Af,CD]at h2;exact⟨ed,by simpa using h1,h2.1,h2.2.imp AM aM⟩
theorem Vi{i:Nat}{D:List Nat}:∀(l:List Oper) (k:Nat),Vh i D k l=true->∀j o,l[j]?=some o->k+j∈D->PG o i D=true
 | [],_,_,_,_,h,_=>by simp at h
 |o::l,k,hs,j,o',h,hm=>by
  simp only[Vh,Af]at hs;cases j with
  |zero=>
   simp only[A4,Bk]at h;subst h;have h1:=hs.1;rw[PO (by simpa using hm)]at h1;simpa using h1
  |succ j=>exact Vi l (k+1) hs.2 j o' (by simpa using h) (by rw[GX,Nat.add_comm 1 j];exact hm)
theorem V7{oi:Oper}{fi:FJ}{D:List Nat}:∀(l:List Oper) (fs:List FJ) (k:Nat),IZ ops oi fi D k l fs=true->l.length=fs.length/\∀j o f,l[j]?=some o->fs[j]?=some f->k+j∉D->oi.apart ops o=true/\TT fi f=true
 | [],[],_,_=>⟨rfl,fun _ _ _ h=>by simp at h⟩
 | [],_::_,_,h=>by simp[IZ]at h
 |_::_,[],_,h=>by simp[IZ]at h
 |o::l,f::fs,k,h=>by
  simp only[IZ,Af,CD]at h;obtain⟨h1,h2⟩:=V7 l fs (k+1) h.2;refine⟨by simp[h1],fun j o' f' q1 q2 hn=>?_⟩;cases j with
  |zero=>
   simp only[A4,Bk]at q1 q2;subst q1;subst q2;rcases h.1 with h3 | h3
   .exact absurd (aM h3) hn
   .exact h3
  |succ j=>exact h2 j o' f' (by simpa using q1) (by simpa using q2) (by simpa[Nat.add_assoc,Nat.add_comm 1 j]using hn)
theorem Zb{K:St->Prop}:∀(l:List Oper) (fs:List FJ) (k:Nat) (listed:Array Bool) (st:St),(∀j,l[j]?=ops[k+j]?)->(∀j f,fs[j]?=some f->FT (k+j)=f)->listed.size=ops.size ->
  (∀j,j<ops.size->listed.getD j true=decide (j<k))->MS ops ops.toList k l fs=true->sw cx ops K l fs st->Za cx ops FT K l.length listed st
 | [],[],k,listed,st,hl,_,hs,hL,_,h=>by
  refine⟨?_,h⟩;apply Mz.2;intro j hj;obtain⟨h1,o,ho,_⟩:=mem_ready.1 hj;have Dx:=(Be.1 ho).1;rw[hL j Dx]at h1;have tM:k<=j:=by simpa using h1
  have:=hl (j-k)
  rw[show k+(j-k)=j by omega,ho]at this;simp at this
 | [],_::_,_,_,_,_,_,_,_,h,_=>by simp[MS]at h
 |_::_,[],_,_,_,_,_,_,_,h,_=>by simp[MS]at h
 |o::l,f::fs,k,listed,st,hl,hF,hs,hL,hg,h=>by
  simp only[MS,Af]at hg;obtain⟨⟨⟨⟨g1,g2⟩,g3⟩,g4⟩,g5⟩:=hg;obtain⟨hf,v,e,hy,hp⟩:=h;have h0:ops[k]?=some o:=by simpa using(hl 0).symm
  have hk:=(Be.1 h0).1;have hFk:FT k=f:=by simpa using hF 0 f rfl
  have QN : ∀j,l[j]?=ops[k+1+j]?:=fun j=>by have:=hl (j+1);simpa[Nat.add_assoc,Nat.add_comm 1 j]using this
  have vB : ∀j f,fs[j]?=some f->FT (k+1+j)=f:=fun j f' hj=>by have:=hF (j+1) f' (by simpa using hj);simpa[Nat.add_assoc,Nat.add_comm 1 j]using this
  obtain⟨Ca,xx⟩:=V7 l fs (k+1) g4;have eu:∀j,j∈QE k [] 0 ops.toList->k<j/\j<ops.size:=fun j hj=>by
   have:=(AP.1 g3) j hj
   simp only[Af,Cr,BB]at this;exact this
  refine bO h0 (fun j=>j∈QE k [] 0 ops.toList) (fun j hj=>?_) l.length listed st (fun j oj qh qa qo zQ=>?_) ?_ (fun j hj=>?_) (by rw[hFk];exact hf) (by rw[hFk];exact hy) ?_
  .have Dx:=(eu j hj).2
   have:=Vi ops.toList 0 g2 j ops[j] (by simp[Dx]) (by simpa using hj)
   obtain⟨ed,e1,e2,e3⟩:=Yk this;exact⟨ops[j],by simp[Dx],ed,e1,e2,e3⟩
  .have Dx:=(Be.1 qh).1;rw[hL j Dx]at qo;have tM:k<j:=by have q:k<=j:=(by simpa using qo);omega
   have e1:l[j-(k+1)]?=some oj:=by rw[QN,show k+1+(j-(k+1))=j by omega];exact qh
   have hfl:j-(k+1)<fs.length:=by rw[<-Ca];exact(Ar.1 e1).1
   have e2:fs[j-(k+1)]?=some fs[j-(k+1)]:=At hfl;have e3:=vB _ _ e2;rw[show k+1+(j-(k+1))=j by omega]at e3;rw[hFk,e3];exact xx _ _ _ e1 e2 (by rw[show k+1+(j-(k+1))=j by omega];exact zQ)
  .refine mem_ready.2 ⟨by rw[hL k hk];simp,o,h0,fun ed he hb=>?_⟩
   have:=(AP.1 g1) ed (by simpa using he)
   simp only[hb,Bool.not_true,JP,Cr]at this;have h1:=hL ed.on ch;have Dx:ed.on<listed.size:=by omega
   simp[Dx]at h1⊢;rw[h1];simpa using this
  .have:=eu j hj
   rw[hL j this.2];simp;omega
  .refine Zb l fs (k+1) _ _ QN vB (by simp[hs]) (fun j hj=>?_) g5 hp
   by_cases qa:j=k
   .subst qa
    have:j<listed.size:=by omega
    simp[this]
   .rw[getD_set_ne true (RP qa),hL j hj]
    by_cases h1:j<k
    .simp[h1];omega
    .simp[h1];omega
theorem gb(h:Zf cx ops ops.toList [] st K):Region.noSelect ops=true/\∃FT,Za cx ops FT K ops.size (Array.replicate ops.size false) st:=by
 obtain⟨fs,h1,h2⟩:=Tt _ _ _ h;simp only[TU,List.reverse_nil,E7,Af]at h1;refine⟨h1.1,fun j=>fs.getD j default,?_⟩
 have:=Zb (FT:=fun j=>fs.getD j default) ops.toList fs 0 (Array.replicate ops.size false) st B0 (fun j f hj=>by simp[hj]) B0 (fun j hj=>by simp[hj]) h1.2 h2
 simpa using this
end
theorem Yq:∀{σ:HU},E4 σ=true->∀i j,Cc σ i=some j↔GS σ j=some i
 | [],_,i,j=>by simp[Cc,GS]
 |(a,b)::r,h,i,j=>by
  simp only[E4,Af]at h;obtain⟨h1,h2⟩:=h;have ih:=Yq h2;have oO:Cc r a=none/\GS r b=none:=by
   split at h1
   .rename_i e1 e2;exact⟨e1,e2⟩
   .cases h1
  unfold Cc GS
  by_cases e1:a=i<;>by_cases e2:b=j
  .subst e1;subst e2;simp
  .subst e1;simp only[CU,Kr,B9 e2,Eh];constructor
   .intro h;cases h;exact absurd rfl e2
   .intro h;rw[(ih a j).2 h]at oO;cases oO.1
  .subst e2;simp only[CU,Kr,B9 e1,Eh];constructor
   .intro h;rw[(ih i b).1 h]at oO;cases oO.2
   .intro h;cases h;exact absurd rfl e1
  .simp only[B9 e1,B9 e2,Eh];exact ih i j
theorem nq:∀{σ:HU},Ef σ=true->E4 σ=true
 | [],_=>rfl
 |(a,b)::r,h=>by
  simp only[Ef,Af]at h;simp only[E4,Af];exact⟨h.1.1.1,nq h.2⟩
theorem YM(h:Ef σ=true):∀i j,Cc σ i=some j↔GS σ j=some i:=Yq (nq h)
theorem W8:∀{σ:HU},Ef σ=true->∀{i j},Cc σ i=some j->1000<=j/\j<2000
 | [],_,i,j,h=>by simp[Cc]at h
 |(a,b)::r,h,i,j,hf=>by
  simp only[Ef,Af,Df,Cr]at h;unfold Cc at hf
  by_cases e1:a=i
  .subst e1;simp only[CU,Kr]at hf;cases hf;exact⟨h.1.1.2,h.1.2⟩
  .simp only[B9 e1,Eh]at hf;exact W8 h.2 hf
theorem Qb(f:Nat->Option Nat)(h:Nat->HO):∀(σ:HU) (j:Nat),Ag (YL f h σ) Ad j=match GS σ j with | some i=>(h i).ren f h | none=>.free
 | [],j=>rfl
 |(a,b)::r,j=>by
  unfold YL Ag GS
  by_cases e:b=j
  .subst e;simp
  .simp only[B9 e,B9 (RP e),Eh];exact Qb f h r j
structure Ld(f:Nat->Option Nat)(h h2:Nat->HO)(g g2:Gh)(w:World):Prop where
 ids:∀r r',f r=some r'->AN h r->g2.tk r'=g.tk r/\g2.ln r'=g.ln r/\g2.ρ r'=g.ρ r/\g2.own r'=g.own r/\AN h2 r'
 S:∀b o,g2.S b o↔g.S b o
 objs:∀r,DR g w (AN h) r (h r)
section
variable {f:Nat->Option Nat}{h h2:Nat->HO}{g g2:Gh}{w:World}
theorem Ld.keeps(hR:Ld f h h2 g g2 w):EV g w g2 w:=fun b o hs=>⟨(hR.S b o).2 hs,rfl,fun _ _ e=>e⟩
theorem Ld.noU(hR:Ld f h h2 g g2 w){av:AV}{x:Value}(r:Br g w Fq av x):Br g2 w (AN h2) av x:=r.mono hR.keeps (fun _ h=>h.elim) (fun _ h=>h.elim)
theorem Br.ren0(hR:Ld f h h2 g g2 w){av:AV}{x:Value}(r:Br g w (AN h) av x):Br g2 w (AN h2) (ren0 f h av) x:=by
 have down:Br g2 w (AN h2) (Eng.str0 h av) x:=hR.noU (Br.str0 hR.objs r);cases av with
 |v y=>exact down
 |slice tk es=>
  cases tk with
  |none=>exact down
  |full sz=>exact down
  |id i sz=>
   simp only[Eng.ren0];split
   .rename_i i' e;cases r with
    |tok _ _ _ _ _ hs hl hu ht hn hx=>
     obtain⟨k1,k2,k3,k4,k5⟩:=hR.ids i i' e hu;exact .tok _ i' sz es x (hR.noU (Br.slice_none hs)) hl k5 (k1.trans ht) ch (fun q=>by rw[k3];exact hx ch)
   .exact hR.noU r.slice_none
  |ver i sz v=>
   simp only[Eng.ren0];split
   .rename_i i' e;cases r with
    |ver _ _ _ _ _ _ hs hl hu ht hn hx=>
     obtain⟨k1,k2,k3,k4,k5⟩:=hR.ids i i' e hu;exact .ver _ i' sz v es x (hR.noU (Br.slice_none hs)) hl k5 (k1.trans ht) ch (fun q=>by rw[k3];exact hx ch)
   .exact hR.noU r.slice_none
 |msl i n=>
  simp only[Eng.ren0];split
  .rename_i i' e;cases r with
   |msl _ _ _ a cap hu ht hn ha hx=>
    obtain⟨k1,k2,k3,k4,k5⟩:=hR.ids i i' e hu;exact .msl _ i' n a cap k5 (k1.trans ht) ch ha (fun q=>by rw[k3];exact hx ch)
  .exact .junk _ _
 |agg cs=>exact down
 |tup cs=>exact down
 |cptr cs=>exact down
 |ref i off=>
  simp only[Eng.ren0];split
  .rename_i i' e;cases r with
   |ref _ _ _ b hu ht hx=>
    obtain⟨k1,k2,k3,k4,k5⟩:=hR.ids i i' e hu;exact .ref _ i' off b k5 (k1.trans ht) (k3.trans hx)
  .exact down
 |eref i n sz k off=>
  simp only[Eng.ren0];split
  .rename_i i' e;cases r with
   |eref _ _ _ _ _ _ b cap hu ht hn hx=>
    obtain⟨k1,k2,k3,k4,k5⟩:=hR.ids i i' e hu;exact .eref _ i' n sz k off b cap k5 (k1.trans ht) ⟨hn.1,by omega⟩ (fun q=>by rw[k3];exact hx ch)
  .exact .junk _ _
 |mref i=>
  simp only[Eng.ren0];split
  .rename_i i' e;cases r with
   |mref _ _ b hu ht hx=>
    obtain⟨k1,k2,k3,k4,k5⟩:=hR.ids i i' e hu;exact .mref _ i' b k5 (k1.trans ht) (k3.trans hx)
  .exact down
 |cmap sh B7=>exact down
 |clo i cs=>exact down
 |junk=>exact down
theorem Br.ren1(hR:Ld f h h2 g g2 w){av:AV}{x:Value}(r:Br g w (AN h) av x):Br g2 w (AN h2) (ren1 f h av) x:=by
 cases av with
 |agg cs=>
  cases r with
  |agg _ _ vs hs h1 hr=>
   exact .agg _ _ vs (by simp[hs]) h1 fun i av x q1 q2=>by
    rw[Aw]at q1;obtain⟨a,q3,rfl⟩:=AD.1 q1;exact(hr i a x q3 q2).ren0 hR
 |clo i cs=>
  cases r with
  |clo _ _ _ vs hs hr=>
   exact .clo _ _ _ vs (by simp[hs]) fun i av x q1 q2=>by
    rw[Aw]at q1;obtain⟨a,q3,rfl⟩:=AD.1 q1;exact(hr i a x q3 q2).ren0 hR
 |_=>exact r.ren0 hR
theorem Br.ren(hR:Ld f h h2 g g2 w){av:AV}{x:Value}(r:Br g w (AN h) av x):Br g2 w (AN h2) (ren f h av) x:=by
 cases av with
 |tup cs=>
  cases r with
  |tup _ _ vs hs hr=>
   exact .tup _ _ vs (by simp[hs]) fun i av x q1 q2=>by
    rw[Aw]at q1;obtain⟨a,q3,rfl⟩:=AD.1 q1;exact(hr i a x q3 q2).ren1 hR
 |_=>exact r.ren1 hR
theorem Nj(f:Nat->Option Nat)(h:Nat->HO)(o:HO):(o.ren f h).live↔o.live:=by cases o<;>exact RL
theorem Nk(f:Nat->Option Nat)(h:Nat->HO)(o:HO):o.ren f h≠.free↔o≠.free:=by cases o<;>simp[HO.ren]
theorem DR.ren(hR:Ld f h h2 g g2 w){i j:Nat}(QM:f i=some j)(hu:AN h i){o:HO}(r:DR g w (AN h) i o):DR g2 w (AN h2) j (o.ren f h):=by
 obtain⟨k1,k2,k3,k4,k5⟩:=hR.ids i j QM hu;have noL:∀{cs:List AV} {vs:List Value},CJ g w Fq cs vs->CJ g2 w Fq cs vs:=fun hr=>hr.mono hR.keeps (fun _ h=>h) (fun _ h=>h.elim);have z7:∀{av:AV} {x:Value},Br g w Fq av x->Br g2 w Fq av x:=fun hr=>hr.mono hR.keeps (fun _ h=>h) (fun _ h=>h.elim);cases o with
 |free=>trivial
 |dead=>trivial
 |cells cs=>
  obtain⟨t,b,E,vs,a1,a2,a3,a4,a5⟩:=r;refine⟨k1.trans t,b,E,vs,k4.trans a1,k3.trans a2,a3,⟨by simp[a4.1],a4.2.1,fun i av x q1 q2=>?_⟩,fun o ho=>a5 o ((hR.S b o).1 ho)⟩;rw[Aw]at q1;obtain⟨a,q3,rfl⟩:=AD.1 q1;exact(a4.2.2 i a x q3 q2).ren1 hR
 |ro cs=>
  obtain⟨t,b,a1,a2⟩:=r;exact⟨k1.trans t,b,k3.trans a1,z7 a2⟩
 |tok sz n=>
  obtain⟨t,l,a,cap,a1,a2⟩:=r;refine⟨k1.trans t,k2.trans l,a,cap,k3.trans a1,?_⟩;rcases a2 with ⟨b1,b2⟩ | ⟨b1,b,E,vs,off,b2,b3,b4,b5,b6⟩
  .exact .inl ⟨b1,k4.trans b2⟩
  .exact .inr ⟨b1,b,E,vs,off,b2,k4.trans b3,b4,b5,fun o ho=>b6 o ((hR.S b o).1 ho)⟩
 |var sz v n=>
  obtain⟨t,l,a,cap,a1,a2⟩:=r;refine⟨k1.trans t,k2.trans l,a,cap,k3.trans a1,?_⟩;rcases a2 with ⟨b1,b2⟩ | ⟨b1,b,E,vs,off,b2,b3,b4,b5,b6⟩
  .exact .inl ⟨b1,k4.trans b2⟩
  .exact .inr ⟨b1,b,E,vs,off,b2,k4.trans b3,b4,b5,fun o ho=>b6 o ((hR.S b o).1 ho)⟩
 |vox v=>exact⟨k1.trans r.1,k2.trans r.2⟩
 |hol sz es i c av=>
  obtain⟨t,l,al,b,cap,E,vs,b1,b2,b3,b4,b5,b6,b7,b8,x,b9,KK⟩:=r;exact⟨k1.trans t,k2.trans l,al,b,cap,E,vs,k3.trans b1,k4.trans b2,b3,b4,b5,noL b6,fun o ho=>b7 o ((hR.S b o).1 ho),b8,x,b9,KK.ren1 hR⟩
 |bld x=>
  obtain⟨t,b,p,v,a1,a2,a3,a4,a5,a6⟩:=r;exact⟨k1.trans t,b,p,v,k4.trans a1,k3.trans a2,a3,a4,a5.ren1 hR,fun o ho=>a6 o ((hR.S b o).1 ho)⟩
 |bbf n=>
  obtain⟨t,l,a1⟩:=r;refine⟨k1.trans t,k2.trans l,?_⟩;rcases a1 with ⟨e0,e1,e2⟩ | ⟨b,cap,Db,e1,e2,e3,e4,e5,e6,e7⟩
  .exact .inl ⟨e0,k3.trans e1,k4.trans e2⟩
  .exact .inr ⟨b,cap,Db,k3.trans e1,k4.trans e2,e3,e4,e5,e6,fun o ho=>e7 o ((hR.S b o).1 ho)⟩
 |raw b ob=>
  obtain⟨t,a1,a2,a3,a4⟩:=r;exact⟨k1.trans t,k4.trans a1,a2,a3,fun o ho=>a4 o ((hR.S b o).1 ho)⟩
 |arr sz es=>
  obtain⟨t,l,al,a2⟩:=r;refine⟨k1.trans t,k2.trans l,al,?_⟩;rcases a2 with ⟨b1,b2,b3⟩ | ⟨b,cap,E,vs,b1,b2,b3,b4,b5,b6,b7⟩
  .exact .inl ⟨b1,k3.trans b2,k4.trans b3⟩
  .exact .inr ⟨b,cap,E,vs,k3.trans b1,k4.trans b2,b3,b4,b5,noL b6,fun o ho=>b7 o ((hR.S b o).1 ho)⟩
 |map sh B7=>
  obtain⟨t,b,es,ck,a1,a2,a3,a4,a5,a6⟩:=r;exact⟨k1.trans t,b,es,ck,k4.trans a1,k3.trans a2,a3,a4,fun i kv e q1 q2=>z7 (a5 i kv e q1 q2),fun o ho=>a6 o ((hR.S b o).1 ho)⟩
 |mapU sh B7=>
  obtain⟨t,b,es,ck,a1,a2,a3,a4,a5,a6⟩:=r;refine⟨k1.trans t,b,es,ck,k4.trans a1,k3.trans a2,a3,WK _ a4,fun i kv e q1 q2=>?_,fun o ho=>a6 o ((hR.S b o).1 ho)⟩;rw[Aw]at q1;obtain⟨p,q3,rfl⟩:=AD.1 q1;exact(a5 i p e q3 q2).ren1 hR
 |rom sh B7=>
  obtain⟨t,b,a1,a2⟩:=r;exact⟨k1.trans t,b,k3.trans a1,z7 a2⟩
 |iter all rem Db=>
  obtain⟨t,b,mb,KG,seen,st,es,ck,a1,a2,a3,a4,a5,a6,a7,a8,a9,Y9,dR,a12,sA⟩:=r;exact⟨k1.trans t,b,mb,KG,seen,st,es,ck,k4.trans a1,k3.trans a2,a3,(hR.S _ _).2 a4,a5,a6,a7,a8,fun i kv e q1 q2=>z7 (a9 i kv e q1 q2),Y9,dR,a12,fun o ho=>sA o ((hR.S b o).1 ho)⟩
end
theorem PR{h:Nat->HO}{d:Nat}:∀{n:Nat},DC h d n=true->∀k,k<n->h (Bp d k)=.free
 |0,_,k,hk=>by omega
 |n+1,hf,k,hk=>by
  simp only[DC,Af]at hf
  by_cases e:k=n
  .subst e
   have:=hf.1
   split at this
   .rename_i e2;exact e2
   .cases this
  .exact PR hf.2 k ch
theorem Oe{d nn:Nat}:∀{σ:HU},De σ d nn=true->∀{i j},Cc σ i=some j->¬(Bp d 0<=i/\i<Bp d nn)
 | [],_,i,j,h=>by simp[Cc]at h
 |(a,b)::r,hs,i,j,hf=>by
  simp only[De,Af]at hs;unfold Cc at hf
  by_cases e1:a=i
  .subst e1;have h1:=hs.1;simp only[Co,Mo]at h1;intro hc;rcases h1 with h1 | h1
   .rw[Nat.ble_eq_true_of_le hc.1]at h1;cases h1
   .have h2:Nat.blt a (Bp d nn)=true:=by rw[Cr];exact hc.2
    rw[h2]at h1;cases h1
  .simp only[B9 e1,Eh]at hf;exact Oe hs.2 hf
section
variable {P:Program}{w0:World}{g0:Gh}{h0 h:Nat->HO}{g:Gh}{w:World}
def CL(σ:HU)(g:Gh):Gh:=
 ⟨fun j=>match GS σ j with | some i=>g.ρ i | none=>.nilIface,fun j=>match GS σ j with | some i=>g.ln i | none=>0,fun j=>match GS σ j with | some i=>g.tk i | none=>false,
  fun j=>match GS σ j with | some i=>g.own i | none=>none,g.S⟩
def Xk(σ:HU)(d nn:Nat)(i:Nat):Option Nat:=
 match Cc σ i with
 |some j=>some j
 |none=>match Nat.ble (Bp d 0) i&&Nat.blt i (Bp d nn)with |true=>some (2000+(i-Bp d 0)) |false=>none
def G9(σ:HU)(d nn:Nat)(g g' : Gh):Gh:=
 ⟨fun i=>match Xk σ d nn i with | some j=>g'.ρ j | none=>g.ρ i,fun i=>match Xk σ d nn i with | some j=>g'.ln j | none=>g.ln i,fun i=>match Xk σ d nn i with | some j=>g'.tk j | none=>g.tk i,
  fun i=>match Xk σ d nn i with | some j=>g'.own j | none=>g.own i,g'.S⟩
theorem gy(σ:HU)(d nn:Nat)(h h' : Nat->HO)(i:Nat):Ei σ d nn h h' i=match Xk σ d nn i with | some j=>(h' j).ren (Fv σ d nn) h' | none=>h i:=by
 unfold Ei Xk;cases Cc σ i with
 |some j=>rfl
 |none=>
  dsimp only;cases Nat.ble (Bp d 0) i&&Nat.blt i (Bp d nn)<;>rfl
theorem n9{d nn:Nat}(hσ:Ef σ=true)(ha:De σ d nn=true)(i j:Nat):Xk σ d nn i=some j↔Fv σ d nn j=some i:=by
 have inv:=YM hσ;unfold Xk Fv;cases h1:Cc σ i with
 |some j'=>
  have hb:=(inv i j').1 h1;dsimp only;constructor
  .intro h;cases h;rw[hb]
  .intro h;cases h2:GS σ j with
   |some i'=>rw[h2]at h;cases h;rw[(inv i j).2 h2]at h1;exact h1.symm
   |none=>
    rw[h2]at h;dsimp only at h;split at h
    .rename_i hc;have h:=BW h;subst h;simp only[Af,Df,Cr]at hc;exact absurd ⟨by unfold Bp;omega,by unfold Bp;omega⟩ (Oe ha h1)
    .cases h
 |none=>
  dsimp only;cases h2:GS σ j with
  |some i'=>
   dsimp only;have hf:=(inv i' j).2 h2;have hr:=W8 hσ hf;constructor
   .intro h;split at h
    .cases h;omega
    .cases h
   .intro h;cases h;rw[hf]at h1;cases h1
  |none=>
   dsimp only;constructor
   .intro h;split at h
    .rename_i hc;cases h;simp only[Af,Df,Cr]at hc;have e1:(Nat.ble 2000 (2000+(i-Bp d 0))&&Nat.blt (2000+(i-Bp d 0)) (2000+nn))=true:=by
      simp only[Af,Df,Cr];unfold Bp at hc⊢;omega
     rw[e1]
     have:Bp d (2000+(i-Bp d 0)-2000)=i:=by unfold Bp at hc⊢;omega
     rw[this]
    .cases h
   .intro h;split at h
    .rename_i hc;have h:=BW h;subst h;simp only[Af,Df,Cr]at hc;have e1:(Nat.ble (Bp d 0) (Bp d (j-2000))&&Nat.blt (Bp d (j-2000)) (Bp d nn))=true:=by
      simp only[Af,Df,Cr];unfold Bp;omega
     rw[e1]
     have:2000+(Bp d (j-2000)-Bp d 0)=j:=by unfold Bp;omega
     rw[this]
    .cases h
theorem Ub(hI:Dr w0 g0 h0 h g w)(hσ:Ef σ=true):Ld (Cc σ) h (Ft σ h) g (CL σ g) w/\Dr w (CL σ g) (Ft σ h) (Ft σ h) (CL σ g) w:=by
 have inv:=YM hσ;have E1:∀j,Ft σ h j=match GS σ j with | some i=>(h i).ren (Cc σ) h | none=>.free:=Qb _ _ σ
 have hR:Ld (Cc σ) h (Ft σ h) g (CL σ g) w:=by
  refine⟨fun r r' hr hu=>?_,fun b o=>RL,hI.objs⟩;have hb:=(inv r r').1 hr;refine⟨by simp[CL,hb],by simp[CL,hb],by simp[CL,hb],by simp[CL,hb],?_⟩;unfold AN;rw[E1,hb];exact(Nk _ _ _).2 hu
 have M4:∀j,(Ft σ h j).live->∃i,GS σ j=some i/\(h i).live:=fun j hl=>by
  rw[E1]at hl;cases e:GS σ j with
  |none=>rw[e]at hl;exact hl.elim
  |some i=>rw[e]at hl;exact⟨i,rfl,(Nj _ _ _).1 hl⟩
 have Jj:∀j i,GS σ j=some i->(CL σ g).own j=g.own i:=fun j i e=>by simp[CL,e]
 refine⟨hR,rfl,rfl,rfl,Ai _,fun _ _ _=>rfl,hI.slt,fun j=>?_,fun j j' b hl QN e e'=>?_,fun j b hl e=>?_,fun _ _ h=>.inl h,hI.glob⟩
 .rw[E1];cases e:GS σ j with
  |none=>trivial
  |some i=>
   by_cases hu:AN h i
   .exact(hI.objs i).ren hR ((inv i j).2 e) hu
   .have:h i=.free:=Cq.1 hu
    dsimp only;rw[this];trivial
 .obtain⟨i,e1,l1⟩:=M4 j hl;obtain⟨i',e2,l2⟩:=M4 j' QN;rw[Jj j i e1]at e;rw[Jj j' i' e2]at e';obtain rfl:=hI.inj i i' b l1 l2 e e'
  have:=(inv i j).2 e1
  rw[(inv i j').2 e2]at this;cases this;rfl
 .obtain⟨i,e1,l1⟩:=M4 j hl;have e0:=e;rw[Jj j i e1]at e;exact⟨(hI.loc i b l1 e).1,.inr ⟨j,hl,e0⟩⟩
theorem Lj{C:(Ending->World->Prop)->Prop}(hm:∀{R R' : Ending->World->Prop},C R->(∀e w,R e w->R' e w)->C R')(hI:Dr w0 g0 h0 h g w){d nn:Nat}(FY:(Ef σ&&DC h d nn&&De σ d nn)=true){Q:AV->(Nat->HO)->Prop}(hc:Dr w (CL σ g) (Ft σ h) (Ft σ h) (CL σ g) w->C (fun e w'=>∃v r h' g',e=Ending.returned v/\Q r h'/\Br g' w' (AN h') r v/\Dr w (CL σ g) (Ft σ h) h' g' w'/\Le (Ft σ h) (CL σ g) w h' g' w')){R:Ending->World->Prop}(ez:∀v r h' g2 w',Q r h'->Dr w0 g0 h0 (Ei σ d nn h h') g2 w'->Le h g w (Ei σ d nn h h') g2 w'->Br g2 w' (AN (Ei σ d nn h h')) (ren (Fv σ d nn) h' r) v->R (.returned v) w'):C R:=by
 simp only[Af]at FY;obtain⟨⟨hσ,hnf⟩,xx⟩:=FY;obtain⟨hF,pX⟩:=Ub hI hσ;have inv:=YM hσ;have ql:=n9 hσ xx;refine hm (hc pX) ?_
 rintro e w' ⟨v,r,h',g',rfl,q1,q2,q3,q4⟩
 have hb:=gy σ d nn h h';have kh:∀i j,Xk σ d nn i=some j->(G9 σ d nn g g').ρ i=g'.ρ j/\(G9 σ d nn g g').ln i=g'.ln j/\(G9 σ d nn g g').tk i=g'.tk j/\(G9 σ d nn g g').own i=g'.own j:=fun i j e=>by simp[G9,e]
 have hg3:∀i,Xk σ d nn i=none->(G9 σ d nn g g').ρ i=g.ρ i/\(G9 σ d nn g g').ln i=g.ln i/\(G9 σ d nn g g').tk i=g.tk i/\(G9 σ d nn g g').own i=g.own i:=fun i e=>by simp[G9,e]
 have hB:Ld (Fv σ d nn) h' (Ei σ d nn h h') g' (G9 σ d nn g g') w':=by
  refine⟨fun j i hj hu=>?_,fun b o=>RL,q3.objs⟩;have e:=(ql i j).2 hj;obtain⟨k1,k2,k3,k4⟩:=kh i j e;refine⟨k3,k2,k1,k4,?_⟩;unfold AN;rw[hb,e];exact(Nk _ _ _).2 hu
 have rP:∀j,Ft σ h j=match GS σ j with | some i=>(h i).ren (Cc σ) h | none=>.free:=Qb _ _ σ
 have AbH:∀j i,Cc σ i=some j->(h i).live->(Ft σ h j).live:=fun j i e hl=>by
  rw[rP,(inv i j).1 e];exact(Nj _ _ _).2 hl
 have Ae5:∀j i,Cc σ i=some j->(CL σ g).own j=g.own i:=fun j i e=>by simp[CL,(inv i j).1 e]
 have SZ : ∀j,(Ft σ h j).live->∃i,Cc σ i=some j/\(h i).live/\(CL σ g).own j=g.own i:=fun j hl=>by
  rw[rP]at hl;cases e:GS σ j with
  |none=>rw[e]at hl;exact hl.elim
  |some i=>rw[e]at hl;exact⟨i,(inv i j).2 e,(Nj _ _ _).1 hl,by simp[CL,e]⟩
 -- what the callee may not touch
 have oU:∀b,b<w.heap.size->(∀i,(h i).live->Cc σ i≠none->g.own i≠some b)->w'.heap[b]?=w.heap[b]?:=fun b Dx hn=>q3.frame b Dx fun j hl e=>by
  obtain⟨i,e1,l1,o1⟩:=SZ j hl;exact hn i l1 (by rw[e1];simp) (by rw[<-o1];exact e)
 have hSs:∀b o,g'.S b o->b<w.heap.size->(∀i,(h i).live->Cc σ i≠none->g.own i≠some b)->g.S b o:=fun b o hs Dx hn=>by
  rcases q3.sg b o hs with h1 | h1 | ⟨j,h1,h2⟩
  .exact h1
  .omega
  .obtain⟨i,e1,l1,o1⟩:=SZ j h1;exact absurd (by rw[<-o1];exact h2) (hn i l1 (by rw[e1];simp))
 have hk:EV g w (G9 σ d nn g g') w':=q4.keeps;have Ad:∀i,Cc σ i=none->Xk σ d nn i≠none->h i=.free:=fun i e1 e2=>by
  unfold Xk at e2;rw[e1]at e2;dsimp only at e2;split at e2
  .rename_i hc;simp only[Af,Df,Cr]at hc
   have:=PR hnf (i-Bp d 0) (by unfold Bp at hc⊢;omega)
   rw[show Bp d (i-Bp d 0)=i by unfold Bp at hc⊢;omega]at this;exact this
  .exact absurd rfl e2
 have iy:∀i j,Cc σ i=some j->Xk σ d nn i=some j:=fun i j e=>by unfold Xk;rw[e]
 have hgl:KI g (G9 σ d nn g g') (AN h):=fun i hu=>by
  cases e:Cc σ i with
  |some j=>
   obtain⟨k1,k2,k3,k4⟩:=kh i j (iy i j e);obtain⟨f1,f2,f3,f4,f5⟩:=hF.ids i j e hu;obtain⟨m1,m2,m3,m4⟩:=q4.gh j f5;exact⟨(k3.trans m1).trans f1,by omega,fun t=>(k1.trans (m3 (f1.trans t))).trans f3,fun l=>(k1.trans (m4 ch)).trans f3⟩
  |none=>
   have e2:Xk σ d nn i=none:=Cq.1 fun e2=>hu (Ad i e e2);obtain⟨k1,k2,k3,k4⟩:=hg3 i e2;exact⟨k3,by omega,fun _=>k1,fun _=>k1⟩
 have L9:∀i,AN h i->AN (Ei σ d nn h h') i:=fun i hu=>by
  unfold AN;rw[hb];cases e:Cc σ i with
  |some j=>
   rw[iy i j e];exact(Nk _ _ _).2 (q4.us j (hF.ids i j e hu).2.2.2.2)
  |none=>
   have e2:Xk σ d nn i=none:=Cq.1 fun e2=>hu (Ad i e e2);rw[e2];exact hu
 have Yl:∀i,(Ei σ d nn h h' i).live->(∃j,Xk σ d nn i=some j/\(h' j).live/\(G9 σ d nn g g').own i=g'.own j)\/(Xk σ d nn i=none/\(h i).live/\(G9 σ d nn g g').own i=g.own i/\Cc σ i=none):=fun i hl=>by
  rw[hb]at hl;cases e:Xk σ d nn i with
  |some j=>rw[e]at hl;exact .inl ⟨j,rfl,(Nj _ _ _).1 hl,(kh i j e).2.2.2⟩
  |none=>
   rw[e]at hl;refine .inr ⟨rfl,hl,(hg3 i e).2.2.2,?_⟩;cases e2:Cc σ i with
   |none=>rfl
   |some j=>rw[iy i j e2]at e;cases e
 have xC:∀j b,(h' j).live->g'.own j=some b->b<w'.heap.size/\(w.heap.size<=b\/∃i,Cc σ i≠none/\(h i).live/\g.own i=some b):=fun j b hl e=>by
  obtain⟨h1,h2⟩:=q3.loc j b hl e;refine⟨h1,h2.imp id ?_⟩
  rintro⟨j',l',e'⟩
  obtain⟨i,e1,l1,o1⟩:=SZ j' l';exact⟨i,by rw[e1];simp,l1,by rw[<-o1];exact e'⟩
 have qo:∀i b,(h i).live->g.own i=some b->Cc σ i=none->∀i',(h i').live->Cc σ i'≠none->g.own i'≠some b:=fun i b hl e hn i' QN ae e'=>by
  obtain rfl:=hI.inj i i' b hl QN e e';exact ae hn
 refine ez v r h' (G9 σ d nn g g') w' q1 ⟨q3.os.trans hI.os,q3.tape.trans hI.tape,q3.output.trans hI.output,A9 hI.size q3.size,fun b Dx hn=>?_,q3.slt,fun i=>?_,fun i i' b hl QN e e'=>?_,fun i b hl e=>?_,fun b o hs=>?_,hI.glob.keep hk⟩ ⟨hgl,L9,hk⟩ (q2.ren hB)
 .refine(oU b (Bx Dx hI.size) fun i hl _ e=>?_).trans (hI.frame b Dx hn);rcases(hI.loc i b hl e).2 with h1 | ⟨r',h1,h2⟩
  .omega
  .exact hn r' h1 h2
 .rw[hb];cases e:Xk σ d nn i with
  |some j=>
   by_cases hu:AN h' j
   .exact(q3.objs j).ren hB ((ql i j).1 e) hu
   .have:h' j=.free:=Cq.1 hu
    dsimp only;rw[this];trivial
  |none=>
   obtain⟨k1,k2,k3,k4⟩:=hg3 i e;have e2:Cc σ i=none:=by
    cases e2:Cc σ i with
    |none=>rfl
    |some j=>rw[iy i j e2]at e;cases e
   refine(hI.objs i).same hk L9 hgl k1 k2 k3 k4 fun b hl ho=>?_;have Dx:=(hI.loc i b hl ho).1;exact⟨oU b Dx (qo i b hl ho e2),fun k hs=>hSs b k hs Dx (qo i b hl ho e2)⟩
 .have mixed:∀i j i',(h' j).live->g'.own j=some b->(h i').live->g.own i'=some b->Cc σ i'=none->i=i':=fun i j i' l1 o1 l2 o2 n2=>by
   rcases(xC j b l1 o1).2 with h1 | ⟨i3,n3,l3,o3⟩
   .have:=(hI.loc i' b l2 o2).1;omega
   .exact absurd o3 (qo i' b l2 o2 n2 i3 l3 n3)
  rcases Yl i hl with ⟨j,s1,l1,o1⟩ | ⟨s1,l1,o1,n1⟩<;>rcases Yl i' QN with ⟨j',s2,l2,o2⟩ | ⟨s2,l2,o2,n2⟩
  .obtain rfl:=q3.inj j j' b l1 l2 (by rw[<-o1];exact e) (by rw[<-o2];exact e');have a1:=(ql i j).1 s1;rw[(ql i' j).1 s2]at a1;cases a1;rfl
  .exact mixed i j i' l1 (by rw[<-o1];exact e) l2 (by rw[<-o2];exact e') n2
  .exact(mixed i' j' i l2 (by rw[<-o2];exact e') l1 (by rw[<-o1];exact e) n1).symm
  .exact hI.inj i i' b l1 l2 (by rw[<-o1];exact e) (by rw[<-o2];exact e')
 .rcases Yl i hl with ⟨j,s1,l1,o1⟩ | ⟨s1,l1,o1,n1⟩
  .obtain⟨h1,h2⟩:=xC j b l1 (by rw[<-o1];exact e);refine⟨h1,?_⟩;rcases h2 with h2 | ⟨i3,n3,l3,o3⟩
   .exact .inl (A9 hI.size h2)
   .exact(hI.loc i3 b l3 o3).2
  .obtain⟨h1,h2⟩:=hI.loc i b l1 (by rw[<-o1];exact e);exact⟨Bx h1 q3.size,h2⟩
 .rcases q3.sg b o hs with h1 | h1 | ⟨j,h1,h2⟩
  .exact hI.sg b o h1
  .exact .inr (.inl (A9 hI.size h1))
  .obtain⟨i,e1,l1,o1⟩:=SZ j h1;exact .inr (hI.loc i b l1 (by rw[<-o1];exact h2)).2
theorem lk(hI:Dr w0 g0 h0 h g w){d nn:Nat}(FY:(Ef σ&&DC h d nn&&De σ d nn)=true){f:Nat}{args:List AV}{Q:AV->(Nat->HO)->Prop}(hc:Bb P f args (Ft σ h) Q){vals:Array Value}(hs:vals.size=args.length)(hv:∀(i:Nat) (av:AV) (x:Value),args[i]?=some av->vals[i]?=some x->Br (CL σ g) w (AN (Ft σ h)) av x){R:Ending->World->Prop}(ez:∀v r h' g2 w',Q r h'->Dr w0 g0 h0 (Ei σ d nn h h') g2 w'->Le h g w (Ei σ d nn h h') g2 w'->Br g2 w' (AN (Ei σ d nn h h')) (ren (Fv σ d nn) h' r) v->R (.returned v) w'):Calls P f vals w R:=
 Lj (C:=Calls P f vals w) (fun h k=>h.mono k) hI FY (hc.2 (CL σ g) w vals hs hv) ez
end
end Go.Eng
