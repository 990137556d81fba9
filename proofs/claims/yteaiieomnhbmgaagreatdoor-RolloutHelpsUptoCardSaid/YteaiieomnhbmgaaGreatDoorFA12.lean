/- Lemmas 12. -/
import Derived.Test.YteaiieomnhbmgaaGreatDoorFA11
namespace Go.Eng
variable {K:St->Prop}{st:St}{l:List Nat}{o:Oper}{σ:J6}{d:Nat}{cx:Cx}{st2:St}{d' n:Nat}(ops:Array Oper)
theorem XG(h:∀x∈o.op.operands,ev st2.t x=ev st.t x):FH cx o st2=FH cx o st:=by
 obtain⟨dst,op,ty,pos,after,gd⟩:=o;cases op with
 |call c=>
  obtain⟨uJ,args,Hz⟩:=c;have ha:args.toList.map (ev st2.t)=args.toList.map (ev st.t):=Bg fun x hx=>h x (by simp only[Op.operands,Call.operands,T8];exact .inr (by simpa using hx));simp only[FH];rw[ha];cases uJ with
  |value f=>
   have hf:ev st2.t f=ev st.t f:=h f (by simp[Op.operands,Call.operands]);simp only[HL,hf]
  |builtin b=>
   generalize args.toList.map (ev st.t)=l
   match l with
   | []=>cases b<;>rfl
   | [x]=>cases b<;>cases x<;>rfl
   | [x,y]=>cases b<;>cases x<;>rfl
   |x::_::_::_=>cases b<;>cases x<;>rfl
  |invoke r m=>rfl
 |box e x=>simp only[FH,h x (by simp[Op.operands])]
 |buildSlice t n ps=>
  have hx:ps.toList.map (fun p=>ev st2.t p.2)=ps.toList.map (fun p=>ev st.t p.2):=Bg fun p hp=>h p.2 (by
   simp only[Op.operands,List.mem_toArray];exact Ai.2 ⟨p,hp,rfl⟩)
  simp only[FH,hx]
 |store t p x=>simp only[FH,h p (by simp[Op.operands]),h x (by simp[Op.operands])]
 |mapUpdate t m k x=>simp only[FH,h m (by simp[Op.operands]),h x (by simp[Op.operands])]
 |makeFunc fn first cap=>
  have hx:cap.toList.map (ev st2.t)=cap.toList.map (ev st.t):=Bg fun x hx=>h x (by simp only[Op.operands,T8];exact .inr (by simpa using hx));simp only[FH,hx]
 |load t p=>simp only[FH,h p (by simp[Op.operands])]
 |assign x=>simp only[FH,h x (by simp[Op.operands])]
 |binOp op t x y u=>simp only[FH,h x (by simp[Op.operands])]
 |slice t x lo hi mx=>simp only[FH,h x (by simp[Op.operands])]
 |lookup t x i ok=>simp only[FH,h x (by simp[Op.operands])]
 |_=>rfl
def LL(o:Oper)(st st2:St):Prop:=∀d∈o.looksAt ops,st2.t d=st.t d
theorem LL.operands{ops:Array Oper}{o:Oper}{st st2:St}(h:LL ops o st st2):∀x∈o.op.operands,ev st2.t x=ev st.t x:=fun x hx=>by
 cases x with
 |tmp t=>exact h t (By _ (List.mem_filterMap.2 ⟨.tmp t,by simpa using hx,rfl⟩))
 |_=>rfl
theorem XZ(j:Nat):Lx ops.toList j=(ops[j]?).bind (·.dst):=by
 have:∀(l:List Oper) (j:Nat),Lx l j=(l[j]?).bind (·.dst):=by
  intro l
  induction l with
  |nil=>intro j;simp[Lx]
  |cons o l ih=>
   intro j;cases j with
   |zero=>simp[Lx]
   |succ j=>simp[Lx,ih]
 rw[this];simp
theorem LL.guard{ops:Array Oper}(h:LL ops o st st2){j:Nat}{b:Bool}(hg:o.guard=some (j,b))(hd:Lx ops.toList j=some d):st2.t d=st.t d:=
 h d (Bo _ (by rw[hg];simp only;rw[<-XZ,hd];simp))
def St.after(st:St)(o:Oper)(v:AV)(e:List (Nat×HO)):St:=st.put o.dst v (I5 st.h e)
def Ru(cx:Cx)(ops:Array Oper)(o:Oper)(st:St)(f:FV)(v:AV)(e:List (Nat×HO)):Prop:=
 (∀r o',(r,o')∈e->Ub f.2 r/\r∈f.1)/\∀st2,LL ops o st st2->(∀r∈f.1,st2.h r=st.h r)->∀K:St->Prop,K (st2.after o v e)->H9 cx true ops.toList o st2 K
theorem UW{ops:Array Oper}(h:LL ops o st st2):OB cx ops.toList o st2=OB cx ops.toList o st:=by
 unfold OB;split
 .exact XG h.operands
 .rename_i j want hg;split
  .rfl
  .rename_i d hd;simp only[h.guard hg hd];split<;>first|exact XG h.operands|rfl
theorem PS{ops:Array Oper}{f:FV}(hk:H9 cx true ops.toList o st K)(hf:OB cx ops.toList o st=some f) :
  ∃v e,Ru cx ops o st f v e/\K (st.after o v e):=by
 obtain⟨R,w⟩:=f;have skip:R=[]/\w=none->K (st.put o.dst (.v undef) st.h)->(∀st2,LL ops o st st2->∀K:St->Prop,K (st2.put o.dst (.v undef) st2.h)->H9 cx true ops.toList o st2 K)->∃v e,Ru cx ops o st (R,w) v e/\K (st.after o v e):=by
  rintro⟨rfl,rfl⟩ h1 h2
  exact⟨.v undef,[],⟨fun r o' e=>(by cases e),fun st2 hl _ K h=>h2 st2 hl K h⟩,h1⟩
 have run:FH cx o st=some (R,w)->Gl cx true o st (fun v h=>K (st.put o.dst v h))->(∀st2,LL ops o st st2->∀K:St->Prop,Gl cx true o st2 (fun v h=>K (st2.put o.dst v h))->H9 cx true ops.toList o st2 K)->∃v e,Ru cx ops o st (R,w) v e/\K (st.after o v e):=by
  intro hf hk h2;obtain⟨v,e,q1,q2,q3⟩:=iU hk hf;exact⟨v,e,⟨q2,fun st2 hl hh K h=>h2 st2 hl K (q3 st2 ⟨hl.operands,hh⟩ _ h)⟩,q1⟩
 unfold H9 at hk;unfold OB at hf;cases hg:o.guard with
 |none=>
  rw[hg]at hk hf;exact run hf hk (fun st2 hl K h=>by unfold H9;rw[hg];exact h)
 |some p=>
  obtain⟨j,want⟩:=p;rw[hg]at hk hf;simp only at hk hf;cases hd:Lx ops.toList j with
  |none=>rw[hd]at hk;exact hk.elim
  |some d=>
   rw[hd]at hk hf;simp only at hk hf;have he:∀st2,LL ops o st st2->st2.t d=st.t d:=fun st2 hl=>hl.guard hg hd;generalize hx:st.t d=x at hk hf he;split at hk
   .exact run hf hk (fun st2 hl K h=>by unfold H9;simp only[hg,hd,he st2 hl];exact h)
   .exact run hf hk (fun st2 hl K h=>by unfold H9;simp only[hg,hd,he st2 hl];exact h)
   .exact skip (by cases hf;exact⟨rfl,rfl⟩) hk (fun st2 hl K h=>by unfold H9;simp only[hg,hd,he st2 hl];exact h)
   .exact skip (by cases hf;exact⟨rfl,rfl⟩) hk (fun st2 hl K h=>by unfold H9;simp only[hg,hd,he st2 hl];exact h)
   .exact skip (by cases hf;exact⟨rfl,rfl⟩) hk (fun st2 hl K h=>by unfold H9;simp only[hg,hd,he st2 hl];exact h)
   .exact hk.elim
def xT(cx:Cx)(ops:Array Oper)(FT:Nat->FV)(i:Nat)(K:St->Prop)(st:St):Prop:=
 match ops[i]? with
 |none=>K st
 |some o=>OB cx ops.toList o st=some (FT i)/\H9 cx true ops.toList o st K
def ah(cx:Cx)(ops:Array Oper)(FT:Nat->FV)(K:St->Prop):Nat->Array Bool->St->Prop
 |0,listed,st=>Region.ready .any ops listed=[]/\K st
 |fuel+1,listed,st=>
  (Region.ready .any ops listed=[]->K st)/\∀i∈Region.ready .any ops listed,xT cx ops FT i (ah cx ops FT K fuel (listed.setIfInBounds i true)) st
theorem lc(t:Nat->AV)(h:d'≠d)(v v' : AV):H5 (H5 t d v) d' v'=H5 (H5 t d' v') d v:=by
 funext i
 unfold H5
 by_cases h1:i=d<;>by_cases h2:i=d'
 .exact absurd (h2.symm.trans h1) h
 .subst h1;simp[Dd h2]
 .subst h2;simp[Dd h1]
 .simp[Dd h1,Dd h2]
theorem jH(t:Nat->HO)(h:d'≠d)(v v' : HO):A3 (A3 t d v) d' v'=A3 (A3 t d' v') d v:=by
 funext i
 unfold A3
 by_cases h1:i=d<;>by_cases h2:i=d'
 .exact absurd (h2.symm.trans h1) h
 .subst h1;simp[Dd h2]
 .subst h2;simp[Dd h1]
 .simp[Dd h1,Dd h2]
theorem QJ(h:n∈l):JO l n=true:=by
 induction l with
 |nil=>cases h
 |cons a l ih=>
  unfold JO
  by_cases e:a=n
  .subst e;simp
  .rw[Dd e];exact ih ((Ay.1 h).resolve_left (fun q=>e q.symm))
theorem bQ(h:JO l n=true):n∈l:=by
 induction l with
 |nil=>cases h
 |cons a l ih=>
  unfold JO at h
  by_cases e:a=n
  .exact e▸Ab ..
  .rw[Dd e]at h;exact Ah _ (ih h)
theorem cj{x:Nat}(h:cg l x=true):∀r,Ub (some x) r->r∉l:=by
 intro r hc hr;unfold cg at h
 by_cases hx:x=YC
 .subst hx;rw[Ds,La]at h;cases l with
  |nil=>cases hr
  |cons a l=>cases h
 rw[Dd hx,Es]at h;simp only[Af,CQ,CK,CB]at h;rcases hc with rfl|⟨h1,h2⟩|hc
 .rw[QJ hr]at h;cases h.1
 .rcases h.2 with h3|h3
  .omega
  .rcases h2 with rfl|rfl
   .rw[QJ hr]at h3;cases h3.1
   .rw[QJ hr]at h3;cases h3.2
 .exact hx hc
theorem jq{a b:FV}(h:UI a b=true):(∀r,Ub a.2 r->r∉b.1)/\∀r,Ub b.2 r->r∉a.1:=by
 obtain⟨a1,a2⟩:=a;obtain⟨b1,b2⟩:=b;simp only[UI,Af]at h;refine⟨fun r e=>?_,fun r e=>?_⟩
 .cases a2 with
  |none=>exact e.elim
  |some x=>exact cj h.1 r e
 .cases b2 with
  |none=>exact e.elim
  |some x=>exact cj h.2 r e
section
variable {cx:Cx}{ops:Array Oper}{FT:Nat->FV}
theorem S7{oi oj:Oper}(h:∀d,oi.dst=some d->d∉oj.looksAt ops)(st:St)(v:AV)(e:List (Nat×HO)):LL ops oj st (st.after oi v e):=by
 intro d hd;cases hdst:oi.dst with
 |none=>simp[St.after,St.put,hdst]
 |some d'=>
  have:d≠d':=fun q=>h d' hdst (q▸hd)
  simp[St.after,St.put,hdst,H5,Dd this]
theorem LL.symm{o:Oper}{st st2:St}(h:LL ops o st st2):LL ops o st2 st:=fun d hd=>(h d hd).symm
theorem gx{o:Oper}{v:AV}{e:List (Nat×HO)}:(st.after o v e).h=I5 st.h e:=by
 unfold St.after St.put;cases o.dst<;>rfl
theorem RD{r:Nat}:∀{e:List (Nat×HO)} {h:Nat->HO},(∀o',(r,o')∉e)->I5 h e r=h r
 | [],_,_=>rfl
 |p::e,h,hr=>by
  have:r≠p.1:=fun q=>hr p.2 (by rw[q];exact Ab ..)
  show I5 (A3 h p.1 p.2) e r=h r;rw[RD fun o' ho=>hr o' (Ah _ ho),Cg _ _ _ _ this]
theorem aK{r:Nat}{o:HO}:∀{e:List (Nat×HO)} {h:Nat->HO},(∀r' o',(r',o')∈e->r'≠r)->I5 (A3 h r o) e=A3 (I5 h e) r o
 | [],_,_=>rfl
 |p::e,h,hr=>by
  show I5 (A3 (A3 h r o) p.1 p.2) e=A3 (I5 (A3 h p.1 p.2) e) r o;rw[jH h (hr p.1 p.2 (Ab ..)),aK fun r' o' ho=>hr r' o' (Ah _ ho)]
theorem XC:∀{e e' : List (Nat×HO)} {h:Nat->HO},(∀r o r' o',(r,o)∈e->(r',o')∈e'->r'≠r)->I5 (I5 h e) e'=I5 (I5 h e') e
 | [],_,_,_=>rfl
 |p::e,e',h,hd=>by
  show I5 (I5 (A3 h p.1 p.2) e) e'=I5 (A3 (I5 h e') p.1 p.2) e;rw[<-aK fun r' o' ho=>hd p.1 p.2 r' o' (Ab ..) ho,XC fun r o r' o' h1 h2=>hd r o r' o' (Ah _ h1) h2]
theorem dk{oi oj:Oper}{v v' : AV}{e e' : List (Nat×HO)}(h1:∀d,oi.dst=some d->oj.dst≠some d)(h2:∀r o r' o',(r,o)∈e->(r',o')∈e'->r'≠r) :
  (st.after oi v e).after oj v' e'=(st.after oj v' e').after oi v e:=by
 have hh:I5 (I5 st.h e) e'=I5 (I5 st.h e') e:=XC h2;have key:∀o:Oper,∀v e,∀st:St,st.after o v e=⟨match o.dst with|none=>st.t|some d=>H5 st.t d v,I5 st.h e⟩:=fun o v e st=>by
  unfold St.after St.put;cases o.dst<;>rfl
 rw[key,key,key,key];simp only[hh];cases hi:oi.dst with
 |none=>rfl
 |some d=>
  cases hj:oj.dst with
  |none=>rfl
  |some d'=>
   have DJ:d'≠d:=fun q=>h1 d hi (by rw[hj,q]);simp only[lc st.t DJ v v']
theorem dh{i:Nat}{oi:Oper}{v:AV}{e:List (Nat×HO)}(hi:ops[i]?=some oi)(D:Nat->Prop)(hD:∀j,D j->∃oj,ops[j]?=some oj/\∃ed∈oj.after,Region.binds .any ed=true/\(ed.on=i\/D ed.on)) :
  ∀(fuel:Nat) (listed:Array Bool) (st:St),
   (∀j oj,ops[j]?=some oj->j≠i->listed.getD j true=false->¬D j->oi.apart ops oj=true/\UI (FT i) (FT j)=true) ->
   i∈Region.ready .any ops listed->(∀j,D j->listed.getD j true=false)->OB cx ops.toList oi st=some (FT i)->Ru cx ops oi st (FT i) v e ->
   ah cx ops FT K fuel (listed.setIfInBounds i true) (st.after oi v e)->ah cx ops FT K (fuel+1) listed st:=by
 have here:∀(fuel:Nat) (listed:Array Bool) (st:St),OB cx ops.toList oi st=some (FT i)->Ru cx ops oi st (FT i) v e ->
   ah cx ops FT K fuel (listed.setIfInBounds i true) (st.after oi v e)->xT cx ops FT i (ah cx ops FT K fuel (listed.setIfInBounds i true)) st:=by
  intro fuel listed st hf hy H;unfold xT;rw[hi];exact⟨hf,hy.2 st (fun _ _=>rfl) (fun _ _=>rfl) _ H⟩
 intro fuel
 induction fuel with
 |zero=>
  intro listed st _ hr _ hf hy H;refine⟨fun h=>(by rw[h]at hr;cases hr),fun j hj=>?_⟩
  by_cases I6:j=i
  .subst I6;exact here 0 listed st hf hy H
  .have:=ready_mono hj I6
   rw[H.1]at this;cases this
 |succ fuel ih=>
  intro listed st Ag hr hDl hf hy H;refine⟨fun h=>(by rw[h]at hr;cases hr),fun j hj=>?_⟩
  by_cases I6:j=i
  .subst I6;exact here (fuel+1) listed st hf hy H
  .have h1:=H.2 j (ready_mono hj I6);obtain⟨zi,oj,q9,GJ⟩:=mem_ready.1 hj;have yD:∀k,listed.getD k true=false->listed.getD k false=true->False:=fun k h0 h1=>by
    rcases CR k listed.size with h' | h'
    .simp[h']at h0 h1;rw[h0]at h1;cases h1
    .simp[Array.getElem?_eq_none h']at h1
   have hnD:¬D j:=fun hdj=>by
    obtain⟨oj',ti,ed,he,hb,hon⟩:=hD j hdj;rw[q9]at ti;cases ti;have hl:=GJ ed he hb;rcases hon with h2|h2
    .exact yD _ (by rw[h2];exact(mem_ready.1 hr).1) hl
    .exact yD _ (hDl _ h2) hl
   obtain⟨yU,hdj⟩:=Ag j oj q9 I6 zi hnD;obtain⟨a1,a2,a3⟩:=Oper.apart_spec yU;obtain⟨d1,d2⟩:=jq hdj;unfold xT at h1⊢;rw[q9]at h1⊢;obtain⟨hfj,hkj⟩:=h1;have hlj:=S7 (ops:=ops) a1 st v e;obtain⟨vj,ej,hyj,hK⟩:=PS hkj hfj;have he1:∀r o',(r,o')∈e->r∉(FT j).1:=fun r o' q=>d1 r (hy.1 r o' q).1;have p7:∀r o',(r,o')∈ej->r∉(FT i).1:=fun r o' q=>d2 r (hyj.1 r o' q).1;refine⟨by rw[<-UW hlj];exact hfj,hyj.2 st hlj.symm (fun r rc=>?_) _ ?_⟩
   .rw[gx,RD (fun o' q=>he1 r o' q rc)]
   .have hli:=S7 (ops:=ops) a3 st vj ej;refine ih (listed.setIfInBounds j true) (st.after oj vj ej) (fun k ok hk hki rf Ok=>?_) (ready_mono hr (Wz I6)) (fun k hk=>?_) (by rw[UW hli];exact hf) ⟨hy.1,fun st2 hl hh K' h'=>?_⟩ ?_
    .by_cases qZ:j=k
     .subst qZ;exact Ag _ ok hk hki zi Ok
     .rw[getD_set_ne true qZ]at rf;exact Ag k ok hk hki rf Ok
    .by_cases qZ:j=k
     .subst qZ;exact absurd hk hnD
     .rw[getD_set_ne true qZ];exact hDl k hk
    .refine hy.2 st2 (fun d hd=>(hl d hd).trans (hli d hd)) (fun r rc=>?_) K' h';rw[hh r rc,gx,RD (fun o' q=>p7 r o' q rc)]
    .rw[Array.setIfInBounds_comm _ _ (Wz I6)]at hK;rw[<-dk a2 (fun r o r' o' q q' e2=>p7 r' o' q' (by rw[e2];exact(hy.1 r o q).2))];exact hK
def t8(cx:Cx)(ops:Array Oper)(K:St->Prop):List Oper->List FV->St->Prop
 | [],[],st=>K st
 |o::r,f::fs,st=>OB cx ops.toList o st=some f/\∃v e,Ru cx ops o st f v e/\t8 cx ops K r fs (st.after o v e)
 |_,_,_=>False
theorem Ul{K:St->Prop}:∀(l:List Oper) (acc:List FV) (st:St),ap cx ops l acc st K->∃fs,UJ ops (acc.reverse++fs)=true/\t8 cx ops K l fs st
 | [],acc,st,h=>⟨[],by simpa using h.1,h.2⟩
 |o::r,acc,st,h=>by
  unfold ap at h;split at h
  .rename_i f hf;obtain⟨v,e,h1,h2⟩:=PS h hf;obtain⟨fs,q1,q2⟩:=Ul r _ _ h2;exact⟨f::fs,by simpa using q1,hf,v,e,h1,q2⟩
  .exact h.elim
theorem Za{o:Oper}{i:Nat}{D:List Nat}(h:QA o i D=true):∃ed∈o.after,Region.binds .any ed=true/\(ed.on=i\/ed.on∈D):=by
 unfold QA at h;obtain⟨ed,h1,h2⟩:=Ba.1 h;simp only[Af,CQ]at h2;exact⟨ed,by simpa using h1,h2.1,h2.2.imp AL bQ⟩
theorem Wf{i:Nat}{D:List Nat}:∀(l:List Oper) (k:Nat),We i D k l=true->∀j o,l[j]?=some o->k+j∈D->QA o i D=true
 | [],_,_,_,_,h,_=>by simp at h
 |o::l,k,hs,j,o',h,hm=>by
  simp only[We,Af]at hs;cases j with
  |zero=>
   simp only[Bd,BB]at h;subst h;have h1:=hs.1;rw[QJ (by simpa using hm)]at h1;simpa using h1
  |succ j=>exact Wf l (k+1) hs.2 j o' (by simpa using h) (by rw[Hc,Nat.add_comm 1 j];exact hm)
theorem Xk{oi:Oper}{fi:FV}{D:List Nat}:∀(l:List Oper) (fs:List FV) (k:Nat),Jr ops oi fi D k l fs=true->l.length=fs.length/\∀j o f,l[j]?=some o->fs[j]?=some f->k+j∉D->oi.apart ops o=true/\UI fi f=true
 | [],[],_,_=>⟨rfl,fun _ _ _ h=>by simp at h⟩
 | [],_::_,_,h=>by simp[Jr]at h
 |_::_,[],_,h=>by simp[Jr]at h
 |o::l,f::fs,k,h=>by
  simp only[Jr,Af,CQ]at h;obtain⟨h1,h2⟩:=Xk l fs (k+1) h.2;refine⟨by simp[h1],fun j o' f' q1 q2 hn=>?_⟩;cases j with
  |zero=>
   simp only[Bd,BB]at q1 q2;subst q1;subst q2;rcases h.1 with h3|h3
   .exact absurd (bQ h3) hn
   .exact h3
  |succ j=>exact h2 j o' f' (by simpa using q1) (by simpa using q2) (by simpa[Nat.add_assoc,Nat.add_comm 1 j]using hn)
theorem ai{K:St->Prop}:∀(l:List Oper) (fs:List FV) (k:Nat) (listed:Array Bool) (st:St),(∀j,l[j]?=ops[k+j]?)->(∀j f,fs[j]?=some f->FT (k+j)=f)->listed.size=ops.size ->
  (∀j,j<ops.size->listed.getD j true=decide (j<k))->Np ops ops.toList k l fs=true->t8 cx ops K l fs st->ah cx ops FT K l.length listed st
 | [],[],k,listed,st,hl,_,hs,hL,_,h=>by
  refine⟨?_,h⟩;apply M3.2;intro j hj;obtain⟨h1,o,ho,_⟩:=mem_ready.1 hj;have DF:=(Bv.1 ho).1;rw[hL j DF]at h1;have xE:k<=j:=by simpa using h1
  have:=hl (j-k)
  rw[show k+(j-k)=j by omega,ho]at this;simp at this
 | [],_::_,_,_,_,_,_,_,_,h,_=>by simp[Np]at h
 |_::_,[],_,_,_,_,_,_,_,h,_=>by simp[Np]at h
 |o::l,f::fs,k,listed,st,hl,hF,hs,hL,hg,h=>by
  simp only[Np,Af]at hg;obtain⟨⟨⟨⟨g1,g2⟩,g3⟩,g4⟩,g5⟩:=hg;obtain⟨hf,v,e,hy,hp⟩:=h;have h0:ops[k]?=some o:=by simpa using(hl 0).symm
  have hk:=(Bv.1 h0).1;have hFk:FT k=f:=by simpa using hF 0 f rfl
  have RJ : ∀j,l[j]?=ops[k+1+j]?:=fun j=>by have:=hl (j+1);simpa[Nat.add_assoc,Nat.add_comm 1 j]using this
  have xy : ∀j f,fs[j]?=some f->FT (k+1+j)=f:=fun j f' hj=>by have:=hF (j+1) f' (by simpa using hj);simpa[Nat.add_assoc,Nat.add_comm 1 j]using this
  obtain⟨CH,yU⟩:=Xk l fs (k+1) g4;have gv:∀j,j∈RB k [] 0 ops.toList->k<j/\j<ops.size:=fun j hj=>by
   have:=(A1.1 g3) j hj
   simp only[Af,CB,B1]at this;exact this
  refine dh h0 (fun j=>j∈RB k [] 0 ops.toList) (fun j hj=>?_) l.length listed st (fun j oj q9 qZ rf hnD=>?_) ?_ (fun j hj=>?_) (by rw[hFk];exact hf) (by rw[hFk];exact hy) ?_
  .have DF:=(gv j hj).2
   have:=Wf ops.toList 0 g2 j ops[j] (by simp[DF]) (by simpa using hj)
   obtain⟨ed,e1,e2,e3⟩:=Za this;exact⟨ops[j],by simp[DF],ed,e1,e2,e3⟩
  .have DF:=(Bv.1 q9).1;rw[hL j DF]at rf;have xE:k<j:=by have q:k<=j:=(by simpa using rf);omega
   have e1:l[j-(k+1)]?=some oj:=by rw[RJ,show k+1+(j-(k+1))=j by omega];exact q9
   have hfl:j-(k+1)<fs.length:=by rw[<-CH];exact(Aw.1 e1).1
   have e2:fs[j-(k+1)]?=some fs[j-(k+1)]:=AD hfl;have e3:=xy _ _ e2;rw[show k+1+(j-(k+1))=j by omega]at e3;rw[hFk,e3];exact yU _ _ _ e1 e2 (by rw[show k+1+(j-(k+1))=j by omega];exact hnD)
  .refine mem_ready.2 ⟨by rw[hL k hk];simp,o,h0,fun ed he hb=>?_⟩
   have:=(A1.1 g1) ed (by simpa using he)
   simp only[hb,Bool.not_true,Na,CB]at this;have h1:=hL ed.on ch;have DF:ed.on<listed.size:=by omega
   simp[DF]at h1⊢;rw[h1];simpa using this
  .have:=gv j hj
   rw[hL j this.2];simp;omega
  .refine ai l fs (k+1) _ _ RJ xy (by simp[hs]) (fun j hj=>?_) g5 hp
   by_cases qZ:j=k
   .subst qZ
    have:j<listed.size:=by omega
    simp[this]
   .rw[getD_set_ne true (Wz qZ),hL j hj]
    by_cases h1:j<k
    .simp[h1];omega
    .simp[h1];omega
theorem iQ(h:ap cx ops ops.toList [] st K):Region.noSelect ops=true/\∃FT,ah cx ops FT K ops.size (Array.replicate ops.size false) st:=by
 obtain⟨fs,h1,h2⟩:=Ul _ _ _ h;simp only[UJ,List.reverse_nil,FY,Af]at h1;refine⟨h1.1,fun j=>fs.getD j default,?_⟩
 have:=ai (FT:=fun j=>fs.getD j default) ops.toList fs 0 (Array.replicate ops.size false) st B0 (fun j f hj=>by simp[hj]) B0 (fun j hj=>by simp[hj]) h1.2 h2
 simpa using this
end
theorem Zk:∀{σ:J6},Hv σ=true->∀i j,CI σ i=some j↔IQ σ j=some i
 | [],_,i,j=>by simp[CI,IQ]
 |(a,b)::r,h,i,j=>by
  simp only[Hv,Af]at h;obtain⟨h1,h2⟩:=h;have ih:=Zk h2;have dW:CI r a=none/\IQ r b=none:=by
   split at h1
   .rename_i e1 e2;exact⟨e1,e2⟩
   .cases h1
  unfold CI IQ
  by_cases e1:a=i<;>by_cases e2:b=j
  .subst e1;subst e2;simp
  .subst e1;simp only[Ds,La,Dd e2,Es];constructor
   .intro h;cases h;exact absurd rfl e2
   .intro h;rw[(ih a j).2 h]at dW;cases dW.1
  .subst e2;simp only[Ds,La,Dd e1,Es];constructor
   .intro h;rw[(ih i b).1 h]at dW;cases dW.2
   .intro h;cases h;exact absurd rfl e1
  .simp only[Dd e1,Dd e2,Es];exact ih i j
theorem ov:∀{σ:J6},EK σ=true->Hv σ=true
 | [],_=>rfl
 |(a,b)::r,h=>by
  simp only[EK,Af]at h;simp only[Hv,Af];exact⟨h.1.1.1,ov h.2⟩
theorem ZC(h:EK σ=true):∀i j,CI σ i=some j↔IQ σ j=some i:=Zk (ov h)
theorem X6:∀{σ:J6},EK σ=true->∀{i j},CI σ i=some j->1000<=j/\j<2000
 | [],_,i,j,h=>by simp[CI]at h
 |(a,b)::r,h,i,j,hf=>by
  simp only[EK,Af,Dw,CB]at h;unfold CI at hf
  by_cases e1:a=i
  .subst e1;simp only[Ds,La]at hf;cases hf;exact⟨h.1.1.2,h.1.2⟩
  .simp only[Dd e1,Es]at hf;exact X6 h.2 hf
theorem QZ(f:Nat->Option Nat)(h:Nat->HO):∀(σ:J6) (j:Nat),As (ZB f h σ) Ag j=match IQ σ j with|some i=>(h i).ren f h|none=>.free
 | [],j=>rfl
 |(a,b)::r,j=>by
  unfold ZB As IQ
  by_cases e:b=j
  .subst e;simp
  .simp only[Dd e,Dd (Wz e),Es];exact QZ f h r j
structure LN(f:Nat->Option Nat)(h h2:Nat->HO)(g g2:Gh)(w:World):Prop where
 ids:∀r r',f r=some r'->AR h r->g2.tk r'=g.tk r/\g2.ln r'=g.ln r/\g2.ρ r'=g.ρ r/\g2.own r'=g.own r/\AR h2 r'
 S:∀b o,g2.S b o↔g.S b o
 objs:∀r,Ez g w (AR h) r (h r)
section
variable {f:Nat->Option Nat}{h h2:Nat->HO}{g g2:Gh}{w:World}
theorem LN.keeps(hR:LN f h h2 g g2 w):EO g w g2 w:=fun b o hs=>⟨(hR.S b o).2 hs,rfl,fun _ _ e=>e⟩
theorem LN.noU(hR:LN f h h2 g g2 w){av:AV}{x:Value}(r:BU g w FB av x):BU g2 w (AR h2) av x:=r.mono hR.keeps (fun _ h=>h.elim) (fun _ h=>h.elim)
theorem BU.ren0(hR:LN f h h2 g g2 w){av:AV}{x:Value}(r:BU g w (AR h) av x):BU g2 w (AR h2) (ren0 f h av) x:=by
 have down:BU g2 w (AR h2) (Eng.str0 h av) x:=hR.noU (BU.str0 hR.objs r);cases av with
 |v y=>exact down
 |slice tk es=>
  cases tk with
  |none=>exact down
  |full sz=>exact down
  |id i sz=>
   simp only[Eng.ren0];split
   .rename_i i' e;cases r with
    |tok _ _ _ _ _ hs hl hu ht hn hx=>
     obtain⟨k1,k2,k3,k4,k5⟩:=hR.ids i i' e hu;exact .tok _ i' sz es x (hR.noU (BU.slice_none hs)) hl k5 (k1.trans ht) ch (fun q=>by rw[k3];exact hx ch)
   .exact hR.noU r.slice_none
  |ver i sz v=>
   simp only[Eng.ren0];split
   .rename_i i' e;cases r with
    |ver _ _ _ _ _ _ hs hl hu ht hn hx=>
     obtain⟨k1,k2,k3,k4,k5⟩:=hR.ids i i' e hu;exact .ver _ i' sz v es x (hR.noU (BU.slice_none hs)) hl k5 (k1.trans ht) ch (fun q=>by rw[k3];exact hx ch)
   .exact hR.noU r.slice_none
 |msl i n=>
  simp only[Eng.ren0];split
  .rename_i i' e;cases r with
   |msl _ _ _ a cap hu ht hn ha hx=>
    obtain⟨k1,k2,k3,k4,k5⟩:=hR.ids i i' e hu;exact .msl _ i' n a cap k5 (k1.trans ht) ch ha (fun q=>by rw[k3];exact hx ch)
  .exact .junk _ _
 |agg cs=>exact down
 |tup cs=>exact down
 |cptr cs=>exact down
 |ref i off=>
  simp only[Eng.ren0];split
  .rename_i i' e;cases r with
   |ref _ _ _ b hu ht hx=>
    obtain⟨k1,k2,k3,k4,k5⟩:=hR.ids i i' e hu;exact .ref _ i' off b k5 (k1.trans ht) (k3.trans hx)
  .exact down
 |eref i n sz k off=>
  simp only[Eng.ren0];split
  .rename_i i' e;cases r with
   |eref _ _ _ _ _ _ b cap hu ht hn hx=>
    obtain⟨k1,k2,k3,k4,k5⟩:=hR.ids i i' e hu;exact .eref _ i' n sz k off b cap k5 (k1.trans ht) ⟨hn.1,by omega⟩ (fun q=>by rw[k3];exact hx ch)
  .exact .junk _ _
 |mref i=>
  simp only[Eng.ren0];split
  .rename_i i' e;cases r with
   |mref _ _ b hu ht hx=>
    obtain⟨k1,k2,k3,k4,k5⟩:=hR.ids i i' e hu;exact .mref _ i' b k5 (k1.trans ht) (k3.trans hx)
  .exact down
 |cmap sh Ch=>exact down
 |clo i cs=>exact down
 |junk=>exact down
theorem BU.ren1(hR:LN f h h2 g g2 w){av:AV}{x:Value}(r:BU g w (AR h) av x):BU g2 w (AR h2) (ren1 f h av) x:=by
 cases av with
 |agg cs=>
  cases r with
  |agg _ _ vs hs h1 hr=>
   exact .agg _ _ vs (by simp[hs]) h1 fun i av x q1 q2=>by
    rw[AG]at q1;obtain⟨a,q3,rfl⟩:=AX.1 q1;exact(hr i a x q3 q2).ren0 hR
 |clo i cs=>
  cases r with
  |clo _ _ _ vs hs hr=>
   exact .clo _ _ _ vs (by simp[hs]) fun i av x q1 q2=>by
    rw[AG]at q1;obtain⟨a,q3,rfl⟩:=AX.1 q1;exact(hr i a x q3 q2).ren0 hR
 |_=>exact r.ren0 hR
theorem BU.ren(hR:LN f h h2 g g2 w){av:AV}{x:Value}(r:BU g w (AR h) av x):BU g2 w (AR h2) (ren f h av) x:=by
 cases av with
 |tup cs=>
  cases r with
  |tup _ _ vs hs hr=>
   exact .tup _ _ vs (by simp[hs]) fun i av x q1 q2=>by
    rw[AG]at q1;obtain⟨a,q3,rfl⟩:=AX.1 q1;exact(hr i a x q3 q2).ren1 hR
 |_=>exact r.ren1 hR
theorem NL(f:Nat->Option Nat)(h:Nat->HO)(o:HO):(o.ren f h).live↔o.live:=by cases o<;>exact Sx
theorem NM(f:Nat->Option Nat)(h:Nat->HO)(o:HO):o.ren f h≠.free↔o≠.free:=by cases o<;>simp[HO.ren]
theorem Ez.ren(hR:LN f h h2 g g2 w){i j:Nat}(QC:f i=some j)(hu:AR h i){o:HO}(r:Ez g w (AR h) i o):Ez g2 w (AR h2) j (o.ren f h):=by
 obtain⟨k1,k2,k3,k4,k5⟩:=hR.ids i j QC hu;have noL:∀{cs:List AV} {vs:List Value},CW g w FB cs vs->CW g2 w FB cs vs:=fun hr=>hr.mono hR.keeps (fun _ h=>h) (fun _ h=>h.elim);have no1:∀{av:AV} {x:Value},BU g w FB av x->BU g2 w FB av x:=fun hr=>hr.mono hR.keeps (fun _ h=>h) (fun _ h=>h.elim);cases o with
 |free=>trivial
 |dead=>trivial
 |cells cs=>
  obtain⟨t,b,E,vs,a1,a2,a3,a4,a5⟩:=r;refine⟨k1.trans t,b,E,vs,k4.trans a1,k3.trans a2,a3,⟨by simp[a4.1],a4.2.1,fun i av x q1 q2=>?_⟩,fun o ho=>a5 o ((hR.S b o).1 ho)⟩;rw[AG]at q1;obtain⟨a,q3,rfl⟩:=AX.1 q1;exact(a4.2.2 i a x q3 q2).ren1 hR
 |ro cs=>
  obtain⟨t,b,a1,a2⟩:=r;exact⟨k1.trans t,b,k3.trans a1,no1 a2⟩
 |tok sz n=>
  obtain⟨t,l,a,cap,a1,a2⟩:=r;refine⟨k1.trans t,k2.trans l,a,cap,k3.trans a1,?_⟩;rcases a2 with ⟨b1,b2⟩|⟨b1,b,E,vs,off,b2,b3,b4,b5,b6⟩
  .exact .inl ⟨b1,k4.trans b2⟩
  .exact .inr ⟨b1,b,E,vs,off,b2,k4.trans b3,b4,b5,fun o ho=>b6 o ((hR.S b o).1 ho)⟩
 |var sz v n=>
  obtain⟨t,l,a,cap,a1,a2⟩:=r;refine⟨k1.trans t,k2.trans l,a,cap,k3.trans a1,?_⟩;rcases a2 with ⟨b1,b2⟩|⟨b1,b,E,vs,off,b2,b3,b4,b5,b6⟩
  .exact .inl ⟨b1,k4.trans b2⟩
  .exact .inr ⟨b1,b,E,vs,off,b2,k4.trans b3,b4,b5,fun o ho=>b6 o ((hR.S b o).1 ho)⟩
 |vox v=>exact⟨k1.trans r.1,k2.trans r.2⟩
 |hol sz es i c av=>
  obtain⟨t,l,al,b,cap,E,vs,b1,b2,b3,b4,b5,b6,b7,b8,x,b9,Xo⟩:=r;exact⟨k1.trans t,k2.trans l,al,b,cap,E,vs,k3.trans b1,k4.trans b2,b3,b4,b5,noL b6,fun o ho=>b7 o ((hR.S b o).1 ho),b8,x,b9,Xo.ren1 hR⟩
 |raw b ob=>
  obtain⟨t,a1,a2,a3,a4⟩:=r;exact⟨k1.trans t,k4.trans a1,a2,a3,fun o ho=>a4 o ((hR.S b o).1 ho)⟩
 |arr sz es=>
  obtain⟨t,l,al,a2⟩:=r;refine⟨k1.trans t,k2.trans l,al,?_⟩;rcases a2 with ⟨b1,b2,b3⟩|⟨b,cap,E,vs,b1,b2,b3,b4,b5,b6,b7⟩
  .exact .inl ⟨b1,k3.trans b2,k4.trans b3⟩
  .exact .inr ⟨b,cap,E,vs,k3.trans b1,k4.trans b2,b3,b4,b5,noL b6,fun o ho=>b7 o ((hR.S b o).1 ho)⟩
 |map sh Ch=>
  obtain⟨t,b,es,ck,a1,a2,a3,a4,a5,a6⟩:=r;exact⟨k1.trans t,b,es,ck,k4.trans a1,k3.trans a2,a3,a4,fun i kv e q1 q2=>no1 (a5 i kv e q1 q2),fun o ho=>a6 o ((hR.S b o).1 ho)⟩
 |mapU sh Ch=>
  obtain⟨t,b,es,ck,a1,a2,a3,a4,a5,a6⟩:=r;refine⟨k1.trans t,b,es,ck,k4.trans a1,k3.trans a2,a3,XU _ a4,fun i kv e q1 q2=>?_,fun o ho=>a6 o ((hR.S b o).1 ho)⟩;rw[AG]at q1;obtain⟨p,q3,rfl⟩:=AX.1 q1;exact(a5 i p e q3 q2).ren1 hR
 |rom sh Ch=>
  obtain⟨t,b,a1,a2⟩:=r;exact⟨k1.trans t,b,k3.trans a1,no1 a2⟩
 |iter all rem EJ=>
  obtain⟨t,b,mb,Ln,seen,st,es,ck,a1,a2,a3,a4,a5,a6,a7,a8,a9,af,fP,a12,ud⟩:=r;exact⟨k1.trans t,b,mb,Ln,seen,st,es,ck,k4.trans a1,k3.trans a2,a3,(hR.S _ _).2 a4,a5,a6,a7,a8,fun i kv e q1 q2=>no1 (a9 i kv e q1 q2),af,fP,a12,fun o ho=>ud o ((hR.S b o).1 ho)⟩
end
theorem QN{h:Nat->HO}{d:Nat}:∀{n:Nat},D0 h d n=true->∀k,k<n->h (BG d k)=.free
 |0,_,k,hk=>by omega
 |n+1,hf,k,hk=>by
  simp only[D0,Af]at hf
  by_cases e:k=n
  .subst e
   have:=hf.1
   split at this
   .rename_i e2;exact e2
   .cases this
  .exact QN hf.2 k ch
theorem OK{d nn:Nat}:∀{σ:J6},DK σ d nn=true->∀{i j},CI σ i=some j->¬(BG d 0<=i/\i<BG d nn)
 | [],_,i,j,h=>by simp[CI]at h
 |(a,b)::r,hs,i,j,hf=>by
  simp only[DK,Af]at hs;unfold CI at hf
  by_cases e1:a=i
  .subst e1;have h1:=hs.1;simp only[CK,MO]at h1;intro hc;rcases h1 with h1|h1
   .rw[Nat.ble_eq_true_of_le hc.1]at h1;cases h1
   .have h2:Nat.blt a (BG d nn)=true:=by rw[CB];exact hc.2
    rw[h2]at h1;cases h1
  .simp only[Dd e1,Es]at hf;exact OK hs.2 hf
section
variable {P:Program}{w0:World}{g0:Gh}{h0 h:Nat->HO}{g:Gh}{w:World}
def DU(σ:J6)(g:Gh):Gh:=
 ⟨fun j=>match IQ σ j with|some i=>g.ρ i|none=>.nilIface,fun j=>match IQ σ j with|some i=>g.ln i|none=>0,fun j=>match IQ σ j with|some i=>g.tk i|none=>false,
  fun j=>match IQ σ j with|some i=>g.own i|none=>none,g.S⟩
def src(σ:J6)(d nn:Nat)(i:Nat):Option Nat:=
 match CI σ i with
 |some j=>some j
 |none=>match Nat.ble (BG d 0) i&&Nat.blt i (BG d nn)with |true=>some (2000+(i-BG d 0)) |false=>none
def Hs(σ:J6)(d nn:Nat)(g g' : Gh):Gh:=
 ⟨fun i=>match src σ d nn i with|some j=>g'.ρ j|none=>g.ρ i,fun i=>match src σ d nn i with|some j=>g'.ln j|none=>g.ln i,fun i=>match src σ d nn i with|some j=>g'.tk j|none=>g.tk i,
  fun i=>match src σ d nn i with|some j=>g'.own j|none=>g.own i,g'.S⟩
theorem ja(σ:J6)(d nn:Nat)(h h' : Nat->HO)(i:Nat):Eu σ d nn h h' i=match src σ d nn i with|some j=>(h' j).ren (FA σ d nn) h' | none=>h i:=by
 unfold Eu src;cases CI σ i with
 |some j=>rfl
 |none=>
  dsimp only;cases Nat.ble (BG d 0) i&&Nat.blt i (BG d nn)<;>rfl
theorem pd{d nn:Nat}(hσ:EK σ=true)(ha:DK σ d nn=true)(i j:Nat):src σ d nn i=some j↔FA σ d nn j=some i:=by
 have inv:=ZC hσ;unfold src FA;cases h1:CI σ i with
 |some j'=>
  have hb:=(inv i j').1 h1;dsimp only;constructor
  .intro h;cases h;rw[hb]
  .intro h;cases h2:IQ σ j with
   |some i'=>rw[h2]at h;cases h;rw[(inv i j).2 h2]at h1;exact h1.symm
   |none=>
    rw[h2]at h;dsimp only at h;split at h
    .rename_i hc;have h:=Cj h;subst h;simp only[Af,Dw,CB]at hc;exact absurd ⟨by unfold BG;omega,by unfold BG;omega⟩ (OK ha h1)
    .cases h
 |none=>
  dsimp only;cases h2:IQ σ j with
  |some i'=>
   dsimp only;have hf:=(inv i' j).2 h2;have hr:=X6 hσ hf;constructor
   .intro h;split at h
    .cases h;omega
    .cases h
   .intro h;cases h;rw[hf]at h1;cases h1
  |none=>
   dsimp only;constructor
   .intro h;split at h
    .rename_i hc;cases h;simp only[Af,Dw,CB]at hc;have e1:(Nat.ble 2000 (2000+(i-BG d 0))&&Nat.blt (2000+(i-BG d 0)) (2000+nn))=true:=by
      simp only[Af,Dw,CB];unfold BG at hc⊢;omega
     rw[e1]
     have:BG d (2000+(i-BG d 0)-2000)=i:=by unfold BG at hc⊢;omega
     rw[this]
    .cases h
   .intro h;split at h
    .rename_i hc;have h:=Cj h;subst h;simp only[Af,Dw,CB]at hc;have e1:(Nat.ble (BG d 0) (BG d (j-2000))&&Nat.blt (BG d (j-2000)) (BG d nn))=true:=by
      simp only[Af,Dw,CB];unfold BG;omega
     rw[e1]
     have:2000+(BG d (j-2000)-BG d 0)=j:=by unfold BG;omega
     rw[this]
    .cases h
theorem Y9(hI:D3 w0 g0 h0 h g w)(hσ:EK σ=true):LN (CI σ) h (F1 σ h) g (DU σ g) w/\D3 w (DU σ g) (F1 σ h) (F1 σ h) (DU σ g) w:=by
 have inv:=ZC hσ;have FI:∀j,F1 σ h j=match IQ σ j with|some i=>(h i).ren (CI σ) h|none=>.free:=QZ _ _ σ
 have hR:LN (CI σ) h (F1 σ h) g (DU σ g) w:=by
  refine⟨fun r r' hr hu=>?_,fun b o=>Sx,hI.objs⟩;have hb:=(inv r r').1 hr;refine⟨by simp[DU,hb],by simp[DU,hb],by simp[DU,hb],by simp[DU,hb],?_⟩;unfold AR;rw[FI,hb];exact(NM _ _ _).2 hu
 have KC:∀j,(F1 σ h j).live->∃i,IQ σ j=some i/\(h i).live:=fun j hl=>by
  rw[FI]at hl;cases e:IQ σ j with
  |none=>rw[e]at hl;exact hl.elim
  |some i=>rw[e]at hl;exact⟨i,rfl,(NL _ _ _).1 hl⟩
 have Zf:∀j i,IQ σ j=some i->(DU σ g).own j=g.own i:=fun j i e=>by simp[DU,e]
 refine⟨hR,rfl,rfl,rfl,Am _,fun _ _ _=>rfl,hI.slt,fun j=>?_,fun j j' b hl RJ e e'=>?_,fun j b hl e=>?_,fun _ _ h=>.inl h,hI.glob⟩
 .rw[FI];cases e:IQ σ j with
  |none=>trivial
  |some i=>
   by_cases hu:AR h i
   .exact(hI.objs i).ren hR ((inv i j).2 e) hu
   .have:h i=.free:=BT.1 hu
    dsimp only;rw[this];trivial
 .obtain⟨i,e1,l1⟩:=KC j hl;obtain⟨i',e2,l2⟩:=KC j' RJ;rw[Zf j i e1]at e;rw[Zf j' i' e2]at e';obtain rfl:=hI.inj i i' b l1 l2 e e'
  have:=(inv i j).2 e1
  rw[(inv i j').2 e2]at this;cases this;rfl
 .obtain⟨i,e1,l1⟩:=KC j hl;have e0:=e;rw[Zf j i e1]at e;exact⟨(hI.loc i b l1 e).1,.inr ⟨j,hl,e0⟩⟩
theorem NW{C:(Ending->World->Prop)->Prop}(hm:∀{R R' : Ending->World->Prop},C R->(∀e w,R e w->R' e w)->C R')(hI:D3 w0 g0 h0 h g w){d nn:Nat}(G1:(EK σ&&D0 h d nn&&DK σ d nn)=true){Q:AV->(Nat->HO)->Prop}(hc:D3 w (DU σ g) (F1 σ h) (F1 σ h) (DU σ g) w->C (fun e w'=>∃v r h' g',e=Ending.returned v/\Q r h'/\BU g' w' (AR h') r v/\D3 w (DU σ g) (F1 σ h) h' g' w'/\Le (F1 σ h) (DU σ g) w h' g' w')){R:Ending->World->Prop}(gw:∀v r h' g2 w',Q r h'->D3 w0 g0 h0 (Eu σ d nn h h') g2 w'->Le h g w (Eu σ d nn h h') g2 w'->BU g2 w' (AR (Eu σ d nn h h')) (ren (FA σ d nn) h' r) v->R (.returned v) w'):C R:=by
 simp only[Af]at G1;obtain⟨⟨hσ,hnf⟩,yU⟩:=G1;obtain⟨hF,qU⟩:=Y9 hI hσ;have inv:=ZC hσ;have rd:=pd hσ yU;refine hm (hc qU) ?_
 rintro e w' ⟨v,r,h',g',rfl,q1,q2,q3,q4⟩
 have hb:=ja σ d nn h h';have m5:∀i j,src σ d nn i=some j->(Hs σ d nn g g').ρ i=g'.ρ j/\(Hs σ d nn g g').ln i=g'.ln j/\(Hs σ d nn g g').tk i=g'.tk j/\(Hs σ d nn g g').own i=g'.own j:=fun i j e=>by simp[Hs,e]
 have hg3:∀i,src σ d nn i=none->(Hs σ d nn g g').ρ i=g.ρ i/\(Hs σ d nn g g').ln i=g.ln i/\(Hs σ d nn g g').tk i=g.tk i/\(Hs σ d nn g g').own i=g.own i:=fun i e=>by simp[Hs,e]
 have hB:LN (FA σ d nn) h' (Eu σ d nn h h') g' (Hs σ d nn g g') w':=by
  refine⟨fun j i hj hu=>?_,fun b o=>Sx,q3.objs⟩;have e:=(rd i j).2 hj;obtain⟨k1,k2,k3,k4⟩:=m5 i j e;refine⟨k3,k2,k1,k4,?_⟩;unfold AR;rw[hb,e];exact(NM _ _ _).2 hu
 have tc:∀j,F1 σ h j=match IQ σ j with|some i=>(h i).ren (CI σ) h|none=>.free:=QZ _ _ σ
 have Adj:∀j i,CI σ i=some j->(h i).live->(F1 σ h j).live:=fun j i e hl=>by
  rw[tc,(inv i j).1 e];exact(NL _ _ _).2 hl
 have AfM:∀j i,CI σ i=some j->(DU σ g).own j=g.own i:=fun j i e=>by simp[DU,(inv i j).1 e]
 have TQ : ∀j,(F1 σ h j).live->∃i,CI σ i=some j/\(h i).live/\(DU σ g).own j=g.own i:=fun j hl=>by
  rw[tc]at hl;cases e:IQ σ j with
  |none=>rw[e]at hl;exact hl.elim
  |some i=>rw[e]at hl;exact⟨i,(inv i j).2 e,(NL _ _ _).1 hl,by simp[DU,e]⟩
 -- what the callee may not touch
 have lq:∀b,b<w.heap.size->(∀i,(h i).live->CI σ i≠none->g.own i≠some b)->w'.heap[b]?=w.heap[b]?:=fun b DF hn=>q3.frame b DF fun j hl e=>by
  obtain⟨i,e1,l1,o1⟩:=TQ j hl;exact hn i l1 (by rw[e1];simp) (by rw[<-o1];exact e)
 have hSs:∀b o,g'.S b o->b<w.heap.size->(∀i,(h i).live->CI σ i≠none->g.own i≠some b)->g.S b o:=fun b o hs DF hn=>by
  rcases q3.sg b o hs with h1|h1|⟨j,h1,h2⟩
  .exact h1
  .omega
  .obtain⟨i,e1,l1,o1⟩:=TQ j h1;exact absurd (by rw[<-o1];exact h2) (hn i l1 (by rw[e1];simp))
 have hk:EO g w (Hs σ d nn g g') w':=q4.keeps;have Ag:∀i,CI σ i=none->src σ d nn i≠none->h i=.free:=fun i e1 e2=>by
  unfold src at e2;rw[e1]at e2;dsimp only at e2;split at e2
  .rename_i hc;simp only[Af,Dw,CB]at hc
   have:=QN hnf (i-BG d 0) (by unfold BG at hc⊢;omega)
   rw[show BG d (i-BG d 0)=i by unfold BG at hc⊢;omega]at this;exact this
  .exact absurd rfl e2
 have jJ:∀i j,CI σ i=some j->src σ d nn i=some j:=fun i j e=>by unfold src;rw[e]
 have hgl:Lp g (Hs σ d nn g g') (AR h):=fun i hu=>by
  cases e:CI σ i with
  |some j=>
   obtain⟨k1,k2,k3,k4⟩:=m5 i j (jJ i j e);obtain⟨f1,f2,f3,f4,f5⟩:=hF.ids i j e hu;obtain⟨m1,m2,m3,m4⟩:=q4.gh j f5;exact⟨(k3.trans m1).trans f1,by omega,fun t=>(k1.trans (m3 (f1.trans t))).trans f3,fun l=>(k1.trans (m4 ch)).trans f3⟩
  |none=>
   have e2:src σ d nn i=none:=BT.1 fun e2=>hu (Ag i e e2);obtain⟨k1,k2,k3,k4⟩:=hg3 i e2;exact⟨k3,by omega,fun _=>k1,fun _=>k1⟩
 have LF:∀i,AR h i->AR (Eu σ d nn h h') i:=fun i hu=>by
  unfold AR;rw[hb];cases e:CI σ i with
  |some j=>
   rw[jJ i j e];exact(NM _ _ _).2 (q4.us j (hF.ids i j e hu).2.2.2.2)
  |none=>
   have e2:src σ d nn i=none:=BT.1 fun e2=>hu (Ag i e e2);rw[e2];exact hu
 have jG:∀i,(Eu σ d nn h h' i).live->(∃j,src σ d nn i=some j/\(h' j).live/\(Hs σ d nn g g').own i=g'.own j)\/(src σ d nn i=none/\(h i).live/\(Hs σ d nn g g').own i=g.own i/\CI σ i=none):=fun i hl=>by
  rw[hb]at hl;cases e:src σ d nn i with
  |some j=>rw[e]at hl;exact .inl ⟨j,rfl,(NL _ _ _).1 hl,(m5 i j e).2.2.2⟩
  |none=>
   rw[e]at hl;refine .inr ⟨rfl,hl,(hg3 i e).2.2.2,?_⟩;cases e2:CI σ i with
   |none=>rfl
   |some j=>rw[jJ i j e2]at e;cases e
 have yY:∀j b,(h' j).live->g'.own j=some b->b<w'.heap.size/\(w.heap.size<=b\/∃i,CI σ i≠none/\(h i).live/\g.own i=some b):=fun j b hl e=>by
  obtain⟨h1,h2⟩:=q3.loc j b hl e;refine⟨h1,h2.imp id ?_⟩
  rintro⟨j',l',e'⟩
  obtain⟨i,e1,l1,o1⟩:=TQ j' l';exact⟨i,by rw[e1];simp,l1,by rw[<-o1];exact e'⟩
 have rf:∀i b,(h i).live->g.own i=some b->CI σ i=none->∀i',(h i').live->CI σ i'≠none->g.own i'≠some b:=fun i b hl e hn i' RJ bw e'=>by
  obtain rfl:=hI.inj i i' b hl RJ e e';exact bw hn
 refine gw v r h' (Hs σ d nn g g') w' q1 ⟨q3.os.trans hI.os,q3.tape.trans hI.tape,q3.output.trans hI.output,AK hI.size q3.size,fun b DF hn=>?_,q3.slt,fun i=>?_,fun i i' b hl RJ e e'=>?_,fun i b hl e=>?_,fun b o hs=>?_,hI.glob.keep hk⟩ ⟨hgl,LF,hk⟩ (q2.ren hB)
 .refine(lq b (BC DF hI.size) fun i hl _ e=>?_).trans (hI.frame b DF hn);rcases(hI.loc i b hl e).2 with h1|⟨r',h1,h2⟩
  .omega
  .exact hn r' h1 h2
 .rw[hb];cases e:src σ d nn i with
  |some j=>
   by_cases hu:AR h' j
   .exact(q3.objs j).ren hB ((rd i j).1 e) hu
   .have:h' j=.free:=BT.1 hu
    dsimp only;rw[this];trivial
  |none=>
   obtain⟨k1,k2,k3,k4⟩:=hg3 i e;have e2:CI σ i=none:=by
    cases e2:CI σ i with
    |none=>rfl
    |some j=>rw[jJ i j e2]at e;cases e
   refine(hI.objs i).same hk LF hgl k1 k2 k3 k4 fun b hl ho=>?_;have DF:=(hI.loc i b hl ho).1;exact⟨lq b DF (rf i b hl ho e2),fun k hs=>hSs b k hs DF (rf i b hl ho e2)⟩
 .have mixed:∀i j i',(h' j).live->g'.own j=some b->(h i').live->g.own i'=some b->CI σ i'=none->i=i':=fun i j i' l1 o1 l2 o2 n2=>by
   rcases(yY j b l1 o1).2 with h1|⟨i3,n3,l3,o3⟩
   .have:=(hI.loc i' b l2 o2).1;omega
   .exact absurd o3 (rf i' b l2 o2 n2 i3 l3 n3)
  rcases jG i hl with ⟨j,s1,l1,o1⟩|⟨s1,l1,o1,n1⟩<;>rcases jG i' RJ with ⟨j',s2,l2,o2⟩|⟨s2,l2,o2,n2⟩
  .obtain rfl:=q3.inj j j' b l1 l2 (by rw[<-o1];exact e) (by rw[<-o2];exact e');have a1:=(rd i j).1 s1;rw[(rd i' j).1 s2]at a1;cases a1;rfl
  .exact mixed i j i' l1 (by rw[<-o1];exact e) l2 (by rw[<-o2];exact e') n2
  .exact(mixed i' j' i l2 (by rw[<-o2];exact e') l1 (by rw[<-o1];exact e) n1).symm
  .exact hI.inj i i' b l1 l2 (by rw[<-o1];exact e) (by rw[<-o2];exact e')
 .rcases jG i hl with ⟨j,s1,l1,o1⟩|⟨s1,l1,o1,n1⟩
  .obtain⟨h1,h2⟩:=yY j b l1 (by rw[<-o1];exact e);refine⟨h1,?_⟩;rcases h2 with h2|⟨i3,n3,l3,o3⟩
   .exact .inl (AK hI.size h2)
   .exact(hI.loc i3 b l3 o3).2
  .obtain⟨h1,h2⟩:=hI.loc i b l1 (by rw[<-o1];exact e);exact⟨BC h1 q3.size,h2⟩
 .rcases q3.sg b o hs with h1|h1|⟨j,h1,h2⟩
  .exact hI.sg b o h1
  .exact .inr (.inl (AK hI.size h1))
  .obtain⟨i,e1,l1,o1⟩:=TQ j h1;exact .inr (hI.loc i b l1 (by rw[<-o1];exact h2)).2
theorem l6(hI:D3 w0 g0 h0 h g w){d nn:Nat}(G1:(EK σ&&D0 h d nn&&DK σ d nn)=true){f:Nat}{args:List AV}{Q:AV->(Nat->HO)->Prop}(hc:A9 P f args (F1 σ h) Q){vals:Array Value}(hs:vals.size=args.length)(hv:∀(i:Nat) (av:AV) (x:Value),args[i]?=some av->vals[i]?=some x->BU (DU σ g) w (AR (F1 σ h)) av x){R:Ending->World->Prop}(gw:∀v r h' g2 w',Q r h'->D3 w0 g0 h0 (Eu σ d nn h h') g2 w'->Le h g w (Eu σ d nn h h') g2 w'->BU g2 w' (AR (Eu σ d nn h h')) (ren (FA σ d nn) h' r) v->R (.returned v) w'):Calls P f vals w R:=
 NW (C:=Calls P f vals w) (fun h k=>h.mono k) hI G1 (hc.2 (DU σ g) w vals hs hv) gw
end
end Go.Eng
