/- Lemmas 12. -/
import Derived.Test.YteaiieomnhbmgaaGreatDoorAA11
namespace Go.Eng
variable {K:St->Prop}{st:St}{l:List Nat}{o:Oper}{σ:JR}{d:Nat}{cx:Cx}{st2:St}{d' n:Nat}(ops:Array Oper)
theorem Xx(h:∀x∈o.op.operands,ev st2.t x=ev st.t x):FM cx o st2=FM cx o st:=by
 obtain⟨dst,op,ty,pos,after,gd⟩:=o;cases op with
 |call c=>
  obtain⟨ug,args,Hw⟩:=c;have ha:args.toList.map (ev st2.t)=args.toList.map (ev st.t):=Bi fun x hx=>h x (by simp only[Op.operands,Call.operands,T1];exact .inr (by simpa using hx));simp only[FM];rw[ha];cases ug with
  |value f=>
   have hf:ev st2.t f=ev st.t f:=h f (by simp[Op.operands,Call.operands]);simp only[HG,hf]
  |builtin b=>
   generalize args.toList.map (ev st.t)=l
   match l with
   | []=>cases b<;>rfl
   | [x]=>cases b<;>cases x<;>rfl
   | [x,y]=>cases b<;>cases x<;>rfl
   |x::_::_::_=>cases b<;>cases x<;>rfl
  |invoke r m=>rfl
 |box e x=>simp only[FM,h x (by simp[Op.operands])]
 |buildSlice t n ps=>
  have hx:ps.toList.map (fun p=>ev st2.t p.2)=ps.toList.map (fun p=>ev st.t p.2):=Bi fun p hp=>h p.2 (by
   simp only[Op.operands,List.mem_toArray];exact Ai.2 ⟨p,hp,rfl⟩)
  simp only[FM,hx]
 |store t p x=>simp only[FM,h p (by simp[Op.operands]),h x (by simp[Op.operands])]
 |mapUpdate t m k x=>simp only[FM,h m (by simp[Op.operands]),h x (by simp[Op.operands])]
 |makeFunc fn first cap=>
  have hx:cap.toList.map (ev st2.t)=cap.toList.map (ev st.t):=Bi fun x hx=>h x (by simp only[Op.operands,T1];exact .inr (by simpa using hx));simp only[FM,hx]
 |load t p=>simp only[FM,h p (by simp[Op.operands])]
 |assign x=>simp only[FM,h x (by simp[Op.operands])]
 |binOp op t x y u=>simp only[FM,h x (by simp[Op.operands])]
 |slice t x lo hi mx=>simp only[FM,h x (by simp[Op.operands])]
 |lookup t x i ok=>simp only[FM,h x (by simp[Op.operands])]
 |_=>rfl
def Ly(o:Oper)(st st2:St):Prop:=∀d∈o.looksAt ops,st2.t d=st.t d
theorem Ly.operands{ops:Array Oper}{o:Oper}{st st2:St}(h:Ly ops o st st2):∀x∈o.op.operands,ev st2.t x=ev st.t x:=fun x hx=>by
 cases x with
 |tmp t=>exact h t (BE _ (List.mem_filterMap.2 ⟨.tmp t,by simpa using hx,rfl⟩))
 |_=>rfl
theorem XO(j:Nat):Lk ops.toList j=(ops[j]?).bind (·.dst):=by
 have:∀(l:List Oper) (j:Nat),Lk l j=(l[j]?).bind (·.dst):=by
  intro l
  induction l with
  |nil=>intro j;simp[Lk]
  |cons o l ih=>
   intro j;cases j with
   |zero=>simp[Lk]
   |succ j=>simp[Lk,ih]
 rw[this];simp
theorem Ly.guard{ops:Array Oper}(h:Ly ops o st st2){j:Nat}{b:Bool}(hg:o.guard=some (j,b))(hd:Lk ops.toList j=some d):st2.t d=st.t d:=
 h d (Bx _ (by rw[hg];simp only;rw[<-XO,hd];simp))
def St.after(st:St)(o:Oper)(v:AV)(e:List (Nat×HO)):St:=st.put o.dst v (IW st.h e)
def Rm(cx:Cx)(ops:Array Oper)(o:Oper)(st:St)(f:FZ)(v:AV)(e:List (Nat×HO)):Prop:=
 (∀r o',(r,o')∈e->T4 f.2 r/\r∈f.1)/\∀st2,Ly ops o st st2->(∀r∈f.1,st2.h r=st.h r)->∀K:St->Prop,K (st2.after o v e)->H4 cx true ops.toList o st2 K
theorem UP{ops:Array Oper}(h:Ly ops o st st2):Ow cx ops.toList o st2=Ow cx ops.toList o st:=by
 unfold Ow;split
 .exact Xx h.operands
 .rename_i j want hg;split
  .rfl
  .rename_i d hd;simp only[h.guard hg hd];split<;>first | exact Xx h.operands | rfl
theorem PK{ops:Array Oper}{f:FZ}(hk:H4 cx true ops.toList o st K)(hf:Ow cx ops.toList o st=some f) :
  ∃v e,Rm cx ops o st f v e/\K (st.after o v e):=by
 obtain⟨R,w⟩:=f;have skip:R=[]/\w=none->K (st.put o.dst (.v undef) st.h)->(∀st2,Ly ops o st st2->∀K:St->Prop,K (st2.put o.dst (.v undef) st2.h)->H4 cx true ops.toList o st2 K)->∃v e,Rm cx ops o st (R,w) v e/\K (st.after o v e):=by
  rintro⟨rfl,rfl⟩ h1 h2
  exact⟨.v undef,[],⟨fun r o' e=>(by cases e),fun st2 hl _ K h=>h2 st2 hl K h⟩,h1⟩
 have run:FM cx o st=some (R,w)->Gm cx true o st (fun v h=>K (st.put o.dst v h))->(∀st2,Ly ops o st st2->∀K:St->Prop,Gm cx true o st2 (fun v h=>K (st2.put o.dst v h))->H4 cx true ops.toList o st2 K)->∃v e,Rm cx ops o st (R,w) v e/\K (st.after o v e):=by
  intro hf hk h2;obtain⟨v,e,q1,q2,q3⟩:=ii hk hf;exact⟨v,e,⟨q2,fun st2 hl hh K h=>h2 st2 hl K (q3 st2 ⟨hl.operands,hh⟩ _ h)⟩,q1⟩
 unfold H4 at hk;unfold Ow at hf;cases hg:o.guard with
 |none=>
  rw[hg]at hk hf;exact run hf hk (fun st2 hl K h=>by unfold H4;rw[hg];exact h)
 |some p=>
  obtain⟨j,want⟩:=p;rw[hg]at hk hf;simp only at hk hf;cases hd:Lk ops.toList j with
  |none=>rw[hd]at hk;exact hk.elim
  |some d=>
   rw[hd]at hk hf;simp only at hk hf;have he:∀st2,Ly ops o st st2->st2.t d=st.t d:=fun st2 hl=>hl.guard hg hd;generalize hx:st.t d=x at hk hf he;split at hk
   .exact run hf hk (fun st2 hl K h=>by unfold H4;simp only[hg,hd,he st2 hl];exact h)
   .exact run hf hk (fun st2 hl K h=>by unfold H4;simp only[hg,hd,he st2 hl];exact h)
   .exact skip (by cases hf;exact⟨rfl,rfl⟩) hk (fun st2 hl K h=>by unfold H4;simp only[hg,hd,he st2 hl];exact h)
   .exact skip (by cases hf;exact⟨rfl,rfl⟩) hk (fun st2 hl K h=>by unfold H4;simp only[hg,hd,he st2 hl];exact h)
   .exact skip (by cases hf;exact⟨rfl,rfl⟩) hk (fun st2 hl K h=>by unfold H4;simp only[hg,hd,he st2 hl];exact h)
   .exact hk.elim
def xg(cx:Cx)(ops:Array Oper)(FT:Nat->FZ)(i:Nat)(K:St->Prop)(st:St):Prop:=
 match ops[i]? with
 |none=>K st
 |some o=>Ow cx ops.toList o st=some (FT i)/\H4 cx true ops.toList o st K
def ZP(cx:Cx)(ops:Array Oper)(FT:Nat->FZ)(K:St->Prop):Nat->Array Bool->St->Prop
 |0,listed,st=>Region.ready .any ops listed=[]/\K st
 |fuel+1,listed,st=>
  (Region.ready .any ops listed=[]->K st)/\∀i∈Region.ready .any ops listed,xg cx ops FT i (ZP cx ops FT K fuel (listed.setIfInBounds i true)) st
theorem ky(t:Nat->AV)(h:d'≠d)(v v' : AV):HZ (HZ t d v) d' v'=HZ (HZ t d' v') d v:=by
 funext i
 unfold HZ
 by_cases h1:i=d<;>by_cases h2:i=d'
 .exact absurd (h2.symm.trans h1) h
 .subst h1;simp[Df h2]
 .subst h2;simp[Df h1]
 .simp[Df h1,Df h2]
theorem jb(t:Nat->HO)(h:d'≠d)(v v' : HO):A1 (A1 t d v) d' v'=A1 (A1 t d' v') d v:=by
 funext i
 unfold A1
 by_cases h1:i=d<;>by_cases h2:i=d'
 .exact absurd (h2.symm.trans h1) h
 .subst h1;simp[Df h2]
 .subst h2;simp[Df h1]
 .simp[Df h1,Df h2]
theorem QB(h:n∈l):JA l n=true:=by
 induction l with
 |nil=>cases h
 |cons a l ih=>
  unfold JA
  by_cases e:a=n
  .subst e;simp
  .rw[Df e];exact ih ((AA.1 h).resolve_left (fun q=>e q.symm))
theorem bu(h:JA l n=true):n∈l:=by
 induction l with
 |nil=>cases h
 |cons a l ih=>
  unfold JA at h
  by_cases e:a=n
  .exact e▸Ab ..
  .rw[Df e]at h;exact Ah _ (ih h)
theorem bJ{x:Nat}(h:bH l x=true):∀r,T4 (some x) r->r∉l:=by
 intro r hc hr;unfold bH at h
 by_cases hx:x=Ys
 .subst hx;rw[Dq,KT]at h;cases l with
  |nil=>cases hr
  |cons a l=>cases h
 rw[Df hx,Ey]at h;simp only[Af,CN,CH,Cv]at h;rcases hc with rfl | ⟨h1,h2⟩ | hc
 .rw[QB hr]at h;cases h.1
 .rcases h.2 with h3 | h3
  .omega
  .rcases h2 with rfl | rfl
   .rw[QB hr]at h3;cases h3.1
   .rw[QB hr]at h3;cases h3.2
 .exact hx hc
theorem iL{a b:FZ}(h:UA a b=true):(∀r,T4 a.2 r->r∉b.1)/\∀r,T4 b.2 r->r∉a.1:=by
 obtain⟨a1,a2⟩:=a;obtain⟨b1,b2⟩:=b;simp only[UA,Af]at h;refine⟨fun r e=>?_,fun r e=>?_⟩
 .cases a2 with
  |none=>exact e.elim
  |some x=>exact bJ h.1 r e
 .cases b2 with
  |none=>exact e.elim
  |some x=>exact bJ h.2 r e
section
variable {cx:Cx}{ops:Array Oper}{FT:Nat->FZ}
theorem SY{oi oj:Oper}(h:∀d,oi.dst=some d->d∉oj.looksAt ops)(st:St)(v:AV)(e:List (Nat×HO)):Ly ops oj st (st.after oi v e):=by
 intro d hd;cases hdst:oi.dst with
 |none=>simp[St.after,St.put,hdst]
 |some d'=>
  have:d≠d':=fun q=>h d' hdst (q▸hd)
  simp[St.after,St.put,hdst,HZ,Df this]
theorem Ly.symm{o:Oper}{st st2:St}(h:Ly ops o st st2):Ly ops o st2 st:=fun d hd=>(h d hd).symm
theorem fK{o:Oper}{v:AV}{e:List (Nat×HO)}:(st.after o v e).h=IW st.h e:=by
 unfold St.after St.put;cases o.dst<;>rfl
theorem Rx{r:Nat}:∀{e:List (Nat×HO)} {h:Nat->HO},(∀o',(r,o')∉e)->IW h e r=h r
 | [],_,_=>rfl
 |p::e,h,hr=>by
  have:r≠p.1:=fun q=>hr p.2 (by rw[q];exact Ab ..)
  show IW (A1 h p.1 p.2) e r=h r;rw[Rx fun o' ho=>hr o' (Ah _ ho),Ca _ _ _ _ this]
theorem ap{r:Nat}{o:HO}:∀{e:List (Nat×HO)} {h:Nat->HO},(∀r' o',(r',o')∈e->r'≠r)->IW (A1 h r o) e=A1 (IW h e) r o
 | [],_,_=>rfl
 |p::e,h,hr=>by
  show IW (A1 (A1 h r o) p.1 p.2) e=A1 (IW (A1 h p.1 p.2) e) r o;rw[jb h (hr p.1 p.2 (Ab ..)),ap fun r' o' ho=>hr r' o' (Ah _ ho)]
theorem Xt:∀{e e' : List (Nat×HO)} {h:Nat->HO},(∀r o r' o',(r,o)∈e->(r',o')∈e'->r'≠r)->IW (IW h e) e'=IW (IW h e') e
 | [],_,_,_=>rfl
 |p::e,e',h,hd=>by
  show IW (IW (A1 h p.1 p.2) e) e'=IW (A1 (IW h e') p.1 p.2) e;rw[<-ap fun r' o' ho=>hd p.1 p.2 r' o' (Ab ..) ho,Xt fun r o r' o' h1 h2=>hd r o r' o' (Ah _ h1) h2]
theorem cJ{oi oj:Oper}{v v' : AV}{e e' : List (Nat×HO)}(h1:∀d,oi.dst=some d->oj.dst≠some d)(h2:∀r o r' o',(r,o)∈e->(r',o')∈e'->r'≠r) :
  (st.after oi v e).after oj v' e'=(st.after oj v' e').after oi v e:=by
 have hh:IW (IW st.h e) e'=IW (IW st.h e') e:=Xt h2;have key:∀o:Oper,∀v e,∀st:St,st.after o v e=⟨match o.dst with | none=>st.t | some d=>HZ st.t d v,IW st.h e⟩:=fun o v e st=>by
  unfold St.after St.put;cases o.dst<;>rfl
 rw[key,key,key,key];simp only[hh];cases hi:oi.dst with
 |none=>rfl
 |some d=>
  cases hj:oj.dst with
  |none=>rfl
  |some d'=>
   have DH:d'≠d:=fun q=>h1 d hi (by rw[hj,q]);simp only[ky st.t DH v v']
theorem cG{i:Nat}{oi:Oper}{v:AV}{e:List (Nat×HO)}(hi:ops[i]?=some oi)(D:Nat->Prop)(hD:∀j,D j->∃oj,ops[j]?=some oj/\∃ed∈oj.after,Region.binds .any ed=true/\(ed.on=i\/D ed.on)) :
  ∀(fuel:Nat) (listed:Array Bool) (st:St),
   (∀j oj,ops[j]?=some oj->j≠i->listed.getD j true=false->¬D j->oi.apart ops oj=true/\UA (FT i) (FT j)=true) ->
   i∈Region.ready .any ops listed->(∀j,D j->listed.getD j true=false)->Ow cx ops.toList oi st=some (FT i)->Rm cx ops oi st (FT i) v e ->
   ZP cx ops FT K fuel (listed.setIfInBounds i true) (st.after oi v e)->ZP cx ops FT K (fuel+1) listed st:=by
 have here:∀(fuel:Nat) (listed:Array Bool) (st:St),Ow cx ops.toList oi st=some (FT i)->Rm cx ops oi st (FT i) v e ->
   ZP cx ops FT K fuel (listed.setIfInBounds i true) (st.after oi v e)->xg cx ops FT i (ZP cx ops FT K fuel (listed.setIfInBounds i true)) st:=by
  intro fuel listed st hf hy H;unfold xg;rw[hi];exact⟨hf,hy.2 st (fun _ _=>rfl) (fun _ _=>rfl) _ H⟩
 intro fuel
 induction fuel with
 |zero=>
  intro listed st _ hr _ hf hy H;refine⟨fun h=>(by rw[h]at hr;cases hr),fun j hj=>?_⟩
  by_cases JX:j=i
  .subst JX;exact here 0 listed st hf hy H
  .have:=ready_mono hj JX
   rw[H.1]at this;cases this
 |succ fuel ih=>
  intro listed st Ae hr hDl hf hy H;refine⟨fun h=>(by rw[h]at hr;cases hr),fun j hj=>?_⟩
  by_cases JX:j=i
  .subst JX;exact here (fuel+1) listed st hf hy H
  .have h1:=H.2 j (ready_mono hj JX);obtain⟨yA,oj,qC,GL⟩:=mem_ready.1 hj;have xS:∀k,listed.getD k true=false->listed.getD k false=true->False:=fun k h0 h1=>by
    rcases D1 k listed.size with h' | h'
    .simp[h']at h0 h1;rw[h0]at h1;cases h1
    .simp[Array.getElem?_eq_none h']at h1
   have hnD:¬D j:=fun hdj=>by
    obtain⟨oj',sM,ed,he,hb,hon⟩:=hD j hdj;rw[qC]at sM;cases sM;have hl:=GL ed he hb;rcases hon with h2 | h2
    .exact xS _ (by rw[h2];exact(mem_ready.1 hr).1) hl
    .exact xS _ (hDl _ h2) hl
   obtain⟨yd,hdj⟩:=Ae j oj qC JX yA hnD;obtain⟨a1,a2,a3⟩:=Oper.apart_spec yd;obtain⟨d1,d2⟩:=iL hdj;unfold xg at h1⊢;rw[qC]at h1⊢;obtain⟨hfj,hkj⟩:=h1;have hlj:=SY (ops:=ops) a1 st v e;obtain⟨vj,ej,hyj,hK⟩:=PK hkj hfj;have he1:∀r o',(r,o')∈e->r∉(FT j).1:=fun r o' q=>d1 r (hy.1 r o' q).1;have pv:∀r o',(r,o')∈ej->r∉(FT i).1:=fun r o' q=>d2 r (hyj.1 r o' q).1;refine⟨by rw[<-UP hlj];exact hfj,hyj.2 st hlj.symm (fun r qE=>?_) _ ?_⟩
   .rw[fK,Rx (fun o' q=>he1 r o' q qE)]
   .have hli:=SY (ops:=ops) a3 st vj ej;refine ih (listed.setIfInBounds j true) (st.after oj vj ej) (fun k ok hk hki qH Od=>?_) (ready_mono hr (Ne.symm JX)) (fun k hk=>?_) (by rw[UP hli];exact hf) ⟨hy.1,fun st2 hl hh K' h'=>?_⟩ ?_
    .by_cases qA:j=k
     .subst qA;exact Ae _ ok hk hki yA Od
     .rw[getD_set_ne true qA]at qH;exact Ae k ok hk hki qH Od
    .by_cases qA:j=k
     .subst qA;exact absurd hk hnD
     .rw[getD_set_ne true qA];exact hDl k hk
    .refine hy.2 st2 (fun d hd=>(hl d hd).trans (hli d hd)) (fun r qE=>?_) K' h';rw[hh r qE,fK,Rx (fun o' q=>pv r o' q qE)]
    .rw[Array.setIfInBounds_comm _ _ (Ne.symm JX)]at hK;rw[<-cJ a2 (fun r o r' o' q q' e2=>pv r' o' q' (by rw[e2];exact(hy.1 r o q).2))];exact hK
def tv(cx:Cx)(ops:Array Oper)(K:St->Prop):List Oper->List FZ->St->Prop
 | [],[],st=>K st
 |o::r,f::fs,st=>Ow cx ops.toList o st=some f/\∃v e,Rm cx ops o st f v e/\tv cx ops K r fs (st.after o v e)
 |_,_,_=>False
theorem Ug{K:St->Prop}:∀(l:List Oper) (acc:List FZ) (st:St),ZU cx ops l acc st K->∃fs,UB ops (acc.reverse++fs)=true/\tv cx ops K l fs st
 | [],acc,st,h=>⟨[],by simpa using h.1,h.2⟩
 |o::r,acc,st,h=>by
  unfold ZU at h;split at h
  .rename_i f hf;obtain⟨v,e,h1,h2⟩:=PK h hf;obtain⟨fs,q1,q2⟩:=Ug r _ _ h2;exact⟨f::fs,by simpa using q1,hf,v,e,h1,q2⟩
  .exact h.elim
theorem YX{o:Oper}{i:Nat}{D:List Nat}(h:Qr o i D=true):∃ed∈o.after,Region.binds .any ed=true/\(ed.on=i\/ed.on∈D):=by
 unfold Qr at h;obtain⟨ed,h1,h2⟩:=Be.1 h;simp only[Af,CN]at h2;exact⟨ed,by simpa using h1,h2.1,h2.2.imp AL bu⟩
theorem VY{i:Nat}{D:List Nat}:∀(l:List Oper) (k:Nat),VX i D k l=true->∀j o,l[j]?=some o->k+j∈D->Qr o i D=true
 | [],_,_,_,_,h,_=>by simp at h
 |o::l,k,hs,j,o',h,hm=>by
  simp only[VX,Af]at hs;cases j with
  |zero=>
   simp only[Bf,BB]at h;subst h;have h1:=hs.1;rw[QB (by simpa using hm)]at h1;simpa using h1
  |succ j=>exact VY l (k+1) hs.2 j o' (by simpa using h) (by rw[Hc,Nat.add_comm 1 j];exact hm)
theorem Xa{oi:Oper}{fi:FZ}{D:List Nat}:∀(l:List Oper) (fs:List FZ) (k:Nat),Jf ops oi fi D k l fs=true->l.length=fs.length/\∀j o f,l[j]?=some o->fs[j]?=some f->k+j∉D->oi.apart ops o=true/\UA fi f=true
 | [],[],_,_=>⟨rfl,fun _ _ _ h=>by simp at h⟩
 | [],_::_,_,h=>by simp[Jf]at h
 |_::_,[],_,h=>by simp[Jf]at h
 |o::l,f::fs,k,h=>by
  simp only[Jf,Af,CN]at h;obtain⟨h1,h2⟩:=Xa l fs (k+1) h.2;refine⟨by simp[h1],fun j o' f' q1 q2 hn=>?_⟩;cases j with
  |zero=>
   simp only[Bf,BB]at q1 q2;subst q1;subst q2;rcases h.1 with h3 | h3
   .exact absurd (bu h3) hn
   .exact h3
  |succ j=>exact h2 j o' f' (by simpa using q1) (by simpa using q2) (by simpa[Nat.add_assoc,Nat.add_comm 1 j]using hn)
theorem ZQ{K:St->Prop}:∀(l:List Oper) (fs:List FZ) (k:Nat) (listed:Array Bool) (st:St),(∀j,l[j]?=ops[k+j]?)->(∀j f,fs[j]?=some f->FT (k+j)=f)->listed.size=ops.size ->
  (∀j,j<ops.size->listed.getD j true=decide (j<k))->M9 ops ops.toList k l fs=true->tv cx ops K l fs st->ZP cx ops FT K l.length listed st
 | [],[],k,listed,st,hl,_,hs,hL,_,h=>by
  refine⟨?_,h⟩;apply MQ.2;intro j hj;obtain⟨h1,o,ho,_⟩:=mem_ready.1 hj;have Du:=(Bv.1 ho).1;rw[hL j Du]at h1;have wW:k<=j:=by simpa using h1
  have:=hl (j-k)
  rw[show k+(j-k)=j by omega,ho]at this;simp at this
 | [],_::_,_,_,_,_,_,_,_,h,_=>by simp[M9]at h
 |_::_,[],_,_,_,_,_,_,_,h,_=>by simp[M9]at h
 |o::l,f::fs,k,listed,st,hl,hF,hs,hL,hg,h=>by
  simp only[M9,Af]at hg;obtain⟨⟨⟨⟨g1,g2⟩,g3⟩,g4⟩,g5⟩:=hg;obtain⟨hf,v,e,hy,hp⟩:=h;have h0:ops[k]?=some o:=by simpa using(hl 0).symm
  have hk:=(Bv.1 h0).1;have hFk:FT k=f:=by simpa using hF 0 f rfl
  have RD : ∀j,l[j]?=ops[k+1+j]?:=fun j=>by have:=hl (j+1);simpa[Nat.add_assoc,Nat.add_comm 1 j]using this
  have wP : ∀j f,fs[j]?=some f->FT (k+1+j)=f:=fun j f' hj=>by have:=hF (j+1) f' (by simpa using hj);simpa[Nat.add_assoc,Nat.add_comm 1 j]using this
  obtain⟨CQ,yd⟩:=Xa l fs (k+1) g4;have fI:∀j,j∈Rv k [] 0 ops.toList->k<j/\j<ops.size:=fun j hj=>by
   have:=(Bd.1 g3) j hj
   simp only[Af,Cv,Br]at this;exact this
  refine cG h0 (fun j=>j∈Rv k [] 0 ops.toList) (fun j hj=>?_) l.length listed st (fun j oj qC qA qH hnD=>?_) ?_ (fun j hj=>?_) (by rw[hFk];exact hf) (by rw[hFk];exact hy) ?_
  .have Du:=(fI j hj).2
   have:=VY ops.toList 0 g2 j ops[j] (by simp[Du]) (by simpa using hj)
   obtain⟨ed,e1,e2,e3⟩:=YX this;exact⟨ops[j],by simp[Du],ed,e1,e2,e3⟩
  .have Du:=(Bv.1 qC).1;rw[hL j Du]at qH;have wW:k<j:=by have q:k<=j:=(by simpa using qH);omega
   have e1:l[j-(k+1)]?=some oj:=by rw[RD,show k+1+(j-(k+1))=j by omega];exact qC
   have hfl:j-(k+1)<fs.length:=by rw[<-CQ];exact(Av.1 e1).1
   have e2:fs[j-(k+1)]?=some fs[j-(k+1)]:=Az hfl;have e3:=wP _ _ e2;rw[show k+1+(j-(k+1))=j by omega]at e3;rw[hFk,e3];exact yd _ _ _ e1 e2 (by rw[show k+1+(j-(k+1))=j by omega];exact hnD)
  .refine mem_ready.2 ⟨by rw[hL k hk];simp,o,h0,fun ed he hb=>?_⟩
   have:=(Bd.1 g1) ed (by simpa using he)
   simp only[hb,Bool.not_true,MX,Cv]at this;have h1:=hL ed.on ch;have Du:ed.on<listed.size:=by omega
   simp[Du]at h1⊢;rw[h1];simpa using this
  .have:=fI j hj
   rw[hL j this.2];simp;omega
  .refine ZQ l fs (k+1) _ _ RD wP (by simp[hs]) (fun j hj=>?_) g5 hp
   by_cases qA:j=k
   .subst qA
    have:j<listed.size:=by omega
    simp[this]
   .rw[getD_set_ne true (Ne.symm qA),hL j hj]
    by_cases h1:j<k
    .simp[h1];omega
    .simp[h1];omega
theorem ic(h:ZU cx ops ops.toList [] st K):Region.noSelect ops=true/\∃FT,ZP cx ops FT K ops.size (Array.replicate ops.size false) st:=by
 obtain⟨fs,h1,h2⟩:=Ug _ _ _ h;simp only[UB,List.reverse_nil,F1,Af]at h1;refine⟨h1.1,fun j=>fs.getD j default,?_⟩
 have:=ZQ (FT:=fun j=>fs.getD j default) ops.toList fs 0 (Array.replicate ops.size false) st B0 (fun j f hj=>by simp[hj]) B0 (fun j hj=>by simp[hj]) h1.2 h2
 simpa using this
end
theorem Y5:∀{σ:JR},Ht σ=true->∀i j,CF σ i=some j↔IE σ j=some i
 | [],_,i,j=>by simp[CF,IE]
 |(a,b)::r,h,i,j=>by
  simp only[Ht,Af]at h;obtain⟨h1,h2⟩:=h;have ih:=Y5 h2;have dy:CF r a=none/\IE r b=none:=by
   split at h1
   .rename_i e1 e2;exact⟨e1,e2⟩
   .cases h1
  unfold CF IE
  by_cases e1:a=i<;>by_cases e2:b=j
  .subst e1;subst e2;simp
  .subst e1;simp only[Dq,KT,Df e2,Ey];constructor
   .intro h;cases h;exact absurd rfl e2
   .intro h;rw[(ih a j).2 h]at dy;cases dy.1
  .subst e2;simp only[Dq,KT,Df e1,Ey];constructor
   .intro h;rw[(ih i b).1 h]at dy;cases dy.2
   .intro h;cases h;exact absurd rfl e1
  .simp only[Df e1,Df e2,Ey];exact ih i j
theorem nM:∀{σ:JR},EO σ=true->Ht σ=true
 | [],_=>rfl
 |(a,b)::r,h=>by
  simp only[EO,Af]at h;simp only[Ht,Af];exact⟨h.1.1.1,nM h.2⟩
theorem Zk(h:EO σ=true):∀i j,CF σ i=some j↔IE σ j=some i:=Y5 (nM h)
theorem XV:∀{σ:JR},EO σ=true->∀{i j},CF σ i=some j->1000<=j/\j<2000
 | [],_,i,j,h=>by simp[CF]at h
 |(a,b)::r,h,i,j,hf=>by
  simp only[EO,Af,Dt,Cv]at h;unfold CF at hf
  by_cases e1:a=i
  .subst e1;simp only[Dq,KT]at hf;cases hf;exact⟨h.1.1.2,h.1.2⟩
  .simp only[Df e1,Ey]at hf;exact XV h.2 hf
theorem QS(f:Nat->Option Nat)(h:Nat->HO):∀(σ:JR) (j:Nat),Ap (Zj f h σ) Ae j=match IE σ j with | some i=>(h i).ren f h | none=>.free
 | [],j=>rfl
 |(a,b)::r,j=>by
  unfold Zj Ap IE
  by_cases e:b=j
  .subst e;simp
  .simp only[Df e,Df (Ne.symm e),Ey];exact QS f h r j
structure LB(f:Nat->Option Nat)(h h2:Nat->HO)(g g2:Gh)(w:World):Prop where
 ids:∀r r',f r=some r'->AQ h r->g2.tk r'=g.tk r/\g2.ln r'=g.ln r/\g2.ρ r'=g.ρ r/\g2.own r'=g.own r/\AQ h2 r'
 S:∀b o,g2.S b o↔g.S b o
 objs:∀r,EC g w (AQ h) r (h r)
section
variable {f:Nat->Option Nat}{h h2:Nat->HO}{g g2:Gh}{w:World}
theorem LB.keeps(hR:LB f h h2 g g2 w):ET g w g2 w:=fun b o hs=>⟨(hR.S b o).2 hs,rfl,fun _ _ e=>e⟩
theorem LB.noU(hR:LB f h h2 g g2 w){av:AV}{x:Value}(r:BS g w FK av x):BS g2 w (AQ h2) av x:=r.mono hR.keeps (fun _ h=>h.elim) (fun _ h=>h.elim)
theorem BS.ren0(hR:LB f h h2 g g2 w){av:AV}{x:Value}(r:BS g w (AQ h) av x):BS g2 w (AQ h2) (ren0 f h av) x:=by
 have down:BS g2 w (AQ h2) (Eng.str0 h av) x:=hR.noU (BS.str0 hR.objs r);cases av with
 |v y=>exact down
 |slice tk es=>
  cases tk with
  |none=>exact down
  |full sz=>exact down
  |id i sz=>
   simp only[Eng.ren0];split
   .rename_i i' e;cases r with
    |tok _ _ _ _ _ hs hl hu ht hn hx=>
     obtain⟨k1,k2,k3,k4,k5⟩:=hR.ids i i' e hu;exact .tok _ i' sz es x (hR.noU (BS.slice_none hs)) hl k5 (k1.trans ht) ch (fun q=>by rw[k3];exact hx ch)
   .exact hR.noU r.slice_none
  |ver i sz v=>
   simp only[Eng.ren0];split
   .rename_i i' e;cases r with
    |ver _ _ _ _ _ _ hs hl hu ht hn hx=>
     obtain⟨k1,k2,k3,k4,k5⟩:=hR.ids i i' e hu;exact .ver _ i' sz v es x (hR.noU (BS.slice_none hs)) hl k5 (k1.trans ht) ch (fun q=>by rw[k3];exact hx ch)
   .exact hR.noU r.slice_none
 |msl i n=>
  simp only[Eng.ren0];split
  .rename_i i' e;cases r with
   |msl _ _ _ a cap hu ht hn ha hx=>
    obtain⟨k1,k2,k3,k4,k5⟩:=hR.ids i i' e hu;exact .msl _ i' n a cap k5 (k1.trans ht) ch ha (fun q=>by rw[k3];exact hx ch)
  .exact .junk _ _
 |agg cs=>exact down
 |tup cs=>exact down
 |cptr cs=>exact down
 |ref i off=>
  simp only[Eng.ren0];split
  .rename_i i' e;cases r with
   |ref _ _ _ b hu ht hx=>
    obtain⟨k1,k2,k3,k4,k5⟩:=hR.ids i i' e hu;exact .ref _ i' off b k5 (k1.trans ht) (k3.trans hx)
  .exact down
 |eref i n sz k off=>
  simp only[Eng.ren0];split
  .rename_i i' e;cases r with
   |eref _ _ _ _ _ _ b cap hu ht hn hx=>
    obtain⟨k1,k2,k3,k4,k5⟩:=hR.ids i i' e hu;exact .eref _ i' n sz k off b cap k5 (k1.trans ht) ⟨hn.1,by omega⟩ (fun q=>by rw[k3];exact hx ch)
  .exact .junk _ _
 |mref i=>
  simp only[Eng.ren0];split
  .rename_i i' e;cases r with
   |mref _ _ b hu ht hx=>
    obtain⟨k1,k2,k3,k4,k5⟩:=hR.ids i i' e hu;exact .mref _ i' b k5 (k1.trans ht) (k3.trans hx)
  .exact down
 |cmap sh Cc=>exact down
 |clo i cs=>exact down
 |junk=>exact down
theorem BS.ren1(hR:LB f h h2 g g2 w){av:AV}{x:Value}(r:BS g w (AQ h) av x):BS g2 w (AQ h2) (ren1 f h av) x:=by
 cases av with
 |agg cs=>
  cases r with
  |agg _ _ vs hs h1 hr=>
   exact .agg _ _ vs (by simp[hs]) h1 fun i av x q1 q2=>by
    rw[AG]at q1;obtain⟨a,q3,rfl⟩:=AS.1 q1;exact(hr i a x q3 q2).ren0 hR
 |clo i cs=>
  cases r with
  |clo _ _ _ vs hs hr=>
   exact .clo _ _ _ vs (by simp[hs]) fun i av x q1 q2=>by
    rw[AG]at q1;obtain⟨a,q3,rfl⟩:=AS.1 q1;exact(hr i a x q3 q2).ren0 hR
 |_=>exact r.ren0 hR
theorem BS.ren(hR:LB f h h2 g g2 w){av:AV}{x:Value}(r:BS g w (AQ h) av x):BS g2 w (AQ h2) (ren f h av) x:=by
 cases av with
 |tup cs=>
  cases r with
  |tup _ _ vs hs hr=>
   exact .tup _ _ vs (by simp[hs]) fun i av x q1 q2=>by
    rw[AG]at q1;obtain⟨a,q3,rfl⟩:=AS.1 q1;exact(hr i a x q3 q2).ren1 hR
 |_=>exact r.ren1 hR
theorem Ny(f:Nat->Option Nat)(h:Nat->HO)(o:HO):(o.ren f h).live↔o.live:=by cases o<;>exact Sr
theorem NA(f:Nat->Option Nat)(h:Nat->HO)(o:HO):o.ren f h≠.free↔o≠.free:=by cases o<;>simp[HO.ren]
theorem EC.ren(hR:LB f h h2 g g2 w){i j:Nat}(Qs:f i=some j)(hu:AQ h i){o:HO}(r:EC g w (AQ h) i o):EC g2 w (AQ h2) j (o.ren f h):=by
 obtain⟨k1,k2,k3,k4,k5⟩:=hR.ids i j Qs hu;have noL:∀{cs:List AV} {vs:List Value},CY g w FK cs vs->CY g2 w FK cs vs:=fun hr=>hr.mono hR.keeps (fun _ h=>h) (fun _ h=>h.elim);have no1:∀{av:AV} {x:Value},BS g w FK av x->BS g2 w FK av x:=fun hr=>hr.mono hR.keeps (fun _ h=>h) (fun _ h=>h.elim);cases o with
 |free=>trivial
 |dead=>trivial
 |cells cs=>
  obtain⟨t,b,E,vs,a1,a2,a3,a4,a5⟩:=r;refine⟨k1.trans t,b,E,vs,k4.trans a1,k3.trans a2,a3,⟨by simp[a4.1],a4.2.1,fun i av x q1 q2=>?_⟩,fun o ho=>a5 o ((hR.S b o).1 ho)⟩;rw[AG]at q1;obtain⟨a,q3,rfl⟩:=AS.1 q1;exact(a4.2.2 i a x q3 q2).ren1 hR
 |ro cs=>
  obtain⟨t,b,a1,a2⟩:=r;exact⟨k1.trans t,b,k3.trans a1,no1 a2⟩
 |tok sz n=>
  obtain⟨t,l,a,cap,a1,a2⟩:=r;refine⟨k1.trans t,k2.trans l,a,cap,k3.trans a1,?_⟩;rcases a2 with ⟨b1,b2⟩ | ⟨b1,b,E,vs,off,b2,b3,b4,b5,b6⟩
  .exact .inl ⟨b1,k4.trans b2⟩
  .exact .inr ⟨b1,b,E,vs,off,b2,k4.trans b3,b4,b5,fun o ho=>b6 o ((hR.S b o).1 ho)⟩
 |var sz v n=>
  obtain⟨t,l,a,cap,a1,a2⟩:=r;refine⟨k1.trans t,k2.trans l,a,cap,k3.trans a1,?_⟩;rcases a2 with ⟨b1,b2⟩ | ⟨b1,b,E,vs,off,b2,b3,b4,b5,b6⟩
  .exact .inl ⟨b1,k4.trans b2⟩
  .exact .inr ⟨b1,b,E,vs,off,b2,k4.trans b3,b4,b5,fun o ho=>b6 o ((hR.S b o).1 ho)⟩
 |vox v=>exact⟨k1.trans r.1,k2.trans r.2⟩
 |hol sz es i c av=>
  obtain⟨t,l,al,b,cap,E,vs,b1,b2,b3,b4,b5,b6,b7,b8,x,b9,Xe⟩:=r;exact⟨k1.trans t,k2.trans l,al,b,cap,E,vs,k3.trans b1,k4.trans b2,b3,b4,b5,noL b6,fun o ho=>b7 o ((hR.S b o).1 ho),b8,x,b9,Xe.ren1 hR⟩
 |raw b ob=>
  obtain⟨t,a1,a2,a3,a4⟩:=r;exact⟨k1.trans t,k4.trans a1,a2,a3,fun o ho=>a4 o ((hR.S b o).1 ho)⟩
 |arr sz es=>
  obtain⟨t,l,al,a2⟩:=r;refine⟨k1.trans t,k2.trans l,al,?_⟩;rcases a2 with ⟨b1,b2,b3⟩ | ⟨b,cap,E,vs,b1,b2,b3,b4,b5,b6,b7⟩
  .exact .inl ⟨b1,k3.trans b2,k4.trans b3⟩
  .exact .inr ⟨b,cap,E,vs,k3.trans b1,k4.trans b2,b3,b4,b5,noL b6,fun o ho=>b7 o ((hR.S b o).1 ho)⟩
 |map sh Cc=>
  obtain⟨t,b,es,ck,a1,a2,a3,a4,a5,a6⟩:=r;exact⟨k1.trans t,b,es,ck,k4.trans a1,k3.trans a2,a3,a4,fun i kv e q1 q2=>no1 (a5 i kv e q1 q2),fun o ho=>a6 o ((hR.S b o).1 ho)⟩
 |mapU sh Cc=>
  obtain⟨t,b,es,ck,a1,a2,a3,a4,a5,a6⟩:=r;refine⟨k1.trans t,b,es,ck,k4.trans a1,k3.trans a2,a3,XK _ a4,fun i kv e q1 q2=>?_,fun o ho=>a6 o ((hR.S b o).1 ho)⟩;rw[AG]at q1;obtain⟨p,q3,rfl⟩:=AS.1 q1;exact(a5 i p e q3 q2).ren1 hR
 |rom sh Cc=>
  obtain⟨t,b,a1,a2⟩:=r;exact⟨k1.trans t,b,k3.trans a1,no1 a2⟩
 |iter all rem EN=>
  obtain⟨t,b,mb,K7,seen,st,es,ck,a1,a2,a3,a4,a5,a6,a7,a8,a9,ZO,fb,a12,tA⟩:=r;exact⟨k1.trans t,b,mb,K7,seen,st,es,ck,k4.trans a1,k3.trans a2,a3,(hR.S _ _).2 a4,a5,a6,a7,a8,fun i kv e q1 q2=>no1 (a9 i kv e q1 q2),ZO,fb,a12,fun o ho=>tA o ((hR.S b o).1 ho)⟩
end
theorem QF{h:Nat->HO}{d:Nat}:∀{n:Nat},D4 h d n=true->∀k,k<n->h (BF d k)=.free
 |0,_,k,hk=>by omega
 |n+1,hf,k,hk=>by
  simp only[D4,Af]at hf
  by_cases e:k=n
  .subst e
   have:=hf.1
   split at this
   .rename_i e2;exact e2
   .cases this
  .exact QF hf.2 k ch
theorem OB{d nn:Nat}:∀{σ:JR},DI σ d nn=true->∀{i j},CF σ i=some j->¬(BF d 0<=i/\i<BF d nn)
 | [],_,i,j,h=>by simp[CF]at h
 |(a,b)::r,hs,i,j,hf=>by
  simp only[DI,Af]at hs;unfold CF at hf
  by_cases e1:a=i
  .subst e1;have h1:=hs.1;simp only[CH,MB]at h1;intro hc;rcases h1 with h1 | h1
   .rw[Nat.ble_eq_true_of_le hc.1]at h1;cases h1
   .have h2:Nat.blt a (BF d nn)=true:=by rw[Cv];exact hc.2
    rw[h2]at h1;cases h1
  .simp only[Df e1,Ey]at hf;exact OB hs.2 hf
section
variable {P:Program}{w0:World}{g0:Gh}{h0 h:Nat->HO}{g:Gh}{w:World}
def DX(σ:JR)(g:Gh):Gh:=
 ⟨fun j=>match IE σ j with | some i=>g.ρ i | none=>.nilIface,fun j=>match IE σ j with | some i=>g.ln i | none=>0,fun j=>match IE σ j with | some i=>g.tk i | none=>false,
  fun j=>match IE σ j with | some i=>g.own i | none=>none,g.S⟩
def src(σ:JR)(d nn:Nat)(i:Nat):Option Nat:=
 match CF σ i with
 |some j=>some j
 |none=>match Nat.ble (BF d 0) i&&Nat.blt i (BF d nn)with |true=>some (2000+(i-BF d 0)) |false=>none
def Hr(σ:JR)(d nn:Nat)(g g' : Gh):Gh:=
 ⟨fun i=>match src σ d nn i with | some j=>g'.ρ j | none=>g.ρ i,fun i=>match src σ d nn i with | some j=>g'.ln j | none=>g.ln i,fun i=>match src σ d nn i with | some j=>g'.tk j | none=>g.tk i,
  fun i=>match src σ d nn i with | some j=>g'.own j | none=>g.own i,g'.S⟩
theorem iv(σ:JR)(d nn:Nat)(h h' : Nat->HO)(i:Nat):EA σ d nn h h' i=match src σ d nn i with | some j=>(h' j).ren (FF σ d nn) h' | none=>h i:=by
 unfold EA src;cases CF σ i with
 |some j=>rfl
 |none=>
  dsimp only;cases Nat.ble (BF d 0) i&&Nat.blt i (BF d nn)<;>rfl
theorem oA{d nn:Nat}(hσ:EO σ=true)(ha:DI σ d nn=true)(i j:Nat):src σ d nn i=some j↔FF σ d nn j=some i:=by
 have inv:=Zk hσ;unfold src FF;cases h1:CF σ i with
 |some j'=>
  have hb:=(inv i j').1 h1;dsimp only;constructor
  .intro h;cases h;rw[hb]
  .intro h;cases h2:IE σ j with
   |some i'=>rw[h2]at h;cases h;rw[(inv i j).2 h2]at h1;exact h1.symm
   |none=>
    rw[h2]at h;dsimp only at h;split at h
    .rename_i hc;have h:=CO h;subst h;simp only[Af,Dt,Cv]at hc;exact absurd ⟨by unfold BF;omega,by unfold BF;omega⟩ (OB ha h1)
    .cases h
 |none=>
  dsimp only;cases h2:IE σ j with
  |some i'=>
   dsimp only;have hf:=(inv i' j).2 h2;have hr:=XV hσ hf;constructor
   .intro h;split at h
    .cases h;omega
    .cases h
   .intro h;cases h;rw[hf]at h1;cases h1
  |none=>
   dsimp only;constructor
   .intro h;split at h
    .rename_i hc;cases h;simp only[Af,Dt,Cv]at hc;have e1:(Nat.ble 2000 (2000+(i-BF d 0))&&Nat.blt (2000+(i-BF d 0)) (2000+nn))=true:=by
      simp only[Af,Dt,Cv];unfold BF at hc⊢;omega
     rw[e1]
     have:BF d (2000+(i-BF d 0)-2000)=i:=by unfold BF at hc⊢;omega
     rw[this]
    .cases h
   .intro h;split at h
    .rename_i hc;have h:=CO h;subst h;simp only[Af,Dt,Cv]at hc;have e1:(Nat.ble (BF d 0) (BF d (j-2000))&&Nat.blt (BF d (j-2000)) (BF d nn))=true:=by
      simp only[Af,Dt,Cv];unfold BF;omega
     rw[e1]
     have:2000+(BF d (j-2000)-BF d 0)=j:=by unfold BF;omega
     rw[this]
    .cases h
theorem YW(hI:D7 w0 g0 h0 h g w)(hσ:EO σ=true):LB (CF σ) h (F4 σ h) g (DX σ g) w/\D7 w (DX σ g) (F4 σ h) (F4 σ h) (DX σ g) w:=by
 have inv:=Zk hσ;have FN:∀j,F4 σ h j=match IE σ j with | some i=>(h i).ren (CF σ) h | none=>.free:=QS _ _ σ
 have hR:LB (CF σ) h (F4 σ h) g (DX σ g) w:=by
  refine⟨fun r r' hr hu=>?_,fun b o=>Sr,hI.objs⟩;have hb:=(inv r r').1 hr;refine⟨by simp[DX,hb],by simp[DX,hb],by simp[DX,hb],by simp[DX,hb],?_⟩;unfold AQ;rw[FN,hb];exact(NA _ _ _).2 hu
 have Km:∀j,(F4 σ h j).live->∃i,IE σ j=some i/\(h i).live:=fun j hl=>by
  rw[FN]at hl;cases e:IE σ j with
  |none=>rw[e]at hl;exact hl.elim
  |some i=>rw[e]at hl;exact⟨i,rfl,(Ny _ _ _).1 hl⟩
 have Y1:∀j i,IE σ j=some i->(DX σ g).own j=g.own i:=fun j i e=>by simp[DX,e]
 refine⟨hR,rfl,rfl,rfl,Ak _,fun _ _ _=>rfl,hI.slt,fun j=>?_,fun j j' b hl RD e e'=>?_,fun j b hl e=>?_,fun _ _ h=>.inl h,hI.glob⟩
 .rw[FN];cases e:IE σ j with
  |none=>trivial
  |some i=>
   by_cases hu:AQ h i
   .exact(hI.objs i).ren hR ((inv i j).2 e) hu
   .have:h i=.free:=B6.1 hu
    dsimp only;rw[this];trivial
 .obtain⟨i,e1,l1⟩:=Km j hl;obtain⟨i',e2,l2⟩:=Km j' RD;rw[Y1 j i e1]at e;rw[Y1 j' i' e2]at e';obtain rfl:=hI.inj i i' b l1 l2 e e'
  have:=(inv i j).2 e1
  rw[(inv i j').2 e2]at this;cases this;rfl
 .obtain⟨i,e1,l1⟩:=Km j hl;have e0:=e;rw[Y1 j i e1]at e;exact⟨(hI.loc i b l1 e).1,.inr ⟨j,hl,e0⟩⟩
theorem NM{C:(Ending->World->Prop)->Prop}(hm:∀{R R' : Ending->World->Prop},C R->(∀e w,R e w->R' e w)->C R')(hI:D7 w0 g0 h0 h g w){d nn:Nat}(GM:(EO σ&&D4 h d nn&&DI σ d nn)=true){Q:AV->(Nat->HO)->Prop}(hc:D7 w (DX σ g) (F4 σ h) (F4 σ h) (DX σ g) w->C (fun e w'=>∃v r h' g',e=Ending.returned v/\Q r h'/\BS g' w' (AQ h') r v/\D7 w (DX σ g) (F4 σ h) h' g' w'/\Le (F4 σ h) (DX σ g) w h' g' w')){R:Ending->World->Prop}(fJ:∀v r h' g2 w',Q r h'->D7 w0 g0 h0 (EA σ d nn h h') g2 w'->Le h g w (EA σ d nn h h') g2 w'->BS g2 w' (AQ (EA σ d nn h h')) (ren (FF σ d nn) h' r) v->R (.returned v) w'):C R:=by
 simp only[Af]at GM;obtain⟨⟨hσ,hnf⟩,yd⟩:=GM;obtain⟨hF,qw⟩:=YW hI hσ;have inv:=Zk hσ;have qF:=oA hσ yd;refine hm (hc qw) ?_
 rintro e w' ⟨v,r,h',g',rfl,q1,q2,q3,q4⟩
 have hb:=iv σ d nn h h';have mA:∀i j,src σ d nn i=some j->(Hr σ d nn g g').ρ i=g'.ρ j/\(Hr σ d nn g g').ln i=g'.ln j/\(Hr σ d nn g g').tk i=g'.tk j/\(Hr σ d nn g g').own i=g'.own j:=fun i j e=>by simp[Hr,e]
 have hg3:∀i,src σ d nn i=none->(Hr σ d nn g g').ρ i=g.ρ i/\(Hr σ d nn g g').ln i=g.ln i/\(Hr σ d nn g g').tk i=g.tk i/\(Hr σ d nn g g').own i=g.own i:=fun i e=>by simp[Hr,e]
 have hB:LB (FF σ d nn) h' (EA σ d nn h h') g' (Hr σ d nn g g') w':=by
  refine⟨fun j i hj hu=>?_,fun b o=>Sr,q3.objs⟩;have e:=(qF i j).2 hj;obtain⟨k1,k2,k3,k4⟩:=mA i j e;refine⟨k3,k2,k1,k4,?_⟩;unfold AQ;rw[hb,e];exact(NA _ _ _).2 hu
 have sG:∀j,F4 σ h j=match IE σ j with | some i=>(h i).ren (CF σ) h | none=>.free:=QS _ _ σ
 have AcI:∀j i,CF σ i=some j->(h i).live->(F4 σ h j).live:=fun j i e hl=>by
  rw[sG,(inv i j).1 e];exact(Ny _ _ _).2 hl
 have Afe:∀j i,CF σ i=some j->(DX σ g).own j=g.own i:=fun j i e=>by simp[DX,(inv i j).1 e]
 have TJ : ∀j,(F4 σ h j).live->∃i,CF σ i=some j/\(h i).live/\(DX σ g).own j=g.own i:=fun j hl=>by
  rw[sG]at hl;cases e:IE σ j with
  |none=>rw[e]at hl;exact hl.elim
  |some i=>rw[e]at hl;exact⟨i,(inv i j).2 e,(Ny _ _ _).1 hl,by simp[DX,e]⟩
 -- what the callee may not touch
 have kO:∀b,b<w.heap.size->(∀i,(h i).live->CF σ i≠none->g.own i≠some b)->w'.heap[b]?=w.heap[b]?:=fun b Du hn=>q3.frame b Du fun j hl e=>by
  obtain⟨i,e1,l1,o1⟩:=TJ j hl;exact hn i l1 (by rw[e1];simp) (by rw[<-o1];exact e)
 have hSs:∀b o,g'.S b o->b<w.heap.size->(∀i,(h i).live->CF σ i≠none->g.own i≠some b)->g.S b o:=fun b o hs Du hn=>by
  rcases q3.sg b o hs with h1 | h1 | ⟨j,h1,h2⟩
  .exact h1
  .omega
  .obtain⟨i,e1,l1,o1⟩:=TJ j h1;exact absurd (by rw[<-o1];exact h2) (hn i l1 (by rw[e1];simp))
 have hk:ET g w (Hr σ d nn g g') w':=q4.keeps;have Ae:∀i,CF σ i=none->src σ d nn i≠none->h i=.free:=fun i e1 e2=>by
  unfold src at e2;rw[e1]at e2;dsimp only at e2;split at e2
  .rename_i hc;simp only[Af,Dt,Cv]at hc
   have:=QF hnf (i-BF d 0) (by unfold BF at hc⊢;omega)
   rw[show BF d (i-BF d 0)=i by unfold BF at hc⊢;omega]at this;exact this
  .exact absurd rfl e2
 have je:∀i j,CF σ i=some j->src σ d nn i=some j:=fun i j e=>by unfold src;rw[e]
 have hgl:K9 g (Hr σ d nn g g') (AQ h):=fun i hu=>by
  cases e:CF σ i with
  |some j=>
   obtain⟨k1,k2,k3,k4⟩:=mA i j (je i j e);obtain⟨f1,f2,f3,f4,f5⟩:=hF.ids i j e hu;obtain⟨m1,m2,m3,m4⟩:=q4.gh j f5;exact⟨(k3.trans m1).trans f1,by omega,fun t=>(k1.trans (m3 (f1.trans t))).trans f3,fun l=>(k1.trans (m4 ch)).trans f3⟩
  |none=>
   have e2:src σ d nn i=none:=B6.1 fun e2=>hu (Ae i e e2);obtain⟨k1,k2,k3,k4⟩:=hg3 i e2;exact⟨k3,by omega,fun _=>k1,fun _=>k1⟩
 have Lu:∀i,AQ h i->AQ (EA σ d nn h h') i:=fun i hu=>by
  unfold AQ;rw[hb];cases e:CF σ i with
  |some j=>
   rw[je i j e];exact(NA _ _ _).2 (q4.us j (hF.ids i j e hu).2.2.2.2)
  |none=>
   have e2:src σ d nn i=none:=B6.1 fun e2=>hu (Ae i e e2);rw[e2];exact hu
 have ja:∀i,(EA σ d nn h h' i).live->(∃j,src σ d nn i=some j/\(h' j).live/\(Hr σ d nn g g').own i=g'.own j)\/(src σ d nn i=none/\(h i).live/\(Hr σ d nn g g').own i=g.own i/\CF σ i=none):=fun i hl=>by
  rw[hb]at hl;cases e:src σ d nn i with
  |some j=>rw[e]at hl;exact .inl ⟨j,rfl,(Ny _ _ _).1 hl,(mA i j e).2.2.2⟩
  |none=>
   rw[e]at hl;refine .inr ⟨rfl,hl,(hg3 i e).2.2.2,?_⟩;cases e2:CF σ i with
   |none=>rfl
   |some j=>rw[je i j e2]at e;cases e
 have yi:∀j b,(h' j).live->g'.own j=some b->b<w'.heap.size/\(w.heap.size<=b\/∃i,CF σ i≠none/\(h i).live/\g.own i=some b):=fun j b hl e=>by
  obtain⟨h1,h2⟩:=q3.loc j b hl e;refine⟨h1,h2.imp id ?_⟩
  rintro⟨j',l',e'⟩
  obtain⟨i,e1,l1,o1⟩:=TJ j' l';exact⟨i,by rw[e1];simp,l1,by rw[<-o1];exact e'⟩
 have qH:∀i b,(h i).live->g.own i=some b->CF σ i=none->∀i',(h i').live->CF σ i'≠none->g.own i'≠some b:=fun i b hl e hn i' RD aV e'=>by
  obtain rfl:=hI.inj i i' b hl RD e e';exact aV hn
 refine fJ v r h' (Hr σ d nn g g') w' q1 ⟨q3.os.trans hI.os,q3.tape.trans hI.tape,q3.output.trans hI.output,AI hI.size q3.size,fun b Du hn=>?_,q3.slt,fun i=>?_,fun i i' b hl RD e e'=>?_,fun i b hl e=>?_,fun b o hs=>?_,hI.glob.keep hk⟩ ⟨hgl,Lu,hk⟩ (q2.ren hB)
 .refine(kO b (BC Du hI.size) fun i hl _ e=>?_).trans (hI.frame b Du hn);rcases(hI.loc i b hl e).2 with h1 | ⟨r',h1,h2⟩
  .omega
  .exact hn r' h1 h2
 .rw[hb];cases e:src σ d nn i with
  |some j=>
   by_cases hu:AQ h' j
   .exact(q3.objs j).ren hB ((qF i j).1 e) hu
   .have:h' j=.free:=B6.1 hu
    dsimp only;rw[this];trivial
  |none=>
   obtain⟨k1,k2,k3,k4⟩:=hg3 i e;have e2:CF σ i=none:=by
    cases e2:CF σ i with
    |none=>rfl
    |some j=>rw[je i j e2]at e;cases e
   refine(hI.objs i).same hk Lu hgl k1 k2 k3 k4 fun b hl ho=>?_;have Du:=(hI.loc i b hl ho).1;exact⟨kO b Du (qH i b hl ho e2),fun k hs=>hSs b k hs Du (qH i b hl ho e2)⟩
 .have mixed:∀i j i',(h' j).live->g'.own j=some b->(h i').live->g.own i'=some b->CF σ i'=none->i=i':=fun i j i' l1 o1 l2 o2 n2=>by
   rcases(yi j b l1 o1).2 with h1 | ⟨i3,n3,l3,o3⟩
   .have:=(hI.loc i' b l2 o2).1;omega
   .exact absurd o3 (qH i' b l2 o2 n2 i3 l3 n3)
  rcases ja i hl with ⟨j,s1,l1,o1⟩ | ⟨s1,l1,o1,n1⟩<;>rcases ja i' RD with ⟨j',s2,l2,o2⟩ | ⟨s2,l2,o2,n2⟩
  .obtain rfl:=q3.inj j j' b l1 l2 (by rw[<-o1];exact e) (by rw[<-o2];exact e');have a1:=(qF i j).1 s1;rw[(qF i' j).1 s2]at a1;cases a1;rfl
  .exact mixed i j i' l1 (by rw[<-o1];exact e) l2 (by rw[<-o2];exact e') n2
  .exact(mixed i' j' i l2 (by rw[<-o2];exact e') l1 (by rw[<-o1];exact e) n1).symm
  .exact hI.inj i i' b l1 l2 (by rw[<-o1];exact e) (by rw[<-o2];exact e')
 .rcases ja i hl with ⟨j,s1,l1,o1⟩ | ⟨s1,l1,o1,n1⟩
  .obtain⟨h1,h2⟩:=yi j b l1 (by rw[<-o1];exact e);refine⟨h1,?_⟩;rcases h2 with h2 | ⟨i3,n3,l3,o3⟩
   .exact .inl (AI hI.size h2)
   .exact(hI.loc i3 b l3 o3).2
  .obtain⟨h1,h2⟩:=hI.loc i b l1 (by rw[<-o1];exact e);exact⟨BC h1 q3.size,h2⟩
 .rcases q3.sg b o hs with h1 | h1 | ⟨j,h1,h2⟩
  .exact hI.sg b o h1
  .exact .inr (.inl (AI hI.size h1))
  .obtain⟨i,e1,l1,o1⟩:=TJ j h1;exact .inr (hI.loc i b l1 (by rw[<-o1];exact h2)).2
theorem lB(hI:D7 w0 g0 h0 h g w){d nn:Nat}(GM:(EO σ&&D4 h d nn&&DI σ d nn)=true){f:Nat}{args:List AV}{Q:AV->(Nat->HO)->Prop}(hc:Ba P f args (F4 σ h) Q){vals:Array Value}(hs:vals.size=args.length)(hv:∀(i:Nat) (av:AV) (x:Value),args[i]?=some av->vals[i]?=some x->BS (DX σ g) w (AQ (F4 σ h)) av x){R:Ending->World->Prop}(fJ:∀v r h' g2 w',Q r h'->D7 w0 g0 h0 (EA σ d nn h h') g2 w'->Le h g w (EA σ d nn h h') g2 w'->BS g2 w' (AQ (EA σ d nn h h')) (ren (FF σ d nn) h' r) v->R (.returned v) w'):Calls P f vals w R:=
 NM (C:=Calls P f vals w) (fun h k=>h.mono k) hI GM (hc.2 (DX σ g) w vals hs hv) fJ
end
end Go.Eng
