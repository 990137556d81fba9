/- Lemmas for the claims of this seat, without a condition: part 12 (EngZ, EngZ1, EngZ2). -/
import Derived.Test.YteaiieomnhbmgaaGreatDoorA11
namespace Go.Eng
variable {K:St->Prop}{st:St}{l:List Nat}{o:Oper}{σ:JA}{d:Nat}{cx:Cx}{st2:St}{d' n:Nat}(ops:Array Oper)
theorem WJ(h:∀x∈o.op.operands,ev st2.t x=ev st.t x):Fy cx o st2=Fy cx o st:=by
 obtain⟨dst,op,ty,pos,after,gd⟩:=o;cases op with
 |call c =>
  obtain⟨sW,args,Hg⟩:=c;have ha:args.toList.map (ev st2.t)=args.toList.map (ev st.t):=Bh fun x hx=>h x (by simp only[Op.operands,Call.operands,Ts];exact .inr (by simpa using hx));simp only[Fy];rw[ha];cases sW with
  |value f =>
   have hf:ev st2.t f=ev st.t f:=h f (by simp[Op.operands,Call.operands]);simp only[Hs,hf]
  |builtin b =>
   generalize args.toList.map (ev st.t)=l
   match l with
   | []=>cases b<;>rfl
   | [x]=>cases b<;>cases x<;>rfl
   | [x,y]=>cases b<;>cases x<;>rfl
   |x::_::_::_=>cases b<;>cases x<;>rfl
  |invoke r m=>rfl
 |box e x=>simp only[Fy,h x (by simp[Op.operands])]
 |buildSlice t n ps =>
  have hx:ps.toList.map (fun p=>ev st2.t p.2)=ps.toList.map (fun p=>ev st.t p.2):=Bh fun p hp=>h p.2 (by
   simp only[Op.operands,List.mem_toArray];exact Ag.2 ⟨p,hp,rfl⟩)
  simp only[Fy,hx]
 |store t p x=>simp only[Fy,h p (by simp[Op.operands]),h x (by simp[Op.operands])]
 |mapUpdate t m k x=>simp only[Fy,h m (by simp[Op.operands]),h x (by simp[Op.operands])]
 |makeFunc fn first cap =>
  have hx:cap.toList.map (ev st2.t)=cap.toList.map (ev st.t):=Bh fun x hx=>h x (by simp only[Op.operands,Ts];exact .inr (by simpa using hx));simp only[Fy,hx]
 |load t p=>simp only[Fy,h p (by simp[Op.operands])]
 |assign x=>simp only[Fy,h x (by simp[Op.operands])]
 |binOp op t x y u=>simp only[Fy,h x (by simp[Op.operands])]
 |slice t x lo hi mx=>simp only[Fy,h x (by simp[Op.operands])]
 |lookup t x i ok=>simp only[Fy,h x (by simp[Op.operands])]
 |_=>rfl
def Ld(o:Oper)(st st2:St):Prop:=∀d∈o.looksAt ops,st2.t d=st.t d
theorem Ld.operands{ops:Array Oper}{o:Oper}{st st2:St}(h:Ld ops o st st2):∀x∈o.op.operands,ev st2.t x=ev st.t x:=fun x hx=>by
 cases x with
 |tmp t=>exact h t (BC _ (List.mem_filterMap.2 ⟨.tmp t,by simpa using hx,rfl⟩))
 |_=>rfl
theorem Xa(j:Nat):KX ops.toList j=(ops[j]?).bind (·.dst):=by
 have:∀(l:List Oper) (j:Nat),KX l j=(l[j]?).bind (·.dst):=by
  intro l
  induction l with
  |nil=>intro j;simp[KX]
  |cons o l ih =>
   intro j;cases j with
   |zero=>simp[KX]
   |succ j=>simp[KX,ih]
 rw[this];simp
theorem Ld.guard{ops:Array Oper}(h:Ld ops o st st2){j:Nat}{b:Bool}(hg:o.guard=some (j,b))(hd:KX ops.toList j=some d):st2.t d=st.t d :=
 h d (Br _ (by rw[hg];simp only;rw[<-Xa,hd];simp))
def St.after(st:St)(o:Oper)(v:AV)(e:List (Nat×HO)):St:=st.put o.dst v (IG st.h e)
def QE(cx:Cx)(ops:Array Oper)(o:Oper)(st:St)(f:FJ)(v:AV)(e:List (Nat×HO)):Prop :=
 (∀r o',(r,o')∈e->Tw f.2 r/\r∈f.1)/\∀st2,Ld ops o st st2->(∀r∈f.1,st2.h r=st.h r)->∀K:St->Prop,K (st2.after o v e)->HL cx true ops.toList o st2 K
theorem Uh{ops:Array Oper}(h:Ld ops o st st2):N2 cx ops.toList o st2=N2 cx ops.toList o st:=by
 unfold N2;split
 .exact WJ h.operands
 .rename_i j want hg;split
  .rfl
  .rename_i d hd;simp only[h.guard hg hd];split<;>first | exact WJ h.operands | rfl
theorem Pd{ops:Array Oper}{f:FJ}(hk:HL cx true ops.toList o st K)(hf:N2 cx ops.toList o st=some f) :
  ∃v e,QE cx ops o st f v e/\K (st.after o v e):=by
 obtain⟨R,w⟩:=f;have skip:R=[]/\w=none->K (st.put o.dst (.v undef) st.h)->(∀st2,Ld ops o st st2->∀K:St->Prop,K (st2.put o.dst (.v undef) st2.h)->HL cx true ops.toList o st2 K)->∃v e,QE cx ops o st (R,w) v e/\K (st.after o v e):=by
  rintro⟨rfl,rfl⟩ h1 h2
  exact⟨.v undef,[],⟨fun r o' e=>(by cases e),fun st2 hl _ K h=>h2 st2 hl K h⟩,h1⟩
 have run:Fy cx o st=some (R,w)->F5 cx true o st (fun v h=>K (st.put o.dst v h))->(∀st2,Ld ops o st st2->∀K:St->Prop,F5 cx true o st2 (fun v h=>K (st2.put o.dst v h))->HL cx true ops.toList o st2 K)->∃v e,QE cx ops o st (R,w) v e/\K (st.after o v e):=by
  intro hf hk h2;obtain⟨v,e,q1,q2,q3⟩:=gq hk hf;exact⟨v,e,⟨q2,fun st2 hl hh K h=>h2 st2 hl K (q3 st2 ⟨hl.operands,hh⟩ _ h)⟩,q1⟩
 unfold HL at hk;unfold N2 at hf;cases hg:o.guard with
 |none =>
  rw[hg]at hk hf;exact run hf hk (fun st2 hl K h=>by unfold HL;rw[hg];exact h)
 |some p =>
  obtain⟨j,want⟩:=p;rw[hg]at hk hf;simp only at hk hf;cases hd:KX ops.toList j with
  |none=>rw[hd]at hk;exact hk.elim
  |some d =>
   rw[hd]at hk hf;simp only at hk hf;have he:∀st2,Ld ops o st st2->st2.t d=st.t d:=fun st2 hl=>hl.guard hg hd;generalize hx:st.t d=x at hk hf he;split at hk
   .exact run hf hk (fun st2 hl K h=>by unfold HL;simp only[hg,hd,he st2 hl];exact h)
   .exact run hf hk (fun st2 hl K h=>by unfold HL;simp only[hg,hd,he st2 hl];exact h)
   .exact skip (by cases hf;exact⟨rfl,rfl⟩) hk (fun st2 hl K h=>by unfold HL;simp only[hg,hd,he st2 hl];exact h)
   .exact skip (by cases hf;exact⟨rfl,rfl⟩) hk (fun st2 hl K h=>by unfold HL;simp only[hg,hd,he st2 hl];exact h)
   .exact skip (by cases hf;exact⟨rfl,rfl⟩) hk (fun st2 hl K h=>by unfold HL;simp only[hg,hd,he st2 hl];exact h)
   .exact hk.elim
def vR(cx:Cx)(ops:Array Oper)(FT:Nat->FJ)(i:Nat)(K:St->Prop)(st:St):Prop :=
 match ops[i]? with
 |none=>K st
 |some o=>N2 cx ops.toList o st=some (FT i)/\HL cx true ops.toList o st K
def Za(cx:Cx)(ops:Array Oper)(FT:Nat->FJ)(K:St->Prop):Nat->Array Bool->St->Prop
 |0,listed,st=>Region.ready .any ops listed=[]/\K st
 |fuel+1,listed,st =>
  (Region.ready .any ops listed=[]->K st)/\∀i∈Region.ready .any ops listed,vR cx ops FT i (Za cx ops FT K fuel (listed.setIfInBounds i true)) st
theorem jA(t:Nat->AV)(h:d'≠d)(v v' : AV):HG (HG t d v) d' v'=HG (HG t d' v') d v:=by
 funext i
 unfold HG
 by_cases h1:i=d<;>by_cases h2:i=d'
 .exact absurd (h2.symm.trans h1) h
 .subst h1;simp[CW h2]
 .subst h2;simp[CW h1]
 .simp[CW h1,CW h2]
theorem ic(t:Nat->HO)(h:d'≠d)(v v' : HO):A0 (A0 t d v) d' v'=A0 (A0 t d' v') d v:=by
 funext i
 unfold A0
 by_cases h1:i=d<;>by_cases h2:i=d'
 .exact absurd (h2.symm.trans h1) h
 .subst h1;simp[CW h2]
 .subst h2;simp[CW h1]
 .simp[CW h1,CW h2]
theorem PV(h:n∈l):Jk l n=true:=by
 induction l with
 |nil=>cases h
 |cons a l ih =>
  unfold Jk
  by_cases e:a=n
  .subst e;simp
  .rw[CW e];exact ih ((Az.1 h).resolve_left (fun q=>e q.symm))
theorem ax(h:Jk l n=true):n∈l:=by
 induction l with
 |nil=>cases h
 |cons a l ih =>
  unfold Jk at h
  by_cases e:a=n
  .exact e▸Ab ..
  .rw[CW e]at h;exact Ah _ (ih h)
theorem aM{x:Nat}(h:aK l x=true):∀r,Tw (some x) r->r∉l:=by
 intro r hc hr;unfold aK at h
 by_cases hx:x=XM
 .subst hx;rw[Di,KC]at h;cases l with
  |nil=>cases hr
  |cons a l=>cases h
 rw[CW hx,Ek]at h;simp only[Ae,CJ,CE,Cs]at h;rcases hc with rfl | ⟨h1,h2⟩ | hc
 .rw[PV hr]at h;cases h.1
 .rcases h.2 with h3 | h3
  .omega
  .rcases h2 with rfl | rfl
   .rw[PV hr]at h3;cases h3.1
   .rw[PV hr]at h3;cases h3.2
 .exact hx hc
theorem gP{a b:FJ}(h:T2 a b=true):(∀r,Tw a.2 r->r∉b.1)/\∀r,Tw b.2 r->r∉a.1:=by
 obtain⟨a1,a2⟩:=a;obtain⟨b1,b2⟩:=b;simp only[T2,Ae]at h;refine⟨fun r e=>?_,fun r e=>?_⟩
 .cases a2 with
  |none=>exact e.elim
  |some x=>exact aM h.1 r e
 .cases b2 with
  |none=>exact e.elim
  |some x=>exact aM h.2 r e
section
variable {cx:Cx}{ops:Array Oper}{FT:Nat->FJ}
theorem Si{oi oj:Oper}(h:∀d,oi.dst=some d->d∉oj.looksAt ops)(st:St)(v:AV)(e:List (Nat×HO)):Ld ops oj st (st.after oi v e):=by
 intro d hd;cases hdst:oi.dst with
 |none=>simp[St.after,St.put,hdst]
 |some d' =>
  have:d≠d':=fun q=>h d' hdst (q▸hd)
  simp[St.after,St.put,hdst,HG,CW this]
theorem Ld.symm{o:Oper}{st st2:St}(h:Ld ops o st st2):Ld ops o st2 st:=fun d hd=>(h d hd).symm
theorem eu{o:Oper}{v:AV}{e:List (Nat×HO)}:(st.after o v e).h=IG st.h e:=by
 unfold St.after St.put;cases o.dst<;>rfl
theorem QO{r:Nat}:∀{e:List (Nat×HO)} {h:Nat->HO},(∀o',(r,o')∉e)->IG h e r=h r
 | [],_,_=>rfl
 |p::e,h,hr=>by
  have:r≠p.1:=fun q=>hr p.2 (by rw[q];exact Ab ..)
  show IG (A0 h p.1 p.2) e r=h r;rw[QO fun o' ho=>hr o' (Ah _ ho),B6 _ _ _ _ this]
theorem Zv{r:Nat}{o:HO}:∀{e:List (Nat×HO)} {h:Nat->HO},(∀r' o',(r',o')∈e->r'≠r)->IG (A0 h r o) e=A0 (IG h e) r o
 | [],_,_=>rfl
 |p::e,h,hr=>by
  show IG (A0 (A0 h r o) p.1 p.2) e=A0 (IG (A0 h p.1 p.2) e) r o;rw[ic h (hr p.1 p.2 (Ab ..)),Zv fun r' o' ho=>hr r' o' (Ah _ ho)]
theorem WF:∀{e e' : List (Nat×HO)} {h:Nat->HO},(∀r o r' o',(r,o)∈e->(r',o')∈e'->r'≠r)->IG (IG h e) e'=IG (IG h e') e
 | [],_,_,_=>rfl
 |p::e,e',h,hd=>by
  show IG (IG (A0 h p.1 p.2) e) e'=IG (A0 (IG h e') p.1 p.2) e;rw[<-Zv fun r' o' ho=>hd p.1 p.2 r' o' (Ab ..) ho,WF fun r o r' o' h1 h2=>hd r o r' o' (Ah _ h1) h2]
theorem bI{oi oj:Oper}{v v' : AV}{e e' : List (Nat×HO)}(h1:∀d,oi.dst=some d->oj.dst≠some d)(h2:∀r o r' o',(r,o)∈e->(r',o')∈e'->r'≠r) :
  (st.after oi v e).after oj v' e'=(st.after oj v' e').after oi v e:=by
 have hh:IG (IG st.h e) e'=IG (IG st.h e') e:=WF h2;have key:∀o:Oper,∀v e,∀st:St,st.after o v e=⟨match o.dst with | none=>st.t | some d=>HG st.t d v,IG st.h e⟩:=fun o v e st=>by
  unfold St.after St.put;cases o.dst<;>rfl
 rw[key,key,key,key];simp only[hh];cases hi:oi.dst with
 |none=>rfl
 |some d =>
  cases hj:oj.dst with
  |none=>rfl
  |some d' =>
   have Dy:d'≠d:=fun q=>h1 d hi (by rw[hj,q]);simp only[jA st.t Dy v v']
theorem bG{i:Nat}{oi:Oper}{v:AV}{e:List (Nat×HO)}(hi:ops[i]?=some oi)(D:Nat->Prop)(hD:∀j,D j->∃oj,ops[j]?=some oj/\∃ed∈oj.after,Region.binds .any ed=true/\(ed.on=i\/D ed.on)) :
  ∀(fuel:Nat) (listed:Array Bool) (st:St),
   (∀j oj,ops[j]?=some oj->j≠i->listed.getD j true=false->¬D j->oi.apart ops oj=true/\T2 (FT i) (FT j)=true) ->
   i∈Region.ready .any ops listed->(∀j,D j->listed.getD j true=false)->N2 cx ops.toList oi st=some (FT i)->QE cx ops oi st (FT i) v e ->
   Za cx ops FT K fuel (listed.setIfInBounds i true) (st.after oi v e)->Za cx ops FT K (fuel+1) listed st:=by
 have here:∀(fuel:Nat) (listed:Array Bool) (st:St),N2 cx ops.toList oi st=some (FT i)->QE cx ops oi st (FT i) v e ->
   Za cx ops FT K fuel (listed.setIfInBounds i true) (st.after oi v e)->vR cx ops FT i (Za cx ops FT K fuel (listed.setIfInBounds i true)) st:=by
  intro fuel listed st hf hy H;unfold vR;rw[hi];exact⟨hf,hy.2 st (fun _ _=>rfl) (fun _ _=>rfl) _ H⟩
 intro fuel
 induction fuel with
 |zero =>
  intro listed st _ hr _ hf hy H;refine⟨fun h=>(by rw[h]at hr;cases hr),fun j hj=>?_⟩
  by_cases JG:j=i
  .subst JG;exact here 0 listed st hf hy H
  .have:=ready_mono hj JG
   rw[H.1]at this;cases this
 |succ fuel ih =>
  intro listed st Af hr hDl hf hy H;refine⟨fun h=>(by rw[h]at hr;cases hr),fun j hj=>?_⟩
  by_cases JG:j=i
  .subst JG;exact here (fuel+1) listed st hf hy H
  .have h1:=H.2 j (ready_mono hj JG);obtain⟨xk,oj,py,Gw⟩:=mem_ready.1 hj;have wG:∀k,listed.getD k true=false->listed.getD k false=true->False:=fun k h0 h1=>by
    rcases DQ k listed.size with h' | h'
    .simp[h']at h0 h1;rw[h0]at h1;cases h1
    .simp[Array.getElem?_eq_none h']at h1
   have zL:¬D j:=fun zz=>by
    obtain⟨oj',rC,ed,he,hb,hon⟩:=hD j zz;rw[py]at rC;cases rC;have hl:=Gw ed he hb;rcases hon with h2 | h2
    .exact wG _ (by rw[h2];exact(mem_ready.1 hr).1) hl
    .exact wG _ (hDl _ h2) hl
   obtain⟨wW,zz⟩:=Af j oj py JG xk zL;obtain⟨a1,a2,a3⟩:=Oper.apart_spec wW;obtain⟨d1,d2⟩:=gP zz;unfold vR at h1⊢;rw[py]at h1⊢;obtain⟨hfj,hkj⟩:=h1;have hlj:=Si (ops:=ops) a1 st v e;obtain⟨vj,ej,hyj,hK⟩:=Pd hkj hfj;have he1:∀r o',(r,o')∈e->r∉(FT j).1:=fun r o' q=>d1 r (hy.1 r o' q).1;have og:∀r o',(r,o')∈ej->r∉(FT i).1:=fun r o' q=>d2 r (hyj.1 r o' q).1;refine⟨by rw[<-Uh hlj];exact hfj,hyj.2 st hlj.symm (fun r pB=>?_) _ ?_⟩
   .rw[eu,QO (fun o' q=>he1 r o' q pB)]
   .have hli:=Si (ops:=ops) a3 st vj ej;refine ih (listed.setIfInBounds j true) (st.after oj vj ej) (fun k ok hk hki pG NO=>?_) (ready_mono hr (Ne.symm JG)) (fun k hk=>?_) (by rw[Uh hli];exact hf) ⟨hy.1,fun st2 hl hh K' h'=>?_⟩ ?_
    .by_cases pv:j=k
     .subst pv;exact Af _ ok hk hki xk NO
     .rw[getD_set_ne true pv]at pG;exact Af k ok hk hki pG NO
    .by_cases pv:j=k
     .subst pv;exact absurd hk zL
     .rw[getD_set_ne true pv];exact hDl k hk
    .refine hy.2 st2 (fun d hd=>(hl d hd).trans (hli d hd)) (fun r pB=>?_) K' h';rw[hh r pB,eu,QO (fun o' q=>og r o' q pB)]
    .rw[Array.setIfInBounds_comm _ _ (Ne.symm JG)]at hK;rw[<-bI a2 (fun r o r' o' q q' e2=>og r' o' q' (by rw[e2];exact(hy.1 r o q).2))];exact hK
def sd(cx:Cx)(ops:Array Oper)(K:St->Prop):List Oper->List FJ->St->Prop
 | [],[],st=>K st
 |o::r,f::fs,st=>N2 cx ops.toList o st=some f/\∃v e,QE cx ops o st f v e/\sd cx ops K r fs (st.after o v e)
 |_,_,_=>False
theorem TH{K:St->Prop}:∀(l:List Oper) (acc:List FJ) (st:St),Ze cx ops l acc st K->∃fs,T3 ops (acc.reverse++fs)=true/\sd cx ops K l fs st
 | [],acc,st,h=>⟨[],by simpa using h.1,h.2⟩
 |o::r,acc,st,h=>by
  unfold Ze at h;split at h
  .rename_i f hf;obtain⟨v,e,h1,h2⟩:=Pd h hf;obtain⟨fs,q1,q2⟩:=TH r _ _ h2;exact⟨f::fs,by simpa using q1,hf,v,e,h1,q2⟩
  .exact h.elim
theorem Yj{o:Oper}{i:Nat}{D:List Nat}(h:PN o i D=true):∃ed∈o.after,Region.binds .any ed=true/\(ed.on=i\/ed.on∈D):=by
 unfold PN at h;obtain⟨ed,h1,h2⟩:=Bd.1 h;simp only[Ae,CJ]at h2;exact⟨ed,by simpa using h1,h2.1,h2.2.imp AK ax⟩
theorem Vm{i:Nat}{D:List Nat}:∀(l:List Oper) (k:Nat),Vl i D k l=true->∀j o,l[j]?=some o->k+j∈D->PN o i D=true
 | [],_,_,_,_,h,_=>by simp at h
 |o::l,k,hs,j,o',h,hm=>by
  simp only[Vl,Ae]at hs;cases j with
  |zero =>
   simp only[Be,Bw]at h;subst h;have h1:=hs.1;rw[PV (by simpa using hm)]at h1;simpa using h1
  |succ j=>exact Vm l (k+1) hs.2 j o' (by simpa using h) (by rw[GW,Nat.add_comm 1 j];exact hm)
theorem Wl{oi:Oper}{fi:FJ}{D:List Nat}:∀(l:List Oper) (fs:List FJ) (k:Nat),I0 ops oi fi D k l fs=true->l.length=fs.length/\∀j o f,l[j]?=some o->fs[j]?=some f->k+j∉D->oi.apart ops o=true/\T2 fi f=true
 | [],[],_,_=>⟨rfl,fun _ _ _ h=>by simp at h⟩
 | [],_::_,_,h=>by simp[I0]at h
 |_::_,[],_,h=>by simp[I0]at h
 |o::l,f::fs,k,h=>by
  simp only[I0,Ae,CJ]at h;obtain⟨h1,h2⟩:=Wl l fs (k+1) h.2;refine⟨by simp[h1],fun j o' f' q1 q2 hn=>?_⟩;cases j with
  |zero =>
   simp only[Be,Bw]at q1 q2;subst q1;subst q2;rcases h.1 with h3 | h3
   .exact absurd (ax h3) hn
   .exact h3
  |succ j=>exact h2 j o' f' (by simpa using q1) (by simpa using q2) (by simpa[Nat.add_assoc,Nat.add_comm 1 j]using hn)
theorem Zb{K:St->Prop}:∀(l:List Oper) (fs:List FJ) (k:Nat) (listed:Array Bool) (st:St),(∀j,l[j]?=ops[k+j]?)->(∀j f,fs[j]?=some f->FT (k+j)=f)->listed.size=ops.size ->
  (∀j,j<ops.size->listed.getD j true=decide (j<k))->MM ops ops.toList k l fs=true->sd cx ops K l fs st->Za cx ops FT K l.length listed st
 | [],[],k,listed,st,hl,_,hs,hL,_,h=>by
  refine⟨?_,h⟩;apply Mt.2;intro j hj;obtain⟨h1,o,ho,_⟩:=mem_ready.1 hj;have Dz:=(Bp.1 ho).1;rw[hL j Dz]at h1;have vE:k<=j:=by simpa using h1
  have:=hl (j-k)
  rw[show k+(j-k)=j by omega,ho]at this;simp at this
 | [],_::_,_,_,_,_,_,_,_,h,_=>by simp[MM]at h
 |_::_,[],_,_,_,_,_,_,_,h,_=>by simp[MM]at h
 |o::l,f::fs,k,listed,st,hl,hF,hs,hL,hg,h=>by
  simp only[MM,Ae]at hg;obtain⟨⟨⟨⟨g1,g2⟩,g3⟩,g4⟩,g5⟩:=hg;obtain⟨hf,v,e,hy,hp⟩:=h;have h0:ops[k]?=some o:=by simpa using(hl 0).symm
  have hk:=(Bp.1 h0).1;have hFk:FT k=f:=by simpa using hF 0 f rfl
  have QU : ∀j,l[j]?=ops[k+1+j]?:=fun j=>by have:=hl (j+1);simpa[Nat.add_assoc,Nat.add_comm 1 j]using this
  have vv : ∀j f,fs[j]?=some f->FT (k+1+j)=f:=fun j f' hj=>by have:=hF (j+1) f' (by simpa using hj);simpa[Nat.add_assoc,Nat.add_comm 1 j]using this
  obtain⟨CL,wW⟩:=Wl l fs (k+1) g4;have d9:∀j,j∈QM k [] 0 ops.toList->k<j/\j<ops.size:=fun j hj=>by
   have:=(Bc.1 g3) j hj
   simp only[Ae,Cs,BS]at this;exact this
  refine bG h0 (fun j=>j∈QM k [] 0 ops.toList) (fun j hj=>?_) l.length listed st (fun j oj py pv pG zL=>?_) ?_ (fun j hj=>?_) (by rw[hFk];exact hf) (by rw[hFk];exact hy) ?_
  .have Dz:=(d9 j hj).2
   have:=Vm ops.toList 0 g2 j ops[j] (by simp[Dz]) (by simpa using hj)
   obtain⟨ed,e1,e2,e3⟩:=Yj this;exact⟨ops[j],by simp[Dz],ed,e1,e2,e3⟩
  .have Dz:=(Bp.1 py).1;rw[hL j Dz]at pG;have vE:k<j:=by have q:k<=j:=(by simpa using pG);omega
   have e1:l[j-(k+1)]?=some oj:=by rw[QU,show k+1+(j-(k+1))=j by omega];exact py
   have hfl:j-(k+1)<fs.length:=by rw[<-CL];exact(Au.1 e1).1
   have e2:fs[j-(k+1)]?=some fs[j-(k+1)]:=Ay hfl;have e3:=vv _ _ e2;rw[show k+1+(j-(k+1))=j by omega]at e3;rw[hFk,e3];exact wW _ _ _ e1 e2 (by rw[show k+1+(j-(k+1))=j by omega];exact zL)
  .refine mem_ready.2 ⟨by rw[hL k hk];simp,o,h0,fun ed he hb=>?_⟩
   have:=(Bc.1 g1) ed (by simpa using he)
   simp only[hb,Bool.not_true,MB,Cs]at this;have h1:=hL ed.on ch;have Dz:ed.on<listed.size:=by omega
   simp[Dz]at h1⊢;rw[h1];simpa using this
  .have:=d9 j hj
   rw[hL j this.2];simp;omega
  .refine Zb l fs (k+1) _ _ QU vv (by simp[hs]) (fun j hj=>?_) g5 hp
   by_cases pv:j=k
   .subst pv
    have:j<listed.size:=by omega
    simp[this]
   .rw[getD_set_ne true (Ne.symm pv),hL j hj]
    by_cases h1:j<k
    .simp[h1];omega
    .simp[h1];omega
theorem gm(h:Ze cx ops ops.toList [] st K):Region.noSelect ops=true/\∃FT,Za cx ops FT K ops.size (Array.replicate ops.size false) st:=by
 obtain⟨fs,h1,h2⟩:=TH _ _ _ h;simp only[T3,List.reverse_nil,FL,Ae]at h1;refine⟨h1.1,fun j=>fs.getD j default,?_⟩
 have:=Zb (FT:=fun j=>fs.getD j default) ops.toList fs 0 (Array.replicate ops.size false) st B0 (fun j f hj=>by simp[hj]) B0 (fun j hj=>by simp[hj]) h1.2 h2
 simpa using this
end
theorem Yr:∀{σ:JA},Hd σ=true->∀i j,CC σ i=some j↔Ip σ j=some i
 | [],_,i,j=>by simp[CC,Ip]
 |(a,b)::r,h,i,j=>by
  simp only[Hd,Ae]at h;obtain⟨h1,h2⟩:=h;have ih:=Yr h2;have cw:CC r a=none/\Ip r b=none:=by
   split at h1
   .rename_i e1 e2;exact⟨e1,e2⟩
   .cases h1
  unfold CC Ip
  by_cases e1:a=i<;>by_cases e2:b=j
  .subst e1;subst e2;simp
  .subst e1;simp only[Di,KC,CW e2,Ek];constructor
   .intro h;cases h;exact absurd rfl e2
   .intro h;rw[(ih a j).2 h]at cw;cases cw.1
  .subst e2;simp only[Di,KC,CW e1,Ek];constructor
   .intro h;rw[(ih i b).1 h]at cw;cases cw.2
   .intro h;cases h;exact absurd rfl e1
  .simp only[CW e1,CW e2,Ek];exact ih i j
theorem mH:∀{σ:JA},ED σ=true->Hd σ=true
 | [],_=>rfl
 |(a,b)::r,h=>by
  simp only[ED,Ae]at h;simp only[Hd,Ae];exact⟨h.1.1.1,mH h.2⟩
theorem YG(h:ED σ=true):∀i j,CC σ i=some j↔Ip σ j=some i:=Yr (mH h)
theorem Xg:∀{σ:JA},ED σ=true->∀{i j},CC σ i=some j->1000<=j/\j<2000
 | [],_,i,j,h=>by simp[CC]at h
 |(a,b)::r,h,i,j,hf=>by
  simp only[ED,Ae,Dm,Cs]at h;unfold CC at hf
  by_cases e1:a=i
  .subst e1;simp only[Di,KC]at hf;cases hf;exact⟨h.1.1.2,h.1.2⟩
  .simp only[CW e1,Ek]at hf;exact Xg h.2 hf
theorem Qj(f:Nat->Option Nat)(h:Nat->HO):∀(σ:JA) (j:Nat),Ao (YF f h σ) Af j=match Ip σ j with | some i=>(h i).ren f h | none=>.free
 | [],j=>rfl
 |(a,b)::r,j=>by
  unfold YF Ao Ip
  by_cases e:b=j
  .subst e;simp
  .simp only[CW e,CW (Ne.symm e),Ek];exact Qj f h r j
structure Li(f:Nat->Option Nat)(h h2:Nat->HO)(g g2:Gh)(w:World):Prop where
 ids:∀r r',f r=some r'->AQ h r->g2.tk r'=g.tk r/\g2.ln r'=g.ln r/\g2.ρ r'=g.ρ r/\g2.own r'=g.own r/\AQ h2 r'
 S:∀b o,g2.S b o↔g.S b o
 objs:∀r,Ep g w (AQ h) r (h r)
section
variable {f:Nat->Option Nat}{h h2:Nat->HO}{g g2:Gh}{w:World}
theorem Li.keeps(hR:Li f h h2 g g2 w):EH g w g2 w:=fun b o hs=>⟨(hR.S b o).2 hs,rfl,fun _ _ e=>e⟩
theorem Li.noU(hR:Li f h h2 g g2 w){av:AV}{x:Value}(r:BM g w Fw av x):BM g2 w (AQ h2) av x:=r.mono hR.keeps (fun _ h=>h.elim) (fun _ h=>h.elim)
theorem BM.ren0(hR:Li f h h2 g g2 w){av:AV}{x:Value}(r:BM g w (AQ h) av x):BM g2 w (AQ h2) (ren0 f h av) x:=by
 have down:BM g2 w (AQ h2) (Eng.str0 h av) x:=hR.noU (BM.str0 hR.objs r);cases av with
 |v y=>exact down
 |slice tk es =>
  cases tk with
  |none=>exact down
  |full sz=>exact down
  |id i sz =>
   simp only[Eng.ren0];split
   .rename_i i' e;cases r with
    |tok _ _ _ _ _ hs hl hu ht hn hx =>
     obtain⟨k1,k2,k3,k4,k5⟩:=hR.ids i i' e hu;exact .tok _ i' sz es x (hR.noU (BM.slice_none hs)) hl k5 (k1.trans ht) ch (fun q=>by rw[k3];exact hx ch)
   .exact hR.noU r.slice_none
  |ver i sz v =>
   simp only[Eng.ren0];split
   .rename_i i' e;cases r with
    |ver _ _ _ _ _ _ hs hl hu ht hn hx =>
     obtain⟨k1,k2,k3,k4,k5⟩:=hR.ids i i' e hu;exact .ver _ i' sz v es x (hR.noU (BM.slice_none hs)) hl k5 (k1.trans ht) ch (fun q=>by rw[k3];exact hx ch)
   .exact hR.noU r.slice_none
 |msl i n =>
  simp only[Eng.ren0];split
  .rename_i i' e;cases r with
   |msl _ _ _ a cap hu ht hn ha hx =>
    obtain⟨k1,k2,k3,k4,k5⟩:=hR.ids i i' e hu;exact .msl _ i' n a cap k5 (k1.trans ht) ch ha (fun q=>by rw[k3];exact hx ch)
  .exact .junk _ _
 |agg cs=>exact down
 |tup cs=>exact down
 |cptr cs=>exact down
 |ref i off =>
  simp only[Eng.ren0];split
  .rename_i i' e;cases r with
   |ref _ _ _ b hu ht hx =>
    obtain⟨k1,k2,k3,k4,k5⟩:=hR.ids i i' e hu;exact .ref _ i' off b k5 (k1.trans ht) (k3.trans hx)
  .exact down
 |eref i n sz k off =>
  simp only[Eng.ren0];split
  .rename_i i' e;cases r with
   |eref _ _ _ _ _ _ b cap hu ht hn hx =>
    obtain⟨k1,k2,k3,k4,k5⟩:=hR.ids i i' e hu;exact .eref _ i' n sz k off b cap k5 (k1.trans ht) ⟨hn.1,by omega⟩ (fun q=>by rw[k3];exact hx ch)
  .exact .junk _ _
 |mref i =>
  simp only[Eng.ren0];split
  .rename_i i' e;cases r with
   |mref _ _ b hu ht hx =>
    obtain⟨k1,k2,k3,k4,k5⟩:=hR.ids i i' e hu;exact .mref _ i' b k5 (k1.trans ht) (k3.trans hx)
  .exact down
 |cmap sh B7=>exact down
 |clo i cs=>exact down
 |junk=>exact down
theorem BM.ren1(hR:Li f h h2 g g2 w){av:AV}{x:Value}(r:BM g w (AQ h) av x):BM g2 w (AQ h2) (ren1 f h av) x:=by
 cases av with
 |agg cs =>
  cases r with
  |agg _ _ vs hs h1 hr =>
   exact .agg _ _ vs (by simp[hs]) h1 fun i av x q1 q2=>by
    rw[AG]at q1;obtain⟨a,q3,rfl⟩:=AS.1 q1;exact(hr i a x q3 q2).ren0 hR
 |clo i cs =>
  cases r with
  |clo _ _ _ vs hs hr =>
   exact .clo _ _ _ vs (by simp[hs]) fun i av x q1 q2=>by
    rw[AG]at q1;obtain⟨a,q3,rfl⟩:=AS.1 q1;exact(hr i a x q3 q2).ren0 hR
 |_=>exact r.ren0 hR
theorem BM.ren(hR:Li f h h2 g g2 w){av:AV}{x:Value}(r:BM g w (AQ h) av x):BM g2 w (AQ h2) (ren f h av) x:=by
 cases av with
 |tup cs =>
  cases r with
  |tup _ _ vs hs hr =>
   exact .tup _ _ vs (by simp[hs]) fun i av x q1 q2=>by
    rw[AG]at q1;obtain⟨a,q3,rfl⟩:=AS.1 q1;exact(hr i a x q3 q2).ren1 hR
 |_=>exact r.ren1 hR
theorem M7(f:Nat->Option Nat)(h:Nat->HO)(o:HO):(o.ren f h).live↔o.live:=by cases o<;>exact RH
theorem M8(f:Nat->Option Nat)(h:Nat->HO)(o:HO):o.ren f h≠.free↔o≠.free:=by cases o<;>simp[HO.ren]
theorem Ep.ren(hR:Li f h h2 g g2 w){i j:Nat}(PO:f i=some j)(hu:AQ h i){o:HO}(r:Ep g w (AQ h) i o):Ep g2 w (AQ h2) j (o.ren f h):=by
 obtain⟨k1,k2,k3,k4,k5⟩:=hR.ids i j PO hu;have noL:∀{cs:List AV} {vs:List Value},CO g w Fw cs vs->CO g2 w Fw cs vs:=fun hr=>hr.mono hR.keeps (fun _ h=>h) (fun _ h=>h.elim);have zU:∀{av:AV} {x:Value},BM g w Fw av x->BM g2 w Fw av x:=fun hr=>hr.mono hR.keeps (fun _ h=>h) (fun _ h=>h.elim);cases o with
 |free=>trivial
 |dead=>trivial
 |cells cs =>
  obtain⟨t,b,E,vs,a1,a2,a3,a4,a5⟩:=r;refine⟨k1.trans t,b,E,vs,k4.trans a1,k3.trans a2,a3,⟨by simp[a4.1],a4.2.1,fun i av x q1 q2=>?_⟩,fun o ho=>a5 o ((hR.S b o).1 ho)⟩;rw[AG]at q1;obtain⟨a,q3,rfl⟩:=AS.1 q1;exact(a4.2.2 i a x q3 q2).ren1 hR
 |ro cs =>
  obtain⟨t,b,a1,a2⟩:=r;exact⟨k1.trans t,b,k3.trans a1,zU a2⟩
 |tok sz n =>
  obtain⟨t,l,a,cap,a1,a2⟩:=r;refine⟨k1.trans t,k2.trans l,a,cap,k3.trans a1,?_⟩;rcases a2 with ⟨b1,b2⟩ | ⟨b1,b,E,vs,off,b2,b3,b4,b5,b6⟩
  .exact .inl ⟨b1,k4.trans b2⟩
  .exact .inr ⟨b1,b,E,vs,off,b2,k4.trans b3,b4,b5,fun o ho=>b6 o ((hR.S b o).1 ho)⟩
 |var sz v n =>
  obtain⟨t,l,a,cap,a1,a2⟩:=r;refine⟨k1.trans t,k2.trans l,a,cap,k3.trans a1,?_⟩;rcases a2 with ⟨b1,b2⟩ | ⟨b1,b,E,vs,off,b2,b3,b4,b5,b6⟩
  .exact .inl ⟨b1,k4.trans b2⟩
  .exact .inr ⟨b1,b,E,vs,off,b2,k4.trans b3,b4,b5,fun o ho=>b6 o ((hR.S b o).1 ho)⟩
 |vox v=>exact⟨k1.trans r.1,k2.trans r.2⟩
 |hol sz es i c av =>
  obtain⟨t,l,al,b,cap,E,vs,b1,b2,b3,b4,b5,b6,b7,b8,x,b9,Wp⟩:=r;exact⟨k1.trans t,k2.trans l,al,b,cap,E,vs,k3.trans b1,k4.trans b2,b3,b4,b5,noL b6,fun o ho=>b7 o ((hR.S b o).1 ho),b8,x,b9,Wp.ren1 hR⟩
 |raw b ob =>
  obtain⟨t,a1,a2,a3,a4⟩:=r;exact⟨k1.trans t,k4.trans a1,a2,a3,fun o ho=>a4 o ((hR.S b o).1 ho)⟩
 |arr sz es =>
  obtain⟨t,l,al,a2⟩:=r;refine⟨k1.trans t,k2.trans l,al,?_⟩;rcases a2 with ⟨b1,b2,b3⟩ | ⟨b,cap,E,vs,b1,b2,b3,b4,b5,b6,b7⟩
  .exact .inl ⟨b1,k3.trans b2,k4.trans b3⟩
  .exact .inr ⟨b,cap,E,vs,k3.trans b1,k4.trans b2,b3,b4,b5,noL b6,fun o ho=>b7 o ((hR.S b o).1 ho)⟩
 |map sh B7 =>
  obtain⟨t,b,es,ck,a1,a2,a3,a4,a5,a6⟩:=r;exact⟨k1.trans t,b,es,ck,k4.trans a1,k3.trans a2,a3,a4,fun i kv e q1 q2=>zU (a5 i kv e q1 q2),fun o ho=>a6 o ((hR.S b o).1 ho)⟩
 |mapU sh B7 =>
  obtain⟨t,b,es,ck,a1,a2,a3,a4,a5,a6⟩:=r;refine⟨k1.trans t,b,es,ck,k4.trans a1,k3.trans a2,a3,WW _ a4,fun i kv e q1 q2=>?_,fun o ho=>a6 o ((hR.S b o).1 ho)⟩;rw[AG]at q1;obtain⟨p,q3,rfl⟩:=AS.1 q1;exact(a5 i p e q3 q2).ren1 hR
 |rom sh B7 =>
  obtain⟨t,b,a1,a2⟩:=r;exact⟨k1.trans t,b,k3.trans a1,zU a2⟩
 |iter all rem EC =>
  obtain⟨t,b,mb,KL,seen,st,es,ck,a1,a2,a3,a4,a5,a6,a7,a8,a9,Y9,dJ,a12,si⟩:=r;exact⟨k1.trans t,b,mb,KL,seen,st,es,ck,k4.trans a1,k3.trans a2,a3,(hR.S _ _).2 a4,a5,a6,a7,a8,fun i kv e q1 q2=>zU (a9 i kv e q1 q2),Y9,dJ,a12,fun o ho=>si o ((hR.S b o).1 ho)⟩
end
theorem PY{h:Nat->HO}{d:Nat}:∀{n:Nat},DU h d n=true->∀k,k<n->h (BD d k)=.free
 |0,_,k,hk=>by omega
 |n+1,hf,k,hk=>by
  simp only[DU,Ae]at hf
  by_cases e:k=n
  .subst e
   have:=hf.1
   split at this
   .rename_i e2;exact e2
   .cases this
  .exact PY hf.2 k ch
theorem N7{d nn:Nat}:∀{σ:JA},DA σ d nn=true->∀{i j},CC σ i=some j->¬(BD d 0<=i/\i<BD d nn)
 | [],_,i,j,h=>by simp[CC]at h
 |(a,b)::r,hs,i,j,hf=>by
  simp only[DA,Ae]at hs;unfold CC at hf
  by_cases e1:a=i
  .subst e1;have h1:=hs.1;simp only[CE,Md]at h1;intro hc;rcases h1 with h1 | h1
   .rw[Nat.ble_eq_true_of_le hc.1]at h1;cases h1
   .have h2:Nat.blt a (BD d nn)=true:=by rw[Cs];exact hc.2
    rw[h2]at h1;cases h1
  .simp only[CW e1,Ek]at hf;exact N7 hs.2 hf
section
variable {P:Program}{w0:World}{g0:Gh}{h0 h:Nat->HO}{g:Gh}{w:World}
def DM(σ:JA)(g:Gh):Gh :=
 ⟨fun j=>match Ip σ j with | some i=>g.ρ i | none=>.nilIface,fun j=>match Ip σ j with | some i=>g.ln i | none=>0,fun j=>match Ip σ j with | some i=>g.tk i | none=>false,
  fun j=>match Ip σ j with | some i=>g.own i | none=>none,g.S⟩
def src(σ:JA)(d nn:Nat)(i:Nat):Option Nat :=
 match CC σ i with
 |some j=>some j
 |none=>match Nat.ble (BD d 0) i&&Nat.blt i (BD d nn)with |true=>some (2000+(i-BD d 0)) |false=>none
def Hb(σ:JA)(d nn:Nat)(g g' : Gh):Gh :=
 ⟨fun i=>match src σ d nn i with | some j=>g'.ρ j | none=>g.ρ i,fun i=>match src σ d nn i with | some j=>g'.ln j | none=>g.ln i,fun i=>match src σ d nn i with | some j=>g'.tk j | none=>g.tk i,
  fun i=>match src σ d nn i with | some j=>g'.own j | none=>g.own i,g'.S⟩
theorem gz(σ:JA)(d nn:Nat)(h h' : Nat->HO)(i:Nat):En σ d nn h h' i=match src σ d nn i with | some j=>(h' j).ren (Fq σ d nn) h' | none=>h i:=by
 unfold En src;cases CC σ i with
 |some j=>rfl
 |none =>
  dsimp only;cases Nat.ble (BD d 0) i&&Nat.blt i (BD d nn)<;>rfl
theorem nk{d nn:Nat}(hσ:ED σ=true)(ha:DA σ d nn=true)(i j:Nat):src σ d nn i=some j↔Fq σ d nn j=some i:=by
 have inv:=YG hσ;unfold src Fq;cases h1:CC σ i with
 |some j' =>
  have hb:=(inv i j').1 h1;dsimp only;constructor
  .intro h;cases h;rw[hb]
  .intro h;cases h2:Ip σ j with
   |some i'=>rw[h2]at h;cases h;rw[(inv i j).2 h2]at h1;exact h1.symm
   |none =>
    rw[h2]at h;dsimp only at h;split at h
    .rename_i hc;have h:=CK h;subst h;simp only[Ae,Dm,Cs]at hc;exact absurd ⟨by unfold BD;omega,by unfold BD;omega⟩ (N7 ha h1)
    .cases h
 |none =>
  dsimp only;cases h2:Ip σ j with
  |some i' =>
   dsimp only;have hf:=(inv i' j).2 h2;have hr:=Xg hσ hf;constructor
   .intro h;split at h
    .cases h;omega
    .cases h
   .intro h;cases h;rw[hf]at h1;cases h1
  |none =>
   dsimp only;constructor
   .intro h;split at h
    .rename_i hc;cases h;simp only[Ae,Dm,Cs]at hc;have e1:(Nat.ble 2000 (2000+(i-BD d 0))&&Nat.blt (2000+(i-BD d 0)) (2000+nn))=true:=by
      simp only[Ae,Dm,Cs];unfold BD at hc⊢;omega
     rw[e1]
     have:BD d (2000+(i-BD d 0)-2000)=i:=by unfold BD at hc⊢;omega
     rw[this]
    .cases h
   .intro h;split at h
    .rename_i hc;have h:=CK h;subst h;simp only[Ae,Dm,Cs]at hc;have e1:(Nat.ble (BD d 0) (BD d (j-2000))&&Nat.blt (BD d (j-2000)) (BD d nn))=true:=by
      simp only[Ae,Dm,Cs];unfold BD;omega
     rw[e1]
     have:2000+(BD d (j-2000)-BD d 0)=j:=by unfold BD;omega
     rw[this]
    .cases h
theorem Yh(hI:DX w0 g0 h0 h g w)(hσ:ED σ=true):Li (CC σ) h (FO σ h) g (DM σ g) w/\DX w (DM σ g) (FO σ h) (FO σ h) (DM σ g) w:=by
 have inv:=YG hσ;have Fz:∀j,FO σ h j=match Ip σ j with | some i=>(h i).ren (CC σ) h | none=>.free:=Qj _ _ σ
 have hR:Li (CC σ) h (FO σ h) g (DM σ g) w:=by
  refine⟨fun r r' hr hu=>?_,fun b o=>RH,hI.objs⟩;have hb:=(inv r r').1 hr;refine⟨by simp[DM,hb],by simp[DM,hb],by simp[DM,hb],by simp[DM,hb],?_⟩;unfold AQ;rw[Fz,hb];exact(M8 _ _ _).2 hu
 have J5:∀j,(FO σ h j).live->∃i,Ip σ j=some i/\(h i).live:=fun j hl=>by
  rw[Fz]at hl;cases e:Ip σ j with
  |none=>rw[e]at hl;exact hl.elim
  |some i=>rw[e]at hl;exact⟨i,rfl,(M7 _ _ _).1 hl⟩
 have Yn:∀j i,Ip σ j=some i->(DM σ g).own j=g.own i:=fun j i e=>by simp[DM,e]
 refine⟨hR,rfl,rfl,rfl,Aj _,fun _ _ _=>rfl,hI.slt,fun j=>?_,fun j j' b hl QU e e'=>?_,fun j b hl e=>?_,fun _ _ h=>.inl h,hI.glob⟩
 .rw[Fz];cases e:Ip σ j with
  |none=>trivial
  |some i =>
   by_cases hu:AQ h i
   .exact(hI.objs i).ren hR ((inv i j).2 e) hu
   .have:h i=.free:=B3.1 hu
    dsimp only;rw[this];trivial
 .obtain⟨i,e1,l1⟩:=J5 j hl;obtain⟨i',e2,l2⟩:=J5 j' QU;rw[Yn j i e1]at e;rw[Yn j' i' e2]at e';obtain rfl:=hI.inj i i' b l1 l2 e e'
  have:=(inv i j).2 e1
  rw[(inv i j').2 e2]at this;cases this;rfl
 .obtain⟨i,e1,l1⟩:=J5 j hl;have e0:=e;rw[Yn j i e1]at e;exact⟨(hI.loc i b l1 e).1,.inr ⟨j,hl,e0⟩⟩
theorem Nl{C:(Ending->World->Prop)->Prop}(hm:∀{R R' : Ending->World->Prop},C R->(∀e w,R e w->R' e w)->C R')(hI:DX w0 g0 h0 h g w){d nn:Nat}(GM:(ED σ&&DU h d nn&&DA σ d nn)=true){Q:AV->(Nat->HO)->Prop}(hc:DX w (DM σ g) (FO σ h) (FO σ h) (DM σ g) w->C (fun e w'=>∃v r h' g',e=Ending.returned v/\Q r h'/\BM g' w' (AQ h') r v/\DX w (DM σ g) (FO σ h) h' g' w'/\Le (FO σ h) (DM σ g) w h' g' w')){R:Ending->World->Prop}(eh:∀v r h' g2 w',Q r h'->DX w0 g0 h0 (En σ d nn h h') g2 w'->Le h g w (En σ d nn h h') g2 w'->BM g2 w' (AQ (En σ d nn h h')) (ren (Fq σ d nn) h' r) v->R (.returned v) w'):C R:=by
 simp only[Ae]at GM;obtain⟨⟨hσ,hnf⟩,wW⟩:=GM;obtain⟨hF,pn⟩:=Yh hI hσ;have inv:=YG hσ;have pE:=nk hσ wW;refine hm (hc pn) ?_
 rintro e w' ⟨v,r,h',g',rfl,q1,q2,q3,q4⟩
 have hb:=gz σ d nn h h';have lw:∀i j,src σ d nn i=some j->(Hb σ d nn g g').ρ i=g'.ρ j/\(Hb σ d nn g g').ln i=g'.ln j/\(Hb σ d nn g g').tk i=g'.tk j/\(Hb σ d nn g g').own i=g'.own j:=fun i j e=>by simp[Hb,e]
 have hg3:∀i,src σ d nn i=none->(Hb σ d nn g g').ρ i=g.ρ i/\(Hb σ d nn g g').ln i=g.ln i/\(Hb σ d nn g g').tk i=g.tk i/\(Hb σ d nn g g').own i=g.own i:=fun i e=>by simp[Hb,e]
 have hB:Li (Fq σ d nn) h' (En σ d nn h h') g' (Hb σ d nn g g') w':=by
  refine⟨fun j i hj hu=>?_,fun b o=>RH,q3.objs⟩;have e:=(pE i j).2 hj;obtain⟨k1,k2,k3,k4⟩:=lw i j e;refine⟨k3,k2,k1,k4,?_⟩;unfold AQ;rw[hb,e];exact(M8 _ _ _).2 hu
 have ru:∀j,FO σ h j=match Ip σ j with | some i=>(h i).ren (CC σ) h | none=>.free:=Qj _ _ σ
 have Abv:∀j i,CC σ i=some j->(h i).live->(FO σ h j).live:=fun j i e hl=>by
  rw[ru,(inv i j).1 e];exact(M7 _ _ _).2 hl
 have Ae8:∀j i,CC σ i=some j->(DM σ g).own j=g.own i:=fun j i e=>by simp[DM,(inv i j).1 e]
 have S0 : ∀j,(FO σ h j).live->∃i,CC σ i=some j/\(h i).live/\(DM σ g).own j=g.own i:=fun j hl=>by
  rw[ru]at hl;cases e:Ip σ j with
  |none=>rw[e]at hl;exact hl.elim
  |some i=>rw[e]at hl;exact⟨i,(inv i j).2 e,(M7 _ _ _).1 hl,by simp[DM,e]⟩
 -- what the callee may not touch
 have jL:∀b,b<w.heap.size->(∀i,(h i).live->CC σ i≠none->g.own i≠some b)->w'.heap[b]?=w.heap[b]?:=fun b Dz hn=>q3.frame b Dz fun j hl e=>by
  obtain⟨i,e1,l1,o1⟩:=S0 j hl;exact hn i l1 (by rw[e1];simp) (by rw[<-o1];exact e)
 have hSs:∀b o,g'.S b o->b<w.heap.size->(∀i,(h i).live->CC σ i≠none->g.own i≠some b)->g.S b o:=fun b o hs Dz hn=>by
  rcases q3.sg b o hs with h1 | h1 | ⟨j,h1,h2⟩
  .exact h1
  .omega
  .obtain⟨i,e1,l1,o1⟩:=S0 j h1;exact absurd (by rw[<-o1];exact h2) (hn i l1 (by rw[e1];simp))
 have hk:EH g w (Hb σ d nn g g') w':=q4.keeps;have Af:∀i,CC σ i=none->src σ d nn i≠none->h i=.free:=fun i e1 e2=>by
  unfold src at e2;rw[e1]at e2;dsimp only at e2;split at e2
  .rename_i hc;simp only[Ae,Dm,Cs]at hc
   have:=PY hnf (i-BD d 0) (by unfold BD at hc⊢;omega)
   rw[show BD d (i-BD d 0)=i by unfold BD at hc⊢;omega]at this;exact this
  .exact absurd rfl e2
 have ii:∀i j,CC σ i=some j->src σ d nn i=some j:=fun i j e=>by unfold src;rw[e]
 have hgl:KN g (Hb σ d nn g g') (AQ h):=fun i hu=>by
  cases e:CC σ i with
  |some j =>
   obtain⟨k1,k2,k3,k4⟩:=lw i j (ii i j e);obtain⟨f1,f2,f3,f4,f5⟩:=hF.ids i j e hu;obtain⟨m1,m2,m3,m4⟩:=q4.gh j f5;exact⟨(k3.trans m1).trans f1,by omega,fun t=>(k1.trans (m3 (f1.trans t))).trans f3,fun l=>(k1.trans (m4 ch)).trans f3⟩
  |none =>
   have e2:src σ d nn i=none:=B3.1 fun e2=>hu (Af i e e2);obtain⟨k1,k2,k3,k4⟩:=hg3 i e2;exact⟨k3,by omega,fun _=>k1,fun _=>k1⟩
 have K8:∀i,AQ h i->AQ (En σ d nn h h') i:=fun i hu=>by
  unfold AQ;rw[hb];cases e:CC σ i with
  |some j =>
   rw[ii i j e];exact(M8 _ _ _).2 (q4.us j (hF.ids i j e hu).2.2.2.2)
  |none =>
   have e2:src σ d nn i=none:=B3.1 fun e2=>hu (Af i e e2);rw[e2];exact hu
 have ib:∀i,(En σ d nn h h' i).live->(∃j,src σ d nn i=some j/\(h' j).live/\(Hb σ d nn g g').own i=g'.own j)\/(src σ d nn i=none/\(h i).live/\(Hb σ d nn g g').own i=g.own i/\CC σ i=none):=fun i hl=>by
  rw[hb]at hl;cases e:src σ d nn i with
  |some j=>rw[e]at hl;exact .inl ⟨j,rfl,(M7 _ _ _).1 hl,(lw i j e).2.2.2⟩
  |none =>
   rw[e]at hl;refine .inr ⟨rfl,hl,(hg3 i e).2.2.2,?_⟩;cases e2:CC σ i with
   |none=>rfl
   |some j=>rw[ii i j e2]at e;cases e
 have w7:∀j b,(h' j).live->g'.own j=some b->b<w'.heap.size/\(w.heap.size<=b\/∃i,CC σ i≠none/\(h i).live/\g.own i=some b):=fun j b hl e=>by
  obtain⟨h1,h2⟩:=q3.loc j b hl e;refine⟨h1,h2.imp id ?_⟩
  rintro⟨j',l',e'⟩
  obtain⟨i,e1,l1,o1⟩:=S0 j' l';exact⟨i,by rw[e1];simp,l1,by rw[<-o1];exact e'⟩
 have pG:∀i b,(h i).live->g.own i=some b->CC σ i=none->∀i',(h i').live->CC σ i'≠none->g.own i'≠some b:=fun i b hl e hn i' QU ZZ e'=>by
  obtain rfl:=hI.inj i i' b hl QU e e';exact ZZ hn
 refine eh v r h' (Hb σ d nn g g') w' q1 ⟨q3.os.trans hI.os,q3.tape.trans hI.tape,q3.output.trans hI.output,AJ hI.size q3.size,fun b Dz hn=>?_,q3.slt,fun i=>?_,fun i i' b hl QU e e'=>?_,fun i b hl e=>?_,fun b o hs=>?_,hI.glob.keep hk⟩ ⟨hgl,K8,hk⟩ (q2.ren hB)
 .refine(jL b (By Dz hI.size) fun i hl _ e=>?_).trans (hI.frame b Dz hn);rcases(hI.loc i b hl e).2 with h1 | ⟨r',h1,h2⟩
  .omega
  .exact hn r' h1 h2
 .rw[hb];cases e:src σ d nn i with
  |some j =>
   by_cases hu:AQ h' j
   .exact(q3.objs j).ren hB ((pE i j).1 e) hu
   .have:h' j=.free:=B3.1 hu
    dsimp only;rw[this];trivial
  |none =>
   obtain⟨k1,k2,k3,k4⟩:=hg3 i e;have e2:CC σ i=none:=by
    cases e2:CC σ i with
    |none=>rfl
    |some j=>rw[ii i j e2]at e;cases e
   refine(hI.objs i).same hk K8 hgl k1 k2 k3 k4 fun b hl ho=>?_;have Dz:=(hI.loc i b hl ho).1;exact⟨jL b Dz (pG i b hl ho e2),fun k hs=>hSs b k hs Dz (pG i b hl ho e2)⟩
 .have mixed:∀i j i',(h' j).live->g'.own j=some b->(h i').live->g.own i'=some b->CC σ i'=none->i=i':=fun i j i' l1 o1 l2 o2 n2=>by
   rcases(w7 j b l1 o1).2 with h1 | ⟨i3,n3,l3,o3⟩
   .have:=(hI.loc i' b l2 o2).1;omega
   .exact absurd o3 (pG i' b l2 o2 n2 i3 l3 n3)
  rcases ib i hl with ⟨j,s1,l1,o1⟩ | ⟨s1,l1,o1,n1⟩<;>rcases ib i' QU with ⟨j',s2,l2,o2⟩ | ⟨s2,l2,o2,n2⟩
  .obtain rfl:=q3.inj j j' b l1 l2 (by rw[<-o1];exact e) (by rw[<-o2];exact e');have a1:=(pE i j).1 s1;rw[(pE i' j).1 s2]at a1;cases a1;rfl
  .exact mixed i j i' l1 (by rw[<-o1];exact e) l2 (by rw[<-o2];exact e') n2
  .exact(mixed i' j' i l2 (by rw[<-o2];exact e') l1 (by rw[<-o1];exact e) n1).symm
  .exact hI.inj i i' b l1 l2 (by rw[<-o1];exact e) (by rw[<-o2];exact e')
 .rcases ib i hl with ⟨j,s1,l1,o1⟩ | ⟨s1,l1,o1,n1⟩
  .obtain⟨h1,h2⟩:=w7 j b l1 (by rw[<-o1];exact e);refine⟨h1,?_⟩;rcases h2 with h2 | ⟨i3,n3,l3,o3⟩
   .exact .inl (AJ hI.size h2)
   .exact(hI.loc i3 b l3 o3).2
  .obtain⟨h1,h2⟩:=hI.loc i b l1 (by rw[<-o1];exact e);exact⟨By h1 q3.size,h2⟩
 .rcases q3.sg b o hs with h1 | h1 | ⟨j,h1,h2⟩
  .exact hI.sg b o h1
  .exact .inr (.inl (AJ hI.size h1))
  .obtain⟨i,e1,l1,o1⟩:=S0 j h1;exact .inr (hI.loc i b l1 (by rw[<-o1];exact h2)).2
theorem ko(hI:DX w0 g0 h0 h g w){d nn:Nat}(GM:(ED σ&&DU h d nn&&DA σ d nn)=true){f:Nat}{args:List AV}{Q:AV->(Nat->HO)->Prop}(hc:A9 P f args (FO σ h) Q){vals:Array Value}(hs:vals.size=args.length)(hv:∀(i:Nat) (av:AV) (x:Value),args[i]?=some av->vals[i]?=some x->BM (DM σ g) w (AQ (FO σ h)) av x){R:Ending->World->Prop}(eh:∀v r h' g2 w',Q r h'->DX w0 g0 h0 (En σ d nn h h') g2 w'->Le h g w (En σ d nn h h') g2 w'->BM g2 w' (AQ (En σ d nn h h')) (ren (Fq σ d nn) h' r) v->R (.returned v) w'):Calls P f vals w R :=
 Nl (C:=Calls P f vals w) (fun h k=>h.mono k) hI GM (hc.2 (DM σ g) w vals hs hv) eh
end
end Go.Eng
