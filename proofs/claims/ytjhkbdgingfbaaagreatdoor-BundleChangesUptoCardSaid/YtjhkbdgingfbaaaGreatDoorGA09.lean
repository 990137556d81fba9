/- Lemmas 9. -/
import Derived.Test.YtjhkbdgingfbaaaGreatDoorGA08
namespace Go.Eng
variable {K:St->Prop}{st:St}{l:List Nat}{σ:Ren}{o:Oper}{d:Nat}{cx:Cx}{st2:St}{d' n:Nat}(ops:Array Oper)
theorem PP(h:∀x∈o.op.operands,ev st2.t x=ev st.t x):DV cx o st2=DV cx o st:=by
 obtain⟨dst,op,ty,pos,after,gd⟩:=o;cases op with
 |call c=>
  obtain⟨fp,args,E2⟩:=c;have ha:args.toList.map (ev st2.t)=args.toList.map (ev st.t):=BH fun x hx=>h x (by simp only[Op.operands,Call.operands,Nb];exact .inr (by simpa using hx));simp only[DV];rw[ha];cases fp with
  |value f=>
   have hf:ev st2.t f=ev st.t f:=h f (by simp[Op.operands,Call.operands]);simp only[E5,hf]
  |builtin b=>
   generalize args.toList.map (ev st.t)=l
   match l with
   | []=>cases b<;>rfl
   | [x]=>cases b<;>cases x<;>rfl
   | [x,y]=>cases b<;>cases x<;>rfl
   |x::_::_::_=>cases b<;>cases x<;>rfl
  |invoke r m=>rfl
 |box e x=>simp only[DV,h x (by simp[Op.operands])]
 |buildSlice t n ps=>
  have hx:ps.toList.map (fun p=>ev st2.t p.2)=ps.toList.map (fun p=>ev st.t p.2):=BH fun p hp=>h p.2 (by
   simp only[Op.operands,List.mem_toArray];exact AA.2 ⟨p,hp,rfl⟩)
  simp only[DV,hx]
 |store t p x=>simp only[DV,h p (by simp[Op.operands]),h x (by simp[Op.operands])]
 |mapUpdate t m k x=>simp only[DV,h m (by simp[Op.operands]),h x (by simp[Op.operands])]
 |makeFunc fn first cap=>
  have hx:cap.toList.map (ev st2.t)=cap.toList.map (ev st.t):=BH fun x hx=>h x (by simp only[Op.operands,Nb];exact .inr (by simpa using hx));simp only[DV,hx]
 |load t p=>simp only[DV,h p (by simp[Op.operands])]
 |assign x=>simp only[DV,h x (by simp[Op.operands])]
 |binOp op t x y u=>simp only[DV,h x (by simp[Op.operands])]
 |slice t x lo hi mx=>simp only[DV,h x (by simp[Op.operands])]
 |lookup t x i ok=>simp only[DV,h x (by simp[Op.operands])]
 |_=>rfl
def Looks(o:Oper)(st st2:St):Prop:=∀d∈o.looksAt ops,st2.t d=st.t d
theorem Looks.operands{ops:Array Oper}{o:Oper}{st st2:St}(h:Looks ops o st st2):∀x∈o.op.operands,ev st2.t x=ev st.t x:=fun x hx=>by
 cases x with
 |tmp t=>exact h t (BS _ (List.mem_filterMap.2 ⟨.tmp t,by simpa using hx,rfl⟩))
 |_=>rfl
theorem Qc(j:Nat):Hu ops.toList j=(ops[j]?).bind (·.dst):=by
 have:∀(l:List Oper) (j:Nat),Hu l j=(l[j]?).bind (·.dst):=by
  intro l
  induction l with
  |nil=>intro j;simp[Hu]
  |cons o l ih=>
   intro j;cases j with
   |zero=>simp[Hu]
   |succ j=>simp[Hu,ih]
 rw[this];simp
theorem Looks.guard{ops:Array Oper}(h:Looks ops o st st2){j:Nat}{b:Bool}(hg:o.guard=some (j,b))(hd:Hu ops.toList j=some d):st2.t d=st.t d:=
 h d (Ch _ (by rw[hg];simp only;rw[<-Qc,hd];simp))
def St.after(st:St)(o:Oper)(v:AV)(e:List (Nat×HO)):St:=st.put o.dst v (F2 st.h e)
def Yields(cx:Cx)(ops:Array Oper)(o:Oper)(st:St)(f:D9)(v:AV)(e:List (Nat×HO)):Prop:=
 (∀r o',(r,o')∈e->Ng f.2 r/\r∈f.1)/\∀st2,Looks ops o st st2->(∀r∈f.1,st2.h r=st.h r)->∀K:St->Prop,K (st2.after o v e)->Fl cx true ops.toList o st2 K
theorem NS{ops:Array Oper}(h:Looks ops o st st2):JZ cx ops.toList o st2=JZ cx ops.toList o st:=by
 unfold JZ;split
 .exact PP h.operands
 .rename_i j want hg;split
  .rfl
  .rename_i d hd;simp only[h.guard hg hd];split<;>first | exact PP h.operands | rfl
theorem KP{ops:Array Oper}{f:D9}(hk:Fl cx true ops.toList o st K)(hf:JZ cx ops.toList o st=some f) :
  ∃v e,Yields cx ops o st f v e/\K (st.after o v e):=by
 obtain⟨R,w⟩:=f;have skip:R=[]/\w=none->K (st.put o.dst (.v undef) st.h)->(∀st2,Looks ops o st st2->∀K:St->Prop,K (st2.put o.dst (.v undef) st2.h)->Fl cx true ops.toList o st2 K)->∃v e,Yields cx ops o st (R,w) v e/\K (st.after o v e):=by
  rintro⟨rfl,rfl⟩ h1 h2
  exact⟨.v undef,[],⟨fun r o' e=>(by cases e),fun st2 hl _ K h=>h2 st2 hl K h⟩,h1⟩
 have run:DV cx o st=some (R,w)->Ek cx true o st (fun v h=>K (st.put o.dst v h))->(∀st2,Looks ops o st st2->∀K:St->Prop,Ek cx true o st2 (fun v h=>K (st2.put o.dst v h))->Fl cx true ops.toList o st2 K)->∃v e,Yields cx ops o st (R,w) v e/\K (st.after o v e):=by
  intro hf hk h2;obtain⟨v,e,q1,q2,q3⟩:=VS hk hf;exact⟨v,e,⟨q2,fun st2 hl hh K h=>h2 st2 hl K (q3 st2 ⟨hl.operands,hh⟩ _ h)⟩,q1⟩
 unfold Fl at hk;unfold JZ at hf;cases hg:o.guard with
 |none=>
  rw[hg]at hk hf;exact run hf hk (fun st2 hl K h=>by unfold Fl;rw[hg];exact h)
 |some p=>
  obtain⟨j,want⟩:=p;rw[hg]at hk hf;simp only at hk hf;cases hd:Hu ops.toList j with
  |none=>rw[hd]at hk;exact hk.elim
  |some d=>
   rw[hd]at hk hf;simp only at hk hf;have he:∀st2,Looks ops o st st2->st2.t d=st.t d:=fun st2 hl=>hl.guard hg hd;generalize hx:st.t d=x at hk hf he;split at hk
   .exact run hf hk (fun st2 hl K h=>by unfold Fl;simp only[hg,hd,he st2 hl];exact h)
   .exact run hf hk (fun st2 hl K h=>by unfold Fl;simp only[hg,hd,he st2 hl];exact h)
   .exact skip (by cases hf;exact⟨rfl,rfl⟩) hk (fun st2 hl K h=>by unfold Fl;simp only[hg,hd,he st2 hl];exact h)
   .exact skip (by cases hf;exact⟨rfl,rfl⟩) hk (fun st2 hl K h=>by unfold Fl;simp only[hg,hd,he st2 hl];exact h)
   .exact skip (by cases hf;exact⟨rfl,rfl⟩) hk (fun st2 hl K h=>by unfold Fl;simp only[hg,hd,he st2 hl];exact h)
   .exact hk.elim
def jb(cx:Cx)(ops:Array Oper)(FT:Nat->D9)(i:Nat)(K:St->Prop)(st:St):Prop:=
 match ops[i]? with
 |none=>K st
 |some o=>JZ cx ops.toList o st=some (FT i)/\Fl cx true ops.toList o st K
def RR(cx:Cx)(ops:Array Oper)(FT:Nat->D9)(K:St->Prop):Nat->Array Bool->St->Prop
 |0,listed,st=>Region.ready .any ops listed=[]/\K st
 |fuel+1,listed,st=>
  (Region.ready .any ops listed=[]->K st)/\∀i∈Region.ready .any ops listed,jb cx ops FT i (RR cx ops FT K fuel (listed.setIfInBounds i true)) st
theorem XA(t:Nat->AV)(h:d'≠d)(v v' : AV):Gz (Gz t d v) d' v'=Gz (Gz t d' v') d v:=by
 funext i
 unfold Gz
 by_cases h1:i=d<;>by_cases h2:i=d'
 .exact absurd (h2.symm.trans h1) h
 .subst h1;simp[B4 h2]
 .subst h2;simp[B4 h1]
 .simp[B4 h1,B4 h2]
theorem Wz(t:Nat->HO)(h:d'≠d)(v v' : HO):AH (AH t d v) d' v'=AH (AH t d' v') d v:=by
 funext i
 unfold AH
 by_cases h1:i=d<;>by_cases h2:i=d'
 .exact absurd (h2.symm.trans h1) h
 .subst h1;simp[B4 h2]
 .subst h2;simp[B4 h1]
 .simp[B4 h1,B4 h2]
theorem Ld(h:n∈l):Gw l n=true:=by
 induction l with
 |nil=>cases h
 |cons a l ih=>
  unfold Gw
  by_cases e:a=n
  .subst e;simp
  .rw[B4 e];exact ih ((AS.1 h).resolve_left (fun q=>e q.symm))
theorem Ta(h:Gw l n=true):n∈l:=by
 induction l with
 |nil=>cases h
 |cons a l ih=>
  unfold Gw at h
  by_cases e:a=n
  .exact e▸Ab ..
  .rw[B4 e]at h;exact Ai _ (ih h)
theorem To{x:Nat}(h:Tl l x=true):∀r,Ng (some x) r->r∉l:=by
 intro r hc hr;unfold Tl at h
 by_cases hx:x=QL
 .subst hx;rw[CK,IJ]at h;cases l with
  |nil=>cases hr
  |cons a l=>cases h
 rw[B4 hx,DU]at h;simp only[Ak,CO,CE,B1]at h;rcases hc with rfl | ⟨h1,h2⟩ | hc
 .rw[Ld hr]at h;cases h.1
 .rcases h.2 with h3 | h3
  .omega
  .rcases h2 with rfl | rfl
   .rw[Ld hr]at h3;cases h3.1
   .rw[Ld hr]at h3;cases h3.2
 .exact hx hc
theorem Wf{a b:D9}(h:NF a b=true):(∀r,Ng a.2 r->r∉b.1)/\∀r,Ng b.2 r->r∉a.1:=by
 obtain⟨a1,a2⟩:=a;obtain⟨b1,b2⟩:=b;simp only[NF,Ak]at h;refine⟨fun r e=>?_,fun r e=>?_⟩
 .cases a2 with
  |none=>exact e.elim
  |some x=>exact To h.1 r e
 .cases b2 with
  |none=>exact e.elim
  |some x=>exact To h.2 r e
section
variable {cx:Cx}{ops:Array Oper}{FT:Nat->D9}
theorem Mw{oi oj:Oper}(h:∀d,oi.dst=some d->d∉oj.looksAt ops)(st:St)(v:AV)(e:List (Nat×HO)):Looks ops oj st (st.after oi v e):=by
 intro d hd;cases hdst:oi.dst with
 |none=>simp[St.after,St.put,hdst]
 |some d'=>
  have:d≠d':=fun q=>h d' hdst (q▸hd)
  simp[St.after,St.put,hdst,Gz,B4 this]
theorem Looks.symm{o:Oper}{st st2:St}(h:Looks ops o st st2):Looks ops o st2 st:=fun d hd=>(h d hd).symm
theorem Vb{o:Oper}{v:AV}{e:List (Nat×HO)}:(st.after o v e).h=F2 st.h e:=by
 unfold St.after St.put;cases o.dst<;>rfl
theorem LL{r:Nat}:∀{e:List (Nat×HO)} {h:Nat->HO},(∀o',(r,o')∉e)->F2 h e r=h r
 | [],_,_=>rfl
 |p::e,h,hr=>by
  have:r≠p.1:=fun q=>hr p.2 (by rw[q];exact Ab ..)
  show F2 (AH h p.1 p.2) e r=h r;rw[LL fun o' ho=>hr o' (Ai _ ho),Bs _ _ _ _ this]
theorem Sk{r:Nat}{o:HO}:∀{e:List (Nat×HO)} {h:Nat->HO},(∀r' o',(r',o')∈e->r'≠r)->F2 (AH h r o) e=AH (F2 h e) r o
 | [],_,_=>rfl
 |p::e,h,hr=>by
  show F2 (AH (AH h r o) p.1 p.2) e=AH (F2 (AH h p.1 p.2) e) r o;rw[Wz h (hr p.1 p.2 (Ab ..)),Sk fun r' o' ho=>hr r' o' (Ai _ ho)]
theorem PN:∀{e e' : List (Nat×HO)} {h:Nat->HO},(∀r o r' o',(r,o)∈e->(r',o')∈e'->r'≠r)->F2 (F2 h e) e'=F2 (F2 h e') e
 | [],_,_,_=>rfl
 |p::e,e',h,hd=>by
  show F2 (F2 (AH h p.1 p.2) e) e'=F2 (AH (F2 h e') p.1 p.2) e;rw[<-Sk fun r' o' ho=>hd p.1 p.2 r' o' (Ab ..) ho,PN fun r o r' o' h1 h2=>hd r o r' o' (Ai _ h1) h2]
theorem TU{oi oj:Oper}{v v' : AV}{e e' : List (Nat×HO)}(h1:∀d,oi.dst=some d->oj.dst≠some d)(h2:∀r o r' o',(r,o)∈e->(r',o')∈e'->r'≠r) :
  (st.after oi v e).after oj v' e'=(st.after oj v' e').after oi v e:=by
 have hh:F2 (F2 st.h e) e'=F2 (F2 st.h e') e:=PN h2;have key:∀o:Oper,∀v e,∀st:St,st.after o v e=⟨match o.dst with | none=>st.t | some d=>Gz st.t d v,F2 st.h e⟩:=fun o v e st=>by
  unfold St.after St.put;cases o.dst<;>rfl
 rw[key,key,key,key];simp only[hh];cases hi:oi.dst with
 |none=>rfl
 |some d=>
  cases hj:oj.dst with
  |none=>rfl
  |some d'=>
   have Dn:d'≠d:=fun q=>h1 d hi (by rw[hj,q]);simp only[XA st.t Dn v v']
theorem TS{i:Nat}{oi:Oper}{v:AV}{e:List (Nat×HO)}(hi:ops[i]?=some oi)(D:Nat->Prop)(hD:∀j,D j->∃oj,ops[j]?=some oj/\∃ed∈oj.after,Region.binds .any ed=true/\(ed.on=i\/D ed.on)) :
  ∀(fuel:Nat) (listed:Array Bool) (st:St),
   (∀j oj,ops[j]?=some oj->j≠i->listed.getD j true=false->¬D j->oi.apart ops oj=true/\NF (FT i) (FT j)=true) ->
   i∈Region.ready .any ops listed->(∀j,D j->listed.getD j true=false)->JZ cx ops.toList oi st=some (FT i)->Yields cx ops oi st (FT i) v e ->
   RR cx ops FT K fuel (listed.setIfInBounds i true) (st.after oi v e)->RR cx ops FT K (fuel+1) listed st:=by
 have here:∀(fuel:Nat) (listed:Array Bool) (st:St),JZ cx ops.toList oi st=some (FT i)->Yields cx ops oi st (FT i) v e ->
   RR cx ops FT K fuel (listed.setIfInBounds i true) (st.after oi v e)->jb cx ops FT i (RR cx ops FT K fuel (listed.setIfInBounds i true)) st:=by
  intro fuel listed st hf hy H;unfold jb;rw[hi];exact⟨hf,hy.2 st (fun _ _=>rfl) (fun _ _=>rfl) _ H⟩
 intro fuel
 induction fuel with
 |zero=>
  intro listed st _ hr _ hf hy H;refine⟨fun h=>(by rw[h]at hr;cases hr),fun j hj=>?_⟩
  by_cases Gn:j=i
  .subst Gn;exact here 0 listed st hf hy H
  .have:=ready_mono hj Gn
   rw[H.1]at this;cases this
 |succ fuel ih=>
  intro listed st Ao hr nK hf hy H;refine⟨fun h=>(by rw[h]at hr;cases hr),fun j hj=>?_⟩
  by_cases Gn:j=i
  .subst Gn;exact here (fuel+1) listed st hf hy H
  .have h1:=H.2 j (ready_mono hj Gn);obtain⟨kf,oj,cq,EM⟩:=mem_ready.1 hj;have jO:∀k,listed.getD k true=false->listed.getD k false=true->False:=fun k h0 h1=>by
    rcases Be k listed.size with h' | h'
    .simp[h']at h0 h1;rw[h0]at h1;cases h1
    .simp[Array.getElem?_eq_none h']at h1
   have l6:¬D j:=fun nZ=>by
    obtain⟨sN,dU,ed,he,hb,rF⟩:=hD j nZ;rw[cq]at dU;cases dU;have hl:=EM ed he hb;rcases rF with h2 | h2
    .exact jO _ (by rw[h2];exact(mem_ready.1 hr).1) hl
    .exact jO _ (nK _ h2) hl
   obtain⟨jT,nZ⟩:=Ao j oj cq Gn kf l6;obtain⟨a1,a2,a3⟩:=Oper.apart_spec jT;obtain⟨d1,d2⟩:=Wf nZ;unfold jb at h1⊢;rw[cq]at h1⊢;obtain⟨pU,ru⟩:=h1;have qb:=Mw (ops:=ops) a1 st v e;obtain⟨vj,ej,qi,hK⟩:=KP ru pU;have rh:∀r o',(r,o')∈e->r∉(FT j).1:=fun r o' q=>d1 r (hy.1 r o' q).1;have aX:∀r o',(r,o')∈ej->r∉(FT i).1:=fun r o' q=>d2 r (qi.1 r o' q).1;refine⟨by rw[<-NS qb];exact pU,qi.2 st qb.symm (fun r l9=>?_) _ ?_⟩
   .rw[Vb,LL (fun o' q=>rh r o' q l9)]
   .have qa:=Mw (ops:=ops) a3 st vj ej;refine ih (listed.setIfInBounds j true) (st.after oj vj ej) (fun k ok hk p9 cw MR=>?_) (ready_mono hr (OZ Gn)) (fun k hk=>?_) (by rw[NS qa];exact hf) ⟨hy.1,fun st2 hl hh K' h'=>?_⟩ ?_
    .by_cases cn:j=k
     .subst cn;exact Ao _ ok hk p9 kf MR
     .rw[getD_set_ne true cn]at cw;exact Ao k ok hk p9 cw MR
    .by_cases cn:j=k
     .subst cn;exact absurd hk l6
     .rw[getD_set_ne true cn];exact nK k hk
    .refine hy.2 st2 (fun d hd=>(hl d hd).trans (qa d hd)) (fun r l9=>?_) K' h';rw[hh r l9,Vb,LL (fun o' q=>aX r o' q l9)]
    .rw[Array.setIfInBounds_comm _ _ (OZ Gn)]at hK;rw[<-TU a2 (fun r o r' o' q q' e2=>aX r' o' q' (by rw[e2];exact(hy.1 r o q).2))];exact hK
def eI(cx:Cx)(ops:Array Oper)(K:St->Prop):List Oper->List D9->St->Prop
 | [],[],st=>K st
 |o::r,f::fs,st=>JZ cx ops.toList o st=some f/\∃v e,Yields cx ops o st f v e/\eI cx ops K r fs (st.after o v e)
 |_,_,_=>False
theorem Np{K:St->Prop}:∀(l:List Oper) (Ig:List D9) (st:St),RU cx ops l Ig st K->∃fs,NG ops (Ig.reverse++fs)=true/\eI cx ops K l fs st
 | [],Ig,st,h=>⟨[],by simpa using h.1,h.2⟩
 |o::r,Ig,st,h=>by
  unfold RU at h;split at h
  .rename_i f hf;obtain⟨v,e,h1,h2⟩:=KP h hf;obtain⟨fs,q1,q2⟩:=Np r _ _ h2;exact⟨f::fs,by simpa using q1,hf,v,e,h1,q2⟩
  .exact h.elim
theorem Rc{o:Oper}{i:Nat}{D:List Nat}(h:K5 o i D=true):∃ed∈o.after,Region.binds .any ed=true/\(ed.on=i\/ed.on∈D):=by
 unfold K5 at h;obtain⟨ed,h1,h2⟩:=Br.1 h;simp only[Ak,CO]at h2;exact⟨ed,by simpa using h1,h2.1,h2.2.imp AB Ta⟩
theorem OL{i:Nat}{D:List Nat}:∀(l:List Oper) (k:Nat),OK i D k l=true->∀j o,l[j]?=some o->k+j∈D->K5 o i D=true
 | [],_,_,_,_,h,_=>by simp at h
 |o::l,k,hs,j,o',h,hm=>by
  simp only[OK,Ak]at hs;cases j with
  |zero=>
   simp only[AX,Ba]at h;subst h;have h1:=hs.1;rw[Ld (by simpa using hm)]at h1;simpa using h1
  |succ j=>exact OL l (k+1) hs.2 j o' (by simpa using h) (by rw[ET,Nat.add_comm 1 j];exact hm)
theorem Pz{oi:Oper}{fi:D9}{D:List Nat}:∀(l:List Oper) (fs:List D9) (k:Nat),Gd ops oi fi D k l fs=true->l.length=fs.length/\∀j o f,l[j]?=some o->fs[j]?=some f->k+j∉D->oi.apart ops o=true/\NF fi f=true
 | [],[],_,_=>⟨rfl,fun _ _ _ h=>by simp at h⟩
 | [],_::_,_,h=>by simp[Gd]at h
 |_::_,[],_,h=>by simp[Gd]at h
 |o::l,f::fs,k,h=>by
  simp only[Gd,Ak,CO]at h;obtain⟨h1,h2⟩:=Pz l fs (k+1) h.2;refine⟨by simp[h1],fun j o' f' q1 q2 hn=>?_⟩;cases j with
  |zero=>
   simp only[AX,Ba]at q1 q2;subst q1;subst q2;rcases h.1 with h3 | h3
   .exact absurd (Ta h3) hn
   .exact h3
  |succ j=>exact h2 j o' f' (by simpa using q1) (by simpa using q2) (by simpa[Nat.add_assoc,Nat.add_comm 1 j]using hn)
theorem RS{K:St->Prop}:∀(l:List Oper) (fs:List D9) (k:Nat) (listed:Array Bool) (st:St),(∀j,l[j]?=ops[k+j]?)->(∀j f,fs[j]?=some f->FT (k+j)=f)->listed.size=ops.size ->
  (∀j,j<ops.size->listed.getD j true=decide (j<k))->IX ops ops.toList k l fs=true->eI cx ops K l fs st->RR cx ops FT K l.length listed st
 | [],[],k,listed,st,hl,_,hs,hL,_,h=>by
  refine⟨?_,h⟩;apply List.eq_nil_iff_forall_not_mem.2;intro j hj;obtain⟨h1,o,ho,_⟩:=mem_ready.1 hj;have Dc:=(BN.1 ho).1;rw[hL j Dc]at h1;have fS:k<=j:=by simpa using h1
  have:=hl (j-k)
  rw[show k+(j-k)=j by omega,ho]at this;simp at this
 | [],_::_,_,_,_,_,_,_,_,h,_=>by simp[IX]at h
 |_::_,[],_,_,_,_,_,_,_,h,_=>by simp[IX]at h
 |o::l,f::fs,k,listed,st,hl,hF,hs,hL,hg,h=>by
  simp only[IX,Ak]at hg;obtain⟨⟨⟨⟨g1,g2⟩,g3⟩,g4⟩,g5⟩:=hg;obtain⟨hf,v,e,hy,hp⟩:=h;have h0:ops[k]?=some o:=by simpa using(hl 0).symm
  have hk:=(BN.1 h0).1;have nL:FT k=f:=by simpa using hF 0 f rfl
  have NZ : ∀j,l[j]?=ops[k+1+j]?:=fun j=>by have:=hl (j+1);simpa[Nat.add_assoc,Nat.add_comm 1 j]using this
  have iE : ∀j f,fs[j]?=some f->FT (k+1+j)=f:=fun j f' hj=>by have:=hF (j+1) f' (by simpa using hj);simpa[Nat.add_assoc,Nat.add_comm 1 j]using this
  obtain⟨BQ,jT⟩:=Pz l fs (k+1) g4;have Va:∀j,j∈LJ k [] 0 ops.toList->k<j/\j<ops.size:=fun j hj=>by
   have:=(AJ.1 g3) j hj
   simp only[Ak,B1,A4]at this;exact this
  refine TS h0 (fun j=>j∈LJ k [] 0 ops.toList) (fun j hj=>?_) l.length listed st (fun j oj cq cn cw l6=>?_) ?_ (fun j hj=>?_) (by rw[nL];exact hf) (by rw[nL];exact hy) ?_
  .have Dc:=(Va j hj).2
   have:=OL ops.toList 0 g2 j ops[j] (by simp[Dc]) (by simpa using hj)
   obtain⟨ed,e1,e2,e3⟩:=Rc this;exact⟨ops[j],by simp[Dc],ed,e1,e2,e3⟩
  .have Dc:=(BN.1 cq).1;rw[hL j Dc]at cw;have fS:k<j:=by have q:k<=j:=(by simpa using cw);omega
   have e1:l[j-(k+1)]?=some oj:=by rw[NZ,show k+1+(j-(k+1))=j by omega];exact cq
   have hfl:j-(k+1)<fs.length:=by rw[<-BQ];exact(Au.1 e1).1
   have e2:fs[j-(k+1)]?=some fs[j-(k+1)]:=At hfl;have e3:=iE _ _ e2;rw[show k+1+(j-(k+1))=j by omega]at e3;rw[nL,e3];exact jT _ _ _ e1 e2 (by rw[show k+1+(j-(k+1))=j by omega];exact l6)
  .refine mem_ready.2 ⟨by rw[hL k hk];simp,o,h0,fun ed he hb=>?_⟩
   have:=(AJ.1 g1) ed (by simpa using he)
   simp only[hb,Bool.not_true,MG,B1]at this;have h1:=hL ed.on sP;have Dc:ed.on<listed.size:=by omega
   simp[Dc]at h1⊢;rw[h1];simpa using this
  .have:=Va j hj
   rw[hL j this.2];simp;omega
  .refine RS l fs (k+1) _ _ NZ iE (by simp[hs]) (fun j hj=>?_) g5 hp
   by_cases cn:j=k
   .subst cn
    have:j<listed.size:=by omega
    simp[this]
   .rw[getD_set_ne true (OZ cn),hL j hj]
    by_cases h1:j<k
    .simp[h1];omega
    .simp[h1];omega
theorem VQ(h:RU cx ops ops.toList [] st K):Region.noSelect ops=true/\∃FT,RR cx ops FT K ops.size (Array.replicate ops.size false) st:=by
 obtain⟨fs,h1,h2⟩:=Np _ _ _ h;simp only[NG,List.reverse_nil,JH,Ak]at h1;refine⟨h1.1,fun j=>fs.getD j default,?_⟩
 have:=RS (FT:=fun j=>fs.getD j default) ops.toList fs 0 (Array.replicate ops.size false) st sS (fun j f hj=>by simp[hj]) sS (fun j hj=>by simp[hj]) h1.2 h2
 simpa using this
end
theorem Rg:∀{σ:Ren},Iu σ=true->∀i j,B5 σ i=some j↔FO σ j=some i
 | [],_,i,j=>by simp[B5,FO]
 |(a,b)::r,h,i,j=>by
  simp only[Iu,Ak]at h;obtain⟨h1,h2⟩:=h;have ih:=Rg h2;have fI:B5 r a=none/\FO r b=none:=by
   split at h1
   .rename_i e1 e2;exact⟨e1,e2⟩
   .cases h1
  unfold B5 FO
  by_cases e1:a=i<;>by_cases e2:b=j
  .subst e1;subst e2;simp
  .subst e1;simp only[CK,IJ,B4 e2,DU];constructor
   .intro h;cases h;exact absurd rfl e2
   .intro h;rw[(ih a j).2 h]at fI;cases fI.1
  .subst e2;simp only[CK,IJ,B4 e1,DU];constructor
   .intro h;rw[(ih i b).1 h]at fI;cases fI.2
   .intro h;cases h;exact absurd rfl e1
  .simp only[B4 e1,B4 e2,DU];exact ih i j
theorem ZT:∀{σ:Ren},DI σ=true->Iu σ=true
 | [],_=>rfl
 |(a,b)::r,h=>by
  simp only[DI,Ak]at h;simp only[Iu,Ak];exact⟨h.1.1.1,ZT h.2⟩
theorem RA(h:DI σ=true):∀i j,B5 σ i=some j↔FO σ j=some i:=Rg (ZT h)
theorem Qo:∀{σ:Ren},DI σ=true->∀{i j},B5 σ i=some j->1000<=j/\j<2000
 | [],_,i,j,h=>by simp[B5]at h
 |(a,b)::r,h,i,j,hf=>by
  simp only[DI,Ak,Cz,B1]at h;unfold B5 at hf
  by_cases e1:a=i
  .subst e1;simp only[CK,IJ]at hf;cases hf;exact⟨h.1.1.2,h.1.2⟩
  .simp only[B4 e1,DU]at hf;exact Qo h.2 hf
theorem Lo(f:Nat->Option Nat)(h:Nat->HO):∀(σ:Ren) (j:Nat),AC (TA f h σ) Ao j=match FO σ j with | some i=>(h i).ren f h | none=>.free
 | [],j=>rfl
 |(a,b)::r,j=>by
  unfold TA AC FO
  by_cases e:b=j
  .subst e;simp
  .simp only[B4 e,B4 (OZ e),DU];exact Lo f h r j
structure HH(f:Nat->Option Nat)(h h2:Nat->HO)(g g2:Gh)(w:World):Prop where
 ids:∀r r',f r=some r'->AD h r->g2.tk r'=g.tk r/\g2.ln r'=g.ln r/\g2.ρ r'=g.ρ r/\g2.own r'=g.own r/\AD h2 r'
 S:∀b o,g2.S b o↔g.S b o
 objs:∀r,C3 g w (AD h) r (h r)
section
variable {f:Nat->Option Nat}{h h2:Nat->HO}{g g2:Gh}{w:World}
theorem HH.keeps(hR:HH f h h2 g g2 w):DO g w g2 w:=fun b o hs=>⟨(hR.S b o).2 hs,rfl,fun _ _ e=>e⟩
theorem HH.noU(hR:HH f h h2 g g2 w){av:AV}{x:Value}(r:Bo g w D2 av x):Bo g2 w (AD h2) av x:=r.mono hR.keeps (fun _ h=>h.elim) (fun _ h=>h.elim)
theorem Bo.ren0(hR:HH f h h2 g g2 w){av:AV}{x:Value}(r:Bo g w (AD h) av x):Bo g2 w (AD h2) (ren0 f h av) x:=by
 have down:Bo g2 w (AD h2) (Eng.str0 h av) x:=hR.noU (Bo.str0 hR.objs r);cases av with
 |v y=>exact down
 |slice tk es=>
  cases tk with
  |none=>exact down
  |full sz=>exact down
  |id i sz=>
   simp only[Eng.ren0];split
   .rename_i i' e;cases r with
    |tok _ _ _ _ _ hs hl hu ht hn hx=>
     obtain⟨k1,k2,k3,k4,k5⟩:=hR.ids i i' e hu;exact .tok _ i' sz es x (hR.noU (Bo.slice_none hs)) hl k5 (k1.trans ht) sP (fun q=>by rw[k3];exact hx sP)
   .exact hR.noU r.slice_none
  |ver i sz v=>
   simp only[Eng.ren0];split
   .rename_i i' e;cases r with
    |ver _ _ _ _ _ _ hs hl hu ht hn hx=>
     obtain⟨k1,k2,k3,k4,k5⟩:=hR.ids i i' e hu;exact .ver _ i' sz v es x (hR.noU (Bo.slice_none hs)) hl k5 (k1.trans ht) sP (fun q=>by rw[k3];exact hx sP)
   .exact hR.noU r.slice_none
 |msl i n=>
  simp only[Eng.ren0];split
  .rename_i i' e;cases r with
   |msl _ _ _ a cap hu ht hn ha hx=>
    obtain⟨k1,k2,k3,k4,k5⟩:=hR.ids i i' e hu;exact .msl _ i' n a cap k5 (k1.trans ht) sP ha (fun q=>by rw[k3];exact hx sP)
  .exact .junk _ _
 |agg cs=>exact down
 |tup cs=>exact down
 |cptr cs=>exact down
 |ref i off=>
  simp only[Eng.ren0];split
  .rename_i i' e;cases r with
   |ref _ _ _ b hu ht hx=>
    obtain⟨k1,k2,k3,k4,k5⟩:=hR.ids i i' e hu;exact .ref _ i' off b k5 (k1.trans ht) (k3.trans hx)
  .exact down
 |eref i n sz k off=>
  simp only[Eng.ren0];split
  .rename_i i' e;cases r with
   |eref _ _ _ _ _ _ b cap hu ht hn hx=>
    obtain⟨k1,k2,k3,k4,k5⟩:=hR.ids i i' e hu;exact .eref _ i' n sz k off b cap k5 (k1.trans ht) ⟨hn.1,by omega⟩ (fun q=>by rw[k3];exact hx sP)
  .exact .junk _ _
 |mref i=>
  simp only[Eng.ren0];split
  .rename_i i' e;cases r with
   |mref _ _ b hu ht hx=>
    obtain⟨k1,k2,k3,k4,k5⟩:=hR.ids i i' e hu;exact .mref _ i' b k5 (k1.trans ht) (k3.trans hx)
  .exact down
 |cmap sh BK=>exact down
 |clo i cs=>exact down
 |junk=>exact down
theorem Bo.ren1(hR:HH f h h2 g g2 w){av:AV}{x:Value}(r:Bo g w (AD h) av x):Bo g2 w (AD h2) (ren1 f h av) x:=by
 cases av with
 |agg cs=>
  cases r with
  |agg _ _ vs hs h1 hr=>
   exact .agg _ _ vs (by simp[hs]) h1 fun i av x q1 q2=>by
    rw[Ap]at q1;obtain⟨a,q3,rfl⟩:=Ay.1 q1;exact(hr i a x q3 q2).ren0 hR
 |clo i cs=>
  cases r with
  |clo _ _ _ vs hs hr=>
   exact .clo _ _ _ vs (by simp[hs]) fun i av x q1 q2=>by
    rw[Ap]at q1;obtain⟨a,q3,rfl⟩:=Ay.1 q1;exact(hr i a x q3 q2).ren0 hR
 |_=>exact r.ren0 hR
theorem Bo.ren(hR:HH f h h2 g g2 w){av:AV}{x:Value}(r:Bo g w (AD h) av x):Bo g2 w (AD h2) (ren f h av) x:=by
 cases av with
 |tup cs=>
  cases r with
  |tup _ _ vs hs hr=>
   exact .tup _ _ vs (by simp[hs]) fun i av x q1 q2=>by
    rw[Ap]at q1;obtain⟨a,q3,rfl⟩:=Ay.1 q1;exact(hr i a x q3 q2).ren1 hR
 |_=>exact r.ren1 hR
theorem Jf(f:Nat->Option Nat)(h:Nat->HO)(o:HO):(o.ren f h).live↔o.live:=by cases o<;>exact Mj
theorem Jg(f:Nat->Option Nat)(h:Nat->HO)(o:HO):o.ren f h≠.free↔o≠.free:=by cases o<;>simp[HO.ren]
theorem C3.ren(hR:HH f h h2 g g2 w){i j:Nat}(TN:f i=some j)(hu:AD h i){o:HO}(r:C3 g w (AD h) i o):C3 g2 w (AD h2) j (o.ren f h):=by
 obtain⟨k1,k2,k3,k4,k5⟩:=hR.ids i j TN hu;have ql:∀{cs:List AV} {vs:List Value},B3 g w D2 cs vs->B3 g2 w D2 cs vs:=fun hr=>hr.mono hR.keeps (fun _ h=>h) (fun _ h=>h.elim);have mh:∀{av:AV} {x:Value},Bo g w D2 av x->Bo g2 w D2 av x:=fun hr=>hr.mono hR.keeps (fun _ h=>h) (fun _ h=>h.elim);cases o with
 |free=>trivial
 |dead=>trivial
 |cells cs=>
  obtain⟨t,b,E,vs,a1,a2,a3,a4,a5⟩:=r;refine⟨k1.trans t,b,E,vs,k4.trans a1,k3.trans a2,a3,⟨by simp[a4.1],a4.2.1,fun i av x q1 q2=>?_⟩,fun o ho=>a5 o ((hR.S b o).1 ho)⟩;rw[Ap]at q1;obtain⟨a,q3,rfl⟩:=Ay.1 q1;exact(a4.2.2 i a x q3 q2).ren1 hR
 |ro cs=>
  obtain⟨t,b,a1,a2⟩:=r;exact⟨k1.trans t,b,k3.trans a1,mh a2⟩
 |tok sz n=>
  obtain⟨t,l,a,cap,a1,a2⟩:=r;refine⟨k1.trans t,k2.trans l,a,cap,k3.trans a1,?_⟩;rcases a2 with ⟨b1,b2⟩ | ⟨b1,b,E,vs,off,b2,b3,b4,b5,b6⟩
  .exact .inl ⟨b1,k4.trans b2⟩
  .exact .inr ⟨b1,b,E,vs,off,b2,k4.trans b3,b4,b5,fun o ho=>b6 o ((hR.S b o).1 ho)⟩
 |var sz v n=>
  obtain⟨t,l,a,cap,a1,a2⟩:=r;refine⟨k1.trans t,k2.trans l,a,cap,k3.trans a1,?_⟩;rcases a2 with ⟨b1,b2⟩ | ⟨b1,b,E,vs,off,b2,b3,b4,b5,b6⟩
  .exact .inl ⟨b1,k4.trans b2⟩
  .exact .inr ⟨b1,b,E,vs,off,b2,k4.trans b3,b4,b5,fun o ho=>b6 o ((hR.S b o).1 ho)⟩
 |vox v=>exact⟨k1.trans r.1,k2.trans r.2⟩
 |hol sz es i c av=>
  obtain⟨t,l,al,b,cap,E,vs,b1,b2,b3,b4,b5,b6,b7,b8,x,b9,IH⟩:=r;exact⟨k1.trans t,k2.trans l,al,b,cap,E,vs,k3.trans b1,k4.trans b2,b3,b4,b5,ql b6,fun o ho=>b7 o ((hR.S b o).1 ho),b8,x,b9,IH.ren1 hR⟩
 |bld x=>
  obtain⟨t,b,p,v,a1,a2,a3,a4,a5,a6⟩:=r;exact⟨k1.trans t,b,p,v,k4.trans a1,k3.trans a2,a3,a4,a5.ren1 hR,fun o ho=>a6 o ((hR.S b o).1 ho)⟩
 |bbf n=>
  obtain⟨t,l,a1⟩:=r;refine⟨k1.trans t,k2.trans l,?_⟩;rcases a1 with ⟨e0,e1,e2⟩ | ⟨b,cap,Cl,e1,e2,e3,e4,e5,e6,e7⟩
  .exact .inl ⟨e0,k3.trans e1,k4.trans e2⟩
  .exact .inr ⟨b,cap,Cl,k3.trans e1,k4.trans e2,e3,e4,e5,e6,fun o ho=>e7 o ((hR.S b o).1 ho)⟩
 |raw b ob=>
  obtain⟨t,a1,a2,a3,a4⟩:=r;exact⟨k1.trans t,k4.trans a1,a2,a3,fun o ho=>a4 o ((hR.S b o).1 ho)⟩
 |arr sz es=>
  obtain⟨t,l,al,a2⟩:=r;refine⟨k1.trans t,k2.trans l,al,?_⟩;rcases a2 with ⟨b1,b2,b3⟩ | ⟨b,cap,E,vs,b1,b2,b3,b4,b5,b6,b7⟩
  .exact .inl ⟨b1,k3.trans b2,k4.trans b3⟩
  .exact .inr ⟨b,cap,E,vs,k3.trans b1,k4.trans b2,b3,b4,b5,ql b6,fun o ho=>b7 o ((hR.S b o).1 ho)⟩
 |map sh BK=>
  obtain⟨t,b,es,ck,a1,a2,a3,a4,a5,a6⟩:=r;exact⟨k1.trans t,b,es,ck,k4.trans a1,k3.trans a2,a3,a4,fun i kv e q1 q2=>mh (a5 i kv e q1 q2),fun o ho=>a6 o ((hR.S b o).1 ho)⟩
 |mapU sh BK=>
  obtain⟨t,b,es,ck,a1,a2,a3,a4,a5,a6⟩:=r;refine⟨k1.trans t,b,es,ck,k4.trans a1,k3.trans a2,a3,PZ _ a4,fun i kv e q1 q2=>?_,fun o ho=>a6 o ((hR.S b o).1 ho)⟩;rw[Ap]at q1;obtain⟨p,q3,rfl⟩:=Ay.1 q1;exact(a5 i p e q3 q2).ren1 hR
 |rom sh BK=>
  obtain⟨t,b,a1,a2⟩:=r;exact⟨k1.trans t,b,k3.trans a1,mh a2⟩
 |iter all rem Cl=>
  obtain⟨t,b,mb,Ia,seen,st,es,ck,a1,a2,a3,a4,a5,a6,a7,a8,a9,RQ,UR,a12,eK⟩:=r;exact⟨k1.trans t,b,mb,Ia,seen,st,es,ck,k4.trans a1,k3.trans a2,a3,(hR.S _ _).2 a4,a5,a6,a7,a8,fun i kv e q1 q2=>mh (a9 i kv e q1 q2),RQ,UR,a12,fun o ho=>eK o ((hR.S b o).1 ho)⟩
end
theorem Lg{h:Nat->HO}{d:Nat}:∀{n:Nat},CX h d n=true->∀k,k<n->h (Bd d k)=.free
 |0,_,k,hk=>by omega
 |n+1,hf,k,hk=>by
  simp only[CX,Ak]at hf
  by_cases e:k=n
  .subst e
   have:=hf.1
   split at this
   .rename_i e2;exact e2
   .cases this
  .exact Lg hf.2 k sP
theorem J6{d nn:Nat}:∀{σ:Ren},CH σ d nn=true->∀{i j},B5 σ i=some j->¬(Bd d 0<=i/\i<Bd d nn)
 | [],_,i,j,h=>by simp[B5]at h
 |(a,b)::r,hs,i,j,hf=>by
  simp only[CH,Ak]at hs;unfold B5 at hf
  by_cases e1:a=i
  .subst e1;have h1:=hs.1;simp only[CE,Iy]at h1;intro hc;rcases h1 with h1 | h1
   .rw[Nat.ble_eq_true_of_le hc.1]at h1;cases h1
   .have h2:Nat.blt a (Bd d nn)=true:=by rw[B1];exact hc.2
    rw[h2]at h1;cases h1
  .simp only[B4 e1,DU]at hf;exact J6 hs.2 hf
section
variable {P:Program}{w0:World}{g0:Gh}{h0 h:Nat->HO}{g:Gh}{w:World}
def CP(σ:Ren)(g:Gh):Gh:=
 ⟨fun j=>match FO σ j with | some i=>g.ρ i | none=>.nilIface,fun j=>match FO σ j with | some i=>g.ln i | none=>0,fun j=>match FO σ j with | some i=>g.tk i | none=>false,
  fun j=>match FO σ j with | some i=>g.own i | none=>none,g.S⟩
def Qu(σ:Ren)(d nn:Nat)(i:Nat):Option Nat:=
 match B5 σ i with
 |some j=>some j
 |none=>match Nat.ble (Bd d 0) i&&Nat.blt i (Bd d nn)with |true=>some (2000+(i-Bd d 0)) |false=>none
def EZ(σ:Ren)(d nn:Nat)(g g' : Gh):Gh:=
 ⟨fun i=>match Qu σ d nn i with | some j=>g'.ρ j | none=>g.ρ i,fun i=>match Qu σ d nn i with | some j=>g'.ln j | none=>g.ln i,fun i=>match Qu σ d nn i with | some j=>g'.tk j | none=>g.tk i,
  fun i=>match Qu σ d nn i with | some j=>g'.own j | none=>g.own i,g'.S⟩
theorem VX(σ:Ren)(d nn:Nat)(h h' : Nat->HO)(i:Nat):DH σ d nn h h' i=match Qu σ d nn i with | some j=>(h' j).ren (Eo σ d nn) h' | none=>h i:=by
 unfold DH Qu;cases B5 σ i with
 |some j=>rfl
 |none=>
  dsimp only;cases Nat.ble (Bd d 0) i&&Nat.blt i (Bd d nn)<;>rfl
theorem aC{d nn:Nat}(hσ:DI σ=true)(ha:CH σ d nn=true)(i j:Nat):Qu σ d nn i=some j↔Eo σ d nn j=some i:=by
 have inv:=RA hσ;unfold Qu Eo;cases h1:B5 σ i with
 |some j'=>
  have hb:=(inv i j').1 h1;dsimp only;constructor
  .intro h;cases h;rw[hb]
  .intro h;cases h2:FO σ j with
   |some i'=>rw[h2]at h;cases h;rw[(inv i j).2 h2]at h1;exact h1.symm
   |none=>
    rw[h2]at h;dsimp only at h;split at h
    .rename_i hc;have h:=Bv h;subst h;simp only[Ak,Cz,B1]at hc;exact absurd ⟨by unfold Bd;omega,by unfold Bd;omega⟩ (J6 ha h1)
    .cases h
 |none=>
  dsimp only;cases h2:FO σ j with
  |some i'=>
   dsimp only;have hf:=(inv i' j).2 h2;have hr:=Qo hσ hf;constructor
   .intro h;split at h
    .cases h;omega
    .cases h
   .intro h;cases h;rw[hf]at h1;cases h1
  |none=>
   dsimp only;constructor
   .intro h;split at h
    .rename_i hc;cases h;simp only[Ak,Cz,B1]at hc;have e1:(Nat.ble 2000 (2000+(i-Bd d 0))&&Nat.blt (2000+(i-Bd d 0)) (2000+nn))=true:=by
      simp only[Ak,Cz,B1];unfold Bd at hc⊢;omega
     rw[e1]
     have:Bd d (2000+(i-Bd d 0)-2000)=i:=by unfold Bd at hc⊢;omega
     rw[this]
    .cases h
   .intro h;split at h
    .rename_i hc;have h:=Bv h;subst h;simp only[Ak,Cz,B1]at hc;have e1:(Nat.ble (Bd d 0) (Bd d (j-2000))&&Nat.blt (Bd d (j-2000)) (Bd d nn))=true:=by
      simp only[Ak,Cz,B1];unfold Bd;omega
     rw[e1]
     have:2000+(Bd d (j-2000)-Bd d 0)=j:=by unfold Bd;omega
     rw[this]
    .cases h
theorem Uj(hI:Do w0 g0 h0 h g w)(hσ:DI σ=true):HH (B5 σ) h (EV σ h) g (CP σ g) w/\Do w (CP σ g) (EV σ h) (EV σ h) (CP σ g) w:=by
 have inv:=RA hσ;have Fg:∀j,EV σ h j=match FO σ j with | some i=>(h i).ren (B5 σ) h | none=>.free:=Lo _ _ σ
 have hR:HH (B5 σ) h (EV σ h) g (CP σ g) w:=by
  refine⟨fun r r' hr hu=>?_,fun b o=>Mj,hI.objs⟩;have hb:=(inv r r').1 hr;refine⟨by simp[CP,hb],by simp[CP,hb],by simp[CP,hb],by simp[CP,hb],?_⟩;unfold AD;rw[Fg,hb];exact(Jg _ _ _).2 hu
 have I7:∀j,(EV σ h j).live->∃i,FO σ j=some i/\(h i).live:=fun j hl=>by
  rw[Fg]at hl;cases e:FO σ j with
  |none=>rw[e]at hl;exact hl.elim
  |some i=>rw[e]at hl;exact⟨i,rfl,(Jf _ _ _).1 hl⟩
 have G1:∀j i,FO σ j=some i->(CP σ g).own j=g.own i:=fun j i e=>by simp[CP,e]
 refine⟨hR,rfl,rfl,rfl,Ad _,fun _ _ _=>rfl,hI.slt,fun j=>?_,fun j j' b hl NZ e e'=>?_,fun j b hl e=>?_,fun _ _ h=>.inl h,hI.glob⟩
 .rw[Fg];cases e:FO σ j with
  |none=>trivial
  |some i=>
   by_cases hu:AD h i
   .exact(hI.objs i).ren hR ((inv i j).2 e) hu
   .have:h i=.free:=BP.1 hu
    dsimp only;rw[this];trivial
 .obtain⟨i,e1,l1⟩:=I7 j hl;obtain⟨i',e2,l2⟩:=I7 j' NZ;rw[G1 j i e1]at e;rw[G1 j' i' e2]at e';obtain rfl:=hI.inj i i' b l1 l2 e e'
  have:=(inv i j).2 e1
  rw[(inv i j').2 e2]at this;cases this;rfl
 .obtain⟨i,e1,l1⟩:=I7 j hl;have e0:=e;rw[G1 j i e1]at e;exact⟨(hI.loc i b l1 e).1,.inr ⟨j,hl,e0⟩⟩
theorem LD{C:(Ending->World->Prop)->Prop}(hm:∀{R R' : Ending->World->Prop},C R->(∀e w,R e w->R' e w)->C R')(hI:Do w0 g0 h0 h g w){d nn:Nat}(JL:(DI σ&&CX h d nn&&CH σ d nn)=true){Q:AV->(Nat->HO)->Prop}(hc:Do w (CP σ g) (EV σ h) (EV σ h) (CP σ g) w->C (fun e w'=>∃v r h' g',e=Ending.returned v/\Q r h'/\Bo g' w' (AD h') r v/\Do w (CP σ g) (EV σ h) h' g' w'/\Le (EV σ h) (CP σ g) w h' g' w')){R:Ending->World->Prop}(nO:∀v r h' g2 w',Q r h'->Do w0 g0 h0 (DH σ d nn h h') g2 w'->Le h g w (DH σ d nn h h') g2 w'->Bo g2 w' (AD (DH σ d nn h h')) (ren (Eo σ d nn) h' r) v->R (.returned v) w'):C R:=by
 simp only[Ak]at JL;obtain⟨⟨hσ,rE⟩,jT⟩:=JL;obtain⟨hF,cg⟩:=Uj hI hσ;have inv:=RA hσ;have bi:=aC hσ jT;refine hm (hc cg) ?_
 rintro e w' ⟨v,r,h',g',rfl,q1,q2,q3,q4⟩
 have hb:=VX σ d nn h h';have cl:∀i j,Qu σ d nn i=some j->(EZ σ d nn g g').ρ i=g'.ρ j/\(EZ σ d nn g g').ln i=g'.ln j/\(EZ σ d nn g g').tk i=g'.tk j/\(EZ σ d nn g g').own i=g'.own j:=fun i j e=>by simp[EZ,e]
 have og:∀i,Qu σ d nn i=none->(EZ σ d nn g g').ρ i=g.ρ i/\(EZ σ d nn g g').ln i=g.ln i/\(EZ σ d nn g g').tk i=g.tk i/\(EZ σ d nn g g').own i=g.own i:=fun i e=>by simp[EZ,e]
 have hB:HH (Eo σ d nn) h' (DH σ d nn h h') g' (EZ σ d nn g g') w':=by
  refine⟨fun j i hj hu=>?_,fun b o=>Mj,q3.objs⟩;have e:=(bi i j).2 hj;obtain⟨k1,k2,k3,k4⟩:=cl i j e;refine⟨k3,k2,k1,k4,?_⟩;unfold AD;rw[hb,e];exact(Jg _ _ _).2 hu
 have dQ:∀j,EV σ h j=match FO σ j with | some i=>(h i).ren (B5 σ) h | none=>.free:=Lo _ _ σ
 have nX:∀j i,B5 σ i=some j->(h i).live->(EV σ h j).live:=fun j i e hl=>by
  rw[dQ,(inv i j).1 e];exact(Jf _ _ _).2 hl
 have pR:∀j i,B5 σ i=some j->(CP σ g).own j=g.own i:=fun j i e=>by simp[CP,(inv i j).1 e]
 have M6 : ∀j,(EV σ h j).live->∃i,B5 σ i=some j/\(h i).live/\(CP σ g).own j=g.own i:=fun j hl=>by
  rw[dQ]at hl;cases e:FO σ j with
  |none=>rw[e]at hl;exact hl.elim
  |some i=>rw[e]at hl;exact⟨i,(inv i j).2 e,(Jf _ _ _).1 hl,by simp[CP,e]⟩
 -- what the callee qj not touch
 have j8:∀b,b<w.heap.size->(∀i,(h i).live->B5 σ i≠none->g.own i≠some b)->w'.heap[b]?=w.heap[b]?:=fun b Dc hn=>q3.frame b Dc fun j hl e=>by
  obtain⟨i,e1,l1,o1⟩:=M6 j hl;exact hn i l1 (by rw[e1];simp) (by rw[<-o1];exact e)
 have nP:∀b o,g'.S b o->b<w.heap.size->(∀i,(h i).live->B5 σ i≠none->g.own i≠some b)->g.S b o:=fun b o hs Dc hn=>by
  rcases q3.sg b o hs with h1 | h1 | ⟨j,h1,h2⟩
  .exact h1
  .omega
  .obtain⟨i,e1,l1,o1⟩:=M6 j h1;exact absurd (by rw[<-o1];exact h2) (hn i l1 (by rw[e1];simp))
 have hk:DO g w (EZ σ d nn g g') w':=q4.keeps;have Ao:∀i,B5 σ i=none->Qu σ d nn i≠none->h i=.free:=fun i e1 e2=>by
  unfold Qu at e2;rw[e1]at e2;dsimp only at e2;split at e2
  .rename_i hc;simp only[Ak,Cz,B1]at hc
   have:=Lg rE (i-Bd d 0) (by unfold Bd at hc⊢;omega)
   rw[show Bd d (i-Bd d 0)=i by unfold Bd at hc⊢;omega]at this;exact this
  .exact absurd rfl e2
 have WB:∀i j,B5 σ i=some j->Qu σ d nn i=some j:=fun i j e=>by unfold Qu;rw[e]
 have pY:Ho g (EZ σ d nn g g') (AD h):=fun i hu=>by
  cases e:B5 σ i with
  |some j=>
   obtain⟨k1,k2,k3,k4⟩:=cl i j (WB i j e);obtain⟨f1,f2,f3,f4,f5⟩:=hF.ids i j e hu;obtain⟨m1,m2,m3,m4⟩:=q4.gh j f5;exact⟨(k3.trans m1).trans f1,by omega,fun t=>(k1.trans (m3 (f1.trans t))).trans f3,fun l=>(k1.trans (m4 sP)).trans f3⟩
  |none=>
   have e2:Qu σ d nn i=none:=BP.1 fun e2=>hu (Ao i e e2);obtain⟨k1,k2,k3,k4⟩:=og i e2;exact⟨k3,by omega,fun _=>k1,fun _=>k1⟩
 have IP:∀i,AD h i->AD (DH σ d nn h h') i:=fun i hu=>by
  unfold AD;rw[hb];cases e:B5 σ i with
  |some j=>
   rw[WB i j e];exact(Jg _ _ _).2 (q4.us j (hF.ids i j e hu).2.2.2.2)
  |none=>
   have e2:Qu σ d nn i=none:=BP.1 fun e2=>hu (Ao i e e2);rw[e2];exact hu
 have Y6:∀i,(DH σ d nn h h' i).live->(∃j,Qu σ d nn i=some j/\(h' j).live/\(EZ σ d nn g g').own i=g'.own j)\/(Qu σ d nn i=none/\(h i).live/\(EZ σ d nn g g').own i=g.own i/\B5 σ i=none):=fun i hl=>by
  rw[hb]at hl;cases e:Qu σ d nn i with
  |some j=>rw[e]at hl;exact .inl ⟨j,rfl,(Jf _ _ _).1 hl,(cl i j e).2.2.2⟩
  |none=>
   rw[e]at hl;refine .inr ⟨rfl,hl,(og i e).2.2.2,?_⟩;cases e2:B5 σ i with
   |none=>rfl
   |some j=>rw[WB i j e2]at e;cases e
 have jZ:∀j b,(h' j).live->g'.own j=some b->b<w'.heap.size/\(w.heap.size<=b\/∃i,B5 σ i≠none/\(h i).live/\g.own i=some b):=fun j b hl e=>by
  obtain⟨h1,h2⟩:=q3.loc j b hl e;refine⟨h1,h2.imp id ?_⟩
  rintro⟨j',l',e'⟩
  obtain⟨i,e1,l1,o1⟩:=M6 j' l';exact⟨i,by rw[e1];simp,l1,by rw[<-o1];exact e'⟩
 have cw:∀i b,(h i).live->g.own i=some b->B5 σ i=none->∀i',(h i').live->B5 σ i'≠none->g.own i'≠some b:=fun i b hl e hn i' NZ Za e'=>by
  obtain rfl:=hI.inj i i' b hl NZ e e';exact Za hn
 refine nO v r h' (EZ σ d nn g g') w' q1 ⟨q3.os.trans hI.os,q3.tape.trans hI.tape,q3.output.trans hI.output,AP hI.size q3.size,fun b Dc hn=>?_,q3.slt,fun i=>?_,fun i i' b hl NZ e e'=>?_,fun i b hl e=>?_,fun b o hs=>?_,hI.glob.keep hk⟩ ⟨pY,IP,hk⟩ (q2.ren hB)
 .refine(j8 b (CL Dc hI.size) fun i hl _ e=>?_).trans (hI.frame b Dc hn);rcases(hI.loc i b hl e).2 with h1 | ⟨r',h1,h2⟩
  .omega
  .exact hn r' h1 h2
 .rw[hb];cases e:Qu σ d nn i with
  |some j=>
   by_cases hu:AD h' j
   .exact(q3.objs j).ren hB ((bi i j).1 e) hu
   .have:h' j=.free:=BP.1 hu
    dsimp only;rw[this];trivial
  |none=>
   obtain⟨k1,k2,k3,k4⟩:=og i e;have e2:B5 σ i=none:=by
    cases e2:B5 σ i with
    |none=>rfl
    |some j=>rw[WB i j e2]at e;cases e
   refine(hI.objs i).same hk IP pY k1 k2 k3 k4 fun b hl ho=>?_;have Dc:=(hI.loc i b hl ho).1;exact⟨j8 b Dc (cw i b hl ho e2),fun k hs=>nP b k hs Dc (cw i b hl ho e2)⟩
 .have mixed:∀i j i',(h' j).live->g'.own j=some b->(h i').live->g.own i'=some b->B5 σ i'=none->i=i':=fun i j i' l1 o1 l2 o2 n2=>by
   rcases(jZ j b l1 o1).2 with h1 | ⟨i3,n3,l3,o3⟩
   .have:=(hI.loc i' b l2 o2).1;omega
   .exact absurd o3 (cw i' b l2 o2 n2 i3 l3 n3)
  rcases Y6 i hl with ⟨j,s1,l1,o1⟩ | ⟨s1,l1,o1,n1⟩<;>rcases Y6 i' NZ with ⟨j',s2,l2,o2⟩ | ⟨s2,l2,o2,n2⟩
  .obtain rfl:=q3.inj j j' b l1 l2 (by rw[<-o1];exact e) (by rw[<-o2];exact e');have a1:=(bi i j).1 s1;rw[(bi i' j).1 s2]at a1;cases a1;rfl
  .exact mixed i j i' l1 (by rw[<-o1];exact e) l2 (by rw[<-o2];exact e') n2
  .exact(mixed i' j' i l2 (by rw[<-o2];exact e') l1 (by rw[<-o1];exact e) n1).symm
  .exact hI.inj i i' b l1 l2 (by rw[<-o1];exact e) (by rw[<-o2];exact e')
 .rcases Y6 i hl with ⟨j,s1,l1,o1⟩ | ⟨s1,l1,o1,n1⟩
  .obtain⟨h1,h2⟩:=jZ j b l1 (by rw[<-o1];exact e);refine⟨h1,?_⟩;rcases h2 with h2 | ⟨i3,n3,l3,o3⟩
   .exact .inl (AP hI.size h2)
   .exact(hI.loc i3 b l3 o3).2
  .obtain⟨h1,h2⟩:=hI.loc i b l1 (by rw[<-o1];exact e);exact⟨CL h1 q3.size,h2⟩
 .rcases q3.sg b o hs with h1 | h1 | ⟨j,h1,h2⟩
  .exact hI.sg b o h1
  .exact .inr (.inl (AP hI.size h1))
  .obtain⟨i,e1,l1,o1⟩:=M6 j h1;exact .inr (hI.loc i b l1 (by rw[<-o1];exact h2)).2
theorem Ys(hI:Do w0 g0 h0 h g w){d nn:Nat}(JL:(DI σ&&CX h d nn&&CH σ d nn)=true){f:Nat}{args:List AV}{Q:AV->(Nat->HO)->Prop}(hc:BL P f args (EV σ h) Q){vals:Array Value}(hs:vals.size=args.length)(hv:∀(i:Nat) (av:AV) (x:Value),args[i]?=some av->vals[i]?=some x->Bo (CP σ g) w (AD (EV σ h)) av x){R:Ending->World->Prop}(nO:∀v r h' g2 w',Q r h'->Do w0 g0 h0 (DH σ d nn h h') g2 w'->Le h g w (DH σ d nn h h') g2 w'->Bo g2 w' (AD (DH σ d nn h h')) (ren (Eo σ d nn) h' r) v->R (.returned v) w'):Calls P f vals w R:=
 LD (C:=Calls P f vals w) (fun h k=>h.mono k) hI JL (hc.2 (CP σ g) w vals hs hv) nO
end
end Go.Eng
