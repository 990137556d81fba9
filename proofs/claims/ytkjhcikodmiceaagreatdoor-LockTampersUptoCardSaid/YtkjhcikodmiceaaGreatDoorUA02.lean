/- Lemmas 2. -/
import Derived.Test.YtkjhcikodmiceaaGreatDoorUA01
import Derived.Lib.SplitLaws
import Derived.Lib.IndexBytes
namespace Go.Eng
variable {x:List Rl}{roots:List Rq}{s:List Sl}{d:List (List Tm)}{B:List Int}{la:List Rl}{needs:List Rq}{before:List Sl}{ls:List Rl}{a:An}{o:List Tm}{b:An}(m:List (Int×Int))(S:AS)(l:List Tm)(r:AS)(i:Nat)(k:Int)(t:Tm)(v j:Int)
theorem Cz{α:Type}[DecidableEq α]:∀{l m:List α},l.Nodup->(∀x∈l,x∈m)->l.length<=m.length
 | [],_,_,_=>Ar _
 |a::l,m,hn,hs=>by
  rw[FG]at hn;have ha:a∈m:=hs a (Ad ..)
  have:=Cz (l:=l) (m:=m.erase a) hn.2 fun x hx=>by
   grind
  grind
theorem Xy{α:Type}[DecidableEq α]{l m:List α}(hn:l.Nodup)(hs:∀x∈l,x∈m)(hl:m.length<=l.length):∀x∈m,x∈l:=fun x hx=>by
 apply AP;intro gt
 have:=Cz (m:=m.erase x) hn fun y hy=>(List.mem_erase_of_ne (a:=y) (b:=x) (fun e=>gt (by simp_all))).2 (hs y hy)
 grind
abbrev Ox(s:List Sl):Prop:=s.Pairwise (fun a b=>EL a.path b.path=true)
theorem YV(h:Ox s):(s.map (·.path)).Nodup:=by
 grind [U2]
theorem W9:∀{a b:List Sl},Ox a->Ox b->(∀y,y∈a↔y∈b)->a=b
 | [],[],_,_,_=>rfl
 | [],z::s,_,_,h=>by grind [List.mem_cons_self]
 |z::s,[],_,_,h=>by grind [List.mem_cons_self]
 |y::r,z::s,ha,hb,h=>by
  have ha:=Dh.1 ha;have hb:=Dh.1 hb;have e:y=z:=by
   grind [TT]
  subst e
  congr 1
  refine W9 ha.2 hb.2 fun x=>⟨fun hx=>?_,fun hx=>?_⟩
  all_goals grind [CG]
-- the next path
theorem I0(before:List Sl):∀{l:List Rq} {acc:Option ByteArray},(∀p,acc=some p->BU before p=false) ->
  (∀p,Cc before l acc=some p->BU before p=false/\(acc=some p\/∃q∈l,q.path=p))/\(Cc before l acc=none->acc=none/\∀q∈l,BU before q.path=true)
 | [],acc,ha=>⟨fun p h=>⟨ha p h,.inl h⟩,fun h=>⟨h,fun _ h=>(by cases h)⟩⟩
 |q::l,acc,ha=>by
  unfold Cc
  have key:∀bw,(∀p,bw=some p->BU before p=false)->(∀p,bw=some p->acc=some p\/q.path=p)->(bw=none->acc=none/\BU before q.path=true) ->
    (∀p,Cc before l bw=some p->BU before p=false/\(acc=some p\/∃q'∈q::l,q'.path=p))/\(Cc before l bw=none->acc=none/\∀q'∈q::l,BU before q'.path=true):=by
   intro bw h1 h2 h3;obtain⟨i1,i2⟩:=I0 before (l:=l) h1<;>grind
  cases hb:BU before q.path<;>grind
theorem GE{p:ByteArray}(h:E9 needs before=some p):BU before p=false/\∃q∈needs,q.path=p:=by
 obtain⟨h1,h2⟩:=(I0 before (l:=needs) (acc:=none) fun _ e=>by cases e).1 p h<;>simp_all
theorem Sn(h:E9 needs before=none):∀q∈needs,BU before q.path=true:=
 ((I0 before (l:=needs) (acc:=none) fun _ e=>by cases e).2 h).2
theorem J7{p:ByteArray}:BU s p=true↔∃y∈s,y.path=p:=by grind [BU]
theorem Dy{p:ByteArray}:BU s p=true↔p∈s.map (·.path):=by grind [J7]
abbrev Fp(v:TJ):Sl:=Dd v.rel
structure ml(x:List Rl)(s:List Sl)(before:List Sl)(needs:List Rq)(vs:List TJ):Prop where
 closed:∀q∈needs,BU (before++vs.map Fp) q.path=true
 closedR:∀v∈vs,∀q∈v.rel.reqs,BU (before++vs.map Fp) q.path=true
 mem:∀v∈vs,Fp v∈s/\Bg x (Fp v)=some v.rel
 nodup:((before++vs.map Fp).map (·.path)).Nodup
theorem iO{x:List Rl}{s:List Sl}:∀{n:Nat} {before:List Sl} {needs:List Rq},(before.map (·.path)).Nodup->(∀y∈before,y∈s)->s.length+1<=n+before.length->(Cp x s n before needs).2=true ->
  ml x s before needs (Cp x s n before needs).1
 |0,before,needs,h1,h2,h3,_=>by
  exfalso
  have:=Cz (m:=s.map (·.path)) h1 fun p hp=>by
   grind
  grind
 |n+1,before,needs,h1,h2,h3,h4=>by
  unfold Cp at h4⊢;cases hp:E9 needs before with
  |none=>grind [Sn,ml.mk]
  |some p=>
   rw[hp]at h4;dsimp only at h4⊢;cases hf:A4 s p with
   |none=>simp_all
   |some y=>
    rw[hf]at h4;dsimp only at h4⊢;cases hr:Bg x y with
    |none=>simp_all
    |some r=>
     rw[hr]at h4;dsimp only at h4⊢;obtain⟨g1,g2⟩:=GE hp;have hy:=Ds hf;have kU:=E7 hf;have hk:Dd r=y:=(CK hr).2.2;have ih:=iO (x:=x) (s:=s) (n:=n) (before:=before++[y]) (needs:=needs++r.reqs) (by
       grind [Dy])
      (fun z hz=>by
       grind) (by grind) h4
     have e:before++(⟨before,needs,r⟩::(Cp x s n (before++[y]) (needs++r.reqs)).1).map Fp=before++[y]++(Cp x s n (before++[y]) (needs++r.reqs)).1.map Fp:=by
      simp_all
     refine⟨fun q hq=>?_,fun v hv q hq=>?_,fun v hv=>?_,?_⟩
     all_goals grind [ml.closed,ml.closedR,ml.mem,ml.nodup]
theorem GH(h:(visits x roots s).2=true):ml x s [] roots (visits x roots s).1:=iO B0 (fun _ h=>by cases h) B0 h
theorem NC{x:List Rl}{s:List Sl}(hs:∀y∈s,∃r,Bg x y=some r)(hq:∀y∈s,∀r,Bg x y=some r->∀q∈r.reqs,∃z,A4 s q.path=some z) :
  ∀{n:Nat} {before:List Sl} {needs:List Rq},(∀q∈needs,∃z,A4 s q.path=some z)->(Cp x s n before needs).2=true
 |0,_,_,_=>rfl
 |n+1,before,needs,hn=>by
  unfold Cp;cases hp:E9 needs before with
  |none=>rfl
  |some p=>
   dsimp only;obtain⟨_,q,q1,q2⟩:=GE hp;obtain⟨z,hz⟩:=hn q q1;rw[q2]at hz;rw[hz];dsimp only;obtain⟨r,hr⟩:=hs z (Ds hz);rw[hr];dsimp only;refine NC hs hq fun q t7=>?_
   grind [Ds]
-- what is needed
theorem O0{l:List Rl}{C:List ByteArray}(hC:∀r∈l,r.path∈C->∀q∈r.reqs,q.path∈C):∀{n:Nat} {t:List Rq} {d:List ByteArray},(∀q∈t,q.path∈C)->(∀p∈d,p∈C)->∀p∈EB l n t d,p∈C
 |0,_,_,_,hd=>by grind [EB]
 |_+1,[],_,_,hd=>by grind [EB]
 |n+1,q::t,d,ht,hd=>by
  unfold EB;split
  .exact O0 hC (fun q hq=>ht q (Af _ hq)) hd
  .refine O0 hC (fun q' hq=>?_) fun p hp=>?_
   all_goals grind [Ep]
theorem Ln{l:List Rl}:∀{n:Nat} {t:List Rq} {d:List ByteArray},d.Nodup->(EB l n t d).Nodup
 |0,_,_,hd=>by grind [EB]
 |_+1,[],_,hd=>by grind [EB]
 |n+1,q::t,d,hd=>by
  unfold EB;split
  .exact Ln hd
  .rename_i h;refine Ln ?_
   grind
theorem Rf{l:List Rl}(h:Jn x roots s l){C:List ByteArray}(hn:C.Nodup)(hr:∀q∈roots,q.path∈C)(hC:∀y∈s,∀r,Bg x y=some r->y.path∈C->∀q∈r.reqs,q.path∈C)(hs:∀p∈C,p∈s.map (·.path)):(∀y∈s,y.path∈C)/\C.length=s.length:=by
 obtain⟨h1,h2,h3⟩:=Hd h.sel;have kQ:=O0 (l:=l) (C:=C) (fun r hr hp q hq=>by
  have hk:Dd r∈s:=by grind
  grind [Dd]) (n:=Gq l roots) (t:=roots) (d:=[]) hr (fun _ h=>by cases h)
 have B5:=Cz (Ln (l:=l) (n:=Gq l roots) (t:=roots) Jj) kQ;have hl:l.length=s.length:=by grind
 have hmin:=h.min;have wt:=Xy hn hs (by grind);refine⟨fun y hy=>wt _ (Ak.2 ⟨y,hy,rfl⟩),?_⟩
 have:=Cz hn hs
 grind
theorem Jn.fnd{l:List Rl}(h:Jn x roots s l):∀y∈s,∃r,Bg x y=some r:=fun y hy=>by
 obtain⟨r,_,h⟩:=(Hd h.sel).2.2 y hy<;>simp_all
theorem Jn.req{l:List Rl}(h:Jn x roots s l):∀y∈s,∀r,Bg x y=some r->∀q∈r.reqs,∃z,A4 s q.path=some z/\has q.set (place z.ver)=true:=fun y hy r hr q hq=>by
 obtain⟨r',h4,h5⟩:=(Hd h.sel).2.2 y hy;rw[hr]at h5;cases h5;exact Ke h.ix h.sel (h.rl r h4 q hq)
theorem Jn.root{l:List Rl}(h:Jn x roots s l):∀q∈roots,∃z,A4 s q.path=some z/\has q.set (place z.ver)=true:=fun q hq=>Ke h.ix h.sel (h.rt q hq)
theorem Jn.visits{x:List Rl}{roots:List Rq}{s:List Sl}{l:List Rl}(h:Jn x roots s l):(visits x roots s).2=true:=
 NC h.fnd (fun y hy r hr q hq=>let ⟨z,hz,_⟩:=h.req y hy r hr q hq;⟨z,hz⟩) fun q hq=>let ⟨z,hz,_⟩:=h.root q hq;⟨z,hz⟩
theorem Jn.all{l:List Rl}(h:Jn x roots s l):(∀y∈s,∃v∈(Go.Eng.visits x roots s).1,Fp v=y)/\(Go.Eng.visits x roots s).1.length=s.length:=by
 have hr:=GH h.visits;have hu:∀{y:Sl},y∈s->A4 s y.path=some y:=GM h.inc;have key:∀y∈s,y.path∈((Go.Eng.visits x roots s).1.map Fp).map (·.path)->∃v∈(Go.Eng.visits x roots s).1,Fp v=y:=fun y hy hp=>by
  obtain⟨z,hz,e⟩:=Ak.1 hp;obtain⟨v,hv,rfl⟩:=Ak.1 hz;refine⟨v,hv,?_⟩;have h1:=hu (hr.mem v hv).1;simp_all
 have:=Rf h (C:=((Go.Eng.visits x roots s).1.map Fp).map (·.path)) (by simpa using hr.nodup) (fun q hq=>by have:=hr.closed q hq;grind [Dy]) (fun y hy r hrl hp q hq=>by
  obtain⟨v,hv,e⟩:=key y hy hp;have h1:=(hr.mem v hv).2;rw[e,hrl]at h1;cases h1
  have:=hr.closedR v hv q hq;grind [Dy]) (fun p hp=>by
  obtain⟨z,hz,rfl⟩:=Ak.1 hp;obtain⟨v,hv,rfl⟩:=Ak.1 hz;exact Ak.2 ⟨_,(hr.mem v hv).1,rfl⟩)
 grind
-- skips
theorem MB{d:List (List Tm)}{v:TJ}:∀{x:List Rl} {k k' : List Sk},CM d v x k=(k',true)->∀o∈x,o.path=v.rel.path->o.yanked=false->plc o.ver<plc v.rel.ver ->
  (∀q∈v.needs,q.path=v.rel.path->has q.set (plc o.ver)=true)->∃t∈d,BG t (v.before++[Dd o])=true
 | [],_,_,_,o,ho,_,_,_,_=>by cases ho
 |z::x,k,k',h,o,ho,h1,h2,h3,h4=>by
  unfold CM at h;have other:∀{k k'},CM d v x k=(k',true)->o∈x->∃t∈d,BG t (v.before++[Dd o])=true:=fun hk ho=>MB hk o ho h1 h2 h3 h4
  grind [Ob]
theorem NG{t:List Tm}{b:List Sl}(hs:Cq s=true)(hb:∀y∈b,y∈s)(h:BG t b=true):AN t s=true:=by
 unfold BG at h;simp only[Ag,EQ,List.any_eq_false]at h;obtain⟨h1,h2⟩:=h;rw[Bf]at h1⊢;intro u hu
 have:=h2 u hu
 simp only[Bool.not_eq_false]at this;rw[IV]at this;cases hf:A4 b u.path<;>grind [A4,GM]
theorem XR(hs:V7 x roots s)(hd:∀t∈d,AN t s=false){v:TJ}{k k' : List Sk}(hk:CM d v x k=(k',true))(hb:∀y∈v.before,y∈s){y:Sl}(hy:y∈s)(hp:y.path=v.rel.path)(hn:∀q∈v.needs,q.path=v.rel.path->has q.set (place y.ver)=true)(hv:v.rel∈x):¬place y.ver<place v.rel.ver:=fun Ez=>by
 obtain⟨r,e1,e2⟩:=hs.fnd y hy;obtain⟨_,m,kr⟩:=CK e1;have F5:=Bz hs.ix;have Acu:r.ver=y.ver:=by rw[<-kr];rfl
 have mK:r.path=y.path:=by rw[<-kr];rfl
 grind [MB,NG,Is.plc,V7.inc]
theorem Uz{x:List Rl}{roots:List Rq}{s a:List Sl}(hs:V7 x roots s){d:List (List Tm)}(hd:∀t∈d,AN t s=false):∀{n:Nat} {before:List Sl} {needs:List Rq},(∀y∈before,y∈s) ->
  (∀q∈needs,∃z,A4 s q.path=some z/\has q.set (place z.ver)=true)->(∀v∈(Cp x a n before needs).1,∃k k',CM d v x k=(k',true)) ->
  (∀v∈(Cp x a n before needs).1,Fp v∈s)\/∃pre v post y,(Cp x a n before needs).1=pre++v::post/\(∀u∈pre,Fp u∈s)/\A4 s v.rel.path=some y/\place v.rel.ver<place y.ver
 |0,_,_,_,_,_=>.inl fun _ h=>by cases h
 |n+1,before,needs,hb,hn,hv=>by
  unfold Cp at hv⊢;cases hp:E9 needs before with
  |none=>simp_all
  |some p=>
   rw[hp]at hv;dsimp only at hv⊢;cases hf:A4 a p with
   |none=>simp_all
   |some y=>
    rw[hf]at hv;dsimp only at hv⊢;cases hr:Bg x y with
    |none=>simp_all
    |some r=>
     rw[hr]at hv;dsimp only at hv⊢;obtain⟨_,q,q1,q2⟩:=GE hp;obtain⟨z,z1,z2⟩:=hn q q1;rw[q2]at z1;have hz:=Ds z1;have hzp:=E7 z1;have kU:=E7 hf;obtain⟨_,m,kr⟩:=CK hr;have rS:r.path=p:=by rw[<-kU,<-kr];rfl
     obtain⟨k,k',hk⟩:=hv ⟨before,needs,r⟩ (Ad ..);have hmin:=XR hs hd hk hb hz (hzp.trans rS.symm) (fun q' t7 zS=>by
      grind) m
     dsimp only at hmin
     by_cases e:place z.ver=place r.ver
     .obtain⟨rz,e1,e2⟩:=hs.fnd z hz;obtain⟨_,mz,kz⟩:=CK e1
      have:rz=r:=VM (Bz hs.ix) mz m (by rw[rS,<-hzp,<-kz];rfl) (by rw[<-e,<-kz];rfl)
      subst this;have hyz:y=z:=kr.symm.trans kz;subst hyz;have ih:=Uz hs hd (a:=a) (n:=n) (before:=before++[y]) (needs:=needs++rz.reqs) (fun w hw=>by
       grind) (fun q' t7=>by
       grind [V7.req]) fun v rW=>hv v (Af _ rW)
      grind
     .refine .inr ⟨[],⟨before,needs,r⟩,_,z,rfl,fun _ h=>(by cases h),by simp_all,?_⟩
      grind
theorem iP{a:List Sl}(hs:Jn x roots s ls)(ha:Jn x roots a la)(h:∀v∈(visits x roots a).1,Fp v∈s):a=s:=by
 have hr:=GH ha.visits;have Gr:=ha.all;have hu:∀{y:Sl},y∈s->A4 s y.path=some y:=GM hs.inc;have key:∀y∈s,y.path∈((visits x roots a).1.map Fp).map (·.path)->∃v∈(visits x roots a).1,Fp v=y:=fun y hy hp=>by
  grind
 have:=Rf hs (C:=((visits x roots a).1.map Fp).map (·.path)) (by simpa using hr.nodup) (fun q hq=>by have:=hr.closed q hq;grind [Dy]) (fun y hy r hrl hp q hq=>by
  obtain⟨v,hv,e⟩:=key y hy hp;have h1:=(hr.mem v hv).2;rw[e,hrl]at h1;cases h1
  have:=hr.closedR v hv q hq;grind [Dy]) (fun p hp=>by
  grind)
 refine W9 (FR ha.inc).1 (FR hs.inc).1 fun y=>⟨fun hy=>?_,fun hy=>?_⟩
 .grind
 .obtain⟨v,hv,rfl⟩:=key y hy (this.1 y hy);exact(hr.mem v hv).1
theorem Ok(hs:V7 x roots s)(l:List Nf):E1 (B9 x roots l).1=false:=by
 rw[A0];intro h;obtain⟨t,h1,h2⟩:=VI h s<;>grind [I7]
-- right answers
theorem Ua{x:List Rl}{d:List (List Tm)}:∀{vs:List TJ} {a:Bool×List Sk},(vs.foldl (Cw x d) a).1=true->a.1=true/\∀v∈vs,(∃k k',CM d v x k=(k',true))/\v.rel.yanked=false
 | [],a,h=>⟨h,fun _ h=>by cases h⟩
 |v::vs,a,h=>by
  rw[FC]at h;obtain⟨i1,i2⟩:=Ua h<;>grind [Cw]
structure ZL(x:List Rl)(roots:List Rq)(a:An)(l:List Rl):Prop where
 d0:(B9 x roots a.infs).2=0
 sol0:Jn x roots a.sel l
 sol:V7 x roots a.sel
 skip:∀v∈(visits x roots a.sel).1,∃k k',CM (B9 x roots a.infs).1 v x k=(k',true)
theorem OI(h:Fe x roots a=0) :
  (B9 x roots a.infs).2=0/\((a.found=false/\a.sel=[]/\a.skips=[]/\E1 (B9 x roots a.infs).1=true) \/
   (a.found=true/\(∃l,ZL x roots a l)/\F9 x roots a.sel=0/\(visits x roots a.sel).1.foldl (Cw x (B9 x roots a.infs).1) (true,a.skips)=(true,[]))):=by
 unfold Fe at h;split at h
 .omega
 .rename_i h1;have h1:=BI.1 h1;refine⟨h1,?_⟩;split at h
  .simp_all
  .rename_i h2;have h2:a.found=true:=by simp_all
   split at h
   .cases h
   .rename_i h3;have h3:=BI.1 h3;split at h
    .rename_i h4;simp only[Ag,KC]at h4;obtain⟨l,hl⟩:=ZC h3;have hf:=Ua h4.1;refine .inr ⟨h2,⟨l,h1,hl,hl.sol fun y hy r hr=>?_,fun v hv=>(hf.2 v hv).1⟩,h3,Prod.ext h4.1 h4.2⟩
     grind [GH,Jn.all,ml.mem,Jn.visits]
    omega
theorem XO(ha:ZL x roots a la)(hs:V7 x roots s)(hs0:Jn x roots s ls) :
  a.sel=s\/∃pre v post y,(visits x roots a.sel).1=pre++v::post/\(∀u∈pre,Fp u∈s)/\A4 s v.rel.path=some y/\place v.rel.ver<place y.ver:=by
 rcases Uz hs (I7 hs) (a:=a.sel) (n:=a.sel.length+1) (before:=[]) (needs:=roots) (fun _ h=>by cases h) (fun q hq=>hs.root q hq) ha.skip with h | h
 .exact .inl (iP hs0 ha.sol0 h)
 .exact .inr h
theorem SL{x:List Rl}{s t:List Sl}:∀{n m:Nat} {before:List Sl} {needs:List Rq} {pre post:List TJ} {v:TJ},Cq s=true->Cq t=true->(Cp x s n before needs).1=pre++v::post->(∀u∈pre,Fp u∈t) ->
  pre.length<m->(∀y,A4 t v.rel.path=some y->∃r,Bg x y=some r)->A4 t v.rel.path≠none->∃iA v',(Cp x t m before needs).1=pre++v' :: iA/\v'.before=v.before/\v'.needs=v.needs/\v'.rel.path=v.rel.path/\Fp v'∈t
 |0,_,_,_,pre,_,_,_,_,h,_,_,_,_=>by unfold Cp at h;simp_all
 |_+1,0,_,_,_,_,_,_,_,_,_,h,_,_=>by omega
 |n+1,m+1,before,needs,pre,post,v,hs,ht,h,hp,hm,hr,hn=>by
  unfold Cp at h⊢;cases gt:E9 needs before with
  |none=>simp_all
  |some p=>
   rw[gt]at h;dsimp only at h⊢;cases hf:A4 s p with
   |none=>simp_all
   |some y=>
    rw[hf]at h;dsimp only at h;cases hrl:Bg x y with
    |none=>simp_all
    |some r=>
     rw[hrl]at h;dsimp only at h;have hk:Dd r=y:=(CK hrl).2.2;have kU:=E7 hf;have rS:r.path=p:=by rw[<-kU,<-hk];rfl
     cases pre with
     |nil=>
      rw[FF]at h
      injection h with h1 h2
      subst h1;dsimp only at hr hn;rw[rS]at hr hn;cases dZ:A4 t p with
      |none=>simp_all
      |some z=>
       obtain⟨rz,zV⟩:=hr z dZ;dsimp only;rw[zV];have hkz:Dd rz=z:=(CK zV).2.2;refine⟨_,⟨before,needs,rz⟩,rfl,rfl,rfl,?_,?_⟩
       .show rz.path=r.path;rw[rS,<-E7 dZ,<-hkz];rfl
       grind [Ds]
     |cons u pre=>
      rw[HM]at h
      injection h with h1 h2
      subst h1;have hy:y∈t:=by
       simp_all
      have dZ:=GM ht hy;rw[kU]at dZ;rw[dZ];dsimp only;rw[hrl];obtain⟨iA,v',i1,i2⟩:=SL (t:=t) (m:=m) hs ht h2 (fun w hw=>hp w (Af _ hw)) (by simpa using hm) hr hn<;>grind [List.mem_cons_of_mem]
theorem Zx{lb:List Rl}(ha:ZL x roots a la)(hb:ZL x roots b lb):a.sel=b.sel:=by
 rcases XO ha hb.sol hb.sol0 with h | ⟨pre,v,post,y,h1,h2,h3,h4⟩
 .exact h
 .exfalso
  have hy:=Ds h3;have xp:v∈(visits x roots a.sel).1:=by simp_all
  have zF:=(GH ha.sol0.visits).mem v xp
  -- b's run comes to the same decision,and there its release is the one with the greater place
  have B5:pre.length<b.sel.length+1:=by
   have hr:=GH ha.sol0.visits;have hn:=hr.nodup;rw[h1]at hn;have au : (pre.map fun u=>(Fp u).path).Nodup:=by
    grind
   have:=Cz (m:=b.sel.map (·.path)) au fun p hp=>by
    grind
   grind
  obtain⟨iA,v',i1,i2,i3,i4,i5⟩:=SL (x:=x) (s:=a.sel) (t:=b.sel) (n:=a.sel.length+1) (m:=b.sel.length+1) (before:=[]) (needs:=roots) ha.sol.inc hb.sol.inc h1 h2 B5
   (fun z hz=>let ⟨r,hr,_⟩:=hb.sol.fnd z (Ds hz);⟨r,hr⟩) (by simp_all)
  have z8:v'∈(visits x roots b.sel).1:=by grind [visits]
  obtain⟨k,k',hk⟩:=hb.skip v' z8;have rW : Fp v'=y:=by
   have:=GM hb.sol.inc i5
   have e:(Fp v').path=v.rel.path:=i4;simp_all
  have hra:=GH ha.sol0.visits
  -- what was decided before is a's,and a satisfies what is needed
  have wd:∀z∈v'.before,z∈a.sel:=by
   rw[i2];intro z hz;exact visits_before (x:=x) (s:=a.sel) (n:=a.sel.length+1) (before:=[]) (needs:=roots) (fun _ h=>by cases h) v xp z hz
  have rK:∀q∈v'.needs,q.path=v'.rel.path->has q.set (place v.rel.ver)=true:=by
   rw[i3,i4];intro q hq zS;obtain⟨z,z1,z2⟩:=visits_needs (x:=x) (s:=a.sel) (fun y hy r hr q hq=>ha.sol.req y hy r hr q hq) (n:=a.sel.length+1) (before:=[]) (needs:=roots) (fun q hq=>ha.sol.root q hq) v xp q hq
   have:=GM ha.sol.inc zF.1
   rw[zS]at z1;have e:(Fp v).path=v.rel.path:=rfl;rw[e,z1]at this;rw[EU this]at z2;exact z2
  have:=XR ha.sol (I7 ha.sol) hk wd (y:=Fp v) zF.1 i4.symm rK (CK ((GH hb.sol0.visits).mem v' z8).2).2.1
  apply this;show place v.rel.ver<place v'.rel.ver
  have:v'.rel.ver=y.ver:=by rw[<-rW];rfl
  simp_all
where
 visits_before {x:List Rl} {s:List Sl}:∀{n:Nat} {before:List Sl} {needs:List Rq},(∀y∈before,y∈s)->∀v∈(Cp x s n before needs).1,∀z∈v.before,z∈s
  |0,_,_,_,v,hv=>by cases hv
  |n+1,before,needs,hb,v,hv=>by
   unfold Cp at hv;cases hp:E9 needs before with
   |none=>simp_all
   |some p=>
    rw[hp]at hv;dsimp only at hv;cases hf:A4 s p with
    |none=>simp_all
    |some y=>
     rw[hf]at hv;dsimp only at hv;cases hr:Bg x y with
     |none=>simp_all
     |some r=>
      rw[hr]at hv;dsimp only at hv;rcases AA.1 hv with rfl | hv
      .exact hb
      .refine visits_before (fun w hw=>?_) v hv
       grind [Ds]
 visits_needs {x:List Rl} {s:List Sl} (hq:∀y∈s,∀r,Bg x y=some r->∀q∈r.reqs,∃z,A4 s q.path=some z/\has q.set (place z.ver)=true):∀{n:Nat} {before:List Sl} {needs:List Rq},(∀q∈needs,∃z,A4 s q.path=some z/\has q.set (place z.ver)=true) ->
   ∀v∈(Cp x s n before needs).1,∀q∈v.needs,∃z,A4 s q.path=some z/\has q.set (place z.ver)=true
  |0,_,_,_,v,hv=>by cases hv
  |n+1,before,needs,hb,v,hv=>by
   unfold Cp at hv;cases hp:E9 needs before with
   |none=>simp_all
   |some p=>
    rw[hp]at hv;dsimp only at hv;cases hf:A4 s p with
    |none=>simp_all
    |some y=>
     rw[hf]at hv;dsimp only at hv;cases hr:Bg x y with
     |none=>simp_all
     |some r=>
      rw[hr]at hv;dsimp only at hv;rcases AA.1 hv with rfl | hv
      .exact hb
      .refine visits_needs hq (fun w hw=>?_) v hv
       grind [Ds]
theorem MX(ha:Fe x roots a=0)(hb:Fe x roots b=0):a.found=b.found/\a.sel=b.sel:=by
 obtain⟨a0,ha⟩:=OI ha;obtain⟨b0,hb⟩:=OI hb;rcases ha with ⟨a1,a2,a3,a4⟩ | ⟨a1,⟨la,a2⟩,_⟩
 .rcases hb with ⟨b1,b2,b3,b4⟩ | ⟨b1,⟨lb,b2⟩,_⟩
  .simp_all
  .rw[Ok b2.sol]at a4;cases a4
 .rcases hb with ⟨b1,b2,b3,b4⟩ | ⟨b1,⟨lb,b2⟩,_⟩
  .rw[Ok a2.sol]at b4;cases b4
  grind [Zx]
-- the first decision that differs
-- prefixes
theorem G1{x:List Rl}{roots:List Rq}:∀{l:List Nf} {d d' : List (List Tm)},BA x roots l d=some d'->d'.length=d.length+l.length
 | [],d,d',h=>by cases h;rfl
 |i::l,d,d',h=>by
  unfold BA at h;split at h
  .cases h
  .have:=G1 h
   grind
theorem EG{x:List Rl}{roots:List Rq}:∀(l m:List Nf) (d:List (List Tm)),BA x roots (l++m) d=match BA x roots l d with | none=>none | some d'=>BA x roots m d'
 | [],_,_=>rfl
 |i::l,m,d=>by
  show(match Bo x roots d i with | none=>none | some t=>BA x roots (l++m) (d++[t]))=(match(match Bo x roots d i with | none=>none | some t=>BA x roots l (d++[t]))with | none=>none | some d'=>BA x roots m d');cases Bo x roots d i with
  |none=>rfl
  |some t=>exact EG l m _
theorem Kt{x:List Rl}{roots:List Rq}:∀{l:List Nf} {d d' : List (List Tm)},BA x roots l d=some d'->d <+: d'
 | [],d,d',h=>by cases h<;>simp_all
 |i::l,d,d',h=>by
  unfold BA at h;split at h
  .cases h
  .exact(List.prefix_append _ _).trans (Kt h)
theorem I6{l:List Nf}(h:BA x roots l []=some d)(k:Nat):BA x roots (l.take k) []=some (d.take k):=by
 rw[<-List.take_append_drop k l,EG]at h;cases e:BA x roots (l.take k) []with
 |none=>simp_all
 |some f=>
  rw[e]at h;dsimp only at h;have h1:=G1 e;have h2:=G1 h;have h3:=Kt h
  congr 1
  simp only[FD,CB,QO]at h1 h2;obtain⟨z,rfl⟩:=h3
  by_cases hk:k<=l.length
  .simp_all
  .rw[Au]at h2
   have:z=[]:=AI ch
   grind [List.take_of_length_le]
def Form:Prop:=Ck l=some l
theorem dC{l:List Tm}:∀(l2:List Tm),By none (l2++l)->l.foldl (fun acc t=>MV t acc) l2=l2++l:=by
 induction l with
 |nil=>simp_all
 |cons t r ih=>
  intro l2 h;have hi:MV t l2=l2++[t]:=by
   have:∀(m:List Tm) (lo:Option ByteArray),By lo (m++t::r)->MV t m=m++[t]:=by
    intro m
    induction m with
    |nil=>
     intro lo hm;have hc:D3 t.set:=hm.2.1;unfold MV;rw[show KT t=t from pt rfl rfl (Iu hc)];rfl
    |cons u m ihm=>
     grind [By,By.low,MV]
   grind
  simp_all
theorem OX{l:List Tm}(h:By none l):EM l=l:=by
 grind [dC,EM]
theorem PH{l c:List Tm}(h:Ck l=some c):Form c:=by
 grind [Eg,Form,Ck,OX,List.filter_filter]
theorem RC:Form []:=rfl
theorem Ls:Form (Pb l):=by
 grind [Pb,Ck,RC,PH]
theorem Mz(a b:List Tm)(p:ByteArray):Form (AX a b p).1:=by
 grind [AX,PH,RC]
theorem Xv{l:List Tm}(h:QG l=some o):o=l:=by grind [QG]
theorem Xa{i:Nf}(h:Bo x roots d i=some o):Form o:=by
 unfold Bo at h;split at h
 .split at h
  .rw[B4]at h;obtain⟨q,_,rfl⟩:=h;exact Ls _
  simp_all
 .split at h
  .split at h
   .split at h
    .cases h
    .split at h
     .cases h
     .rw[Xv h];exact Ls _
   simp_all
  .split at h
   .split at h
    .rw[Xv h];exact Ls _
    simp_all
   grind [Mz]
theorem Mj{x:List Rl}{roots:List Rq}:∀{l:List Nf} {d d' : List (List Tm)},(∀t∈d,Form t)->BA x roots l d=some d'->∀t∈d',Form t
 | [],d,d',hd,h=>by cases h;exact hd
 |i::l,d,d',hd,h=>by
  unfold BA at h;split at h
  .cases h
  .rename_i o ho;refine Mj (fun t ht=>?_) h
   grind [Xa]
theorem Rk{l:List Nf}(h:(B9 x roots l).2=0):AC x=0/\A8 roots=0/\l.length<=65536/\BA x roots l []=some (B9 x roots l).1:=by
 grind [B9]
theorem Rj{l:List Nf}(h1:AC x=0)(h2:A8 roots=0)(h3:l.length<=65536)(h:BA x roots l []=some d):B9 x roots l=(d,0):=by
 grind [B9]
-- tampering
def Dr(l:AS):AS:=(l.map OJ).filter fun x=>decide (x.1<x.2)
theorem T0{l:AS}{x:Int×Int}(h:x∈Dr l):0<=x.1/\x.1<x.2/\x.2<=1000000:=by
 grind [Dr,OJ]
theorem bO(l:AS)(p:Int):(Dr l).any (BE p)=has l p:=by
 rw[<-Jq]
 induction l<;>grind [Dr,canon,Nm,BN]
theorem MK:∀{l:AS} {lo:Int},DY lo l↔(∀y∈l,lo<=y.1/\y.1<y.2/\y.2<=1000000)/\l.Pairwise fun a b=>a.2<b.1
 | [],lo=>by simp[DY]
 |y::r,lo=>by
  rw[Dh];constructor
  .intro h;have hl:=h.low;refine⟨hl,fun z hz=>?_,((MK (l:=r)).1 h.2.2.2).2⟩
   have:=h.2.2.2.low z hz;omega
  .intro⟨h1,h2,h3⟩;have hy:=h1 y (Ad ..);refine⟨hy.1,hy.2.1,hy.2.2,MK.2 ⟨fun z hz=>?_,h3⟩⟩
   grind
def JL(x:Int×Int):AS:=match r with
 | []=>[x]
 |y::t=>if x.1<=y.2 then(y.1,max y.2 x.2)::t else x::y::t
def BM(s:AS):AS:=s.foldl JL []
theorem FU(s:AS)(i:Nat)(h:i<s.length):BM (s.take (i+1))=JL (BM (s.take i)) s[i]:=by
 grind [BM,List.take_add_one]
theorem dO(x:Int×Int):(JL r x).length<=r.length+1/\r.length<=(JL r x).length/\0<(JL r x).length:=by
 unfold JL
 grind
theorem Si(s:AS):∀i,i<=s.length->(BM (s.take i)).length<=i/\(0<i->0<(BM (s.take i)).length):=by
 intro i
 induction i<;>grind [BM,FU,dO]
structure bu(r done:AS):Prop where
 ok:∀y∈r,0<=y.1/\y.1<y.2/\y.2<=1000000
 pw:r.Pairwise fun a b=>b.2<a.1
 has:∀p,r.any (BE p)=done.any (BE p)
 first:∀y t,r=y::t->∃x∈done,y.1=x.1
theorem dN{r done:AS}{x:Int×Int}(h:bu r done)(hx:0<=x.1/\x.1<x.2/\x.2<=1000000)(hs:∀y∈done,y.1<=x.1):bu (JL r x) (done++[x]):=by
 unfold JL;split
 .refine⟨fun y hy=>?_,by simp,fun p=>?_,fun y t e=>?_⟩
  all_goals grind [bu.has]
 .rename_i y t;have hy:=h.ok y (Ad ..);obtain⟨pw1,pw2⟩:=Dh.1 h.pw;obtain⟨z,hz,e⟩:=h.first y t rfl
  have xr:=hs z hz;split
  .rename_i Il;refine⟨fun u hu=>?_,Dh.2 ⟨pw1,pw2⟩,fun p=>?_,fun u t' e'=>?_⟩
   .rcases AA.1 hu with rfl | hu
    .omega
    .exact h.ok u (Af _ hu)
   .rw[List.any_append,<-h.has,D2,D2,D2,List.any_nil,Bool.or_false]
    grind [BE]
   grind
  .rename_i Il;refine⟨fun u hu=>?_,Dh.2 ⟨fun u hu=>?_,h.pw⟩,fun p=>?_,fun u t' e'=>?_⟩
   .rcases AA.1 hu with rfl | hu
    .exact hx
    .exact h.ok u hu
   all_goals grind [bu.has]
theorem Ze{s:AS}(F5:∀y∈s,0<=y.1/\y.1<y.2/\y.2<=1000000)(hs:s.Pairwise fun a b=>a.1<=b.1):∀i,i<=s.length->bu (BM (s.take i)) (s.take i):=by
 intro i
 induction i with
 |zero=>intro _;exact⟨fun _ h=>by grind [BM],by simp[BM],fun p=>by simp[BM],fun y t e=>by grind [BM]⟩
 |succ i ih=>
  grind [FU,List.take_add_one,dN,List.mem_iff_getElem,List.pairwise_iff_getElem]
theorem Ql{l s:AS}(hp:s.Perm (Dr l))(hs:s.Pairwise fun a b=>a.1<=b.1):(BM s).reverse=canon l:=by
 have hi:=Ze (s:=s) (fun y hy=>T0 (hp.mem_iff.1 hy)) hs s.length (Ai _);rw[KD]at hi;have hc:D3 (BM s).reverse:=by
  unfold D3;rw[MK];refine⟨fun y hy=>hi.ok y (List.mem_reverse.1 hy),?_⟩
  grind [bu.pw]
 refine Rd hc fun p=>?_;rw[G5 hc,List.any_reverse,hi.has,<-bO]
 grind
-- maps from numbers to numbers,as lists in the order in which they are met
def EY:Int:=match m.find? (fun p=>decide (p.1=k))with | some p=>p.2 | none=>0
def Kj:List (Int×Int):=if m.any (fun p=>decide (p.1=k))then m.map (fun p=>if p.1=k then(k,v)else p)else m++[(k,v)]
theorem L9(p:Int×Int)(m:List (Int×Int))(k:Int):EY (p::m) k=if p.1=k then p.2 else EY m k:=by
 grind [EY]
theorem Ov:EY (Kj m k v) j=if j=k then v else EY m j:=by
 unfold Kj;split
 .rename_i h
  induction m with
  |nil=>simp_all
  |cons p m ih=>
   rw[Bb,L9,L9]
   by_cases e:p.1=k
   .rw[A1 e];dsimp only
    by_cases ej:j=k
    .omega
    .rw[AO (fun c=>ej c.symm),AO ej,AO (fun c=>ej (c.symm.trans e))]
     by_cases hm:(m.any fun p=>decide (p.1=k))=true
     .simp_all
     .have:∀q∈m,q.1≠k:=fun q hq e=>hm (Ci.2 ⟨q,hq,by simp[e]⟩)
      have:m.map (fun p=>if p.1=k then(k,v)else p)=m:=by
       conv=>rhs;rw[<-GI m]
       grind [List.map_congr_left]
      simp_all
   grind
 .rename_i h;have hn:∀q∈m,q.1≠k:=fun q hq e=>h (Ci.2 ⟨q,hq,by simp[e]⟩)
  induction m<;>grind [L9]
def EA:List Int:=m.map (·.1)
theorem Uk:EA (Kj m k v)=if k∈EA m then EA m else EA m++[k]:=by
 grind [Kj,EA,List.map_congr_left]
theorem Lh{m:List (Int×Int)}(h:(EA m).Nodup)(k v:Int):(EA (Kj m k v)).Nodup:=by
 grind [Uk]
theorem Jz:j∈EA (Kj m k v)↔j=k\/j∈EA m:=by
 grind [Uk]
theorem ji{m:List (Int×Int)}(h:(EA m).Nodup){p:Int×Int}(hp:p∈m):EY m p.1=p.2:=by
 induction m<;>grind [L9,EA]
theorem jj{m:List (Int×Int)}{k:Int}(h:k∉EA m):EY m k=0:=by
 unfold EY
 have:m.find? (fun p=>decide (p.1=k))=none:=by
  rw[List.find?_eq_none];intro p hp;simp only[A5];exact fun e=>h (Ak.2 ⟨p,hp,e⟩)
 grind
-- counting
def cF:Nat:=S.countP fun x=>decide (x.1=k)
def cT:Nat:=S.countP fun x=>decide (x.2=k)
def lF:Nat:=S.countP fun x=>decide (x.1<=k)
def lT:Nat:=S.countP fun x=>decide (x.2<=k)
theorem Ib{α:Type}{p q r:α->Bool}:∀{l:List α},(∀x∈l,(p x=true↔q x=true\/r x=true)/\¬(q x=true/\r x=true))->l.countP p=l.countP q+l.countP r
 | [],_=>rfl
 |x::l,h=>by
  have ih:=Ib fun y hy=>h y (Af _ hy)
  grind
structure Fj(m:List (Int×Int))(S:AS):Prop where
 nd:(EA m).Nodup
 val:∀k,EY m k=(cF S k:Int)-cT S k
 keys:0∈EA m/\1000000∈EA m/\∀x∈S,x.1∈EA m/\x.2∈EA m
 rng:∀k∈EA m,0<=k/\k<=1000000
def qH:List (Int×Int):=[(0,0),(1000000,0)]
theorem jW:Fj qH []:=⟨by decide,fun k=>by
  grind [qH,EY,cF,cT],⟨by decide,by decide,fun _ h=>by cases h⟩,fun k hk=>by
  grind [qH,EA]⟩
def XT(x:Int×Int):List (Int×Int):=Kj (Kj m x.1 (EY m x.1+1)) x.2 (EY (Kj m x.1 (EY m x.1+1)) x.2-1)
theorem dM{m:List (Int×Int)}{S:AS}{x:Int×Int}(h:Fj m S)(hx:0<=x.1/\x.1<x.2/\x.2<=1000000):Fj (XT m x) (S++[x]):=by
 unfold XT;refine⟨Lh (Lh h.nd _ _) _ _,fun k=>?_,⟨?_,?_,fun y hy=>?_⟩,fun k hk=>?_⟩
 .rw[Ov,Ov,Ov,h.val,h.val,h.val];unfold cF cT;simp only[List.countP_append,List.countP_singleton,A5]
  grind
 .grind [Jz,Fj.keys]
 .grind [Jz,Fj.keys]
 .grind [Jz,Fj.keys]
 .rw[Jz,Jz]at hk;rcases hk with rfl | rfl | hk
  .omega
  .omega
  .exact h.rng k hk
def HU(B:List Int):Int:=(B.map (EY m)).foldl (·+·) 0
theorem Pw(B:List Int)(i:Nat)(h:i<B.length):HU m (B.take (i+1))=HU m (B.take i)+EY m B[i]:=by
 grind [HU,List.take_add_one]
structure jC(B:List Int)(m:List (Int×Int)):Prop where
 perm:B.Perm (EA m)
 srt:B.Pairwise fun a b=>a<b
theorem bf{m:List (Int×Int)}{S:AS}(h:Fj m S)(hB:jC B m):∀i (hi:i<B.length),HU m (B.take (i+1))=(lF S B[i]:Int)-lT S B[i]:=by
 have mem:∀k,k∈EA m->∃j,∃hj:j<B.length,B[j]=k:=fun k hk=>by
  have:=hB.perm.mem_iff.2 hk
  grind [List.mem_iff_getElem]
 have lt:∀i j (hi:i<B.length) (hj:j<B.length),i<j->B[i]<B[j]:=fun i j hi hj X3=>(B1.1 hB.srt) i j hi hj X3;intro i
 induction i with
 |zero=>
  intro hi;rw[Pw m B 0 hi,h.val]
  have:HU m (B.take 0)=0:=by simp[HU]
  rw[this];have low:∀k∈EA m,B[0]<=k:=fun k hk=>by
   grind
  have e1:lF S B[0]=cF S B[0]:=by
   grind [lF,cF,List.countP_congr,Fj.keys]
  grind [lT,cT,List.countP_congr,Fj.keys]
 |succ i ih=>
  intro hi;rw[Pw m B (i+1) hi,ih ch,h.val];have nb:∀k∈EA m,k<=B[i+1]↔k<=B[i]\/k=B[i+1]:=fun k hk=>by
   grind
  have l0:=lt i (i+1) ch hi ch;have e1:lF S B[i+1]=lF S B[i]+cF S B[i+1]:=by
   unfold lF cF;apply Ib
   grind [Fj.keys]
  have e2:lT S B[i+1]=lT S B[i]+cT S B[i+1]:=by
   unfold lT cT;apply Ib
   grind [Fj.keys]
  omega
theorem Ws{S:AS}(hS:∀x∈S,x.1<x.2)(p:Int):(lF S p:Int)-lT S p=(S.countP (BE p):Nat):=by
 have:lF S p=S.countP (BE p)+lT S p:=by
  unfold lF lT
  grind [Ib,BE]
 omega
theorem NA:∀{l:AS} {lo:Int} (p:Int),DY lo l->l.countP (BE p)=if l.any (BE p)then 1 else 0
 | [],_,_,_=>rfl
 |y::r,lo,p,⟨h1,h2,h3,h4⟩=>by
  rw[List.countP_cons,NA p h4,D2];cases hy:BE p y with
  |false=>grind
  |true=>
   have:=DJ.1 hy
   have:r.any (BE p)=false:=by
    rw[A0];intro hr;have:=Np h4 hr;omega
   simp_all
theorem KV:∀(l:List AS) (p:Int),((l.map canon).flatten).countP (BE p)=fy l p
 | [],_=>rfl
 |s::l,p=>by
  rw[Bb,BW,List.countP_append,KV l p,NA p (BN s),Jq]
  grind [fy]
def DU(keep:Nat->Bool)(m:List (Int×Int))(B:List Int):Nat->AS
 |0=>[]
 |i+1=>DU keep m B i++(match B[i]?,B[i+1]? with
  |some a,some b=>if keep (HU m (B.take (i+1))).toNat then [(a,b)]else []
  |_,_=>[])
theorem OU{keep:Nat->Bool}{m:List (Int×Int)}{B:List Int}{x:Int×Int}:∀{n:Nat},x∈DU keep m B n↔∃i,i<n/\∃(h1:i<B.length) (h2:i+1<B.length),keep (HU m (B.take (i+1))).toNat=true/\x=(B[i],B[i+1])
 |0=>by simp[DU]
 |n+1=>by
  unfold DU;rw[Bc,OU (n:=n)]
  grind
theorem Nt{B:List Int}(hs:B.Pairwise fun a b=>a<b){p:Int}:∀(n:Nat) (h0:0<B.length) (hn:n<B.length),B[0]<=p->p<B[n]->∃i,∃(h1:i<B.length) (h2:i+1<B.length),B[i]<=p/\p<B[i+1]
 |0,h0,hn,h1,h2=>by omega
 |n+1,h0,hn,h1,h2=>by
  by_cases e:B[n]<=p
  .grind
  .exact Nt hs n h0 ch h1 ch
theorem gM{keep:Nat->Bool}{l:List AS}{m:List (Int×Int)}(h:Fj m (l.map canon).flatten)(hB:jC B m)(p:Int):has (DU keep m B (B.length-1)) p=(Qs p&&keep (fy l p)):=by
 have hS:∀x∈(l.map canon).flatten,x.1<x.2:=fun x hx=>by
  obtain⟨s,hs,hx⟩:=Fc.1 hx;obtain⟨t,_,rfl⟩:=Ak.1 hs;exact((BN t).low x hx).2.1
 have mem:∀k,k∈EA m->∃j,∃hj:j<B.length,B[j]=k:=fun k hk=>by
  obtain⟨j,hj,e⟩:=CF.1 (hB.perm.mem_iff.2 hk)<;>grind [List.mem_iff_getElem]
 have lt:∀i j (hi:i<B.length) (hj:j<B.length),i<j->B[i]<B[j]:=fun i j hi hj X3=>(B1.1 hB.srt) i j hi hj X3;have rng:∀i (hi:i<B.length),0<=B[i]/\B[i]<=1000000:=fun i hi=>h.rng _ (hB.perm.mem_iff.1 (Ao hi))
 -- jN two bounds
 have jN:∀i (h1:i<B.length) (h2:i+1<B.length),B[i]<=p->p<B[i+1]->(HU m (B.take (i+1))).toNat=fy l p:=fun i h1 h2 a b=>by
  have same:∀k∈EA m,k<=B[i]↔k<=p:=fun k hk=>by
   grind
  have e1:lF (l.map canon).flatten B[i]=lF (l.map canon).flatten p:=by
   grind [lF,List.countP_congr,Fj.keys]
  grind [lT,List.countP_congr,bf,Ws,KV,Fj.keys]
 rw[CN];constructor
 .grind [has,OU,DJ,Qs]
 .intro hh;simp only[Ag,Qs,A5]at hh;obtain⟨⟨p0,p1⟩,hk⟩:=hh;obtain⟨j0,hj0,e0⟩:=mem 0 h.keys.1;obtain⟨j1,hj1,e1⟩:=mem 1000000 h.keys.2.1;have zf:B[0]' ch<=p:=by
   grind
  obtain⟨i,h1,h2,a,b⟩:=Nt hB.srt j1 ch hj1 zf ch;unfold has;simp only[p0,p1,decide_true,Bool.true_and];exact Ci.2 ⟨(B[i],B[i+1]),OU.2 ⟨i,by omega,h1,h2,by simp_all,rfl⟩,DJ.2 ⟨a,b⟩⟩
theorem iZ{l:List AS}{m:List (Int×Int)}(h:Fj m (l.map canon).flatten)(hB:jC B m)(i:Nat)(hi:i<B.length):0<=HU m (B.take (i+1))/\HU m (B.take (i+1))<=l.length:=by
 have hS:∀x∈(l.map canon).flatten,x.1<x.2:=fun x hx=>by
  obtain⟨s,hs,hx⟩:=Fc.1 hx;obtain⟨t,_,rfl⟩:=Ak.1 hs;exact((BN t).low x hx).2.1
 rw[bf h hB i hi,Ws hS,KV]
 grind [fy]
def VH(m:List Tm)(t:Tm):List Tm:=if m.any (fun u=>decide (u.path=t.path))then m.map (fun u=>if u.path=t.path then t else u)else m++[t]
def stepT(m:List Tm)(t:Tm):List Tm:=VH m (Qt (CP m t.path) t)
def CL:List Tm:=l.foldl stepT []
theorem ca(p:ByteArray):∀m:List Tm,CP (VH m t) p=if t.path=p then some t else CP m p:=by
 intro m;unfold VH
 by_cases h:(m.any fun u=>decide (u.path=t.path))=true
 .rw[A1 h]
  induction m with
  |nil=>simp_all
  |cons u m ih=>
   rw[Bb,DZ,DZ]
   by_cases e:u.path=t.path
   .rw[A1 e]
    by_cases ep:t.path=p
    .simp_all
    .rw[AO ep,AO ep,AO (fun c=>ep (e.symm.trans c))]
     by_cases hm:(m.any fun u=>decide (u.path=t.path))=true
     .simp_all
     .have:∀q∈m,q.path≠t.path:=fun q hq c=>hm (Ci.2 ⟨q,hq,by simp[c]⟩)
      have:m.map (fun u=>if u.path=t.path then t else u)=m:=by
       conv=>rhs;rw[<-GI m]
       grind [List.map_congr_left]
      simp_all
   grind
 .rw[AO h];have hn:∀q∈m,q.path≠t.path:=fun q hq e=>h (Ci.2 ⟨q,hq,by simp[e]⟩)
  clear h
  induction m<;>grind [DZ]
def Ee(m:List Tm):List ByteArray:=m.map (·.path)
open Classical in
theorem Zo(m:List Tm)(t:Tm):Ee (VH m t)=if t.path∈Ee m then Ee m else Ee m++[t.path]:=by
 grind [VH,Ee,List.map_congr_left]
theorem de{m:List Tm}(h:(Ee m).Nodup)(t:Tm):(Ee (VH m t)).Nodup:=by
 grind [Zo]
theorem PW(h:i<l.length):CL (l.take (i+1))=stepT (CL (l.take i)) l[i]:=by
 grind [CL,List.take_add_one]
theorem NP:∀(l m:List Tm),(Ee m).Nodup->(Ee (l.foldl stepT m)).Nodup
 | [],_,h=>h
 |_::l,_,h=>NP l _ (de h _)
theorem G9:(Ee (CL l)).Nodup:=NP l [] .nil
theorem WH(m:List Tm)(t:Tm)(p:ByteArray):CP (stepT m t) p=I3 p (CP m p) t:=by
 grind [stepT,I3,Pg,J4,ca]
theorem NN(p:ByteArray):∀(l m:List Tm),CP (l.foldl stepT m) p=l.foldl (I3 p) (CP m p)
 | [],_=>rfl
 |t::l,m=>by rw[FC,FC,NN p l,WH]
theorem YF(p:ByteArray):CP (CL l) p=CP (EM l) p:=by
 unfold CL;rw[NN,Ig];rfl
theorem PN{m:List Tm}(h:(Ee m).Nodup){t:Tm}:t∈m↔CP m t.path=some t:=by
 constructor
 .induction m<;>grind [Ee,DZ]
 .exact F2
theorem Lp{m:List Tm}(h:(Ee m).Nodup):m.Nodup:=by
 unfold Ee at h
 induction m<;>grind
theorem Hf{l:List Tm}{lo:Option ByteArray}(h:By lo l):(Ee l).Nodup:=by
 unfold Ee
 induction l generalizing lo with
 |nil=>simp_all
 |cons t l ih=>
  rw[Bb,FG];refine⟨fun hm=>?_,ih h.2.2⟩;obtain⟨u,hu,e⟩:=Ak.1 hm
  have:=h.2.2.low u hu
  grind [CG]
theorem Im:t∈CL l↔t∈EM l:=by
 grind [PN,G9,YF,Hf,DO]
theorem N4:∀t∈CL l,D3 t.set:=fun t ht=>(DO l).canon t ((Im l t).1 ht)
theorem dP(m:List Tm)(t:Tm):(stepT m t).length<=m.length+1:=by
 grind [stepT,VH]
theorem M1:∀i,i<=l.length->(CL (l.take i)).length<=i:=by
 intro i
 induction i<;>grind [CL,PW,dP]
theorem ZD{s:List Tm}(hs:s.Pairwise fun x y=>EL x.path y.path=true)(hc:∀t∈s,D3 t.set):By none s:=by
 have:∀(s:List Tm) (lo:Option ByteArray),s.Pairwise (fun x y=>EL x.path y.path=true)->(∀t∈s,D3 t.set)->(∀p,lo=some p->∀t∈s,EL p t.path=true)->By lo s:=by
  intro s
  induction s with
  |nil=>intro _ _ _ _;trivial
  |cons t s ih=>
   intro lo hs hc hl;obtain⟨h1,h2⟩:=Dh.1 hs;exact⟨fun p e=>hl p e t (Ad ..),hc t (Ad ..),ih _ h2 (fun u hu=>hc u (Af _ hu)) fun p e u hu=>by simp_all⟩
 simp_all
theorem OH{l s:List Tm}(q:Tm->Bool)(hp:s.Perm ((CL l).filter q))(hs:s.Pairwise fun x y=>EL y.path x.path=false):s=(EM l).filter q:=by
 have hm:∀t,t∈s↔t∈(EM l).filter q:=fun t=>by
  grind [Im]
 have RP:(Ee s).Nodup:=by
  grind [Ee,G9]
 have HF:s.Pairwise fun x y=>EL x.path y.path=true:=by
  grind [List.pairwise_iff_getElem,Ht,Ee]
 have hss:By none s:=ZD HF fun t ht=>(DO l).canon t (DE.1 ((hm t).1 ht)).1;have d6:By none ((EM l).filter q):=By.filter q (DO l)
 grind [LD,CP,FQ]
theorem Yo:Gn t t=KT t:=by grind [Gn,KT,YX]
theorem aW(o:Option Tm)(t:Tm):Qt o t=Gn (o.getD t) t:=by cases o with | none=>exact(Yo t).symm | some u=>rfl
theorem bB{t:Tm}(h:D3 t.set):(t.absent&&(Eh t.set).isEmpty)=Gx t:=by
 unfold Gx
 congr 1
 rw[CN,KC,A5];have ha:D3 [(0,1000000)]:=⟨B6 _,by omega,B6 _,trivial⟩;constructor
 .intro e;refine G0 h ha fun p=>?_
  have:=Ft t.set p
  grind [has,Qs,BE]
 grind [Pa,GK,Ft,has,BE]
theorem gY{t:Tm}(h:D3 t.set):(!t.absent&&(canon t.set).isEmpty)=HS t:=by grind [HS,Iu]
end Go.Eng
namespace Go.Eng
open Go.Lib
theorem Pt(c:UInt8):∀(s:List UInt8) (k:Nat),s.count c<=k->splitK [c] 0 k s=E3 c s
 | [],k,_=>by
  cases k with
  |zero=>rfl
  |succ k=>rfl
 |b::r,k,h=>by
  rw[E3]
  by_cases e:b=c
  .subst e;rw[List.count_cons_self]at h;obtain⟨k',rfl⟩:∃k',k=k'+1:=⟨k-1,by omega⟩;rw[A1 rfl,splitK,index_one,indexByte];simp only[beq_self_eq_true,if_true];rw[AO Wk];show []::splitK [b] 0 k' r=_;rw[Pt b r k' ch]
  .have DT:(b == c)=false:=by simp_all
   rw[List.count_cons_of_ne ch]at h;have ih:=Pt c r k h;rw[AO e];cases k with
   |zero=>
    rw[<-ih];rfl
   |succ k=>
    rw[<-ih,splitK,splitK,index_one,index_one,indexByte,DT]
    by_cases h0:indexByte r c=-1
    .simp_all
    .have h1:(indexByte r c == -1)=false:=by simp_all
     have h2:=indexByte_ge r c;have h3:(indexByte r c+1 == -1)=false:=by grind
     simp only[Ni,if_false,h1,h3];obtain⟨i,hi⟩:∃i:Nat,indexByte r c=i:=⟨(indexByte r c).toNat,by omega⟩<;>simp_all
theorem Wr(c:UInt8):∀(n:Nat) (s:List UInt8),s.length<=n->count s [c]=s.count c
 |n,s,hn=>by
  rcases Int.lt_or_le (indexByte s c) 0 with h | h
  .have h2:=indexByte_ge s c;have h3:indexByte s c=-1:=by omega
   rw[count_miss (by grind [index_one])]
   symm
   rw[List.count_eq_zero];intro hm;obtain⟨k,hk,e⟩:=List.getElem_of_mem hm;exact indexByte_none h3 k (by simp_all)
  .obtain⟨i,hi⟩:∃i:Nat,indexByte s c=i:=⟨(indexByte s c).toNat,by omega⟩;obtain⟨h1,h2⟩:=indexByte_some hi;obtain⟨hl,hg⟩:=AZ.1 h1;cases n with
   |zero=>omega
   |succ n=>
    have hc:=count_hit (s:=s) (sub:=[c]) (i:=i) B0 (by grind [index_one]);rw[hc];have ih:=Wr c n (s.drop (i+1)) (by grind);have uc:s=s.take i++c::s.drop (i+1):=by
     grind [List.drop_eq_getElem_cons,List.take_append_drop]
    grind [List.count_eq_zero,List.getElem_of_mem]
theorem dL(s:ByteArray)(c:UInt8):((splitB ⟨#[c]⟩ 0 (countB s ⟨#[c]⟩) s).map (·.data.toList))=E3 c s.data.toList:=by
 rw[splitB_data];refine Pt c _ _ ?_;show _<=count s.data.toList [c];rw[Wr c _ _ (Ai _)];omega
end Go.Eng
namespace Go.Eng
variable {U:List ByteArray}{l t c:List Tm}(x:List Rl)(p:ByteArray)(roots:List Rq)
theorem Ur{α:Type}:∀{l m:List α},l.Nodup->(∀x∈l,x∈m)->l.length<=m.length
 | [],_,_,_=>Ar _
 |a::l,m,hn,hs=>by
  obtain⟨h1,h2⟩:=FG.1 hn;obtain⟨s,t,rfl⟩:=List.append_of_mem (hs a (Ad ..))
  have:l.length<=(s++t).length:=Ur h2 fun x hx=>by
   grind
  grind
theorem Ku(p:ByteArray):∀(l:List Tm) (o:Option Tm),(∀u∈l,u.path≠p)->l.foldl (I3 p) o=o
 | [],_,_=>rfl
 |t::l,o,h=>by
  rw[FC,show I3 p o t=o by grind [I3]];exact Ku p l o fun u hu=>h u (Af _ hu)
theorem Zf{t:Tm}(h:t∈EM l):∃u∈l,u.path=t.path:=by
 grind [FQ,DO,Ig,Ku]
def Qh(U:List ByteArray)(t:List Tm):Prop:=By none t/\∀u∈t,u.path∈U
theorem Qh.len(h:Qh U t):t.length<=U.length:=by
 have:=Ur (Hf h.1) (m:=U) fun p hp=>by
  obtain⟨u,hu,rfl⟩:=Ak.1 hp;exact h.2 u hu
 grind [Ee]
theorem Yp(h:Ck l=some c){t:Tm}(ht:t∈c):t∈EM l:=by
 grind [Ck]
theorem OG(h:Ck l=some c)(hu:∀u∈l,u.path∈U):Qh U c:=
 ⟨Eg h,fun t ht=>by
  obtain⟨u,h1,h2⟩:=Zf (Yp h ht)<;>grind⟩
theorem Qh.nil(U:List ByteArray):Qh U []:=⟨trivial,fun u hu=>by cases hu⟩
theorem Sr(hu:∀u∈l,u.path∈U):Qh U (Pb l):=by
 grind [Pb,Ck,OG,Qh.nil]
theorem Qb{a b:List Tm}{p:ByteArray}(ha:Qh U a)(hb:Qh U b):Qh U (AX a b p).1:=by
 have sp:∀{l r:List Tm} {t:Tm},Qh U l->EO l p=some (t,r)->t.path∈U/\∀u∈r,u.path∈U:=by
  intro l r t hl h;unfold EO at h;cases e:Ck l with
  |none=>simp_all
  |some c=>
   rw[e]at h;have h:(match CP c p with | none=>none | some t=>some (t,Fr c p))=some (t,r):=h;have hc:=OG e hl.2;cases e2:CP c p with
   |none=>simp_all
   |some u=>
    rw[e2]at h;cases h;exact⟨hc.2 _ (F2 e2),fun u hu=>hc.2 u (DE.1 hu).1⟩
 unfold AX;split
 .rename_i t r u m e1 e2;obtain⟨a1,a2⟩:=sp ha e1;obtain⟨b1,b2⟩:=sp hb e2;split
  .rename_i o e3;refine OG e3 fun v hv=>?_;rcases Bc.1 hv with hv | hv
   .grind
   .rw[AB.1 hv];exact a1
  .exact .nil U
 .exact .nil U
def Ha(l:List Nf):List ByteArray:=(x.map (·.path))++((x.map (·.reqs)).flatten.map (·.path)++(roots.map (·.path)++l.map (·.path)))
theorem OS{x:List Rl}{roots:List Rq}{l:List Nf}{d:List (List Tm)}{i:Nf}(hi:i∈l)(hd:∀t∈d,Qh (Ha x roots l) t)(h:Bo x roots d i=some t):Qh (Ha x roots l) t:=by
 have hp:i.path∈Ha x roots l:=by
  grind [Ha]
 have nz:∀{α:Type} {l:List α} {k:Int} {a:α},El l k=some a->a∈l:=by
  grind [El]
 have n0:∀{a b:List Tm},QG a=some b->b=a:=by
  grind [QG]
 unfold Bo at h;split at h
 .split at h
  .cases e:El roots i.number with
   |none=>simp_all
   |some q=>
    rw[e]at h;cases h;refine Sr fun u hu=>?_;rw[AB.1 hu];unfold Ha;exact BP _ (BP _ (Bj _ (Ak.2 ⟨q,nz e,rfl⟩)))
  simp_all
 split at h
 .split at h
  .cases e:E2 x i.path i.place with
   |none=>simp_all
   |some r=>
    rw[e]at h;have h:(match El r.reqs i.number with | none=>none | some q=>QG (Co i.path i.place q))=some t:=h;cases e2:El r.reqs i.number with
    |none=>simp_all
    |some q=>
     rw[e2]at h;have h:=n0 (show QG (Co i.path i.place q)=some t from h);subst h;refine Sr fun u hu=>?_;rcases AA.1 hu with rfl | hu
     .exact hp
     .rw[AB.1 hu];unfold Ha;refine BP _ (Bj _ (Ak.2 ⟨q,?_,rfl⟩));exact Fc.2 ⟨r.reqs,Ak.2 ⟨r,BO e,rfl⟩,nz e2⟩
  simp_all
 split at h
 .split at h
  .have h:=n0 h;subst h;refine Sr fun u hu=>?_;simp_all
  simp_all
 grind [Qb]
structure Cd where
 place:Int
 rel:Rl
structure Nd where
 rq:Rq
 path:ByteArray
 place:Int
 number:Int
variable (n:Nd)
structure SS where
 infs:List Nf
 drv:List (List Tm)
 full:Bool
variable (s:SS)
abbrev OV(c:Cd):Sl:=⟨c.rel.path,c.rel.ver⟩
abbrev At(l:List Cd):List Sl:=l.map OV
def Bn:List Cd:=(x.filter fun r=>decide (r.path=p)&&!r.yanked).map fun r=>⟨plc r.ver,r⟩
def Lq(f:Rq->Nat->Nd):Nat->List Rq->List Nd
 |_,[]=>[]
 |i,q::l=>f q i::Lq f (i+1) l
def XP:List Nd:=Lq (fun q i=>⟨q,mt,0,i⟩) 0 roots
def Pi(c:Cd):List Nd:=Lq (fun q i=>⟨q,c.rel.path,c.place,i⟩) 0 c.rel.reqs
def CI(dec:List Cd):List Nd:=XP roots++(dec.map Pi).flatten
def CO(dec:List Cd)(p:ByteArray):Bool:=dec.any fun c=>decide (c.rel.path=p)
def DK(dec:List Cd)(a:ByteArray×List Nd)(n:Nd):ByteArray×List Nd:=
 if CO dec n.rq.path=true\/(a.2≠[]/\EL a.1 n.rq.path=true)then a
 else if a.2≠[]/\EL n.rq.path a.1=true then(n.rq.path,[n])else(n.rq.path,a.2++[n])
def Ea(dec:List Cd):ByteArray×List Nd:=(CI roots dec).foldl (DK dec) (mt,[])
def aG(l:List Cd)(n:Nd):Bool:=l.any fun d=>decide (d.rel.path=n.rq.path)&&!has n.rq.set d.place
def Dq(dec:List Cd)(c:Cd):Option Nd:=(Pi c).find? (aG (dec++[c]))
def NE(s:List Sl):Nat->List (List Tm)->Option Nat
 |_,[]=>none
 |i,t::l=>if BG t s then some i else NE s (i+1) l
def MM(d:List (List Tm))(s:List Sl):Option Nat:=NE s 0 d
def CY(l:List Tm)(p:ByteArray):Bool:=l.any fun t=>decide (t.path=p)
instance:DecidableEq Nf:=fun a b=>by
 obtain⟨a1,a2,a3,a4,a5,a6⟩:=a;obtain⟨b1,b2,b3,b4,b5,b6⟩:=b;exact decidable_of_iff (a1=b1/\a2=b2/\a3=b3/\a4=b4/\a5=b5/\a6=b6) ⟨fun⟨h1,h2,h3,h4,h5,h6⟩=>by simp_all,fun h=>by simp_all⟩
def KK(i:Nf):Nat->List Nf->Option Nat
 |_,[]=>none
 |k,j::l=>if j=i then some k else KK i (k+1) l
def Dw(i:Nf)(l:List Tm):Nat×SS:=
 match KK i 0 s.infs with
 |some k=>(k,s)
 |none=>if 65536<=s.infs.length then(s.infs.length-1,⟨s.infs,s.drv,true⟩)else(s.infs.length,⟨s.infs++[i],s.drv++[l],s.full⟩)
def NZ:Nf:=if n.path=mt then⟨0,mt,0,n.number,0,0⟩else⟨1,n.path,n.place,n.number,0,0⟩
def Ho:List Tm:=if n.path=mt then Gc n.rq else Co n.path n.place n.rq
def Bk(n:Nd):Nat×SS:=Dw s (NZ n) (Ho n)
abbrev DF(k:Nat):List Tm:=s.drv.getD k []
def BL(p:ByteArray):List Nat->Nat->SS->Nat×SS
 | [],k,s=>(k,s)
 |r::l,k,s=>
  if s.full=true\/CY (DF s k) p=false then(k,s)
  else if r=k then BL p l k s
  else if(AX (DF s k) (DF s r) p).2≠0 then BL p l k s
  else BL p l (Dw s ⟨3,p,0,0,k,r⟩ (AX (DF s k) (DF s r) p).1).1 (Dw s ⟨3,p,0,0,k,r⟩ (AX (DF s k) (DF s r) p).1).2
def DL:Nat×SS:=Dw s ⟨2,p,0,0,0,0⟩ (EK p (Br x p))
def CR(reasons:List Nat)(s:SS):Nat×SS:=
 BL p ((DL x p (Bk s n).2).1::reasons) (Bk s n).1 (DL x p (Bk s n).2).2
structure Jm where
 res:Nat
 found:Bool
 ss:SS
 dec:List Cd
 stack:List (List Sk)
def Dg(rec:List Cd->SS->List (List Sk)->Jm)(x:List Rl)(p:ByteArray)(needs:List Nd)(n0:Nd)(dec:List Cd)(stack:List (List Sk)):List Cd->SS->List Nat->List Sk->Jm
 | [],s,reasons,_=>⟨(CR x p n0 reasons s).1,false,(CR x p n0 reasons s).2,dec,stack⟩
 |c::cs,s,reasons,skips=>
  let after (k:Nat) (s:SS):Jm:=if CY (DF s k) p=false then⟨k,false,s,dec,stack⟩else Dg rec x p needs n0 dec stack cs s (reasons++[k]) (skips++[⟨p,c.place,k⟩])
  if s.full=true then⟨0,false,s,dec,stack⟩
  else match needs.find? fun n=>!has n.rq.set c.place with
   |some n=>Dg rec x p needs n0 dec stack cs (Bk s n).2 (reasons++[(Bk s n).1]) skips
   |none=>match MM s.drv (At (dec++[c]))with
    |some k=>after k s
    |none=>match Dq dec c with
     |some n=>after (Bk s n).1 (Bk s n).2
     |none=>
      let o:=rec (dec++[c]) s (stack++[skips])
      if o.found=true then⟨0,true,o.ss,o.dec,o.stack⟩
      else if o.ss.full=true then⟨0,false,o.ss,dec,stack⟩
      else after o.res o.ss
def B8(x:List Rl)(roots:List Rq):Nat->List Cd->SS->List (List Sk)->Jm
 |0,dec,s,stack=>⟨0,false,s,dec,stack⟩
 |n+1,dec,s,stack=>match(Ea roots dec).2 with
  | []=>⟨0,true,s,dec,stack⟩
  |n0::l=>Dg (B8 x roots n) x (Ea roots dec).1 (n0::l) n0 dec stack (Bn x (Ea roots dec).1) s [] []
abbrev tb:SS:=⟨[],[],false⟩
def E8(dec:List Cd):Nat:=(x.filter fun r=>!r.yanked&&!CO dec r.path).length
def Es:Jm:=B8 x roots (x.length+1) [] tb []
end Go.Eng
