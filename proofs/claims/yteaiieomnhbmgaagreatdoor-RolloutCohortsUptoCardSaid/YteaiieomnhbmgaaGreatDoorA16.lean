/- Lemmas for the claims of this seat, without a condition: part 16 (EngZG, EngZH, EngZI, EngZJ, EngZK, EngZM, EngZN, EngZO, EngZP, EngZQ, EngZS). -/
import Derived.Test.YteaiieomnhbmgaaGreatDoorA15
import Derived.Sort.Grow
import Derived.Shelf.GgSortFunc.InsertionK
import Derived.Below
import Derived.RangeFuncLeaves
import Derived.RangeFuncNested
namespace Go.Eng
variable {args:List AV}{f:Nat}(vals:List Value)
section
variable {P:Program}
theorem gR {fn : Func}{c : Code}(hf : P.funcs[f]? = some fn)(hn : (fn.name == "runtime.NumGoroutine") = false)(hb : fn.body = some c) : FQ P f := ⟨fn, hf, hn, by simp [hb]⟩
theorem Kc{res:AV}(v:Value)(hE:FQ P f)(ha:args=vals.map .v)(lI:∀g w,BM g w Fw res v)(h:∀w,(∃m,w.cell? ⟨gB,0,none⟩=some (.int .i64 m))->Calls P f vals.toArray w fun e w'=>e=.returned v/\w'=w):IY P f args res:=by
 refine⟨hE,fun g w us hs hv hI=>?_⟩;have hu:us=vals.toArray:=by
  subst ha;rw[A8]at hs;refine OS (by simpa using hs) fun i h1 h2=>?_
  have:=hv i (.v (vals[i]'(by simpa using h2))) us[i] (by rw[AG,Ay (by simpa using h2)];rfl) (by rw[A5 h1])
  rw[this.v_eq];simp
 subst hu;refine(h w hI.glob.1.2).mono ?_
 rintro e w' ⟨rfl,rfl⟩
 exact⟨v,res,Af,g,rfl,⟨rfl,rfl⟩,(lI g _).up _,hI,.refl _ _ _⟩
theorem mW{g:Gh}{w:World}:∀(vs:List Value),BM g w Fw (.tup (vs.map .v)) (.tuple vs.toArray):=fun vs =>
 .tup _ _ _ B0 fun i av x h1 h2=>by
  rw[AG,AS]at h1;obtain⟨a,e1,rfl⟩:=h1
  have:vs[i]?=some x:=by simpa using h2
  rw[e1]at this;cases this;exact .v _ _
theorem jb(es:List Value)(T:TypeId)(hE:FQ P f)(ha:args=vals.map .v)(h1:∀x∈es,x.oneCell'=true)(h:∀w,(∃m,w.cell? ⟨gB,0,none⟩=some (.int .i64 m))->Calls P f vals.toArray w fun e w'=>e=.returned (.slice (some ⟨w.heap.size,0,none⟩) es.length es.length)/\w'=w.alloc (.cells es.toArray T)) :
  IY P f args (.slice .none (es.map fun x=>[.v x])):=by
 refine⟨hE,fun g w us hs hv hI=>?_⟩;have hu:us=vals.toArray:=by
  subst ha;rw[A8]at hs;refine OS (by simpa using hs) fun i h1 h2=>?_
  have:=hv i (.v (vals[i]'(by simpa using h2))) us[i] (by rw[AG,Ay (by simpa using h2)];rfl) (by rw[A5 h1])
  rw[this.v_eq];simp
 subst hu;refine(h w hI.glob.1.2).mono ?_
 rintro e w' ⟨rfl,rfl⟩
 have EL:(w.alloc (.cells es.toArray T)).heap[w.heap.size]?=some (.cells es.toArray T (0,0)):=GL w _ rfl;have QV:∀b,b<w.heap.size->(w.alloc (.cells es.toArray T)).heap[b]?=w.heap[b]?:=fun b hb=>heap_alloc_old _ _ hb;have hK:EH g w ⟨g.ρ,g.ln,g.tk,g.own,g.more w.heap.size es.length⟩ (w.alloc (.cells es.toArray T)):=fun b o hb=>by
  have Dz:=hI.slt b o hb;exact⟨.inl hb,by simp only[World.cell?,QV b Dz],fun es ck he=>(QV b Dz).trans he⟩
 refine⟨_,_,Af,⟨g.ρ,g.ln,g.tk,g.own,g.more w.heap.size es.length⟩,rfl,⟨rfl,rfl⟩,?_,⟨rfl,rfl,rfl,?_,fun b hb _=>QV b hb,fun b o hs=>?_,fun _=>trivial,fun _ _ _ h=>h.elim,fun _ _ h=>h.elim,fun b o hs=>?_,hI.glob.keep hK⟩,⟨.refl _ _,fun _ h=>h,hK⟩⟩
 .have hr:CO ⟨g.ρ,g.ln,g.tk,g.own,g.more w.heap.size es.length⟩ (w.alloc (.cells es.toArray T)) Fw (es.map fun x=>[AV.v x]).flatten (es.toArray.toList.take ((es.map fun x=>[AV.v x]).length*1)):=by
   have hfl:∀l:List Value,(l.map fun x=>[AV.v x]).flatten=l.map .v:=fun l=>by
    induction l with
    |nil=>rfl
    |cons a l ih=>rw[AI,BB,ih];rfl
   rw[hfl];simp only[A8,Nat.mul_one,B4];refine⟨by simp,fun x hx=>h1 x (by simpa using hx),fun i av x q1 q2=>?_⟩;rw[AG,AS]at q1;obtain⟨a,e1,rfl⟩:=q1;rw[e1]at q2;cases q2;exact .v _ _
  have:=BM.slice_row (U:=AQ Af) (cap:=es.length) (sz:=1) (es:=es.map fun x=>[AV.v x]) EL (fun cs hcs=>by
   obtain⟨x,_,rfl⟩:=Ag.1 hcs;rfl) B0 hr (fun o ho=>.inr ⟨rfl,by simpa using ho⟩)
  simpa using this
 .rw[World.size_alloc];omega
 .rw[World.size_alloc];rcases hs with hs | ⟨rfl,_⟩
  .have:=hI.slt b o hs;omega
  .omega
 .rcases hs with hs | ⟨rfl,_⟩
  .exact .inl hs
  .exact .inr (.inl (Aj _))
end
end Go.Eng
namespace Go.Eng
open Go.Sort
section
variable {P:Program}
theorem Oa(F c:Array Value)(h:F.size<=c.size):(putCells id 0 F c).toList.take F.size=F.toList/\(putCells id 0 F c).size=c.size:=by
 have hs:(putCells id 0 F c).size=c.size:=by simp[putCells]
 refine⟨?_,hs⟩;apply Do;intro i;rw[Kp,A3,A3]
 by_cases hi:i<F.size
 .rw[Al hi];have hi2:i<c.size:=by omega
  simp only[putCells,Array.getElem?_mapIdx,A5 hi2,A5 hi,H6,AE,true_and,Bf,hi,Sc,Nat.sub_zero,id_eq];rw[DR F i hi]
 .rw[Ai hi,VA ch]
theorem Ur(r:Nat)(o o' : HO):A0 (Ao [(r,o)] Af) r o'=Ao [(r,o')] Af:=by
 funext i
 by_cases e:i=r
 .subst e;rw[Bj];simp[Ao]
 .rw[B6 _ _ _ _ e];simp[Ao,CW e]
theorem QF{f:Nat}{es:List (List AV)}{sz:Nat}{rest:List Value}{Q:List (List AV)->Prop}(hE:FQ P f)
  (h0:es=[]->Q []/\∀w,Calls P f (#[.slice none 0 0]++rest.toArray) w fun e w'=>e=.returned (.tuple #[])/\w'=w)
  (h1:∀(g:Gh) (w:World) (b cap:Nat) (F:Array Value),CO g w Fw es.flatten F.toList->F.size=es.length*sz->Holds id w b 0 F->b<w.heap.size->Calls P f (#[.slice (some ⟨b,0,none⟩) es.length cap]++rest.toArray) w fun e w' =>
   e=.returned (.tuple #[])/\∃(F' : Array Value) (FP : List (List AV)) (n:Nat) (os:Array Obj),F'.size=F.size/\Q FP/\FP.length=es.length/\(∀cs∈FP,cs.length=sz) /\
    (∀(g:Gh) (w:World),CO g w Fw es.flatten F.toList->CO g w Fw FP.flatten F'.toList)/\w'=grow (putRow id (Sort.ahead w n) b 0 F') os) :
  A9 P f (.msl 1000 es.length::rest.map .v) (Ao [(1000,.arr sz es)] Af) fun r h'=>r=.tup []/\∃FP,Q FP/\h'=Ao [(1000,.arr sz FP)] Af:=by
 refine⟨hE,fun g w us hs hv hI=>?_⟩;have ho:=hI.objs 1000;have he:Ao [(1000,HO.arr sz es)] Af 1000=.arr sz es:=rfl;rw[he]at ho;obtain⟨t1,l1,al,a2⟩:=ho;simp only[Ak,A8]at hs
 -- the arguments
 have hu0:0<us.size:=by omega
 have vH:=hv 0 (.msl 1000 es.length) us[0] rfl (A5 hu0);have hval:us[0]=g.ρ 1000:=by
  generalize us[0]=x at vH;cases vH with
  |msl _ r n a cap hu ht hn ha hx=>exact hx l1.symm
 have K8:us=#[g.ρ 1000]++rest.toArray:=by
  refine OS (by simp;omega) fun i h1 h2=>?_;cases i with
  |zero=>rw[hval];simp
  |succ i =>
   have hi:i<rest.length:=by omega
   have:=hv (i+1) (.v rest[i]) us[i+1] (by simp[List.getElem?_eq_getElem hi]) (A5 h1)
   rw[this.v_eq];simp
 rw[K8];rcases a2 with ⟨b1,b2,b3⟩ | ⟨b,cap,E,vs,b1,b2,b3,b4,b5,b6,b7⟩
 .subst b1;obtain⟨q,h0⟩:=h0 rfl;rw[b2];refine(h0 w).mono ?_
  rintro e w' ⟨rfl,rfl⟩
  exact⟨_,.tup [],_,g,rfl,⟨rfl,[],q,rfl⟩,.tup _ _ _ rfl (fun i av x h=>by simp at h),hI,.refl _ _ _⟩
 .have hl:(Ao [(1000,HO.arr sz es)] Af 1000).live:=trivial;have Dz:=(hI.loc 1000 b hl b2).1;have H2:es.length*sz<=vs.size:=by rw[b5];exact Bg _ b3
  have hF:((vs.toList.take (es.length*sz)).toArray).size=es.length*sz:=by simp;omega
  have hH:Holds id w b 0 (vs.toList.take (es.length*sz)).toArray:=fun j hj=>by
   have hj:j<es.length*sz:=by rw[hF]at hj;exact hj
   refine⟨?_,?_⟩
   .have xj:j<vs.size:=by omega
    simp only[World.cell?,b4,Bf,OZ,Dh,Gl];rw[A5 xj,DR _ j (by rw[hF];exact hj)];simp
   .simp[World.frozen?,b4]
  rw[b1];refine(h1 g w b cap _ (by simpa using b6) hF hH Dz).mono ?_
  rintro e w' ⟨rfl,F',FP,n,os,f1,f2,f3,f4,f5,rfl⟩
  have vv : F'.size=es.length*sz:=f1.trans hF;have xB:=Oa F' vs ch;have rr : (grow (putRow id (Sort.ahead w n) b 0 F') os).heap[b]?=some (.cells (putCells id 0 F' vs) E (0,0)):=by
   rw[heap_grow_old _ _ (by rw[size_putRow];exact Dz)];show(w.heap.modify b (onCells (putCells id 0 F')))[b]?=_;rw[Array.getElem?_modify,Al rfl,b4];rfl
  have xu:∀k,k<w.heap.size->k≠b->(grow (putRow id (Sort.ahead w n) b 0 F') os).heap[k]?=w.heap[k]?:=fun k hk Dy=>by
   rw[heap_grow_old _ _ (by rw[size_putRow];exact hk)];simp[putRow,mapBlock,Array.getElem?_modify,Ne.symm Dy]
  have EM:w.heap.size<=(grow (putRow id (Sort.ahead w n) b 0 F') os).heap.size:=by rw[size_grow,size_putRow];show w.heap.size<=w.heap.size+_;omega
  obtain⟨k1,k2⟩:=hI.upd 1000 (.arr sz FP) (g.ρ 1000) (g.ln 1000) (g.tk 1000) (g.own 1000) g.S (grow (putRow id (Sort.ahead w n) b 0 F') os) (some b) ⟨rfl,rfl,rfl,EM⟩
   (fun k hk Dy=>xu k hk (fun e=>Dy (by rw[e]))) (fun b' e=>by cases e;exact⟨hl,b2⟩) (fun _ _ h=>h) (fun _ _ h=>.inl h) (fun b' o e hs=>by cases e;exact absurd hs (b7 o))
   (fun b' _ e=>by rw[b2]at e;cases e;exact⟨By Dz EM,.inl ⟨hl,b2⟩⟩) B0 (fun _=>⟨rfl,Aj _,fun _=>rfl,fun _=>rfl⟩) (fun hg hk=>by
    refine⟨by simp[Gh.upd,t1],by simp[Gh.upd,l1,f3],f4,.inr ⟨b,cap,E,_,by simp[Gh.upd,b1,f3],by simp[Gh.upd,b2],by omega,rr,by rw[xB.2,b5],?_,b7⟩⟩
    have:=f5 g w (by simpa using b6)
    rw[f3,<-vv,xB.1];exact this.mono hk (fun _ h=>h) (fun _ h=>h.elim))
  rw[Ur]at k1 k2;exact⟨_,.tup [],_,_,rfl,⟨rfl,FP,f2,rfl⟩,.tup _ _ _ rfl (fun i av x h=>by simp at h),k1,k2⟩
end
end Go.Eng
namespace Go.Eng
open Go.Sort Go.Proofs
variable {α β:Type}{k:Nat}
theorem Su{g:Gh}{w:World}{U:Nat->Prop}{cs ca : List AV}{vs jP : List Value}(h:vs.length=cs.length):CO g w U (cs++ca) (vs++jP)↔CO g w U cs vs/\CO g w U ca jP:=by
 constructor
 .intro⟨h1,h2,h3⟩;refine⟨⟨h,fun x hx=>h2 x (BC _ hx),fun i av x q1 q2=>?_⟩,⟨by simp at h1;omega,fun x hx=>h2 x (Br _ hx),fun i av x q1 q2=>?_⟩⟩
  .have a1:=(Au.1 q1).1;have a2:=(Au.1 q2).1;exact h3 i av x (by rw[AY a1];exact q1) (by rw[AY a2];exact q2)
  .exact h3 (cs.length+i) av x (by rw[AZ ch,Hl];exact q1) (by rw[AZ ch,h,Hl];exact q2)
 .intro⟨⟨h1,h2,h3⟩,k1,k2,k3⟩;refine⟨by simp[h1,k1],fun x hx=>(AO.1 hx).elim (h2 x) (k2 x),fun i av x q1 q2=>?_⟩
  by_cases hi:i<cs.length
  .rw[AY hi]at q1;rw[AY ch]at q2;exact h3 i av x q1 q2
  .rw[AZ ch]at q1;rw[AZ ch]at q2;rw[h]at q2;exact k3 _ av x q1 q2
theorem Rp{α β:Type}{g:Gh}{w:World}{U:Nat->Prop}{Jj:β->List AV}{enc:α->List Value}(hl:∀x y,(enc x).length=(Jj y).length):∀ps:List (β×α),
  CO g w U (ps.map fun p=>Jj p.1).flatten (ps.map fun p=>enc p.2).flatten↔∀p∈ps,CO g w U (Jj p.1) (enc p.2)
 | []=>by simp[CO]
 |p::ps=>by
  simp only[AI,BB];rw[Su (hl _ _),Rp hl ps];simp
theorem KJ{f:α->β}:∀{m m' : List β},m.Perm m'->∀ps:List α,ps.map f=m->∃mU : List α,mU.Perm ps/\mU.map f=m':=by
 intro m m' h
 induction h with
 |nil=>intro ps e;exact⟨ps,.refl _,e⟩
 |cons x h ih =>
  intro ps e;cases ps with
  |nil=>cases e
  |cons p ps =>
   rw[AI]at e
   injection e with e1 e2
   obtain⟨mU,h1,h2⟩:=ih ps e2;exact⟨p::mU,h1.cons p,by rw[AI,e1,h2]⟩
 |swap x y l =>
  intro ps e
  match ps,e with
  |p::q::ps,e =>
   simp only[AI,E7]at e;exact⟨q::p::ps,List.Perm.swap _ _ _,by simp[e.1,e.2.1,e.2.2]⟩
 |trans h1 h2 ih1 ih2 =>
  intro ps e;obtain⟨ps1,p1,p2⟩:=ih1 ps e;obtain⟨ps2,q1,q2⟩:=ih2 ps1 p2;exact⟨ps2,q1.trans p1,q2⟩
theorem Uf[Inhabited α]{enc:α->List Value}(hk:∀x,(enc x).length=k)(d:Array α):(flatK enc k d).toList=(d.toList.map enc).flatten:=by
 have hl:∀cs∈d.toList.map enc,cs.length=k:=fun cs hcs=>by
  obtain⟨x,_,rfl⟩:=Ag.1 hcs;exact hk x
 have CL:(d.toList.map enc).flatten.length=d.size*k:=by
  have:∀l:List α,(l.map enc).flatten.length=l.length*k:=fun l=>by
   induction l with
   |nil=>simp
   |cons a l ih=>simp[hk,Nat.succ_mul,ih];omega
  rw[this];simp
 apply Do;intro t
 by_cases ht:t<d.size*k
 .have k0:0<k:=Nat.pos_of_ne_zero fun h=>by subst h;simp at ht
  have h1:t / k<d.size:=by rw[Mf k0];exact ht
  have h2:t % k<k:=Nat.mod_lt _ k0;have e:t=t / k*k+t % k:=by rw[Nat.mul_comm];exact(Wb t k).symm
  rw[A3,A5 (by simpa using ht),<-DR _ t (by simpa using ht),get_flatK _ _ _ _ ht];have hg:(d.toList.map enc)[t / k]?=some (enc d[t / k]!):=by
   rw[AG,A3,A5 h1,DR d _ h1];rfl
  have:=Fx hl hg h2
  rw[e,this,<-e];rw[Ay (by rw[hk];exact h2),DR _ _ (by rw[hk];exact h2)]
 .rw[A6 (by simp;omega),A6 ch]
theorem gi{α β:Type}:∀{l:List α} {m:List β},l.length=m.length->(l.zip m).map (·.1)=l/\(l.zip m).map (·.2)=m
 | [],[],_=>⟨rfl,rfl⟩
 |a::l,b::m,h=>by
  have:=gi (l:=l) (m:=m) (by simpa using h)
  simp[this.1,this.2]
section
variable {P:Program}
theorem JU[Inhabited α]{f:Nat}{rest:List Value}(hE:FQ P f)(Jj:β->List AV)(enc:α->List Value)(hB:∀x,(Jj x).length=k)(hk:∀x,(enc x).length=k)(lt:α->α->Bool)(R:β->α->Prop)(l:List β)(hl:l.length<4611686018427387904)(hR:∀x∈l,∀(g:Gh) (w:World) (vs:List Value),CO g w Fw (Jj x) vs->∃a,enc a=vs/\R x a)(Ca:∀(w:World) (b cap:Nat) (d:Array α),HoldsK enc k w b 0 d->b<w.heap.size->d.size<4611686018427387904->d.size=l.length->Calls P f (#[.slice (some ⟨b,0,none⟩) d.size cap]++rest.toArray) w fun e w' =>
   e=.returned (.tuple #[])/\∃d' n os,PermIn 0 d.size d d'/\SortedIn lt 0 d.size d'/\w'=sortWorldK enc k w b 0 n d' os)(xt:l=[]->∀w:World,Calls P f (#[.slice none 0 0]++rest.toArray) w fun e w'=>e=.returned (.tuple #[])/\w'=w) :
  A9 P f (.msl 1000 l.length::rest.map .v) (Ao [(1000,.arr k (l.map Jj))] Af) fun r h' =>
   r=.tup []/\∃l' : List β,l'.Perm l/\(∃al:List α,al.length=l'.length/\(∀(i:Nat) (x:β) (a:α),l'[i]?=some x->al[i]?=some a->R x a)/\al.Pairwise (fun x y=>lt y x=false))/\h'=Ao [(1000,.arr k (l'.map Jj))] Af:=by
 have HT:=QF (P:=P) (f:=f) (es:=l.map Jj) (sz:=k) (rest:=rest)
  (Q:=fun FP=>∃l' : List β,l'.Perm l/\(∃al:List α,al.length=l'.length/\(∀(i:Nat) (x:β) (a:α),l'[i]?=some x->al[i]?=some a->R x a)/\al.Pairwise (fun x y=>lt y x=false))/\FP=l'.map Jj) hE ?_ ?_
 .rw[A8]at HT;refine⟨hE,fun g w vals q1 q2 q3=>(HT.2 g w vals q1 q2 q3).mono fun _ _ ⟨v,r,h',g',e1,⟨e2,FP,⟨l',p1,p2,p3⟩,p4⟩,rest⟩=>⟨v,r,h',g',e1,⟨e2,l',p1,p2,by rw[p4,p3]⟩,rest⟩⟩
 .intro e
  have:l=[]:=by simpa using e
  subst this;exact⟨⟨[],.refl _,⟨[],rfl,fun i x a h=>by simp at h,.nil⟩,rfl⟩,xt rfl⟩
 .intro g w b cap F hr hF hH hb
  -- the elements in memory
  have tJ:∀(m:List β) (vs:List Value),(∀x∈m,x∈l)->CO g w Fw (m.map Jj).flatten vs->∃al:List α,al.length=m.length/\vs=(al.map enc).flatten/\∀(i:Nat) (x:β) (a:α),m[i]?=some x->al[i]?=some a->R x a:=by
   intro m
   induction m with
   |nil =>
    intro vs _ h
    have:vs=[]:=AP (by simpa using h.1)
    subst this;exact⟨[],rfl,rfl,fun i x a h=>by simp at h⟩
   |cons x m ih =>
    intro vs hm h;rw[AI,BB]at h;have CL:=h.1;rw[Ac,hB]at CL;have e:vs=vs.take k++vs.drop k:=(Gp k vs).symm;rw[e]at h;rw[Su (by rw[Av,hB];omega)]at h;obtain⟨a,a1,a2⟩:=hR x (hm x (Ab ..)) g w _ h.1;obtain⟨al,b1,b2,b3⟩:=ih _ (fun y hy=>hm y (Ah _ hy)) h.2;refine⟨a::al,by simp[b1],by rw[AI,BB,a1,<-b2,<-e],fun i y c q1 q2=>?_⟩;cases i with
    |zero=>simp only[Be,Bw]at q1 q2;subst q1;subst q2;exact a2
    |succ i=>exact b3 i y c (by simpa using q1) (by simpa using q2)
  obtain⟨al,s1,s2,s3⟩:=tJ l F.toList (fun _ h=>h) hr;have hFd:F=flatK enc k al.toArray:=Jf.1 (by rw[Uf hk,s2]);have hd:HoldsK enc k w b 0 al.toArray:=by unfold HoldsK;rw[<-hFd];exact hH
  have hc:=Ca w b cap al.toArray hd hb (by simpa[s1]using hl) (by simp[s1]);have EM:al.toArray.size=(l.map Jj).length:=by simp[s1]
  rw[EM]at hc;refine hc.mono ?_
  rintro e w' ⟨rfl,d',n,os,p1,p2,rfl⟩
  obtain⟨z1,z2⟩:=gi s1.symm;obtain⟨lL,_,Ju⟩:=p1;have lL : d'.size=al.length:=by rw[lL];simp
  have e1:d'.extract 0 (l.map Jj).length=d':=by rw[show(l.map Jj).length=d'.size by rw[lL];simp[s1]];exact Array.extract_size
  have e2:al.toArray.extract 0 (l.map Jj).length=al.toArray:=by rw[<-EM];exact Array.extract_size
  rw[e1,e2]at Ju;have Ju:al.Perm d'.toList:=by
   first
   |exact Ju.symm
   |exact Ju
   |(have:=Ju.symm;simpa using this)
  obtain⟨mU,r1,r2⟩:=KJ Ju (l.zip al) z2;have rel:∀p∈l.zip al,R p.1 p.2:=fun p hp=>by
   obtain⟨i,hi⟩:=Ck.1 hp;rw[List.getElem?_zip_eq_some]at hi;exact s3 i _ _ hi.1 hi.2
  refine⟨rfl,flatK enc k d',(mU.map (·.1)).map Jj,n,os,by rw[size_flatK,lL,hF];simp[s1],⟨mU.map (·.1),?_,⟨d'.toList,by rw[<-r2];simp,fun i x a q1 q2=>?_,?_⟩,rfl⟩,by have:=r1.length_eq;simp[this,s1],fun cs hcs=>?_,fun g w hr=>?_,?_⟩
  .have:=r1.map (·.1);rw[z1]at this;exact this
  .rw[<-r2]at q2;rw[AG,AS]at q1 q2;obtain⟨p,q1,rfl⟩:=q1;obtain⟨p',q2,rfl⟩:=q2;rw[q1]at q2;cases q2;exact rel p (r1.mem_iff.1 (Aw q1))
  .rw[AX];intro i j hi hj PO;have MC : i<d'.size:=by simpa using hi
   have tw : j<d'.size:=by simpa using hj
   have:=p2 i j (AE _) PO (by rw[lL]at tw;simp[s1]at tw⊢;omega)
   rw[DR d' j tw,DR d' i MC]at this;simpa using this
  .obtain⟨x,_,rfl⟩:=Ag.1 hcs;exact hB x
  .have h1:CO g w Fw ((l.zip al).map fun p=>Jj p.1).flatten ((l.zip al).map fun p=>enc p.2).flatten:=by
    have a1:(l.zip al).map (fun p=>Jj p.1)=l.map Jj:=by
     have:(l.zip al).map (fun p=>Jj p.1)=((l.zip al).map (·.1)).map Jj:=by rw[Bo];rfl
     rw[this,z1]
    have a2:(l.zip al).map (fun p=>enc p.2)=al.map enc:=by
     have:(l.zip al).map (fun p=>enc p.2)=((l.zip al).map (·.2)).map enc:=by rw[Bo];rfl
     rw[this,z2]
    rw[a1,a2,<-s2];exact hr
   have CL:∀(x:α) (y:β),(enc x).length=(Jj y).length:=fun x y=>by rw[hk,hB]
   rw[Rp CL]at h1;have h2:=(Rp (g:=g) (w:=w) (U:=Fw) CL mU).2 fun p hp=>h1 p (r1.mem_iff.1 hp);have b1:(mU.map (·.1)).map Jj=mU.map fun p=>Jj p.1:=by rw[Bo];rfl
   have b2:(flatK enc k d').toList=(mU.map fun p=>enc p.2).flatten:=by
    rw[Uf hk,<-r2,Bo];rfl
   rw[b1,b2];exact h2
  .rfl
end
end Go.Eng
namespace Go.Eng
section
variable {P:Program}
theorem Cq{f:Nat}{fn:Func}{c:Code}{args:List AV}{H0:List (Nat×HO)}{Q:AV->(Nat->HO)->Prop}(cx:Cx)(σ:JA)(hP:cx.P=P)(hT:CF P cx.T)(hm:P.follows .mixedOrders=true)(hx:cx.ext=true)(hf:P.funcs[f]?=some fn)
  (hn : (fn.name == "runtime.NumGoroutine") = false) (hb : fn.body = some c) (hN : args.length <= fn.ntmps) (hc : EK fn.ntmps c = true) (hσ : (Hd σ && I3 σ H0) = true)
  (hk:SC cx c (Zx cx fn.results.toList σ fun r h'=>∃r',CZ r r'/\Q r' h') ⟨Pw args,Ao H0 Af⟩) (hY:∀l σ g w,cx.yp l σ g w:=by exact fun _ _ _ _=>trivial):A9 P f args (Ao H0 Af) Q :=
 (ld cx σ hP hT hm hx hf hn hb hN hc hσ hk hY).mono fun _ _ ⟨r',s,q⟩=>⟨r',s,q⟩
end
end Go.Eng
namespace Go.Eng
open Go.Sort
theorem CO.append{g:Gh}{w:World}{U:Nat->Prop}{VG bs:List AV}{xs ys:List Value}(h:CO g w U VG xs)(k:CO g w U bs ys):CO g w U (VG++bs) (xs++ys):=by
 refine⟨by rw[Ac,Ac,h.1,k.1],fun x hx=>?_,fun i av x q1 q2=>?_⟩
 .rcases AO.1 hx with hx | hx
  .exact h.2.1 x hx
  .exact k.2.1 x hx
 .have hl:=h.1
  by_cases hi:i<VG.length
  .rw[AY hi]at q1;rw[AY ch]at q2;exact h.2.2 i av x q1 q2
  .rw[AZ ch]at q1;rw[AZ ch,hl]at q2;exact k.2.2 _ av x q1 q2
theorem CO.take{g:Gh}{w:World}{U:Nat->Prop}{VG:List AV}{xs:List Value}(h:CO g w U VG xs)(k:Nat):CO g w U (VG.take k) (xs.take k):=by
 refine⟨by rw[Av,Av,h.1],fun x hx=>h.2.1 x (CY hx),fun i av x q1 q2=>?_⟩;rw[Kp]at q1 q2;split at q1
 .rename_i hi;rw[Al hi]at q2;exact h.2.2 i av x q1 q2
 .cases q1
theorem CO.drop{g:Gh}{w:World}{U:Nat->Prop}{VG:List AV}{xs:List Value}(h:CO g w U VG xs)(k:Nat):CO g w U (VG.drop k) (xs.drop k):=by
 refine⟨by rw[Dc,Dc,h.1],fun x hx=>h.2.1 x (IX hx),fun i av x q1 q2=>?_⟩;rw[DP]at q1 q2;exact h.2.2 _ av x q1 q2
theorem LY{α:Type}{k:Nat}:∀(es:List (List α)) (i:Nat),(∀e∈es,e.length=k)->es.flatten.take (i*k)=(es.take i).flatten
 | [],i,_=>by simp
 |e::es,0,_=>by simp
 |e::es,i+1,h=>by
  have he:=h e (Ab ..);rw[BB,Jz,BB,List.take_append,<-LY es i fun x hx=>h x (Ah _ hx),As (by rw[he,D5];omega),he,show(i+1)*k-k=i*k by rw[D5];omega]
theorem PG{α:Type}{k:Nat}:∀(es:List (List α)) (i:Nat),(∀e∈es,e.length=k)->es.flatten.drop (i*k)=(es.drop i).flatten
 | [],i,_=>by simp
 |e::es,0,_=>by simp
 |e::es,i+1,h=>by
  have he:=h e (Ab ..);rw[BB,List.drop_succ_cons,List.drop_append,<-PG es i fun x hx=>h x (Ah _ hx),Cr (by rw[he,D5];omega),he,show(i+1)*k-k=i*k by rw[D5];omega,FL]
section
variable {P:Program}
theorem Wg{f:Nat}{es:List (List AV)}{sz:Nat}{rest:List Value}{n' : Nat}{Q:List (List AV)->Prop}(hE:FQ P f)(Dy:es≠[])(ZZ : n'<=es.length)
  (h1:∀(g:Gh) (w:World) (b cap:Nat) (F:Array Value),CO g w Fw es.flatten F.toList->F.size=es.length*sz->Holds id w b 0 F->b<w.heap.size->es.length<=cap->Calls P f (#[.slice (some ⟨b,0,none⟩) es.length cap]++rest.toArray) w fun e w' =>
   e=.returned (.slice (some ⟨b,0,none⟩) n' cap)/\∃(F' : Array Value) (FP : List (List AV)) (n:Nat) (os:Array Obj),F'.size=F.size/\Q FP/\FP.length=es.length/\(∀cs∈FP,cs.length=sz) /\
    (∀(g:Gh) (w:World),CO g w Fw es.flatten F.toList->CO g w Fw FP.flatten F'.toList)/\w'=grow (putRow id (Sort.ahead w n) b 0 F') os) :
  A9 P f (.msl 1000 es.length::rest.map .v) (Ao [(1000,.arr sz es)] Af) fun r h'=>r=.msl 2000 n'/\∃FP,Q FP/\h'=Ao [(1000,.dead),(2000,.arr sz (FP.take n'))] Af:=by
 refine⟨hE,fun g w us hs hv hI=>?_⟩;have ho:=hI.objs 1000;have he:Ao [(1000,HO.arr sz es)] Af 1000=.arr sz es:=rfl;rw[he]at ho;obtain⟨t1,l1,al,a2⟩:=ho;simp only[Ak,A8]at hs;have hu0:0<us.size:=by omega
 have vH:=hv 0 (.msl 1000 es.length) us[0] rfl (A5 hu0);have hval:us[0]=g.ρ 1000:=by
  generalize us[0]=x at vH;cases vH with
  |msl _ r n a cap hu ht hn ha hx=>exact hx l1.symm
 have K8:us=#[g.ρ 1000]++rest.toArray:=by
  refine OS (by simp;omega) fun i h1 h2=>?_;cases i with
  |zero=>rw[hval];simp
  |succ i =>
   have hi:i<rest.length:=by omega
   have:=hv (i+1) (.v rest[i]) us[i+1] (by simp[List.getElem?_eq_getElem hi]) (A5 h1)
   rw[this.v_eq];simp
 rw[K8];rcases a2 with ⟨b1,b2,b3⟩ | ⟨b,cap,E,vs,b1,b2,b3,b4,b5,b6,b7⟩
 .exact absurd b1 Dy
 .have hl:(Ao [(1000,HO.arr sz es)] Af 1000).live:=trivial;have Dz:=(hI.loc 1000 b hl b2).1;have H2:es.length*sz<=vs.size:=by rw[b5];exact Bg _ b3
  have hF:((vs.toList.take (es.length*sz)).toArray).size=es.length*sz:=by simp;omega
  have hH:Holds id w b 0 (vs.toList.take (es.length*sz)).toArray:=fun j hj=>by
   have hj:j<es.length*sz:=by rw[hF]at hj;exact hj
   refine⟨?_,?_⟩
   .have xj:j<vs.size:=by omega
    simp only[World.cell?,b4,Bf,OZ,Dh,Gl];rw[A5 xj,DR _ j (by rw[hF];exact hj)];simp
   .simp[World.frozen?,b4]
  rw[b1];refine(h1 g w b cap _ (by simpa using b6) hF hH Dz b3).mono ?_
  rintro e w' ⟨rfl,F',FP,n,os,f1,f2,f3,f4,f5,rfl⟩
  have vv : F'.size=es.length*sz:=f1.trans hF;have xB:=Oa F' vs ch;have rr : (grow (putRow id (Sort.ahead w n) b 0 F') os).heap[b]?=some (.cells (putCells id 0 F' vs) E (0,0)):=by
   rw[heap_grow_old _ _ (by rw[size_putRow];exact Dz)];show(w.heap.modify b (onCells (putCells id 0 F')))[b]?=_;rw[Array.getElem?_modify,Al rfl,b4];rfl
  have xu:∀k,k<w.heap.size->k≠b->(grow (putRow id (Sort.ahead w n) b 0 F') os).heap[k]?=w.heap[k]?:=fun k hk Dy=>by
   rw[heap_grow_old _ _ (by rw[size_putRow];exact hk)];simp[putRow,mapBlock,Array.getElem?_modify,Ne.symm Dy]
  have EM:w.heap.size<=(grow (putRow id (Sort.ahead w n) b 0 F') os).heap.size:=by rw[size_grow,size_putRow];show w.heap.size<=w.heap.size+_;omega
  obtain⟨k1,k2⟩:=hI.upd 1000 (.arr sz FP) (g.ρ 1000) (g.ln 1000) (g.tk 1000) (g.own 1000) g.S (grow (putRow id (Sort.ahead w n) b 0 F') os) (some b) ⟨rfl,rfl,rfl,EM⟩
   (fun k hk Dy=>xu k hk (fun e=>Dy (by rw[e]))) (fun b' e=>by cases e;exact⟨hl,b2⟩) (fun _ _ h=>h) (fun _ _ h=>.inl h) (fun b' o e hs=>by cases e;exact absurd hs (b7 o))
   (fun b' _ e=>by rw[b2]at e;cases e;exact⟨By Dz EM,.inl ⟨hl,b2⟩⟩) B0 (fun _=>⟨rfl,Aj _,fun _=>rfl,fun _=>rfl⟩) (fun hg hk=>by
    refine⟨by simp[Gh.upd,t1],by simp[Gh.upd,l1,f3],f4,.inr ⟨b,cap,E,_,by simp[Gh.upd,b1,f3],by simp[Gh.upd,b2],by omega,rr,by rw[xB.2,b5],?_,b7⟩⟩
    have:=f5 g w (by simpa using b6)
    rw[f3,<-vv,xB.1];exact this.mono hk (fun _ h=>h) (fun _ h=>h.elim))
  rw[Ur]at k1 k2;generalize Ta : g.upd 1000 (g.ρ 1000) (g.ln 1000) (g.tk 1000) (g.own 1000) g.S=g' at k1 k2;have rC : g'.own 1000=some b:=by rw[<-Ta];simp[Gh.upd,b2]
  have xv:=k1.objs 1000;have og:Ao [(1000,HO.arr sz FP)] Af 1000=.arr sz FP:=rfl;rw[og]at xv;obtain⟨m1,m2,m3,m4⟩:=xv;have hρ:g'.ρ 1000=.slice (some ⟨b,0,none⟩) es.length cap:=by rw[<-Ta];simp[Gh.upd,b1]
  have AbM : FP≠[]:=fun e=>Dy (AP (by rw[<-f3,e];rfl));rcases m4 with ⟨m4,_⟩ | ⟨b',LO,E',jP,c1,c2,c3,c4,c5,c6,c7⟩
  .exact absurd m4 AbM
  .rw[hρ]at c1;simp only[Value.slice.injEq,Bw,Addr.mk.injEq,and_true]at c1;obtain⟨c1a,c1b,c1c⟩:=c1;subst c1a;subst c1c;have lz : (FP.take n').length=n':=by rw[Av];omega
   obtain⟨k3,k4⟩:=k1.move 1000 2000 Cl rfl trivial rC (.arr sz (FP.take n')) (.slice (some ⟨b,0,none⟩) n' cap) n' true B0 (fun hk=>by
    refine⟨by simp[Gh.upd],by simp[Gh.upd,lz],fun cs hcs=>m3 cs (CY hcs),.inr ⟨b,cap,E',jP,by simp[Gh.upd,lz],by simp[Gh.upd],by omega,c4,c5,?_,c7⟩⟩
    have:=(c6.mono hk (fun _ h=>h) (fun _ h=>h.elim)).take (n'*sz)
    rw[LY FP n' m3,OY,Wc (Bg _ ch)]at this;rw[lz];exact this)
   have xg:A0 (A0 (Ao [(1000,HO.arr sz FP)] Af) 1000 .dead) 2000 (.arr sz (FP.take n'))=Ao [(1000,.dead),(2000,.arr sz (FP.take n'))] Af:=by
    funext i
    by_cases e1:i=2000
    .subst e1;rw[Bj];rfl
    .rw[B6 _ _ _ _ e1]
     by_cases e2:i=1000
     .subst e2;rw[Bj];rfl
     .rw[B6 _ _ _ _ e2];simp[Ao,CW e1,CW e2]
   rw[xg]at k3 k4;exact⟨_,.msl 2000 n',_,_,rfl,⟨rfl,FP,f2,rfl⟩,.msl _ 2000 n' (some ⟨b,0,none⟩) cap (by intro c;cases c) (by simp[Gh.upd]) (by simp[Gh.upd]) (.inr ⟨b,rfl⟩) (fun _=>by simp[Gh.upd]),k3,k2.trans k4⟩
end
end Go.Eng
namespace Go.Eng
variable {h:Nat->HO}{r ty e m:Nat}{cx:Cx}{x:AV}{K:HK}
def kJ(a b:FJ):Bool :=
 (match a.2 with | some r=>!Jk b.1 r | none=>true)&&(match b.2 with | some r=>!Jk a.1 r | none=>true)
def QH(ops:Array Oper)(oi:Oper)(fi:FJ)(D:List Nat)(k:Nat):List Oper->List FJ->Bool
 |o::r,f::fs=>(Jk D k||(oi.apart ops o&&kJ fi f))&&QH ops oi fi D (k+1) r fs
 | [],[]=>true
 |_,_=>false
def WE(ops:Array Oper)(all:List Oper)(k:Nat):List Oper->List FJ->Bool
 |o::r,f::fs =>
  let D:=QM k [] 0 all
  (o.after.toList.all fun e=>!Region.binds .any e||Nat.blt e.on k)&&Vl k D 0 all&&(D.all fun j=>Nat.blt k j&&Nat.blt j all.length)&&QH ops o f D (k+1) r fs&&WE ops all (k+1) r fs
 | [],[]=>true
 |_,_=>false
def dW(ops:Array Oper)(fs:List FJ):Bool:=Region.noSelect ops&&WE ops ops.toList 0 ops.toList fs
def Ru(f:FJ):Prop:=∀r,f.2=some r->r<10000000
def To:List FJ->Prop
 | []=>True
 |f::r=>Ru f/\To r
theorem A2(l:List Nat):Ru (l,none):=fun _ h=>by cases h
theorem Eo{l:List Nat}(h:r<10000000):Ru (l,some r):=fun _ e=>by cases e;exact h
theorem kL{a b:FJ}(ha:Ru a)(hb:Ru b)(h:kJ a b=true):T2 a b=true:=by
 obtain⟨a1,a2⟩:=a;obtain⟨b1,b2⟩:=b;unfold kJ at h;unfold T2;rw[Ae]at h⊢;refine⟨?_,?_⟩
 .cases a2 with
  |none=>rfl
  |some r =>
   have h1:(!Jk b1 r)=true:=h.1;show aK b1 r=true;unfold aK;rw[CW (show r≠XM by have:=ha r rfl;unfold XM;omega),Ek,h1,show Nat.blt r 10000000=true by rw[Cs];exact ha r rfl];rfl
 .cases b2 with
  |none=>rfl
  |some r =>
   have h1:(!Jk a1 r)=true:=h.2;show aK a1 r=true;unfold aK;rw[CW (show r≠XM by have:=hb r rfl;unfold XM;omega),Ek,h1,show Nat.blt r 10000000=true by rw[Cs];exact hb r rfl];rfl
theorem Wj{ops:Array Oper}{oi:Oper}{fi:FJ}{D:List Nat}(hi:Ru fi):∀{l:List Oper} {fs:List FJ} {k:Nat},To fs->QH ops oi fi D k l fs=true->I0 ops oi fi D k l fs=true
 | [],[],_,_,h=>h
 |o::r,f::fs,k,hs,h=>by
  unfold QH at h;unfold I0;rw[Ae,CJ,Ae]at h⊢;exact⟨h.1.imp id (fun q=>⟨q.1,kL hi hs.1 q.2⟩),Wj hi hs.2 h.2⟩
 | [],_::_,_,_,h=>by simp[QH]at h
 |_::_,[],_,_,h=>by simp[QH]at h
theorem Zt{ops:Array Oper}{all:List Oper}:∀{l:List Oper} {fs:List FJ} {k:Nat},To fs->WE ops all k l fs=true->MM ops all k l fs=true
 | [],[],_,_,h=>h
 |o::r,f::fs,k,hs,h=>by
  unfold WE at h;unfold MM;simp only[Ae]at h⊢;exact⟨⟨h.1.1,Wj hs.1 hs.2 h.1.2⟩,Zt hs.2 h.2⟩
 | [],_::_,_,_,h=>by simp[WE]at h
 |_::_,[],_,_,h=>by simp[WE]at h
theorem JD{ops:Array Oper}{fs:List FJ}(hs:To fs)(h:dW ops fs=true):T3 ops fs=true:=by
 unfold dW at h;unfold T3;rw[Ae]at h⊢;exact⟨h.1,Zt hs h.2⟩
theorem RN{d:Option Nat}{es es2:List (List AV)}(hty:(cx.T ty).d=.slice e)(hz:Nat.beq (cx.T e).zc.length (cx.T e).size=true)(EM:(cx.T e).size=m+1)(hx:∀K' : List (List AV)->Prop,K' es2->LX h x K')(hr:h r=.tok (m+1) es.length)(hl:Cn (m+1) es2)(hb:(es.length+es2.length)*(cx.T e).bytes<=140737488355328)(hc:es.length+es2.length<=9223372036854775807)(hk:K (.slice (.id r (m+1)) (es++es2)) (A0 h r (.tok (m+1) (es.length+es2.length)))):IR cx d h ty (.slice (.id r (m+1)) es) x K:=by
 have hq:Nat.beq (m+1) (m+1)=true:=Di _;unfold IR;rw[hty];rw[EM]at hz;simp only[EM,hz];refine hx _ ?_;simp only[hr,hq];exact⟨⟨hl,trivial,hb,hc⟩,hk⟩
theorem RM{d:Nat}{es2:List (List AV)}(hty:(cx.T ty).d=.slice e)(hz:Nat.beq (cx.T e).zc.length (cx.T e).size=true)(EM:(cx.T e).size=m+1)(hx:∀K' : List (List AV)->Prop,K' es2->LX h x K')(hr:h (Ks cx d)=.free)(ha:G6 cx.pl.arr d=none)(hl:Cn (m+1) es2)(hb:es2.length*(cx.T e).bytes<=140737488355328)(hc:es2.length<=9223372036854775807)(hk:K (.slice (.id (Ks cx d) (m+1)) es2) (A0 h (Ks cx d) (.tok (m+1) es2.length))):IR cx (some d) h ty nzA x K:=by
 unfold IR;rw[hty];rw[EM]at hz;simp only[EM,hz];refine hx _ ?_;refine⟨⟨EM▸hl,hb,hc⟩,?_⟩;unfold ET;simp only[hr,ha];exact hk
end Go.Eng
namespace Go.Eng
open Go.RowKit
section
variable {P:Program}
theorem M6{f:Nat}{args:List AV}{res:AV}(vals:List Value)(v:Value)(hE:FQ P f)(ha:args=vals.map .v)(lI:∀g w,BM g w Fw res v)
  (h:∀w,(∃m,w.cell? ⟨gB,0,none⟩=some (.int .i64 m))->(∀x∈lc,w.cell? ⟨x.1,x.2.1,none⟩=x.2.2)->Calls P f vals.toArray w fun e w'=>e=.returned v/\Below w.heap.size w w'):IY P f args res:=by
 refine⟨hE,fun g w us hs hv hI=>?_⟩;have hu:us=vals.toArray:=by
  subst ha;rw[A8]at hs;refine OS (by simpa using hs) fun i h1 h2=>?_
  have:=hv i (.v (vals[i]'(by simpa using h2))) us[i] (by rw[AG,Ay (by simpa using h2)];rfl) (by rw[A5 h1])
  rw[this.v_eq];simp
 subst hu;refine(h w hI.glob.1.2 fun x hx=>(hI.glob.2 x hx).2).mono ?_
 rintro e w' ⟨rfl,q⟩
 have hK:EH g w g w':=fun b o hb=>by
  have Dz:=hI.slt b o hb;exact⟨hb,by simp only[World.cell?,q.block b Dz],fun es ck he=>(q.block b Dz).trans he⟩
 refine⟨v,res,Af,g,rfl,⟨rfl,rfl⟩,(lI g _).up _,⟨q.os,q.tape,q.output,q.size,fun b hb _=>q.block b hb,fun b o hs=>By (hI.slt b o hs) q.size,fun _=>trivial,fun _ _ _ h=>h.elim,fun _ _ h=>h.elim,fun b o hs=>.inl hs,hI.glob.keep hK⟩,⟨.refl _ _,fun _ h=>h,hK⟩⟩
end
end Go.Eng
namespace Go.Eng
variable {fn:Func}(cx:Cx)(σ:JA)
def X2:Obj->Bool
 |.cells ..=>false
 |.map ..=>false
 |.mapIter ..=>false
 |.loop r=>!Pg [] r.body
 |_=>true
structure dI(n0 x:Nat)(w:World)(g:Gh)(h:Nat->HO)(w' : World)(g' : Gh)(h' : Nat->HO):Prop where
 os:w'.os=w.os
 tape:w'.tape=w.tape
 output:w'.output=w.output
 size:w.heap.size<=w'.heap.size
 frame:∀b,b<n0->b≠x->(∀r,(h r).live->g.own r≠some b)->w'.heap[b]?=w.heap[b]?
 loc:∀r b,(h' r).live->g'.own r=some b->n0<=b\/∃r',(h r').live/\g.own r'=some b
 sg:∀b o,g'.S b o->g.S b o\/n0<=b\/∃r',(h r').live/\g.own r'=some b
 le:Le h g w h' g' w'
section
variable {P:Program}{N:Nat}{ds:List Deferred}{n0 x:Nat}{w w' w1 w2:World}{g g' g1 g2:Gh}{h h' h1 h2:Nat->HO}
theorem dI.trans(a:dI n0 x w g h w1 g1 h1)(b:dI n0 x w1 g1 h1 w2 g2 h2):dI n0 x w g h w2 g2 h2 where
 os:=b.os.trans a.os
 tape:=b.tape.trans a.tape
 output:=b.output.trans a.output
 size:=AJ a.size b.size
 frame c hc hx hn:=(b.frame c hc hx fun r hl e=>by
  rcases a.loc r c hl e with h | ⟨r',h1,h2⟩
  .omega
  .exact hn r' h1 h2).trans (a.frame c hc hx hn)
 loc r c hl e:=by
  rcases b.loc r c hl e with h | ⟨r',h1,h2⟩
  .exact .inl h
  .exact a.loc r' c h1 h2
 sg c o hs:=by
  rcases b.sg c o hs with h | h | ⟨r',h1,h2⟩
  .exact a.sg c o h
  .exact .inr (.inl h)
  .rcases a.loc r' c h1 h2 with h | h
   .exact .inr (.inl h)
   .exact .inr (.inr h)
 le:=a.le.trans b.le
theorem dI.of_inv(hI:DX w g h h' g' w')(hL:Le h g w h' g' w')(hn:n0<=w.heap.size):dI n0 x w g h w' g' h' where
 os:=hI.os
 tape:=hI.tape
 output:=hI.output
 size:=hI.size
 frame c hc _ ZZ:=hI.frame c ch ZZ
 loc r c hl e:=by
  rcases(hI.loc r c hl e).2 with h | h
  .exact .inl ch
  .exact .inr h
 sg c o hs:=by
  rcases hI.sg c o hs with h | h | h
  .exact .inl h
  .exact .inr (.inl ch)
  .exact .inr (.inr h)
 le:=hL
theorem DX.base(hI:DX w g h h' g' w'):DX w' g' h' h' g' w' where
 os:=rfl
 tape:=rfl
 output:=rfl
 size:=Aj _
 frame _ _ _:=rfl
 slt:=hI.slt
 objs:=hI.objs
 inj:=hI.inj
 loc r b hl e:=⟨(hI.loc r b hl e).1,.inr ⟨r,hl,e⟩⟩
 sg _ _ hs:=.inl hs
 glob:=hI.glob
theorem DX.of_seg(hI:DX w' g' h' h' g' w')(s:dI w.heap.size x w g h w' g' h')(hx:x<w.heap.size->w'.heap[x]?=w.heap[x]?):DX w g h h' g' w' where
 os:=s.os
 tape:=s.tape
 output:=s.output
 size:=s.size
 frame b hb hn:=by
  by_cases e:b=x
  .subst e;exact hx hb
  .exact s.frame b hb e hn
 slt:=hI.slt
 objs:=hI.objs
 inj:=hI.inj
 loc r b hl e:=⟨(hI.loc r b hl e).1,s.loc r b hl e⟩
 sg:=s.sg
 glob:=hI.glob
theorem P0{U:Nat->Prop}{r b:Nat}{o:HO}{ob:Obj}(ho:Ep g w U r o)(hl:o.live)(e:g.own r=some b)(hb:w.heap[b]?=some ob)(hd:X2 ob=true):False:=by
 cases o with
 |free=>exact hl
 |dead=>exact hl
 |ro cs=>exact hl
 |rom sh B7=>exact hl
 |cells cs =>
  obtain⟨_,b',E,vs,h1,_,h3,_⟩:=ho;rw[e]at h1;cases h1;rw[hb]at h3;cases h3;cases hd
 |tok sz n =>
  obtain⟨_,_,a,cap,_,(⟨_,h1⟩ | ⟨_,b',E,vs,off,_,h1,⟨_,h3,_⟩,_⟩)⟩:=ho
  .rw[e]at h1;cases h1
  .rw[e]at h1;cases h1;rw[hb]at h3;cases h3;cases hd
 |vox v=>exact hl
 |hol sz es i c av =>
  obtain⟨_,_,_,b',cap,E,vs,_,h1,_,h3,_⟩:=ho;rw[e]at h1;cases h1;rw[hb]at h3;cases h3;cases hd
 |raw b' ft =>
  obtain⟨_,h1,h2,h3,_⟩:=ho;rw[e]at h1;cases h1;rw[hb]at h2;cases h2;cases ob<;>simp[X2,wd]at hd h3
  rw[hd]at h3;cases h3
 |var sz v n =>
  obtain⟨_,_,a,cap,_,(⟨_,h1⟩ | ⟨_,b',E,vs,off,_,h1,⟨_,h3,_⟩,_⟩)⟩:=ho
  .rw[e]at h1;cases h1
  .rw[e]at h1;cases h1;rw[hb]at h3;cases h3;cases hd
 |arr sz es =>
  obtain⟨_,_,_,(⟨_,_,h1⟩ | ⟨b',cap,E,vs,_,h1,_,h3,_⟩)⟩:=ho
  .rw[e]at h1;cases h1
  .rw[e]at h1;cases h1;rw[hb]at h3;cases h3;cases hd
 |map sh B7 =>
  obtain⟨_,b',es,ck,h1,_,h3,_⟩:=ho;rw[e]at h1;cases h1;rw[hb]at h3;cases h3;cases hd
 |mapU sh B7 =>
  obtain⟨_,b',es,ck,h1,_,h3,_⟩:=ho;rw[e]at h1;cases h1;rw[hb]at h3;cases h3;cases hd
 |iter all rem EC =>
  obtain⟨_,b',mb,KL,seen,st,es,ck,h1,_,h3,_⟩:=ho;rw[e]at h1;cases h1;rw[hb]at h3;cases h3;cases hd
theorem DX.dullS(hI:DX w g h h g w)(ho:w'.os=w.os/\w'.tape=w.tape/\w'.output=w.output)(EM:w.heap.size<=w'.heap.size)
  (hb:∀b,b<w.heap.size->w'.heap[b]?=w.heap[b]?\/∃o o',w.heap[b]?=some o/\w'.heap[b]?=some o'/\X2 o=true/\X2 o'=true)
  (hn:∀b,b<n0->b≠x->w'.heap[b]?=w.heap[b]?):DX w' g h h g w'/\dI n0 x w g h w' g h:=by
 have hk:EH g w g w':=fun b o hs=>by
  refine⟨hs,?_⟩;rcases hb b (hI.slt b o hs)with e | ⟨ob,ft,e1,e2,d1,d2⟩
  .exact⟨by simp only[World.cell?,e],fun es ck he=>e.trans he⟩
  .refine⟨?_,fun es ck he=>?_⟩
   .simp only[World.cell?,e1,e2];cases ob<;>cases ft<;>first | rfl | (cases d1;done) | (cases d2;done)
   .rw[e1]at he;cases he;cases d1
 have Yn:∀r b,(h r).live->g.own r=some b->w'.heap[b]?=w.heap[b]?:=fun r b hl e=>by
  rcases hb b (hI.loc r b hl e).1 with e' | ⟨ob,ft,e1,_,d1,_⟩
  .exact e'
  .exact(P0 (hI.objs r) hl e e1 d1).elim
 refine⟨⟨rfl,rfl,rfl,Aj _,fun _ _ _=>rfl,fun b o hs=>By (hI.slt b o hs) EM,fun r=>?_,hI.inj,fun r b hl e=>⟨By (hI.loc r b hl e).1 EM,.inr ⟨r,hl,e⟩⟩,fun _ _ hs=>.inl hs,hI.glob.keep hk⟩,⟨ho.1,ho.2.1,ho.2.2,EM,fun b rr hx _=>hn b rr hx,fun r b hl e=>.inr ⟨r,hl,e⟩,fun _ _ hs=>.inl hs,⟨.refl _ _,fun _ h=>h,hk⟩⟩⟩;exact(hI.objs r).same hk (fun _ h=>h) (.refl _ _) rfl rfl rfl rfl fun b hl e=>⟨Yn r b hl e,fun _ h=>h⟩
theorem DX.put(hI:DX w g h h g w){l:Nat}{o o' : Obj}(hl:w.heap[l]?=some o)(hd:X2 o=true)(oe : X2 o'=true)(hx:n0<=l\/l=x) :
  DX (w.putObj l o') g h h g (w.putObj l o')/\dI n0 x w g h (w.putObj l o') g h:=by
 have Dz:l<w.heap.size:=(Bp.1 hl).1;refine hI.dullS ⟨rfl,rfl,rfl⟩ (by simp[World.putObj]) (fun b _=>?_) (fun b hb Dy=>?_)
 .by_cases e:b=l
  .subst e;exact .inr ⟨o,o',hl,World.putObj_heap_same Dz,hd,oe⟩
  .exact .inl (World.putObj_heap_other e)
 .refine World.putObj_heap_other fun e=>?_;rcases hx with h | h
  .omega
  .exact Dy (e.trans h)
theorem DX.allocS(hI:DX w g h h g w)(o:Obj)(hn:n0<=w.heap.size):DX (w.alloc o) g h h g (w.alloc o)/\dI n0 x w g h (w.alloc o) g h:=by
 refine hI.dullS ⟨rfl,rfl,rfl⟩ (by rw[World.size_alloc];omega) (fun b hb=>.inl (heap_alloc_old _ _ hb)) (fun b hb _=>heap_alloc_old _ _ ch)
end
abbrev Iy(fn:FuncId)(tm:Array Value)(ps:Array Tmp)(G6 body:Code)(D:Nat)(s:LoopState):Loop :=
 { state:=s,pending:=none,fn:=fn,tmps:=tm,params:=ps,assign:=G6,body:=body,defers:=D }
def pe:List Nat->List AV->(Nat->AV)->Nat->AV
 |p::ps,v::vs,e=>pe ps vs (HG e p v)
 |_,_,e=>e
section
variable {P:Program}{N:Nat}{w:World}{g:Gh}
theorem ZB{U:Nat->Prop}:∀{ps:List Nat} {args:List AV} {vals:List Value} {tm:Array Value} {env:Nat->AV},vals.length=args.length->args.length=ps.length->(∀p∈ps,p<tm.size) ->
  (∀(i:Nat) (av:AV) (x:Value),args[i]?=some av->vals[i]?=some x->BM g w U av x)->(∀i,BM g w U (env i) (tm.getD i undef)) ->
  ((ps.zip vals).foldl (fun t p=>t.setIfInBounds p.1 p.2) tm).size=tm.size/\∀i,BM g w U (pe ps args env i) (((ps.zip vals).foldl (fun t p=>t.setIfInBounds p.1 p.2) tm).getD i undef)
 | [],args,vals,tm,env,_,h2,_,_,he=>by
  have:args=[]:=AP h2
  subst this;exact⟨rfl,he⟩
 |p::ps,[],vals,tm,env,_,h2,_,_,_=>by cases h2
 |p::ps,a::args,[],tm,env,h1,_,_,_,_=>by cases h1
 |p::ps,a::args,v::vals,tm,env,h1,h2,h3,h4,he=>by
  have hp:=h3 p (Ab ..)
  obtain⟨q1,q2⟩:=ZB (ps:=ps) (args:=args) (vals:=vals) (tm:=tm.setIfInBounds p v) (env:=HG env p a) (by simpa using h1) (by simpa using h2) (fun q hq=>by simpa using h3 q (Ah _ hq))
   (fun i av x e1 e2=>h4 (i+1) av x (by simpa using e1) (by simpa using e2)) (fun i=>by
    by_cases e:i=p
    .subst e;have e1:HG env i a i=a:=by simp[HG]
     have e2:(tm.setIfInBounds i v).getD i undef=v:=by simp[Array.getD_eq_getD_getElem?,hp]
     rw[e1,e2];exact h4 0 a v rfl rfl
    .have e1:HG env p a i=env i:=by simp only[HG,CW e,Ek]
     have e2:(tm.setIfInBounds p v).getD i undef=tm.getD i undef:=by
      simp[Array.getD_eq_getD_getElem?,Array.getElem?_setIfInBounds_ne (Ne.symm e)]
     rw[e1,e2];exact he i)
  exact⟨by simpa using q1,q2⟩
def Y5(P:Program)(Y:Gh->World->Prop)(σ:JA)(f:Nat)(args:List AV)(h0:Nat->HO)(Q:AV->(Nat->HO)->Prop):Prop :=
 FQ P f/\∀(g:Gh) (w:World) (vals:Array Value),vals.size=args.length->(∀(i:Nat) (av:AV) (x:Value),args[i]?=some av->vals[i]?=some x->BM g w (AQ h0) av x) ->
  DX w g h0 h0 g w->(∀h' g' w',DX w g h0 h' g' w'->Le h0 g w h' g' w'->Y (DM σ g') w') ->
  Calls P f vals w fun e w'=>∃v r h' g',e=.returned v/\Q r h'/\BM g' w' (AQ h') r v/\DX w g h0 h' g' w'/\Le h0 g w h' g' w'
theorem lN{Y:Gh->World->Prop}{l:Nat}{f:Nat}{c:Code}{args:List AV}{H0:List (Nat×HO)}{Q:AV->(Nat->HO)->Prop}(hP:cx.P=P)(hT:CF P cx.T)(hm:P.follows .mixedOrders=true)(hx:cx.ext=true)(hf:P.funcs[f]?=some fn)(hn : (fn.name == "runtime.NumGoroutine") = false)(hb : fn.body = some c)(hN : args.length <= fn.ntmps)(hc : EK fn.ntmps c = true)(hσ : (Hd σ && I3 σ H0) = true)(hy:cx.yp=fun l' σ' g w=>l'=l->σ'=σ->Y g w)(hk:SC cx c (Zx cx fn.results.toList σ Q) ⟨Pw args,Ao H0 Af⟩):Y5 P Y σ f args (Ao H0 Af) Q :=
 ⟨⟨fn,hf,hn,by simp[hb]⟩,fun g w vals hs hv hI hp=>ZO cx σ hP hT hm hx hf hn hb hN hc hσ hk hs hv hI fun l' σ' h' g' w' _ q1 q2=>by
  rw[hy];intro _ e;subst e;exact hp h' g' w' q1 q2⟩
end
def oM(cx:Cx):Nat->Code->(Ex->St->Prop)->(Code->Code->St->Prop)->St->Prop
 |0,.seq (.seq a b) d,Q,K,st=>SC cx a (fun e Et=>match e with |.normal=>K b d Et |e=>Q e Et) st
 |0,.seq b d,_,K,st=>K b d st
 |n+1,.seq a b,Q,K,st=>SC cx a (fun e Et=>match e with |.normal=>oM cx n b Q K Et |e=>Q e Et) st
 |_,_,_,_,_=>False
section
variable {P:Program}{N:Nat}{ds:List Deferred}{w0:World}{g0:Gh}{h0:Nat->HO}{st:St}{g:Gh}{a:Act}{w:World}
theorem oN{cx:Cx}(hP:cx.P=P)(hT:CF P cx.T)(hm:P.follows .mixedOrders=true)(hE:Me cx h0)(hY:∀l σ h g w,ED σ=true->DX w0 g0 h0 h g w->Le h0 g0 w0 h g w->cx.yp l σ (DM σ g) w)
  {Qa:Ex->St->Prop} {K:Code->Code->St->Prop} {Q:Exit->Act->World->Prop} (hQ:∀e st g a w,e≠.normal->Qa e st->SR N ds w0 g0 h0 st g a w->Q e.real a w)
  (hK:∀b d st g a w,K b d st->SR N ds w0 g0 h0 st g a w->b.wpIn (Kt none) 0 P (Exit.then (d.wpIn (Kt none) 0 P Q) Q) a w) :
  ∀(n:Nat) (c:Code),EK N c=true->∀{st:St} {g:Gh} {a:Act} {w:World},SR N ds w0 g0 h0 st g a w->oM cx n c Qa K st->c.wpIn (Kt none) 0 P Q a w:=by
 intro n
 induction n with
 |zero =>
  intro c hc st g a w hS hk;cases c with
  |seq y d =>
   simp only[EK,Ae]at hc;cases y with
   |seq x b =>
    have hk:SC cx x (fun e Et=>match e with | .normal=>K b d Et | e=>Qa e Et) st:=hk;simp only[EK,Ae]at hc;refine wpIn_seq (wpIn_seq (Ok hP hT hm hE hY none x hc.1.1 (Qa:=fun e Et=>match e with | .normal=>K b d Et | e=>Qa e Et) (fun e st g a w q hS=>?_) hS hk));cases e with
    |normal=>exact hK b d _ _ _ _ q hS
    |exit id=>exact hQ (.exit id) _ _ _ _ (fun e=>by cases e) q hS
    |ret=>exact hQ .ret _ _ _ _ (fun e=>by cases e) q hS
   |_=>exact wpIn_seq (hK _ d _ _ _ _ hk hS)
  |_=>exact hk.elim
 |succ n ih =>
  intro c hc st g a w hS hk;cases c with
  |seq x y =>
   simp only[EK,Ae]at hc;refine wpIn_seq (Ok hP hT hm hE hY none x hc.1 (Qa:=fun e Et=>match e with | .normal=>oM cx n y Qa K Et | e=>Qa e Et) (fun e st g a w q hS=>?_) hS hk);cases e with
   |normal=>exact ih y hc.2 hS q
   |exit id=>exact hQ (.exit id) _ _ _ _ (fun e=>by cases e) q hS
   |ret=>exact hQ .ret _ _ _ _ (fun e=>by cases e) q hS
  |_=>exact hk.elim
end
section
variable {P:Program}{N:Nat}{ds:List Deferred}{w0:World}{g0:Gh}{h0:Nat->HO}{st:St}{g:Gh}{a:Act}{w:World}
theorem SR.rebase{w1:World}{g1:Gh}{h1:Nat->HO}(hS:SR N ds w0 g0 h0 st g a w)(hI:DX w1 g1 h1 st.h g w)(hL:Le h1 g1 w1 st.h g w):SR N ds w1 g1 h1 st g a w:=⟨hI,hL,hS.dfs,hS.size,hS.slots⟩
theorem fy{cx:Cx}(hT:CF P cx.T){H0:List (Nat×HO)}{σ:JA}(hσ:Hd σ=true)(rL:I3 σ H0=true){Q:AV->(Nat->HO)->Prop}(hS:SR N ds w0 g0 (Ao H0 Af) st g a w)(hk:iV cx st fn.results.toList σ Q) :
  ∃v,(results fn a.tmps).run P w=.ok v w/\∃r h' g',Q r h'/\BM g' w (AQ h') r v/\DX w0 g0 (Ao H0 Af) h' g' w/\Le (Ao H0 Af) g0 w0 h' g' w:=by
 obtain⟨g2,i1,i2⟩:=Ns cx.pl.fin hS.inv;have Uk : SR N ds w0 g0 (Ao H0 Af) ⟨st.t,PM st.h cx.pl.fin⟩ g2 a w:=⟨i1,hS.le.trans i2,hS.dfs,hS.size,fun i=>(hS.slots i).le i2⟩;obtain⟨l,vs,h1,h2,h3,h4,h5⟩:=Tj hT Uk _ hk;obtain⟨hR,j1,j2⟩:=Py hσ rL i1 Uk.le;have CP:(results fn a.tmps).run P w=.ok (if h:vs.toArray.size=1 then vs.toArray[0]else .tuple vs.toArray) w:=by
  rw[OK,show fn.results=fn.results.toList.toArray by simp,List.mapM_toArray];simp only[Sem.run_bind,Sem.run_map,h2,Result.andThen_ok,Sem.run_pure]
 match l,vs,h1,h3,h5,CP with
 | [v],[x],h1,h3,h5,CP=>exact⟨x,by simpa using CP,_,_,_,h1,(h5 0 v x rfl rfl).ren hR,j1,j2⟩
 | [],vs,h1,h3,h5,CP =>
  have:vs=[]:=AP h3
  subst this;exact⟨.tuple #[],by simpa using CP,_,_,_,h1,BM.ren hR (.tup _ [] _ rfl fun i av x q=>by simp at q),j1,j2⟩
 |v::v' :: l,vs,h1,h3,h5,CP =>
  refine⟨.tuple vs.toArray,?_,_,_,_,h1,BM.ren hR (.tup _ _ _ (by simpa using h3) fun i av x q1 q2=>h5 i av x q1 (by simpa using q2)),j1,j2⟩;rw[CP]
  have:vs.toArray.size≠1:=by simp[h3]
  simp only[this,dif_neg,not_false_eq_true]
theorem uo{rg s:Nat}{ps:Array Tmp}{G6 body rest:Code}(hP:cx.P=P)(hT:CF P cx.T)(hm:P.follows .mixedOrders=true)(hx:cx.ext=true){σ:JA}{H0 Hn:List (Nat×HO)}(hσ:(Hd σ&&I3 σ H0)=true)(hσn:I3 σ Hn=true){env:Nat->AV}{gf:Nat}{caps:List AV}(hF:env s=.clo gf caps){Qv:AV->(Nat->HO)->Prop}(hIT:∀(l D:Nat) (f' : FuncId) (tm:Array Value),tm.size=N->Y5 P (fun g w=>w.heap[l]?=some (.loop (Iy f' tm ps G6 body D .ready))/\∀i,BM g w (AQ (Ao H0 Af)) (env i) (tm.getD i undef)) σ gf
   (.v (.func (.yield l) #[] #[])::caps) (Ao H0 Af) fun _ h'=>h'=Ao Hn Af)(hcr:EK N rest=true)(hbk:Pg [] body=false)(xE:SC cx rest (Zx cx fn.results.toList σ Qv) ⟨env,Ao Hn Af⟩)(hY:∀l σ g w,cx.yp l σ g w){a:Act}(ha:a.defers=[])(hN:a.tmps.size=N)(hI:DX w g (Ao H0 Af) (Ao H0 Af) g w)(Ox:∀i,BM g w (AQ (Ao H0 Af)) (env i) (a.tmps.getD i undef)){R:Ending->World->Prop}(hR:∀v r h' g' w',Qv r h'->BM g' w' (AQ h') r v->DX w g (Ao H0 Af) h' g' w'->Le (Ao H0 Af) g w h' g' w'->R (.returned v) w') :
  (Code.block rg (.rangeFunc (.tmp s) ps G6 body)).wpIn (Kt none) 0 P (Exit.then (rest.wpIn (Kt none) 0 P (bodyPostM (Kt none) 0 P fn R)) (bodyPostM (Kt none) 0 P fn R)) a w:=by
 simp only[Ae]at hσ;have hdl:∀f' tm D s,X2 (.loop (Iy f' tm ps G6 body D s))=true:=fun _ _ _ _=>by show(!Pg [] body)=true;rw[hbk];rfl
 refine wpIn_block (wpIn_rangeFunc fun f' _=>?_);have hs:=Ox s;rw[hF]at hs;have rv:a.eval (.tmp s)=a.tmps.getD s undef:=rfl;generalize hfv:a.tmps.getD s undef=fv at hs rv;cases hs with
 |clo _ _ _ lb EM L1 =>
 obtain⟨i0,s0⟩:=hI.allocS (n0:=w.heap.size) (x:=w.heap.size) (.deferred (some [])) (Aj _);obtain⟨i1,s1⟩:=i0.allocS (n0:=w.heap.size) (x:=w.heap.size) (.loop (Iy f' a.tmps ps G6 body w.heap.size .ready)) (by rw[World.size_alloc];omega);generalize hW:(w.alloc (.deferred (some []))).alloc (.loop (Iy f' a.tmps ps G6 body w.heap.size .ready))=W1 at i1 s1;have Agu:W1.heap.size=w.heap.size+2:=by rw[<-hW,World.size_alloc,World.size_alloc]
 have hl:W1.heap[w.heap.size+1]?=some (.loop (Iy f' a.tmps ps G6 body w.heap.size .ready)):=by
  rw[<-hW]
  have:=World.alloc_heap_new (w.alloc (.deferred (some []))) (.loop (Iy f' a.tmps ps G6 body w.heap.size .ready))
  rwa [World.size_alloc]at this
 have hD:W1.heap[w.heap.size]?=some (.deferred (some [])):=by
  rw[<-hW,heap_alloc_old _ _ (by rw[World.size_alloc];omega)];exact World.alloc_heap_new w _
 have NO:∀b ob,W1.heap[b]?=some ob->X2 ob=true->∀r,((Ao H0 Af) r).live->g.own r≠some b:=fun b ob hb hd r hr e=>P0 (i1.objs r) hr e hb hd;have S1:=s0.trans s1;have hit:=hIT (w.heap.size+1) w.heap.size f' a.tmps hN
 refine⟨w.heap.size+1,[{ target:=.collected w.heap.size,args:=#[] }],W1,{ target:=.fn (.func gf) lb,args:=#[.func (.yield (w.heap.size+1)) #[] #[]] },W1,gf,
  #[.func (.yield (w.heap.size+1)) #[] #[]]++lb,W1,?_,?_,fun _ _=>trivial,?_,fun e=>(by cases e),?_⟩
 .rw[<-hW];exact run_enterLoop_outer _ _ _ _ _
 .simp only[resolve,rv];simp[go_sem]
 .simp only[invoke];rw[G3 hit.1]
 refine callsIn_wide.2 ((hit.2 g W1 _ (by simp[EM];omega) (fun i av x e1 e2=>?_) i1 (fun h' g' w' q1 q2=>?_)).mono ?_)
 .cases i with
  |zero =>
   simp only[Be,Bw]at e1;rw[Iv]at e2
   have:x=.func (.yield (w.heap.size+1)) #[] #[]:=(CK e2).symm
   subst e1;subst this;exact .v _ _
  |succ i =>
   have e2:lb[i]?=some x:=by rw[<-e2,Iv];simp
   exact(L1 i av x (by simpa using e1) e2).le S1.le
 .obtain⟨_,_,j2⟩:=Py hσ.1 hσ.2 q1 q2;refine⟨(q1.frame _ ch (NO _ _ hl (hdl _ _ _ _))).trans hl,fun i=>?_⟩;exact((Ox i).le S1.le).mono j2.keeps (fun _ h=>h) j2.gh
 rintro e w2 ⟨v,r,h',g2,rfl,rfl,_,q3,q4⟩
 have ib:w2.heap[w.heap.size+1]?=some (.loop (Iy f' a.tmps ps G6 body w.heap.size .ready)):=(q3.frame _ ch (NO _ _ hl (hdl _ _ _ _))).trans hl;have hD2:w2.heap[w.heap.size]?=some (.deferred (some [])):=(q3.frame _ ch (NO _ _ hD rfl)).trans hD;refine⟨none,_,run_endLoop ib (fun e=>by cases e),?_⟩;obtain⟨i4,s4⟩:=q3.base.put (n0:=w.heap.size) (x:=w.heap.size) (o':=.loop { Iy f' a.tmps ps G6 body w.heap.size .ready with state:=.exhausted }) ib (hdl _ _ _ _) (hdl f' a.tmps w.heap.size .exhausted) (.inl ch);have S4:=(S1.trans (dI.of_inv q3 q4 ch)).trans s4;generalize hW4:w2.putObj (w.heap.size+1) (.loop { Iy f' a.tmps ps G6 body w.heap.size .ready with state:=.exhausted })=w4 at i4 s4 S4;have hD4:w4.heap[w.heap.size]?=some (.deferred (some [])):=by rw[<-hW4,World.putObj_heap_other ch];exact hD2
 have hE:Me cx (Ao Hn Af):=by unfold Me;rw[hx];exact fun i hi=>⟨(GK hσn i hi).1,(GK hσn i hi).2.1⟩
 have hS4:SR N [{ target:=.collected w.heap.size,args:=#[] }] w4 g2 (Ao Hn Af) ⟨env,Ao Hn Af⟩ g2 { a with defers:=[{ target:=.collected w.heap.size,args:=#[] }]++a.defers } w4 :=
  ⟨i4,.refl _ _ _,by simp[ha],hN,fun i=>(Ox i).le S4.le⟩
 refine Ok hP hT hm hE (fun l σ _ _ w _ _ _=>hY l σ _ w) none rest hcr (fun e st5 g5 a5 w5 hq rn=>?_) hS4 xE;have fin:iV cx st5 fn.results.toList σ Qv->LeavesInM (Kt none) 0 P fn a5.tmps R a5.defers .returning w5:=by
  intro hk;have hD5:w5.heap[w.heap.size]?=some (.deferred (some [])):=(rn.inv.frame _ (Bp.1 hD4).1 (fun r hr e=>P0 (i4.objs r) hr e hD4 rfl)).trans hD4;rw[rn.dfs];refine⟨by simp,.inl ⟨w.heap.size,_,rfl,run_takeDeferred hD5,?_⟩⟩;obtain⟨i6,s6⟩:=rn.inv.base.put (n0:=w.heap.size) (x:=w.heap.size) (o':=.deferred none) hD5 rfl rfl (.inr rfl);have hS6:SR N [{ target:=.collected w.heap.size,args:=#[] }] (w5.putObj w.heap.size (.deferred none)) g5 st5.h st5 g5 a5 (w5.putObj w.heap.size (.deferred none)):=⟨i6,.refl _ _ _,rn.dfs,rn.size,fun i=>(rn.slots i).le s6.le⟩;have S6:=(S4.trans (dI.of_inv rn.inv rn.le (AJ (Aj _) S4.size))).trans s6;obtain⟨v,k2,r,h7,g7,k1,k5,k3,k4⟩:=fy (H0:=H0) hT hσ.1 hσ.2 (SR.rebase hS6 (i6.of_seg S6 fun h=>absurd h (Nat.lt_irrefl _)) S6.le) hk;exact⟨v,k2,hR v r h7 g7 _ k1 k5 k3 k4⟩
 cases e with
 |normal=>exact fin hq
 |ret=>exact fin hq
 |exit id=>exact hq.elim
end
end Go.Eng
