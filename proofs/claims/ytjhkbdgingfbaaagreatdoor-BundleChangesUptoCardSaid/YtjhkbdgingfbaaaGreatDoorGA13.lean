/- Lemmas 13. -/
import Derived.Test.YtjhkbdgingfbaaaGreatDoorGA12
import Derived.Sort.Grow
import Derived.Shelf.GgSortFunc.InsertionK
import Derived.Below
import Derived.RangeFuncLeaves
import Derived.RangeFuncNested
namespace Go.Eng
variable {args:List AV}{f:Nat}(vals:List Value)
section
variable {P:Program}
theorem Wi {fn : Func}{c : Code}(hf : P.funcs[f]? = some fn)(hn : (fn.name == "runtime.NumGoroutine") = false)(hb : fn.body = some c) : Enters P f := ⟨fn, hf, hn, by simp [hb]⟩
theorem G4{res:AV}(v:Value)(hE:Enters P f)(ha:args=vals.map .v)(Zd:∀g w,Bo g w D2 res v)(h:∀w,(∃m,w.cell? ⟨gB,0,none⟩=some (.int .i64 m))->Calls P f vals.toArray w fun e w'=>e=.returned v/\w'=w):IR P f args res:=by
 refine⟨hE,fun g w us hs hv hI=>?_⟩;have hu:us=vals.toArray:=by
  subst ha;rw[AO]at hs;refine Array.ext (by simpa using hs) fun i h1 h2=>?_
  have:=hv i (.v (vals[i]'(by simpa using h2))) us[i] (by rw[Ap,At (by simpa using h2)];rfl) (by rw[AY h1])
  rw[this.v_eq];simp
 subst hu;refine(h w hI.glob.1.2).mono ?_
 rintro e w' ⟨rfl,rfl⟩
 exact⟨v,res,Ao,g,rfl,⟨rfl,rfl⟩,(Zd g _).up _,hI,.refl _ _ _⟩
theorem OA{g:Gh}{w:World}:∀(vs:List Value),Bo g w D2 (.tup (vs.map .v)) (.tuple vs.toArray):=fun vs=>
 .tup _ _ _ sS fun i av x h1 h2=>by
  rw[Ap,Ay]at h1;obtain⟨a,e1,rfl⟩:=h1
  have:vs[i]?=some x:=by simpa using h2
  rw[e1]at this;cases this;exact .v _ _
theorem Qi(es:List Value)(T:TypeId)(hE:Enters P f)(ha:args=vals.map .v)(h1:∀x∈es,x.oneCell'=true)(h:∀w,(∃m,w.cell? ⟨gB,0,none⟩=some (.int .i64 m))->Calls P f vals.toArray w fun e w'=>e=.returned (.slice (some ⟨w.heap.size,0,none⟩) es.length es.length)/\w'=w.alloc (.cells es.toArray T)) :
  IR P f args (.slice .none (es.map fun x=>[.v x])):=by
 refine⟨hE,fun g w us hs hv hI=>?_⟩;have hu:us=vals.toArray:=by
  subst ha;rw[AO]at hs;refine Array.ext (by simpa using hs) fun i h1 h2=>?_
  have:=hv i (.v (vals[i]'(by simpa using h2))) us[i] (by rw[Ap,At (by simpa using h2)];rfl) (by rw[AY h1])
  rw[this.v_eq];simp
 subst hu;refine(h w hI.glob.1.2).mono ?_
 rintro e w' ⟨rfl,rfl⟩
 have Dz:(w.alloc (.cells es.toArray T)).heap[w.heap.size]?=some (.cells es.toArray T (0,0)):=E7 w _ rfl;have Wy:∀b,b<w.heap.size->(w.alloc (.cells es.toArray T)).heap[b]?=w.heap[b]?:=fun b hb=>heap_alloc_old _ _ hb;have hK:DO g w ⟨g.ρ,g.ln,g.tk,g.own,g.more w.heap.size es.length⟩ (w.alloc (.cells es.toArray T)):=fun b o hb=>by
  have Dc:=hI.slt b o hb;exact⟨.inl hb,by simp only[World.cell?,Wy b Dc],fun es ck he=>(Wy b Dc).trans he⟩
 refine⟨_,_,Ao,⟨g.ρ,g.ln,g.tk,g.own,g.more w.heap.size es.length⟩,rfl,⟨rfl,rfl⟩,?_,⟨rfl,rfl,rfl,?_,fun b hb _=>Wy b hb,fun b o hs=>?_,fun _=>trivial,fun _ _ _ h=>h.elim,fun _ _ h=>h.elim,fun b o hs=>?_,hI.glob.keep hK⟩,⟨.refl _ _,fun _ h=>h,hK⟩⟩
 .have hr:B3 ⟨g.ρ,g.ln,g.tk,g.own,g.more w.heap.size es.length⟩ (w.alloc (.cells es.toArray T)) D2 (es.map fun x=>[AV.v x]).flatten (es.toArray.toList.take ((es.map fun x=>[AV.v x]).length*1)):=by
   have hfl:∀l:List Value,(l.map fun x=>[AV.v x]).flatten=l.map .v:=fun l=>by
    induction l with
    |nil=>rfl
    |cons a l ih=>rw[Bq,Co,ih];rfl
   rw[hfl];simp only[AO,Gc,DS];refine⟨by simp,fun x hx=>h1 x (by simpa using hx),fun i av x q1 q2=>?_⟩;rw[Ap,Ay]at q1;obtain⟨a,e1,rfl⟩:=q1;rw[e1]at q2;cases q2;exact .v _ _
  have:=Bo.slice_row (U:=AD Ao) (cap:=es.length) (sz:=1) (es:=es.map fun x=>[AV.v x]) Dz (fun cs Vd=>by
   obtain⟨x,_,rfl⟩:=AA.1 Vd;rfl) sS hr (fun o ho=>.inr ⟨rfl,by simpa using ho⟩)
  simpa using this
 .rw[World.size_alloc];omega
 .rw[World.size_alloc];rcases hs with hs | ⟨rfl,_⟩
  .have:=hI.slt b o hs;omega
  .omega
 .rcases hs with hs | ⟨rfl,_⟩
  .exact .inl hs
  .exact .inr (.inl (Ad _))
end
end Go.Eng
namespace Go.Eng
open Go.Sort
section
variable {P:Program}
theorem J8(F c:Array Value)(h:F.size<=c.size):(putCells id 0 F c).toList.take F.size=F.toList/\(putCells id 0 F c).size=c.size:=by
 have hs:(putCells id 0 F c).size=c.size:=by simp[putCells]
 refine⟨?_,hs⟩;apply Cc;intro i;rw[Er,Az,Az]
 by_cases hi:i<F.size
 .rw[Av hi];have rn:i<c.size:=by omega
  simp only[putCells,Array.getElem?_mapIdx,AY rn,AY hi,JK,Ar,true_and,Bf,hi,if_true,Nat.sub_zero,id_eq];rw[Fy F i hi]
 .rw[Aj hi,Hx sP]
theorem NW(r:Nat)(o o' : HO):AH (AC [(r,o)] Ao) r o'=AC [(r,o')] Ao:=by
 funext i
 by_cases e:i=r
 .subst e;rw[AM];simp[AC]
 .rw[Bs _ _ _ _ e];simp[AC,B4 e]
theorem VP{f:Nat}{es:List (List AV)}{sz:Nat}{rest:List Value}{Q:List (List AV)->Prop}(hE:Enters P f)
  (h0:es=[]->Q []/\∀w,Calls P f (#[.slice none 0 0]++rest.toArray) w fun e w'=>e=.returned (.tuple #[])/\w'=w)
  (h1:∀(g:Gh) (w:World) (b cap:Nat) (F:Array Value),B3 g w D2 es.flatten F.toList->F.size=es.length*sz->Holds id w b 0 F->b<w.heap.size->Calls P f (#[.slice (some ⟨b,0,none⟩) es.length cap]++rest.toArray) w fun e w'=>
   e=.returned (.tuple #[])/\∃(F' : Array Value) (EA : List (List AV)) (n:Nat) (os:Array Obj),F'.size=F.size/\Q EA/\EA.length=es.length/\(∀cs∈EA,cs.length=sz) /\
    (∀(g:Gh) (w:World),B3 g w D2 es.flatten F.toList->B3 g w D2 EA.flatten F'.toList)/\w'=grow (putRow id (Sort.ahead w n) b 0 F') os) :
  BL P f (.msl 1000 es.length::rest.map .v) (AC [(1000,.arr sz es)] Ao) fun r h'=>r=.tup []/\∃EA,Q EA/\h'=AC [(1000,.arr sz EA)] Ao:=by
 refine⟨hE,fun g w us hs hv hI=>?_⟩;have ho:=hI.objs 1000;have he:AC [(1000,HO.arr sz es)] Ao 1000=.arr sz es:=rfl;rw[he]at ho;obtain⟨t1,l1,al,a2⟩:=ho;simp only[Am,AO]at hs
 -- the arguments
 have oJ:0<us.size:=by omega
 have Pf:=hv 0 (.msl 1000 es.length) us[0] rfl (AY oJ);have DM:us[0]=g.ρ 1000:=by
  generalize us[0]=x at Pf;cases Pf with
  |msl _ r n a cap hu ht hn ha hx=>exact hx l1.symm
 have IP:us=#[g.ρ 1000]++rest.toArray:=by
  refine Array.ext (by simp;omega) fun i h1 h2=>?_;cases i with
  |zero=>rw[DM];simp
  |succ i=>
   have hi:i<rest.length:=by omega
   have:=hv (i+1) (.v rest[i]) us[i+1] (by simp[List.getElem?_eq_getElem hi]) (AY h1)
   rw[this.v_eq];simp
 rw[IP];rcases a2 with ⟨b1,b2,b3⟩ | ⟨b,cap,E,vs,b1,b2,b3,b4,b5,b6,b7⟩
 .subst b1;obtain⟨q,h0⟩:=h0 rfl;rw[b2];refine(h0 w).mono ?_
  rintro e w' ⟨rfl,rfl⟩
  exact⟨_,.tup [],_,g,rfl,⟨rfl,[],q,rfl⟩,.tup _ _ _ rfl (fun i av x h=>by simp at h),hI,.refl _ _ _⟩
 .have hl:(AC [(1000,HO.arr sz es)] Ao 1000).live:=trivial;have Dc:=(hI.loc 1000 b hl b2).1;have Fc:es.length*sz<=vs.size:=by rw[b5];exact A0 _ b3
  have hF:((vs.toList.take (es.length*sz)).toArray).size=es.length*sz:=by simp;omega
  have hH:Holds id w b 0 (vs.toList.take (es.length*sz)).toArray:=fun j hj=>by
   have hj:j<es.length*sz:=by rw[hF]at hj;exact hj
   refine⟨?_,?_⟩
   .have kd:j<vs.size:=by omega
    simp only[World.cell?,b4,Bf,KK,Cg,FK];rw[AY kd,Fy _ j (by rw[hF];exact hj)];simp
   .simp[World.frozen?,b4]
  rw[b1];refine(h1 g w b cap _ (by simpa using b6) hF hH Dc).mono ?_
  rintro e w' ⟨rfl,F',EA,n,os,f1,f2,f3,f4,f5,rfl⟩
  have iE : F'.size=es.length*sz:=f1.trans hF;have kC:=J8 F' vs sP;have jU : (grow (putRow id (Sort.ahead w n) b 0 F') os).heap[b]?=some (.cells (putCells id 0 F' vs) E (0,0)):=by
   rw[heap_grow_old _ _ (by rw[size_putRow];exact Dc)];show(w.heap.modify b (onCells (putCells id 0 F')))[b]?=_;rw[Array.getElem?_modify,Av rfl,b4];rfl
  have SD:∀k,k<w.heap.size->k≠b->(grow (putRow id (Sort.ahead w n) b 0 F') os).heap[k]?=w.heap[k]?:=fun k hk Dn=>by
   rw[heap_grow_old _ _ (by rw[size_putRow];exact hk)];simp[putRow,mapBlock,Array.getElem?_modify,Ne.symm Dn]
  have Dm:w.heap.size<=(grow (putRow id (Sort.ahead w n) b 0 F') os).heap.size:=by rw[size_grow,size_putRow];show w.heap.size<=w.heap.size+_;omega
  obtain⟨k1,k2⟩:=hI.upd 1000 (.arr sz EA) (g.ρ 1000) (g.ln 1000) (g.tk 1000) (g.own 1000) g.S (grow (putRow id (Sort.ahead w n) b 0 F') os) (some b) ⟨rfl,rfl,rfl,Dm⟩
   (fun k hk Dn=>SD k hk (fun e=>Dn (by rw[e]))) (fun b' e=>by cases e;exact⟨hl,b2⟩) (fun _ _ h=>h) (fun _ _ h=>.inl h) (fun b' o e hs=>by cases e;exact absurd hs (b7 o))
   (fun b' _ e=>by rw[b2]at e;cases e;exact⟨CL Dc Dm,.inl ⟨hl,b2⟩⟩) sS (fun _=>⟨rfl,Ad _,fun _=>rfl,fun _=>rfl⟩) (fun hg hk=>by
    refine⟨by simp[Gh.upd,t1],by simp[Gh.upd,l1,f3],f4,.inr ⟨b,cap,E,_,by simp[Gh.upd,b1,f3],by simp[Gh.upd,b2],by omega,jU,by rw[kC.2,b5],?_,b7⟩⟩
    have:=f5 g w (by simpa using b6)
    rw[f3,<-iE,kC.1];exact this.mono hk (fun _ h=>h) (fun _ h=>h.elim))
  rw[NW]at k1 k2;exact⟨_,.tup [],_,_,rfl,⟨rfl,EA,f2,rfl⟩,.tup _ _ _ rfl (fun i av x h=>by simp at h),k1,k2⟩
end
end Go.Eng
namespace Go.Eng
open Go.Sort Go.Proofs
variable {α β:Type}{k:Nat}
theorem MC{g:Gh}{w:World}{U:Nat->Prop}{cs T9 : List AV}{vs XK : List Value}(h:vs.length=cs.length):B3 g w U (cs++T9) (vs++XK)↔B3 g w U cs vs/\B3 g w U T9 XK:=by
 constructor
 .intro⟨h1,h2,h3⟩;refine⟨⟨h,fun x hx=>h2 x (BS _ hx),fun i av x q1 q2=>?_⟩,⟨by simp at h1;omega,fun x hx=>h2 x (Ch _ hx),fun i av x q1 q2=>?_⟩⟩
  .have a1:=(Au.1 q1).1;have a2:=(Au.1 q2).1;exact h3 i av x (by rw[AQ a1];exact q1) (by rw[AQ a2];exact q2)
  .exact h3 (cs.length+i) av x (by rw[AL sP,E4];exact q1) (by rw[AL sP,h,E4];exact q2)
 .intro⟨⟨h1,h2,h3⟩,k1,k2,k3⟩;refine⟨by simp[h1,k1],fun x hx=>(By.1 hx).elim (h2 x) (k2 x),fun i av x q1 q2=>?_⟩
  by_cases hi:i<cs.length
  .rw[AQ hi]at q1;rw[AQ sP]at q2;exact h3 i av x q1 q2
  .rw[AL sP]at q1;rw[AL sP]at q2;rw[h]at q2;exact k3 _ av x q1 q2
theorem L7{α β:Type}{g:Gh}{w:World}{U:Nat->Prop}{GM:β->List AV}{enc:α->List Value}(hl:∀x y,(enc x).length=(GM y).length):∀ps:List (β×α),
  B3 g w U (ps.map fun p=>GM p.1).flatten (ps.map fun p=>enc p.2).flatten↔∀p∈ps,B3 g w U (GM p.1) (enc p.2)
 | []=>by simp[B3]
 |p::ps=>by
  simp only[Bq,Co];rw[MC (hl _ _),L7 hl ps];simp
theorem Ts{f:α->β}:∀{m m' : List β},m.Perm m'->∀ps:List α,ps.map f=m->∃aj : List α,aj.Perm ps/\aj.map f=m':=by
 intro m m' h
 induction h with
 |nil=>intro ps e;exact⟨ps,.refl _,e⟩
 |cons x h ih=>
  intro ps e;cases ps with
  |nil=>cases e
  |cons p ps=>
   rw[Bq]at e
   injection e with e1 e2
   obtain⟨aj,h1,h2⟩:=ih ps e2;exact⟨p::aj,h1.cons p,by rw[Bq,e1,h2]⟩
 |swap x y l=>
  intro ps e
  match ps,e with
  |p::q::ps,e=>
   simp only[Bq,Ea]at e;exact⟨q::p::ps,List.Perm.swap _ _ _,by simp[e.1,e.2.1,e.2.2]⟩
 |trans h1 h2 ih1 ih2=>
  intro ps e;obtain⟨r4,p1,p2⟩:=ih1 ps e;obtain⟨r5,q1,q2⟩:=ih2 r4 p2;exact⟨r5,q1.trans p1,q2⟩
theorem NQ[Inhabited α]{enc:α->List Value}(hk:∀x,(enc x).length=k)(d:Array α):(flatK enc k d).toList=(d.toList.map enc).flatten:=by
 have hl:∀cs∈d.toList.map enc,cs.length=k:=fun cs Vd=>by
  obtain⟨x,_,rfl⟩:=AA.1 Vd;exact hk x
 have BQ:(d.toList.map enc).flatten.length=d.size*k:=by
  have:∀l:List α,(l.map enc).flatten.length=l.length*k:=fun l=>by
   induction l with
   |nil=>simp
   |cons a l ih=>simp[hk,Nat.succ_mul,ih];omega
  rw[this];simp
 apply Cc;intro t
 by_cases ht:t<d.size*k
 .have k0:0<k:=Nat.pos_of_ne_zero fun h=>by subst h;simp at ht
  have h1:t / k<d.size:=by rw[Iz k0];exact ht
  have h2:t % k<k:=Nat.mod_lt _ k0;have e:t=t / k*k+t % k:=by rw[Nat.mul_comm];exact(Pv t k).symm
  rw[Az,AY (by simpa using ht),<-Fy _ t (by simpa using ht),get_flatK _ _ _ _ ht];have hg:(d.toList.map enc)[t / k]?=some (enc d[t / k]!):=by
   rw[Ap,Az,AY h1,Fy d _ h1];rfl
  have:=D3 hl hg h2
  rw[e,this,<-e];rw[At (by rw[hk];exact h2),Fy _ _ (by rw[hk];exact h2)]
 .rw[AN (by simp;omega),AN sP]
theorem zip_fst{α β:Type}:∀{l:List α} {m:List β},l.length=m.length->(l.zip m).map (·.1)=l/\(l.zip m).map (·.2)=m
 | [],[],_=>⟨rfl,rfl⟩
 |a::l,b::m,h=>by
  have:=zip_fst (l:=l) (m:=m) (by simpa using h)
  simp[this.1,this.2]
section
variable {P:Program}
theorem IS[Inhabited α]{f:Nat}{rest:List Value}(hE:Enters P f)(GM:β->List AV)(enc:α->List Value)(hB:∀x,(GM x).length=k)(hk:∀x,(enc x).length=k)(lt:α->α->Bool)(R:β->α->Prop)(l:List β)(hl:l.length<4611686018427387904)(hR:∀x∈l,∀(g:Gh) (w:World) (vs:List Value),B3 g w D2 (GM x) vs->∃a,enc a=vs/\R x a)(Du:∀(w:World) (b cap:Nat) (d:Array α),HoldsK enc k w b 0 d->b<w.heap.size->d.size<4611686018427387904->d.size=l.length->Calls P f (#[.slice (some ⟨b,0,none⟩) d.size cap]++rest.toArray) w fun e w'=>
   e=.returned (.tuple #[])/\∃d' n os,PermIn 0 d.size d d'/\SortedIn lt 0 d.size d'/\w'=sortWorldK enc k w b 0 n d' os)(kw:l=[]->∀w:World,Calls P f (#[.slice none 0 0]++rest.toArray) w fun e w'=>e=.returned (.tuple #[])/\w'=w) :
  BL P f (.msl 1000 l.length::rest.map .v) (AC [(1000,.arr k (l.map GM))] Ao) fun r h'=>
   r=.tup []/\∃l' : List β,l'.Perm l/\(∃al:List α,al.length=l'.length/\(∀(i:Nat) (x:β) (a:α),l'[i]?=some x->al[i]?=some a->R x a)/\al.Pairwise (fun x y=>lt y x=false))/\h'=AC [(1000,.arr k (l'.map GM))] Ao:=by
 have K6:=VP (P:=P) (f:=f) (es:=l.map GM) (sz:=k) (rest:=rest)
  (Q:=fun EA=>∃l' : List β,l'.Perm l/\(∃al:List α,al.length=l'.length/\(∀(i:Nat) (x:β) (a:α),l'[i]?=some x->al[i]?=some a->R x a)/\al.Pairwise (fun x y=>lt y x=false))/\EA=l'.map GM) hE ?_ ?_
 .rw[AO]at K6;refine⟨hE,fun g w vals q1 q2 q3=>(K6.2 g w vals q1 q2 q3).mono fun _ _ ⟨v,r,h',g',e1,⟨e2,EA,⟨l',p1,p2,p3⟩,p4⟩,rest⟩=>⟨v,r,h',g',e1,⟨e2,l',p1,p2,by rw[p4,p3]⟩,rest⟩⟩
 .intro e
  have:l=[]:=by simpa using e
  subst this;exact⟨⟨[],.refl _,⟨[],rfl,fun i x a h=>by simp at h,.nil⟩,rfl⟩,kw rfl⟩
 .intro g w b cap F hr hF hH hb
  -- the elements in memory
  have gt:∀(m:List β) (vs:List Value),(∀x∈m,x∈l)->B3 g w D2 (m.map GM).flatten vs->∃al:List α,al.length=m.length/\vs=(al.map enc).flatten/\∀(i:Nat) (x:β) (a:α),m[i]?=some x->al[i]?=some a->R x a:=by
   intro m
   induction m with
   |nil=>
    intro vs _ h
    have:vs=[]:=AF (by simpa using h.1)
    subst this;exact⟨[],rfl,rfl,fun i x a h=>by simp at h⟩
   |cons x m ih=>
    intro vs hm h;rw[Bq,Co]at h;have BQ:=h.1;rw[Ac,hB]at BQ;have e:vs=vs.take k++vs.drop k:=(Ev k vs).symm;rw[e]at h;rw[MC (by rw[Al,hB];omega)]at h;obtain⟨a,a1,a2⟩:=hR x (hm x (Ab ..)) g w _ h.1;obtain⟨al,b1,b2,b3⟩:=ih _ (fun y hy=>hm y (Ai _ hy)) h.2;refine⟨a::al,by simp[b1],by rw[Bq,Co,a1,<-b2,<-e],fun i y c q1 q2=>?_⟩;cases i with
    |zero=>simp only[AX,Ba]at q1 q2;subst q1;subst q2;exact a2
    |succ i=>exact b3 i y c (by simpa using q1) (by simpa using q2)
  obtain⟨al,s1,s2,s3⟩:=gt l F.toList (fun _ h=>h) hr;have qT:F=flatK enc k al.toArray:=IF.1 (by rw[NQ hk,s2]);have hd:HoldsK enc k w b 0 al.toArray:=by unfold HoldsK;rw[<-qT];exact hH
  have hc:=Du w b cap al.toArray hd hb (by simpa[s1]using hl) (by simp[s1]);have Dm:al.toArray.size=(l.map GM).length:=by simp[s1]
  rw[Dm]at hc;refine hc.mono ?_
  rintro e w' ⟨rfl,d',n,os,p1,p2,rfl⟩
  obtain⟨z1,z2⟩:=zip_fst s1.symm;obtain⟨Zg,_,I8⟩:=p1;have Zg : d'.size=al.length:=by rw[Zg];simp
  have e1:d'.extract 0 (l.map GM).length=d':=by rw[show(l.map GM).length=d'.size by rw[Zg];simp[s1]];exact Array.extract_size
  have e2:al.toArray.extract 0 (l.map GM).length=al.toArray:=by rw[<-Dm];exact Array.extract_size
  rw[e1,e2]at I8;have I8:al.Perm d'.toList:=by
   first
   |exact I8.symm
   |exact I8
   |(have:=I8.symm;simpa using this)
  obtain⟨aj,r1,r2⟩:=Ts I8 (l.zip al) z2;have rel:∀p∈l.zip al,R p.1 p.2:=fun p hp=>by
   obtain⟨i,hi⟩:=Cv.1 hp;rw[List.getElem?_zip_eq_some]at hi;exact s3 i _ _ hi.1 hi.2
  refine⟨rfl,flatK enc k d',(aj.map (·.1)).map GM,n,os,by rw[size_flatK,Zg,hF];simp[s1],⟨aj.map (·.1),?_,⟨d'.toList,by rw[<-r2];simp,fun i x a q1 q2=>?_,?_⟩,rfl⟩,by have:=r1.length_eq;simp[this,s1],fun cs Vd=>?_,fun g w hr=>?_,?_⟩
  .have:=r1.map (·.1);rw[z1]at this;exact this
  .rw[<-r2]at q2;rw[Ap,Ay]at q1 q2;obtain⟨p,q1,rfl⟩:=q1;obtain⟨p',q2,rfl⟩:=q2;rw[q1]at q2;cases q2;exact rel p (r1.mem_iff.1 (AW q1))
  .rw[A5];intro i j hi hj TN;have IN : i<d'.size:=by simpa using hi
   have fW : j<d'.size:=by simpa using hj
   have:=p2 i j (Ar _) TN (by rw[Zg]at fW;simp[s1]at fW⊢;omega)
   rw[Fy d' j fW,Fy d' i IN]at this;simpa using this
  .obtain⟨x,_,rfl⟩:=AA.1 Vd;exact hB x
  .have h1:B3 g w D2 ((l.zip al).map fun p=>GM p.1).flatten ((l.zip al).map fun p=>enc p.2).flatten:=by
    have a1:(l.zip al).map (fun p=>GM p.1)=l.map GM:=by
     have:(l.zip al).map (fun p=>GM p.1)=((l.zip al).map (·.1)).map GM:=by rw[Cw];rfl
     rw[this,z1]
    have a2:(l.zip al).map (fun p=>enc p.2)=al.map enc:=by
     have:(l.zip al).map (fun p=>enc p.2)=((l.zip al).map (·.2)).map enc:=by rw[Cw];rfl
     rw[this,z2]
    rw[a1,a2,<-s2];exact hr
   have BQ:∀(x:α) (y:β),(enc x).length=(GM y).length:=fun x y=>by rw[hk,hB]
   rw[L7 BQ]at h1;have h2:=(L7 (g:=g) (w:=w) (U:=D2) BQ aj).2 fun p hp=>h1 p (r1.mem_iff.1 hp);have b1:(aj.map (·.1)).map GM=aj.map fun p=>GM p.1:=by rw[Cw];rfl
   have b2:(flatK enc k d').toList=(aj.map fun p=>enc p.2).flatten:=by
    rw[NQ hk,<-r2,Cw];rfl
   rw[b1,b2];exact h2
  .rfl
end
end Go.Eng
namespace Go.Eng
section
variable {P:Program}
theorem DK{f:Nat}{fn:Func}{c:Code}{args:List AV}{H0:List (Nat×HO)}{Q:AV->(Nat->HO)->Prop}(cx:Cx)(σ:Ren)(hP:cx.P=P)(hT:B7 P cx.T)(hm:P.follows .mixedOrders=true)(hx:cx.ext=true)(hf:P.funcs[f]?=some fn)
  (hn : (fn.name == "runtime.NumGoroutine") = false) (hb : fn.body = some c) (hN : args.length <= fn.ntmps) (hc : Ff fn.ntmps c = true) (hσ : (Iu σ && NL σ H0) = true)
  (hk:RH cx c (fD cx fn.results.toList σ fun r h'=>∃r',D7 r r'/\Q r' h') ⟨NH args,AC H0 Ao⟩) (hY:∀l σ g w,cx.yp l σ g w:=by exact fun _ _ _ _=>trivial):BL P f args (AC H0 Ao) Q:=
 (YU cx σ hP hT hm hx hf hn hb hN hc hσ hk hY).mono fun _ _ ⟨r',s,q⟩=>⟨r',s,q⟩
end
end Go.Eng
namespace Go.Eng
open Go.Sort
theorem B3.append{g:Gh}{w:World}{U:Nat->Prop}{Pa bs:List AV}{xs ys:List Value}(h:B3 g w U Pa xs)(k:B3 g w U bs ys):B3 g w U (Pa++bs) (xs++ys):=by
 refine⟨by rw[Ac,Ac,h.1,k.1],fun x hx=>?_,fun i av x q1 q2=>?_⟩
 .rcases By.1 hx with hx | hx
  .exact h.2.1 x hx
  .exact k.2.1 x hx
 .have hl:=h.1
  by_cases hi:i<Pa.length
  .rw[AQ hi]at q1;rw[AQ sP]at q2;exact h.2.2 i av x q1 q2
  .rw[AL sP]at q1;rw[AL sP,hl]at q2;exact k.2.2 _ av x q1 q2
theorem B3.take{g:Gh}{w:World}{U:Nat->Prop}{Pa:List AV}{xs:List Value}(h:B3 g w U Pa xs)(k:Nat):B3 g w U (Pa.take k) (xs.take k):=by
 refine⟨by rw[Al,Al,h.1],fun x hx=>h.2.1 x (Cq hx),fun i av x q1 q2=>?_⟩;rw[Er]at q1 q2;split at q1
 .rename_i hi;rw[Av hi]at q2;exact h.2.2 i av x q1 q2
 .cases q1
theorem B3.drop{g:Gh}{w:World}{U:Nat->Prop}{Pa:List AV}{xs:List Value}(h:B3 g w U Pa xs)(k:Nat):B3 g w U (Pa.drop k) (xs.drop k):=by
 refine⟨by rw[BX,BX,h.1],fun x hx=>h.2.1 x (Gb hx),fun i av x q1 q2=>?_⟩;rw[BW]at q1 q2;exact h.2.2 _ av x q1 q2
theorem Im{α:Type}{k:Nat}:∀(es:List (List α)) (i:Nat),(∀e∈es,e.length=k)->es.flatten.take (i*k)=(es.take i).flatten
 | [],i,_=>by simp
 |e::es,0,_=>by simp
 |e::es,i+1,h=>by
  have he:=h e (Ab ..);rw[Co,JT,Co,List.take_append,<-Im es i fun x hx=>h x (Ai _ hx),As (by rw[he,Dg];omega),he,show(i+1)*k-k=i*k by rw[Dg];omega]
theorem KZ{α:Type}{k:Nat}:∀(es:List (List α)) (i:Nat),(∀e∈es,e.length=k)->es.flatten.drop (i*k)=(es.drop i).flatten
 | [],i,_=>by simp
 |e::es,0,_=>by simp
 |e::es,i+1,h=>by
  have he:=h e (Ab ..);rw[Co,List.drop_succ_cons,List.drop_append,<-KZ es i fun x hx=>h x (Ai _ hx),Fv (by rw[he,Dg];omega),he,show(i+1)*k-k=i*k by rw[Dg];omega,JH]
section
variable {P:Program}
theorem VO{f:Nat}{es:List (List AV)}{sz:Nat}{rest:List Value}{n' : Nat}{Q:List (List AV)->Prop}(hE:Enters P f)(Dn:es≠[])(Za : n'<=es.length)
  (h1:∀(g:Gh) (w:World) (b cap:Nat) (F:Array Value),B3 g w D2 es.flatten F.toList->F.size=es.length*sz->Holds id w b 0 F->b<w.heap.size->es.length<=cap->Calls P f (#[.slice (some ⟨b,0,none⟩) es.length cap]++rest.toArray) w fun e w'=>
   e=.returned (.slice (some ⟨b,0,none⟩) n' cap)/\∃(F' : Array Value) (EA : List (List AV)) (n:Nat) (os:Array Obj),F'.size=F.size/\Q EA/\EA.length=es.length/\(∀cs∈EA,cs.length=sz) /\
    (∀(g:Gh) (w:World),B3 g w D2 es.flatten F.toList->B3 g w D2 EA.flatten F'.toList)/\w'=grow (putRow id (Sort.ahead w n) b 0 F') os) :
  BL P f (.msl 1000 es.length::rest.map .v) (AC [(1000,.arr sz es)] Ao) fun r h'=>r=.msl 2000 n'/\∃EA,Q EA/\h'=AC [(1000,.dead),(2000,.arr sz (EA.take n'))] Ao:=by
 refine⟨hE,fun g w us hs hv hI=>?_⟩;have ho:=hI.objs 1000;have he:AC [(1000,HO.arr sz es)] Ao 1000=.arr sz es:=rfl;rw[he]at ho;obtain⟨t1,l1,al,a2⟩:=ho;simp only[Am,AO]at hs;have oJ:0<us.size:=by omega
 have Pf:=hv 0 (.msl 1000 es.length) us[0] rfl (AY oJ);have DM:us[0]=g.ρ 1000:=by
  generalize us[0]=x at Pf;cases Pf with
  |msl _ r n a cap hu ht hn ha hx=>exact hx l1.symm
 have IP:us=#[g.ρ 1000]++rest.toArray:=by
  refine Array.ext (by simp;omega) fun i h1 h2=>?_;cases i with
  |zero=>rw[DM];simp
  |succ i=>
   have hi:i<rest.length:=by omega
   have:=hv (i+1) (.v rest[i]) us[i+1] (by simp[List.getElem?_eq_getElem hi]) (AY h1)
   rw[this.v_eq];simp
 rw[IP];rcases a2 with ⟨b1,b2,b3⟩ | ⟨b,cap,E,vs,b1,b2,b3,b4,b5,b6,b7⟩
 .exact absurd b1 Dn
 .have hl:(AC [(1000,HO.arr sz es)] Ao 1000).live:=trivial;have Dc:=(hI.loc 1000 b hl b2).1;have Fc:es.length*sz<=vs.size:=by rw[b5];exact A0 _ b3
  have hF:((vs.toList.take (es.length*sz)).toArray).size=es.length*sz:=by simp;omega
  have hH:Holds id w b 0 (vs.toList.take (es.length*sz)).toArray:=fun j hj=>by
   have hj:j<es.length*sz:=by rw[hF]at hj;exact hj
   refine⟨?_,?_⟩
   .have kd:j<vs.size:=by omega
    simp only[World.cell?,b4,Bf,KK,Cg,FK];rw[AY kd,Fy _ j (by rw[hF];exact hj)];simp
   .simp[World.frozen?,b4]
  rw[b1];refine(h1 g w b cap _ (by simpa using b6) hF hH Dc b3).mono ?_
  rintro e w' ⟨rfl,F',EA,n,os,f1,f2,f3,f4,f5,rfl⟩
  have iE : F'.size=es.length*sz:=f1.trans hF;have kC:=J8 F' vs sP;have jU : (grow (putRow id (Sort.ahead w n) b 0 F') os).heap[b]?=some (.cells (putCells id 0 F' vs) E (0,0)):=by
   rw[heap_grow_old _ _ (by rw[size_putRow];exact Dc)];show(w.heap.modify b (onCells (putCells id 0 F')))[b]?=_;rw[Array.getElem?_modify,Av rfl,b4];rfl
  have SD:∀k,k<w.heap.size->k≠b->(grow (putRow id (Sort.ahead w n) b 0 F') os).heap[k]?=w.heap[k]?:=fun k hk Dn=>by
   rw[heap_grow_old _ _ (by rw[size_putRow];exact hk)];simp[putRow,mapBlock,Array.getElem?_modify,Ne.symm Dn]
  have Dm:w.heap.size<=(grow (putRow id (Sort.ahead w n) b 0 F') os).heap.size:=by rw[size_grow,size_putRow];show w.heap.size<=w.heap.size+_;omega
  obtain⟨k1,k2⟩:=hI.upd 1000 (.arr sz EA) (g.ρ 1000) (g.ln 1000) (g.tk 1000) (g.own 1000) g.S (grow (putRow id (Sort.ahead w n) b 0 F') os) (some b) ⟨rfl,rfl,rfl,Dm⟩
   (fun k hk Dn=>SD k hk (fun e=>Dn (by rw[e]))) (fun b' e=>by cases e;exact⟨hl,b2⟩) (fun _ _ h=>h) (fun _ _ h=>.inl h) (fun b' o e hs=>by cases e;exact absurd hs (b7 o))
   (fun b' _ e=>by rw[b2]at e;cases e;exact⟨CL Dc Dm,.inl ⟨hl,b2⟩⟩) sS (fun _=>⟨rfl,Ad _,fun _=>rfl,fun _=>rfl⟩) (fun hg hk=>by
    refine⟨by simp[Gh.upd,t1],by simp[Gh.upd,l1,f3],f4,.inr ⟨b,cap,E,_,by simp[Gh.upd,b1,f3],by simp[Gh.upd,b2],by omega,jU,by rw[kC.2,b5],?_,b7⟩⟩
    have:=f5 g w (by simpa using b6)
    rw[f3,<-iE,kC.1];exact this.mono hk (fun _ h=>h) (fun _ h=>h.elim))
  rw[NW]at k1 k2;generalize Pe : g.upd 1000 (g.ρ 1000) (g.ln 1000) (g.tk 1000) (g.own 1000) g.S=g' at k1 k2;have dU : g'.own 1000=some b:=by rw[<-Pe];simp[Gh.upd,b2]
  have ky:=k1.objs 1000;have aX:AC [(1000,HO.arr sz EA)] Ao 1000=.arr sz EA:=rfl;rw[aX]at ky;obtain⟨m1,m2,m3,m4⟩:=ky;have hρ:g'.ρ 1000=.slice (some ⟨b,0,none⟩) es.length cap:=by rw[<-Pe];simp[Gh.upd,b1]
  have Un : EA≠[]:=fun e=>Dn (AF (by rw[<-f3,e];rfl));rcases m4 with ⟨m4,_⟩ | ⟨b',HL,E',XK,c1,c2,c3,c4,c5,c6,c7⟩
  .exact absurd m4 Un
  .rw[hρ]at c1;simp only[Value.slice.injEq,Ba,Addr.mk.injEq,and_true]at c1;obtain⟨qD,sr,qE⟩:=c1;subst qD;subst qE;have Y8 : (EA.take n').length=n':=by rw[Al];omega
   obtain⟨k3,k4⟩:=k1.move 1000 2000 sR rfl trivial dU (.arr sz (EA.take n')) (.slice (some ⟨b,0,none⟩) n' cap) n' true sS (fun hk=>by
    refine⟨by simp[Gh.upd],by simp[Gh.upd,Y8],fun cs Vd=>m3 cs (Cq Vd),.inr ⟨b,cap,E',XK,by simp[Gh.upd,Y8],by simp[Gh.upd],by omega,c4,c5,?_,c7⟩⟩
    have:=(c6.mono hk (fun _ h=>h) (fun _ h=>h.elim)).take (n'*sz)
    rw[Im EA n' m3,HG,JJ (A0 _ sP)]at this;rw[Y8];exact this)
   have ka:AH (AH (AC [(1000,HO.arr sz EA)] Ao) 1000 .dead) 2000 (.arr sz (EA.take n'))=AC [(1000,.dead),(2000,.arr sz (EA.take n'))] Ao:=by
    funext i
    by_cases e1:i=2000
    .subst e1;rw[AM];rfl
    .rw[Bs _ _ _ _ e1]
     by_cases e2:i=1000
     .subst e2;rw[AM];rfl
     .rw[Bs _ _ _ _ e2];simp[AC,B4 e1,B4 e2]
   rw[ka]at k3 k4;exact⟨_,.msl 2000 n',_,_,rfl,⟨rfl,EA,f2,rfl⟩,.msl _ 2000 n' (some ⟨b,0,none⟩) cap (by intro c;cases c) (by simp[Gh.upd]) (by simp[Gh.upd]) (.inr ⟨b,rfl⟩) (fun _=>by simp[Gh.upd]),k3,k2.trans k4⟩
end
end Go.Eng
namespace Go.Eng
variable {h:Nat->HO}{r ty e m:Nat}{cx:Cx}{x:AV}{K:HK}
def YF(a b:D9):Bool:=
 (match a.2 with | some r=>!Gw b.1 r | none=>true)&&(match b.2 with | some r=>!Gw a.1 r | none=>true)
def Lz(ops:Array Oper)(oi:Oper)(fi:D9)(D:List Nat)(k:Nat):List Oper->List D9->Bool
 |o::r,f::fs=>(Gw D k||(oi.apart ops o&&YF fi f))&&Lz ops oi fi D (k+1) r fs
 | [],[]=>true
 |_,_=>false
def PM(ops:Array Oper)(all:List Oper)(k:Nat):List Oper->List D9->Bool
 |o::r,f::fs=>
  let D:=LJ k [] 0 all
  (o.after.toList.all fun e=>!Region.binds .any e||Nat.blt e.on k)&&OK k D 0 all&&(D.all fun j=>Nat.blt k j&&Nat.blt j all.length)&&Lz ops o f D (k+1) r fs&&PM ops all (k+1) r fs
 | [],[]=>true
 |_,_=>false
def U3(ops:Array Oper)(fs:List D9):Bool:=Region.noSelect ops&&PM ops ops.toList 0 ops.toList fs
def Mb(f:D9):Prop:=∀r,f.2=some r->r<10000000
def M9:List D9->Prop
 | []=>True
 |f::r=>Mb f/\M9 r
theorem B6(l:List Nat):Mb (l,none):=fun _ h=>by cases h
theorem Fs{l:List Nat}(h:r<10000000):Mb (l,some r):=fun _ e=>by cases e;exact h
theorem YG{a b:D9}(ha:Mb a)(hb:Mb b)(h:YF a b=true):NF a b=true:=by
 obtain⟨a1,a2⟩:=a;obtain⟨b1,b2⟩:=b;unfold YF at h;unfold NF;rw[Ak]at h⊢;refine⟨?_,?_⟩
 .cases a2 with
  |none=>rfl
  |some r=>
   have h1:(!Gw b1 r)=true:=h.1;show Tl b1 r=true;unfold Tl;rw[B4 (show r≠QL by have:=ha r rfl;unfold QL;omega),DU,h1,show Nat.blt r 10000000=true by rw[B1];exact ha r rfl];rfl
 .cases b2 with
  |none=>rfl
  |some r=>
   have h1:(!Gw a1 r)=true:=h.2;show Tl a1 r=true;unfold Tl;rw[B4 (show r≠QL by have:=hb r rfl;unfold QL;omega),DU,h1,show Nat.blt r 10000000=true by rw[B1];exact hb r rfl];rfl
theorem Py{ops:Array Oper}{oi:Oper}{fi:D9}{D:List Nat}(hi:Mb fi):∀{l:List Oper} {fs:List D9} {k:Nat},M9 fs->Lz ops oi fi D k l fs=true->Gd ops oi fi D k l fs=true
 | [],[],_,_,h=>h
 |o::r,f::fs,k,hs,h=>by
  unfold Lz at h;unfold Gd;rw[Ak,CO,Ak]at h⊢;exact⟨h.1.imp id (fun q=>⟨q.1,YG hi hs.1 q.2⟩),Py hi hs.2 h.2⟩
 | [],_::_,_,_,h=>by simp[Lz]at h
 |_::_,[],_,_,h=>by simp[Lz]at h
theorem Si{ops:Array Oper}{all:List Oper}:∀{l:List Oper} {fs:List D9} {k:Nat},M9 fs->PM ops all k l fs=true->IX ops all k l fs=true
 | [],[],_,_,h=>h
 |o::r,f::fs,k,hs,h=>by
  unfold PM at h;unfold IX;simp only[Ak]at h⊢;exact⟨⟨h.1.1,Py hs.1 hs.2 h.1.2⟩,Si hs.2 h.2⟩
 | [],_::_,_,_,h=>by simp[PM]at h
 |_::_,[],_,_,h=>by simp[PM]at h
theorem KT{ops:Array Oper}{fs:List D9}(hs:M9 fs)(h:U3 ops fs=true):NG ops fs=true:=by
 unfold U3 at h;unfold NG;rw[Ak]at h⊢;exact⟨h.1,Si hs h.2⟩
theorem RW{d:Option Nat}{es es2:List (List AV)}(oH:(cx.T ty).d=.slice e)(hz:Nat.beq (cx.T e).zc.length (cx.T e).size=true)(Dm:(cx.T e).size=m+1)(hx:∀K' : List (List AV)->Prop,K' es2->Il h x K')(hr:h r=.tok (m+1) es.length)(hl:Cn (m+1) es2)(hb:(es.length+es2.length)*(cx.T e).bytes<=140737488355328)(hc:es.length+es2.length<=9223372036854775807)(hk:K (.slice (.id r (m+1)) (es++es2)) (AH h r (.tok (m+1) (es.length+es2.length)))):GH cx d h ty (.slice (.id r (m+1)) es) x K:=by
 have hq:Nat.beq (m+1) (m+1)=true:=CK _;unfold GH;rw[oH];rw[Dm]at hz;simp only[Dm,hz];refine hx _ ?_;simp only[hr,hq];exact⟨⟨hl,trivial,hb,hc⟩,hk⟩
theorem RV{d:Nat}{es2:List (List AV)}(oH:(cx.T ty).d=.slice e)(hz:Nat.beq (cx.T e).zc.length (cx.T e).size=true)(Dm:(cx.T e).size=m+1)(hx:∀K' : List (List AV)->Prop,K' es2->Il h x K')(hr:h (He cx d)=.free)(ha:M0 cx.pl.arr d=none)(hl:Cn (m+1) es2)(hb:es2.length*(cx.T e).bytes<=140737488355328)(hc:es2.length<=9223372036854775807)(hk:K (.slice (.id (He cx d) (m+1)) es2) (AH h (He cx d) (.tok (m+1) es2.length))):GH cx (some d) h ty nzA x K:=by
 unfold GH;rw[oH];rw[Dm]at hz;simp only[Dm,hz];refine hx _ ?_;refine⟨⟨Dm▸hl,hb,hc⟩,?_⟩;unfold Dv;simp only[hr,ha];exact hk
end Go.Eng
namespace Go.Eng
open Go.RowKit
section
variable {P:Program}
theorem Fq{f:Nat}{args:List AV}{res:AV}(vals:List Value)(v:Value)(hE:Enters P f)(ha:args=vals.map .v)(Zd:∀g w,Bo g w D2 res v)
  (h:∀w,(∃m,w.cell? ⟨gB,0,none⟩=some (.int .i64 m))->(∀x∈YS,w.cell? ⟨x.1,x.2.1,none⟩=x.2.2)->Calls P f vals.toArray w fun e w'=>e=.returned v/\Below w.heap.size w w'):IR P f args res:=by
 refine⟨hE,fun g w us hs hv hI=>?_⟩;have hu:us=vals.toArray:=by
  subst ha;rw[AO]at hs;refine Array.ext (by simpa using hs) fun i h1 h2=>?_
  have:=hv i (.v (vals[i]'(by simpa using h2))) us[i] (by rw[Ap,At (by simpa using h2)];rfl) (by rw[AY h1])
  rw[this.v_eq];simp
 subst hu;refine(h w hI.glob.1.2 fun x hx=>(hI.glob.2 x hx).2).mono ?_
 rintro e w' ⟨rfl,q⟩
 have hK:DO g w g w':=fun b o hb=>by
  have Dc:=hI.slt b o hb;exact⟨hb,by simp only[World.cell?,q.block b Dc],fun es ck he=>(q.block b Dc).trans he⟩
 refine⟨v,res,Ao,g,rfl,⟨rfl,rfl⟩,(Zd g _).up _,⟨q.os,q.tape,q.output,q.size,fun b hb _=>q.block b hb,fun b o hs=>CL (hI.slt b o hs) q.size,fun _=>trivial,fun _ _ _ h=>h.elim,fun _ _ h=>h.elim,fun b o hs=>.inl hs,hI.glob.keep hK⟩,⟨.refl _ _,fun _ h=>h,hK⟩⟩
end
end Go.Eng
namespace Go.Eng
section
variable {P:Program}{N:Nat}{ds:List Deferred}{n0 x:Nat}{w w' w1 w2:World}{g g' g1 g2:Gh}{h h' h1 h2:Nat->HO}
end
section
variable {P:Program}{N:Nat}{w:World}{g:Gh}
end
section
variable {P:Program}{N:Nat}{w:World}{g:Gh}
end
end Go.Eng
namespace Go.Eng
open Go.Sort
end Go.Eng
namespace Go.Eng
end Go.Eng
namespace Go.Eng
open Go.Proofs
variable {P:Program}
end Go.Eng
