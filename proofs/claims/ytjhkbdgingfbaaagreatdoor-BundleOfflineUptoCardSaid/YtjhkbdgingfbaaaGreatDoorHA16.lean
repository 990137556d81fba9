/- Lemmas 16. -/
import Derived.Test.YtjhkbdgingfbaaaGreatDoorHA15
import Derived.Sort.Grow
import Derived.Shelf.GgSortFunc.InsertionK
import Derived.Below
import Derived.RangeFuncLeaves
import Derived.RangeFuncNested
namespace Go.Eng
variable {args:List AV}{f:Nat}(vals:List Value)
section
variable {P:Program}
theorem gT {fn : Func}{c : Code}(hf : P.funcs[f]? = some fn)(hn : (fn.name == "runtime.NumGoroutine") = false)(hb : fn.body = some c) : GI P f := ⟨fn, hf, hn, by simp [hb]⟩
theorem J7{res:AV}(v:Value)(hE:GI P f)(ha:args=vals.map .v)(aj:∀g w,Br g w Fq res v)(h:∀w,(∃m,w.cell? ⟨gB,0,none⟩=some (.int .i64 m))->Calls P f vals.toArray w fun e w'=>e=.returned v/\w'=w):Lc P f args res:=by
 refine⟨hE,fun g w us hs hv hI=>?_⟩;have hu:us=vals.toArray:=by
  subst ha;rw[AS]at hs;refine Tn (by simpa using hs) fun i h1 h2=>?_
  have:=hv i (.v (vals[i]'(by simpa using h2))) us[i] (by rw[Aw,At (by simpa using h2)];rfl) (by rw[Bj h1])
  rw[this.v_eq];simp
 subst hu;refine(h w hI.glob.1.2).mono ?_
 rintro e w' ⟨rfl,rfl⟩
 exact⟨v,res,Ad,g,rfl,⟨rfl,rfl⟩,(aj g _).up _,hI,.refl _ _ _⟩
theorem U5{g:Gh}{w:World}:∀(vs:List Value),Br g w Fq (.tup (vs.map .v)) (.tuple vs.toArray):=fun vs=>
 .tup _ _ _ B0 fun i av x h1 h2=>by
  rw[Aw,AD]at h1;obtain⟨a,e1,rfl⟩:=h1
  have:vs[i]?=some x:=by simpa using h2
  rw[e1]at this;cases this;exact .v _ _
theorem WU(es:List Value)(T:TypeId)(hE:GI P f)(ha:args=vals.map .v)(h1:∀x∈es,x.oneCell'=true)(h:∀w,(∃m,w.cell? ⟨gB,0,none⟩=some (.int .i64 m))->Calls P f vals.toArray w fun e w'=>e=.returned (.slice (some ⟨w.heap.size,0,none⟩) es.length es.length)/\w'=w.alloc (.cells es.toArray T)) :
  Lc P f args (.slice .none (es.map fun x=>[.v x])):=by
 refine⟨hE,fun g w us hs hv hI=>?_⟩;have hu:us=vals.toArray:=by
  subst ha;rw[AS]at hs;refine Tn (by simpa using hs) fun i h1 h2=>?_
  have:=hv i (.v (vals[i]'(by simpa using h2))) us[i] (by rw[Aw,At (by simpa using h2)];rfl) (by rw[Bj h1])
  rw[this.v_eq];simp
 subst hu;refine(h w hI.glob.1.2).mono ?_
 rintro e w' ⟨rfl,rfl⟩
 have ER:(w.alloc (.cells es.toArray T)).heap[w.heap.size]?=some (.cells es.toArray T (0,0)):=Ho w _ rfl;have Ym:∀b,b<w.heap.size->(w.alloc (.cells es.toArray T)).heap[b]?=w.heap[b]?:=fun b hb=>heap_alloc_old _ _ hb;have hK:EV g w ⟨g.ρ,g.ln,g.tk,g.own,g.more w.heap.size es.length⟩ (w.alloc (.cells es.toArray T)):=fun b o hb=>by
  have Dx:=hI.slt b o hb;exact⟨.inl hb,by simp only[World.cell?,Ym b Dx],fun es ck he=>(Ym b Dx).trans he⟩
 refine⟨_,_,Ad,⟨g.ρ,g.ln,g.tk,g.own,g.more w.heap.size es.length⟩,rfl,⟨rfl,rfl⟩,?_,⟨rfl,rfl,rfl,?_,fun b hb _=>Ym b hb,fun b o hs=>?_,fun _=>trivial,fun _ _ _ h=>h.elim,fun _ _ h=>h.elim,fun b o hs=>?_,hI.glob.keep hK⟩,⟨.refl _ _,fun _ h=>h,hK⟩⟩
 .have hr:CJ ⟨g.ρ,g.ln,g.tk,g.own,g.more w.heap.size es.length⟩ (w.alloc (.cells es.toArray T)) Fq (es.map fun x=>[AV.v x]).flatten (es.toArray.toList.take ((es.map fun x=>[AV.v x]).length*1)):=by
   have hfl:∀l:List Value,(l.map fun x=>[AV.v x]).flatten=l.map .v:=fun l=>by
    induction l with
    |nil=>rfl
    |cons a l ih=>rw[AK,Bu,ih];rfl
   rw[hfl];simp only[AS,IX,CK];refine⟨by simp,fun x hx=>h1 x (by simpa using hx),fun i av x q1 q2=>?_⟩;rw[Aw,AD]at q1;obtain⟨a,e1,rfl⟩:=q1;rw[e1]at q2;cases q2;exact .v _ _
  have:=Br.slice_row (U:=AN Ad) (cap:=es.length) (sz:=1) (es:=es.map fun x=>[AV.v x]) ER (fun cs hcs=>by
   obtain⟨x,_,rfl⟩:=Ak.1 hcs;rfl) B0 hr (fun o ho=>.inr ⟨rfl,by simpa using ho⟩)
  simpa using this
 .rw[World.size_alloc];omega
 .rw[World.size_alloc];rcases hs with hs | ⟨rfl,_⟩
  .have:=hI.slt b o hs;omega
  .omega
 .rcases hs with hs | ⟨rfl,_⟩
  .exact .inl hs
  .exact .inr (.inl (Ai _))
end
end Go.Eng
namespace Go.Eng
open Go.Sort
section
variable {P:Program}
theorem Og(F c:Array Value)(h:F.size<=c.size):(putCells id 0 F c).toList.take F.size=F.toList/\(putCells id 0 F c).size=c.size:=by
 have hs:(putCells id 0 F c).size=c.size:=by simp[putCells]
 refine⟨?_,hs⟩;apply Cz;intro i;rw[Gn,AI,AI]
 by_cases hi:i<F.size
 .rw[As hi];have hi2:i<c.size:=by omega
  simp only[putCells,Array.getElem?_mapIdx,Bj hi2,Bj hi,HZ,AE,true_and,A7,hi,OD,Nat.sub_zero,id_eq];rw[E0 F i hi]
 .rw[Ah hi,K4 ch]
theorem Ug(r:Nat)(o o' : HO):AR (Ag [(r,o)] Ad) r o'=Ag [(r,o')] Ad:=by
 funext i
 by_cases e:i=r
 .subst e;rw[A3];simp[Ag]
 .rw[BR _ _ _ _ e];simp[Ag,B9 e]
theorem V3{f:Nat}{es:List (List AV)}{sz:Nat}{rest:List Value}{Q:List (List AV)->Prop}(hE:GI P f)
  (h0:es=[]->Q []/\∀w,Calls P f (#[.slice none 0 0]++rest.toArray) w fun e w'=>e=.returned (.tuple #[])/\w'=w)
  (h1:∀(g:Gh) (w:World) (b cap:Nat) (F:Array Value),CJ g w Fq es.flatten F.toList->F.size=es.length*sz->Holds id w b 0 F->b<w.heap.size->Calls P f (#[.slice (some ⟨b,0,none⟩) es.length cap]++rest.toArray) w fun e w'=>
   e=.returned (.tuple #[])/\∃(F' : Array Value) (Gm : List (List AV)) (n:Nat) (os:Array Obj),F'.size=F.size/\Q Gm/\Gm.length=es.length/\(∀cs∈Gm,cs.length=sz) /\
    (∀(g:Gh) (w:World),CJ g w Fq es.flatten F.toList->CJ g w Fq Gm.flatten F'.toList)/\w'=grow (putRow id (Sort.ahead w n) b 0 F') os) :
  Bb P f (.msl 1000 es.length::rest.map .v) (Ag [(1000,.arr sz es)] Ad) fun r h'=>r=.tup []/\∃Gm,Q Gm/\h'=Ag [(1000,.arr sz Gm)] Ad:=by
 refine⟨hE,fun g w us hs hv hI=>?_⟩;have ho:=hI.objs 1000;have he:Ag [(1000,HO.arr sz es)] Ad 1000=.arr sz es:=rfl;rw[he]at ho;obtain⟨t1,l1,al,a2⟩:=ho;simp only[Al,AS]at hs
 -- the arguments
 have hu0:0<us.size:=by omega
 have SH:=hv 0 (.msl 1000 es.length) us[0] rfl (Bj hu0);have Kj:us[0]=g.ρ 1000:=by
  generalize us[0]=x at SH;cases SH with
  |msl _ r n a cap hu ht hn ha hx=>exact hx l1.symm
 have L9:us=#[g.ρ 1000]++rest.toArray:=by
  refine Tn (by simp;omega) fun i h1 h2=>?_;cases i with
  |zero=>rw[Kj];simp
  |succ i=>
   have hi:i<rest.length:=by omega
   have:=hv (i+1) (.v rest[i]) us[i+1] (by simp[List.getElem?_eq_getElem hi]) (Bj h1)
   rw[this.v_eq];simp
 rw[L9];rcases a2 with ⟨b1,b2,b3⟩ | ⟨b,cap,E,vs,b1,b2,b3,b4,b5,b6,b7⟩
 .subst b1;obtain⟨q,h0⟩:=h0 rfl;rw[b2];refine(h0 w).mono ?_
  rintro e w' ⟨rfl,rfl⟩
  exact⟨_,.tup [],_,g,rfl,⟨rfl,[],q,rfl⟩,.tup _ _ _ rfl (fun i av x h=>by simp at h),hI,.refl _ _ _⟩
 .have hl:(Ag [(1000,HO.arr sz es)] Ad 1000).live:=trivial;have Dx:=(hI.loc 1000 b hl b2).1;have Hp:es.length*sz<=vs.size:=by rw[b5];exact Bh _ b3
  have hF:((vs.toList.take (es.length*sz)).toArray).size=es.length*sz:=by simp;omega
  have hH:Holds id w b 0 (vs.toList.take (es.length*sz)).toArray:=fun j hj=>by
   have hj:j<es.length*sz:=by rw[hF]at hj;exact hj
   refine⟨?_,?_⟩
   .have xS:j<vs.size:=by omega
    simp only[World.cell?,b4,A7,Pa,CM,FZ];rw[Bj xS,E0 _ j (by rw[hF];exact hj)];simp
   .simp[World.frozen?,b4]
  rw[b1];refine(h1 g w b cap _ (by simpa using b6) hF hH Dx).mono ?_
  rintro e w' ⟨rfl,F',Gm,n,os,f1,f2,f3,f4,f5,rfl⟩
  have vB : F'.size=es.length*sz:=f1.trans hF;have yh:=Og F' vs ch;have oP : (grow (putRow id (Sort.ahead w n) b 0 F') os).heap[b]?=some (.cells (putCells id 0 F' vs) E (0,0)):=by
   rw[heap_grow_old _ _ (by rw[size_putRow];exact Dx)];show(w.heap.modify b (onCells (putCells id 0 F')))[b]?=_;rw[Array.getElem?_modify,As rfl,b4];rfl
  have af:∀k,k<w.heap.size->k≠b->(grow (putRow id (Sort.ahead w n) b 0 F') os).heap[k]?=w.heap[k]?:=fun k hk Dv=>by
   rw[heap_grow_old _ _ (by rw[size_putRow];exact hk)];simp[putRow,mapBlock,Array.getElem?_modify,Ne.symm Dv]
  have D5:w.heap.size<=(grow (putRow id (Sort.ahead w n) b 0 F') os).heap.size:=by rw[size_grow,size_putRow];show w.heap.size<=w.heap.size+_;omega
  obtain⟨k1,k2⟩:=hI.upd 1000 (.arr sz Gm) (g.ρ 1000) (g.ln 1000) (g.tk 1000) (g.own 1000) g.S (grow (putRow id (Sort.ahead w n) b 0 F') os) (some b) ⟨rfl,rfl,rfl,D5⟩
   (fun k hk Dv=>af k hk (fun e=>Dv (by rw[e]))) (fun b' e=>by cases e;exact⟨hl,b2⟩) (fun _ _ h=>h) (fun _ _ h=>.inl h) (fun b' o e hs=>by cases e;exact absurd hs (b7 o))
   (fun b' _ e=>by rw[b2]at e;cases e;exact⟨Bx Dx D5,.inl ⟨hl,b2⟩⟩) B0 (fun _=>⟨rfl,Ai _,fun _=>rfl,fun _=>rfl⟩) (fun hg hk=>by
    refine⟨by simp[Gh.upd,t1],by simp[Gh.upd,l1,f3],f4,.inr ⟨b,cap,E,_,by simp[Gh.upd,b1,f3],by simp[Gh.upd,b2],by omega,oP,by rw[yh.2,b5],?_,b7⟩⟩
    have:=f5 g w (by simpa using b6)
    rw[f3,<-vB,yh.1];exact this.mono hk (fun _ h=>h) (fun _ h=>h.elim))
  rw[Ug]at k1 k2;exact⟨_,.tup [],_,_,rfl,⟨rfl,Gm,f2,rfl⟩,.tup _ _ _ rfl (fun i av x h=>by simp at h),k1,k2⟩
end
end Go.Eng
namespace Go.Eng
open Go.Sort Go.Proofs
variable {α β:Type}{k:Nat}
theorem Ss{g:Gh}{w:World}{U:Nat->Prop}{cs cp : List AV}{vs kr : List Value}(h:vs.length=cs.length):CJ g w U (cs++cp) (vs++kr)↔CJ g w U cs vs/\CJ g w U cp kr:=by
 constructor
 .intro⟨h1,h2,h3⟩;refine⟨⟨h,fun x hx=>h2 x (Bn _ hx),fun i av x q1 q2=>?_⟩,⟨by simp at h1;omega,fun x hx=>h2 x (Bg _ hx),fun i av x q1 q2=>?_⟩⟩
  .have a1:=(Ar.1 q1).1;have a2:=(Ar.1 q2).1;exact h3 i av x (by rw[AU a1];exact q1) (by rw[AU a2];exact q2)
  .exact h3 (cs.length+i) av x (by rw[A0 ch,Hg];exact q1) (by rw[A0 ch,h,Hg];exact q2)
 .intro⟨⟨h1,h2,h3⟩,k1,k2,k3⟩;refine⟨by simp[h1,k1],fun x hx=>(AT.1 hx).elim (h2 x) (k2 x),fun i av x q1 q2=>?_⟩
  by_cases hi:i<cs.length
  .rw[AU hi]at q1;rw[AU ch]at q2;exact h3 i av x q1 q2
  .rw[A0 ch]at q1;rw[A0 ch]at q2;rw[h]at q2;exact k3 _ av x q1 q2
theorem Rp{α β:Type}{g:Gh}{w:World}{U:Nat->Prop}{Jg:β->List AV}{enc:α->List Value}(hl:∀x y,(enc x).length=(Jg y).length):∀ps:List (β×α),
  CJ g w U (ps.map fun p=>Jg p.1).flatten (ps.map fun p=>enc p.2).flatten↔∀p∈ps,CJ g w U (Jg p.1) (enc p.2)
 | []=>by simp[CJ]
 |p::ps=>by
  simp only[AK,Bu];rw[Ss (hl _ _),Rp hl ps];simp
theorem Ni{f:α->β}:∀{m m' : List β},m.Perm m'->∀ps:List α,ps.map f=m->∃nJ : List α,nJ.Perm ps/\nJ.map f=m':=by
 intro m m' h
 induction h with
 |nil=>intro ps e;exact⟨ps,.refl _,e⟩
 |cons x h ih=>
  intro ps e;cases ps with
  |nil=>cases e
  |cons p ps=>
   rw[AK]at e
   injection e with e1 e2
   obtain⟨nJ,h1,h2⟩:=ih ps e2;exact⟨p::nJ,h1.cons p,by rw[AK,e1,h2]⟩
 |swap x y l=>
  intro ps e
  match ps,e with
  |p::q::ps,e=>
   simp only[AK,Eu]at e;exact⟨q::p::ps,List.Perm.swap _ _ _,by simp[e.1,e.2.1,e.2.2]⟩
 |trans h1 h2 ih1 ih2=>
  intro ps e;obtain⟨ps1,p1,p2⟩:=ih1 ps e;obtain⟨ps2,q1,q2⟩:=ih2 ps1 p2;exact⟨ps2,q1.trans p1,q2⟩
theorem T7[Inhabited α]{enc:α->List Value}(hk:∀x,(enc x).length=k)(d:Array α):(flatK enc k d).toList=(d.toList.map enc).flatten:=by
 have hl:∀cs∈d.toList.map enc,cs.length=k:=fun cs hcs=>by
  obtain⟨x,_,rfl⟩:=Ak.1 hcs;exact hk x
 have Ca:(d.toList.map enc).flatten.length=d.size*k:=by
  have:∀l:List α,(l.map enc).flatten.length=l.length*k:=fun l=>by
   induction l with
   |nil=>simp
   |cons a l ih=>simp[hk,Nat.succ_mul,ih];omega
  rw[this];simp
 apply Cz;intro t
 by_cases ht:t<d.size*k
 .have k0:0<k:=Nat.pos_of_ne_zero fun h=>by subst h;simp at ht
  have h1:t / k<d.size:=by rw[Mp k0];exact ht
  have h2:t % k<k:=Nat.mod_lt _ k0;have e:t=t / k*k+t % k:=by rw[Nat.mul_comm];exact(VZ t k).symm
  rw[AI,Bj (by simpa using ht),<-E0 _ t (by simpa using ht),get_flatK _ _ _ _ ht];have hg:(d.toList.map enc)[t / k]?=some (enc d[t / k]!):=by
   rw[Aw,AI,Bj h1,E0 d _ h1];rfl
  have:=FB hl hg h2
  rw[e,this,<-e];rw[At (by rw[hk];exact h2),E0 _ _ (by rw[hk];exact h2)]
 .rw[AQ (by simp;omega),AQ ch]
theorem zip_fst{α β:Type}:∀{l:List α} {m:List β},l.length=m.length->(l.zip m).map (·.1)=l/\(l.zip m).map (·.2)=m
 | [],[],_=>⟨rfl,rfl⟩
 |a::l,b::m,h=>by
  have:=zip_fst (l:=l) (m:=m) (by simpa using h)
  simp[this.1,this.2]
section
variable {P:Program}
theorem JQ[Inhabited α]{f:Nat}{rest:List Value}(hE:GI P f)(Jg:β->List AV)(enc:α->List Value)(hB:∀x,(Jg x).length=k)(hk:∀x,(enc x).length=k)(lt:α->α->Bool)(R:β->α->Prop)(l:List β)(hl:l.length<4611686018427387904)(hR:∀x∈l,∀(g:Gh) (w:World) (vs:List Value),CJ g w Fq (Jg x) vs->∃a,enc a=vs/\R x a)(CQ:∀(w:World) (b cap:Nat) (d:Array α),HoldsK enc k w b 0 d->b<w.heap.size->d.size<4611686018427387904->d.size=l.length->Calls P f (#[.slice (some ⟨b,0,none⟩) d.size cap]++rest.toArray) w fun e w'=>
   e=.returned (.tuple #[])/\∃d' n os,PermIn 0 d.size d d'/\SortedIn lt 0 d.size d'/\w'=sortWorldK enc k w b 0 n d' os)(x9:l=[]->∀w:World,Calls P f (#[.slice none 0 0]++rest.toArray) w fun e w'=>e=.returned (.tuple #[])/\w'=w) :
  Bb P f (.msl 1000 l.length::rest.map .v) (Ag [(1000,.arr k (l.map Jg))] Ad) fun r h'=>
   r=.tup []/\∃l' : List β,l'.Perm l/\(∃al:List α,al.length=l'.length/\(∀(i:Nat) (x:β) (a:α),l'[i]?=some x->al[i]?=some a->R x a)/\al.Pairwise (fun x y=>lt y x=false))/\h'=Ag [(1000,.arr k (l'.map Jg))] Ad:=by
 have Kw:=V3 (P:=P) (f:=f) (es:=l.map Jg) (sz:=k) (rest:=rest)
  (Q:=fun Gm=>∃l' : List β,l'.Perm l/\(∃al:List α,al.length=l'.length/\(∀(i:Nat) (x:β) (a:α),l'[i]?=some x->al[i]?=some a->R x a)/\al.Pairwise (fun x y=>lt y x=false))/\Gm=l'.map Jg) hE ?_ ?_
 .rw[AS]at Kw;refine⟨hE,fun g w vals q1 q2 q3=>(Kw.2 g w vals q1 q2 q3).mono fun _ _ ⟨v,r,h',g',e1,⟨e2,Gm,⟨l',p1,p2,p3⟩,p4⟩,rest⟩=>⟨v,r,h',g',e1,⟨e2,l',p1,p2,by rw[p4,p3]⟩,rest⟩⟩
 .intro e
  have:l=[]:=by simpa using e
  subst this;exact⟨⟨[],.refl _,⟨[],rfl,fun i x a h=>by simp at h,.nil⟩,rfl⟩,x9 rfl⟩
 .intro g w b cap F hr hF hH hb
  -- the elements in memory
  have ub:∀(m:List β) (vs:List Value),(∀x∈m,x∈l)->CJ g w Fq (m.map Jg).flatten vs->∃al:List α,al.length=m.length/\vs=(al.map enc).flatten/\∀(i:Nat) (x:β) (a:α),m[i]?=some x->al[i]?=some a->R x a:=by
   intro m
   induction m with
   |nil=>
    intro vs _ h
    have:vs=[]:=AL (by simpa using h.1)
    subst this;exact⟨[],rfl,rfl,fun i x a h=>by simp at h⟩
   |cons x m ih=>
    intro vs hm h;rw[AK,Bu]at h;have Ca:=h.1;rw[Ac,hB]at Ca;have e:vs=vs.take k++vs.drop k:=(Fi k vs).symm;rw[e]at h;rw[Ss (by rw[AA,hB];omega)]at h;obtain⟨a,a1,a2⟩:=hR x (hm x (Ab ..)) g w _ h.1;obtain⟨al,b1,b2,b3⟩:=ih _ (fun y hy=>hm y (Ae _ hy)) h.2;refine⟨a::al,by simp[b1],by rw[AK,Bu,a1,<-b2,<-e],fun i y c q1 q2=>?_⟩;cases i with
    |zero=>simp only[A4,Bk]at q1 q2;subst q1;subst q2;exact a2
    |succ i=>exact b3 i y c (by simpa using q1) (by simpa using q2)
  obtain⟨al,s1,s2,s3⟩:=ub l F.toList (fun _ h=>h) hr;have hFd:F=flatK enc k al.toArray:=Jb.1 (by rw[T7 hk,s2]);have hd:HoldsK enc k w b 0 al.toArray:=by unfold HoldsK;rw[<-hFd];exact hH
  have hc:=CQ w b cap al.toArray hd hb (by simpa[s1]using hl) (by simp[s1]);have D5:al.toArray.size=(l.map Jg).length:=by simp[s1]
  rw[D5]at hc;refine hc.mono ?_
  rintro e w' ⟨rfl,d',n,os,p1,p2,rfl⟩
  obtain⟨z1,z2⟩:=zip_fst s1.symm;obtain⟨mw,_,Kx⟩:=p1;have mw : d'.size=al.length:=by rw[mw];simp
  have e1:d'.extract 0 (l.map Jg).length=d':=by rw[show(l.map Jg).length=d'.size by rw[mw];simp[s1]];exact Array.extract_size
  have e2:al.toArray.extract 0 (l.map Jg).length=al.toArray:=by rw[<-D5];exact Array.extract_size
  rw[e1,e2]at Kx;have Kx:al.Perm d'.toList:=by
   first
   |exact Kx.symm
   |exact Kx
   |(have:=Kx.symm;simpa using this)
  obtain⟨nJ,r1,r2⟩:=Ni Kx (l.zip al) z2;have rel:∀p∈l.zip al,R p.1 p.2:=fun p hp=>by
   obtain⟨i,hi⟩:=Cg.1 hp;rw[List.getElem?_zip_eq_some]at hi;exact s3 i _ _ hi.1 hi.2
  refine⟨rfl,flatK enc k d',(nJ.map (·.1)).map Jg,n,os,by rw[size_flatK,mw,hF];simp[s1],⟨nJ.map (·.1),?_,⟨d'.toList,by rw[<-r2];simp,fun i x a q1 q2=>?_,?_⟩,rfl⟩,by have:=r1.length_eq;simp[this,s1],fun cs hcs=>?_,fun g w hr=>?_,?_⟩
  .have:=r1.map (·.1);rw[z1]at this;exact this
  .rw[<-r2]at q2;rw[Aw,AD]at q1 q2;obtain⟨p,q1,rfl⟩:=q1;obtain⟨p',q2,rfl⟩:=q2;rw[q1]at q2;cases q2;exact rel p (r1.mem_iff.1 (Av q1))
  .rw[A8];intro i j hi hj QM;have MJ : i<d'.size:=by simpa using hi
   have tT : j<d'.size:=by simpa using hj
   have:=p2 i j (AE _) QM (by rw[mw]at tT;simp[s1]at tT⊢;omega)
   rw[E0 d' j tT,E0 d' i MJ]at this;simpa using this
  .obtain⟨x,_,rfl⟩:=Ak.1 hcs;exact hB x
  .have h1:CJ g w Fq ((l.zip al).map fun p=>Jg p.1).flatten ((l.zip al).map fun p=>enc p.2).flatten:=by
    have a1:(l.zip al).map (fun p=>Jg p.1)=l.map Jg:=by
     have:(l.zip al).map (fun p=>Jg p.1)=((l.zip al).map (·.1)).map Jg:=by rw[Bw];rfl
     rw[this,z1]
    have a2:(l.zip al).map (fun p=>enc p.2)=al.map enc:=by
     have:(l.zip al).map (fun p=>enc p.2)=((l.zip al).map (·.2)).map enc:=by rw[Bw];rfl
     rw[this,z2]
    rw[a1,a2,<-s2];exact hr
   have Ca:∀(x:α) (y:β),(enc x).length=(Jg y).length:=fun x y=>by rw[hk,hB]
   rw[Rp Ca]at h1;have h2:=(Rp (g:=g) (w:=w) (U:=Fq) Ca nJ).2 fun p hp=>h1 p (r1.mem_iff.1 hp);have b1:(nJ.map (·.1)).map Jg=nJ.map fun p=>Jg p.1:=by rw[Bw];rfl
   have b2:(flatK enc k d').toList=(nJ.map fun p=>enc p.2).flatten:=by
    rw[T7 hk,<-r2,Bw];rfl
   rw[b1,b2];exact h2
  .rfl
end
end Go.Eng
namespace Go.Eng
section
variable {P:Program}
theorem Cm{f:Nat}{fn:Func}{c:Code}{args:List AV}{H0:List (Nat×HO)}{Q:AV->(Nat->HO)->Prop}(cx:Cx)(σ:HU)(hP:cx.P=P)(hT:Ci P cx.T)(hm:P.follows .mixedOrders=true)(hx:cx.ext=true)(hf:P.funcs[f]?=some fn)
  (hn : (fn.name == "runtime.NumGoroutine") = false) (hb : fn.body = some c) (hN : args.length <= fn.ntmps) (hc : DJ fn.ntmps c = true) (hσ : (E4 σ && FH σ H0) = true)
  (hk:NZ cx c (VH cx fn.results.toList σ fun r h'=>∃r',EY r r'/\Q r' h') ⟨MD args,Ag H0 Ad⟩) (hY:∀l σ g w,cx.yp l σ g w:=by exact fun _ _ _ _=>trivial):Bb P f args (Ag H0 Ad) Q:=
 (lW cx σ hP hT hm hx hf hn hb hN hc hσ hk hY).mono fun _ _ ⟨r',s,q⟩=>⟨r',s,q⟩
end
end Go.Eng
namespace Go.Eng
open Go.Sort
theorem CJ.append{g:Gh}{w:World}{U:Nat->Prop}{VD bs:List AV}{xs ys:List Value}(h:CJ g w U VD xs)(k:CJ g w U bs ys):CJ g w U (VD++bs) (xs++ys):=by
 refine⟨by rw[Ac,Ac,h.1,k.1],fun x hx=>?_,fun i av x q1 q2=>?_⟩
 .rcases AT.1 hx with hx | hx
  .exact h.2.1 x hx
  .exact k.2.1 x hx
 .have hl:=h.1
  by_cases hi:i<VD.length
  .rw[AU hi]at q1;rw[AU ch]at q2;exact h.2.2 i av x q1 q2
  .rw[A0 ch]at q1;rw[A0 ch,hl]at q2;exact k.2.2 _ av x q1 q2
theorem CJ.take{g:Gh}{w:World}{U:Nat->Prop}{VD:List AV}{xs:List Value}(h:CJ g w U VD xs)(k:Nat):CJ g w U (VD.take k) (xs.take k):=by
 refine⟨by rw[AA,AA,h.1],fun x hx=>h.2.1 x (DG hx),fun i av x q1 q2=>?_⟩;rw[Gn]at q1 q2;split at q1
 .rename_i hi;rw[As hi]at q2;exact h.2.2 i av x q1 q2
 .cases q1
theorem CJ.drop{g:Gh}{w:World}{U:Nat->Prop}{VD:List AV}{xs:List Value}(h:CJ g w U VD xs)(k:Nat):CJ g w U (VD.drop k) (xs.drop k):=by
 refine⟨by rw[DP,DP,h.1],fun x hx=>h.2.1 x (IV hx),fun i av x q1 q2=>?_⟩;rw[CA]at q1 q2;exact h.2.2 _ av x q1 q2
theorem L5{α:Type}{k:Nat}:∀(es:List (List α)) (i:Nat),(∀e∈es,e.length=k)->es.flatten.take (i*k)=(es.take i).flatten
 | [],i,_=>by simp
 |e::es,0,_=>by simp
 |e::es,i+1,h=>by
  have he:=h e (Ab ..);rw[Bu,Jy,Bu,List.take_append,<-L5 es i fun x hx=>h x (Ae _ hx),AB (by rw[he,Ec];omega),he,show(i+1)*k-k=i*k by rw[Ec];omega]
theorem Py{α:Type}{k:Nat}:∀(es:List (List α)) (i:Nat),(∀e∈es,e.length=k)->es.flatten.drop (i*k)=(es.drop i).flatten
 | [],i,_=>by simp
 |e::es,0,_=>by simp
 |e::es,i+1,h=>by
  have he:=h e (Ab ..);rw[Bu,List.drop_succ_cons,List.drop_append,<-Py es i fun x hx=>h x (Ae _ hx),EW (by rw[he,Ec];omega),he,show(i+1)*k-k=i*k by rw[Ec];omega,E7]
section
variable {P:Program}
theorem fY{f:Nat}{es:List (List AV)}{sz:Nat}{rest:List Value}{n' : Nat}{Q:List (List AV)->Prop}(hE:GI P f)(Dv:es≠[])(ae : n'<=es.length)
  (h1:∀(g:Gh) (w:World) (b cap:Nat) (F:Array Value),CJ g w Fq es.flatten F.toList->F.size=es.length*sz->Holds id w b 0 F->b<w.heap.size->es.length<=cap->Calls P f (#[.slice (some ⟨b,0,none⟩) es.length cap]++rest.toArray) w fun e w'=>
   e=.returned (.slice (some ⟨b,0,none⟩) n' cap)/\∃(F' : Array Value) (Gm : List (List AV)) (n:Nat) (os:Array Obj),F'.size=F.size/\Q Gm/\Gm.length=es.length/\(∀cs∈Gm,cs.length=sz) /\
    (∀(g:Gh) (w:World),CJ g w Fq es.flatten F.toList->CJ g w Fq Gm.flatten F'.toList)/\w'=grow (putRow id (Sort.ahead w n) b 0 F') os) :
  Bb P f (.msl 1000 es.length::rest.map .v) (Ag [(1000,.arr sz es)] Ad) fun r h'=>r=.msl 2000 n'/\∃Gm,Q Gm/\h'=Ag [(1000,.dead),(2000,.arr sz (Gm.take n'))] Ad:=by
 refine⟨hE,fun g w us hs hv hI=>?_⟩;have ho:=hI.objs 1000;have he:Ag [(1000,HO.arr sz es)] Ad 1000=.arr sz es:=rfl;rw[he]at ho;obtain⟨t1,l1,al,a2⟩:=ho;simp only[Al,AS]at hs;have hu0:0<us.size:=by omega
 have SH:=hv 0 (.msl 1000 es.length) us[0] rfl (Bj hu0);have Kj:us[0]=g.ρ 1000:=by
  generalize us[0]=x at SH;cases SH with
  |msl _ r n a cap hu ht hn ha hx=>exact hx l1.symm
 have L9:us=#[g.ρ 1000]++rest.toArray:=by
  refine Tn (by simp;omega) fun i h1 h2=>?_;cases i with
  |zero=>rw[Kj];simp
  |succ i=>
   have hi:i<rest.length:=by omega
   have:=hv (i+1) (.v rest[i]) us[i+1] (by simp[List.getElem?_eq_getElem hi]) (Bj h1)
   rw[this.v_eq];simp
 rw[L9];rcases a2 with ⟨b1,b2,b3⟩ | ⟨b,cap,E,vs,b1,b2,b3,b4,b5,b6,b7⟩
 .exact absurd b1 Dv
 .have hl:(Ag [(1000,HO.arr sz es)] Ad 1000).live:=trivial;have Dx:=(hI.loc 1000 b hl b2).1;have Hp:es.length*sz<=vs.size:=by rw[b5];exact Bh _ b3
  have hF:((vs.toList.take (es.length*sz)).toArray).size=es.length*sz:=by simp;omega
  have hH:Holds id w b 0 (vs.toList.take (es.length*sz)).toArray:=fun j hj=>by
   have hj:j<es.length*sz:=by rw[hF]at hj;exact hj
   refine⟨?_,?_⟩
   .have xS:j<vs.size:=by omega
    simp only[World.cell?,b4,A7,Pa,CM,FZ];rw[Bj xS,E0 _ j (by rw[hF];exact hj)];simp
   .simp[World.frozen?,b4]
  rw[b1];refine(h1 g w b cap _ (by simpa using b6) hF hH Dx b3).mono ?_
  rintro e w' ⟨rfl,F',Gm,n,os,f1,f2,f3,f4,f5,rfl⟩
  have vB : F'.size=es.length*sz:=f1.trans hF;have yh:=Og F' vs ch;have oP : (grow (putRow id (Sort.ahead w n) b 0 F') os).heap[b]?=some (.cells (putCells id 0 F' vs) E (0,0)):=by
   rw[heap_grow_old _ _ (by rw[size_putRow];exact Dx)];show(w.heap.modify b (onCells (putCells id 0 F')))[b]?=_;rw[Array.getElem?_modify,As rfl,b4];rfl
  have af:∀k,k<w.heap.size->k≠b->(grow (putRow id (Sort.ahead w n) b 0 F') os).heap[k]?=w.heap[k]?:=fun k hk Dv=>by
   rw[heap_grow_old _ _ (by rw[size_putRow];exact hk)];simp[putRow,mapBlock,Array.getElem?_modify,Ne.symm Dv]
  have D5:w.heap.size<=(grow (putRow id (Sort.ahead w n) b 0 F') os).heap.size:=by rw[size_grow,size_putRow];show w.heap.size<=w.heap.size+_;omega
  obtain⟨k1,k2⟩:=hI.upd 1000 (.arr sz Gm) (g.ρ 1000) (g.ln 1000) (g.tk 1000) (g.own 1000) g.S (grow (putRow id (Sort.ahead w n) b 0 F') os) (some b) ⟨rfl,rfl,rfl,D5⟩
   (fun k hk Dv=>af k hk (fun e=>Dv (by rw[e]))) (fun b' e=>by cases e;exact⟨hl,b2⟩) (fun _ _ h=>h) (fun _ _ h=>.inl h) (fun b' o e hs=>by cases e;exact absurd hs (b7 o))
   (fun b' _ e=>by rw[b2]at e;cases e;exact⟨Bx Dx D5,.inl ⟨hl,b2⟩⟩) B0 (fun _=>⟨rfl,Ai _,fun _=>rfl,fun _=>rfl⟩) (fun hg hk=>by
    refine⟨by simp[Gh.upd,t1],by simp[Gh.upd,l1,f3],f4,.inr ⟨b,cap,E,_,by simp[Gh.upd,b1,f3],by simp[Gh.upd,b2],by omega,oP,by rw[yh.2,b5],?_,b7⟩⟩
    have:=f5 g w (by simpa using b6)
    rw[f3,<-vB,yh.1];exact this.mono hk (fun _ h=>h) (fun _ h=>h.elim))
  rw[Ug]at k1 k2;generalize VK : g.upd 1000 (g.ρ 1000) (g.ln 1000) (g.tk 1000) (g.own 1000) g.S=g' at k1 k2;have rT : g'.own 1000=some b:=by rw[<-VK];simp[Gh.upd,b2]
  have ya:=k1.objs 1000;have oT:Ag [(1000,HO.arr sz Gm)] Ad 1000=.arr sz Gm:=rfl;rw[oT]at ya;obtain⟨m1,m2,m3,m4⟩:=ya;have hρ:g'.ρ 1000=.slice (some ⟨b,0,none⟩) es.length cap:=by rw[<-VK];simp[Gh.upd,b1]
  have cJ : Gm≠[]:=fun e=>Dv (AL (by rw[<-f3,e];rfl));rcases m4 with ⟨m4,_⟩ | ⟨b',Ln,E',kr,c1,c2,c3,c4,c5,c6,c7⟩
  .exact absurd m4 cJ
  .rw[hρ]at c1;simp only[Value.slice.injEq,Bk,Addr.mk.injEq,Tw]at c1;obtain⟨c1a,c1b,c1c⟩:=c1;subst c1a;subst c1c;have ml : (Gm.take n').length=n':=by rw[AA];omega
   obtain⟨k3,k4⟩:=k1.move 1000 2000 Cl rfl trivial rT (.arr sz (Gm.take n')) (.slice (some ⟨b,0,none⟩) n' cap) n' true B0 (fun hk=>by
    refine⟨by simp[Gh.upd],by simp[Gh.upd,ml],fun cs hcs=>m3 cs (DG hcs),.inr ⟨b,cap,E',kr,by simp[Gh.upd,ml],by simp[Gh.upd],by omega,c4,c5,?_,c7⟩⟩
    have:=(c6.mono hk (fun _ h=>h) (fun _ h=>h.elim)).take (n'*sz)
    rw[L5 Gm n' m3,La,Nat.min_eq_left (Bh _ ch)]at this;rw[ml];exact this)
   have xN:AR (AR (Ag [(1000,HO.arr sz Gm)] Ad) 1000 .dead) 2000 (.arr sz (Gm.take n'))=Ag [(1000,.dead),(2000,.arr sz (Gm.take n'))] Ad:=by
    funext i
    by_cases e1:i=2000
    .subst e1;rw[A3];rfl
    .rw[BR _ _ _ _ e1]
     by_cases e2:i=1000
     .subst e2;rw[A3];rfl
     .rw[BR _ _ _ _ e2];simp[Ag,B9 e1,B9 e2]
   rw[xN]at k3 k4;exact⟨_,.msl 2000 n',_,_,rfl,⟨rfl,Gm,f2,rfl⟩,.msl _ 2000 n' (some ⟨b,0,none⟩) cap (by intro c;cases c) (by simp[Gh.upd]) (by simp[Gh.upd]) (.inr ⟨b,rfl⟩) (fun _=>by simp[Gh.upd]),k3,k2.trans k4⟩
end
end Go.Eng
namespace Go.Eng
variable {h:Nat->HO}{r ty e m:Nat}{cx:Cx}{x:AV}{K:HK}
def lC(a b:FJ):Bool:=
 (match a.2 with | some r=>!Jl b.1 r | none=>true)&&(match b.2 with | some r=>!Jl a.1 r | none=>true)
def Qw(ops:Array Oper)(oi:Oper)(fi:FJ)(D:List Nat)(k:Nat):List Oper->List FJ->Bool
 |o::r,f::fs=>(Jl D k||(oi.apart ops o&&lC fi f))&&Qw ops oi fi D (k+1) r fs
 | [],[]=>true
 |_,_=>false
def Wo(ops:Array Oper)(all:List Oper)(k:Nat):List Oper->List FJ->Bool
 |o::r,f::fs=>
  let D:=QE k [] 0 all
  (o.after.toList.all fun e=>!Region.binds .any e||Nat.blt e.on k)&&Vh k D 0 all&&(D.all fun j=>Nat.blt k j&&Nat.blt j all.length)&&Qw ops o f D (k+1) r fs&&Wo ops all (k+1) r fs
 | [],[]=>true
 |_,_=>false
def d7(ops:Array Oper)(fs:List FJ):Bool:=Region.noSelect ops&&Wo ops ops.toList 0 ops.toList fs
def Rv(f:FJ):Prop:=∀r,f.2=some r->r<10000000
def Tj:List FJ->Prop
 | []=>True
 |f::r=>Rv f/\Tj r
theorem A1(l:List Nat):Rv (l,none):=fun _ h=>by cases h
theorem El{l:List Nat}(h:r<10000000):Rv (l,some r):=fun _ e=>by cases e;exact h
theorem lD{a b:FJ}(ha:Rv a)(hb:Rv b)(h:lC a b=true):TT a b=true:=by
 obtain⟨a1,a2⟩:=a;obtain⟨b1,b2⟩:=b;unfold lC at h;unfold TT;rw[Af]at h⊢;refine⟨?_,?_⟩
 .cases a2 with
  |none=>rfl
  |some r=>
   have h1:(!Jl b1 r)=true:=h.1;show bc b1 r=true;unfold bc;rw[B9 (show r≠XH by have:=ha r rfl;unfold XH;omega),Eh,h1,show Nat.blt r 10000000=true by rw[Cr];exact ha r rfl];rfl
 .cases b2 with
  |none=>rfl
  |some r=>
   have h1:(!Jl a1 r)=true:=h.2;show bc a1 r=true;unfold bc;rw[B9 (show r≠XH by have:=hb r rfl;unfold XH;omega),Eh,h1,show Nat.blt r 10000000=true by rw[Cr];exact hb r rfl];rfl
theorem V6{ops:Array Oper}{oi:Oper}{fi:FJ}{D:List Nat}(hi:Rv fi):∀{l:List Oper} {fs:List FJ} {k:Nat},Tj fs->Qw ops oi fi D k l fs=true->IZ ops oi fi D k l fs=true
 | [],[],_,_,h=>h
 |o::r,f::fs,k,hs,h=>by
  unfold Qw at h;unfold IZ;rw[Af,CD,Af]at h⊢;exact⟨h.1.imp id (fun q=>⟨q.1,lD hi hs.1 q.2⟩),V6 hi hs.2 h.2⟩
 | [],_::_,_,_,h=>by simp[Qw]at h
 |_::_,[],_,_,h=>by simp[Qw]at h
theorem Zv{ops:Array Oper}{all:List Oper}:∀{l:List Oper} {fs:List FJ} {k:Nat},Tj fs->Wo ops all k l fs=true->MS ops all k l fs=true
 | [],[],_,_,h=>h
 |o::r,f::fs,k,hs,h=>by
  unfold Wo at h;unfold MS;simp only[Af]at h⊢;exact⟨⟨h.1.1,V6 hs.1 hs.2 h.1.2⟩,Zv hs.2 h.2⟩
 | [],_::_,_,_,h=>by simp[Wo]at h
 |_::_,[],_,_,h=>by simp[Wo]at h
theorem JC{ops:Array Oper}{fs:List FJ}(hs:Tj fs)(h:d7 ops fs=true):TU ops fs=true:=by
 unfold d7 at h;unfold TU;rw[Af]at h⊢;exact⟨h.1,Zv hs h.2⟩
theorem RT{d:Option Nat}{es es2:List (List AV)}(hty:(cx.T ty).d=.slice e)(hz:Nat.beq (cx.T e).zc.length (cx.T e).size=true)(D5:(cx.T e).size=m+1)(hx:∀K' : List (List AV)->Prop,K' es2->L3 h x K')(hr:h r=.tok (m+1) es.length)(hl:CR (m+1) es2)(hb:(es.length+es2.length)*(cx.T e).bytes<=140737488355328)(hc:es.length+es2.length<=9223372036854775807)(hk:K (.slice (.id r (m+1)) (es++es2)) (AR h r (.tok (m+1) (es.length+es2.length)))):IK cx d h ty (.slice (.id r (m+1)) es) x K:=by
 have hq:Nat.beq (m+1) (m+1)=true:=CU _;unfold IK;rw[hty];rw[D5]at hz;simp only[D5,hz];refine hx _ ?_;simp only[hr,hq];exact⟨⟨hl,trivial,hb,hc⟩,hk⟩
theorem RS{d:Nat}{es2:List (List AV)}(hty:(cx.T ty).d=.slice e)(hz:Nat.beq (cx.T e).zc.length (cx.T e).size=true)(D5:(cx.T e).size=m+1)(hx:∀K' : List (List AV)->Prop,K' es2->L3 h x K')(hr:h (Ki cx d)=.free)(ha:Ew cx.pl.arr d=none)(hl:CR (m+1) es2)(hb:es2.length*(cx.T e).bytes<=140737488355328)(hc:es2.length<=9223372036854775807)(hk:K (.slice (.id (Ki cx d) (m+1)) es2) (AR h (Ki cx d) (.tok (m+1) es2.length))):IK cx (some d) h ty nzA x K:=by
 unfold IK;rw[hty];rw[D5]at hz;simp only[D5,hz];refine hx _ ?_;refine⟨⟨D5▸hl,hb,hc⟩,?_⟩;unfold EO;simp only[hr,ha];exact hk
end Go.Eng
namespace Go.Eng
open Go.RowKit
section
variable {P:Program}
theorem HP{f:Nat}{args:List AV}{res:AV}(vals:List Value)(v:Value)(hE:GI P f)(ha:args=vals.map .v)(aj:∀g w,Br g w Fq res v)
  (h:∀w,(∃m,w.cell? ⟨gB,0,none⟩=some (.int .i64 m))->(∀x∈lV,w.cell? ⟨x.1,x.2.1,none⟩=x.2.2)->Calls P f vals.toArray w fun e w'=>e=.returned v/\Below w.heap.size w w'):Lc P f args res:=by
 refine⟨hE,fun g w us hs hv hI=>?_⟩;have hu:us=vals.toArray:=by
  subst ha;rw[AS]at hs;refine Tn (by simpa using hs) fun i h1 h2=>?_
  have:=hv i (.v (vals[i]'(by simpa using h2))) us[i] (by rw[Aw,At (by simpa using h2)];rfl) (by rw[Bj h1])
  rw[this.v_eq];simp
 subst hu;refine(h w hI.glob.1.2 fun x hx=>(hI.glob.2 x hx).2).mono ?_
 rintro e w' ⟨rfl,q⟩
 have hK:EV g w g w':=fun b o hb=>by
  have Dx:=hI.slt b o hb;exact⟨hb,by simp only[World.cell?,q.block b Dx],fun es ck he=>(q.block b Dx).trans he⟩
 refine⟨v,res,Ad,g,rfl,⟨rfl,rfl⟩,(aj g _).up _,⟨q.os,q.tape,q.output,q.size,fun b hb _=>q.block b hb,fun b o hs=>Bx (hI.slt b o hs) q.size,fun _=>trivial,fun _ _ _ h=>h.elim,fun _ _ h=>h.elim,fun b o hs=>.inl hs,hI.glob.keep hK⟩,⟨.refl _ _,fun _ h=>h,hK⟩⟩
end
end Go.Eng
namespace Go.Eng
variable {fn:Func}(cx:Cx)(σ:HU)
def VG:Obj->Bool
 |.cells ..=>false
 |.map ..=>false
 |.mapIter ..=>false
 |.loop r=>!MB [] r.body
 |_=>true
structure XB(n0 x:Nat)(w:World)(g:Gh)(h:Nat->HO)(w' : World)(g' : Gh)(h' : Nat->HO):Prop where
 os:w'.os=w.os
 tape:w'.tape=w.tape
 output:w'.output=w.output
 size:w.heap.size<=w'.heap.size
 frame:∀b,b<n0->b≠x->(∀r,(h r).live->g.own r≠some b)->w'.heap[b]?=w.heap[b]?
 loc:∀r b,(h' r).live->g'.own r=some b->n0<=b\/∃r',(h r').live/\g.own r'=some b
 sg:∀b o,g'.S b o->g.S b o\/n0<=b\/∃r',(h r').live/\g.own r'=some b
 le:Le h g w h' g' w'
section
variable {P:Program}{N:Nat}{ds:List Deferred}{n0 x:Nat}{w w' w1 w2:World}{g g' g1 g2:Gh}{h h' h1 h2:Nat->HO}
theorem XB.trans(a:XB n0 x w g h w1 g1 h1)(b:XB n0 x w1 g1 h1 w2 g2 h2):XB n0 x w g h w2 g2 h2 where
 os:=b.os.trans a.os
 tape:=b.tape.trans a.tape
 output:=b.output.trans a.output
 size:=A9 a.size b.size
 frame c hc hx hn:=(b.frame c hc hx fun r hl e=>by
  rcases a.loc r c hl e with h | ⟨r',h1,h2⟩
  .omega
  .exact hn r' h1 h2).trans (a.frame c hc hx hn)
 loc r c hl e:=by
  rcases b.loc r c hl e with h | ⟨r',h1,h2⟩
  .exact .inl h
  .exact a.loc r' c h1 h2
 sg c o hs:=by
  rcases b.sg c o hs with h | h | ⟨r',h1,h2⟩
  .exact a.sg c o h
  .exact .inr (.inl h)
  .rcases a.loc r' c h1 h2 with h | h
   .exact .inr (.inl h)
   .exact .inr (.inr h)
 le:=a.le.trans b.le
theorem XB.of_inv(hI:Dr w g h h' g' w')(hL:Le h g w h' g' w')(hn:n0<=w.heap.size):XB n0 x w g h w' g' h' where
 os:=hI.os
 tape:=hI.tape
 output:=hI.output
 size:=hI.size
 frame c hc _ ae:=hI.frame c ch ae
 loc r c hl e:=by
  rcases(hI.loc r c hl e).2 with h | h
  .exact .inl ch
  .exact .inr h
 sg c o hs:=by
  rcases hI.sg c o hs with h | h | h
  .exact .inl h
  .exact .inr (.inl ch)
  .exact .inr (.inr h)
 le:=hL
theorem Dr.base(hI:Dr w g h h' g' w'):Dr w' g' h' h' g' w' where
 os:=rfl
 tape:=rfl
 output:=rfl
 size:=Ai _
 frame _ _ _:=rfl
 slt:=hI.slt
 objs:=hI.objs
 inj:=hI.inj
 loc r b hl e:=⟨(hI.loc r b hl e).1,.inr ⟨r,hl,e⟩⟩
 sg _ _ hs:=.inl hs
 glob:=hI.glob
theorem Dr.of_seg(hI:Dr w' g' h' h' g' w')(s:XB w.heap.size x w g h w' g' h')(hx:x<w.heap.size->w'.heap[x]?=w.heap[x]?):Dr w g h h' g' w' where
 os:=s.os
 tape:=s.tape
 output:=s.output
 size:=s.size
 frame b hb hn:=by
  by_cases e:b=x
  .subst e;exact hx hb
  .exact s.frame b hb e hn
 slt:=hI.slt
 objs:=hI.objs
 inj:=hI.inj
 loc r b hl e:=⟨(hI.loc r b hl e).1,s.loc r b hl e⟩
 sg:=s.sg
 glob:=hI.glob
theorem LB{U:Nat->Prop}{r b:Nat}{o:HO}{ob:Obj}(ho:DR g w U r o)(hl:o.live)(e:g.own r=some b)(hb:w.heap[b]?=some ob)(hd:VG ob=true):False:=by
 cases o with
 |free=>exact hl
 |dead=>exact hl
 |ro cs=>exact hl
 |rom sh B7=>exact hl
 |cells cs=>
  obtain⟨_,b',E,vs,h1,_,h3,_⟩:=ho;rw[e]at h1;cases h1;rw[hb]at h3;cases h3;cases hd
 |tok sz n=>
  obtain⟨_,_,a,cap,_,(⟨_,h1⟩ | ⟨_,b',E,vs,off,_,h1,⟨_,h3,_⟩,_⟩)⟩:=ho
  .rw[e]at h1;cases h1
  .rw[e]at h1;cases h1;rw[hb]at h3;cases h3;cases hd
 |vox v=>exact hl
 |hol sz es i c av=>
  obtain⟨_,_,_,b',cap,E,vs,_,h1,_,h3,_⟩:=ho;rw[e]at h1;cases h1;rw[hb]at h3;cases h3;cases hd
 |bld x=>
  obtain⟨_,b',p,v,h1,_,h3,_⟩:=ho;rw[e]at h1;cases h1;rw[hb]at h3;cases h3;cases hd
 |bbf n=>
  obtain⟨_,_,(⟨_,_,h1⟩ | ⟨b',cap,Db,_,h1,_,_,h3,_⟩)⟩:=ho
  .rw[e]at h1;cases h1
  .rw[e]at h1;cases h1;rw[hb]at h3;cases h3;cases hd
 |raw b' ob'=>
  obtain⟨_,h1,h2,h3,_⟩:=ho;rw[e]at h1;cases h1;rw[hb]at h2;cases h2;cases ob<;>simp[VG,sR]at hd h3
  rw[hd]at h3;cases h3
 |var sz v n=>
  obtain⟨_,_,a,cap,_,(⟨_,h1⟩ | ⟨_,b',E,vs,off,_,h1,⟨_,h3,_⟩,_⟩)⟩:=ho
  .rw[e]at h1;cases h1
  .rw[e]at h1;cases h1;rw[hb]at h3;cases h3;cases hd
 |arr sz es=>
  obtain⟨_,_,_,(⟨_,_,h1⟩ | ⟨b',cap,E,vs,_,h1,_,h3,_⟩)⟩:=ho
  .rw[e]at h1;cases h1
  .rw[e]at h1;cases h1;rw[hb]at h3;cases h3;cases hd
 |map sh B7=>
  obtain⟨_,b',es,ck,h1,_,h3,_⟩:=ho;rw[e]at h1;cases h1;rw[hb]at h3;cases h3;cases hd
 |mapU sh B7=>
  obtain⟨_,b',es,ck,h1,_,h3,_⟩:=ho;rw[e]at h1;cases h1;rw[hb]at h3;cases h3;cases hd
 |iter all rem Db=>
  obtain⟨_,b',mb,KG,seen,st,es,ck,h1,_,h3,_⟩:=ho;rw[e]at h1;cases h1;rw[hb]at h3;cases h3;cases hd
theorem Dr.dullS(hI:Dr w g h h g w)(ho:w'.os=w.os/\w'.tape=w.tape/\w'.output=w.output)(D5:w.heap.size<=w'.heap.size)
  (hb:∀b,b<w.heap.size->w'.heap[b]?=w.heap[b]?\/∃o o',w.heap[b]?=some o/\w'.heap[b]?=some o'/\VG o=true/\VG o'=true)
  (hn:∀b,b<n0->b≠x->w'.heap[b]?=w.heap[b]?):Dr w' g h h g w'/\XB n0 x w g h w' g h:=by
 have hk:EV g w g w':=fun b o hs=>by
  refine⟨hs,?_⟩;rcases hb b (hI.slt b o hs)with e | ⟨ob,ob',e1,e2,d1,d2⟩
  .exact⟨by simp only[World.cell?,e],fun es ck he=>e.trans he⟩
  .refine⟨?_,fun es ck he=>?_⟩
   .simp only[World.cell?,e1,e2];cases ob<;>cases ob'<;>first | rfl | (cases d1;done) | (cases d2;done)
   .rw[e1]at he;cases he;cases d1
 have Jj:∀r b,(h r).live->g.own r=some b->w'.heap[b]?=w.heap[b]?:=fun r b hl e=>by
  rcases hb b (hI.loc r b hl e).1 with e' | ⟨ob,ob',e1,_,d1,_⟩
  .exact e'
  .exact(LB (hI.objs r) hl e e1 d1).elim
 refine⟨⟨rfl,rfl,rfl,Ai _,fun _ _ _=>rfl,fun b o hs=>Bx (hI.slt b o hs) D5,fun r=>?_,hI.inj,fun r b hl e=>⟨Bx (hI.loc r b hl e).1 D5,.inr ⟨r,hl,e⟩⟩,fun _ _ hs=>.inl hs,hI.glob.keep hk⟩,⟨ho.1,ho.2.1,ho.2.2,D5,fun b oP hx _=>hn b oP hx,fun r b hl e=>.inr ⟨r,hl,e⟩,fun _ _ hs=>.inl hs,⟨.refl _ _,fun _ h=>h,hk⟩⟩⟩;exact(hI.objs r).same hk (fun _ h=>h) (.refl _ _) rfl rfl rfl rfl fun b hl e=>⟨Jj r b hl e,fun _ h=>h⟩
theorem Dr.put(hI:Dr w g h h g w){l:Nat}{o o' : Obj}(hl:w.heap[l]?=some o)(hd:VG o=true)(oR : VG o'=true)(hx:n0<=l\/l=x) :
  Dr (w.putObj l o') g h h g (w.putObj l o')/\XB n0 x w g h (w.putObj l o') g h:=by
 have Dx:l<w.heap.size:=(Be.1 hl).1;refine hI.dullS ⟨rfl,rfl,rfl⟩ (by simp[World.putObj]) (fun b _=>?_) (fun b hb Dv=>?_)
 .by_cases e:b=l
  .subst e;exact .inr ⟨o,o',hl,World.putObj_heap_same Dx,hd,oR⟩
  .exact .inl (World.putObj_heap_other e)
 .refine World.putObj_heap_other fun e=>?_;rcases hx with h | h
  .omega
  .exact Dv (e.trans h)
theorem Dr.allocS(hI:Dr w g h h g w)(o:Obj)(hn:n0<=w.heap.size):Dr (w.alloc o) g h h g (w.alloc o)/\XB n0 x w g h (w.alloc o) g h:=by
 refine hI.dullS ⟨rfl,rfl,rfl⟩ (by rw[World.size_alloc];omega) (fun b hb=>.inl (heap_alloc_old _ _ hb)) (fun b hb _=>heap_alloc_old _ _ ch)
end
abbrev Fs(fn:FuncId)(tm:Array Value)(ps:Array Tmp)(Ew body:Code)(D:Nat)(s:LoopState):Loop:=
 { state:=s,pending:=none,fn:=fn,tmps:=tm,params:=ps,assign:=Ew,body:=body,defers:=D }
def gV:List Nat->List AV->(Nat->AV)->Nat->AV
 |p::ps,v::vs,e=>gV ps vs (HC e p v)
 |_,_,e=>e
section
variable {P:Program}{N:Nat}{w:World}{g:Gh}
theorem TY{U:Nat->Prop}:∀{ps:List Nat} {args:List AV} {vals:List Value} {tm:Array Value} {env:Nat->AV},vals.length=args.length->args.length=ps.length->(∀p∈ps,p<tm.size) ->
  (∀(i:Nat) (av:AV) (x:Value),args[i]?=some av->vals[i]?=some x->Br g w U av x)->(∀i,Br g w U (env i) (tm.getD i undef)) ->
  ((ps.zip vals).foldl (fun t p=>t.setIfInBounds p.1 p.2) tm).size=tm.size/\∀i,Br g w U (gV ps args env i) (((ps.zip vals).foldl (fun t p=>t.setIfInBounds p.1 p.2) tm).getD i undef)
 | [],args,vals,tm,env,_,h2,_,_,he=>by
  have:args=[]:=AL h2
  subst this;exact⟨rfl,he⟩
 |p::ps,[],vals,tm,env,_,h2,_,_,_=>by cases h2
 |p::ps,a::args,[],tm,env,h1,_,_,_,_=>by cases h1
 |p::ps,a::args,v::vals,tm,env,h1,h2,h3,h4,he=>by
  have hp:=h3 p (Ab ..)
  obtain⟨q1,q2⟩:=TY (ps:=ps) (args:=args) (vals:=vals) (tm:=tm.setIfInBounds p v) (env:=HC env p a) (by simpa using h1) (by simpa using h2) (fun q hq=>by simpa using h3 q (Ae _ hq))
   (fun i av x e1 e2=>h4 (i+1) av x (by simpa using e1) (by simpa using e2)) (fun i=>by
    by_cases e:i=p
    .subst e;have e1:HC env i a i=a:=by simp[HC]
     have e2:(tm.setIfInBounds i v).getD i undef=v:=by simp[Array.getD_eq_getD_getElem?,hp]
     rw[e1,e2];exact h4 0 a v rfl rfl
    .have e1:HC env p a i=env i:=by simp only[HC,B9 e,Eh]
     have e2:(tm.setIfInBounds p v).getD i undef=tm.getD i undef:=by
      simp[Array.getD_eq_getD_getElem?,Array.getElem?_setIfInBounds_ne (Ne.symm e)]
     rw[e1,e2];exact he i)
  exact⟨by simpa using q1,q2⟩
def NY(P:Program)(Y:Gh->World->Prop)(σ:HU)(f:Nat)(args:List AV)(h0:Nat->HO)(Q:AV->(Nat->HO)->Prop):Prop:=
 GI P f/\∀(g:Gh) (w:World) (vals:Array Value),vals.size=args.length->(∀(i:Nat) (av:AV) (x:Value),args[i]?=some av->vals[i]?=some x->Br g w (AN h0) av x) ->
  Dr w g h0 h0 g w->(∀h' g' w',Dr w g h0 h' g' w'->Le h0 g w h' g' w'->Y (CL σ g') w') ->
  Calls P f vals w fun e w'=>∃v r h' g',e=.returned v/\Q r h'/\Br g' w' (AN h') r v/\Dr w g h0 h' g' w'/\Le h0 g w h' g' w'
theorem mz{Y:Gh->World->Prop}{l:Nat}{f:Nat}{c:Code}{args:List AV}{H0:List (Nat×HO)}{Q:AV->(Nat->HO)->Prop}(hP:cx.P=P)(hT:Ci P cx.T)(hm:P.follows .mixedOrders=true)(hx:cx.ext=true)(hf:P.funcs[f]?=some fn)(hn : (fn.name == "runtime.NumGoroutine") = false)(hb : fn.body = some c)(hN : args.length <= fn.ntmps)(hc : DJ fn.ntmps c = true)(hσ : (E4 σ && FH σ H0) = true)(hy:cx.yp=fun l' σ' g w=>l'=l->σ'=σ->Y g w)(hk:NZ cx c (VH cx fn.results.toList σ Q) ⟨MD args,Ag H0 Ad⟩):NY P Y σ f args (Ag H0 Ad) Q:=
 ⟨⟨fn,hf,hn,by simp[hb]⟩,fun g w vals hs hv hI hp=>PF cx σ hP hT hm hx hf hn hb hN hc hσ hk hs hv hI fun l' σ' h' g' w' _ q1 q2=>by
  rw[hy];intro _ e;subst e;exact hp h' g' w' q1 q2⟩
end
def kM(cx:Cx):Nat->Code->(Ex->St->Prop)->(Code->Code->St->Prop)->St->Prop
 |0,.seq (.seq a b) d,Q,K,st=>NZ cx a (fun e En=>match e with |.normal=>K b d En |e=>Q e En) st
 |0,.seq b d,_,K,st=>K b d st
 |n+1,.seq a b,Q,K,st=>NZ cx a (fun e En=>match e with |.normal=>kM cx n b Q K En |e=>Q e En) st
 |_,_,_,_,_=>False
section
variable {P:Program}{N:Nat}{ds:List Deferred}{w0:World}{g0:Gh}{h0:Nat->HO}{st:St}{g:Gh}{a:Act}{w:World}
theorem dU{cx:Cx}(hP:cx.P=P)(hT:Ci P cx.T)(hm:P.follows .mixedOrders=true)(hE:IU cx h0)(hY:∀l σ h g w,Ef σ=true->Dr w0 g0 h0 h g w->Le h0 g0 w0 h g w->cx.yp l σ (CL σ g) w)
  {Qa:Ex->St->Prop} {K:Code->Code->St->Prop} {Q:Exit->Act->World->Prop} (hQ:∀e st g a w,e≠.normal->Qa e st->SR N ds w0 g0 h0 st g a w->Q e.real a w)
  (hK:∀b d st g a w,K b d st->SR N ds w0 g0 h0 st g a w->b.wpIn (In none) 0 P (Exit.then (d.wpIn (In none) 0 P Q) Q) a w) :
  ∀(n:Nat) (c:Code),DJ N c=true->∀{st:St} {g:Gh} {a:Act} {w:World},SR N ds w0 g0 h0 st g a w->kM cx n c Qa K st->c.wpIn (In none) 0 P Q a w:=by
 intro n
 induction n with
 |zero=>
  intro c hc st g a w hS hk;cases c with
  |seq y d=>
   simp only[DJ,Af]at hc;cases y with
   |seq x b=>
    have hk:NZ cx x (fun e En=>match e with | .normal=>K b d En | e=>Qa e En) st:=hk;simp only[DJ,Af]at hc;refine wpIn_seq (wpIn_seq (KJ hP hT hm hE hY none x hc.1.1 (Qa:=fun e En=>match e with | .normal=>K b d En | e=>Qa e En) (fun e st g a w q hS=>?_) hS hk));cases e with
    |normal=>exact hK b d _ _ _ _ q hS
    |exit id=>exact hQ (.exit id) _ _ _ _ (fun e=>by cases e) q hS
    |ret=>exact hQ .ret _ _ _ _ (fun e=>by cases e) q hS
   |_=>exact wpIn_seq (hK _ d _ _ _ _ hk hS)
  |_=>exact hk.elim
 |succ n ih=>
  intro c hc st g a w hS hk;cases c with
  |seq x y=>
   simp only[DJ,Af]at hc;refine wpIn_seq (KJ hP hT hm hE hY none x hc.1 (Qa:=fun e En=>match e with | .normal=>kM cx n y Qa K En | e=>Qa e En) (fun e st g a w q hS=>?_) hS hk);cases e with
   |normal=>exact ih y hc.2 hS q
   |exit id=>exact hQ (.exit id) _ _ _ _ (fun e=>by cases e) q hS
   |ret=>exact hQ .ret _ _ _ _ (fun e=>by cases e) q hS
  |_=>exact hk.elim
def strT(h:Nat->HO):AV->AV
 |.tup cs=>.tup (cs.map (str h))
 |a=>str h a
theorem Br.strT{h:Nat->HO}(ho:∀r,DR g w (AN h) r (h r)){av:AV}{x:Value}(r:Br g w (AN h) av x):Br g w Fq (Eng.strT h av) x:=by
 cases av with
 |tup cs=>
  cases r with
  |tup _ _ vs hs hr=>
   exact .tup _ _ vs (by simp[hs]) fun i av x q1 q2=>by
    rw[Aw,AD]at q1;obtain⟨a,e1,rfl⟩:=q1;exact Br.str ho (hr i a x e1 q2)
 |_=>exact Br.str ho r
end
section
variable {P:Program}{N:Nat}{ds:List Deferred}{w0:World}{g0:Gh}{h0:Nat->HO}{st:St}{g:Gh}{a:Act}{w:World}
theorem SR.rebase{w1:World}{g1:Gh}{h1:Nat->HO}(hS:SR N ds w0 g0 h0 st g a w)(hI:Dr w1 g1 h1 st.h g w)(hL:Le h1 g1 w1 st.h g w):SR N ds w1 g1 h1 st g a w:=⟨hI,hL,hS.dfs,hS.size,hS.slots⟩
theorem fq{cx:Cx}(hT:Ci P cx.T){H0:List (Nat×HO)}{σ:HU}(hσ:E4 σ=true)(r4:FH σ H0=true){Q:AV->(Nat->HO)->Prop}(hS:SR N ds w0 g0 (Ag H0 Ad) st g a w)(hk:jk cx st fn.results.toList σ Q) :
  ∃v,(results fn a.tmps).run P w=.ok v w/\∃r h' g',Q r h'/\Br g' w (AN h') r v/\Dr w0 g0 (Ag H0 Ad) h' g' w/\Le (Ag H0 Ad) g0 w0 h' g' w:=by
 obtain⟨g2,i1,i2⟩:=Ku cx.pl.fin hS.inv;have OW : SR N ds w0 g0 (Ag H0 Ad) ⟨st.t,NS st.h cx.pl.fin⟩ g2 a w:=⟨i1,hS.le.trans i2,hS.dfs,hS.size,fun i=>(hS.slots i).le i2⟩;obtain⟨l,vs,h1,h2,h3,h4,h5⟩:=Th hT OW _ hk;obtain⟨hR,j1,j2⟩:=JD hσ r4 i1 OW.le;have CI:(results fn a.tmps).run P w=.ok (if h:vs.toArray.size=1 then vs.toArray[0]else .tuple vs.toArray) w:=by
  rw[ON,show fn.results=fn.results.toList.toArray by simp,List.mapM_toArray];simp only[Sem.run_bind,Sem.run_map,h2,Result.andThen_ok,Sem.run_pure]
 match l,vs,h1,h3,h5,CI with
 | [v],[x],h1,h3,h5,CI=>exact⟨x,by simpa using CI,_,_,_,h1,(h5 0 v x rfl rfl).ren hR,j1,j2⟩
 | [],vs,h1,h3,h5,CI=>
  have:vs=[]:=AL h3
  subst this;exact⟨.tuple #[],by simpa using CI,_,_,_,h1,Br.ren hR (.tup _ [] _ rfl fun i av x q=>by simp at q),j1,j2⟩
 |v::v' :: l,vs,h1,h3,h5,CI=>
  refine⟨.tuple vs.toArray,?_,_,_,_,h1,Br.ren hR (.tup _ _ _ (by simpa using h3) fun i av x q1 q2=>h5 i av x q1 (by simpa using q2)),j1,j2⟩;rw[CI]
  have:vs.toArray.size≠1:=by simp[h3]
  simp only[this,dif_neg,not_false_eq_true]
theorem uP{Qo s:Nat}{ps:Array Tmp}{Ew body rest:Code}(hP:cx.P=P)(hT:Ci P cx.T)(hm:P.follows .mixedOrders=true)(hx:cx.ext=true){σ:HU}{H0 Hn:List (Nat×HO)}(hσ:(E4 σ&&FH σ H0)=true)(yr:FH σ Hn=true){env:Nat->AV}{gf:Nat}{caps:List AV}(hF:env s=.clo gf caps){Qv:AV->(Nat->HO)->Prop}(hIT:∀(l D:Nat) (f' : FuncId) (tm:Array Value),tm.size=N->NY P (fun g w=>w.heap[l]?=some (.loop (Fs f' tm ps Ew body D .ready))/\∀i,Br g w (AN (Ag H0 Ad)) (env i) (tm.getD i undef)) σ gf
   (.v (.func (.yield l) #[] #[])::caps) (Ag H0 Ad) fun _ h'=>h'=Ag Hn Ad)(hcr:DJ N rest=true)(oQ:MB [] body=false)(mu:NZ cx rest (VH cx fn.results.toList σ Qv) ⟨env,Ag Hn Ad⟩)(hY:∀l σ g w,cx.yp l σ g w){a:Act}(ha:a.defers=[])(hN:a.tmps.size=N)(hI:Dr w g (Ag H0 Ad) (Ag H0 Ad) g w)(GN:∀i,Br g w (AN (Ag H0 Ad)) (env i) (a.tmps.getD i undef)){R:Ending->World->Prop}(hR:∀v r h' g' w',Qv r h'->Br g' w' (AN h') r v->Dr w g (Ag H0 Ad) h' g' w'->Le (Ag H0 Ad) g w h' g' w'->R (.returned v) w') :
  (Code.block Qo (.rangeFunc (.tmp s) ps Ew body)).wpIn (In none) 0 P (Exit.then (rest.wpIn (In none) 0 P (bodyPostM (In none) 0 P fn R)) (bodyPostM (In none) 0 P fn R)) a w:=by
 simp only[Af]at hσ;have hdl:∀f' tm D s,VG (.loop (Fs f' tm ps Ew body D s))=true:=fun _ _ _ _=>by show(!MB [] body)=true;rw[oQ];rfl
 refine wpIn_block (wpIn_rangeFunc fun f' _=>?_);have hs:=GN s;rw[hF]at hs;have ZT:a.eval (.tmp s)=a.tmps.getD s undef:=rfl;generalize hfv:a.tmps.getD s undef=fv at hs ZT;cases hs with
 |clo _ _ _ lb D5 KO=>
 obtain⟨i0,s0⟩:=hI.allocS (n0:=w.heap.size) (x:=w.heap.size) (.deferred (some [])) (Ai _);obtain⟨i1,s1⟩:=i0.allocS (n0:=w.heap.size) (x:=w.heap.size) (.loop (Fs f' a.tmps ps Ew body w.heap.size .ready)) (by rw[World.size_alloc];omega);generalize hW:(w.alloc (.deferred (some []))).alloc (.loop (Fs f' a.tmps ps Ew body w.heap.size .ready))=W1 at i1 s1;have uc:W1.heap.size=w.heap.size+2:=by rw[<-hW,World.size_alloc,World.size_alloc]
 have hl:W1.heap[w.heap.size+1]?=some (.loop (Fs f' a.tmps ps Ew body w.heap.size .ready)):=by
  rw[<-hW]
  have:=World.alloc_heap_new (w.alloc (.deferred (some []))) (.loop (Fs f' a.tmps ps Ew body w.heap.size .ready))
  rwa [World.size_alloc]at this
 have hD:W1.heap[w.heap.size]?=some (.deferred (some [])):=by
  rw[<-hW,heap_alloc_old _ _ (by rw[World.size_alloc];omega)];exact World.alloc_heap_new w _
 have JH:∀b ob,W1.heap[b]?=some ob->VG ob=true->∀r,((Ag H0 Ad) r).live->g.own r≠some b:=fun b ob hb hd r hr e=>LB (i1.objs r) hr e hb hd;have S1:=s0.trans s1;have hit:=hIT (w.heap.size+1) w.heap.size f' a.tmps hN
 refine⟨w.heap.size+1,[{ target:=.collected w.heap.size,args:=#[] }],W1,{ target:=.fn (.func gf) lb,args:=#[.func (.yield (w.heap.size+1)) #[] #[]] },W1,gf,
  #[.func (.yield (w.heap.size+1)) #[] #[]]++lb,W1,?_,?_,fun _ _=>trivial,?_,fun e=>(by cases e),?_⟩
 .rw[<-hW];exact run_enterLoop_outer _ _ _ _ _
 .simp only[resolve,ZT];simp[go_sem]
 .simp only[invoke];rw[Gk hit.1]
 refine callsIn_wide.2 ((hit.2 g W1 _ (by simp[D5];omega) (fun i av x e1 e2=>?_) i1 (fun h' g' w' q1 q2=>?_)).mono ?_)
 .cases i with
  |zero=>
   simp only[A4,Bk]at e1;rw[Fg]at e2
   have:x=.func (.yield (w.heap.size+1)) #[] #[]:=(BW e2).symm
   subst e1;subst this;exact .v _ _
  |succ i=>
   have e2:lb[i]?=some x:=by rw[<-e2,Fg];simp
   exact(KO i av x (by simpa using e1) e2).le S1.le
 .obtain⟨_,_,j2⟩:=JD hσ.1 hσ.2 q1 q2;refine⟨(q1.frame _ ch (JH _ _ hl (hdl _ _ _ _))).trans hl,fun i=>?_⟩;exact((GN i).le S1.le).mono j2.keeps (fun _ h=>h) j2.gh
 rintro e w2 ⟨v,r,h',g2,rfl,rfl,_,q3,q4⟩
 have Yl:w2.heap[w.heap.size+1]?=some (.loop (Fs f' a.tmps ps Ew body w.heap.size .ready)):=(q3.frame _ ch (JH _ _ hl (hdl _ _ _ _))).trans hl;have hD2:w2.heap[w.heap.size]?=some (.deferred (some [])):=(q3.frame _ ch (JH _ _ hD rfl)).trans hD;refine⟨none,_,run_endLoop Yl (fun e=>by cases e),?_⟩;obtain⟨i4,s4⟩:=q3.base.put (n0:=w.heap.size) (x:=w.heap.size) (o':=.loop { Fs f' a.tmps ps Ew body w.heap.size .ready with state:=.exhausted }) Yl (hdl _ _ _ _) (hdl f' a.tmps w.heap.size .exhausted) (.inl ch);have S4:=(S1.trans (XB.of_inv q3 q4 ch)).trans s4;generalize hW4:w2.putObj (w.heap.size+1) (.loop { Fs f' a.tmps ps Ew body w.heap.size .ready with state:=.exhausted })=w4 at i4 s4 S4;have tv:w4.heap[w.heap.size]?=some (.deferred (some [])):=by rw[<-hW4,World.putObj_heap_other ch];exact hD2
 have hE:IU cx (Ag Hn Ad):=by unfold IU;rw[hx];exact fun i hi=>⟨(Fl yr i hi).1,(Fl yr i hi).2.1⟩
 have hS4:SR N [{ target:=.collected w.heap.size,args:=#[] }] w4 g2 (Ag Hn Ad) ⟨env,Ag Hn Ad⟩ g2 { a with defers:=[{ target:=.collected w.heap.size,args:=#[] }]++a.defers } w4:=
  ⟨i4,.refl _ _ _,by simp[ha],hN,fun i=>(GN i).le S4.le⟩
 refine KJ hP hT hm hE (fun l σ _ _ w _ _ _=>hY l σ _ w) none rest hcr (fun e uY g5 a5 w5 hq Yj=>?_) hS4 mu;have fin:jk cx uY fn.results.toList σ Qv->LeavesInM (In none) 0 P fn a5.tmps R a5.defers .returning w5:=by
  intro hk;have xm:w5.heap[w.heap.size]?=some (.deferred (some [])):=(Yj.inv.frame _ (Be.1 tv).1 (fun r hr e=>LB (i4.objs r) hr e tv rfl)).trans tv;rw[Yj.dfs];refine⟨by simp,.inl ⟨w.heap.size,_,rfl,run_takeDeferred xm,?_⟩⟩;obtain⟨i6,s6⟩:=Yj.inv.base.put (n0:=w.heap.size) (x:=w.heap.size) (o':=.deferred none) xm rfl rfl (.inr rfl);have hS6:SR N [{ target:=.collected w.heap.size,args:=#[] }] (w5.putObj w.heap.size (.deferred none)) g5 uY.h uY g5 a5 (w5.putObj w.heap.size (.deferred none)):=⟨i6,.refl _ _ _,Yj.dfs,Yj.size,fun i=>(Yj.slots i).le s6.le⟩;have S6:=(S4.trans (XB.of_inv Yj.inv Yj.le (A9 (Ai _) S4.size))).trans s6;obtain⟨v,k2,r,h7,g7,k1,k5,k3,k4⟩:=fq (H0:=H0) hT hσ.1 hσ.2 (SR.rebase hS6 (i6.of_seg S6 fun h=>absurd h (Nat.lt_irrefl _)) S6.le) hk;exact⟨v,k2,hR v r h7 g7 _ k1 k5 k3 k4⟩
 cases e with
 |normal=>exact fin hq
 |ret=>exact fin hq
 |exit id=>exact hq.elim
end
end Go.Eng
