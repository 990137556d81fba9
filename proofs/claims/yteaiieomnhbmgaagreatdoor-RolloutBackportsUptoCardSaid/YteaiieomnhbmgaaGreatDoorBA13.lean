/- Lemmas 13. -/
import Derived.Test.YteaiieomnhbmgaaGreatDoorBA12
import Derived.Shelf.GgSortFunc.InsertionK
import Derived.Below
import Derived.RangeFuncLeaves
import Derived.RangeFuncNested
namespace Go.Eng
open Go.Sort Go.Proofs
variable {α β:Type}{k:Nat}
theorem Su{g:Gh}{w:World}{U:Nat->Prop}{cs fZ : List AV}{vs lD : List Value}(h:vs.length=cs.length):Cs g w U (cs++fZ) (vs++lD)↔Cs g w U cs vs/\Cs g w U fZ lD:=by
 constructor
 .intro⟨h1,h2,h3⟩;refine⟨⟨h,fun x hx=>h2 x (Cv _ hx),fun i av x q1 q2=>?_⟩,⟨by simp_all,fun x hx=>h2 x (CE _ hx),fun i av x q1 q2=>?_⟩⟩
  .have a1:=(Bf.1 q1).1;have a2:=(Bf.1 q2).1;exact h3 i av x (by grind) (by grind)
  .exact h3 (cs.length+i) av x (by grind) (by grind)
 .intro⟨⟨h1,h2,h3⟩,k1,k2,k3⟩;refine⟨by simp_all,fun x hx=>(Bh.1 hx).elim (h2 x) (k2 x),fun i av x q1 q2=>?_⟩
  grind
theorem Rp{α β:Type}{g:Gh}{w:World}{U:Nat->Prop}{Jo:β->List AV}{enc:α->List Value}(hl:∀x y,(enc x).length=(Jo y).length):∀ps:List (β×α),
  Cs g w U (ps.map fun p=>Jo p.1).flatten (ps.map fun p=>enc p.2).flatten↔∀p∈ps,Cs g w U (Jo p.1) (enc p.2)
 | []=>by simp[Cs]
 |p::ps=>by
  simp only[BB,Cz];rw[Su (hl _ _),Rp hl ps];simp
theorem KC{f:α->β}:∀{m m' : List β},m.Perm m'->∀ps:List α,ps.map f=m->∃ph : List α,ph.Perm ps/\ph.map f=m':=by
 intro m m' h
 induction h with
 |nil=>simp_all
 |cons x h ih=>
  intro ps e;cases ps with
  |nil=>cases e
  |cons p ps=>
   rw[BB]at e
   injection e with e1 e2
   obtain⟨ph,h1,h2⟩:=ih ps e2;exact⟨p::ph,h1.cons p,by simp_all⟩
 |swap x y l=>
  intro ps e
  match ps,e with
  |p::q::ps,e=>
   grind [List.Perm.swap]
 |trans h1 h2 ih1 ih2=>
  grind [List.Perm.trans]
theorem Ui[Inhabited α]{enc:α->List Value}(hk:∀x,(enc x).length=k)(d:Array α):(flatK enc k d).toList=(d.toList.map enc).flatten:=by
 have hl:∀cs∈d.toList.map enc,cs.length=k:=fun cs hcs=>by
  grind
 have Dd:(d.toList.map enc).flatten.length=d.size*k:=by
  have:∀l:List α,(l.map enc).flatten.length=l.length*k:=fun l=>by
   induction l<;>grind [Nat.succ_mul]
  simp_all
 apply Da;intro t
 by_cases ht:t<d.size*k
 .have k0:0<k:=Nat.pos_of_ne_zero fun h=>by simp_all
  have h1:t / k<d.size:=by rw[Nat.div_lt_iff_lt_mul k0];exact ht
  have h2:t % k<k:=Nat.mod_lt _ k0;have e:t=t / k*k+t % k:=by grind [Nat.div_add_mod]
  rw[CN,Cg (by simpa using ht),<-getElem!_pos _ t (by simpa using ht),get_flatK _ _ _ _ ht]
  grind [Fe]
 simp_all
theorem zip_fst{α β:Type}:∀{l:List α} {m:List β},l.length=m.length->(l.zip m).map (·.1)=l/\(l.zip m).map (·.2)=m
 | [],[],_=>⟨rfl,rfl⟩
 |a::l,b::m,h=>by
  have:=zip_fst (l:=l) (m:=m) (by simp_all)
  simp_all
section
variable {P:Program}
theorem JG[Inhabited α]{f:Nat}{rest:List Value}(hE:Fz P f)(Jo:β->List AV)(enc:α->List Value)(hB:∀x,(Jo x).length=k)(hk:∀x,(enc x).length=k)(lt:α->α->Bool)(R:β->α->Prop)(l:List β)(hl:l.length<4611686018427387904)(hR:∀x∈l,∀(g:Gh) (w:World) (vs:List Value),Cs g w Fp (Jo x) vs->∃a,enc a=vs/\R x a)(BV:∀(w:World) (b cap:Nat) (d:Array α),HoldsK enc k w b 0 d->b<w.heap.size->d.size<4611686018427387904->d.size=l.length->Calls P f (#[.slice (some ⟨b,0,none⟩) d.size cap]++rest.toArray) w fun e w'=>
   e=.returned (.tuple #[])/\∃d' n os,PermIn 0 d.size d d'/\SortedIn lt 0 d.size d'/\w'=sortWorldK enc k w b 0 n d' os)(Ai2:l=[]->∀w:World,Calls P f (#[.slice none 0 0]++rest.toArray) w fun e w'=>e=.returned (.tuple #[])/\w'=w) :
  AP P f (.msl 1000 l.length::rest.map .v) (Ai [(1000,.arr k (l.map Jo))] Ac) fun r h'=>
   r=.tup []/\∃l' : List β,l'.Perm l/\(∃al:List α,al.length=l'.length/\(∀(i:Nat) (x:β) (a:α),l'[i]?=some x->al[i]?=some a->R x a)/\al.Pairwise (fun x y=>lt y x=false))/\h'=Ai [(1000,.arr k (l'.map Jo))] Ac:=by
 have Jb:=QB (P:=P) (f:=f) (es:=l.map Jo) (sz:=k) (rest:=rest)
  (Q:=fun FG=>∃l' : List β,l'.Perm l/\(∃al:List α,al.length=l'.length/\(∀(i:Nat) (x:β) (a:α),l'[i]?=some x->al[i]?=some a->R x a)/\al.Pairwise (fun x y=>lt y x=false))/\FG=l'.map Jo) hE ?_ ?_
 .grind
 .simp_all
 .intro g w b cap F hr hF hH hb
  -- the elements in memory
  have wZ:∀(m:List β) (vs:List Value),(∀x∈m,x∈l)->Cs g w Fp (m.map Jo).flatten vs->∃al:List α,al.length=m.length/\vs=(al.map enc).flatten/\∀(i:Nat) (x:β) (a:α),m[i]?=some x->al[i]?=some a->R x a:=by
   intro m
   induction m with
   |nil=>
    intro vs _ h
    have:vs=[]:=AT (by simpa using h.1)
    simp_all
   |cons x m ih=>
    intro vs hm h;rw[BB,Cz]at h;have Dd:=h.1;rw[Ak,hB]at Dd;have e:vs=vs.take k++vs.drop k:=(Ia k vs).symm;rw[e]at h;rw[Su (by grind)]at h;obtain⟨a,a1,a2⟩:=hR x (hm x (Af ..)) g w _ h.1;obtain⟨al,b1,b2,b3⟩:=ih _ (fun y hy=>hm y (Ao _ hy)) h.2;refine⟨a::al,by grind,by grind,fun i y c q1 q2=>?_⟩
    grind
  obtain⟨al,s1,s2,s3⟩:=wZ l F.toList (fun _ h=>h) hr;have hFd:F=flatK enc k al.toArray:=Ts.1 (by grind [Ui]);have hd:HoldsK enc k w b 0 al.toArray:=by grind [HoldsK]
  have hc:=BV w b cap al.toArray hd hb (by simp_all) ch;have Fg:al.toArray.size=(l.map Jo).length:=by simp_all
  rw[Fg]at hc;refine hc.mono ?_
  rintro e w' ⟨rfl,d',n,os,p1,p2,rfl⟩
  obtain⟨z1,z2⟩:=zip_fst s1.symm;obtain⟨AfE,_,Jd⟩:=p1;have AfE : d'.size=al.length:=by omega
  have e1:d'.extract 0 (l.map Jo).length=d':=by simp_all
  have e2:al.toArray.extract 0 (l.map Jo).length=al.toArray:=by grind
  rw[e1,e2]at Jd;have Jd:al.Perm d'.toList:=by
   first
   |exact Jd.symm
   |exact Jd
   |(have:=Jd.symm;simpa using this)
  obtain⟨ph,r1,r2⟩:=KC Jd (l.zip al) z2;have rel:∀p∈l.zip al,R p.1 p.2:=fun p hp=>by
   obtain⟨i,hi⟩:=Ee.1 hp;rw[List.getElem?_zip_eq_some]at hi
   grind
  refine⟨rfl,flatK enc k d',(ph.map (·.1)).map Jo,n,os,by simp_all,⟨ph.map (·.1),?_,⟨d'.toList,by grind,fun i x a q1 q2=>?_,?_⟩,rfl⟩,by have:=r1.length_eq;simp_all,fun cs hcs=>?_,fun g w hr=>?_,?_⟩
  .grind
  .rw[<-r2]at q2;rw[BH,Cr]at q1 q2;obtain⟨p,q1,rfl⟩:=q1
   grind
  .rw[Bo];intro i j hi hj aO;have OW : i<d'.size:=by omega
   have hj' : j<d'.size:=by omega
   have:=p2 i j (Al _) aO ch
   simp_all
  .obtain⟨x,_,rfl⟩:=Ax.1 hcs;simp_all
  .have h1:Cs g w Fp ((l.zip al).map fun p=>Jo p.1).flatten ((l.zip al).map fun p=>enc p.2).flatten:=by
    have a1:(l.zip al).map (fun p=>Jo p.1)=l.map Jo:=by
     have:(l.zip al).map (fun p=>Jo p.1)=((l.zip al).map (·.1)).map Jo:=by rw[Br];rfl
     simp_all
    have a2:(l.zip al).map (fun p=>enc p.2)=al.map enc:=by
     have:(l.zip al).map (fun p=>enc p.2)=((l.zip al).map (·.2)).map enc:=by rw[Br];rfl
     simp_all
    simp_all
   have Dd:∀(x:α) (y:β),(enc x).length=(Jo y).length:=fun x y=>by simp_all
   rw[Rp Dd]at h1;have h2:=(Rp (g:=g) (w:=w) (U:=Fp) Dd ph).2 fun p hp=>h1 p (r1.mem_iff.1 hp);have b1:(ph.map (·.1)).map Jo=ph.map fun p=>Jo p.1:=by simp_all
   have b2:(flatK enc k d').toList=(ph.map fun p=>enc p.2).flatten:=by
    rw[Ui hk,<-r2,Br];rfl
   grind
  .rfl
end
end Go.Eng
namespace Go.Eng
section
variable {P:Program}
theorem BO{f:Nat}{fn:Func}{c:Code}{args:List AV}{H0:List (Nat×HO)}{Q:AV->(Nat->HO)->Prop}(cx:Cx)(σ:Jk)(hP:cx.P=P)(hT:Ci P cx.T)(hm:P.follows .mixedOrders=true)(hx:cx.ext=true)(hf:P.funcs[f]?=some fn)
  (hn : (fn.name == "runtime.NumGoroutine") = false) (hb : fn.body = some c) (hN : args.length <= fn.ntmps) (hc : Ey fn.ntmps c = true) (hσ : (GX σ && IL σ H0) = true)
  (hk:QD cx c (ap cx fn.results.toList σ fun r h'=>∃r',BM r r'/\Q r' h') ⟨Pw args,Ai H0 Ac⟩) (hY:∀l σ g w,cx.yp l σ g w:=by exact fun _ _ _ _=>trivial):AP P f args (Ai H0 Ac) Q:=
 (m7 cx σ hP hT hm hx hf hn hb hN hc hσ hk hY).mono fun _ _ ⟨r',s,q⟩=>⟨r',s,q⟩
end
end Go.Eng
namespace Go.Eng
open Go.Sort
theorem Cs.append{g:Gh}{w:World}{U:Nat->Prop}{VW bs:List AV}{xs ys:List Value}(h:Cs g w U VW xs)(k:Cs g w U bs ys):Cs g w U (VW++bs) (xs++ys):=by
 refine⟨by rw[Ak,Ak,h.1,k.1],fun x hx=>?_,fun i av x q1 q2=>?_⟩
 .rcases Bh.1 hx with hx | hx
  .exact h.2.1 x hx
  .exact k.2.1 x hx
 .have hl:=h.1
  by_cases hi:i<VW.length
  .rw[D1 hi]at q1;rw[D1 ch]at q2;exact h.2.2 i av x q1 q2
  .rw[BR ch]at q1;rw[BR ch,hl]at q2;exact k.2.2 _ av x q1 q2
theorem Cs.take{g:Gh}{w:World}{U:Nat->Prop}{VW:List AV}{xs:List Value}(h:Cs g w U VW xs)(k:Nat):Cs g w U (VW.take k) (xs.take k):=by
 refine⟨by rw[AD,AD,h.1],fun x hx=>h.2.1 x (Db hx),fun i av x q1 q2=>?_⟩;rw[List.getElem?_take]at q1 q2;split at q1
 .rename_i hi;rw[Ay hi]at q2;exact h.2.2 i av x q1 q2
 simp_all
theorem Cs.drop{g:Gh}{w:World}{U:Nat->Prop}{VW:List AV}{xs:List Value}(h:Cs g w U VW xs)(k:Nat):Cs g w U (VW.drop k) (xs.drop k):=by
 refine⟨by rw[DE,DE,h.1],fun x hx=>h.2.1 x (IF hx),fun i av x q1 q2=>?_⟩;rw[FW]at q1 q2;exact h.2.2 _ av x q1 q2
theorem LI{α:Type}{k:Nat}:∀(es:List (List α)) (i:Nat),(∀e∈es,e.length=k)->es.flatten.take (i*k)=(es.take i).flatten
 | [],i,_=>by simp
 |e::es,0,_=>by simp
 |e::es,i+1,h=>by
  have he:=h e (Af ..);rw[Cz,List.take_succ_cons,Cz,List.take_append,<-LI es i fun x hx=>h x (Ao _ hx),Au (by grind),he,show(i+1)*k-k=i*k by grind]
theorem PF{α:Type}{k:Nat}:∀(es:List (List α)) (i:Nat),(∀e∈es,e.length=k)->es.flatten.drop (i*k)=(es.drop i).flatten
 | [],i,_=>by simp
 |e::es,0,_=>by simp
 |e::es,i+1,h=>by
  have he:=h e (Af ..);rw[Cz,List.drop_succ_cons,List.drop_append,<-PF es i fun x hx=>h x (Ao _ hx),Bq (by grind),he,show(i+1)*k-k=i*k by grind,Wu]
section
variable {P:Program}
theorem Wz{f:Nat}{es:C0}{sz:Nat}{rest:List Value}{n' : Nat}{Q:C0->Prop}(hE:Fz P f)(Ek:es≠[])(qE : n'<=es.length)
  (h1:∀(g:Gh) (w:World) (b cap:Nat) (F:Array Value),Cs g w Fp es.flatten F.toList->F.size=es.length*sz->Holds id w b 0 F->b<w.heap.size->es.length<=cap->Calls P f (#[.slice (some ⟨b,0,none⟩) es.length cap]++rest.toArray) w fun e w'=>
   e=.returned (.slice (some ⟨b,0,none⟩) n' cap)/\∃(F' : Array Value) (FG : C0) (n:Nat) (os:Array Obj),F'.size=F.size/\Q FG/\FG.length=es.length/\(∀cs∈FG,cs.length=sz) /\
    (∀(g:Gh) (w:World),Cs g w Fp es.flatten F.toList->Cs g w Fp FG.flatten F'.toList)/\w'=grow (putRow id (Sort.ahead w n) b 0 F') os) :
  AP P f (.msl 1000 es.length::rest.map .v) (Ai [(1000,.arr sz es)] Ac) fun r h'=>r=.msl 2000 n'/\∃FG,Q FG/\h'=Ai [(1000,.dead),(2000,.arr sz (FG.take n'))] Ac:=by
 refine⟨hE,fun g w us hs hv hI=>?_⟩;have ho:=hI.objs 1000;have he:Ai [(1000,HO.arr sz es)] Ac 1000=.arr sz es:=rfl;rw[he]at ho;obtain⟨t1,l1,al,a2⟩:=ho;simp only[AA,BK]at hs;have hu0:0<us.size:=by omega
 have yV:=hv 0 (.msl 1000 es.length) us[0] rfl (Cg hu0);have hval:us[0]=g.ρ 1000:=by
  grind [cases Ba]
 have Ms:us=#[g.ρ 1000]++rest.toArray:=by
  refine Array.ext (by simp_all) fun i h1 h2=>?_;cases i with
  |zero=>simp_all
  |succ i=>
   have hi:i<rest.length:=by omega
   have:=hv (i+1) (.v rest[i]) us[i+1] (by simp_all) (Cg h1)
   rw[this.v_eq];simp
 rw[Ms];rcases a2 with ⟨b1,b2,b3⟩ | ⟨b,cap,E,vs,b1,b2,b3,b4,b5,b6,b7⟩
 .simp_all
 .have hl:(Ai [(1000,HO.arr sz es)] Ac 1000).live:=trivial;have E3:=(hI.loc 1000 b hl b2).1;have Jr:es.length*sz<=vs.size:=by rw[b5];exact Bn _ b3
  have hF:((vs.toList.take (es.length*sz)).toArray).size=es.length*sz:=by simp_all
  have hH:Holds id w b 0 (vs.toList.take (es.length*sz)).toArray:=fun j hj=>by
   grind [World.cell?,World.frozen?]
  rw[b1];refine(h1 g w b cap _ ch hF hH E3 b3).mono ?_
  rintro e w' ⟨rfl,F',FG,n,os,f1,f2,f3,f4,f5,rfl⟩
  have z7 : F'.size=es.length*sz:=f1.trans hF;have hpt:=N6 F' vs ch;have uD : (grow (putRow id (Sort.ahead w n) b 0 F') os).heap[b]?=some (.cells (putCells id 0 F' vs) E (0,0)):=by
   rw[heap_grow_old _ _ (by simp_all)];show(w.heap.modify b (onCells (putCells id 0 F')))[b]?=_;rw[Array.getElem?_modify,Ay rfl,b4];rfl
  have hob:∀k,k<w.heap.size->k≠b->(grow (putRow id (Sort.ahead w n) b 0 F') os).heap[k]?=w.heap[k]?:=fun k hk Ek=>by
   rw[heap_grow_old _ _ (by simp_all)];simp[putRow,mapBlock,Array.getElem?_modify,Ne.symm Ek]
  have Fg:w.heap.size<=(grow (putRow id (Sort.ahead w n) b 0 F') os).heap.size:=by simp_all
  obtain⟨k1,k2⟩:=hI.upd 1000 (.arr sz FG) (g.ρ 1000) (g.ln 1000) (g.tk 1000) (g.own 1000) g.S (grow (putRow id (Sort.ahead w n) b 0 F') os) (some b) ⟨rfl,rfl,rfl,Fg⟩
   (fun k hk Ek=>hob k hk (fun e=>Ek (by rw[e]))) (fun b' e=>by simp_all) (fun _ _ h=>h) (fun _ _ h=>.inl h) (fun b' o e hs=>by simp_all)
   (fun b' _ e=>by grind) B0 (fun _=>⟨rfl,Ap _,fun _=>rfl,fun _=>rfl⟩) (fun hg hk=>by
    refine⟨by grind [Gh.upd],by grind [Gh.upd],f4,.inr ⟨b,cap,E,_,by grind [Gh.upd],by grind [Gh.upd],by omega,uD,by omega,?_,b7⟩⟩
    have:=f5 g w ch
    rw[f3,<-z7,hpt.1];exact this.mono hk (fun _ h=>h) (fun _ h=>h.elim))
  rw[Uy]at k1 k2;generalize nD : g.upd 1000 (g.ρ 1000) (g.ln 1000) (g.tk 1000) (g.own 1000) g.S=g' at k1 k2;have ho' : g'.own 1000=some b:=by grind [Gh.upd]
  have AaB:=k1.objs 1000;have qB:Ai [(1000,HO.arr sz FG)] Ac 1000=.arr sz FG:=rfl;rw[qB]at AaB;obtain⟨m1,m2,m3,m4⟩:=AaB;have hρ:g'.ρ 1000=.slice (some ⟨b,0,none⟩) es.length cap:=by grind [Gh.upd]
  have Aki : FG≠[]:=fun e=>Ek (AT (by simp_all));rcases m4 with ⟨m4,_⟩ | ⟨b',MA,E',lD,c1,c2,c3,c4,c5,c6,c7⟩
  .simp_all
  .rw[hρ]at c1;simp only[Value.slice.injEq,Dc,Addr.mk.injEq,and_true]at c1;obtain⟨c1a,c1b,c1c⟩:=c1;subst c1a;subst c1c;have Afg : (FG.take n').length=n':=by grind
   obtain⟨k3,k4⟩:=k1.move 1000 2000 Cl rfl trivial ho' (.arr sz (FG.take n')) (.slice (some ⟨b,0,none⟩) n' cap) n' true B0 (fun hk=>by
    refine⟨by simp[Gh.upd],by grind [Gh.upd],fun cs hcs=>m3 cs (Db hcs),.inr ⟨b,cap,E',lD,by grind [Gh.upd],by simp[Gh.upd],by omega,c4,c5,?_,c7⟩⟩
    have:=(c6.mono hk (fun _ h=>h) (fun _ h=>h.elim)).take (n'*sz)
    grind [LI,Nat.mul_le_mul_right])
   have Aao:AL (AL (Ai [(1000,HO.arr sz FG)] Ac) 1000 .dead) 2000 (.arr sz (FG.take n'))=Ai [(1000,.dead),(2000,.arr sz (FG.take n'))] Ac:=by
    funext i
    by_cases e1:i=2000
    .subst e1;rw[A0];rfl
    .rw[BW _ _ _ _ e1]
     by_cases e2:i=1000
     .subst e2;rw[A0];rfl
     grind [BW,Ai,DF]
   rw[Aao]at k3 k4;exact⟨_,.msl 2000 n',_,_,rfl,⟨rfl,FG,f2,rfl⟩,.msl _ 2000 n' (some ⟨b,0,none⟩) cap (by intro c;cases c) (by simp[Gh.upd]) (by simp[Gh.upd]) (.inr ⟨b,rfl⟩) (fun _=>by simp[Gh.upd]),k3,k2.trans k4⟩
end
end Go.Eng
namespace Go.Eng
variable {h:Nat->HO}{r ty e m:Nat}{cx:Cx}{x:AV}{K:HK}
def mI(a b:Ft):Bool:=
 (match a.2 with | some r=>!I0 b.1 r | none=>true)&&(match b.2 with | some r=>!I0 a.1 r | none=>true)
def QC(ops:Array Oper)(oi:Oper)(fi:Ft)(D:List Nat)(k:Nat):List Oper->List Ft->Bool
 |o::r,f::fs=>(I0 D k||(oi.apart ops o&&mI fi f))&&QC ops oi fi D (k+1) r fs
 | [],[]=>true
 |_,_=>false
def WT(ops:Array Oper)(all:List Oper)(k:Nat):List Oper->List Ft->Bool
 |o::r,f::fs=>
  let D:=QK k [] 0 all
  (o.after.toList.all fun e=>!Region.binds .any e||Nat.blt e.on k)&&VE k D 0 all&&(D.all fun j=>Nat.blt k j&&Nat.blt j all.length)&&QC ops o f D (k+1) r fs&&WT ops all (k+1) r fs
 | [],[]=>true
 |_,_=>false
def ge(ops:Array Oper)(fs:List Ft):Bool:=Region.noSelect ops&&WT ops ops.toList 0 ops.toList fs
def Rw(f:Ft):Prop:=∀r,f.2=some r->r<10000000
def Tl:List Ft->Prop
 | []=>True
 |f::r=>Rw f/\Tl r
theorem AQ(l:List Nat):Rw (l,none):=fun _ h=>by cases h
theorem Eb{l:List Nat}(h:r<10000000):Rw (l,some r):=fun _ e=>by simp_all
theorem mJ{a b:Ft}(ha:Rw a)(hb:Rw b)(h:mI a b=true):T4 a b=true:=by
 obtain⟨a1,a2⟩:=a;obtain⟨b1,b2⟩:=b;unfold mI at h;unfold T4;rw[Am]at h⊢;refine⟨?_,?_⟩
 .cases a2 with
  |none=>rfl
  |some r=>
   have h1:(!I0 b1 r)=true:=h.1;show bO b1 r=true;unfold bO;rw[DF (show r≠Ya by have:=ha r rfl;grind [Ya]),F1,h1,show Nat.blt r 10000000=true by rw[Dx];exact ha r rfl];rfl
 .cases b2 with
  |none=>rfl
  |some r=>
   have h1:(!I0 a1 r)=true:=h.2;show bO a1 r=true;unfold bO;rw[DF (show r≠Ya by have:=hb r rfl;grind [Ya]),F1,h1,show Nat.blt r 10000000=true by rw[Dx];exact hb r rfl];rfl
theorem WB{ops:Array Oper}{oi:Oper}{fi:Ft}{D:List Nat}(hi:Rw fi):∀{l:List Oper} {fs:List Ft} {k:Nat},Tl fs->QC ops oi fi D k l fs=true->II ops oi fi D k l fs=true
 | [],[],_,_,h=>h
 |o::r,f::fs,k,hs,h=>by
  unfold QC at h;unfold II;rw[Am,Kb,Am]at h⊢;exact⟨h.1.imp id (fun q=>⟨q.1,mJ hi hs.1 q.2⟩),WB hi hs.2 h.2⟩
 | [],_::_,_,_,h=>by grind [QC]
 |_::_,[],_,_,h=>by grind [QC]
theorem ai{ops:Array Oper}{all:List Oper}:∀{l:List Oper} {fs:List Ft} {k:Nat},Tl fs->WT ops all k l fs=true->MI ops all k l fs=true
 | [],[],_,_,h=>h
 |o::r,f::fs,k,hs,h=>by
  unfold WT at h;unfold MI;simp only[Am]at h⊢;exact⟨⟨h.1.1,WB hs.1 hs.2 h.1.2⟩,ai hs.2 h.2⟩
 | [],_::_,_,_,h=>by grind [WT]
 |_::_,[],_,_,h=>by grind [WT]
theorem Jn{ops:Array Oper}{fs:List Ft}(hs:Tl fs)(h:ge ops fs=true):T5 ops fs=true:=by
 grind [ge,T5,ai]
theorem RR{d:Option Nat}{es es2:C0}(hty:(cx.T ty).d=.slice e)(hz:Nat.beq (cx.T e).zc.length (cx.T e).size=true)(Fg:(cx.T e).size=m+1)(hx:∀K' : C0->Prop,K' es2->LC h x K')(hr:h r=.tok (m+1) es.length)(hl:Bi (m+1) es2)(hb:(es.length+es2.length)*(cx.T e).bytes<=140737488355328)(hc:es.length+es2.length<=9223372036854775807)(hk:K (.slice (.id r (m+1)) (es++es2)) (AL h r (.tok (m+1) (es.length+es2.length)))):Ix cx d h ty (.slice (.id r (m+1)) es) x K:=by
 grind [Nat.beq_refl,Ix]
theorem RQ{d:Nat}{es2:C0}(hty:(cx.T ty).d=.slice e)(hz:Nat.beq (cx.T e).zc.length (cx.T e).size=true)(Fg:(cx.T e).size=m+1)(hx:∀K' : C0->Prop,K' es2->LC h x K')(hr:h (KL cx d)=.free)(ha:GT cx.pl.arr d=none)(hl:Bi (m+1) es2)(hb:es2.length*(cx.T e).bytes<=140737488355328)(hc:es2.length<=9223372036854775807)(hk:K (.slice (.id (KL cx d) (m+1)) es2) (AL h (KL cx d) (.tok (m+1) es2.length))):Ix cx (some d) h ty BE x K:=by
 grind [Ix,E4]
end Go.Eng
namespace Go.Eng
open Go.RowKit
section
variable {P:Program}
theorem M5{f:Nat}{args:List AV}{res:AV}(vals:List Value)(v:Value)(hE:Fz P f)(ha:args=vals.map .v)(sa:∀g w,Ba g w Fp res v)
  (h:∀w,(∃m,w.cell? ⟨gB,0,none⟩=some (.int .i64 m))->(∀x∈m6,w.cell? ⟨x.1,x.2.1,none⟩=x.2.2)->Calls P f vals.toArray w fun e w'=>e=.returned v/\Below w.heap.size w w'):IG P f args res:=by
 refine⟨hE,fun g w us hs hv hI=>?_⟩;have hu:us=vals.toArray:=by
  subst ha;rw[BK]at hs;refine Array.ext ch fun i h1 h2=>?_
  have:=hv i (.v (vals[i]' ch)) us[i] (by simp_all) (by simp_all)
  grind [Ba.v_eq]
 subst hu;refine(h w hI.glob.1.2 fun x hx=>(hI.glob.2 x hx).2).mono ?_
 rintro e w' ⟨rfl,q⟩
 have hK:Eu g w g w':=fun b o hb=>by
  grind [World.cell?,CV.slt,Go.RowKit.Below.block]
 refine⟨v,res,Ac,g,rfl,⟨rfl,rfl⟩,(sa g _).up _,⟨q.os,q.tape,q.output,q.size,fun b hb _=>q.block b hb,fun b o hs=>BY (hI.slt b o hs) q.size,fun _=>trivial,fun _ _ _ h=>h.elim,fun _ _ h=>h.elim,fun b o hs=>.inl hs,hI.glob.keep hK⟩,⟨.refl _ _,fun _ h=>h,hK⟩⟩
end
end Go.Eng
namespace Go.Eng
variable {fn:Func}{ps:Array Tmp}{args:List AV}{c GT body:Code}(cx:Cx)(σ:Jk)
def Yu:Obj->Bool
 |.cells ..=>false
 |.map ..=>false
 |.mapIter ..=>false
 |.loop r=>!Pj [] r.body
 |_=>true
structure cG(n0 x:Nat)(w:World)(g:Gh)(h:Nat->HO)(w' : World)(g' : Gh)(h' : Nat->HO):Prop where
 os:w'.os=w.os
 tape:w'.tape=w.tape
 output:w'.output=w.output
 size:w.heap.size<=w'.heap.size
 frame:∀b,b<n0->b≠x->(∀r,(h r).live->g.own r≠some b)->w'.heap[b]?=w.heap[b]?
 loc:∀r b,(h' r).live->g'.own r=some b->n0<=b\/∃r',(h r').live/\g.own r'=some b
 sg:∀b o,g'.S b o->g.S b o\/n0<=b\/∃r',(h r').live/\g.own r'=some b
 le:Le h g w h' g' w'
section
variable {P:Program}{N:Nat}{ds:List Deferred}{n0 x:Nat}{w w' w1 w2:World}{g g' g1 g2:Gh}{h h' h1 h2:Nat->HO}
theorem cG.trans(a:cG n0 x w g h w1 g1 h1)(b:cG n0 x w1 g1 h1 w2 g2 h2):cG n0 x w g h w2 g2 h2 where
 os:=b.os.trans a.os
 tape:=b.tape.trans a.tape
 output:=b.output.trans a.output
 size:=AH a.size b.size
 frame c hc hx hn:=(b.frame c hc hx fun r hl e=>by
  rcases a.loc r c hl e with h | ⟨r',h1,h2⟩<;>grind).trans (a.frame c hc hx hn)
 loc r c hl e:=by
  rcases b.loc r c hl e with h | ⟨r',h1,h2⟩
  .omega
  .exact a.loc r' c h1 h2
 sg c o hs:=by
  rcases b.sg c o hs with h | h | ⟨r',h1,h2⟩
  .exact a.sg c o h
  .omega
  .rcases a.loc r' c h1 h2 with h | h<;>simp_all
 le:=a.le.trans b.le
theorem cG.of_inv(hI:CV w g h h' g' w')(hL:Le h g w h' g' w')(hn:n0<=w.heap.size):cG n0 x w g h w' g' h' where
 os:=hI.os
 tape:=hI.tape
 output:=hI.output
 size:=hI.size
 frame c hc _ qE:=hI.frame c ch qE
 loc r c hl e:=by
  rcases(hI.loc r c hl e).2 with h | h<;>grind
 sg c o hs:=by
  grind [CV.sg]
 le:=hL
theorem CV.base(hI:CV w g h h' g' w'):CV w' g' h' h' g' w' where
 os:=rfl
 tape:=rfl
 output:=rfl
 size:=Ap _
 frame _ _ _:=rfl
 slt:=hI.slt
 objs:=hI.objs
 inj:=hI.inj
 loc r b hl e:=⟨(hI.loc r b hl e).1,.inr ⟨r,hl,e⟩⟩
 sg _ _ hs:=.inl hs
 glob:=hI.glob
theorem CV.of_seg(hI:CV w' g' h' h' g' w')(s:cG w.heap.size x w g h w' g' h')(hx:x<w.heap.size->w'.heap[x]?=w.heap[x]?):CV w g h h' g' w' where
 os:=s.os
 tape:=s.tape
 output:=s.output
 size:=s.size
 frame b hb hn:=by
  grind [cG.frame]
 slt:=hI.slt
 objs:=hI.objs
 inj:=hI.inj
 loc r b hl e:=⟨(hI.loc r b hl e).1,s.loc r b hl e⟩
 sg:=s.sg
 glob:=hI.glob
theorem PY{U:Nat->Prop}{r b:Nat}{o:HO}{ob:Obj}(ho:DR g w U r o)(hl:o.live)(e:g.own r=some b)(hb:w.heap[b]?=some ob)(hd:Yu ob=true):False:=by
 cases o with
 |free=>exact hl
 |dead=>exact hl
 |ro cs=>exact hl
 |rom sh B1=>exact hl
 |cells cs=>
  obtain⟨_,b',E,vs,h1,_,h3,_⟩:=ho;rw[e]at h1;cases h1;rw[hb]at h3;cases h3;cases hd
 |tok sz n=>
  obtain⟨_,_,a,cap,_,(⟨_,h1⟩ | ⟨_,b',E,vs,off,_,h1,⟨_,h3,_⟩,_⟩)⟩:=ho
  .simp_all
  .rw[e]at h1;cases h1;rw[hb]at h3;cases h3;cases hd
 |vox v=>exact hl
 |hol sz es i c av=>
  obtain⟨_,_,_,b',cap,E,vs,_,h1,_,h3,_⟩:=ho;rw[e]at h1;cases h1;rw[hb]at h3;cases h3;cases hd
 |bld x=>
  obtain⟨_,b',p,v,h1,_,h3,_⟩:=ho;rw[e]at h1;cases h1;rw[hb]at h3;cases h3;cases hd
 |bbf n=>
  obtain⟨_,_,(⟨_,_,h1⟩ | ⟨b',cap,Ei,_,h1,_,_,h3,_⟩)⟩:=ho
  .simp_all
  .rw[e]at h1;cases h1;rw[hb]at h3;cases h3;cases hd
 |raw b' gW=>
  obtain⟨_,h1,h2,h3,_⟩:=ho;rw[e]at h1;cases h1;rw[hb]at h2;cases h2;cases ob<;>simp[Yu,zq]at hd h3
  simp_all
 |var sz v n=>
  obtain⟨_,_,a,cap,_,(⟨_,h1⟩ | ⟨_,b',E,vs,off,_,h1,⟨_,h3,_⟩,_⟩)⟩:=ho
  .simp_all
  .rw[e]at h1;cases h1;rw[hb]at h3;cases h3;cases hd
 |arr sz es=>
  obtain⟨_,_,_,(⟨_,_,h1⟩ | ⟨b',cap,E,vs,_,h1,_,h3,_⟩)⟩:=ho
  .simp_all
  .rw[e]at h1;cases h1;rw[hb]at h3;cases h3;cases hd
 |map sh B1=>
  obtain⟨_,b',es,ck,h1,_,h3,_⟩:=ho;rw[e]at h1;cases h1;rw[hb]at h3;cases h3;cases hd
 |mapU sh B1=>
  obtain⟨_,b',es,ck,h1,_,h3,_⟩:=ho;rw[e]at h1;cases h1;rw[hb]at h3;cases h3;cases hd
 |iter all rem Ei=>
  obtain⟨_,b',mb,KE,seen,st,es,ck,h1,_,h3,_⟩:=ho;rw[e]at h1;cases h1;rw[hb]at h3;cases h3;cases hd
theorem CV.dullS(hI:CV w g h h g w)(ho:w'.os=w.os/\w'.tape=w.tape/\w'.output=w.output)(Fg:w.heap.size<=w'.heap.size)
  (hb:∀b,b<w.heap.size->w'.heap[b]?=w.heap[b]?\/∃o o',w.heap[b]?=some o/\w'.heap[b]?=some o'/\Yu o=true/\Yu o'=true)
  (hn:∀b,b<n0->b≠x->w'.heap[b]?=w.heap[b]?):CV w' g h h g w'/\cG n0 x w g h w' g h:=by
 have hk:Eu g w g w':=fun b o hs=>by
  refine⟨hs,?_⟩;rcases hb b (hI.slt b o hs)with e | ⟨ob,gW,e1,e2,d1,d2⟩
  .grind [World.cell?]
  .refine⟨?_,fun es ck he=>?_⟩
   .simp only[World.cell?,e1,e2];cases ob<;>cases gW<;>first | rfl | (cases d1;done) | (cases d2;done)
   .rw[e1]at he;cases he;cases d1
 have YQ:∀r b,(h r).live->g.own r=some b->w'.heap[b]?=w.heap[b]?:=fun r b hl e=>by
  rcases hb b (hI.loc r b hl e).1 with e' | ⟨ob,gW,e1,_,d1,_⟩
  .exact e'
  .exact(PY (hI.objs r) hl e e1 d1).elim
 refine⟨⟨rfl,rfl,rfl,Ap _,fun _ _ _=>rfl,fun b o hs=>BY (hI.slt b o hs) Fg,fun r=>?_,hI.inj,fun r b hl e=>⟨BY (hI.loc r b hl e).1 Fg,.inr ⟨r,hl,e⟩⟩,fun _ _ hs=>.inl hs,hI.glob.keep hk⟩,⟨ho.1,ho.2.1,ho.2.2,Fg,fun b uD hx _=>hn b uD hx,fun r b hl e=>.inr ⟨r,hl,e⟩,fun _ _ hs=>.inl hs,⟨.refl _ _,fun _ h=>h,hk⟩⟩⟩;exact(hI.objs r).same hk (fun _ h=>h) (.refl _ _) rfl rfl rfl rfl fun b hl e=>⟨YQ r b hl e,fun _ h=>h⟩
theorem CV.put(hI:CV w g h h g w){l:Nat}{o o' : Obj}(hl:w.heap[l]?=some o)(hd:Yu o=true)(yP : Yu o'=true)(hx:n0<=l\/l=x) :
  CV (w.putObj l o') g h h g (w.putObj l o')/\cG n0 x w g h (w.putObj l o') g h:=by
 grind [World.putObj,CV.dullS]
theorem CV.allocS(hI:CV w g h h g w)(o:Obj)(hn:n0<=w.heap.size):CV (w.alloc o) g h h g (w.alloc o)/\cG n0 x w g h (w.alloc o) g h:=by
 refine hI.dullS ⟨rfl,rfl,rfl⟩ (by simp_all) (fun b hb=>.inl (heap_alloc_old _ _ hb)) (fun b hb _=>heap_alloc_old _ _ ch)
end
abbrev Is(fn:FuncId)(tm:Array Value)(ps:Array Tmp)(GT body:Code)(D:Nat)(s:LoopState):Loop:=
 { state:=s,pending:=none,fn:=fn,tmps:=tm,params:=ps,assign:=GT,body:=body,defers:=D }
def rF:List Nat->List AV->(Nat->AV)->Nat->AV
 |p::ps,v::vs,e=>rF ps vs (Ka e p v)
 |_,_,e=>e
section
variable {P:Program}{N:Nat}{w:World}{g:Gh}
theorem aw{U:Nat->Prop}:∀{ps:List Nat} {args:List AV} {vals:List Value} {tm:Array Value} {env:Nat->AV},vals.length=args.length->args.length=ps.length->(∀p∈ps,p<tm.size) ->
  (∀(i:Nat) (av:AV) (x:Value),args[i]?=some av->vals[i]?=some x->Ba g w U av x)->(∀i,Ba g w U (env i) (tm.getD i undef)) ->
  ((ps.zip vals).foldl (fun t p=>t.setIfInBounds p.1 p.2) tm).size=tm.size/\∀i,Ba g w U (rF ps args env i) (((ps.zip vals).foldl (fun t p=>t.setIfInBounds p.1 p.2) tm).getD i undef)
 | [],args,vals,tm,env,_,h2,_,_,he=>by
  have:args=[]:=AT h2
  subst this;exact⟨rfl,he⟩
 |p::ps,[],vals,tm,env,_,h2,_,_,_=>by cases h2
 |p::ps,a::args,[],tm,env,h1,_,_,_,_=>by cases h1
 |p::ps,a::args,v::vals,tm,env,h1,h2,h3,h4,he=>by
  have hp:=h3 p (Af ..)
  obtain⟨q1,q2⟩:=aw (ps:=ps) (args:=args) (vals:=vals) (tm:=tm.setIfInBounds p v) (env:=Ka env p a) (by simp_all) (by simp_all) (fun q hq=>by simp_all)
   (fun i av x e1 e2=>h4 (i+1) av x (by simp_all) (by simp_all)) (fun i=>by
    by_cases e:i=p
    .subst e;have e1:Ka env i a i=a:=by simp[Ka]
     have e2:(tm.setIfInBounds i v).getD i undef=v:=by simp_all
     rw[e1,e2];exact h4 0 a v rfl rfl
    .have e1:Ka env p a i=env i:=by grind [Ka,DF]
     have e2:(tm.setIfInBounds p v).getD i undef=tm.getD i undef:=by
      simp[Array.getD_eq_getD_getElem?,Array.getElem?_setIfInBounds_ne (Ne.symm e)]
     simp_all)
  exact⟨by simp_all,q2⟩
def ZK(P:Program)(Y:Gh->World->Prop)(σ:Jk)(f:Nat)(args:List AV)(h0:Nat->HO)(Q:AV->(Nat->HO)->Prop):Prop:=
 Fz P f/\∀(g:Gh) (w:World) (vals:Array Value),vals.size=args.length->(∀(i:Nat) (av:AV) (x:Value),args[i]?=some av->vals[i]?=some x->Ba g w (AI h0) av x) ->
  CV w g h0 h0 g w->(∀h' g' w',CV w g h0 h' g' w'->Le h0 g w h' g' w'->Y (DT σ g') w') ->
  Calls P f vals w fun e w'=>∃v r h' g',e=.returned v/\Q r h'/\Ba g' w' (AI h') r v/\CV w g h0 h' g' w'/\Le h0 g w h' g' w'
theorem nP{Y:Gh->World->Prop}{l:Nat}{f:Nat}{H0:List (Nat×HO)}{Q:AV->(Nat->HO)->Prop}(hP:cx.P=P)(hT:Ci P cx.T)(hm:P.follows .mixedOrders=true)(hx:cx.ext=true)(hf:P.funcs[f]?=some fn)(hn : (fn.name == "runtime.NumGoroutine") = false)(hb : fn.body = some c)(hN : args.length <= fn.ntmps)(hc : Ey fn.ntmps c = true)(hσ : (GX σ && IL σ H0) = true)(hy:cx.yp=fun l' σ' g w=>l'=l->σ'=σ->Y g w)(hk:QD cx c (ap cx fn.results.toList σ Q) ⟨Pw args,Ai H0 Ac⟩):ZK P Y σ f args (Ai H0 Ac) Q:=
 ⟨⟨fn,hf,hn,by simp_all⟩,fun g w vals hs hv hI hp=>aK cx σ hP hT hm hx hf hn hb hN hc hσ hk hs hv hI fun l' σ' h' g' w' _ q1 q2=>by
  grind⟩
end
def rc(cx:Cx):Nat->Code->(Ex->St->Prop)->(Code->Code->St->Prop)->St->Prop
 |0,.seq (.seq a b) d,Q,K,st=>QD cx a (fun e EC=>match e with |.normal=>K b d EC |e=>Q e EC) st
 |0,.seq b d,_,K,st=>K b d st
 |n+1,.seq a b,Q,K,st=>QD cx a (fun e EC=>match e with |.normal=>rc cx n b Q K EC |e=>Q e EC) st
 |_,_,_,_,_=>False
section
variable {P:Program}{N:Nat}{ds:List Deferred}{w0:World}{g0:Gh}{h0:Nat->HO}{st:St}{g:Gh}{a:Act}{w:World}
theorem rd{cx:Cx}(hP:cx.P=P)(hT:Ci P cx.T)(hm:P.follows .mixedOrders=true)(hE:L4 cx h0)(hY:∀l σ h g w,Er σ=true->CV w0 g0 h0 h g w->Le h0 g0 w0 h g w->cx.yp l σ (DT σ g) w)
  {Qa:Ex->St->Prop} {K:Code->Code->St->Prop} {Q:Exit->Act->World->Prop} (hQ:∀e st g a w,e≠.normal->Qa e st->SR N ds w0 g0 h0 st g a w->Q e.real a w)
  (hK:∀b d st g a w,K b d st->SR N ds w0 g0 h0 st g a w->b.wpIn (Kj none) 0 P (Exit.then (d.wpIn (Kj none) 0 P Q) Q) a w) :
  ∀(n:Nat) (c:Code),Ey N c=true->∀{st:St} {g:Gh} {a:Act} {w:World},SR N ds w0 g0 h0 st g a w->rc cx n c Qa K st->c.wpIn (Kj none) 0 P Q a w:=by
 intro n
 induction n with
 |zero=>
  intro c hc st g a w hS hk;cases c with
  |seq y d=>
   simp only[Ey,Am]at hc;cases y with
   |seq x b=>
    have hk:QD cx x (fun e EC=>match e with | .normal=>K b d EC | e=>Qa e EC) st:=hk;simp only[Ey,Am]at hc;refine wpIn_seq (wpIn_seq (Oe hP hT hm hE hY none x hc.1.1 (Qa:=fun e EC=>match e with | .normal=>K b d EC | e=>Qa e EC) (fun e st g a w q hS=>?_) hS hk));cases e with
    |normal=>exact hK b d _ _ _ _ q hS
    |exit id=>exact hQ (.exit id) _ _ _ _ (fun e=>by cases e) q hS
    |ret=>exact hQ .ret _ _ _ _ (fun e=>by cases e) q hS
   |_=>exact wpIn_seq (hK _ d _ _ _ _ hk hS)
  |_=>exact hk.elim
 |succ n ih=>
  intro c hc st g a w hS hk;cases c with
  |seq x y=>
   simp only[Ey,Am]at hc;refine wpIn_seq (Oe hP hT hm hE hY none x hc.1 (Qa:=fun e EC=>match e with | .normal=>rc cx n y Qa K EC | e=>Qa e EC) (fun e st g a w q hS=>?_) hS hk);cases e with
   |normal=>exact ih y hc.2 hS q
   |exit id=>exact hQ (.exit id) _ _ _ _ (fun e=>by cases e) q hS
   |ret=>exact hQ .ret _ _ _ _ (fun e=>by cases e) q hS
  |_=>exact hk.elim
end
section
variable {P:Program}{N:Nat}{ds:List Deferred}{w0:World}{g0:Gh}{h0:Nat->HO}{st:St}{g:Gh}{a:Act}{w:World}
theorem SR.rebase{w1:World}{g1:Gh}{h1:Nat->HO}(hS:SR N ds w0 g0 h0 st g a w)(hI:CV w1 g1 h1 st.h g w)(hL:Le h1 g1 w1 st.h g w):SR N ds w1 g1 h1 st g a w:=⟨hI,hL,hS.dfs,hS.size,hS.slots⟩
theorem gZ{cx:Cx}(hT:Ci P cx.T){H0:List (Nat×HO)}{σ:Jk}(hσ:GX σ=true)(w7:IL σ H0=true){Q:AV->(Nat->HO)->Prop}(hS:SR N ds w0 g0 (Ai H0 Ac) st g a w)(hk:ky cx st fn.results.toList σ Q) :
  ∃v,(results fn a.tmps).run P w=.ok v w/\∃r h' g',Q r h'/\Ba g' w (AI h') r v/\CV w0 g0 (Ai H0 Ac) h' g' w/\Le (Ai H0 Ac) g0 w0 h' g' w:=by
 obtain⟨g2,i1,i2⟩:=Np cx.pl.fin hS.inv;have Up : SR N ds w0 g0 (Ai H0 Ac) ⟨st.t,PJ st.h cx.pl.fin⟩ g2 a w:=⟨i1,hS.le.trans i2,hS.dfs,hS.size,fun i=>(hS.slots i).le i2⟩;obtain⟨l,vs,h1,h2,h3,h4,h5⟩:=Ti hT Up _ hk;obtain⟨hR,j1,j2⟩:=Pz hσ w7 i1 Up.le;have CQ:(results fn a.tmps).run P w=.ok (if h:vs.toArray.size=1 then vs.toArray[0]else .tuple vs.toArray) w:=by
  rw[OK,show fn.results=fn.results.toList.toArray by simp,List.mapM_toArray];simp_all
 match l,vs,h1,h3,h5,CQ with
 | [v],[x],h1,h3,h5,CQ=>exact⟨x,by simp_all,_,_,_,h1,(h5 0 v x rfl rfl).ren hR,j1,j2⟩
 | [],vs,h1,h3,h5,CQ=>
  have:vs=[]:=AT h3
  subst this;exact⟨.tuple #[],by simp_all,_,_,_,h1,Ba.ren hR (.tup _ [] _ rfl fun i av x q=>by simp_all),j1,j2⟩
 |v::v' :: l,vs,h1,h3,h5,CQ=>
  refine⟨.tuple vs.toArray,?_,_,_,_,h1,Ba.ren hR (.tup _ _ _ ch fun i av x q1 q2=>h5 i av x q1 (by simp_all)),j1,j2⟩;simp_all
theorem xI{ur s:Nat}{rest:Code}(hP:cx.P=P)(hT:Ci P cx.T)(hm:P.follows .mixedOrders=true)(hx:cx.ext=true){σ:Jk}{H0 Hn:List (Nat×HO)}(hσ:(GX σ&&IL σ H0)=true)(hσn:IL σ Hn=true){env:Nat->AV}{gf:Nat}{caps:List AV}(hF:env s=.clo gf caps){Qv:AV->(Nat->HO)->Prop}(hIT:∀(l D:Nat) (f' : FuncId) (tm:Array Value),tm.size=N->ZK P (fun g w=>w.heap[l]?=some (.loop (Is f' tm ps GT body D .ready))/\∀i,Ba g w (AI (Ai H0 Ac)) (env i) (tm.getD i undef)) σ gf
   (.v (.func (.yield l) #[] #[])::caps) (Ai H0 Ac) fun _ h'=>h'=Ai Hn Ac)(hcr:Ey N rest=true)(hbk:Pj [] body=false)(AaH:QD cx rest (ap cx fn.results.toList σ Qv) ⟨env,Ai Hn Ac⟩)(hY:∀l σ g w,cx.yp l σ g w){a:Act}(ha:a.defers=[])(hN:a.tmps.size=N)(hI:CV w g (Ai H0 Ac) (Ai H0 Ac) g w)(Ov:∀i,Ba g w (AI (Ai H0 Ac)) (env i) (a.tmps.getD i undef)){R:Ending->World->Prop}(hR:∀v r h' g' w',Qv r h'->Ba g' w' (AI h') r v->CV w g (Ai H0 Ac) h' g' w'->Le (Ai H0 Ac) g w h' g' w'->R (.returned v) w') :
  (Code.block ur (.rangeFunc (.tmp s) ps GT body)).wpIn (Kj none) 0 P (Exit.then (rest.wpIn (Kj none) 0 P (bodyPostM (Kj none) 0 P fn R)) (bodyPostM (Kj none) 0 P fn R)) a w:=by
 simp only[Am]at hσ;have hdl:∀f' tm D s,Yu (.loop (Is f' tm ps GT body D s))=true:=fun _ _ _ _=>by show(!Pj [] body)=true;simp_all
 refine wpIn_block (wpIn_rangeFunc fun f' _=>?_);have hs:=Ov s;rw[hF]at hs;have uH:a.eval (.tmp s)=a.tmps.getD s undef:=rfl;generalize hfv:a.tmps.getD s undef=fv at hs uH;cases hs with
 |clo _ _ _ lb Fg MQ=>
 obtain⟨i0,s0⟩:=hI.allocS (n0:=w.heap.size) (x:=w.heap.size) (.deferred (some [])) (Ap _);obtain⟨i1,s1⟩:=i0.allocS (n0:=w.heap.size) (x:=w.heap.size) (.loop (Is f' a.tmps ps GT body w.heap.size .ready)) (by simp_all);generalize hW:(w.alloc (.deferred (some []))).alloc (.loop (Is f' a.tmps ps GT body w.heap.size .ready))=W1 at i1 s1;have Aky:W1.heap.size=w.heap.size+2:=by grind [World.size_alloc]
 have hl:W1.heap[w.heap.size+1]?=some (.loop (Is f' a.tmps ps GT body w.heap.size .ready)):=by
  grind [World.alloc_heap_new]
 have hD:W1.heap[w.heap.size]?=some (.deferred (some [])):=by
  grind [heap_alloc_old,World.alloc_heap_new]
 have OX:∀b ob,W1.heap[b]?=some ob->Yu ob=true->∀r,((Ai H0 Ac) r).live->g.own r≠some b:=fun b ob hb hd r hr e=>PY (i1.objs r) hr e hb hd;have S1:=s0.trans s1;have hit:=hIT (w.heap.size+1) w.heap.size f' a.tmps hN
 refine⟨w.heap.size+1,[{ target:=.collected w.heap.size,args:=#[] }],W1,{ target:=.fn (.func gf) lb,args:=#[.func (.yield (w.heap.size+1)) #[] #[]] },W1,gf,
  #[.func (.yield (w.heap.size+1)) #[] #[]]++lb,W1,?_,?_,fun _ _=>trivial,?_,fun e=>(by cases e),?_⟩
 .grind [run_enterLoop_outer]
 .simp only[resolve,uH];simp[go_sem]
 .simp only[invoke];rw[GN hit.1]
 refine callsIn_wide.2 ((hit.2 g W1 _ (by grind) (fun i av x e1 e2=>?_) i1 (fun h' g' w' q1 q2=>?_)).mono ?_)
 .cases i with
  |zero=>
   grind [Ba.v]
  |succ i=>
   grind [Ba.le,cG.le]
 .obtain⟨_,_,j2⟩:=Pz hσ.1 hσ.2 q1 q2;refine⟨(q1.frame _ ch (OX _ _ hl (hdl _ _ _ _))).trans hl,fun i=>?_⟩;exact((Ov i).le S1.le).mono j2.keeps (fun _ h=>h) j2.gh
 rintro e w2 ⟨v,r,h',g2,rfl,rfl,_,q3,q4⟩
 have jN:w2.heap[w.heap.size+1]?=some (.loop (Is f' a.tmps ps GT body w.heap.size .ready)):=(q3.frame _ ch (OX _ _ hl (hdl _ _ _ _))).trans hl;have hD2:w2.heap[w.heap.size]?=some (.deferred (some [])):=(q3.frame _ ch (OX _ _ hD rfl)).trans hD;refine⟨none,_,run_endLoop jN (fun e=>by cases e),?_⟩;obtain⟨i4,s4⟩:=q3.base.put (n0:=w.heap.size) (x:=w.heap.size) (o':=.loop { Is f' a.tmps ps GT body w.heap.size .ready with state:=.exhausted }) jN (hdl _ _ _ _) (hdl f' a.tmps w.heap.size .exhausted) (.inl ch);have S4:=(S1.trans (cG.of_inv q3 q4 ch)).trans s4;generalize hW4:w2.putObj (w.heap.size+1) (.loop { Is f' a.tmps ps GT body w.heap.size .ready with state:=.exhausted })=w4 at i4 s4 S4;have hD4:w4.heap[w.heap.size]?=some (.deferred (some [])):=by grind [World.putObj_heap_other]
 have hE:L4 cx (Ai Hn Ac):=by unfold L4;rw[hx];exact fun i hi=>⟨(Gv hσn i hi).1,(Gv hσn i hi).2.1⟩
 have hS4:SR N [{ target:=.collected w.heap.size,args:=#[] }] w4 g2 (Ai Hn Ac) ⟨env,Ai Hn Ac⟩ g2 { a with defers:=[{ target:=.collected w.heap.size,args:=#[] }]++a.defers } w4:=
  ⟨i4,.refl _ _ _,by simp_all,hN,fun i=>(Ov i).le S4.le⟩
 refine Oe hP hT hm hE (fun l σ _ _ w _ _ _=>hY l σ _ w) none rest hcr (fun e st5 g5 a5 w5 hq uC=>?_) hS4 AaH;have fin:ky cx st5 fn.results.toList σ Qv->LeavesInM (Kj none) 0 P fn a5.tmps R a5.defers .returning w5:=by
  intro hk;have hD5:w5.heap[w.heap.size]?=some (.deferred (some [])):=(uC.inv.frame _ (Cu.1 hD4).1 (fun r hr e=>PY (i4.objs r) hr e hD4 rfl)).trans hD4;rw[uC.dfs];refine⟨by simp,.inl ⟨w.heap.size,_,rfl,run_takeDeferred hD5,?_⟩⟩;obtain⟨i6,s6⟩:=uC.inv.base.put (n0:=w.heap.size) (x:=w.heap.size) (o':=.deferred none) hD5 rfl rfl (.inr rfl);have hS6:SR N [{ target:=.collected w.heap.size,args:=#[] }] (w5.putObj w.heap.size (.deferred none)) g5 st5.h st5 g5 a5 (w5.putObj w.heap.size (.deferred none)):=⟨i6,.refl _ _ _,uC.dfs,uC.size,fun i=>(uC.slots i).le s6.le⟩;have S6:=(S4.trans (cG.of_inv uC.inv uC.le (AH (Ap _) S4.size))).trans s6;obtain⟨v,k2,r,h7,g7,k1,k5,k3,k4⟩:=gZ (H0:=H0) hT hσ.1 hσ.2 (SR.rebase hS6 (i6.of_seg S6 fun h=>absurd h (Nat.lt_irrefl _)) S6.le) hk;exact⟨v,k2,hR v r h7 g7 _ k1 k5 k3 k4⟩
 cases e with
 |normal=>exact fin hq
 |ret=>exact fin hq
 |exit id=>exact hq.elim
end
section
variable {P:Program}{N:Nat}{w:World}{g:Gh}
theorem lr(o k r:Nat){H:List (Nat×HO)}(cx:Cx)(hP:cx.P=P)(hT:Ci P cx.T)(hm:P.follows .mixedOrders=true)(hx:cx.ext=true){σ:Jk}(hσ:(GX σ&&IL σ H)=true){fn:FuncId}{tm:Array Value}{D l:Nat}{env:Nat->AV}{U:Nat->Prop}{Q:AV->(Nat->HO)->Prop}(hps:args.length=ps.toList.length)(hN:tm.size=N)(hpN:(ps.toList.all fun p=>Nat.blt p N)=true)(hca:Ey N GT=true)(hcb:Ey N body=true)(hU:∀i,U i->AI (Ai H Ac) i)(hk:QD cx GT (fun e st=>match e with | .normal=>QD cx body (fun e st=>match e with | .normal=>rvK st.h o k r fun h'=>Q (.v (.bool true)) (Fv σ (PJ h' cx.pl.fin)) | _=>False) st | _=>False) ⟨rF ps.toList args env,Ai H Ac⟩)(hY:∀l σ g w,cx.yp l σ g w:=by exact fun _ _ _ _=>trivial)(hbk:Pj [] body=false:=by kernel_rfl) :
  I6 P (fun g w=>w.heap[l]?=some (.loop (Is fn tm ps GT body D .ready))/\∀i,Ba g w U (env i) (tm.getD i undef)) l args (Ai H Ac) Q:=by
 simp only[Am]at hσ;intro g w vals hs hv hI ⟨hl,Ov⟩;have E3:l<w.heap.size:=(Cu.1 hl).1;have hdl:∀s,Yu (.loop (Is fn tm ps GT body D s))=true:=fun s=>by show(!Pj [] body)=true;simp_all
 have hE:L4 cx (Ai H Ac):=by unfold L4;rw[hx];exact fun i hi=>⟨(Gv hσ.2 i hi).1,(Gv hσ.2 i hi).2.1⟩
 have OX:∀r,((Ai H Ac) r).live->g.own r≠some l:=fun r hr e=>PY (hI.objs r) hr e hl (hdl _);have AhQ:∀(t0:Array Value),(ps.zip vals).foldl (fun tmps (p:Nat×Value)=>tmps.setIfInBounds p.1 p.2) t0=(ps.toList.zip vals.toList).foldl (fun t p=>t.setIfInBounds p.1 p.2) t0:=fun t0=>by
  grind [Array.toList_zip]
 have hry:=run_yield (P:=P) (args:=vals) hl (by simp_all);refine⟨fn,_,GT,body,hry,roundIn_of_wpIn trivial ?_⟩;obtain⟨z1,z2⟩:=aw (U:=AI (Ai H Ac)) (ps:=ps.toList) (args:=args) (vals:=vals.toList) (tm:=tm) (env:=env) ch hps (fun p hp=>by
  grind [Nat.blt_eq]) (fun i av x e1 e2=>hv i av x e1 (by simp_all)) (fun i=>(Ov i).mono (.refl _ _) hU (.refl _ _))
 have hS0:SR N [] w g (Ai H Ac) ⟨rF ps.toList args env,Ai H Ac⟩ g { tmps:=(ps.zip vals).foldl (fun tmps (p:Nat×Value)=>tmps.setIfInBounds p.1 p.2) tm,defers:=[] } w:=by
  grind [SR.mk,Le.refl]
 refine Oe hP hT hm hE (fun l σ _ _ w _ _ _=>hY l σ _ w) (some l) GT hca (fun e st1 g1 a1 w1 hq nq=>?_) hS0 hk;cases e with
 |exit _=>simp_all
 |ret=>simp_all
 |normal=>
  have hl1:w1.heap[l]?=some (.loop (Is fn tm ps GT body D .ready)):=(nq.inv.frame l E3 OX).trans hl;refine⟨_,run_beginRound hl1 rfl,?_⟩;obtain⟨iS,sS⟩:=hI.put (n0:=w.heap.size) (x:=l) (o':=.loop (Is fn tm ps GT body D .busy)) hl (hdl _) (hdl _) (.inr rfl);have hlS:(w.putObj l (.loop (Is fn tm ps GT body D .busy))).heap[l]?=some (.loop (Is fn tm ps GT body D .busy)):=World.putObj_heap_same E3;have AfF:(w.putObj l (.loop (Is fn tm ps GT body D .busy))).heap.size=w.heap.size:=by simp_all
  obtain⟨_,sB⟩:=iS.dullS (w':=w) (n0:=w.heap.size) (x:=l) ⟨rfl,rfl,rfl⟩ ch (fun b _=>by
   grind [World.putObj_heap_other]) (fun b _ Ek=>(World.putObj_heap_other Ek).symm)
  obtain⟨i2,s2⟩:=nq.inv.base.put (n0:=w.heap.size) (x:=l) (o':=.loop (Is fn tm ps GT body D .busy)) hl1 (hdl _) (hdl _) (.inr rfl);have S2:=(sB.trans (cG.of_inv nq.inv nq.le (Ap _))).trans s2;have jN:(w1.putObj l (.loop (Is fn tm ps GT body D .busy))).heap[l]?=some (.loop (Is fn tm ps GT body D .busy)):=World.putObj_heap_same (Cu.1 hl1).1;have hI2:=i2.of_seg (by rw[AfF];exact S2) (fun _=>jN.trans hlS.symm);have hS2:SR N [] (w.putObj l (.loop (Is fn tm ps GT body D .busy))) g (Ai H Ac) st1 g1 a1 (w1.putObj l (.loop (Is fn tm ps GT body D .busy))):=⟨hI2,S2.le,nq.dfs,nq.size,fun i=>(nq.slots i).le s2.le⟩;refine Oe hP hT hm hE (fun l σ _ _ w _ _ _=>hY l σ _ w) (some l) body hcb (fun e st3 g3 a3 w3 hq hS3=>?_) hS2 hq;cases e with
  |exit _=>simp_all
  |ret=>simp_all
  |normal=>
   obtain⟨h3,g3',hS3,hq⟩:=pA hS3 hq;have hl3:w3.heap[l]?=some (.loop (Is fn tm ps GT body D .busy)):=(hS3.inv.frame l ch OX).trans hlS;refine⟨.bool true,w3.putObj l (.loop (Is fn tm ps GT body D .ready)),run_endRound none hl3,?_⟩;obtain⟨gf,if1,if2⟩:=Np cx.pl.fin hS3.inv;obtain⟨i4,s4⟩:=if1.base.put (n0:=w.heap.size) (x:=l) (o':=.loop (Is fn tm ps GT body D .ready)) hl3 (hdl _) (hdl _) (.inr rfl);have S4:=(sS.trans (cG.of_inv if1 (hS3.le.trans if2) ch)).trans s4;have hl4:(w3.putObj l (.loop (Is fn tm ps GT body D .ready))).heap[l]?=some (.loop (Is fn tm ps GT body D .ready)):=World.putObj_heap_same (Cu.1 hl3).1;have hI4:=i4.of_seg S4 (fun _=>hl4.trans hl.symm);obtain⟨_,j1,j2⟩:=Pz hσ.1 hσ.2 hI4 S4.le;exact⟨.bool true,.v (.bool true),_,_,rfl,hq,.v _ _,j1,j2⟩
end
def y8(h:Nat->HO)(o k r sz:Nat)(K:(Nat->HO)->Prop):Prop:=
 match h o with
 |.cells cs=>match JX cs k with
  |.v (.slice none 0 0)=>match h r with
   |.free=>K (AL (AL h r (.var sz 0 0)) o (.cells (EV cs k (.slice (.ver r sz 0) []))))
   |_=>False
  |_=>False
 |_=>False
section
variable {P:Program}{N:Nat}{ds:List Deferred}{w0:World}{g0:Gh}{h0:Nat->HO}{st:St}{g:Gh}{a:Act}{w:World}
theorem xo(hS:SR N ds w0 g0 h0 st g a w){o k r sz:Nat}{K:(Nat->HO)->Prop}(hk:y8 st.h o k r sz K):∃h' g',SR N ds w0 g0 h0 ⟨st.t,h'⟩ g' a w/\K h':=by
 unfold y8 at hk;split at hk
 .rename_i cs e0;split at hk
  .rename_i e1;split at hk
   .rename_i hf;have yU:o≠r:=fun e=>by simp_all
    have Xa:=JB cs k _ e1 B0
    obtain⟨m1,m2⟩:=hS.inv.upd r (.var sz 0 0) (.slice none 0 0) 0 true none g.S w none ⟨rfl,rfl,rfl,Ap _⟩ (fun _ _ _=>rfl) (fun b e=>by cases e) (fun _ _ h=>h) (fun _ _ h=>.inl h) (fun b o e=>by cases e) (fun b hh e=>by simp_all) B0
     (fun hu=>absurd hf hu) (fun _ _=>by
      obtain⟨u1,u2,u3,u4⟩:=Bl g r (.slice none 0 0) 0 true none g.S;exact⟨u3,u2,none,0,u1,.inl ⟨rfl,u4⟩⟩)
    generalize gD:g.upd r (.slice none 0 0) 0 true none g.S=g1 at m1 m2;have gr:g1.tk r=true/\g1.ln r=0/\g1.ρ r=.slice none 0 0:=by grind [Gh.upd]
    have wo : (AL st.h r (.var sz 0 0)) o=.cells cs:=by grind [BW]
    obtain⟨g3,p1,p2⟩:=Pk m1 wo Xa (new:=.slice (.ver r sz 0) []) (fun y hy=>by
     grind [AI,A0,cases Ba,Ba.ver,Ba.snil])
    exact⟨_,g3,⟨p1,hS.le.trans (m2.trans p2),hS.dfs,hS.size,fun i=>(hS.slots i).le (m2.trans p2)⟩,hk⟩
   simp_all
  simp_all
 simp_all
def RfV(o k r sz:Nat)(jq:Cx)(P:Program)(N:Nat)(fn:Func)(σ:Jk)(Q:AV->(Nat->HO)->Prop)(b rest:Code)(st:St):Prop:=
 y8 st.h o k r sz fun h1=>
  ∃(σF σr:Jk) (H0 Hn:List (Nat×HO)) (ur s:Nat) (ps:Array Tmp) (GT body:Code) (gf:Nat) (caps:List AV),
  b=.block ur (.rangeFunc (.tmp s) ps GT body)/\(Er σF&&D3 h1 0 0&&Di σF 0 0)=true/\Fv σF h1=Ai H0 Ac/\(GX σr&&IL σr H0)=true/\IL σr Hn=true /\
  ren (Cy σF) h1 (st.t s)=.clo gf caps /\
  (∀(l D:Nat) (f' : FuncId) (tm:Array Value),tm.size=N->ZK P (fun g w=>w.heap[l]?=some (.loop (Is f' tm ps GT body D .ready))/\∀i,Ba g w (AI (Ai H0 Ac)) (ren (Cy σF) h1 (st.t i)) (tm.getD i undef)) σr gf
   (.v (.func (.yield l) #[] #[])::caps) (Ai H0 Ac) fun _ h'=>h'=Ai Hn Ac) /\
  Ey N rest=true/\Pj [] body=false/\QD jq rest (ap jq fn.results.toList σr fun r h'=>Q (ren (Cy σ) (D8 σF 0 0 h1 h') (ren (Fb σF 0 0) h' r)) (Fv σ (D8 σF 0 0 h1 h')))
   ⟨fun i=>ren (Cy σF) h1 (st.t i),Ai Hn Ac⟩
theorem iQ (o k r sz : Nat){f : Nat}{args : List AV}{H : List (Nat × HO)}{Q : AV -> (Nat -> HO) -> Prop}(cx jq : Cx)(σ : Jk)(hP : cx.P = P)(hT : Ci P cx.T)(hP2 : jq.P = P)(hT2 : Ci P jq.T)(hm : P.follows .mixedOrders = true)(hx : cx.ext = true)(yZ : jq.ext = true)(hf : P.funcs[f]? = some fn)(hn : (fn.name == "runtime.NumGoroutine") = false)(hb:fn.body=some c)(hN:args.length<=fn.ntmps)(hc:Ey fn.ntmps c=true)(hσ:(GX σ&&IL σ H)=true)(n:Nat)(hk:rc cx n c (ap cx fn.results.toList σ fun r h'=>∃r',BM r r'/\Q r' h') (RfV o k r sz jq P fn.ntmps fn σ fun r h'=>∃r',BM r r'/\Q r' h') ⟨Pw args,Ai H Ac⟩)(hY:∀l σ g w,cx.yp l σ g w:=by exact fun _ _ _ _=>trivial)(hY2:∀l σ g w,jq.yp l σ g w:=by exact fun _ _ _ _=>trivial):AP P f args (Ai H Ac) Q:=by
 refine AP.mono (Q:=fun r h'=>∃r',BM r r'/\Q r' h') ?_ fun _ _ ⟨r',s,q⟩=>⟨r',s,q⟩;simp only[Am]at hσ;refine⟨⟨fn,hf,hn,by simp_all⟩,fun g w vals hs hv hI=>callsIn_wide.1 (callsIn_of_wp_marks (F:=Fence.wide) (n:=0) hf hb trivial ?_ rfl)⟩;have hE:L4 cx (Ai H Ac):=by unfold L4;rw[hx];exact fun i hi=>⟨(Gv hσ.2 i hi).1,(Gv hσ.2 i hi).2.1⟩
 have hS:SR fn.ntmps [] w g (Ai H Ac) ⟨Pw args,Ai H Ac⟩ g { tmps:=vals++Array.replicate (fn.ntmps-vals.size) undef,defers:=[] } w:=by
  refine⟨hI,.refl _ _ _,rfl,by simp_all,fun i=>?_⟩
  have:=Px (n:=fn.ntmps-vals.size) (args:=args) (vals:=vals.toList) ch (fun i av x q1 q2=>hv i av x q1 (by simp_all)) i
  grind [Array.getD_eq_getD_getElem?,Array.toList_append,Array.toList_replicate]
 refine rd hP hT hm hE (fun l σ _ _ w _ _ _=>hY l σ _ w) (fun e st g' a w' Ek hk hS=>?_) (fun b rest st g' a w' hk hS=>?_) n c hc hS hk
 .have out:ky cx st fn.results.toList σ (fun r h'=>∃r',BM r r'/\Q r' h')->LeavesInM (Kj none) 0 P fn a.tmps (fun e w'=>∃v r h' g',e=Ending.returned v/\(∃r',BM r r'/\Q r' h')/\Ba g' w' (AI h') r v/\CV w g (Ai H Ac) h' g' w'/\Le (Ai H Ac) g w h' g' w') a.defers .returning w':=by
   intro hk;obtain⟨v,q2,r,h',g2,q1,q3,q4,q5⟩:=gZ hT hσ.1 hσ.2 hS hk;rw[hS.dfs];exact⟨v,q2,v,r,h',g2,rfl,q1,q3,q4,q5⟩
  cases e with
  |normal=>simp_all
  |ret=>exact out hk
  |exit id=>exact hk.elim
 .obtain⟨h1,g',hS,hk⟩:=xo hS hk;obtain⟨σF,σr,H0,Hn,ur,s,ps,GT,body,gf,caps,rfl,k1,k2,k3,k4,k5,k6,k7,k9,k8⟩:=hk;have hσF:Er σF=true:=by simp_all
  obtain⟨AeL,hI1⟩:=YI hS.inv hσF;rw[k2]at hI1;have Ov:∀i,Ba (DT σF g') w' (AI (Ai H0 Ac)) (ren (Cy σF) h1 (st.t i)) (a.tmps.getD i undef):=fun i=>by
   have:=(hS.slots i).ren AeL
   simp_all
  refine Nk (Q:=fun r h'=>∃r',BM (ren (Cy σ) (D8 σF 0 0 h1 h') (ren (Fb σF 0 0) h' r)) r'/\Q r' (Fv σ (D8 σF 0 0 h1 h'))) (C:=fun R'=>(∀e iC,R' e iC->(∃v r h' g',e=Ending.returned v/\(∃r',BM r r'/\Q r' h')/\Ba g' iC (AI h') r v/\CV w g (Ai H Ac) h' g' iC/\Le (Ai H Ac) g w h' g' iC)) ->
   (Code.block ur (.rangeFunc (.tmp s) ps GT body)).wpIn (Kj none) 0 P (Exit.then (rest.wpIn (Kj none) 0 P (bodyPostM (Kj none) 0 P fn (fun e iC=>∃v r h' g',e=Ending.returned v/\(∃r',BM r r'/\Q r' h')/\Ba g' iC (AI h') r v/\CV w g (Ai H Ac) h' g' iC/\Le (Ai H Ac) g w h' g' iC))) (bodyPostM (Kj none) 0 P fn (fun e iC=>∃v r h' g',e=Ending.returned v/\(∃r',BM r r'/\Q r' h')/\Ba g' iC (AI h') r v/\CV w g (Ai H Ac) h' g' iC/\Le (Ai H Ac) g w h' g' iC))) a w')
   (fun h k h2=>h fun e w r=>h2 _ _ (k _ _ r)) hS.inv (d:=0) (nn:=0) k1 (fun _ uR=>?_) (fun v r h' g2 w2 q1 q2 q3 q4=>?_) (fun _ _ h=>h)
  .rw[k2]at uR;exact xI jq hP2 hT2 hm yZ k3 k4 k5 k6 k7 k9 k8 hY2 hS.dfs hS.size hI1 Ov fun v r h' g5 w5 q1 q2 q3 q4=>uR _ _ ⟨v,r,h',g5,rfl,q1,q2,q3,q4⟩
  .obtain⟨hR,j1,j2⟩:=Pz hσ.1 hσ.2 q2 (hS.le.trans q3);exact⟨v,_,_,_,rfl,q1,q4.ren hR,j1,j2⟩
end
end Go.Eng
namespace Go.Eng
open Go.Sort
end Go.Eng
namespace Go.Eng
end Go.Eng
namespace Go.Eng
open Go.Proofs
variable {P:Program}
theorem IG.lend{f:Nat}{sz:Nat}{es:C0}{vs:List Value}{x:Value}(hp:IG P f [.agg (.slice .none es::vs.map .v)] (.v x)) :
  AP P f [.agg (.msl 1000 es.length::vs.map .v)] (Ai [(1000,.arr sz es)] Ac) fun r h'=>r=.v x/\h'=Ai [(1000,.arr sz es)] Ac:=by
 refine⟨hp.1,fun g w us hs hv hI=>?_⟩;have ho:DR g w (AI (Ai [(1000,.arr sz es)] Ac)) 1000 (.arr sz es):=hI.objs 1000;have hl:∀r,(Ai [(1000,HO.arr sz es)] Ac r).live->r=1000:=fun r hr=>by
  unfold Ai at hr;cases e:Nat.beq r 1000 with
  |true=>simp_all
  |false=>rw[e]at hr;exact hr.elim
 obtain⟨t,hln,Fg,Aag⟩:=ho
 match us,hs with
 | ⟨[u]⟩,_=>
 have h0:=hv 0 _ u rfl rfl;generalize hU:AI (Ai [(1000,HO.arr sz es)] Ac)=U at h0;generalize hc:AV.msl 1000 es.length::vs.map AV.v=cs at h0;cases h0 with
 |agg _ _ us h1 h2 h3=>
  subst hc;have Ms:0<us.size:=by simp_all
  have hm:=h3 0 _ us[0] rfl (Cg Ms);generalize hy:us[0]=y at hm;cases hm with
  |msl _ _ _ a cap q1 q2 q3 q4 q5=>
   have hρ:=q5 hln.symm
   -- the ghost in which the array is stable
   obtain⟨S1,nq,hS2,hR⟩:∃S1:Nat->Nat->Prop,(∀b o,g.S b o->S1 b o)/\(∀b o,S1 b o->b<w.heap.size)/\Ba { g with S:=S1 } w Fp (.slice .none es) (.slice a es.length cap):=by
    rcases Aag with ⟨e1,e2,e3⟩ | ⟨b,MA,E,xs,e1,e2,e3,e4,e5,e6,e7⟩
    .subst e1;exact⟨g.S,fun _ _ h=>h,hI.slt,.snil _ _ _⟩
    .rw[e1]at hρ;cases hρ;have hK:Eu g w { g with S:=fun c o=>g.S c o\/c=b } w:=fun c o h=>⟨.inl h,rfl,fun _ _ h=>h⟩
     refine⟨fun c o=>g.S c o\/c=b,fun _ _ h=>.inl h,fun c o h=>h.elim (hI.slt c o) fun h=>?_,?_⟩
     .grind
     .exact Ba.slice_row e4 Fg e3 (e6.mono hK (fun _ h=>h) (fun _ h=>h.elim)) fun o _=>.inr rfl
   have hK:Eu g w { g with S:=S1 } w:=fun c o h=>⟨nq _ _ h,rfl,fun _ _ h=>h⟩;have hA:Ba { g with S:=S1 } w (AI Ac) (.agg (.slice .none es::vs.map .v)) (.agg us):=by
    refine .agg _ _ _ ch h2 fun i av z k1 k2=>?_
    match i,k1 with
    |0,k1=>
     have:us[0]?=some us[0]:=Cg Ms
     rw[this]at k2;cases k2;grind [Ba.up]
    |i+1,k1=>
     have k3:=h3 (i+1) av z k1 k2
     grind [Ba.v_eq,Ba.v]
   have hI1:CV w { g with S:=S1 } Ac Ac { g with S:=S1 } w:=
    ⟨rfl,rfl,rfl,Ap _,fun _ _ _=>rfl,hS2,fun _=>trivial,fun _ _ _ h=>h.elim,fun _ _ h=>h.elim,fun _ _ h=>.inl h,hI.glob.keep hK⟩
   refine(hp.2 { g with S:=S1 } w ⟨[Value.agg us]⟩ rfl (fun i av z k1 k2=>by
    grind) hI1).mono ?_
   rintro e w' ⟨v,r,h',g',rfl,⟨rfl,rfl⟩,p1,p2,p3⟩
   have qC:∀b,b<w.heap.size->w'.heap[b]?=w.heap[b]?:=fun b hb=>p2.frame b hb fun _ h=>h.elim;have hKw:Eu g w g w':=fun b o hS=>by
    grind [World.cell?]
   refine⟨v,.v x,_,g,rfl,⟨rfl,rfl⟩,by grind [Ba.v_eq,Ba.v],?_,⟨.refl _ _,fun _ h=>h,hKw⟩⟩;refine⟨p2.os,p2.tape,p2.output,p2.size,fun b hb _=>qC b hb,fun b o h=>BY (hI.slt b o h) p2.size,fun r=>?_,hI.inj,fun r b h1 h2=>?_,fun _ _ h=>.inl h,hI.glob.keep hKw⟩
   .exact(hI.objs r).same hKw (fun _ h=>h) (.refl _ _) rfl rfl rfl rfl fun b hb1 dK=>⟨qC b (hI.loc r b hb1 dK).1,fun _ h=>h⟩
   grind
end Go.Eng
namespace Go.Eng
section
variable {P:Program}
theorem XU{i:Nat}(h:AI Ac i):False:=h rfl
theorem aN{r i:Nat}{o:HO}(h:r≠i):Ai [(i,o)] Ac r=.free:=by
 simp only[Ai,DF h,F1];rfl
theorem cZ{f sz:Nat}{n:Int}(hE:Fz P f)
  (h:∀w:World,Calls P f #[.slice none 0 0,.int .i64 n] w fun e w'=>∃(G:Nat) (cs:Array Value) (T:TypeId),e=.returned (.slice (some ⟨w.heap.size,0,none⟩) 0 G)/\cs.size=G*sz/\w'=w.drew.alloc (.cells cs T)) :
  AP P f [BE,.v (.int .i64 n)] Ac fun r h'=>r=.slice (.id 2000 sz) []/\h'=Ai [(2000,.tok sz 0)] Ac:=by
 refine⟨hE,fun g w us hs hv hI=>?_⟩;have hu:us=#[.slice none 0 0,.int .i64 n]:=by
  have h0:=hv 0 BE (us[0]'(by simp_all)) rfl (Cg _);have h1:=hv 1 (.v (.int .i64 n)) (us[1]'(by simp_all)) rfl (Cg _)
  grind [Ba.v_eq]
 subst hu;refine(h w).mono ?_
 rintro e w' ⟨G,cs,T,rfl,hc,rfl⟩
 have EE:(w.drew.alloc (.cells cs T)).heap[w.heap.size]?=some (.cells cs T (0,0)):=Gx w.drew _ rfl;have YO:∀b,b<w.heap.size->(w.drew.alloc (.cells cs T)).heap[b]?=w.heap[b]?:=fun b hb=>heap_alloc_old (w:=w.drew) _ hb;have Fg:(w.drew.alloc (.cells cs T)).heap.size=w.heap.size+1:=World.size_alloc ..;obtain⟨g',nD⟩:∃g' : Gh,g'=⟨fun r=>bif Nat.beq r 2000 then .slice (some ⟨w.heap.size,0,none⟩) 0 G else g.ρ r,fun r=>bif Nat.beq r 2000 then 0 else g.ln r,fun r=>bif Nat.beq r 2000 then true else g.tk r,fun r=>bif Nat.beq r 2000 then some w.heap.size else g.own r,g.S⟩:=⟨_,rfl⟩;have eS:g'.S=g.S:=by rw[nD]
 have e1:g'.ρ 2000=.slice (some ⟨w.heap.size,0,none⟩) 0 G:=by simp_all
 have e2:g'.ln 2000=0:=by simp_all
 have e3:g'.tk 2000=true:=by simp_all
 have e4:g'.own 2000=some w.heap.size:=by simp_all
 have hK:Eu g w g' (w.drew.alloc (.cells cs T)):=fun b o hb=>by
  grind [World.cell?,CV.slt]
 have Kw:∀r,(Ai [(2000,HO.tok sz 0)] Ac r).live->r=2000:=fun r hr=>by
  by_cases e:r=2000
  .exact e
  .rw[aN e]at hr;exact hr.elim
 refine⟨_,_,_,g',rfl,⟨rfl,rfl⟩,.tok _ 2000 sz [] _ (.snil _ _ _) B0 (fun q=>by cases q) e3 (by simp_all) (fun _=>e1.symm),⟨rfl,rfl,rfl,by omega,fun b hb _=>YO b hb,fun b o hs=>?_,fun r=>?_,fun r r' b h1 h2 _ _=>(Kw r h1).trans (Kw r' h2).symm,fun r b hr hb=>?_,fun b o hs=>.inl (eS▸hs),?_⟩,⟨fun i hi=>(XU hi).elim,fun i hi=>(XU hi).elim,hK⟩⟩
 .rw[Fg]
  have:=hI.slt b o (eS▸hs);omega
 .by_cases e:r=2000
  .subst e;refine⟨e3,e2,_,G,e1,.inr ⟨Al _,w.heap.size,T,cs,0,rfl,e4,.of EE,by omega,fun o ho=>?_⟩⟩;rw[eS]at ho
   grind [CV.slt]
  .rw[aN e];trivial
 .grind
 .have:=hI.glob.keep hK
  omega
end
end Go.Eng
