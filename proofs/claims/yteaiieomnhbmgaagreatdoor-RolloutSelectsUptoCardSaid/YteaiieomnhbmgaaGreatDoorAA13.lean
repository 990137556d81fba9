/- Lemmas 13. -/
import Derived.Test.YteaiieomnhbmgaaGreatDoorAA12
import Derived.Shelf.GgSortFunc.InsertionK
import Derived.Below
import Derived.RangeFuncLeaves
import Derived.RangeFuncNested
namespace Go.Eng
open Go.Sort Go.Proofs
variable {α β:Type}{k:Nat}
theorem Sf{g:Gh}{w:World}{U:Nat->Prop}{cs fK : List AV}{vs lC : List Value}(h:vs.length=cs.length):Ck g w U (cs++fK) (vs++lC)↔Ck g w U cs vs/\Ck g w U fK lC:=by
 constructor
 .intro⟨h1,h2,h3⟩;refine⟨⟨h,fun x hx=>h2 x (CE _ hx),fun i av x q1 q2=>?_⟩,⟨by simp_all,fun x hx=>h2 x (Cv _ hx),fun i av x q1 q2=>?_⟩⟩
  .have a1:=(Bf.1 q1).1;have a2:=(Bf.1 q2).1;exact h3 i av x aa0 aa0
  .exact h3 (cs.length+i) av x aa0 aa0
 .intro⟨⟨h1,h2,h3⟩,k1,k2,k3⟩;refine⟨by simp_all,fun x hx=>(Bh.1 hx).elim (h2 x) (k2 x),fun i av x q1 q2=>?_⟩
  grind
theorem Rh{α β:Type}{g:Gh}{w:World}{U:Nat->Prop}{Jh:β->List AV}{enc:α->List Value}(hl:∀x y,(enc x).length=(Jh y).length):∀ps:List (β×α),
  Ck g w U (ps.map fun p=>Jh p.1).flatten (ps.map fun p=>enc p.2).flatten↔∀p∈ps,Ck g w U (Jh p.1) (enc p.2)
 | []=>by simp[Ck]
 |p::ps=>by
  simp only[Bq,BZ];rw[Sf (hl _ _),Rh hl ps];simp
theorem Kl{f:α->β}:∀{m m' : List β},m.Perm m'->∀ps:List α,ps.map f=m->∃po : List α,po.Perm ps/\po.map f=m':=by
 intro m m' h
 induction h with
 |nil=>simp_all
 |cons x h ih=>
  intro ps e;cases ps with
  |nil=>cases e
  |cons p ps=>
   rw[Bq]at e
   injection e with e1 e2
   obtain⟨po,h1,h2⟩:=ih ps e2;exact⟨p::po,h1.cons p,by simp_all⟩
 |swap x y l=>
  intro ps e
  match ps,e with
  |p::q::ps,e=>
   grind [List.Perm.swap]
 |trans h1 h2 ih1 ih2=>
  grind [List.Perm.trans]
theorem T5[Inhabited α]{enc:α->List Value}(hk:∀x,(enc x).length=k)(d:Array α):(flatK enc k d).toList=(d.toList.map enc).flatten:=by
 have hl:∀cs∈d.toList.map enc,cs.length=k:=fun cs hcs=>by
  grind
 have Dr:(d.toList.map enc).flatten.length=d.size*k:=by
  have:∀l:List α,(l.map enc).flatten.length=l.length*k:=fun l=>by
   induction l<;>grind [Nat.succ_mul]
  simp_all
 apply Da;intro t
 by_cases ht:t<d.size*k
 .have k0:0<k:=Nat.pos_of_ne_zero fun h=>by simp_all
  have h1:t / k<d.size:=by rw[Nat.div_lt_iff_lt_mul k0];exact ht
  have h2:t % k<k:=Nat.mod_lt _ k0;have e:t=t / k*k+t % k:=by grind [Nat.div_add_mod]
  rw[CN,B9 (by simpa using ht),<-getElem!_pos _ t (by simpa using ht),get_flatK _ _ _ _ ht]
  grind [Fu]
 simp_all
theorem zip_fst{α β:Type}:∀{l:List α} {m:List β},l.length=m.length->(l.zip m).map (·.1)=l/\(l.zip m).map (·.2)=m
 | [],[],_=>⟨rfl,rfl⟩
 |a::l,b::m,h=>by
  have:=zip_fst (l:=l) (m:=m) B0
  simp_all
section
variable {P:Program}
theorem Jy[Inhabited α]{f:Nat}{rest:List Value}(hE:FL P f)(Jh:β->List AV)(enc:α->List Value)(hB:∀x,(Jh x).length=k)(hk:∀x,(enc x).length=k)(lt:α->α->Bool)(R:β->α->Prop)(l:List β)(hl:l.length<4611686018427387904)(hR:∀x∈l,∀(g:Gh) (w:World) (vs:List Value),Ck g w FD (Jh x) vs->∃a,enc a=vs/\R x a)(BQ:∀(w:World) (b cap:Nat) (d:Array α),HoldsK enc k w b 0 d->b<w.heap.size->d.size<4611686018427387904->d.size=l.length->Calls P f (#[.slice (some ⟨b,0,none⟩) d.size cap]++rest.toArray) w fun e w'=>
   e=.returned (.tuple #[])/\∃d' n os,PermIn 0 d.size d d'/\SortedIn lt 0 d.size d'/\w'=sortWorldK enc k w b 0 n d' os)(Aia:l=[]->∀w:World,Calls P f (#[.slice none 0 0]++rest.toArray) w fun e w'=>e=.returned (.tuple #[])/\w'=w) :
  AU P f (.msl 1000 l.length::rest.map .v) (Ak [(1000,.arr k (l.map Jh))] Ae) fun r h'=>
   r=.tup []/\∃l' : List β,l'.Perm l/\(∃al:List α,al.length=l'.length/\(∀(i:Nat) (x:β) (a:α),l'[i]?=some x->al[i]?=some a->R x a)/\al.Pairwise (fun x y=>lt y x=false))/\h'=Ak [(1000,.arr k (l'.map Jh))] Ae:=by
 have I4:=Qz (P:=P) (f:=f) (es:=l.map Jh) (sz:=k) (rest:=rest)
  (Q:=fun FR=>∃l' : List β,l'.Perm l/\(∃al:List α,al.length=l'.length/\(∀(i:Nat) (x:β) (a:α),l'[i]?=some x->al[i]?=some a->R x a)/\al.Pairwise (fun x y=>lt y x=false))/\FR=l'.map Jh) hE ?_ ?_
 .grind
 .simp_all
 .intro g w b cap F hr hF hH hb
  -- the elements in memory
  have xj:∀(m:List β) (vs:List Value),(∀x∈m,x∈l)->Ck g w FD (m.map Jh).flatten vs->∃al:List α,al.length=m.length/\vs=(al.map enc).flatten/\∀(i:Nat) (x:β) (a:α),m[i]?=some x->al[i]?=some a->R x a:=by
   intro m
   induction m with
   |nil=>
    intro vs _ h
    have:vs=[]:=AY (by simpa using h.1)
    simp_all
   |cons x m ih=>
    intro vs hm h;rw[Bq,BZ]at h;have Dr:=h.1;rw[Ac,hB]at Dr;have e:vs=vs.take k++vs.drop k:=(LQ k vs).symm;rw[e]at h;rw[Sf aa0]at h;obtain⟨a,a1,a2⟩:=hR x (hm x (Ah ..)) g w _ h.1;obtain⟨al,b1,b2,b3⟩:=ih _ (fun y hy=>hm y (Am _ hy)) h.2;refine⟨a::al,by grind,by grind,fun i y c q1 q2=>?_⟩
    grind
  obtain⟨al,s1,s2,s3⟩:=xj l F.toList (fun _ h=>h) hr;have hFd:F=flatK enc k al.toArray:=Tb.1 (by grind [T5]);have hd:HoldsK enc k w b 0 al.toArray:=by grind [HoldsK]
  have hc:=BQ w b cap al.toArray hd hb B0 ch;have FE:al.toArray.size=(l.map Jh).length:=B0
  rw[FE]at hc;refine hc.mono ?_
  rintro e w' ⟨rfl,d',n,os,p1,p2,rfl⟩
  obtain⟨z1,z2⟩:=zip_fst s1.symm;obtain⟨AfZ,_,I6⟩:=p1;have AfZ : d'.size=al.length:=ch
  have e1:d'.extract 0 (l.map Jh).length=d':=B0
  have e2:al.toArray.extract 0 (l.map Jh).length=al.toArray:=aa0
  rw[e1,e2]at I6;have I6:al.Perm d'.toList:=by
   first
   |exact I6.symm
   |exact I6
   |(have:=I6.symm;simpa using this)
  obtain⟨po,r1,r2⟩:=Kl I6 (l.zip al) z2;have rel:∀p∈l.zip al,R p.1 p.2:=fun p hp=>by
   obtain⟨i,hi⟩:=En.1 hp;rw[List.getElem?_zip_eq_some]at hi
   grind
  refine⟨rfl,flatK enc k d',(po.map (·.1)).map Jh,n,os,by simp_all,⟨po.map (·.1),?_,⟨d'.toList,by grind,fun i x a q1 q2=>?_,?_⟩,rfl⟩,by have:=r1.length_eq;simp_all,fun cs hcs=>?_,fun g w hr=>?_,?_⟩
  .grind
  .rw[<-r2]at q2;rw[B1,Cj]at q1 q2;obtain⟨p,q1,rfl⟩:=q1
   grind
  .rw[Bz];intro i j hi hj az;have OH : i<d'.size:=ch
   have hj' : j<d'.size:=ch
   have:=p2 i j (Aj _) az ch
   simp_all
  .obtain⟨x,_,rfl⟩:=Ay.1 hcs;simp_all
  .have h1:Ck g w FD ((l.zip al).map fun p=>Jh p.1).flatten ((l.zip al).map fun p=>enc p.2).flatten:=by
    have a1:(l.zip al).map (fun p=>Jh p.1)=l.map Jh:=by
     have:(l.zip al).map (fun p=>Jh p.1)=((l.zip al).map (·.1)).map Jh:=by rw[Bw];rfl
     simp_all
    have a2:(l.zip al).map (fun p=>enc p.2)=al.map enc:=by
     have:(l.zip al).map (fun p=>enc p.2)=((l.zip al).map (·.2)).map enc:=by rw[Bw];rfl
     simp_all
    simp_all
   have Dr:∀(x:α) (y:β),(enc x).length=(Jh y).length:=fun x y=>by simp_all
   rw[Rh Dr]at h1;have h2:=(Rh (g:=g) (w:=w) (U:=FD) Dr po).2 fun p hp=>h1 p (r1.mem_iff.1 hp);have b1:(po.map (·.1)).map Jh=po.map fun p=>Jh p.1:=B0
   have b2:(flatK enc k d').toList=(po.map fun p=>enc p.2).flatten:=by
    rw[T5 hk,<-r2,Bw];rfl
   grind
  .rfl
end
end Go.Eng
namespace Go.Eng
section
variable {P:Program}
theorem BX{f:Nat}{fn:Func}{c:Code}{args:List AV}{H0:List (Nat×HO)}{Q:AV->(Nat->HO)->Prop}(cx:Cx)(σ:Jd)(hP:cx.P=P)(hT:Ca P cx.T)(hm:P.follows .mixedOrders=true)(hx:cx.ext=true)(hf:P.funcs[f]?=some fn)
  (hn : (fn.name == "runtime.NumGoroutine") = false) (hb : fn.body = some c) (hN : args.length <= fn.ntmps) (hc : EI fn.ntmps c = true) (hσ : (GY σ && IG σ H0) = true)
  (hk:Sq cx c (ZW cx fn.results.toList σ fun r h'=>∃r',BC r r'/\Q r' h') ⟨Pi args,Ak H0 Ae⟩) (hY:∀l σ g w,cx.yp l σ g w:=by exact fun _ _ _ _=>trivial):AU P f args (Ak H0 Ae) Q:=
 (na cx σ hP hT hm hx hf hn hb hN hc hσ hk hY).mono fun _ _ ⟨r',s,q⟩=>⟨r',s,q⟩
end
end Go.Eng
namespace Go.Eng
open Go.Sort
theorem Ck.append{g:Gh}{w:World}{U:Nat->Prop}{VC bs:List AV}{xs ys:List Value}(h:Ck g w U VC xs)(k:Ck g w U bs ys):Ck g w U (VC++bs) (xs++ys):=by
 refine⟨by rw[Ac,Ac,h.1,k.1],fun x hx=>?_,fun i av x q1 q2=>?_⟩
 .rcases Bh.1 hx with hx | hx
  .exact h.2.1 x hx
  .exact k.2.1 x hx
 .have hl:=h.1
  by_cases hi:i<VC.length
  .rw[D6 hi]at q1;rw[D6 ch]at q2;exact h.2.2 i av x q1 q2
  .rw[BM ch]at q1;rw[BM ch,hl]at q2;exact k.2.2 _ av x q1 q2
theorem Ck.take{g:Gh}{w:World}{U:Nat->Prop}{VC:List AV}{xs:List Value}(h:Ck g w U VC xs)(k:Nat):Ck g w U (VC.take k) (xs.take k):=by
 refine⟨by rw[AF,AF,h.1],fun x hx=>h.2.1 x (CF hx),fun i av x q1 q2=>?_⟩;rw[List.getElem?_take]at q1 q2;split at q1
 .rename_i hi;rw[Ax hi]at q2;exact h.2.2 i av x q1 q2
 simp_all
theorem Ck.drop{g:Gh}{w:World}{U:Nat->Prop}{VC:List AV}{xs:List Value}(h:Ck g w U VC xs)(k:Nat):Ck g w U (VC.drop k) (xs.drop k):=by
 refine⟨by rw[G1,G1,h.1],fun x hx=>h.2.1 x (Iy hx),fun i av x q1 q2=>?_⟩;rw[F2]at q1 q2;exact h.2.2 _ av x q1 q2
theorem Lv{α:Type}{k:Nat}:∀(es:List (List α)) (i:Nat),(∀e∈es,e.length=k)->es.flatten.take (i*k)=(es.take i).flatten
 | [],i,_=>by simp
 |e::es,0,_=>by simp
 |e::es,i+1,h=>by
  have he:=h e (Ah ..);rw[BZ,List.take_succ_cons,BZ,List.take_append,<-Lv es i fun x hx=>h x (Am _ hx),As aa0,he,show(i+1)*k-k=i*k by grind]
theorem Pq{α:Type}{k:Nat}:∀(es:List (List α)) (i:Nat),(∀e∈es,e.length=k)->es.flatten.drop (i*k)=(es.drop i).flatten
 | [],i,_=>by simp
 |e::es,0,_=>by simp
 |e::es,i+1,h=>by
  have he:=h e (Ah ..);rw[BZ,List.drop_succ_cons,List.drop_append,<-Pq es i fun x hx=>h x (Am _ hx),AN aa0,he,show(i+1)*k-k=i*k by grind,VX]
section
variable {P:Program}
theorem Wa{f:Nat}{es:C0}{sz:Nat}{rest:List Value}{n' : Nat}{Q:C0->Prop}(hE:FL P f)(Ef:es≠[])(qG : n'<=es.length)
  (h1:∀(g:Gh) (w:World) (b cap:Nat) (F:Array Value),Ck g w FD es.flatten F.toList->F.size=es.length*sz->Holds id w b 0 F->b<w.heap.size->es.length<=cap->Calls P f (#[.slice (some ⟨b,0,none⟩) es.length cap]++rest.toArray) w fun e w'=>
   e=.returned (.slice (some ⟨b,0,none⟩) n' cap)/\∃(F' : Array Value) (FR : C0) (n:Nat) (os:Array Obj),F'.size=F.size/\Q FR/\FR.length=es.length/\(∀cs∈FR,cs.length=sz) /\
    (∀(g:Gh) (w:World),Ck g w FD es.flatten F.toList->Ck g w FD FR.flatten F'.toList)/\w'=grow (putRow id (Sort.ahead w n) b 0 F') os) :
  AU P f (.msl 1000 es.length::rest.map .v) (Ak [(1000,.arr sz es)] Ae) fun r h'=>r=.msl 2000 n'/\∃FR,Q FR/\h'=Ak [(1000,.dead),(2000,.arr sz (FR.take n'))] Ae:=by
 refine⟨hE,fun g w us hs hv hI=>?_⟩;have ho:=hI.objs 1000;have he:Ak [(1000,HO.arr sz es)] Ae 1000=.arr sz es:=rfl;rw[he]at ho;obtain⟨t1,l1,al,a2⟩:=ho;simp only[Ap,BO]at hs;have hu0:0<us.size:=ch
 have zA:=hv 0 (.msl 1000 es.length) us[0] rfl (B9 hu0);have hval:us[0]=g.ρ 1000:=by
  grind [cases Ba]
 have Mh:us=#[g.ρ 1000]++rest.toArray:=by
  refine Array.ext B0 fun i h1 h2=>?_;cases i with
  |zero=>simp_all
  |succ i=>
   have hi:i<rest.length:=ch
   have:=hv (i+1) (.v rest[i]) us[i+1] B0 (B9 h1)
   rw[this.v_eq];simp
 rw[Mh];rcases a2 with ⟨b1,b2,b3⟩ | ⟨b,cap,E,vs,b1,b2,b3,b4,b5,b6,b7⟩
 .simp_all
 .have hl:(Ak [(1000,HO.arr sz es)] Ae 1000).live:=trivial;have EU:=(hI.loc 1000 b hl b2).1;have Jk:es.length*sz<=vs.size:=by rw[b5];exact Bl _ b3
  have hF:((vs.toList.take (es.length*sz)).toArray).size=es.length*sz:=B0
  have hH:Holds id w b 0 (vs.toList.take (es.length*sz)).toArray:=fun j hj=>by
   grind [World.cell?,World.frozen?]
  rw[b1];refine(h1 g w b cap _ ch hF hH EU b3).mono ?_
  rintro e w' ⟨rfl,F',FR,n,os,f1,f2,f3,f4,f5,rfl⟩
  have hF' : F'.size=es.length*sz:=f1.trans hF;have xd:=NV F' vs ch;have uO : (grow (putRow id (Sort.ahead w n) b 0 F') os).heap[b]?=some (.cells (putCells id 0 F' vs) E (0,0)):=by
   rw[heap_grow_old _ _ B0];show(w.heap.modify b (onCells (putCells id 0 F')))[b]?=_;rw[Array.getElem?_modify,Ax rfl,b4];rfl
  have hob:∀k,k<w.heap.size->k≠b->(grow (putRow id (Sort.ahead w n) b 0 F') os).heap[k]?=w.heap[k]?:=fun k hk Ef=>by
   rw[heap_grow_old _ _ B0];simp[putRow,mapBlock,Array.getElem?_modify,Ne.symm Ef]
  have FE:w.heap.size<=(grow (putRow id (Sort.ahead w n) b 0 F') os).heap.size:=B0
  obtain⟨k1,k2⟩:=hI.upd 1000 (.arr sz FR) (g.ρ 1000) (g.ln 1000) (g.tk 1000) (g.own 1000) g.S (grow (putRow id (Sort.ahead w n) b 0 F') os) (some b) ⟨rfl,rfl,rfl,FE⟩
   (fun k hk Ef=>hob k hk (fun e=>Ef (by rw[e]))) (fun b' e=>by simp_all) (fun _ _ h=>h) (fun _ _ h=>.inl h) (fun b' o e hs=>by simp_all)
   (fun b' _ e=>by grind) Cl (fun _=>⟨rfl,Ao _,fun _=>rfl,fun _=>rfl⟩) (fun hg hk=>by
    refine⟨by grind [Gh.upd],by grind [Gh.upd],f4,.inr ⟨b,cap,E,_,by grind [Gh.upd],by grind [Gh.upd],by omega,uO,by omega,?_,b7⟩⟩
    have:=f5 g w ch
    rw[f3,<-hF',xd.1];exact this.mono hk (fun _ h=>h) (fun _ h=>h.elim))
  rw[Ul]at k1 k2;generalize ly : g.upd 1000 (g.ρ 1000) (g.ln 1000) (g.tk 1000) (g.own 1000) g.S=g' at k1 k2;have ho' : g'.own 1000=some b:=by grind [Gh.upd]
  have Aba:=k1.objs 1000;have qE:Ak [(1000,HO.arr sz FR)] Ae 1000=.arr sz FR:=rfl;rw[qE]at Aba;obtain⟨m1,m2,m3,m4⟩:=Aba;have hρ:g'.ρ 1000=.slice (some ⟨b,0,none⟩) es.length cap:=by grind [Gh.upd]
  have Aku : FR≠[]:=fun e=>Ef (AY B0);rcases m4 with ⟨m4,_⟩ | ⟨b',Mn,E',lC,c1,c2,c3,c4,c5,c6,c7⟩
  .simp_all
  .rw[hρ]at c1;simp only[Value.slice.injEq,DJ,Addr.mk.injEq,and_true]at c1;obtain⟨c1a,c1b,c1c⟩:=c1;subst c1a;subst c1c;have AfF : (FR.take n').length=n':=aa0
   obtain⟨k3,k4⟩:=k1.move 1000 2000 Wk rfl trivial ho' (.arr sz (FR.take n')) (.slice (some ⟨b,0,none⟩) n' cap) n' true Cl (fun hk=>by
    refine⟨by simp[Gh.upd],by grind [Gh.upd],fun cs hcs=>m3 cs (CF hcs),.inr ⟨b,cap,E',lC,by grind [Gh.upd],by simp[Gh.upd],by omega,c4,c5,?_,c7⟩⟩
    have:=(c6.mono hk (fun _ h=>h) (fun _ h=>h.elim)).take (n'*sz)
    grind [Lv,Nat.mul_le_mul_right])
   have AaT:AO (AO (Ak [(1000,HO.arr sz FR)] Ae) 1000 .dead) 2000 (.arr sz (FR.take n'))=Ak [(1000,.dead),(2000,.arr sz (FR.take n'))] Ae:=by
    funext i
    by_cases e1:i=2000
    .subst e1;rw[A5];rfl
    .rw[BR _ _ _ _ e1]
     by_cases e2:i=1000
     .subst e2;rw[A5];rfl
     grind [BR,Ak,DK]
   rw[AaT]at k3 k4;exact⟨_,.msl 2000 n',_,_,rfl,⟨rfl,FR,f2,rfl⟩,.msl _ 2000 n' (some ⟨b,0,none⟩) cap (by intro c;cases c) (by simp[Gh.upd]) (by simp[Gh.upd]) (.inr ⟨b,rfl⟩) (fun _=>by simp[Gh.upd]),k3,k2.trans k4⟩
end
end Go.Eng
namespace Go.Eng
variable {h:Nat->HO}{r ty e m:Nat}{cx:Cx}{x:AV}{K:HK}
def mJ(a b:FF):Bool:=
 (match a.2 with | some r=>!IV b.1 r | none=>true)&&(match b.2 with | some r=>!IV a.1 r | none=>true)
def QB(ops:Array Oper)(oi:Oper)(fi:FF)(D:List Nat)(k:Nat):List Oper->List FF->Bool
 |o::r,f::fs=>(IV D k||(oi.apart ops o&&mJ fi f))&&QB ops oi fi D (k+1) r fs
 | [],[]=>true
 |_,_=>false
def Wy(ops:Array Oper)(all:List Oper)(k:Nat):List Oper->List FF->Bool
 |o::r,f::fs=>
  let D:=QG k [] 0 all
  (o.after.toList.all fun e=>!Region.binds .any e||Nat.blt e.on k)&&Vh k D 0 all&&(D.all fun j=>Nat.blt k j&&Nat.blt j all.length)&&QB ops o f D (k+1) r fs&&Wy ops all (k+1) r fs
 | [],[]=>true
 |_,_=>false
def fM(ops:Array Oper)(fs:List FF):Bool:=Region.noSelect ops&&Wy ops ops.toList 0 ops.toList fs
def Rn(f:FF):Prop:=∀r,f.2=some r->r<10000000
def SW:List FF->Prop
 | []=>True
 |f::r=>Rn f/\SW r
theorem AR(l:List Nat):Rn (l,none):=fun _ h=>by cases h
theorem Ej{l:List Nat}(h:r<10000000):Rn (l,some r):=fun _ e=>by simp_all
theorem mK{a b:FF}(ha:Rn a)(hb:Rn b)(h:mJ a b=true):TP a b=true:=by
 obtain⟨a1,a2⟩:=a;obtain⟨b1,b2⟩:=b;unfold mJ at h;unfold TP;rw[At]at h⊢;refine⟨?_,?_⟩
 .cases a2 with
  |none=>rfl
  |some r=>
   have h1:(!IV b1 r)=true:=h.1;show bB b1 r=true;unfold bB;rw[DK (show r≠XN by have:=ha r rfl;grind [XN]),F7,h1,show Nat.blt r 10000000=true by rw[IA];exact ha r rfl];rfl
 .cases b2 with
  |none=>rfl
  |some r=>
   have h1:(!IV a1 r)=true:=h.2;show bB a1 r=true;unfold bB;rw[DK (show r≠XN by have:=hb r rfl;grind [XN]),F7,h1,show Nat.blt r 10000000=true by rw[IA];exact hb r rfl];rfl
theorem Wc{ops:Array Oper}{oi:Oper}{fi:FF}{D:List Nat}(hi:Rn fi):∀{l:List Oper} {fs:List FF} {k:Nat},SW fs->QB ops oi fi D k l fs=true->IE ops oi fi D k l fs=true
 | [],[],_,_,h=>h
 |o::r,f::fs,k,hs,h=>by
  unfold QB at h;unfold IE;rw[At,JV,At]at h⊢;exact⟨h.1.imp id (fun q=>⟨q.1,mK hi hs.1 q.2⟩),Wc hi hs.2 h.2⟩
 | [],_::_,_,_,h=>by grind [QB]
 |_::_,[],_,_,h=>by grind [QB]
theorem ZS{ops:Array Oper}{all:List Oper}:∀{l:List Oper} {fs:List FF} {k:Nat},SW fs->Wy ops all k l fs=true->Mu ops all k l fs=true
 | [],[],_,_,h=>h
 |o::r,f::fs,k,hs,h=>by
  unfold Wy at h;unfold Mu;simp only[At]at h⊢;exact⟨⟨h.1.1,Wc hs.1 hs.2 h.1.2⟩,ZS hs.2 h.2⟩
 | [],_::_,_,_,h=>by grind [Wy]
 |_::_,[],_,_,h=>by grind [Wy]
theorem Jg{ops:Array Oper}{fs:List FF}(hs:SW fs)(h:fM ops fs=true):TQ ops fs=true:=by
 grind [fM,TQ,ZS]
theorem RG{d:Option Nat}{es es2:C0}(hty:(cx.T ty).d=.slice e)(hz:Nat.beq (cx.T e).zc.length (cx.T e).size=true)(FE:(cx.T e).size=m+1)(hx:∀K' : C0->Prop,K' es2->Ls h x K')(hr:h r=.tok (m+1) es.length)(hl:Bi (m+1) es2)(hb:(es.length+es2.length)*(cx.T e).bytes<=140737488355328)(hc:es.length+es2.length<=9223372036854775807)(hk:K (.slice (.id r (m+1)) (es++es2)) (AO h r (.tok (m+1) (es.length+es2.length)))):Ir cx d h ty (.slice (.id r (m+1)) es) x K:=by
 grind [Nat.beq_refl,Ir]
theorem RF{d:Nat}{es2:C0}(hty:(cx.T ty).d=.slice e)(hz:Nat.beq (cx.T e).zc.length (cx.T e).size=true)(FE:(cx.T e).size=m+1)(hx:∀K' : C0->Prop,K' es2->Ls h x K')(hr:h (Ku cx d)=.free)(ha:GU cx.pl.arr d=none)(hl:Bi (m+1) es2)(hb:es2.length*(cx.T e).bytes<=140737488355328)(hc:es2.length<=9223372036854775807)(hk:K (.slice (.id (Ku cx d) (m+1)) es2) (AO h (Ku cx d) (.tok (m+1) es2.length))):Ir cx (some d) h ty nzA x K:=by
 grind [Ir,Fb]
end Go.Eng
namespace Go.Eng
open Go.RowKit
section
variable {P:Program}
theorem MQ{f:Nat}{args:List AV}{res:AV}(vals:List Value)(v:Value)(hE:FL P f)(ha:args=vals.map .v)(sq:∀g w,Ba g w FD res v)
  (h:∀w,(∃m,w.cell? ⟨gB,0,none⟩=some (.int .i64 m))->(∀x∈m9,w.cell? ⟨x.1,x.2.1,none⟩=x.2.2)->Calls P f vals.toArray w fun e w'=>e=.returned v/\Below w.heap.size w w'):IB P f args res:=by
 refine⟨hE,fun g w us hs hv hI=>?_⟩;have hu:us=vals.toArray:=by
  subst ha;rw[BO]at hs;refine Array.ext ch fun i h1 h2=>?_
  have:=hv i (.v (vals[i]' ch)) us[i] B0 B0
  grind [Ba.v_eq]
 subst hu;refine(h w hI.glob.1.2 fun x hx=>(hI.glob.2 x hx).2).mono ?_
 rintro e w' ⟨rfl,q⟩
 have hK:EF g w g w':=fun b o hb=>by
  grind [World.cell?,CU.slt,Go.RowKit.Below.block]
 refine⟨v,res,Ae,g,rfl,⟨rfl,rfl⟩,(sq g _).up _,⟨q.os,q.tape,q.output,q.size,fun b hb _=>q.block b hb,fun b o hs=>Bm (hI.slt b o hs) q.size,fun _=>trivial,fun _ _ _ h=>h.elim,fun _ _ h=>h.elim,fun b o hs=>.inl hs,hI.glob.keep hK⟩,⟨.refl _ _,fun _ h=>h,hK⟩⟩
end
end Go.Eng
namespace Go.Eng
variable {fn:Func}{ps:Array Tmp}{args:List AV}{c GU body:Code}(cx:Cx)(σ:Jd)
def X5:Obj->Bool
 |.cells ..=>false
 |.map ..=>false
 |.mapIter ..=>false
 |.loop r=>!OV [] r.body
 |_=>true
structure ct(n0 x:Nat)(w:World)(g:Gh)(h:Nat->HO)(w' : World)(g' : Gh)(h' : Nat->HO):Prop where
 os:w'.os=w.os
 tape:w'.tape=w.tape
 output:w'.output=w.output
 size:w.heap.size<=w'.heap.size
 frame:∀b,b<n0->b≠x->(∀r,(h r).live->g.own r≠some b)->w'.heap[b]?=w.heap[b]?
 loc:∀r b,(h' r).live->g'.own r=some b->n0<=b\/∃r',(h r').live/\g.own r'=some b
 sg:∀b o,g'.S b o->g.S b o\/n0<=b\/∃r',(h r').live/\g.own r'=some b
 le:Le h g w h' g' w'
section
variable {P:Program}{N:Nat}{ds:List Deferred}{n0 x:Nat}{w w' w1 w2:World}{g g' g1 g2:Gh}{h h' h1 h2:Nat->HO}
theorem ct.trans(a:ct n0 x w g h w1 g1 h1)(b:ct n0 x w1 g1 h1 w2 g2 h2):ct n0 x w g h w2 g2 h2 where
 os:=b.os.trans a.os
 tape:=b.tape.trans a.tape
 output:=b.output.trans a.output
 size:=Av a.size b.size
 frame c hc hx hn:=(b.frame c hc hx fun r hl e=>by
  rcases a.loc r c hl e with h | ⟨r',h1,h2⟩<;>grind).trans (a.frame c hc hx hn)
 loc r c hl e:=by
  rcases b.loc r c hl e with h | ⟨r',h1,h2⟩
  .omega
  .exact a.loc r' c h1 h2
 sg c o hs:=by
  rcases b.sg c o hs with h | h | ⟨r',h1,h2⟩
  .exact a.sg c o h
  .omega
  .rcases a.loc r' c h1 h2 with h | h<;>simp_all
 le:=a.le.trans b.le
theorem ct.of_inv(hI:CU w g h h' g' w')(hL:Le h g w h' g' w')(hn:n0<=w.heap.size):ct n0 x w g h w' g' h' where
 os:=hI.os
 tape:=hI.tape
 output:=hI.output
 size:=hI.size
 frame c hc _ qG:=hI.frame c ch qG
 loc r c hl e:=by
  rcases(hI.loc r c hl e).2 with h | h<;>grind
 sg c o hs:=by
  grind [CU.sg]
 le:=hL
theorem CU.base(hI:CU w g h h' g' w'):CU w' g' h' h' g' w' where
 os:=rfl
 tape:=rfl
 output:=rfl
 size:=Ao _
 frame _ _ _:=rfl
 slt:=hI.slt
 objs:=hI.objs
 inj:=hI.inj
 loc r b hl e:=⟨(hI.loc r b hl e).1,.inr ⟨r,hl,e⟩⟩
 sg _ _ hs:=.inl hs
 glob:=hI.glob
theorem CU.of_seg(hI:CU w' g' h' h' g' w')(s:ct w.heap.size x w g h w' g' h')(hx:x<w.heap.size->w'.heap[x]?=w.heap[x]?):CU w g h h' g' w' where
 os:=s.os
 tape:=s.tape
 output:=s.output
 size:=s.size
 frame b hb hn:=by
  grind [ct.frame]
 slt:=hI.slt
 objs:=hI.objs
 inj:=hI.inj
 loc r b hl e:=⟨(hI.loc r b hl e).1,s.loc r b hl e⟩
 sg:=s.sg
 glob:=hI.glob
theorem PQ{U:Nat->Prop}{r b:Nat}{o:HO}{ob:Obj}(ho:DR g w U r o)(hl:o.live)(e:g.own r=some b)(hb:w.heap[b]?=some ob)(hd:X5 ob=true):False:=by
 cases o with
 |free=>exact hl
 |dead=>exact hl
 |ro cs=>exact hl
 |rom sh BU=>exact hl
 |cells cs=>
  obtain⟨_,b',E,vs,h1,_,h3,_⟩:=ho;rw[e]at h1;cases h1;rw[hb]at h3;cases h3;cases hd
 |tok sz n=>
  obtain⟨_,_,a,cap,_,(⟨_,h1⟩ | ⟨_,b',E,vs,off,_,h1,⟨_,h3,_⟩,_⟩)⟩:=ho
  .simp_all
  .rw[e]at h1;cases h1;rw[hb]at h3;cases h3;cases hd
 |vox v=>exact hl
 |hol sz es i c av=>
  obtain⟨_,_,_,b',cap,E,vs,_,h1,_,h3,_⟩:=ho;rw[e]at h1;cases h1;rw[hb]at h3;cases h3;cases hd
 |bld x=>
  obtain⟨_,b',p,v,h1,_,h3,_⟩:=ho;rw[e]at h1;cases h1;rw[hb]at h3;cases h3;cases hd
 |bbf n=>
  obtain⟨_,_,(⟨_,_,h1⟩ | ⟨b',cap,Ep,_,h1,_,_,h3,_⟩)⟩:=ho
  .simp_all
  .rw[e]at h1;cases h1;rw[hb]at h3;cases h3;cases hd
 |raw b' gL=>
  obtain⟨_,h1,h2,h3,_⟩:=ho;rw[e]at h1;cases h1;rw[hb]at h2;cases h2;cases ob<;>simp[X5,z7]at hd h3
  simp_all
 |var sz v n=>
  obtain⟨_,_,a,cap,_,(⟨_,h1⟩ | ⟨_,b',E,vs,off,_,h1,⟨_,h3,_⟩,_⟩)⟩:=ho
  .simp_all
  .rw[e]at h1;cases h1;rw[hb]at h3;cases h3;cases hd
 |arr sz es=>
  obtain⟨_,_,_,(⟨_,_,h1⟩ | ⟨b',cap,E,vs,_,h1,_,h3,_⟩)⟩:=ho
  .simp_all
  .rw[e]at h1;cases h1;rw[hb]at h3;cases h3;cases hd
 |map sh BU=>
  obtain⟨_,b',es,ck,h1,_,h3,_⟩:=ho;rw[e]at h1;cases h1;rw[hb]at h3;cases h3;cases hd
 |mapU sh BU=>
  obtain⟨_,b',es,ck,h1,_,h3,_⟩:=ho;rw[e]at h1;cases h1;rw[hb]at h3;cases h3;cases hd
 |iter all rem Ep=>
  obtain⟨_,b',mb,Kp,seen,st,es,ck,h1,_,h3,_⟩:=ho;rw[e]at h1;cases h1;rw[hb]at h3;cases h3;cases hd
theorem CU.dullS(hI:CU w g h h g w)(ho:w'.os=w.os/\w'.tape=w.tape/\w'.output=w.output)(FE:w.heap.size<=w'.heap.size)
  (hb:∀b,b<w.heap.size->w'.heap[b]?=w.heap[b]?\/∃o o',w.heap[b]?=some o/\w'.heap[b]?=some o'/\X5 o=true/\X5 o'=true)
  (hn:∀b,b<n0->b≠x->w'.heap[b]?=w.heap[b]?):CU w' g h h g w'/\ct n0 x w g h w' g h:=by
 have hk:EF g w g w':=fun b o hs=>by
  refine⟨hs,?_⟩;rcases hb b (hI.slt b o hs)with e | ⟨ob,gL,e1,e2,d1,d2⟩
  .grind [World.cell?]
  .refine⟨?_,fun es ck he=>?_⟩
   .simp only[World.cell?,e1,e2];cases ob<;>cases gL<;>first | rfl | (cases d1;done) | (cases d2;done)
   .rw[e1]at he;cases he;cases d1
 have Yt:∀r b,(h r).live->g.own r=some b->w'.heap[b]?=w.heap[b]?:=fun r b hl e=>by
  rcases hb b (hI.loc r b hl e).1 with e' | ⟨ob,gL,e1,_,d1,_⟩
  .exact e'
  .exact(PQ (hI.objs r) hl e e1 d1).elim
 refine⟨⟨rfl,rfl,rfl,Ao _,fun _ _ _=>rfl,fun b o hs=>Bm (hI.slt b o hs) FE,fun r=>?_,hI.inj,fun r b hl e=>⟨Bm (hI.loc r b hl e).1 FE,.inr ⟨r,hl,e⟩⟩,fun _ _ hs=>.inl hs,hI.glob.keep hk⟩,⟨ho.1,ho.2.1,ho.2.2,FE,fun b uO hx _=>hn b uO hx,fun r b hl e=>.inr ⟨r,hl,e⟩,fun _ _ hs=>.inl hs,⟨.refl _ _,fun _ h=>h,hk⟩⟩⟩;exact(hI.objs r).same hk (fun _ h=>h) (.refl _ _) rfl rfl rfl rfl fun b hl e=>⟨Yt r b hl e,fun _ h=>h⟩
theorem CU.put(hI:CU w g h h g w){l:Nat}{o o' : Obj}(hl:w.heap[l]?=some o)(hd:X5 o=true)(zu : X5 o'=true)(hx:n0<=l\/l=x) :
  CU (w.putObj l o') g h h g (w.putObj l o')/\ct n0 x w g h (w.putObj l o') g h:=by
 grind [World.putObj,CU.dullS]
theorem CU.allocS(hI:CU w g h h g w)(o:Obj)(hn:n0<=w.heap.size):CU (w.alloc o) g h h g (w.alloc o)/\ct n0 x w g h (w.alloc o) g h:=by
 refine hI.dullS ⟨rfl,rfl,rfl⟩ B0 (fun b hb=>.inl (heap_alloc_old _ _ hb)) (fun b hb _=>heap_alloc_old _ _ ch)
end
abbrev In(fn:FuncId)(tm:Array Value)(ps:Array Tmp)(GU body:Code)(D:Nat)(s:LoopState):Loop:=
 { state:=s,pending:=none,fn:=fn,tmps:=tm,params:=ps,assign:=GU,body:=body,defers:=D }
def rL:List Nat->List AV->(Nat->AV)->Nat->AV
 |p::ps,v::vs,e=>rL ps vs (JU e p v)
 |_,_,e=>e
section
variable {P:Program}{N:Nat}{w:World}{g:Gh}
theorem Z0{U:Nat->Prop}:∀{ps:List Nat} {args:List AV} {vals:List Value} {tm:Array Value} {env:Nat->AV},vals.length=args.length->args.length=ps.length->(∀p∈ps,p<tm.size) ->
  (∀(i:Nat) (av:AV) (x:Value),args[i]?=some av->vals[i]?=some x->Ba g w U av x)->(∀i,Ba g w U (env i) (tm.getD i undef)) ->
  ((ps.zip vals).foldl (fun t p=>t.setIfInBounds p.1 p.2) tm).size=tm.size/\∀i,Ba g w U (rL ps args env i) (((ps.zip vals).foldl (fun t p=>t.setIfInBounds p.1 p.2) tm).getD i undef)
 | [],args,vals,tm,env,_,h2,_,_,he=>by
  have:args=[]:=AY h2
  subst this;exact⟨rfl,he⟩
 |p::ps,[],vals,tm,env,_,h2,_,_,_=>by cases h2
 |p::ps,a::args,[],tm,env,h1,_,_,_,_=>by cases h1
 |p::ps,a::args,v::vals,tm,env,h1,h2,h3,h4,he=>by
  have hp:=h3 p (Ah ..)
  obtain⟨q1,q2⟩:=Z0 (ps:=ps) (args:=args) (vals:=vals) (tm:=tm.setIfInBounds p v) (env:=JU env p a) B0 B0 (fun q hq=>by simp_all)
   (fun i av x e1 e2=>h4 (i+1) av x B0 B0) (fun i=>by
    by_cases e:i=p
    .subst e;have e1:JU env i a i=a:=by simp[JU]
     have e2:(tm.setIfInBounds i v).getD i undef=v:=B0
     rw[e1,e2];exact h4 0 a v rfl rfl
    .have e1:JU env p a i=env i:=by grind [JU,DK]
     have e2:(tm.setIfInBounds p v).getD i undef=tm.getD i undef:=by
      simp[Array.getD_eq_getD_getElem?,Array.getElem?_setIfInBounds_ne (Ne.symm e)]
     simp_all)
  exact⟨by simp_all,q2⟩
def Zp(P:Program)(Y:Gh->World->Prop)(σ:Jd)(f:Nat)(args:List AV)(h0:Nat->HO)(Q:AV->(Nat->HO)->Prop):Prop:=
 FL P f/\∀(g:Gh) (w:World) (vals:Array Value),vals.size=args.length->(∀(i:Nat) (av:AV) (x:Value),args[i]?=some av->vals[i]?=some x->Ba g w (AJ h0) av x) ->
  CU w g h0 h0 g w->(∀h' g' w',CU w g h0 h' g' w'->Le h0 g w h' g' w'->Y (DU σ g') w') ->
  Calls P f vals w fun e w'=>∃v r h' g',e=.returned v/\Q r h'/\Ba g' w' (AJ h') r v/\CU w g h0 h' g' w'/\Le h0 g w h' g' w'
theorem nU{Y:Gh->World->Prop}{l:Nat}{f:Nat}{H0:List (Nat×HO)}{Q:AV->(Nat->HO)->Prop}(hP:cx.P=P)(hT:Ca P cx.T)(hm:P.follows .mixedOrders=true)(hx:cx.ext=true)(hf:P.funcs[f]?=some fn)(hn : (fn.name == "runtime.NumGoroutine") = false)(hb : fn.body = some c)(hN : args.length <= fn.ntmps)(hc : EI fn.ntmps c = true)(hσ : (GY σ && IG σ H0) = true)(hy:cx.yp=fun l' σ' g w=>l'=l->σ'=σ->Y g w)(hk:Sq cx c (ZW cx fn.results.toList σ Q) ⟨Pi args,Ak H0 Ae⟩):Zp P Y σ f args (Ak H0 Ae) Q:=
 ⟨⟨fn,hf,hn,by simp_all⟩,fun g w vals hs hv hI hp=>au cx σ hP hT hm hx hf hn hb hN hc hσ hk hs hv hI fun l' σ' h' g' w' _ q1 q2=>by
  grind⟩
end
def rb(cx:Cx):Nat->Code->(Ex->St->Prop)->(Code->Code->St->Prop)->St->Prop
 |0,.seq (.seq a b) d,Q,K,st=>Sq cx a (fun e EM=>match e with |.normal=>K b d EM |e=>Q e EM) st
 |0,.seq b d,_,K,st=>K b d st
 |n+1,.seq a b,Q,K,st=>Sq cx a (fun e EM=>match e with |.normal=>rb cx n b Q K EM |e=>Q e EM) st
 |_,_,_,_,_=>False
section
variable {P:Program}{N:Nat}{ds:List Deferred}{w0:World}{g0:Gh}{h0:Nat->HO}{st:St}{g:Gh}{a:Act}{w:World}
theorem rc{cx:Cx}(hP:cx.P=P)(hT:Ca P cx.T)(hm:P.follows .mixedOrders=true)(hE:LP cx h0)(hY:∀l σ h g w,EB σ=true->CU w0 g0 h0 h g w->Le h0 g0 w0 h g w->cx.yp l σ (DU σ g) w)
  {Qa:Ex->St->Prop} {K:Code->Code->St->Prop} {Q:Exit->Act->World->Prop} (hQ:∀e st g a w,e≠.normal->Qa e st->SR N ds w0 g0 h0 st g a w->Q e.real a w)
  (hK:∀b d st g a w,K b d st->SR N ds w0 g0 h0 st g a w->b.wpIn (J5 none) 0 P (Exit.then (d.wpIn (J5 none) 0 P Q) Q) a w) :
  ∀(n:Nat) (c:Code),EI N c=true->∀{st:St} {g:Gh} {a:Act} {w:World},SR N ds w0 g0 h0 st g a w->rb cx n c Qa K st->c.wpIn (J5 none) 0 P Q a w:=by
 intro n
 induction n with
 |zero=>
  intro c hc st g a w hS hk;cases c with
  |seq y d=>
   simp only[EI,At]at hc;cases y with
   |seq x b=>
    have hk:Sq cx x (fun e EM=>match e with | .normal=>K b d EM | e=>Qa e EM) st:=hk;simp only[EI,At]at hc;refine wpIn_seq (wpIn_seq (N7 hP hT hm hE hY none x hc.1.1 (Qa:=fun e EM=>match e with | .normal=>K b d EM | e=>Qa e EM) (fun e st g a w q hS=>?_) hS hk));cases e with
    |normal=>exact hK b d _ _ _ _ q hS
    |exit id=>exact hQ (.exit id) _ _ _ _ (fun e=>by cases e) q hS
    |ret=>exact hQ .ret _ _ _ _ (fun e=>by cases e) q hS
   |_=>exact wpIn_seq (hK _ d _ _ _ _ hk hS)
  |_=>exact hk.elim
 |succ n ih=>
  intro c hc st g a w hS hk;cases c with
  |seq x y=>
   simp only[EI,At]at hc;refine wpIn_seq (N7 hP hT hm hE hY none x hc.1 (Qa:=fun e EM=>match e with | .normal=>rb cx n y Qa K EM | e=>Qa e EM) (fun e st g a w q hS=>?_) hS hk);cases e with
   |normal=>exact ih y hc.2 hS q
   |exit id=>exact hQ (.exit id) _ _ _ _ (fun e=>by cases e) q hS
   |ret=>exact hQ .ret _ _ _ _ (fun e=>by cases e) q hS
  |_=>exact hk.elim
end
section
variable {P:Program}{N:Nat}{ds:List Deferred}{w0:World}{g0:Gh}{h0:Nat->HO}{st:St}{g:Gh}{a:Act}{w:World}
theorem SR.rebase{w1:World}{g1:Gh}{h1:Nat->HO}(hS:SR N ds w0 g0 h0 st g a w)(hI:CU w1 g1 h1 st.h g w)(hL:Le h1 g1 w1 st.h g w):SR N ds w1 g1 h1 st g a w:=⟨hI,hL,hS.dfs,hS.size,hS.slots⟩
theorem gN{cx:Cx}(hT:Ca P cx.T){H0:List (Nat×HO)}{σ:Jd}(hσ:GY σ=true)(xm:IG σ H0=true){Q:AV->(Nat->HO)->Prop}(hS:SR N ds w0 g0 (Ak H0 Ae) st g a w)(hk:kn cx st fn.results.toList σ Q) :
  ∃v,(results fn a.tmps).run P w=.ok v w/\∃r h' g',Q r h'/\Ba g' w (AJ h') r v/\CU w0 g0 (Ak H0 Ae) h' g' w/\Le (Ak H0 Ae) g0 w0 h' g' w:=by
 obtain⟨g2,i1,i2⟩:=M7 cx.pl.fin hS.inv;have Ue : SR N ds w0 g0 (Ak H0 Ae) ⟨st.t,Pw st.h cx.pl.fin⟩ g2 a w:=⟨i1,hS.le.trans i2,hS.dfs,hS.size,fun i=>(hS.slots i).le i2⟩;obtain⟨l,vs,h1,h2,h3,h4,h5⟩:=SV hT Ue _ hk;obtain⟨hR,j1,j2⟩:=Pk hσ xm i1 Ue.le;have CP:(results fn a.tmps).run P w=.ok (if h:vs.toArray.size=1 then vs.toArray[0]else .tuple vs.toArray) w:=by
  rw[Ou,show fn.results=fn.results.toList.toArray by simp,List.mapM_toArray];simp_all
 match l,vs,h1,h3,h5,CP with
 | [v],[x],h1,h3,h5,CP=>exact⟨x,by simp_all,_,_,_,h1,(h5 0 v x rfl rfl).ren hR,j1,j2⟩
 | [],vs,h1,h3,h5,CP=>
  have:vs=[]:=AY h3
  subst this;exact⟨.tuple #[],by simp_all,_,_,_,h1,Ba.ren hR (.tup _ [] _ rfl fun i av x q=>by simp_all),j1,j2⟩
 |v::v' :: l,vs,h1,h3,h5,CP=>
  refine⟨.tuple vs.toArray,?_,_,_,_,h1,Ba.ren hR (.tup _ _ _ ch fun i av x q1 q2=>h5 i av x q1 B0),j1,j2⟩;simp_all
theorem xZ{uC s:Nat}{rest:Code}(hP:cx.P=P)(hT:Ca P cx.T)(hm:P.follows .mixedOrders=true)(hx:cx.ext=true){σ:Jd}{H0 Hn:List (Nat×HO)}(hσ:(GY σ&&IG σ H0)=true)(hσn:IG σ Hn=true){env:Nat->AV}{gf:Nat}{caps:List AV}(hF:env s=.clo gf caps){Qv:AV->(Nat->HO)->Prop}(hIT:∀(l D:Nat) (f' : FuncId) (tm:Array Value),tm.size=N->Zp P (fun g w=>w.heap[l]?=some (.loop (In f' tm ps GU body D .ready))/\∀i,Ba g w (AJ (Ak H0 Ae)) (env i) (tm.getD i undef)) σ gf
   (.v (.func (.yield l) #[] #[])::caps) (Ak H0 Ae) fun _ h'=>h'=Ak Hn Ae)(hcr:EI N rest=true)(hbk:OV [] body=false)(Abg:Sq cx rest (ZW cx fn.results.toList σ Qv) ⟨env,Ak Hn Ae⟩)(hY:∀l σ g w,cx.yp l σ g w){a:Act}(ha:a.defers=[])(hN:a.tmps.size=N)(hI:CU w g (Ak H0 Ae) (Ak H0 Ae) g w)(Of:∀i,Ba g w (AJ (Ak H0 Ae)) (env i) (a.tmps.getD i undef)){R:Ending->World->Prop}(hR:∀v r h' g' w',Qv r h'->Ba g' w' (AJ h') r v->CU w g (Ak H0 Ae) h' g' w'->Le (Ak H0 Ae) g w h' g' w'->R (.returned v) w') :
  (Code.block uC (.rangeFunc (.tmp s) ps GU body)).wpIn (J5 none) 0 P (Exit.then (rest.wpIn (J5 none) 0 P (bodyPostM (J5 none) 0 P fn R)) (bodyPostM (J5 none) 0 P fn R)) a w:=by
 simp only[At]at hσ;have hdl:∀f' tm D s,X5 (.loop (In f' tm ps GU body D s))=true:=fun _ _ _ _=>by show(!OV [] body)=true;simp_all
 refine wpIn_block (wpIn_rangeFunc fun f' _=>?_);have hs:=Of s;rw[hF]at hs;have uR:a.eval (.tmp s)=a.tmps.getD s undef:=rfl;generalize hfv:a.tmps.getD s undef=fv at hs uR;cases hs with
 |clo _ _ _ lb FE Py=>
 obtain⟨i0,s0⟩:=hI.allocS (n0:=w.heap.size) (x:=w.heap.size) (.deferred (some [])) (Ao _);obtain⟨i1,s1⟩:=i0.allocS (n0:=w.heap.size) (x:=w.heap.size) (.loop (In f' a.tmps ps GU body w.heap.size .ready)) B0;generalize hW:(w.alloc (.deferred (some []))).alloc (.loop (In f' a.tmps ps GU body w.heap.size .ready))=W1 at i1 s1;have AkM:W1.heap.size=w.heap.size+2:=by grind [World.size_alloc]
 have hl:W1.heap[w.heap.size+1]?=some (.loop (In f' a.tmps ps GU body w.heap.size .ready)):=by
  grind [World.alloc_heap_new]
 have hD:W1.heap[w.heap.size]?=some (.deferred (some [])):=by
  grind [heap_alloc_old,World.alloc_heap_new]
 have Qs:∀b ob,W1.heap[b]?=some ob->X5 ob=true->∀r,((Ak H0 Ae) r).live->g.own r≠some b:=fun b ob hb hd r hr e=>PQ (i1.objs r) hr e hb hd;have S1:=s0.trans s1;have hit:=hIT (w.heap.size+1) w.heap.size f' a.tmps hN
 refine⟨w.heap.size+1,[{ target:=.collected w.heap.size,args:=#[] }],W1,{ target:=.fn (.func gf) lb,args:=#[.func (.yield (w.heap.size+1)) #[] #[]] },W1,gf,
  #[.func (.yield (w.heap.size+1)) #[] #[]]++lb,W1,?_,?_,fun _ _=>trivial,?_,fun e=>(by cases e),?_⟩
 .grind [run_enterLoop_outer]
 .simp only[resolve,uR];simp[go_sem]
 .simp only[invoke];rw[GO hit.1]
 refine callsIn_wide.2 ((hit.2 g W1 _ aa0 (fun i av x e1 e2=>?_) i1 (fun h' g' w' q1 q2=>?_)).mono ?_)
 .cases i with
  |zero=>
   grind [Ba.v]
  |succ i=>
   grind [Ba.le,ct.le]
 .obtain⟨_,_,j2⟩:=Pk hσ.1 hσ.2 q1 q2;refine⟨(q1.frame _ ch (Qs _ _ hl (hdl _ _ _ _))).trans hl,fun i=>?_⟩;exact((Of i).le S1.le).mono j2.keeps (fun _ h=>h) j2.gh
 rintro e w2 ⟨v,r,h',g2,rfl,rfl,_,q3,q4⟩
 have jB:w2.heap[w.heap.size+1]?=some (.loop (In f' a.tmps ps GU body w.heap.size .ready)):=(q3.frame _ ch (Qs _ _ hl (hdl _ _ _ _))).trans hl;have hD2:w2.heap[w.heap.size]?=some (.deferred (some [])):=(q3.frame _ ch (Qs _ _ hD rfl)).trans hD;refine⟨none,_,run_endLoop jB (fun e=>by cases e),?_⟩;obtain⟨i4,s4⟩:=q3.base.put (n0:=w.heap.size) (x:=w.heap.size) (o':=.loop { In f' a.tmps ps GU body w.heap.size .ready with state:=.exhausted }) jB (hdl _ _ _ _) (hdl f' a.tmps w.heap.size .exhausted) (.inl ch);have S4:=(S1.trans (ct.of_inv q3 q4 ch)).trans s4;generalize hW4:w2.putObj (w.heap.size+1) (.loop { In f' a.tmps ps GU body w.heap.size .ready with state:=.exhausted })=w4 at i4 s4 S4;have hD4:w4.heap[w.heap.size]?=some (.deferred (some [])):=by grind [World.putObj_heap_other]
 have hE:LP cx (Ak Hn Ae):=by unfold LP;rw[hx];exact fun i hi=>⟨(Gz hσn i hi).1,(Gz hσn i hi).2.1⟩
 have hS4:SR N [{ target:=.collected w.heap.size,args:=#[] }] w4 g2 (Ak Hn Ae) ⟨env,Ak Hn Ae⟩ g2 { a with defers:=[{ target:=.collected w.heap.size,args:=#[] }]++a.defers } w4:=
  ⟨i4,.refl _ _ _,by simp_all,hN,fun i=>(Of i).le S4.le⟩
 refine N7 hP hT hm hE (fun l σ _ _ w _ _ _=>hY l σ _ w) none rest hcr (fun e st5 g5 a5 w5 hq uN=>?_) hS4 Abg;have fin:kn cx st5 fn.results.toList σ Qv->LeavesInM (J5 none) 0 P fn a5.tmps R a5.defers .returning w5:=by
  intro hk;have hD5:w5.heap[w.heap.size]?=some (.deferred (some [])):=(uN.inv.frame _ (Co.1 hD4).1 (fun r hr e=>PQ (i4.objs r) hr e hD4 rfl)).trans hD4;rw[uN.dfs];refine⟨by simp,.inl ⟨w.heap.size,_,rfl,run_takeDeferred hD5,?_⟩⟩;obtain⟨i6,s6⟩:=uN.inv.base.put (n0:=w.heap.size) (x:=w.heap.size) (o':=.deferred none) hD5 rfl rfl (.inr rfl);have hS6:SR N [{ target:=.collected w.heap.size,args:=#[] }] (w5.putObj w.heap.size (.deferred none)) g5 st5.h st5 g5 a5 (w5.putObj w.heap.size (.deferred none)):=⟨i6,.refl _ _ _,uN.dfs,uN.size,fun i=>(uN.slots i).le s6.le⟩;have S6:=(S4.trans (ct.of_inv uN.inv uN.le (Av (Ao _) S4.size))).trans s6;obtain⟨v,k2,r,h7,g7,k1,k5,k3,k4⟩:=gN (H0:=H0) hT hσ.1 hσ.2 (SR.rebase hS6 (i6.of_seg S6 fun h=>absurd h (Nat.lt_irrefl _)) S6.le) hk;exact⟨v,k2,hR v r h7 g7 _ k1 k5 k3 k4⟩
 cases e with
 |normal=>exact fin hq
 |ret=>exact fin hq
 |exit id=>exact hq.elim
end
section
variable {P:Program}{N:Nat}{w:World}{g:Gh}
theorem lp(o k r:Nat){H:List (Nat×HO)}(cx:Cx)(hP:cx.P=P)(hT:Ca P cx.T)(hm:P.follows .mixedOrders=true)(hx:cx.ext=true){σ:Jd}(hσ:(GY σ&&IG σ H)=true){fn:FuncId}{tm:Array Value}{D l:Nat}{env:Nat->AV}{U:Nat->Prop}{Q:AV->(Nat->HO)->Prop}(hps:args.length=ps.toList.length)(hN:tm.size=N)(hpN:(ps.toList.all fun p=>Nat.blt p N)=true)(hca:EI N GU=true)(hcb:EI N body=true)(hU:∀i,U i->AJ (Ak H Ae) i)(hk:Sq cx GU (fun e st=>match e with | .normal=>Sq cx body (fun e st=>match e with | .normal=>rvK st.h o k r fun h'=>Q (.v (.bool true)) (FH σ (Pw h' cx.pl.fin)) | _=>False) st | _=>False) ⟨rL ps.toList args env,Ak H Ae⟩)(hY:∀l σ g w,cx.yp l σ g w:=by exact fun _ _ _ _=>trivial)(hbk:OV [] body=false:=by kernel_rfl) :
  I0 P (fun g w=>w.heap[l]?=some (.loop (In fn tm ps GU body D .ready))/\∀i,Ba g w U (env i) (tm.getD i undef)) l args (Ak H Ae) Q:=by
 simp only[At]at hσ;intro g w vals hs hv hI ⟨hl,Of⟩;have EU:l<w.heap.size:=(Co.1 hl).1;have hdl:∀s,X5 (.loop (In fn tm ps GU body D s))=true:=fun s=>by show(!OV [] body)=true;simp_all
 have hE:LP cx (Ak H Ae):=by unfold LP;rw[hx];exact fun i hi=>⟨(Gz hσ.2 i hi).1,(Gz hσ.2 i hi).2.1⟩
 have Qs:∀r,((Ak H Ae) r).live->g.own r≠some l:=fun r hr e=>PQ (hI.objs r) hr e hl (hdl _);have AhV:∀(t0:Array Value),(ps.zip vals).foldl (fun tmps (p:Nat×Value)=>tmps.setIfInBounds p.1 p.2) t0=(ps.toList.zip vals.toList).foldl (fun t p=>t.setIfInBounds p.1 p.2) t0:=fun t0=>by
  grind [Array.toList_zip]
 have hry:=run_yield (P:=P) (args:=vals) hl B0;refine⟨fn,_,GU,body,hry,roundIn_of_wpIn trivial ?_⟩;obtain⟨z1,z2⟩:=Z0 (U:=AJ (Ak H Ae)) (ps:=ps.toList) (args:=args) (vals:=vals.toList) (tm:=tm) (env:=env) ch hps (fun p hp=>by
  grind [Nat.blt_eq]) (fun i av x e1 e2=>hv i av x e1 B0) (fun i=>(Of i).mono (.refl _ _) hU (.refl _ _))
 have hS0:SR N [] w g (Ak H Ae) ⟨rL ps.toList args env,Ak H Ae⟩ g { tmps:=(ps.zip vals).foldl (fun tmps (p:Nat×Value)=>tmps.setIfInBounds p.1 p.2) tm,defers:=[] } w:=by
  grind [SR.mk,Le.refl]
 refine N7 hP hT hm hE (fun l σ _ _ w _ _ _=>hY l σ _ w) (some l) GU hca (fun e st1 g1 a1 w1 hq nA=>?_) hS0 hk;cases e with
 |exit _=>simp_all
 |ret=>simp_all
 |normal=>
  have hl1:w1.heap[l]?=some (.loop (In fn tm ps GU body D .ready)):=(nA.inv.frame l EU Qs).trans hl;refine⟨_,run_beginRound hl1 rfl,?_⟩;obtain⟨iS,sS⟩:=hI.put (n0:=w.heap.size) (x:=l) (o':=.loop (In fn tm ps GU body D .busy)) hl (hdl _) (hdl _) (.inr rfl);have hlS:(w.putObj l (.loop (In fn tm ps GU body D .busy))).heap[l]?=some (.loop (In fn tm ps GU body D .busy)):=World.putObj_heap_same EU;have Ag0:(w.putObj l (.loop (In fn tm ps GU body D .busy))).heap.size=w.heap.size:=B0
  obtain⟨_,sB⟩:=iS.dullS (w':=w) (n0:=w.heap.size) (x:=l) ⟨rfl,rfl,rfl⟩ ch (fun b _=>by
   grind [World.putObj_heap_other]) (fun b _ Ef=>(World.putObj_heap_other Ef).symm)
  obtain⟨i2,s2⟩:=nA.inv.base.put (n0:=w.heap.size) (x:=l) (o':=.loop (In fn tm ps GU body D .busy)) hl1 (hdl _) (hdl _) (.inr rfl);have S2:=(sB.trans (ct.of_inv nA.inv nA.le (Ao _))).trans s2;have jB:(w1.putObj l (.loop (In fn tm ps GU body D .busy))).heap[l]?=some (.loop (In fn tm ps GU body D .busy)):=World.putObj_heap_same (Co.1 hl1).1;have hI2:=i2.of_seg (by rw[Ag0];exact S2) (fun _=>jB.trans hlS.symm);have hS2:SR N [] (w.putObj l (.loop (In fn tm ps GU body D .busy))) g (Ak H Ae) st1 g1 a1 (w1.putObj l (.loop (In fn tm ps GU body D .busy))):=⟨hI2,S2.le,nA.dfs,nA.size,fun i=>(nA.slots i).le s2.le⟩;refine N7 hP hT hm hE (fun l σ _ _ w _ _ _=>hY l σ _ w) (some l) body hcb (fun e st3 g3 a3 w3 hq hS3=>?_) hS2 hq;cases e with
  |exit _=>simp_all
  |ret=>simp_all
  |normal=>
   obtain⟨h3,g3',hS3,hq⟩:=pG hS3 hq;have hl3:w3.heap[l]?=some (.loop (In fn tm ps GU body D .busy)):=(hS3.inv.frame l ch Qs).trans hlS;refine⟨.bool true,w3.putObj l (.loop (In fn tm ps GU body D .ready)),run_endRound none hl3,?_⟩;obtain⟨gf,if1,if2⟩:=M7 cx.pl.fin hS3.inv;obtain⟨i4,s4⟩:=if1.base.put (n0:=w.heap.size) (x:=l) (o':=.loop (In fn tm ps GU body D .ready)) hl3 (hdl _) (hdl _) (.inr rfl);have S4:=(sS.trans (ct.of_inv if1 (hS3.le.trans if2) ch)).trans s4;have hl4:(w3.putObj l (.loop (In fn tm ps GU body D .ready))).heap[l]?=some (.loop (In fn tm ps GU body D .ready)):=World.putObj_heap_same (Co.1 hl3).1;have hI4:=i4.of_seg S4 (fun _=>hl4.trans hl.symm);obtain⟨_,j1,j2⟩:=Pk hσ.1 hσ.2 hI4 S4.le;exact⟨.bool true,.v (.bool true),_,_,rfl,hq,.v _ _,j1,j2⟩
end
def zH(h:Nat->HO)(o k r sz:Nat)(K:(Nat->HO)->Prop):Prop:=
 match h o with
 |.cells cs=>match JM cs k with
  |.v (.slice none 0 0)=>match h r with
   |.free=>K (AO (AO h r (.var sz 0 0)) o (.cells (E2 cs k (.slice (.ver r sz 0) []))))
   |_=>False
  |_=>False
 |_=>False
section
variable {P:Program}{N:Nat}{ds:List Deferred}{w0:World}{g0:Gh}{h0:Nat->HO}{st:St}{g:Gh}{a:Act}{w:World}
theorem xH(hS:SR N ds w0 g0 h0 st g a w){o k r sz:Nat}{K:(Nat->HO)->Prop}(hk:zH st.h o k r sz K):∃h' g',SR N ds w0 g0 h0 ⟨st.t,h'⟩ g' a w/\K h':=by
 unfold zH at hk;split at hk
 .rename_i cs e0;split at hk
  .rename_i e1;split at hk
   .rename_i hf;have zz:o≠r:=fun e=>by simp_all
    have Zk:=Jt cs k _ e1 Cl
    obtain⟨m1,m2⟩:=hS.inv.upd r (.var sz 0 0) (.slice none 0 0) 0 true none g.S w none ⟨rfl,rfl,rfl,Ao _⟩ (fun _ _ _=>rfl) (fun b e=>by cases e) (fun _ _ h=>h) (fun _ _ h=>.inl h) (fun b o e=>by cases e) (fun b hh e=>by simp_all) Cl
     (fun hu=>absurd hf hu) (fun _ _=>by
      obtain⟨u1,u2,u3,u4⟩:=Bo g r (.slice none 0 0) 0 true none g.S;exact⟨u3,u2,none,0,u1,.inl ⟨rfl,u4⟩⟩)
    generalize gj:g.upd r (.slice none 0 0) 0 true none g.S=g1 at m1 m2;have gr:g1.tk r=true/\g1.ln r=0/\g1.ρ r=.slice none 0 0:=by grind [Gh.upd]
    have wE : (AO st.h r (.var sz 0 0)) o=.cells cs:=by grind [BR]
    obtain⟨g3,p1,p2⟩:=OX m1 wE Zk (new:=.slice (.ver r sz 0) []) (fun y hy=>by
     grind [AJ,A5,cases Ba,Ba.ver,Ba.snil])
    exact⟨_,g3,⟨p1,hS.le.trans (m2.trans p2),hS.dfs,hS.size,fun i=>(hS.slots i).le (m2.trans p2)⟩,hk⟩
   simp_all
  simp_all
 simp_all
def RfV(o k r sz:Nat)(jc:Cx)(P:Program)(N:Nat)(fn:Func)(σ:Jd)(Q:AV->(Nat->HO)->Prop)(b rest:Code)(st:St):Prop:=
 zH st.h o k r sz fun h1=>
  ∃(σF σr:Jd) (H0 Hn:List (Nat×HO)) (uC s:Nat) (ps:Array Tmp) (GU body:Code) (gf:Nat) (caps:List AV),
  b=.block uC (.rangeFunc (.tmp s) ps GU body)/\(EB σF&&Eb h1 0 0&&Di σF 0 0)=true/\FH σF h1=Ak H0 Ae/\(GY σr&&IG σr H0)=true/\IG σr Hn=true /\
  ren (Cw σF) h1 (st.t s)=.clo gf caps /\
  (∀(l D:Nat) (f' : FuncId) (tm:Array Value),tm.size=N->Zp P (fun g w=>w.heap[l]?=some (.loop (In f' tm ps GU body D .ready))/\∀i,Ba g w (AJ (Ak H0 Ae)) (ren (Cw σF) h1 (st.t i)) (tm.getD i undef)) σr gf
   (.v (.func (.yield l) #[] #[])::caps) (Ak H0 Ae) fun _ h'=>h'=Ak Hn Ae) /\
  EI N rest=true/\OV [] body=false/\Sq jc rest (ZW jc fn.results.toList σr fun r h'=>Q (ren (Cw σ) (Eh σF 0 0 h1 h') (ren (Fr σF 0 0) h' r)) (FH σ (Eh σF 0 0 h1 h')))
   ⟨fun i=>ren (Cw σF) h1 (st.t i),Ak Hn Ae⟩
theorem iE (o k r sz : Nat){f : Nat}{args : List AV}{H : List (Nat × HO)}{Q : AV -> (Nat -> HO) -> Prop}(cx jc : Cx)(σ : Jd)(hP : cx.P = P)(hT : Ca P cx.T)(hP2 : jc.P = P)(hT2 : Ca P jc.T)(hm : P.follows .mixedOrders = true)(hx : cx.ext = true)(zE : jc.ext = true)(hf : P.funcs[f]? = some fn)(hn : (fn.name == "runtime.NumGoroutine") = false)(hb:fn.body=some c)(hN:args.length<=fn.ntmps)(hc:EI fn.ntmps c=true)(hσ:(GY σ&&IG σ H)=true)(n:Nat)(hk:rb cx n c (ZW cx fn.results.toList σ fun r h'=>∃r',BC r r'/\Q r' h') (RfV o k r sz jc P fn.ntmps fn σ fun r h'=>∃r',BC r r'/\Q r' h') ⟨Pi args,Ak H Ae⟩)(hY:∀l σ g w,cx.yp l σ g w:=by exact fun _ _ _ _=>trivial)(hY2:∀l σ g w,jc.yp l σ g w:=by exact fun _ _ _ _=>trivial):AU P f args (Ak H Ae) Q:=by
 refine AU.mono (Q:=fun r h'=>∃r',BC r r'/\Q r' h') ?_ fun _ _ ⟨r',s,q⟩=>⟨r',s,q⟩;simp only[At]at hσ;refine⟨⟨fn,hf,hn,by simp_all⟩,fun g w vals hs hv hI=>callsIn_wide.1 (callsIn_of_wp_marks (F:=Fence.wide) (n:=0) hf hb trivial ?_ rfl)⟩;have hE:LP cx (Ak H Ae):=by unfold LP;rw[hx];exact fun i hi=>⟨(Gz hσ.2 i hi).1,(Gz hσ.2 i hi).2.1⟩
 have hS:SR fn.ntmps [] w g (Ak H Ae) ⟨Pi args,Ak H Ae⟩ g { tmps:=vals++Array.replicate (fn.ntmps-vals.size) undef,defers:=[] } w:=by
  refine⟨hI,.refl _ _ _,rfl,by simp_all,fun i=>?_⟩
  have:=Pj (n:=fn.ntmps-vals.size) (args:=args) (vals:=vals.toList) ch (fun i av x q1 q2=>hv i av x q1 B0) i
  grind [Array.getD_eq_getD_getElem?,Array.toList_append,Array.toList_replicate]
 refine rc hP hT hm hE (fun l σ _ _ w _ _ _=>hY l σ _ w) (fun e st g' a w' Ef hk hS=>?_) (fun b rest st g' a w' hk hS=>?_) n c hc hS hk
 .have out:kn cx st fn.results.toList σ (fun r h'=>∃r',BC r r'/\Q r' h')->LeavesInM (J5 none) 0 P fn a.tmps (fun e w'=>∃v r h' g',e=Ending.returned v/\(∃r',BC r r'/\Q r' h')/\Ba g' w' (AJ h') r v/\CU w g (Ak H Ae) h' g' w'/\Le (Ak H Ae) g w h' g' w') a.defers .returning w':=by
   intro hk;obtain⟨v,q2,r,h',g2,q1,q3,q4,q5⟩:=gN hT hσ.1 hσ.2 hS hk;rw[hS.dfs];exact⟨v,q2,v,r,h',g2,rfl,q1,q3,q4,q5⟩
  cases e with
  |normal=>simp_all
  |ret=>exact out hk
  |exit id=>exact hk.elim
 .obtain⟨h1,g',hS,hk⟩:=xH hS hk;obtain⟨σF,σr,H0,Hn,uC,s,ps,GU,body,gf,caps,rfl,k1,k2,k3,k4,k5,k6,k7,k9,k8⟩:=hk;have hσF:EB σF=true:=B0
  obtain⟨Afd,hI1⟩:=Yl hS.inv hσF;rw[k2]at hI1;have Of:∀i,Ba (DU σF g') w' (AJ (Ak H0 Ae)) (ren (Cw σF) h1 (st.t i)) (a.tmps.getD i undef):=fun i=>by
   have:=(hS.slots i).ren Afd
   simp_all
  refine M2 (Q:=fun r h'=>∃r',BC (ren (Cw σ) (Eh σF 0 0 h1 h') (ren (Fr σF 0 0) h' r)) r'/\Q r' (FH σ (Eh σF 0 0 h1 h'))) (C:=fun R'=>(∀e ik,R' e ik->(∃v r h' g',e=Ending.returned v/\(∃r',BC r r'/\Q r' h')/\Ba g' ik (AJ h') r v/\CU w g (Ak H Ae) h' g' ik/\Le (Ak H Ae) g w h' g' ik)) ->
   (Code.block uC (.rangeFunc (.tmp s) ps GU body)).wpIn (J5 none) 0 P (Exit.then (rest.wpIn (J5 none) 0 P (bodyPostM (J5 none) 0 P fn (fun e ik=>∃v r h' g',e=Ending.returned v/\(∃r',BC r r'/\Q r' h')/\Ba g' ik (AJ h') r v/\CU w g (Ak H Ae) h' g' ik/\Le (Ak H Ae) g w h' g' ik))) (bodyPostM (J5 none) 0 P fn (fun e ik=>∃v r h' g',e=Ending.returned v/\(∃r',BC r r'/\Q r' h')/\Ba g' ik (AJ h') r v/\CU w g (Ak H Ae) h' g' ik/\Le (Ak H Ae) g w h' g' ik))) a w')
   (fun h k h2=>h fun e w r=>h2 _ _ (k _ _ r)) hS.inv (d:=0) (nn:=0) k1 (fun _ uY=>?_) (fun v r h' g2 w2 q1 q2 q3 q4=>?_) (fun _ _ h=>h)
  .rw[k2]at uY;exact xZ jc hP2 hT2 hm zE k3 k4 k5 k6 k7 k9 k8 hY2 hS.dfs hS.size hI1 Of fun v r h' g5 w5 q1 q2 q3 q4=>uY _ _ ⟨v,r,h',g5,rfl,q1,q2,q3,q4⟩
  .obtain⟨hR,j1,j2⟩:=Pk hσ.1 hσ.2 q2 (hS.le.trans q3);exact⟨v,_,_,_,rfl,q1,q4.ren hR,j1,j2⟩
end
end Go.Eng
namespace Go.Eng
open Go.Sort
end Go.Eng
namespace Go.Eng
end Go.Eng
namespace Go.Eng
open Go.Proofs
variable {P:Program}
theorem IB.lend{f:Nat}{sz:Nat}{es:C0}{vs:List Value}{x:Value}(hp:IB P f [.agg (.slice .none es::vs.map .v)] (.v x)) :
  AU P f [.agg (.msl 1000 es.length::vs.map .v)] (Ak [(1000,.arr sz es)] Ae) fun r h'=>r=.v x/\h'=Ak [(1000,.arr sz es)] Ae:=by
 refine⟨hp.1,fun g w us hs hv hI=>?_⟩;have ho:DR g w (AJ (Ak [(1000,.arr sz es)] Ae)) 1000 (.arr sz es):=hI.objs 1000;have hl:∀r,(Ak [(1000,HO.arr sz es)] Ae r).live->r=1000:=fun r hr=>by
  unfold Ak at hr;cases e:Nat.beq r 1000 with
  |true=>simp_all
  |false=>rw[e]at hr;exact hr.elim
 obtain⟨t,hln,FE,AaJ⟩:=ho
 match us,hs with
 | ⟨[u]⟩,_=>
 have h0:=hv 0 _ u rfl rfl;generalize hU:AJ (Ak [(1000,HO.arr sz es)] Ae)=U at h0;generalize hc:AV.msl 1000 es.length::vs.map AV.v=cs at h0;cases h0 with
 |agg _ _ us h1 h2 h3=>
  subst hc;have Mh:0<us.size:=B0
  have hm:=h3 0 _ us[0] rfl (B9 Mh);generalize hy:us[0]=y at hm;cases hm with
  |msl _ _ _ a cap q1 q2 q3 q4 q5=>
   have hρ:=q5 hln.symm
   -- the ghost in which the array is stable
   obtain⟨S1,nA,hS2,hR⟩:∃S1:Nat->Nat->Prop,(∀b o,g.S b o->S1 b o)/\(∀b o,S1 b o->b<w.heap.size)/\Ba { g with S:=S1 } w FD (.slice .none es) (.slice a es.length cap):=by
    rcases AaJ with ⟨e1,e2,e3⟩ | ⟨b,Mn,E,xs,e1,e2,e3,e4,e5,e6,e7⟩
    .subst e1;exact⟨g.S,fun _ _ h=>h,hI.slt,.snil _ _ _⟩
    .rw[e1]at hρ;cases hρ;have hK:EF g w { g with S:=fun c o=>g.S c o\/c=b } w:=fun c o h=>⟨.inl h,rfl,fun _ _ h=>h⟩
     refine⟨fun c o=>g.S c o\/c=b,fun _ _ h=>.inl h,fun c o h=>h.elim (hI.slt c o) fun h=>?_,?_⟩
     .grind
     .exact Ba.slice_row e4 FE e3 (e6.mono hK (fun _ h=>h) (fun _ h=>h.elim)) fun o _=>.inr rfl
   have hK:EF g w { g with S:=S1 } w:=fun c o h=>⟨nA _ _ h,rfl,fun _ _ h=>h⟩;have hA:Ba { g with S:=S1 } w (AJ Ae) (.agg (.slice .none es::vs.map .v)) (.agg us):=by
    refine .agg _ _ _ ch h2 fun i av z k1 k2=>?_
    match i,k1 with
    |0,k1=>
     have:us[0]?=some us[0]:=B9 Mh
     rw[this]at k2;cases k2;grind [Ba.up]
    |i+1,k1=>
     have k3:=h3 (i+1) av z k1 k2
     grind [Ba.v_eq,Ba.v]
   have hI1:CU w { g with S:=S1 } Ae Ae { g with S:=S1 } w:=
    ⟨rfl,rfl,rfl,Ao _,fun _ _ _=>rfl,hS2,fun _=>trivial,fun _ _ _ h=>h.elim,fun _ _ h=>h.elim,fun _ _ h=>.inl h,hI.glob.keep hK⟩
   refine(hp.2 { g with S:=S1 } w ⟨[Value.agg us]⟩ rfl (fun i av z k1 k2=>by
    grind) hI1).mono ?_
   rintro e w' ⟨v,r,h',g',rfl,⟨rfl,rfl⟩,p1,p2,p3⟩
   have si:∀b,b<w.heap.size->w'.heap[b]?=w.heap[b]?:=fun b hb=>p2.frame b hb fun _ h=>h.elim;have hKw:EF g w g w':=fun b o hS=>by
    grind [World.cell?]
   refine⟨v,.v x,_,g,rfl,⟨rfl,rfl⟩,by grind [Ba.v_eq,Ba.v],?_,⟨.refl _ _,fun _ h=>h,hKw⟩⟩;refine⟨p2.os,p2.tape,p2.output,p2.size,fun b hb _=>si b hb,fun b o h=>Bm (hI.slt b o h) p2.size,fun r=>?_,hI.inj,fun r b h1 h2=>?_,fun _ _ h=>.inl h,hI.glob.keep hKw⟩
   .exact(hI.objs r).same hKw (fun _ h=>h) (.refl _ _) rfl rfl rfl rfl fun b hb1 dz=>⟨si b (hI.loc r b hb1 dz).1,fun _ h=>h⟩
   grind
end Go.Eng
namespace Go.Eng
section
variable {P:Program}
theorem Xx{i:Nat}(h:AJ Ae i):False:=h rfl
theorem ay{r i:Nat}{o:HO}(h:r≠i):Ak [(i,o)] Ae r=.free:=by
 simp only[Ak,DK h,F7];rfl
theorem cN{f sz:Nat}{n:Int}(hE:FL P f)
  (h:∀w:World,Calls P f #[.slice none 0 0,.int .i64 n] w fun e w'=>∃(G:Nat) (cs:Array Value) (T:TypeId),e=.returned (.slice (some ⟨w.heap.size,0,none⟩) 0 G)/\cs.size=G*sz/\w'=w.drew.alloc (.cells cs T)) :
  AU P f [nzA,.v (.int .i64 n)] Ae fun r h'=>r=.slice (.id 2000 sz) []/\h'=Ak [(2000,.tok sz 0)] Ae:=by
 refine⟨hE,fun g w us hs hv hI=>?_⟩;have hu:us=#[.slice none 0 0,.int .i64 n]:=by
  have h0:=hv 0 nzA (us[0]' B0) rfl (B9 _);have h1:=hv 1 (.v (.int .i64 n)) (us[1]' B0) rfl (B9 _)
  grind [Ba.v_eq]
 subst hu;refine(h w).mono ?_
 rintro e w' ⟨G,cs,T,rfl,hc,rfl⟩
 have EO:(w.drew.alloc (.cells cs T)).heap[w.heap.size]?=some (.cells cs T (0,0)):=GC w.drew _ rfl;have Yr:∀b,b<w.heap.size->(w.drew.alloc (.cells cs T)).heap[b]?=w.heap[b]?:=fun b hb=>heap_alloc_old (w:=w.drew) _ hb;have FE:(w.drew.alloc (.cells cs T)).heap.size=w.heap.size+1:=World.size_alloc ..;obtain⟨g',ly⟩:∃g' : Gh,g'=⟨fun r=>bif Nat.beq r 2000 then .slice (some ⟨w.heap.size,0,none⟩) 0 G else g.ρ r,fun r=>bif Nat.beq r 2000 then 0 else g.ln r,fun r=>bif Nat.beq r 2000 then true else g.tk r,fun r=>bif Nat.beq r 2000 then some w.heap.size else g.own r,g.S⟩:=⟨_,rfl⟩;have eS:g'.S=g.S:=by rw[ly]
 have e1:g'.ρ 2000=.slice (some ⟨w.heap.size,0,none⟩) 0 G:=B0
 have e2:g'.ln 2000=0:=B0
 have e3:g'.tk 2000=true:=B0
 have e4:g'.own 2000=some w.heap.size:=B0
 have hK:EF g w g' (w.drew.alloc (.cells cs T)):=fun b o hb=>by
  grind [World.cell?,CU.slt]
 have Kf:∀r,(Ak [(2000,HO.tok sz 0)] Ae r).live->r=2000:=fun r hr=>by
  by_cases e:r=2000
  .exact e
  .rw[ay e]at hr;exact hr.elim
 refine⟨_,_,_,g',rfl,⟨rfl,rfl⟩,.tok _ 2000 sz [] _ (.snil _ _ _) Cl (fun q=>by cases q) e3 B0 (fun _=>e1.symm),⟨rfl,rfl,rfl,by omega,fun b hb _=>Yr b hb,fun b o hs=>?_,fun r=>?_,fun r r' b h1 h2 _ _=>(Kf r h1).trans (Kf r' h2).symm,fun r b hr hb=>?_,fun b o hs=>.inl (eS▸hs),?_⟩,⟨fun i hi=>(Xx hi).elim,fun i hi=>(Xx hi).elim,hK⟩⟩
 .rw[FE]
  have:=hI.slt b o (eS▸hs);omega
 .by_cases e:r=2000
  .subst e;refine⟨e3,e2,_,G,e1,.inr ⟨Aj _,w.heap.size,T,cs,0,rfl,e4,.of EO,by omega,fun o ho=>?_⟩⟩;rw[eS]at ho
   grind [CU.slt]
  .rw[ay e];trivial
 .grind
 .have:=hI.glob.keep hK
  omega
end
end Go.Eng
