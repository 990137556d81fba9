/- Lemmas 6. -/
import Derived.Test.YteaiieomnhbmgaaGreatDoorAA05
namespace Go.Eng
variable {U:Nat->Prop}{x:Value}{vs:Array Value}{w:World}{ρ:Operand->Value}{es:Array MapEntry}{g:Gh}{sh:E1}{cs:List AV}{BU:List (Value×AV)}{f:Nat×Nat}{vx:Value}{ok:Bool}{b:Nat}{e:MapEntry}{a:AV}{i kt:Nat}{y:Value}{ck sz cap:Nat}(P:Program)(w0:World)(g0:Gh)(h0:Nat->HO)
theorem Ck.at{vs:List Value}(h:Ck g w U cs vs){av:AV}(hi:cs[i]?=some av):∃x,vs[i]?=some x/\x.oneCell'=true/\Ba g w U av x:=by
 have EU:i<vs.length:=by rw[h.1];grind
 exact⟨vs[i],A0 EU,h.2.1 _ (Ai EU),h.2.2 i av _ hi (A0 EU)⟩
theorem Fu{α:Type}{n:Nat}:∀{es:List (List α)},(∀c∈es,c.length=n)->∀{i j:Nat} {c:List α},es[i]?=some c->j<n->es.flatten[i*n+j]?=c[j]?
 | [],_,i,j,c,h,_=>by simp_all
 |d::es,hl,0,j,c,h,hj=>by
  grind
 |d::es,hl,i+1,j,c,h,hj=>by
  have hd:=hl d (Ah ..);rw[BZ,BM aa0];rw[show(i+1)*n+j-d.length=i*n+j by grind];exact Fu (fun c hc=>hl c (Am _ hc)) B0 hj
theorem Dv{α:Type}{n:Nat}:∀{es:List (List α)},(∀c∈es,c.length=n)->es.flatten.length=es.length*n
 | [],_=>by simp
 |d::es,hl=>by
  rw[BZ,Ac,hl d (Ah ..),Dv (fun c hc=>hl c (Am _ hc)),Ap,Nat.succ_mul,Nat.add_comm]
section
variable {P:Program}{T:GK}(hT:Ca P T){h:Nat->HO}{g:Gh}{w:World}{K:AV->Prop}(ho:∀r,DR g w (AJ h) r (h r))
include ho
theorem iN(hT:Ca P T){t:Nat}{x:AV}(hx:Ba g w (AJ h) x vx){hi mx:Option Operand}(hk:cR T h t x hi mx K):Bv P h g w (Instr.sliceAt t vx none (hi.map ρ) (mx.map ρ)) K:=by
 unfold cR at hk;split at hk
 .rename_i n e r hd;split at hk
  .rename_i cs hs he;obtain⟨rfl,hk⟩:=hk;cases hx with
   |ref _ _ _ b hu ht hx=>
    have hr:=ho r;rw[he]at hr;obtain⟨_,b',a1,a2⟩:=hr;rw[a1]at hx;cases hx;cases a2 with
    |cptr _ _ _ off val DM Ey=>
     have ha:=hT.array hd;refine⟨.slice (some ⟨b,0,none⟩) cs.length cs.length,_,?_,hk,?_⟩
     .simp[Instr.sliceAt,Instr.sureAddr,run_underlying ha,Instr.sliceBounds,hT.size1 w hs,Addr.add_lit]
     .have q:=Ba.slice (g:=g) (w:=w) (AJ h) (cs.map fun c=>[c]) b 0 1 cs.length (fun i _=>val i) Cl Cl ?_ ?_
      all_goals grind
  simp_all
 simp_all
theorem WR(hT:Ca P T){t:Nat}{p:AV}{vp:Value}(hp:Ba g w (AJ h) p vp)(hk:JI T h t p K):Bv P h g w (Instr.loadAt t vp) K:=by
 have fh:∀b off,Bv P h g w (loadVar t ⟨b,off,none⟩) K->Bv P h g w (Instr.loadAt t (.pointer (some ⟨b,off,none⟩))) K:=by
  grind [Instr.loadAt,Instr.sureAddr]
 unfold JI at hk;split at hk
 .cases hp with
  |cptr _ _ b off val DM Ey=>exact fh b off (MG hT (HL.of_cptr (.cptr FD _ b off val DM Ey) _) hk)
 .rename_i r off;have hr:=ho r;cases hp with
  |ref _ _ _ b hu ht hx=>
   split at hk
   .rename_i cs e;rw[e]at hr;obtain⟨_,b',E,vs,a1,a2,a3,a4,a5⟩:=hr;rw[a2]at hx;cases hx
    have:=(HL.of_row a3 a4).drop off
    grind [MG]
   .rename_i cs e;rw[e]at hr;obtain⟨_,b',a1,a2⟩:=hr;rw[a1]at hx;cases hx
    have:=(HL.of_cptr a2 (AJ h)).drop off
    grind [MG]
   simp_all
 .rename_i r n sz i off;have hr:=ho r;cases hp with
  |eref _ _ _ _ _ _ b cap hu ht hn hx=>
   split at hk
   .rename_i HJ es e;rw[e]at hr;split at hk
    .rename_i hz;obtain rfl:=A3 hz;obtain⟨Dr,cs,h1,hk⟩:=hk;obtain⟨t1,l1,al,a1⟩:=hr;have EU:=(Bf.1 h1).1;rcases a1 with ⟨rfl,_⟩ | ⟨b',Mn,E,vs,e1,e2,e3,e4,e5,e6,e7⟩
     .simp_all
     .have:=hx (Dr.trans l1.symm)
      rw[e1]at this;simp only[Value.slice.injEq,DJ,Addr.mk.injEq]at this;obtain⟨⟨rfl,_,_⟩,_,_⟩:=this;refine fh _ _ (MG hT (cs:=cs.drop off) (fun j av hj=>?_) hk);rw[F2]at hj;have hcl:=al cs (AG h1);have hj2:off+j<sz:=aa0
      have hf:=Fu al h1 hj2
      grind [F6,Ck.at,Ba.up]
    simp_all
   .rename_i HJ es i' c av e;rw[e]at hr;split at hk
    .rename_i hz;obtain rfl:=A3 hz;obtain⟨⟨Dr,rfl,rfl⟩,hk⟩:=hk;obtain⟨t1,l1,al,b',Mn,E,vs,e1,e2,e3,e4,e5,e6,e7,e8,x,e9,e10⟩:=hr
     have:=hx (Dr.trans l1.symm)
     rw[e1]at this;simp only[Value.slice.injEq,DJ,Addr.mk.injEq]at this;obtain⟨⟨rfl,_,_⟩,_,_⟩:=this;refine fh _ _ (MG hT (cs:=[av]) (fun j a' hj=>?_) hk);cases j with
     |succ j=>grind
     |zero=>
      simp only[EG,DJ]at hj;subst hj;refine⟨x,by grind [F6],?_,e10⟩;have hm:x∈vs.toList.take (es.length*sz):=by
       have h9:vs.toList[i*sz+off]?=some x:=aa0
       exact AG (by rw[Sn e8];exact h9)
      exact e6.2.1 x hm
    simp_all
   simp_all
 simp_all
end
theorem Ga{α:Type}:∀(cs:List α) (o:Nat) (vs:List α),(over cs o vs).length=cs.length
 | [],_,_=>rfl
 |c::cs,o+1,vs=>by simp[over,Ga cs o vs]
 |c::cs,0,[]=>rfl
 |c::cs,0,v::vs=>by simp[over,Ga cs 0 vs]
theorem GD{α:Type}:∀(cs:List α) (o:Nat) (vs:List α) (i:Nat),o+vs.length<=cs.length->(over cs o vs)[i]?=if o<=i/\i<o+vs.length then vs[i-o]? else cs[i]?
 | [],o,vs,i,h=>by
  grind [over]
 |c::cs,o+1,vs,0,h=>by simp[over]
 |c::cs,o+1,vs,i+1,h=>by
  have:=GD cs o vs i aa0
  grind [over]
 |c::cs,0,[],i,h=>by
  have:¬(0<=i/\i<0+([]:List α).length):=Cl
  rw[AA this];rfl
 |c::cs,0,v::vs,0,h=>by simp[over]
 |c::cs,0,v::vs,i+1,h=>by
  have:=GD cs 0 vs i B0
  grind [over]
theorem Ck.over{g:Gh}{w:World}{U:Nat->Prop}{cs VC:List AV}{xs vs:List Value}(h:Ck g w U cs xs)(k:Ck g w U VC vs)(o:Nat)(Jk:o+VC.length<=cs.length) :
  Ck g w U (Eng.over cs o VC) (Eng.over xs o vs):=by
 have Ab2 : o+vs.length<=xs.length:=by rw[k.1,h.1];exact Jk
 refine⟨by rw[Ga,Ga,h.1],fun x hx=>?_,fun i av x h1 h2=>?_⟩
 .obtain⟨i,hi⟩:=En.1 hx;rw[GD _ _ _ _ Ab2]at hi;split at hi
  .exact k.2.1 _ (AG hi)
  .exact h.2.1 _ (AG hi)
 .rw[GD _ _ _ _ Jk]at h1;rw[GD _ _ _ _ Ab2,k.1]at h2;split at h1
  .rename_i hc;rw[Ax hc]at h2;exact k.2.2 _ _ _ h1 h2
  .rename_i hc;rw[AA hc]at h2;exact h.2.2 _ _ _ h1 h2
theorem xM(h:Ba g w U a x)(h1:one a=true):x.oneCell'=true:=by
 cases h with
 |v=>exact h1
 |tok _ r sz es _ h=>cases h with
  |snil=>rfl
  |slice=>rfl
 |ver _ r sz v es _ h=>cases h with
  |snil=>rfl
  |slice=>rfl
 |full _ sz es _ h=>cases h with
  |snil=>rfl
  |slice=>rfl
 |_=>first |rfl |(cases h1;done)
theorem km(h:x.oneCell'=true):x.cells=#[x]:=by
 cases x<;>first | rfl | grind [Value.oneCell']
theorem M3{n:Nat}{K:List AV->Prop}(h:Ba g w U a x)(hk:Hj n a K) :
  ∃cs,K cs/\cs.length=n/\Ck g w U cs x.cells.toList:=by
 have single:one a=true->n=1->K [a]->∃cs,K cs/\cs.length=n/\Ck g w U cs x.cells.toList:=by
  intro h1 hn hk;have hx:=xM h h1;rw[km hx];refine⟨[a],hk,hn.symm,rfl,by simp_all,fun i av y e1 e2=>?_⟩
  grind
 unfold Hj at hk;split at hk
 .rename_i cs;split at hk
  .rename_i hl;cases h with
   |agg _ _ vs hs h1 hr=>
    refine⟨cs,hk,A3 hl,by grind [Value.cells],fun y hy=>?_,fun i av y e1 e2=>?_⟩
    all_goals grind [List.mem_iff_getElem?,Value.cells]
  simp_all
 grind
theorem Oc:∀(vs:List Value) (k o:Nat) (cs:Array Value),o+k+vs.length<=cs.size ->
  ((vs.zipIdx k).foldl (fun(cs:Array Value) (p:Value×Nat)=>cs.setIfInBounds (o+p.2) p.1) cs).toList=over cs.toList (o+k) vs
 | [],k,o,cs,_=>by
  have:∀(l:List Value) (o:Nat),over l o []=l:=by
   intro l
   induction l with
   |nil=>intro o;rfl
   |cons c l ih=>intro o;cases o<;>grind [over]
  simp_all
 |v::vs,k,o,cs,h=>by
  simp at h;rw[List.zipIdx_cons,Gt,Oc vs (k+1) o _ aa0];simp only[Array.toList_setIfInBounds];apply Da
  grind [GD]
theorem T1{g:Gh}{w:World}{U:Nat->Prop}{t:Nat->AV}{ρ:Operand->Value}(ht:∀x:Operand,Ba g w U (ev t x) (ρ x)){pl pl' : Nat->Option (Nat×Nat)}(dE:∀i p,pl i=some p->pl' i=some p) :
  ∀{ps:List (Nat×Operand)} {cs:List AV} {xs:Array Value} {K:List AV->Prop},Ck g w U cs xs.toList->KO pl cs t ps K ->
   ∃fK Zf,K fK/\Ck g w U fK Zf.toList/\Instr.fill pl' xs (ps.map fun(i,x)=>(i,ρ x))=some Zf
 | [],cs,xs,K,h,hk=>⟨cs,xs,hk,h,rfl⟩
 |(i,x)::ps,cs,xs,K,h,hk=>by
  unfold KO at hk;split at hk
  .simp_all
  .rename_i o n hp;obtain⟨VC,hk,hn,hr⟩:=M3 (ht x) hk;split at hk
   .rename_i Jk;have Jk:=Gc Jk;have FE:(ρ x).cells.size=n:=by rw[<-hn];simpa using hr.1
    have sr:cs.length=xs.size:=by simpa using h.1.symm
    have EO:=h.over hr o ch;have e:=Oc (ρ x).cells.toList 0 o xs B0;simp only[HD]at e;rw[<-e]at EO;obtain⟨fK,Zf,k1,k2,k3⟩:=T1 ht dE EO hk<;>grind [Instr.fill,Array.toList_zipIdx]
   simp_all
theorem M0:∀{l:List AV},GT l=true->∀a∈l,one a=true
 | [],_,a,h=>by cases h
 |b::r,h,a,ha=>by
  unfold GT at h;split at h
  .rename_i hb;rcases AZ.1 ha with rfl | ha
   .exact hb
   .exact M0 h a ha
  simp_all
theorem Ck.vals{vs:List Value}(h:GT (vs.map .v)=true):Ck g w U (vs.map .v) vs:=by
 refine⟨by simp,fun x hx=>?_,fun i av x h1 h2=>?_⟩
 .have:=M0 h (.v x) (Ay.2 ⟨x,hx,rfl⟩)
  grind [one]
 grind [Ba.v]
section
variable {P:Program}{T:GK}(hT:Ca P T){h:Nat->HO}{g:Gh}{w:World}{K:AV->Prop}
theorem aZ{α β:Type}(P:Program)(w:World)(f:α->Sem β)(f' : α->β):∀(l:List α),(∀a∈l,(f a).run P w=.ok (f' a) w)->(l.mapM f).run P w=.ok (l.map f') w
 | [],_=>rfl
 |a::l,h=>by
  have h1:=h a (Ah ..);have h2:=aZ P w f f' l (fun b hb=>h b (Am _ hb));simp_all
theorem RE:∀{fs:List (Nat×Nat)},OQ T fs=true->∀p∈fs,∃n,(T p.1).size=n+1
 | [],_,p,h=>by cases h
 |(t,o)::r,h,p,hp=>by
  unfold OQ at h;split at h
  .cases h
  .rename_i n hn;rcases AZ.1 hp with rfl | hp
   .simp_all
   .exact RE h p hp
include hT
theorem MY{t:Nat}(hd:(T t).d≠.other):∃z,(zeroValue t).run P w=.ok z w/\(T t).zc=z.cells.toList/\(T t).zero=z:=by
 obtain⟨d,i,z,h1,h2,h3,h4,h5,h6,h7,h8⟩:=hT.get hd;exact⟨z,by simp[zeroValue,typeInfo,h3,h4],by rw[TI.zc_cells,h7],h7⟩
theorem XD{t n:Nat}(h:(T t).size=n+1):∃z,(zeroValue t).run P w=.ok z w/\(T t).zc=z.cells.toList:=by
 rcases hT t with e | e
 .rw[e]at h;cases h
 unfold lk at e;split at e
 .split at e
  .rename_i d i h1 h2 _ z h3;exact⟨z,by simp[zeroValue,typeInfo,h2,h3],by rw[TI.zc_cells,e]⟩
  simp_all
 simp_all
theorem iU{ty:Nat}{t:Nat->AV}(ht:∀x:Operand,Ba g w (AJ h) (ev t x) (ρ x)){ps:Array (Nat×Operand)}(hk:QC T ty t ps.toList K) :
  Bv P h g w (Instr.build ty (ps.map fun(i,x)=>(i,ρ x))) K:=by
 unfold QC at hk;split at hk
 .simp_all
 .rename_i Ys;have fin:∀(fK : List AV) (Zf : Array Value),Ck g w (AJ h) fK Zf.toList->Ba g w (AJ h) (.agg fK) (.agg Zf):=fun fK Zf hr=>
   .agg _ _ _ (by simpa using hr.1) (fun i x hx=>hr.2.1 x (AG (by simpa using hx))) (fun i av x h1 h2=>hr.2.2 i av x h1 B0)
  split at hk
  .rename_i fs hs;have hd:(T ty).d≠.other:=B0
   obtain⟨z,z1,z2,_⟩:=MY hT (w:=w) hd;split at hk
   .simp_all
   .rename_i FE;obtain⟨fa,u1,u2,u3⟩:=hT.struct hs;have so:(fa.mapM fun(f:Field)=>(do pure (f.offset,<-sizeOf f.type):Sem (Nat×Nat))).run P w=.ok (fa.map fun f=>(f.offset,(T f.type).size)) w:=by
     rw[Array.mapM_eq_mapM_toList]
     have:=aZ P w (fun f:Field=>(do pure (f.offset,<-sizeOf f.type):Sem (Nat×Nat))) (fun f=>(f.offset,(T f.type).size)) fa.toList (fun f hf=>by
      obtain⟨n,hn⟩:=RE FE (f.type,f.offset) aa0;simp[hT.size1 w hn,hn])
     simp only[Sem.run_map,this,Result.andThen_ok]
     congr 1
     apply Array.ext';simp
    rw[z2]at hk Ys;obtain⟨fK,Zf,k1,k2,k3⟩:=T1 ht (pl':=fun i=>(fa.map fun f=>(f.offset,(T f.type).size))[i]?) (fun i p hp=>by
     split at hp
     .rename_i t' o hf;cases hp;obtain⟨fa',fd,v1,v2,rfl,rfl⟩:=T6 hT hs hf<;>simp_all
     simp_all) (Ck.vals (vs:=z.cells.toList) Ys) hk
    refine⟨_,_,?_,k1,fin fK Zf k2⟩;simp only[Instr.build,Sem.run_bind,z1,Result.andThen_ok,run_underlying u1,so];simp_all
  .rename_i n e hs;have hd:(T ty).d≠.other:=B0
   obtain⟨z,z1,z2,_⟩:=MY hT (w:=w) hd;split at hk
   .simp_all
   .rename_i m hm;rw[z2]at hk Ys;obtain⟨fK,Zf,k1,k2,k3⟩:=T1 ht (pl':=fun i=>some (i*(T e).size,(T e).size)) (fun i p hp=>hp) (Ck.vals (vs:=z.cells.toList) Ys) hk;refine⟨_,_,?_,k1,fin fK Zf k2⟩;simp only[Instr.build,Sem.run_bind,z1,Result.andThen_ok,run_underlying (hT.array hs),hT.size1 w hm];simp_all
  simp_all
end
theorem sI{a b:KS}(h:sH a b=true):a=b:=by
 cases a<;>cases b<;>first | rfl | (simp[sH]at h;done) | grind [sH,Ly]
theorem aS:∀{a b:List KS},Uy a b=true->a=b
 | [],[],_=>rfl
 |x::a,y::b,h=>by
  unfold Uy at h;split at h
  .rename_i e;obtain rfl:=sI e;obtain rfl:=aS h;rfl
  simp_all
 | [],_::_,h=>by grind [Uy]
 |_::_,[],h=>by grind [Uy]
theorem tN{a b:E1}(h:yc a b=true):a=b:=by
 obtain⟨a1,a2⟩:=a;obtain⟨b1,b2⟩:=b<;>grind [yc,aS]
section
variable {P:Program}{T:GK}(hT:Ca P T)
include hT
def KC(P:Program)(w:World)(b:Bool)(d t:Nat)(xs:Array Value)(o:Nat):Prop:=
 (do let a <-part t xs o;Instr.checkKey b d t a).run P w=.ok () w
theorem TE(w:World)(b:Bool):∀(n t:Nat) (l:List KS),HT T n t=some l->∀d,n<=d->∀(xs:Array Value) (o:Nat),JZ l (IP xs.toList o l.length)=true->KC P w b d t xs o
 |0,t,l,h=>by grind [HT]
 |n+1,t,l,h=>by
  intro d hd xs o hx;obtain⟨d,rfl⟩:∃d',d=d'+1:=⟨d-1,by omega⟩;have scalar:∀k,(T t).d≠.other->J3 (T t).d=false->l=[k]->(∀x,NR k x=true->(Instr.checkKey b (d+1) t x).run P w=.ok () w)->KC P w b (d+1) t xs o:=by
   rintro k gi hs rfl hk
   obtain⟨x,x1,x2,x3⟩:=LK hx;unfold KC;simp[Sem.run_bind,DQ hT w gi hs xs o _ x1,hk x x2]
  unfold HT at h;split at h
  .rename_i k hk;split at h
   .cases h
    refine scalar _ B0 (by rw[hk];rfl) rfl (fun x hx=>?_);cases x<;>simp[NR]at hx
    simp[Instr.checkKey,run_underlying (hT.int hk)]
   simp_all
  .rename_i hk;split at h
   .cases h
    refine scalar _ B0 (by rw[hk];rfl) rfl (fun x hx=>?_);cases x<;>simp[NR]at hx
    simp[Instr.checkKey,run_underlying (hT.string hk)]
   simp_all
  .rename_i hk;split at h
   .cases h
    refine scalar _ B0 (by rw[hk];rfl) rfl (fun x hx=>?_);cases x<;>simp[NR]at hx
    simp[Instr.checkKey,run_underlying (hT.bool hk)]
   simp_all
  .rename_i fs hk;split at h
   .split at h
    .rename_i l' JD;split at h
     .rename_i Dr;cases h;have Dr:=A3 Dr;have gi:(T t).d≠.other:=B0
      have hs:J3 (T t).d=true:=by rw[hk];rfl
      obtain⟨fa,u1,u2,u3⟩:=hT.struct hk;rw[u2]at JD;have ex:(xs.extract o (o+(T t).size)).toList=IP xs.toList o l.length:=by
       grind [IP,Array.toList_extract]
      have s0:IP (IP xs.toList o l.length) 0 l.length=IP xs.toList o l.length:=by
       grind [gZ]
      unfold KC;simp only[Sem.run_bind,GP hT w gi hs,Result.andThen_ok];have ih:=TE w b n;have hq:JZ l (IP (xs.extract o (o+(T t).size)).toList 0 l.length)=true:=B0
      generalize xs.extract o (o+(T t).size)=ys at hq;simp only[Instr.checkKey,Sem.run_bind,run_underlying u1,Result.andThen_ok];rw[<-Array.forIn_toList]
      clear u2 hk
      have key : ∀ (fl : List Field) (m : Nat) (l : List KS), Ob (HT T n) m (fl.map fun f => (f.type, f.offset)) = some l -> (∀ f ∈ fl, f.name ≠ "_") -> JZ l (IP ys.toList m l.length) = true ->
        (forIn fl PUnit.unit (fun (f : Field) (_ : PUnit) => ((if f.name ≠ "_" then (do
         let x <-part f.type ys f.offset
         Instr.checkKey b d f.type x
         pure (ForInStep.yield PUnit.unit))else pure (ForInStep.yield PUnit.unit)):Sem (ForInStep PUnit)))).run P w=.ok PUnit.unit w:=by
       intro fl
       induction fl with
       |nil=>simp_all
       |cons f fl ihf=>
        intro m l hg hn hy;obtain⟨ho,a,c,ha,hc,rfl⟩:=NO hg;rw[Ac]at hy;obtain⟨y1,y2⟩:=SP hy;rw[Qg _ _ _ _ ch]at y1;rw[Vb,Nat.add_sub_cancel_left]at y2;have h1:=ih f.type a ha d ch ys m y1;unfold KC at h1;rw[List.forIn_cons];simp only[Sem.run_bind,Ax (hn f (Ah ..))];simp only[Sem.run_bind]at h1;rw[ho];generalize (part f.type ys m).run P w=r1 at h1⊢;cases r1 with
        |halt x w1=>cases h1
        |ok u w1=>
         grind [Result.andThen_ok,Sem.run_pure]
      rw[key fa.toList 0 l JD u3 hq]
      rfl
     simp_all
    simp_all
   simp_all
  simp_all
theorem pJ(hs:H6 T kt=some sh)(w:World)(hx:YV sh x=true)(hy:YV sh y=true) :
  ∃b:Bool,(Op.equal kt x y).run P w=.ok b w/\(b=true↔x=y):=by
 unfold H6 at hs;split at hs
 .rename_i fs hk;split at hs
  .rename_i l hl;cases hs;cases x<;>simp only[YV]at hx<;>try (cases hx;done)
   cases y<;>simp only[YV]at hy<;>try (cases hy;done)
   rename_i xs ys;have hd:(T kt).d≠.other:=B0
   have ha:J3 (T kt).d=true:=by rw[hk];rfl
   have Dr:l.length=(T kt).size:=by
    grind [HT,Nat.eq_of_beq_eq_true]
   have s0:∀zs:Array Value,JZ l zs.toList=true->IP zs.toList 0 l.length=zs.toList:=fun zs hz=>by
    grind [Na,IP,List.take_of_length_le]
   have ex:∀zs:Array Value,JZ l zs.toList=true->zs.extract 0 (0+(T kt).size)=zs:=fun zs hz=>by
    have:=Na hz
    simp_all
   obtain⟨b,b1,b2⟩:=X9 hT w 8 kt l hl 10000 ch xs ys 0 B0 B0;simp only[Sem.run_bind,GP hT w hd ha,Result.andThen_ok,ex _ hx,ex _ hy]at b1;rw[s0 _ hx,s0 _ hy]at b2;refine⟨b,b1,b2.trans ⟨fun e=>by simp_all,fun e=>by simp_all⟩⟩
  simp_all
 .rename_i Qs;split at hs
  .rename_i l hl;cases hs;have Sy : JZ l [x]=true:=by cases x<;>exact hx
   have hy' : JZ l [y]=true:=by cases y<;>exact hy
   have single:∀k,l=[k]->NR k x=true/\NR k y=true:=by
    grind [JZ]
   have e9:Op.equal kt x y=Op.equalIn (9999+1) kt x y:=rfl;rw[e9];unfold HT at hl;split at hl
   .rename_i k hk;split at hl
    .cases hl
     obtain⟨h1,h2⟩:=single _ rfl;cases x<;>simp[NR]at h1
     cases y<;>simp[NR]at h2
     obtain rfl:=Ly h1;obtain rfl:=Ly h2;exact⟨_,run_equalIn_int w 9999 kt _ _ _ _ (hT.int hk),by simp⟩
    simp_all
   .rename_i hk;split at hl
    .cases hl
     obtain⟨h1,h2⟩:=single _ rfl;cases x<;>simp[NR]at h1
     cases y<;>simp[NR]at h2
     exact⟨_,run_equalIn_string w 9999 kt _ _ (hT.string hk),by grind [JT]⟩
    simp_all
   .rename_i hk;split at hl
    .cases hl
     obtain⟨h1,h2⟩:=single _ rfl;cases x<;>simp[NR]at h1
     cases y<;>simp[NR]at h2
     exact⟨_,run_equalIn_bool' w 9999 kt _ _ (hT.bool hk),by simp⟩
    simp_all
   all_goals simp_all
  simp_all
theorem MU(hs:H6 T kt=some sh)(w:World)(b:Bool)(hx:YV sh x=true):(Instr.checkKey b 10000 kt x).run P w=.ok () w:=by
 unfold H6 at hs;split at hs
 .rename_i fs hk;split at hs
  .rename_i l hl;cases hs;cases x<;>simp only[YV]at hx<;>try simp_all
   rename_i xs;have hd:(T kt).d≠.other:=B0
   have ha:J3 (T kt).d=true:=by rw[hk];rfl
   have Dr:l.length=(T kt).size:=by
    grind [HT,Nat.eq_of_beq_eq_true]
   have:=Na hx
   have h0:IP xs.toList 0 l.length=xs.toList:=by
    grind [IP]
   have h1:=TE hT w b 8 kt l hl 10000 ch xs 0 B0
   grind [KC,Sem.run_bind,GP,Result.andThen_ok,Array.extract_size]
  simp_all
 .rename_i Qs;split at hs
  .rename_i l hl;cases hs;have key:∀d,(Instr.checkKey b (d+1) kt x).run P w=.ok () w:=by
    intro d;unfold HT at hl;split at hl
    .rename_i k hk;simp[Instr.checkKey,run_underlying (hT.int hk)]
    .rename_i hk;simp[Instr.checkKey,run_underlying (hT.string hk)]
    .rename_i hk;simp[Instr.checkKey,run_underlying (hT.bool hk)]
    all_goals simp_all
   simp_all
  simp_all
end
def Mk(x:Value)(es:List MapEntry)(i:Nat)(r:Option (Nat×Value)):Prop:=
 (r=none/\∀e∈es,e.key≠x)\/∃(j:Nat) (e:MapEntry),r=some (i+j,e.val)/\es[j]?=some e/\e.key=x
theorem Mk.here{es:List MapEntry}(h:e.key=x):Mk x (e::es) i (some (i,e.val)):=
 .inr ⟨0,e,rfl,rfl,h⟩
theorem Mk.there{es:List MapEntry}{r:Option (Nat×Value)}(h:e.key≠x)(k:Mk x es (i+1) r):Mk x (e::es) i r:=by
 rcases k with ⟨h1,h2⟩ | ⟨j,e',h1,h2,h3⟩
 .exact .inl ⟨h1,fun d hd=>(AZ.1 hd).elim (fun e'=>e'▸h) (h2 d)⟩
 .exact .inr ⟨j+1,e',by grind,h2,h3⟩
theorem T2{kind:TypeDesc}{x:Value}:∀(es:List MapEntry) (i:Nat),(∀e∈es,∃b,Instr.sameNow kind x e.key=some b/\(b=true↔x=e.key))->∃r,Instr.findNow kind x es i=some r/\Mk x es i r
 | [],i,_=>⟨none,rfl,.inl ⟨rfl,fun _ h=>by cases h⟩⟩
 |e::es,i,h=>by
  obtain⟨b,b1,b2⟩:=h e (Ah ..);cases b with
  |true=>exact⟨_,by grind [Instr.findNow],.here (b2.1 rfl).symm⟩
  |false=>
   obtain⟨r,r1,r2⟩:=T2 es (i+1) (fun d hd=>h d (Am _ hd))<;>grind [Instr.findNow,Mk.there]
section
variable {P:Program}{T:GK}(hT:Ca P T)
include hT
theorem NM{kt:Nat}{sh:E1}(hs:H6 T kt=some sh)(w:World){x:Value}(hx:YV sh x=true) :
  ∀(es:List MapEntry) (i:Nat),(∀e∈es,YV sh e.key=true)->∃r,(Instr.findAsking kt x es i).run P w=.ok r w/\Mk x es i r
 | [],i,_=>⟨none,rfl,.inl ⟨rfl,fun _ h=>by cases h⟩⟩
 |e::es,i,h=>by
  obtain⟨b,b1,b2⟩:=pJ hT hs w hx (h e (Ah ..));cases b with
  |true=>exact⟨_,by simp[Instr.findAsking,b1],.here (b2.1 rfl).symm⟩
  |false=>
   obtain⟨r,r1,r2⟩:=NM hs w hx es (i+1) (fun d hd=>h d (Am _ hd));exact⟨r,by simp[Instr.findAsking,b1,r1],.there (fun e'=>by simp_all) r2⟩
theorem Ox(hs:H6 T kt=some sh)(w:World)(hx:YV sh x=true)(es:List MapEntry)(he:∀e∈es,YV sh e.key=true) :
  ∃r,(Instr.findKey kt x es).run P w=.ok r w/\Mk x es 0 r:=by
 have AdM:∀d,P.underlying kt=some d->Instr.findNow d x es 0=none->∃r,(Instr.findKey kt x es).run P w=.ok r w/\Mk x es 0 r:=by
  intro d hd hn;obtain⟨r,r1,r2⟩:=NM hT hs w hx es 0 he;exact⟨r,by simp[Instr.findKey,run_underlying hd,hn,r1],r2⟩
 have now:∀d,P.underlying kt=some d->(∀e∈es,∃b,Instr.sameNow d x e.key=some b/\(b=true↔x=e.key))->∃r,(Instr.findKey kt x es).run P w=.ok r w/\Mk x es 0 r:=by
  intro d hd hn;obtain⟨r,r1,r2⟩:=T2 es 0 hn;exact⟨r,by simp[Instr.findKey,run_underlying hd,r1],r2⟩
 have jD:=hs;unfold H6 at jD;split at jD
 .rename_i fs hk;obtain⟨fa,u1,_⟩:=hT.struct hk;cases es<;>grind [Instr.findNow,Instr.sameNow]
 .rename_i Qs;split at jD
  .rename_i l hl;cases jD;have cv:∀y,YV ⟨false,l⟩ y=true->JZ l [y]=true:=fun y hy=>by cases y<;>exact hy
   have Sy:=cv x hx;have he' : ∀e∈es,JZ l [e.key]=true:=fun e h=>cv _ (he e h)
   clear hx he cv
   have single:∀k y,l=[k]->JZ l [y]=true->NR k y=true:=by
    grind [JZ]
   unfold HT at hl;split at hl
   .rename_i k hk;split at hl
    .cases hl
     refine now _ (hT.int hk) (fun e h=>?_);have h1:=single _ _ rfl Sy;have h2:=single _ _ rfl (he' e h);generalize e.key=y at h2;cases x<;>simp[NR]at h1
     cases y<;>simp[NR]at h2
     obtain rfl:=Ly h1;obtain rfl:=Ly h2;exact⟨_,by simp[Instr.sameNow];rfl,by simp⟩
    simp_all
   .rename_i hk;split at hl
    .cases hl
     refine now _ (hT.string hk) (fun e h=>?_);have h1:=single _ _ rfl Sy;have h2:=single _ _ rfl (he' e h);generalize e.key=y at h2;cases x<;>simp[NR]at h1
     cases y<;>simp[NR]at h2
     exact⟨_,by simp[Instr.sameNow];rfl,by grind [beq_toListBytes,JT]⟩
    simp_all
   .rename_i hk;split at hl
    .cases hl
     refine now _ (hT.bool hk) (fun e h=>?_);have h1:=single _ _ rfl Sy;have h2:=single _ _ rfl (he' e h);generalize e.key=y at h2;cases x<;>simp[NR]at h1
     cases y<;>simp[NR]at h2
     exact⟨_,by simp[Instr.sameNow];rfl,by simp⟩
    simp_all
   all_goals simp_all
  simp_all
end
theorem Si{P:Program}(w:World)(hx:YV sh x=true):(Instr.keyThatStays x x).run P w=.ok x w:=by
 have scalar:∀(k:KS) (y:Value) (n:Nat),NR k y=true->Instr.sameBits n y y=true:=by
  intro k y n h;cases k<;>cases y<;>simp[NR]at h<;>cases n<;>simp[Instr.sameBits,beq_toListBytes]
 have lst:∀(l:List KS) (ys:List Value) (n:Nat),JZ l ys=true->((ys.zip ys).all fun(a,b)=>Instr.sameBits n a b)=true:=by
  intro l ys n
  induction ys generalizing l with
  |nil=>simp_all
  |cons y ys ih=>
   grind [List.zip_cons_cons,JZ.eq_def]
 have h1:∀n,Instr.sameBits (n+1) x x=true:=by
  intro n;obtain⟨ag,l⟩:=sh;cases ag with
  |true=>
   cases x<;>simp only[YV]at hx<;>try simp_all
   have:=lst l _ n hx
   grind [Instr.sameBits]
  |false=>
   have Sy : JZ l [x]=true:=by cases x<;>exact hx
   grind [JZ.eq_def]
 have:=h1 9999
 simp only[Instr.keyThatStays];simp_all
theorem XA:∀{cs:List AV} {l:List Value},Y3 cs=some l->cs=l.map .v
 | [],l,h=>by cases h;rfl
 |a::r,l,h=>by
  cases a<;>simp only[Y3]at h<;>try (cases h;done)
  split at h
  .rename_i l' hl;cases h;rw[XA hl];rfl
  simp_all
theorem sE(h:Ba g w U a x)(hk:xv a=some y):x=y:=by
 unfold xv at hk;split at hk
 .grind [Ba.v_eq]
 .split at hk
  .rename_i l hl;cases hk;obtain rfl:=XA hl;exact h.agg_vals
  simp_all
 simp_all
theorem M9{T:GK}{ty:Nat}{K:Value->Prop}(h:Ba g w U a x)(hk:Kv T ty sh a K) :
  ∃kt e,(T ty).d=.map kt e/\H6 T kt=some sh/\YV sh x=true/\K x:=by
 unfold Kv at hk
 grind [tN,sE]
theorem Hq.shape(h:Hq sh es ck BU):∀e∈es.toList,YV sh e.key=true:=by
 intro e he;obtain⟨h1,h2,h3,_⟩:=h;obtain⟨i,hi⟩:=En.1 he;have EU:i<BU.length:=aa0
 rw[h2 i BU[i] e (A0 EU) B0]
 grind
theorem Hq.none(h:Hq sh es ck BU)(hn:∀e∈es.toList,e.key≠x)(a:AV):(x,a)∉BU:=by
 intro hm;obtain⟨h1,h2,_⟩:=h;obtain⟨i,hi⟩:=En.1 hm;have EU:i<es.size:=aa0
 exact hn es[i] Cl (h2 i _ es[i] hi B0)
theorem Hq.some{sh:E1}{es:Array MapEntry}{ck:Nat}{BU:List (Value×AV)}(h:Hq sh es ck BU){x:Value}{j:Nat}{e:MapEntry}(he:es.toList[j]?=some e)(hk:e.key=x) :
  ∃a,BU[j]?=some (x,a)/\(x,a)∈BU:=by
 obtain⟨h1,h2,_⟩:=h;have EU:j<BU.length:=aa0
 have hg:BU[j]?=Option.some BU[j]:=A0 EU
 grind
section
variable {P:Program}{T:GK}(hT:Ca P T){h:Nat->HO}{g:Gh}{w:World}{K:AV->Prop}
section
include hT
theorem XC{t:Nat}(hk:KA T t K):Bv P h g w (zeroValue t) K:=by
 unfold KA at hk;split at hk
 .simp_all
 .rename_i hd;obtain⟨z,z1,z2,z3⟩:=MY hT (w:=w) hd;rw[z3]at hk;split at hk
  .rename_i cs;split at hk
   .rename_i ha;have hr:=Ck.vals (g:=g) (w:=w) (U:=AJ h) ha;exact⟨_,_,z1,hk,.agg _ _ _ Cl (fun i x hx=>hr.2.1 x (AG (by simpa using hx))) (fun i av x h1 h2=>hr.2.2 i av x h1 B0)⟩
   simp_all
  .exact⟨_,_,z1,hk,.v _ _⟩
theorem Kh{ty b:Nat}{kt e:Nat}{ck:Nat}{BU:List (Value×AV)}(ht:(T ty).d=.map kt e)(hs:H6 T kt=some sh)(hx:YV sh x=true)(hb:w.heap[b]?=some (.map es ck))(hm:Hq sh es ck BU)(hv:∀(i:Nat) (kv:Value×AV) (e:MapEntry),BU[i]?=some kv->es[i]?=some e->Ba g w (AJ h) kv.2 e.val)(hk:Mz T ty ok BU x K):Bv P h g w (Instr.lookup ty (.map (some b)) x ok) K:=by
 have hu:=hT.map ht;have FW:=run_getObj_map (P:=P) w b es ck hb;have Uj:=fun bb=>MU hT hs w bb hx;obtain⟨r,r1,r2⟩:=Ox hT hs w hx es.toList hm.shape;unfold Mz at hk;rw[ht]at hk;dsimp only at hk;rcases r2 with ⟨rfl,hn⟩ | ⟨j,en,rfl,hj,hkey⟩
 .have qG:=fun a=>hm.none hn a;cases ok with
  |true=>
   obtain⟨y,av,y1,y2,y3⟩:=XC hT (K:=fun z=>K (.tup [z,.v (.bool false)])) (P:=P) (h:=h) (g:=g) (w:=w) (hk.2 qG);refine⟨.tuple #[y,.bool false],_,?_,y2,.tup _ _ _ rfl (fun i a x h1 h2=>?_)⟩
   .simp[Instr.lookup,run_underlying hu,FW,Uj,r1,y1]
   grind [Ba.v]
  |false=>
   obtain⟨y,av,y1,y2,y3⟩:=XC hT (K:=K) (P:=P) (h:=h) (g:=g) (w:=w) (hk.2 qG);exact⟨y,av,by simp[Instr.lookup,run_underlying hu,FW,Uj,r1,y1],y2,y3⟩
 .obtain⟨a,a1,a2⟩:=hm.some hj hkey;have hr:=hv j (x,a) en a1 B0;cases ok with
  |true=>
   refine⟨.tuple #[en.val,.bool true],_,?_,hk.1 a a2,.tup _ _ _ rfl (fun i av y h1 h2=>?_)⟩
   .simp[Instr.lookup,run_underlying hu,FW,Uj,r1]
   grind [Ba.v]
  |false=>exact⟨en.val,a,by simp[Instr.lookup,run_underlying hu,FW,Uj,r1],hk.1 a a2,hr⟩
theorem dP(ho:∀r,DR g w (AJ h) r (h r)){ty:Nat}{m k:AV}{vm vk:Value}(hm:Ba g w (AJ h) m vm)(hx:Ba g w (AJ h) k vk)(hk:Ng T h ty m k ok K) :
  Bv P h g w (Instr.lookup ty vm vk ok) K:=by
 unfold Ng at hk;split at hk
 .obtain⟨kt,e,k1,k2,k3,k4⟩:=M9 hx hk;cases hm with
  |cmap _ _ _ b es ck hS hb sn hv=>exact Kh hT k1 k2 k3 hb sn (fun i kv e p q=>(hv i kv e p q).up _) k4
 .rename_i r;have hr:=ho r;cases hm with
  |mref _ _ b hu ht hp=>
   split at hk
   .rename_i sh BU e;rw[e]at hr;obtain⟨_,b',es,ck,a1,a2,a3,a4,a5,a6⟩:=hr<;>grind [M9,Kh,Ba.up]
   .rename_i sh BU e;rw[e]at hr;obtain⟨_,b',es,ck,a1,a2,a3,a4,a5,a6⟩:=hr<;>grind [M9,Kh]
   .rename_i sh BU e;rw[e]at hr;obtain⟨_,b',a1,a2⟩:=hr;rw[a1]at hp;cases hp;obtain⟨kt,e,k1,k2,k3,k4⟩:=M9 hx hk;cases a2 with
    |cmap _ _ _ _ es ck hS hb sn hv=>exact Kh hT k1 k2 k3 hb sn (fun i kv e p q=>(hv i kv e p q).up _) k4
   simp_all
 simp_all
omit hT in
theorem mZ{ty:Nat}{BU:List (Value×AV)}{kx:Value}(hk:My T ty ok BU kx K):Mz T ty ok BU kx K:=by
 unfold My at hk;unfold Mz;split at hk
 all_goals grind
omit hT in
theorem jN{ty:Nat}{k:AV}{A B:Value->Prop}(hk:Kv T ty sh k A)(r7:∀x,A x->B x):Kv T ty sh k B:=by
 grind [Kv]
omit hT in
theorem jT{ty:Nat}{m k:AV}(hk:Nc T h ty m k ok K):Ng T h ty m k ok K:=by
 unfold Nc at hk
 grind [Ng,jN,mZ]
theorem oo(ho:∀r,DR g w (AJ h) r (h r)){t ty:Nat}{x:AV}(hx:Ba g w (AJ h) x vx)(hk:RT T t h x K):Bv P h g w (Builtin.len_ #[t] ty #[vx]) K:=by
 unfold RT at hk;split at hk
 .rename_i e ht;have hu:=hT.slice ht;have run:∀a n c,(Builtin.len_ #[t] ty #[.slice a n c]).run P w=.ok (.int .i64 n) w:=fun a n c=>by simp[Builtin.len_,run_underlying hu,goInt]
  split at hk
  .have hs:=hx.slice_none;cases hs with
   |snil _ a cap=>exact⟨_,_,run a 0 cap,hk,.v _ _⟩
   |slice _ _ b off sz cap val hc=>exact⟨_,_,run _ _ _,hk,.v _ _⟩
  .cases hx with
   |msl=>exact⟨_,_,run _ _ _,hk,.v _ _⟩
  .obtain rfl:=hx.v_eq;exact⟨_,_,run _ _ _,hk,.v _ _⟩
  simp_all
 .rename_i ht;split at hk
  .obtain rfl:=hx.v_eq;exact⟨_,_,by simp[Builtin.len_,run_underlying (hT.string ht),goInt],hk,.v _ _⟩
  simp_all
 .rename_i k e ht;have hu:=hT.map ht;have run:∀b es ck,w.heap[b]?=some (.map es ck)->(Builtin.len_ #[t] ty #[.map (some b)]).run P w=.ok (.int .i64 es.size) w:=fun b es ck hb=>by
   simp[Builtin.len_,run_underlying hu,goInt,run_getObj_map (P:=P) w b es ck hb]
  split at hk
  .cases hx with
   |cmap _ _ _ b es ck hS hb sn hv=>exact⟨_,_,run b es ck hb,by rw[sn.1];exact hk,.v _ _⟩
  .rename_i r;have hr:=ho r;cases hx with
   |mref _ _ b nS ht' hp=>
    split at hk
    .rename_i sh BU e;rw[e]at hr;obtain⟨_,b',es,ck,a1,a2,a3,a4,a5,a6⟩:=hr;rw[a2]at hp;cases hp;exact⟨_,_,run _ es ck a3,by rw[a4.1];exact hk,.v _ _⟩
    .rename_i sh BU e;rw[e]at hr;obtain⟨_,b',es,ck,a1,a2,a3,a4,a5,a6⟩:=hr;rw[a2]at hp;cases hp;exact⟨_,_,run _ es ck a3,by rw[a4.1];exact hk,.v _ _⟩
    .rename_i sh BU e;rw[e]at hr;obtain⟨_,b',a1,a2⟩:=hr;rw[a1]at hp;cases hp;cases a2 with
     |cmap _ _ _ _ es ck hS hb sn hv=>exact⟨_,_,run _ es ck hb,by rw[sn.1];exact hk,.v _ _⟩
    simp_all
  simp_all
 simp_all
end
theorem YC(ho:∀r,DR g w (AJ h) r (h r)){t:Nat->AV}(ht:∀x:Operand,Ba g w (AJ h) (ev t x) (ρ x)){fn:Fn}{first cap:Array Operand}(hk:KT t h fn first.toList cap.toList K) :
  Bv P h g w (Instr.makeFunc fn (first.map ρ) (cap.map ρ)) K:=by
 unfold KT at hk;split at hk
 .rename_i f e;have hf:first=#[]:=by
   simp_all
  subst hf;refine⟨_,_,rfl,hk,?_⟩
  grind [Ba.clo,Ba.rsv]
 simp_all
theorem YH{x:AV}(hx:Ba g w (AJ h) x vx)(hk:KV x K){pos:String}{after:Array Edge}{gd:Option (Nat×Bool)}{dst:Option Tmp}{ty:Nat}{X:Operand}(hX:ρ X=vx) :
  (execOp ρ ⟨dst,.nilCheck X,ty,pos,after,gd⟩).run P w=.ok (.value vx) w/\K x:=by
 subst hX;unfold KV at hk;split at hk
 all_goals first
  |exact hk.elim
  |(refine⟨?_,hk⟩;generalize hq:ρ X=q at hx;cases hx;simp[execOp,hq];done)
theorem ji(ho:∀r,DR g w (AJ h) r (h r)){x:AV}(hx:Ba g w (AJ h) x vx)(hk:di h x K):Bv P h g w (Instr.entry vx) K:=by
 unfold di at hk;split at hk
 .rename_i r;have hr:=ho r;split at hk
  .rename_i all rem kv e;rw[e]at hr;cases hx with
   |ref _ _ _ b hu ht hp=>
    obtain⟨_,b',mb,Kp,seen,st,es,ck,a1,a2,a3,a4,a5,⟨sh,a6⟩,a7,a8,a9,Zs,fp,a12,vM⟩:=hr;rw[a2]at hp;cases hp;obtain⟨i,en,c1,c2,c3⟩:=a12;have AaQ:es.find? (fun e=>e.born == en.born)=some en:=by
     rw[Array.find?_eq_some_iff_getElem];obtain⟨EU,he⟩:=Co.1 c2;refine⟨by simp,i,EU,he,fun j hj=>?_⟩;have AfF : j<es.size:=ch
     simp only[FA,beq_eq_false_iff_ne,ne_eq];intro e'
     have:=a6.2.2.2.2.2 j i es[j] en B0 c2 e'
     omega
    have hkey:=a6.2.1 i kv en c1 c2;refine⟨.tuple #[en.key,en.val],_,?_,hk,.tup _ _ _ rfl (fun k av y h1 h2=>?_)⟩
    .have gj:(getObj b).run P w=.ok (.mapIter (some mb) Kp seen st) w:=by grind [getObj,Sem.run]
     have wW:=run_getObj_map (P:=P) w mb es ck a5;simp[Instr.entry,gj,c3,wW,a8,AaQ]
    grind [Ba.v,Ba.up]
  simp_all
 simp_all
end
def N2(h:Nat->HO)(g:Gh)(w:World)(m:Sem Value)(K:HK):Prop:=
 ∃x w' g' av h',m.run P w=.ok x w'/\K av h'/\CU w0 g0 h0 h' g' w'/\Le h g w h' g' w'/\Ba g' w' (AJ h') av x
def lE(h:Nat->HO)(g:Gh)(w:World)(m:Sem Unit)(K:HK):Prop:=
 ∃w' g' h',m.run P w=.ok () w'/\K (.v undef) h'/\CU w0 g0 h0 h' g' w'/\Le h g w h' g' w'
section
variable {P:Program}{w0:World}{g0:Gh}{h0 h:Nat->HO}{g:Gh}{w:World}(hI:CU w0 g0 h0 h g w)
include hI
theorem Bv.does{m:Sem Value}{K:HK}(hg:Bv P h g w m (fun v=>K v h)):N2 P w0 g0 h0 h g w m K:=
 let ⟨x,av,h1,h2,h3⟩:=hg
 ⟨x,w,g,av,h,h1,h2,hI,.refl _ _ _,h3⟩
theorem CU.newOwn{d:Nat}(hd:h d=.free)(o' : HO)(ob:Obj)(x:Value)(n:Nat)(t:Bool)(w1:World)(Uo:w1.heap=w.heap/\w1.os=w.os/\w1.tape=w.tape/\w1.output=w.output)(Ef:o'≠.free)
  (Ma:Kr g (g.upd d x n t (some w.heap.size) g.S) (AJ h)->EF g w (g.upd d x n t (some w.heap.size) g.S) (w1.alloc ob) ->
   DR (g.upd d x n t (some w.heap.size) g.S) (w1.alloc ob) (AJ (AO h d o')) d o') :
  CU w0 g0 h0 (AO h d o') (g.upd d x n t (some w.heap.size) g.S) (w1.alloc ob)/\Le h g w (AO h d o') (g.upd d x n t (some w.heap.size) g.S) (w1.alloc ob):=by
 refine hI.upd d o' x n t _ _ _ none ⟨Uo.2.1,Uo.2.2.1,Uo.2.2.2,by simp_all⟩ (fun k hk _=>?_) (fun b e=>by cases e) (fun _ _ h=>h) (fun _ _ h=>.inl h) (fun b o e=>by cases e)
  (fun b _ e=>?_) Ef (fun hu=>absurd hd hu) Ma
 all_goals grind [heap_alloc_old,World.size_alloc]
def Gh.more(g:Gh)(b n:Nat):Nat->Nat->Prop:=fun b' o=>g.S b' o\/(b'=b/\o<n)
theorem CU.newStable{d:Nat}(hd:h d=.free)(o' : HO)(vs:Array Value)(E:TypeId)(m:Nat)(x:Value)(n:Nat)(t:Bool)(w1:World)(Uo:w1.heap=w.heap/\w1.os=w.os/\w1.tape=w.tape/\w1.output=w.output)(Ef:o'≠.free)
  (Ma:Kr g (g.upd d x n t none (g.more w.heap.size m)) (AJ h)->EF g w (g.upd d x n t none (g.more w.heap.size m)) (w1.alloc (.cells vs E (0,0))) ->
   DR (g.upd d x n t none (g.more w.heap.size m)) (w1.alloc (.cells vs E (0,0))) (AJ (AO h d o')) d o') :
  CU w0 g0 h0 (AO h d o') (g.upd d x n t none (g.more w.heap.size m)) (w1.alloc (.cells vs E (0,0))) /\
   Le h g w (AO h d o') (g.upd d x n t none (g.more w.heap.size m)) (w1.alloc (.cells vs E (0,0))):=by
 refine hI.upd d o' x n t _ _ _ none ⟨Uo.2.1,Uo.2.2.1,Uo.2.2.2,by simp_all⟩ (fun k hk _=>?_) (fun b e=>by cases e) (fun _ _ h=>.inl h) (fun b o hb=>?_) (fun b o e=>by cases e)
  (fun b _ e=>by cases e) Ef (fun hu=>absurd hd hu) Ma
 .grind [heap_alloc_old]
 .rcases hb with hb | ⟨rfl,_⟩<;>simp_all
end
theorem Bo(g:Gh)(r:Nat)(x:Value)(n:Nat)(t:Bool)(o:Option Nat)(S:Nat->Nat->Prop) :
  (g.upd r x n t o S).ρ r=x/\(g.upd r x n t o S).ln r=n/\(g.upd r x n t o S).tk r=t/\(g.upd r x n t o S).own r=o:=by simp[Gh.upd]
theorem GC(w:World)(o:Obj)(hb:b=w.heap.size):(w.alloc o).heap[b]?=some o:=by grind [heap_alloc_new]
theorem Ba.cptr_row{E:TypeId}(hb:w.heap[b]?=some (.cells vs E f))(hr:Ck g w FD cs vs.toList)(hS:∀o,o<cs.length->g.S b o):Ba g w U (.cptr cs) (.pointer (some ⟨b,0,none⟩)):=by
 refine .cptr U cs b 0 (fun j=>vs[j]?.getD default) (fun j av hj=>?_) (fun j av hj=>?_)
 .grind [F6,Ck.at]
 .obtain⟨x,x1,x2,x3⟩:=hr.at hj;rw[CN]at x1;rw[x1];exact x3
theorem Ba.slice_off{off:Nat}{es:C0}{E:TypeId}(hb:w.heap[b]?=some (.cells vs E f))(hl:∀cs∈es,cs.length=sz)(hc:es.length<=cap)(hr:Ck g w FD es.flatten ((vs.toList.drop off).take (es.length*sz)))(hS:∀o,o<es.length*sz->g.S b (off+o)):Ba g w U (.slice .none es) (.slice (some ⟨b,off,none⟩) es.length cap):=by
 have key:∀(i:Nat) (cs:List AV) (j:Nat) (av:AV),es[i]?=some cs->cs[j]?=some av->∃x,vs[off+(i*sz+j)]?=some x/\x.oneCell'=true/\Ba g w FD av x/\i*sz+j<es.length*sz:=by
  intro i cs j av h1 h2;have hcl:=hl cs (AG h1);have hj:j<sz:=aa0
  have hi:=(Bf.1 h1).1;have EU:i*sz+j<es.length*sz:=by
   have:=Bl sz (show i+1<=es.length from hi)
   grind
  have hf:=Fu hl h1 hj
  grind [Ck.at]
 refine .slice U es b off sz cap (fun i j=>vs[off+(i*sz+j)]?.getD default) hc (fun i cs h=>hl cs (AG h)) (fun i cs j av h1 h2=>?_) (fun i cs j av h1 h2=>?_)
 .grind [F6]
 .obtain⟨x,x1,x2,x3,x4⟩:=key i cs j av h1 h2;rw[x1];exact x3
theorem Ba.slice_row{es:C0}{E:TypeId}(hb:w.heap[b]?=some (.cells vs E f))(hl:∀cs∈es,cs.length=sz)(hc:es.length<=cap)(hr:Ck g w FD es.flatten (vs.toList.take (es.length*sz)))(hS:∀o,o<es.length*sz->g.S b o):Ba g w U (.slice .none es) (.slice (some ⟨b,0,none⟩) es.length cap):=by
 have key:∀(i:Nat) (cs:List AV) (j:Nat) (av:AV),es[i]?=some cs->cs[j]?=some av->∃x,vs[i*sz+j]?=some x/\x.oneCell'=true/\Ba g w FD av x/\i*sz+j<es.length*sz:=by
  intro i cs j av h1 h2;have hcl:=hl cs (AG h1);have hj:j<sz:=aa0
  have hi:=(Bf.1 h1).1;have EU:i*sz+j<es.length*sz:=by
   have:=Bl sz (show i+1<=es.length from hi)
   grind
  have hf:=Fu hl h1 hj
  grind [Ck.at]
 refine .slice U es b 0 sz cap (fun i j=>vs[i*sz+j]?.getD default) hc (fun i cs h=>hl cs (AG h)) (fun i cs j av h1 h2=>?_) (fun i cs j av h1 h2=>?_)
 .grind [F6]
 .obtain⟨x,x1,x2,x3,x4⟩:=key i cs j av h1 h2;rw[x1];exact x3
section
variable {P:Program}{w0:World}{g0:Gh}{h0 h:Nat->HO}{g:Gh}{w:World}
theorem RZ(hI:CU w0 g0 h0 h g w){d:Nat}(hd:h d=.free)(E:TypeId)(hr:Ck g w (AJ h) cs vs.toList) :
  ∃g',CU w0 g0 h0 (AO h d (.cells cs)) g' (w.alloc (.cells vs E (0,0)))/\Le h g w (AO h d (.cells cs)) g' (w.alloc (.cells vs E (0,0))) /\
   Ba g' (w.alloc (.cells vs E (0,0))) (AJ (AO h d (.cells cs))) (.ref d 0) (.pointer (some ⟨w.heap.size,0,none⟩)):=by
 obtain⟨k1,k2⟩:=hI.newOwn hd (.cells cs) (.cells vs E (0,0)) (.pointer (some ⟨w.heap.size,0,none⟩)) 0 false w ⟨rfl,rfl,rfl,rfl⟩ Cl (fun hg hk=>by
  obtain⟨u1,u2,u3,u4⟩:=Bo g d (.pointer (some ⟨w.heap.size,0,none⟩)) 0 false (some w.heap.size) g.S;exact⟨u3,w.heap.size,E,vs,u4,u1,GC w _ rfl,hr.mono hk (fun i hi=>DG Cl i hi) hg,fun o ho=>by have:=hI.slt _ _ ho;omega⟩)
 refine⟨_,k1,k2,.ref _ d 0 w.heap.size (by unfold AJ;rw[A5];simp) ?_ ?_⟩
 .simp[Gh.upd]
 .simp[Gh.upd]
theorem oG(hI:CU w0 g0 h0 h g w){d:Nat}(hd:h d=.free)(E:TypeId)(hr:Ck g w FD cs vs.toList) :
  ∃g',CU w0 g0 h0 (AO h d (.ro cs)) g' (w.alloc (.cells vs E (0,0)))/\Le h g w (AO h d (.ro cs)) g' (w.alloc (.cells vs E (0,0))) /\
   Ba g' (w.alloc (.cells vs E (0,0))) (AJ (AO h d (.ro cs))) (.ref d 0) (.pointer (some ⟨w.heap.size,0,none⟩)):=by
 obtain⟨k1,k2⟩:=hI.newStable hd (.ro cs) vs E cs.length (.pointer (some ⟨w.heap.size,0,none⟩)) 0 false w ⟨rfl,rfl,rfl,rfl⟩ Cl (fun hg hk=>by
  obtain⟨u1,u2,u3,u4⟩:=Bo g d (.pointer (some ⟨w.heap.size,0,none⟩)) 0 false none (g.more w.heap.size cs.length);exact⟨u3,w.heap.size,u1,Ba.cptr_row (GC w _ rfl) (hr.mono hk (fun _ h=>h) (fun _ h=>h.elim)) (fun o ho=>.inr ⟨rfl,ho⟩)⟩)
 refine⟨_,k1,k2,.ref _ d 0 w.heap.size (by unfold AJ;rw[A5];simp) ?_ ?_⟩
 .simp[Gh.upd]
 .simp[Gh.upd]
theorem Ki(hI:CU w0 g0 h0 h g w){cx:Cx}{d:Option Nat}{sz:Nat}{es:C0}{K:HK}(hk:Fb cx d h sz es K){cap:Nat}(E:TypeId)(hl:∀cs∈es,cs.length=sz)(hc:es.length<=cap)(hs:vs.size=cap*sz)(hr:Ck g w FD es.flatten (vs.toList.take (es.length*sz)))(w1:World)(Uo:w1.heap=w.heap/\w1.os=w.os/\w1.tape=w.tape/\w1.output=w.output) :
  ∃g' av h',K av h'/\CU w0 g0 h0 h' g' (w1.alloc (.cells vs E (0,0)))/\Le h g w h' g' (w1.alloc (.cells vs E (0,0))) /\
   Ba g' (w1.alloc (.cells vs E (0,0))) (AJ h') av (.slice (some ⟨w.heap.size,0,none⟩) es.length cap):=by
 have EO:(w1.alloc (.cells vs E (0,0))).heap[w.heap.size]?=some (.cells vs E (0,0)):=GC w1 _ B0;unfold Fb at hk;split at hk
 .simp_all
 .rename_i d;generalize Ku cx d=d1 at hk;split at hk
  .rename_i hd;split at hk
   .obtain⟨k1,k2⟩:=hI.newOwn hd (.arr sz es) (.cells vs E (0,0)) (.slice (some ⟨w.heap.size,0,none⟩) es.length cap) es.length true w1 Uo Cl (fun hg IN=>by
     obtain⟨u1,u2,u3,u4⟩:=Bo g d1 (.slice (some ⟨w.heap.size,0,none⟩) es.length cap) es.length true (some w.heap.size) g.S;exact⟨u3,u2,hl,.inr ⟨w.heap.size,cap,E,vs,u1,u4,hc,EO,hs,hr.mono IN (fun _ h=>h) (fun _ h=>h.elim),fun o ho=>by have:=hI.slt _ _ ho;omega⟩⟩)
    refine⟨_,_,_,hk,k1,k2,.msl _ d1 es.length _ cap (by unfold AJ;rw[A5];simp) ?_ ?_ (.inr ⟨_,rfl⟩) ?_⟩<;>simp[Gh.upd]
   .by_cases nG:es.length=cap
    .obtain⟨k1,k2⟩:=hI.newStable hd (.tok sz es.length) vs E (es.length*sz) (.slice (some ⟨w.heap.size,0,none⟩) es.length cap) es.length true w1 Uo Cl (fun hg IN=>by
      obtain⟨u1,u2,u3,u4⟩:=Bo g d1 (.slice (some ⟨w.heap.size,0,none⟩) es.length cap) es.length true none (g.more w.heap.size (es.length*sz));exact⟨u3,u2,_,cap,u1,.inl ⟨nG,u4⟩⟩)
     refine⟨_,_,_,hk,k1,k2,.tok _ d1 sz es _ (Ba.slice_row EO hl hc (hr.mono k2.keeps (fun _ h=>h) (fun _ h=>h.elim)) (fun o ho=>.inr ⟨rfl,ho⟩)) hl (by grind [AJ,A5]) ?_ ?_ ?_⟩<;>simp[Gh.upd]
    .have zr:=hI.upd d1 (.tok sz es.length) (.slice (some ⟨w.heap.size,0,none⟩) es.length cap) es.length true (some w.heap.size) (g.more w.heap.size (es.length*sz)) (w1.alloc (.cells vs E (0,0))) none
      ⟨Uo.2.1,Uo.2.2.1,Uo.2.2.2,by simp_all⟩ (fun k hk' _=>by grind [heap_alloc_old]) (fun b e=>by cases e) (fun _ _ h=>.inl h)
      (fun b o hb=>by
       rcases hb with hb | ⟨rfl,_⟩<;>simp_all) (fun b o e=>by cases e)
      (fun b _ e=>by simp_all) Cl (fun hu=>absurd hd hu) (fun hg IN=>by
       obtain⟨u1,u2,u3,u4⟩:=Bo g d1 (.slice (some ⟨w.heap.size,0,none⟩) es.length cap) es.length true (some w.heap.size) (g.more w.heap.size (es.length*sz));exact⟨u3,u2,_,cap,u1,.inr ⟨hc,w.heap.size,E,vs,0,rfl,u4,.of EO,by omega,fun o ho=>by
        rcases ho with ho | ⟨_,ho⟩
        .have:=hI.slt _ _ ho;omega
        .omega⟩⟩)
     obtain⟨k1,k2⟩:=zr;refine⟨_,_,_,hk,k1,k2,.tok _ d1 sz es _ (Ba.slice_row EO hl hc (hr.mono k2.keeps (fun _ h=>h) (fun _ h=>h.elim)) (fun o ho=>.inr ⟨rfl,ho⟩)) hl (by grind [AJ,A5]) ?_ ?_ ?_⟩<;>simp[Gh.upd]
  .exact hk.elim
end
end Go.Eng
