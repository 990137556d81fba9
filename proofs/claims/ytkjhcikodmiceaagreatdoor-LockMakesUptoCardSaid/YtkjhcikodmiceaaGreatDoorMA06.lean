/- Lemmas 6. -/
import Derived.Test.YtkjhcikodmiceaaGreatDoorMA05
namespace Go.Eng
variable {U:Nat->Prop}{x:Value}{vs:Array Value}{w:World}{ρ:Operand->Value}{es:Array MapEntry}{g:D}{sh:E0}{cs:List AV}{BZ:List (Value×AV)}{f:Nat×Nat}{vx:Value}{ok:Bool}{b:Nat}{e:MapEntry}{a:AV}{i kt:Nat}{y:Value}{ck sz cap:Nat}(P:Program)(w0:World)(g0:D)(h0:Nat->HO)
theorem Ci.at{vs:List Value}(h:Ci g w U cs vs){av:AV}(hi:cs[i]?=some av):∃x,vs[i]?=some x/\x.oneCell'=true/\O g w U av x:=by
 have E4:i<vs.length:=by rw[h.1];grind
 exact⟨vs[i],AT E4,h.2.1 _ (Ag E4),h.2.2 i av _ hi (AT E4)⟩
theorem Fz{α:Type}{n:Nat}:∀{es:List (List α)},(∀c∈es,c.length=n)->∀{i j:Nat} {c:List α},es[i]?=some c->j<n->es.flatten[i*n+j]?=c[j]?
 | [],_,i,j,c,h,_=>by simp_all
 |d::es,hl,0,j,c,h,hj=>by
  grind
 |d::es,hl,i+1,j,c,h,hj=>by
  have hd:=hl d (Ah ..);rw[Cs,BO aa2];rw[show(i+1)*n+j-d.length=i*n+j by grind];exact Fz (fun c hc=>hl c (Aj _ hc)) aa0 hj
theorem Dx{α:Type}{n:Nat}:∀{es:List (List α)},(∀c∈es,c.length=n)->es.flatten.length=es.length*n
 | [],_=>by simp
 |d::es,hl=>by
  rw[Cs,AD,hl d (Ah ..),Dx (fun c hc=>hl c (Aj _ hc)),Ec,Nat.succ_mul,Nat.add_comm]
section
variable {P:Program}{T:G4}(hT:Cc P T){h:Nat->HO}{g:D}{w:World}{K:AV->Prop}(ho:∀r,D6 g w (L h) r (h r))
include ho
theorem jm(hT:Cc P T){t:Nat}{x:AV}(hx:O g w (L h) x vx){hi mx:Option Operand}(hk:dx T h t x hi mx K):Bw P h g w (Instr.sliceAt t vx none (hi.map ρ) (mx.map ρ)) K:=by
 unfold dx at hk;split at hk
 .rename_i n e r hd;split at hk
  .rename_i cs hs he;obtain⟨rfl,hk⟩:=hk;cases hx with
   |ref _ _ _ b hu ht hx=>
    have hr:=ho r;rw[he]at hr;obtain⟨_,b',a1,a2⟩:=hr;rw[a1]at hx;cases hx;cases a2 with
    |cptr _ _ _ off val DS EB=>
     have ha:=hT.array hd;refine⟨.slice (some ⟨b,0,none⟩) cs.length cs.length,_,?_,hk,?_⟩
     .simp[Instr.sliceAt,Instr.sureAddr,run_underlying ha,Instr.sliceBounds,hT.size1 w hs,Addr.add_lit]
     .have q:=O.slice (g:=g) (w:=w) (L h) (cs.map fun c=>[c]) b 0 1 cs.length (fun i _=>val i) aa1 aa1 ?_ ?_
      all_goals grind
  simp_all
 simp_all
theorem Xw(hT:Cc P T){t:Nat}{p:AV}{vp:Value}(hp:O g w (L h) p vp)(hk:Ka T h t p K):Bw P h g w (Instr.loadAt t vp) K:=by
 have gj:∀b off,Bw P h g w (loadVar t ⟨b,off,none⟩) K->Bw P h g w (Instr.loadAt t (.pointer (some ⟨b,off,none⟩))) K:=by
  grind [Instr.loadAt,Instr.sureAddr]
 unfold Ka at hk;split at hk
 .cases hp with
  |cptr _ _ b off val DS EB=>exact gj b off (M2 hT (Ia.of_cptr (.cptr FK _ b off val DS EB) _) hk)
 .rename_i r off;have hr:=ho r;cases hp with
  |ref _ _ _ b hu ht hx=>
   split at hk
   .rename_i cs e;rw[e]at hr;obtain⟨_,b',E,vs,a1,a2,a3,a4,a5⟩:=hr;rw[a2]at hx;cases hx
    have:=(Ia.of_row a3 a4).drop off
    grind [M2]
   .rename_i cs e;rw[e]at hr;obtain⟨_,b',a1,a2⟩:=hr;rw[a1]at hx;cases hx
    have:=(Ia.of_cptr a2 (L h)).drop off
    grind [M2]
   simp_all
 .rename_i r n sz i off;have hr:=ho r;cases hp with
  |eref _ _ _ _ _ _ b cap hu ht hn hx=>
   split at hk
   .rename_i H9 es e;rw[e]at hr;split at hk
    .rename_i hz;obtain rfl:=AY hz;obtain⟨CN,cs,h1,hk⟩:=hk;obtain⟨t1,l1,al,a1⟩:=hr;have E4:=(Bg.1 h1).1;rcases a1 with ⟨rfl,_⟩ | ⟨b',N7,E,vs,e1,e2,e3,e4,e5,e6,e7⟩
     .simp_all
     .have:=hx (CN.trans l1.symm)
      rw[e1]at this;simp only[Value.slice.injEq,DQ,Addr.mk.injEq]at this;obtain⟨⟨rfl,_,_⟩,_,_⟩:=this;refine gj _ _ (M2 hT (cs:=cs.drop off) (fun j av hj=>?_) hk);rw[Gf]at hj;have hcl:=al cs (AA h1);have hj2:off+j<sz:=aa2
      have hf:=Fz al h1 hj2
      grind [Gj,Ci.at,O.up]
    simp_all
   .rename_i H9 es i' c av e;rw[e]at hr;split at hk
    .rename_i hz;obtain rfl:=AY hz;obtain⟨⟨CN,rfl,rfl⟩,hk⟩:=hk;obtain⟨t1,l1,al,b',N7,E,vs,e1,e2,e3,e4,e5,e6,e7,e8,x,e9,W6⟩:=hr
     have:=hx (CN.trans l1.symm)
     rw[e1]at this;simp only[Value.slice.injEq,DQ,Addr.mk.injEq]at this;obtain⟨⟨rfl,_,_⟩,_,_⟩:=this;refine gj _ _ (M2 hT (cs:=[av]) (fun j a' hj=>?_) hk);cases j with
     |succ j=>grind
     |zero=>
      simp only[EH,DQ]at hj;subst hj;refine⟨x,by grind [Gj],?_,W6⟩;have hm:x∈vs.toList.take (es.length*sz):=by
       have h9:vs.toList[i*sz+off]?=some x:=aa2
       exact AA (by rw[S7 e8];exact h9)
      exact e6.2.1 x hm
    simp_all
   simp_all
 simp_all
end
theorem Gm{α:Type}:∀(cs:List α) (o:Nat) (vs:List α),(over cs o vs).length=cs.length
 | [],_,_=>rfl
 |c::cs,o+1,vs=>by simp[over,Gm cs o vs]
 |c::cs,0,[]=>rfl
 |c::cs,0,v::vs=>by simp[over,Gm cs 0 vs]
theorem G0{α:Type}:∀(cs:List α) (o:Nat) (vs:List α) (i:Nat),o+vs.length<=cs.length->(over cs o vs)[i]?=if o<=i/\i<o+vs.length then vs[i-o]? else cs[i]?
 | [],o,vs,i,h=>by
  grind [over]
 |c::cs,o+1,vs,0,h=>by simp[over]
 |c::cs,o+1,vs,i+1,h=>by
  have:=G0 cs o vs i aa2
  grind [over]
 |c::cs,0,[],i,h=>by
  have:¬(0<=i/\i<0+([]:List α).length):=aa1
  rw[AL this];rfl
 |c::cs,0,v::vs,0,h=>by simp[over]
 |c::cs,0,v::vs,i+1,h=>by
  have:=G0 cs 0 vs i aa0
  grind [over]
theorem Ci.over{g:D}{w:World}{U:Nat->Prop}{cs Wl:List AV}{xs vs:List Value}(h:Ci g w U cs xs)(k:Ci g w U Wl vs)(o:Nat)(JP:o+Wl.length<=cs.length) :
  Ci g w U (Eng.over cs o Wl) (Eng.over xs o vs):=by
 have Aax : o+vs.length<=xs.length:=by rw[k.1,h.1];exact JP
 refine⟨by rw[Gm,Gm,h.1],fun x hx=>?_,fun i av x h1 h2=>?_⟩
 .obtain⟨i,hi⟩:=Es.1 hx;rw[G0 _ _ _ _ Aax]at hi;split at hi
  .exact k.2.1 _ (AA hi)
  .exact h.2.1 _ (AA hi)
 .rw[G0 _ _ _ _ JP]at h1;rw[G0 _ _ _ _ Aax,k.1]at h2;split at h1
  .rename_i hc;rw[A1 hc]at h2;exact k.2.2 _ _ _ h1 h2
  .rename_i hc;rw[AL hc]at h2;exact h.2.2 _ _ _ h1 h2
theorem xp(h:O g w U a x)(h1:one a=true):x.oneCell'=true:=by
 cases h with
 |v=>exact h1
 |tok _ r sz es _ h=>cases h with
  |snil=>rfl
  |slice=>rfl
 |ver _ r sz v es _ h=>cases h with
  |snil=>rfl
  |slice=>rfl
 |full _ sz es _ h=>cases h with
  |snil=>rfl
  |slice=>rfl
 |_=>first |rfl |(cases h1;done)
theorem kY(h:x.oneCell'=true):x.cells=#[x]:=by
 cases x<;>first | rfl | grind [Value.oneCell']
theorem Nw{n:Nat}{K:List AV->Prop}(h:O g w U a x)(hk:HH n a K) :
  ∃cs,K cs/\cs.length=n/\Ci g w U cs x.cells.toList:=by
 have single:one a=true->n=1->K [a]->∃cs,K cs/\cs.length=n/\Ci g w U cs x.cells.toList:=by
  intro h1 hn hk;have hx:=xp h h1;rw[kY hx];refine⟨[a],hk,hn.symm,rfl,by simp_all,fun i av y e1 e2=>?_⟩
  grind
 unfold HH at hk;split at hk
 .rename_i cs;split at hk
  .rename_i hl;cases h with
   |agg _ _ vs hs h1 hr=>
    refine⟨cs,hk,AY hl,by grind [Value.cells],fun y hy=>?_,fun i av y e1 e2=>?_⟩
    all_goals grind [List.mem_iff_getElem?,Value.cells]
  simp_all
 grind
theorem OP:∀(vs:List Value) (k o:Nat) (cs:Array Value),o+k+vs.length<=cs.size ->
  ((vs.zipIdx k).foldl (fun(cs:Array Value) (p:Value×Nat)=>cs.setIfInBounds (o+p.2) p.1) cs).toList=over cs.toList (o+k) vs
 | [],k,o,cs,_=>by
  have:∀(l:List Value) (o:Nat),over l o []=l:=by
   intro l
   induction l with
   |nil=>intro o;rfl
   |cons c l ih=>intro o;cases o<;>grind [over]
  simp_all
 |v::vs,k,o,cs,h=>by
  simp at h;rw[List.zipIdx_cons,FJ,OP vs (k+1) o _ aa2];simp only[Array.toList_setIfInBounds];apply C3
  grind [G0]
theorem Uv{g:D}{w:World}{U:Nat->Prop}{t:Nat->AV}{ρ:Operand->Value}(ht:∀x:Operand,O g w U (ev t x) (ρ x)){pl pl' : Nat->Option (Nat×Nat)}(qA:∀i p,pl i=some p->pl' i=some p) :
  ∀{ps:List (Nat×Operand)} {cs:List AV} {xs:Array Value} {K:List AV->Prop},Ci g w U cs xs.toList->K9 pl cs t ps K ->
   ∃gA ZI,K gA/\Ci g w U gA ZI.toList/\Instr.fill pl' xs (ps.map fun(i,x)=>(i,ρ x))=some ZI
 | [],cs,xs,K,h,hk=>⟨cs,xs,hk,h,rfl⟩
 |(i,x)::ps,cs,xs,K,h,hk=>by
  unfold K9 at hk;split at hk
  .simp_all
  .rename_i o n hp;obtain⟨Wl,hk,hn,hr⟩:=Nw (ht x) hk;split at hk
   .rename_i JP;have JP:=Et JP;have FW:(ρ x).cells.size=n:=by rw[<-hn];simpa using hr.1
    have sj:cs.length=xs.size:=by simpa using h.1.symm
    have E1:=h.over hr o Wk;have e:=OP (ρ x).cells.toList 0 o xs aa0;simp only[H6]at e;rw[<-e]at E1;obtain⟨gA,ZI,k1,k2,k3⟩:=Uv ht qA E1 hk<;>grind [Instr.fill,Array.toList_zipIdx]
   simp_all
theorem Nt:∀{l:List AV},Hj l=true->∀a∈l,one a=true
 | [],_,a,h=>by cases h
 |b::r,h,a,ha=>by
  unfold Hj at h;split at h
  .rename_i hb;rcases AM.1 ha with rfl | ha
   .exact hb
   .exact Nt h a ha
  simp_all
theorem Ci.vals{vs:List Value}(h:Hj (vs.map .v)=true):Ci g w U (vs.map .v) vs:=by
 refine⟨by simp,fun x hx=>?_,fun i av x h1 h2=>?_⟩
 .have:=Nt h (.v x) (Ar.2 ⟨x,hx,rfl⟩)
  grind [one]
 grind [O.v]
section
variable {P:Program}{T:G4}(hT:Cc P T){h:Nat->HO}{g:D}{w:World}{K:AV->Prop}
theorem bN{α β:Type}(P:Program)(w:World)(f:α->Sem β)(f' : α->β):∀(l:List α),(∀a∈l,(f a).run P w=.ok (f' a) w)->(l.mapM f).run P w=.ok (l.map f') w
 | [],_=>rfl
 |a::l,h=>by
  have h1:=h a (Ah ..);have h2:=bN P w f f' l (fun b hb=>h b (Aj _ hb));simp_all
theorem Sm:∀{fs:List (Nat×Nat)},PG T fs=true->∀p∈fs,∃n,(T p.1).size=n+1
 | [],_,p,h=>by cases h
 |(t,o)::r,h,p,hp=>by
  unfold PG at h;split at h
  .cases h
  .rename_i n hn;rcases AM.1 hp with rfl | hp
   .simp_all
   .exact Sm h p hp
include hT
theorem Nr{t:Nat}(hd:(T t).d≠.other):∃z,(zeroValue t).run P w=.ok z w/\(T t).zc=z.cells.toList/\(T t).zero=z:=by
 obtain⟨d,i,z,h1,h2,h3,h4,h5,h6,h7,h8⟩:=hT.get hd;exact⟨z,by simp[zeroValue,typeInfo,h3,h4],by rw[TI.zc_cells,h7],h7⟩
theorem X1{t n:Nat}(h:(T t).size=n+1):∃z,(zeroValue t).run P w=.ok z w/\(T t).zc=z.cells.toList:=by
 rcases hT t with e | e
 .rw[e]at h;cases h
 unfold lN at e;split at e
 .split at e
  .rename_i d i h1 h2 _ z h3;exact⟨z,by simp[zeroValue,typeInfo,h2,h3],by rw[TI.zc_cells,e]⟩
  simp_all
 simp_all
theorem jt{ty:Nat}{t:Nat->AV}(ht:∀x:Operand,O g w (L h) (ev t x) (ρ x)){ps:Array (Nat×Operand)}(hk:Rh T ty t ps.toList K) :
  Bw P h g w (Instr.build ty (ps.map fun(i,x)=>(i,ρ x))) K:=by
 unfold Rh at hk;split at hk
 .simp_all
 .rename_i YS;have fin:∀(gA : List AV) (ZI : Array Value),Ci g w (L h) gA ZI.toList->O g w (L h) (.agg gA) (.agg ZI):=fun gA ZI hr=>
   .agg _ _ _ (by simpa using hr.1) (fun i x hx=>hr.2.1 x (AA (by simpa using hx))) (fun i av x h1 h2=>hr.2.2 i av x h1 aa0)
  split at hk
  .rename_i fs hs;have hd:(T ty).d≠.other:=aa0
   obtain⟨z,z1,z2,_⟩:=Nr hT (w:=w) hd;split at hk
   .simp_all
   .rename_i FW;obtain⟨fa,u1,u2,u3⟩:=hT.struct hs;have sd:(fa.mapM fun(f:Field)=>(do pure (f.offset,<-sizeOf f.type):Sem (Nat×Nat))).run P w=.ok (fa.map fun f=>(f.offset,(T f.type).size)) w:=by
     rw[Array.mapM_eq_mapM_toList]
     have:=bN P w (fun f:Field=>(do pure (f.offset,<-sizeOf f.type):Sem (Nat×Nat))) (fun f=>(f.offset,(T f.type).size)) fa.toList (fun f hf=>by
      obtain⟨n,hn⟩:=Sm FW (f.type,f.offset) aa2;simp[hT.size1 w hn,hn])
     simp only[Sem.run_map,this,Result.andThen_ok]
     congr 1
     apply Array.ext';simp
    rw[z2]at hk YS;obtain⟨gA,ZI,k1,k2,k3⟩:=Uv ht (pl':=fun i=>(fa.map fun f=>(f.offset,(T f.type).size))[i]?) (fun i p hp=>by
     split at hp
     .rename_i t' o hf;cases hp;obtain⟨fa',fd,v1,v2,rfl,rfl⟩:=UA hT hs hf<;>simp_all
     simp_all) (Ci.vals (vs:=z.cells.toList) YS) hk
    refine⟨_,_,?_,k1,fin gA ZI k2⟩;simp only[Instr.build,Sem.run_bind,z1,Result.andThen_ok,run_underlying u1,sd];simp_all
  .rename_i n e hs;have hd:(T ty).d≠.other:=aa0
   obtain⟨z,z1,z2,_⟩:=Nr hT (w:=w) hd;split at hk
   .simp_all
   .rename_i m hm;rw[z2]at hk YS;obtain⟨gA,ZI,k1,k2,k3⟩:=Uv ht (pl':=fun i=>some (i*(T e).size,(T e).size)) (fun i p hp=>hp) (Ci.vals (vs:=z.cells.toList) YS) hk;refine⟨_,_,?_,k1,fin gA ZI k2⟩;simp only[Instr.build,Sem.run_bind,z1,Result.andThen_ok,run_underlying (hT.array hs),hT.size1 w hm];simp_all
  simp_all
end
theorem sA{a b:KS}(h:sy a b=true):a=b:=by
 cases a<;>cases b<;>first | rfl | (simp[sy]at h;done) | grind [sy,LV]
theorem bE:∀{a b:List KS},U8 a b=true->a=b
 | [],[],_=>rfl
 |x::a,y::b,h=>by
  unfold U8 at h;split at h
  .rename_i e;obtain rfl:=sA e;obtain rfl:=bE h;rfl
  simp_all
 | [],_::_,h=>by grind [U8]
 |_::_,[],h=>by grind [U8]
theorem tG{a b:E0}(h:xK a b=true):a=b:=by
 obtain⟨a1,a2⟩:=a;obtain⟨b1,b2⟩:=b<;>grind [xK,bE]
section
variable {P:Program}{T:G4}(hT:Cc P T)
include hT
def KV(P:Program)(w:World)(b:Bool)(d t:Nat)(xs:Array Value)(o:Nat):Prop:=
 (do let a <-part t xs o;Instr.checkKey b d t a).run P w=.ok () w
theorem Uc(w:World)(b:Bool):∀(n t:Nat) (l:List KS),In T n t=some l->∀d,n<=d->∀(xs:Array Value) (o:Nat),Kn l (Jg xs.toList o l.length)=true->KV P w b d t xs o
 |0,t,l,h=>by grind [In]
 |n+1,t,l,h=>by
  intro d hd xs o hx;obtain⟨d,rfl⟩:∃d',d=d'+1:=⟨d-1,by omega⟩;have scalar:∀k,(T t).d≠.other->Kp (T t).d=false->l=[k]->(∀x,On k x=true->(Instr.checkKey b (d+1) t x).run P w=.ok () w)->KV P w b (d+1) t xs o:=by
   rintro k gW hs rfl hk
   obtain⟨x,x1,x2,x3⟩:=L8 hx;unfold KV;simp[Sem.run_bind,DX hT w gW hs xs o _ x1,hk x x2]
  unfold In at h;split at h
  .rename_i k hk;split at h
   .cases h
    refine scalar _ aa0 (by rw[hk];rfl) rfl (fun x hx=>?_);cases x<;>simp[On]at hx
    simp[Instr.checkKey,run_underlying (hT.int hk)]
   simp_all
  .rename_i hk;split at h
   .cases h
    refine scalar _ aa0 (by rw[hk];rfl) rfl (fun x hx=>?_);cases x<;>simp[On]at hx
    simp[Instr.checkKey,run_underlying (hT.string hk)]
   simp_all
  .rename_i hk;split at h
   .cases h
    refine scalar _ aa0 (by rw[hk];rfl) rfl (fun x hx=>?_);cases x<;>simp[On]at hx
    simp[Instr.checkKey,run_underlying (hT.bool hk)]
   simp_all
  .rename_i fs hk;split at h
   .split at h
    .rename_i l' J7;split at h
     .rename_i CN;cases h;have CN:=AY CN;have gW:(T t).d≠.other:=aa0
      have hs:Kp (T t).d=true:=by rw[hk];rfl
      obtain⟨fa,u1,u2,u3⟩:=hT.struct hk;rw[u2]at J7;have ex:(xs.extract o (o+(T t).size)).toList=Jg xs.toList o l.length:=by
       grind [Jg,Array.toList_extract]
      have s0:Jg (Jg xs.toList o l.length) 0 l.length=Jg xs.toList o l.length:=by
       grind [iN]
      unfold KV;simp only[Sem.run_bind,Hf hT w gW hs,Result.andThen_ok];have ih:=Uc w b n;have hq:Kn l (Jg (xs.extract o (o+(T t).size)).toList 0 l.length)=true:=aa0
      generalize xs.extract o (o+(T t).size)=ys at hq;simp only[Instr.checkKey,Sem.run_bind,run_underlying u1,Result.andThen_ok];rw[<-Array.forIn_toList]
      clear u2 hk
      have key : ∀ (fl : List Field) (m : Nat) (l : List KS), OO (In T n) m (fl.map fun f => (f.type, f.offset))=some l -> (∀ f ∈ fl, f.name ≠ "_") -> Kn l (Jg ys.toList m l.length)=true ->
        (forIn fl PUnit.unit (fun (f : Field) (_ : PUnit) => ((if f.name ≠ "_" then (do
         let x <-part f.type ys f.offset
         Instr.checkKey b d f.type x
         pure (ForInStep.yield PUnit.unit))else pure (ForInStep.yield PUnit.unit)):Sem (ForInStep PUnit)))).run P w=.ok PUnit.unit w:=by
       intro fl
       induction fl with
       |nil=>simp_all
       |cons f fl ihf=>
        intro m l hg hn hy;obtain⟨ho,a,c,ha,hc,rfl⟩:=Ok hg;rw[AD]at hy;obtain⟨y1,y2⟩:=TA hy;rw[QU _ _ _ _ Wk]at y1;rw[VQ,Nat.add_sub_cancel_left]at y2;have h1:=ih f.type a ha d Wk ys m y1;unfold KV at h1;rw[List.forIn_cons];simp only[Sem.run_bind,A1 (hn f (Ah ..))];simp only[Sem.run_bind]at h1;rw[ho];generalize (part f.type ys m).run P w=r1 at h1⊢;cases r1 with
        |halt x w1=>cases h1
        |ok u w1=>
         grind [Result.andThen_ok,Sem.run_pure]
      rw[key fa.toList 0 l J7 u3 hq]
      rfl
     simp_all
    simp_all
   simp_all
  simp_all
theorem pY(hs:Ix T kt=some sh)(w:World)(hx:Zw sh x=true)(hy:Zw sh y=true) :
  ∃b:Bool,(Op.equal kt x y).run P w=.ok b w/\(b=true↔x=y):=by
 unfold Ix at hs;split at hs
 .rename_i fs hk;split at hs
  .rename_i l hl;cases hs;cases x<;>simp only[Zw]at hx<;>try (cases hx;done)
   cases y<;>simp only[Zw]at hy<;>try (cases hy;done)
   rename_i xs ys;have hd:(T kt).d≠.other:=aa0
   have ha:Kp (T kt).d=true:=by rw[hk];rfl
   have CN:l.length=(T kt).size:=by
    grind [In,Nat.eq_of_beq_eq_true]
   have s0:∀zs:Array Value,Kn l zs.toList=true->Jg zs.toList 0 l.length=zs.toList:=fun zs hz=>by
    grind [NH,Jg,List.take_of_length_le]
   have ex:∀zs:Array Value,Kn l zs.toList=true->zs.extract 0 (0+(T kt).size)=zs:=fun zs hz=>by
    have:=NH hz
    simp_all
   obtain⟨b,b1,b2⟩:=Yy hT w 8 kt l hl 10000 Wk xs ys 0 aa0 aa0;simp only[Sem.run_bind,Hf hT w hd ha,Result.andThen_ok,ex _ hx,ex _ hy]at b1;rw[s0 _ hx,s0 _ hy]at b2;refine⟨b,b1,b2.trans ⟨fun e=>by simp_all,fun e=>by simp_all⟩⟩
  simp_all
 .rename_i Qq;split at hs
  .rename_i l hl;cases hs;have Tg : Kn l [x]=true:=by cases x<;>exact hx
   have hy' : Kn l [y]=true:=by cases y<;>exact hy
   have single:∀k,l=[k]->On k x=true/\On k y=true:=by
    grind [Kn]
   have e9:Op.equal kt x y=Op.equalIn (9999+1) kt x y:=rfl;rw[e9];unfold In at hl;split at hl
   .rename_i k hk;split at hl
    .cases hl
     obtain⟨h1,h2⟩:=single _ rfl;cases x<;>simp[On]at h1
     cases y<;>simp[On]at h2
     obtain rfl:=LV h1;obtain rfl:=LV h2;exact⟨_,run_equalIn_int w 9999 kt _ _ _ _ (hT.int hk),by simp⟩
    simp_all
   .rename_i hk;split at hl
    .cases hl
     obtain⟨h1,h2⟩:=single _ rfl;cases x<;>simp[On]at h1
     cases y<;>simp[On]at h2
     exact⟨_,run_equalIn_string w 9999 kt _ _ (hT.string hk),by grind [Kj]⟩
    simp_all
   .rename_i hk;split at hl
    .cases hl
     obtain⟨h1,h2⟩:=single _ rfl;cases x<;>simp[On]at h1
     cases y<;>simp[On]at h2
     exact⟨_,run_equalIn_bool' w 9999 kt _ _ (hT.bool hk),by simp⟩
    simp_all
   all_goals simp_all
  simp_all
theorem Nk(hs:Ix T kt=some sh)(w:World)(b:Bool)(hx:Zw sh x=true):(Instr.checkKey b 10000 kt x).run P w=.ok () w:=by
 unfold Ix at hs;split at hs
 .rename_i fs hk;split at hs
  .rename_i l hl;cases hs;cases x<;>simp only[Zw]at hx<;>try simp_all
   rename_i xs;have hd:(T kt).d≠.other:=aa0
   have ha:Kp (T kt).d=true:=by rw[hk];rfl
   have CN:l.length=(T kt).size:=by
    grind [In,Nat.eq_of_beq_eq_true]
   have:=NH hx
   have h0:Jg xs.toList 0 l.length=xs.toList:=by
    grind [Jg]
   have h1:=Uc hT w b 8 kt l hl 10000 Wk xs 0 aa0
   grind [KV,Sem.run_bind,Hf,Result.andThen_ok,Array.extract_size]
  simp_all
 .rename_i Qq;split at hs
  .rename_i l hl;cases hs;have key:∀d,(Instr.checkKey b (d+1) kt x).run P w=.ok () w:=by
    intro d;unfold In at hl;split at hl
    .rename_i k hk;simp[Instr.checkKey,run_underlying (hT.int hk)]
    .rename_i hk;simp[Instr.checkKey,run_underlying (hT.string hk)]
    .rename_i hk;simp[Instr.checkKey,run_underlying (hT.bool hk)]
    all_goals simp_all
   simp_all
  simp_all
end
def MD(x:Value)(es:List MapEntry)(i:Nat)(r:Option (Nat×Value)):Prop:=
 (r=none/\∀e∈es,e.key≠x)\/∃(j:Nat) (e:MapEntry),r=some (i+j,e.val)/\es[j]?=some e/\e.key=x
theorem MD.here{es:List MapEntry}(h:e.key=x):MD x (e::es) i (some (i,e.val)):=
 .inr ⟨0,e,rfl,rfl,h⟩
theorem MD.there{es:List MapEntry}{r:Option (Nat×Value)}(h:e.key≠x)(k:MD x es (i+1) r):MD x (e::es) i r:=by
 rcases k with ⟨h1,h2⟩ | ⟨j,e',h1,h2,h3⟩
 .exact .inl ⟨h1,fun d hd=>(AM.1 hd).elim (fun e'=>e'▸h) (h2 d)⟩
 .exact .inr ⟨j+1,e',by grind,h2,h3⟩
theorem Uw{kind:TypeDesc}{x:Value}:∀(es:List MapEntry) (i:Nat),(∀e∈es,∃b,Instr.sameNow kind x e.key=some b/\(b=true↔x=e.key))->∃r,Instr.findNow kind x es i=some r/\MD x es i r
 | [],i,_=>⟨none,rfl,.inl ⟨rfl,fun _ h=>by cases h⟩⟩
 |e::es,i,h=>by
  obtain⟨b,b1,b2⟩:=h e (Ah ..);cases b with
  |true=>exact⟨_,by grind [Instr.findNow],.here (b2.1 rfl).symm⟩
  |false=>
   obtain⟨r,r1,r2⟩:=Uw es (i+1) (fun d hd=>h d (Aj _ hd))<;>grind [Instr.findNow,MD.there]
section
variable {P:Program}{T:G4}(hT:Cc P T)
include hT
theorem Oi{kt:Nat}{sh:E0}(hs:Ix T kt=some sh)(w:World){x:Value}(hx:Zw sh x=true) :
  ∀(es:List MapEntry) (i:Nat),(∀e∈es,Zw sh e.key=true)->∃r,(Instr.findAsking kt x es i).run P w=.ok r w/\MD x es i r
 | [],i,_=>⟨none,rfl,.inl ⟨rfl,fun _ h=>by cases h⟩⟩
 |e::es,i,h=>by
  obtain⟨b,b1,b2⟩:=pY hT hs w hx (h e (Ah ..));cases b with
  |true=>exact⟨_,by simp[Instr.findAsking,b1],.here (b2.1 rfl).symm⟩
  |false=>
   obtain⟨r,r1,r2⟩:=Oi hs w hx es (i+1) (fun d hd=>h d (Aj _ hd));exact⟨r,by simp[Instr.findAsking,b1,r1],.there (fun e'=>by simp_all) r2⟩
theorem Pq(hs:Ix T kt=some sh)(w:World)(hx:Zw sh x=true)(es:List MapEntry)(he:∀e∈es,Zw sh e.key=true) :
  ∃r,(Instr.findKey kt x es).run P w=.ok r w/\MD x es 0 r:=by
 have Ad3:∀d,P.underlying kt=some d->Instr.findNow d x es 0=none->∃r,(Instr.findKey kt x es).run P w=.ok r w/\MD x es 0 r:=by
  intro d hd hn;obtain⟨r,r1,r2⟩:=Oi hT hs w hx es 0 he;exact⟨r,by simp[Instr.findKey,run_underlying hd,hn,r1],r2⟩
 have now:∀d,P.underlying kt=some d->(∀e∈es,∃b,Instr.sameNow d x e.key=some b/\(b=true↔x=e.key))->∃r,(Instr.findKey kt x es).run P w=.ok r w/\MD x es 0 r:=by
  intro d hd hn;obtain⟨r,r1,r2⟩:=Uw es 0 hn;exact⟨r,by simp[Instr.findKey,run_underlying hd,r1],r2⟩
 have eU:=hs;unfold Ix at eU;split at eU
 .rename_i fs hk;obtain⟨fa,u1,_⟩:=hT.struct hk;cases es<;>grind [Instr.findNow,Instr.sameNow]
 .rename_i Qq;split at eU
  .rename_i l hl;cases eU;have cv:∀y,Zw ⟨false,l⟩ y=true->Kn l [y]=true:=fun y hy=>by cases y<;>exact hy
   have Tg:=cv x hx;have he' : ∀e∈es,Kn l [e.key]=true:=fun e h=>cv _ (he e h)
   clear hx he cv
   have single:∀k y,l=[k]->Kn l [y]=true->On k y=true:=by
    grind [Kn]
   unfold In at hl;split at hl
   .rename_i k hk;split at hl
    .cases hl
     refine now _ (hT.int hk) (fun e h=>?_);have h1:=single _ _ rfl Tg;have h2:=single _ _ rfl (he' e h);generalize e.key=y at h2;cases x<;>simp[On]at h1
     cases y<;>simp[On]at h2
     obtain rfl:=LV h1;obtain rfl:=LV h2;exact⟨_,by simp[Instr.sameNow];rfl,by simp⟩
    simp_all
   .rename_i hk;split at hl
    .cases hl
     refine now _ (hT.string hk) (fun e h=>?_);have h1:=single _ _ rfl Tg;have h2:=single _ _ rfl (he' e h);generalize e.key=y at h2;cases x<;>simp[On]at h1
     cases y<;>simp[On]at h2
     exact⟨_,by simp[Instr.sameNow];rfl,by grind [beq_toListBytes,Kj]⟩
    simp_all
   .rename_i hk;split at hl
    .cases hl
     refine now _ (hT.bool hk) (fun e h=>?_);have h1:=single _ _ rfl Tg;have h2:=single _ _ rfl (he' e h);generalize e.key=y at h2;cases x<;>simp[On]at h1
     cases y<;>simp[On]at h2
     exact⟨_,by simp[Instr.sameNow];rfl,by simp⟩
    simp_all
   all_goals simp_all
  simp_all
end
theorem SV{P:Program}(w:World)(hx:Zw sh x=true):(Instr.keyThatStays x x).run P w=.ok x w:=by
 have scalar:∀(k:KS) (y:Value) (n:Nat),On k y=true->Instr.sameBits n y y=true:=by
  intro k y n h;cases k<;>cases y<;>simp[On]at h<;>cases n<;>simp[Instr.sameBits,beq_toListBytes]
 have lst:∀(l:List KS) (ys:List Value) (n:Nat),Kn l ys=true->((ys.zip ys).all fun(a,b)=>Instr.sameBits n a b)=true:=by
  intro l ys n
  induction ys generalizing l with
  |nil=>simp_all
  |cons y ys ih=>
   grind [List.zip_cons_cons,Kn.eq_def]
 have h1:∀n,Instr.sameBits (n+1) x x=true:=by
  intro n;obtain⟨ag,l⟩:=sh;cases ag with
  |true=>
   cases x<;>simp only[Zw]at hx<;>try simp_all
   have:=lst l _ n hx
   grind [Instr.sameBits]
  |false=>
   have Tg : Kn l [x]=true:=by cases x<;>exact hx
   grind [Kn.eq_def]
 have:=h1 9999
 simp only[Instr.keyThatStays];simp_all
theorem XY:∀{cs:List AV} {l:List Value},ZD cs=some l->cs=l.map .v
 | [],l,h=>by cases h;rfl
 |a::r,l,h=>by
  cases a<;>simp only[ZD]at h<;>try (cases h;done)
  split at h
  .rename_i l' hl;cases h;rw[XY hl];rfl
  simp_all
theorem sv(h:O g w U a x)(hk:xb a=some y):x=y:=by
 unfold xb at hk;split at hk
 .grind [O.v_eq]
 .split at hk
  .rename_i l hl;cases hk;obtain rfl:=XY hl;exact h.agg_vals
  simp_all
 simp_all
theorem NG{T:G4}{ty:Nat}{K:Value->Prop}(h:O g w U a x)(hk:KP T ty sh a K) :
  ∃kt e,(T ty).d=.map kt e/\Ix T kt=some sh/\Zw sh x=true/\K x:=by
 unfold KP at hk
 grind [tG,sv]
theorem HQ.shape(h:HQ sh es ck BZ):∀e∈es.toList,Zw sh e.key=true:=by
 intro e he;obtain⟨h1,h2,h3,_⟩:=h;obtain⟨i,hi⟩:=Es.1 he;have E4:i<BZ.length:=aa2
 rw[h2 i BZ[i] e (AT E4) aa0]
 grind
theorem HQ.none(h:HQ sh es ck BZ)(hn:∀e∈es.toList,e.key≠x)(a:AV):(x,a)∉BZ:=by
 intro hm;obtain⟨h1,h2,_⟩:=h;obtain⟨i,hi⟩:=Es.1 hm;have E4:i<es.size:=aa2
 exact hn es[i] aa1 (h2 i _ es[i] hi aa0)
theorem HQ.some{sh:E0}{es:Array MapEntry}{ck:Nat}{BZ:List (Value×AV)}(h:HQ sh es ck BZ){x:Value}{j:Nat}{e:MapEntry}(he:es.toList[j]?=some e)(hk:e.key=x) :
  ∃a,BZ[j]?=some (x,a)/\(x,a)∈BZ:=by
 obtain⟨h1,h2,_⟩:=h;have E4:j<BZ.length:=aa2
 have hg:BZ[j]?=Option.some BZ[j]:=AT E4
 grind
section
variable {P:Program}{T:G4}(hT:Cc P T){h:Nat->HO}{g:D}{w:World}{K:AV->Prop}
section
include hT
theorem X0{t:Nat}(hk:KR T t K):Bw P h g w (zeroValue t) K:=by
 unfold KR at hk;split at hk
 .simp_all
 .rename_i hd;obtain⟨z,z1,z2,z3⟩:=Nr hT (w:=w) hd;rw[z3]at hk;split at hk
  .rename_i cs;split at hk
   .rename_i ha;have hr:=Ci.vals (g:=g) (w:=w) (U:=L h) ha;exact⟨_,_,z1,hk,.agg _ _ _ aa1 (fun i x hx=>hr.2.1 x (AA (by simpa using hx))) (fun i av x h1 h2=>hr.2.2 i av x h1 aa0)⟩
   simp_all
  .exact⟨_,_,z1,hk,.v _ _⟩
theorem KB{ty b:Nat}{kt e:Nat}{ck:Nat}{BZ:List (Value×AV)}(ht:(T ty).d=.map kt e)(hs:Ix T kt=some sh)(hx:Zw sh x=true)(hb:w.heap[b]?=some (.map es ck))(hm:HQ sh es ck BZ)(hv:∀(i:Nat) (kv:Value×AV) (e:MapEntry),BZ[i]?=some kv->es[i]?=some e->O g w (L h) kv.2 e.val)(hk:MP T ty ok BZ x K):Bw P h g w (Instr.lookup ty (.map (some b)) x ok) K:=by
 have hu:=hT.map ht;have F5:=run_getObj_map (P:=P) w b es ck hb;have UQ:=fun bb=>Nk hT hs w bb hx;obtain⟨r,r1,r2⟩:=Pq hT hs w hx es.toList hm.shape;unfold MP at hk;rw[ht]at hk;dsimp only at hk;rcases r2 with ⟨rfl,hn⟩ | ⟨j,en,rfl,hj,hkey⟩
 .have kc:=fun a=>hm.none hn a;cases ok with
  |true=>
   obtain⟨y,av,y1,y2,y3⟩:=X0 hT (K:=fun z=>K (.tup [z,.v (.bool false)])) (P:=P) (h:=h) (g:=g) (w:=w) (hk.2 kc);refine⟨.tuple #[y,.bool false],_,?_,y2,.tup _ _ _ rfl (fun i a x h1 h2=>?_)⟩
   .simp[Instr.lookup,run_underlying hu,F5,UQ,r1,y1]
   grind [O.v]
  |false=>
   obtain⟨y,av,y1,y2,y3⟩:=X0 hT (K:=K) (P:=P) (h:=h) (g:=g) (w:=w) (hk.2 kc);exact⟨y,av,by simp[Instr.lookup,run_underlying hu,F5,UQ,r1,y1],y2,y3⟩
 .obtain⟨a,a1,a2⟩:=hm.some hj hkey;have hr:=hv j (x,a) en a1 aa0;cases ok with
  |true=>
   refine⟨.tuple #[en.val,.bool true],_,?_,hk.1 a a2,.tup _ _ _ rfl (fun i av y h1 h2=>?_)⟩
   .simp[Instr.lookup,run_underlying hu,F5,UQ,r1]
   grind [O.v]
  |false=>exact⟨en.val,a,by simp[Instr.lookup,run_underlying hu,F5,UQ,r1],hk.1 a a2,hr⟩
theorem fu(ho:∀r,D6 g w (L h) r (h r)){ty:Nat}{m k:AV}{vm vk:Value}(hm:O g w (L h) m vm)(hx:O g w (L h) k vk)(hk:NM T h ty m k ok K) :
  Bw P h g w (Instr.lookup ty vm vk ok) K:=by
 unfold NM at hk;split at hk
 .obtain⟨kt,e,k1,k2,k3,k4⟩:=NG hx hk;cases hm with
  |cmap _ _ _ b es ck hS hb sc hv=>exact KB hT k1 k2 k3 hb sc (fun i kv e p q=>(hv i kv e p q).up _) k4
 .rename_i r;have hr:=ho r;cases hm with
  |mref _ _ b hu ht hp=>
   split at hk
   .rename_i sh BZ e;rw[e]at hr;obtain⟨_,b',es,ck,a1,a2,a3,a4,a5,a6⟩:=hr<;>grind [NG,KB,O.up]
   .rename_i sh BZ e;rw[e]at hr;obtain⟨_,b',es,ck,a1,a2,a3,a4,a5,a6⟩:=hr<;>grind [NG,KB]
   .rename_i sh BZ e;rw[e]at hr;obtain⟨_,b',a1,a2⟩:=hr;rw[a1]at hp;cases hp;obtain⟨kt,e,k1,k2,k3,k4⟩:=NG hx hk;cases a2 with
    |cmap _ _ _ _ es ck hS hb sc hv=>exact KB hT k1 k2 k3 hb sc (fun i kv e p q=>(hv i kv e p q).up _) k4
   simp_all
 simp_all
omit hT in
theorem m8{ty:Nat}{BZ:List (Value×AV)}{kx:Value}(hk:MO T ty ok BZ kx K):MP T ty ok BZ kx K:=by
 unfold MO at hk;unfold MP;split at hk
 all_goals grind
omit hT in
theorem ks{ty:Nat}{k:AV}{A B:Value->Prop}(hk:KP T ty sh k A)(hab:∀x,A x->B x):KP T ty sh k B:=by
 grind [KP]
omit hT in
theorem kE{ty:Nat}{m k:AV}(hk:NL T h ty m k ok K):NM T h ty m k ok K:=by
 unfold NL at hk
 grind [NM,ks,m8]
theorem oE(ho:∀r,D6 g w (L h) r (h r)){t ty:Nat}{x:AV}(hx:O g w (L h) x vx)(hk:SG T t h x K):Bw P h g w (Builtin.len_ #[t] ty #[vx]) K:=by
 unfold SG at hk;split at hk
 .rename_i e ht;have hu:=hT.slice ht;have run:∀a n c,(Builtin.len_ #[t] ty #[.slice a n c]).run P w=.ok (.int .i64 n) w:=fun a n c=>by simp[Builtin.len_,run_underlying hu,goInt]
  split at hk
  .have hs:=hx.slice_none;cases hs with
   |snil _ a cap=>exact⟨_,_,run a 0 cap,hk,.v _ _⟩
   |slice _ _ b off sz cap val hc=>exact⟨_,_,run _ _ _,hk,.v _ _⟩
  .cases hx with
   |msl=>exact⟨_,_,run _ _ _,hk,.v _ _⟩
  .obtain rfl:=hx.v_eq;exact⟨_,_,run _ _ _,hk,.v _ _⟩
  simp_all
 .rename_i ht;split at hk
  .obtain rfl:=hx.v_eq;exact⟨_,_,by simp[Builtin.len_,run_underlying (hT.string ht),goInt],hk,.v _ _⟩
  simp_all
 .rename_i k e ht;have hu:=hT.map ht;have run:∀b es ck,w.heap[b]?=some (.map es ck)->(Builtin.len_ #[t] ty #[.map (some b)]).run P w=.ok (.int .i64 es.size) w:=fun b es ck hb=>by
   simp[Builtin.len_,run_underlying hu,goInt,run_getObj_map (P:=P) w b es ck hb]
  split at hk
  .cases hx with
   |cmap _ _ _ b es ck hS hb sc hv=>exact⟨_,_,run b es ck hb,by rw[sc.1];exact hk,.v _ _⟩
  .rename_i r;have hr:=ho r;cases hx with
   |mref _ _ b oc ht' hp=>
    split at hk
    .rename_i sh BZ e;rw[e]at hr;obtain⟨_,b',es,ck,a1,a2,a3,a4,a5,a6⟩:=hr;rw[a2]at hp;cases hp;exact⟨_,_,run _ es ck a3,by rw[a4.1];exact hk,.v _ _⟩
    .rename_i sh BZ e;rw[e]at hr;obtain⟨_,b',es,ck,a1,a2,a3,a4,a5,a6⟩:=hr;rw[a2]at hp;cases hp;exact⟨_,_,run _ es ck a3,by rw[a4.1];exact hk,.v _ _⟩
    .rename_i sh BZ e;rw[e]at hr;obtain⟨_,b',a1,a2⟩:=hr;rw[a1]at hp;cases hp;cases a2 with
     |cmap _ _ _ _ es ck hS hb sc hv=>exact⟨_,_,run _ es ck hb,by rw[sc.1];exact hk,.v _ _⟩
    simp_all
  simp_all
 simp_all
end
theorem Ze(ho:∀r,D6 g w (L h) r (h r)){t:Nat->AV}(ht:∀x:Operand,O g w (L h) (ev t x) (ρ x)){fn:Fn}{first cap:Array Operand}(hk:Ld t h fn first.toList cap.toList K) :
  Bw P h g w (Instr.makeFunc fn (first.map ρ) (cap.map ρ)) K:=by
 unfold Ld at hk;split at hk
 .rename_i f e;have hf:first=#[]:=by
   simp_all
  subst hf;refine⟨_,_,rfl,hk,?_⟩
  grind [O.clo,O.rsv]
 simp_all
theorem Zh{x:AV}(hx:O g w (L h) x vx)(hk:Li x K){pos:String}{after:Array Edge}{gd:Option (Nat×Bool)}{dst:Option Tmp}{ty:Nat}{X:Operand}(hX:ρ X=vx) :
  (execOp ρ ⟨dst,.nilCheck X,ty,pos,after,gd⟩).run P w=.ok (.value vx) w/\K x:=by
 subst hX;unfold Li at hk;split at hk
 all_goals first
  |exact hk.elim
  |(refine⟨?_,hk⟩;generalize hq:ρ X=q at hx;cases hx;simp[execOp,hq];done)
theorem jI(ho:∀r,D6 g w (L h) r (h r)){x:AV}(hx:O g w (L h) x vx)(hk:dR h x K):Bw P h g w (Instr.entry vx) K:=by
 unfold dR at hk;split at hk
 .rename_i r;have hr:=ho r;split at hk
  .rename_i all rem kv e;rw[e]at hr;cases hx with
   |ref _ _ _ b hu ht hp=>
    obtain⟨_,b',mb,KI,seen,st,es,ck,a1,a2,a3,a4,a5,⟨sh,a6⟩,a7,a8,a9,ZQ,gm,a12,vt⟩:=hr;rw[a2]at hp;cases hp;obtain⟨i,en,c1,c2,c3⟩:=a12;have Aam:es.find? (fun e=>e.born == en.born)=some en:=by
     rw[Array.find?_eq_some_iff_getElem];obtain⟨E4,he⟩:=B5.1 c2;refine⟨by simp,i,E4,he,fun j hj=>?_⟩;have Af3 : j<es.size:=Wk
     simp only[EY,beq_eq_false_iff_ne,ne_eq];intro e'
     have:=a6.2.2.2.2.2 j i es[j] en aa0 c2 e'
     omega
    have hkey:=a6.2.1 i kv en c1 c2;refine⟨.tuple #[en.key,en.val],_,?_,hk,.tup _ _ _ rfl (fun k av y h1 h2=>?_)⟩
    .have gX:(getObj b).run P w=.ok (.mapIter (some mb) KI seen st) w:=by grind [getObj,Sem.run]
     have wI:=run_getObj_map (P:=P) w mb es ck a5;simp[Instr.entry,gX,c3,wI,a8,Aam]
    grind [O.v,O.up]
  simp_all
 simp_all
end
def OD(h:Nat->HO)(g:D)(w:World)(m:Sem Value)(K:HK):Prop:=
 ∃x w' g' av h',m.run P w=.ok x w'/\K av h'/\CZ w0 g0 h0 h' g' w'/\Le h g w h' g' w'/\O g' w' (L h') av x
def lY(h:Nat->HO)(g:D)(w:World)(m:Sem Unit)(K:HK):Prop:=
 ∃w' g' h',m.run P w=.ok () w'/\K (.v undef) h'/\CZ w0 g0 h0 h' g' w'/\Le h g w h' g' w'
section
variable {P:Program}{w0:World}{g0:D}{h0 h:Nat->HO}{g:D}{w:World}(hI:CZ w0 g0 h0 h g w)
include hI
theorem Bw.does{m:Sem Value}{K:HK}(hg:Bw P h g w m (fun v=>K v h)):OD P w0 g0 h0 h g w m K:=
 let ⟨x,av,h1,h2,h3⟩:=hg
 ⟨x,w,g,av,h,h1,h2,hI,.refl _ _ _,h3⟩
theorem CZ.newOwn{d:Nat}(hd:h d=.free)(o' : HO)(ob:Obj)(x:Value)(n:Nat)(t:Bool)(w1:World)(UV:w1.heap=w.heap/\w1.os=w.os/\w1.tape=w.tape/\w1.output=w.output)(ER:o'≠.free)
  (Mt:KK g (g.upd d x n t (some w.heap.size) g.S) (L h)->Fg g w (g.upd d x n t (some w.heap.size) g.S) (w1.alloc ob) ->
   D6 (g.upd d x n t (some w.heap.size) g.S) (w1.alloc ob) (L (AJ h d o')) d o') :
  CZ w0 g0 h0 (AJ h d o') (g.upd d x n t (some w.heap.size) g.S) (w1.alloc ob)/\Le h g w (AJ h d o') (g.upd d x n t (some w.heap.size) g.S) (w1.alloc ob):=by
 refine hI.upd d o' x n t _ _ _ none ⟨UV.2.1,UV.2.2.1,UV.2.2.2,by simp_all⟩ (fun k hk _=>?_) (fun b e=>by cases e) (fun _ _ h=>h) (fun _ _ h=>.inl h) (fun b o e=>by cases e)
  (fun b _ e=>?_) ER (fun hu=>absurd hd hu) Mt
 all_goals grind [heap_alloc_old,World.size_alloc]
def D.more(g:D)(b n:Nat):Nat->Nat->Prop:=fun b' o=>g.S b' o\/(b'=b/\o<n)
theorem CZ.newStable{d:Nat}(hd:h d=.free)(o' : HO)(vs:Array Value)(E:TypeId)(m:Nat)(x:Value)(n:Nat)(t:Bool)(w1:World)(UV:w1.heap=w.heap/\w1.os=w.os/\w1.tape=w.tape/\w1.output=w.output)(ER:o'≠.free)
  (Mt:KK g (g.upd d x n t none (g.more w.heap.size m)) (L h)->Fg g w (g.upd d x n t none (g.more w.heap.size m)) (w1.alloc (.cells vs E (0,0))) ->
   D6 (g.upd d x n t none (g.more w.heap.size m)) (w1.alloc (.cells vs E (0,0))) (L (AJ h d o')) d o') :
  CZ w0 g0 h0 (AJ h d o') (g.upd d x n t none (g.more w.heap.size m)) (w1.alloc (.cells vs E (0,0))) /\
   Le h g w (AJ h d o') (g.upd d x n t none (g.more w.heap.size m)) (w1.alloc (.cells vs E (0,0))):=by
 refine hI.upd d o' x n t _ _ _ none ⟨UV.2.1,UV.2.2.1,UV.2.2.2,by simp_all⟩ (fun k hk _=>?_) (fun b e=>by cases e) (fun _ _ h=>.inl h) (fun b o hb=>?_) (fun b o e=>by cases e)
  (fun b _ e=>by cases e) ER (fun hu=>absurd hd hu) Mt
 .grind [heap_alloc_old]
 .rcases hb with hb | ⟨rfl,_⟩<;>simp_all
end
theorem Bn(g:D)(r:Nat)(x:Value)(n:Nat)(t:Bool)(o:Option Nat)(S:Nat->Nat->Prop) :
  (g.upd r x n t o S).ρ r=x/\(g.upd r x n t o S).ln r=n/\(g.upd r x n t o S).tk r=t/\(g.upd r x n t o S).own r=o:=by simp[D.upd]
theorem Hx(w:World)(o:Obj)(hb:b=w.heap.size):(w.alloc o).heap[b]?=some o:=by grind [heap_alloc_new]
theorem O.cptr_row{E:TypeId}(hb:w.heap[b]?=some (.cells vs E f))(hr:Ci g w FK cs vs.toList)(hS:∀o,o<cs.length->g.S b o):O g w U (.cptr cs) (.pointer (some ⟨b,0,none⟩)):=by
 refine .cptr U cs b 0 (fun j=>vs[j]?.getD default) (fun j av hj=>?_) (fun j av hj=>?_)
 .grind [Gj,Ci.at]
 .obtain⟨x,x1,x2,x3⟩:=hr.at hj;rw[CM]at x1;rw[x1];exact x3
theorem O.slice_off{off:Nat}{es:C0}{E:TypeId}(hb:w.heap[b]?=some (.cells vs E f))(hl:∀cs∈es,cs.length=sz)(hc:es.length<=cap)(hr:Ci g w FK es.flatten ((vs.toList.drop off).take (es.length*sz)))(hS:∀o,o<es.length*sz->g.S b (off+o)):O g w U (.slice .none es) (.slice (some ⟨b,off,none⟩) es.length cap):=by
 have key:∀(i:Nat) (cs:List AV) (j:Nat) (av:AV),es[i]?=some cs->cs[j]?=some av->∃x,vs[off+(i*sz+j)]?=some x/\x.oneCell'=true/\O g w FK av x/\i*sz+j<es.length*sz:=by
  intro i cs j av h1 h2;have hcl:=hl cs (AA h1);have hj:j<sz:=aa2
  have hi:=(Bg.1 h1).1;have E4:i*sz+j<es.length*sz:=by
   have:=BB sz (show i+1<=es.length from hi)
   grind
  have hf:=Fz hl h1 hj
  grind [Ci.at]
 refine .slice U es b off sz cap (fun i j=>vs[off+(i*sz+j)]?.getD default) hc (fun i cs h=>hl cs (AA h)) (fun i cs j av h1 h2=>?_) (fun i cs j av h1 h2=>?_)
 .grind [Gj]
 .obtain⟨x,x1,x2,x3,x4⟩:=key i cs j av h1 h2;rw[x1];exact x3
theorem O.slice_row{es:C0}{E:TypeId}(hb:w.heap[b]?=some (.cells vs E f))(hl:∀cs∈es,cs.length=sz)(hc:es.length<=cap)(hr:Ci g w FK es.flatten (vs.toList.take (es.length*sz)))(hS:∀o,o<es.length*sz->g.S b o):O g w U (.slice .none es) (.slice (some ⟨b,0,none⟩) es.length cap):=by
 have key:∀(i:Nat) (cs:List AV) (j:Nat) (av:AV),es[i]?=some cs->cs[j]?=some av->∃x,vs[i*sz+j]?=some x/\x.oneCell'=true/\O g w FK av x/\i*sz+j<es.length*sz:=by
  intro i cs j av h1 h2;have hcl:=hl cs (AA h1);have hj:j<sz:=aa2
  have hi:=(Bg.1 h1).1;have E4:i*sz+j<es.length*sz:=by
   have:=BB sz (show i+1<=es.length from hi)
   grind
  have hf:=Fz hl h1 hj
  grind [Ci.at]
 refine .slice U es b 0 sz cap (fun i j=>vs[i*sz+j]?.getD default) hc (fun i cs h=>hl cs (AA h)) (fun i cs j av h1 h2=>?_) (fun i cs j av h1 h2=>?_)
 .grind [Gj]
 .obtain⟨x,x1,x2,x3,x4⟩:=key i cs j av h1 h2;rw[x1];exact x3
section
variable {P:Program}{w0:World}{g0:D}{h0 h:Nat->HO}{g:D}{w:World}
theorem SM(hI:CZ w0 g0 h0 h g w){d:Nat}(hd:h d=.free)(E:TypeId)(hr:Ci g w (L h) cs vs.toList) :
  ∃g',CZ w0 g0 h0 (AJ h d (.cells cs)) g' (w.alloc (.cells vs E (0,0)))/\Le h g w (AJ h d (.cells cs)) g' (w.alloc (.cells vs E (0,0))) /\
   O g' (w.alloc (.cells vs E (0,0))) (L (AJ h d (.cells cs))) (.ref d 0) (.pointer (some ⟨w.heap.size,0,none⟩)):=by
 obtain⟨k1,k2⟩:=hI.newOwn hd (.cells cs) (.cells vs E (0,0)) (.pointer (some ⟨w.heap.size,0,none⟩)) 0 false w ⟨rfl,rfl,rfl,rfl⟩ aa1 (fun hg hk=>by
  obtain⟨u1,u2,u3,u4⟩:=Bn g d (.pointer (some ⟨w.heap.size,0,none⟩)) 0 false (some w.heap.size) g.S;exact⟨u3,w.heap.size,E,vs,u4,u1,Hx w _ rfl,hr.mono hk (fun i hi=>DP aa1 i hi) hg,fun o ho=>by have:=hI.slt _ _ ho;omega⟩)
 refine⟨_,k1,k2,.ref _ d 0 w.heap.size (by unfold L;rw[A0];simp) ?_ ?_⟩
 .simp[D.upd]
 .simp[D.upd]
theorem oR(hI:CZ w0 g0 h0 h g w){d:Nat}(hd:h d=.free)(E:TypeId)(hr:Ci g w FK cs vs.toList) :
  ∃g',CZ w0 g0 h0 (AJ h d (.ro cs)) g' (w.alloc (.cells vs E (0,0)))/\Le h g w (AJ h d (.ro cs)) g' (w.alloc (.cells vs E (0,0))) /\
   O g' (w.alloc (.cells vs E (0,0))) (L (AJ h d (.ro cs))) (.ref d 0) (.pointer (some ⟨w.heap.size,0,none⟩)):=by
 obtain⟨k1,k2⟩:=hI.newStable hd (.ro cs) vs E cs.length (.pointer (some ⟨w.heap.size,0,none⟩)) 0 false w ⟨rfl,rfl,rfl,rfl⟩ aa1 (fun hg hk=>by
  obtain⟨u1,u2,u3,u4⟩:=Bn g d (.pointer (some ⟨w.heap.size,0,none⟩)) 0 false none (g.more w.heap.size cs.length);exact⟨u3,w.heap.size,u1,O.cptr_row (Hx w _ rfl) (hr.mono hk (fun _ h=>h) (fun _ h=>h.elim)) (fun o ho=>.inr ⟨rfl,ho⟩)⟩)
 refine⟨_,k1,k2,.ref _ d 0 w.heap.size (by unfold L;rw[A0];simp) ?_ ?_⟩
 .simp[D.upd]
 .simp[D.upd]
theorem KE(hI:CZ w0 g0 h0 h g w){cx:Cx}{d:Option Nat}{sz:Nat}{es:C0}{K:HK}(hk:Fe cx d h sz es K){cap:Nat}(E:TypeId)(hl:∀cs∈es,cs.length=sz)(hc:es.length<=cap)(hs:vs.size=cap*sz)(hr:Ci g w FK es.flatten (vs.toList.take (es.length*sz)))(w1:World)(UV:w1.heap=w.heap/\w1.os=w.os/\w1.tape=w.tape/\w1.output=w.output) :
  ∃g' av h',K av h'/\CZ w0 g0 h0 h' g' (w1.alloc (.cells vs E (0,0)))/\Le h g w h' g' (w1.alloc (.cells vs E (0,0))) /\
   O g' (w1.alloc (.cells vs E (0,0))) (L h') av (.slice (some ⟨w.heap.size,0,none⟩) es.length cap):=by
 have E1:(w1.alloc (.cells vs E (0,0))).heap[w.heap.size]?=some (.cells vs E (0,0)):=Hx w1 _ aa0;unfold Fe at hk;split at hk
 .simp_all
 .rename_i d;generalize KO cx d=d1 at hk;split at hk
  .rename_i hd;split at hk
   .obtain⟨k1,k2⟩:=hI.newOwn hd (.arr sz es) (.cells vs E (0,0)) (.slice (some ⟨w.heap.size,0,none⟩) es.length cap) es.length true w1 UV aa1 (fun hg Jf=>by
     obtain⟨u1,u2,u3,u4⟩:=Bn g d1 (.slice (some ⟨w.heap.size,0,none⟩) es.length cap) es.length true (some w.heap.size) g.S;exact⟨u3,u2,hl,.inr ⟨w.heap.size,cap,E,vs,u1,u4,hc,E1,hs,hr.mono Jf (fun _ h=>h) (fun _ h=>h.elim),fun o ho=>by have:=hI.slt _ _ ho;omega⟩⟩)
    refine⟨_,_,_,hk,k1,k2,.msl _ d1 es.length _ cap (by unfold L;rw[A0];simp) ?_ ?_ (.inr ⟨_,rfl⟩) ?_⟩<;>simp[D.upd]
   .by_cases uD:es.length=cap
    .obtain⟨k1,k2⟩:=hI.newStable hd (.tok sz es.length) vs E (es.length*sz) (.slice (some ⟨w.heap.size,0,none⟩) es.length cap) es.length true w1 UV aa1 (fun hg Jf=>by
      obtain⟨u1,u2,u3,u4⟩:=Bn g d1 (.slice (some ⟨w.heap.size,0,none⟩) es.length cap) es.length true none (g.more w.heap.size (es.length*sz));exact⟨u3,u2,_,cap,u1,.inl ⟨uD,u4⟩⟩)
     refine⟨_,_,_,hk,k1,k2,.tok _ d1 sz es _ (O.slice_row E1 hl hc (hr.mono k2.keeps (fun _ h=>h) (fun _ h=>h.elim)) (fun o ho=>.inr ⟨rfl,ho⟩)) hl (by grind [L,A0]) ?_ ?_ ?_⟩<;>simp[D.upd]
    .have yi:=hI.upd d1 (.tok sz es.length) (.slice (some ⟨w.heap.size,0,none⟩) es.length cap) es.length true (some w.heap.size) (g.more w.heap.size (es.length*sz)) (w1.alloc (.cells vs E (0,0))) none
      ⟨UV.2.1,UV.2.2.1,UV.2.2.2,by simp_all⟩ (fun k hk' _=>by grind [heap_alloc_old]) (fun b e=>by cases e) (fun _ _ h=>.inl h)
      (fun b o hb=>by
       rcases hb with hb | ⟨rfl,_⟩<;>simp_all) (fun b o e=>by cases e)
      (fun b _ e=>by simp_all) aa1 (fun hu=>absurd hd hu) (fun hg Jf=>by
       obtain⟨u1,u2,u3,u4⟩:=Bn g d1 (.slice (some ⟨w.heap.size,0,none⟩) es.length cap) es.length true (some w.heap.size) (g.more w.heap.size (es.length*sz));exact⟨u3,u2,_,cap,u1,.inr ⟨hc,w.heap.size,E,vs,0,rfl,u4,.of E1,by omega,fun o ho=>by
        rcases ho with ho | ⟨_,ho⟩
        .have:=hI.slt _ _ ho;omega
        .omega⟩⟩)
     obtain⟨k1,k2⟩:=yi;refine⟨_,_,_,hk,k1,k2,.tok _ d1 sz es _ (O.slice_row E1 hl hc (hr.mono k2.keeps (fun _ h=>h) (fun _ h=>h.elim)) (fun o ho=>.inr ⟨rfl,ho⟩)) hl (by grind [L,A0]) ?_ ?_ ?_⟩<;>simp[D.upd]
  .exact hk.elim
end
end Go.Eng
