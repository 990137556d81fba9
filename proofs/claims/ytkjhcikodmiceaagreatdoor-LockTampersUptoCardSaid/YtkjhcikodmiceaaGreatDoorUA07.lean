/- Lemmas 7. -/
import Derived.Test.YtkjhcikodmiceaaGreatDoorUA06
namespace Go.Eng
variable {U:Nat->Prop}{x:Value}{vs:Array Value}{w:World}{ρ:Operand->Value}{es:Array MapEntry}{g:Gh}{sh:D7}{cs:List AV}{BF:List (Value×AV)}{f:Nat×Nat}{vx:Value}{ok:Bool}{b:Nat}{e:MapEntry}{a:AV}{i kt:Nat}{y:Value}{ck sz cap:Nat}(P:Program)(w0:World)(g0:Gh)(h0:Nat->HO)
theorem BR.at{vs:List Value}(h:BR g w U cs vs){av:AV}(hi:cs[i]?=some av):∃x,vs[i]?=some x/\x.oneCell'=true/\AT g w U av x:=by
 have Ez:i<vs.length:=by rw[h.1];grind
 exact⟨vs[i],AK Ez,h.2.1 _ (Ao Ez),h.2.2 i av _ hi (AK Ez)⟩
theorem EJ{α:Type}{n:Nat}:∀{es:List (List α)},(∀c∈es,c.length=n)->∀{i j:Nat} {c:List α},es[i]?=some c->j<n->es.flatten[i*n+j]?=c[j]?
 | [],_,i,j,c,h,_=>by simp_all
 |d::es,hl,0,j,c,h,hj=>by
  grind
 |d::es,hl,i+1,j,c,h,hj=>by
  have hd:=hl d (Ad ..);rw[BW,Bp (by grind)];rw[show(i+1)*n+j-d.length=i*n+j by grind];exact EJ (fun c hc=>hl c (Af _ hc)) (by simp_all) hj
theorem CH{α:Type}{n:Nat}:∀{es:List (List α)},(∀c∈es,c.length=n)->es.flatten.length=es.length*n
 | [],_=>by simp
 |d::es,hl=>by
  rw[BW,Au,hl d (Ad ..),CH (fun c hc=>hl c (Af _ hc)),Dp,Nat.succ_mul,Nat.add_comm]
section
variable {P:Program}{T:FY}(hT:BQ P T){h:Nat->HO}{g:Gh}{w:World}{K:AV->Prop}(ho:∀r,Do g w (Aw h) r (h r))
include ho
theorem bF(hT:BQ P T){t:Nat}{x:AV}(hx:AT g w (Aw h) x vx){hi mx:Option Operand}(hk:Yk T h t x hi mx K):Bh P h g w (Instr.sliceAt t vx none (hi.map ρ) (mx.map ρ)) K:=by
 unfold Yk at hk;split at hk
 .rename_i n e r hd;split at hk
  .rename_i cs hs he;obtain⟨rfl,hk⟩:=hk;cases hx with
   |ref _ _ _ b hu ht hx=>
    have hr:=ho r;rw[he]at hr;obtain⟨_,b',a1,a2⟩:=hr;rw[a1]at hx;cases hx;cases a2 with
    |cptr _ _ _ off val CZ DH=>
     have ha:=hT.array hd;refine⟨.slice (some ⟨b,0,none⟩) cs.length cs.length,_,?_,hk,?_⟩
     .simp[Instr.sliceAt,Instr.sureAddr,run_underlying ha,Instr.sliceBounds,hT.size1 w hs,Addr.add_lit]
     .have q:=AT.slice (g:=g) (w:=w) (Aw h) (cs.map fun c=>[c]) b 0 1 cs.length (fun i _=>val i) B0 B0 ?_ ?_
      all_goals grind
  simp_all
 simp_all
theorem Un(hT:BQ P T){t:Nat}{p:AV}{vp:Value}(hp:AT g w (Aw h) p vp)(hk:Iz T h t p K):Bh P h g w (Instr.loadAt t vp) K:=by
 have ZK:∀b off,Bh P h g w (loadVar t ⟨b,off,none⟩) K->Bh P h g w (Instr.loadAt t (.pointer (some ⟨b,off,none⟩))) K:=by
  grind [Instr.loadAt,Instr.sureAddr]
 unfold Iz at hk;split at hk
 .cases hp with
  |cptr _ _ b off val CZ DH=>exact ZK b off (Lj hT (GX.of_cptr (.cptr ES _ b off val CZ DH) _) hk)
 .rename_i r off;have hr:=ho r;cases hp with
  |ref _ _ _ b hu ht hx=>
   split at hk
   .rename_i cs e;rw[e]at hr;obtain⟨_,b',E,vs,a1,a2,a3,a4,a5⟩:=hr;rw[a2]at hx;cases hx
    have:=(GX.of_row a3 a4).drop off
    grind [Lj]
   .rename_i cs e;rw[e]at hr;obtain⟨_,b',a1,a2⟩:=hr;rw[a1]at hx;cases hx
    have:=(GX.of_cptr a2 (Aw h)).drop off
    grind [Lj]
   simp_all
 .rename_i r n sz i off;have hr:=ho r;cases hp with
  |eref _ _ _ _ _ _ b cap hu ht hn hx=>
   split at hk
   .rename_i GW es e;rw[e]at hr;split at hk
    .rename_i hz;obtain rfl:=AL hz;obtain⟨B5,cs,h1,hk⟩:=hk;obtain⟨t1,l1,al,a1⟩:=hr;have Ez:=(AZ.1 h1).1;rcases a1 with ⟨rfl,_⟩ | ⟨b',Md,E,vs,e1,e2,e3,e4,e5,e6,e7⟩
     .simp_all
     .have:=hx (B5.trans l1.symm)
      rw[e1]at this;simp only[Value.slice.injEq,Cn,Addr.mk.injEq]at this;obtain⟨⟨rfl,_,_⟩,_,_⟩:=this;refine ZK _ _ (Lj hT (cs:=cs.drop off) (fun j av hj=>?_) hk);rw[Ew]at hj;have hcl:=al cs (Aq h1);have tU:off+j<sz:=by grind
      have hf:=EJ al h1 tU
      grind [Fm,BR.at,AT.up]
    simp_all
   .rename_i GW es i' c av e;rw[e]at hr;split at hk
    .rename_i hz;obtain rfl:=AL hz;obtain⟨⟨B5,rfl,rfl⟩,hk⟩:=hk;obtain⟨t1,l1,al,b',Md,E,vs,e1,e2,e3,e4,e5,e6,e7,e8,x,e9,tB⟩:=hr
     have:=hx (B5.trans l1.symm)
     rw[e1]at this;simp only[Value.slice.injEq,Cn,Addr.mk.injEq]at this;obtain⟨⟨rfl,_,_⟩,_,_⟩:=this;refine ZK _ _ (Lj hT (cs:=[av]) (fun j a' hj=>?_) hk);cases j with
     |succ j=>grind
     |zero=>
      simp only[DQ,Cn]at hj;subst hj;refine⟨x,by grind [Fm],?_,tB⟩;have hm:x∈vs.toList.take (es.length*sz):=by
       have h9:vs.toList[i*sz+off]?=some x:=by grind
       exact Aq (by rw[Qi e8];exact h9)
      exact e6.2.1 x hm
    simp_all
   simp_all
 simp_all
end
theorem Fq{α:Type}:∀(cs:List α) (o:Nat) (vs:List α),(over cs o vs).length=cs.length
 | [],_,_=>rfl
 |c::cs,o+1,vs=>by simp[over,Fq cs o vs]
 |c::cs,0,[]=>rfl
 |c::cs,0,v::vs=>by simp[over,Fq cs 0 vs]
theorem FW{α:Type}:∀(cs:List α) (o:Nat) (vs:List α) (i:Nat),o+vs.length<=cs.length->(over cs o vs)[i]?=if o<=i/\i<o+vs.length then vs[i-o]? else cs[i]?
 | [],o,vs,i,h=>by
  grind [over]
 |c::cs,o+1,vs,0,h=>by simp[over]
 |c::cs,o+1,vs,i+1,h=>by
  have:=FW cs o vs i (by grind)
  grind [over]
 |c::cs,0,[],i,h=>by
  have:¬(0<=i/\i<0+([]:List α).length):=by simp
  rw[AO this];rfl
 |c::cs,0,v::vs,0,h=>by simp[over]
 |c::cs,0,v::vs,i+1,h=>by
  have:=FW cs 0 vs i (by simp_all)
  grind [over]
theorem BR.over{g:Gh}{w:World}{U:Nat->Prop}{cs Ti:List AV}{xs vs:List Value}(h:BR g w U cs xs)(k:BR g w U Ti vs)(o:Nat)(Il:o+Ti.length<=cs.length) :
  BR g w U (Eng.over cs o Ti) (Eng.over xs o vs):=by
 have rF : o+vs.length<=xs.length:=by rw[k.1,h.1];exact Il
 refine⟨by rw[Fq,Fq,h.1],fun x hx=>?_,fun i av x h1 h2=>?_⟩
 .obtain⟨i,hi⟩:=DA.1 hx;rw[FW _ _ _ _ rF]at hi;split at hi
  .exact k.2.1 _ (Aq hi)
  .exact h.2.1 _ (Aq hi)
 .rw[FW _ _ _ _ Il]at h1;rw[FW _ _ _ _ rF,k.1]at h2;split at h1
  .rename_i hc;rw[A1 hc]at h2;exact k.2.2 _ _ _ h1 h2
  .rename_i hc;rw[AO hc]at h2;exact h.2.2 _ _ _ h1 h2
theorem o6(h:AT g w U a x)(h1:one a=true):x.oneCell'=true:=by
 cases h with
 |v=>exact h1
 |tok _ r sz es _ h=>cases h with
  |snil=>rfl
  |slice=>rfl
 |ver _ r sz v es _ h=>cases h with
  |snil=>rfl
  |slice=>rfl
 |full _ sz es _ h=>cases h with
  |snil=>rfl
  |slice=>rfl
 |_=>first |rfl |(cases h1;done)
theorem dk(h:x.oneCell'=true):x.cells=#[x]:=by
 cases x<;>first | rfl | grind [Value.oneCell']
theorem LL{n:Nat}{K:List AV->Prop}(h:AT g w U a x)(hk:GC n a K) :
  ∃cs,K cs/\cs.length=n/\BR g w U cs x.cells.toList:=by
 have single:one a=true->n=1->K [a]->∃cs,K cs/\cs.length=n/\BR g w U cs x.cells.toList:=by
  intro h1 hn hk;have hx:=o6 h h1;rw[dk hx];refine⟨[a],hk,hn.symm,rfl,by simp_all,fun i av y e1 e2=>?_⟩
  grind
 unfold GC at hk;split at hk
 .rename_i cs;split at hk
  .rename_i hl;cases h with
   |agg _ _ vs hs h1 hr=>
    refine⟨cs,hk,AL hl,by grind [Value.cells],fun y hy=>?_,fun i av y e1 e2=>?_⟩
    all_goals grind [List.mem_iff_getElem?,Value.cells]
  simp_all
 grind
theorem MQ:∀(vs:List Value) (k o:Nat) (cs:Array Value),o+k+vs.length<=cs.size ->
  ((vs.zipIdx k).foldl (fun(cs:Array Value) (p:Value×Nat)=>cs.setIfInBounds (o+p.2) p.1) cs).toList=over cs.toList (o+k) vs
 | [],k,o,cs,_=>by
  have:∀(l:List Value) (o:Nat),over l o []=l:=by
   intro l
   induction l with
   |nil=>intro o;rfl
   |cons c l ih=>intro o;cases o<;>grind [over]
  simp_all
 |v::vs,k,o,cs,h=>by
  simp at h;rw[List.zipIdx_cons,FC,MQ vs (k+1) o _ (by grind)];simp only[Array.toList_setIfInBounds];apply B7
  grind [FW]
theorem Rw{g:Gh}{w:World}{U:Nat->Prop}{t:Nat->AV}{ρ:Operand->Value}(ht:∀x:Operand,AT g w U (ev t x) (ρ x)){pl pl' : Nat->Option (Nat×Nat)}(tZ:∀i p,pl i=some p->pl' i=some p) :
  ∀{ps:List (Nat×Operand)} {cs:List AV} {xs:Array Value} {K:List AV->Prop},BR g w U cs xs.toList->Jt pl cs t ps K ->
   ∃ZT VY,K ZT/\BR g w U ZT VY.toList/\Instr.fill pl' xs (ps.map fun(i,x)=>(i,ρ x))=some VY
 | [],cs,xs,K,h,hk=>⟨cs,xs,hk,h,rfl⟩
 |(i,x)::ps,cs,xs,K,h,hk=>by
  unfold Jt at hk;split at hk
  .simp_all
  .rename_i o n hp;obtain⟨Ti,hk,hn,hr⟩:=LL (ht x) hk;split at hk
   .rename_i Il;have Il:=DB Il;have Fi:(ρ x).cells.size=n:=by rw[<-hn];simpa using hr.1
    have kS:cs.length=xs.size:=by simpa using h.1.symm
    have D8:=h.over hr o ch;have e:=MQ (ρ x).cells.toList 0 o xs (by simp_all);simp only[GT]at e;rw[<-e]at D8;obtain⟨ZT,VY,k1,k2,k3⟩:=Rw ht tZ D8 hk<;>grind [Instr.fill,Array.toList_zipIdx]
   simp_all
theorem LI:∀{l:List AV},Gd l=true->∀a∈l,one a=true
 | [],_,a,h=>by cases h
 |b::r,h,a,ha=>by
  unfold Gd at h;split at h
  .rename_i hb;rcases AA.1 ha with rfl | ha
   .exact hb
   .exact LI h a ha
  simp_all
theorem BR.vals{vs:List Value}(h:Gd (vs.map .v)=true):BR g w U (vs.map .v) vs:=by
 refine⟨by simp,fun x hx=>?_,fun i av x h1 h2=>?_⟩
 .have:=LI h (.v x) (Ak.2 ⟨x,hx,rfl⟩)
  grind [one]
 grind [AT.v]
section
variable {P:Program}{T:FY}(hT:BQ P T){h:Nat->HO}{g:Gh}{w:World}{K:AV->Prop}
theorem Xn{α β:Type}(P:Program)(w:World)(f:α->Sem β)(f' : α->β):∀(l:List α),(∀a∈l,(f a).run P w=.ok (f' a) w)->(l.mapM f).run P w=.ok (l.map f') w
 | [],_=>rfl
 |a::l,h=>by
  have h1:=h a (Ad ..);have h2:=Xn P w f f' l (fun b hb=>h b (Af _ hb));simp_all
theorem PE:∀{fs:List (Nat×Nat)},No T fs=true->∀p∈fs,∃n,(T p.1).size=n+1
 | [],_,p,h=>by cases h
 |(t,o)::r,h,p,hp=>by
  unfold No at h;split at h
  .cases h
  .rename_i n hn;rcases AA.1 hp with rfl | hp
   .simp_all
   .exact PE h p hp
include hT
theorem LH{t:Nat}(hd:(T t).d≠.other):∃z,(zeroValue t).run P w=.ok z w/\(T t).zc=z.cells.toList/\(T t).zero=z:=by
 obtain⟨d,i,z,h1,h2,h3,h4,h5,h6,h7,h8⟩:=hT.get hd;exact⟨z,by simp[zeroValue,typeInfo,h3,h4],by rw[TI.zc_cells,h7],h7⟩
theorem UM{t n:Nat}(h:(T t).size=n+1):∃z,(zeroValue t).run P w=.ok z w/\(T t).zc=z.cells.toList:=by
 rcases hT t with e | e
 .rw[e]at h;cases h
 unfold dS at e;split at e
 .split at e
  .rename_i d i h1 h2 _ z h3;exact⟨z,by simp[zeroValue,typeInfo,h2,h3],by rw[TI.zc_cells,e]⟩
  simp_all
 simp_all
theorem bK{ty:Nat}{t:Nat->AV}(ht:∀x:Operand,AT g w (Aw h) (ev t x) (ρ x)){ps:Array (Nat×Operand)}(hk:OF T ty t ps.toList K) :
  Bh P h g w (Instr.build ty (ps.map fun(i,x)=>(i,ρ x))) K:=by
 unfold OF at hk;split at hk
 .simp_all
 .rename_i Vp;have fin:∀(ZT : List AV) (VY : Array Value),BR g w (Aw h) ZT VY.toList->AT g w (Aw h) (.agg ZT) (.agg VY):=fun ZT VY hr=>
   .agg _ _ _ (by simpa using hr.1) (fun i x hx=>hr.2.1 x (Aq (by simpa using hx))) (fun i av x h1 h2=>hr.2.2 i av x h1 (by simp_all))
  split at hk
  .rename_i fs hs;have hd:(T ty).d≠.other:=by simp_all
   obtain⟨z,z1,z2,_⟩:=LH hT (w:=w) hd;split at hk
   .simp_all
   .rename_i Fi;obtain⟨fa,u1,u2,u3⟩:=hT.struct hs;have kP:(fa.mapM fun(f:Field)=>(do pure (f.offset,<-sizeOf f.type):Sem (Nat×Nat))).run P w=.ok (fa.map fun f=>(f.offset,(T f.type).size)) w:=by
     rw[Array.mapM_eq_mapM_toList]
     have:=Xn P w (fun f:Field=>(do pure (f.offset,<-sizeOf f.type):Sem (Nat×Nat))) (fun f=>(f.offset,(T f.type).size)) fa.toList (fun f hf=>by
      obtain⟨n,hn⟩:=PE Fi (f.type,f.offset) (by grind);simp[hT.size1 w hn,hn])
     simp only[Sem.run_map,this,Result.andThen_ok]
     congr 1
     apply Array.ext';simp
    rw[z2]at hk Vp;obtain⟨ZT,VY,k1,k2,k3⟩:=Rw ht (pl':=fun i=>(fa.map fun f=>(f.offset,(T f.type).size))[i]?) (fun i p hp=>by
     split at hp
     .rename_i t' o hf;cases hp;obtain⟨fa',fd,v1,v2,rfl,rfl⟩:=RA hT hs hf<;>simp_all
     simp_all) (BR.vals (vs:=z.cells.toList) Vp) hk
    refine⟨_,_,?_,k1,fin ZT VY k2⟩;simp only[Instr.build,Sem.run_bind,z1,Result.andThen_ok,run_underlying u1,kP];simp_all
  .rename_i n e hs;have hd:(T ty).d≠.other:=by simp_all
   obtain⟨z,z1,z2,_⟩:=LH hT (w:=w) hd;split at hk
   .simp_all
   .rename_i m hm;rw[z2]at hk Vp;obtain⟨ZT,VY,k1,k2,k3⟩:=Rw ht (pl':=fun i=>some (i*(T e).size,(T e).size)) (fun i p hp=>hp) (BR.vals (vs:=z.cells.toList) Vp) hk;refine⟨_,_,?_,k1,fin ZT VY k2⟩;simp only[Instr.build,Sem.run_bind,z1,Result.andThen_ok,run_underlying (hT.array hs),hT.size1 w hm];simp_all
  simp_all
end
theorem lf{a b:KS}(h:ld a b=true):a=b:=by
 cases a<;>cases b<;>first | rfl | (simp[ld]at h;done) | grind [ld,Ka]
theorem Xf:∀{a b:List KS},Sa a b=true->a=b
 | [],[],_=>rfl
 |x::a,y::b,h=>by
  unfold Sa at h;split at h
  .rename_i e;obtain rfl:=lf e;obtain rfl:=Xf h;rfl
  simp_all
 | [],_::_,h=>by grind [Sa]
 |_::_,[],h=>by grind [Sa]
theorem l5{a b:D7}(h:pp a b=true):a=b:=by
 obtain⟨a1,a2⟩:=a;obtain⟨b1,b2⟩:=b<;>grind [pp,Xf]
section
variable {P:Program}{T:FY}(hT:BQ P T)
include hT
def Jg(P:Program)(w:World)(b:Bool)(d t:Nat)(xs:Array Value)(o:Nat):Prop:=
 (do let a <-part t xs o;Instr.checkKey b d t a).run P w=.ok () w
theorem Re(w:World)(b:Bool):∀(n t:Nat) (l:List KS),G2 T n t=some l->∀d,n<=d->∀(xs:Array Value) (o:Nat),IK l (HL xs.toList o l.length)=true->Jg P w b d t xs o
 |0,t,l,h=>by grind [G2]
 |n+1,t,l,h=>by
  intro d hd xs o hx;obtain⟨d,rfl⟩:∃d',d=d'+1:=⟨d-1,by omega⟩;have scalar:∀k,(T t).d≠.other->IL (T t).d=false->l=[k]->(∀x,Ms k x=true->(Instr.checkKey b (d+1) t x).run P w=.ok () w)->Jg P w b (d+1) t xs o:=by
   rintro k aq hs rfl hk
   obtain⟨x,x1,x2,x3⟩:=Kl hx;unfold Jg;simp[Sem.run_bind,De hT w aq hs xs o _ x1,hk x x2]
  unfold G2 at h;split at h
  .rename_i k hk;split at h
   .cases h
    refine scalar _ (by simp_all) (by rw[hk];rfl) rfl (fun x hx=>?_);cases x<;>simp[Ms]at hx
    simp[Instr.checkKey,run_underlying (hT.int hk)]
   simp_all
  .rename_i hk;split at h
   .cases h
    refine scalar _ (by simp_all) (by rw[hk];rfl) rfl (fun x hx=>?_);cases x<;>simp[Ms]at hx
    simp[Instr.checkKey,run_underlying (hT.string hk)]
   simp_all
  .rename_i hk;split at h
   .cases h
    refine scalar _ (by simp_all) (by rw[hk];rfl) rfl (fun x hx=>?_);cases x<;>simp[Ms]at hx
    simp[Instr.checkKey,run_underlying (hT.bool hk)]
   simp_all
  .rename_i fs hk;split at h
   .split at h
    .rename_i l' La;split at h
     .rename_i B5;cases h;have B5:=AL B5;have aq:(T t).d≠.other:=by simp_all
      have hs:IL (T t).d=true:=by rw[hk];rfl
      obtain⟨fa,u1,u2,u3⟩:=hT.struct hk;rw[u2]at La;have ex:(xs.extract o (o+(T t).size)).toList=HL xs.toList o l.length:=by
       grind [HL,Array.toList_extract]
      have s0:HL (HL xs.toList o l.length) 0 l.length=HL xs.toList o l.length:=by
       grind [aZ]
      unfold Jg;simp only[Sem.run_bind,F8 hT w aq hs,Result.andThen_ok];have ih:=Re w b n;have hq:IK l (HL (xs.extract o (o+(T t).size)).toList 0 l.length)=true:=by simp_all
      generalize xs.extract o (o+(T t).size)=ys at hq;simp only[Instr.checkKey,Sem.run_bind,run_underlying u1,Result.andThen_ok];rw[<-Array.forIn_toList]
      clear u2 hk
      have key : ∀ (fl : List Field) (m : Nat) (l : List KS), MP (G2 T n) m (fl.map fun f => (f.type, f.offset)) = some l -> (∀ f ∈ fl, f.name ≠ "_") -> IK l (HL ys.toList m l.length) = true ->
        (forIn fl PUnit.unit (fun (f : Field) (_ : PUnit) => ((if f.name ≠ "_" then (do
         let x <-part f.type ys f.offset
         Instr.checkKey b d f.type x
         pure (ForInStep.yield PUnit.unit))else pure (ForInStep.yield PUnit.unit)):Sem (ForInStep PUnit)))).run P w=.ok PUnit.unit w:=by
       intro fl
       induction fl with
       |nil=>simp_all
       |cons f fl ihf=>
        intro m l hg hn hy;obtain⟨ho,a,c,ha,hc,rfl⟩:=Mo hg;rw[Au]at hy;obtain⟨y1,y2⟩:=QC hy;rw[Oo _ _ _ _ ch]at y1;rw[SM,Nat.add_sub_cancel_left]at y2;have h1:=ih f.type a ha d ch ys m y1;unfold Jg at h1;rw[List.forIn_cons];simp only[Sem.run_bind,A1 (hn f (Ad ..))];simp only[Sem.run_bind]at h1;rw[ho];generalize (part f.type ys m).run P w=r1 at h1⊢;cases r1 with
        |halt x w1=>cases h1
        |ok u w1=>
         grind [Result.andThen_ok,Sem.run_pure]
      rw[key fa.toList 0 l La u3 hq]
      rfl
     simp_all
    simp_all
   simp_all
  simp_all
theorem iV(hs:He T kt=some sh)(w:World)(hx:VN sh x=true)(hy:VN sh y=true) :
  ∃b:Bool,(Op.equal kt x y).run P w=.ok b w/\(b=true↔x=y):=by
 unfold He at hs;split at hs
 .rename_i fs hk;split at hs
  .rename_i l hl;cases hs;cases x<;>simp only[VN]at hx<;>try (cases hx;done)
   cases y<;>simp only[VN]at hy<;>try (cases hy;done)
   rename_i xs ys;have hd:(T kt).d≠.other:=by simp_all
   have ha:IL (T kt).d=true:=by rw[hk];rfl
   have B5:l.length=(T kt).size:=by
    grind [G2,Nat.eq_of_beq_eq_true]
   have s0:∀zs:Array Value,IK l zs.toList=true->HL zs.toList 0 l.length=zs.toList:=fun zs hz=>by
    grind [LU,HL,List.take_of_length_le]
   have ex:∀zs:Array Value,IK l zs.toList=true->zs.extract 0 (0+(T kt).size)=zs:=fun zs hz=>by
    have:=LU hz
    simp_all
   obtain⟨b,b1,b2⟩:=Vd hT w 8 kt l hl 10000 ch xs ys 0 (by simp_all) (by simp_all);simp only[Sem.run_bind,F8 hT w hd ha,Result.andThen_ok,ex _ hx,ex _ hy]at b1;rw[s0 _ hx,s0 _ hy]at b2;refine⟨b,b1,b2.trans ⟨fun e=>by simp_all,fun e=>by simp_all⟩⟩
  simp_all
 .rename_i NW;split at hs
  .rename_i l hl;cases hs;have Qq : IK l [x]=true:=by cases x<;>exact hx
   have hy' : IK l [y]=true:=by cases y<;>exact hy
   have single:∀k,l=[k]->Ms k x=true/\Ms k y=true:=by
    grind [IK]
   have e9:Op.equal kt x y=Op.equalIn (9999+1) kt x y:=rfl;rw[e9];unfold G2 at hl;split at hl
   .rename_i k hk;split at hl
    .cases hl
     obtain⟨h1,h2⟩:=single _ rfl;cases x<;>simp[Ms]at h1
     cases y<;>simp[Ms]at h2
     obtain rfl:=Ka h1;obtain rfl:=Ka h2;exact⟨_,run_equalIn_int w 9999 kt _ _ _ _ (hT.int hk),by simp⟩
    simp_all
   .rename_i hk;split at hl
    .cases hl
     obtain⟨h1,h2⟩:=single _ rfl;cases x<;>simp[Ms]at h1
     cases y<;>simp[Ms]at h2
     exact⟨_,run_equalIn_string w 9999 kt _ _ (hT.string hk),by grind [IF]⟩
    simp_all
   .rename_i hk;split at hl
    .cases hl
     obtain⟨h1,h2⟩:=single _ rfl;cases x<;>simp[Ms]at h1
     cases y<;>simp[Ms]at h2
     exact⟨_,run_equalIn_bool' w 9999 kt _ _ (hT.bool hk),by simp⟩
    simp_all
   all_goals simp_all
  simp_all
theorem LB(hs:He T kt=some sh)(w:World)(b:Bool)(hx:VN sh x=true):(Instr.checkKey b 10000 kt x).run P w=.ok () w:=by
 unfold He at hs;split at hs
 .rename_i fs hk;split at hs
  .rename_i l hl;cases hs;cases x<;>simp only[VN]at hx<;>try simp_all
   rename_i xs;have hd:(T kt).d≠.other:=by simp_all
   have ha:IL (T kt).d=true:=by rw[hk];rfl
   have B5:l.length=(T kt).size:=by
    grind [G2,Nat.eq_of_beq_eq_true]
   have:=LU hx
   have h0:HL xs.toList 0 l.length=xs.toList:=by
    grind [HL]
   have h1:=Re hT w b 8 kt l hl 10000 ch xs 0 (by simp_all)
   grind [Jg,Sem.run_bind,F8,Result.andThen_ok,Array.extract_size]
  simp_all
 .rename_i NW;split at hs
  .rename_i l hl;cases hs;have key:∀d,(Instr.checkKey b (d+1) kt x).run P w=.ok () w:=by
    intro d;unfold G2 at hl;split at hl
    .rename_i k hk;simp[Instr.checkKey,run_underlying (hT.int hk)]
    .rename_i hk;simp[Instr.checkKey,run_underlying (hT.string hk)]
    .rename_i hk;simp[Instr.checkKey,run_underlying (hT.bool hk)]
    all_goals simp_all
   simp_all
  simp_all
end
def KM(x:Value)(es:List MapEntry)(i:Nat)(r:Option (Nat×Value)):Prop:=
 (r=none/\∀e∈es,e.key≠x)\/∃(j:Nat) (e:MapEntry),r=some (i+j,e.val)/\es[j]?=some e/\e.key=x
theorem KM.here{es:List MapEntry}(h:e.key=x):KM x (e::es) i (some (i,e.val)):=
 .inr ⟨0,e,rfl,rfl,h⟩
theorem KM.there{es:List MapEntry}{r:Option (Nat×Value)}(h:e.key≠x)(k:KM x es (i+1) r):KM x (e::es) i r:=by
 rcases k with ⟨h1,h2⟩ | ⟨j,e',h1,h2,h3⟩
 .exact .inl ⟨h1,fun d hd=>(AA.1 hd).elim (fun e'=>e'▸h) (h2 d)⟩
 .exact .inr ⟨j+1,e',by grind,h2,h3⟩
theorem Rx{kind:TypeDesc}{x:Value}:∀(es:List MapEntry) (i:Nat),(∀e∈es,∃b,Instr.sameNow kind x e.key=some b/\(b=true↔x=e.key))->∃r,Instr.findNow kind x es i=some r/\KM x es i r
 | [],i,_=>⟨none,rfl,.inl ⟨rfl,fun _ h=>by cases h⟩⟩
 |e::es,i,h=>by
  obtain⟨b,b1,b2⟩:=h e (Ad ..);cases b with
  |true=>exact⟨_,by grind [Instr.findNow],.here (b2.1 rfl).symm⟩
  |false=>
   obtain⟨r,r1,r2⟩:=Rx es (i+1) (fun d hd=>h d (Af _ hd))<;>grind [Instr.findNow,KM.there]
section
variable {P:Program}{T:FY}(hT:BQ P T)
include hT
theorem Mm{kt:Nat}{sh:D7}(hs:He T kt=some sh)(w:World){x:Value}(hx:VN sh x=true) :
  ∀(es:List MapEntry) (i:Nat),(∀e∈es,VN sh e.key=true)->∃r,(Instr.findAsking kt x es i).run P w=.ok r w/\KM x es i r
 | [],i,_=>⟨none,rfl,.inl ⟨rfl,fun _ h=>by cases h⟩⟩
 |e::es,i,h=>by
  obtain⟨b,b1,b2⟩:=iV hT hs w hx (h e (Ad ..));cases b with
  |true=>exact⟨_,by simp[Instr.findAsking,b1],.here (b2.1 rfl).symm⟩
  |false=>
   obtain⟨r,r1,r2⟩:=Mm hs w hx es (i+1) (fun d hd=>h d (Af _ hd));exact⟨r,by simp[Instr.findAsking,b1,r1],.there (fun e'=>by simp_all) r2⟩
theorem M9(hs:He T kt=some sh)(w:World)(hx:VN sh x=true)(es:List MapEntry)(he:∀e∈es,VN sh e.key=true) :
  ∃r,(Instr.findKey kt x es).run P w=.ok r w/\KM x es 0 r:=by
 have uD:∀d,P.underlying kt=some d->Instr.findNow d x es 0=none->∃r,(Instr.findKey kt x es).run P w=.ok r w/\KM x es 0 r:=by
  intro d hd hn;obtain⟨r,r1,r2⟩:=Mm hT hs w hx es 0 he;exact⟨r,by simp[Instr.findKey,run_underlying hd,hn,r1],r2⟩
 have now:∀d,P.underlying kt=some d->(∀e∈es,∃b,Instr.sameNow d x e.key=some b/\(b=true↔x=e.key))->∃r,(Instr.findKey kt x es).run P w=.ok r w/\KM x es 0 r:=by
  intro d hd hn;obtain⟨r,r1,r2⟩:=Rx es 0 hn;exact⟨r,by simp[Instr.findKey,run_underlying hd,r1],r2⟩
 have cA:=hs;unfold He at cA;split at cA
 .rename_i fs hk;obtain⟨fa,u1,_⟩:=hT.struct hk;cases es<;>grind [Instr.findNow,Instr.sameNow]
 .rename_i NW;split at cA
  .rename_i l hl;cases cA;have cv:∀y,VN ⟨false,l⟩ y=true->IK l [y]=true:=fun y hy=>by cases y<;>exact hy
   have Qq:=cv x hx;have wx : ∀e∈es,IK l [e.key]=true:=fun e h=>cv _ (he e h)
   clear hx he cv
   have single:∀k y,l=[k]->IK l [y]=true->Ms k y=true:=by
    grind [IK]
   unfold G2 at hl;split at hl
   .rename_i k hk;split at hl
    .cases hl
     refine now _ (hT.int hk) (fun e h=>?_);have h1:=single _ _ rfl Qq;have h2:=single _ _ rfl (wx e h);generalize e.key=y at h2;cases x<;>simp[Ms]at h1
     cases y<;>simp[Ms]at h2
     obtain rfl:=Ka h1;obtain rfl:=Ka h2;exact⟨_,by simp[Instr.sameNow];rfl,by simp⟩
    simp_all
   .rename_i hk;split at hl
    .cases hl
     refine now _ (hT.string hk) (fun e h=>?_);have h1:=single _ _ rfl Qq;have h2:=single _ _ rfl (wx e h);generalize e.key=y at h2;cases x<;>simp[Ms]at h1
     cases y<;>simp[Ms]at h2
     exact⟨_,by simp[Instr.sameNow];rfl,by grind [beq_toListBytes,IF]⟩
    simp_all
   .rename_i hk;split at hl
    .cases hl
     refine now _ (hT.bool hk) (fun e h=>?_);have h1:=single _ _ rfl Qq;have h2:=single _ _ rfl (wx e h);generalize e.key=y at h2;cases x<;>simp[Ms]at h1
     cases y<;>simp[Ms]at h2
     exact⟨_,by simp[Instr.sameNow];rfl,by simp⟩
    simp_all
   all_goals simp_all
  simp_all
end
theorem Qd{P:Program}(w:World)(hx:VN sh x=true):(Instr.keyThatStays x x).run P w=.ok x w:=by
 have scalar:∀(k:KS) (y:Value) (n:Nat),Ms k y=true->Instr.sameBits n y y=true:=by
  intro k y n h;cases k<;>cases y<;>simp[Ms]at h<;>cases n<;>simp[Instr.sameBits,beq_toListBytes]
 have lst:∀(l:List KS) (ys:List Value) (n:Nat),IK l ys=true->((ys.zip ys).all fun(a,b)=>Instr.sameBits n a b)=true:=by
  intro l ys n
  induction ys generalizing l with
  |nil=>simp_all
  |cons y ys ih=>
   grind [List.zip_cons_cons,IK.eq_def]
 have h1:∀n,Instr.sameBits (n+1) x x=true:=by
  intro n;obtain⟨ag,l⟩:=sh;cases ag with
  |true=>
   cases x<;>simp only[VN]at hx<;>try simp_all
   have:=lst l _ n hx
   grind [Instr.sameBits]
  |false=>
   have Qq : IK l [x]=true:=by cases x<;>exact hx
   grind [IK.eq_def]
 have:=h1 9999
 simp only[Instr.keyThatStays];simp_all
theorem UK:∀{cs:List AV} {l:List Value},VU cs=some l->cs=l.map .v
 | [],l,h=>by cases h;rfl
 |a::r,l,h=>by
  cases a<;>simp only[VU]at h<;>try (cases h;done)
  split at h
  .rename_i l' hl;cases h;rw[UK hl];rfl
  simp_all
theorem kY(h:AT g w U a x)(hk:oP a=some y):x=y:=by
 unfold oP at hk;split at hk
 .grind [AT.v_eq]
 .split at hk
  .rename_i l hl;cases hk;obtain rfl:=UK hl;exact h.agg_vals
  simp_all
 simp_all
theorem LR{T:FY}{ty:Nat}{K:Value->Prop}(h:AT g w U a x)(hk:Ja T ty sh a K) :
  ∃kt e,(T ty).d=.map kt e/\He T kt=some sh/\VN sh x=true/\K x:=by
 unfold Ja at hk
 grind [l5,kY]
theorem GJ.shape(h:GJ sh es ck BF):∀e∈es.toList,VN sh e.key=true:=by
 intro e he;obtain⟨h1,h2,h3,_⟩:=h;obtain⟨i,hi⟩:=DA.1 he;have Ez:i<BF.length:=by grind
 rw[h2 i BF[i] e (AK Ez) (by simp_all)]
 grind
theorem GJ.none(h:GJ sh es ck BF)(hn:∀e∈es.toList,e.key≠x)(a:AV):(x,a)∉BF:=by
 intro hm;obtain⟨h1,h2,_⟩:=h;obtain⟨i,hi⟩:=DA.1 hm;have Ez:i<es.size:=by grind
 exact hn es[i] B0 (h2 i _ es[i] hi (by simp_all))
theorem GJ.some{sh:D7}{es:Array MapEntry}{ck:Nat}{BF:List (Value×AV)}(h:GJ sh es ck BF){x:Value}{j:Nat}{e:MapEntry}(he:es.toList[j]?=some e)(hk:e.key=x) :
  ∃a,BF[j]?=some (x,a)/\(x,a)∈BF:=by
 obtain⟨h1,h2,_⟩:=h;have Ez:j<BF.length:=by grind
 have hg:BF[j]?=Option.some BF[j]:=AK Ez
 grind
section
variable {P:Program}{T:FY}(hT:BQ P T){h:Nat->HO}{g:Gh}{w:World}{K:AV->Prop}
section
include hT
theorem UL{t:Nat}(hk:Je T t K):Bh P h g w (zeroValue t) K:=by
 unfold Je at hk;split at hk
 .simp_all
 .rename_i hd;obtain⟨z,z1,z2,z3⟩:=LH hT (w:=w) hd;rw[z3]at hk;split at hk
  .rename_i cs;split at hk
   .rename_i ha;have hr:=BR.vals (g:=g) (w:=w) (U:=Aw h) ha;exact⟨_,_,z1,hk,.agg _ _ _ B0 (fun i x hx=>hr.2.1 x (Aq (by simpa using hx))) (fun i av x h1 h2=>hr.2.2 i av x h1 (by simp_all))⟩
   simp_all
  .exact⟨_,_,z1,hk,.v _ _⟩
theorem IY{ty b:Nat}{kt e:Nat}{ck:Nat}{BF:List (Value×AV)}(ht:(T ty).d=.map kt e)(hs:He T kt=some sh)(hx:VN sh x=true)(hb:w.heap[b]?=some (.map es ck))(hm:GJ sh es ck BF)(hv:∀(i:Nat) (kv:Value×AV) (e:MapEntry),BF[i]?=some kv->es[i]?=some e->AT g w (Aw h) kv.2 e.val)(hk:K7 T ty ok BF x K):Bh P h g w (Instr.lookup ty (.map (some b)) x ok) K:=by
 have hu:=hT.map ht;have EV:=run_getObj_map (P:=P) w b es ck hb;have WU:=fun bb=>LB hT hs w bb hx;obtain⟨r,r1,r2⟩:=M9 hT hs w hx es.toList hm.shape;unfold K7 at hk;rw[ht]at hk;dsimp only at hk;rcases r2 with ⟨rfl,hn⟩ | ⟨j,en,rfl,hj,hkey⟩
 .have au:=fun a=>hm.none hn a;cases ok with
  |true=>
   obtain⟨y,av,y1,y2,y3⟩:=UL hT (K:=fun z=>K (.tup [z,.v (.bool false)])) (P:=P) (h:=h) (g:=g) (w:=w) (hk.2 au);refine⟨.tuple #[y,.bool false],_,?_,y2,.tup _ _ _ rfl (fun i a x h1 h2=>?_)⟩
   .simp[Instr.lookup,run_underlying hu,EV,WU,r1,y1]
   grind [AT.v]
  |false=>
   obtain⟨y,av,y1,y2,y3⟩:=UL hT (K:=K) (P:=P) (h:=h) (g:=g) (w:=w) (hk.2 au);exact⟨y,av,by simp[Instr.lookup,run_underlying hu,EV,WU,r1,y1],y2,y3⟩
 .obtain⟨a,a1,a2⟩:=hm.some hj hkey;have hr:=hv j (x,a) en a1 (by simp_all);cases ok with
  |true=>
   refine⟨.tuple #[en.val,.bool true],_,?_,hk.1 a a2,.tup _ _ _ rfl (fun i av y h1 h2=>?_)⟩
   .simp[Instr.lookup,run_underlying hu,EV,WU,r1]
   grind [AT.v]
  |false=>exact⟨en.val,a,by simp[Instr.lookup,run_underlying hu,EV,WU,r1],hk.1 a a2,hr⟩
theorem Zb(ho:∀r,Do g w (Aw h) r (h r)){ty:Nat}{m k:AV}{vm vk:Value}(hm:AT g w (Aw h) m vm)(hx:AT g w (Aw h) k vk)(hk:LX T h ty m k ok K) :
  Bh P h g w (Instr.lookup ty vm vk ok) K:=by
 unfold LX at hk;split at hk
 .obtain⟨kt,e,k1,k2,k3,k4⟩:=LR hx hk;cases hm with
  |cmap _ _ _ b es ck hS hb hmm hv=>exact IY hT k1 k2 k3 hb hmm (fun i kv e p q=>(hv i kv e p q).up _) k4
 .rename_i r;have hr:=ho r;cases hm with
  |mref _ _ b hu ht hp=>
   split at hk
   .rename_i sh BF e;rw[e]at hr;obtain⟨_,b',es,ck,a1,a2,a3,a4,a5,a6⟩:=hr<;>grind [LR,IY,AT.up]
   .rename_i sh BF e;rw[e]at hr;obtain⟨_,b',es,ck,a1,a2,a3,a4,a5,a6⟩:=hr<;>grind [LR,IY]
   .rename_i sh BF e;rw[e]at hr;obtain⟨_,b',a1,a2⟩:=hr;rw[a1]at hp;cases hp;obtain⟨kt,e,k1,k2,k3,k4⟩:=LR hx hk;cases a2 with
    |cmap _ _ _ _ es ck hS hb hmm hv=>exact IY hT k1 k2 k3 hb hmm (fun i kv e p q=>(hv i kv e p q).up _) k4
   simp_all
 simp_all
omit hT in
theorem fQ{ty:Nat}{BF:List (Value×AV)}{kx:Value}(hk:K6 T ty ok BF kx K):K7 T ty ok BF kx K:=by
 unfold K6 at hk;unfold K7;split at hk
 all_goals grind
omit hT in
theorem cJ{ty:Nat}{k:AV}{A B:Value->Prop}(hk:Ja T ty sh k A)(hab:∀x,A x->B x):Ja T ty sh k B:=by
 grind [Ja]
omit hT in
theorem cQ{ty:Nat}{m k:AV}(hk:LW T h ty m k ok K):LX T h ty m k ok K:=by
 unfold LW at hk
 grind [LX,cJ,fQ]
theorem gP(ho:∀r,Do g w (Aw h) r (h r)){t ty:Nat}{x:AV}(hx:AT g w (Aw h) x vx)(hk:PS T t h x K):Bh P h g w (Builtin.len_ #[t] ty #[vx]) K:=by
 unfold PS at hk;split at hk
 .rename_i e ht;have hu:=hT.slice ht;have run:∀a n c,(Builtin.len_ #[t] ty #[.slice a n c]).run P w=.ok (.int .i64 n) w:=fun a n c=>by simp[Builtin.len_,run_underlying hu,goInt]
  split at hk
  .have hs:=hx.slice_none;cases hs with
   |snil _ a cap=>exact⟨_,_,run a 0 cap,hk,.v _ _⟩
   |slice _ _ b off sz cap val hc=>exact⟨_,_,run _ _ _,hk,.v _ _⟩
  .cases hx with
   |msl=>exact⟨_,_,run _ _ _,hk,.v _ _⟩
  .obtain rfl:=hx.v_eq;exact⟨_,_,run _ _ _,hk,.v _ _⟩
  simp_all
 .rename_i ht;split at hk
  .obtain rfl:=hx.v_eq;exact⟨_,_,by simp[Builtin.len_,run_underlying (hT.string ht),goInt],hk,.v _ _⟩
  simp_all
 .rename_i k e ht;have hu:=hT.map ht;have run:∀b es ck,w.heap[b]?=some (.map es ck)->(Builtin.len_ #[t] ty #[.map (some b)]).run P w=.ok (.int .i64 es.size) w:=fun b es ck hb=>by
   simp[Builtin.len_,run_underlying hu,goInt,run_getObj_map (P:=P) w b es ck hb]
  split at hk
  .cases hx with
   |cmap _ _ _ b es ck hS hb hmm hv=>exact⟨_,_,run b es ck hb,by rw[hmm.1];exact hk,.v _ _⟩
  .rename_i r;have hr:=ho r;cases hx with
   |mref _ _ b gC ht' hp=>
    split at hk
    .rename_i sh BF e;rw[e]at hr;obtain⟨_,b',es,ck,a1,a2,a3,a4,a5,a6⟩:=hr;rw[a2]at hp;cases hp;exact⟨_,_,run _ es ck a3,by rw[a4.1];exact hk,.v _ _⟩
    .rename_i sh BF e;rw[e]at hr;obtain⟨_,b',es,ck,a1,a2,a3,a4,a5,a6⟩:=hr;rw[a2]at hp;cases hp;exact⟨_,_,run _ es ck a3,by rw[a4.1];exact hk,.v _ _⟩
    .rename_i sh BF e;rw[e]at hr;obtain⟨_,b',a1,a2⟩:=hr;rw[a1]at hp;cases hp;cases a2 with
     |cmap _ _ _ _ es ck hS hb hmm hv=>exact⟨_,_,run _ es ck hb,by rw[hmm.1];exact hk,.v _ _⟩
    simp_all
  simp_all
 simp_all
end
theorem VA(ho:∀r,Do g w (Aw h) r (h r)){t:Nat->AV}(ht:∀x:Operand,AT g w (Aw h) (ev t x) (ρ x)){fn:Fn}{first cap:Array Operand}(hk:JB t h fn first.toList cap.toList K) :
  Bh P h g w (Instr.makeFunc fn (first.map ρ) (cap.map ρ)) K:=by
 unfold JB at hk;split at hk
 .rename_i f e;have hf:first=#[]:=by
   simp_all
  subst hf;refine⟨_,_,rfl,hk,?_⟩
  grind [AT.clo,AT.rsv]
 simp_all
theorem VD{x:AV}(hx:AT g w (Aw h) x vx)(hk:JE x K){pos:String}{after:Array Edge}{gd:Option (Nat×Bool)}{dst:Option Tmp}{ty:Nat}{X:Operand}(hX:ρ X=vx) :
  (execOp ρ ⟨dst,.nilCheck X,ty,pos,after,gd⟩).run P w=.ok (.value vx) w/\K x:=by
 subst hX;unfold JE at hk;split at hk
 all_goals first
  |exact hk.elim
  |(refine⟨?_,hk⟩;generalize hq:ρ X=q at hx;cases hx;simp[execOp,hq];done)
theorem bX(ho:∀r,Do g w (Aw h) r (h r)){x:AV}(hx:AT g w (Aw h) x vx)(hk:YC h x K):Bh P h g w (Instr.entry vx) K:=by
 unfold YC at hk;split at hk
 .rename_i r;have hr:=ho r;split at hk
  .rename_i all rem kv e;rw[e]at hr;cases hx with
   |ref _ _ _ b hu ht hp=>
    obtain⟨_,b',mb,I2,seen,st,es,ck,a1,a2,a3,a4,a5,⟨sh,a6⟩,a7,a8,a9,V8,ZM,a12,nk⟩:=hr;rw[a2]at hp;cases hp;obtain⟨i,en,c1,c2,c3⟩:=a12;have rr:es.find? (fun e=>e.born == en.born)=some en:=by
     rw[Array.find?_eq_some_iff_getElem];obtain⟨Ez,he⟩:=BH.1 c2;refine⟨by simp,i,Ez,he,fun j hj=>?_⟩;have wM : j<es.size:=by omega
     simp only[EQ,beq_eq_false_iff_ne,ne_eq];intro e'
     have:=a6.2.2.2.2.2 j i es[j] en (by simp_all) c2 e'
     omega
    have hkey:=a6.2.1 i kv en c1 c2;refine⟨.tuple #[en.key,en.val],_,?_,hk,.tup _ _ _ rfl (fun k av y h1 h2=>?_)⟩
    .have ct:(getObj b).run P w=.ok (.mapIter (some mb) I2 seen st) w:=by grind [getObj,Sem.run]
     have ot:=run_getObj_map (P:=P) w mb es ck a5;simp[Instr.entry,ct,c3,ot,a8,rr]
    grind [AT.v,AT.up]
  simp_all
 simp_all
end
def MD(h:Nat->HO)(g:Gh)(w:World)(m:Sem Value)(K:HK):Prop:=
 ∃x w' g' av h',m.run P w=.ok x w'/\K av h'/\Cm w0 g0 h0 h' g' w'/\Le h g w h' g' w'/\AT g' w' (Aw h') av x
def d9(h:Nat->HO)(g:Gh)(w:World)(m:Sem Unit)(K:HK):Prop:=
 ∃w' g' h',m.run P w=.ok () w'/\K (.v undef) h'/\Cm w0 g0 h0 h' g' w'/\Le h g w h' g' w'
section
variable {P:Program}{w0:World}{g0:Gh}{h0 h:Nat->HO}{g:Gh}{w:World}(hI:Cm w0 g0 h0 h g w)
include hI
theorem Bh.does{m:Sem Value}{K:HK}(hg:Bh P h g w m (fun v=>K v h)):MD P w0 g0 h0 h g w m K:=
 let ⟨x,av,h1,h2,h3⟩:=hg
 ⟨x,w,g,av,h,h1,h2,hI,.refl _ _ _,h3⟩
theorem Cm.newOwn{d:Nat}(hd:h d=.free)(o' : HO)(ob:Obj)(x:Value)(n:Nat)(t:Bool)(w1:World)(RR:w1.heap=w.heap/\w1.os=w.os/\w1.tape=w.tape/\w1.output=w.output)(DT:o'≠.free)
  (KH:I4 g (g.upd d x n t (some w.heap.size) g.S) (Aw h)->En g w (g.upd d x n t (some w.heap.size) g.S) (w1.alloc ob) ->
   Do (g.upd d x n t (some w.heap.size) g.S) (w1.alloc ob) (Aw (Az h d o')) d o') :
  Cm w0 g0 h0 (Az h d o') (g.upd d x n t (some w.heap.size) g.S) (w1.alloc ob)/\Le h g w (Az h d o') (g.upd d x n t (some w.heap.size) g.S) (w1.alloc ob):=by
 refine hI.upd d o' x n t _ _ _ none ⟨RR.2.1,RR.2.2.1,RR.2.2.2,by simp_all⟩ (fun k hk _=>?_) (fun b e=>by cases e) (fun _ _ h=>h) (fun _ _ h=>.inl h) (fun b o e=>by cases e)
  (fun b _ e=>?_) DT (fun hu=>absurd hd hu) KH
 all_goals grind [heap_alloc_old,World.size_alloc]
def Gh.more(g:Gh)(b n:Nat):Nat->Nat->Prop:=fun b' o=>g.S b' o\/(b'=b/\o<n)
theorem Cm.newStable{d:Nat}(hd:h d=.free)(o' : HO)(vs:Array Value)(E:TypeId)(m:Nat)(x:Value)(n:Nat)(t:Bool)(w1:World)(RR:w1.heap=w.heap/\w1.os=w.os/\w1.tape=w.tape/\w1.output=w.output)(DT:o'≠.free)
  (KH:I4 g (g.upd d x n t none (g.more w.heap.size m)) (Aw h)->En g w (g.upd d x n t none (g.more w.heap.size m)) (w1.alloc (.cells vs E (0,0))) ->
   Do (g.upd d x n t none (g.more w.heap.size m)) (w1.alloc (.cells vs E (0,0))) (Aw (Az h d o')) d o') :
  Cm w0 g0 h0 (Az h d o') (g.upd d x n t none (g.more w.heap.size m)) (w1.alloc (.cells vs E (0,0))) /\
   Le h g w (Az h d o') (g.upd d x n t none (g.more w.heap.size m)) (w1.alloc (.cells vs E (0,0))):=by
 refine hI.upd d o' x n t _ _ _ none ⟨RR.2.1,RR.2.2.1,RR.2.2.2,by simp_all⟩ (fun k hk _=>?_) (fun b e=>by cases e) (fun _ _ h=>.inl h) (fun b o hb=>?_) (fun b o e=>by cases e)
  (fun b _ e=>by cases e) DT (fun hu=>absurd hd hu) KH
 .grind [heap_alloc_old]
 .rcases hb with hb | ⟨rfl,_⟩<;>simp_all
end
theorem Ba(g:Gh)(r:Nat)(x:Value)(n:Nat)(t:Bool)(o:Option Nat)(S:Nat->Nat->Prop) :
  (g.upd r x n t o S).ρ r=x/\(g.upd r x n t o S).ln r=n/\(g.upd r x n t o S).tk r=t/\(g.upd r x n t o S).own r=o:=by simp[Gh.upd]
theorem Gs(w:World)(o:Obj)(hb:b=w.heap.size):(w.alloc o).heap[b]?=some o:=by grind [heap_alloc_new]
theorem AT.cptr_row{E:TypeId}(hb:w.heap[b]?=some (.cells vs E f))(hr:BR g w ES cs vs.toList)(hS:∀o,o<cs.length->g.S b o):AT g w U (.cptr cs) (.pointer (some ⟨b,0,none⟩)):=by
 refine .cptr U cs b 0 (fun j=>vs[j]?.getD default) (fun j av hj=>?_) (fun j av hj=>?_)
 .grind [Fm,BR.at]
 .obtain⟨x,x1,x2,x3⟩:=hr.at hj;rw[CV]at x1;rw[x1];exact x3
theorem AT.slice_off{off:Nat}{es:List (List AV)}{E:TypeId}(hb:w.heap[b]?=some (.cells vs E f))(hl:∀cs∈es,cs.length=sz)(hc:es.length<=cap)(hr:BR g w ES es.flatten ((vs.toList.drop off).take (es.length*sz)))(hS:∀o,o<es.length*sz->g.S b (off+o)):AT g w U (.slice .none es) (.slice (some ⟨b,off,none⟩) es.length cap):=by
 have key:∀(i:Nat) (cs:List AV) (j:Nat) (av:AV),es[i]?=some cs->cs[j]?=some av->∃x,vs[off+(i*sz+j)]?=some x/\x.oneCell'=true/\AT g w ES av x/\i*sz+j<es.length*sz:=by
  intro i cs j av h1 h2;have hcl:=hl cs (Aq h1);have hj:j<sz:=by grind
  have hi:=(AZ.1 h1).1;have Ez:i*sz+j<es.length*sz:=by
   have:=Bq sz (show i+1<=es.length from hi)
   grind
  have hf:=EJ hl h1 hj
  grind [BR.at]
 refine .slice U es b off sz cap (fun i j=>vs[off+(i*sz+j)]?.getD default) hc (fun i cs h=>hl cs (Aq h)) (fun i cs j av h1 h2=>?_) (fun i cs j av h1 h2=>?_)
 .grind [Fm]
 .obtain⟨x,x1,x2,x3,x4⟩:=key i cs j av h1 h2;rw[x1];exact x3
theorem AT.slice_row{es:List (List AV)}{E:TypeId}(hb:w.heap[b]?=some (.cells vs E f))(hl:∀cs∈es,cs.length=sz)(hc:es.length<=cap)(hr:BR g w ES es.flatten (vs.toList.take (es.length*sz)))(hS:∀o,o<es.length*sz->g.S b o):AT g w U (.slice .none es) (.slice (some ⟨b,0,none⟩) es.length cap):=by
 have key:∀(i:Nat) (cs:List AV) (j:Nat) (av:AV),es[i]?=some cs->cs[j]?=some av->∃x,vs[i*sz+j]?=some x/\x.oneCell'=true/\AT g w ES av x/\i*sz+j<es.length*sz:=by
  intro i cs j av h1 h2;have hcl:=hl cs (Aq h1);have hj:j<sz:=by grind
  have hi:=(AZ.1 h1).1;have Ez:i*sz+j<es.length*sz:=by
   have:=Bq sz (show i+1<=es.length from hi)
   grind
  have hf:=EJ hl h1 hj
  grind [BR.at]
 refine .slice U es b 0 sz cap (fun i j=>vs[i*sz+j]?.getD default) hc (fun i cs h=>hl cs (Aq h)) (fun i cs j av h1 h2=>?_) (fun i cs j av h1 h2=>?_)
 .grind [Fm]
 .obtain⟨x,x1,x2,x3,x4⟩:=key i cs j av h1 h2;rw[x1];exact x3
section
variable {P:Program}{w0:World}{g0:Gh}{h0 h:Nat->HO}{g:Gh}{w:World}
theorem PX(hI:Cm w0 g0 h0 h g w){d:Nat}(hd:h d=.free)(E:TypeId)(hr:BR g w (Aw h) cs vs.toList) :
  ∃g',Cm w0 g0 h0 (Az h d (.cells cs)) g' (w.alloc (.cells vs E (0,0)))/\Le h g w (Az h d (.cells cs)) g' (w.alloc (.cells vs E (0,0))) /\
   AT g' (w.alloc (.cells vs E (0,0))) (Aw (Az h d (.cells cs))) (.ref d 0) (.pointer (some ⟨w.heap.size,0,none⟩)):=by
 obtain⟨k1,k2⟩:=hI.newOwn hd (.cells cs) (.cells vs E (0,0)) (.pointer (some ⟨w.heap.size,0,none⟩)) 0 false w ⟨rfl,rfl,rfl,rfl⟩ B0 (fun hg hk=>by
  obtain⟨u1,u2,u3,u4⟩:=Ba g d (.pointer (some ⟨w.heap.size,0,none⟩)) 0 false (some w.heap.size) g.S;exact⟨u3,w.heap.size,E,vs,u4,u1,Gs w _ rfl,hr.mono hk (fun i hi=>CW B0 i hi) hg,fun o ho=>by have:=hI.slt _ _ ho;omega⟩)
 refine⟨_,k1,k2,.ref _ d 0 w.heap.size (by unfold Aw;rw[AM];simp) ?_ ?_⟩
 .simp[Gh.upd]
 .simp[Gh.upd]
theorem gZ(hI:Cm w0 g0 h0 h g w){d:Nat}(hd:h d=.free)(E:TypeId)(hr:BR g w ES cs vs.toList) :
  ∃g',Cm w0 g0 h0 (Az h d (.ro cs)) g' (w.alloc (.cells vs E (0,0)))/\Le h g w (Az h d (.ro cs)) g' (w.alloc (.cells vs E (0,0))) /\
   AT g' (w.alloc (.cells vs E (0,0))) (Aw (Az h d (.ro cs))) (.ref d 0) (.pointer (some ⟨w.heap.size,0,none⟩)):=by
 obtain⟨k1,k2⟩:=hI.newStable hd (.ro cs) vs E cs.length (.pointer (some ⟨w.heap.size,0,none⟩)) 0 false w ⟨rfl,rfl,rfl,rfl⟩ B0 (fun hg hk=>by
  obtain⟨u1,u2,u3,u4⟩:=Ba g d (.pointer (some ⟨w.heap.size,0,none⟩)) 0 false none (g.more w.heap.size cs.length);exact⟨u3,w.heap.size,u1,AT.cptr_row (Gs w _ rfl) (hr.mono hk (fun _ h=>h) (fun _ h=>h.elim)) (fun o ho=>.inr ⟨rfl,ho⟩)⟩)
 refine⟨_,k1,k2,.ref _ d 0 w.heap.size (by unfold Aw;rw[AM];simp) ?_ ?_⟩
 .simp[Gh.upd]
 .simp[Gh.upd]
theorem IZ(hI:Cm w0 g0 h0 h g w){cx:Cx}{d:Option Nat}{sz:Nat}{es:List (List AV)}{K:HK}(hk:Ek cx d h sz es K){cap:Nat}(E:TypeId)(hl:∀cs∈es,cs.length=sz)(hc:es.length<=cap)(hs:vs.size=cap*sz)(hr:BR g w ES es.flatten (vs.toList.take (es.length*sz)))(w1:World)(RR:w1.heap=w.heap/\w1.os=w.os/\w1.tape=w.tape/\w1.output=w.output) :
  ∃g' av h',K av h'/\Cm w0 g0 h0 h' g' (w1.alloc (.cells vs E (0,0)))/\Le h g w h' g' (w1.alloc (.cells vs E (0,0))) /\
   AT g' (w1.alloc (.cells vs E (0,0))) (Aw h') av (.slice (some ⟨w.heap.size,0,none⟩) es.length cap):=by
 have D8:(w1.alloc (.cells vs E (0,0))).heap[w.heap.size]?=some (.cells vs E (0,0)):=Gs w1 _ (by simp_all);unfold Ek at hk;split at hk
 .simp_all
 .rename_i d;generalize I8 cx d=d1 at hk;split at hk
  .rename_i hd;split at hk
   .obtain⟨k1,k2⟩:=hI.newOwn hd (.arr sz es) (.cells vs E (0,0)) (.slice (some ⟨w.heap.size,0,none⟩) es.length cap) es.length true w1 RR B0 (fun hg HJ=>by
     obtain⟨u1,u2,u3,u4⟩:=Ba g d1 (.slice (some ⟨w.heap.size,0,none⟩) es.length cap) es.length true (some w.heap.size) g.S;exact⟨u3,u2,hl,.inr ⟨w.heap.size,cap,E,vs,u1,u4,hc,D8,hs,hr.mono HJ (fun _ h=>h) (fun _ h=>h.elim),fun o ho=>by have:=hI.slt _ _ ho;omega⟩⟩)
    refine⟨_,_,_,hk,k1,k2,.msl _ d1 es.length _ cap (by unfold Aw;rw[AM];simp) ?_ ?_ (.inr ⟨_,rfl⟩) ?_⟩<;>simp[Gh.upd]
   .by_cases mE:es.length=cap
    .obtain⟨k1,k2⟩:=hI.newStable hd (.tok sz es.length) vs E (es.length*sz) (.slice (some ⟨w.heap.size,0,none⟩) es.length cap) es.length true w1 RR B0 (fun hg HJ=>by
      obtain⟨u1,u2,u3,u4⟩:=Ba g d1 (.slice (some ⟨w.heap.size,0,none⟩) es.length cap) es.length true none (g.more w.heap.size (es.length*sz));exact⟨u3,u2,_,cap,u1,.inl ⟨mE,u4⟩⟩)
     refine⟨_,_,_,hk,k1,k2,.tok _ d1 sz es _ (AT.slice_row D8 hl hc (hr.mono k2.keeps (fun _ h=>h) (fun _ h=>h.elim)) (fun o ho=>.inr ⟨rfl,ho⟩)) hl (by grind [Aw,AM]) ?_ ?_ ?_⟩<;>simp[Gh.upd]
    .have pL:=hI.upd d1 (.tok sz es.length) (.slice (some ⟨w.heap.size,0,none⟩) es.length cap) es.length true (some w.heap.size) (g.more w.heap.size (es.length*sz)) (w1.alloc (.cells vs E (0,0))) none
      ⟨RR.2.1,RR.2.2.1,RR.2.2.2,by simp_all⟩ (fun k hk' _=>by grind [heap_alloc_old]) (fun b e=>by cases e) (fun _ _ h=>.inl h)
      (fun b o hb=>by
       rcases hb with hb | ⟨rfl,_⟩<;>simp_all) (fun b o e=>by cases e)
      (fun b _ e=>by simp_all) B0 (fun hu=>absurd hd hu) (fun hg HJ=>by
       obtain⟨u1,u2,u3,u4⟩:=Ba g d1 (.slice (some ⟨w.heap.size,0,none⟩) es.length cap) es.length true (some w.heap.size) (g.more w.heap.size (es.length*sz));exact⟨u3,u2,_,cap,u1,.inr ⟨hc,w.heap.size,E,vs,0,rfl,u4,.of D8,by omega,fun o ho=>by
        rcases ho with ho | ⟨_,ho⟩
        .have:=hI.slt _ _ ho;omega
        .omega⟩⟩)
     obtain⟨k1,k2⟩:=pL;refine⟨_,_,_,hk,k1,k2,.tok _ d1 sz es _ (AT.slice_row D8 hl hc (hr.mono k2.keeps (fun _ h=>h) (fun _ h=>h.elim)) (fun o ho=>.inr ⟨rfl,ho⟩)) hl (by grind [Aw,AM]) ?_ ?_ ?_⟩<;>simp[Gh.upd]
  .exact hk.elim
end
end Go.Eng
