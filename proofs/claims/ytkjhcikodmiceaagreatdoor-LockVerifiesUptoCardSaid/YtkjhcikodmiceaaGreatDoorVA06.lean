/- Lemmas 6. -/
import Derived.Test.YtkjhcikodmiceaaGreatDoorVA05
namespace Go.Eng
variable {U:Nat->Prop}{x:Value}{vs:Array Value}{w:World}{ρ:Operand->Value}{es:Array MapEntry}{g:Gh}{sh:ES}{cs:List AV}{BY:List (Value×AV)}{f:Nat×Nat}{vx:Value}{ok:Bool}{b:Nat}{e:MapEntry}{a:AV}{i kt:Nat}{y:Value}{ck sz cap:Nat}(P:Program)(w0:World)(g0:Gh)(h0:Nat->HO)
theorem Cg.at{vs:List Value}(h:Cg g w U cs vs){av:AV}(hi:cs[i]?=some av):∃x,vs[i]?=some x/\x.oneCell'=true/\Bc g w U av x:=by
 have ET:i<vs.length:=by rw[h.1];grind
 exact⟨vs[i],AW ET,h.2.1 _ (Ah ET),h.2.2 i av _ hi (AW ET)⟩
theorem Fz{α:Type}{n:Nat}:∀{es:List (List α)},(∀c∈es,c.length=n)->∀{i j:Nat} {c:List α},es[i]?=some c->j<n->es.flatten[i*n+j]?=c[j]?
 | [],_,i,j,c,h,_=>by simp_all
 |d::es,hl,0,j,c,h,hj=>by
  grind
 |d::es,hl,i+1,j,c,h,hj=>by
  have hd:=hl d (Ag ..);rw[Ck,BQ (by grind)];rw[show(i+1)*n+j-d.length=i*n+j by grind];exact Fz (fun c hc=>hl c (Aj _ hc)) (by simp_all) hj
theorem Dq{α:Type}{n:Nat}:∀{es:List (List α)},(∀c∈es,c.length=n)->es.flatten.length=es.length*n
 | [],_=>by simp
 |d::es,hl=>by
  rw[Ck,AD,hl d (Ag ..),Dq (fun c hc=>hl c (Aj _ hc)),DZ,Nat.succ_mul,Nat.add_comm]
section
variable {P:Program}{T:GW}(hT:B8 P T){h:Nat->HO}{g:Gh}{w:World}{K:AV->Prop}(ho:∀r,DV g w (AC h) r (h r))
include ho
theorem gK(hT:B8 P T){t:Nat}{x:AV}(hx:Bc g w (AC h) x vx){hi mx:Option Operand}(hk:bV T h t x hi mx K):Bu P h g w (Instr.sliceAt t vx none (hi.map ρ) (mx.map ρ)) K:=by
 unfold bV at hk;split at hk
 .rename_i n e r hd;split at hk
  .rename_i cs hs he;obtain⟨rfl,hk⟩:=hk;cases hx with
   |ref _ _ _ b hu ht hx=>
    have hr:=ho r;rw[he]at hr;obtain⟨_,b',a1,a2⟩:=hr;rw[a1]at hx;cases hx;cases a2 with
    |cptr _ _ _ off val DK El=>
     have ha:=hT.array hd;refine⟨.slice (some ⟨b,0,none⟩) cs.length cs.length,_,?_,hk,?_⟩
     .simp[Instr.sliceAt,Instr.sureAddr,run_underlying ha,Instr.sliceBounds,hT.size1 w hs,Addr.add_lit]
     .have q:=Bc.slice (g:=g) (w:=w) (AC h) (cs.map fun c=>[c]) b 0 1 cs.length (fun i _=>val i) aa0 aa0 ?_ ?_
      all_goals grind
  simp_all
 simp_all
theorem WO(hT:B8 P T){t:Nat}{p:AV}{vp:Value}(hp:Bc g w (AC h) p vp)(hk:JN T h t p K):Bu P h g w (Instr.loadAt t vp) K:=by
 have dS:∀b off,Bu P h g w (loadVar t ⟨b,off,none⟩) K->Bu P h g w (Instr.loadAt t (.pointer (some ⟨b,off,none⟩))) K:=by
  grind [Instr.loadAt,Instr.sureAddr]
 unfold JN at hk;split at hk
 .cases hp with
  |cptr _ _ b off val DK El=>exact dS b off (MJ hT (HT.of_cptr (.cptr FN _ b off val DK El) _) hk)
 .rename_i r off;have hr:=ho r;cases hp with
  |ref _ _ _ b hu ht hx=>
   split at hk
   .rename_i cs e;rw[e]at hr;obtain⟨_,b',E,vs,a1,a2,a3,a4,a5⟩:=hr;rw[a2]at hx;cases hx
    have:=(HT.of_row a3 a4).drop off
    grind [MJ]
   .rename_i cs e;rw[e]at hr;obtain⟨_,b',a1,a2⟩:=hr;rw[a1]at hx;cases hx
    have:=(HT.of_cptr a2 (AC h)).drop off
    grind [MJ]
   simp_all
 .rename_i r n sz i off;have hr:=ho r;cases hp with
  |eref _ _ _ _ _ _ b cap hu ht hn hx=>
   split at hk
   .rename_i HS es e;rw[e]at hr;split at hk
    .rename_i hz;obtain rfl:=AZ hz;obtain⟨CL,cs,h1,hk⟩:=hk;obtain⟨t1,l1,al,a1⟩:=hr;have ET:=(Bf.1 h1).1;rcases a1 with ⟨rfl,_⟩ | ⟨b',NL,E,vs,e1,e2,e3,e4,e5,e6,e7⟩
     .simp_all
     .have:=hx (CL.trans l1.symm)
      rw[e1]at this;simp only[Value.slice.injEq,CV,Addr.mk.injEq]at this;obtain⟨⟨rfl,_,_⟩,_,_⟩:=this;refine dS _ _ (MJ hT (cs:=cs.drop off) (fun j av hj=>?_) hk);rw[F8]at hj;have hcl:=al cs (Az h1);have hj2:off+j<sz:=by grind
      have hf:=Fz al h1 hj2
      grind [Gb,Cg.at,Bc.up]
    simp_all
   .rename_i HS es i' c av e;rw[e]at hr;split at hk
    .rename_i hz;obtain rfl:=AZ hz;obtain⟨⟨CL,rfl,rfl⟩,hk⟩:=hk;obtain⟨t1,l1,al,b',NL,E,vs,e1,e2,e3,e4,e5,e6,e7,e8,x,e9,Wr⟩:=hr
     have:=hx (CL.trans l1.symm)
     rw[e1]at this;simp only[Value.slice.injEq,CV,Addr.mk.injEq]at this;obtain⟨⟨rfl,_,_⟩,_,_⟩:=this;refine dS _ _ (MJ hT (cs:=[av]) (fun j a' hj=>?_) hk);cases j with
     |succ j=>grind
     |zero=>
      simp only[Ev,CV]at hj;subst hj;refine⟨x,by grind [Gb],?_,Wr⟩;have hm:x∈vs.toList.take (es.length*sz):=by
       have h9:vs.toList[i*sz+off]?=some x:=by grind
       exact Az (by rw[So e8];exact h9)
      exact e6.2.1 x hm
    simp_all
   simp_all
 simp_all
end
theorem Gd{α:Type}:∀(cs:List α) (o:Nat) (vs:List α),(over cs o vs).length=cs.length
 | [],_,_=>rfl
 |c::cs,o+1,vs=>by simp[over,Gd cs o vs]
 |c::cs,0,[]=>rfl
 |c::cs,0,v::vs=>by simp[over,Gd cs 0 vs]
theorem GT{α:Type}:∀(cs:List α) (o:Nat) (vs:List α) (i:Nat),o+vs.length<=cs.length->(over cs o vs)[i]?=if o<=i/\i<o+vs.length then vs[i-o]? else cs[i]?
 | [],o,vs,i,h=>by
  grind [over]
 |c::cs,o+1,vs,0,h=>by simp[over]
 |c::cs,o+1,vs,i+1,h=>by
  have:=GT cs o vs i (by grind)
  grind [over]
 |c::cs,0,[],i,h=>by
  have:¬(0<=i/\i<0+([]:List α).length):=by simp
  rw[AN this];rfl
 |c::cs,0,v::vs,0,h=>by simp[over]
 |c::cs,0,v::vs,i+1,h=>by
  have:=GT cs 0 vs i (by simp_all)
  grind [over]
theorem Cg.over{g:Gh}{w:World}{U:Nat->Prop}{cs VB:List AV}{xs vs:List Value}(h:Cg g w U cs xs)(k:Cg g w U VB vs)(o:Nat)(Js:o+VB.length<=cs.length) :
  Cg g w U (Eng.over cs o VB) (Eng.over xs o vs):=by
 have yG : o+vs.length<=xs.length:=by rw[k.1,h.1];exact Js
 refine⟨by rw[Gd,Gd,h.1],fun x hx=>?_,fun i av x h1 h2=>?_⟩
 .obtain⟨i,hi⟩:=Ed.1 hx;rw[GT _ _ _ _ yG]at hi;split at hi
  .exact k.2.1 _ (Az hi)
  .exact h.2.1 _ (Az hi)
 .rw[GT _ _ _ _ Js]at h1;rw[GT _ _ _ _ yG,k.1]at h2;split at h1
  .rename_i hc;rw[A3 hc]at h2;exact k.2.2 _ _ _ h1 h2
  .rename_i hc;rw[AN hc]at h2;exact h.2.2 _ _ _ h1 h2
theorem vr(h:Bc g w U a x)(h1:one a=true):x.oneCell'=true:=by
 cases h with
 |v=>exact h1
 |tok _ r sz es _ h=>cases h with
  |snil=>rfl
  |slice=>rfl
 |ver _ r sz v es _ h=>cases h with
  |snil=>rfl
  |slice=>rfl
 |full _ sz es _ h=>cases h with
  |snil=>rfl
  |slice=>rfl
 |_=>first |rfl |(cases h1;done)
theorem ju(h:x.oneCell'=true):x.cells=#[x]:=by
 cases x<;>first | rfl | grind [Value.oneCell']
theorem Na{n:Nat}{K:List AV->Prop}(h:Bc g w U a x)(hk:Hv n a K) :
  ∃cs,K cs/\cs.length=n/\Cg g w U cs x.cells.toList:=by
 have single:one a=true->n=1->K [a]->∃cs,K cs/\cs.length=n/\Cg g w U cs x.cells.toList:=by
  intro h1 hn hk;have hx:=vr h h1;rw[ju hx];refine⟨[a],hk,hn.symm,rfl,by simp_all,fun i av y e1 e2=>?_⟩
  grind
 unfold Hv at hk;split at hk
 .rename_i cs;split at hk
  .rename_i hl;cases h with
   |agg _ _ vs hs h1 hr=>
    refine⟨cs,hk,AZ hl,by grind [Value.cells],fun y hy=>?_,fun i av y e1 e2=>?_⟩
    all_goals grind [List.mem_iff_getElem?,Value.cells]
  simp_all
 grind
theorem Ok:∀(vs:List Value) (k o:Nat) (cs:Array Value),o+k+vs.length<=cs.size ->
  ((vs.zipIdx k).foldl (fun(cs:Array Value) (p:Value×Nat)=>cs.setIfInBounds (o+p.2) p.1) cs).toList=over cs.toList (o+k) vs
 | [],k,o,cs,_=>by
  have:∀(l:List Value) (o:Nat),over l o []=l:=by
   intro l
   induction l with
   |nil=>intro o;rfl
   |cons c l ih=>intro o;cases o<;>grind [over]
  simp_all
 |v::vs,k,o,cs,h=>by
  simp at h;rw[List.zipIdx_cons,FH,Ok vs (k+1) o _ (by grind)];simp only[Array.toList_setIfInBounds];apply CU
  grind [GT]
theorem TP{g:Gh}{w:World}{U:Nat->Prop}{t:Nat->AV}{ρ:Operand->Value}(ht:∀x:Operand,Bc g w U (ev t x) (ρ x)){pl pl' : Nat->Option (Nat×Nat)}(qw:∀i p,pl i=some p->pl' i=some p) :
  ∀{ps:List (Nat×Operand)} {cs:List AV} {xs:Array Value} {K:List AV->Prop},Cg g w U cs xs.toList->KJ pl cs t ps K ->
   ∃d9 YC,K d9/\Cg g w U d9 YC.toList/\Instr.fill pl' xs (ps.map fun(i,x)=>(i,ρ x))=some YC
 | [],cs,xs,K,h,hk=>⟨cs,xs,hk,h,rfl⟩
 |(i,x)::ps,cs,xs,K,h,hk=>by
  unfold KJ at hk;split at hk
  .simp_all
  .rename_i o n hp;obtain⟨VB,hk,hn,hr⟩:=Na (ht x) hk;split at hk
   .rename_i Js;have Js:=Ee Js;have FI:(ρ x).cells.size=n:=by rw[<-hn];simpa using hr.1
    have qA:cs.length=xs.size:=by simpa using h.1.symm
    have EU:=h.over hr o Wk;have e:=Ok (ρ x).cells.toList 0 o xs (by simp_all);simp only[HM]at e;rw[<-e]at EU;obtain⟨d9,YC,k1,k2,k3⟩:=TP ht qw EU hk<;>grind [Instr.fill,Array.toList_zipIdx]
   simp_all
theorem M6:∀{l:List AV},G6 l=true->∀a∈l,one a=true
 | [],_,a,h=>by cases h
 |b::r,h,a,ha=>by
  unfold G6 at h;split at h
  .rename_i hb;rcases AR.1 ha with rfl | ha
   .exact hb
   .exact M6 h a ha
  simp_all
theorem Cg.vals{vs:List Value}(h:G6 (vs.map .v)=true):Cg g w U (vs.map .v) vs:=by
 refine⟨by simp,fun x hx=>?_,fun i av x h1 h2=>?_⟩
 .have:=M6 h (.v x) (Ar.2 ⟨x,hx,rfl⟩)
  grind [one]
 grind [Bc.v]
section
variable {P:Program}{T:GW}(hT:B8 P T){h:Nat->HO}{g:Gh}{w:World}{K:AV->Prop}
theorem az{α β:Type}(P:Program)(w:World)(f:α->Sem β)(f' : α->β):∀(l:List α),(∀a∈l,(f a).run P w=.ok (f' a) w)->(l.mapM f).run P w=.ok (l.map f') w
 | [],_=>rfl
 |a::l,h=>by
  have h1:=h a (Ag ..);have h2:=az P w f f' l (fun b hb=>h b (Aj _ hb));simp_all
theorem RE:∀{fs:List (Nat×Nat)},Pa T fs=true->∀p∈fs,∃n,(T p.1).size=n+1
 | [],_,p,h=>by cases h
 |(t,o)::r,h,p,hp=>by
  unfold Pa at h;split at h
  .cases h
  .rename_i n hn;rcases AR.1 hp with rfl | hp
   .simp_all
   .exact RE h p hp
include hT
theorem M4{t:Nat}(hd:(T t).d≠.other):∃z,(zeroValue t).run P w=.ok z w/\(T t).zc=z.cells.toList/\(T t).zero=z:=by
 obtain⟨d,i,z,h1,h2,h3,h4,h5,h6,h7,h8⟩:=hT.get hd;exact⟨z,by simp[zeroValue,typeInfo,h3,h4],by rw[TI.zc_cells,h7],h7⟩
theorem Xl{t n:Nat}(h:(T t).size=n+1):∃z,(zeroValue t).run P w=.ok z w/\(T t).zc=z.cells.toList:=by
 rcases hT t with e | e
 .rw[e]at h;cases h
 unfold j7 at e;split at e
 .split at e
  .rename_i d i h1 h2 _ z h3;exact⟨z,by simp[zeroValue,typeInfo,h2,h3],by rw[TI.zc_cells,e]⟩
  simp_all
 simp_all
theorem gR{ty:Nat}{t:Nat->AV}(ht:∀x:Operand,Bc g w (AC h) (ev t x) (ρ x)){ps:Array (Nat×Operand)}(hk:QE T ty t ps.toList K) :
  Bu P h g w (Instr.build ty (ps.map fun(i,x)=>(i,ρ x))) K:=by
 unfold QE at hk;split at hk
 .simp_all
 .rename_i X5;have fin:∀(d9 : List AV) (YC : Array Value),Cg g w (AC h) d9 YC.toList->Bc g w (AC h) (.agg d9) (.agg YC):=fun d9 YC hr=>
   .agg _ _ _ (by simpa using hr.1) (fun i x hx=>hr.2.1 x (Az (by simpa using hx))) (fun i av x h1 h2=>hr.2.2 i av x h1 (by simp_all))
  split at hk
  .rename_i fs hs;have hd:(T ty).d≠.other:=by simp_all
   obtain⟨z,z1,z2,_⟩:=M4 hT (w:=w) hd;split at hk
   .simp_all
   .rename_i FI;obtain⟨fa,u1,u2,u3⟩:=hT.struct hs;have qx:(fa.mapM fun(f:Field)=>(do pure (f.offset,<-sizeOf f.type):Sem (Nat×Nat))).run P w=.ok (fa.map fun f=>(f.offset,(T f.type).size)) w:=by
     rw[Array.mapM_eq_mapM_toList]
     have:=az P w (fun f:Field=>(do pure (f.offset,<-sizeOf f.type):Sem (Nat×Nat))) (fun f=>(f.offset,(T f.type).size)) fa.toList (fun f hf=>by
      obtain⟨n,hn⟩:=RE FI (f.type,f.offset) (by grind);simp[hT.size1 w hn,hn])
     simp only[Sem.run_map,this,Result.andThen_ok]
     congr 1
     apply Array.ext';simp
    rw[z2]at hk X5;obtain⟨d9,YC,k1,k2,k3⟩:=TP ht (pl':=fun i=>(fa.map fun f=>(f.offset,(T f.type).size))[i]?) (fun i p hp=>by
     split at hp
     .rename_i t' o hf;cases hp;obtain⟨fa',fd,v1,v2,rfl,rfl⟩:=TU hT hs hf<;>simp_all
     simp_all) (Cg.vals (vs:=z.cells.toList) X5) hk
    refine⟨_,_,?_,k1,fin d9 YC k2⟩;simp only[Instr.build,Sem.run_bind,z1,Result.andThen_ok,run_underlying u1,qx];simp_all
  .rename_i n e hs;have hd:(T ty).d≠.other:=by simp_all
   obtain⟨z,z1,z2,_⟩:=M4 hT (w:=w) hd;split at hk
   .simp_all
   .rename_i m hm;rw[z2]at hk X5;obtain⟨d9,YC,k1,k2,k3⟩:=TP ht (pl':=fun i=>some (i*(T e).size,(T e).size)) (fun i p hp=>hp) (Cg.vals (vs:=z.cells.toList) X5) hk;refine⟨_,_,?_,k1,fin d9 YC k2⟩;simp only[Instr.build,Sem.run_bind,z1,Result.andThen_ok,run_underlying (hT.array hs),hT.size1 w hm];simp_all
  simp_all
end
theorem qL{a b:KS}(h:qK a b=true):a=b:=by
 cases a<;>cases b<;>first | rfl | (simp[qK]at h;done) | grind [qK,Lv]
theorem ao:∀{a b:List KS},Uu a b=true->a=b
 | [],[],_=>rfl
 |x::a,y::b,h=>by
  unfold Uu at h;split at h
  .rename_i e;obtain rfl:=qL e;obtain rfl:=ao h;rfl
  simp_all
 | [],_::_,h=>by grind [Uu]
 |_::_,[],h=>by grind [Uu]
theorem rJ{a b:ES}(h:vJ a b=true):a=b:=by
 obtain⟨a1,a2⟩:=a;obtain⟨b1,b2⟩:=b<;>grind [vJ,ao]
section
variable {P:Program}{T:GW}(hT:B8 P T)
include hT
def Kv(P:Program)(w:World)(b:Bool)(d t:Nat)(xs:Array Value)(o:Nat):Prop:=
 (do let a <-part t xs o;Instr.checkKey b d t a).run P w=.ok () w
theorem Tw(w:World)(b:Bool):∀(n t:Nat) (l:List KS),H4 T n t=some l->∀d,n<=d->∀(xs:Array Value) (o:Nat),J3 l (IT xs.toList o l.length)=true->Kv P w b d t xs o
 |0,t,l,h=>by grind [H4]
 |n+1,t,l,h=>by
  intro d hd xs o hx;obtain⟨d,rfl⟩:∃d',d=d'+1:=⟨d-1,by omega⟩;have scalar:∀k,(T t).d≠.other->J5 (T t).d=false->l=[k]->(∀x,N0 k x=true->(Instr.checkKey b (d+1) t x).run P w=.ok () w)->Kv P w b (d+1) t xs o:=by
   rintro k fo hs rfl hk
   obtain⟨x,x1,x2,x3⟩:=LK hx;unfold Kv;simp[Sem.run_bind,DQ hT w fo hs xs o _ x1,hk x x2]
  unfold H4 at h;split at h
  .rename_i k hk;split at h
   .cases h
    refine scalar _ (by simp_all) (by rw[hk];rfl) rfl (fun x hx=>?_);cases x<;>simp[N0]at hx
    simp[Instr.checkKey,run_underlying (hT.int hk)]
   simp_all
  .rename_i hk;split at h
   .cases h
    refine scalar _ (by simp_all) (by rw[hk];rfl) rfl (fun x hx=>?_);cases x<;>simp[N0]at hx
    simp[Instr.checkKey,run_underlying (hT.string hk)]
   simp_all
  .rename_i hk;split at h
   .cases h
    refine scalar _ (by simp_all) (by rw[hk];rfl) rfl (fun x hx=>?_);cases x<;>simp[N0]at hx
    simp[Instr.checkKey,run_underlying (hT.bool hk)]
   simp_all
  .rename_i fs hk;split at h
   .split at h
    .rename_i l' JL;split at h
     .rename_i CL;cases h;have CL:=AZ CL;have fo:(T t).d≠.other:=by simp_all
      have hs:J5 (T t).d=true:=by rw[hk];rfl
      obtain⟨fa,u1,u2,u3⟩:=hT.struct hk;rw[u2]at JL;have ex:(xs.extract o (o+(T t).size)).toList=IT xs.toList o l.length:=by
       grind [IT,Array.toList_extract]
      have s0:IT (IT xs.toList o l.length) 0 l.length=IT xs.toList o l.length:=by
       grind [gg]
      unfold Kv;simp only[Sem.run_bind,G2 hT w fo hs,Result.andThen_ok];have ih:=Tw w b n;have hq:J3 l (IT (xs.extract o (o+(T t).size)).toList 0 l.length)=true:=by simp_all
      generalize xs.extract o (o+(T t).size)=ys at hq;simp only[Instr.checkKey,Sem.run_bind,run_underlying u1,Result.andThen_ok];rw[<-Array.forIn_toList]
      clear u2 hk
      have key : ∀ (fl : List Field) (m : Nat) (l : List KS), Oj (H4 T n) m (fl.map fun f => (f.type, f.offset)) = some l -> (∀ f ∈ fl, f.name ≠ "_") -> J3 l (IT ys.toList m l.length) = true ->
        (forIn fl PUnit.unit (fun (f : Field) (_ : PUnit) => ((if f.name ≠ "_" then (do
         let x <-part f.type ys f.offset
         Instr.checkKey b d f.type x
         pure (ForInStep.yield PUnit.unit))else pure (ForInStep.yield PUnit.unit)):Sem (ForInStep PUnit)))).run P w=.ok PUnit.unit w:=by
       intro fl
       induction fl with
       |nil=>simp_all
       |cons f fl ihf=>
        intro m l hg hn hy;obtain⟨ho,a,c,ha,hc,rfl⟩:=NX hg;rw[AD]at hy;obtain⟨y1,y2⟩:=SO hy;rw[Qo _ _ _ _ Wk]at y1;rw[Vb,Nat.add_sub_cancel_left]at y2;have h1:=ih f.type a ha d Wk ys m y1;unfold Kv at h1;rw[List.forIn_cons];simp only[Sem.run_bind,A3 (hn f (Ag ..))];simp only[Sem.run_bind]at h1;rw[ho];generalize (part f.type ys m).run P w=r1 at h1⊢;cases r1 with
        |halt x w1=>cases h1
        |ok u w1=>
         grind [Result.andThen_ok,Sem.run_pure]
      rw[key fa.toList 0 l JL u3 hq]
      rfl
     simp_all
    simp_all
   simp_all
  simp_all
theorem od(hs:Ig T kt=some sh)(w:World)(hx:Yu sh x=true)(hy:Yu sh y=true) :
  ∃b:Bool,(Op.equal kt x y).run P w=.ok b w/\(b=true↔x=y):=by
 unfold Ig at hs;split at hs
 .rename_i fs hk;split at hs
  .rename_i l hl;cases hs;cases x<;>simp only[Yu]at hx<;>try (cases hx;done)
   cases y<;>simp only[Yu]at hy<;>try (cases hy;done)
   rename_i xs ys;have hd:(T kt).d≠.other:=by simp_all
   have ha:J5 (T kt).d=true:=by rw[hk];rfl
   have CL:l.length=(T kt).size:=by
    grind [H4,Nat.eq_of_beq_eq_true]
   have s0:∀zs:Array Value,J3 l zs.toList=true->IT zs.toList 0 l.length=zs.toList:=fun zs hz=>by
    grind [Nm,IT,List.take_of_length_le]
   have ex:∀zs:Array Value,J3 l zs.toList=true->zs.extract 0 (0+(T kt).size)=zs:=fun zs hz=>by
    have:=Nm hz
    simp_all
   obtain⟨b,b1,b2⟩:=XO hT w 8 kt l hl 10000 Wk xs ys 0 (by simp_all) (by simp_all);simp only[Sem.run_bind,G2 hT w hd ha,Result.andThen_ok,ex _ hx,ex _ hy]at b1;rw[s0 _ hx,s0 _ hy]at b2;refine⟨b,b1,b2.trans ⟨fun e=>by simp_all,fun e=>by simp_all⟩⟩
  simp_all
 .rename_i PK;split at hs
  .rename_i l hl;cases hs;have Sx : J3 l [x]=true:=by cases x<;>exact hx
   have hy' : J3 l [y]=true:=by cases y<;>exact hy
   have single:∀k,l=[k]->N0 k x=true/\N0 k y=true:=by
    grind [J3]
   have e9:Op.equal kt x y=Op.equalIn (9999+1) kt x y:=rfl;rw[e9];unfold H4 at hl;split at hl
   .rename_i k hk;split at hl
    .cases hl
     obtain⟨h1,h2⟩:=single _ rfl;cases x<;>simp[N0]at h1
     cases y<;>simp[N0]at h2
     obtain rfl:=Lv h1;obtain rfl:=Lv h2;exact⟨_,run_equalIn_int w 9999 kt _ _ _ _ (hT.int hk),by simp⟩
    simp_all
   .rename_i hk;split at hl
    .cases hl
     obtain⟨h1,h2⟩:=single _ rfl;cases x<;>simp[N0]at h1
     cases y<;>simp[N0]at h2
     exact⟨_,run_equalIn_string w 9999 kt _ _ (hT.string hk),by grind [JW]⟩
    simp_all
   .rename_i hk;split at hl
    .cases hl
     obtain⟨h1,h2⟩:=single _ rfl;cases x<;>simp[N0]at h1
     cases y<;>simp[N0]at h2
     exact⟨_,run_equalIn_bool' w 9999 kt _ _ (hT.bool hk),by simp⟩
    simp_all
   all_goals simp_all
  simp_all
theorem M0(hs:Ig T kt=some sh)(w:World)(b:Bool)(hx:Yu sh x=true):(Instr.checkKey b 10000 kt x).run P w=.ok () w:=by
 unfold Ig at hs;split at hs
 .rename_i fs hk;split at hs
  .rename_i l hl;cases hs;cases x<;>simp only[Yu]at hx<;>try simp_all
   rename_i xs;have hd:(T kt).d≠.other:=by simp_all
   have ha:J5 (T kt).d=true:=by rw[hk];rfl
   have CL:l.length=(T kt).size:=by
    grind [H4,Nat.eq_of_beq_eq_true]
   have:=Nm hx
   have h0:IT xs.toList 0 l.length=xs.toList:=by
    grind [IT]
   have h1:=Tw hT w b 8 kt l hl 10000 Wk xs 0 (by simp_all)
   grind [Kv,Sem.run_bind,G2,Result.andThen_ok,Array.extract_size]
  simp_all
 .rename_i PK;split at hs
  .rename_i l hl;cases hs;have key:∀d,(Instr.checkKey b (d+1) kt x).run P w=.ok () w:=by
    intro d;unfold H4 at hl;split at hl
    .rename_i k hk;simp[Instr.checkKey,run_underlying (hT.int hk)]
    .rename_i hk;simp[Instr.checkKey,run_underlying (hT.string hk)]
    .rename_i hk;simp[Instr.checkKey,run_underlying (hT.bool hk)]
    all_goals simp_all
   simp_all
  simp_all
end
def Mh(x:Value)(es:List MapEntry)(i:Nat)(r:Option (Nat×Value)):Prop:=
 (r=none/\∀e∈es,e.key≠x)\/∃(j:Nat) (e:MapEntry),r=some (i+j,e.val)/\es[j]?=some e/\e.key=x
theorem Mh.here{es:List MapEntry}(h:e.key=x):Mh x (e::es) i (some (i,e.val)):=
 .inr ⟨0,e,rfl,rfl,h⟩
theorem Mh.there{es:List MapEntry}{r:Option (Nat×Value)}(h:e.key≠x)(k:Mh x es (i+1) r):Mh x (e::es) i r:=by
 rcases k with ⟨h1,h2⟩ | ⟨j,e',h1,h2,h3⟩
 .exact .inl ⟨h1,fun d hd=>(AR.1 hd).elim (fun e'=>e'▸h) (h2 d)⟩
 .exact .inr ⟨j+1,e',by grind,h2,h3⟩
theorem TQ{kind:TypeDesc}{x:Value}:∀(es:List MapEntry) (i:Nat),(∀e∈es,∃b,Instr.sameNow kind x e.key=some b/\(b=true↔x=e.key))->∃r,Instr.findNow kind x es i=some r/\Mh x es i r
 | [],i,_=>⟨none,rfl,.inl ⟨rfl,fun _ h=>by cases h⟩⟩
 |e::es,i,h=>by
  obtain⟨b,b1,b2⟩:=h e (Ag ..);cases b with
  |true=>exact⟨_,by grind [Instr.findNow],.here (b2.1 rfl).symm⟩
  |false=>
   obtain⟨r,r1,r2⟩:=TQ es (i+1) (fun d hd=>h d (Aj _ hd))<;>grind [Instr.findNow,Mh.there]
section
variable {P:Program}{T:GW}(hT:B8 P T)
include hT
theorem NV{kt:Nat}{sh:ES}(hs:Ig T kt=some sh)(w:World){x:Value}(hx:Yu sh x=true) :
  ∀(es:List MapEntry) (i:Nat),(∀e∈es,Yu sh e.key=true)->∃r,(Instr.findAsking kt x es i).run P w=.ok r w/\Mh x es i r
 | [],i,_=>⟨none,rfl,.inl ⟨rfl,fun _ h=>by cases h⟩⟩
 |e::es,i,h=>by
  obtain⟨b,b1,b2⟩:=od hT hs w hx (h e (Ag ..));cases b with
  |true=>exact⟨_,by simp[Instr.findAsking,b1],.here (b2.1 rfl).symm⟩
  |false=>
   obtain⟨r,r1,r2⟩:=NV hs w hx es (i+1) (fun d hd=>h d (Aj _ hd));exact⟨r,by simp[Instr.findAsking,b1,r1],.there (fun e'=>by simp_all) r2⟩
theorem ON(hs:Ig T kt=some sh)(w:World)(hx:Yu sh x=true)(es:List MapEntry)(he:∀e∈es,Yu sh e.key=true) :
  ∃r,(Instr.findKey kt x es).run P w=.ok r w/\Mh x es 0 r:=by
 have AaW:∀d,P.underlying kt=some d->Instr.findNow d x es 0=none->∃r,(Instr.findKey kt x es).run P w=.ok r w/\Mh x es 0 r:=by
  intro d hd hn;obtain⟨r,r1,r2⟩:=NV hT hs w hx es 0 he;exact⟨r,by simp[Instr.findKey,run_underlying hd,hn,r1],r2⟩
 have now:∀d,P.underlying kt=some d->(∀e∈es,∃b,Instr.sameNow d x e.key=some b/\(b=true↔x=e.key))->∃r,(Instr.findKey kt x es).run P w=.ok r w/\Mh x es 0 r:=by
  intro d hd hn;obtain⟨r,r1,r2⟩:=TQ es 0 hn;exact⟨r,by simp[Instr.findKey,run_underlying hd,r1],r2⟩
 have iI:=hs;unfold Ig at iI;split at iI
 .rename_i fs hk;obtain⟨fa,u1,_⟩:=hT.struct hk;cases es<;>grind [Instr.findNow,Instr.sameNow]
 .rename_i PK;split at iI
  .rename_i l hl;cases iI;have cv:∀y,Yu ⟨false,l⟩ y=true->J3 l [y]=true:=fun y hy=>by cases y<;>exact hy
   have Sx:=cv x hx;have he' : ∀e∈es,J3 l [e.key]=true:=fun e h=>cv _ (he e h)
   clear hx he cv
   have single:∀k y,l=[k]->J3 l [y]=true->N0 k y=true:=by
    grind [J3]
   unfold H4 at hl;split at hl
   .rename_i k hk;split at hl
    .cases hl
     refine now _ (hT.int hk) (fun e h=>?_);have h1:=single _ _ rfl Sx;have h2:=single _ _ rfl (he' e h);generalize e.key=y at h2;cases x<;>simp[N0]at h1
     cases y<;>simp[N0]at h2
     obtain rfl:=Lv h1;obtain rfl:=Lv h2;exact⟨_,by simp[Instr.sameNow];rfl,by simp⟩
    simp_all
   .rename_i hk;split at hl
    .cases hl
     refine now _ (hT.string hk) (fun e h=>?_);have h1:=single _ _ rfl Sx;have h2:=single _ _ rfl (he' e h);generalize e.key=y at h2;cases x<;>simp[N0]at h1
     cases y<;>simp[N0]at h2
     exact⟨_,by simp[Instr.sameNow];rfl,by grind [beq_toListBytes,JW]⟩
    simp_all
   .rename_i hk;split at hl
    .cases hl
     refine now _ (hT.bool hk) (fun e h=>?_);have h1:=single _ _ rfl Sx;have h2:=single _ _ rfl (he' e h);generalize e.key=y at h2;cases x<;>simp[N0]at h1
     cases y<;>simp[N0]at h2
     exact⟨_,by simp[Instr.sameNow];rfl,by simp⟩
    simp_all
   all_goals simp_all
  simp_all
end
theorem Sh{P:Program}(w:World)(hx:Yu sh x=true):(Instr.keyThatStays x x).run P w=.ok x w:=by
 have scalar:∀(k:KS) (y:Value) (n:Nat),N0 k y=true->Instr.sameBits n y y=true:=by
  intro k y n h;cases k<;>cases y<;>simp[N0]at h<;>cases n<;>simp[Instr.sameBits,beq_toListBytes]
 have lst:∀(l:List KS) (ys:List Value) (n:Nat),J3 l ys=true->((ys.zip ys).all fun(a,b)=>Instr.sameBits n a b)=true:=by
  intro l ys n
  induction ys generalizing l with
  |nil=>simp_all
  |cons y ys ih=>
   grind [List.zip_cons_cons,J3.eq_def]
 have h1:∀n,Instr.sameBits (n+1) x x=true:=by
  intro n;obtain⟨ag,l⟩:=sh;cases ag with
  |true=>
   cases x<;>simp only[Yu]at hx<;>try simp_all
   have:=lst l _ n hx
   grind [Instr.sameBits]
  |false=>
   have Sx : J3 l [x]=true:=by cases x<;>exact hx
   grind [J3.eq_def]
 have:=h1 9999
 simp only[Instr.keyThatStays];simp_all
theorem Xh:∀{cs:List AV} {l:List Value},Yy cs=some l->cs=l.map .v
 | [],l,h=>by cases h;rfl
 |a::r,l,h=>by
  cases a<;>simp only[Yy]at h<;>try (cases h;done)
  split at h
  .rename_i l' hl;cases h;rw[Xh hl];rfl
  simp_all
theorem qH(h:Bc g w U a x)(hk:uW a=some y):x=y:=by
 unfold uW at hk;split at hk
 .grind [Bc.v_eq]
 .split at hk
  .rename_i l hl;cases hk;obtain rfl:=Xh hl;exact h.agg_vals
  simp_all
 simp_all
theorem Nl{T:GW}{ty:Nat}{K:Value->Prop}(h:Bc g w U a x)(hk:Kr T ty sh a K) :
  ∃kt e,(T ty).d=.map kt e/\Ig T kt=some sh/\Yu sh x=true/\K x:=by
 unfold Kr at hk
 grind [rJ,qH]
theorem HB.shape(h:HB sh es ck BY):∀e∈es.toList,Yu sh e.key=true:=by
 intro e he;obtain⟨h1,h2,h3,_⟩:=h;obtain⟨i,hi⟩:=Ed.1 he;have ET:i<BY.length:=by grind
 rw[h2 i BY[i] e (AW ET) (by simp_all)]
 grind
theorem HB.none(h:HB sh es ck BY)(hn:∀e∈es.toList,e.key≠x)(a:AV):(x,a)∉BY:=by
 intro hm;obtain⟨h1,h2,_⟩:=h;obtain⟨i,hi⟩:=Ed.1 hm;have ET:i<es.size:=by grind
 exact hn es[i] aa0 (h2 i _ es[i] hi (by simp_all))
theorem HB.some{sh:ES}{es:Array MapEntry}{ck:Nat}{BY:List (Value×AV)}(h:HB sh es ck BY){x:Value}{j:Nat}{e:MapEntry}(he:es.toList[j]?=some e)(hk:e.key=x) :
  ∃a,BY[j]?=some (x,a)/\(x,a)∈BY:=by
 obtain⟨h1,h2,_⟩:=h;have ET:j<BY.length:=by grind
 have hg:BY[j]?=Option.some BY[j]:=AW ET
 grind
section
variable {P:Program}{T:GW}(hT:B8 P T){h:Nat->HO}{g:Gh}{w:World}{K:AV->Prop}
section
include hT
theorem Xk{t:Nat}(hk:Kt T t K):Bu P h g w (zeroValue t) K:=by
 unfold Kt at hk;split at hk
 .simp_all
 .rename_i hd;obtain⟨z,z1,z2,z3⟩:=M4 hT (w:=w) hd;rw[z3]at hk;split at hk
  .rename_i cs;split at hk
   .rename_i ha;have hr:=Cg.vals (g:=g) (w:=w) (U:=AC h) ha;exact⟨_,_,z1,hk,.agg _ _ _ aa0 (fun i x hx=>hr.2.1 x (Az (by simpa using hx))) (fun i av x h1 h2=>hr.2.2 i av x h1 (by simp_all))⟩
   simp_all
  .exact⟨_,_,z1,hk,.v _ _⟩
theorem Kg{ty b:Nat}{kt e:Nat}{ck:Nat}{BY:List (Value×AV)}(ht:(T ty).d=.map kt e)(hs:Ig T kt=some sh)(hx:Yu sh x=true)(hb:w.heap[b]?=some (.map es ck))(hm:HB sh es ck BY)(hv:∀(i:Nat) (kv:Value×AV) (e:MapEntry),BY[i]?=some kv->es[i]?=some e->Bc g w (AC h) kv.2 e.val)(hk:Mw T ty ok BY x K):Bu P h g w (Instr.lookup ty (.map (some b)) x ok) K:=by
 have hu:=hT.map ht;have F3:=run_getObj_map (P:=P) w b es ck hb;have Uc:=fun bb=>M0 hT hs w bb hx;obtain⟨r,r1,r2⟩:=ON hT hs w hx es.toList hm.shape;unfold Mw at hk;rw[ht]at hk;dsimp only at hk;rcases r2 with ⟨rfl,hn⟩ | ⟨j,en,rfl,hj,hkey⟩
 .have kj:=fun a=>hm.none hn a;cases ok with
  |true=>
   obtain⟨y,av,y1,y2,y3⟩:=Xk hT (K:=fun z=>K (.tup [z,.v (.bool false)])) (P:=P) (h:=h) (g:=g) (w:=w) (hk.2 kj);refine⟨.tuple #[y,.bool false],_,?_,y2,.tup _ _ _ rfl (fun i a x h1 h2=>?_)⟩
   .simp[Instr.lookup,run_underlying hu,F3,Uc,r1,y1]
   grind [Bc.v]
  |false=>
   obtain⟨y,av,y1,y2,y3⟩:=Xk hT (K:=K) (P:=P) (h:=h) (g:=g) (w:=w) (hk.2 kj);exact⟨y,av,by simp[Instr.lookup,run_underlying hu,F3,Uc,r1,y1],y2,y3⟩
 .obtain⟨a,a1,a2⟩:=hm.some hj hkey;have hr:=hv j (x,a) en a1 (by simp_all);cases ok with
  |true=>
   refine⟨.tuple #[en.val,.bool true],_,?_,hk.1 a a2,.tup _ _ _ rfl (fun i av y h1 h2=>?_)⟩
   .simp[Instr.lookup,run_underlying hu,F3,Uc,r1]
   grind [Bc.v]
  |false=>exact⟨en.val,a,by simp[Instr.lookup,run_underlying hu,F3,Uc,r1],hk.1 a a2,hr⟩
theorem dh(ho:∀r,DV g w (AC h) r (h r)){ty:Nat}{m k:AV}{vm vk:Value}(hm:Bc g w (AC h) m vm)(hx:Bc g w (AC h) k vk)(hk:Nq T h ty m k ok K) :
  Bu P h g w (Instr.lookup ty vm vk ok) K:=by
 unfold Nq at hk;split at hk
 .obtain⟨kt,e,k1,k2,k3,k4⟩:=Nl hx hk;cases hm with
  |cmap _ _ _ b es ck hS hb qv hv=>exact Kg hT k1 k2 k3 hb qv (fun i kv e p q=>(hv i kv e p q).up _) k4
 .rename_i r;have hr:=ho r;cases hm with
  |mref _ _ b hu ht hp=>
   split at hk
   .rename_i sh BY e;rw[e]at hr;obtain⟨_,b',es,ck,a1,a2,a3,a4,a5,a6⟩:=hr<;>grind [Nl,Kg,Bc.up]
   .rename_i sh BY e;rw[e]at hr;obtain⟨_,b',es,ck,a1,a2,a3,a4,a5,a6⟩:=hr<;>grind [Nl,Kg]
   .rename_i sh BY e;rw[e]at hr;obtain⟨_,b',a1,a2⟩:=hr;rw[a1]at hp;cases hp;obtain⟨kt,e,k1,k2,k3,k4⟩:=Nl hx hk;cases a2 with
    |cmap _ _ _ _ es ck hS hb qv hv=>exact Kg hT k1 k2 k3 hb qv (fun i kv e p q=>(hv i kv e p q).up _) k4
   simp_all
 simp_all
omit hT in
theorem lD{ty:Nat}{BY:List (Value×AV)}{kx:Value}(hk:Mu T ty ok BY kx K):Mw T ty ok BY kx K:=by
 unfold Mu at hk;unfold Mw;split at hk
 all_goals grind
omit hT in
theorem iW{ty:Nat}{k:AV}{A B:Value->Prop}(hk:Kr T ty sh k A)(hab:∀x,A x->B x):Kr T ty sh k B:=by
 grind [Kr]
omit hT in
theorem jb{ty:Nat}{m k:AV}(hk:Np T h ty m k ok K):Nq T h ty m k ok K:=by
 unfold Np at hk
 grind [Nq,iW,lD]
theorem mR(ho:∀r,DV g w (AC h) r (h r)){t ty:Nat}{x:AV}(hx:Bc g w (AC h) x vx)(hk:RV T t h x K):Bu P h g w (Builtin.len_ #[t] ty #[vx]) K:=by
 unfold RV at hk;split at hk
 .rename_i e ht;have hu:=hT.slice ht;have run:∀a n c,(Builtin.len_ #[t] ty #[.slice a n c]).run P w=.ok (.int .i64 n) w:=fun a n c=>by simp[Builtin.len_,run_underlying hu,goInt]
  split at hk
  .have hs:=hx.slice_none;cases hs with
   |snil _ a cap=>exact⟨_,_,run a 0 cap,hk,.v _ _⟩
   |slice _ _ b off sz cap val hc=>exact⟨_,_,run _ _ _,hk,.v _ _⟩
  .cases hx with
   |msl=>exact⟨_,_,run _ _ _,hk,.v _ _⟩
  .obtain rfl:=hx.v_eq;exact⟨_,_,run _ _ _,hk,.v _ _⟩
  simp_all
 .rename_i ht;split at hk
  .obtain rfl:=hx.v_eq;exact⟨_,_,by simp[Builtin.len_,run_underlying (hT.string ht),goInt],hk,.v _ _⟩
  simp_all
 .rename_i k e ht;have hu:=hT.map ht;have run:∀b es ck,w.heap[b]?=some (.map es ck)->(Builtin.len_ #[t] ty #[.map (some b)]).run P w=.ok (.int .i64 es.size) w:=fun b es ck hb=>by
   simp[Builtin.len_,run_underlying hu,goInt,run_getObj_map (P:=P) w b es ck hb]
  split at hk
  .cases hx with
   |cmap _ _ _ b es ck hS hb qv hv=>exact⟨_,_,run b es ck hb,by rw[qv.1];exact hk,.v _ _⟩
  .rename_i r;have hr:=ho r;cases hx with
   |mref _ _ b mA ht' hp=>
    split at hk
    .rename_i sh BY e;rw[e]at hr;obtain⟨_,b',es,ck,a1,a2,a3,a4,a5,a6⟩:=hr;rw[a2]at hp;cases hp;exact⟨_,_,run _ es ck a3,by rw[a4.1];exact hk,.v _ _⟩
    .rename_i sh BY e;rw[e]at hr;obtain⟨_,b',es,ck,a1,a2,a3,a4,a5,a6⟩:=hr;rw[a2]at hp;cases hp;exact⟨_,_,run _ es ck a3,by rw[a4.1];exact hk,.v _ _⟩
    .rename_i sh BY e;rw[e]at hr;obtain⟨_,b',a1,a2⟩:=hr;rw[a1]at hp;cases hp;cases a2 with
     |cmap _ _ _ _ es ck hS hb qv hv=>exact⟨_,_,run _ es ck hb,by rw[qv.1];exact hk,.v _ _⟩
    simp_all
  simp_all
 simp_all
end
theorem Ye(ho:∀r,DV g w (AC h) r (h r)){t:Nat->AV}(ht:∀x:Operand,Bc g w (AC h) (ev t x) (ρ x)){fn:Fn}{first cap:Array Operand}(hk:KO t h fn first.toList cap.toList K) :
  Bu P h g w (Instr.makeFunc fn (first.map ρ) (cap.map ρ)) K:=by
 unfold KO at hk;split at hk
 .rename_i f e;have hf:first=#[]:=by
   simp_all
  subst hf;refine⟨_,_,rfl,hk,?_⟩
  grind [Bc.clo,Bc.rsv]
 simp_all
theorem Yh{x:AV}(hx:Bc g w (AC h) x vx)(hk:KR x K){pos:String}{after:Array Edge}{gd:Option (Nat×Bool)}{dst:Option Tmp}{ty:Nat}{X:Operand}(hX:ρ X=vx) :
  (execOp ρ ⟨dst,.nilCheck X,ty,pos,after,gd⟩).run P w=.ok (.value vx) w/\K x:=by
 subst hX;unfold KR at hk;split at hk
 all_goals first
  |exact hk.elim
  |(refine⟨?_,hk⟩;generalize hq:ρ X=q at hx;cases hx;simp[execOp,hq];done)
theorem ii(ho:∀r,DV g w (AC h) r (h r)){x:AV}(hx:Bc g w (AC h) x vx)(hk:cy h x K):Bu P h g w (Instr.entry vx) K:=by
 unfold cy at hk;split at hk
 .rename_i r;have hr:=ho r;split at hk
  .rename_i all rem kv e;rw[e]at hr;cases hx with
   |ref _ _ _ b hu ht hp=>
    obtain⟨_,b',mb,Kl,seen,st,es,ck,a1,a2,a3,a4,a5,⟨sh,a6⟩,a7,a8,a9,YM,dU,a12,te⟩:=hr;rw[a2]at hp;cases hp;obtain⟨i,en,c1,c2,c3⟩:=a12;have yw:es.find? (fun e=>e.born == en.born)=some en:=by
     rw[Array.find?_eq_some_iff_getElem];obtain⟨ET,he⟩:=BZ.1 c2;refine⟨by simp,i,ET,he,fun j hj=>?_⟩;have Ad1 : j<es.size:=by omega
     simp only[EO,beq_eq_false_iff_ne,ne_eq];intro e'
     have:=a6.2.2.2.2.2 j i es[j] en (by simp_all) c2 e'
     omega
    have hkey:=a6.2.1 i kv en c1 c2;refine⟨.tuple #[en.key,en.val],_,?_,hk,.tup _ _ _ rfl (fun k av y h1 h2=>?_)⟩
    .have fp:(getObj b).run P w=.ok (.mapIter (some mb) Kl seen st) w:=by grind [getObj,Sem.run]
     have ux:=run_getObj_map (P:=P) w mb es ck a5;simp[Instr.entry,fp,c3,ux,a8,yw]
    grind [Bc.v,Bc.up]
  simp_all
 simp_all
end
def N8(h:Nat->HO)(g:Gh)(w:World)(m:Sem Value)(K:HK):Prop:=
 ∃x w' g' av h',m.run P w=.ok x w'/\K av h'/\CT w0 g0 h0 h' g' w'/\Le h g w h' g' w'/\Bc g' w' (AC h') av x
def kn(h:Nat->HO)(g:Gh)(w:World)(m:Sem Unit)(K:HK):Prop:=
 ∃w' g' h',m.run P w=.ok () w'/\K (.v undef) h'/\CT w0 g0 h0 h' g' w'/\Le h g w h' g' w'
section
variable {P:Program}{w0:World}{g0:Gh}{h0 h:Nat->HO}{g:Gh}{w:World}(hI:CT w0 g0 h0 h g w)
include hI
theorem Bu.does{m:Sem Value}{K:HK}(hg:Bu P h g w m (fun v=>K v h)):N8 P w0 g0 h0 h g w m K:=
 let ⟨x,av,h1,h2,h3⟩:=hg
 ⟨x,w,g,av,h,h1,h2,hI,.refl _ _ _,h3⟩
theorem CT.newOwn{d:Nat}(hd:h d=.free)(o' : HO)(ob:Obj)(x:Value)(n:Nat)(t:Bool)(w1:World)(Ui:w1.heap=w.heap/\w1.os=w.os/\w1.tape=w.tape/\w1.output=w.output)(EG:o'≠.free)
  (Mb:Kn g (g.upd d x n t (some w.heap.size) g.S) (AC h)->Fa g w (g.upd d x n t (some w.heap.size) g.S) (w1.alloc ob) ->
   DV (g.upd d x n t (some w.heap.size) g.S) (w1.alloc ob) (AC (AK h d o')) d o') :
  CT w0 g0 h0 (AK h d o') (g.upd d x n t (some w.heap.size) g.S) (w1.alloc ob)/\Le h g w (AK h d o') (g.upd d x n t (some w.heap.size) g.S) (w1.alloc ob):=by
 refine hI.upd d o' x n t _ _ _ none ⟨Ui.2.1,Ui.2.2.1,Ui.2.2.2,by simp_all⟩ (fun k hk _=>?_) (fun b e=>by cases e) (fun _ _ h=>h) (fun _ _ h=>.inl h) (fun b o e=>by cases e)
  (fun b _ e=>?_) EG (fun hu=>absurd hd hu) Mb
 all_goals grind [heap_alloc_old,World.size_alloc]
def Gh.more(g:Gh)(b n:Nat):Nat->Nat->Prop:=fun b' o=>g.S b' o\/(b'=b/\o<n)
theorem CT.newStable{d:Nat}(hd:h d=.free)(o' : HO)(vs:Array Value)(E:TypeId)(m:Nat)(x:Value)(n:Nat)(t:Bool)(w1:World)(Ui:w1.heap=w.heap/\w1.os=w.os/\w1.tape=w.tape/\w1.output=w.output)(EG:o'≠.free)
  (Mb:Kn g (g.upd d x n t none (g.more w.heap.size m)) (AC h)->Fa g w (g.upd d x n t none (g.more w.heap.size m)) (w1.alloc (.cells vs E (0,0))) ->
   DV (g.upd d x n t none (g.more w.heap.size m)) (w1.alloc (.cells vs E (0,0))) (AC (AK h d o')) d o') :
  CT w0 g0 h0 (AK h d o') (g.upd d x n t none (g.more w.heap.size m)) (w1.alloc (.cells vs E (0,0))) /\
   Le h g w (AK h d o') (g.upd d x n t none (g.more w.heap.size m)) (w1.alloc (.cells vs E (0,0))):=by
 refine hI.upd d o' x n t _ _ _ none ⟨Ui.2.1,Ui.2.2.1,Ui.2.2.2,by simp_all⟩ (fun k hk _=>?_) (fun b e=>by cases e) (fun _ _ h=>.inl h) (fun b o hb=>?_) (fun b o e=>by cases e)
  (fun b _ e=>by cases e) EG (fun hu=>absurd hd hu) Mb
 .grind [heap_alloc_old]
 .rcases hb with hb | ⟨rfl,_⟩<;>simp_all
end
theorem Bm(g:Gh)(r:Nat)(x:Value)(n:Nat)(t:Bool)(o:Option Nat)(S:Nat->Nat->Prop) :
  (g.upd r x n t o S).ρ r=x/\(g.upd r x n t o S).ln r=n/\(g.upd r x n t o S).tk r=t/\(g.upd r x n t o S).own r=o:=by simp[Gh.upd]
theorem Hj(w:World)(o:Obj)(hb:b=w.heap.size):(w.alloc o).heap[b]?=some o:=by grind [heap_alloc_new]
theorem Bc.cptr_row{E:TypeId}(hb:w.heap[b]?=some (.cells vs E f))(hr:Cg g w FN cs vs.toList)(hS:∀o,o<cs.length->g.S b o):Bc g w U (.cptr cs) (.pointer (some ⟨b,0,none⟩)):=by
 refine .cptr U cs b 0 (fun j=>vs[j]?.getD default) (fun j av hj=>?_) (fun j av hj=>?_)
 .grind [Gb,Cg.at]
 .obtain⟨x,x1,x2,x3⟩:=hr.at hj;rw[CF]at x1;rw[x1];exact x3
theorem Bc.slice_off{off:Nat}{es:C0}{E:TypeId}(hb:w.heap[b]?=some (.cells vs E f))(hl:∀cs∈es,cs.length=sz)(hc:es.length<=cap)(hr:Cg g w FN es.flatten ((vs.toList.drop off).take (es.length*sz)))(hS:∀o,o<es.length*sz->g.S b (off+o)):Bc g w U (.slice .none es) (.slice (some ⟨b,off,none⟩) es.length cap):=by
 have key:∀(i:Nat) (cs:List AV) (j:Nat) (av:AV),es[i]?=some cs->cs[j]?=some av->∃x,vs[off+(i*sz+j)]?=some x/\x.oneCell'=true/\Bc g w FN av x/\i*sz+j<es.length*sz:=by
  intro i cs j av h1 h2;have hcl:=hl cs (Az h1);have hj:j<sz:=by grind
  have hi:=(Bf.1 h1).1;have ET:i*sz+j<es.length*sz:=by
   have:=BD sz (show i+1<=es.length from hi)
   grind
  have hf:=Fz hl h1 hj
  grind [Cg.at]
 refine .slice U es b off sz cap (fun i j=>vs[off+(i*sz+j)]?.getD default) hc (fun i cs h=>hl cs (Az h)) (fun i cs j av h1 h2=>?_) (fun i cs j av h1 h2=>?_)
 .grind [Gb]
 .obtain⟨x,x1,x2,x3,x4⟩:=key i cs j av h1 h2;rw[x1];exact x3
theorem Bc.slice_row{es:C0}{E:TypeId}(hb:w.heap[b]?=some (.cells vs E f))(hl:∀cs∈es,cs.length=sz)(hc:es.length<=cap)(hr:Cg g w FN es.flatten (vs.toList.take (es.length*sz)))(hS:∀o,o<es.length*sz->g.S b o):Bc g w U (.slice .none es) (.slice (some ⟨b,0,none⟩) es.length cap):=by
 have key:∀(i:Nat) (cs:List AV) (j:Nat) (av:AV),es[i]?=some cs->cs[j]?=some av->∃x,vs[i*sz+j]?=some x/\x.oneCell'=true/\Bc g w FN av x/\i*sz+j<es.length*sz:=by
  intro i cs j av h1 h2;have hcl:=hl cs (Az h1);have hj:j<sz:=by grind
  have hi:=(Bf.1 h1).1;have ET:i*sz+j<es.length*sz:=by
   have:=BD sz (show i+1<=es.length from hi)
   grind
  have hf:=Fz hl h1 hj
  grind [Cg.at]
 refine .slice U es b 0 sz cap (fun i j=>vs[i*sz+j]?.getD default) hc (fun i cs h=>hl cs (Az h)) (fun i cs j av h1 h2=>?_) (fun i cs j av h1 h2=>?_)
 .grind [Gb]
 .obtain⟨x,x1,x2,x3,x4⟩:=key i cs j av h1 h2;rw[x1];exact x3
section
variable {P:Program}{w0:World}{g0:Gh}{h0 h:Nat->HO}{g:Gh}{w:World}
theorem Sb(hI:CT w0 g0 h0 h g w){d:Nat}(hd:h d=.free)(E:TypeId)(hr:Cg g w (AC h) cs vs.toList) :
  ∃g',CT w0 g0 h0 (AK h d (.cells cs)) g' (w.alloc (.cells vs E (0,0)))/\Le h g w (AK h d (.cells cs)) g' (w.alloc (.cells vs E (0,0))) /\
   Bc g' (w.alloc (.cells vs E (0,0))) (AC (AK h d (.cells cs))) (.ref d 0) (.pointer (some ⟨w.heap.size,0,none⟩)):=by
 obtain⟨k1,k2⟩:=hI.newOwn hd (.cells cs) (.cells vs E (0,0)) (.pointer (some ⟨w.heap.size,0,none⟩)) 0 false w ⟨rfl,rfl,rfl,rfl⟩ aa0 (fun hg hk=>by
  obtain⟨u1,u2,u3,u4⟩:=Bm g d (.pointer (some ⟨w.heap.size,0,none⟩)) 0 false (some w.heap.size) g.S;exact⟨u3,w.heap.size,E,vs,u4,u1,Hj w _ rfl,hr.mono hk (fun i hi=>DG aa0 i hi) hg,fun o ho=>by have:=hI.slt _ _ ho;omega⟩)
 refine⟨_,k1,k2,.ref _ d 0 w.heap.size (by unfold AC;rw[A2];simp) ?_ ?_⟩
 .simp[Gh.upd]
 .simp[Gh.upd]
theorem mZ(hI:CT w0 g0 h0 h g w){d:Nat}(hd:h d=.free)(E:TypeId)(hr:Cg g w FN cs vs.toList) :
  ∃g',CT w0 g0 h0 (AK h d (.ro cs)) g' (w.alloc (.cells vs E (0,0)))/\Le h g w (AK h d (.ro cs)) g' (w.alloc (.cells vs E (0,0))) /\
   Bc g' (w.alloc (.cells vs E (0,0))) (AC (AK h d (.ro cs))) (.ref d 0) (.pointer (some ⟨w.heap.size,0,none⟩)):=by
 obtain⟨k1,k2⟩:=hI.newStable hd (.ro cs) vs E cs.length (.pointer (some ⟨w.heap.size,0,none⟩)) 0 false w ⟨rfl,rfl,rfl,rfl⟩ aa0 (fun hg hk=>by
  obtain⟨u1,u2,u3,u4⟩:=Bm g d (.pointer (some ⟨w.heap.size,0,none⟩)) 0 false none (g.more w.heap.size cs.length);exact⟨u3,w.heap.size,u1,Bc.cptr_row (Hj w _ rfl) (hr.mono hk (fun _ h=>h) (fun _ h=>h.elim)) (fun o ho=>.inr ⟨rfl,ho⟩)⟩)
 refine⟨_,k1,k2,.ref _ d 0 w.heap.size (by unfold AC;rw[A2];simp) ?_ ?_⟩
 .simp[Gh.upd]
 .simp[Gh.upd]
theorem Ki(hI:CT w0 g0 h0 h g w){cx:Cx}{d:Option Nat}{sz:Nat}{es:C0}{K:HK}(hk:E8 cx d h sz es K){cap:Nat}(E:TypeId)(hl:∀cs∈es,cs.length=sz)(hc:es.length<=cap)(hs:vs.size=cap*sz)(hr:Cg g w FN es.flatten (vs.toList.take (es.length*sz)))(w1:World)(Ui:w1.heap=w.heap/\w1.os=w.os/\w1.tape=w.tape/\w1.output=w.output) :
  ∃g' av h',K av h'/\CT w0 g0 h0 h' g' (w1.alloc (.cells vs E (0,0)))/\Le h g w h' g' (w1.alloc (.cells vs E (0,0))) /\
   Bc g' (w1.alloc (.cells vs E (0,0))) (AC h') av (.slice (some ⟨w.heap.size,0,none⟩) es.length cap):=by
 have EU:(w1.alloc (.cells vs E (0,0))).heap[w.heap.size]?=some (.cells vs E (0,0)):=Hj w1 _ (by simp_all);unfold E8 at hk;split at hk
 .simp_all
 .rename_i d;generalize Kq cx d=d1 at hk;split at hk
  .rename_i hd;split at hk
   .obtain⟨k1,k2⟩:=hI.newOwn hd (.arr sz es) (.cells vs E (0,0)) (.slice (some ⟨w.heap.size,0,none⟩) es.length cap) es.length true w1 Ui aa0 (fun hg IS=>by
     obtain⟨u1,u2,u3,u4⟩:=Bm g d1 (.slice (some ⟨w.heap.size,0,none⟩) es.length cap) es.length true (some w.heap.size) g.S;exact⟨u3,u2,hl,.inr ⟨w.heap.size,cap,E,vs,u1,u4,hc,EU,hs,hr.mono IS (fun _ h=>h) (fun _ h=>h.elim),fun o ho=>by have:=hI.slt _ _ ho;omega⟩⟩)
    refine⟨_,_,_,hk,k1,k2,.msl _ d1 es.length _ cap (by unfold AC;rw[A2];simp) ?_ ?_ (.inr ⟨_,rfl⟩) ?_⟩<;>simp[Gh.upd]
   .by_cases sx:es.length=cap
    .obtain⟨k1,k2⟩:=hI.newStable hd (.tok sz es.length) vs E (es.length*sz) (.slice (some ⟨w.heap.size,0,none⟩) es.length cap) es.length true w1 Ui aa0 (fun hg IS=>by
      obtain⟨u1,u2,u3,u4⟩:=Bm g d1 (.slice (some ⟨w.heap.size,0,none⟩) es.length cap) es.length true none (g.more w.heap.size (es.length*sz));exact⟨u3,u2,_,cap,u1,.inl ⟨sx,u4⟩⟩)
     refine⟨_,_,_,hk,k1,k2,.tok _ d1 sz es _ (Bc.slice_row EU hl hc (hr.mono k2.keeps (fun _ h=>h) (fun _ h=>h.elim)) (fun o ho=>.inr ⟨rfl,ho⟩)) hl (by grind [AC,A2]) ?_ ?_ ?_⟩<;>simp[Gh.upd]
    .have wl:=hI.upd d1 (.tok sz es.length) (.slice (some ⟨w.heap.size,0,none⟩) es.length cap) es.length true (some w.heap.size) (g.more w.heap.size (es.length*sz)) (w1.alloc (.cells vs E (0,0))) none
      ⟨Ui.2.1,Ui.2.2.1,Ui.2.2.2,by simp_all⟩ (fun k hk' _=>by grind [heap_alloc_old]) (fun b e=>by cases e) (fun _ _ h=>.inl h)
      (fun b o hb=>by
       rcases hb with hb | ⟨rfl,_⟩<;>simp_all) (fun b o e=>by cases e)
      (fun b _ e=>by simp_all) aa0 (fun hu=>absurd hd hu) (fun hg IS=>by
       obtain⟨u1,u2,u3,u4⟩:=Bm g d1 (.slice (some ⟨w.heap.size,0,none⟩) es.length cap) es.length true (some w.heap.size) (g.more w.heap.size (es.length*sz));exact⟨u3,u2,_,cap,u1,.inr ⟨hc,w.heap.size,E,vs,0,rfl,u4,.of EU,by omega,fun o ho=>by
        rcases ho with ho | ⟨_,ho⟩
        .have:=hI.slt _ _ ho;omega
        .omega⟩⟩)
     obtain⟨k1,k2⟩:=wl;refine⟨_,_,_,hk,k1,k2,.tok _ d1 sz es _ (Bc.slice_row EU hl hc (hr.mono k2.keeps (fun _ h=>h) (fun _ h=>h.elim)) (fun o ho=>.inr ⟨rfl,ho⟩)) hl (by grind [AC,A2]) ?_ ?_ ?_⟩<;>simp[Gh.upd]
  .exact hk.elim
end
end Go.Eng
