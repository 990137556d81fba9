/- Lemmas 6. -/
import Derived.Test.YtpgfieopnnkpfaaGreatDoorQA05
namespace Go.Eng
variable {U:Nat->Prop}{x:Value}{vs:Array Value}{w:World}{ρ:Operand->Value}{es:Array MapEntry}{g:Gh}{sh:EE}{cs:List AV}{BN:List (Value×AV)}{f:Nat×Nat}{vx:Value}{ok:Bool}{b:Nat}{e:MapEntry}{a:AV}{i kt:Nat}{y:Value}{ck sz cap:Nat}(P:Program)(w0:World)(g0:Gh)(h0:Nat->HO)
theorem B2.at{vs:List Value}(h:B2 g w U cs vs){av:AV}(hi:cs[i]?=some av):∃x,vs[i]?=some x/\x.oneCell'=true/\A5 g w U av x:=by
 have Fp:i<vs.length:=by rw[h.1];grind
 exact⟨vs[i],AI Fp,h.2.1 _ (Ah Fp),h.2.2 i av _ hi (AI Fp)⟩
theorem Fa{α:Type}{n:Nat}:∀{es:List (List α)},(∀c∈es,c.length=n)->∀{i j:Nat} {c:List α},es[i]?=some c->j<n->es.flatten[i*n+j]?=c[j]?
 | [],_,i,j,c,h,_=>by simp_all
 |d::es,hl,0,j,c,h,hj=>by
  grind
 |d::es,hl,i+1,j,c,h,hj=>by
  have hd:=hl d (Ai ..);rw[Dp,B7 (by grind)];rw[show(i+1)*n+j-d.length=i*n+j by grind];exact Fa (fun c hc=>hl c (At _ hc)) (by simp_all) hj
theorem CX{α:Type}{n:Nat}:∀{es:List (List α)},(∀c∈es,c.length=n)->es.flatten.length=es.length*n
 | [],_=>by simp
 |d::es,hl=>by
  rw[Dp,As,hl d (Ai ..),CX (fun c hc=>hl c (At _ hc)),Av,Nat.succ_mul,Nat.add_comm]
section
variable {P:Program}{T:GB}(hT:BY P T){h:Nat->HO}{g:Gh}{w:World}{K:AV->Prop}(ho:∀r,DB g w (used h) r (h r))
include ho
theorem dB(hT:BY P T){t:Nat}{x:AV}(hx:A5 g w (used h) x vx){hi mx:Option Operand}(hk:ZN T h t x hi mx K):Bp P h g w (Instr.sliceAt t vx none (hi.map ρ) (mx.map ρ)) K:=by
 unfold ZN at hk;split at hk
 .rename_i n e r hd;split at hk
  .rename_i cs hs he;obtain⟨rfl,hk⟩:=hk;cases hx with
   |ref _ _ _ b hu ht hx=>
    have hr:=ho r;rw[he]at hr;obtain⟨_,b',a1,a2⟩:=hr;rw[a1]at hx;cases hx;cases a2 with
    |cptr _ _ _ off val CY DS=>
     have ha:=hT.array hd;refine⟨.slice (some ⟨b,0,none⟩) cs.length cs.length,_,?_,hk,?_⟩
     .simp[Instr.sliceAt,Instr.sureAddr,run_underlying ha,Instr.sliceBounds,hT.size1 w hs,Addr.add_lit]
     .have q:=A5.slice (g:=g) (w:=w) (used h) (cs.map fun c=>[c]) b 0 1 cs.length (fun i _=>val i) aa1 aa1 ?_ ?_
      all_goals grind
  simp_all
 simp_all
theorem U3(hT:BY P T){t:Nat}{p:AV}{vp:Value}(hp:A5 g w (used h) p vp)(hk:Jd T h t p K):Bp P h g w (Instr.loadAt t vp) K:=by
 have bJ:∀b off,Bp P h g w (loadVar t ⟨b,off,none⟩) K->Bp P h g w (Instr.loadAt t (.pointer (some ⟨b,off,none⟩))) K:=by
  grind [Instr.loadAt,Instr.sureAddr]
 unfold Jd at hk;split at hk
 .cases hp with
  |cptr _ _ b off val CY DS=>exact bJ b off (LZ hT (Hp.of_cptr (.cptr EZ _ b off val CY DS) _) hk)
 .rename_i r off;have hr:=ho r;cases hp with
  |ref _ _ _ b hu ht hx=>
   split at hk
   .rename_i cs e;rw[e]at hr;obtain⟨_,b',E,vs,a1,a2,a3,a4,a5⟩:=hr;rw[a2]at hx;cases hx
    have:=(Hp.of_row a3 a4).drop off
    grind [LZ]
   .rename_i cs e;rw[e]at hr;obtain⟨_,b',a1,a2⟩:=hr;rw[a1]at hx;cases hx
    have:=(Hp.of_cptr a2 (used h)).drop off
    grind [LZ]
   simp_all
 .rename_i r n sz i off;have hr:=ho r;cases hp with
  |eref _ _ _ _ _ _ b cap hu ht hn hx=>
   split at hk
   .rename_i Ho es e;rw[e]at hr;split at hk
    .rename_i hz;obtain rfl:=AT hz;obtain⟨Cy,cs,h1,hk⟩:=hk;obtain⟨t1,l1,al,a1⟩:=hr;have Fp:=(AR.1 h1).1;rcases a1 with ⟨rfl,_⟩ | ⟨b',MU,E,vs,e1,e2,e3,e4,e5,e6,e7⟩
     .simp_all
     .have:=hx (Cy.trans l1.symm)
      rw[e1]at this;simp only[Value.slice.injEq,Dr,Addr.mk.injEq]at this;obtain⟨⟨rfl,_,_⟩,_,_⟩:=this;refine bJ _ _ (LZ hT (cs:=cs.drop off) (fun j av hj=>?_) hk);rw[FO]at hj;have TY:=al cs (AO h1);have eX:off+j<sz:=by grind
      have hf:=Fa al h1 eX
      grind [FS,B2.at,A5.up]
    simp_all
   .rename_i Ho es i' c av e;rw[e]at hr;split at hk
    .rename_i hz;obtain rfl:=AT hz;obtain⟨⟨Cy,rfl,rfl⟩,hk⟩:=hk;obtain⟨t1,l1,al,b',MU,E,vs,e1,e2,e3,e4,e5,e6,e7,e8,x,e9,UE⟩:=hr
     have:=hx (Cy.trans l1.symm)
     rw[e1]at this;simp only[Value.slice.injEq,Dr,Addr.mk.injEq]at this;obtain⟨⟨rfl,_,_⟩,_,_⟩:=this;refine bJ _ _ (LZ hT (cs:=[av]) (fun j a' hj=>?_) hk);cases j with
     |succ j=>grind
     |zero=>
      simp only[Ea,Dr]at hj;subst hj;refine⟨x,by grind [FS],?_,UE⟩;have hm:x∈vs.toList.take (es.length*sz):=by
       have h9:vs.toList[i*sz+off]?=some x:=by grind
       exact AO (by rw[QT e8];exact h9)
      exact e6.2.1 x hm
    simp_all
   simp_all
 simp_all
end
theorem FW{α:Type}:∀(cs:List α) (o:Nat) (vs:List α),(over cs o vs).length=cs.length
 | [],_,_=>rfl
 |c::cs,o+1,vs=>by simp[over,FW cs o vs]
 |c::cs,0,[]=>rfl
 |c::cs,0,v::vs=>by simp[over,FW cs 0 vs]
theorem Gx{α:Type}:∀(cs:List α) (o:Nat) (vs:List α) (i:Nat),o+vs.length<=cs.length->(over cs o vs)[i]?=if o<=i/\i<o+vs.length then vs[i-o]? else cs[i]?
 | [],o,vs,i,h=>by
  grind [over]
 |c::cs,o+1,vs,0,h=>by simp[over]
 |c::cs,o+1,vs,i+1,h=>by
  have:=Gx cs o vs i (by grind)
  grind [over]
 |c::cs,0,[],i,h=>by
  have:¬(0<=i/\i<0+([]:List α).length):=by simp
  rw[Aw this];rfl
 |c::cs,0,v::vs,0,h=>by simp[over]
 |c::cs,0,v::vs,i+1,h=>by
  have:=Gx cs 0 vs i (by simp_all)
  grind [over]
theorem B2.over{g:Gh}{w:World}{U:Nat->Prop}{cs TU:List AV}{xs vs:List Value}(h:B2 g w U cs xs)(k:B2 g w U TU vs)(o:Nat)(HB:o+TU.length<=cs.length) :
  B2 g w U (Eng.over cs o TU) (Eng.over xs o vs):=by
 have vd : o+vs.length<=xs.length:=by rw[k.1,h.1];exact HB
 refine⟨by rw[FW,FW,h.1],fun x hx=>?_,fun i av x h1 h2=>?_⟩
 .obtain⟨i,hi⟩:=EK.1 hx;rw[Gx _ _ _ _ vd]at hi;split at hi
  .exact k.2.1 _ (AO hi)
  .exact h.2.1 _ (AO hi)
 .rw[Gx _ _ _ _ HB]at h1;rw[Gx _ _ _ _ vd,k.1]at h2;split at h1
  .rename_i hc;rw[AE hc]at h2;exact k.2.2 _ _ _ h1 h2
  .rename_i hc;rw[Aw hc]at h2;exact h.2.2 _ _ _ h1 h2
theorem rS(h:A5 g w U a x)(h1:Xm a=true):x.oneCell'=true:=by
 cases h with
 |v=>exact h1
 |tok _ r sz es _ h=>cases h with
  |snil=>rfl
  |slice=>rfl
 |ver _ r sz v es _ h=>cases h with
  |snil=>rfl
  |slice=>rfl
 |full _ sz es _ h=>cases h with
  |snil=>rfl
  |slice=>rfl
 |_=>first |rfl |(cases h1;done)
theorem fM(h:x.oneCell'=true):x.cells=#[x]:=by
 cases x<;>first | rfl | grind [Value.oneCell']
theorem Mr{n:Nat}{K:List AV->Prop}(h:A5 g w U a x)(hk:G6 n a K) :
  ∃cs,K cs/\cs.length=n/\B2 g w U cs x.cells.toList:=by
 have single:Xm a=true->n=1->K [a]->∃cs,K cs/\cs.length=n/\B2 g w U cs x.cells.toList:=by
  intro h1 hn hk;have hx:=rS h h1;rw[fM hx];refine⟨[a],hk,hn.symm,rfl,by simp_all,fun i av y e1 e2=>?_⟩
  grind
 unfold G6 at hk;split at hk
 .rename_i cs;split at hk
  .rename_i hl;cases h with
   |agg _ _ vs hs h1 hr=>
    refine⟨cs,hk,AT hl,by grind [Value.cells],fun y hy=>?_,fun i av y e1 e2=>?_⟩
    all_goals grind [List.mem_iff_getElem?,Value.cells]
  simp_all
 grind
theorem Ny:∀(vs:List Value) (k o:Nat) (cs:Array Value),o+k+vs.length<=cs.size ->
  ((vs.zipIdx k).foldl (fun(cs:Array Value) (p:Value×Nat)=>cs.setIfInBounds (o+p.2) p.1) cs).toList=over cs.toList (o+k) vs
 | [],k,o,cs,_=>by
  have:∀(l:List Value) (o:Nat),over l o []=l:=by
   intro l
   induction l with
   |nil=>intro o;rfl
   |cons c l ih=>intro o;cases o<;>grind [over]
  simp_all
 |v::vs,k,o,cs,h=>by
  simp at h;rw[List.zipIdx_cons,DX,Ny vs (k+1) o _ (by grind)];simp only[Array.toList_setIfInBounds];apply CR
  grind [Gx]
theorem Sd{g:Gh}{w:World}{U:Nat->Prop}{t:Nat->AV}{ρ:Operand->Value}(ht:∀x:Operand,A5 g w U (ev t x) (ρ x)){pl pl' : Nat->Option (Nat×Nat)}(cA:∀i p,pl i=some p->pl' i=some p) :
  ∀{ps:List (Nat×Operand)} {cs:List AV} {xs:Array Value} {K:List AV->Prop},B2 g w U cs xs.toList->Kd pl cs t ps K ->
   ∃bW Xb,K bW/\B2 g w U bW Xb.toList/\Instr.fill pl' xs (ps.map fun(i,x)=>(i,ρ x))=some Xb
 | [],cs,xs,K,h,hk=>⟨cs,xs,hk,h,rfl⟩
 |(i,x)::ps,cs,xs,K,h,hk=>by
  unfold Kd at hk;split at hk
  .simp_all
  .rename_i o n hp;obtain⟨TU,hk,hn,hr⟩:=Mr (ht x) hk;split at hk
   .rename_i HB;have HB:=FZ HB;have FM:(ρ x).cells.size=n:=by rw[<-hn];simpa using hr.1
    have nZ:cs.length=xs.size:=by simpa using h.1.symm
    have Et:=h.over hr o aa0;have e:=Ny (ρ x).cells.toList 0 o xs (by simp_all);simp only[Hl]at e;rw[<-e]at Et;obtain⟨bW,Xb,k1,k2,k3⟩:=Sd ht cA Et hk<;>grind [Instr.fill,Array.toList_zipIdx]
   simp_all
theorem Ml:∀{l:List AV},GN l=true->∀a∈l,Xm a=true
 | [],_,a,h=>by cases h
 |b::r,h,a,ha=>by
  unfold GN at h;split at h
  .rename_i hb;rcases AN.1 ha with rfl | ha
   .exact hb
   .exact Ml h a ha
  simp_all
theorem B2.vals{vs:List Value}(h:GN (vs.map .v)=true):B2 g w U (vs.map .v) vs:=by
 refine⟨by simp,fun x hx=>?_,fun i av x h1 h2=>?_⟩
 .have:=Ml h (.v x) (Ay.2 ⟨x,hx,rfl⟩)
  grind [Xm]
 grind [A5.v]
section
variable {P:Program}{T:GB}(hT:BY P T){h:Nat->HO}{g:Gh}{w:World}{K:AV->Prop}
theorem YM{α β:Type}(P:Program)(w:World)(f:α->Sem β)(f' : α->β):∀(l:List α),(∀a∈l,(f a).run P w=.ok (f' a) w)->(l.mapM f).run P w=.ok (l.map f') w
 | [],_=>rfl
 |a::l,h=>by
  have h1:=h a (Ai ..);have h2:=YM P w f f' l (fun b hb=>h b (At _ hb));simp_all
theorem Qk:∀{fs:List (Nat×Nat)},N6 T fs=true->∀p∈fs,∃n,(T p.1).size=n+1
 | [],_,p,h=>by cases h
 |(t,o)::r,h,p,hp=>by
  unfold N6 at h;split at h
  .cases h
  .rename_i n hn;rcases AN.1 hp with rfl | hp
   .simp_all
   .exact Qk h p hp
include hT
theorem Mk{t:Nat}(hd:(T t).d≠.other):∃z,(zeroValue t).run P w=.ok z w/\(T t).zc=z.cells.toList/\(T t).zero=z:=by
 obtain⟨d,i,z,h1,h2,h3,h4,h5,h6,h7,h8⟩:=hT.get hd;exact⟨z,by simp[zeroValue,typeInfo,h3,h4],by rw[TI.zc_cells,h7],h7⟩
theorem VH{t n:Nat}(h:(T t).size=n+1):∃z,(zeroValue t).run P w=.ok z w/\(T t).zc=z.cells.toList:=by
 rcases hT t with e | e
 .rw[e]at h;cases h
 unfold gK at e;split at e
 .split at e
  .rename_i d i h1 h2 _ z h3;exact⟨z,by simp[zeroValue,typeInfo,h2,h3],by rw[TI.zc_cells,e]⟩
  simp_all
 simp_all
theorem dK{ty:Nat}{t:Nat->AV}(ht:∀x:Operand,A5 g w (used h) (ev t x) (ρ x)){ps:Array (Nat×Operand)}(hk:Pm T ty t ps.toList K) :
  Bp P h g w (Instr.build ty (ps.map fun(i,x)=>(i,ρ x))) K:=by
 unfold Pm at hk;split at hk
 .simp_all
 .rename_i Wz;have fin:∀(bW : List AV) (Xb : Array Value),B2 g w (used h) bW Xb.toList->A5 g w (used h) (.agg bW) (.agg Xb):=fun bW Xb hr=>
   .agg _ _ _ (by simpa using hr.1) (fun i x hx=>hr.2.1 x (AO (by simpa using hx))) (fun i av x h1 h2=>hr.2.2 i av x h1 (by simp_all))
  split at hk
  .rename_i fs hs;have hd:(T ty).d≠.other:=by simp_all
   obtain⟨z,z1,z2,_⟩:=Mk hT (w:=w) hd;split at hk
   .simp_all
   .rename_i FM;obtain⟨fa,u1,u2,u3⟩:=hT.struct hs;have nX:(fa.mapM fun(f:Field)=>(do pure (f.offset,<-sizeOf f.type):Sem (Nat×Nat))).run P w=.ok (fa.map fun f=>(f.offset,(T f.type).size)) w:=by
     rw[Array.mapM_eq_mapM_toList]
     have:=YM P w (fun f:Field=>(do pure (f.offset,<-sizeOf f.type):Sem (Nat×Nat))) (fun f=>(f.offset,(T f.type).size)) fa.toList (fun f hf=>by
      obtain⟨n,hn⟩:=Qk FM (f.type,f.offset) (by grind);simp[hT.size1 w hn,hn])
     simp only[Sem.run_map,this,Result.andThen_ok]
     congr 1
     apply Array.ext';simp
    rw[z2]at hk Wz;obtain⟨bW,Xb,k1,k2,k3⟩:=Sd ht (pl':=fun i=>(fa.map fun f=>(f.offset,(T f.type).size))[i]?) (fun i p hp=>by
     split at hp
     .rename_i t' o hf;cases hp;obtain⟨fa',fd,v1,v2,rfl,rfl⟩:=Sj hT hs hf<;>simp_all
     simp_all) (B2.vals (vs:=z.cells.toList) Wz) hk
    refine⟨_,_,?_,k1,fin bW Xb k2⟩;simp only[Instr.build,Sem.run_bind,z1,Result.andThen_ok,run_underlying u1,nX];simp_all
  .rename_i n e hs;have hd:(T ty).d≠.other:=by simp_all
   obtain⟨z,z1,z2,_⟩:=Mk hT (w:=w) hd;split at hk
   .simp_all
   .rename_i m hm;rw[z2]at hk Wz;obtain⟨bW,Xb,k1,k2,k3⟩:=Sd ht (pl':=fun i=>some (i*(T e).size,(T e).size)) (fun i p hp=>hp) (B2.vals (vs:=z.cells.toList) Wz) hk;refine⟨_,_,?_,k1,fin bW Xb k2⟩;simp only[Instr.build,Sem.run_bind,z1,Result.andThen_ok,run_underlying (hT.array hs),hT.size1 w hm];simp_all
  simp_all
end
theorem ot{a b:KS}(h:oq a b=true):a=b:=by
 cases a<;>cases b<;>first | rfl | (simp[oq]at h;done) | grind [oq,KL]
theorem YC:∀{a b:List KS},SS a b=true->a=b
 | [],[],_=>rfl
 |x::a,y::b,h=>by
  unfold SS at h;split at h
  .rename_i e;obtain rfl:=ot e;obtain rfl:=YC h;rfl
  simp_all
 | [],_::_,h=>by grind [SS]
 |_::_,[],h=>by grind [SS]
theorem oV{a b:EE}(h:r7 a b=true):a=b:=by
 obtain⟨a1,a2⟩:=a;obtain⟨b1,b2⟩:=b<;>grind [r7,YC]
section
variable {P:Program}{T:GB}(hT:BY P T)
include hT
def J4(P:Program)(w:World)(b:Bool)(d t:Nat)(xs:Array Value)(o:Nat):Prop:=
 (do let a <-part t xs o;Instr.checkKey b d t a).run P w=.ok () w
theorem RN(w:World)(b:Bool):∀(n t:Nat) (l:List KS),Hx T n t=some l->∀d,n<=d->∀(xs:Array Value) (o:Nat),Jt l (Im xs.toList o l.length)=true->J4 P w b d t xs o
 |0,t,l,h=>by grind [Hx]
 |n+1,t,l,h=>by
  intro d hd xs o hx;obtain⟨d,rfl⟩:∃d',d=d'+1:=⟨d-1,by omega⟩;have scalar:∀k,(T t).d≠.other->Ju (T t).d=false->l=[k]->(∀x,M9 k x=true->(Instr.checkKey b (d+1) t x).run P w=.ok () w)->J4 P w b (d+1) t xs o:=by
   rintro k cy hs rfl hk
   obtain⟨x,x1,x2,x3⟩:=KZ hx;unfold J4;simp[Sem.run_bind,DA hT w cy hs xs o _ x1,hk x x2]
  unfold Hx at h;split at h
  .rename_i k hk;split at h
   .cases h
    refine scalar _ (by simp_all) (by rw[hk];rfl) rfl (fun x hx=>?_);cases x<;>simp[M9]at hx
    simp[Instr.checkKey,run_underlying (hT.int hk)]
   simp_all
  .rename_i hk;split at h
   .cases h
    refine scalar _ (by simp_all) (by rw[hk];rfl) rfl (fun x hx=>?_);cases x<;>simp[M9]at hx
    simp[Instr.checkKey,run_underlying (hT.string hk)]
   simp_all
  .rename_i hk;split at h
   .cases h
    refine scalar _ (by simp_all) (by rw[hk];rfl) rfl (fun x hx=>?_);cases x<;>simp[M9]at hx
    simp[Instr.checkKey,run_underlying (hT.bool hk)]
   simp_all
  .rename_i fs hk;split at h
   .split at h
    .rename_i l' Ja;split at h
     .rename_i Cy;cases h;have Cy:=AT Cy;have cy:(T t).d≠.other:=by simp_all
      have hs:Ju (T t).d=true:=by rw[hk];rfl
      obtain⟨fa,u1,u2,u3⟩:=hT.struct hk;rw[u2]at Ja;have ex:(xs.extract o (o+(T t).size)).toList=Im xs.toList o l.length:=by
       grind [Im,Array.toList_extract]
      have s0:Im (Im xs.toList o l.length) 0 l.length=Im xs.toList o l.length:=by
       grind [c9]
      unfold J4;simp only[Sem.run_bind,GJ hT w cy hs,Result.andThen_ok];have ih:=RN w b n;have hq:Jt l (Im (xs.extract o (o+(T t).size)).toList 0 l.length)=true:=by simp_all
      generalize xs.extract o (o+(T t).size)=ys at hq;simp only[Instr.checkKey,Sem.run_bind,run_underlying u1,Result.andThen_ok];rw[<-Array.forIn_toList]
      clear u2 hk
      have key : ∀ (fl : List Field) (m : Nat) (l : List KS), Nw (Hx T n) m (fl.map fun f => (f.type, f.offset)) = some l -> (∀ f ∈ fl, f.name ≠ "_") -> Jt l (Im ys.toList m l.length) = true ->
        (forIn fl PUnit.unit (fun (f : Field) (_ : PUnit) => ((if f.name ≠ "_" then (do
         let x <-part f.type ys f.offset
         Instr.checkKey b d f.type x
         pure (ForInStep.yield PUnit.unit))else pure (ForInStep.yield PUnit.unit)):Sem (ForInStep PUnit)))).run P w=.ok PUnit.unit w:=by
       intro fl
       induction fl with
       |nil=>simp_all
       |cons f fl ihf=>
        intro m l hg hn hy;obtain⟨ho,a,c,ha,hc,rfl⟩:=M6 hg;rw[As]at hy;obtain⟨y1,y2⟩:=Rf hy;rw[O4 _ _ _ _ aa0]at y1;rw[Ty,Nat.add_sub_cancel_left]at y2;have h1:=ih f.type a ha d aa0 ys m y1;unfold J4 at h1;rw[List.forIn_cons];simp only[Sem.run_bind,AE (hn f (Ai ..))];simp only[Sem.run_bind]at h1;rw[ho];generalize (part f.type ys m).run P w=r1 at h1⊢;cases r1 with
        |halt x w1=>cases h1
        |ok u w1=>
         grind [Result.andThen_ok,Sem.run_pure]
      rw[key fa.toList 0 l Ja u3 hq]
      rfl
     simp_all
    simp_all
   simp_all
  simp_all
theorem lE(hs:HI T kt=some sh)(w:World)(hx:W3 sh x=true)(hy:W3 sh y=true) :
  ∃b:Bool,(Op.equal kt x y).run P w=.ok b w/\(b=true↔x=y):=by
 unfold HI at hs;split at hs
 .rename_i fs hk;split at hs
  .rename_i l hl;cases hs;cases x<;>simp only[W3]at hx<;>try (cases hx;done)
   cases y<;>simp only[W3]at hy<;>try (cases hy;done)
   rename_i xs ys;have hd:(T kt).d≠.other:=by simp_all
   have ha:Ju (T kt).d=true:=by rw[hk];rfl
   have Cy:l.length=(T kt).size:=by
    grind [Hx,Nat.eq_of_beq_eq_true]
   have s0:∀zs:Array Value,Jt l zs.toList=true->Im zs.toList 0 l.length=zs.toList:=fun zs hz=>by
    grind [MA,Im,List.take_of_length_le]
   have ex:∀zs:Array Value,Jt l zs.toList=true->zs.extract 0 (0+(T kt).size)=zs:=fun zs hz=>by
    have:=MA hz
    simp_all
   obtain⟨b,b1,b2⟩:=Wc hT w 8 kt l hl 10000 aa0 xs ys 0 (by simp_all) (by simp_all);simp only[Sem.run_bind,GJ hT w hd ha,Result.andThen_ok,ex _ hx,ex _ hy]at b1;rw[s0 _ hx,s0 _ hy]at b2;refine⟨b,b1,b2.trans ⟨fun e=>by simp_all,fun e=>by simp_all⟩⟩
  simp_all
 .rename_i SA;split at hs
  .rename_i l hl;cases hs;have Q0 : Jt l [x]=true:=by cases x<;>exact hx
   have hy' : Jt l [y]=true:=by cases y<;>exact hy
   have single:∀k,l=[k]->M9 k x=true/\M9 k y=true:=by
    grind [Jt]
   have e9:Op.equal kt x y=Op.equalIn (9999+1) kt x y:=rfl;rw[e9];unfold Hx at hl;split at hl
   .rename_i k hk;split at hl
    .cases hl
     obtain⟨h1,h2⟩:=single _ rfl;cases x<;>simp[M9]at h1
     cases y<;>simp[M9]at h2
     obtain rfl:=KL h1;obtain rfl:=KL h2;exact⟨_,run_equalIn_int w 9999 kt _ _ _ _ (hT.int hk),by simp⟩
    simp_all
   .rename_i hk;split at hl
    .cases hl
     obtain⟨h1,h2⟩:=single _ rfl;cases x<;>simp[M9]at h1
     cases y<;>simp[M9]at h2
     exact⟨_,run_equalIn_string w 9999 kt _ _ (hT.string hk),by grind [Jn]⟩
    simp_all
   .rename_i hk;split at hl
    .cases hl
     obtain⟨h1,h2⟩:=single _ rfl;cases x<;>simp[M9]at h1
     cases y<;>simp[M9]at h2
     exact⟨_,run_equalIn_bool' w 9999 kt _ _ (hT.bool hk),by simp⟩
    simp_all
   all_goals simp_all
  simp_all
theorem Mg(hs:HI T kt=some sh)(w:World)(b:Bool)(hx:W3 sh x=true):(Instr.checkKey b 10000 kt x).run P w=.ok () w:=by
 unfold HI at hs;split at hs
 .rename_i fs hk;split at hs
  .rename_i l hl;cases hs;cases x<;>simp only[W3]at hx<;>try simp_all
   rename_i xs;have hd:(T kt).d≠.other:=by simp_all
   have ha:Ju (T kt).d=true:=by rw[hk];rfl
   have Cy:l.length=(T kt).size:=by
    grind [Hx,Nat.eq_of_beq_eq_true]
   have:=MA hx
   have h0:Im xs.toList 0 l.length=xs.toList:=by
    grind [Im]
   have h1:=RN hT w b 8 kt l hl 10000 aa0 xs 0 (by simp_all)
   grind [J4,Sem.run_bind,GJ,Result.andThen_ok,Array.extract_size]
  simp_all
 .rename_i SA;split at hs
  .rename_i l hl;cases hs;have key:∀d,(Instr.checkKey b (d+1) kt x).run P w=.ok () w:=by
    intro d;unfold Hx at hl;split at hl
    .rename_i k hk;simp[Instr.checkKey,run_underlying (hT.int hk)]
    .rename_i hk;simp[Instr.checkKey,run_underlying (hT.string hk)]
    .rename_i hk;simp[Instr.checkKey,run_underlying (hT.bool hk)]
    all_goals simp_all
   simp_all
  simp_all
end
def Lx(x:Value)(es:List MapEntry)(i:Nat)(r:Option (Nat×Value)):Prop:=
 (r=none/\∀e∈es,e.key≠x)\/∃(j:Nat) (e:MapEntry),r=some (i+j,e.val)/\es[j]?=some e/\e.key=x
theorem Lx.here{es:List MapEntry}(h:e.key=x):Lx x (e::es) i (some (i,e.val)):=
 .inr ⟨0,e,rfl,rfl,h⟩
theorem Lx.there{es:List MapEntry}{r:Option (Nat×Value)}(h:e.key≠x)(k:Lx x es (i+1) r):Lx x (e::es) i r:=by
 rcases k with ⟨h1,h2⟩ | ⟨j,e',h1,h2,h3⟩
 .exact .inl ⟨h1,fun d hd=>(AN.1 hd).elim (fun e'=>e'▸h) (h2 d)⟩
 .exact .inr ⟨j+1,e',by grind,h2,h3⟩
theorem Sf{kind:TypeDesc}{x:Value}:∀(es:List MapEntry) (i:Nat),(∀e∈es,∃b,Instr.sameNow kind x e.key=some b/\(b=true↔x=e.key))->∃r,Instr.findNow kind x es i=some r/\Lx x es i r
 | [],i,_=>⟨none,rfl,.inl ⟨rfl,fun _ h=>by cases h⟩⟩
 |e::es,i,h=>by
  obtain⟨b,b1,b2⟩:=h e (Ai ..);cases b with
  |true=>exact⟨_,by grind [Instr.findNow],.here (b2.1 rfl).symm⟩
  |false=>
   obtain⟨r,r1,r2⟩:=Sf es (i+1) (fun d hd=>h d (At _ hd))<;>grind [Instr.findNow,Lx.there]
section
variable {P:Program}{T:GB}(hT:BY P T)
include hT
theorem M5{kt:Nat}{sh:EE}(hs:HI T kt=some sh)(w:World){x:Value}(hx:W3 sh x=true) :
  ∀(es:List MapEntry) (i:Nat),(∀e∈es,W3 sh e.key=true)->∃r,(Instr.findAsking kt x es i).run P w=.ok r w/\Lx x es i r
 | [],i,_=>⟨none,rfl,.inl ⟨rfl,fun _ h=>by cases h⟩⟩
 |e::es,i,h=>by
  obtain⟨b,b1,b2⟩:=lE hT hs w hx (h e (Ai ..));cases b with
  |true=>exact⟨_,by simp[Instr.findAsking,b1],.here (b2.1 rfl).symm⟩
  |false=>
   obtain⟨r,r1,r2⟩:=M5 hs w hx es (i+1) (fun d hd=>h d (At _ hd));exact⟨r,by simp[Instr.findAsking,b1,r1],.there (fun e'=>by simp_all) r2⟩
theorem NT(hs:HI T kt=some sh)(w:World)(hx:W3 sh x=true)(es:List MapEntry)(he:∀e∈es,W3 sh e.key=true) :
  ∃r,(Instr.findKey kt x es).run P w=.ok r w/\Lx x es 0 r:=by
 have xh:∀d,P.underlying kt=some d->Instr.findNow d x es 0=none->∃r,(Instr.findKey kt x es).run P w=.ok r w/\Lx x es 0 r:=by
  intro d hd hn;obtain⟨r,r1,r2⟩:=M5 hT hs w hx es 0 he;exact⟨r,by simp[Instr.findKey,run_underlying hd,hn,r1],r2⟩
 have now:∀d,P.underlying kt=some d->(∀e∈es,∃b,Instr.sameNow d x e.key=some b/\(b=true↔x=e.key))->∃r,(Instr.findKey kt x es).run P w=.ok r w/\Lx x es 0 r:=by
  intro d hd hn;obtain⟨r,r1,r2⟩:=Sf es 0 hn;exact⟨r,by simp[Instr.findKey,run_underlying hd,r1],r2⟩
 have fe:=hs;unfold HI at fe;split at fe
 .rename_i fs hk;obtain⟨fa,u1,_⟩:=hT.struct hk;cases es<;>grind [Instr.findNow,Instr.sameNow]
 .rename_i SA;split at fe
  .rename_i l hl;cases fe;have cv:∀y,W3 ⟨false,l⟩ y=true->Jt l [y]=true:=fun y hy=>by cases y<;>exact hy
   have Q0:=cv x hx;have zH : ∀e∈es,Jt l [e.key]=true:=fun e h=>cv _ (he e h)
   clear hx he cv
   have single:∀k y,l=[k]->Jt l [y]=true->M9 k y=true:=by
    grind [Jt]
   unfold Hx at hl;split at hl
   .rename_i k hk;split at hl
    .cases hl
     refine now _ (hT.int hk) (fun e h=>?_);have h1:=single _ _ rfl Q0;have h2:=single _ _ rfl (zH e h);generalize e.key=y at h2;cases x<;>simp[M9]at h1
     cases y<;>simp[M9]at h2
     obtain rfl:=KL h1;obtain rfl:=KL h2;exact⟨_,by simp[Instr.sameNow];rfl,by simp⟩
    simp_all
   .rename_i hk;split at hl
    .cases hl
     refine now _ (hT.string hk) (fun e h=>?_);have h1:=single _ _ rfl Q0;have h2:=single _ _ rfl (zH e h);generalize e.key=y at h2;cases x<;>simp[M9]at h1
     cases y<;>simp[M9]at h2
     exact⟨_,by simp[Instr.sameNow];rfl,by grind [beq_toListBytes,Jn]⟩
    simp_all
   .rename_i hk;split at hl
    .cases hl
     refine now _ (hT.bool hk) (fun e h=>?_);have h1:=single _ _ rfl Q0;have h2:=single _ _ rfl (zH e h);generalize e.key=y at h2;cases x<;>simp[M9]at h1
     cases y<;>simp[M9]at h2
     exact⟨_,by simp[Instr.sameNow];rfl,by simp⟩
    simp_all
   all_goals simp_all
  simp_all
end
theorem QM{P:Program}(w:World)(hx:W3 sh x=true):(Instr.keyThatStays x x).run P w=.ok x w:=by
 have scalar:∀(k:KS) (y:Value) (n:Nat),M9 k y=true->Instr.sameBits n y y=true:=by
  intro k y n h;cases k<;>cases y<;>simp[M9]at h<;>cases n<;>simp[Instr.sameBits,beq_toListBytes]
 have lst:∀(l:List KS) (ys:List Value) (n:Nat),Jt l ys=true->((ys.zip ys).all fun(a,b)=>Instr.sameBits n a b)=true:=by
  intro l ys n
  induction ys generalizing l with
  |nil=>simp_all
  |cons y ys ih=>
   grind [List.zip_cons_cons,Jt.eq_def]
 have h1:∀n,Instr.sameBits (n+1) x x=true:=by
  intro n;obtain⟨ag,l⟩:=sh;cases ag with
  |true=>
   cases x<;>simp only[W3]at hx<;>try simp_all
   have:=lst l _ n hx
   grind [Instr.sameBits]
  |false=>
   have Q0 : Jt l [x]=true:=by cases x<;>exact hx
   grind [Jt.eq_def]
 have:=h1 9999
 simp only[Instr.keyThatStays];simp_all
theorem VE:∀{cs:List AV} {l:List Value},W8 cs=some l->cs=l.map .v
 | [],l,h=>by cases h;rfl
 |a::r,l,h=>by
  cases a<;>simp only[W8]at h<;>try (cases h;done)
  split at h
  .rename_i l' hl;cases h;rw[VE hl];rfl
  simp_all
theorem ol(h:A5 g w U a x)(hk:rF a=some y):x=y:=by
 unfold rF at hk;split at hk
 .grind [A5.v_eq]
 .split at hk
  .rename_i l hl;cases hk;obtain rfl:=VE hl;exact h.agg_vals
  simp_all
 simp_all
theorem Mz{T:GB}{ty:Nat}{K:Value->Prop}(h:A5 g w U a x)(hk:JY T ty sh a K) :
  ∃kt e,(T ty).d=.map kt e/\HI T kt=some sh/\W3 sh x=true/\K x:=by
 unfold JY at hk
 grind [oV,ol]
theorem Ha.shape(h:Ha sh es ck BN):∀e∈es.toList,W3 sh e.key=true:=by
 intro e he;obtain⟨h1,h2,h3,_⟩:=h;obtain⟨i,hi⟩:=EK.1 he;have Fp:i<BN.length:=by grind
 rw[h2 i BN[i] e (AI Fp) (by simp_all)]
 grind
theorem Ha.none(h:Ha sh es ck BN)(hn:∀e∈es.toList,e.key≠x)(a:AV):(x,a)∉BN:=by
 intro hm;obtain⟨h1,h2,_⟩:=h;obtain⟨i,hi⟩:=EK.1 hm;have Fp:i<es.size:=by grind
 exact hn es[i] aa1 (h2 i _ es[i] hi (by simp_all))
theorem Ha.some{sh:EE}{es:Array MapEntry}{ck:Nat}{BN:List (Value×AV)}(h:Ha sh es ck BN){x:Value}{j:Nat}{e:MapEntry}(he:es.toList[j]?=some e)(hk:e.key=x) :
  ∃a,BN[j]?=some (x,a)/\(x,a)∈BN:=by
 obtain⟨h1,h2,_⟩:=h;have Fp:j<BN.length:=by grind
 have hg:BN[j]?=Option.some BN[j]:=AI Fp
 grind
section
variable {P:Program}{T:GB}(hT:BY P T){h:Nat->HO}{g:Gh}{w:World}{K:AV->Prop}
section
include hT
theorem VG{t:Nat}(hk:J0 T t K):Bp P h g w (zeroValue t) K:=by
 unfold J0 at hk;split at hk
 .simp_all
 .rename_i hd;obtain⟨z,z1,z2,z3⟩:=Mk hT (w:=w) hd;rw[z3]at hk;split at hk
  .rename_i cs;split at hk
   .rename_i ha;have hr:=B2.vals (g:=g) (w:=w) (U:=used h) ha;exact⟨_,_,z1,hk,.agg _ _ _ aa1 (fun i x hx=>hr.2.1 x (AO (by simpa using hx))) (fun i av x h1 h2=>hr.2.2 i av x h1 (by simp_all))⟩
   simp_all
  .exact⟨_,_,z1,hk,.v _ _⟩
theorem JJ{ty b:Nat}{kt e:Nat}{ck:Nat}{BN:List (Value×AV)}(ht:(T ty).d=.map kt e)(hs:HI T kt=some sh)(hx:W3 sh x=true)(hb:w.heap[b]?=some (.map es ck))(hm:Ha sh es ck BN)(hv:∀(i:Nat) (kv:Value×AV) (e:MapEntry),BN[i]?=some kv->es[i]?=some e->A5 g w (used h) kv.2 e.val)(hk:LM T ty ok BN x K):Bp P h g w (Instr.lookup ty (.map (some b)) x ok) K:=by
 have hu:=hT.map ht;have GR:=run_getObj_map (P:=P) w b es ck hb;have M8:=fun bb=>Mg hT hs w bb hx;obtain⟨r,r1,r2⟩:=NT hT hs w hx es.toList hm.shape;unfold LM at hk;rw[ht]at hk;dsimp only at hk;rcases r2 with ⟨rfl,hn⟩ | ⟨j,en,rfl,hj,Wx⟩
 .have l6:=fun a=>hm.none hn a;cases ok with
  |true=>
   obtain⟨y,av,y1,y2,y3⟩:=VG hT (K:=fun z=>K (.tup [z,.v (.bool false)])) (P:=P) (h:=h) (g:=g) (w:=w) (hk.2 l6);refine⟨.tuple #[y,.bool false],_,?_,y2,.tup _ _ _ rfl (fun i a x h1 h2=>?_)⟩
   .simp[Instr.lookup,run_underlying hu,GR,M8,r1,y1]
   grind [A5.v]
  |false=>
   obtain⟨y,av,y1,y2,y3⟩:=VG hT (K:=K) (P:=P) (h:=h) (g:=g) (w:=w) (hk.2 l6);exact⟨y,av,by simp[Instr.lookup,run_underlying hu,GR,M8,r1,y1],y2,y3⟩
 .obtain⟨a,a1,a2⟩:=hm.some hj Wx;have hr:=hv j (x,a) en a1 (by simp_all);cases ok with
  |true=>
   refine⟨.tuple #[en.val,.bool true],_,?_,hk.1 a a2,.tup _ _ _ rfl (fun i av y h1 h2=>?_)⟩
   .simp[Instr.lookup,run_underlying hu,GR,M8,r1]
   grind [A5.v]
  |false=>exact⟨en.val,a,by simp[Instr.lookup,run_underlying hu,GR,M8,r1],hk.1 a a2,hr⟩
theorem aX(ho:∀r,DB g w (used h) r (h r)){ty:Nat}{m k:AV}{vm vk:Value}(hm:A5 g w (used h) m vm)(hx:A5 g w (used h) k vk)(hk:MD T h ty m k ok K) :
  Bp P h g w (Instr.lookup ty vm vk ok) K:=by
 unfold MD at hk;split at hk
 .obtain⟨kt,e,k1,k2,k3,k4⟩:=Mz hx hk;cases hm with
  |cmap _ _ _ b es ck hS hb gS hv=>exact JJ hT k1 k2 k3 hb gS (fun i kv e p q=>(hv i kv e p q).up _) k4
 .rename_i r;have hr:=ho r;cases hm with
  |mref _ _ b hu ht hp=>
   split at hk
   .rename_i sh BN e;rw[e]at hr;obtain⟨_,b',es,ck,a1,a2,a3,a4,a5,a6⟩:=hr<;>grind [Mz,JJ,A5.up]
   .rename_i sh BN e;rw[e]at hr;obtain⟨_,b',es,ck,a1,a2,a3,a4,a5,a6⟩:=hr<;>grind [Mz,JJ]
   .rename_i sh BN e;rw[e]at hr;obtain⟨_,b',a1,a2⟩:=hr;rw[a1]at hp;cases hp;obtain⟨kt,e,k1,k2,k3,k4⟩:=Mz hx hk;cases a2 with
    |cmap _ _ _ _ es ck hS hb gS hv=>exact JJ hT k1 k2 k3 hb gS (fun i kv e p q=>(hv i kv e p q).up _) k4
   simp_all
 simp_all
omit hT in
theorem jg{ty:Nat}{BN:List (Value×AV)}{kx:Value}(hk:LK T ty ok BN kx K):LM T ty ok BN kx K:=by
 unfold LK at hk;unfold LM;split at hk
 all_goals grind
omit hT in
theorem fq{ty:Nat}{k:AV}{A B:Value->Prop}(hk:JY T ty sh k A)(hab:∀x,A x->B x):JY T ty sh k B:=by
 grind [JY]
omit hT in
theorem fy{ty:Nat}{m k:AV}(hk:MC T h ty m k ok K):MD T h ty m k ok K:=by
 unfold MC at hk
 grind [MD,fq,jg]
theorem ks(ho:∀r,DB g w (used h) r (h r)){t ty:Nat}{x:AV}(hx:A5 g w (used h) x vx)(hk:Qz T t h x K):Bp P h g w (Builtin.len_ #[t] ty #[vx]) K:=by
 unfold Qz at hk;split at hk
 .rename_i e ht;have hu:=hT.slice ht;have run:∀a n c,(Builtin.len_ #[t] ty #[.slice a n c]).run P w=.ok (.int .i64 n) w:=fun a n c=>by simp[Builtin.len_,run_underlying hu,goInt]
  split at hk
  .have hs:=hx.slice_none;cases hs with
   |snil _ a cap=>exact⟨_,_,run a 0 cap,hk,.v _ _⟩
   |slice _ _ b off sz cap val hc=>exact⟨_,_,run _ _ _,hk,.v _ _⟩
  .cases hx with
   |msl=>exact⟨_,_,run _ _ _,hk,.v _ _⟩
  .obtain rfl:=hx.v_eq;exact⟨_,_,run _ _ _,hk,.v _ _⟩
  simp_all
 .rename_i ht;split at hk
  .obtain rfl:=hx.v_eq;exact⟨_,_,by simp[Builtin.len_,run_underlying (hT.string ht),goInt],hk,.v _ _⟩
  simp_all
 .rename_i k e ht;have hu:=hT.map ht;have run:∀b es ck,w.heap[b]?=some (.map es ck)->(Builtin.len_ #[t] ty #[.map (some b)]).run P w=.ok (.int .i64 es.size) w:=fun b es ck hb=>by
   simp[Builtin.len_,run_underlying hu,goInt,run_getObj_map (P:=P) w b es ck hb]
  split at hk
  .cases hx with
   |cmap _ _ _ b es ck hS hb gS hv=>exact⟨_,_,run b es ck hb,by rw[gS.1];exact hk,.v _ _⟩
  .rename_i r;have hr:=ho r;cases hx with
   |mref _ _ b fg ZE hp=>
    split at hk
    .rename_i sh BN e;rw[e]at hr;obtain⟨_,b',es,ck,a1,a2,a3,a4,a5,a6⟩:=hr;rw[a2]at hp;cases hp;exact⟨_,_,run _ es ck a3,by rw[a4.1];exact hk,.v _ _⟩
    .rename_i sh BN e;rw[e]at hr;obtain⟨_,b',es,ck,a1,a2,a3,a4,a5,a6⟩:=hr;rw[a2]at hp;cases hp;exact⟨_,_,run _ es ck a3,by rw[a4.1];exact hk,.v _ _⟩
    .rename_i sh BN e;rw[e]at hr;obtain⟨_,b',a1,a2⟩:=hr;rw[a1]at hp;cases hp;cases a2 with
     |cmap _ _ _ _ es ck hS hb gS hv=>exact⟨_,_,run _ es ck hb,by rw[gS.1];exact hk,.v _ _⟩
    simp_all
  simp_all
 simp_all
end
theorem WK(ho:∀r,DB g w (used h) r (h r)){t:Nat->AV}(ht:∀x:Operand,A5 g w (used h) (ev t x) (ρ x)){fn:Fn}{first cap:Array Operand}(hk:Kj t h fn first.toList cap.toList K) :
  Bp P h g w (Instr.makeFunc fn (first.map ρ) (cap.map ρ)) K:=by
 unfold Kj at hk;split at hk
 .rename_i f e;have hf:first=#[]:=by
   simp_all
  subst hf;refine⟨_,_,rfl,hk,?_⟩
  grind [A5.clo,A5.rsv]
 simp_all
theorem WN{x:AV}(hx:A5 g w (used h) x vx)(hk:Ko x K){pos:String}{after:Array Edge}{gd:Option (Nat×Bool)}{dst:Option Tmp}{ty:Nat}{X:Operand}(hX:ρ X=vx) :
  (execOp ρ ⟨dst,.nilCheck X,ty,pos,after,gd⟩).run P w=.ok (.value vx) w/\K x:=by
 subst hX;unfold Ko at hk;split at hk
 all_goals first
  |exact hk.elim
  |(refine⟨?_,hk⟩;generalize hq:ρ X=q at hx;cases hx;simp[execOp,hq];done)
theorem eE(ho:∀r,DB g w (used h) r (h r)){x:AV}(hx:A5 g w (used h) x vx)(hk:am h x K):Bp P h g w (Instr.entry vx) K:=by
 unfold am at hk;split at hk
 .rename_i r;have hr:=ho r;split at hk
  .rename_i all rem kv e;rw[e]at hr;cases hx with
   |ref _ _ _ b hu ht hp=>
    obtain⟨_,b',mb,JP,seen,st,es,ck,a1,a2,a3,a4,a5,⟨sh,a6⟩,a7,a8,a9,Xu,bL,a12,pZ⟩:=hr;rw[a2]at hp;cases hp;obtain⟨i,en,c1,c2,c3⟩:=a12;have uW:es.find? (fun e=>e.born == en.born)=some en:=by
     rw[Array.find?_eq_some_iff_getElem];obtain⟨Fp,he⟩:=B6.1 c2;refine⟨by simp,i,Fp,he,fun j hj=>?_⟩;have zX : j<es.size:=by omega
     simp only[J3,beq_eq_false_iff_ne,ne_eq];intro e'
     have:=a6.2.2.2.2.2 j i es[j] en (by simp_all) c2 e'
     omega
    have Wx:=a6.2.1 i kv en c1 c2;refine⟨.tuple #[en.key,en.val],_,?_,hk,.tup _ _ _ rfl (fun k av y h1 h2=>?_)⟩
    .have jQ:(getObj b).run P w=.ok (.mapIter (some mb) JP seen st) w:=by grind [getObj,Sem.run]
     have qV:=run_getObj_map (P:=P) w mb es ck a5;simp[Instr.entry,jQ,c3,qV,a8,uW]
    grind [A5.v,A5.up]
  simp_all
 simp_all
end
def Nk(h:Nat->HO)(g:Gh)(w:World)(m:Sem Value)(K:HK):Prop:=
 ∃x w' g' av h',m.run P w=.ok x w'/\K av h'/\Cv w0 g0 h0 h' g' w'/\Le h g w h' g' w'/\A5 g' w' (used h') av x
def gZ(h:Nat->HO)(g:Gh)(w:World)(m:Sem Unit)(K:HK):Prop:=
 ∃w' g' h',m.run P w=.ok () w'/\K (.v undef) h'/\Cv w0 g0 h0 h' g' w'/\Le h g w h' g' w'
section
variable {P:Program}{w0:World}{g0:Gh}{h0 h:Nat->HO}{g:Gh}{w:World}(hI:Cv w0 g0 h0 h g w)
include hI
theorem Bp.does{m:Sem Value}{K:HK}(hg:Bp P h g w m (fun v=>K v h)):Nk P w0 g0 h0 h g w m K:=
 let ⟨x,av,h1,h2,h3⟩:=hg
 ⟨x,w,g,av,h,h1,h2,hI,.refl _ _ _,h3⟩
theorem Cv.newOwn{d:Nat}(hd:h d=.free)(o' : HO)(ob:Obj)(x:Value)(n:Nat)(t:Bool)(w1:World)(UR:w1.heap=w.heap/\w1.os=w.os/\w1.tape=w.tape/\w1.output=w.output)(Fi:o'≠.free)
  (Lq:JS g (g.upd d x n t (some w.heap.size) g.S) (used h)->ED g w (g.upd d x n t (some w.heap.size) g.S) (w1.alloc ob) ->
   DB (g.upd d x n t (some w.heap.size) g.S) (w1.alloc ob) (used (AJ h d o')) d o') :
  Cv w0 g0 h0 (AJ h d o') (g.upd d x n t (some w.heap.size) g.S) (w1.alloc ob)/\Le h g w (AJ h d o') (g.upd d x n t (some w.heap.size) g.S) (w1.alloc ob):=by
 refine hI.upd d o' x n t _ _ _ none ⟨UR.2.1,UR.2.2.1,UR.2.2.2,by simp_all⟩ (fun k hk _=>?_) (fun b e=>by cases e) (fun _ _ h=>h) (fun _ _ h=>.inl h) (fun b o e=>by cases e)
  (fun b _ e=>?_) Fi (fun hu=>absurd hd hu) Lq
 all_goals grind [heap_alloc_old,World.size_alloc]
def Gh.more(g:Gh)(b n:Nat):Nat->Nat->Prop:=fun b' o=>g.S b' o\/(b'=b/\o<n)
theorem Cv.newStable{d:Nat}(hd:h d=.free)(o' : HO)(vs:Array Value)(E:TypeId)(m:Nat)(x:Value)(n:Nat)(t:Bool)(w1:World)(UR:w1.heap=w.heap/\w1.os=w.os/\w1.tape=w.tape/\w1.output=w.output)(Fi:o'≠.free)
  (Lq:JS g (g.upd d x n t none (g.more w.heap.size m)) (used h)->ED g w (g.upd d x n t none (g.more w.heap.size m)) (w1.alloc (.cells vs E (0,0))) ->
   DB (g.upd d x n t none (g.more w.heap.size m)) (w1.alloc (.cells vs E (0,0))) (used (AJ h d o')) d o') :
  Cv w0 g0 h0 (AJ h d o') (g.upd d x n t none (g.more w.heap.size m)) (w1.alloc (.cells vs E (0,0))) /\
   Le h g w (AJ h d o') (g.upd d x n t none (g.more w.heap.size m)) (w1.alloc (.cells vs E (0,0))):=by
 refine hI.upd d o' x n t _ _ _ none ⟨UR.2.1,UR.2.2.1,UR.2.2.2,by simp_all⟩ (fun k hk _=>?_) (fun b e=>by cases e) (fun _ _ h=>.inl h) (fun b o hb=>?_) (fun b o e=>by cases e)
  (fun b _ e=>by cases e) Fi (fun hu=>absurd hd hu) Lq
 .grind [heap_alloc_old]
 .rcases hb with hb | ⟨rfl,_⟩<;>simp_all
end
theorem Bi(g:Gh)(r:Nat)(x:Value)(n:Nat)(t:Bool)(o:Option Nat)(S:Nat->Nat->Prop) :
  (g.upd r x n t o S).ρ r=x/\(g.upd r x n t o S).ln r=n/\(g.upd r x n t o S).tk r=t/\(g.upd r x n t o S).own r=o:=by simp[Gh.upd]
theorem GX(w:World)(o:Obj)(hb:b=w.heap.size):(w.alloc o).heap[b]?=some o:=by grind [heap_alloc_new]
theorem A5.cptr_row{E:TypeId}(hb:w.heap[b]?=some (.cells vs E f))(hr:B2 g w EZ cs vs.toList)(hS:∀o,o<cs.length->g.S b o):A5 g w U (.cptr cs) (.pointer (some ⟨b,0,none⟩)):=by
 refine .cptr U cs b 0 (fun j=>vs[j]?.getD default) (fun j av hj=>?_) (fun j av hj=>?_)
 .grind [FS,B2.at]
 .obtain⟨x,x1,x2,x3⟩:=hr.at hj;rw[Co]at x1;rw[x1];exact x3
theorem A5.slice_off{off:Nat}{es:List (List AV)}{E:TypeId}(hb:w.heap[b]?=some (.cells vs E f))(hl:∀cs∈es,cs.length=sz)(hc:es.length<=cap)(hr:B2 g w EZ es.flatten ((vs.toList.drop off).take (es.length*sz)))(hS:∀o,o<es.length*sz->g.S b (off+o)):A5 g w U (.slice .none es) (.slice (some ⟨b,off,none⟩) es.length cap):=by
 have key:∀(i:Nat) (cs:List AV) (j:Nat) (av:AV),es[i]?=some cs->cs[j]?=some av->∃x,vs[off+(i*sz+j)]?=some x/\x.oneCell'=true/\A5 g w EZ av x/\i*sz+j<es.length*sz:=by
  intro i cs j av h1 h2;have TY:=hl cs (AO h1);have hj:j<sz:=by grind
  have hi:=(AR.1 h1).1;have Fp:i*sz+j<es.length*sz:=by
   have:=By sz (show i+1<=es.length from hi)
   grind
  have hf:=Fa hl h1 hj
  grind [B2.at]
 refine .slice U es b off sz cap (fun i j=>vs[off+(i*sz+j)]?.getD default) hc (fun i cs h=>hl cs (AO h)) (fun i cs j av h1 h2=>?_) (fun i cs j av h1 h2=>?_)
 .grind [FS]
 .obtain⟨x,x1,x2,x3,x4⟩:=key i cs j av h1 h2;rw[x1];exact x3
theorem A5.slice_row{es:List (List AV)}{E:TypeId}(hb:w.heap[b]?=some (.cells vs E f))(hl:∀cs∈es,cs.length=sz)(hc:es.length<=cap)(hr:B2 g w EZ es.flatten (vs.toList.take (es.length*sz)))(hS:∀o,o<es.length*sz->g.S b o):A5 g w U (.slice .none es) (.slice (some ⟨b,0,none⟩) es.length cap):=by
 have key:∀(i:Nat) (cs:List AV) (j:Nat) (av:AV),es[i]?=some cs->cs[j]?=some av->∃x,vs[i*sz+j]?=some x/\x.oneCell'=true/\A5 g w EZ av x/\i*sz+j<es.length*sz:=by
  intro i cs j av h1 h2;have TY:=hl cs (AO h1);have hj:j<sz:=by grind
  have hi:=(AR.1 h1).1;have Fp:i*sz+j<es.length*sz:=by
   have:=By sz (show i+1<=es.length from hi)
   grind
  have hf:=Fa hl h1 hj
  grind [B2.at]
 refine .slice U es b 0 sz cap (fun i j=>vs[i*sz+j]?.getD default) hc (fun i cs h=>hl cs (AO h)) (fun i cs j av h1 h2=>?_) (fun i cs j av h1 h2=>?_)
 .grind [FS]
 .obtain⟨x,x1,x2,x3,x4⟩:=key i cs j av h1 h2;rw[x1];exact x3
section
variable {P:Program}{w0:World}{g0:Gh}{h0 h:Nat->HO}{g:Gh}{w:World}
theorem QF(hI:Cv w0 g0 h0 h g w){d:Nat}(hd:h d=.free)(E:TypeId)(hr:B2 g w (used h) cs vs.toList) :
  ∃g',Cv w0 g0 h0 (AJ h d (.cells cs)) g' (w.alloc (.cells vs E (0,0)))/\Le h g w (AJ h d (.cells cs)) g' (w.alloc (.cells vs E (0,0))) /\
   A5 g' (w.alloc (.cells vs E (0,0))) (used (AJ h d (.cells cs))) (.ref d 0) (.pointer (some ⟨w.heap.size,0,none⟩)):=by
 obtain⟨k1,k2⟩:=hI.newOwn hd (.cells cs) (.cells vs E (0,0)) (.pointer (some ⟨w.heap.size,0,none⟩)) 0 false w ⟨rfl,rfl,rfl,rfl⟩ aa1 (fun hg hk=>by
  obtain⟨u1,u2,u3,u4⟩:=Bi g d (.pointer (some ⟨w.heap.size,0,none⟩)) 0 false (some w.heap.size) g.S;exact⟨u3,w.heap.size,E,vs,u4,u1,GX w _ rfl,hr.mono hk (fun i hi=>Do aa1 i hi) hg,fun o ho=>by have:=hI.slt _ _ ho;omega⟩)
 refine⟨_,k1,k2,.ref _ d 0 w.heap.size (by unfold used;rw[AX];simp) ?_ ?_⟩
 .simp[Gh.upd]
 .simp[Gh.upd]
theorem kH(hI:Cv w0 g0 h0 h g w){d:Nat}(hd:h d=.free)(E:TypeId)(hr:B2 g w EZ cs vs.toList) :
  ∃g',Cv w0 g0 h0 (AJ h d (.ro cs)) g' (w.alloc (.cells vs E (0,0)))/\Le h g w (AJ h d (.ro cs)) g' (w.alloc (.cells vs E (0,0))) /\
   A5 g' (w.alloc (.cells vs E (0,0))) (used (AJ h d (.ro cs))) (.ref d 0) (.pointer (some ⟨w.heap.size,0,none⟩)):=by
 obtain⟨k1,k2⟩:=hI.newStable hd (.ro cs) vs E cs.length (.pointer (some ⟨w.heap.size,0,none⟩)) 0 false w ⟨rfl,rfl,rfl,rfl⟩ aa1 (fun hg hk=>by
  obtain⟨u1,u2,u3,u4⟩:=Bi g d (.pointer (some ⟨w.heap.size,0,none⟩)) 0 false none (g.more w.heap.size cs.length);exact⟨u3,w.heap.size,u1,A5.cptr_row (GX w _ rfl) (hr.mono hk (fun _ h=>h) (fun _ h=>h.elim)) (fun o ho=>.inr ⟨rfl,ho⟩)⟩)
 refine⟨_,k1,k2,.ref _ d 0 w.heap.size (by unfold used;rw[AX];simp) ?_ ?_⟩
 .simp[Gh.upd]
 .simp[Gh.upd]
theorem JM(hI:Cv w0 g0 h0 h g w){cx:Cx}{d:Option Nat}{sz:Nat}{es:List (List AV)}{K:HK}(hk:EI cx d h sz es K){cap:Nat}(E:TypeId)(hl:∀cs∈es,cs.length=sz)(hc:es.length<=cap)(hs:vs.size=cap*sz)(hr:B2 g w EZ es.flatten (vs.toList.take (es.length*sz)))(w1:World)(UR:w1.heap=w.heap/\w1.os=w.os/\w1.tape=w.tape/\w1.output=w.output) :
  ∃g' av h',K av h'/\Cv w0 g0 h0 h' g' (w1.alloc (.cells vs E (0,0)))/\Le h g w h' g' (w1.alloc (.cells vs E (0,0))) /\
   A5 g' (w1.alloc (.cells vs E (0,0))) (used h') av (.slice (some ⟨w.heap.size,0,none⟩) es.length cap):=by
 have Et:(w1.alloc (.cells vs E (0,0))).heap[w.heap.size]?=some (.cells vs E (0,0)):=GX w1 _ (by simp_all);unfold EI at hk;split at hk
 .simp_all
 .rename_i d;generalize JW cx d=d1 at hk;split at hk
  .rename_i hd;split at hk
   .obtain⟨k1,k2⟩:=hI.newOwn hd (.arr sz es) (.cells vs E (0,0)) (.slice (some ⟨w.heap.size,0,none⟩) es.length cap) es.length true w1 UR aa1 (fun hg HP=>by
     obtain⟨u1,u2,u3,u4⟩:=Bi g d1 (.slice (some ⟨w.heap.size,0,none⟩) es.length cap) es.length true (some w.heap.size) g.S;exact⟨u3,u2,hl,.inr ⟨w.heap.size,cap,E,vs,u1,u4,hc,Et,hs,hr.mono HP (fun _ h=>h) (fun _ h=>h.elim),fun o ho=>by have:=hI.slt _ _ ho;omega⟩⟩)
    refine⟨_,_,_,hk,k1,k2,.msl _ d1 es.length _ cap (by unfold used;rw[AX];simp) ?_ ?_ (.inr ⟨_,rfl⟩) ?_⟩<;>simp[Gh.upd]
   .by_cases jP:es.length=cap
    .obtain⟨k1,k2⟩:=hI.newStable hd (.tok sz es.length) vs E (es.length*sz) (.slice (some ⟨w.heap.size,0,none⟩) es.length cap) es.length true w1 UR aa1 (fun hg HP=>by
      obtain⟨u1,u2,u3,u4⟩:=Bi g d1 (.slice (some ⟨w.heap.size,0,none⟩) es.length cap) es.length true none (g.more w.heap.size (es.length*sz));exact⟨u3,u2,_,cap,u1,.inl ⟨jP,u4⟩⟩)
     refine⟨_,_,_,hk,k1,k2,.tok _ d1 sz es _ (A5.slice_row Et hl hc (hr.mono k2.keeps (fun _ h=>h) (fun _ h=>h.elim)) (fun o ho=>.inr ⟨rfl,ho⟩)) hl (by grind [used,AX]) ?_ ?_ ?_⟩<;>simp[Gh.upd]
    .have zC:=hI.upd d1 (.tok sz es.length) (.slice (some ⟨w.heap.size,0,none⟩) es.length cap) es.length true (some w.heap.size) (g.more w.heap.size (es.length*sz)) (w1.alloc (.cells vs E (0,0))) none
      ⟨UR.2.1,UR.2.2.1,UR.2.2.2,by simp_all⟩ (fun k hk' _=>by grind [heap_alloc_old]) (fun b e=>by cases e) (fun _ _ h=>.inl h)
      (fun b o hb=>by
       rcases hb with hb | ⟨rfl,_⟩<;>simp_all) (fun b o e=>by cases e)
      (fun b _ e=>by simp_all) aa1 (fun hu=>absurd hd hu) (fun hg HP=>by
       obtain⟨u1,u2,u3,u4⟩:=Bi g d1 (.slice (some ⟨w.heap.size,0,none⟩) es.length cap) es.length true (some w.heap.size) (g.more w.heap.size (es.length*sz));exact⟨u3,u2,_,cap,u1,.inr ⟨hc,w.heap.size,E,vs,0,rfl,u4,.of Et,by omega,fun o ho=>by
        rcases ho with ho | ⟨_,ho⟩
        .have:=hI.slt _ _ ho;omega
        .omega⟩⟩)
     obtain⟨k1,k2⟩:=zC;refine⟨_,_,_,hk,k1,k2,.tok _ d1 sz es _ (A5.slice_row Et hl hc (hr.mono k2.keeps (fun _ h=>h) (fun _ h=>h.elim)) (fun o ho=>.inr ⟨rfl,ho⟩)) hl (by grind [used,AX]) ?_ ?_ ?_⟩<;>simp[Gh.upd]
  .exact hk.elim
end
end Go.Eng
