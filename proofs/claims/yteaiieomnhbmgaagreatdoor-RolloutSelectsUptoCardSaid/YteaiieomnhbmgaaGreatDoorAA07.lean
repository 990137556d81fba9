/- Lemmas 7. -/
import Derived.Test.YteaiieomnhbmgaaGreatDoorAA06
import Derived.Laws.IdiomStrings
namespace Go.Eng
variable {Ep:Array Value}{E:TypeId}{vx:Value}{olds:List Value}{K:HK}{es:C0}{x:Value}{cx:Cx}{α:Type}{U:Nat->Prop}{e:Nat}{T:GK}{g:Gh}(n:Nat)
theorem No{α:Type}:∀(cs:List α) (o:Nat) (vs:List α),o+vs.length<=cs.length->over cs o vs=cs.take o++vs++cs.drop (o+vs.length)
 | [],o,vs,h=>by
  simp at h;obtain⟨rfl,rfl⟩:=h
  rfl
 |c::cs,o+1,vs,h=>by
  rw[over,No cs o vs aa0]
  grind
 |c::cs,0,[],h=>by simp[over]
 |c::cs,0,v::vs,h=>by
  rw[over,No cs 0 vs B0];simp
theorem WZ(cs:List α)(o n:Nat)(vs:List α)(h:o+vs.length<=n)(hn:n<=cs.length):(over cs o vs).take n=over (cs.take n) o vs:=by
 apply Da
 grind [GD]
theorem Mx{n:Nat}:∀{es:List (List α)},(∀c∈es,c.length=n)->∀{i:Nat} {c:List α},es[i]?=some c->∀(o:Nat) (vs:List α),o+vs.length<=n ->
  (es.set i (over c o vs)).flatten=over es.flatten (i*n+o) vs
 | [],_,i,c,h,_,_,_=>by simp_all
 |d::es,hl,i,c,h,o,vs,Jk=>by
  have hd:=hl d (Ah ..);have hfl:=Dv (es:=d::es) (n:=n) hl;have EU:=(Bf.1 h).1;have AfD:i*n+o+vs.length<=(d::es).flatten.length:=by
   rw[hfl]
   have:=Bl n (show i+1<=(d::es).length from EU)
   grind
  have hcl:=hl c (AG h);apply Da;intro j;rw[GD _ _ _ _ AfD];have Oe:∀e∈(d::es).set i (over c o vs),e.length=n:=fun e he=>by
   rcases List.mem_or_eq_of_mem_set he with he | rfl
   .grind
   .rw[Ga];exact hcl
  by_cases hn:n=0
  .subst hn;have h1:=Dv Oe;simp_all
  .have hdm:j=j / n*n+j % n:=by rw[Nat.mul_comm];exact(Nat.div_add_mod j n).symm
   have Ab5:j % n<n:=Nat.mod_lt _ ch
   by_cases hj:j / n<(d::es).length
   .have g1:(d::es)[j / n]?=some ((d::es)[j / n]):=A0 hj;have g2:((d::es).set i (over c o vs))[j / n]?=some (if i=j / n then over c o vs else(d::es)[j / n]):=by
     grind
    have f1:=Fu hl g1 Ab5;have f2:=Fu Oe g2 Ab5;rw[<-hdm]at f1 f2;rw[f1,f2];split
    .rename_i e;rw[e]at h;rw[g1]at h;cases h;rw[GD _ _ _ _ ch];have e2:i*n+o<=j↔o<=j % n:=by rw[e];omega
     have e3:j<i*n+o+vs.length↔j % n<o+vs.length:=by rw[e];omega
     simp only[e2,e3];split
     .congr 1;rw[e];omega
     .rfl
    .rename_i e
     have:¬(i*n+o<=j/\j<i*n+o+vs.length):=by
      rintro⟨q1,q2⟩
      apply e;have a1:i*n<=j:=ch
      have a2:j<(i+1)*n:=aa0
      have:=(Nat.le_div_iff_mul_le ch).2 a1
      have:=(Nat.div_lt_iff_lt_mul ch).2 a2
      omega
     grind
   .have hge:(d::es).length*n<=j:=by
     have:=Nat.not_lt.1 hj
     have:=(Nat.le_div_iff_mul_le ch).1 this
     omega
    have:¬(i*n+o<=j/\j<i*n+o+vs.length):=ch
    rw[AA this,List.getElem?_eq_none (by rw[Dv Oe,JX];exact hge),List.getElem?_eq_none ch]
theorem Qf{P:Program}(hT:Ca P T)(w:World){t b off:Nat}(hd:(T t).d≠.other)(hs:x.cells.toList.length=(T t).size)(h1:∀v∈x.cells.toList,v.oneCell'=true)(hb:w.heap[b]?=some (.cells Ep E (0,0)))(Jk:off+x.cells.toList.length<=Ep.size) :
  (Instr.storeAt t (.pointer (some ⟨b,off,none⟩)) x).run P w=.ok () (w.setRow b (over Ep.toList off x.cells.toList).toArray):=by
 have KP:=run_storeCells_at P b off E x.cells.toList 0 Ep w hb ch h1;simp only[HD]at KP;have jD : x.cells.size=(T t).size:=ch
 rw[No _ _ _ ch];simp only[Instr.storeAt,Sem.run_bind,Instr.sureAddr,Sem.run_pure,Result.andThen_ok,storeVar,hT.size w hd,jD,ne_eq,not_true_eq_false,if_false];exact KP
section
variable {P:Program}{w0:World}{g0:Gh}{h0 h:Nat->HO}{g:Gh}{w:World}(hI:CU w0 g0 h0 h g w)
include hI
theorem iR{d:Nat}(hd:h d=.free)(h1:h 1001=.free)(hn:d≠1001){vs:Array Value}(hv:vs=#[.pointer none,.slice none 0 0]) :
  ∃g',CU w0 g0 h0 (AO (AO h 1001 (.bbf 0)) d (.bld (.slice (.id 1001 1) []))) g' (w.alloc (.cells vs ZE (0,0)))/\Le h g w (AO (AO h 1001 (.bbf 0)) d (.bld (.slice (.id 1001 1) []))) g' (w.alloc (.cells vs ZE (0,0))) /\
   Ba g' (w.alloc (.cells vs ZE (0,0))) (AJ (AO (AO h 1001 (.bbf 0)) d (.bld (.slice (.id 1001 1) [])))) (.ref d 0) (.pointer (some ⟨w.heap.size,0,none⟩)):=by
 obtain⟨k1,k2⟩:=hI.upd 1001 (.bbf 0) (.slice none 0 0) 0 true none g.S w none ⟨rfl,rfl,rfl,Ao _⟩ (fun _ _ _=>rfl) (fun b e=>by cases e) (fun _ _ h=>h) (fun _ _ h=>.inl h) (fun b o e=>by cases e)
  (fun b _ e=>by cases e) Cl (fun hu=>absurd h1 hu) (fun _ _=>⟨by simp[Gh.upd],by simp[Gh.upd],.inl ⟨rfl,by simp[Gh.upd],by simp[Gh.upd]⟩⟩)
 obtain⟨m1,m2⟩:=k1.newOwn (d:=d) (by grind [BR]) (.bld (.slice (.id 1001 1) [])) (.cells vs ZE (0,0)) (.pointer (some ⟨w.heap.size,0,none⟩)) 0 false w ⟨rfl,rfl,rfl,rfl⟩ Cl
  (fun _ _=>by
   subst hv;refine⟨by simp[Gh.upd],w.heap.size,.pointer none,.slice none 0 0,by simp[Gh.upd],by simp[Gh.upd],heap_alloc_new w _,.inl rfl,?_,fun o hs=>?_⟩
   .refine .tok _ 1001 1 [] _ (.snil _ _ _) Cl ?_ ?_ (Aj _) (fun _=>?_)
    .grind [AJ,BR,A5]
    .simp[Gh.upd,Ne.symm hn]
    .simp[Gh.upd,Ne.symm hn]
   .have:=hI.slt _ _ hs;omega)
 exact⟨_,m1,k2.trans m2,.ref _ d 0 w.heap.size (by grind [AJ,A5]) (by simp[Gh.upd]) (by simp[Gh.upd])⟩
theorem iI(hT:Ca P T){d:Option Nat}{e:Nat}(hk:Tl T d h e K):N2 P w0 g0 h0 h g w (Instr.alloc e true (.tuple #[])) K:=by
 unfold Tl at hk;split at hk
 .simp_all
 .split at hk
  .rename_i hd;split at hk
   .simp_all
   .rename_i Ef;split at hk
    .rename_i he;obtain rfl:=A3 he;split at hk
     .rename_i h1 hn hz;obtain⟨z,z1,z2,_⟩:=MY hT (w:=w) Ef;have hv:z.cells=#[.pointer none,.slice none 0 0]:=aa0
      obtain⟨g',k1,k2,k3⟩:=iR hI hd h1 (fun e=>by simp_all) hv;refine⟨_,_,g',_,_,?_,hk,k1,k2,k3⟩;simp[Instr.alloc,z1,newVar,newRow]
     simp_all
    split at hk
    .rename_i ha;obtain⟨z,z1,z2,_⟩:=MY hT (w:=w) Ef;have hr:Ck g w (AJ h) ((T e).zc.map .v) z.cells.toList:=by grind [Ck.vals]
     obtain⟨g',k1,k2,k3⟩:=RZ hI hd (vs:=z.cells) e hr;refine⟨_,_,g',_,_,?_,hk,k1,k2,k3⟩;simp[Instr.alloc,z1,newVar,newRow]
    simp_all
  simp_all
theorem Ql{cs:List AV}{vs:List Value}(hr:Ck g w (AJ h) cs vs):Ck g w FD (cs.map (str h)) vs:=by
 refine⟨by rw[BO];exact hr.1,hr.2.1,fun i av x h1 h2=>?_⟩;rw[B1,Cj]at h1;obtain⟨a,a1,rfl⟩:=h1;exact(hr.2.2 i a x a1 h2).str hI.objs
theorem ri{d:Option Nat}{e:Nat}{x:AV}(hx:Ba g w (AJ h) x vx)(hk:iT cx d h e x K):N2 P w0 g0 h0 h g w (Instr.box e vx) K:=by
 unfold iT at hk;split at hk
 .simp_all
 .split at hk
  .rename_i hd;split at hk
   .simp_all
   .obtain⟨cs,hk,hn,hr⟩:=M3 hx hk;split at hk
    .obtain⟨g',k1,k2,k3⟩:=oG hI hd (vs:=vx.cells) e (Ql hI hr);exact⟨_,_,g',_,_,rfl,hk,k1,k2,k3⟩
    .obtain⟨g',k1,k2,k3⟩:=RZ hI hd (vs:=vx.cells) e hr;exact⟨_,_,g',_,_,rfl,hk,k1,k2,k3⟩
  simp_all
theorem CU.write{r b:Nat}(hl:(h r).live)(ho:g.own r=some b)(o' : HO)(hb:w.heap[b]?=some (.cells Ep E (0,0)))(new:Array Value)(n:Nat)(ow:Option Nat)(S' : Nat->Nat->Prop)(Ef:o'≠.free)(hn:n=g.ln r)(how:∀b',ow=some b'->b'=b)(hS:∀b o,g.S b o->S' b o)(hSn:∀b' o,S' b' o->g.S b' o\/b'=b)(Ai2:∀o,g.S b o->new[o]?=Ep[o]?)(Ma:Kr g (g.upd r (g.ρ r) n (g.tk r) ow S') (AJ h)->EF g w (g.upd r (g.ρ r) n (g.tk r) ow S') (w.setRow b new)->(w.setRow b new).heap[b]?=some (.cells new E (0,0)) ->
   DR (g.upd r (g.ρ r) n (g.tk r) ow S') (w.setRow b new) (AJ (AO h r o')) r o') :
  CU w0 g0 h0 (AO h r o') (g.upd r (g.ρ r) n (g.tk r) ow S') (w.setRow b new)/\Le h g w (AO h r o') (g.upd r (g.ρ r) n (g.tk r) ow S') (w.setRow b new):=by
 have EO:=setRow_heap w b Ep new E (0,0) hb;have EU:=(hI.loc r b hl ho).1
 refine hI.upd r o' _ _ _ _ _ _ (some b) ⟨rfl,rfl,rfl,by simp_all⟩ (fun k hk Ef=>setRow_other w b k new (fun e=>Ef (by rw[e]))) (fun b' e=>by simp_all) hS (fun b' o hs=>?_)
  (fun b' o e hs=>?_) (fun b' _ e=>?_) Ef (fun _=>⟨rfl,by omega,fun _=>rfl,fun _=>rfl⟩) (fun hg hk=>Ma hg hk EO)
 all_goals grind [F6]
theorem kY(hT:Ca P cx.T){t:Nat}{p x:AV}{vp:Value}(hp:Ba g w (AJ h) p vp)(hx:Ba g w (AJ h) x vx)(hk:OB cx h t p x K) :
  lE P w0 g0 h0 h g w (Instr.storeAt t vp vx) K:=by
 unfold OB at hk;split at hk
 .simp_all
 .rename_i hd;have h5:=M3 hx hk
  clear hk
  obtain⟨vs,hk,hn,hr⟩:=h5;have Dr:vx.cells.toList.length=vs.length:=hr.1;split at hk
  .rename_i r off;have ho:=hI.objs r;split at hk
   .rename_i cs e;obtain⟨Jk,hk⟩:=hk;rw[e]at ho;obtain⟨t0,b,E,Ep,a1,a2,a3,a4,a5⟩:=ho;cases hp with
    |ref _ _ _ b' hu ht qI=>
     rw[a2]at qI;cases qI;have hcs:Ep.toList.length=cs.length:=a4.1;have CP:=Qf hT w (t:=t) (off:=off) (x:=vx) hd ch hr.2.1 a3 B0;have hl:(h r).live:=by rw[e];trivial
     have xb:=a4.over hr off Jk;split at hk
     .obtain⟨k1,k2⟩:=hI.write hl a1 (.ro ((over cs off vs).map (str h))) a3 (over Ep.toList off vx.cells.toList).toArray (g.ln r) none (g.more b cs.length) Cl rfl (fun _ e=>by cases e) (fun _ _ h=>.inl h)
       (fun b' o hs=>hs.elim .inl (fun hs=>.inr hs.1)) (fun o hs=>absurd hs (a5 o)) (fun hg IN EO=>by
        obtain⟨u1,u2,u3,u4⟩:=Bo g r (g.ρ r) (g.ln r) (g.tk r) none (g.more b cs.length);refine⟨u3.trans t0,b,u1.trans a2,Ba.cptr_row EO ?_ (fun o ho=>.inr ⟨rfl,?_⟩)⟩
        .exact(Ql hI xb).mono IN (fun _ h=>h) (fun _ h=>h.elim)
        grind [Ga])
      exact⟨_,_,_,CP,hk,k1,k2⟩
     .obtain⟨k1,k2⟩:=hI.write hl a1 (.cells (over cs off vs)) a3 (over Ep.toList off vx.cells.toList).toArray (g.ln r) (g.own r) g.S Cl rfl (fun b' e=>by simp_all) (fun _ _ h=>h)
       (fun b' o hs=>.inl hs) (fun o hs=>absurd hs (a5 o)) (fun hg IN EO=>by
        obtain⟨u1,u2,u3,u4⟩:=Bo g r (g.ρ r) (g.ln r) (g.tk r) (g.own r) g.S;exact⟨u3.trans t0,b,E,_,u4.trans a1,u1.trans a2,EO,xb.mono IN (fun i hi=>DG Cl i hi) hg,a5⟩)
      exact⟨_,_,_,CP,hk,k1,k2⟩
   simp_all
  .rename_i r n sz i off;have ho:=hI.objs r;split at hk
   .rename_i HJ es e;rw[e]at ho;split at hk
    .rename_i hz;obtain rfl:=A3 hz;obtain⟨hnl,cs,hi,Jk,hk⟩:=hk;obtain⟨t1,l1,al,a1⟩:=ho;have EU:=(Bf.1 hi).1;rcases a1 with ⟨rfl,_⟩ | ⟨b,cap,E,Ep,e1,e2,e3,e4,e5,e6,e7⟩
     .simp_all
     .cases hp with
      |eref _ _ _ _ _ _ b' Mn hu ht qG qI=>
       have qI:=qI (hnl.trans l1.symm);rw[e1]at qI;simp only[Value.slice.injEq,DJ,Addr.mk.injEq]at qI;obtain⟨⟨rfl,_,_⟩,_,_⟩:=qI;have hcl:=al cs (AG hi);have dA:i*sz+sz<=es.length*sz:=by
        have:=Bl sz (show i+1<=es.length from EU)
        grind
       have uV:es.length*sz<=cap*sz:=Bl sz e3;have CP:=Qf hT w (t:=t) (off:=i*sz+off) (x:=vx) hd ch hr.2.1 e4 ch;have hl:(h r).live:=by rw[e];trivial
       have Aaz : ∀c∈es.set i (over cs off (vs.map (str h))),c.length=sz:=fun c hc=>by
        rcases List.mem_or_eq_of_mem_set hc with hc | rfl
        .simp_all
        .rw[Ga];exact hcl
       have hfl:=Mx al hi off (vs.map (str h)) B0;have sd:Ep.toList.length=cap*sz:=ch
       have xl:((over Ep.toList (i*sz+off) vx.cells.toList).toArray.toList.take ((es.set i (over cs off (vs.map (str h)))).length*sz))=over (Ep.toList.take (es.length*sz)) (i*sz+off) vx.cells.toList:=by
        rw[JX];exact WZ _ _ _ _ ch ch
       have xb:Ck g w FD (es.set i (over cs off (vs.map (str h)))).flatten ((over Ep.toList (i*sz+off) vx.cells.toList).toArray.toList.take ((es.set i (over cs off (vs.map (str h)))).length*sz)):=by
        rw[xl,hfl];exact e6.over (Ql hI hr) _ (by rw[BO,Dv al];omega)
       split at hk
       .rename_i j m;have nT:∃x0,vx.cells.toList=[x0]:=by
         revert Dr
         cases vx.cells.toList with
         |nil=>grind
         |cons x0 l=>simp_all
        obtain⟨x0,nT⟩:=nT;have Ey:=hr.2.2 0 (.msl j m) x0 rfl aa0
        obtain⟨k1,k2⟩:=hI.write hl e2 (.hol sz (es.set i (over cs off [.junk])) i off (.msl j m)) e4 (over Ep.toList (i*sz+off) vx.cells.toList).toArray (g.ln r) (g.own r) g.S Cl rfl (fun b' e=>by simp_all) (fun _ _ h=>h)
         (fun b' o hs=>.inl hs) (fun o hs=>absurd hs (e7 o)) (fun hg IN EO=>by
          obtain⟨u1,u2,u3,u4⟩:=Bo g r (g.ρ r) (g.ln r) (g.tk r) (g.own r) g.S;have Ako:i*sz+off<es.length*sz:=aa0
          refine⟨u3.trans t1,u2.trans B0,Aaz,b,cap,E,_,?_,u4.trans e2,by simp_all,EO,?_,xb.mono IN (fun _ h=>h) (fun _ h=>h.elim),e7,by simp_all,x0,?_,Ey.mono IN (fun i hi=>DG Cl i hi) hg⟩
          .simp_all
          .simp only[KF,Ga,Ja];exact e5
          .rw[<-CN,nT,GD _ _ _ _ aa0,Ax ⟨Ao _,by grind⟩,IS];rfl)
        exact⟨_,_,_,CP,hk,k1,k2⟩
       .obtain⟨k1,k2⟩:=hI.write hl e2 (.arr sz (es.set i (over cs off (vs.map (str h))))) e4 (over Ep.toList (i*sz+off) vx.cells.toList).toArray (g.ln r) (g.own r) g.S Cl rfl (fun b' e=>by simp_all) (fun _ _ h=>h)
         (fun b' o hs=>.inl hs) (fun o hs=>absurd hs (e7 o)) (fun hg IN EO=>by
          obtain⟨u1,u2,u3,u4⟩:=Bo g r (g.ρ r) (g.ln r) (g.tk r) (g.own r) g.S;refine⟨u3.trans t1,u2.trans B0,Aaz,.inr ⟨b,cap,E,_,?_,u4.trans e2,by simp_all,EO,?_,xb.mono IN (fun _ h=>h) (fun _ h=>h.elim),e7⟩⟩
          all_goals grind [Ga])
        exact⟨_,_,_,CP,hk,k1,k2⟩
    simp_all
   simp_all
  simp_all
end
theorem ko(c vs:List α)(h:vs.length=c.length):over c 0 vs=vs:=by
 grind [No]
theorem H4[Inhabited α](z:List α)(hz:z≠[]):(List.replicate n z).flatten=(List.range (n*z.length)).map fun k=>z[k % z.length]!:=by
 have hl:∀c∈List.replicate n z,c.length=z.length:=fun c hc=>by simp_all
 have Abd:0<z.length:=Jc.2 hz;apply Da;intro k
 by_cases hk:k<n*z.length
 all_goals grind [Nat.mul_comm,Nat.div_add_mod,Nat.mod_lt,Nat.div_lt_iff_lt_mul,Fu,Dv,List.length_map,List.length_range]
section
variable {P:Program}{w0:World}{g0:Gh}{h0 h:Nat->HO}{g:Gh}{w:World}(hI:CU w0 g0 h0 h g w)
include hI
theorem af{n sz:Nat}{t:Nat->AV}{ρ:Operand->Value}(ht:∀x:Operand,Ba g w (AJ h) (ev t x) (ρ x)) :
  ∀{ps:List (Nat×Operand)} {es:C0} {xs:Array Value} {K:C0->Prop},es.length=n->(∀c∈es,c.length=sz)->Ck g w FD es.flatten xs.toList->RJ n sz h es t ps K ->
   ∃FR Zf,K FR/\FR.length=n/\(∀c∈FR,c.length=sz)/\Ck g w FD FR.flatten Zf.toList/\Instr.fill (fun i=>some (i*sz,sz)) xs (ps.map fun(i,x)=>(i,ρ x))=some Zf
 | [],es,xs,K,hn,hl,h,hk=>⟨es,xs,hk,hn,hl,h,rfl⟩
 |(i,x)::ps,es,xs,K,hn,hl,h,hk=>by
  unfold RJ at hk;split at hk
  .rename_i hi;have hi:i<n:=Gc hi;have h5:=M3 (ht x) hk
   clear hk
   obtain⟨VC,hk,hna,hr⟩:=h5;have FE:(ρ x).cells.size=sz:=by rw[<-hna];simpa using hr.1
   have VH:=Ql hI hr;obtain⟨c,hc⟩:∃c,es[i]?=some c:=⟨_,A0 ch⟩;have hcl:=hl c (AG hc);have Jk:i*sz+sz<=es.flatten.length:=by
    rw[Dv hl,hn]
    have:=Bl sz (show i+1<=n from hi)
    grind
   have hfl:=Mx hl hc 0 (VC.map (str ‹Nat->HO›)) B0;rw[ko _ _ B0,HD]at hfl;have EO:=h.over VH (i*sz) B0;have sr:xs.size=es.flatten.length:=by have:=h.1;omega
   have e:=Oc (ρ x).cells.toList 0 (i*sz) xs B0;simp only[HD]at e;rw[<-e,<-hfl]at EO;obtain⟨FR,Zf,k1,k2,k3,k4,k5⟩:=af ht (es:=es.set i (VC.map (str _))) B0 (fun c' hc'=>by
    grind) EO hk
   refine⟨FR,Zf,k1,k2,k3,k4,?_⟩;simp only[Bq,Instr.fill]
   grind [Array.toList_zipIdx]
  simp_all
theorem Tz(hT:Ca P cx.T){d:Option Nat}{ty n:Nat}{t:Nat->AV}{ρ:Operand->Value}(ht:∀x:Operand,Ba g w (AJ h) (ev t x) (ρ x)){ps:Array (Nat×Operand)}(hk:IF cx d h ty n t ps.toList K):N2 P w0 g0 h0 h g w (Instr.buildSlice ty n (ps.map fun(i,x)=>(i,ρ x))) K:=by
 unfold IF at hk;split at hk
 .rename_i e hs;split at hk
  .rename_i Ys aG;have aG:=A3 aG;split at hk
   .simp_all
   .rename_i m hm;split at hk
    .rename_i Jk;have Jk:=Gc Jk;have xn:(cx.T e).zc≠[]:=fun e0=>by simp_all
     have hlr:∀c∈List.replicate n ((cx.T e).zc.map AV.v),c.length=(cx.T e).size:=fun c hc=>by simp_all
     have AaW:Ck g w FD (List.replicate n ((cx.T e).zc.map AV.v)).flatten ((Array.range (n*(cx.T e).size)).map fun k=>(cx.T e).zc.toArray[k % (cx.T e).zc.toArray.size]!).toList:=by
      have e1:((Array.range (n*(cx.T e).size)).map fun k=>(cx.T e).zc.toArray[k % (cx.T e).zc.toArray.size]!).toList=(List.replicate n (cx.T e).zc).flatten:=by
       rw[H4 n _ xn];simp_all
      have e2:(List.replicate n ((cx.T e).zc.map AV.v)).flatten=(List.replicate n (cx.T e).zc).flatten.map AV.v:=by
       simp_all
      rw[e1,e2];refine Ck.vals ?_;have Gl:∀l:List AV,(∀a∈l,one a=true)->GT l=true:=by
       intro l
       induction l<;>grind [GT]
      grind [M0]
     obtain⟨FR,Zf,k1,k2,k3,k4,k5⟩:=af hI ht B0 hlr AaW hk;have sr:Zf.size=n*(cx.T e).size:=by
      have:=k4.1
      grind [Dv]
     obtain⟨g',av,h',q1,q2,q3,q4⟩:=Ki hI k1 (vs:=Zf) (cap:=n) e k3 ch sr (by
      grind [Array.length_toList]) w ⟨rfl,rfl,rfl,rfl⟩
     rw[k2]at q4;refine⟨_,_,g',av,h',?_,q1,q2,q3,q4⟩;obtain⟨z,z1,z2⟩:=XD hT (w:=w) hm;have FE:=hT.size1 w hm;have e3:(Array.map (fun x:Nat×Operand=>match x with | (i,x)=>(i,ρ x)) ps).toList=ps.toList.map fun(i,x)=>(i,ρ x):=Cl
     have AfJ:¬(n*(m+1)>2 ^ 24):=B0
     simp only[Instr.buildSlice,Sem.run_bind,run_underlying (hT.slice hs),Result.andThen_ok,FE,AA AfJ];rw[e3];rw[hm]at k5
     by_cases h0:n*(m+1)=0
     .have hn0:n=0:=by
       grind
      subst hn0;have er:Array.range 0=#[]:=rfl;simp only[Nat.zero_mul,er,List.map_toArray,FQ]at k5;simp only[Nat.zero_mul,if_true,er,List.map_toArray,FQ,k5];simp[newRow]
     .rw[z2]at k5;simp only[Array.toArray_toList]at k5;simp only[AA h0,Sem.run_bind,z1,Result.andThen_ok,Sem.run_pure,k5];simp[newRow]
    simp_all
  simp_all
 simp_all
end
theorem FV{sz:Nat}:∀{es:C0},Bi sz es->∀c∈es,c.length=sz
 | [],_,c,h=>by cases h
 |d::es,h,c,hc=>by
  rcases AZ.1 hc with rfl | hc
  .exact h.1
  .exact FV h.2 c hc
def OO(w:World)(x:Value)(n sz:Nat)(news:List Value):Prop:=
 news.length=n*sz/\(∀v∈news,v.oneCell'=true)/\∃(a:Option Addr) (c:Nat),x=.slice a n c/\(n=0\/∃b:Addr,a=some b/\∀j u,news[j]?=some u->w.cell? (b.add j)=some u)
theorem OO.of_rep{w:World}{sz:Nat}(h:Ba g w U (.slice .none es) x)(hl:∀c∈es,c.length=sz) :
  ∃news,OO w x es.length sz news/\Ck g w FD es.flatten news:=by
 cases h with
 |snil _ a cap=>exact⟨[],⟨by simp,by simp,a,cap,rfl,.inl rfl⟩,by simp,by simp,fun i av x h1 h2=>by simp_all⟩
 |slice _ _ b off HJ cap val hc Sx DM Ey=>
  have hf:=Dv hl;have key:∀j,j<es.length*sz->∃cs,es[j / sz]?=some cs/\es.flatten[j]?=cs[j % sz]?/\j % sz<cs.length/\HJ=sz/\j=j / sz*sz+j % sz:=by
   intro j hj
   grind [Nat.pos_of_ne_zero,Nat.div_add_mod,Nat.div_lt_iff_lt_mul,Nat.mod_lt,Fu]
  have Afq:∀j,j<es.length*sz->∃av,es.flatten[j]?=some av/\w.cell? ⟨b,off+j,none⟩=some (val (j / sz) (j % sz))/\(val (j / sz) (j % sz)).oneCell'=true/\Ba g w FD av (val (j / sz) (j % sz)):=by
   intro j hj;obtain⟨cs,k1,k2,k3,rfl,k5⟩:=key j hj;have wR:cs[j % HJ]?=some cs[j % HJ]:=A0 k3;obtain⟨_,c2,c3⟩:=DM _ _ _ _ k1 wR;rw[Nat.add_assoc,<-k5]at c2;exact⟨_,k2.trans wR,c2,c3,Ey _ _ _ _ k1 wR⟩
  refine⟨(List.range (es.length*sz)).map fun j=>val (j / sz) (j % sz),⟨by simp,fun v hv=>?_,some ⟨b,off,none⟩,cap,rfl,.inr ⟨_,rfl,fun j u hu=>?_⟩⟩,by simp_all,fun v hv=>?_,fun i av x h1 h2=>?_⟩
  .grind
  .obtain⟨hj,rfl⟩:=VQ hu;rw[Addr.add_lit];simp_all
  all_goals grind
section
variable {P:Program}{T:GK}(hT:Ca P T)
include hT
theorem HQ{n:Nat}(hs:(T e).size=n+1):∃i z,P.info? e=some i/\i.zero=some z/\i.size=(T e).size/\i.bytes=(T e).bytes/\(T e).zc=z.cells.toList:=by
 rcases hT e with h | h
 .rw[h]at hs;cases hs
 grind [lk,TI.zc_cells]
theorem IY(w:World){t ty k:Nat}(ht:(T t).d=.slice e)(hk:(T e).size=k+1)(a a' : Option Addr)(n cap c:Nat)(hc:n<=cap) :
  (Builtin.append_ #[t,t] ty #[.slice a n cap,.slice a' 0 c]).run P w=.ok (.slice a n cap) w:=by
 have hu:=hT.slice ht;cases a<;>cases a'<;>simp[Builtin.append_,run_underlying hu,hT.size1 w hk,Builtin.lenOf,hc,Builtin.firstCells,loadCells,loadCellsFrom,storeCells]
theorem H5(w:World){t ty k:Nat}(ht:(T t).d=.slice e)(hk:(T e).size=k+1)(hz:(T e).zc.length=(T e).size){s:Value}{n m cap c:Nat}{news:List Value}{a a' : Option Addr}(hso:OO w s n (T e).size olds)(hs:s=.slice a n cap)(Py:a=none->cap=0)(qJ:OO w x m (T e).size news)(hx:x=.slice a' m c)(hm:0<m)(hg:cap<n+m)(hb:(n+m)*(T e).bytes<=140737488355328)(h63:n+m<=9223372036854775807) :
  ∃nc rest,(Builtin.append_ #[t,t] ty #[s,x]).run P w=.ok (.slice (some ⟨w.heap.size,0,none⟩) (n+m) nc) (w.drew.alloc (.cells (olds++news++rest).toArray e (0,0)))/\n+m<=nc /\
   (olds++news++rest).length=nc*(T e).size:=by
 obtain⟨i,z,i1,i2,i3,i4,i5⟩:=HQ hT hk;have hu:=hT.slice ht;obtain⟨n1,n2,a1,c1,n3,n4⟩:=qJ;subst hx;cases n3;rcases n4 with h | ⟨b,rfl,I5⟩
 .omega
 .have aG:z.cells.size=(T e).size:=B0
  have gm:∀(nc:Nat) (pre:List Value),pre.length=(n+m)*(T e).size->n+m<=nc->(pre++(Builtin.zeroCells z.cells (nc-(n+m))).toList).length=nc*(T e).size:=by
   intro nc pre hp Jk;have e1:(Builtin.zeroCells z.cells (nc-(n+m))).toList.length=(nc-(n+m))*(T e).size:=by grind [size_zeroCells]
   rw[Ac,e1,hp,<-Iz];simp_all
  obtain⟨o1,o2,a2,c2,o3,o4⟩:=hso;subst hs;cases o3;cases a with
  |none=>
   obtain rfl:=Py rfl;have hn0:n=0:=by
    simp_all
   subst hn0;have ho:olds=[]:=AY ch;subst ho;have hr:=run_append_nil (P:=P) w t ty e i z hu i1 i2 b m c news B0 I5 hm ch aa0;refine⟨grownCap w m 0 e,(Builtin.zeroCells z.cells (grownCap w m 0 e-m)).toList,?_,by rw[Fq];exact grownCap_ge w m 0 e,?_⟩
   .rw[hr,Fq]
    congr 3
    simp_all
   .have:=gm (grownCap w m 0 e) news B0 (by rw[Fq];exact grownCap_ge w m 0 e)
    simp_all
  |some b'=>
   have Hw:∀j u,olds[j]?=some u->w.cell? (b'.add j)=some u:=by
    grind
   have hr:=run_append_grow (P:=P) w t ty e i z hu i1 i2 b' n cap olds B0 Hw b m c news B0 I5 hg ch (by rw[i4];exact growslice_fits hg hb);refine⟨grownCap w (n+m) cap e,(Builtin.zeroCells z.cells (grownCap w (n+m) cap e-(n+m))).toList,?_,grownCap_ge w (n+m) cap e,gm _ _ aa0 (grownCap_ge w (n+m) cap e)⟩;rw[hr]
   congr 3
   simp_all
end
theorem Ck.app{w:World}{VC bs:List AV}{xs ys:List Value}(h:Ck g w U VC xs)(k:Ck g w U bs ys):Ck g w U (VC++bs) (xs++ys):=by
 refine⟨by simp[h.1,k.1],fun x hx=>(Bh.1 hx).elim (h.2.1 x) (k.2.1 x),fun i av x h1 h2=>?_⟩
 by_cases hi:i<VC.length
 .rw[D6 hi]at h1;rw[D6 (by rw[h.1];exact hi)]at h2;exact h.2.2 i av x h1 h2
 .rw[BM ch]at h1;rw[BM (by rw[h.1];omega),h.1]at h2;exact k.2.2 _ av x h1 h2
theorem kZ(P:Program)(g o:Nat)(t:TypeId)(fz:Nat×Nat)(vs:List Value):∀(i:Nat) (Ep:Array Value) (w:World),w.heap[g]?=some (.cells Ep t fz)->(fz=(0,0)\/Ep.size<=fz.1)->o+i+vs.length<=Ep.size->(∀v∈vs,v.oneCell'=true) ->
  (storeCells ⟨g,o,none⟩ vs i).run P w=.ok () (w.setRow g (Ep.toList.take (o+i)++vs++Ep.toList.drop (o+i+vs.length)).toArray):=by
 induction vs with
 |nil=>
  intro i Ep w hg _ _ _;have e:(Ep.toList.take (o+i)++[]++Ep.toList.drop (o+i+([]:List Value).length)).toArray=Ep:=Cl
  rw[e,setRow_self w g Ep t fz hg];rfl
 |cons v rest ih=>
  intro i Ep w hg hf hl h1;simp only[Ap]at hl;have hi:o+i<Ep.size:=ch
  have ha:(⟨g,o,none⟩:Addr).add i=⟨g,o+i,none⟩:=Addr.add_lit ..;have hc:w.cell? ⟨g,o+i,none⟩=some Ep[o+i]:=by grind [World.cell?]
  have hz:w.frozen? ⟨g,o+i,none⟩=false:=by
   grind [World.frozen?]
  have h2:(store ((⟨g,o,none⟩:Addr).add i) v).run P w=.ok () (w.setRow g (Ep.setIfInBounds (o+i) v)):=by
   grind [run_store,setCell_eq_setRow]
  have h3:=ih (i+1) (Ep.setIfInBounds (o+i) v) (w.setRow g (Ep.setIfInBounds (o+i) v)) (setRow_heap w g Ep _ t _ hg) B0 aa0 fun x hx=>h1 x (Am _ hx);have e:(Ep.setIfInBounds (o+i) v).toList.take (o+(i+1))++rest++(Ep.setIfInBounds (o+i) v).toList.drop (o+(i+1)+rest.length)=Ep.toList.take (o+i)++v::rest++Ep.toList.drop (o+i+(v::rest).length):=by
   simpa[Array.toList_setIfInBounds,Nat.add_assoc]using list_seg_step Ep.toList (o+i) v rest ch
  rw[storeCells,Sem.run_bind,h2,Result.andThen_ok,h3,setRow_setRow,e]
section
variable {P:Program}{w0:World}{g0:Gh}{h0 h:Nat->HO}{g:Gh}{w:World}(hI:CU w0 g0 h0 h g w)
include hI
omit hI in
theorem Ri(t ty e:TypeId)(i:TypeInfo)(ht:P.underlying t=some (.slice e))(hi:P.info? e=some i)(g Ow eK:Nat)(Ep:Array Value)(hg:w.heap[g]?=some (.cells Ep E (0,0)))(a:Addr)(m c:Nat)(news:List Value)(hl:news.length=m*i.size)(I5:∀j u,news[j]?=some u->w.cell? (a.add j)=some u)(h1:∀u∈news,u.oneCell'=true)(LY:Ow+m<=eK)(sf:Ow*i.size+news.length<=Ep.size) :
  (Builtin.append_ #[t,t] ty #[.slice (some ⟨g,0,none⟩) Ow eK,.slice (some a) m c]).run P w =
   .ok (.slice (some ⟨g,0,none⟩) (Ow+m) eK) (w.setRow g (Ep.toList.take (Ow*i.size)++news++Ep.toList.drop (Ow*i.size+news.length)).toArray):=by
 have hf:=run_firstCells_some (P:=P) w i.size m a m c news hl I5;have KP:=run_storeCells_at P g (Ow*i.size) E news 0 Ep w hg ch h1;simp only[HD]at KP;simp[Builtin.append_,run_underlying ht,sizeOf,typeInfo,hi,Builtin.lenOf,LY,hf,Addr.add_lit,KP]
omit hI in
theorem U7(t ty e:TypeId)(i:TypeInfo)(ht:P.underlying t=some (.slice e))(hi:P.info? e=some i)(g off Ow eK:Nat)(Ep:Array Value){fz:Nat×Nat}(hg:w.heap[g]?=some (.cells Ep E fz))(hfz:fz=(0,0)\/Ep.size<=fz.1)(a:Addr)(m c:Nat)(news:List Value)(hl:news.length=m*i.size)(I5:∀j u,news[j]?=some u->w.cell? (a.add j)=some u)(h1:∀u∈news,u.oneCell'=true)(LY:Ow+m<=eK)(sf:off+Ow*i.size+news.length<=Ep.size) :
  (Builtin.append_ #[t,t] ty #[.slice (some ⟨g,off,none⟩) Ow eK,.slice (some a) m c]).run P w =
   .ok (.slice (some ⟨g,off,none⟩) (Ow+m) eK) (w.setRow g (Ep.toList.take (off+Ow*i.size)++news++Ep.toList.drop (off+Ow*i.size+news.length)).toArray):=by
 have hf:=run_firstCells_some (P:=P) w i.size m a m c news hl I5;have KP:=kZ P g (off+Ow*i.size) E fz news 0 Ep w hg hfz ch h1;simp only[HD]at KP;simp[Builtin.append_,run_underlying ht,sizeOf,typeInfo,hi,Builtin.lenOf,LY,hf,Addr.add_lit,KP]
omit hI in
theorem tD{b off n m sz cap:Nat}{fz:Nat×Nat}{news:List Value}(hb:w.heap[b]?=some (.cells Ep E fz))(sd:Ep.size=off+cap*sz)(hn:n<=cap)(hm:n+m<=cap)(hnl:news.length=m*sz)(hol:olds.length=n*sz)(Hw:∀j u,olds[j]?=some u->w.cell? ⟨b,off+j,none⟩=some u) :
  (Ep.toList.take (off+n*sz)++news++Ep.toList.drop (off+n*sz+news.length)).length=off+cap*sz /\
  ((Ep.toList.take (off+n*sz)++news++Ep.toList.drop (off+n*sz+news.length)).drop off).take ((n+m)*sz)=olds++news /\
  ∀o,o<off+n*sz->(Ep.toList.take (off+n*sz)++news++Ep.toList.drop (off+n*sz+news.length)).toArray[o]?=Ep[o]?:=by
 have hcl:Ep.toList.length=off+cap*sz:=ch
 have dA:(n+m)*sz<=cap*sz:=Bl _ hm;have uV:n*sz<=cap*sz:=Bl _ hn;rw[Iz]at dA;have PA:(Ep.toList.take (off+n*sz)).drop off=olds:=by
  apply Da;intro j
  by_cases hj:j<n*sz
  .rw[F2,Sn ch]
   grind [F6]
  simp_all
 have htl:(Ep.toList.take (off+n*sz)).length=off+n*sz:=B0
 refine⟨?_,?_,fun o ho=>?_⟩
 .grind
 .rw[BT,List.drop_append_of_le_length ch,PA,<-BT,JY aa0]
 grind
omit hI in
theorem pB{b n m sz cap:Nat}{news:List Value}(hb:w.heap[b]?=some (.cells Ep E (0,0)))(sd:Ep.size=cap*sz)(hn:n<=cap)(hm:n+m<=cap)(hnl:news.length=m*sz)(hol:olds.length=n*sz)(Hw:∀j u,olds[j]?=some u->w.cell? ⟨b,j,none⟩=some u) :
  (Ep.toList.take (n*sz)++news++Ep.toList.drop (n*sz+news.length)).length=cap*sz /\
  (Ep.toList.take (n*sz)++news++Ep.toList.drop (n*sz+news.length)).take ((n+m)*sz)=olds++news /\
  ∀o,o<n*sz->(Ep.toList.take (n*sz)++news++Ep.toList.drop (n*sz+news.length)).toArray[o]?=Ep[o]?:=by
 have hcl:Ep.toList.length=cap*sz:=ch
 have dA:(n+m)*sz<=cap*sz:=Bl _ hm;have uV:n*sz<=cap*sz:=Bl _ hn;rw[Iz]at dA;have PA:Ep.toList.take (n*sz)=olds:=by
  apply Da
  grind [F6]
 have htl:(Ep.toList.take (n*sz)).length=n*sz:=B0
 refine⟨?_,?_,fun o ho=>?_⟩
 all_goals grind [Nat.add_mul]
theorem Wg{r n sz:Nat}(he:h r=.arr sz es)(hx:Ba g w (AJ h) (.msl r n) x)(hn:n=es.length) :
  x=g.ρ r/\∃news,OO w x es.length sz news/\Ck g w FD es.flatten news:=by
 have ho:=hI.objs r;rw[he]at ho;obtain⟨t1,l1,al,a1⟩:=ho;cases hx with
 |msl _ _ _ a cap hu ht qG ha Sy=>
  have e:=Sy (hn.trans l1.symm);refine⟨e,?_⟩;rw[e];rcases a1 with ⟨rfl,e2,e3⟩ | ⟨b,Mn,E,vs,e1,e2,e3,e4,e5,e6,e7⟩
  .exact⟨[],⟨by simp,by simp,none,0,e2,.inl rfl⟩,by simp,by simp,fun i av x h1 h2=>by simp_all⟩
  .have sd:vs.toList.length=Mn*sz:=ch
   have Jk:es.length*sz<=vs.toList.length:=by rw[sd];exact Bl _ e3
   refine⟨vs.toList.take (es.length*sz),⟨by simp_all,e6.2.1,_,_,e1,.inr ⟨_,rfl,fun j u hj=>?_⟩⟩,e6⟩
   grind [Addr.add_lit,F6]
theorem jg{sz:Nat}{x:AV}{K:C0->Prop}(hx:Ba g w (AJ h) x vx)(hk:Ls h x K) :
  ∃es,K es/\((∀c∈es,c.length=sz)->∃news,OO w vx es.length sz news/\Ck g w FD es.flatten news):=by
 unfold Ls at hk;split at hk
 .exact⟨_,hk,fun hl=>OO.of_rep hx.slice_none hl⟩
 .obtain rfl:=hx.v_eq;exact⟨[],hk,fun _=>⟨[],⟨by simp,by simp,none,0,rfl,.inl rfl⟩,by simp,by simp,fun i av x h1 h2=>by simp_all⟩⟩
 .rename_i r n;split at hk
  .rename_i HJ es e;obtain⟨hn,hk⟩:=hk;refine⟨es,hk,fun hl=>?_⟩;obtain⟨_,news,n1,n2⟩:=Wg hI e hx hn;refine⟨news,?_,n2⟩
   have:news.length=es.length*sz:=by rw[n2.1,Dv hl]
   exact⟨this,n1.2.1,n1.2.2⟩
  simp_all
 simp_all
theorem j9{d:Option Nat}{sz:Nat}(hk:Fb cx d h sz [] K) :
  ∃g' av h',K av h'/\CU w0 g0 h0 h' g' w/\Le h g w h' g' w/\Ba g' w (AJ h') av (.slice none 0 0):=by
 have base:∀(d:Nat) (o' : HO),h d=.free->o'≠.free->(∀g' : Gh,g'.ρ d=.slice none 0 0->g'.ln d=0->g'.tk d=true->g'.own d=none->DR g' w (AJ (AO h d o')) d o') ->
   CU w0 g0 h0 (AO h d o') (g.upd d (.slice none 0 0) 0 true none g.S) w/\Le h g w (AO h d o') (g.upd d (.slice none 0 0) 0 true none g.S) w:=by
  intro d o' hd Ef Ma;refine hI.upd d o' _ _ _ _ _ w none ⟨rfl,rfl,rfl,Ao _⟩ (fun _ _ _=>rfl) (fun b e=>by cases e) (fun _ _ h=>h) (fun _ _ h=>.inl h) (fun b o e=>by cases e) (fun b _ e=>by cases e) Ef (fun hu=>absurd hd hu) (fun _ _=>?_)
  grind [Bo]
 unfold Fb at hk;split at hk
 .simp_all
 .rename_i d;generalize Ku cx d=d1 at hk;split at hk
  .rename_i hd;split at hk
   .obtain⟨k1,k2⟩:=base d1 (.arr sz []) hd Cl (fun g' u1 u2 u3 u4=>⟨u3,u2,by simp,.inl ⟨rfl,u1,u4⟩⟩);exact⟨_,_,_,hk,k1,k2,.msl _ d1 0 none 0 (by grind [AJ,A5]) (by simp[Gh.upd]) (Aj _) (.inl rfl) (fun _=>by simp[Gh.upd])⟩
   .obtain⟨k1,k2⟩:=base d1 (.tok sz 0) hd Cl (fun g' u1 u2 u3 u4=>⟨u3,u2,none,0,u1,.inl ⟨rfl,u4⟩⟩);exact⟨_,_,_,hk,k1,k2,.tok _ d1 sz [] _ (.snil _ _ _) Cl (by grind [AJ,A5]) (by simp[Gh.upd]) (Aj _) (fun _=>by simp[Gh.upd])⟩
  simp_all
theorem cQ(hT:Ca P cx.T){d:Option Nat}{t ty:Nat}{s x:AV}{vs:Value}(hs:Ba g w (AJ h) s vs)(hx:Ba g w (AJ h) x vx)(hk:Ir cx d h t s x K) :
  N2 P w0 g0 h0 h g w (Builtin.append_ #[t,t] ty #[vs,vx]) K:=by
 unfold Ir at hk;split at hk
 .rename_i e ht;split at hk
  .simp_all
  .rename_i hz;have hz:=A3 hz;split at hk
   .simp_all
   .rename_i k FE;have h5:=jg hI (sz:=(cx.T e).size) hx hk
    clear hk
    obtain⟨es2,hk,h6⟩:=h5;split at hk
    .obtain⟨⟨q1,q2,q3⟩,hk⟩:=hk;obtain rfl:=hs.v_eq;obtain⟨news,n1,n2⟩:=h6 (FV q1);obtain⟨m1,m2,a,c,rfl,m4⟩:=n1
     by_cases hm:es2.length=0
     .obtain rfl:=AY hm;obtain⟨g',av,h',k1,k2,k3,k4⟩:=j9 hI hk;exact⟨_,w,g',av,h',IY hT w ht FE none a 0 0 c (Ao _),k1,k2,k3,k4⟩
     .obtain⟨nc,rest,r1,r2,r3⟩:=H5 hT w (ty:=ty) ht FE hz (olds:=[]) (a:=none) (n:=0) (cap:=0) ⟨by simp,by simp,none,0,rfl,.inl rfl⟩ rfl (fun _=>rfl) ⟨m1,m2,a,c,rfl,m4⟩ rfl ch ch B0 ch;obtain⟨g',av,h',k1,k2,k3,k4⟩:=Ki hI hk (vs:=([]++news++rest).toArray) (cap:=nc) e (FV q1) ch ch (by
       simp_all) w.drew ⟨rfl,rfl,rfl,rfl⟩
      rw[Fq]at r1;exact⟨_,_,g',av,h',r1,k1,k2,k3,k4⟩
    .rename_i HJ es;split at hk
     .rename_i Vw;obtain Vw:=A3 Vw;obtain⟨⟨q1,q2,q3,q4⟩,hk⟩:=hk;obtain⟨news,n1,n2⟩:=h6 (FV q1);obtain⟨m1,m2,a2,c2,rfl,m4⟩:=n1;cases hs with
      |full _ _ _ _ hr sj Sy=>
       obtain⟨a,rfl⟩:=Sy;have Gl:∀c∈es++es2,c.length=(cx.T e).size:=fun c hc=>(Bh.1 hc).elim (fun h=>(sj c h).trans Vw) (FV q1 c);obtain⟨olds,o1,o2⟩:=OO.of_rep hr (sz:=(cx.T e).size) (fun c hc=>(sj c hc).trans Vw);have hrl:=o2.app n2;rw[<-Ci]at hrl;have ha:a=none->es.length=0:=by
        rintro rfl
        obtain⟨p1,p2,a',c',p3,p4⟩:=o1<;>grind
       obtain⟨nc,rest,r1,r2,r3⟩:=H5 hT w (ty:=ty) ht FE hz o1 rfl ha ⟨m1,m2,a2,c2,rfl,m4⟩ rfl q2 ch q3 q4;obtain⟨g',av,h',k1,k2,k3,k4⟩:=Ki hI hk (vs:=(olds++news++rest).toArray) (cap:=nc) e Gl B0 ch (by
        rw[show(olds++news++rest).toArray.toList=olds++news++rest from rfl,JY (by rw[Ac,Ac,o1.1,m1,Iz])];exact hrl) w.drew ⟨rfl,rfl,rfl,rfl⟩
       rw[Ac]at k4;exact⟨_,_,g',av,h',r1,k1,k2,k3,k4⟩
     simp_all
    .rename_i r HJ es;have ho:=hI.objs r;split at hk
     .rename_i sz n e0;rw[e0]at ho;split at hk
      .rename_i Vw AfX;obtain rfl:=A3 AfX;obtain Vw:=A3 Vw;obtain⟨⟨q1,q2,q3,q4⟩,hk⟩:=hk;rw[Vw]at q1;obtain⟨news,n1,n2⟩:=h6 (FV q1);obtain⟨m1,m2,a2,c2,rfl,m4⟩:=n1;obtain⟨t1,l1,a,cap,a1,a3⟩:=ho;have hl:(h r).live:=by rw[e0];trivial
       have Gl:∀c∈es++es2,es.length=n->True:=fun _ _ _=>trivial;cases hs with
       |tok _ _ _ _ _ hr sj hu ht' hn Sy=>
        have hv:=Sy (q2.trans l1.symm);rw[a1]at hv;subst hv;subst q2;have Gl:∀c∈es++es2,c.length=HJ:=fun c hc=>(Bh.1 hc).elim (sj c) (fun h=>(FV q1 c h).trans Vw.symm);obtain⟨olds,o1,o2⟩:=OO.of_rep hr sj;have hrl:=o2.app n2;rw[<-Ci]at hrl;have ge:es.length<=cap:=ch
        by_cases hm:es2.length=0
        .obtain rfl:=AY hm;have Ma:=hI.objs r;rw[e0]at Ma
         obtain⟨k1,k2⟩:=hI.upd r (.tok HJ (es.length+([]:C0).length)) (g.ρ r) (g.ln r) (g.tk r) (g.own r) g.S w none ⟨rfl,rfl,rfl,Ao _⟩ (fun _ _ _=>rfl) (fun b e=>by cases e) (fun _ _ h=>h) (fun _ _ h=>.inl h) (fun b o e=>by cases e)
          (fun b _ e=>⟨(hI.loc r b hl e).1,.inl ⟨hl,e⟩⟩) Cl (fun _=>⟨rfl,Ao _,fun _=>rfl,fun _=>rfl⟩) (fun hg IN=>by
           obtain⟨u1,u2,u3,u4⟩:=Bo g r (g.ρ r) (g.ln r) (g.tk r) (g.own r) g.S;rw[AC,HD];exact Ma.same IN (fun i hi=>DG Cl i hi) hg u1 u2 u3 u4 (fun b _ _=>⟨rfl,fun _ h=>h⟩))
         refine⟨_,w,_,_,_,IY hT w ht FE a a2 es.length cap c2 ge,hk,k1,k2,?_⟩
         grind [Ba.tok,Ba.le]
        .by_cases LY:es.length+es2.length<=cap
         .rcases a3 with ⟨e1,_⟩ | ⟨e1,b,E,Ep,off,rfl,e3,⟨fz,e4,efz⟩,e5,e6⟩
          .omega
          .rcases m4 with h | ⟨ba,rfl,I5⟩
           .omega
           .obtain⟨i,z,i1,i2,i3,i4,i5⟩:=HQ hT FE;have dA:(es.length+es2.length)*HJ<=cap*HJ:=Bl _ LY;have hm1:news.length=es2.length*HJ:=B0
            have wZ:i.size=HJ:=i3.trans Vw.symm;have CP:=U7 (P:=P) t ty e i (hT.slice ht) i1 b off es.length cap Ep e4 efz ba es2.length c2 news B0 I5 m2 LY aa0;rw[wZ]at CP;have Hw:∀j u,olds[j]?=some u->w.cell? ⟨b,off+j,none⟩=some u:=by
             obtain⟨p1,p2,a',c',p3,p4⟩:=o1;cases p3;intro j u hj;rcases p4 with h | ⟨b',h,h'⟩
             .simp_all
             .cases h
              have:=h' j u hj
              rwa [Addr.add_lit]at this
            obtain⟨p1,p2,p3⟩:=tD e4 e5 e1 LY hm1 o1.1 Hw;generalize hnewd:Ep.toList.take (off+es.length*HJ)++news++Ep.toList.drop (off+es.length*HJ+news.length)=new at CP p1 p2 p3;have EO:=setRow_heap w b Ep new.toArray E fz e4;have AaC:=(hI.loc r b hl e3).1
            obtain⟨k1,k2⟩:=hI.upd r (.tok HJ (es.length+es2.length)) (.slice (some ⟨b,off,none⟩) (es.length+es2.length) cap) (es.length+es2.length) (g.tk r) (g.own r) (g.more b (off+(es.length+es2.length)*HJ)) (w.setRow b new.toArray) (some b)
             ⟨rfl,rfl,rfl,by simp_all⟩ (fun k _ Ef=>setRow_other w b k _ (fun e=>Ef (by rw[e]))) (fun b' e=>by simp_all) (fun _ _ h=>.inl h)
             (fun b' o hs=>hs.elim .inl (fun hs=>.inr ⟨by simp_all,.inr ⟨hl,by simp_all⟩⟩))
             (fun b' o e hs=>by
              cases e
              refine⟨?_,fun es ck he=>by simp_all⟩;rw[F6 EO,F6 e4];simp_all) (fun b' _ e=>by
              simp_all) Cl (fun _=>⟨rfl,by omega,fun e=>B0,fun e=>by omega⟩) (fun hg IN=>by
              obtain⟨u1,u2,u3,u4⟩:=Bo g r (.slice (some ⟨b,off,none⟩) (es.length+es2.length) cap) (es.length+es2.length) (g.tk r) (g.own r) (g.more b (off+(es.length+es2.length)*HJ));exact⟨u3.trans t1,u2,_,cap,u1,  .inr ⟨LY,b,E,_,off,rfl,u4.trans e3,⟨fz,EO,efz.imp id fun h=>by simp_all⟩,by omega,fun o ho=>by
               rcases ho with ho | ⟨_,ho⟩
               all_goals grind⟩⟩)
            have Ey:=Ba.slice_off (g:=g.upd r (.slice (some ⟨b,off,none⟩) (es.length+es2.length) cap) (es.length+es2.length) (g.tk r) (g.own r) (g.more b (off+(es.length+es2.length)*HJ))) (U:=AJ (AO h r (.tok HJ (es.length+es2.length)))) (cap:=cap) (es:=es++es2) EO Gl B0 (by
             rw[Ac,show new.toArray.toList=new from rfl,p2];exact hrl.mono k2.keeps (fun _ h=>h) (fun _ h=>h.elim)) (fun o ho=>.inr ⟨rfl,by simp_all⟩)
            rw[Ac]at Ey;exact⟨_,_,_,_,_,CP,hk,k1,k2,.tok _ r HJ _ _ Ey Gl (by unfold AJ;rw[A5];simp) (by simp[Gh.upd,t1]) (by simp[Gh.upd]) (fun _=>by simp[Gh.upd])⟩
         .have nH:cap<es.length+es2.length:=ch
          have ha:a=none->cap=0:=by
           rintro rfl
           rcases a3 with ⟨e1,_⟩ | ⟨_,b,_,_,_,e2,_⟩
           .obtain⟨p1,p2,a',c',p3,p4⟩:=o1<;>grind
           simp_all
          obtain⟨nc,rest,r1,r2,r3⟩:=H5 hT w (ty:=ty) ht FE hz (by rw[<-Vw];exact o1) rfl ha ⟨m1,m2,a2,c2,rfl,m4⟩ rfl ch nH q3 q4;have EO:=GC w.drew (.cells (olds++news++rest).toArray e (0,0)) (b:=w.heap.size) rfl
          obtain⟨k1,k2⟩:=hI.upd r (.tok HJ (es.length+es2.length)) (.slice (some ⟨w.heap.size,0,none⟩) (es.length+es2.length) nc) (es.length+es2.length) (g.tk r) (some w.heap.size) (g.more w.heap.size ((es.length+es2.length)*HJ))
           (w.drew.alloc (.cells (olds++news++rest).toArray e (0,0))) none
           ⟨rfl,rfl,rfl,by simp_all⟩ (fun k hk' _=>by rw[heap_alloc_old _ _ (by exact hk')];rfl) (fun b' e=>by cases e) (fun _ _ h=>.inl h)
           (fun b' o hs=>hs.elim .inl (fun hs=>.inr ⟨by simp_all,.inl ch⟩))
           (fun b' o e=>by cases e) (fun b' _ e=>by simp_all) Cl (fun _=>⟨rfl,by omega,fun e=>B0,fun e=>by omega⟩) (fun hg IN=>by
            obtain⟨u1,u2,u3,u4⟩:=Bo g r (.slice (some ⟨w.heap.size,0,none⟩) (es.length+es2.length) nc) (es.length+es2.length) (g.tk r) (some w.heap.size) (g.more w.heap.size ((es.length+es2.length)*HJ));exact⟨u3.trans t1,u2,_,nc,u1,.inr ⟨r2,w.heap.size,e,_,0,rfl,u4,.of EO,by simp_all,fun o ho=>by
             rcases ho with ho | ⟨_,ho⟩
             .have:=hI.slt _ _ ho;omega
             .omega⟩⟩)
          have Ey:=Ba.slice_row (g:=g.upd r (.slice (some ⟨w.heap.size,0,none⟩) (es.length+es2.length) nc) (es.length+es2.length) (g.tk r) (some w.heap.size) (g.more w.heap.size ((es.length+es2.length)*HJ))) (U:=AJ (AO h r (.tok HJ (es.length+es2.length)))) (cap:=nc) (es:=es++es2) EO Gl B0 (by
           rw[Ac,show(olds++news++rest).toArray.toList=olds++news++rest from rfl,JY (by rw[Ac,o1.1,m1,Vw,Iz])];exact hrl.mono k2.keeps (fun _ h=>h) (fun _ h=>h.elim)) (fun o ho=>.inr ⟨rfl,by simp_all⟩)
          rw[Ac]at Ey;exact⟨_,_,_,_,_,r1,hk,k1,k2,.tok _ r HJ _ _ Ey Gl (by grind [AJ,A5]) (by grind [Gh.upd]) (by simp[Gh.upd]) (fun _=>by simp[Gh.upd])⟩
      simp_all
     simp_all
    .rename_i r n;have ho:=hI.objs r;split at hk
     .rename_i sz es e0;split at hk
      .rename_i Vw;obtain Vw:=A3 Vw;obtain⟨⟨q1,q2,q3,q4⟩,hk⟩:=hk;rw[Vw]at q1;obtain⟨news,n1,n2⟩:=h6 (FV q1);obtain⟨m1,m2,a2,c2,rfl,m4⟩:=n1;obtain⟨hv,olds,o1,o2⟩:=Wg hI e0 hs q2.symm;have Ma:=ho;rw[e0]at ho;obtain⟨t1,l1,al,a3⟩:=ho;have hl:(h r).live:=by rw[e0];trivial
       subst hv;have Gl:∀c∈es++es2,c.length=sz:=fun c hc=>(Bh.1 hc).elim (al c) (fun h=>(FV q1 c h).trans Vw.symm);have hrl:=o2.app n2;rw[<-Ci]at hrl;obtain⟨a,cap,hρ,ge,ha⟩:∃a cap,g.ρ r=.slice a es.length cap/\es.length<=cap/\(a=none->cap=0):=by
        grind
       by_cases hm:es2.length=0
       .obtain rfl:=AY hm;rw[e0]at Ma
        obtain⟨k1,k2⟩:=hI.upd r (.arr sz (es++[])) (g.ρ r) (g.ln r) (g.tk r) (g.own r) g.S w none ⟨rfl,rfl,rfl,Ao _⟩ (fun _ _ _=>rfl) (fun b e=>by cases e) (fun _ _ h=>h) (fun _ _ h=>.inl h) (fun b o e=>by cases e)
         (fun b _ e=>⟨(hI.loc r b hl e).1,.inl ⟨hl,e⟩⟩) Cl (fun _=>⟨rfl,Ao _,fun _=>rfl,fun _=>rfl⟩) (fun hg IN=>by
          obtain⟨u1,u2,u3,u4⟩:=Bo g r (g.ρ r) (g.ln r) (g.tk r) (g.own r) g.S;rw[Bg];exact Ma.same IN (fun i hi=>DG Cl i hi) hg u1 u2 u3 u4 (fun b _ _=>⟨rfl,fun _ h=>h⟩))
        refine⟨g.ρ r,w,_,_,_,?_,hk,k1,k2,?_⟩
        .rw[hρ];exact IY hT w ht FE a a2 es.length cap c2 ge
        grind [Ba.le]
       .by_cases LY:es.length+es2.length<=cap
        .rcases a3 with ⟨rfl,e2,e3⟩ | ⟨b,Mn,E,Ep,e1,e2,e3,e4,e5,e6,e7⟩
         .grind
         .rw[e1]at hρ;simp only[Value.slice.injEq,true_and]at hρ;obtain⟨rfl,rfl⟩:=hρ;rcases m4 with h | ⟨ba,rfl,I5⟩
          .omega
          .obtain⟨i,z,i1,i2,i3,i4,i5⟩:=HQ hT FE;have dA:(es.length+es2.length)*sz<=Mn*sz:=Bl _ LY;have hm1:news.length=es2.length*sz:=B0
           have wZ:i.size=sz:=i3.trans Vw.symm;have CP:=Ri (P:=P) t ty e i (hT.slice ht) i1 b es.length Mn Ep e4 ba es2.length c2 news B0 I5 m2 LY aa0;rw[wZ]at CP;have Hw:∀j u,olds[j]?=some u->w.cell? ⟨b,j,none⟩=some u:=by
            obtain⟨p1,p2,a',c',p3,p4⟩:=o1<;>grind [Addr.add_lit]
           obtain⟨p1,p2,p3⟩:=pB e4 e5 e3 LY hm1 o1.1 Hw;generalize hnewd:Ep.toList.take (es.length*sz)++news++Ep.toList.drop (es.length*sz+news.length)=new at CP p1 p2 p3;have EO:=setRow_heap w b Ep new.toArray E (0,0) e4;have AaC:=(hI.loc r b hl e2).1
           obtain⟨k1,k2⟩:=hI.upd r (.arr sz (es++es2)) (.slice (some ⟨b,0,none⟩) (es.length+es2.length) Mn) (es.length+es2.length) (g.tk r) (g.own r) g.S (w.setRow b new.toArray) (some b)
            ⟨rfl,rfl,rfl,by simp_all⟩ (fun k _ Ef=>setRow_other w b k _ (fun e=>Ef (by rw[e]))) (fun b' e=>by simp_all) (fun _ _ h=>h) (fun _ _ h=>.inl h)
            (fun b' o e hs=>by simp_all) (fun b' _ e=>by
             simp_all) Cl (fun _=>⟨rfl,by omega,fun e=>B0,fun e=>by omega⟩) (fun hg IN=>by
             obtain⟨u1,u2,u3,u4⟩:=Bo g r (.slice (some ⟨b,0,none⟩) (es.length+es2.length) Mn) (es.length+es2.length) (g.tk r) (g.own r) g.S;refine⟨u3.trans t1,by simp_all,Gl,.inr ⟨b,Mn,E,_,by simp_all,u4.trans e2,by simp_all,EO,by omega,?_,e7⟩⟩;rw[Ac,show new.toArray.toList=new from rfl,p2];exact hrl.mono IN (fun _ h=>h) (fun _ h=>h.elim))
           rw[e1];exact⟨_,_,_,_,_,CP,hk,k1,k2,.msl _ r _ _ _ (by unfold AJ;rw[A5];simp) (by simp[Gh.upd,t1]) (by simp[Gh.upd]) (.inr ⟨_,rfl⟩) (fun _=>by simp[Gh.upd])⟩
        .have nH:cap<es.length+es2.length:=ch
         obtain⟨nc,rest,r1,r2,r3⟩:=H5 hT w (ty:=ty) ht FE hz (by rw[<-Vw];exact o1) hρ ha ⟨m1,m2,a2,c2,rfl,m4⟩ rfl ch nH q3 q4;have EO:=GC w.drew (.cells (olds++news++rest).toArray e (0,0)) (b:=w.heap.size) rfl
         obtain⟨k1,k2⟩:=hI.upd r (.arr sz (es++es2)) (.slice (some ⟨w.heap.size,0,none⟩) (es.length+es2.length) nc) (es.length+es2.length) (g.tk r) (some w.heap.size) g.S
          (w.drew.alloc (.cells (olds++news++rest).toArray e (0,0))) none
          ⟨rfl,rfl,rfl,by simp_all⟩ (fun k hk' _=>by rw[heap_alloc_old _ _ (by exact hk')];rfl) (fun b' e=>by cases e) (fun _ _ h=>h) (fun _ _ h=>.inl h)
          (fun b' o e=>by cases e) (fun b' _ e=>by simp_all) Cl (fun _=>⟨rfl,by omega,fun e=>B0,fun e=>by omega⟩) (fun hg IN=>by
           obtain⟨u1,u2,u3,u4⟩:=Bo g r (.slice (some ⟨w.heap.size,0,none⟩) (es.length+es2.length) nc) (es.length+es2.length) (g.tk r) (some w.heap.size) g.S;refine⟨u3.trans t1,by simp_all,Gl,.inr ⟨w.heap.size,nc,e,_,by simp_all,u4,by simp_all,EO,by simp_all,?_,fun o ho=>by have:=hI.slt _ _ ho;omega⟩⟩;rw[Ac,show(olds++news++rest).toArray.toList=olds++news++rest from rfl,JY (by rw[Ac,o1.1,m1,Vw,Iz])];exact hrl.mono IN (fun _ h=>h) (fun _ h=>h.elim))
         exact⟨_,_,_,_,_,r1,hk,k1,k2,.msl _ r _ _ _ (by grind [AJ,A5]) (by grind [Gh.upd]) (by simp[Gh.upd]) (.inr ⟨_,rfl⟩) (fun _=>by simp[Gh.upd])⟩
      simp_all
     simp_all
    simp_all
 simp_all
theorem jb(hT:Ca P cx.T){d:Option Nat}{s t:Nat}{x:AV}(hx:Ba g w (AJ h) x vx)(hk:dg cx d h s t x K):N2 P w0 g0 h0 h g w (convert s t vx) K:=by
 unfold dg at hk;split at hk
 .rename_i e b hs ht;split at hk
  .rename_i d he;generalize Ku cx d=d1 at hk;split at hk
   .rename_i hd;obtain rfl:=hx.v_eq;have CP:=run_bytes_of_string (P:=P) w s t e b (hT.string hs) (hT.slice ht) (hT.int he);have Py:b.size<=grownCap w b.size 0 e:=grownCap_ge w b.size 0 e;generalize grownCap w b.size 0 e=cap at CP Py;have Dr:(Li b).length=b.size:=by
     simp_all
    have hbl:b.data.toList.length=b.size:=B0
    have gp:(bytesRow b cap).size=cap:=by
     show(b.data.map _++Array.replicate _ _).size=cap;simp_all
    have xl:(bytesRow b cap).toList.take ((Li b).length*1)=b.data.toList.map fun c=>Value.int .u8 c.toNat:=by
     show(b.data.map _++Array.replicate _ _).toList.take _=_;simp_all
    have hfl:(Li b).flatten=(b.data.toList.map fun c=>Value.int .u8 c.toNat).map AV.v:=by
     rw[Bw]
     have:∀l:List UInt8,(l.map fun c=>[AV.v (.int .u8 c.toNat)]).flatten=l.map (AV.v ∘ fun c=>Value.int .u8 c.toNat):=fun l=>by
      induction l<;>simp_all
     simp_all
    have Ys:∀l:List UInt8,GT ((l.map fun c=>Value.int .u8 c.toNat).map AV.v)=true:=fun l=>by
     induction l with
     |nil=>rfl
     |cons c l ih=>exact ih
    have hr:Ck g w FD (Li b).flatten ((bytesRow b cap).toList.take ((Li b).length*1)):=by
     grind [Ck.vals]
    have hl:∀cs∈Li b,cs.length=1:=fun cs hc=>by grind
    generalize bytesRow b cap=vs at CP gp hr;rw[<-Dr]at CP Py;generalize Li b=es at *
    have EO:(w.drew.alloc (.cells vs e (vs.size,vs.size+1))).heap[w.heap.size]?=some (.cells vs e (vs.size,vs.size+1)):=GC w.drew _ rfl
    have zr:=hI.upd d1 (.tok 1 es.length) (.slice (some ⟨w.heap.size,0,none⟩) es.length cap) es.length true (some w.heap.size) (g.more w.heap.size (es.length*1)) (w.drew.alloc (.cells vs e (vs.size,vs.size+1))) none
     ⟨rfl,rfl,rfl,by simp_all⟩ (fun k hk' _=>by rw[heap_alloc_old _ _ (by exact hk')];rfl) (fun b e=>by cases e) (fun _ _ h=>.inl h)
     (fun b o hb=>by
      rcases hb with hb | ⟨rfl,_⟩<;>simp_all) (fun b o e=>by cases e)
     (fun b _ e=>by simp_all) Cl (fun hu=>absurd hd hu) (fun hg IN=>by
      obtain⟨u1,u2,u3,u4⟩:=Bo g d1 (.slice (some ⟨w.heap.size,0,none⟩) es.length cap) es.length true (some w.heap.size) (g.more w.heap.size (es.length*1));exact⟨u3,u2,_,cap,u1,.inr ⟨Py,w.heap.size,e,vs,0,rfl,u4,⟨_,EO,.inr (Ao _)⟩,by omega,fun o ho=>by
       rcases ho with ho | ⟨_,ho⟩
       .have:=hI.slt _ _ ho;omega
       .omega⟩⟩)
    obtain⟨k1,k2⟩:=zr;refine⟨_,_,_,_,_,CP,hk,k1,k2,.tok _ d1 1 es _ (Ba.slice_row EO hl Py (hr.mono k2.keeps (fun _ h=>h) (fun _ h=>h.elim)) (fun o ho=>.inr ⟨rfl,ho⟩)) hl (by grind [AJ,A5]) ?_ ?_ ?_⟩<;>simp[Gh.upd]
   simp_all
  simp_all
 grind [Bv.does,ZN]
end
end Go.Eng
