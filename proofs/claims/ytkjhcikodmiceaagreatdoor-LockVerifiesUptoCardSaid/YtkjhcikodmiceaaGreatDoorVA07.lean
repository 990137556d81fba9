/- Lemmas 7. -/
import Derived.Test.YtkjhcikodmiceaaGreatDoorVA06
import Derived.Laws.IdiomStrings
namespace Go.Eng
variable {Ef:Array Value}{E:TypeId}{vx:Value}{olds:List Value}{K:HK}{es:C0}{x:Value}{cx:Cx}{α:Type}{U:Nat->Prop}{e:Nat}{T:GW}{g:Gh}(n:Nat)
theorem Nw{α:Type}:∀(cs:List α) (o:Nat) (vs:List α),o+vs.length<=cs.length->over cs o vs=cs.take o++vs++cs.drop (o+vs.length)
 | [],o,vs,h=>by
  simp at h;obtain⟨rfl,rfl⟩:=h
  rfl
 |c::cs,o+1,vs,h=>by
  rw[over,Nw cs o vs (by grind)]
  grind
 |c::cs,0,[],h=>by simp[over]
 |c::cs,0,v::vs,h=>by
  rw[over,Nw cs 0 vs (by simp_all)];simp
theorem WX(cs:List α)(o n:Nat)(vs:List α)(h:o+vs.length<=n)(hn:n<=cs.length):(over cs o vs).take n=over (cs.take n) o vs:=by
 apply CU
 grind [GT]
theorem Mt{n:Nat}:∀{es:List (List α)},(∀c∈es,c.length=n)->∀{i:Nat} {c:List α},es[i]?=some c->∀(o:Nat) (vs:List α),o+vs.length<=n ->
  (es.set i (over c o vs)).flatten=over es.flatten (i*n+o) vs
 | [],_,i,c,h,_,_,_=>by simp_all
 |d::es,hl,i,c,h,o,vs,Js=>by
  have hd:=hl d (Ag ..);have hfl:=Dq (es:=d::es) (n:=n) hl;have ET:=(Bf.1 h).1;have AcY:i*n+o+vs.length<=(d::es).flatten.length:=by
   rw[hfl]
   have:=BD n (show i+1<=(d::es).length from ET)
   grind
  have hcl:=hl c (Az h);apply CU;intro j;rw[GT _ _ _ _ AcY];have Ot:∀e∈(d::es).set i (over c o vs),e.length=n:=fun e he=>by
   rcases List.mem_or_eq_of_mem_set he with he | rfl
   .grind
   .rw[Gd];exact hcl
  by_cases hn:n=0
  .subst hn;have h1:=Dq Ot;simp_all
  .have hdm:j=j / n*n+j % n:=by rw[Nat.mul_comm];exact(Nat.div_add_mod j n).symm
   have yJ:j % n<n:=Nat.mod_lt _ Wk
   by_cases hj:j / n<(d::es).length
   .have g1:(d::es)[j / n]?=some ((d::es)[j / n]):=AW hj;have g2:((d::es).set i (over c o vs))[j / n]?=some (if i=j / n then over c o vs else(d::es)[j / n]):=by
     grind
    have f1:=Fz hl g1 yJ;have f2:=Fz Ot g2 yJ;rw[<-hdm]at f1 f2;rw[f1,f2];split
    .rename_i e;rw[e]at h;rw[g1]at h;cases h;rw[GT _ _ _ _ Wk];have e2:i*n+o<=j↔o<=j % n:=by rw[e];omega
     have e3:j<i*n+o+vs.length↔j % n<o+vs.length:=by rw[e];omega
     simp only[e2,e3];split
     .congr 1;rw[e];omega
     .rfl
    .rename_i e
     have:¬(i*n+o<=j/\j<i*n+o+vs.length):=by
      rintro⟨q1,q2⟩
      apply e;have a1:i*n<=j:=by omega
      have a2:j<(i+1)*n:=by grind
      have:=(Nat.le_div_iff_mul_le Wk).2 a1
      have:=(Nat.div_lt_iff_lt_mul Wk).2 a2
      omega
     grind
   .have yy:(d::es).length*n<=j:=by
     have:=Nat.not_lt.1 hj
     have:=(Nat.le_div_iff_mul_le Wk).1 this
     omega
    have:¬(i*n+o<=j/\j<i*n+o+vs.length):=by omega
    rw[AN this,List.getElem?_eq_none (by rw[Dq Ot,VX];exact yy),List.getElem?_eq_none Wk]
theorem Qn{P:Program}(hT:B8 P T)(w:World){t b off:Nat}(hd:(T t).d≠.other)(hs:x.cells.toList.length=(T t).size)(h1:∀v∈x.cells.toList,v.oneCell'=true)(hb:w.heap[b]?=some (.cells Ef E (0,0)))(Js:off+x.cells.toList.length<=Ef.size) :
  (Instr.storeAt t (.pointer (some ⟨b,off,none⟩)) x).run P w=.ok () (w.setRow b (over Ef.toList off x.cells.toList).toArray):=by
 have Jt:=run_storeCells_at P b off E x.cells.toList 0 Ef w hb Wk h1;simp only[HM]at Jt;have iI : x.cells.size=(T t).size:=by omega
 rw[Nw _ _ _ Wk];simp only[Instr.storeAt,Sem.run_bind,Instr.sureAddr,Sem.run_pure,Result.andThen_ok,storeVar,hT.size w hd,iI,ne_eq,not_true_eq_false,if_false];exact Jt
section
variable {P:Program}{w0:World}{g0:Gh}{h0 h:Nat->HO}{g:Gh}{w:World}(hI:CT w0 g0 h0 h g w)
include hI
theorem gO{d:Nat}(hd:h d=.free)(h1:h 1001=.free)(hn:d≠1001){vs:Array Value}(hv:vs=#[.pointer none,.slice none 0 0]) :
  ∃g',CT w0 g0 h0 (AK (AK h 1001 (.bbf 0)) d (.bld (.slice (.id 1001 1) []))) g' (w.alloc (.cells vs YZ (0,0)))/\Le h g w (AK (AK h 1001 (.bbf 0)) d (.bld (.slice (.id 1001 1) []))) g' (w.alloc (.cells vs YZ (0,0))) /\
   Bc g' (w.alloc (.cells vs YZ (0,0))) (AC (AK (AK h 1001 (.bbf 0)) d (.bld (.slice (.id 1001 1) [])))) (.ref d 0) (.pointer (some ⟨w.heap.size,0,none⟩)):=by
 obtain⟨k1,k2⟩:=hI.upd 1001 (.bbf 0) (.slice none 0 0) 0 true none g.S w none ⟨rfl,rfl,rfl,Ap _⟩ (fun _ _ _=>rfl) (fun b e=>by cases e) (fun _ _ h=>h) (fun _ _ h=>.inl h) (fun b o e=>by cases e)
  (fun b _ e=>by cases e) aa0 (fun hu=>absurd h1 hu) (fun _ _=>⟨by simp[Gh.upd],by simp[Gh.upd],.inl ⟨rfl,by simp[Gh.upd],by simp[Gh.upd]⟩⟩)
 obtain⟨m1,m2⟩:=k1.newOwn (d:=d) (by grind [BT]) (.bld (.slice (.id 1001 1) [])) (.cells vs YZ (0,0)) (.pointer (some ⟨w.heap.size,0,none⟩)) 0 false w ⟨rfl,rfl,rfl,rfl⟩ aa0
  (fun _ _=>by
   subst hv;refine⟨by simp[Gh.upd],w.heap.size,.pointer none,.slice none 0 0,by simp[Gh.upd],by simp[Gh.upd],heap_alloc_new w _,.inl rfl,?_,fun o hs=>?_⟩
   .refine .tok _ 1001 1 [] _ (.snil _ _ _) aa0 ?_ ?_ (Al _) (fun _=>?_)
    .grind [AC,BT,A2]
    .simp[Gh.upd,Ne.symm hn]
    .simp[Gh.upd,Ne.symm hn]
   .have:=hI.slt _ _ hs;omega)
 exact⟨_,m1,k2.trans m2,.ref _ d 0 w.heap.size (by grind [AC,A2]) (by simp[Gh.upd]) (by simp[Gh.upd])⟩
theorem gE(hT:B8 P T){d:Option Nat}{e:Nat}(hk:Th T d h e K):N8 P w0 g0 h0 h g w (Instr.alloc e true (.tuple #[])) K:=by
 unfold Th at hk;split at hk
 .simp_all
 .split at hk
  .rename_i hd;split at hk
   .simp_all
   .rename_i EG;split at hk
    .rename_i he;obtain rfl:=AZ he;split at hk
     .rename_i h1 hn hz;obtain⟨z,z1,z2,_⟩:=M4 hT (w:=w) EG;have hv:z.cells=#[.pointer none,.slice none 0 0]:=by grind
      obtain⟨g',k1,k2,k3⟩:=gO hI hd h1 (fun e=>by simp_all) hv;refine⟨_,_,g',_,_,?_,hk,k1,k2,k3⟩;simp[Instr.alloc,z1,newVar,newRow]
     simp_all
    split at hk
    .rename_i ha;obtain⟨z,z1,z2,_⟩:=M4 hT (w:=w) EG;have hr:Cg g w (AC h) ((T e).zc.map .v) z.cells.toList:=by grind [Cg.vals]
     obtain⟨g',k1,k2,k3⟩:=Sb hI hd (vs:=z.cells) e hr;refine⟨_,_,g',_,_,?_,hk,k1,k2,k3⟩;simp[Instr.alloc,z1,newVar,newRow]
    simp_all
  simp_all
theorem Qq{cs:List AV}{vs:List Value}(hr:Cg g w (AC h) cs vs):Cg g w FN (cs.map (str h)) vs:=by
 refine⟨by rw[BJ];exact hr.1,hr.2.1,fun i av x h1 h2=>?_⟩;rw[BK,B3]at h1;obtain⟨a,a1,rfl⟩:=h1;exact(hr.2.2 i a x a1 h2).str hI.objs
theorem pk{d:Option Nat}{e:Nat}{x:AV}(hx:Bc g w (AC h) x vx)(hk:gQ cx d h e x K):N8 P w0 g0 h0 h g w (Instr.box e vx) K:=by
 unfold gQ at hk;split at hk
 .simp_all
 .split at hk
  .rename_i hd;split at hk
   .simp_all
   .obtain⟨cs,hk,hn,hr⟩:=Na hx hk;split at hk
    .obtain⟨g',k1,k2,k3⟩:=mZ hI hd (vs:=vx.cells) e (Qq hI hr);exact⟨_,_,g',_,_,rfl,hk,k1,k2,k3⟩
    .obtain⟨g',k1,k2,k3⟩:=Sb hI hd (vs:=vx.cells) e hr;exact⟨_,_,g',_,_,rfl,hk,k1,k2,k3⟩
  simp_all
theorem CT.write{r b:Nat}(hl:(h r).live)(ho:g.own r=some b)(o' : HO)(hb:w.heap[b]?=some (.cells Ef E (0,0)))(new:Array Value)(n:Nat)(ow:Option Nat)(S' : Nat->Nat->Prop)(EG:o'≠.free)(hn:n=g.ln r)(how:∀b',ow=some b'->b'=b)(hS:∀b o,g.S b o->S' b o)(hSn:∀b' o,S' b' o->g.S b' o\/b'=b)(AfH:∀o,g.S b o->new[o]?=Ef[o]?)(Mb:Kn g (g.upd r (g.ρ r) n (g.tk r) ow S') (AC h)->Fa g w (g.upd r (g.ρ r) n (g.tk r) ow S') (w.setRow b new)->(w.setRow b new).heap[b]?=some (.cells new E (0,0)) ->
   DV (g.upd r (g.ρ r) n (g.tk r) ow S') (w.setRow b new) (AC (AK h r o')) r o') :
  CT w0 g0 h0 (AK h r o') (g.upd r (g.ρ r) n (g.tk r) ow S') (w.setRow b new)/\Le h g w (AK h r o') (g.upd r (g.ρ r) n (g.tk r) ow S') (w.setRow b new):=by
 have EU:=setRow_heap w b Ef new E (0,0) hb;have ET:=(hI.loc r b hl ho).1
 refine hI.upd r o' _ _ _ _ _ _ (some b) ⟨rfl,rfl,rfl,by simp_all⟩ (fun k hk EG=>setRow_other w b k new (fun e=>EG (by rw[e]))) (fun b' e=>by simp_all) hS (fun b' o hs=>?_)
  (fun b' o e hs=>?_) (fun b' _ e=>?_) EG (fun _=>⟨rfl,by omega,fun _=>rfl,fun _=>rfl⟩) (fun hg hk=>Mb hg hk EU)
 all_goals grind [Gb]
theorem jY(hT:B8 P cx.T){t:Nat}{p x:AV}{vp:Value}(hp:Bc g w (AC h) p vp)(hx:Bc g w (AC h) x vx)(hk:OS cx h t p x K) :
  kn P w0 g0 h0 h g w (Instr.storeAt t vp vx) K:=by
 unfold OS at hk;split at hk
 .simp_all
 .rename_i hd;have h5:=Na hx hk
  clear hk
  obtain⟨vs,hk,hn,hr⟩:=h5;have CL:vx.cells.toList.length=vs.length:=hr.1;split at hk
  .rename_i r off;have ho:=hI.objs r;split at hk
   .rename_i cs e;obtain⟨Js,hk⟩:=hk;rw[e]at ho;obtain⟨t0,b,E,Ef,a1,a2,a3,a4,a5⟩:=ho;cases hp with
    |ref _ _ _ b' hu ht oQ=>
     rw[a2]at oQ;cases oQ;have hcs:Ef.toList.length=cs.length:=a4.1;have CE:=Qn hT w (t:=t) (off:=off) (x:=vx) hd Wk hr.2.1 a3 (by simp_all);have hl:(h r).live:=by rw[e];trivial
     have uF:=a4.over hr off Js;split at hk
     .obtain⟨k1,k2⟩:=hI.write hl a1 (.ro ((over cs off vs).map (str h))) a3 (over Ef.toList off vx.cells.toList).toArray (g.ln r) none (g.more b cs.length) aa0 rfl (fun _ e=>by cases e) (fun _ _ h=>.inl h)
       (fun b' o hs=>hs.elim .inl (fun hs=>.inr hs.1)) (fun o hs=>absurd hs (a5 o)) (fun hg IS EU=>by
        obtain⟨u1,u2,u3,u4⟩:=Bm g r (g.ρ r) (g.ln r) (g.tk r) none (g.more b cs.length);refine⟨u3.trans t0,b,u1.trans a2,Bc.cptr_row EU ?_ (fun o ho=>.inr ⟨rfl,?_⟩)⟩
        .exact(Qq hI uF).mono IS (fun _ h=>h) (fun _ h=>h.elim)
        grind [Gd])
      exact⟨_,_,_,CE,hk,k1,k2⟩
     .obtain⟨k1,k2⟩:=hI.write hl a1 (.cells (over cs off vs)) a3 (over Ef.toList off vx.cells.toList).toArray (g.ln r) (g.own r) g.S aa0 rfl (fun b' e=>by simp_all) (fun _ _ h=>h)
       (fun b' o hs=>.inl hs) (fun o hs=>absurd hs (a5 o)) (fun hg IS EU=>by
        obtain⟨u1,u2,u3,u4⟩:=Bm g r (g.ρ r) (g.ln r) (g.tk r) (g.own r) g.S;exact⟨u3.trans t0,b,E,_,u4.trans a1,u1.trans a2,EU,uF.mono IS (fun i hi=>DG aa0 i hi) hg,a5⟩)
      exact⟨_,_,_,CE,hk,k1,k2⟩
   simp_all
  .rename_i r n sz i off;have ho:=hI.objs r;split at hk
   .rename_i HS es e;rw[e]at ho;split at hk
    .rename_i hz;obtain rfl:=AZ hz;obtain⟨hnl,cs,hi,Js,hk⟩:=hk;obtain⟨t1,l1,al,a1⟩:=ho;have ET:=(Bf.1 hi).1;rcases a1 with ⟨rfl,_⟩ | ⟨b,cap,E,Ef,e1,e2,e3,e4,e5,e6,e7⟩
     .simp_all
     .cases hp with
      |eref _ _ _ _ _ _ b' NL hu ht kj oQ=>
       have oQ:=oQ (hnl.trans l1.symm);rw[e1]at oQ;simp only[Value.slice.injEq,CV,Addr.mk.injEq]at oQ;obtain⟨⟨rfl,_,_⟩,_,_⟩:=oQ;have hcl:=al cs (Az hi);have X4:i*sz+sz<=es.length*sz:=by
        have:=BD sz (show i+1<=es.length from ET)
        grind
       have sD:es.length*sz<=cap*sz:=BD sz e3;have CE:=Qn hT w (t:=t) (off:=i*sz+off) (x:=vx) hd Wk hr.2.1 e4 Wk;have hl:(h r).live:=by rw[e];trivial
       have xZ : ∀c∈es.set i (over cs off (vs.map (str h))),c.length=sz:=fun c hc=>by
        rcases List.mem_or_eq_of_mem_set hc with hc | rfl
        .simp_all
        .rw[Gd];exact hcl
       have hfl:=Mt al hi off (vs.map (str h)) (by simp_all);have qk:Ef.toList.length=cap*sz:=by omega
       have uN:((over Ef.toList (i*sz+off) vx.cells.toList).toArray.toList.take ((es.set i (over cs off (vs.map (str h)))).length*sz))=over (Ef.toList.take (es.length*sz)) (i*sz+off) vx.cells.toList:=by
        rw[VX];exact WX _ _ _ _ Wk Wk
       have uF:Cg g w FN (es.set i (over cs off (vs.map (str h)))).flatten ((over Ef.toList (i*sz+off) vx.cells.toList).toArray.toList.take ((es.set i (over cs off (vs.map (str h)))).length*sz)):=by
        rw[uN,hfl];exact e6.over (Qq hI hr) _ (by rw[BJ,Dq al];omega)
       split at hk
       .rename_i j m;have mB:∃x0,vx.cells.toList=[x0]:=by
         revert CL
         cases vx.cells.toList with
         |nil=>grind
         |cons x0 l=>simp_all
        obtain⟨x0,mB⟩:=mB;have El:=hr.2.2 0 (.msl j m) x0 rfl (by grind)
        obtain⟨k1,k2⟩:=hI.write hl e2 (.hol sz (es.set i (over cs off [.junk])) i off (.msl j m)) e4 (over Ef.toList (i*sz+off) vx.cells.toList).toArray (g.ln r) (g.own r) g.S aa0 rfl (fun b' e=>by simp_all) (fun _ _ h=>h)
         (fun b' o hs=>.inl hs) (fun o hs=>absurd hs (e7 o)) (fun hg IS EU=>by
          obtain⟨u1,u2,u3,u4⟩:=Bm g r (g.ρ r) (g.ln r) (g.tk r) (g.own r) g.S;have Aiv:i*sz+off<es.length*sz:=by grind
          refine⟨u3.trans t1,u2.trans (by simp_all),xZ,b,cap,E,_,?_,u4.trans e2,by simp_all,EU,?_,uF.mono IS (fun _ h=>h) (fun _ h=>h.elim),e7,by simp_all,x0,?_,El.mono IS (fun i hi=>DG aa0 i hi) hg⟩
          .simp_all
          .simp only[List.size_toArray,Gd,Array.length_toList];exact e5
          .rw[<-CF,mB,GT _ _ _ _ (by grind),A3 ⟨Ap _,by grind⟩,IX];rfl)
        exact⟨_,_,_,CE,hk,k1,k2⟩
       .obtain⟨k1,k2⟩:=hI.write hl e2 (.arr sz (es.set i (over cs off (vs.map (str h))))) e4 (over Ef.toList (i*sz+off) vx.cells.toList).toArray (g.ln r) (g.own r) g.S aa0 rfl (fun b' e=>by simp_all) (fun _ _ h=>h)
         (fun b' o hs=>.inl hs) (fun o hs=>absurd hs (e7 o)) (fun hg IS EU=>by
          obtain⟨u1,u2,u3,u4⟩:=Bm g r (g.ρ r) (g.ln r) (g.tk r) (g.own r) g.S;refine⟨u3.trans t1,u2.trans (by simp_all),xZ,.inr ⟨b,cap,E,_,?_,u4.trans e2,by simp_all,EU,?_,uF.mono IS (fun _ h=>h) (fun _ h=>h.elim),e7⟩⟩
          all_goals grind [Gd])
        exact⟨_,_,_,CE,hk,k1,k2⟩
    simp_all
   simp_all
  simp_all
end
theorem jw(c vs:List α)(h:vs.length=c.length):over c 0 vs=vs:=by
 grind [Nw]
theorem Ie[Inhabited α](z:List α)(hz:z≠[]):(List.replicate n z).flatten=(List.range (n*z.length)).map fun k=>z[k % z.length]!:=by
 have hl:∀c∈List.replicate n z,c.length=z.length:=fun c hc=>by simp_all
 have yU:0<z.length:=List.length_pos_iff.2 hz;apply CU;intro k
 by_cases hk:k<n*z.length
 all_goals grind [Nat.mul_comm,Nat.div_add_mod,Nat.mod_lt,Nat.div_lt_iff_lt_mul,Fz,Dq,List.length_map,List.length_range]
section
variable {P:Program}{w0:World}{g0:Gh}{h0 h:Nat->HO}{g:Gh}{w:World}(hI:CT w0 g0 h0 h g w)
include hI
theorem Zw{n sz:Nat}{t:Nat->AV}{ρ:Operand->Value}(ht:∀x:Operand,Bc g w (AC h) (ev t x) (ρ x)) :
  ∀{ps:List (Nat×Operand)} {es:C0} {xs:Array Value} {K:C0->Prop},es.length=n->(∀c∈es,c.length=sz)->Cg g w FN es.flatten xs.toList->RN n sz h es t ps K ->
   ∃FU YC,K FU/\FU.length=n/\(∀c∈FU,c.length=sz)/\Cg g w FN FU.flatten YC.toList/\Instr.fill (fun i=>some (i*sz,sz)) xs (ps.map fun(i,x)=>(i,ρ x))=some YC
 | [],es,xs,K,hn,hl,h,hk=>⟨es,xs,hk,hn,hl,h,rfl⟩
 |(i,x)::ps,es,xs,K,hn,hl,h,hk=>by
  unfold RN at hk;split at hk
  .rename_i hi;have hi:i<n:=Ee hi;have h5:=Na (ht x) hk
   clear hk
   obtain⟨VB,hk,hna,hr⟩:=h5;have FI:(ρ x).cells.size=sz:=by rw[<-hna];simpa using hr.1
   have Uh:=Qq hI hr;obtain⟨c,hc⟩:∃c,es[i]?=some c:=⟨_,AW Wk⟩;have hcl:=hl c (Az hc);have Js:i*sz+sz<=es.flatten.length:=by
    rw[Dq hl,hn]
    have:=BD sz (show i+1<=n from hi)
    grind
   have hfl:=Mt hl hc 0 (VB.map (str ‹Nat->HO›)) (by simp_all);rw[jw _ _ (by simp_all),HM]at hfl;have EU:=h.over Uh (i*sz) (by simp_all);have qA:xs.size=es.flatten.length:=by have:=h.1;omega
   have e:=Ok (ρ x).cells.toList 0 (i*sz) xs (by simp_all);simp only[HM]at e;rw[<-e,<-hfl]at EU;obtain⟨FU,YC,k1,k2,k3,k4,k5⟩:=Zw ht (es:=es.set i (VB.map (str _))) (by simp_all) (fun c' hc'=>by
    grind) EU hk
   refine⟨FU,YC,k1,k2,k3,k4,?_⟩;simp only[Bo,Instr.fill]
   grind [Array.toList_zipIdx]
  simp_all
theorem Tq(hT:B8 P cx.T){d:Option Nat}{ty n:Nat}{t:Nat->AV}{ρ:Operand->Value}(ht:∀x:Operand,Bc g w (AC h) (ev t x) (ρ x)){ps:Array (Nat×Operand)}(hk:II cx d h ty n t ps.toList K):N8 P w0 g0 h0 h g w (Instr.buildSlice ty n (ps.map fun(i,x)=>(i,ρ x))) K:=by
 unfold II at hk;split at hk
 .rename_i e hs;split at hk
  .rename_i X5 YH;have YH:=AZ YH;split at hk
   .simp_all
   .rename_i m hm;split at hk
    .rename_i Js;have Js:=Ee Js;have uP:(cx.T e).zc≠[]:=fun e0=>by simp_all
     have hlr:∀c∈List.replicate n ((cx.T e).zc.map AV.v),c.length=(cx.T e).size:=fun c hc=>by simp_all
     have yC:Cg g w FN (List.replicate n ((cx.T e).zc.map AV.v)).flatten ((Array.range (n*(cx.T e).size)).map fun k=>(cx.T e).zc.toArray[k % (cx.T e).zc.toArray.size]!).toList:=by
      have e1:((Array.range (n*(cx.T e).size)).map fun k=>(cx.T e).zc.toArray[k % (cx.T e).zc.toArray.size]!).toList=(List.replicate n (cx.T e).zc).flatten:=by
       rw[Ie n _ uP];simp_all
      have e2:(List.replicate n ((cx.T e).zc.map AV.v)).flatten=(List.replicate n (cx.T e).zc).flatten.map AV.v:=by
       simp_all
      rw[e1,e2];refine Cg.vals ?_;have GB:∀l:List AV,(∀a∈l,one a=true)->G6 l=true:=by
       intro l
       induction l<;>grind [G6]
      grind [M6]
     obtain⟨FU,YC,k1,k2,k3,k4,k5⟩:=Zw hI ht (by simp_all) hlr yC hk;have qA:YC.size=n*(cx.T e).size:=by
      have:=k4.1
      grind [Dq]
     obtain⟨g',av,h',q1,q2,q3,q4⟩:=Ki hI k1 (vs:=YC) (cap:=n) e k3 Wk qA (by
      grind [Array.length_toList]) w ⟨rfl,rfl,rfl,rfl⟩
     rw[k2]at q4;refine⟨_,_,g',av,h',?_,q1,q2,q3,q4⟩;obtain⟨z,z1,z2⟩:=Xl hT (w:=w) hm;have FI:=hT.size1 w hm;have e3:(Array.map (fun x:Nat×Operand=>match x with | (i,x)=>(i,ρ x)) ps).toList=ps.toList.map fun(i,x)=>(i,ρ x):=by simp
     have Ad9:¬(n*(m+1)>2 ^ 24):=by simp_all
     simp only[Instr.buildSlice,Sem.run_bind,run_underlying (hT.slice hs),Result.andThen_ok,FI,AN Ad9];rw[e3];rw[hm]at k5
     by_cases h0:n*(m+1)=0
     .have wv:n=0:=by
       grind
      subst wv;have er:Array.range 0=#[]:=rfl;simp only[Nat.zero_mul,er,List.map_toArray,IV]at k5;simp only[Nat.zero_mul,if_true,er,List.map_toArray,IV,k5];simp[newRow]
     .rw[z2]at k5;simp only[Array.toArray_toList]at k5;simp only[AN h0,Sem.run_bind,z1,Result.andThen_ok,Sem.run_pure,k5];simp[newRow]
    simp_all
  simp_all
 simp_all
end
theorem F0{sz:Nat}:∀{es:C0},Bh sz es->∀c∈es,c.length=sz
 | [],_,c,h=>by cases h
 |d::es,h,c,hc=>by
  rcases AR.1 hc with rfl | hc
  .exact h.1
  .exact F0 h.2 c hc
def OY(w:World)(x:Value)(n sz:Nat)(news:List Value):Prop:=
 news.length=n*sz/\(∀v∈news,v.oneCell'=true)/\∃(a:Option Addr) (c:Nat),x=.slice a n c/\(n=0\/∃b:Addr,a=some b/\∀j u,news[j]?=some u->w.cell? (b.add j)=some u)
theorem OY.of_rep{w:World}{sz:Nat}(h:Bc g w U (.slice .none es) x)(hl:∀c∈es,c.length=sz) :
  ∃news,OY w x es.length sz news/\Cg g w FN es.flatten news:=by
 cases h with
 |snil _ a cap=>exact⟨[],⟨by simp,by simp,a,cap,rfl,.inl rfl⟩,by simp,by simp,fun i av x h1 h2=>by simp_all⟩
 |slice _ _ b off HS cap val hc Sv DK El=>
  have hf:=Dq hl;have key:∀j,j<es.length*sz->∃cs,es[j / sz]?=some cs/\es.flatten[j]?=cs[j % sz]?/\j % sz<cs.length/\HS=sz/\j=j / sz*sz+j % sz:=by
   intro j hj
   grind [Nat.pos_of_ne_zero,Nat.div_add_mod,Nat.div_lt_iff_lt_mul,Nat.mod_lt,Fz]
  have AcI:∀j,j<es.length*sz->∃av,es.flatten[j]?=some av/\w.cell? ⟨b,off+j,none⟩=some (val (j / sz) (j % sz))/\(val (j / sz) (j % sz)).oneCell'=true/\Bc g w FN av (val (j / sz) (j % sz)):=by
   intro j hj;obtain⟨cs,k1,k2,k3,rfl,k5⟩:=key j hj;have uo:cs[j % HS]?=some cs[j % HS]:=AW k3;obtain⟨_,c2,c3⟩:=DK _ _ _ _ k1 uo;rw[Nat.add_assoc,<-k5]at c2;exact⟨_,k2.trans uo,c2,c3,El _ _ _ _ k1 uo⟩
  refine⟨(List.range (es.length*sz)).map fun j=>val (j / sz) (j % sz),⟨by simp,fun v hv=>?_,some ⟨b,off,none⟩,cap,rfl,.inr ⟨_,rfl,fun j u hu=>?_⟩⟩,by simp_all,fun v hv=>?_,fun i av x h1 h2=>?_⟩
  .grind
  .obtain⟨hj,rfl⟩:=VP hu;rw[Addr.add_lit];simp_all
  all_goals grind
section
variable {P:Program}{T:GW}(hT:B8 P T)
include hT
theorem H2{n:Nat}(hs:(T e).size=n+1):∃i z,P.info? e=some i/\i.zero=some z/\i.size=(T e).size/\i.bytes=(T e).bytes/\(T e).zc=z.cells.toList:=by
 rcases hT e with h | h
 .rw[h]at hs;cases hs
 grind [j7,TI.zc_cells]
theorem I2(w:World){t ty k:Nat}(ht:(T t).d=.slice e)(hk:(T e).size=k+1)(a a' : Option Addr)(n cap c:Nat)(hc:n<=cap) :
  (Builtin.append_ #[t,t] ty #[.slice a n cap,.slice a' 0 c]).run P w=.ok (.slice a n cap) w:=by
 have hu:=hT.slice ht;cases a<;>cases a'<;>simp[Builtin.append_,run_underlying hu,hT.size1 w hk,Builtin.lenOf,hc,Builtin.firstCells,loadCells,loadCellsFrom,storeCells]
theorem If(w:World){t ty k:Nat}(ht:(T t).d=.slice e)(hk:(T e).size=k+1)(hz:(T e).zc.length=(T e).size){s:Value}{n m cap c:Nat}{news:List Value}{a a' : Option Addr}(hso:OY w s n (T e).size olds)(hs:s=.slice a n cap)(MB:a=none->cap=0)(hsx:OY w x m (T e).size news)(hx:x=.slice a' m c)(hm:0<m)(hg:cap<n+m)(hb:(n+m)*(T e).bytes<=140737488355328)(h63:n+m<=9223372036854775807) :
  ∃nc rest,(Builtin.append_ #[t,t] ty #[s,x]).run P w=.ok (.slice (some ⟨w.heap.size,0,none⟩) (n+m) nc) (w.drew.alloc (.cells (olds++news++rest).toArray e (0,0)))/\n+m<=nc /\
   (olds++news++rest).length=nc*(T e).size:=by
 obtain⟨i,z,i1,i2,i3,i4,i5⟩:=H2 hT hk;have hu:=hT.slice ht;obtain⟨n1,n2,a1,c1,n3,n4⟩:=hsx;subst hx;cases n3;rcases n4 with h | ⟨b,rfl,Jd⟩
 .omega
 .have YH:z.cells.size=(T e).size:=by simp_all
  have ft:∀(nc:Nat) (pre:List Value),pre.length=(n+m)*(T e).size->n+m<=nc->(pre++(Builtin.zeroCells z.cells (nc-(n+m))).toList).length=nc*(T e).size:=by
   intro nc pre hp Js;have e1:(Builtin.zeroCells z.cells (nc-(n+m))).toList.length=(nc-(n+m))*(T e).size:=by grind [size_zeroCells]
   rw[AD,e1,hp,<-Mj];simp_all
  obtain⟨o1,o2,a2,c2,o3,o4⟩:=hso;subst hs;cases o3;cases a with
  |none=>
   obtain rfl:=MB rfl;have wv:n=0:=by
    simp_all
   subst wv;have ho:olds=[]:=Ay Wk;subst ho;have hr:=run_append_nil (P:=P) w t ty e i z hu i1 i2 b m c news (by simp_all) Jd hm Wk (by grind);refine⟨grownCap w m 0 e,(Builtin.zeroCells z.cells (grownCap w m 0 e-m)).toList,?_,by rw[HN];exact grownCap_ge w m 0 e,?_⟩
   .rw[hr,HN]
    congr 3
    simp_all
   .have:=ft (grownCap w m 0 e) news (by simp_all) (by rw[HN];exact grownCap_ge w m 0 e)
    simp_all
  |some b'=>
   have E4:∀j u,olds[j]?=some u->w.cell? (b'.add j)=some u:=by
    grind
   have hr:=run_append_grow (P:=P) w t ty e i z hu i1 i2 b' n cap olds (by simp_all) E4 b m c news (by simp_all) Jd hg Wk (by rw[i4];exact growslice_fits hg hb);refine⟨grownCap w (n+m) cap e,(Builtin.zeroCells z.cells (grownCap w (n+m) cap e-(n+m))).toList,?_,grownCap_ge w (n+m) cap e,ft _ _ (by grind) (grownCap_ge w (n+m) cap e)⟩;rw[hr]
   congr 3
   simp_all
end
theorem Cg.app{w:World}{VB bs:List AV}{xs ys:List Value}(h:Cg g w U VB xs)(k:Cg g w U bs ys):Cg g w U (VB++bs) (xs++ys):=by
 refine⟨by simp[h.1,k.1],fun x hx=>(Bi.1 hx).elim (h.2.1 x) (k.2.1 x),fun i av x h1 h2=>?_⟩
 by_cases hi:i<VB.length
 .rw[D0 hi]at h1;rw[D0 (by rw[h.1];exact hi)]at h2;exact h.2.2 i av x h1 h2
 .rw[BQ Wk]at h1;rw[BQ (by rw[h.1];omega),h.1]at h2;exact k.2.2 _ av x h1 h2
theorem jZ(P:Program)(g o:Nat)(t:TypeId)(fz:Nat×Nat)(vs:List Value):∀(i:Nat) (Ef:Array Value) (w:World),w.heap[g]?=some (.cells Ef t fz)->(fz=(0,0)\/Ef.size<=fz.1)->o+i+vs.length<=Ef.size->(∀v∈vs,v.oneCell'=true) ->
  (storeCells ⟨g,o,none⟩ vs i).run P w=.ok () (w.setRow g (Ef.toList.take (o+i)++vs++Ef.toList.drop (o+i+vs.length)).toArray):=by
 induction vs with
 |nil=>
  intro i Ef w hg _ _ _;have e:(Ef.toList.take (o+i)++[]++Ef.toList.drop (o+i+([]:List Value).length)).toArray=Ef:=by simp
  rw[e,setRow_self w g Ef t fz hg];rfl
 |cons v rest ih=>
  intro i Ef w hg hf hl h1;simp only[DZ]at hl;have hi:o+i<Ef.size:=by omega
  have ha:(⟨g,o,none⟩:Addr).add i=⟨g,o+i,none⟩:=Addr.add_lit ..;have hc:w.cell? ⟨g,o+i,none⟩=some Ef[o+i]:=by grind [World.cell?]
  have hz:w.frozen? ⟨g,o+i,none⟩=false:=by
   grind [World.frozen?]
  have h2:(store ((⟨g,o,none⟩:Addr).add i) v).run P w=.ok () (w.setRow g (Ef.setIfInBounds (o+i) v)):=by
   grind [run_store,setCell_eq_setRow]
  have h3:=ih (i+1) (Ef.setIfInBounds (o+i) v) (w.setRow g (Ef.setIfInBounds (o+i) v)) (setRow_heap w g Ef _ t _ hg) (by simp_all) (by grind) fun x hx=>h1 x (Aj _ hx);have e:(Ef.setIfInBounds (o+i) v).toList.take (o+(i+1))++rest++(Ef.setIfInBounds (o+i) v).toList.drop (o+(i+1)+rest.length)=Ef.toList.take (o+i)++v::rest++Ef.toList.drop (o+i+(v::rest).length):=by
   simpa[Array.toList_setIfInBounds,Nat.add_assoc]using list_seg_step Ef.toList (o+i) v rest Wk
  rw[storeCells,Sem.run_bind,h2,Result.andThen_ok,h3,setRow_setRow,e]
section
variable {P:Program}{w0:World}{g0:Gh}{h0 h:Nat->HO}{g:Gh}{w:World}(hI:CT w0 g0 h0 h g w)
include hI
omit hI in
theorem Rk(t ty e:TypeId)(i:TypeInfo)(ht:P.underlying t=some (.slice e))(hi:P.info? e=some i)(g OM dI:Nat)(Ef:Array Value)(hg:w.heap[g]?=some (.cells Ef E (0,0)))(a:Addr)(m c:Nat)(news:List Value)(hl:news.length=m*i.size)(Jd:∀j u,news[j]?=some u->w.cell? (a.add j)=some u)(h1:∀u∈news,u.oneCell'=true)(LZ:OM+m<=dI)(qo:OM*i.size+news.length<=Ef.size) :
  (Builtin.append_ #[t,t] ty #[.slice (some ⟨g,0,none⟩) OM dI,.slice (some a) m c]).run P w =
   .ok (.slice (some ⟨g,0,none⟩) (OM+m) dI) (w.setRow g (Ef.toList.take (OM*i.size)++news++Ef.toList.drop (OM*i.size+news.length)).toArray):=by
 have hf:=run_firstCells_some (P:=P) w i.size m a m c news hl Jd;have Jt:=run_storeCells_at P g (OM*i.size) E news 0 Ef w hg Wk h1;simp only[HM]at Jt;simp[Builtin.append_,run_underlying ht,sizeOf,typeInfo,hi,Builtin.lenOf,LZ,hf,Addr.add_lit,Jt]
omit hI in
theorem U7(t ty e:TypeId)(i:TypeInfo)(ht:P.underlying t=some (.slice e))(hi:P.info? e=some i)(g off OM dI:Nat)(Ef:Array Value){fz:Nat×Nat}(hg:w.heap[g]?=some (.cells Ef E fz))(hfz:fz=(0,0)\/Ef.size<=fz.1)(a:Addr)(m c:Nat)(news:List Value)(hl:news.length=m*i.size)(Jd:∀j u,news[j]?=some u->w.cell? (a.add j)=some u)(h1:∀u∈news,u.oneCell'=true)(LZ:OM+m<=dI)(qo:off+OM*i.size+news.length<=Ef.size) :
  (Builtin.append_ #[t,t] ty #[.slice (some ⟨g,off,none⟩) OM dI,.slice (some a) m c]).run P w =
   .ok (.slice (some ⟨g,off,none⟩) (OM+m) dI) (w.setRow g (Ef.toList.take (off+OM*i.size)++news++Ef.toList.drop (off+OM*i.size+news.length)).toArray):=by
 have hf:=run_firstCells_some (P:=P) w i.size m a m c news hl Jd;have Jt:=jZ P g (off+OM*i.size) E fz news 0 Ef w hg hfz Wk h1;simp only[HM]at Jt;simp[Builtin.append_,run_underlying ht,sizeOf,typeInfo,hi,Builtin.lenOf,LZ,hf,Addr.add_lit,Jt]
omit hI in
theorem rv{b off n m sz cap:Nat}{fz:Nat×Nat}{news:List Value}(hb:w.heap[b]?=some (.cells Ef E fz))(qk:Ef.size=off+cap*sz)(hn:n<=cap)(hm:n+m<=cap)(hnl:news.length=m*sz)(hol:olds.length=n*sz)(E4:∀j u,olds[j]?=some u->w.cell? ⟨b,off+j,none⟩=some u) :
  (Ef.toList.take (off+n*sz)++news++Ef.toList.drop (off+n*sz+news.length)).length=off+cap*sz /\
  ((Ef.toList.take (off+n*sz)++news++Ef.toList.drop (off+n*sz+news.length)).drop off).take ((n+m)*sz)=olds++news /\
  ∀o,o<off+n*sz->(Ef.toList.take (off+n*sz)++news++Ef.toList.drop (off+n*sz+news.length)).toArray[o]?=Ef[o]?:=by
 have hcl:Ef.toList.length=off+cap*sz:=by omega
 have X4:(n+m)*sz<=cap*sz:=BD _ hm;have sD:n*sz<=cap*sz:=BD _ hn;rw[Mj]at X4;have PL:(Ef.toList.take (off+n*sz)).drop off=olds:=by
  apply CU;intro j
  by_cases hj:j<n*sz
  .rw[F8,So Wk]
   grind [Gb]
  simp_all
 have wB:(Ef.toList.take (off+n*sz)).length=off+n*sz:=by simp_all
 refine⟨?_,?_,fun o ho=>?_⟩
 .grind
 .rw[Kw,List.drop_append_of_le_length Wk,PL,<-Kw,NK (by grind)]
 grind
omit hI in
theorem nW{b n m sz cap:Nat}{news:List Value}(hb:w.heap[b]?=some (.cells Ef E (0,0)))(qk:Ef.size=cap*sz)(hn:n<=cap)(hm:n+m<=cap)(hnl:news.length=m*sz)(hol:olds.length=n*sz)(E4:∀j u,olds[j]?=some u->w.cell? ⟨b,j,none⟩=some u) :
  (Ef.toList.take (n*sz)++news++Ef.toList.drop (n*sz+news.length)).length=cap*sz /\
  (Ef.toList.take (n*sz)++news++Ef.toList.drop (n*sz+news.length)).take ((n+m)*sz)=olds++news /\
  ∀o,o<n*sz->(Ef.toList.take (n*sz)++news++Ef.toList.drop (n*sz+news.length)).toArray[o]?=Ef[o]?:=by
 have hcl:Ef.toList.length=cap*sz:=by omega
 have X4:(n+m)*sz<=cap*sz:=BD _ hm;have sD:n*sz<=cap*sz:=BD _ hn;rw[Mj]at X4;have PL:Ef.toList.take (n*sz)=olds:=by
  apply CU
  grind [Gb]
 have wB:(Ef.toList.take (n*sz)).length=n*sz:=by simp_all
 refine⟨?_,?_,fun o ho=>?_⟩
 all_goals grind [Nat.add_mul]
theorem V9{r n sz:Nat}(he:h r=.arr sz es)(hx:Bc g w (AC h) (.msl r n) x)(hn:n=es.length) :
  x=g.ρ r/\∃news,OY w x es.length sz news/\Cg g w FN es.flatten news:=by
 have ho:=hI.objs r;rw[he]at ho;obtain⟨t1,l1,al,a1⟩:=ho;cases hx with
 |msl _ _ _ a cap hu ht kj ha Sx=>
  have e:=Sx (hn.trans l1.symm);refine⟨e,?_⟩;rw[e];rcases a1 with ⟨rfl,e2,e3⟩ | ⟨b,NL,E,vs,e1,e2,e3,e4,e5,e6,e7⟩
  .exact⟨[],⟨by simp,by simp,none,0,e2,.inl rfl⟩,by simp,by simp,fun i av x h1 h2=>by simp_all⟩
  .have qk:vs.toList.length=NL*sz:=by omega
   have Js:es.length*sz<=vs.toList.length:=by rw[qk];exact BD _ e3
   refine⟨vs.toList.take (es.length*sz),⟨by simp_all,e6.2.1,_,_,e1,.inr ⟨_,rfl,fun j u hj=>?_⟩⟩,e6⟩
   grind [Addr.add_lit,Gb]
theorem ic{sz:Nat}{x:AV}{K:C0->Prop}(hx:Bc g w (AC h) x vx)(hk:Lh h x K) :
  ∃es,K es/\((∀c∈es,c.length=sz)->∃news,OY w vx es.length sz news/\Cg g w FN es.flatten news):=by
 unfold Lh at hk;split at hk
 .exact⟨_,hk,fun hl=>OY.of_rep hx.slice_none hl⟩
 .obtain rfl:=hx.v_eq;exact⟨[],hk,fun _=>⟨[],⟨by simp,by simp,none,0,rfl,.inl rfl⟩,by simp,by simp,fun i av x h1 h2=>by simp_all⟩⟩
 .rename_i r n;split at hk
  .rename_i HS es e;obtain⟨hn,hk⟩:=hk;refine⟨es,hk,fun hl=>?_⟩;obtain⟨_,news,n1,n2⟩:=V9 hI e hx hn;refine⟨news,?_,n2⟩
   have:news.length=es.length*sz:=by rw[n2.1,Dq hl]
   exact⟨this,n1.2.1,n1.2.2⟩
  simp_all
 simp_all
theorem jk{d:Option Nat}{sz:Nat}(hk:E8 cx d h sz [] K) :
  ∃g' av h',K av h'/\CT w0 g0 h0 h' g' w/\Le h g w h' g' w/\Bc g' w (AC h') av (.slice none 0 0):=by
 have base:∀(d:Nat) (o' : HO),h d=.free->o'≠.free->(∀g' : Gh,g'.ρ d=.slice none 0 0->g'.ln d=0->g'.tk d=true->g'.own d=none->DV g' w (AC (AK h d o')) d o') ->
   CT w0 g0 h0 (AK h d o') (g.upd d (.slice none 0 0) 0 true none g.S) w/\Le h g w (AK h d o') (g.upd d (.slice none 0 0) 0 true none g.S) w:=by
  intro d o' hd EG Mb;refine hI.upd d o' _ _ _ _ _ w none ⟨rfl,rfl,rfl,Ap _⟩ (fun _ _ _=>rfl) (fun b e=>by cases e) (fun _ _ h=>h) (fun _ _ h=>.inl h) (fun b o e=>by cases e) (fun b _ e=>by cases e) EG (fun hu=>absurd hd hu) (fun _ _=>?_)
  grind [Bm]
 unfold E8 at hk;split at hk
 .simp_all
 .rename_i d;generalize Kq cx d=d1 at hk;split at hk
  .rename_i hd;split at hk
   .obtain⟨k1,k2⟩:=base d1 (.arr sz []) hd aa0 (fun g' u1 u2 u3 u4=>⟨u3,u2,by simp,.inl ⟨rfl,u1,u4⟩⟩);exact⟨_,_,_,hk,k1,k2,.msl _ d1 0 none 0 (by grind [AC,A2]) (by simp[Gh.upd]) (Al _) (.inl rfl) (fun _=>by simp[Gh.upd])⟩
   .obtain⟨k1,k2⟩:=base d1 (.tok sz 0) hd aa0 (fun g' u1 u2 u3 u4=>⟨u3,u2,none,0,u1,.inl ⟨rfl,u4⟩⟩);exact⟨_,_,_,hk,k1,k2,.tok _ d1 sz [] _ (.snil _ _ _) aa0 (by grind [AC,A2]) (by simp[Gh.upd]) (Al _) (fun _=>by simp[Gh.upd])⟩
  simp_all
theorem bU(hT:B8 P cx.T){d:Option Nat}{t ty:Nat}{s x:AV}{vs:Value}(hs:Bc g w (AC h) s vs)(hx:Bc g w (AC h) x vx)(hk:Ix cx d h t s x K) :
  N8 P w0 g0 h0 h g w (Builtin.append_ #[t,t] ty #[vs,vx]) K:=by
 unfold Ix at hk;split at hk
 .rename_i e ht;split at hk
  .simp_all
  .rename_i hz;have hz:=AZ hz;split at hk
   .simp_all
   .rename_i k FI;have h5:=ic hI (sz:=(cx.T e).size) hx hk
    clear hk
    obtain⟨es2,hk,h6⟩:=h5;split at hk
    .obtain⟨⟨q1,q2,q3⟩,hk⟩:=hk;obtain rfl:=hs.v_eq;obtain⟨news,n1,n2⟩:=h6 (F0 q1);obtain⟨m1,m2,a,c,rfl,m4⟩:=n1
     by_cases hm:es2.length=0
     .obtain rfl:=Ay hm;obtain⟨g',av,h',k1,k2,k3,k4⟩:=jk hI hk;exact⟨_,w,g',av,h',I2 hT w ht FI none a 0 0 c (Ap _),k1,k2,k3,k4⟩
     .obtain⟨nc,rest,r1,r2,r3⟩:=If hT w (ty:=ty) ht FI hz (olds:=[]) (a:=none) (n:=0) (cap:=0) ⟨by simp,by simp,none,0,rfl,.inl rfl⟩ rfl (fun _=>rfl) ⟨m1,m2,a,c,rfl,m4⟩ rfl Wk Wk (by simp_all) Wk;obtain⟨g',av,h',k1,k2,k3,k4⟩:=Ki hI hk (vs:=([]++news++rest).toArray) (cap:=nc) e (F0 q1) Wk Wk (by
       simp_all) w.drew ⟨rfl,rfl,rfl,rfl⟩
      rw[HN]at r1;exact⟨_,_,g',av,h',r1,k1,k2,k3,k4⟩
    .rename_i HS es;split at hk
     .rename_i Vv;obtain Vv:=AZ Vv;obtain⟨⟨q1,q2,q3,q4⟩,hk⟩:=hk;obtain⟨news,n1,n2⟩:=h6 (F0 q1);obtain⟨m1,m2,a2,c2,rfl,m4⟩:=n1;cases hs with
      |full _ _ _ _ hr qt Sx=>
       obtain⟨a,rfl⟩:=Sx;have GB:∀c∈es++es2,c.length=(cx.T e).size:=fun c hc=>(Bi.1 hc).elim (fun h=>(qt c h).trans Vv) (F0 q1 c);obtain⟨olds,o1,o2⟩:=OY.of_rep hr (sz:=(cx.T e).size) (fun c hc=>(qt c hc).trans Vv);have hrl:=o2.app n2;rw[<-D8]at hrl;have ha:a=none->es.length=0:=by
        rintro rfl
        obtain⟨p1,p2,a',c',p3,p4⟩:=o1<;>grind
       obtain⟨nc,rest,r1,r2,r3⟩:=If hT w (ty:=ty) ht FI hz o1 rfl ha ⟨m1,m2,a2,c2,rfl,m4⟩ rfl q2 Wk q3 q4;obtain⟨g',av,h',k1,k2,k3,k4⟩:=Ki hI hk (vs:=(olds++news++rest).toArray) (cap:=nc) e GB (by simp_all) Wk (by
        rw[show(olds++news++rest).toArray.toList=olds++news++rest from rfl,NK (by rw[AD,AD,o1.1,m1,Mj])];exact hrl) w.drew ⟨rfl,rfl,rfl,rfl⟩
       rw[AD]at k4;exact⟨_,_,g',av,h',r1,k1,k2,k3,k4⟩
     simp_all
    .rename_i r HS es;have ho:=hI.objs r;split at hk
     .rename_i sz n e0;rw[e0]at ho;split at hk
      .rename_i Vv Adu;obtain rfl:=AZ Adu;obtain Vv:=AZ Vv;obtain⟨⟨q1,q2,q3,q4⟩,hk⟩:=hk;rw[Vv]at q1;obtain⟨news,n1,n2⟩:=h6 (F0 q1);obtain⟨m1,m2,a2,c2,rfl,m4⟩:=n1;obtain⟨t1,l1,a,cap,a1,a3⟩:=ho;have hl:(h r).live:=by rw[e0];trivial
       have GB:∀c∈es++es2,es.length=n->True:=fun _ _ _=>trivial;cases hs with
       |tok _ _ _ _ _ hr qt hu ht' hn Sx=>
        have hv:=Sx (q2.trans l1.symm);rw[a1]at hv;subst hv;subst q2;have GB:∀c∈es++es2,c.length=HS:=fun c hc=>(Bi.1 hc).elim (qt c) (fun h=>(F0 q1 c h).trans Vv.symm);obtain⟨olds,o1,o2⟩:=OY.of_rep hr qt;have hrl:=o2.app n2;rw[<-D8]at hrl;have fh:es.length<=cap:=by omega
        by_cases hm:es2.length=0
        .obtain rfl:=Ay hm;have Mb:=hI.objs r;rw[e0]at Mb
         obtain⟨k1,k2⟩:=hI.upd r (.tok HS (es.length+([]:C0).length)) (g.ρ r) (g.ln r) (g.tk r) (g.own r) g.S w none ⟨rfl,rfl,rfl,Ap _⟩ (fun _ _ _=>rfl) (fun b e=>by cases e) (fun _ _ h=>h) (fun _ _ h=>.inl h) (fun b o e=>by cases e)
          (fun b _ e=>⟨(hI.loc r b hl e).1,.inl ⟨hl,e⟩⟩) aa0 (fun _=>⟨rfl,Ap _,fun _=>rfl,fun _=>rfl⟩) (fun hg IS=>by
           obtain⟨u1,u2,u3,u4⟩:=Bm g r (g.ρ r) (g.ln r) (g.tk r) (g.own r) g.S;rw[HY,HM];exact Mb.same IS (fun i hi=>DG aa0 i hi) hg u1 u2 u3 u4 (fun b _ _=>⟨rfl,fun _ h=>h⟩))
         refine⟨_,w,_,_,_,I2 hT w ht FI a a2 es.length cap c2 fh,hk,k1,k2,?_⟩
         grind [Bc.tok,Bc.le]
        .by_cases LZ:es.length+es2.length<=cap
         .rcases a3 with ⟨e1,_⟩ | ⟨e1,b,E,Ef,off,rfl,e3,⟨fz,e4,efz⟩,e5,e6⟩
          .omega
          .rcases m4 with h | ⟨ba,rfl,Jd⟩
           .omega
           .obtain⟨i,z,i1,i2,i3,i4,i5⟩:=H2 hT FI;have X4:(es.length+es2.length)*HS<=cap*HS:=BD _ LZ;have hm1:news.length=es2.length*HS:=by simp_all
            have uA:i.size=HS:=i3.trans Vv.symm;have CE:=U7 (P:=P) t ty e i (hT.slice ht) i1 b off es.length cap Ef e4 efz ba es2.length c2 news (by simp_all) Jd m2 LZ (by grind);rw[uA]at CE;have E4:∀j u,olds[j]?=some u->w.cell? ⟨b,off+j,none⟩=some u:=by
             obtain⟨p1,p2,a',c',p3,p4⟩:=o1;cases p3;intro j u hj;rcases p4 with h | ⟨b',h,h'⟩
             .simp_all
             .cases h
              have:=h' j u hj
              rwa [Addr.add_lit]at this
            obtain⟨p1,p2,p3⟩:=rv e4 e5 e1 LZ hm1 o1.1 E4;generalize hnewd:Ef.toList.take (off+es.length*HS)++news++Ef.toList.drop (off+es.length*HS+news.length)=new at CE p1 p2 p3;have EU:=setRow_heap w b Ef new.toArray E fz e4;have x8:=(hI.loc r b hl e3).1
            obtain⟨k1,k2⟩:=hI.upd r (.tok HS (es.length+es2.length)) (.slice (some ⟨b,off,none⟩) (es.length+es2.length) cap) (es.length+es2.length) (g.tk r) (g.own r) (g.more b (off+(es.length+es2.length)*HS)) (w.setRow b new.toArray) (some b)
             ⟨rfl,rfl,rfl,by simp_all⟩ (fun k _ EG=>setRow_other w b k _ (fun e=>EG (by rw[e]))) (fun b' e=>by simp_all) (fun _ _ h=>.inl h)
             (fun b' o hs=>hs.elim .inl (fun hs=>.inr ⟨by simp_all,.inr ⟨hl,by simp_all⟩⟩))
             (fun b' o e hs=>by
              cases e
              refine⟨?_,fun es ck he=>by simp_all⟩;rw[Gb EU,Gb e4];simp_all) (fun b' _ e=>by
              simp_all) aa0 (fun _=>⟨rfl,by omega,fun e=>(by simp_all),fun e=>by omega⟩) (fun hg IS=>by
              obtain⟨u1,u2,u3,u4⟩:=Bm g r (.slice (some ⟨b,off,none⟩) (es.length+es2.length) cap) (es.length+es2.length) (g.tk r) (g.own r) (g.more b (off+(es.length+es2.length)*HS));exact⟨u3.trans t1,u2,_,cap,u1,  .inr ⟨LZ,b,E,_,off,rfl,u4.trans e3,⟨fz,EU,efz.imp id fun h=>by simp_all⟩,by omega,fun o ho=>by
               rcases ho with ho | ⟨_,ho⟩
               all_goals grind⟩⟩)
            have El:=Bc.slice_off (g:=g.upd r (.slice (some ⟨b,off,none⟩) (es.length+es2.length) cap) (es.length+es2.length) (g.tk r) (g.own r) (g.more b (off+(es.length+es2.length)*HS))) (U:=AC (AK h r (.tok HS (es.length+es2.length)))) (cap:=cap) (es:=es++es2) EU GB (by simp_all) (by
             rw[AD,show new.toArray.toList=new from rfl,p2];exact hrl.mono k2.keeps (fun _ h=>h) (fun _ h=>h.elim)) (fun o ho=>.inr ⟨rfl,by simp_all⟩)
            rw[AD]at El;exact⟨_,_,_,_,_,CE,hk,k1,k2,.tok _ r HS _ _ El GB (by unfold AC;rw[A2];simp) (by simp[Gh.upd,t1]) (by simp[Gh.upd]) (fun _=>by simp[Gh.upd])⟩
         .have mh:cap<es.length+es2.length:=by omega
          have ha:a=none->cap=0:=by
           rintro rfl
           rcases a3 with ⟨e1,_⟩ | ⟨_,b,_,_,_,e2,_⟩
           .obtain⟨p1,p2,a',c',p3,p4⟩:=o1<;>grind
           simp_all
          obtain⟨nc,rest,r1,r2,r3⟩:=If hT w (ty:=ty) ht FI hz (by rw[<-Vv];exact o1) rfl ha ⟨m1,m2,a2,c2,rfl,m4⟩ rfl Wk mh q3 q4;have EU:=Hj w.drew (.cells (olds++news++rest).toArray e (0,0)) (b:=w.heap.size) rfl
          obtain⟨k1,k2⟩:=hI.upd r (.tok HS (es.length+es2.length)) (.slice (some ⟨w.heap.size,0,none⟩) (es.length+es2.length) nc) (es.length+es2.length) (g.tk r) (some w.heap.size) (g.more w.heap.size ((es.length+es2.length)*HS))
           (w.drew.alloc (.cells (olds++news++rest).toArray e (0,0))) none
           ⟨rfl,rfl,rfl,by simp_all⟩ (fun k hk' _=>by rw[heap_alloc_old _ _ (by exact hk')];rfl) (fun b' e=>by cases e) (fun _ _ h=>.inl h)
           (fun b' o hs=>hs.elim .inl (fun hs=>.inr ⟨by simp_all,.inl Wk⟩))
           (fun b' o e=>by cases e) (fun b' _ e=>by simp_all) aa0 (fun _=>⟨rfl,by omega,fun e=>(by simp_all),fun e=>by omega⟩) (fun hg IS=>by
            obtain⟨u1,u2,u3,u4⟩:=Bm g r (.slice (some ⟨w.heap.size,0,none⟩) (es.length+es2.length) nc) (es.length+es2.length) (g.tk r) (some w.heap.size) (g.more w.heap.size ((es.length+es2.length)*HS));exact⟨u3.trans t1,u2,_,nc,u1,.inr ⟨r2,w.heap.size,e,_,0,rfl,u4,.of EU,by simp_all,fun o ho=>by
             rcases ho with ho | ⟨_,ho⟩
             .have:=hI.slt _ _ ho;omega
             .omega⟩⟩)
          have El:=Bc.slice_row (g:=g.upd r (.slice (some ⟨w.heap.size,0,none⟩) (es.length+es2.length) nc) (es.length+es2.length) (g.tk r) (some w.heap.size) (g.more w.heap.size ((es.length+es2.length)*HS))) (U:=AC (AK h r (.tok HS (es.length+es2.length)))) (cap:=nc) (es:=es++es2) EU GB (by simp_all) (by
           rw[AD,show(olds++news++rest).toArray.toList=olds++news++rest from rfl,NK (by rw[AD,o1.1,m1,Vv,Mj])];exact hrl.mono k2.keeps (fun _ h=>h) (fun _ h=>h.elim)) (fun o ho=>.inr ⟨rfl,by simp_all⟩)
          rw[AD]at El;exact⟨_,_,_,_,_,r1,hk,k1,k2,.tok _ r HS _ _ El GB (by grind [AC,A2]) (by grind [Gh.upd]) (by simp[Gh.upd]) (fun _=>by simp[Gh.upd])⟩
      simp_all
     simp_all
    .rename_i r n;have ho:=hI.objs r;split at hk
     .rename_i sz es e0;split at hk
      .rename_i Vv;obtain Vv:=AZ Vv;obtain⟨⟨q1,q2,q3,q4⟩,hk⟩:=hk;rw[Vv]at q1;obtain⟨news,n1,n2⟩:=h6 (F0 q1);obtain⟨m1,m2,a2,c2,rfl,m4⟩:=n1;obtain⟨hv,olds,o1,o2⟩:=V9 hI e0 hs q2.symm;have Mb:=ho;rw[e0]at ho;obtain⟨t1,l1,al,a3⟩:=ho;have hl:(h r).live:=by rw[e0];trivial
       subst hv;have GB:∀c∈es++es2,c.length=sz:=fun c hc=>(Bi.1 hc).elim (al c) (fun h=>(F0 q1 c h).trans Vv.symm);have hrl:=o2.app n2;rw[<-D8]at hrl;obtain⟨a,cap,hρ,fh,ha⟩:∃a cap,g.ρ r=.slice a es.length cap/\es.length<=cap/\(a=none->cap=0):=by
        grind
       by_cases hm:es2.length=0
       .obtain rfl:=Ay hm;rw[e0]at Mb
        obtain⟨k1,k2⟩:=hI.upd r (.arr sz (es++[])) (g.ρ r) (g.ln r) (g.tk r) (g.own r) g.S w none ⟨rfl,rfl,rfl,Ap _⟩ (fun _ _ _=>rfl) (fun b e=>by cases e) (fun _ _ h=>h) (fun _ _ h=>.inl h) (fun b o e=>by cases e)
         (fun b _ e=>⟨(hI.loc r b hl e).1,.inl ⟨hl,e⟩⟩) aa0 (fun _=>⟨rfl,Ap _,fun _=>rfl,fun _=>rfl⟩) (fun hg IS=>by
          obtain⟨u1,u2,u3,u4⟩:=Bm g r (g.ρ r) (g.ln r) (g.tk r) (g.own r) g.S;rw[Eg];exact Mb.same IS (fun i hi=>DG aa0 i hi) hg u1 u2 u3 u4 (fun b _ _=>⟨rfl,fun _ h=>h⟩))
        refine⟨g.ρ r,w,_,_,_,?_,hk,k1,k2,?_⟩
        .rw[hρ];exact I2 hT w ht FI a a2 es.length cap c2 fh
        grind [Bc.le]
       .by_cases LZ:es.length+es2.length<=cap
        .rcases a3 with ⟨rfl,e2,e3⟩ | ⟨b,NL,E,Ef,e1,e2,e3,e4,e5,e6,e7⟩
         .grind
         .rw[e1]at hρ;simp only[Value.slice.injEq,true_and]at hρ;obtain⟨rfl,rfl⟩:=hρ;rcases m4 with h | ⟨ba,rfl,Jd⟩
          .omega
          .obtain⟨i,z,i1,i2,i3,i4,i5⟩:=H2 hT FI;have X4:(es.length+es2.length)*sz<=NL*sz:=BD _ LZ;have hm1:news.length=es2.length*sz:=by simp_all
           have uA:i.size=sz:=i3.trans Vv.symm;have CE:=Rk (P:=P) t ty e i (hT.slice ht) i1 b es.length NL Ef e4 ba es2.length c2 news (by simp_all) Jd m2 LZ (by grind);rw[uA]at CE;have E4:∀j u,olds[j]?=some u->w.cell? ⟨b,j,none⟩=some u:=by
            obtain⟨p1,p2,a',c',p3,p4⟩:=o1<;>grind [Addr.add_lit]
           obtain⟨p1,p2,p3⟩:=nW e4 e5 e3 LZ hm1 o1.1 E4;generalize hnewd:Ef.toList.take (es.length*sz)++news++Ef.toList.drop (es.length*sz+news.length)=new at CE p1 p2 p3;have EU:=setRow_heap w b Ef new.toArray E (0,0) e4;have x8:=(hI.loc r b hl e2).1
           obtain⟨k1,k2⟩:=hI.upd r (.arr sz (es++es2)) (.slice (some ⟨b,0,none⟩) (es.length+es2.length) NL) (es.length+es2.length) (g.tk r) (g.own r) g.S (w.setRow b new.toArray) (some b)
            ⟨rfl,rfl,rfl,by simp_all⟩ (fun k _ EG=>setRow_other w b k _ (fun e=>EG (by rw[e]))) (fun b' e=>by simp_all) (fun _ _ h=>h) (fun _ _ h=>.inl h)
            (fun b' o e hs=>by simp_all) (fun b' _ e=>by
             simp_all) aa0 (fun _=>⟨rfl,by omega,fun e=>(by simp_all),fun e=>by omega⟩) (fun hg IS=>by
             obtain⟨u1,u2,u3,u4⟩:=Bm g r (.slice (some ⟨b,0,none⟩) (es.length+es2.length) NL) (es.length+es2.length) (g.tk r) (g.own r) g.S;refine⟨u3.trans t1,by simp_all,GB,.inr ⟨b,NL,E,_,by simp_all,u4.trans e2,by simp_all,EU,by omega,?_,e7⟩⟩;rw[AD,show new.toArray.toList=new from rfl,p2];exact hrl.mono IS (fun _ h=>h) (fun _ h=>h.elim))
           rw[e1];exact⟨_,_,_,_,_,CE,hk,k1,k2,.msl _ r _ _ _ (by unfold AC;rw[A2];simp) (by simp[Gh.upd,t1]) (by simp[Gh.upd]) (.inr ⟨_,rfl⟩) (fun _=>by simp[Gh.upd])⟩
        .have mh:cap<es.length+es2.length:=by omega
         obtain⟨nc,rest,r1,r2,r3⟩:=If hT w (ty:=ty) ht FI hz (by rw[<-Vv];exact o1) hρ ha ⟨m1,m2,a2,c2,rfl,m4⟩ rfl Wk mh q3 q4;have EU:=Hj w.drew (.cells (olds++news++rest).toArray e (0,0)) (b:=w.heap.size) rfl
         obtain⟨k1,k2⟩:=hI.upd r (.arr sz (es++es2)) (.slice (some ⟨w.heap.size,0,none⟩) (es.length+es2.length) nc) (es.length+es2.length) (g.tk r) (some w.heap.size) g.S
          (w.drew.alloc (.cells (olds++news++rest).toArray e (0,0))) none
          ⟨rfl,rfl,rfl,by simp_all⟩ (fun k hk' _=>by rw[heap_alloc_old _ _ (by exact hk')];rfl) (fun b' e=>by cases e) (fun _ _ h=>h) (fun _ _ h=>.inl h)
          (fun b' o e=>by cases e) (fun b' _ e=>by simp_all) aa0 (fun _=>⟨rfl,by omega,fun e=>(by simp_all),fun e=>by omega⟩) (fun hg IS=>by
           obtain⟨u1,u2,u3,u4⟩:=Bm g r (.slice (some ⟨w.heap.size,0,none⟩) (es.length+es2.length) nc) (es.length+es2.length) (g.tk r) (some w.heap.size) g.S;refine⟨u3.trans t1,by simp_all,GB,.inr ⟨w.heap.size,nc,e,_,by simp_all,u4,by simp_all,EU,by simp_all,?_,fun o ho=>by have:=hI.slt _ _ ho;omega⟩⟩;rw[AD,show(olds++news++rest).toArray.toList=olds++news++rest from rfl,NK (by rw[AD,o1.1,m1,Vv,Mj])];exact hrl.mono IS (fun _ h=>h) (fun _ h=>h.elim))
         exact⟨_,_,_,_,_,r1,hk,k1,k2,.msl _ r _ _ _ (by grind [AC,A2]) (by grind [Gh.upd]) (by simp[Gh.upd]) (.inr ⟨_,rfl⟩) (fun _=>by simp[Gh.upd])⟩
      simp_all
     simp_all
    simp_all
 simp_all
theorem g9(hT:B8 P cx.T){d:Option Nat}{s t:Nat}{x:AV}(hx:Bc g w (AC h) x vx)(hk:cr cx d h s t x K):N8 P w0 g0 h0 h g w (convert s t vx) K:=by
 unfold cr at hk;split at hk
 .rename_i e b hs ht;split at hk
  .rename_i d he;generalize Kq cx d=d1 at hk;split at hk
   .rename_i hd;obtain rfl:=hx.v_eq;have CE:=run_bytes_of_string (P:=P) w s t e b (hT.string hs) (hT.slice ht) (hT.int he);have MB:b.size<=grownCap w b.size 0 e:=grownCap_ge w b.size 0 e;generalize grownCap w b.size 0 e=cap at CE MB;have CL:(K8 b).length=b.size:=by
     simp_all
    have hbl:b.data.toList.length=b.size:=by simp_all
    have fy:(bytesRow b cap).size=cap:=by
     show(b.data.map _++Array.replicate _ _).size=cap;simp_all
    have uN:(bytesRow b cap).toList.take ((K8 b).length*1)=b.data.toList.map fun c=>Value.int .u8 c.toNat:=by
     show(b.data.map _++Array.replicate _ _).toList.take _=_;simp_all
    have hfl:(K8 b).flatten=(b.data.toList.map fun c=>Value.int .u8 c.toNat).map AV.v:=by
     rw[BX]
     have:∀l:List UInt8,(l.map fun c=>[AV.v (.int .u8 c.toNat)]).flatten=l.map (AV.v ∘ fun c=>Value.int .u8 c.toNat):=fun l=>by
      induction l<;>simp_all
     simp_all
    have X5:∀l:List UInt8,G6 ((l.map fun c=>Value.int .u8 c.toNat).map AV.v)=true:=fun l=>by
     induction l with
     |nil=>rfl
     |cons c l ih=>exact ih
    have hr:Cg g w FN (K8 b).flatten ((bytesRow b cap).toList.take ((K8 b).length*1)):=by
     grind [Cg.vals]
    have hl:∀cs∈K8 b,cs.length=1:=fun cs hc=>by grind
    generalize bytesRow b cap=vs at CE fy hr;rw[<-CL]at CE MB;generalize K8 b=es at *
    have EU:(w.drew.alloc (.cells vs e (vs.size,vs.size+1))).heap[w.heap.size]?=some (.cells vs e (vs.size,vs.size+1)):=Hj w.drew _ rfl
    have wl:=hI.upd d1 (.tok 1 es.length) (.slice (some ⟨w.heap.size,0,none⟩) es.length cap) es.length true (some w.heap.size) (g.more w.heap.size (es.length*1)) (w.drew.alloc (.cells vs e (vs.size,vs.size+1))) none
     ⟨rfl,rfl,rfl,by simp_all⟩ (fun k hk' _=>by rw[heap_alloc_old _ _ (by exact hk')];rfl) (fun b e=>by cases e) (fun _ _ h=>.inl h)
     (fun b o hb=>by
      rcases hb with hb | ⟨rfl,_⟩<;>simp_all) (fun b o e=>by cases e)
     (fun b _ e=>by simp_all) aa0 (fun hu=>absurd hd hu) (fun hg IS=>by
      obtain⟨u1,u2,u3,u4⟩:=Bm g d1 (.slice (some ⟨w.heap.size,0,none⟩) es.length cap) es.length true (some w.heap.size) (g.more w.heap.size (es.length*1));exact⟨u3,u2,_,cap,u1,.inr ⟨MB,w.heap.size,e,vs,0,rfl,u4,⟨_,EU,.inr (Ap _)⟩,by omega,fun o ho=>by
       rcases ho with ho | ⟨_,ho⟩
       .have:=hI.slt _ _ ho;omega
       .omega⟩⟩)
    obtain⟨k1,k2⟩:=wl;refine⟨_,_,_,_,_,CE,hk,k1,k2,.tok _ d1 1 es _ (Bc.slice_row EU hl MB (hr.mono k2.keeps (fun _ h=>h) (fun _ h=>h.elim)) (fun o ho=>.inr ⟨rfl,ho⟩)) hl (by grind [AC,A2]) ?_ ?_ ?_⟩<;>simp[Gh.upd]
   simp_all
  simp_all
 grind [Bu.does,Zh]
end
end Go.Eng
