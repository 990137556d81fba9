/- Lemmas 7. -/
import Derived.Test.YtpgfieopnnkpfaaGreatDoorQA06
import Derived.Laws.IdiomStrings
namespace Go.Eng
variable {D1:Array Value}{E:TypeId}{vx:Value}{olds:List Value}{K:HK}{es:List (List AV)}{x:Value}{cx:Cx}{α:Type}{U:Nat->Prop}{e:Nat}{T:GB}{g:Gh}(n:Nat)
theorem MJ{α:Type}:∀(cs:List α) (o:Nat) (vs:List α),o+vs.length<=cs.length->over cs o vs=cs.take o++vs++cs.drop (o+vs.length)
 | [],o,vs,h=>by
  simp at h;obtain⟨rfl,rfl⟩:=h
  rfl
 |c::cs,o+1,vs,h=>by
  rw[over,MJ cs o vs (by grind)]
  grind
 |c::cs,0,[],h=>by simp[over]
 |c::cs,0,v::vs,h=>by
  rw[over,MJ cs 0 vs (by simp_all)];simp
theorem Vb(cs:List α)(o n:Nat)(vs:List α)(h:o+vs.length<=n)(hn:n<=cs.length):(over cs o vs).take n=over (cs.take n) o vs:=by
 apply CR
 grind [Gx]
theorem LI{n:Nat}:∀{es:List (List α)},(∀c∈es,c.length=n)->∀{i:Nat} {c:List α},es[i]?=some c->∀(o:Nat) (vs:List α),o+vs.length<=n ->
  (es.set i (over c o vs)).flatten=over es.flatten (i*n+o) vs
 | [],_,i,c,h,_,_,_=>by simp_all
 |d::es,hl,i,c,h,o,vs,HB=>by
  have hd:=hl d (Ai ..);have hfl:=CX (es:=d::es) (n:=n) hl;have Fp:=(AR.1 h).1;have zU:i*n+o+vs.length<=(d::es).flatten.length:=by
   rw[hfl]
   have:=By n (show i+1<=(d::es).length from Fp)
   grind
  have TY:=hl c (AO h);apply CR;intro j;rw[Gx _ _ _ _ zU];have WA:∀e∈(d::es).set i (over c o vs),e.length=n:=fun e he=>by
   rcases List.mem_or_eq_of_mem_set he with he | rfl
   .grind
   .rw[FW];exact TY
  by_cases hn:n=0
  .subst hn;have h1:=CX WA;simp_all
  .have hdm:j=j / n*n+j % n:=by rw[Nat.mul_comm];exact(Nat.div_add_mod j n).symm
   have vg:j % n<n:=Nat.mod_lt _ aa0
   by_cases hj:j / n<(d::es).length
   .have g1:(d::es)[j / n]?=some ((d::es)[j / n]):=AI hj;have g2:((d::es).set i (over c o vs))[j / n]?=some (if i=j / n then over c o vs else(d::es)[j / n]):=by
     grind
    have f1:=Fa hl g1 vg;have f2:=Fa WA g2 vg;rw[<-hdm]at f1 f2;rw[f1,f2];split
    .rename_i e;rw[e]at h;rw[g1]at h;cases h;rw[Gx _ _ _ _ aa0];have e2:i*n+o<=j↔o<=j % n:=by rw[e];omega
     have e3:j<i*n+o+vs.length↔j % n<o+vs.length:=by rw[e];omega
     simp only[e2,e3];split
     .congr 1;rw[e];omega
     .rfl
    .rename_i e
     have:¬(i*n+o<=j/\j<i*n+o+vs.length):=by
      rintro⟨q1,q2⟩
      apply e;have a1:i*n<=j:=by omega
      have a2:j<(i+1)*n:=by grind
      have:=(Nat.le_div_iff_mul_le aa0).2 a1
      have:=(Nat.div_lt_iff_lt_mul aa0).2 a2
      omega
     grind
   .have uY:(d::es).length*n<=j:=by
     have:=Nat.not_lt.1 hj
     have:=(Nat.le_div_iff_mul_le aa0).1 this
     omega
    have:¬(i*n+o<=j/\j<i*n+o+vs.length):=by omega
    rw[Aw this,List.getElem?_eq_none (by rw[CX WA,Hq];exact uY),List.getElem?_eq_none aa0]
theorem O3{P:Program}(hT:BY P T)(w:World){t b off:Nat}(hd:(T t).d≠.other)(hs:x.cells.toList.length=(T t).size)(h1:∀v∈x.cells.toList,v.oneCell'=true)(hb:w.heap[b]?=some (.cells D1 E (0,0)))(HB:off+x.cells.toList.length<=D1.size) :
  (Instr.storeAt t (.pointer (some ⟨b,off,none⟩)) x).run P w=.ok () (w.setRow b (over D1.toList off x.cells.toList).toArray):=by
 have IC:=run_storeCells_at P b off E x.cells.toList 0 D1 w hb aa0 h1;simp only[Hl]at IC;have fe : x.cells.size=(T t).size:=by omega
 rw[MJ _ _ _ aa0];simp only[Instr.storeAt,Sem.run_bind,Instr.sureAddr,Sem.run_pure,Result.andThen_ok,storeVar,hT.size w hd,fe,ne_eq,not_true_eq_false,LU];exact IC
section
variable {P:Program}{w0:World}{g0:Gh}{h0 h:Nat->HO}{g:Gh}{w:World}(hI:Cv w0 g0 h0 h g w)
include hI
theorem dI{d:Nat}(hd:h d=.free)(h1:h 1001=.free)(hn:d≠1001){vs:Array Value}(hv:vs=#[.pointer none,.slice none 0 0]) :
  ∃g',Cv w0 g0 h0 (AJ (AJ h 1001 (.bbf 0)) d (.bld (.slice (.id 1001 1) []))) g' (w.alloc (.cells vs XJ (0,0)))/\Le h g w (AJ (AJ h 1001 (.bbf 0)) d (.bld (.slice (.id 1001 1) []))) g' (w.alloc (.cells vs XJ (0,0))) /\
   A5 g' (w.alloc (.cells vs XJ (0,0))) (used (AJ (AJ h 1001 (.bbf 0)) d (.bld (.slice (.id 1001 1) [])))) (.ref d 0) (.pointer (some ⟨w.heap.size,0,none⟩)):=by
 obtain⟨k1,k2⟩:=hI.upd 1001 (.bbf 0) (.slice none 0 0) 0 true none g.S w none ⟨rfl,rfl,rfl,Aq _⟩ (fun _ _ _=>rfl) (fun b e=>by cases e) (fun _ _ h=>h) (fun _ _ h=>.inl h) (fun b o e=>by cases e)
  (fun b _ e=>by cases e) aa1 (fun hu=>absurd h1 hu) (fun _ _=>⟨by simp[Gh.upd],by simp[Gh.upd],.inl ⟨rfl,by simp[Gh.upd],by simp[Gh.upd]⟩⟩)
 obtain⟨m1,m2⟩:=k1.newOwn (d:=d) (by grind [BK]) (.bld (.slice (.id 1001 1) [])) (.cells vs XJ (0,0)) (.pointer (some ⟨w.heap.size,0,none⟩)) 0 false w ⟨rfl,rfl,rfl,rfl⟩ aa1
  (fun _ _=>by
   subst hv;refine⟨by simp[Gh.upd],w.heap.size,.pointer none,.slice none 0 0,by simp[Gh.upd],by simp[Gh.upd],heap_alloc_new w _,.inl rfl,?_,fun o hs=>?_⟩
   .refine .tok _ 1001 1 [] _ (.snil _ _ _) aa1 ?_ ?_ (Ao _) (fun _=>?_)
    .grind [used,BK,AX]
    .simp[Gh.upd,Ne.symm hn]
    .simp[Gh.upd,Ne.symm hn]
   .have:=hI.slt _ _ hs;omega)
 exact⟨_,m1,k2.trans m2,.ref _ d 0 w.heap.size (by grind [used,AX]) (by simp[Gh.upd]) (by simp[Gh.upd])⟩
theorem dv(hT:BY P T){d:Option Nat}{e:Nat}(hk:Ry T d h e K):Nk P w0 g0 h0 h g w (Instr.alloc e true (.tuple #[])) K:=by
 unfold Ry at hk;split at hk
 .simp_all
 .split at hk
  .rename_i hd;split at hk
   .simp_all
   .rename_i Fi;split at hk
    .rename_i he;obtain rfl:=AT he;split at hk
     .rename_i h1 hn hz;obtain⟨z,z1,z2,_⟩:=Mk hT (w:=w) Fi;have hv:z.cells=#[.pointer none,.slice none 0 0]:=by grind
      obtain⟨g',k1,k2,k3⟩:=dI hI hd h1 (fun e=>by simp_all) hv;refine⟨_,_,g',_,_,?_,hk,k1,k2,k3⟩;simp[Instr.alloc,z1,newVar,newRow]
     simp_all
    split at hk
    .rename_i ha;obtain⟨z,z1,z2,_⟩:=Mk hT (w:=w) Fi;have hr:B2 g w (used h) ((T e).zc.map .v) z.cells.toList:=by grind [B2.vals]
     obtain⟨g',k1,k2,k3⟩:=QF hI hd (vs:=z.cells) e hr;refine⟨_,_,g',_,_,?_,hk,k1,k2,k3⟩;simp[Instr.alloc,z1,newVar,newRow]
    simp_all
  simp_all
theorem O6{cs:List AV}{vs:List Value}(hr:B2 g w (used h) cs vs):B2 g w EZ (cs.map (str h)) vs:=by
 refine⟨by rw[Bv];exact hr.1,hr.2.1,fun i av x h1 h2=>?_⟩;rw[BX,CD]at h1;obtain⟨a,a1,rfl⟩:=h1;exact(hr.2.2 i a x a1 h2).str hI.objs
theorem mF{d:Option Nat}{e:Nat}{x:AV}(hx:A5 g w (used h) x vx)(hk:dJ cx d h e x K):Nk P w0 g0 h0 h g w (Instr.box e vx) K:=by
 unfold dJ at hk;split at hk
 .simp_all
 .split at hk
  .rename_i hd;split at hk
   .simp_all
   .obtain⟨cs,hk,hn,hr⟩:=Mr hx hk;split at hk
    .obtain⟨g',k1,k2,k3⟩:=kH hI hd (vs:=vx.cells) e (O6 hI hr);exact⟨_,_,g',_,_,rfl,hk,k1,k2,k3⟩
    .obtain⟨g',k1,k2,k3⟩:=QF hI hd (vs:=vx.cells) e hr;exact⟨_,_,g',_,_,rfl,hk,k1,k2,k3⟩
  simp_all
theorem Cv.write{r b:Nat}(hl:(h r).live)(ho:g.own r=some b)(o' : HO)(hb:w.heap[b]?=some (.cells D1 E (0,0)))(new:Array Value)(n:Nat)(ow:Option Nat)(S' : Nat->Nat->Prop)(Fi:o'≠.free)(hn:n=g.ln r)(fb:∀b',ow=some b'->b'=b)(hS:∀b o,g.S b o->S' b o)(zk:∀b' o,S' b' o->g.S b' o\/b'=b)(Ac5:∀o,g.S b o->new[o]?=D1[o]?)(Lq:JS g (g.upd r (g.ρ r) n (g.tk r) ow S') (used h)->ED g w (g.upd r (g.ρ r) n (g.tk r) ow S') (w.setRow b new)->(w.setRow b new).heap[b]?=some (.cells new E (0,0)) ->
   DB (g.upd r (g.ρ r) n (g.tk r) ow S') (w.setRow b new) (used (AJ h r o')) r o') :
  Cv w0 g0 h0 (AJ h r o') (g.upd r (g.ρ r) n (g.tk r) ow S') (w.setRow b new)/\Le h g w (AJ h r o') (g.upd r (g.ρ r) n (g.tk r) ow S') (w.setRow b new):=by
 have Et:=setRow_heap w b D1 new E (0,0) hb;have Fp:=(hI.loc r b hl ho).1
 refine hI.upd r o' _ _ _ _ _ _ (some b) ⟨rfl,rfl,rfl,by simp_all⟩ (fun k hk Fi=>setRow_other w b k new (fun e=>Fi (by rw[e]))) (fun b' e=>by simp_all) hS (fun b' o hs=>?_)
  (fun b' o e hs=>?_) (fun b' _ e=>?_) Fi (fun _=>⟨rfl,by omega,fun _=>rfl,fun _=>rfl⟩) (fun hg hk=>Lq hg hk Et)
 all_goals grind [FS]
theorem gI(hT:BY P cx.T){t:Nat}{p x:AV}{vp:Value}(hp:A5 g w (used h) p vp)(hx:A5 g w (used h) x vx)(hk:NX cx h t p x K) :
  gZ P w0 g0 h0 h g w (Instr.storeAt t vp vx) K:=by
 unfold NX at hk;split at hk
 .simp_all
 .rename_i hd;have h5:=Mr hx hk
  clear hk
  obtain⟨vs,hk,hn,hr⟩:=h5;have Cy:vx.cells.toList.length=vs.length:=hr.1;split at hk
  .rename_i r off;have ho:=hI.objs r;split at hk
   .rename_i cs e;obtain⟨HB,hk⟩:=hk;rw[e]at ho;obtain⟨t0,b,E,D1,a1,a2,a3,a4,a5⟩:=ho;cases hp with
    |ref _ _ _ b' hu ht ZD=>
     rw[a2]at ZD;cases ZD;have OE:D1.toList.length=cs.length:=a4.1;have Cm:=O3 hT w (t:=t) (off:=off) (x:=vx) hd aa0 hr.2.1 a3 (by simp_all);have hl:(h r).live:=by rw[e];trivial
     have rg:=a4.over hr off HB;split at hk
     .obtain⟨k1,k2⟩:=hI.write hl a1 (.ro ((over cs off vs).map (str h))) a3 (over D1.toList off vx.cells.toList).toArray (g.ln r) none (g.more b cs.length) aa1 rfl (fun _ e=>by cases e) (fun _ _ h=>.inl h)
       (fun b' o hs=>hs.elim .inl (fun hs=>.inr hs.1)) (fun o hs=>absurd hs (a5 o)) (fun hg HP Et=>by
        obtain⟨u1,u2,u3,u4⟩:=Bi g r (g.ρ r) (g.ln r) (g.tk r) none (g.more b cs.length);refine⟨u3.trans t0,b,u1.trans a2,A5.cptr_row Et ?_ (fun o ho=>.inr ⟨rfl,?_⟩)⟩
        .exact(O6 hI rg).mono HP (fun _ h=>h) (fun _ h=>h.elim)
        grind [FW])
      exact⟨_,_,_,Cm,hk,k1,k2⟩
     .obtain⟨k1,k2⟩:=hI.write hl a1 (.cells (over cs off vs)) a3 (over D1.toList off vx.cells.toList).toArray (g.ln r) (g.own r) g.S aa1 rfl (fun b' e=>by simp_all) (fun _ _ h=>h)
       (fun b' o hs=>.inl hs) (fun o hs=>absurd hs (a5 o)) (fun hg HP Et=>by
        obtain⟨u1,u2,u3,u4⟩:=Bi g r (g.ρ r) (g.ln r) (g.tk r) (g.own r) g.S;exact⟨u3.trans t0,b,E,_,u4.trans a1,u1.trans a2,Et,rg.mono HP (fun i hi=>Do aa1 i hi) hg,a5⟩)
      exact⟨_,_,_,Cm,hk,k1,k2⟩
   simp_all
  .rename_i r n sz i off;have ho:=hI.objs r;split at hk
   .rename_i Ho es e;rw[e]at ho;split at hk
    .rename_i hz;obtain rfl:=AT hz;obtain⟨vo,cs,hi,HB,hk⟩:=hk;obtain⟨t1,l1,al,a1⟩:=ho;have Fp:=(AR.1 hi).1;rcases a1 with ⟨rfl,_⟩ | ⟨b,cap,E,D1,e1,e2,e3,e4,e5,e6,e7⟩
     .simp_all
     .cases hp with
      |eref _ _ _ _ _ _ b' MU hu ht l6 ZD=>
       have ZD:=ZD (vo.trans l1.symm);rw[e1]at ZD;simp only[Value.slice.injEq,Dr,Addr.mk.injEq]at ZD;obtain⟨⟨rfl,_,_⟩,_,_⟩:=ZD;have TY:=al cs (AO hi);have aI:i*sz+sz<=es.length*sz:=by
        have:=By sz (show i+1<=es.length from Fp)
        grind
       have pG:es.length*sz<=cap*sz:=By sz e3;have Cm:=O3 hT w (t:=t) (off:=i*sz+off) (x:=vx) hd aa0 hr.2.1 e4 aa0;have hl:(h r).live:=by rw[e];trivial
       have ux : ∀c∈es.set i (over cs off (vs.map (str h))),c.length=sz:=fun c hc=>by
        rcases List.mem_or_eq_of_mem_set hc with hc | rfl
        .simp_all
        .rw[FW];exact TY
       have hfl:=LI al hi off (vs.map (str h)) (by simp_all);have nO:D1.toList.length=cap*sz:=by omega
       have rx:((over D1.toList (i*sz+off) vx.cells.toList).toArray.toList.take ((es.set i (over cs off (vs.map (str h)))).length*sz))=over (D1.toList.take (es.length*sz)) (i*sz+off) vx.cells.toList:=by
        rw[Hq];exact Vb _ _ _ _ aa0 aa0
       have rg:B2 g w EZ (es.set i (over cs off (vs.map (str h)))).flatten ((over D1.toList (i*sz+off) vx.cells.toList).toArray.toList.take ((es.set i (over cs off (vs.map (str h)))).length*sz)):=by
        rw[rx,hfl];exact e6.over (O6 hI hr) _ (by rw[Bv,CX al];omega)
       split at hk
       .rename_i j m;have j8:∃x0,vx.cells.toList=[x0]:=by
         revert Cy
         cases vx.cells.toList with
         |nil=>grind
         |cons x0 l=>simp_all
        obtain⟨x0,j8⟩:=j8;have DS:=hr.2.2 0 (.msl j m) x0 rfl (by grind)
        obtain⟨k1,k2⟩:=hI.write hl e2 (.hol sz (es.set i (over cs off [.junk])) i off (.msl j m)) e4 (over D1.toList (i*sz+off) vx.cells.toList).toArray (g.ln r) (g.own r) g.S aa1 rfl (fun b' e=>by simp_all) (fun _ _ h=>h)
         (fun b' o hs=>.inl hs) (fun o hs=>absurd hs (e7 o)) (fun hg HP Et=>by
          obtain⟨u1,u2,u3,u4⟩:=Bi g r (g.ρ r) (g.ln r) (g.tk r) (g.own r) g.S;have Afc:i*sz+off<es.length*sz:=by grind
          refine⟨u3.trans t1,u2.trans (by simp_all),ux,b,cap,E,_,?_,u4.trans e2,by simp_all,Et,?_,rg.mono HP (fun _ h=>h) (fun _ h=>h.elim),e7,by simp_all,x0,?_,DS.mono HP (fun i hi=>Do aa1 i hi) hg⟩
          .simp_all
          .simp only[List.size_toArray,FW,Array.length_toList];exact e5
          .rw[<-Co,j8,Gx _ _ _ _ (by grind),AE ⟨Aq _,by grind⟩,Io];rfl)
        exact⟨_,_,_,Cm,hk,k1,k2⟩
       .obtain⟨k1,k2⟩:=hI.write hl e2 (.arr sz (es.set i (over cs off (vs.map (str h))))) e4 (over D1.toList (i*sz+off) vx.cells.toList).toArray (g.ln r) (g.own r) g.S aa1 rfl (fun b' e=>by simp_all) (fun _ _ h=>h)
         (fun b' o hs=>.inl hs) (fun o hs=>absurd hs (e7 o)) (fun hg HP Et=>by
          obtain⟨u1,u2,u3,u4⟩:=Bi g r (g.ρ r) (g.ln r) (g.tk r) (g.own r) g.S;refine⟨u3.trans t1,u2.trans (by simp_all),ux,.inr ⟨b,cap,E,_,?_,u4.trans e2,by simp_all,Et,?_,rg.mono HP (fun _ h=>h) (fun _ h=>h.elim),e7⟩⟩
          all_goals grind [FW])
        exact⟨_,_,_,Cm,hk,k1,k2⟩
    simp_all
   simp_all
  simp_all
end
theorem fO(c vs:List α)(h:vs.length=c.length):over c 0 vs=vs:=by
 grind [MJ]
theorem HG[Inhabited α](z:List α)(hz:z≠[]):(List.replicate n z).flatten=(List.range (n*z.length)).map fun k=>z[k % z.length]!:=by
 have hl:∀c∈List.replicate n z,c.length=z.length:=fun c hc=>by simp_all
 have vu:0<z.length:=List.length_pos_iff.2 hz;apply CR;intro k
 by_cases hk:k<n*z.length
 all_goals grind [Nat.mul_comm,Nat.div_add_mod,Nat.mod_lt,Nat.div_lt_iff_lt_mul,Fa,CX,List.length_map,List.length_range]
section
variable {P:Program}{w0:World}{g0:Gh}{h0 h:Nat->HO}{g:Gh}{w:World}(hI:Cv w0 g0 h0 h g w)
include hI
theorem X3{n sz:Nat}{t:Nat->AV}{ρ:Operand->Value}(ht:∀x:Operand,A5 g w (used h) (ev t x) (ρ x)) :
  ∀{ps:List (Nat×Operand)} {es:List (List AV)} {xs:Array Value} {K:List (List AV)->Prop},es.length=n->(∀c∈es,c.length=sz)->B2 g w EZ es.flatten xs.toList->Qo n sz h es t ps K ->
   ∃F6 Xb,K F6/\F6.length=n/\(∀c∈F6,c.length=sz)/\B2 g w EZ F6.flatten Xb.toList/\Instr.fill (fun i=>some (i*sz,sz)) xs (ps.map fun(i,x)=>(i,ρ x))=some Xb
 | [],es,xs,K,hn,hl,h,hk=>⟨es,xs,hk,hn,hl,h,rfl⟩
 |(i,x)::ps,es,xs,K,hn,hl,h,hk=>by
  unfold Qo at hk;split at hk
  .rename_i hi;have hi:i<n:=FZ hi;have h5:=Mr (ht x) hk
   clear hk
   obtain⟨TU,hk,hna,hr⟩:=h5;have FM:(ρ x).cells.size=sz:=by rw[<-hna];simpa using hr.1
   have cB:=O6 hI hr;obtain⟨c,hc⟩:∃c,es[i]?=some c:=⟨_,AI aa0⟩;have TY:=hl c (AO hc);have HB:i*sz+sz<=es.flatten.length:=by
    rw[CX hl,hn]
    have:=By sz (show i+1<=n from hi)
    grind
   have hfl:=LI hl hc 0 (TU.map (str ‹Nat->HO›)) (by simp_all);rw[fO _ _ (by simp_all),Hl]at hfl;have Et:=h.over cB (i*sz) (by simp_all);have nZ:xs.size=es.flatten.length:=by have:=h.1;omega
   have e:=Ny (ρ x).cells.toList 0 (i*sz) xs (by simp_all);simp only[Hl]at e;rw[<-e,<-hfl]at Et;obtain⟨F6,Xb,k1,k2,k3,k4,k5⟩:=X3 ht (es:=es.set i (TU.map (str _))) (by simp_all) (fun c' hc'=>by
    grind) Et hk
   refine⟨F6,Xb,k1,k2,k3,k4,?_⟩;simp only[BU,Instr.fill]
   grind [Array.toList_zipIdx]
  simp_all
theorem RJ(hT:BY P cx.T){d:Option Nat}{ty n:Nat}{t:Nat->AV}{ρ:Operand->Value}(ht:∀x:Operand,A5 g w (used h) (ev t x) (ρ x)){ps:Array (Nat×Operand)}(hk:Ie cx d h ty n t ps.toList K):Nk P w0 g0 h0 h g w (Instr.buildSlice ty n (ps.map fun(i,x)=>(i,ρ x))) K:=by
 unfold Ie at hk;split at hk
 .rename_i e hs;split at hk
  .rename_i Wz gU;have gU:=AT gU;split at hk
   .simp_all
   .rename_i m hm;split at hk
    .rename_i HB;have HB:=FZ HB;have ry:(cx.T e).zc≠[]:=fun e0=>by simp_all
     have wS:∀c∈List.replicate n ((cx.T e).zc.map AV.v),c.length=(cx.T e).size:=fun c hc=>by simp_all
     have u6:B2 g w EZ (List.replicate n ((cx.T e).zc.map AV.v)).flatten ((Array.range (n*(cx.T e).size)).map fun k=>(cx.T e).zc.toArray[k % (cx.T e).zc.toArray.size]!).toList:=by
      have e1:((Array.range (n*(cx.T e).size)).map fun k=>(cx.T e).zc.toArray[k % (cx.T e).zc.toArray.size]!).toList=(List.replicate n (cx.T e).zc).flatten:=by
       rw[HG n _ ry];simp_all
      have e2:(List.replicate n ((cx.T e).zc.map AV.v)).flatten=(List.replicate n (cx.T e).zc).flatten.map AV.v:=by
       simp_all
      rw[e1,e2];refine B2.vals ?_;have Hy:∀l:List AV,(∀a∈l,Xm a=true)->GN l=true:=by
       intro l
       induction l<;>grind [GN]
      grind [Ml]
     obtain⟨F6,Xb,k1,k2,k3,k4,k5⟩:=X3 hI ht (by simp_all) wS u6 hk;have nZ:Xb.size=n*(cx.T e).size:=by
      have:=k4.1
      grind [CX]
     obtain⟨g',av,h',q1,q2,q3,q4⟩:=JM hI k1 (vs:=Xb) (cap:=n) e k3 aa0 nZ (by
      grind [Array.length_toList]) w ⟨rfl,rfl,rfl,rfl⟩
     rw[k2]at q4;refine⟨_,_,g',av,h',?_,q1,q2,q3,q4⟩;obtain⟨z,z1,z2⟩:=VH hT (w:=w) hm;have FM:=hT.size1 w hm;have e3:(Array.map (fun x:Nat×Operand=>match x with | (i,x)=>(i,ρ x)) ps).toList=ps.toList.map fun(i,x)=>(i,ρ x):=by simp
     have z7:¬(n*(m+1)>2 ^ 24):=by simp_all
     simp only[Instr.buildSlice,Sem.run_bind,run_underlying (hT.slice hs),Result.andThen_ok,FM,Aw z7];rw[e3];rw[hm]at k5
     by_cases h0:n*(m+1)=0
     .have zZ:n=0:=by
       grind
      subst zZ;have er:Array.range 0=#[]:=rfl;simp only[Nat.zero_mul,er,List.map_toArray,Fx]at k5;simp only[Nat.zero_mul,Qx,er,List.map_toArray,Fx,k5];simp[newRow]
     .rw[z2]at k5;simp only[Array.toArray_toList]at k5;simp only[Aw h0,Sem.run_bind,z1,Result.andThen_ok,Sem.run_pure,k5];simp[newRow]
    simp_all
  simp_all
 simp_all
end
theorem FC{sz:Nat}:∀{es:List (List AV)},AZ sz es->∀c∈es,c.length=sz
 | [],_,c,h=>by cases h
 |d::es,h,c,hc=>by
  rcases AN.1 hc with rfl | hc
  .exact h.1
  .exact FC h.2 c hc
def N4(w:World)(x:Value)(n sz:Nat)(news:List Value):Prop:=
 news.length=n*sz/\(∀v∈news,v.oneCell'=true)/\∃(a:Option Addr) (c:Nat),x=.slice a n c/\(n=0\/∃b:Addr,a=some b/\∀j u,news[j]?=some u->w.cell? (b.add j)=some u)
theorem N4.of_rep{w:World}{sz:Nat}(h:A5 g w U (.slice .none es) x)(hl:∀c∈es,c.length=sz) :
  ∃news,N4 w x es.length sz news/\B2 g w EZ es.flatten news:=by
 cases h with
 |snil _ a cap=>exact⟨[],⟨by simp,by simp,a,cap,rfl,.inl rfl⟩,by simp,by simp,fun i av x h1 h2=>by simp_all⟩
 |slice _ _ b off Ho cap val hc T1 CY DS=>
  have hf:=CX hl;have key:∀j,j<es.length*sz->∃cs,es[j / sz]?=some cs/\es.flatten[j]?=cs[j % sz]?/\j % sz<cs.length/\Ho=sz/\j=j / sz*sz+j % sz:=by
   intro j hj
   grind [Nat.pos_of_ne_zero,Nat.div_add_mod,Nat.div_lt_iff_lt_mul,Nat.mod_lt,Fa]
  have aE:∀j,j<es.length*sz->∃av,es.flatten[j]?=some av/\w.cell? ⟨b,off+j,none⟩=some (val (j / sz) (j % sz))/\(val (j / sz) (j % sz)).oneCell'=true/\A5 g w EZ av (val (j / sz) (j % sz)):=by
   intro j hj;obtain⟨cs,k1,k2,k3,rfl,k5⟩:=key j hj;have qO:cs[j % Ho]?=some cs[j % Ho]:=AI k3;obtain⟨_,c2,c3⟩:=CY _ _ _ _ k1 qO;rw[Nat.add_assoc,<-k5]at c2;exact⟨_,k2.trans qO,c2,c3,DS _ _ _ _ k1 qO⟩
  refine⟨(List.range (es.length*sz)).map fun j=>val (j / sz) (j % sz),⟨by simp,fun v hv=>?_,some ⟨b,off,none⟩,cap,rfl,.inr ⟨_,rfl,fun j u hu=>?_⟩⟩,by simp_all,fun v hv=>?_,fun i av x h1 h2=>?_⟩
  .grind
  .obtain⟨hj,rfl⟩:=Ub hu;rw[Addr.add_lit];simp_all
  all_goals grind
section
variable {P:Program}{T:GB}(hT:BY P T)
include hT
theorem Hs{n:Nat}(hs:(T e).size=n+1):∃i z,P.info? e=some i/\i.zero=some z/\i.size=(T e).size/\i.bytes=(T e).bytes/\(T e).zc=z.cells.toList:=by
 rcases hT e with h | h
 .rw[h]at hs;cases hs
 grind [gK,TI.zc_cells]
theorem It(w:World){t ty k:Nat}(ht:(T t).d=.slice e)(hk:(T e).size=k+1)(a a' : Option Addr)(n cap c:Nat)(hc:n<=cap) :
  (Builtin.append_ #[t,t] ty #[.slice a n cap,.slice a' 0 c]).run P w=.ok (.slice a n cap) w:=by
 have hu:=hT.slice ht;cases a<;>cases a'<;>simp[Builtin.append_,run_underlying hu,hT.size1 w hk,Builtin.lenOf,hc,Builtin.firstCells,loadCells,loadCellsFrom,storeCells]
theorem HH(w:World){t ty k:Nat}(ht:(T t).d=.slice e)(hk:(T e).size=k+1)(hz:(T e).zc.length=(T e).size){s:Value}{n m cap c:Nat}{news:List Value}{a a' : Option Addr}(hso:N4 w s n (T e).size olds)(hs:s=.slice a n cap)(NC:a=none->cap=0)(hsx:N4 w x m (T e).size news)(hx:x=.slice a' m c)(hm:0<m)(hg:cap<n+m)(hb:(n+m)*(T e).bytes<=140737488355328)(h63:n+m<=9223372036854775807) :
  ∃nc rest,(Builtin.append_ #[t,t] ty #[s,x]).run P w=.ok (.slice (some ⟨w.heap.size,0,none⟩) (n+m) nc) (w.drew.alloc (.cells (olds++news++rest).toArray e (0,0)))/\n+m<=nc /\
   (olds++news++rest).length=nc*(T e).size:=by
 obtain⟨i,z,i1,i2,i3,i4,i5⟩:=Hs hT hk;have hu:=hT.slice ht;obtain⟨n1,n2,a1,c1,n3,n4⟩:=hsx;subst hx;cases n3;rcases n4 with h | ⟨b,rfl,IB⟩
 .omega
 .have gU:z.cells.size=(T e).size:=by simp_all
  have Yl:∀(nc:Nat) (pre:List Value),pre.length=(n+m)*(T e).size->n+m<=nc->(pre++(Builtin.zeroCells z.cells (nc-(n+m))).toList).length=nc*(T e).size:=by
   intro nc pre hp HB;have e1:(Builtin.zeroCells z.cells (nc-(n+m))).toList.length=(nc-(n+m))*(T e).size:=by grind [size_zeroCells]
   rw[As,e1,hp,<-JA];simp_all
  obtain⟨o1,o2,a2,c2,o3,o4⟩:=hso;subst hs;cases o3;cases a with
  |none=>
   obtain rfl:=NC rfl;have zZ:n=0:=by
    simp_all
   subst zZ;have ho:olds=[]:=Az aa0;subst ho;have hr:=run_append_nil (P:=P) w t ty e i z hu i1 i2 b m c news (by simp_all) IB hm aa0 (by grind);refine⟨grownCap w m 0 e,(Builtin.zeroCells z.cells (grownCap w m 0 e-m)).toList,?_,by rw[Ip];exact grownCap_ge w m 0 e,?_⟩
   .rw[hr,Ip]
    congr 3
    simp_all
   .have:=Yl (grownCap w m 0 e) news (by simp_all) (by rw[Ip];exact grownCap_ge w m 0 e)
    simp_all
  |some b'=>
   have EP:∀j u,olds[j]?=some u->w.cell? (b'.add j)=some u:=by
    grind
   have hr:=run_append_grow (P:=P) w t ty e i z hu i1 i2 b' n cap olds (by simp_all) EP b m c news (by simp_all) IB hg aa0 (by rw[i4];exact growslice_fits hg hb);refine⟨grownCap w (n+m) cap e,(Builtin.zeroCells z.cells (grownCap w (n+m) cap e-(n+m))).toList,?_,grownCap_ge w (n+m) cap e,Yl _ _ (by grind) (grownCap_ge w (n+m) cap e)⟩;rw[hr]
   congr 3
   simp_all
end
theorem B2.app{w:World}{TU bs:List AV}{xs ys:List Value}(h:B2 g w U TU xs)(k:B2 g w U bs ys):B2 g w U (TU++bs) (xs++ys):=by
 refine⟨by simp[h.1,k.1],fun x hx=>(Bz.1 hx).elim (h.2.1 x) (k.2.1 x),fun i av x h1 h2=>?_⟩
 by_cases hi:i<TU.length
 .rw[DL hi]at h1;rw[DL (by rw[h.1];exact hi)]at h2;exact h.2.2 i av x h1 h2
 .rw[B7 aa0]at h1;rw[B7 (by rw[h.1];omega),h.1]at h2;exact k.2.2 _ av x h1 h2
theorem gJ(P:Program)(g o:Nat)(t:TypeId)(fz:Nat×Nat)(vs:List Value):∀(i:Nat) (D1:Array Value) (w:World),w.heap[g]?=some (.cells D1 t fz)->(fz=(0,0)\/D1.size<=fz.1)->o+i+vs.length<=D1.size->(∀v∈vs,v.oneCell'=true) ->
  (storeCells ⟨g,o,none⟩ vs i).run P w=.ok () (w.setRow g (D1.toList.take (o+i)++vs++D1.toList.drop (o+i+vs.length)).toArray):=by
 induction vs with
 |nil=>
  intro i D1 w hg _ _ _;have e:(D1.toList.take (o+i)++[]++D1.toList.drop (o+i+([]:List Value).length)).toArray=D1:=by simp
  rw[e,setRow_self w g D1 t fz hg];rfl
 |cons v rest ih=>
  intro i D1 w hg hf hl h1;simp only[Av]at hl;have hi:o+i<D1.size:=by omega
  have ha:(⟨g,o,none⟩:Addr).add i=⟨g,o+i,none⟩:=Addr.add_lit ..;have hc:w.cell? ⟨g,o+i,none⟩=some D1[o+i]:=by grind [World.cell?]
  have hz:w.frozen? ⟨g,o+i,none⟩=false:=by
   grind [World.frozen?]
  have h2:(store ((⟨g,o,none⟩:Addr).add i) v).run P w=.ok () (w.setRow g (D1.setIfInBounds (o+i) v)):=by
   grind [run_store,setCell_eq_setRow]
  have h3:=ih (i+1) (D1.setIfInBounds (o+i) v) (w.setRow g (D1.setIfInBounds (o+i) v)) (setRow_heap w g D1 _ t _ hg) (by simp_all) (by grind) fun x hx=>h1 x (At _ hx);have e:(D1.setIfInBounds (o+i) v).toList.take (o+(i+1))++rest++(D1.setIfInBounds (o+i) v).toList.drop (o+(i+1)+rest.length)=D1.toList.take (o+i)++v::rest++D1.toList.drop (o+i+(v::rest).length):=by
   simpa[Array.toList_setIfInBounds,Nat.add_assoc]using list_seg_step D1.toList (o+i) v rest aa0
  rw[storeCells,Sem.run_bind,h2,Result.andThen_ok,h3,setRow_setRow,e]
section
variable {P:Program}{w0:World}{g0:Gh}{h0 h:Nat->HO}{g:Gh}{w:World}(hI:Cv w0 g0 h0 h g w)
include hI
omit hI in
theorem PW(t ty e:TypeId)(i:TypeInfo)(ht:P.underlying t=some (.slice e))(hi:P.info? e=some i)(g NS bA:Nat)(D1:Array Value)(hg:w.heap[g]?=some (.cells D1 E (0,0)))(a:Addr)(m c:Nat)(news:List Value)(hl:news.length=m*i.size)(IB:∀j u,news[j]?=some u->w.cell? (a.add j)=some u)(h1:∀u∈news,u.oneCell'=true)(Lf:NS+m<=bA)(zJ:NS*i.size+news.length<=D1.size) :
  (Builtin.append_ #[t,t] ty #[.slice (some ⟨g,0,none⟩) NS bA,.slice (some a) m c]).run P w =
   .ok (.slice (some ⟨g,0,none⟩) (NS+m) bA) (w.setRow g (D1.toList.take (NS*i.size)++news++D1.toList.drop (NS*i.size+news.length)).toArray):=by
 have hf:=run_firstCells_some (P:=P) w i.size m a m c news hl IB;have IC:=run_storeCells_at P g (NS*i.size) E news 0 D1 w hg aa0 h1;simp only[Hl]at IC;simp[Builtin.append_,run_underlying ht,sizeOf,typeInfo,hi,Builtin.lenOf,Lf,hf,Addr.add_lit,IC]
omit hI in
theorem Tt(t ty e:TypeId)(i:TypeInfo)(ht:P.underlying t=some (.slice e))(hi:P.info? e=some i)(g off NS bA:Nat)(D1:Array Value){fz:Nat×Nat}(hg:w.heap[g]?=some (.cells D1 E fz))(hfz:fz=(0,0)\/D1.size<=fz.1)(a:Addr)(m c:Nat)(news:List Value)(hl:news.length=m*i.size)(IB:∀j u,news[j]?=some u->w.cell? (a.add j)=some u)(h1:∀u∈news,u.oneCell'=true)(Lf:NS+m<=bA)(zJ:off+NS*i.size+news.length<=D1.size) :
  (Builtin.append_ #[t,t] ty #[.slice (some ⟨g,off,none⟩) NS bA,.slice (some a) m c]).run P w =
   .ok (.slice (some ⟨g,off,none⟩) (NS+m) bA) (w.setRow g (D1.toList.take (off+NS*i.size)++news++D1.toList.drop (off+NS*i.size+news.length)).toArray):=by
 have hf:=run_firstCells_some (P:=P) w i.size m a m c news hl IB;have IC:=gJ P g (off+NS*i.size) E fz news 0 D1 w hg hfz aa0 h1;simp only[Hl]at IC;simp[Builtin.append_,run_underlying ht,sizeOf,typeInfo,hi,Builtin.lenOf,Lf,hf,Addr.add_lit,IC]
omit hI in
theorem oO{b off n m sz cap:Nat}{fz:Nat×Nat}{news:List Value}(hb:w.heap[b]?=some (.cells D1 E fz))(nO:D1.size=off+cap*sz)(hn:n<=cap)(hm:n+m<=cap)(vo:news.length=m*sz)(hol:olds.length=n*sz)(EP:∀j u,olds[j]?=some u->w.cell? ⟨b,off+j,none⟩=some u) :
  (D1.toList.take (off+n*sz)++news++D1.toList.drop (off+n*sz+news.length)).length=off+cap*sz /\
  ((D1.toList.take (off+n*sz)++news++D1.toList.drop (off+n*sz+news.length)).drop off).take ((n+m)*sz)=olds++news /\
  ∀o,o<off+n*sz->(D1.toList.take (off+n*sz)++news++D1.toList.drop (off+n*sz+news.length)).toArray[o]?=D1[o]?:=by
 have TY:D1.toList.length=off+cap*sz:=by omega
 have aI:(n+m)*sz<=cap*sz:=By _ hm;have pG:n*sz<=cap*sz:=By _ hn;rw[JA]at aI;have SC:(D1.toList.take (off+n*sz)).drop off=olds:=by
  apply CR;intro j
  by_cases hj:j<n*sz
  .rw[FO,QT aa0]
   grind [FS]
  simp_all
 have ma:(D1.toList.take (off+n*sz)).length=off+n*sz:=by simp_all
 refine⟨?_,?_,fun o ho=>?_⟩
 .grind
 .rw[CQ,List.drop_append_of_le_length aa0,SC,<-CQ,MS (by grind)]
 grind
omit hI in
theorem lx{b n m sz cap:Nat}{news:List Value}(hb:w.heap[b]?=some (.cells D1 E (0,0)))(nO:D1.size=cap*sz)(hn:n<=cap)(hm:n+m<=cap)(vo:news.length=m*sz)(hol:olds.length=n*sz)(EP:∀j u,olds[j]?=some u->w.cell? ⟨b,j,none⟩=some u) :
  (D1.toList.take (n*sz)++news++D1.toList.drop (n*sz+news.length)).length=cap*sz /\
  (D1.toList.take (n*sz)++news++D1.toList.drop (n*sz+news.length)).take ((n+m)*sz)=olds++news /\
  ∀o,o<n*sz->(D1.toList.take (n*sz)++news++D1.toList.drop (n*sz+news.length)).toArray[o]?=D1[o]?:=by
 have TY:D1.toList.length=cap*sz:=by omega
 have aI:(n+m)*sz<=cap*sz:=By _ hm;have pG:n*sz<=cap*sz:=By _ hn;rw[JA]at aI;have SC:D1.toList.take (n*sz)=olds:=by
  apply CR
  grind [FS]
 have ma:(D1.toList.take (n*sz)).length=n*sz:=by simp_all
 refine⟨?_,?_,fun o ho=>?_⟩
 all_goals grind [Nat.add_mul]
theorem Uq{r n sz:Nat}(he:h r=.arr sz es)(hx:A5 g w (used h) (.msl r n) x)(hn:n=es.length) :
  x=g.ρ r/\∃news,N4 w x es.length sz news/\B2 g w EZ es.flatten news:=by
 have ho:=hI.objs r;rw[he]at ho;obtain⟨t1,l1,al,a1⟩:=ho;cases hx with
 |msl _ _ _ a cap hu ht l6 ha Q0=>
  have e:=Q0 (hn.trans l1.symm);refine⟨e,?_⟩;rw[e];rcases a1 with ⟨rfl,e2,e3⟩ | ⟨b,MU,E,vs,e1,e2,e3,e4,e5,e6,e7⟩
  .exact⟨[],⟨by simp,by simp,none,0,e2,.inl rfl⟩,by simp,by simp,fun i av x h1 h2=>by simp_all⟩
  .have nO:vs.toList.length=MU*sz:=by omega
   have HB:es.length*sz<=vs.toList.length:=by rw[nO];exact By _ e3
   refine⟨vs.toList.take (es.length*sz),⟨by simp_all,e6.2.1,_,_,e1,.inr ⟨_,rfl,fun j u hj=>?_⟩⟩,e6⟩
   grind [Addr.add_lit,FS]
theorem d9{sz:Nat}{x:AV}{K:List (List AV)->Prop}(hx:A5 g w (used h) x vx)(hk:KH h x K) :
  ∃es,K es/\((∀c∈es,c.length=sz)->∃news,N4 w vx es.length sz news/\B2 g w EZ es.flatten news):=by
 unfold KH at hk;split at hk
 .exact⟨_,hk,fun hl=>N4.of_rep hx.slice_none hl⟩
 .obtain rfl:=hx.v_eq;exact⟨[],hk,fun _=>⟨[],⟨by simp,by simp,none,0,rfl,.inl rfl⟩,by simp,by simp,fun i av x h1 h2=>by simp_all⟩⟩
 .rename_i r n;split at hk
  .rename_i Ho es e;obtain⟨hn,hk⟩:=hk;refine⟨es,hk,fun hl=>?_⟩;obtain⟨_,news,n1,n2⟩:=Uq hI e hx hn;refine⟨news,?_,n2⟩
   have:news.length=es.length*sz:=by rw[n2.1,CX hl]
   exact⟨this,n1.2.1,n1.2.2⟩
  simp_all
 simp_all
theorem fG{d:Option Nat}{sz:Nat}(hk:EI cx d h sz [] K) :
  ∃g' av h',K av h'/\Cv w0 g0 h0 h' g' w/\Le h g w h' g' w/\A5 g' w (used h') av (.slice none 0 0):=by
 have base:∀(d:Nat) (o' : HO),h d=.free->o'≠.free->(∀g' : Gh,g'.ρ d=.slice none 0 0->g'.ln d=0->g'.tk d=true->g'.own d=none->DB g' w (used (AJ h d o')) d o') ->
   Cv w0 g0 h0 (AJ h d o') (g.upd d (.slice none 0 0) 0 true none g.S) w/\Le h g w (AJ h d o') (g.upd d (.slice none 0 0) 0 true none g.S) w:=by
  intro d o' hd Fi Lq;refine hI.upd d o' _ _ _ _ _ w none ⟨rfl,rfl,rfl,Aq _⟩ (fun _ _ _=>rfl) (fun b e=>by cases e) (fun _ _ h=>h) (fun _ _ h=>.inl h) (fun b o e=>by cases e) (fun b _ e=>by cases e) Fi (fun hu=>absurd hd hu) (fun _ _=>?_)
  grind [Bi]
 unfold EI at hk;split at hk
 .simp_all
 .rename_i d;generalize JW cx d=d1 at hk;split at hk
  .rename_i hd;split at hk
   .obtain⟨k1,k2⟩:=base d1 (.arr sz []) hd aa1 (fun g' u1 u2 u3 u4=>⟨u3,u2,by simp,.inl ⟨rfl,u1,u4⟩⟩);exact⟨_,_,_,hk,k1,k2,.msl _ d1 0 none 0 (by grind [used,AX]) (by simp[Gh.upd]) (Ao _) (.inl rfl) (fun _=>by simp[Gh.upd])⟩
   .obtain⟨k1,k2⟩:=base d1 (.tok sz 0) hd aa1 (fun g' u1 u2 u3 u4=>⟨u3,u2,none,0,u1,.inl ⟨rfl,u4⟩⟩);exact⟨_,_,_,hk,k1,k2,.tok _ d1 sz [] _ (.snil _ _ _) aa1 (by grind [used,AX]) (by simp[Gh.upd]) (Ao _) (fun _=>by simp[Gh.upd])⟩
  simp_all
theorem ZM(hT:BY P cx.T){d:Option Nat}{t ty:Nat}{s x:AV}{vs:Value}(hs:A5 g w (used h) s vs)(hx:A5 g w (used h) x vx)(hk:II cx d h t s x K) :
  Nk P w0 g0 h0 h g w (Builtin.append_ #[t,t] ty #[vs,vx]) K:=by
 unfold II at hk;split at hk
 .rename_i e ht;split at hk
  .simp_all
  .rename_i hz;have hz:=AT hz;split at hk
   .simp_all
   .rename_i k FM;have h5:=d9 hI (sz:=(cx.T e).size) hx hk
    clear hk
    obtain⟨es2,hk,h6⟩:=h5;split at hk
    .obtain⟨⟨q1,q2,q3⟩,hk⟩:=hk;obtain rfl:=hs.v_eq;obtain⟨news,n1,n2⟩:=h6 (FC q1);obtain⟨m1,m2,a,c,rfl,m4⟩:=n1
     by_cases hm:es2.length=0
     .obtain rfl:=Az hm;obtain⟨g',av,h',k1,k2,k3,k4⟩:=fG hI hk;exact⟨_,w,g',av,h',It hT w ht FM none a 0 0 c (Aq _),k1,k2,k3,k4⟩
     .obtain⟨nc,rest,r1,r2,r3⟩:=HH hT w (ty:=ty) ht FM hz (olds:=[]) (a:=none) (n:=0) (cap:=0) ⟨by simp,by simp,none,0,rfl,.inl rfl⟩ rfl (fun _=>rfl) ⟨m1,m2,a,c,rfl,m4⟩ rfl aa0 aa0 (by simp_all) aa0;obtain⟨g',av,h',k1,k2,k3,k4⟩:=JM hI hk (vs:=([]++news++rest).toArray) (cap:=nc) e (FC q1) aa0 aa0 (by
       simp_all) w.drew ⟨rfl,rfl,rfl,rfl⟩
      rw[Ip]at r1;exact⟨_,_,g',av,h',r1,k1,k2,k3,k4⟩
    .rename_i Ho es;split at hk
     .rename_i TP;obtain TP:=AT TP;obtain⟨⟨q1,q2,q3,q4⟩,hk⟩:=hk;obtain⟨news,n1,n2⟩:=h6 (FC q1);obtain⟨m1,m2,a2,c2,rfl,m4⟩:=n1;cases hs with
      |full _ _ _ _ hr nT Q0=>
       obtain⟨a,rfl⟩:=Q0;have Hy:∀c∈es++es2,c.length=(cx.T e).size:=fun c hc=>(Bz.1 hc).elim (fun h=>(nT c h).trans TP) (FC q1 c);obtain⟨olds,o1,o2⟩:=N4.of_rep hr (sz:=(cx.T e).size) (fun c hc=>(nT c hc).trans TP);have GH:=o2.app n2;rw[<-Eu]at GH;have ha:a=none->es.length=0:=by
        rintro rfl
        obtain⟨p1,p2,a',c',p3,p4⟩:=o1<;>grind
       obtain⟨nc,rest,r1,r2,r3⟩:=HH hT w (ty:=ty) ht FM hz o1 rfl ha ⟨m1,m2,a2,c2,rfl,m4⟩ rfl q2 aa0 q3 q4;obtain⟨g',av,h',k1,k2,k3,k4⟩:=JM hI hk (vs:=(olds++news++rest).toArray) (cap:=nc) e Hy (by simp_all) aa0 (by
        rw[show(olds++news++rest).toArray.toList=olds++news++rest from rfl,MS (by rw[As,As,o1.1,m1,JA])];exact GH) w.drew ⟨rfl,rfl,rfl,rfl⟩
       rw[As]at k4;exact⟨_,_,g',av,h',r1,k1,k2,k3,k4⟩
     simp_all
    .rename_i r Ho es;have ho:=hI.objs r;split at hk
     .rename_i sz n e0;rw[e0]at ho;split at hk
      .rename_i TP Aab;obtain rfl:=AT Aab;obtain TP:=AT TP;obtain⟨⟨q1,q2,q3,q4⟩,hk⟩:=hk;rw[TP]at q1;obtain⟨news,n1,n2⟩:=h6 (FC q1);obtain⟨m1,m2,a2,c2,rfl,m4⟩:=n1;obtain⟨t1,l1,a,cap,a1,a3⟩:=ho;have hl:(h r).live:=by rw[e0];trivial
       have Hy:∀c∈es++es2,es.length=n->True:=fun _ _ _=>trivial;cases hs with
       |tok _ _ _ _ _ hr nT hu ZE hn Q0=>
        have hv:=Q0 (q2.trans l1.symm);rw[a1]at hv;subst hv;subst q2;have Hy:∀c∈es++es2,c.length=Ho:=fun c hc=>(Bz.1 hc).elim (nT c) (fun h=>(FC q1 c h).trans TP.symm);obtain⟨olds,o1,o2⟩:=N4.of_rep hr nT;have GH:=o2.app n2;rw[<-Eu]at GH;have ct:es.length<=cap:=by omega
        by_cases hm:es2.length=0
        .obtain rfl:=Az hm;have Lq:=hI.objs r;rw[e0]at Lq
         obtain⟨k1,k2⟩:=hI.upd r (.tok Ho (es.length+([]:List (List AV)).length)) (g.ρ r) (g.ln r) (g.tk r) (g.own r) g.S w none ⟨rfl,rfl,rfl,Aq _⟩ (fun _ _ _=>rfl) (fun b e=>by cases e) (fun _ _ h=>h) (fun _ _ h=>.inl h) (fun b o e=>by cases e)
          (fun b _ e=>⟨(hI.loc r b hl e).1,.inl ⟨hl,e⟩⟩) aa1 (fun _=>⟨rfl,Aq _,fun _=>rfl,fun _=>rfl⟩) (fun hg HP=>by
           obtain⟨u1,u2,u3,u4⟩:=Bi g r (g.ρ r) (g.ln r) (g.tk r) (g.own r) g.S;rw[AA,Hl];exact Lq.same HP (fun i hi=>Do aa1 i hi) hg u1 u2 u3 u4 (fun b _ _=>⟨rfl,fun _ h=>h⟩))
         refine⟨_,w,_,_,_,It hT w ht FM a a2 es.length cap c2 ct,hk,k1,k2,?_⟩
         grind [A5.tok,A5.le]
        .by_cases Lf:es.length+es2.length<=cap
         .rcases a3 with ⟨e1,_⟩ | ⟨e1,b,E,D1,off,rfl,e3,⟨fz,e4,efz⟩,e5,e6⟩
          .omega
          .rcases m4 with h | ⟨ba,rfl,IB⟩
           .omega
           .obtain⟨i,z,i1,i2,i3,i4,i5⟩:=Hs hT FM;have aI:(es.length+es2.length)*Ho<=cap*Ho:=By _ Lf;have zY:news.length=es2.length*Ho:=by simp_all
            have qZ:i.size=Ho:=i3.trans TP.symm;have Cm:=Tt (P:=P) t ty e i (hT.slice ht) i1 b off es.length cap D1 e4 efz ba es2.length c2 news (by simp_all) IB m2 Lf (by grind);rw[qZ]at Cm;have EP:∀j u,olds[j]?=some u->w.cell? ⟨b,off+j,none⟩=some u:=by
             obtain⟨p1,p2,a',c',p3,p4⟩:=o1;cases p3;intro j u hj;rcases p4 with h | ⟨b',h,h'⟩
             .simp_all
             .cases h
              have:=h' j u hj
              rwa [Addr.add_lit]at this
            obtain⟨p1,p2,p3⟩:=oO e4 e5 e1 Lf zY o1.1 EP;generalize hnewd:D1.toList.take (off+es.length*Ho)++news++D1.toList.drop (off+es.length*Ho+news.length)=new at Cm p1 p2 p3;have Et:=setRow_heap w b D1 new.toArray E fz e4;have uB:=(hI.loc r b hl e3).1
            obtain⟨k1,k2⟩:=hI.upd r (.tok Ho (es.length+es2.length)) (.slice (some ⟨b,off,none⟩) (es.length+es2.length) cap) (es.length+es2.length) (g.tk r) (g.own r) (g.more b (off+(es.length+es2.length)*Ho)) (w.setRow b new.toArray) (some b)
             ⟨rfl,rfl,rfl,by simp_all⟩ (fun k _ Fi=>setRow_other w b k _ (fun e=>Fi (by rw[e]))) (fun b' e=>by simp_all) (fun _ _ h=>.inl h)
             (fun b' o hs=>hs.elim .inl (fun hs=>.inr ⟨by simp_all,.inr ⟨hl,by simp_all⟩⟩))
             (fun b' o e hs=>by
              cases e
              refine⟨?_,fun es ck he=>by simp_all⟩;rw[FS Et,FS e4];simp_all) (fun b' _ e=>by
              simp_all) aa1 (fun _=>⟨rfl,by omega,fun e=>(by simp_all),fun e=>by omega⟩) (fun hg HP=>by
              obtain⟨u1,u2,u3,u4⟩:=Bi g r (.slice (some ⟨b,off,none⟩) (es.length+es2.length) cap) (es.length+es2.length) (g.tk r) (g.own r) (g.more b (off+(es.length+es2.length)*Ho));exact⟨u3.trans t1,u2,_,cap,u1,  .inr ⟨Lf,b,E,_,off,rfl,u4.trans e3,⟨fz,Et,efz.imp id fun h=>by simp_all⟩,by omega,fun o ho=>by
               rcases ho with ho | ⟨_,ho⟩
               all_goals grind⟩⟩)
            have DS:=A5.slice_off (g:=g.upd r (.slice (some ⟨b,off,none⟩) (es.length+es2.length) cap) (es.length+es2.length) (g.tk r) (g.own r) (g.more b (off+(es.length+es2.length)*Ho))) (U:=used (AJ h r (.tok Ho (es.length+es2.length)))) (cap:=cap) (es:=es++es2) Et Hy (by simp_all) (by
             rw[As,show new.toArray.toList=new from rfl,p2];exact GH.mono k2.keeps (fun _ h=>h) (fun _ h=>h.elim)) (fun o ho=>.inr ⟨rfl,by simp_all⟩)
            rw[As]at DS;exact⟨_,_,_,_,_,Cm,hk,k1,k2,.tok _ r Ho _ _ DS Hy (by unfold used;rw[AX];simp) (by simp[Gh.upd,t1]) (by simp[Gh.upd]) (fun _=>by simp[Gh.upd])⟩
         .have jR:cap<es.length+es2.length:=by omega
          have ha:a=none->cap=0:=by
           rintro rfl
           rcases a3 with ⟨e1,_⟩ | ⟨_,b,_,_,_,e2,_⟩
           .obtain⟨p1,p2,a',c',p3,p4⟩:=o1<;>grind
           simp_all
          obtain⟨nc,rest,r1,r2,r3⟩:=HH hT w (ty:=ty) ht FM hz (by rw[<-TP];exact o1) rfl ha ⟨m1,m2,a2,c2,rfl,m4⟩ rfl aa0 jR q3 q4;have Et:=GX w.drew (.cells (olds++news++rest).toArray e (0,0)) (b:=w.heap.size) rfl
          obtain⟨k1,k2⟩:=hI.upd r (.tok Ho (es.length+es2.length)) (.slice (some ⟨w.heap.size,0,none⟩) (es.length+es2.length) nc) (es.length+es2.length) (g.tk r) (some w.heap.size) (g.more w.heap.size ((es.length+es2.length)*Ho))
           (w.drew.alloc (.cells (olds++news++rest).toArray e (0,0))) none
           ⟨rfl,rfl,rfl,by simp_all⟩ (fun k hk' _=>by rw[heap_alloc_old _ _ (by exact hk')];rfl) (fun b' e=>by cases e) (fun _ _ h=>.inl h)
           (fun b' o hs=>hs.elim .inl (fun hs=>.inr ⟨by simp_all,.inl aa0⟩))
           (fun b' o e=>by cases e) (fun b' _ e=>by simp_all) aa1 (fun _=>⟨rfl,by omega,fun e=>(by simp_all),fun e=>by omega⟩) (fun hg HP=>by
            obtain⟨u1,u2,u3,u4⟩:=Bi g r (.slice (some ⟨w.heap.size,0,none⟩) (es.length+es2.length) nc) (es.length+es2.length) (g.tk r) (some w.heap.size) (g.more w.heap.size ((es.length+es2.length)*Ho));exact⟨u3.trans t1,u2,_,nc,u1,.inr ⟨r2,w.heap.size,e,_,0,rfl,u4,.of Et,by simp_all,fun o ho=>by
             rcases ho with ho | ⟨_,ho⟩
             .have:=hI.slt _ _ ho;omega
             .omega⟩⟩)
          have DS:=A5.slice_row (g:=g.upd r (.slice (some ⟨w.heap.size,0,none⟩) (es.length+es2.length) nc) (es.length+es2.length) (g.tk r) (some w.heap.size) (g.more w.heap.size ((es.length+es2.length)*Ho))) (U:=used (AJ h r (.tok Ho (es.length+es2.length)))) (cap:=nc) (es:=es++es2) Et Hy (by simp_all) (by
           rw[As,show(olds++news++rest).toArray.toList=olds++news++rest from rfl,MS (by rw[As,o1.1,m1,TP,JA])];exact GH.mono k2.keeps (fun _ h=>h) (fun _ h=>h.elim)) (fun o ho=>.inr ⟨rfl,by simp_all⟩)
          rw[As]at DS;exact⟨_,_,_,_,_,r1,hk,k1,k2,.tok _ r Ho _ _ DS Hy (by grind [used,AX]) (by grind [Gh.upd]) (by simp[Gh.upd]) (fun _=>by simp[Gh.upd])⟩
      simp_all
     simp_all
    .rename_i r n;have ho:=hI.objs r;split at hk
     .rename_i sz es e0;split at hk
      .rename_i TP;obtain TP:=AT TP;obtain⟨⟨q1,q2,q3,q4⟩,hk⟩:=hk;rw[TP]at q1;obtain⟨news,n1,n2⟩:=h6 (FC q1);obtain⟨m1,m2,a2,c2,rfl,m4⟩:=n1;obtain⟨hv,olds,o1,o2⟩:=Uq hI e0 hs q2.symm;have Lq:=ho;rw[e0]at ho;obtain⟨t1,l1,al,a3⟩:=ho;have hl:(h r).live:=by rw[e0];trivial
       subst hv;have Hy:∀c∈es++es2,c.length=sz:=fun c hc=>(Bz.1 hc).elim (al c) (fun h=>(FC q1 c h).trans TP.symm);have GH:=o2.app n2;rw[<-Eu]at GH;obtain⟨a,cap,hρ,ct,ha⟩:∃a cap,g.ρ r=.slice a es.length cap/\es.length<=cap/\(a=none->cap=0):=by
        grind
       by_cases hm:es2.length=0
       .obtain rfl:=Az hm;rw[e0]at Lq
        obtain⟨k1,k2⟩:=hI.upd r (.arr sz (es++[])) (g.ρ r) (g.ln r) (g.tk r) (g.own r) g.S w none ⟨rfl,rfl,rfl,Aq _⟩ (fun _ _ _=>rfl) (fun b e=>by cases e) (fun _ _ h=>h) (fun _ _ h=>.inl h) (fun b o e=>by cases e)
         (fun b _ e=>⟨(hI.loc r b hl e).1,.inl ⟨hl,e⟩⟩) aa1 (fun _=>⟨rfl,Aq _,fun _=>rfl,fun _=>rfl⟩) (fun hg HP=>by
          obtain⟨u1,u2,u3,u4⟩:=Bi g r (g.ρ r) (g.ln r) (g.tk r) (g.own r) g.S;rw[BC];exact Lq.same HP (fun i hi=>Do aa1 i hi) hg u1 u2 u3 u4 (fun b _ _=>⟨rfl,fun _ h=>h⟩))
        refine⟨g.ρ r,w,_,_,_,?_,hk,k1,k2,?_⟩
        .rw[hρ];exact It hT w ht FM a a2 es.length cap c2 ct
        grind [A5.le]
       .by_cases Lf:es.length+es2.length<=cap
        .rcases a3 with ⟨rfl,e2,e3⟩ | ⟨b,MU,E,D1,e1,e2,e3,e4,e5,e6,e7⟩
         .grind
         .rw[e1]at hρ;simp only[Value.slice.injEq,true_and]at hρ;obtain⟨rfl,rfl⟩:=hρ;rcases m4 with h | ⟨ba,rfl,IB⟩
          .omega
          .obtain⟨i,z,i1,i2,i3,i4,i5⟩:=Hs hT FM;have aI:(es.length+es2.length)*sz<=MU*sz:=By _ Lf;have zY:news.length=es2.length*sz:=by simp_all
           have qZ:i.size=sz:=i3.trans TP.symm;have Cm:=PW (P:=P) t ty e i (hT.slice ht) i1 b es.length MU D1 e4 ba es2.length c2 news (by simp_all) IB m2 Lf (by grind);rw[qZ]at Cm;have EP:∀j u,olds[j]?=some u->w.cell? ⟨b,j,none⟩=some u:=by
            obtain⟨p1,p2,a',c',p3,p4⟩:=o1<;>grind [Addr.add_lit]
           obtain⟨p1,p2,p3⟩:=lx e4 e5 e3 Lf zY o1.1 EP;generalize hnewd:D1.toList.take (es.length*sz)++news++D1.toList.drop (es.length*sz+news.length)=new at Cm p1 p2 p3;have Et:=setRow_heap w b D1 new.toArray E (0,0) e4;have uB:=(hI.loc r b hl e2).1
           obtain⟨k1,k2⟩:=hI.upd r (.arr sz (es++es2)) (.slice (some ⟨b,0,none⟩) (es.length+es2.length) MU) (es.length+es2.length) (g.tk r) (g.own r) g.S (w.setRow b new.toArray) (some b)
            ⟨rfl,rfl,rfl,by simp_all⟩ (fun k _ Fi=>setRow_other w b k _ (fun e=>Fi (by rw[e]))) (fun b' e=>by simp_all) (fun _ _ h=>h) (fun _ _ h=>.inl h)
            (fun b' o e hs=>by simp_all) (fun b' _ e=>by
             simp_all) aa1 (fun _=>⟨rfl,by omega,fun e=>(by simp_all),fun e=>by omega⟩) (fun hg HP=>by
             obtain⟨u1,u2,u3,u4⟩:=Bi g r (.slice (some ⟨b,0,none⟩) (es.length+es2.length) MU) (es.length+es2.length) (g.tk r) (g.own r) g.S;refine⟨u3.trans t1,by simp_all,Hy,.inr ⟨b,MU,E,_,by simp_all,u4.trans e2,by simp_all,Et,by omega,?_,e7⟩⟩;rw[As,show new.toArray.toList=new from rfl,p2];exact GH.mono HP (fun _ h=>h) (fun _ h=>h.elim))
           rw[e1];exact⟨_,_,_,_,_,Cm,hk,k1,k2,.msl _ r _ _ _ (by unfold used;rw[AX];simp) (by simp[Gh.upd,t1]) (by simp[Gh.upd]) (.inr ⟨_,rfl⟩) (fun _=>by simp[Gh.upd])⟩
        .have jR:cap<es.length+es2.length:=by omega
         obtain⟨nc,rest,r1,r2,r3⟩:=HH hT w (ty:=ty) ht FM hz (by rw[<-TP];exact o1) hρ ha ⟨m1,m2,a2,c2,rfl,m4⟩ rfl aa0 jR q3 q4;have Et:=GX w.drew (.cells (olds++news++rest).toArray e (0,0)) (b:=w.heap.size) rfl
         obtain⟨k1,k2⟩:=hI.upd r (.arr sz (es++es2)) (.slice (some ⟨w.heap.size,0,none⟩) (es.length+es2.length) nc) (es.length+es2.length) (g.tk r) (some w.heap.size) g.S
          (w.drew.alloc (.cells (olds++news++rest).toArray e (0,0))) none
          ⟨rfl,rfl,rfl,by simp_all⟩ (fun k hk' _=>by rw[heap_alloc_old _ _ (by exact hk')];rfl) (fun b' e=>by cases e) (fun _ _ h=>h) (fun _ _ h=>.inl h)
          (fun b' o e=>by cases e) (fun b' _ e=>by simp_all) aa1 (fun _=>⟨rfl,by omega,fun e=>(by simp_all),fun e=>by omega⟩) (fun hg HP=>by
           obtain⟨u1,u2,u3,u4⟩:=Bi g r (.slice (some ⟨w.heap.size,0,none⟩) (es.length+es2.length) nc) (es.length+es2.length) (g.tk r) (some w.heap.size) g.S;refine⟨u3.trans t1,by simp_all,Hy,.inr ⟨w.heap.size,nc,e,_,by simp_all,u4,by simp_all,Et,by simp_all,?_,fun o ho=>by have:=hI.slt _ _ ho;omega⟩⟩;rw[As,show(olds++news++rest).toArray.toList=olds++news++rest from rfl,MS (by rw[As,o1.1,m1,TP,JA])];exact GH.mono HP (fun _ h=>h) (fun _ h=>h.elim))
         exact⟨_,_,_,_,_,r1,hk,k1,k2,.msl _ r _ _ _ (by grind [used,AX]) (by grind [Gh.upd]) (by simp[Gh.upd]) (.inr ⟨_,rfl⟩) (fun _=>by simp[Gh.upd])⟩
      simp_all
     simp_all
    simp_all
 simp_all
theorem dX(hT:BY P cx.T){d:Option Nat}{s t:Nat}{x:AV}(hx:A5 g w (used h) x vx)(hk:aa cx d h s t x K):Nk P w0 g0 h0 h g w (convert s t vx) K:=by
 unfold aa at hk;split at hk
 .rename_i e b hs ht;split at hk
  .rename_i d he;generalize JW cx d=d1 at hk;split at hk
   .rename_i hd;obtain rfl:=hx.v_eq;have Cm:=run_bytes_of_string (P:=P) w s t e b (hT.string hs) (hT.slice ht) (hT.int he);have NC:b.size<=grownCap w b.size 0 e:=grownCap_ge w b.size 0 e;generalize grownCap w b.size 0 e=cap at Cm NC;have Cy:(KB b).length=b.size:=by
     simp_all
    have zw:b.data.toList.length=b.size:=by simp_all
    have cD:(bytesRow b cap).size=cap:=by
     show(b.data.map _++Array.replicate _ _).size=cap;simp_all
    have rx:(bytesRow b cap).toList.take ((KB b).length*1)=b.data.toList.map fun c=>Value.int .u8 c.toNat:=by
     show(b.data.map _++Array.replicate _ _).toList.take _=_;simp_all
    have hfl:(KB b).flatten=(b.data.toList.map fun c=>Value.int .u8 c.toNat).map AV.v:=by
     rw[Cf]
     have:∀l:List UInt8,(l.map fun c=>[AV.v (.int .u8 c.toNat)]).flatten=l.map (AV.v ∘ fun c=>Value.int .u8 c.toNat):=fun l=>by
      induction l<;>simp_all
     simp_all
    have Wz:∀l:List UInt8,GN ((l.map fun c=>Value.int .u8 c.toNat).map AV.v)=true:=fun l=>by
     induction l with
     |nil=>rfl
     |cons c l ih=>exact ih
    have hr:B2 g w EZ (KB b).flatten ((bytesRow b cap).toList.take ((KB b).length*1)):=by
     grind [B2.vals]
    have hl:∀cs∈KB b,cs.length=1:=fun cs hc=>by grind
    generalize bytesRow b cap=vs at Cm cD hr;rw[<-Cy]at Cm NC;generalize KB b=es at *
    have Et:(w.drew.alloc (.cells vs e (vs.size,vs.size+1))).heap[w.heap.size]?=some (.cells vs e (vs.size,vs.size+1)):=GX w.drew _ rfl
    have zC:=hI.upd d1 (.tok 1 es.length) (.slice (some ⟨w.heap.size,0,none⟩) es.length cap) es.length true (some w.heap.size) (g.more w.heap.size (es.length*1)) (w.drew.alloc (.cells vs e (vs.size,vs.size+1))) none
     ⟨rfl,rfl,rfl,by simp_all⟩ (fun k hk' _=>by rw[heap_alloc_old _ _ (by exact hk')];rfl) (fun b e=>by cases e) (fun _ _ h=>.inl h)
     (fun b o hb=>by
      rcases hb with hb | ⟨rfl,_⟩<;>simp_all) (fun b o e=>by cases e)
     (fun b _ e=>by simp_all) aa1 (fun hu=>absurd hd hu) (fun hg HP=>by
      obtain⟨u1,u2,u3,u4⟩:=Bi g d1 (.slice (some ⟨w.heap.size,0,none⟩) es.length cap) es.length true (some w.heap.size) (g.more w.heap.size (es.length*1));exact⟨u3,u2,_,cap,u1,.inr ⟨NC,w.heap.size,e,vs,0,rfl,u4,⟨_,Et,.inr (Aq _)⟩,by omega,fun o ho=>by
       rcases ho with ho | ⟨_,ho⟩
       .have:=hI.slt _ _ ho;omega
       .omega⟩⟩)
    obtain⟨k1,k2⟩:=zC;refine⟨_,_,_,_,_,Cm,hk,k1,k2,.tok _ d1 1 es _ (A5.slice_row Et hl NC (hr.mono k2.keeps (fun _ h=>h) (fun _ h=>h.elim)) (fun o ho=>.inr ⟨rfl,ho⟩)) hl (by grind [used,AX]) ?_ ?_ ?_⟩<;>simp[Gh.upd]
   simp_all
  simp_all
 grind [Bp.does,XU]
end
end Go.Eng
