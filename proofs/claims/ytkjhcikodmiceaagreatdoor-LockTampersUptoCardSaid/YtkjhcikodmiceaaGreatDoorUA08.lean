/- Lemmas 8. -/
import Derived.Test.YtkjhcikodmiceaaGreatDoorUA07
import Derived.Laws.IdiomStrings
namespace Go.Eng
variable {DD:Array Value}{E:TypeId}{vx:Value}{olds:List Value}{K:HK}{es:List (List AV)}{x:Value}{cx:Cx}{α:Type}{U:Nat->Prop}{e:Nat}{T:FY}{g:Gh}(n:Nat)
theorem L3{α:Type}:∀(cs:List α) (o:Nat) (vs:List α),o+vs.length<=cs.length->over cs o vs=cs.take o++vs++cs.drop (o+vs.length)
 | [],o,vs,h=>by
  simp at h;obtain⟨rfl,rfl⟩:=h
  rfl
 |c::cs,o+1,vs,h=>by
  rw[over,L3 cs o vs (by grind)]
  grind
 |c::cs,0,[],h=>by simp[over]
 |c::cs,0,v::vs,h=>by
  rw[over,L3 cs 0 vs (by simp_all)];simp
theorem Uw(cs:List α)(o n:Nat)(vs:List α)(h:o+vs.length<=n)(hn:n<=cs.length):(over cs o vs).take n=over (cs.take n) o vs:=by
 apply B7
 grind [FW]
theorem KZ{n:Nat}:∀{es:List (List α)},(∀c∈es,c.length=n)->∀{i:Nat} {c:List α},es[i]?=some c->∀(o:Nat) (vs:List α),o+vs.length<=n ->
  (es.set i (over c o vs)).flatten=over es.flatten (i*n+o) vs
 | [],_,i,c,h,_,_,_=>by simp_all
 |d::es,hl,i,c,h,o,vs,Il=>by
  have hd:=hl d (Ad ..);have hfl:=CH (es:=d::es) (n:=n) hl;have Ez:=(AZ.1 h).1;have wK:i*n+o+vs.length<=(d::es).flatten.length:=by
   rw[hfl]
   have:=Bq n (show i+1<=(d::es).length from Ez)
   grind
  have hcl:=hl c (Aq h);apply B7;intro j;rw[FW _ _ _ _ wK];have MS:∀e∈(d::es).set i (over c o vs),e.length=n:=fun e he=>by
   rcases Oy he with he | rfl
   .grind
   .rw[Fq];exact hcl
  by_cases hn:n=0
  .subst hn;have h1:=CH MS;simp_all
  .have hdm:j=j / n*n+j % n:=by rw[Nat.mul_comm];exact(Nat.div_add_mod j n).symm
   have rI:j % n<n:=Nat.mod_lt _ ch
   by_cases hj:j / n<(d::es).length
   .have g1:(d::es)[j / n]?=some ((d::es)[j / n]):=AK hj;have g2:((d::es).set i (over c o vs))[j / n]?=some (if i=j / n then over c o vs else(d::es)[j / n]):=by
     grind
    have f1:=EJ hl g1 rI;have f2:=EJ MS g2 rI;rw[<-hdm]at f1 f2;rw[f1,f2];split
    .rename_i e;rw[e]at h;rw[g1]at h;cases h;rw[FW _ _ _ _ ch];have e2:i*n+o<=j↔o<=j % n:=by rw[e];omega
     have e3:j<i*n+o+vs.length↔j % n<o+vs.length:=by rw[e];omega
     simp only[e2,e3];split
     .congr 1;rw[e];omega
     .rfl
    .rename_i e
     have:¬(i*n+o<=j/\j<i*n+o+vs.length):=by
      rintro⟨q1,q2⟩
      apply e;have a1:i*n<=j:=by omega
      have a2:j<(i+1)*n:=by grind
      have:=(Nat.le_div_iff_mul_le ch).2 a1
      have:=(Nat.div_lt_iff_lt_mul ch).2 a2
      omega
     grind
   .have rv:(d::es).length*n<=j:=by
     have:=Nat.not_lt.1 hj
     have:=(Nat.le_div_iff_mul_le ch).1 this
     omega
    have:¬(i*n+o<=j/\j<i*n+o+vs.length):=by omega
    rw[AO this,Kr (by rw[CH MS,FE];exact rv),Kr ch]
theorem On{P:Program}(hT:BQ P T)(w:World){t b off:Nat}(hd:(T t).d≠.other)(hs:x.cells.toList.length=(T t).size)(h1:∀v∈x.cells.toList,v.oneCell'=true)(hb:w.heap[b]?=some (.cells DD E (0,0)))(Il:off+x.cells.toList.length<=DD.size) :
  (Instr.storeAt t (.pointer (some ⟨b,off,none⟩)) x).run P w=.ok () (w.setRow b (over DD.toList off x.cells.toList).toArray):=by
 have HF:=run_storeCells_at P b off E x.cells.toList 0 DD w hb ch h1;simp only[GT]at HF;have cA : x.cells.size=(T t).size:=by omega
 rw[L3 _ _ _ ch];simp only[Instr.storeAt,Sem.run_bind,Instr.sureAddr,Sem.run_pure,Result.andThen_ok,storeVar,hT.size w hd,cA,ne_eq,not_true_eq_false,if_false];exact HF
section
variable {P:Program}{w0:World}{g0:Gh}{h0 h:Nat->HO}{g:Gh}{w:World}(hI:Cm w0 g0 h0 h g w)
include hI
theorem bI{d:Nat}(hd:h d=.free)(h1:h 1001=.free)(hn:d≠1001){vs:Array Value}(hv:vs=#[.pointer none,.slice none 0 0]) :
  ∃g',Cm w0 g0 h0 (Az (Az h 1001 (.bbf 0)) d (.bld (.slice (.id 1001 1) []))) g' (w.alloc (.cells vs Wi (0,0)))/\Le h g w (Az (Az h 1001 (.bbf 0)) d (.bld (.slice (.id 1001 1) []))) g' (w.alloc (.cells vs Wi (0,0))) /\
   AT g' (w.alloc (.cells vs Wi (0,0))) (Aw (Az (Az h 1001 (.bbf 0)) d (.bld (.slice (.id 1001 1) [])))) (.ref d 0) (.pointer (some ⟨w.heap.size,0,none⟩)):=by
 obtain⟨k1,k2⟩:=hI.upd 1001 (.bbf 0) (.slice none 0 0) 0 true none g.S w none ⟨rfl,rfl,rfl,Ai _⟩ (fun _ _ _=>rfl) (fun b e=>by cases e) (fun _ _ h=>h) (fun _ _ h=>.inl h) (fun b o e=>by cases e)
  (fun b _ e=>by cases e) B0 (fun hu=>absurd h1 hu) (fun _ _=>⟨by simp[Gh.upd],by simp[Gh.upd],.inl ⟨rfl,by simp[Gh.upd],by simp[Gh.upd]⟩⟩)
 obtain⟨m1,m2⟩:=k1.newOwn (d:=d) (by grind [BB]) (.bld (.slice (.id 1001 1) [])) (.cells vs Wi (0,0)) (.pointer (some ⟨w.heap.size,0,none⟩)) 0 false w ⟨rfl,rfl,rfl,rfl⟩ B0
  (fun _ _=>by
   subst hv;refine⟨by simp[Gh.upd],w.heap.size,.pointer none,.slice none 0 0,by simp[Gh.upd],by simp[Gh.upd],heap_alloc_new w _,.inl rfl,?_,fun o hs=>?_⟩
   .refine .tok _ 1001 1 [] _ (.snil _ _ _) B0 ?_ ?_ (Ar _) (fun _=>?_)
    .grind [Aw,BB,AM]
    .simp[Gh.upd,Ne.symm hn]
    .simp[Gh.upd,Ne.symm hn]
   .have:=hI.slt _ _ hs;omega)
 exact⟨_,m1,k2.trans m2,.ref _ d 0 w.heap.size (by grind [Aw,AM]) (by simp[Gh.upd]) (by simp[Gh.upd])⟩
theorem bA(hT:BQ P T){d:Option Nat}{e:Nat}(hk:QS T d h e K):MD P w0 g0 h0 h g w (Instr.alloc e true (.tuple #[])) K:=by
 unfold QS at hk;split at hk
 .simp_all
 .split at hk
  .rename_i hd;split at hk
   .simp_all
   .rename_i DT;split at hk
    .rename_i he;obtain rfl:=AL he;split at hk
     .rename_i h1 hn hz;obtain⟨z,z1,z2,_⟩:=LH hT (w:=w) DT;have hv:z.cells=#[.pointer none,.slice none 0 0]:=by grind
      obtain⟨g',k1,k2,k3⟩:=bI hI hd h1 (fun e=>by simp_all) hv;refine⟨_,_,g',_,_,?_,hk,k1,k2,k3⟩;simp[Instr.alloc,z1,newVar,newRow]
     simp_all
    split at hk
    .rename_i ha;obtain⟨z,z1,z2,_⟩:=LH hT (w:=w) DT;have hr:BR g w (Aw h) ((T e).zc.map .v) z.cells.toList:=by grind [BR.vals]
     obtain⟨g',k1,k2,k3⟩:=PX hI hd (vs:=z.cells) e hr;refine⟨_,_,g',_,_,?_,hk,k1,k2,k3⟩;simp[Instr.alloc,z1,newVar,newRow]
    simp_all
  simp_all
theorem Ot{cs:List AV}{vs:List Value}(hr:BR g w (Aw h) cs vs):BR g w ES (cs.map (str h)) vs:=by
 refine⟨by rw[A2];exact hr.1,hr.2.1,fun i av x h1 h2=>?_⟩;rw[BC,B4]at h1;obtain⟨a,a1,rfl⟩:=h1;exact(hr.2.2 i a x a1 h2).str hI.objs
theorem jP{d:Option Nat}{e:Nat}{x:AV}(hx:AT g w (Aw h) x vx)(hk:bJ cx d h e x K):MD P w0 g0 h0 h g w (Instr.box e vx) K:=by
 unfold bJ at hk;split at hk
 .simp_all
 .split at hk
  .rename_i hd;split at hk
   .simp_all
   .obtain⟨cs,hk,hn,hr⟩:=LL hx hk;split at hk
    .obtain⟨g',k1,k2,k3⟩:=gZ hI hd (vs:=vx.cells) e (Ot hI hr);exact⟨_,_,g',_,_,rfl,hk,k1,k2,k3⟩
    .obtain⟨g',k1,k2,k3⟩:=PX hI hd (vs:=vx.cells) e hr;exact⟨_,_,g',_,_,rfl,hk,k1,k2,k3⟩
  simp_all
theorem Cm.write{r b:Nat}(hl:(h r).live)(ho:g.own r=some b)(o' : HO)(hb:w.heap[b]?=some (.cells DD E (0,0)))(new:Array Value)(n:Nat)(ow:Option Nat)(S' : Nat->Nat->Prop)(DT:o'≠.free)(hn:n=g.ln r)(Tr:∀b',ow=some b'->b'=b)(hS:∀b o,g.S b o->S' b o)(vU:∀b' o,S' b' o->g.S b' o\/b'=b)(zz:∀o,g.S b o->new[o]?=DD[o]?)(KH:I4 g (g.upd r (g.ρ r) n (g.tk r) ow S') (Aw h)->En g w (g.upd r (g.ρ r) n (g.tk r) ow S') (w.setRow b new)->(w.setRow b new).heap[b]?=some (.cells new E (0,0)) ->
   Do (g.upd r (g.ρ r) n (g.tk r) ow S') (w.setRow b new) (Aw (Az h r o')) r o') :
  Cm w0 g0 h0 (Az h r o') (g.upd r (g.ρ r) n (g.tk r) ow S') (w.setRow b new)/\Le h g w (Az h r o') (g.upd r (g.ρ r) n (g.tk r) ow S') (w.setRow b new):=by
 have D8:=setRow_heap w b DD new E (0,0) hb;have Ez:=(hI.loc r b hl ho).1
 refine hI.upd r o' _ _ _ _ _ _ (some b) ⟨rfl,rfl,rfl,by simp_all⟩ (fun k hk DT=>setRow_other w b k new (fun e=>DT (by rw[e]))) (fun b' e=>by simp_all) hS (fun b' o hs=>?_)
  (fun b' o e hs=>?_) (fun b' _ e=>?_) DT (fun _=>⟨rfl,by omega,fun _=>rfl,fun _=>rfl⟩) (fun hg hk=>KH hg hk D8)
 all_goals grind [Fm]
theorem dQ(hT:BQ P cx.T){t:Nat}{p x:AV}{vp:Value}(hp:AT g w (Aw h) p vp)(hx:AT g w (Aw h) x vx)(hk:Nb cx h t p x K) :
  d9 P w0 g0 h0 h g w (Instr.storeAt t vp vx) K:=by
 unfold Nb at hk;split at hk
 .simp_all
 .rename_i hd;have h5:=LL hx hk
  clear hk
  obtain⟨vs,hk,hn,hr⟩:=h5;have B5:vx.cells.toList.length=vs.length:=hr.1;split at hk
  .rename_i r off;have ho:=hI.objs r;split at hk
   .rename_i cs e;obtain⟨Il,hk⟩:=hk;rw[e]at ho;obtain⟨t0,b,E,DD,a1,a2,a3,a4,a5⟩:=ho;cases hp with
    |ref _ _ _ b' hu ht mM=>
     rw[a2]at mM;cases mM;have hcs:DD.toList.length=cs.length:=a4.1;have Ca:=On hT w (t:=t) (off:=off) (x:=vx) hd ch hr.2.1 a3 (by simp_all);have hl:(h r).live:=by rw[e];trivial
     have oE:=a4.over hr off Il;split at hk
     .obtain⟨k1,k2⟩:=hI.write hl a1 (.ro ((over cs off vs).map (str h))) a3 (over DD.toList off vx.cells.toList).toArray (g.ln r) none (g.more b cs.length) B0 rfl (fun _ e=>by cases e) (fun _ _ h=>.inl h)
       (fun b' o hs=>hs.elim .inl (fun hs=>.inr hs.1)) (fun o hs=>absurd hs (a5 o)) (fun hg HJ D8=>by
        obtain⟨u1,u2,u3,u4⟩:=Ba g r (g.ρ r) (g.ln r) (g.tk r) none (g.more b cs.length);refine⟨u3.trans t0,b,u1.trans a2,AT.cptr_row D8 ?_ (fun o ho=>.inr ⟨rfl,?_⟩)⟩
        .exact(Ot hI oE).mono HJ (fun _ h=>h) (fun _ h=>h.elim)
        grind [Fq])
      exact⟨_,_,_,Ca,hk,k1,k2⟩
     .obtain⟨k1,k2⟩:=hI.write hl a1 (.cells (over cs off vs)) a3 (over DD.toList off vx.cells.toList).toArray (g.ln r) (g.own r) g.S B0 rfl (fun b' e=>by simp_all) (fun _ _ h=>h)
       (fun b' o hs=>.inl hs) (fun o hs=>absurd hs (a5 o)) (fun hg HJ D8=>by
        obtain⟨u1,u2,u3,u4⟩:=Ba g r (g.ρ r) (g.ln r) (g.tk r) (g.own r) g.S;exact⟨u3.trans t0,b,E,_,u4.trans a1,u1.trans a2,D8,oE.mono HJ (fun i hi=>CW B0 i hi) hg,a5⟩)
      exact⟨_,_,_,Ca,hk,k1,k2⟩
   simp_all
  .rename_i r n sz i off;have ho:=hI.objs r;split at hk
   .rename_i GW es e;rw[e]at ho;split at hk
    .rename_i hz;obtain rfl:=AL hz;obtain⟨hnl,cs,hi,Il,hk⟩:=hk;obtain⟨t1,l1,al,a1⟩:=ho;have Ez:=(AZ.1 hi).1;rcases a1 with ⟨rfl,_⟩ | ⟨b,cap,E,DD,e1,e2,e3,e4,e5,e6,e7⟩
     .simp_all
     .cases hp with
      |eref _ _ _ _ _ _ b' Md hu ht au mM=>
       have mM:=mM (hnl.trans l1.symm);rw[e1]at mM;simp only[Value.slice.injEq,Cn,Addr.mk.injEq]at mM;obtain⟨⟨rfl,_,_⟩,_,_⟩:=mM;have hcl:=al cs (Aq hi);have Vo:i*sz+sz<=es.length*sz:=by
        have:=Bq sz (show i+1<=es.length from Ez)
        grind
       have mH:es.length*sz<=cap*sz:=Bq sz e3;have Ca:=On hT w (t:=t) (off:=i*sz+off) (x:=vx) hd ch hr.2.1 e4 ch;have hl:(h r).live:=by rw[e];trivial
       have rc : ∀c∈es.set i (over cs off (vs.map (str h))),c.length=sz:=fun c hc=>by
        rcases Oy hc with hc | rfl
        .simp_all
        .rw[Fq];exact hcl
       have hfl:=KZ al hi off (vs.map (str h)) (by simp_all);have kH:DD.toList.length=cap*sz:=by omega
       have ud:((over DD.toList (i*sz+off) vx.cells.toList).toArray.toList.take ((es.set i (over cs off (vs.map (str h)))).length*sz))=over (DD.toList.take (es.length*sz)) (i*sz+off) vx.cells.toList:=by
        rw[FE];exact Uw _ _ _ _ ch ch
       have oE:BR g w ES (es.set i (over cs off (vs.map (str h)))).flatten ((over DD.toList (i*sz+off) vx.cells.toList).toArray.toList.take ((es.set i (over cs off (vs.map (str h)))).length*sz)):=by
        rw[ud,hfl];exact e6.over (Ot hI hr) _ (by rw[A2,CH al];omega)
       split at hk
       .rename_i j m;have d7:∃x0,vx.cells.toList=[x0]:=by
         revert B5
         cases vx.cells.toList with
         |nil=>grind
         |cons x0 l=>simp_all
        obtain⟨x0,d7⟩:=d7;have DH:=hr.2.2 0 (.msl j m) x0 rfl (by grind)
        obtain⟨k1,k2⟩:=hI.write hl e2 (.hol sz (es.set i (over cs off [.junk])) i off (.msl j m)) e4 (over DD.toList (i*sz+off) vx.cells.toList).toArray (g.ln r) (g.own r) g.S B0 rfl (fun b' e=>by simp_all) (fun _ _ h=>h)
         (fun b' o hs=>.inl hs) (fun o hs=>absurd hs (e7 o)) (fun hg HJ D8=>by
          obtain⟨u1,u2,u3,u4⟩:=Ba g r (g.ρ r) (g.ln r) (g.tk r) (g.own r) g.S;have Ac2:i*sz+off<es.length*sz:=by grind
          refine⟨u3.trans t1,u2.trans (by simp_all),rc,b,cap,E,_,?_,u4.trans e2,by simp_all,D8,?_,oE.mono HJ (fun _ h=>h) (fun _ h=>h.elim),e7,by simp_all,x0,?_,DH.mono HJ (fun i hi=>CW B0 i hi) hg⟩
          .simp_all
          .simp only[List.size_toArray,Fq,Array.length_toList];exact e5
          .rw[<-CV,d7,FW _ _ _ _ (by grind),A1 ⟨Ai _,by grind⟩,Jl];rfl)
        exact⟨_,_,_,Ca,hk,k1,k2⟩
       .obtain⟨k1,k2⟩:=hI.write hl e2 (.arr sz (es.set i (over cs off (vs.map (str h))))) e4 (over DD.toList (i*sz+off) vx.cells.toList).toArray (g.ln r) (g.own r) g.S B0 rfl (fun b' e=>by simp_all) (fun _ _ h=>h)
         (fun b' o hs=>.inl hs) (fun o hs=>absurd hs (e7 o)) (fun hg HJ D8=>by
          obtain⟨u1,u2,u3,u4⟩:=Ba g r (g.ρ r) (g.ln r) (g.tk r) (g.own r) g.S;refine⟨u3.trans t1,u2.trans (by simp_all),rc,.inr ⟨b,cap,E,_,?_,u4.trans e2,by simp_all,D8,?_,oE.mono HJ (fun _ h=>h) (fun _ h=>h.elim),e7⟩⟩
          all_goals grind [Fq])
        exact⟨_,_,_,Ca,hk,k1,k2⟩
    simp_all
   simp_all
  simp_all
end
theorem dp(c vs:List α)(h:vs.length=c.length):over c 0 vs=vs:=by
 grind [L3]
theorem Hb[Inhabited α](z:List α)(hz:z≠[]):(List.replicate n z).flatten=(List.range (n*z.length)).map fun k=>z[k % z.length]!:=by
 have hl:∀c∈List.replicate n z,c.length=z.length:=fun c hc=>by simp_all
 have YT:0<z.length:=List.length_pos_iff.2 hz;apply B7;intro k
 by_cases hk:k<n*z.length
 all_goals grind [Nat.mul_comm,Nat.div_add_mod,Nat.mod_lt,Nat.div_lt_iff_lt_mul,EJ,CH,List.length_map,List.length_range]
section
variable {P:Program}{w0:World}{g0:Gh}{h0 h:Nat->HO}{g:Gh}{w:World}(hI:Cm w0 g0 h0 h g w)
include hI
theorem WG{n sz:Nat}{t:Nat->AV}{ρ:Operand->Value}(ht:∀x:Operand,AT g w (Aw h) (ev t x) (ρ x)) :
  ∀{ps:List (Nat×Operand)} {es:List (List AV)} {xs:Array Value} {K:List (List AV)->Prop},es.length=n->(∀c∈es,c.length=sz)->BR g w ES es.flatten xs.toList->PL n sz h es t ps K ->
   ∃EZ VY,K EZ/\EZ.length=n/\(∀c∈EZ,c.length=sz)/\BR g w ES EZ.flatten VY.toList/\Instr.fill (fun i=>some (i*sz,sz)) xs (ps.map fun(i,x)=>(i,ρ x))=some VY
 | [],es,xs,K,hn,hl,h,hk=>⟨es,xs,hk,hn,hl,h,rfl⟩
 |(i,x)::ps,es,xs,K,hn,hl,h,hk=>by
  unfold PL at hk;split at hk
  .rename_i hi;have hi:i<n:=DB hi;have h5:=LL (ht x) hk
   clear hk
   obtain⟨Ti,hk,zI,hr⟩:=h5;have Fi:(ρ x).cells.size=sz:=by rw[<-zI];simpa using hr.1
   have X4:=Ot hI hr;obtain⟨c,hc⟩:∃c,es[i]?=some c:=⟨_,AK ch⟩;have hcl:=hl c (Aq hc);have Il:i*sz+sz<=es.flatten.length:=by
    rw[CH hl,hn]
    have:=Bq sz (show i+1<=n from hi)
    grind
   have hfl:=KZ hl hc 0 (Ti.map (str ‹Nat->HO›)) (by simp_all);rw[dp _ _ (by simp_all),GT]at hfl;have D8:=h.over X4 (i*sz) (by simp_all);have kS:xs.size=es.flatten.length:=by have:=h.1;omega
   have e:=MQ (ρ x).cells.toList 0 (i*sz) xs (by simp_all);simp only[GT]at e;rw[<-e,<-hfl]at D8;obtain⟨EZ,VY,k1,k2,k3,k4,k5⟩:=WG ht (es:=es.set i (Ti.map (str _))) (by simp_all) (fun c' wj=>by
    grind) D8 hk
   refine⟨EZ,VY,k1,k2,k3,k4,?_⟩;simp only[Bb,Instr.fill]
   grind [Array.toList_zipIdx]
  simp_all
theorem Q0(hT:BQ P cx.T){d:Option Nat}{ty n:Nat}{t:Nat->AV}{ρ:Operand->Value}(ht:∀x:Operand,AT g w (Aw h) (ev t x) (ρ x)){ps:Array (Nat×Operand)}(hk:HB cx d h ty n t ps.toList K):MD P w0 g0 h0 h g w (Instr.buildSlice ty n (ps.map fun(i,x)=>(i,ρ x))) K:=by
 unfold HB at hk;split at hk
 .rename_i e hs;split at hk
  .rename_i Vp V3;have V3:=AL V3;split at hk
   .simp_all
   .rename_i m hm;split at hk
    .rename_i Il;have Il:=DB Il;have kV:(cx.T e).zc≠[]:=fun e0=>by simp_all
     have tX:∀c∈List.replicate n ((cx.T e).zc.map AV.v),c.length=(cx.T e).size:=fun c hc=>by simp_all
     have rC:BR g w ES (List.replicate n ((cx.T e).zc.map AV.v)).flatten ((Array.range (n*(cx.T e).size)).map fun k=>(cx.T e).zc.toArray[k % (cx.T e).zc.toArray.size]!).toList:=by
      have e1:((Array.range (n*(cx.T e).size)).map fun k=>(cx.T e).zc.toArray[k % (cx.T e).zc.toArray.size]!).toList=(List.replicate n (cx.T e).zc).flatten:=by
       rw[Hb n _ kV];simp_all
      have e2:(List.replicate n ((cx.T e).zc.map AV.v)).flatten=(List.replicate n (cx.T e).zc).flatten.map AV.v:=by
       simp_all
      rw[e1,e2];refine BR.vals ?_;have Gr:∀l:List AV,(∀a∈l,one a=true)->Gd l=true:=by
       intro l
       induction l<;>grind [Gd]
      grind [LI]
     obtain⟨EZ,VY,k1,k2,k3,k4,k5⟩:=WG hI ht (by simp_all) tX rC hk;have kS:VY.size=n*(cx.T e).size:=by
      have:=k4.1
      grind [CH]
     obtain⟨g',av,h',q1,q2,q3,q4⟩:=IZ hI k1 (vs:=VY) (cap:=n) e k3 ch kS (by
      grind [Array.length_toList]) w ⟨rfl,rfl,rfl,rfl⟩
     rw[k2]at q4;refine⟨_,_,g',av,h',?_,q1,q2,q3,q4⟩;obtain⟨z,z1,z2⟩:=UM hT (w:=w) hm;have Fi:=hT.size1 w hm;have e3:(Array.map (fun x:Nat×Operand=>match x with | (i,x)=>(i,ρ x)) ps).toList=ps.toList.map fun(i,x)=>(i,ρ x):=by simp
     have wU:¬(n*(m+1)>2 ^ 24):=by simp_all
     simp only[Instr.buildSlice,Sem.run_bind,run_underlying (hT.slice hs),Result.andThen_ok,Fi,AO wU];rw[e3];rw[hm]at k5
     by_cases h0:n*(m+1)=0
     .have pQ:n=0:=by
       grind
      subst pQ;have er:Array.range 0=#[]:=rfl;simp only[Nat.zero_mul,er,List.map_toArray,HN]at k5;simp only[Nat.zero_mul,if_true,er,List.map_toArray,HN,k5];simp[newRow]
     .rw[z2]at k5;simp only[Array.toArray_toList]at k5;simp only[AO h0,Sem.run_bind,z1,Result.andThen_ok,Sem.run_pure,k5];simp[newRow]
    simp_all
  simp_all
 simp_all
end
theorem Fa{sz:Nat}:∀{es:List (List AV)},BJ sz es->∀c∈es,c.length=sz
 | [],_,c,h=>by cases h
 |d::es,h,c,hc=>by
  rcases AA.1 hc with rfl | hc
  .exact h.1
  .exact Fa h.2 c hc
def Nk(w:World)(x:Value)(n sz:Nat)(news:List Value):Prop:=
 news.length=n*sz/\(∀v∈news,v.oneCell'=true)/\∃(a:Option Addr) (c:Nat),x=.slice a n c/\(n=0\/∃b:Addr,a=some b/\∀j u,news[j]?=some u->w.cell? (b.add j)=some u)
theorem Nk.of_rep{w:World}{sz:Nat}(h:AT g w U (.slice .none es) x)(hl:∀c∈es,c.length=sz) :
  ∃news,Nk w x es.length sz news/\BR g w ES es.flatten news:=by
 cases h with
 |snil _ a cap=>exact⟨[],⟨by simp,by simp,a,cap,rfl,.inl rfl⟩,by simp,by simp,fun i av x h1 h2=>by simp_all⟩
 |slice _ _ b off GW cap val hc Qp CZ DH=>
  have hf:=CH hl;have key:∀j,j<es.length*sz->∃cs,es[j / sz]?=some cs/\es.flatten[j]?=cs[j % sz]?/\j % sz<cs.length/\GW=sz/\j=j / sz*sz+j % sz:=by
   intro j hj
   grind [Nat.pos_of_ne_zero,Nat.div_add_mod,Nat.div_lt_iff_lt_mul,Nat.mod_lt,EJ]
  have wo:∀j,j<es.length*sz->∃av,es.flatten[j]?=some av/\w.cell? ⟨b,off+j,none⟩=some (val (j / sz) (j % sz))/\(val (j / sz) (j % sz)).oneCell'=true/\AT g w ES av (val (j / sz) (j % sz)):=by
   intro j hj;obtain⟨cs,k1,k2,k3,rfl,k5⟩:=key j hj;have og:cs[j % GW]?=some cs[j % GW]:=AK k3;obtain⟨_,c2,c3⟩:=CZ _ _ _ _ k1 og;rw[Nat.add_assoc,<-k5]at c2;exact⟨_,k2.trans og,c2,c3,DH _ _ _ _ k1 og⟩
  refine⟨(List.range (es.length*sz)).map fun j=>val (j / sz) (j % sz),⟨by simp,fun v hv=>?_,some ⟨b,off,none⟩,cap,rfl,.inr ⟨_,rfl,fun j u hu=>?_⟩⟩,by simp_all,fun v hv=>?_,fun i av x h1 h2=>?_⟩
  .grind
  .obtain⟨hj,rfl⟩:=Ty hu;rw[Addr.add_lit];simp_all
  all_goals grind
section
variable {P:Program}{T:FY}(hT:BQ P T)
include hT
theorem FZ{n:Nat}(hs:(T e).size=n+1):∃i z,P.info? e=some i/\i.zero=some z/\i.size=(T e).size/\i.bytes=(T e).bytes/\(T e).zc=z.cells.toList:=by
 rcases hT e with h | h
 .rw[h]at hs;cases hs
 grind [dS,TI.zc_cells]
theorem HT(w:World){t ty k:Nat}(ht:(T t).d=.slice e)(hk:(T e).size=k+1)(a a' : Option Addr)(n cap c:Nat)(hc:n<=cap) :
  (Builtin.append_ #[t,t] ty #[.slice a n cap,.slice a' 0 c]).run P w=.ok (.slice a n cap) w:=by
 have hu:=hT.slice ht;cases a<;>cases a'<;>simp[Builtin.append_,run_underlying hu,hT.size1 w hk,Builtin.lenOf,hc,Builtin.firstCells,loadCells,loadCellsFrom,storeCells]
theorem Hc(w:World){t ty k:Nat}(ht:(T t).d=.slice e)(hk:(T e).size=k+1)(hz:(T e).zc.length=(T e).size){s:Value}{n m cap c:Nat}{news:List Value}{a a' : Option Addr}(hso:Nk w s n (T e).size olds)(hs:s=.slice a n cap)(KG:a=none->cap=0)(hsx:Nk w x m (T e).size news)(hx:x=.slice a' m c)(hm:0<m)(hg:cap<n+m)(hb:(n+m)*(T e).bytes<=140737488355328)(h63:n+m<=9223372036854775807) :
  ∃nc rest,(Builtin.append_ #[t,t] ty #[s,x]).run P w=.ok (.slice (some ⟨w.heap.size,0,none⟩) (n+m) nc) (w.drew.alloc (.cells (olds++news++rest).toArray e (0,0)))/\n+m<=nc /\
   (olds++news++rest).length=nc*(T e).size:=by
 obtain⟨i,z,i1,i2,i3,i4,i5⟩:=FZ hT hk;have hu:=hT.slice ht;obtain⟨n1,n2,a1,c1,n3,n4⟩:=hsx;subst hx;cases n3;rcases n4 with h | ⟨b,rfl,Ga⟩
 .omega
 .have V3:z.cells.size=(T e).size:=by simp_all
  have mG:∀(nc:Nat) (pre:List Value),pre.length=(n+m)*(T e).size->n+m<=nc->(pre++(Builtin.zeroCells z.cells (nc-(n+m))).toList).length=nc*(T e).size:=by
   intro nc pre hp Il;have e1:(Builtin.zeroCells z.cells (nc-(n+m))).toList.length=(nc-(n+m))*(T e).size:=by grind [size_zeroCells]
   rw[Au,e1,hp,<-KO];simp_all
  obtain⟨o1,o2,a2,c2,o3,o4⟩:=hso;subst hs;cases o3;cases a with
  |none=>
   obtain rfl:=KG rfl;have pQ:n=0:=by
    simp_all
   subst pQ;have ho:olds=[]:=AI ch;subst ho;have hr:=run_append_nil (P:=P) w t ty e i z hu i1 i2 b m c news (by simp_all) Ga hm ch (by grind);refine⟨grownCap w m 0 e,(Builtin.zeroCells z.cells (grownCap w m 0 e-m)).toList,?_,by rw[EC];exact grownCap_ge w m 0 e,?_⟩
   .rw[hr,EC]
    congr 3
    simp_all
   .have:=mG (grownCap w m 0 e) news (by simp_all) (by rw[EC];exact grownCap_ge w m 0 e)
    simp_all
  |some b'=>
   have GO:∀j u,olds[j]?=some u->w.cell? (b'.add j)=some u:=by
    grind
   have hr:=run_append_grow (P:=P) w t ty e i z hu i1 i2 b' n cap olds (by simp_all) GO b m c news (by simp_all) Ga hg ch (by rw[i4];exact growslice_fits hg hb);refine⟨grownCap w (n+m) cap e,(Builtin.zeroCells z.cells (grownCap w (n+m) cap e-(n+m))).toList,?_,grownCap_ge w (n+m) cap e,mG _ _ (by grind) (grownCap_ge w (n+m) cap e)⟩;rw[hr]
   congr 3
   simp_all
end
theorem BR.app{w:World}{Ti bs:List AV}{xs ys:List Value}(h:BR g w U Ti xs)(k:BR g w U bs ys):BR g w U (Ti++bs) (xs++ys):=by
 refine⟨by simp[h.1,k.1],fun x hx=>(Bc.1 hx).elim (h.2.1 x) (k.2.1 x),fun i av x h1 h2=>?_⟩
 by_cases hi:i<Ti.length
 .rw[BZ hi]at h1;rw[BZ (by rw[h.1];exact hi)]at h2;exact h.2.2 i av x h1 h2
 .rw[Bp ch]at h1;rw[Bp (by rw[h.1];omega),h.1]at h2;exact k.2.2 _ av x h1 h2
theorem dR(P:Program)(g o:Nat)(t:TypeId)(fz:Nat×Nat)(vs:List Value):∀(i:Nat) (DD:Array Value) (w:World),w.heap[g]?=some (.cells DD t fz)->(fz=(0,0)\/DD.size<=fz.1)->o+i+vs.length<=DD.size->(∀v∈vs,v.oneCell'=true) ->
  (storeCells ⟨g,o,none⟩ vs i).run P w=.ok () (w.setRow g (DD.toList.take (o+i)++vs++DD.toList.drop (o+i+vs.length)).toArray):=by
 induction vs with
 |nil=>
  intro i DD w hg _ _ _;have e:(DD.toList.take (o+i)++[]++DD.toList.drop (o+i+([]:List Value).length)).toArray=DD:=by simp
  rw[e,setRow_self w g DD t fz hg];rfl
 |cons v rest ih=>
  intro i DD w hg hf hl h1;simp only[Dp]at hl;have hi:o+i<DD.size:=by omega
  have ha:(⟨g,o,none⟩:Addr).add i=⟨g,o+i,none⟩:=Addr.add_lit ..;have hc:w.cell? ⟨g,o+i,none⟩=some DD[o+i]:=by grind [World.cell?]
  have hz:w.frozen? ⟨g,o+i,none⟩=false:=by
   grind [World.frozen?]
  have h2:(store ((⟨g,o,none⟩:Addr).add i) v).run P w=.ok () (w.setRow g (DD.setIfInBounds (o+i) v)):=by
   grind [run_store,setCell_eq_setRow]
  have h3:=ih (i+1) (DD.setIfInBounds (o+i) v) (w.setRow g (DD.setIfInBounds (o+i) v)) (setRow_heap w g DD _ t _ hg) (by simp_all) (by grind) fun x hx=>h1 x (Af _ hx);have e:(DD.setIfInBounds (o+i) v).toList.take (o+(i+1))++rest++(DD.setIfInBounds (o+i) v).toList.drop (o+(i+1)+rest.length)=DD.toList.take (o+i)++v::rest++DD.toList.drop (o+i+(v::rest).length):=by
   simpa[Array.toList_setIfInBounds,Nat.add_assoc]using list_seg_step DD.toList (o+i) v rest ch
  rw[storeCells,Sem.run_bind,h2,Result.andThen_ok,h3,setRow_setRow,e]
section
variable {P:Program}{w0:World}{g0:Gh}{h0 h:Nat->HO}{g:Gh}{w:World}(hI:Cm w0 g0 h0 h g w)
include hI
omit hI in
theorem Pl(t ty e:TypeId)(i:TypeInfo)(ht:P.underlying t=some (.slice e))(hi:P.info? e=some i)(g M8 Zz:Nat)(DD:Array Value)(hg:w.heap[g]?=some (.cells DD E (0,0)))(a:Addr)(m c:Nat)(news:List Value)(hl:news.length=m*i.size)(Ga:∀j u,news[j]?=some u->w.cell? (a.add j)=some u)(h1:∀u∈news,u.oneCell'=true)(Kv:M8+m<=Zz)(kL:M8*i.size+news.length<=DD.size) :
  (Builtin.append_ #[t,t] ty #[.slice (some ⟨g,0,none⟩) M8 Zz,.slice (some a) m c]).run P w =
   .ok (.slice (some ⟨g,0,none⟩) (M8+m) Zz) (w.setRow g (DD.toList.take (M8*i.size)++news++DD.toList.drop (M8*i.size+news.length)).toArray):=by
 have hf:=run_firstCells_some (P:=P) w i.size m a m c news hl Ga;have HF:=run_storeCells_at P g (M8*i.size) E news 0 DD w hg ch h1;simp only[GT]at HF;simp[Builtin.append_,run_underlying ht,sizeOf,typeInfo,hi,Builtin.lenOf,Kv,hf,Addr.add_lit,HF]
omit hI in
theorem SJ(t ty e:TypeId)(i:TypeInfo)(ht:P.underlying t=some (.slice e))(hi:P.info? e=some i)(g off M8 Zz:Nat)(DD:Array Value){fz:Nat×Nat}(hg:w.heap[g]?=some (.cells DD E fz))(wB:fz=(0,0)\/DD.size<=fz.1)(a:Addr)(m c:Nat)(news:List Value)(hl:news.length=m*i.size)(Ga:∀j u,news[j]?=some u->w.cell? (a.add j)=some u)(h1:∀u∈news,u.oneCell'=true)(Kv:M8+m<=Zz)(kL:off+M8*i.size+news.length<=DD.size) :
  (Builtin.append_ #[t,t] ty #[.slice (some ⟨g,off,none⟩) M8 Zz,.slice (some a) m c]).run P w =
   .ok (.slice (some ⟨g,off,none⟩) (M8+m) Zz) (w.setRow g (DD.toList.take (off+M8*i.size)++news++DD.toList.drop (off+M8*i.size+news.length)).toArray):=by
 have hf:=run_firstCells_some (P:=P) w i.size m a m c news hl Ga;have HF:=dR P g (off+M8*i.size) E fz news 0 DD w hg wB ch h1;simp only[GT]at HF;simp[Builtin.append_,run_underlying ht,sizeOf,typeInfo,hi,Builtin.lenOf,Kv,hf,Addr.add_lit,HF]
omit hI in
theorem lQ{b off n m sz cap:Nat}{fz:Nat×Nat}{news:List Value}(hb:w.heap[b]?=some (.cells DD E fz))(kH:DD.size=off+cap*sz)(hn:n<=cap)(hm:n+m<=cap)(hnl:news.length=m*sz)(hol:olds.length=n*sz)(GO:∀j u,olds[j]?=some u->w.cell? ⟨b,off+j,none⟩=some u) :
  (DD.toList.take (off+n*sz)++news++DD.toList.drop (off+n*sz+news.length)).length=off+cap*sz /\
  ((DD.toList.take (off+n*sz)++news++DD.toList.drop (off+n*sz+news.length)).drop off).take ((n+m)*sz)=olds++news /\
  ∀o,o<off+n*sz->(DD.toList.take (off+n*sz)++news++DD.toList.drop (off+n*sz+news.length)).toArray[o]?=DD[o]?:=by
 have hcl:DD.toList.length=off+cap*sz:=by omega
 have Vo:(n+m)*sz<=cap*sz:=Bq _ hm;have mH:n*sz<=cap*sz:=Bq _ hn;rw[KO]at Vo;have NX:(DD.toList.take (off+n*sz)).drop off=olds:=by
  apply B7;intro j
  by_cases hj:j<n*sz
  .rw[Ew,Qi ch]
   grind [Fm]
  simp_all
 have ue:(DD.toList.take (off+n*sz)).length=off+n*sz:=by simp_all
 refine⟨?_,?_,fun o ho=>?_⟩
 .grind
 .rw[Jh,List.drop_append_of_le_length ch,NX,<-Jh,Mc (by grind)]
 grind
omit hI in
theorem iM{b n m sz cap:Nat}{news:List Value}(hb:w.heap[b]?=some (.cells DD E (0,0)))(kH:DD.size=cap*sz)(hn:n<=cap)(hm:n+m<=cap)(hnl:news.length=m*sz)(hol:olds.length=n*sz)(GO:∀j u,olds[j]?=some u->w.cell? ⟨b,j,none⟩=some u) :
  (DD.toList.take (n*sz)++news++DD.toList.drop (n*sz+news.length)).length=cap*sz /\
  (DD.toList.take (n*sz)++news++DD.toList.drop (n*sz+news.length)).take ((n+m)*sz)=olds++news /\
  ∀o,o<n*sz->(DD.toList.take (n*sz)++news++DD.toList.drop (n*sz+news.length)).toArray[o]?=DD[o]?:=by
 have hcl:DD.toList.length=cap*sz:=by omega
 have Vo:(n+m)*sz<=cap*sz:=Bq _ hm;have mH:n*sz<=cap*sz:=Bq _ hn;rw[KO]at Vo;have NX:DD.toList.take (n*sz)=olds:=by
  apply B7
  grind [Fm]
 have ue:(DD.toList.take (n*sz)).length=n*sz:=by simp_all
 refine⟨?_,?_,fun o ho=>?_⟩
 all_goals grind [Nat.add_mul]
theorem TP{r n sz:Nat}(he:h r=.arr sz es)(hx:AT g w (Aw h) (.msl r n) x)(hn:n=es.length) :
  x=g.ρ r/\∃news,Nk w x es.length sz news/\BR g w ES es.flatten news:=by
 have ho:=hI.objs r;rw[he]at ho;obtain⟨t1,l1,al,a1⟩:=ho;cases hx with
 |msl _ _ _ a cap hu ht au ha Qq=>
  have e:=Qq (hn.trans l1.symm);refine⟨e,?_⟩;rw[e];rcases a1 with ⟨rfl,e2,e3⟩ | ⟨b,Md,E,vs,e1,e2,e3,e4,e5,e6,e7⟩
  .exact⟨[],⟨by simp,by simp,none,0,e2,.inl rfl⟩,by simp,by simp,fun i av x h1 h2=>by simp_all⟩
  .have kH:vs.toList.length=Md*sz:=by omega
   have Il:es.length*sz<=vs.toList.length:=by rw[kH];exact Bq _ e3
   refine⟨vs.toList.take (es.length*sz),⟨by simp_all,e6.2.1,_,_,e1,.inr ⟨_,rfl,fun j u hj=>?_⟩⟩,e6⟩
   grind [Addr.add_lit,Fm]
theorem bV{sz:Nat}{x:AV}{K:List (List AV)->Prop}(hx:AT g w (Aw h) x vx)(hk:JZ h x K) :
  ∃es,K es/\((∀c∈es,c.length=sz)->∃news,Nk w vx es.length sz news/\BR g w ES es.flatten news):=by
 unfold JZ at hk;split at hk
 .exact⟨_,hk,fun hl=>Nk.of_rep hx.slice_none hl⟩
 .obtain rfl:=hx.v_eq;exact⟨[],hk,fun _=>⟨[],⟨by simp,by simp,none,0,rfl,.inl rfl⟩,by simp,by simp,fun i av x h1 h2=>by simp_all⟩⟩
 .rename_i r n;split at hk
  .rename_i GW es e;obtain⟨hn,hk⟩:=hk;refine⟨es,hk,fun hl=>?_⟩;obtain⟨_,news,n1,n2⟩:=TP hI e hx hn;refine⟨news,?_,n2⟩
   have:news.length=es.length*sz:=by rw[n2.1,CH hl]
   exact⟨this,n1.2.1,n1.2.2⟩
  simp_all
 simp_all
theorem c9{d:Option Nat}{sz:Nat}(hk:Ek cx d h sz [] K) :
  ∃g' av h',K av h'/\Cm w0 g0 h0 h' g' w/\Le h g w h' g' w/\AT g' w (Aw h') av (.slice none 0 0):=by
 have base:∀(d:Nat) (o' : HO),h d=.free->o'≠.free->(∀g' : Gh,g'.ρ d=.slice none 0 0->g'.ln d=0->g'.tk d=true->g'.own d=none->Do g' w (Aw (Az h d o')) d o') ->
   Cm w0 g0 h0 (Az h d o') (g.upd d (.slice none 0 0) 0 true none g.S) w/\Le h g w (Az h d o') (g.upd d (.slice none 0 0) 0 true none g.S) w:=by
  intro d o' hd DT KH;refine hI.upd d o' _ _ _ _ _ w none ⟨rfl,rfl,rfl,Ai _⟩ (fun _ _ _=>rfl) (fun b e=>by cases e) (fun _ _ h=>h) (fun _ _ h=>.inl h) (fun b o e=>by cases e) (fun b _ e=>by cases e) DT (fun hu=>absurd hd hu) (fun _ _=>?_)
  grind [Ba]
 unfold Ek at hk;split at hk
 .simp_all
 .rename_i d;generalize I8 cx d=d1 at hk;split at hk
  .rename_i hd;split at hk
   .obtain⟨k1,k2⟩:=base d1 (.arr sz []) hd B0 (fun g' u1 u2 u3 u4=>⟨u3,u2,by simp,.inl ⟨rfl,u1,u4⟩⟩);exact⟨_,_,_,hk,k1,k2,.msl _ d1 0 none 0 (by grind [Aw,AM]) (by simp[Gh.upd]) (Ar _) (.inl rfl) (fun _=>by simp[Gh.upd])⟩
   .obtain⟨k1,k2⟩:=base d1 (.tok sz 0) hd B0 (fun g' u1 u2 u3 u4=>⟨u3,u2,none,0,u1,.inl ⟨rfl,u4⟩⟩);exact⟨_,_,_,hk,k1,k2,.tok _ d1 sz [] _ (.snil _ _ _) B0 (by grind [Aw,AM]) (by simp[Gh.upd]) (Ar _) (fun _=>by simp[Gh.upd])⟩
  simp_all
theorem Yj(hT:BQ P cx.T){d:Option Nat}{t ty:Nat}{s x:AV}{vs:Value}(hs:AT g w (Aw h) s vs)(hx:AT g w (Aw h) x vx)(hk:Hs cx d h t s x K) :
  MD P w0 g0 h0 h g w (Builtin.append_ #[t,t] ty #[vs,vx]) K:=by
 unfold Hs at hk;split at hk
 .rename_i e ht;split at hk
  .simp_all
  .rename_i hz;have hz:=AL hz;split at hk
   .simp_all
   .rename_i k Fi;have h5:=bV hI (sz:=(cx.T e).size) hx hk
    clear hk
    obtain⟨es2,hk,h6⟩:=h5;split at hk
    .obtain⟨⟨q1,q2,q3⟩,hk⟩:=hk;obtain rfl:=hs.v_eq;obtain⟨news,n1,n2⟩:=h6 (Fa q1);obtain⟨m1,m2,a,c,rfl,m4⟩:=n1
     by_cases hm:es2.length=0
     .obtain rfl:=AI hm;obtain⟨g',av,h',k1,k2,k3,k4⟩:=c9 hI hk;exact⟨_,w,g',av,h',HT hT w ht Fi none a 0 0 c (Ai _),k1,k2,k3,k4⟩
     .obtain⟨nc,rest,r1,r2,r3⟩:=Hc hT w (ty:=ty) ht Fi hz (olds:=[]) (a:=none) (n:=0) (cap:=0) ⟨by simp,by simp,none,0,rfl,.inl rfl⟩ rfl (fun _=>rfl) ⟨m1,m2,a,c,rfl,m4⟩ rfl ch ch (by simp_all) ch;obtain⟨g',av,h',k1,k2,k3,k4⟩:=IZ hI hk (vs:=([]++news++rest).toArray) (cap:=nc) e (Fa q1) ch ch (by
       simp_all) w.drew ⟨rfl,rfl,rfl,rfl⟩
      rw[EC]at r1;exact⟨_,_,g',av,h',r1,k1,k2,k3,k4⟩
    .rename_i GW es;split at hk
     .rename_i Tc;obtain Tc:=AL Tc;obtain⟨⟨q1,q2,q3,q4⟩,hk⟩:=hk;obtain⟨news,n1,n2⟩:=h6 (Fa q1);obtain⟨m1,m2,a2,c2,rfl,m4⟩:=n1;cases hs with
      |full _ _ _ _ hr kO Qq=>
       obtain⟨a,rfl⟩:=Qq;have Gr:∀c∈es++es2,c.length=(cx.T e).size:=fun c hc=>(Bc.1 hc).elim (fun h=>(kO c h).trans Tc) (Fa q1 c);obtain⟨olds,o1,o2⟩:=Nk.of_rep hr (sz:=(cx.T e).size) (fun c hc=>(kO c hc).trans Tc);have hrl:=o2.app n2;rw[<-CA]at hrl;have ha:a=none->es.length=0:=by
        rintro rfl
        obtain⟨p1,p2,a',c',p3,p4⟩:=o1<;>grind
       obtain⟨nc,rest,r1,r2,r3⟩:=Hc hT w (ty:=ty) ht Fi hz o1 rfl ha ⟨m1,m2,a2,c2,rfl,m4⟩ rfl q2 ch q3 q4;obtain⟨g',av,h',k1,k2,k3,k4⟩:=IZ hI hk (vs:=(olds++news++rest).toArray) (cap:=nc) e Gr (by simp_all) ch (by
        rw[show(olds++news++rest).toArray.toList=olds++news++rest from rfl,Mc (by rw[Au,Au,o1.1,m1,KO])];exact hrl) w.drew ⟨rfl,rfl,rfl,rfl⟩
       rw[Au]at k4;exact⟨_,_,g',av,h',r1,k1,k2,k3,k4⟩
     simp_all
    .rename_i r GW es;have ho:=hI.objs r;split at hk
     .rename_i sz n e0;rw[e0]at ho;split at hk
      .rename_i Tc xg;obtain rfl:=AL xg;obtain Tc:=AL Tc;obtain⟨⟨q1,q2,q3,q4⟩,hk⟩:=hk;rw[Tc]at q1;obtain⟨news,n1,n2⟩:=h6 (Fa q1);obtain⟨m1,m2,a2,c2,rfl,m4⟩:=n1;obtain⟨t1,l1,a,cap,a1,a3⟩:=ho;have hl:(h r).live:=by rw[e0];trivial
       have Gr:∀c∈es++es2,es.length=n->True:=fun _ _ _=>trivial;cases hs with
       |tok _ _ _ _ _ hr kO hu ht' hn Qq=>
        have hv:=Qq (q2.trans l1.symm);rw[a1]at hv;subst hv;subst q2;have Gr:∀c∈es++es2,c.length=GW:=fun c hc=>(Bc.1 hc).elim (kO c) (fun h=>(Fa q1 c h).trans Tc.symm);obtain⟨olds,o1,o2⟩:=Nk.of_rep hr kO;have hrl:=o2.app n2;rw[<-CA]at hrl;have ao:es.length<=cap:=by omega
        by_cases hm:es2.length=0
        .obtain rfl:=AI hm;have KH:=hI.objs r;rw[e0]at KH
         obtain⟨k1,k2⟩:=hI.upd r (.tok GW (es.length+([]:List (List AV)).length)) (g.ρ r) (g.ln r) (g.tk r) (g.own r) g.S w none ⟨rfl,rfl,rfl,Ai _⟩ (fun _ _ _=>rfl) (fun b e=>by cases e) (fun _ _ h=>h) (fun _ _ h=>.inl h) (fun b o e=>by cases e)
          (fun b _ e=>⟨(hI.loc r b hl e).1,.inl ⟨hl,e⟩⟩) B0 (fun _=>⟨rfl,Ai _,fun _=>rfl,fun _=>rfl⟩) (fun hg HJ=>by
           obtain⟨u1,u2,u3,u4⟩:=Ba g r (g.ρ r) (g.ln r) (g.tk r) (g.own r) g.S;rw[FD,GT];exact KH.same HJ (fun i hi=>CW B0 i hi) hg u1 u2 u3 u4 (fun b _ _=>⟨rfl,fun _ h=>h⟩))
         refine⟨_,w,_,_,_,HT hT w ht Fi a a2 es.length cap c2 ao,hk,k1,k2,?_⟩
         grind [AT.tok,AT.le]
        .by_cases Kv:es.length+es2.length<=cap
         .rcases a3 with ⟨e1,_⟩ | ⟨e1,b,E,DD,off,rfl,e3,⟨fz,e4,yW⟩,e5,e6⟩
          .omega
          .rcases m4 with h | ⟨ba,rfl,Ga⟩
           .omega
           .obtain⟨i,z,i1,i2,i3,i4,i5⟩:=FZ hT Fi;have Vo:(es.length+es2.length)*GW<=cap*GW:=Bq _ Kv;have wN:news.length=es2.length*GW:=by simp_all
            have oy:i.size=GW:=i3.trans Tc.symm;have Ca:=SJ (P:=P) t ty e i (hT.slice ht) i1 b off es.length cap DD e4 yW ba es2.length c2 news (by simp_all) Ga m2 Kv (by grind);rw[oy]at Ca;have GO:∀j u,olds[j]?=some u->w.cell? ⟨b,off+j,none⟩=some u:=by
             obtain⟨p1,p2,a',c',p3,p4⟩:=o1;cases p3;intro j u hj;rcases p4 with h | ⟨b',h,h'⟩
             .simp_all
             .cases h
              have:=h' j u hj
              rwa [Addr.add_lit]at this
            obtain⟨p1,p2,p3⟩:=lQ e4 e5 e1 Kv wN o1.1 GO;generalize hnewd:DD.toList.take (off+es.length*GW)++news++DD.toList.drop (off+es.length*GW+news.length)=new at Ca p1 p2 p3;have D8:=setRow_heap w b DD new.toArray E fz e4;have rf:=(hI.loc r b hl e3).1
            obtain⟨k1,k2⟩:=hI.upd r (.tok GW (es.length+es2.length)) (.slice (some ⟨b,off,none⟩) (es.length+es2.length) cap) (es.length+es2.length) (g.tk r) (g.own r) (g.more b (off+(es.length+es2.length)*GW)) (w.setRow b new.toArray) (some b)
             ⟨rfl,rfl,rfl,by simp_all⟩ (fun k _ DT=>setRow_other w b k _ (fun e=>DT (by rw[e]))) (fun b' e=>by simp_all) (fun _ _ h=>.inl h)
             (fun b' o hs=>hs.elim .inl (fun hs=>.inr ⟨by simp_all,.inr ⟨hl,by simp_all⟩⟩))
             (fun b' o e hs=>by
              cases e
              refine⟨?_,fun es ck he=>by simp_all⟩;rw[Fm D8,Fm e4];simp_all) (fun b' _ e=>by
              simp_all) B0 (fun _=>⟨rfl,by omega,fun e=>(by simp_all),fun e=>by omega⟩) (fun hg HJ=>by
              obtain⟨u1,u2,u3,u4⟩:=Ba g r (.slice (some ⟨b,off,none⟩) (es.length+es2.length) cap) (es.length+es2.length) (g.tk r) (g.own r) (g.more b (off+(es.length+es2.length)*GW));exact⟨u3.trans t1,u2,_,cap,u1,  .inr ⟨Kv,b,E,_,off,rfl,u4.trans e3,⟨fz,D8,yW.imp id fun h=>by simp_all⟩,by omega,fun o ho=>by
               rcases ho with ho | ⟨_,ho⟩
               all_goals grind⟩⟩)
            have DH:=AT.slice_off (g:=g.upd r (.slice (some ⟨b,off,none⟩) (es.length+es2.length) cap) (es.length+es2.length) (g.tk r) (g.own r) (g.more b (off+(es.length+es2.length)*GW))) (U:=Aw (Az h r (.tok GW (es.length+es2.length)))) (cap:=cap) (es:=es++es2) D8 Gr (by simp_all) (by
             rw[Au,show new.toArray.toList=new from rfl,p2];exact hrl.mono k2.keeps (fun _ h=>h) (fun _ h=>h.elim)) (fun o ho=>.inr ⟨rfl,by simp_all⟩)
            rw[Au]at DH;exact⟨_,_,_,_,_,Ca,hk,k1,k2,.tok _ r GW _ _ DH Gr (by unfold Aw;rw[AM];simp) (by simp[Gh.upd,t1]) (by simp[Gh.upd]) (fun _=>by simp[Gh.upd])⟩
         .have gp:cap<es.length+es2.length:=by omega
          have ha:a=none->cap=0:=by
           rintro rfl
           rcases a3 with ⟨e1,_⟩ | ⟨_,b,_,_,_,e2,_⟩
           .obtain⟨p1,p2,a',c',p3,p4⟩:=o1<;>grind
           simp_all
          obtain⟨nc,rest,r1,r2,r3⟩:=Hc hT w (ty:=ty) ht Fi hz (by rw[<-Tc];exact o1) rfl ha ⟨m1,m2,a2,c2,rfl,m4⟩ rfl ch gp q3 q4;have D8:=Gs w.drew (.cells (olds++news++rest).toArray e (0,0)) (b:=w.heap.size) rfl
          obtain⟨k1,k2⟩:=hI.upd r (.tok GW (es.length+es2.length)) (.slice (some ⟨w.heap.size,0,none⟩) (es.length+es2.length) nc) (es.length+es2.length) (g.tk r) (some w.heap.size) (g.more w.heap.size ((es.length+es2.length)*GW))
           (w.drew.alloc (.cells (olds++news++rest).toArray e (0,0))) none
           ⟨rfl,rfl,rfl,by simp_all⟩ (fun k hk' _=>by rw[heap_alloc_old _ _ (by exact hk')];rfl) (fun b' e=>by cases e) (fun _ _ h=>.inl h)
           (fun b' o hs=>hs.elim .inl (fun hs=>.inr ⟨by simp_all,.inl ch⟩))
           (fun b' o e=>by cases e) (fun b' _ e=>by simp_all) B0 (fun _=>⟨rfl,by omega,fun e=>(by simp_all),fun e=>by omega⟩) (fun hg HJ=>by
            obtain⟨u1,u2,u3,u4⟩:=Ba g r (.slice (some ⟨w.heap.size,0,none⟩) (es.length+es2.length) nc) (es.length+es2.length) (g.tk r) (some w.heap.size) (g.more w.heap.size ((es.length+es2.length)*GW));exact⟨u3.trans t1,u2,_,nc,u1,.inr ⟨r2,w.heap.size,e,_,0,rfl,u4,.of D8,by simp_all,fun o ho=>by
             rcases ho with ho | ⟨_,ho⟩
             .have:=hI.slt _ _ ho;omega
             .omega⟩⟩)
          have DH:=AT.slice_row (g:=g.upd r (.slice (some ⟨w.heap.size,0,none⟩) (es.length+es2.length) nc) (es.length+es2.length) (g.tk r) (some w.heap.size) (g.more w.heap.size ((es.length+es2.length)*GW))) (U:=Aw (Az h r (.tok GW (es.length+es2.length)))) (cap:=nc) (es:=es++es2) D8 Gr (by simp_all) (by
           rw[Au,show(olds++news++rest).toArray.toList=olds++news++rest from rfl,Mc (by rw[Au,o1.1,m1,Tc,KO])];exact hrl.mono k2.keeps (fun _ h=>h) (fun _ h=>h.elim)) (fun o ho=>.inr ⟨rfl,by simp_all⟩)
          rw[Au]at DH;exact⟨_,_,_,_,_,r1,hk,k1,k2,.tok _ r GW _ _ DH Gr (by grind [Aw,AM]) (by grind [Gh.upd]) (by simp[Gh.upd]) (fun _=>by simp[Gh.upd])⟩
      simp_all
     simp_all
    .rename_i r n;have ho:=hI.objs r;split at hk
     .rename_i sz es e0;split at hk
      .rename_i Tc;obtain Tc:=AL Tc;obtain⟨⟨q1,q2,q3,q4⟩,hk⟩:=hk;rw[Tc]at q1;obtain⟨news,n1,n2⟩:=h6 (Fa q1);obtain⟨m1,m2,a2,c2,rfl,m4⟩:=n1;obtain⟨hv,olds,o1,o2⟩:=TP hI e0 hs q2.symm;have KH:=ho;rw[e0]at ho;obtain⟨t1,l1,al,a3⟩:=ho;have hl:(h r).live:=by rw[e0];trivial
       subst hv;have Gr:∀c∈es++es2,c.length=sz:=fun c hc=>(Bc.1 hc).elim (al c) (fun h=>(Fa q1 c h).trans Tc.symm);have hrl:=o2.app n2;rw[<-CA]at hrl;obtain⟨a,cap,hρ,ao,ha⟩:∃a cap,g.ρ r=.slice a es.length cap/\es.length<=cap/\(a=none->cap=0):=by
        grind
       by_cases hm:es2.length=0
       .obtain rfl:=AI hm;rw[e0]at KH
        obtain⟨k1,k2⟩:=hI.upd r (.arr sz (es++[])) (g.ρ r) (g.ln r) (g.tk r) (g.own r) g.S w none ⟨rfl,rfl,rfl,Ai _⟩ (fun _ _ _=>rfl) (fun b e=>by cases e) (fun _ _ h=>h) (fun _ _ h=>.inl h) (fun b o e=>by cases e)
         (fun b _ e=>⟨(hI.loc r b hl e).1,.inl ⟨hl,e⟩⟩) B0 (fun _=>⟨rfl,Ai _,fun _=>rfl,fun _=>rfl⟩) (fun hg HJ=>by
          obtain⟨u1,u2,u3,u4⟩:=Ba g r (g.ρ r) (g.ln r) (g.tk r) (g.own r) g.S;rw[Dm];exact KH.same HJ (fun i hi=>CW B0 i hi) hg u1 u2 u3 u4 (fun b _ _=>⟨rfl,fun _ h=>h⟩))
        refine⟨g.ρ r,w,_,_,_,?_,hk,k1,k2,?_⟩
        .rw[hρ];exact HT hT w ht Fi a a2 es.length cap c2 ao
        grind [AT.le]
       .by_cases Kv:es.length+es2.length<=cap
        .rcases a3 with ⟨rfl,e2,e3⟩ | ⟨b,Md,E,DD,e1,e2,e3,e4,e5,e6,e7⟩
         .grind
         .rw[e1]at hρ;simp only[Value.slice.injEq,true_and]at hρ;obtain⟨rfl,rfl⟩:=hρ;rcases m4 with h | ⟨ba,rfl,Ga⟩
          .omega
          .obtain⟨i,z,i1,i2,i3,i4,i5⟩:=FZ hT Fi;have Vo:(es.length+es2.length)*sz<=Md*sz:=Bq _ Kv;have wN:news.length=es2.length*sz:=by simp_all
           have oy:i.size=sz:=i3.trans Tc.symm;have Ca:=Pl (P:=P) t ty e i (hT.slice ht) i1 b es.length Md DD e4 ba es2.length c2 news (by simp_all) Ga m2 Kv (by grind);rw[oy]at Ca;have GO:∀j u,olds[j]?=some u->w.cell? ⟨b,j,none⟩=some u:=by
            obtain⟨p1,p2,a',c',p3,p4⟩:=o1<;>grind [Addr.add_lit]
           obtain⟨p1,p2,p3⟩:=iM e4 e5 e3 Kv wN o1.1 GO;generalize hnewd:DD.toList.take (es.length*sz)++news++DD.toList.drop (es.length*sz+news.length)=new at Ca p1 p2 p3;have D8:=setRow_heap w b DD new.toArray E (0,0) e4;have rf:=(hI.loc r b hl e2).1
           obtain⟨k1,k2⟩:=hI.upd r (.arr sz (es++es2)) (.slice (some ⟨b,0,none⟩) (es.length+es2.length) Md) (es.length+es2.length) (g.tk r) (g.own r) g.S (w.setRow b new.toArray) (some b)
            ⟨rfl,rfl,rfl,by simp_all⟩ (fun k _ DT=>setRow_other w b k _ (fun e=>DT (by rw[e]))) (fun b' e=>by simp_all) (fun _ _ h=>h) (fun _ _ h=>.inl h)
            (fun b' o e hs=>by simp_all) (fun b' _ e=>by
             simp_all) B0 (fun _=>⟨rfl,by omega,fun e=>(by simp_all),fun e=>by omega⟩) (fun hg HJ=>by
             obtain⟨u1,u2,u3,u4⟩:=Ba g r (.slice (some ⟨b,0,none⟩) (es.length+es2.length) Md) (es.length+es2.length) (g.tk r) (g.own r) g.S;refine⟨u3.trans t1,by simp_all,Gr,.inr ⟨b,Md,E,_,by simp_all,u4.trans e2,by simp_all,D8,by omega,?_,e7⟩⟩;rw[Au,show new.toArray.toList=new from rfl,p2];exact hrl.mono HJ (fun _ h=>h) (fun _ h=>h.elim))
           rw[e1];exact⟨_,_,_,_,_,Ca,hk,k1,k2,.msl _ r _ _ _ (by unfold Aw;rw[AM];simp) (by simp[Gh.upd,t1]) (by simp[Gh.upd]) (.inr ⟨_,rfl⟩) (fun _=>by simp[Gh.upd])⟩
        .have gp:cap<es.length+es2.length:=by omega
         obtain⟨nc,rest,r1,r2,r3⟩:=Hc hT w (ty:=ty) ht Fi hz (by rw[<-Tc];exact o1) hρ ha ⟨m1,m2,a2,c2,rfl,m4⟩ rfl ch gp q3 q4;have D8:=Gs w.drew (.cells (olds++news++rest).toArray e (0,0)) (b:=w.heap.size) rfl
         obtain⟨k1,k2⟩:=hI.upd r (.arr sz (es++es2)) (.slice (some ⟨w.heap.size,0,none⟩) (es.length+es2.length) nc) (es.length+es2.length) (g.tk r) (some w.heap.size) g.S
          (w.drew.alloc (.cells (olds++news++rest).toArray e (0,0))) none
          ⟨rfl,rfl,rfl,by simp_all⟩ (fun k hk' _=>by rw[heap_alloc_old _ _ (by exact hk')];rfl) (fun b' e=>by cases e) (fun _ _ h=>h) (fun _ _ h=>.inl h)
          (fun b' o e=>by cases e) (fun b' _ e=>by simp_all) B0 (fun _=>⟨rfl,by omega,fun e=>(by simp_all),fun e=>by omega⟩) (fun hg HJ=>by
           obtain⟨u1,u2,u3,u4⟩:=Ba g r (.slice (some ⟨w.heap.size,0,none⟩) (es.length+es2.length) nc) (es.length+es2.length) (g.tk r) (some w.heap.size) g.S;refine⟨u3.trans t1,by simp_all,Gr,.inr ⟨w.heap.size,nc,e,_,by simp_all,u4,by simp_all,D8,by simp_all,?_,fun o ho=>by have:=hI.slt _ _ ho;omega⟩⟩;rw[Au,show(olds++news++rest).toArray.toList=olds++news++rest from rfl,Mc (by rw[Au,o1.1,m1,Tc,KO])];exact hrl.mono HJ (fun _ h=>h) (fun _ h=>h.elim))
         exact⟨_,_,_,_,_,r1,hk,k1,k2,.msl _ r _ _ _ (by grind [Aw,AM]) (by grind [Gh.upd]) (by simp[Gh.upd]) (.inr ⟨_,rfl⟩) (fun _=>by simp[Gh.upd])⟩
      simp_all
     simp_all
    simp_all
 simp_all
theorem bR(hT:BQ P cx.T){d:Option Nat}{s t:Nat}{x:AV}(hx:AT g w (Aw h) x vx)(hk:Yx cx d h s t x K):MD P w0 g0 h0 h g w (convert s t vx) K:=by
 unfold Yx at hk;split at hk
 .rename_i e b hs ht;split at hk
  .rename_i d he;generalize I8 cx d=d1 at hk;split at hk
   .rename_i hd;obtain rfl:=hx.v_eq;have Ca:=run_bytes_of_string (P:=P) w s t e b (hT.string hs) (hT.slice ht) (hT.int he);have KG:b.size<=grownCap w b.size 0 e:=grownCap_ge w b.size 0 e;generalize grownCap w b.size 0 e=cap at Ca KG;have B5:(JQ b).length=b.size:=by
     simp_all
    have zh:b.data.toList.length=b.size:=by simp_all
    have ay:(bytesRow b cap).size=cap:=by
     show(b.data.map _++Array.replicate _ _).size=cap;simp_all
    have ud:(bytesRow b cap).toList.take ((JQ b).length*1)=b.data.toList.map fun c=>Value.int .u8 c.toNat:=by
     show(b.data.map _++Array.replicate _ _).toList.take _=_;simp_all
    have hfl:(JQ b).flatten=(b.data.toList.map fun c=>Value.int .u8 c.toNat).map AV.v:=by
     rw[Bx]
     have:∀l:List UInt8,(l.map fun c=>[AV.v (.int .u8 c.toNat)]).flatten=l.map (AV.v ∘ fun c=>Value.int .u8 c.toNat):=fun l=>by
      induction l<;>simp_all
     simp_all
    have Vp:∀l:List UInt8,Gd ((l.map fun c=>Value.int .u8 c.toNat).map AV.v)=true:=fun l=>by
     induction l with
     |nil=>rfl
     |cons c l ih=>exact ih
    have hr:BR g w ES (JQ b).flatten ((bytesRow b cap).toList.take ((JQ b).length*1)):=by
     grind [BR.vals]
    have hl:∀cs∈JQ b,cs.length=1:=fun cs hc=>by grind
    generalize bytesRow b cap=vs at Ca ay hr;rw[<-B5]at Ca KG;generalize JQ b=es at *
    have D8:(w.drew.alloc (.cells vs e (vs.size,vs.size+1))).heap[w.heap.size]?=some (.cells vs e (vs.size,vs.size+1)):=Gs w.drew _ rfl
    have pL:=hI.upd d1 (.tok 1 es.length) (.slice (some ⟨w.heap.size,0,none⟩) es.length cap) es.length true (some w.heap.size) (g.more w.heap.size (es.length*1)) (w.drew.alloc (.cells vs e (vs.size,vs.size+1))) none
     ⟨rfl,rfl,rfl,by simp_all⟩ (fun k hk' _=>by rw[heap_alloc_old _ _ (by exact hk')];rfl) (fun b e=>by cases e) (fun _ _ h=>.inl h)
     (fun b o hb=>by
      rcases hb with hb | ⟨rfl,_⟩<;>simp_all) (fun b o e=>by cases e)
     (fun b _ e=>by simp_all) B0 (fun hu=>absurd hd hu) (fun hg HJ=>by
      obtain⟨u1,u2,u3,u4⟩:=Ba g d1 (.slice (some ⟨w.heap.size,0,none⟩) es.length cap) es.length true (some w.heap.size) (g.more w.heap.size (es.length*1));exact⟨u3,u2,_,cap,u1,.inr ⟨KG,w.heap.size,e,vs,0,rfl,u4,⟨_,D8,.inr (Ai _)⟩,by omega,fun o ho=>by
       rcases ho with ho | ⟨_,ho⟩
       .have:=hI.slt _ _ ho;omega
       .omega⟩⟩)
    obtain⟨k1,k2⟩:=pL;refine⟨_,_,_,_,_,Ca,hk,k1,k2,.tok _ d1 1 es _ (AT.slice_row D8 hl KG (hr.mono k2.keeps (fun _ h=>h) (fun _ h=>h.elim)) (fun o ho=>.inr ⟨rfl,ho⟩)) hl (by grind [Aw,AM]) ?_ ?_ ?_⟩<;>simp[Gh.upd]
   simp_all
  simp_all
 grind [Bh.does,Wq]
end
end Go.Eng
