/- Lemmas 7. -/
import Derived.Test.YtkjhcikodmiceaaGreatDoorMA06
import Derived.Laws.IdiomStrings
namespace Go.Eng
variable {Ew:Array Value}{E:TypeId}{vx:Value}{olds:List Value}{K:HK}{es:C0}{x:Value}{cx:Cx}{α:Type}{U:Nat->Prop}{e:Nat}{T:G4}{g:D}(n:Nat)
theorem NS{α:Type}:∀(cs:List α) (o:Nat) (vs:List α),o+vs.length<=cs.length->over cs o vs=cs.take o++vs++cs.drop (o+vs.length)
 | [],o,vs,h=>by
  simp at h;obtain⟨rfl,rfl⟩:=h
  rfl
 |c::cs,o+1,vs,h=>by
  rw[over,NS cs o vs aa2]
  grind
 |c::cs,0,[],h=>by simp[over]
 |c::cs,0,v::vs,h=>by
  rw[over,NS cs 0 vs aa0];simp
theorem XF(cs:List α)(o n:Nat)(vs:List α)(h:o+vs.length<=n)(hn:n<=cs.length):(over cs o vs).take n=over (cs.take n) o vs:=by
 apply C3
 grind [G0]
theorem MN{n:Nat}:∀{es:List (List α)},(∀c∈es,c.length=n)->∀{i:Nat} {c:List α},es[i]?=some c->∀(o:Nat) (vs:List α),o+vs.length<=n ->
  (es.set i (over c o vs)).flatten=over es.flatten (i*n+o) vs
 | [],_,i,c,h,_,_,_=>by simp_all
 |d::es,hl,i,c,h,o,vs,JP=>by
  have hd:=hl d (Ah ..);have hfl:=Dx (es:=d::es) (n:=n) hl;have E4:=(Bg.1 h).1;have Af0:i*n+o+vs.length<=(d::es).flatten.length:=by
   rw[hfl]
   have:=BB n (show i+1<=(d::es).length from E4)
   grind
  have hcl:=hl c (AA h);apply C3;intro j;rw[G0 _ _ _ _ Af0];have OX:∀e∈(d::es).set i (over c o vs),e.length=n:=fun e he=>by
   rcases List.mem_or_eq_of_mem_set he with he | rfl
   .grind
   .rw[Gm];exact hcl
  by_cases hn:n=0
  .subst hn;have h1:=Dx OX;simp_all
  .have hdm:j=j / n*n+j % n:=by rw[Nat.mul_comm];exact(Nat.div_add_mod j n).symm
   have AaA:j % n<n:=Nat.mod_lt _ Wk
   by_cases hj:j / n<(d::es).length
   .have g1:(d::es)[j / n]?=some ((d::es)[j / n]):=AT hj;have g2:((d::es).set i (over c o vs))[j / n]?=some (if i=j / n then over c o vs else(d::es)[j / n]):=by
     grind
    have f1:=Fz hl g1 AaA;have f2:=Fz OX g2 AaA;rw[<-hdm]at f1 f2;rw[f1,f2];split
    .rename_i e;rw[e]at h;rw[g1]at h;cases h;rw[G0 _ _ _ _ Wk];have e2:i*n+o<=j↔o<=j % n:=by rw[e];omega
     have e3:j<i*n+o+vs.length↔j % n<o+vs.length:=by rw[e];omega
     simp only[e2,e3];split
     .congr 1;rw[e];omega
     .rfl
    .rename_i e
     have:¬(i*n+o<=j/\j<i*n+o+vs.length):=by
      rintro⟨q1,q2⟩
      apply e;have a1:i*n<=j:=Wk
      have a2:j<(i+1)*n:=aa2
      have:=(Nat.le_div_iff_mul_le Wk).2 a1
      have:=(Nat.div_lt_iff_lt_mul Wk).2 a2
      omega
     grind
   .have hge:(d::es).length*n<=j:=by
     have:=Nat.not_lt.1 hj
     have:=(Nat.le_div_iff_mul_le Wk).1 this
     omega
    have:¬(i*n+o<=j/\j<i*n+o+vs.length):=Wk
    rw[AL this,List.getElem?_eq_none (by rw[Dx OX,WF];exact hge),List.getElem?_eq_none Wk]
theorem QT{P:Program}(hT:Cc P T)(w:World){t b off:Nat}(hd:(T t).d≠.other)(hs:x.cells.toList.length=(T t).size)(h1:∀v∈x.cells.toList,v.oneCell'=true)(hb:w.heap[b]?=some (.cells Ew E (0,0)))(JP:off+x.cells.toList.length<=Ew.size) :
  (Instr.storeAt t (.pointer (some ⟨b,off,none⟩)) x).run P w=.ok () (w.setRow b (over Ew.toList off x.cells.toList).toArray):=by
 have Iz:=run_storeCells_at P b off E x.cells.toList 0 Ew w hb Wk h1;simp only[H6]at Iz;have eU : x.cells.size=(T t).size:=Wk
 rw[NS _ _ _ Wk];simp only[Instr.storeAt,Sem.run_bind,Instr.sureAddr,Sem.run_pure,Result.andThen_ok,storeVar,hT.size w hd,eU,ne_eq,not_true_eq_false,if_false];exact Iz
section
variable {P:Program}{w0:World}{g0:D}{h0 h:Nat->HO}{g:D}{w:World}(hI:CZ w0 g0 h0 h g w)
include hI
theorem jq{d:Nat}(hd:h d=.free)(h1:h 1001=.free)(hn:d≠1001){vs:Array Value}(hv:vs=#[.pointer none,.slice none 0 0]) :
  ∃g',CZ w0 g0 h0 (AJ (AJ h 1001 (.bbf 0)) d (.bld (.slice (.id 1001 1) []))) g' (w.alloc (.cells vs ac (0,0)))/\Le h g w (AJ (AJ h 1001 (.bbf 0)) d (.bld (.slice (.id 1001 1) []))) g' (w.alloc (.cells vs ac (0,0))) /\
   O g' (w.alloc (.cells vs ac (0,0))) (L (AJ (AJ h 1001 (.bbf 0)) d (.bld (.slice (.id 1001 1) [])))) (.ref d 0) (.pointer (some ⟨w.heap.size,0,none⟩)):=by
 obtain⟨k1,k2⟩:=hI.upd 1001 (.bbf 0) (.slice none 0 0) 0 true none g.S w none ⟨rfl,rfl,rfl,Ao _⟩ (fun _ _ _=>rfl) (fun b e=>by cases e) (fun _ _ h=>h) (fun _ _ h=>.inl h) (fun b o e=>by cases e)
  (fun b _ e=>by cases e) aa1 (fun hu=>absurd h1 hu) (fun _ _=>⟨by simp[D.upd],by simp[D.upd],.inl ⟨rfl,by simp[D.upd],by simp[D.upd]⟩⟩)
 obtain⟨m1,m2⟩:=k1.newOwn (d:=d) (by grind [BQ]) (.bld (.slice (.id 1001 1) [])) (.cells vs ac (0,0)) (.pointer (some ⟨w.heap.size,0,none⟩)) 0 false w ⟨rfl,rfl,rfl,rfl⟩ aa1
  (fun _ _=>by
   subst hv;refine⟨by simp[D.upd],w.heap.size,.pointer none,.slice none 0 0,by simp[D.upd],by simp[D.upd],heap_alloc_new w _,.inl rfl,?_,fun o hs=>?_⟩
   .refine .tok _ 1001 1 [] _ (.snil _ _ _) aa1 ?_ ?_ (Ak _) (fun _=>?_)
    .grind [L,BQ,A0]
    .simp[D.upd,Ne.symm hn]
    .simp[D.upd,Ne.symm hn]
   .have:=hI.slt _ _ hs;omega)
 exact⟨_,m1,k2.trans m2,.ref _ d 0 w.heap.size (by grind [L,A0]) (by simp[D.upd]) (by simp[D.upd])⟩
theorem jg(hT:Cc P T){d:Option Nat}{e:Nat}(hk:TX T d h e K):OD P w0 g0 h0 h g w (Instr.alloc e true (.tuple #[])) K:=by
 unfold TX at hk;split at hk
 .simp_all
 .split at hk
  .rename_i hd;split at hk
   .simp_all
   .rename_i ER;split at hk
    .rename_i he;obtain rfl:=AY he;split at hk
     .rename_i h1 hn hz;obtain⟨z,z1,z2,_⟩:=Nr hT (w:=w) ER;have hv:z.cells=#[.pointer none,.slice none 0 0]:=aa2
      obtain⟨g',k1,k2,k3⟩:=jq hI hd h1 (fun e=>by simp_all) hv;refine⟨_,_,g',_,_,?_,hk,k1,k2,k3⟩;simp[Instr.alloc,z1,newVar,newRow]
     simp_all
    split at hk
    .rename_i ha;obtain⟨z,z1,z2,_⟩:=Nr hT (w:=w) ER;have hr:Ci g w (L h) ((T e).zc.map .v) z.cells.toList:=by grind [Ci.vals]
     obtain⟨g',k1,k2,k3⟩:=SM hI hd (vs:=z.cells) e hr;refine⟨_,_,g',_,_,?_,hk,k1,k2,k3⟩;simp[Instr.alloc,z1,newVar,newRow]
    simp_all
  simp_all
theorem QW{cs:List AV}{vs:List Value}(hr:Ci g w (L h) cs vs):Ci g w FK (cs.map (str h)) vs:=by
 refine⟨by rw[BG];exact hr.1,hr.2.1,fun i av x h1 h2=>?_⟩;rw[Ct,B6]at h1;obtain⟨a,a1,rfl⟩:=h1;exact(hr.2.2 i a x a1 h2).str hI.objs
theorem qX{d:Option Nat}{e:Nat}{x:AV}(hx:O g w (L h) x vx)(hk:js cx d h e x K):OD P w0 g0 h0 h g w (Instr.box e vx) K:=by
 unfold js at hk;split at hk
 .simp_all
 .split at hk
  .rename_i hd;split at hk
   .simp_all
   .obtain⟨cs,hk,hn,hr⟩:=Nw hx hk;split at hk
    .obtain⟨g',k1,k2,k3⟩:=oR hI hd (vs:=vx.cells) e (QW hI hr);exact⟨_,_,g',_,_,rfl,hk,k1,k2,k3⟩
    .obtain⟨g',k1,k2,k3⟩:=SM hI hd (vs:=vx.cells) e hr;exact⟨_,_,g',_,_,rfl,hk,k1,k2,k3⟩
  simp_all
theorem CZ.write{r b:Nat}(hl:(h r).live)(ho:g.own r=some b)(o' : HO)(hb:w.heap[b]?=some (.cells Ew E (0,0)))(new:Array Value)(n:Nat)(ow:Option Nat)(S' : Nat->Nat->Prop)(ER:o'≠.free)(hn:n=g.ln r)(how:∀b',ow=some b'->b'=b)(hS:∀b o,g.S b o->S' b o)(hSn:∀b' o,S' b' o->g.S b' o\/b'=b)(AhW:∀o,g.S b o->new[o]?=Ew[o]?)(Mt:KK g (g.upd r (g.ρ r) n (g.tk r) ow S') (L h)->Fg g w (g.upd r (g.ρ r) n (g.tk r) ow S') (w.setRow b new)->(w.setRow b new).heap[b]?=some (.cells new E (0,0)) ->
   D6 (g.upd r (g.ρ r) n (g.tk r) ow S') (w.setRow b new) (L (AJ h r o')) r o') :
  CZ w0 g0 h0 (AJ h r o') (g.upd r (g.ρ r) n (g.tk r) ow S') (w.setRow b new)/\Le h g w (AJ h r o') (g.upd r (g.ρ r) n (g.tk r) ow S') (w.setRow b new):=by
 have E1:=setRow_heap w b Ew new E (0,0) hb;have E4:=(hI.loc r b hl ho).1
 refine hI.upd r o' _ _ _ _ _ _ (some b) ⟨rfl,rfl,rfl,by simp_all⟩ (fun k hk ER=>setRow_other w b k new (fun e=>ER (by rw[e]))) (fun b' e=>by simp_all) hS (fun b' o hs=>?_)
  (fun b' o e hs=>?_) (fun b' _ e=>?_) ER (fun _=>⟨rfl,by omega,fun _=>rfl,fun _=>rfl⟩) (fun hg hk=>Mt hg hk E1)
 all_goals grind [Gj]
theorem lL(hT:Cc P cx.T){t:Nat}{p x:AV}{vp:Value}(hp:O g w (L h) p vp)(hx:O g w (L h) x vx)(hk:Pu cx h t p x K) :
  lY P w0 g0 h0 h g w (Instr.storeAt t vp vx) K:=by
 unfold Pu at hk;split at hk
 .simp_all
 .rename_i hd;have h5:=Nw hx hk
  clear hk
  obtain⟨vs,hk,hn,hr⟩:=h5;have CN:vx.cells.toList.length=vs.length:=hr.1;split at hk
  .rename_i r off;have ho:=hI.objs r;split at hk
   .rename_i cs e;obtain⟨JP,hk⟩:=hk;rw[e]at ho;obtain⟨t0,b,E,Ew,a1,a2,a3,a4,a5⟩:=ho;cases hp with
    |ref _ _ _ b' hu ht YU=>
     rw[a2]at YU;cases YU;have hcs:Ew.toList.length=cs.length:=a4.1;have CL:=QT hT w (t:=t) (off:=off) (x:=vx) hd Wk hr.2.1 a3 aa0;have hl:(h r).live:=by rw[e];trivial
     have wQ:=a4.over hr off JP;split at hk
     .obtain⟨k1,k2⟩:=hI.write hl a1 (.ro ((over cs off vs).map (str h))) a3 (over Ew.toList off vx.cells.toList).toArray (g.ln r) none (g.more b cs.length) aa1 rfl (fun _ e=>by cases e) (fun _ _ h=>.inl h)
       (fun b' o hs=>hs.elim .inl (fun hs=>.inr hs.1)) (fun o hs=>absurd hs (a5 o)) (fun hg Jf E1=>by
        obtain⟨u1,u2,u3,u4⟩:=Bn g r (g.ρ r) (g.ln r) (g.tk r) none (g.more b cs.length);refine⟨u3.trans t0,b,u1.trans a2,O.cptr_row E1 ?_ (fun o ho=>.inr ⟨rfl,?_⟩)⟩
        .exact(QW hI wQ).mono Jf (fun _ h=>h) (fun _ h=>h.elim)
        grind [Gm])
      exact⟨_,_,_,CL,hk,k1,k2⟩
     .obtain⟨k1,k2⟩:=hI.write hl a1 (.cells (over cs off vs)) a3 (over Ew.toList off vx.cells.toList).toArray (g.ln r) (g.own r) g.S aa1 rfl (fun b' e=>by simp_all) (fun _ _ h=>h)
       (fun b' o hs=>.inl hs) (fun o hs=>absurd hs (a5 o)) (fun hg Jf E1=>by
        obtain⟨u1,u2,u3,u4⟩:=Bn g r (g.ρ r) (g.ln r) (g.tk r) (g.own r) g.S;exact⟨u3.trans t0,b,E,_,u4.trans a1,u1.trans a2,E1,wQ.mono Jf (fun i hi=>DP aa1 i hi) hg,a5⟩)
      exact⟨_,_,_,CL,hk,k1,k2⟩
   simp_all
  .rename_i r n sz i off;have ho:=hI.objs r;split at hk
   .rename_i H9 es e;rw[e]at ho;split at hk
    .rename_i hz;obtain rfl:=AY hz;obtain⟨hnl,cs,hi,JP,hk⟩:=hk;obtain⟨t1,l1,al,a1⟩:=ho;have E4:=(Bg.1 hi).1;rcases a1 with ⟨rfl,_⟩ | ⟨b,cap,E,Ew,e1,e2,e3,e4,e5,e6,e7⟩
     .simp_all
     .cases hp with
      |eref _ _ _ _ _ _ b' N7 hu ht kc YU=>
       have YU:=YU (hnl.trans l1.symm);rw[e1]at YU;simp only[Value.slice.injEq,DQ,Addr.mk.injEq]at YU;obtain⟨⟨rfl,_,_⟩,_,_⟩:=YU;have hcl:=al cs (AA hi);have YR:i*sz+sz<=es.length*sz:=by
        have:=BB sz (show i+1<=es.length from E4)
        grind
       have uG:es.length*sz<=cap*sz:=BB sz e3;have CL:=QT hT w (t:=t) (off:=i*sz+off) (x:=vx) hd Wk hr.2.1 e4 Wk;have hl:(h r).live:=by rw[e];trivial
       have zY : ∀c∈es.set i (over cs off (vs.map (str h))),c.length=sz:=fun c hc=>by
        rcases List.mem_or_eq_of_mem_set hc with hc | rfl
        .simp_all
        .rw[Gm];exact hcl
       have hfl:=MN al hi off (vs.map (str h)) aa0;have r4:Ew.toList.length=cap*sz:=Wk
       have si:((over Ew.toList (i*sz+off) vx.cells.toList).toArray.toList.take ((es.set i (over cs off (vs.map (str h)))).length*sz))=over (Ew.toList.take (es.length*sz)) (i*sz+off) vx.cells.toList:=by
        rw[WF];exact XF _ _ _ _ Wk Wk
       have wQ:Ci g w FK (es.set i (over cs off (vs.map (str h)))).flatten ((over Ew.toList (i*sz+off) vx.cells.toList).toArray.toList.take ((es.set i (over cs off (vs.map (str h)))).length*sz)):=by
        rw[si,hfl];exact e6.over (QW hI hr) _ (by rw[BG,Dx al];omega)
       split at hk
       .rename_i j m;have od:∃x0,vx.cells.toList=[x0]:=by
         revert CN
         cases vx.cells.toList with
         |nil=>grind
         |cons x0 l=>simp_all
        obtain⟨x0,od⟩:=od;have EB:=hr.2.2 0 (.msl j m) x0 rfl aa2
        obtain⟨k1,k2⟩:=hI.write hl e2 (.hol sz (es.set i (over cs off [.junk])) i off (.msl j m)) e4 (over Ew.toList (i*sz+off) vx.cells.toList).toArray (g.ln r) (g.own r) g.S aa1 rfl (fun b' e=>by simp_all) (fun _ _ h=>h)
         (fun b' o hs=>.inl hs) (fun o hs=>absurd hs (e7 o)) (fun hg Jf E1=>by
          obtain⟨u1,u2,u3,u4⟩:=Bn g r (g.ρ r) (g.ln r) (g.tk r) (g.own r) g.S;have AkO:i*sz+off<es.length*sz:=aa2
          refine⟨u3.trans t1,u2.trans aa0,zY,b,cap,E,_,?_,u4.trans e2,by simp_all,E1,?_,wQ.mono Jf (fun _ h=>h) (fun _ h=>h.elim),e7,by simp_all,x0,?_,EB.mono Jf (fun i hi=>DP aa1 i hi) hg⟩
          .simp_all
          .simp only[List.size_toArray,Gm,Array.length_toList];exact e5
          .rw[<-CM,od,G0 _ _ _ _ aa2,A1 ⟨Ao _,by grind⟩,Jj];rfl)
        exact⟨_,_,_,CL,hk,k1,k2⟩
       .obtain⟨k1,k2⟩:=hI.write hl e2 (.arr sz (es.set i (over cs off (vs.map (str h))))) e4 (over Ew.toList (i*sz+off) vx.cells.toList).toArray (g.ln r) (g.own r) g.S aa1 rfl (fun b' e=>by simp_all) (fun _ _ h=>h)
         (fun b' o hs=>.inl hs) (fun o hs=>absurd hs (e7 o)) (fun hg Jf E1=>by
          obtain⟨u1,u2,u3,u4⟩:=Bn g r (g.ρ r) (g.ln r) (g.tk r) (g.own r) g.S;refine⟨u3.trans t1,u2.trans aa0,zY,.inr ⟨b,cap,E,_,?_,u4.trans e2,by simp_all,E1,?_,wQ.mono Jf (fun _ h=>h) (fun _ h=>h.elim),e7⟩⟩
          all_goals grind [Gm])
        exact⟨_,_,_,CL,hk,k1,k2⟩
    simp_all
   simp_all
  simp_all
end
theorem lc(c vs:List α)(h:vs.length=c.length):over c 0 vs=vs:=by
 grind [NS]
theorem Iv[Inhabited α](z:List α)(hz:z≠[]):(List.replicate n z).flatten=(List.range (n*z.length)).map fun k=>z[k % z.length]!:=by
 have hl:∀c∈List.replicate n z,c.length=z.length:=fun c hc=>by simp_all
 have AaI:0<z.length:=List.length_pos_iff.2 hz;apply C3;intro k
 by_cases hk:k<n*z.length
 all_goals grind [Nat.mul_comm,Nat.div_add_mod,Nat.mod_lt,Nat.div_lt_iff_lt_mul,Fz,Dx,List.length_map,List.length_range]
section
variable {P:Program}{w0:World}{g0:D}{h0 h:Nat->HO}{g:D}{w:World}(hI:CZ w0 g0 h0 h g w)
include hI
theorem aH{n sz:Nat}{t:Nat->AV}{ρ:Operand->Value}(ht:∀x:Operand,O g w (L h) (ev t x) (ρ x)) :
  ∀{ps:List (Nat×Operand)} {es:C0} {xs:Array Value} {K:C0->Prop},es.length=n->(∀c∈es,c.length=sz)->Ci g w FK es.flatten xs.toList->Sw n sz h es t ps K ->
   ∃FX ZI,K FX/\FX.length=n/\(∀c∈FX,c.length=sz)/\Ci g w FK FX.flatten ZI.toList/\Instr.fill (fun i=>some (i*sz,sz)) xs (ps.map fun(i,x)=>(i,ρ x))=some ZI
 | [],es,xs,K,hn,hl,h,hk=>⟨es,xs,hk,hn,hl,h,rfl⟩
 |(i,x)::ps,es,xs,K,hn,hl,h,hk=>by
  unfold Sw at hk;split at hk
  .rename_i hi;have hi:i<n:=Et hi;have h5:=Nw (ht x) hk
   clear hk
   obtain⟨Wl,hk,hna,hr⟩:=h5;have FW:(ρ x).cells.size=sz:=by rw[<-hna];simpa using hr.1
   have Xk:=QW hI hr;obtain⟨c,hc⟩:∃c,es[i]?=some c:=⟨_,AT Wk⟩;have hcl:=hl c (AA hc);have JP:i*sz+sz<=es.flatten.length:=by
    rw[Dx hl,hn]
    have:=BB sz (show i+1<=n from hi)
    grind
   have hfl:=MN hl hc 0 (Wl.map (str ‹Nat->HO›)) aa0;rw[lc _ _ aa0,H6]at hfl;have E1:=h.over Xk (i*sz) aa0;have sj:xs.size=es.flatten.length:=by have:=h.1;omega
   have e:=OP (ρ x).cells.toList 0 (i*sz) xs aa0;simp only[H6]at e;rw[<-e,<-hfl]at E1;obtain⟨FX,ZI,k1,k2,k3,k4,k5⟩:=aH ht (es:=es.set i (Wl.map (str _))) aa0 (fun c' hc'=>by
    grind) E1 hk
   refine⟨FX,ZI,k1,k2,k3,k4,?_⟩;simp only[Bo,Instr.fill]
   grind [Array.toList_zipIdx]
  simp_all
theorem T5(hT:Cc P cx.T){d:Option Nat}{ty n:Nat}{t:Nat->AV}{ρ:Operand->Value}(ht:∀x:Operand,O g w (L h) (ev t x) (ρ x)){ps:Array (Nat×Operand)}(hk:I6 cx d h ty n t ps.toList K):OD P w0 g0 h0 h g w (Instr.buildSlice ty n (ps.map fun(i,x)=>(i,ρ x))) K:=by
 unfold I6 at hk;split at hk
 .rename_i e hs;split at hk
  .rename_i YS ZL;have ZL:=AY ZL;split at hk
   .simp_all
   .rename_i m hm;split at hk
    .rename_i JP;have JP:=Et JP;have wZ:(cx.T e).zc≠[]:=fun e0=>by simp_all
     have hlr:∀c∈List.replicate n ((cx.T e).zc.map AV.v),c.length=(cx.T e).size:=fun c hc=>by simp_all
     have Aas:Ci g w FK (List.replicate n ((cx.T e).zc.map AV.v)).flatten ((Array.range (n*(cx.T e).size)).map fun k=>(cx.T e).zc.toArray[k % (cx.T e).zc.toArray.size]!).toList:=by
      have e1:((Array.range (n*(cx.T e).size)).map fun k=>(cx.T e).zc.toArray[k % (cx.T e).zc.toArray.size]!).toList=(List.replicate n (cx.T e).zc).flatten:=by
       rw[Iv n _ wZ];simp_all
      have e2:(List.replicate n ((cx.T e).zc.map AV.v)).flatten=(List.replicate n (cx.T e).zc).flatten.map AV.v:=by
       simp_all
      rw[e1,e2];refine Ci.vals ?_;have GI:∀l:List AV,(∀a∈l,one a=true)->Hj l=true:=by
       intro l
       induction l<;>grind [Hj]
      grind [Nt]
     obtain⟨FX,ZI,k1,k2,k3,k4,k5⟩:=aH hI ht aa0 hlr Aas hk;have sj:ZI.size=n*(cx.T e).size:=by
      have:=k4.1
      grind [Dx]
     obtain⟨g',av,h',q1,q2,q3,q4⟩:=KE hI k1 (vs:=ZI) (cap:=n) e k3 Wk sj (by
      grind [Array.length_toList]) w ⟨rfl,rfl,rfl,rfl⟩
     rw[k2]at q4;refine⟨_,_,g',av,h',?_,q1,q2,q3,q4⟩;obtain⟨z,z1,z2⟩:=X1 hT (w:=w) hm;have FW:=hT.size1 w hm;have e3:(Array.map (fun x:Nat×Operand=>match x with | (i,x)=>(i,ρ x)) ps).toList=ps.toList.map fun(i,x)=>(i,ρ x):=aa1
     have Afb:¬(n*(m+1)>2 ^ 24):=aa0
     simp only[Instr.buildSlice,Sem.run_bind,run_underlying (hT.slice hs),Result.andThen_ok,FW,AL Afb];rw[e3];rw[hm]at k5
     by_cases h0:n*(m+1)=0
     .have yq:n=0:=by
       grind
      subst yq;have er:Array.range 0=#[]:=rfl;simp only[Nat.zero_mul,er,List.map_toArray,Ji]at k5;simp only[Nat.zero_mul,if_true,er,List.map_toArray,Ji,k5];simp[newRow]
     .rw[z2]at k5;simp only[Array.toArray_toList]at k5;simp only[AL h0,Sem.run_bind,z1,Result.andThen_ok,Sem.run_pure,k5];simp[newRow]
    simp_all
  simp_all
 simp_all
end
theorem F2{sz:Nat}:∀{es:C0},A7 sz es->∀c∈es,c.length=sz
 | [],_,c,h=>by cases h
 |d::es,h,c,hc=>by
  rcases AM.1 hc with rfl | hc
  .exact h.1
  .exact F2 h.2 c hc
def PD(w:World)(x:Value)(n sz:Nat)(news:List Value):Prop:=
 news.length=n*sz/\(∀v∈news,v.oneCell'=true)/\∃(a:Option Addr) (c:Nat),x=.slice a n c/\(n=0\/∃b:Addr,a=some b/\∀j u,news[j]?=some u->w.cell? (b.add j)=some u)
theorem PD.of_rep{w:World}{sz:Nat}(h:O g w U (.slice .none es) x)(hl:∀c∈es,c.length=sz) :
  ∃news,PD w x es.length sz news/\Ci g w FK es.flatten news:=by
 cases h with
 |snil _ a cap=>exact⟨[],⟨by simp,by simp,a,cap,rfl,.inl rfl⟩,by simp,by simp,fun i av x h1 h2=>by simp_all⟩
 |slice _ _ b off H9 cap val hc Tf DS EB=>
  have hf:=Dx hl;have key:∀j,j<es.length*sz->∃cs,es[j / sz]?=some cs/\es.flatten[j]?=cs[j % sz]?/\j % sz<cs.length/\H9=sz/\j=j / sz*sz+j % sz:=by
   intro j hj
   grind [Nat.pos_of_ne_zero,Nat.div_add_mod,Nat.div_lt_iff_lt_mul,Nat.mod_lt,Fz]
  have AeK:∀j,j<es.length*sz->∃av,es.flatten[j]?=some av/\w.cell? ⟨b,off+j,none⟩=some (val (j / sz) (j % sz))/\(val (j / sz) (j % sz)).oneCell'=true/\O g w FK av (val (j / sz) (j % sz)):=by
   intro j hj;obtain⟨cs,k1,k2,k3,rfl,k5⟩:=key j hj;have wA:cs[j % H9]?=some cs[j % H9]:=AT k3;obtain⟨_,c2,c3⟩:=DS _ _ _ _ k1 wA;rw[Nat.add_assoc,<-k5]at c2;exact⟨_,k2.trans wA,c2,c3,EB _ _ _ _ k1 wA⟩
  refine⟨(List.range (es.length*sz)).map fun j=>val (j / sz) (j % sz),⟨by simp,fun v hv=>?_,some ⟨b,off,none⟩,cap,rfl,.inr ⟨_,rfl,fun j u hu=>?_⟩⟩,by simp_all,fun v hv=>?_,fun i av x h1 h2=>?_⟩
  .grind
  .obtain⟨hj,rfl⟩:=Wz hu;rw[Addr.add_lit];simp_all
  all_goals grind
section
variable {P:Program}{T:G4}(hT:Cc P T)
include hT
theorem Ij{n:Nat}(hs:(T e).size=n+1):∃i z,P.info? e=some i/\i.zero=some z/\i.size=(T e).size/\i.bytes=(T e).bytes/\(T e).zc=z.cells.toList:=by
 rcases hT e with h | h
 .rw[h]at hs;cases hs
 grind [lN,TI.zc_cells]
theorem Jn(w:World){t ty k:Nat}(ht:(T t).d=.slice e)(hk:(T e).size=k+1)(a a' : Option Addr)(n cap c:Nat)(hc:n<=cap) :
  (Builtin.append_ #[t,t] ty #[.slice a n cap,.slice a' 0 c]).run P w=.ok (.slice a n cap) w:=by
 have hu:=hT.slice ht;cases a<;>cases a'<;>simp[Builtin.append_,run_underlying hu,hT.size1 w hk,Builtin.lenOf,hc,Builtin.firstCells,loadCells,loadCellsFrom,storeCells]
theorem Iw(w:World){t ty k:Nat}(ht:(T t).d=.slice e)(hk:(T e).size=k+1)(hz:(T e).zc.length=(T e).size){s:Value}{n m cap c:Nat}{news:List Value}{a a' : Option Addr}(hso:PD w s n (T e).size olds)(hs:s=.slice a n cap)(Qp:a=none->cap=0)(hsx:PD w x m (T e).size news)(hx:x=.slice a' m c)(hm:0<m)(hg:cap<n+m)(hb:(n+m)*(T e).bytes<=140737488355328)(h63:n+m<=9223372036854775807) :
  ∃nc rest,(Builtin.append_ #[t,t] ty #[s,x]).run P w=.ok (.slice (some ⟨w.heap.size,0,none⟩) (n+m) nc) (w.drew.alloc (.cells (olds++news++rest).toArray e (0,0)))/\n+m<=nc /\
   (olds++news++rest).length=nc*(T e).size:=by
 obtain⟨i,z,i1,i2,i3,i4,i5⟩:=Ij hT hk;have hu:=hT.slice ht;obtain⟨n1,n2,a1,c1,n3,n4⟩:=hsx;subst hx;cases n3;rcases n4 with h | ⟨b,rfl,Jy⟩
 .omega
 .have ZL:z.cells.size=(T e).size:=aa0
  have gZ:∀(nc:Nat) (pre:List Value),pre.length=(n+m)*(T e).size->n+m<=nc->(pre++(Builtin.zeroCells z.cells (nc-(n+m))).toList).length=nc*(T e).size:=by
   intro nc pre hp JP;have e1:(Builtin.zeroCells z.cells (nc-(n+m))).toList.length=(nc-(n+m))*(T e).size:=by grind [size_zeroCells]
   rw[AD,e1,hp,<-ME];simp_all
  obtain⟨o1,o2,a2,c2,o3,o4⟩:=hso;subst hs;cases o3;cases a with
  |none=>
   obtain rfl:=Qp rfl;have yq:n=0:=by
    simp_all
   subst yq;have ho:olds=[]:=Az Wk;subst ho;have hr:=run_append_nil (P:=P) w t ty e i z hu i1 i2 b m c news aa0 Jy hm Wk aa2;refine⟨grownCap w m 0 e,(Builtin.zeroCells z.cells (grownCap w m 0 e-m)).toList,?_,by rw[H7];exact grownCap_ge w m 0 e,?_⟩
   .rw[hr,H7]
    congr 3
    simp_all
   .have:=gZ (grownCap w m 0 e) news aa0 (by rw[H7];exact grownCap_ge w m 0 e)
    simp_all
  |some b'=>
   have E9:∀j u,olds[j]?=some u->w.cell? (b'.add j)=some u:=by
    grind
   have hr:=run_append_grow (P:=P) w t ty e i z hu i1 i2 b' n cap olds aa0 E9 b m c news aa0 Jy hg Wk (by rw[i4];exact growslice_fits hg hb);refine⟨grownCap w (n+m) cap e,(Builtin.zeroCells z.cells (grownCap w (n+m) cap e-(n+m))).toList,?_,grownCap_ge w (n+m) cap e,gZ _ _ aa2 (grownCap_ge w (n+m) cap e)⟩;rw[hr]
   congr 3
   simp_all
end
theorem Ci.app{w:World}{Wl bs:List AV}{xs ys:List Value}(h:Ci g w U Wl xs)(k:Ci g w U bs ys):Ci g w U (Wl++bs) (xs++ys):=by
 refine⟨by simp[h.1,k.1],fun x hx=>(Bc.1 hx).elim (h.2.1 x) (k.2.1 x),fun i av x h1 h2=>?_⟩
 by_cases hi:i<Wl.length
 .rw[Ee hi]at h1;rw[Ee (by rw[h.1];exact hi)]at h2;exact h.2.2 i av x h1 h2
 .rw[BO Wk]at h1;rw[BO (by rw[h.1];omega),h.1]at h2;exact k.2.2 _ av x h1 h2
theorem lM(P:Program)(g o:Nat)(t:TypeId)(fz:Nat×Nat)(vs:List Value):∀(i:Nat) (Ew:Array Value) (w:World),w.heap[g]?=some (.cells Ew t fz)->(fz=(0,0)\/Ew.size<=fz.1)->o+i+vs.length<=Ew.size->(∀v∈vs,v.oneCell'=true) ->
  (storeCells ⟨g,o,none⟩ vs i).run P w=.ok () (w.setRow g (Ew.toList.take (o+i)++vs++Ew.toList.drop (o+i+vs.length)).toArray):=by
 induction vs with
 |nil=>
  intro i Ew w hg _ _ _;have e:(Ew.toList.take (o+i)++[]++Ew.toList.drop (o+i+([]:List Value).length)).toArray=Ew:=aa1
  rw[e,setRow_self w g Ew t fz hg];rfl
 |cons v rest ih=>
  intro i Ew w hg hf hl h1;simp only[Ec]at hl;have hi:o+i<Ew.size:=Wk
  have ha:(⟨g,o,none⟩:Addr).add i=⟨g,o+i,none⟩:=Addr.add_lit ..;have hc:w.cell? ⟨g,o+i,none⟩=some Ew[o+i]:=by grind [World.cell?]
  have hz:w.frozen? ⟨g,o+i,none⟩=false:=by
   grind [World.frozen?]
  have h2:(store ((⟨g,o,none⟩:Addr).add i) v).run P w=.ok () (w.setRow g (Ew.setIfInBounds (o+i) v)):=by
   grind [run_store,setCell_eq_setRow]
  have h3:=ih (i+1) (Ew.setIfInBounds (o+i) v) (w.setRow g (Ew.setIfInBounds (o+i) v)) (setRow_heap w g Ew _ t _ hg) aa0 aa2 fun x hx=>h1 x (Aj _ hx);have e:(Ew.setIfInBounds (o+i) v).toList.take (o+(i+1))++rest++(Ew.setIfInBounds (o+i) v).toList.drop (o+(i+1)+rest.length)=Ew.toList.take (o+i)++v::rest++Ew.toList.drop (o+i+(v::rest).length):=by
   simpa[Array.toList_setIfInBounds,Nat.add_assoc]using list_seg_step Ew.toList (o+i) v rest Wk
  rw[storeCells,Sem.run_bind,h2,Result.andThen_ok,h3,setRow_setRow,e]
section
variable {P:Program}{w0:World}{g0:D}{h0 h:Nat->HO}{g:D}{w:World}(hI:CZ w0 g0 h0 h g w)
include hI
omit hI in
theorem RR(t ty e:TypeId)(i:TypeInfo)(ht:P.underlying t=some (.slice e))(hi:P.info? e=some i)(g Pp fU:Nat)(Ew:Array Value)(hg:w.heap[g]?=some (.cells Ew E (0,0)))(a:Addr)(m c:Nat)(news:List Value)(hl:news.length=m*i.size)(Jy:∀j u,news[j]?=some u->w.cell? (a.add j)=some u)(h1:∀u∈news,u.oneCell'=true)(Mj:Pp+m<=fU)(r7:Pp*i.size+news.length<=Ew.size) :
  (Builtin.append_ #[t,t] ty #[.slice (some ⟨g,0,none⟩) Pp fU,.slice (some a) m c]).run P w =
   .ok (.slice (some ⟨g,0,none⟩) (Pp+m) fU) (w.setRow g (Ew.toList.take (Pp*i.size)++news++Ew.toList.drop (Pp*i.size+news.length)).toArray):=by
 have hf:=run_firstCells_some (P:=P) w i.size m a m c news hl Jy;have Iz:=run_storeCells_at P g (Pp*i.size) E news 0 Ew w hg Wk h1;simp only[H6]at Iz;simp[Builtin.append_,run_underlying ht,sizeOf,typeInfo,hi,Builtin.lenOf,Mj,hf,Addr.add_lit,Iz]
omit hI in
theorem VM(t ty e:TypeId)(i:TypeInfo)(ht:P.underlying t=some (.slice e))(hi:P.info? e=some i)(g off Pp fU:Nat)(Ew:Array Value){fz:Nat×Nat}(hg:w.heap[g]?=some (.cells Ew E fz))(hfz:fz=(0,0)\/Ew.size<=fz.1)(a:Addr)(m c:Nat)(news:List Value)(hl:news.length=m*i.size)(Jy:∀j u,news[j]?=some u->w.cell? (a.add j)=some u)(h1:∀u∈news,u.oneCell'=true)(Mj:Pp+m<=fU)(r7:off+Pp*i.size+news.length<=Ew.size) :
  (Builtin.append_ #[t,t] ty #[.slice (some ⟨g,off,none⟩) Pp fU,.slice (some a) m c]).run P w =
   .ok (.slice (some ⟨g,off,none⟩) (Pp+m) fU) (w.setRow g (Ew.toList.take (off+Pp*i.size)++news++Ew.toList.drop (off+Pp*i.size+news.length)).toArray):=by
 have hf:=run_firstCells_some (P:=P) w i.size m a m c news hl Jy;have Iz:=lM P g (off+Pp*i.size) E fz news 0 Ew w hg hfz Wk h1;simp only[H6]at Iz;simp[Builtin.append_,run_underlying ht,sizeOf,typeInfo,hi,Builtin.lenOf,Mj,hf,Addr.add_lit,Iz]
omit hI in
theorem tn{b off n m sz cap:Nat}{fz:Nat×Nat}{news:List Value}(hb:w.heap[b]?=some (.cells Ew E fz))(r4:Ew.size=off+cap*sz)(hn:n<=cap)(hm:n+m<=cap)(hnl:news.length=m*sz)(hol:olds.length=n*sz)(E9:∀j u,olds[j]?=some u->w.cell? ⟨b,off+j,none⟩=some u) :
  (Ew.toList.take (off+n*sz)++news++Ew.toList.drop (off+n*sz+news.length)).length=off+cap*sz /\
  ((Ew.toList.take (off+n*sz)++news++Ew.toList.drop (off+n*sz+news.length)).drop off).take ((n+m)*sz)=olds++news /\
  ∀o,o<off+n*sz->(Ew.toList.take (off+n*sz)++news++Ew.toList.drop (off+n*sz+news.length)).toArray[o]?=Ew[o]?:=by
 have hcl:Ew.toList.length=off+cap*sz:=Wk
 have YR:(n+m)*sz<=cap*sz:=BB _ hm;have uG:n*sz<=cap*sz:=BB _ hn;rw[ME]at YR;have Qr:(Ew.toList.take (off+n*sz)).drop off=olds:=by
  apply C3;intro j
  by_cases hj:j<n*sz
  .rw[Gf,S7 Wk]
   grind [Gj]
  simp_all
 have yx:(Ew.toList.take (off+n*sz)).length=off+n*sz:=aa0
 refine⟨?_,?_,fun o ho=>?_⟩
 .grind
 .rw[KW,List.drop_append_of_le_length Wk,Qr,<-KW,N5 aa2]
 grind
omit hI in
theorem pM{b n m sz cap:Nat}{news:List Value}(hb:w.heap[b]?=some (.cells Ew E (0,0)))(r4:Ew.size=cap*sz)(hn:n<=cap)(hm:n+m<=cap)(hnl:news.length=m*sz)(hol:olds.length=n*sz)(E9:∀j u,olds[j]?=some u->w.cell? ⟨b,j,none⟩=some u) :
  (Ew.toList.take (n*sz)++news++Ew.toList.drop (n*sz+news.length)).length=cap*sz /\
  (Ew.toList.take (n*sz)++news++Ew.toList.drop (n*sz+news.length)).take ((n+m)*sz)=olds++news /\
  ∀o,o<n*sz->(Ew.toList.take (n*sz)++news++Ew.toList.drop (n*sz+news.length)).toArray[o]?=Ew[o]?:=by
 have hcl:Ew.toList.length=cap*sz:=Wk
 have YR:(n+m)*sz<=cap*sz:=BB _ hm;have uG:n*sz<=cap*sz:=BB _ hn;rw[ME]at YR;have Qr:Ew.toList.take (n*sz)=olds:=by
  apply C3
  grind [Gj]
 have yx:(Ew.toList.take (n*sz)).length=n*sz:=aa0
 refine⟨?_,?_,fun o ho=>?_⟩
 all_goals grind [Nat.add_mul]
theorem WO{r n sz:Nat}(he:h r=.arr sz es)(hx:O g w (L h) (.msl r n) x)(hn:n=es.length) :
  x=g.ρ r/\∃news,PD w x es.length sz news/\Ci g w FK es.flatten news:=by
 have ho:=hI.objs r;rw[he]at ho;obtain⟨t1,l1,al,a1⟩:=ho;cases hx with
 |msl _ _ _ a cap hu ht kc ha Tg=>
  have e:=Tg (hn.trans l1.symm);refine⟨e,?_⟩;rw[e];rcases a1 with ⟨rfl,e2,e3⟩ | ⟨b,N7,E,vs,e1,e2,e3,e4,e5,e6,e7⟩
  .exact⟨[],⟨by simp,by simp,none,0,e2,.inl rfl⟩,by simp,by simp,fun i av x h1 h2=>by simp_all⟩
  .have r4:vs.toList.length=N7*sz:=Wk
   have JP:es.length*sz<=vs.toList.length:=by rw[r4];exact BB _ e3
   refine⟨vs.toList.take (es.length*sz),⟨by simp_all,e6.2.1,_,_,e1,.inr ⟨_,rfl,fun j u hj=>?_⟩⟩,e6⟩
   grind [Addr.add_lit,Gj]
theorem jF{sz:Nat}{x:AV}{K:C0->Prop}(hx:O g w (L h) x vx)(hk:LK h x K) :
  ∃es,K es/\((∀c∈es,c.length=sz)->∃news,PD w vx es.length sz news/\Ci g w FK es.flatten news):=by
 unfold LK at hk;split at hk
 .exact⟨_,hk,fun hl=>PD.of_rep hx.slice_none hl⟩
 .obtain rfl:=hx.v_eq;exact⟨[],hk,fun _=>⟨[],⟨by simp,by simp,none,0,rfl,.inl rfl⟩,by simp,by simp,fun i av x h1 h2=>by simp_all⟩⟩
 .rename_i r n;split at hk
  .rename_i H9 es e;obtain⟨hn,hk⟩:=hk;refine⟨es,hk,fun hl=>?_⟩;obtain⟨_,news,n1,n2⟩:=WO hI e hx hn;refine⟨news,?_,n2⟩
   have:news.length=es.length*sz:=by rw[n2.1,Dx hl]
   exact⟨this,n1.2.1,n1.2.2⟩
  simp_all
 simp_all
theorem kO{d:Option Nat}{sz:Nat}(hk:Fe cx d h sz [] K) :
  ∃g' av h',K av h'/\CZ w0 g0 h0 h' g' w/\Le h g w h' g' w/\O g' w (L h') av (.slice none 0 0):=by
 have base:∀(d:Nat) (o' : HO),h d=.free->o'≠.free->(∀g' : D,g'.ρ d=.slice none 0 0->g'.ln d=0->g'.tk d=true->g'.own d=none->D6 g' w (L (AJ h d o')) d o') ->
   CZ w0 g0 h0 (AJ h d o') (g.upd d (.slice none 0 0) 0 true none g.S) w/\Le h g w (AJ h d o') (g.upd d (.slice none 0 0) 0 true none g.S) w:=by
  intro d o' hd ER Mt;refine hI.upd d o' _ _ _ _ _ w none ⟨rfl,rfl,rfl,Ao _⟩ (fun _ _ _=>rfl) (fun b e=>by cases e) (fun _ _ h=>h) (fun _ _ h=>.inl h) (fun b o e=>by cases e) (fun b _ e=>by cases e) ER (fun hu=>absurd hd hu) (fun _ _=>?_)
  grind [Bn]
 unfold Fe at hk;split at hk
 .simp_all
 .rename_i d;generalize KO cx d=d1 at hk;split at hk
  .rename_i hd;split at hk
   .obtain⟨k1,k2⟩:=base d1 (.arr sz []) hd aa1 (fun g' u1 u2 u3 u4=>⟨u3,u2,by simp,.inl ⟨rfl,u1,u4⟩⟩);exact⟨_,_,_,hk,k1,k2,.msl _ d1 0 none 0 (by grind [L,A0]) (by simp[D.upd]) (Ak _) (.inl rfl) (fun _=>by simp[D.upd])⟩
   .obtain⟨k1,k2⟩:=base d1 (.tok sz 0) hd aa1 (fun g' u1 u2 u3 u4=>⟨u3,u2,none,0,u1,.inl ⟨rfl,u4⟩⟩);exact⟨_,_,_,hk,k1,k2,.tok _ d1 sz [] _ (.snil _ _ _) aa1 (by grind [L,A0]) (by simp[D.upd]) (Ak _) (fun _=>by simp[D.upd])⟩
  simp_all
theorem dw(hT:Cc P cx.T){d:Option Nat}{t ty:Nat}{s x:AV}{vs:Value}(hs:O g w (L h) s vs)(hx:O g w (L h) x vx)(hk:IT cx d h t s x K) :
  OD P w0 g0 h0 h g w (Builtin.append_ #[t,t] ty #[vs,vx]) K:=by
 unfold IT at hk;split at hk
 .rename_i e ht;split at hk
  .simp_all
  .rename_i hz;have hz:=AY hz;split at hk
   .simp_all
   .rename_i k FW;have h5:=jF hI (sz:=(cx.T e).size) hx hk
    clear hk
    obtain⟨es2,hk,h6⟩:=h5;split at hk
    .obtain⟨⟨q1,q2,q3⟩,hk⟩:=hk;obtain rfl:=hs.v_eq;obtain⟨news,n1,n2⟩:=h6 (F2 q1);obtain⟨m1,m2,a,c,rfl,m4⟩:=n1
     by_cases hm:es2.length=0
     .obtain rfl:=Az hm;obtain⟨g',av,h',k1,k2,k3,k4⟩:=kO hI hk;exact⟨_,w,g',av,h',Jn hT w ht FW none a 0 0 c (Ao _),k1,k2,k3,k4⟩
     .obtain⟨nc,rest,r1,r2,r3⟩:=Iw hT w (ty:=ty) ht FW hz (olds:=[]) (a:=none) (n:=0) (cap:=0) ⟨by simp,by simp,none,0,rfl,.inl rfl⟩ rfl (fun _=>rfl) ⟨m1,m2,a,c,rfl,m4⟩ rfl Wk Wk aa0 Wk;obtain⟨g',av,h',k1,k2,k3,k4⟩:=KE hI hk (vs:=([]++news++rest).toArray) (cap:=nc) e (F2 q1) Wk Wk (by
       simp_all) w.drew ⟨rfl,rfl,rfl,rfl⟩
      rw[H7]at r1;exact⟨_,_,g',av,h',r1,k1,k2,k3,k4⟩
    .rename_i H9 es;split at hk
     .rename_i We;obtain We:=AY We;obtain⟨⟨q1,q2,q3,q4⟩,hk⟩:=hk;obtain⟨news,n1,n2⟩:=h6 (F2 q1);obtain⟨m1,m2,a2,c2,rfl,m4⟩:=n1;cases hs with
      |full _ _ _ _ hr sa Tg=>
       obtain⟨a,rfl⟩:=Tg;have GI:∀c∈es++es2,c.length=(cx.T e).size:=fun c hc=>(Bc.1 hc).elim (fun h=>(sa c h).trans We) (F2 q1 c);obtain⟨olds,o1,o2⟩:=PD.of_rep hr (sz:=(cx.T e).size) (fun c hc=>(sa c hc).trans We);have hrl:=o2.app n2;rw[<-Ej]at hrl;have ha:a=none->es.length=0:=by
        rintro rfl
        obtain⟨p1,p2,a',c',p3,p4⟩:=o1<;>grind
       obtain⟨nc,rest,r1,r2,r3⟩:=Iw hT w (ty:=ty) ht FW hz o1 rfl ha ⟨m1,m2,a2,c2,rfl,m4⟩ rfl q2 Wk q3 q4;obtain⟨g',av,h',k1,k2,k3,k4⟩:=KE hI hk (vs:=(olds++news++rest).toArray) (cap:=nc) e GI aa0 Wk (by
        rw[show(olds++news++rest).toArray.toList=olds++news++rest from rfl,N5 (by rw[AD,AD,o1.1,m1,ME])];exact hrl) w.drew ⟨rfl,rfl,rfl,rfl⟩
       rw[AD]at k4;exact⟨_,_,g',av,h',r1,k1,k2,k3,k4⟩
     simp_all
    .rename_i r H9 es;have ho:=hI.objs r;split at hk
     .rename_i sz n e0;rw[e0]at ho;split at hk
      .rename_i We Afv;obtain rfl:=AY Afv;obtain We:=AY We;obtain⟨⟨q1,q2,q3,q4⟩,hk⟩:=hk;rw[We]at q1;obtain⟨news,n1,n2⟩:=h6 (F2 q1);obtain⟨m1,m2,a2,c2,rfl,m4⟩:=n1;obtain⟨t1,l1,a,cap,a1,a3⟩:=ho;have hl:(h r).live:=by rw[e0];trivial
       have GI:∀c∈es++es2,es.length=n->True:=fun _ _ _=>trivial;cases hs with
       |tok _ _ _ _ _ hr sa hu ht' hn Tg=>
        have hv:=Tg (q2.trans l1.symm);rw[a1]at hv;subst hv;subst q2;have GI:∀c∈es++es2,c.length=H9:=fun c hc=>(Bc.1 hc).elim (sa c) (fun h=>(F2 q1 c h).trans We.symm);obtain⟨olds,o1,o2⟩:=PD.of_rep hr sa;have hrl:=o2.app n2;rw[<-Ej]at hrl;have gT:es.length<=cap:=Wk
        by_cases hm:es2.length=0
        .obtain rfl:=Az hm;have Mt:=hI.objs r;rw[e0]at Mt
         obtain⟨k1,k2⟩:=hI.upd r (.tok H9 (es.length+([]:C0).length)) (g.ρ r) (g.ln r) (g.tk r) (g.own r) g.S w none ⟨rfl,rfl,rfl,Ao _⟩ (fun _ _ _=>rfl) (fun b e=>by cases e) (fun _ _ h=>h) (fun _ _ h=>.inl h) (fun b o e=>by cases e)
          (fun b _ e=>⟨(hI.loc r b hl e).1,.inl ⟨hl,e⟩⟩) aa1 (fun _=>⟨rfl,Ao _,fun _=>rfl,fun _=>rfl⟩) (fun hg Jf=>by
           obtain⟨u1,u2,u3,u4⟩:=Bn g r (g.ρ r) (g.ln r) (g.tk r) (g.own r) g.S;rw[If,H6];exact Mt.same Jf (fun i hi=>DP aa1 i hi) hg u1 u2 u3 u4 (fun b _ _=>⟨rfl,fun _ h=>h⟩))
         refine⟨_,w,_,_,_,Jn hT w ht FW a a2 es.length cap c2 gT,hk,k1,k2,?_⟩
         grind [O.tok,O.le]
        .by_cases Mj:es.length+es2.length<=cap
         .rcases a3 with ⟨e1,_⟩ | ⟨e1,b,E,Ew,off,rfl,e3,⟨fz,e4,efz⟩,e5,e6⟩
          .omega
          .rcases m4 with h | ⟨ba,rfl,Jy⟩
           .omega
           .obtain⟨i,z,i1,i2,i3,i4,i5⟩:=Ij hT FW;have YR:(es.length+es2.length)*H9<=cap*H9:=BB _ Mj;have bf:news.length=es2.length*H9:=aa0
            have wL:i.size=H9:=i3.trans We.symm;have CL:=VM (P:=P) t ty e i (hT.slice ht) i1 b off es.length cap Ew e4 efz ba es2.length c2 news aa0 Jy m2 Mj aa2;rw[wL]at CL;have E9:∀j u,olds[j]?=some u->w.cell? ⟨b,off+j,none⟩=some u:=by
             obtain⟨p1,p2,a',c',p3,p4⟩:=o1;cases p3;intro j u hj;rcases p4 with h | ⟨b',h,h'⟩
             .simp_all
             .cases h
              have:=h' j u hj
              rwa [Addr.add_lit]at this
            obtain⟨p1,p2,p3⟩:=tn e4 e5 e1 Mj bf o1.1 E9;generalize hnewd:Ew.toList.take (off+es.length*H9)++news++Ew.toList.drop (off+es.length*H9+news.length)=new at CL p1 p2 p3;have E1:=setRow_heap w b Ew new.toArray E fz e4;have z8:=(hI.loc r b hl e3).1
            obtain⟨k1,k2⟩:=hI.upd r (.tok H9 (es.length+es2.length)) (.slice (some ⟨b,off,none⟩) (es.length+es2.length) cap) (es.length+es2.length) (g.tk r) (g.own r) (g.more b (off+(es.length+es2.length)*H9)) (w.setRow b new.toArray) (some b)
             ⟨rfl,rfl,rfl,by simp_all⟩ (fun k _ ER=>setRow_other w b k _ (fun e=>ER (by rw[e]))) (fun b' e=>by simp_all) (fun _ _ h=>.inl h)
             (fun b' o hs=>hs.elim .inl (fun hs=>.inr ⟨by simp_all,.inr ⟨hl,by simp_all⟩⟩))
             (fun b' o e hs=>by
              cases e
              refine⟨?_,fun es ck he=>by simp_all⟩;rw[Gj E1,Gj e4];simp_all) (fun b' _ e=>by
              simp_all) aa1 (fun _=>⟨rfl,by omega,fun e=>aa0,fun e=>by omega⟩) (fun hg Jf=>by
              obtain⟨u1,u2,u3,u4⟩:=Bn g r (.slice (some ⟨b,off,none⟩) (es.length+es2.length) cap) (es.length+es2.length) (g.tk r) (g.own r) (g.more b (off+(es.length+es2.length)*H9));exact⟨u3.trans t1,u2,_,cap,u1,  .inr ⟨Mj,b,E,_,off,rfl,u4.trans e3,⟨fz,E1,efz.imp id fun h=>by simp_all⟩,by omega,fun o ho=>by
               rcases ho with ho | ⟨_,ho⟩
               all_goals grind⟩⟩)
            have EB:=O.slice_off (g:=g.upd r (.slice (some ⟨b,off,none⟩) (es.length+es2.length) cap) (es.length+es2.length) (g.tk r) (g.own r) (g.more b (off+(es.length+es2.length)*H9))) (U:=L (AJ h r (.tok H9 (es.length+es2.length)))) (cap:=cap) (es:=es++es2) E1 GI aa0 (by
             rw[AD,show new.toArray.toList=new from rfl,p2];exact hrl.mono k2.keeps (fun _ h=>h) (fun _ h=>h.elim)) (fun o ho=>.inr ⟨rfl,by simp_all⟩)
            rw[AD]at EB;exact⟨_,_,_,_,_,CL,hk,k1,k2,.tok _ r H9 _ _ EB GI (by unfold L;rw[A0];simp) (by simp[D.upd,t1]) (by simp[D.upd]) (fun _=>by simp[D.upd])⟩
         .have nS:cap<es.length+es2.length:=Wk
          have ha:a=none->cap=0:=by
           rintro rfl
           rcases a3 with ⟨e1,_⟩ | ⟨_,b,_,_,_,e2,_⟩
           .obtain⟨p1,p2,a',c',p3,p4⟩:=o1<;>grind
           simp_all
          obtain⟨nc,rest,r1,r2,r3⟩:=Iw hT w (ty:=ty) ht FW hz (by rw[<-We];exact o1) rfl ha ⟨m1,m2,a2,c2,rfl,m4⟩ rfl Wk nS q3 q4;have E1:=Hx w.drew (.cells (olds++news++rest).toArray e (0,0)) (b:=w.heap.size) rfl
          obtain⟨k1,k2⟩:=hI.upd r (.tok H9 (es.length+es2.length)) (.slice (some ⟨w.heap.size,0,none⟩) (es.length+es2.length) nc) (es.length+es2.length) (g.tk r) (some w.heap.size) (g.more w.heap.size ((es.length+es2.length)*H9))
           (w.drew.alloc (.cells (olds++news++rest).toArray e (0,0))) none
           ⟨rfl,rfl,rfl,by simp_all⟩ (fun k hk' _=>by rw[heap_alloc_old _ _ (by exact hk')];rfl) (fun b' e=>by cases e) (fun _ _ h=>.inl h)
           (fun b' o hs=>hs.elim .inl (fun hs=>.inr ⟨by simp_all,.inl Wk⟩))
           (fun b' o e=>by cases e) (fun b' _ e=>by simp_all) aa1 (fun _=>⟨rfl,by omega,fun e=>aa0,fun e=>by omega⟩) (fun hg Jf=>by
            obtain⟨u1,u2,u3,u4⟩:=Bn g r (.slice (some ⟨w.heap.size,0,none⟩) (es.length+es2.length) nc) (es.length+es2.length) (g.tk r) (some w.heap.size) (g.more w.heap.size ((es.length+es2.length)*H9));exact⟨u3.trans t1,u2,_,nc,u1,.inr ⟨r2,w.heap.size,e,_,0,rfl,u4,.of E1,by simp_all,fun o ho=>by
             rcases ho with ho | ⟨_,ho⟩
             .have:=hI.slt _ _ ho;omega
             .omega⟩⟩)
          have EB:=O.slice_row (g:=g.upd r (.slice (some ⟨w.heap.size,0,none⟩) (es.length+es2.length) nc) (es.length+es2.length) (g.tk r) (some w.heap.size) (g.more w.heap.size ((es.length+es2.length)*H9))) (U:=L (AJ h r (.tok H9 (es.length+es2.length)))) (cap:=nc) (es:=es++es2) E1 GI aa0 (by
           rw[AD,show(olds++news++rest).toArray.toList=olds++news++rest from rfl,N5 (by rw[AD,o1.1,m1,We,ME])];exact hrl.mono k2.keeps (fun _ h=>h) (fun _ h=>h.elim)) (fun o ho=>.inr ⟨rfl,by simp_all⟩)
          rw[AD]at EB;exact⟨_,_,_,_,_,r1,hk,k1,k2,.tok _ r H9 _ _ EB GI (by grind [L,A0]) (by grind [D.upd]) (by simp[D.upd]) (fun _=>by simp[D.upd])⟩
      simp_all
     simp_all
    .rename_i r n;have ho:=hI.objs r;split at hk
     .rename_i sz es e0;split at hk
      .rename_i We;obtain We:=AY We;obtain⟨⟨q1,q2,q3,q4⟩,hk⟩:=hk;rw[We]at q1;obtain⟨news,n1,n2⟩:=h6 (F2 q1);obtain⟨m1,m2,a2,c2,rfl,m4⟩:=n1;obtain⟨hv,olds,o1,o2⟩:=WO hI e0 hs q2.symm;have Mt:=ho;rw[e0]at ho;obtain⟨t1,l1,al,a3⟩:=ho;have hl:(h r).live:=by rw[e0];trivial
       subst hv;have GI:∀c∈es++es2,c.length=sz:=fun c hc=>(Bc.1 hc).elim (al c) (fun h=>(F2 q1 c h).trans We.symm);have hrl:=o2.app n2;rw[<-Ej]at hrl;obtain⟨a,cap,hρ,gT,ha⟩:∃a cap,g.ρ r=.slice a es.length cap/\es.length<=cap/\(a=none->cap=0):=by
        grind
       by_cases hm:es2.length=0
       .obtain rfl:=Az hm;rw[e0]at Mt
        obtain⟨k1,k2⟩:=hI.upd r (.arr sz (es++[])) (g.ρ r) (g.ln r) (g.tk r) (g.own r) g.S w none ⟨rfl,rfl,rfl,Ao _⟩ (fun _ _ _=>rfl) (fun b e=>by cases e) (fun _ _ h=>h) (fun _ _ h=>.inl h) (fun b o e=>by cases e)
         (fun b _ e=>⟨(hI.loc r b hl e).1,.inl ⟨hl,e⟩⟩) aa1 (fun _=>⟨rfl,Ao _,fun _=>rfl,fun _=>rfl⟩) (fun hg Jf=>by
          obtain⟨u1,u2,u3,u4⟩:=Bn g r (g.ρ r) (g.ln r) (g.tk r) (g.own r) g.S;rw[Ey];exact Mt.same Jf (fun i hi=>DP aa1 i hi) hg u1 u2 u3 u4 (fun b _ _=>⟨rfl,fun _ h=>h⟩))
        refine⟨g.ρ r,w,_,_,_,?_,hk,k1,k2,?_⟩
        .rw[hρ];exact Jn hT w ht FW a a2 es.length cap c2 gT
        grind [O.le]
       .by_cases Mj:es.length+es2.length<=cap
        .rcases a3 with ⟨rfl,e2,e3⟩ | ⟨b,N7,E,Ew,e1,e2,e3,e4,e5,e6,e7⟩
         .grind
         .rw[e1]at hρ;simp only[Value.slice.injEq,true_and]at hρ;obtain⟨rfl,rfl⟩:=hρ;rcases m4 with h | ⟨ba,rfl,Jy⟩
          .omega
          .obtain⟨i,z,i1,i2,i3,i4,i5⟩:=Ij hT FW;have YR:(es.length+es2.length)*sz<=N7*sz:=BB _ Mj;have bf:news.length=es2.length*sz:=aa0
           have wL:i.size=sz:=i3.trans We.symm;have CL:=RR (P:=P) t ty e i (hT.slice ht) i1 b es.length N7 Ew e4 ba es2.length c2 news aa0 Jy m2 Mj aa2;rw[wL]at CL;have E9:∀j u,olds[j]?=some u->w.cell? ⟨b,j,none⟩=some u:=by
            obtain⟨p1,p2,a',c',p3,p4⟩:=o1<;>grind [Addr.add_lit]
           obtain⟨p1,p2,p3⟩:=pM e4 e5 e3 Mj bf o1.1 E9;generalize hnewd:Ew.toList.take (es.length*sz)++news++Ew.toList.drop (es.length*sz+news.length)=new at CL p1 p2 p3;have E1:=setRow_heap w b Ew new.toArray E (0,0) e4;have z8:=(hI.loc r b hl e2).1
           obtain⟨k1,k2⟩:=hI.upd r (.arr sz (es++es2)) (.slice (some ⟨b,0,none⟩) (es.length+es2.length) N7) (es.length+es2.length) (g.tk r) (g.own r) g.S (w.setRow b new.toArray) (some b)
            ⟨rfl,rfl,rfl,by simp_all⟩ (fun k _ ER=>setRow_other w b k _ (fun e=>ER (by rw[e]))) (fun b' e=>by simp_all) (fun _ _ h=>h) (fun _ _ h=>.inl h)
            (fun b' o e hs=>by simp_all) (fun b' _ e=>by
             simp_all) aa1 (fun _=>⟨rfl,by omega,fun e=>aa0,fun e=>by omega⟩) (fun hg Jf=>by
             obtain⟨u1,u2,u3,u4⟩:=Bn g r (.slice (some ⟨b,0,none⟩) (es.length+es2.length) N7) (es.length+es2.length) (g.tk r) (g.own r) g.S;refine⟨u3.trans t1,by simp_all,GI,.inr ⟨b,N7,E,_,by simp_all,u4.trans e2,by simp_all,E1,by omega,?_,e7⟩⟩;rw[AD,show new.toArray.toList=new from rfl,p2];exact hrl.mono Jf (fun _ h=>h) (fun _ h=>h.elim))
           rw[e1];exact⟨_,_,_,_,_,CL,hk,k1,k2,.msl _ r _ _ _ (by unfold L;rw[A0];simp) (by simp[D.upd,t1]) (by simp[D.upd]) (.inr ⟨_,rfl⟩) (fun _=>by simp[D.upd])⟩
        .have nS:cap<es.length+es2.length:=Wk
         obtain⟨nc,rest,r1,r2,r3⟩:=Iw hT w (ty:=ty) ht FW hz (by rw[<-We];exact o1) hρ ha ⟨m1,m2,a2,c2,rfl,m4⟩ rfl Wk nS q3 q4;have E1:=Hx w.drew (.cells (olds++news++rest).toArray e (0,0)) (b:=w.heap.size) rfl
         obtain⟨k1,k2⟩:=hI.upd r (.arr sz (es++es2)) (.slice (some ⟨w.heap.size,0,none⟩) (es.length+es2.length) nc) (es.length+es2.length) (g.tk r) (some w.heap.size) g.S
          (w.drew.alloc (.cells (olds++news++rest).toArray e (0,0))) none
          ⟨rfl,rfl,rfl,by simp_all⟩ (fun k hk' _=>by rw[heap_alloc_old _ _ (by exact hk')];rfl) (fun b' e=>by cases e) (fun _ _ h=>h) (fun _ _ h=>.inl h)
          (fun b' o e=>by cases e) (fun b' _ e=>by simp_all) aa1 (fun _=>⟨rfl,by omega,fun e=>aa0,fun e=>by omega⟩) (fun hg Jf=>by
           obtain⟨u1,u2,u3,u4⟩:=Bn g r (.slice (some ⟨w.heap.size,0,none⟩) (es.length+es2.length) nc) (es.length+es2.length) (g.tk r) (some w.heap.size) g.S;refine⟨u3.trans t1,by simp_all,GI,.inr ⟨w.heap.size,nc,e,_,by simp_all,u4,by simp_all,E1,by simp_all,?_,fun o ho=>by have:=hI.slt _ _ ho;omega⟩⟩;rw[AD,show(olds++news++rest).toArray.toList=olds++news++rest from rfl,N5 (by rw[AD,o1.1,m1,We,ME])];exact hrl.mono Jf (fun _ h=>h) (fun _ h=>h.elim))
         exact⟨_,_,_,_,_,r1,hk,k1,k2,.msl _ r _ _ _ (by grind [L,A0]) (by grind [D.upd]) (by simp[D.upd]) (.inr ⟨_,rfl⟩) (fun _=>by simp[D.upd])⟩
      simp_all
     simp_all
    simp_all
 simp_all
theorem jB(hT:Cc P cx.T){d:Option Nat}{s t:Nat}{x:AV}(hx:O g w (L h) x vx)(hk:dN cx d h s t x K):OD P w0 g0 h0 h g w (convert s t vx) K:=by
 unfold dN at hk;split at hk
 .rename_i e b hs ht;split at hk
  .rename_i d he;generalize KO cx d=d1 at hk;split at hk
   .rename_i hd;obtain rfl:=hx.v_eq;have CL:=run_bytes_of_string (P:=P) w s t e b (hT.string hs) (hT.slice ht) (hT.int he);have Qp:b.size<=grownCap w b.size 0 e:=grownCap_ge w b.size 0 e;generalize grownCap w b.size 0 e=cap at CL Qp;have CN:(LD b).length=b.size:=by
     simp_all
    have hbl:b.data.toList.length=b.size:=aa0
    have ib:(bytesRow b cap).size=cap:=by
     show(b.data.map _++Array.replicate _ _).size=cap;simp_all
    have si:(bytesRow b cap).toList.take ((LD b).length*1)=b.data.toList.map fun c=>Value.int .u8 c.toNat:=by
     show(b.data.map _++Array.replicate _ _).toList.take _=_;simp_all
    have hfl:(LD b).flatten=(b.data.toList.map fun c=>Value.int .u8 c.toNat).map AV.v:=by
     rw[BH]
     have:∀l:List UInt8,(l.map fun c=>[AV.v (.int .u8 c.toNat)]).flatten=l.map (AV.v ∘ fun c=>Value.int .u8 c.toNat):=fun l=>by
      induction l<;>simp_all
     simp_all
    have YS:∀l:List UInt8,Hj ((l.map fun c=>Value.int .u8 c.toNat).map AV.v)=true:=fun l=>by
     induction l with
     |nil=>rfl
     |cons c l ih=>exact ih
    have hr:Ci g w FK (LD b).flatten ((bytesRow b cap).toList.take ((LD b).length*1)):=by
     grind [Ci.vals]
    have hl:∀cs∈LD b,cs.length=1:=fun cs hc=>by grind
    generalize bytesRow b cap=vs at CL ib hr;rw[<-CN]at CL Qp;generalize LD b=es at *
    have E1:(w.drew.alloc (.cells vs e (vs.size,vs.size+1))).heap[w.heap.size]?=some (.cells vs e (vs.size,vs.size+1)):=Hx w.drew _ rfl
    have yi:=hI.upd d1 (.tok 1 es.length) (.slice (some ⟨w.heap.size,0,none⟩) es.length cap) es.length true (some w.heap.size) (g.more w.heap.size (es.length*1)) (w.drew.alloc (.cells vs e (vs.size,vs.size+1))) none
     ⟨rfl,rfl,rfl,by simp_all⟩ (fun k hk' _=>by rw[heap_alloc_old _ _ (by exact hk')];rfl) (fun b e=>by cases e) (fun _ _ h=>.inl h)
     (fun b o hb=>by
      rcases hb with hb | ⟨rfl,_⟩<;>simp_all) (fun b o e=>by cases e)
     (fun b _ e=>by simp_all) aa1 (fun hu=>absurd hd hu) (fun hg Jf=>by
      obtain⟨u1,u2,u3,u4⟩:=Bn g d1 (.slice (some ⟨w.heap.size,0,none⟩) es.length cap) es.length true (some w.heap.size) (g.more w.heap.size (es.length*1));exact⟨u3,u2,_,cap,u1,.inr ⟨Qp,w.heap.size,e,vs,0,rfl,u4,⟨_,E1,.inr (Ao _)⟩,by omega,fun o ho=>by
       rcases ho with ho | ⟨_,ho⟩
       .have:=hI.slt _ _ ho;omega
       .omega⟩⟩)
    obtain⟨k1,k2⟩:=yi;refine⟨_,_,_,_,_,CL,hk,k1,k2,.tok _ d1 1 es _ (O.slice_row E1 hl Qp (hr.mono k2.keeps (fun _ h=>h) (fun _ h=>h.elim)) (fun o ho=>.inr ⟨rfl,ho⟩)) hl (by grind [L,A0]) ?_ ?_ ?_⟩<;>simp[D.upd]
   simp_all
  simp_all
 grind [Bw.does,ar]
end
end Go.Eng
