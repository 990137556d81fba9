/- Lemmas 7. -/
import Derived.Test.YtkmnnpmneamgoaaGreatDoorPA06
import Derived.Laws.IdiomStrings
namespace Go.Eng
variable {Ej:Array Value}{E:TypeId}{vx:Value}{olds:List Value}{K:HK}{es:List (List AV)}{x:Value}{cx:Cx}{α:Type}{U:Nat->Prop}{e:Nat}{T:G0}{g:Gh}(n:Nat)
theorem Nk{α:Type}:∀(cs:List α) (o:Nat) (vs:List α),o+vs.length<=cs.length->over cs o vs=cs.take o++vs++cs.drop (o+vs.length)
 | [],o,vs,h=>by
  simp at h;obtain⟨rfl,rfl⟩:=h
  rfl
 |c::cs,o+1,vs,h=>by
  rw[over,Nk cs o vs (by grind)]
  grind
 |c::cs,0,[],h=>by simp[over]
 |c::cs,0,v::vs,h=>by
  rw[over,Nk cs 0 vs (by simp_all)];simp
theorem Wn(cs:List α)(o n:Nat)(vs:List α)(h:o+vs.length<=n)(hn:n<=cs.length):(over cs o vs).take n=over (cs.take n) o vs:=by
 apply CR
 grind [GW]
theorem Mt{n:Nat}:∀{es:List (List α)},(∀c∈es,c.length=n)->∀{i:Nat} {c:List α},es[i]?=some c->∀(o:Nat) (vs:List α),o+vs.length<=n ->
  (es.set i (over c o vs)).flatten=over es.flatten (i*n+o) vs
 | [],_,i,c,h,_,_,_=>by simp_all
 |d::es,hl,i,c,h,o,vs,IF=>by
  have hd:=hl d (Ah ..);have hfl:=Dk (es:=d::es) (n:=n) hl;have E1:=(Bb.1 h).1;have Aca:i*n+o+vs.length<=(d::es).flatten.length:=by
   rw[hfl]
   have:=Bx n (show i+1<=(d::es).length from E1)
   grind
  have hcl:=hl c (Ax h);apply CR;intro j;rw[GW _ _ _ _ Aca];have Od:∀e∈(d::es).set i (over c o vs),e.length=n:=fun e he=>by
   rcases List.mem_or_eq_of_mem_set he with he | rfl
   .grind
   .rw[Gj];exact hcl
  by_cases hn:n=0
  .subst hn;have h1:=Dk Od;simp_all
  .have hdm:j=j / n*n+j % n:=by rw[Nat.mul_comm];exact(Nat.div_add_mod j n).symm
   have xS:j % n<n:=Nat.mod_lt _ aa0
   by_cases hj:j / n<(d::es).length
   .have g1:(d::es)[j / n]?=some ((d::es)[j / n]):=AR hj;have g2:((d::es).set i (over c o vs))[j / n]?=some (if i=j / n then over c o vs else(d::es)[j / n]):=by
     grind
    have f1:=FD hl g1 xS;have f2:=FD Od g2 xS;rw[<-hdm]at f1 f2;rw[f1,f2];split
    .rename_i e;rw[e]at h;rw[g1]at h;cases h;rw[GW _ _ _ _ aa0];have e2:i*n+o<=j↔o<=j % n:=by rw[e];omega
     have e3:j<i*n+o+vs.length↔j % n<o+vs.length:=by rw[e];omega
     simp only[e2,e3];split
     .congr 1;rw[e];omega
     .rfl
    .rename_i e
     have:¬(i*n+o<=j/\j<i*n+o+vs.length):=by
      rintro⟨q1,q2⟩
      apply e;have a1:i*n<=j:=by omega
      have a2:j<(i+1)*n:=by grind
      have:=(Nat.le_div_iff_mul_le aa0).2 a1
      have:=(Nat.div_lt_iff_lt_mul aa0).2 a2
      omega
     grind
   .have xF:(d::es).length*n<=j:=by
     have:=Nat.not_lt.1 hj
     have:=(Nat.le_div_iff_mul_le aa0).1 this
     omega
    have:¬(i*n+o<=j/\j<i*n+o+vs.length):=by omega
    rw[AI this,List.getElem?_eq_none (by rw[Dk Od,Vw];exact xF),List.getElem?_eq_none aa0]
theorem PJ{P:Program}(hT:BY P T)(w:World){t b off:Nat}(hd:(T t).d≠.other)(hs:x.cells.toList.length=(T t).size)(h1:∀v∈x.cells.toList,v.oneCell'=true)(hb:w.heap[b]?=some (.cells Ej E (0,0)))(IF:off+x.cells.toList.length<=Ej.size) :
  (Instr.storeAt t (.pointer (some ⟨b,off,none⟩)) x).run P w=.ok () (w.setRow b (over Ej.toList off x.cells.toList).toArray):=by
 have Gw:=run_storeCells_at P b off E x.cells.toList 0 Ej w hb aa0 h1;simp only[HH]at Gw;have gL : x.cells.size=(T t).size:=by omega
 rw[Nk _ _ _ aa0];simp only[Instr.storeAt,Sem.run_bind,Instr.sureAddr,Sem.run_pure,Result.andThen_ok,storeVar,hT.size w hd,gL,ne_eq,not_true_eq_false,if_false];exact Gw
section
variable {P:Program}{w0:World}{g0:Gh}{h0 h:Nat->HO}{g:Gh}{w:World}(hI:Cw w0 g0 h0 h g w)
include hI
theorem fM{d:Nat}(hd:h d=.free)(h1:h 1001=.free)(hn:d≠1001){vs:Array Value}(hv:vs=#[.pointer none,.slice none 0 0]) :
  ∃g',Cw w0 g0 h0 (AC (AC h 1001 (.bbf 0)) d (.bld (.slice (.id 1001 1) []))) g' (w.alloc (.cells vs Yn (0,0)))/\Le h g w (AC (AC h 1001 (.bbf 0)) d (.bld (.slice (.id 1001 1) []))) g' (w.alloc (.cells vs Yn (0,0))) /\
   AY g' (w.alloc (.cells vs Yn (0,0))) (Az (AC (AC h 1001 (.bbf 0)) d (.bld (.slice (.id 1001 1) [])))) (.ref d 0) (.pointer (some ⟨w.heap.size,0,none⟩)):=by
 obtain⟨k1,k2⟩:=hI.upd 1001 (.bbf 0) (.slice none 0 0) 0 true none g.S w none ⟨rfl,rfl,rfl,Ao _⟩ (fun _ _ _=>rfl) (fun b e=>by cases e) (fun _ _ h=>h) (fun _ _ h=>.inl h) (fun b o e=>by cases e)
  (fun b _ e=>by cases e) aa1 (fun hu=>absurd h1 hu) (fun _ _=>⟨by simp[Gh.upd],by simp[Gh.upd],.inl ⟨rfl,by simp[Gh.upd],by simp[Gh.upd]⟩⟩)
 obtain⟨m1,m2⟩:=k1.newOwn (d:=d) (by grind [BN]) (.bld (.slice (.id 1001 1) [])) (.cells vs Yn (0,0)) (.pointer (some ⟨w.heap.size,0,none⟩)) 0 false w ⟨rfl,rfl,rfl,rfl⟩ aa1
  (fun _ _=>by
   subst hv;refine⟨by simp[Gh.upd],w.heap.size,.pointer none,.slice none 0 0,by simp[Gh.upd],by simp[Gh.upd],heap_alloc_new w _,.inl rfl,?_,fun o hs=>?_⟩
   .refine .tok _ 1001 1 [] _ (.snil _ _ _) aa1 ?_ ?_ (Ap _) (fun _=>?_)
    .grind [Az,BN,AS]
    .simp[Gh.upd,Ne.symm hn]
    .simp[Gh.upd,Ne.symm hn]
   .have:=hI.slt _ _ hs;omega)
 exact⟨_,m1,k2.trans m2,.ref _ d 0 w.heap.size (by grind [Az,AS]) (by simp[Gh.upd]) (by simp[Gh.upd])⟩
theorem fA(hT:BY P T){d:Option Nat}{e:Nat}(hk:SH T d h e K):NU P w0 g0 h0 h g w (Instr.alloc e true (.tuple #[])) K:=by
 unfold SH at hk;split at hk
 .simp_all
 .split at hk
  .rename_i hd;split at hk
   .simp_all
   .rename_i D8;split at hk
    .rename_i he;obtain rfl:=AW he;split at hk
     .rename_i h1 hn hz;obtain⟨z,z1,z2,_⟩:=MX hT (w:=w) D8;have hv:z.cells=#[.pointer none,.slice none 0 0]:=by grind
      obtain⟨g',k1,k2,k3⟩:=fM hI hd h1 (fun e=>by simp_all) hv;refine⟨_,_,g',_,_,?_,hk,k1,k2,k3⟩;simp[Instr.alloc,z1,newVar,newRow]
     simp_all
    split at hk
    .rename_i ha;obtain⟨z,z1,z2,_⟩:=MX hT (w:=w) D8;have hr:Ca g w (Az h) ((T e).zc.map .v) z.cells.toList:=by grind [Ca.vals]
     obtain⟨g',k1,k2,k3⟩:=RE hI hd (vs:=z.cells) e hr;refine⟨_,_,g',_,_,?_,hk,k1,k2,k3⟩;simp[Instr.alloc,z1,newVar,newRow]
    simp_all
  simp_all
theorem PM{cs:List AV}{vs:List Value}(hr:Ca g w (Az h) cs vs):Ca g w Fs (cs.map (str h)) vs:=by
 refine⟨by rw[BR];exact hr.1,hr.2.1,fun i av x h1 h2=>?_⟩;rw[BA,B3]at h1;obtain⟨a,a1,rfl⟩:=h1;exact(hr.2.2 i a x a1 h2).str hI.objs
theorem oH{d:Option Nat}{e:Nat}{x:AV}(hx:AY g w (Az h) x vx)(hk:fO cx d h e x K):NU P w0 g0 h0 h g w (Instr.box e vx) K:=by
 unfold fO at hk;split at hk
 .simp_all
 .split at hk
  .rename_i hd;split at hk
   .simp_all
   .obtain⟨cs,hk,hn,hr⟩:=M1 hx hk;split at hk
    .obtain⟨g',k1,k2,k3⟩:=mo hI hd (vs:=vx.cells) e (PM hI hr);exact⟨_,_,g',_,_,rfl,hk,k1,k2,k3⟩
    .obtain⟨g',k1,k2,k3⟩:=RE hI hd (vs:=vx.cells) e hr;exact⟨_,_,g',_,_,rfl,hk,k1,k2,k3⟩
  simp_all
theorem Cw.write{r b:Nat}(hl:(h r).live)(ho:g.own r=some b)(o' : HO)(hb:w.heap[b]?=some (.cells Ej E (0,0)))(new:Array Value)(n:Nat)(ow:Option Nat)(S' : Nat->Nat->Prop)(D8:o'≠.free)(hn:n=g.ln r)(how:∀b',ow=some b'->b'=b)(hS:∀b o,g.S b o->S' b o)(hSn:∀b' o,S' b' o->g.S b' o\/b'=b)(AeM:∀o,g.S b o->new[o]?=Ej[o]?)(L8:Kg g (g.upd r (g.ρ r) n (g.tk r) ow S') (Az h)->E9 g w (g.upd r (g.ρ r) n (g.tk r) ow S') (w.setRow b new)->(w.setRow b new).heap[b]?=some (.cells new E (0,0)) ->
   DO (g.upd r (g.ρ r) n (g.tk r) ow S') (w.setRow b new) (Az (AC h r o')) r o') :
  Cw w0 g0 h0 (AC h r o') (g.upd r (g.ρ r) n (g.tk r) ow S') (w.setRow b new)/\Le h g w (AC h r o') (g.upd r (g.ρ r) n (g.tk r) ow S') (w.setRow b new):=by
 have EN:=setRow_heap w b Ej new E (0,0) hb;have E1:=(hI.loc r b hl ho).1
 refine hI.upd r o' _ _ _ _ _ _ (some b) ⟨rfl,rfl,rfl,by simp_all⟩ (fun k hk D8=>setRow_other w b k new (fun e=>D8 (by rw[e]))) (fun b' e=>by simp_all) hS (fun b' o hs=>?_)
  (fun b' o e hs=>?_) (fun b' _ e=>?_) D8 (fun _=>⟨rfl,by omega,fun _=>rfl,fun _=>rfl⟩) (fun hg hk=>L8 hg hk EN)
 all_goals grind [Gc]
theorem jk(hT:BY P cx.T){t:Nat}{p x:AV}{vp:Value}(hp:AY g w (Az h) p vp)(hx:AY g w (Az h) x vx)(hk:OE cx h t p x K) :
  jC P w0 g0 h0 h g w (Instr.storeAt t vp vx) K:=by
 unfold OE at hk;split at hk
 .simp_all
 .rename_i hd;have h5:=M1 hx hk
  clear hk
  obtain⟨vs,hk,hn,hr⟩:=h5;have CD:vx.cells.toList.length=vs.length:=hr.1;split at hk
  .rename_i r off;have ho:=hI.objs r;split at hk
   .rename_i cs e;obtain⟨IF,hk⟩:=hk;rw[e]at ho;obtain⟨t0,b,E,Ej,a1,a2,a3,a4,a5⟩:=ho;cases hp with
    |ref _ _ _ b' hu ht oc=>
     rw[a2]at oc;cases oc;have hcs:Ej.toList.length=cs.length:=a4.1;have Ct:=PJ hT w (t:=t) (off:=off) (x:=vx) hd aa0 hr.2.1 a3 (by simp_all);have hl:(h r).live:=by rw[e];trivial
     have tK:=a4.over hr off IF;split at hk
     .obtain⟨k1,k2⟩:=hI.write hl a1 (.ro ((over cs off vs).map (str h))) a3 (over Ej.toList off vx.cells.toList).toArray (g.ln r) none (g.more b cs.length) aa1 rfl (fun _ e=>by cases e) (fun _ _ h=>.inl h)
       (fun b' o hs=>hs.elim .inl (fun hs=>.inr hs.1)) (fun o hs=>absurd hs (a5 o)) (fun hg IJ EN=>by
        obtain⟨u1,u2,u3,u4⟩:=Bh g r (g.ρ r) (g.ln r) (g.tk r) none (g.more b cs.length);refine⟨u3.trans t0,b,u1.trans a2,AY.cptr_row EN ?_ (fun o ho=>.inr ⟨rfl,?_⟩)⟩
        .exact(PM hI tK).mono IJ (fun _ h=>h) (fun _ h=>h.elim)
        grind [Gj])
      exact⟨_,_,_,Ct,hk,k1,k2⟩
     .obtain⟨k1,k2⟩:=hI.write hl a1 (.cells (over cs off vs)) a3 (over Ej.toList off vx.cells.toList).toArray (g.ln r) (g.own r) g.S aa1 rfl (fun b' e=>by simp_all) (fun _ _ h=>h)
       (fun b' o hs=>.inl hs) (fun o hs=>absurd hs (a5 o)) (fun hg IJ EN=>by
        obtain⟨u1,u2,u3,u4⟩:=Bh g r (g.ρ r) (g.ln r) (g.tk r) (g.own r) g.S;exact⟨u3.trans t0,b,E,_,u4.trans a1,u1.trans a2,EN,tK.mono IJ (fun i hi=>DA aa1 i hi) hg,a5⟩)
      exact⟨_,_,_,Ct,hk,k1,k2⟩
   simp_all
  .rename_i r n sz i off;have ho:=hI.objs r;split at hk
   .rename_i HM es e;rw[e]at ho;split at hk
    .rename_i hz;obtain rfl:=AW hz;obtain⟨hnl,cs,hi,IF,hk⟩:=hk;obtain⟨t1,l1,al,a1⟩:=ho;have E1:=(Bb.1 hi).1;rcases a1 with ⟨rfl,_⟩ | ⟨b,cap,E,Ej,e1,e2,e3,e4,e5,e6,e7⟩
     .simp_all
     .cases hp with
      |eref _ _ _ _ _ _ b' Mk hu ht bM oc=>
       have oc:=oc (hnl.trans l1.symm);rw[e1]at oc;simp only[Value.slice.injEq,Cm,Addr.mk.injEq]at oc;obtain⟨⟨rfl,_,_⟩,_,_⟩:=oc;have hcl:=al cs (Ax hi);have Xv:i*sz+sz<=es.length*sz:=by
        have:=Bx sz (show i+1<=es.length from E1)
        grind
       have rO:es.length*sz<=cap*sz:=Bx sz e3;have Ct:=PJ hT w (t:=t) (off:=i*sz+off) (x:=vx) hd aa0 hr.2.1 e4 aa0;have hl:(h r).live:=by rw[e];trivial
       have xc : ∀c∈es.set i (over cs off (vs.map (str h))),c.length=sz:=fun c hc=>by
        rcases List.mem_or_eq_of_mem_set hc with hc | rfl
        .simp_all
        .rw[Gj];exact hcl
       have hfl:=Mt al hi off (vs.map (str h)) (by simp_all);have pN:Ej.toList.length=cap*sz:=by omega
       have tV:((over Ej.toList (i*sz+off) vx.cells.toList).toArray.toList.take ((es.set i (over cs off (vs.map (str h)))).length*sz))=over (Ej.toList.take (es.length*sz)) (i*sz+off) vx.cells.toList:=by
        rw[Vw];exact Wn _ _ _ _ aa0 aa0
       have tK:Ca g w Fs (es.set i (over cs off (vs.map (str h)))).flatten ((over Ej.toList (i*sz+off) vx.cells.toList).toArray.toList.take ((es.set i (over cs off (vs.map (str h)))).length*sz)):=by
        rw[tV,hfl];exact e6.over (PM hI hr) _ (by rw[BR,Dk al];omega)
       split at hk
       .rename_i j m;have og:∃x0,vx.cells.toList=[x0]:=by
         revert CD
         cases vx.cells.toList with
         |nil=>grind
         |cons x0 l=>simp_all
        obtain⟨x0,og⟩:=og;have Ef:=hr.2.2 0 (.msl j m) x0 rfl (by grind)
        obtain⟨k1,k2⟩:=hI.write hl e2 (.hol sz (es.set i (over cs off [.junk])) i off (.msl j m)) e4 (over Ej.toList (i*sz+off) vx.cells.toList).toArray (g.ln r) (g.own r) g.S aa1 rfl (fun b' e=>by simp_all) (fun _ _ h=>h)
         (fun b' o hs=>.inl hs) (fun o hs=>absurd hs (e7 o)) (fun hg IJ EN=>by
          obtain⟨u1,u2,u3,u4⟩:=Bh g r (g.ρ r) (g.ln r) (g.tk r) (g.own r) g.S;have Ahq:i*sz+off<es.length*sz:=by grind
          refine⟨u3.trans t1,u2.trans (by simp_all),xc,b,cap,E,_,?_,u4.trans e2,by simp_all,EN,?_,tK.mono IJ (fun _ h=>h) (fun _ h=>h.elim),e7,by simp_all,x0,?_,Ef.mono IJ (fun i hi=>DA aa1 i hi) hg⟩
          .simp_all
          .simp only[List.size_toArray,Gj,Array.length_toList];exact e5
          .rw[<-CB,og,GW _ _ _ _ (by grind),AX ⟨Ao _,by grind⟩,IN];rfl)
        exact⟨_,_,_,Ct,hk,k1,k2⟩
       .obtain⟨k1,k2⟩:=hI.write hl e2 (.arr sz (es.set i (over cs off (vs.map (str h))))) e4 (over Ej.toList (i*sz+off) vx.cells.toList).toArray (g.ln r) (g.own r) g.S aa1 rfl (fun b' e=>by simp_all) (fun _ _ h=>h)
         (fun b' o hs=>.inl hs) (fun o hs=>absurd hs (e7 o)) (fun hg IJ EN=>by
          obtain⟨u1,u2,u3,u4⟩:=Bh g r (g.ρ r) (g.ln r) (g.tk r) (g.own r) g.S;refine⟨u3.trans t1,u2.trans (by simp_all),xc,.inr ⟨b,cap,E,_,?_,u4.trans e2,by simp_all,EN,?_,tK.mono IJ (fun _ h=>h) (fun _ h=>h.elim),e7⟩⟩
          all_goals grind [Gj])
        exact⟨_,_,_,Ct,hk,k1,k2⟩
    simp_all
   simp_all
  simp_all
end
theorem iG(c vs:List α)(h:vs.length=c.length):over c 0 vs=vs:=by
 grind [Nk]
theorem H6[Inhabited α](z:List α)(hz:z≠[]):(List.replicate n z).flatten=(List.range (n*z.length)).map fun k=>z[k % z.length]!:=by
 have hl:∀c∈List.replicate n z,c.length=z.length:=fun c hc=>by simp_all
 have xZ:0<z.length:=List.length_pos_iff.2 hz;apply CR;intro k
 by_cases hk:k<n*z.length
 all_goals grind [Nat.mul_comm,Nat.div_add_mod,Nat.mod_lt,Nat.div_lt_iff_lt_mul,FD,Dk,List.length_map,List.length_range]
section
variable {P:Program}{w0:World}{g0:Gh}{h0 h:Nat->HO}{g:Gh}{w:World}(hI:Cw w0 g0 h0 h g w)
include hI
theorem YH{n sz:Nat}{t:Nat->AV}{ρ:Operand->Value}(ht:∀x:Operand,AY g w (Az h) (ev t x) (ρ x)) :
  ∀{ps:List (Nat×Operand)} {es:List (List AV)} {xs:Array Value} {K:List (List AV)->Prop},es.length=n->(∀c∈es,c.length=sz)->Ca g w Fs es.flatten xs.toList->Rr n sz h es t ps K ->
   ∃E7 X4,K E7/\E7.length=n/\(∀c∈E7,c.length=sz)/\Ca g w Fs E7.flatten X4.toList/\Instr.fill (fun i=>some (i*sz,sz)) xs (ps.map fun(i,x)=>(i,ρ x))=some X4
 | [],es,xs,K,hn,hl,h,hk=>⟨es,xs,hk,hn,hl,h,rfl⟩
 |(i,x)::ps,es,xs,K,hn,hl,h,hk=>by
  unfold Rr at hk;split at hk
  .rename_i hi;have hi:i<n:=Gm hi;have h5:=M1 (ht x) hk
   clear hk
   obtain⟨U9,hk,hna,hr⟩:=h5;have FG:(ρ x).cells.size=sz:=by rw[<-hna];simpa using hr.1
   have Zc:=PM hI hr;obtain⟨c,hc⟩:∃c,es[i]?=some c:=⟨_,AR aa0⟩;have hcl:=hl c (Ax hc);have IF:i*sz+sz<=es.flatten.length:=by
    rw[Dk hl,hn]
    have:=Bx sz (show i+1<=n from hi)
    grind
   have hfl:=Mt hl hc 0 (U9.map (str ‹Nat->HO›)) (by simp_all);rw[iG _ _ (by simp_all),HH]at hfl;have EN:=h.over Zc (i*sz) (by simp_all);have p6:xs.size=es.flatten.length:=by have:=h.1;omega
   have e:=N5 (ρ x).cells.toList 0 (i*sz) xs (by simp_all);simp only[HH]at e;rw[<-e,<-hfl]at EN;obtain⟨E7,X4,k1,k2,k3,k4,k5⟩:=YH ht (es:=es.set i (U9.map (str _))) (by simp_all) (fun c' zt=>by
    grind) EN hk
   refine⟨E7,X4,k1,k2,k3,k4,?_⟩;simp only[Bv,Instr.fill]
   grind [Array.toList_zipIdx]
  simp_all
theorem SO(hT:BY P cx.T){d:Option Nat}{ty n:Nat}{t:Nat->AV}{ρ:Operand->Value}(ht:∀x:Operand,AY g w (Az h) (ev t x) (ρ x)){ps:Array (Nat×Operand)}(hk:Iz cx d h ty n t ps.toList K):NU P w0 g0 h0 h g w (Instr.buildSlice ty n (ps.map fun(i,x)=>(i,ρ x))) K:=by
 unfold Iz at hk;split at hk
 .rename_i e hs;split at hk
  .rename_i Xw jB;have jB:=AW jB;split at hk
   .simp_all
   .rename_i m hm;split at hk
    .rename_i IF;have IF:=Gm IF;have tX:(cx.T e).zc≠[]:=fun e0=>by simp_all
     have rN:∀c∈List.replicate n ((cx.T e).zc.map AV.v),c.length=(cx.T e).size:=fun c hc=>by simp_all
     have xI:Ca g w Fs (List.replicate n ((cx.T e).zc.map AV.v)).flatten ((Array.range (n*(cx.T e).size)).map fun k=>(cx.T e).zc.toArray[k % (cx.T e).zc.toArray.size]!).toList:=by
      have e1:((Array.range (n*(cx.T e).size)).map fun k=>(cx.T e).zc.toArray[k % (cx.T e).zc.toArray.size]!).toList=(List.replicate n (cx.T e).zc).flatten:=by
       rw[H6 n _ tX];simp_all
      have e2:(List.replicate n ((cx.T e).zc.map AV.v)).flatten=(List.replicate n (cx.T e).zc).flatten.map AV.v:=by
       simp_all
      rw[e1,e2];refine Ca.vals ?_;have GI:∀l:List AV,(∀a∈l,one a=true)->G9 l=true:=by
       intro l
       induction l<;>grind [G9]
      grind [MY]
     obtain⟨E7,X4,k1,k2,k3,k4,k5⟩:=YH hI ht (by simp_all) rN xI hk;have p6:X4.size=n*(cx.T e).size:=by
      have:=k4.1
      grind [Dk]
     obtain⟨g',av,h',q1,q2,q3,q4⟩:=Ka hI k1 (vs:=X4) (cap:=n) e k3 aa0 p6 (by
      grind [Array.length_toList]) w ⟨rfl,rfl,rfl,rfl⟩
     rw[k2]at q4;refine⟨_,_,g',av,h',?_,q1,q2,q3,q4⟩;obtain⟨z,z1,z2⟩:=WN hT (w:=w) hm;have FG:=hT.size1 w hm;have e3:(Array.map (fun x:Nat×Operand=>match x with | (i,x)=>(i,ρ x)) ps).toList=ps.toList.map fun(i,x)=>(i,ρ x):=by simp
     have Acj:¬(n*(m+1)>2 ^ 24):=by simp_all
     simp only[Instr.buildSlice,Sem.run_bind,run_underlying (hT.slice hs),Result.andThen_ok,FG,AI Acj];rw[e3];rw[hm]at k5
     by_cases h0:n*(m+1)=0
     .have vq:n=0:=by
       grind
      subst vq;have er:Array.range 0=#[]:=rfl;simp only[Nat.zero_mul,er,List.map_toArray,IM]at k5;simp only[Nat.zero_mul,if_true,er,List.map_toArray,IM,k5];simp[newRow]
     .rw[z2]at k5;simp only[Array.toArray_toList]at k5;simp only[AI h0,Sem.run_bind,z1,Result.andThen_ok,Sem.run_pure,k5];simp[newRow]
    simp_all
  simp_all
 simp_all
end
theorem F0{sz:Nat}:∀{es:List (List AV)},A7 sz es->∀c∈es,c.length=sz
 | [],_,c,h=>by cases h
 |d::es,h,c,hc=>by
  rcases AF.1 hc with rfl | hc
  .exact h.1
  .exact F0 h.2 c hc
def OL(w:World)(x:Value)(n sz:Nat)(news:List Value):Prop:=
 news.length=n*sz/\(∀v∈news,v.oneCell'=true)/\∃(a:Option Addr) (c:Nat),x=.slice a n c/\(n=0\/∃b:Addr,a=some b/\∀j u,news[j]?=some u->w.cell? (b.add j)=some u)
theorem OL.of_rep{w:World}{sz:Nat}(h:AY g w U (.slice .none es) x)(hl:∀c∈es,c.length=sz) :
  ∃news,OL w x es.length sz news/\Ca g w Fs es.flatten news:=by
 cases h with
 |snil _ a cap=>exact⟨[],⟨by simp,by simp,a,cap,rfl,.inl rfl⟩,by simp,by simp,fun i av x h1 h2=>by simp_all⟩
 |slice _ _ b off HM cap val hc RT CT Ef=>
  have hf:=Dk hl;have key:∀j,j<es.length*sz->∃cs,es[j / sz]?=some cs/\es.flatten[j]?=cs[j % sz]?/\j % sz<cs.length/\HM=sz/\j=j / sz*sz+j % sz:=by
   intro j hj
   grind [Nat.pos_of_ne_zero,Nat.div_add_mod,Nat.div_lt_iff_lt_mul,Nat.mod_lt,FD]
  have AbU:∀j,j<es.length*sz->∃av,es.flatten[j]?=some av/\w.cell? ⟨b,off+j,none⟩=some (val (j / sz) (j % sz))/\(val (j / sz) (j % sz)).oneCell'=true/\AY g w Fs av (val (j / sz) (j % sz)):=by
   intro j hj;obtain⟨cs,k1,k2,k3,rfl,k5⟩:=key j hj;have tn:cs[j % HM]?=some cs[j % HM]:=AR k3;obtain⟨_,c2,c3⟩:=CT _ _ _ _ k1 tn;rw[Nat.add_assoc,<-k5]at c2;exact⟨_,k2.trans tn,c2,c3,Ef _ _ _ _ k1 tn⟩
  refine⟨(List.range (es.length*sz)).map fun j=>val (j / sz) (j % sz),⟨by simp,fun v hv=>?_,some ⟨b,off,none⟩,cap,rfl,.inr ⟨_,rfl,fun j u hu=>?_⟩⟩,by simp_all,fun v hv=>?_,fun i av x h1 h2=>?_⟩
  .grind
  .obtain⟨hj,rfl⟩:=Vp hu;rw[Addr.add_lit];simp_all
  all_goals grind
section
variable {P:Program}{T:G0}(hT:BY P T)
include hT
theorem HT{n:Nat}(hs:(T e).size=n+1):∃i z,P.info? e=some i/\i.zero=some z/\i.size=(T e).size/\i.bytes=(T e).bytes/\(T e).zc=z.cells.toList:=by
 rcases hT e with h | h
 .rw[h]at hs;cases hs
 grind [jm,TI.zc_cells]
theorem IT(w:World){t ty k:Nat}(ht:(T t).d=.slice e)(hk:(T e).size=k+1)(a a' : Option Addr)(n cap c:Nat)(hc:n<=cap) :
  (Builtin.append_ #[t,t] ty #[.slice a n cap,.slice a' 0 c]).run P w=.ok (.slice a n cap) w:=by
 have hu:=hT.slice ht;cases a<;>cases a'<;>simp[Builtin.append_,run_underlying hu,hT.size1 w hk,Builtin.lenOf,hc,Builtin.firstCells,loadCells,loadCellsFrom,storeCells]
theorem H7(w:World){t ty k:Nat}(ht:(T t).d=.slice e)(hk:(T e).size=k+1)(hz:(T e).zc.length=(T e).size){s:Value}{n m cap c:Nat}{news:List Value}{a a' : Option Addr}(hso:OL w s n (T e).size olds)(hs:s=.slice a n cap)(KH:a=none->cap=0)(hsx:OL w x m (T e).size news)(hx:x=.slice a' m c)(hm:0<m)(hg:cap<n+m)(hb:(n+m)*(T e).bytes<=140737488355328)(h63:n+m<=9223372036854775807) :
  ∃nc rest,(Builtin.append_ #[t,t] ty #[s,x]).run P w=.ok (.slice (some ⟨w.heap.size,0,none⟩) (n+m) nc) (w.drew.alloc (.cells (olds++news++rest).toArray e (0,0)))/\n+m<=nc /\
   (olds++news++rest).length=nc*(T e).size:=by
 obtain⟨i,z,i1,i2,i3,i4,i5⟩:=HT hT hk;have hu:=hT.slice ht;obtain⟨n1,n2,a1,c1,n3,n4⟩:=hsx;subst hx;cases n3;rcases n4 with h | ⟨b,rfl,I0⟩
 .omega
 .have jB:z.cells.size=(T e).size:=by simp_all
  have dR:∀(nc:Nat) (pre:List Value),pre.length=(n+m)*(T e).size->n+m<=nc->(pre++(Builtin.zeroCells z.cells (nc-(n+m))).toList).length=nc*(T e).size:=by
   intro nc pre hp IF;have e1:(Builtin.zeroCells z.cells (nc-(n+m))).toList.length=(nc-(n+m))*(T e).size:=by grind [size_zeroCells]
   rw[Ay,e1,hp,<-Mi];simp_all
  obtain⟨o1,o2,a2,c2,o3,o4⟩:=hso;subst hs;cases o3;cases a with
  |none=>
   obtain rfl:=KH rfl;have vq:n=0:=by
    simp_all
   subst vq;have ho:olds=[]:=Aw aa0;subst ho;have hr:=run_append_nil (P:=P) w t ty e i z hu i1 i2 b m c news (by simp_all) I0 hm aa0 (by grind);refine⟨grownCap w m 0 e,(Builtin.zeroCells z.cells (grownCap w m 0 e-m)).toList,?_,by rw[HI];exact grownCap_ge w m 0 e,?_⟩
   .rw[hr,HI]
    congr 3
    simp_all
   .have:=dR (grownCap w m 0 e) news (by simp_all) (by rw[HI];exact grownCap_ge w m 0 e)
    simp_all
  |some b'=>
   have E2:∀j u,olds[j]?=some u->w.cell? (b'.add j)=some u:=by
    grind
   have hr:=run_append_grow (P:=P) w t ty e i z hu i1 i2 b' n cap olds (by simp_all) E2 b m c news (by simp_all) I0 hg aa0 (by rw[i4];exact growslice_fits hg hb);refine⟨grownCap w (n+m) cap e,(Builtin.zeroCells z.cells (grownCap w (n+m) cap e-(n+m))).toList,?_,grownCap_ge w (n+m) cap e,dR _ _ (by grind) (grownCap_ge w (n+m) cap e)⟩;rw[hr]
   congr 3
   simp_all
end
theorem Ca.app{w:World}{U9 bs:List AV}{xs ys:List Value}(h:Ca g w U U9 xs)(k:Ca g w U bs ys):Ca g w U (U9++bs) (xs++ys):=by
 refine⟨by simp[h.1,k.1],fun x hx=>(Bc.1 hx).elim (h.2.1 x) (k.2.1 x),fun i av x h1 h2=>?_⟩
 by_cases hi:i<U9.length
 .rw[D1 hi]at h1;rw[D1 (by rw[h.1];exact hi)]at h2;exact h.2.2 i av x h1 h2
 .rw[BQ aa0]at h1;rw[BQ (by rw[h.1];omega),h.1]at h2;exact k.2.2 _ av x h1 h2
theorem jl(P:Program)(g o:Nat)(t:TypeId)(fz:Nat×Nat)(vs:List Value):∀(i:Nat) (Ej:Array Value) (w:World),w.heap[g]?=some (.cells Ej t fz)->(fz=(0,0)\/Ej.size<=fz.1)->o+i+vs.length<=Ej.size->(∀v∈vs,v.oneCell'=true) ->
  (storeCells ⟨g,o,none⟩ vs i).run P w=.ok () (w.setRow g (Ej.toList.take (o+i)++vs++Ej.toList.drop (o+i+vs.length)).toArray):=by
 induction vs with
 |nil=>
  intro i Ej w hg _ _ _;have e:(Ej.toList.take (o+i)++[]++Ej.toList.drop (o+i+([]:List Value).length)).toArray=Ej:=by simp
  rw[e,setRow_self w g Ej t fz hg];rfl
 |cons v rest ih=>
  intro i Ej w hg hf hl h1;simp only[BF]at hl;have hi:o+i<Ej.size:=by omega
  have ha:(⟨g,o,none⟩:Addr).add i=⟨g,o+i,none⟩:=Addr.add_lit ..;have hc:w.cell? ⟨g,o+i,none⟩=some Ej[o+i]:=by grind [World.cell?]
  have hz:w.frozen? ⟨g,o+i,none⟩=false:=by
   grind [World.frozen?]
  have h2:(store ((⟨g,o,none⟩:Addr).add i) v).run P w=.ok () (w.setRow g (Ej.setIfInBounds (o+i) v)):=by
   grind [run_store,setCell_eq_setRow]
  have h3:=ih (i+1) (Ej.setIfInBounds (o+i) v) (w.setRow g (Ej.setIfInBounds (o+i) v)) (setRow_heap w g Ej _ t _ hg) (by simp_all) (by grind) fun x hx=>h1 x (Ai _ hx);have e:(Ej.setIfInBounds (o+i) v).toList.take (o+(i+1))++rest++(Ej.setIfInBounds (o+i) v).toList.drop (o+(i+1)+rest.length)=Ej.toList.take (o+i)++v::rest++Ej.toList.drop (o+i+(v::rest).length):=by
   simpa[Array.toList_setIfInBounds,Nat.add_assoc]using list_seg_step Ej.toList (o+i) v rest aa0
  rw[storeCells,Sem.run_bind,h2,Result.andThen_ok,h3,setRow_setRow,e]
section
variable {P:Program}{w0:World}{g0:Gh}{h0 h:Nat->HO}{g:Gh}{w:World}(hI:Cw w0 g0 h0 h g w)
include hI
omit hI in
theorem QM(t ty e:TypeId)(i:TypeInfo)(ht:P.underlying t=some (.slice e))(hi:P.info? e=some i)(g Oy cO:Nat)(Ej:Array Value)(hg:w.heap[g]?=some (.cells Ej E (0,0)))(a:Addr)(m c:Nat)(news:List Value)(hl:news.length=m*i.size)(I0:∀j u,news[j]?=some u->w.cell? (a.add j)=some u)(h1:∀u∈news,u.oneCell'=true)(LR:Oy+m<=cO)(pQ:Oy*i.size+news.length<=Ej.size) :
  (Builtin.append_ #[t,t] ty #[.slice (some ⟨g,0,none⟩) Oy cO,.slice (some a) m c]).run P w =
   .ok (.slice (some ⟨g,0,none⟩) (Oy+m) cO) (w.setRow g (Ej.toList.take (Oy*i.size)++news++Ej.toList.drop (Oy*i.size+news.length)).toArray):=by
 have hf:=run_firstCells_some (P:=P) w i.size m a m c news hl I0;have Gw:=run_storeCells_at P g (Oy*i.size) E news 0 Ej w hg aa0 h1;simp only[HH]at Gw;simp[Builtin.append_,run_underlying ht,sizeOf,typeInfo,hi,Builtin.lenOf,LR,hf,Addr.add_lit,Gw]
omit hI in
theorem UG(t ty e:TypeId)(i:TypeInfo)(ht:P.underlying t=some (.slice e))(hi:P.info? e=some i)(g off Oy cO:Nat)(Ej:Array Value){fz:Nat×Nat}(hg:w.heap[g]?=some (.cells Ej E fz))(hfz:fz=(0,0)\/Ej.size<=fz.1)(a:Addr)(m c:Nat)(news:List Value)(hl:news.length=m*i.size)(I0:∀j u,news[j]?=some u->w.cell? (a.add j)=some u)(h1:∀u∈news,u.oneCell'=true)(LR:Oy+m<=cO)(pQ:off+Oy*i.size+news.length<=Ej.size) :
  (Builtin.append_ #[t,t] ty #[.slice (some ⟨g,off,none⟩) Oy cO,.slice (some a) m c]).run P w =
   .ok (.slice (some ⟨g,off,none⟩) (Oy+m) cO) (w.setRow g (Ej.toList.take (off+Oy*i.size)++news++Ej.toList.drop (off+Oy*i.size+news.length)).toArray):=by
 have hf:=run_firstCells_some (P:=P) w i.size m a m c news hl I0;have Gw:=jl P g (off+Oy*i.size) E fz news 0 Ej w hg hfz aa0 h1;simp only[HH]at Gw;simp[Builtin.append_,run_underlying ht,sizeOf,typeInfo,hi,Builtin.lenOf,LR,hf,Addr.add_lit,Gw]
omit hI in
theorem qN{b off n m sz cap:Nat}{fz:Nat×Nat}{news:List Value}(hb:w.heap[b]?=some (.cells Ej E fz))(pN:Ej.size=off+cap*sz)(hn:n<=cap)(hm:n+m<=cap)(hnl:news.length=m*sz)(hol:olds.length=n*sz)(E2:∀j u,olds[j]?=some u->w.cell? ⟨b,off+j,none⟩=some u) :
  (Ej.toList.take (off+n*sz)++news++Ej.toList.drop (off+n*sz+news.length)).length=off+cap*sz /\
  ((Ej.toList.take (off+n*sz)++news++Ej.toList.drop (off+n*sz+news.length)).drop off).take ((n+m)*sz)=olds++news /\
  ∀o,o<off+n*sz->(Ej.toList.take (off+n*sz)++news++Ej.toList.drop (off+n*sz+news.length)).toArray[o]?=Ej[o]?:=by
 have hcl:Ej.toList.length=off+cap*sz:=by omega
 have Xv:(n+m)*sz<=cap*sz:=Bx _ hm;have rO:n*sz<=cap*sz:=Bx _ hn;rw[Mi]at Xv;have Pi:(Ej.toList.take (off+n*sz)).drop off=olds:=by
  apply CR;intro j
  by_cases hj:j<n*sz
  .rw[F9,RO aa0]
   grind [Gc]
  simp_all
 have yb:(Ej.toList.take (off+n*sz)).length=off+n*sz:=by simp_all
 refine⟨?_,?_,fun o ho=>?_⟩
 .grind
 .rw[Kr,List.drop_append_of_le_length aa0,Pi,<-Kr,JN (by grind)]
 grind
omit hI in
theorem nq{b n m sz cap:Nat}{news:List Value}(hb:w.heap[b]?=some (.cells Ej E (0,0)))(pN:Ej.size=cap*sz)(hn:n<=cap)(hm:n+m<=cap)(hnl:news.length=m*sz)(hol:olds.length=n*sz)(E2:∀j u,olds[j]?=some u->w.cell? ⟨b,j,none⟩=some u) :
  (Ej.toList.take (n*sz)++news++Ej.toList.drop (n*sz+news.length)).length=cap*sz /\
  (Ej.toList.take (n*sz)++news++Ej.toList.drop (n*sz+news.length)).take ((n+m)*sz)=olds++news /\
  ∀o,o<n*sz->(Ej.toList.take (n*sz)++news++Ej.toList.drop (n*sz+news.length)).toArray[o]?=Ej[o]?:=by
 have hcl:Ej.toList.length=cap*sz:=by omega
 have Xv:(n+m)*sz<=cap*sz:=Bx _ hm;have rO:n*sz<=cap*sz:=Bx _ hn;rw[Mi]at Xv;have Pi:Ej.toList.take (n*sz)=olds:=by
  apply CR
  grind [Gc]
 have yb:(Ej.toList.take (n*sz)).length=n*sz:=by simp_all
 refine⟨?_,?_,fun o ho=>?_⟩
 all_goals grind [Nat.add_mul]
theorem VE{r n sz:Nat}(he:h r=.arr sz es)(hx:AY g w (Az h) (.msl r n) x)(hn:n=es.length) :
  x=g.ρ r/\∃news,OL w x es.length sz news/\Ca g w Fs es.flatten news:=by
 have ho:=hI.objs r;rw[he]at ho;obtain⟨t1,l1,al,a1⟩:=ho;cases hx with
 |msl _ _ _ a cap hu ht bM ha RU=>
  have e:=RU (hn.trans l1.symm);refine⟨e,?_⟩;rw[e];rcases a1 with ⟨rfl,e2,e3⟩ | ⟨b,Mk,E,vs,e1,e2,e3,e4,e5,e6,e7⟩
  .exact⟨[],⟨by simp,by simp,none,0,e2,.inl rfl⟩,by simp,by simp,fun i av x h1 h2=>by simp_all⟩
  .have pN:vs.toList.length=Mk*sz:=by omega
   have IF:es.length*sz<=vs.toList.length:=by rw[pN];exact Bx _ e3
   refine⟨vs.toList.take (es.length*sz),⟨by simp_all,e6.2.1,_,_,e1,.inr ⟨_,rfl,fun j u hj=>?_⟩⟩,e6⟩
   grind [Addr.add_lit,Gc]
theorem gg{sz:Nat}{x:AV}{K:List (List AV)->Prop}(hx:AY g w (Az h) x vx)(hk:Li h x K) :
  ∃es,K es/\((∀c∈es,c.length=sz)->∃news,OL w vx es.length sz news/\Ca g w Fs es.flatten news):=by
 unfold Li at hk;split at hk
 .exact⟨_,hk,fun hl=>OL.of_rep hx.slice_none hl⟩
 .obtain rfl:=hx.v_eq;exact⟨[],hk,fun _=>⟨[],⟨by simp,by simp,none,0,rfl,.inl rfl⟩,by simp,by simp,fun i av x h1 h2=>by simp_all⟩⟩
 .rename_i r n;split at hk
  .rename_i HM es e;obtain⟨hn,hk⟩:=hk;refine⟨es,hk,fun hl=>?_⟩;obtain⟨_,news,n1,n2⟩:=VE hI e hx hn;refine⟨news,?_,n2⟩
   have:news.length=es.length*sz:=by rw[n2.1,Dk hl]
   exact⟨this,n1.2.1,n1.2.2⟩
  simp_all
 simp_all
theorem ir{d:Option Nat}{sz:Nat}(hk:E8 cx d h sz [] K) :
  ∃g' av h',K av h'/\Cw w0 g0 h0 h' g' w/\Le h g w h' g' w/\AY g' w (Az h') av (.slice none 0 0):=by
 have base:∀(d:Nat) (o' : HO),h d=.free->o'≠.free->(∀g' : Gh,g'.ρ d=.slice none 0 0->g'.ln d=0->g'.tk d=true->g'.own d=none->DO g' w (Az (AC h d o')) d o') ->
   Cw w0 g0 h0 (AC h d o') (g.upd d (.slice none 0 0) 0 true none g.S) w/\Le h g w (AC h d o') (g.upd d (.slice none 0 0) 0 true none g.S) w:=by
  intro d o' hd D8 L8;refine hI.upd d o' _ _ _ _ _ w none ⟨rfl,rfl,rfl,Ao _⟩ (fun _ _ _=>rfl) (fun b e=>by cases e) (fun _ _ h=>h) (fun _ _ h=>.inl h) (fun b o e=>by cases e) (fun b _ e=>by cases e) D8 (fun hu=>absurd hd hu) (fun _ _=>?_)
  grind [Bh]
 unfold E8 at hk;split at hk
 .simp_all
 .rename_i d;generalize Kk cx d=d1 at hk;split at hk
  .rename_i hd;split at hk
   .obtain⟨k1,k2⟩:=base d1 (.arr sz []) hd aa1 (fun g' u1 u2 u3 u4=>⟨u3,u2,by simp,.inl ⟨rfl,u1,u4⟩⟩);exact⟨_,_,_,hk,k1,k2,.msl _ d1 0 none 0 (by grind [Az,AS]) (by simp[Gh.upd]) (Ap _) (.inl rfl) (fun _=>by simp[Gh.upd])⟩
   .obtain⟨k1,k2⟩:=base d1 (.tok sz 0) hd aa1 (fun g' u1 u2 u3 u4=>⟨u3,u2,none,0,u1,.inl ⟨rfl,u4⟩⟩);exact⟨_,_,_,hk,k1,k2,.tok _ d1 sz [] _ (.snil _ _ _) aa1 (by grind [Az,AS]) (by simp[Gh.upd]) (Ap _) (fun _=>by simp[Gh.upd])⟩
  simp_all
theorem aU(hT:BY P cx.T){d:Option Nat}{t ty:Nat}{s x:AV}{vs:Value}(hs:AY g w (Az h) s vs)(hx:AY g w (Az h) x vx)(hk:Iq cx d h t s x K) :
  NU P w0 g0 h0 h g w (Builtin.append_ #[t,t] ty #[vs,vx]) K:=by
 unfold Iq at hk;split at hk
 .rename_i e ht;split at hk
  .simp_all
  .rename_i hz;have hz:=AW hz;split at hk
   .simp_all
   .rename_i k FG;have h5:=gg hI (sz:=(cx.T e).size) hx hk
    clear hk
    obtain⟨es2,hk,h6⟩:=h5;split at hk
    .obtain⟨⟨q1,q2,q3⟩,hk⟩:=hk;obtain rfl:=hs.v_eq;obtain⟨news,n1,n2⟩:=h6 (F0 q1);obtain⟨m1,m2,a,c,rfl,m4⟩:=n1
     by_cases hm:es2.length=0
     .obtain rfl:=Aw hm;obtain⟨g',av,h',k1,k2,k3,k4⟩:=ir hI hk;exact⟨_,w,g',av,h',IT hT w ht FG none a 0 0 c (Ao _),k1,k2,k3,k4⟩
     .obtain⟨nc,rest,r1,r2,r3⟩:=H7 hT w (ty:=ty) ht FG hz (olds:=[]) (a:=none) (n:=0) (cap:=0) ⟨by simp,by simp,none,0,rfl,.inl rfl⟩ rfl (fun _=>rfl) ⟨m1,m2,a,c,rfl,m4⟩ rfl aa0 aa0 (by simp_all) aa0;obtain⟨g',av,h',k1,k2,k3,k4⟩:=Ka hI hk (vs:=([]++news++rest).toArray) (cap:=nc) e (F0 q1) aa0 aa0 (by
       simp_all) w.drew ⟨rfl,rfl,rfl,rfl⟩
      rw[HI]at r1;exact⟨_,_,g',av,h',r1,k1,k2,k3,k4⟩
    .rename_i HM es;split at hk
     .rename_i U3;obtain U3:=AW U3;obtain⟨⟨q1,q2,q3,q4⟩,hk⟩:=hk;obtain⟨news,n1,n2⟩:=h6 (F0 q1);obtain⟨m1,m2,a2,c2,rfl,m4⟩:=n1;cases hs with
      |full _ _ _ _ hr bL RU=>
       obtain⟨a,rfl⟩:=RU;have GI:∀c∈es++es2,c.length=(cx.T e).size:=fun c hc=>(Bc.1 hc).elim (fun h=>(bL c h).trans U3) (F0 q1 c);obtain⟨olds,o1,o2⟩:=OL.of_rep hr (sz:=(cx.T e).size) (fun c hc=>(bL c hc).trans U3);have Jh:=o2.app n2;rw[<-Df]at Jh;have ha:a=none->es.length=0:=by
        rintro rfl
        obtain⟨p1,p2,a',c',p3,p4⟩:=o1<;>grind
       obtain⟨nc,rest,r1,r2,r3⟩:=H7 hT w (ty:=ty) ht FG hz o1 rfl ha ⟨m1,m2,a2,c2,rfl,m4⟩ rfl q2 aa0 q3 q4;obtain⟨g',av,h',k1,k2,k3,k4⟩:=Ka hI hk (vs:=(olds++news++rest).toArray) (cap:=nc) e GI (by simp_all) aa0 (by
        rw[show(olds++news++rest).toArray.toList=olds++news++rest from rfl,JN (by rw[Ay,Ay,o1.1,m1,Mi])];exact Jh) w.drew ⟨rfl,rfl,rfl,rfl⟩
       rw[Ay]at k4;exact⟨_,_,g',av,h',r1,k1,k2,k3,k4⟩
     simp_all
    .rename_i r HM es;have ho:=hI.objs r;split at hk
     .rename_i sz n e0;rw[e0]at ho;split at hk
      .rename_i U3 AcG;obtain rfl:=AW AcG;obtain U3:=AW U3;obtain⟨⟨q1,q2,q3,q4⟩,hk⟩:=hk;rw[U3]at q1;obtain⟨news,n1,n2⟩:=h6 (F0 q1);obtain⟨m1,m2,a2,c2,rfl,m4⟩:=n1;obtain⟨t1,l1,a,cap,a1,a3⟩:=ho;have hl:(h r).live:=by rw[e0];trivial
       have GI:∀c∈es++es2,es.length=n->True:=fun _ _ _=>trivial;cases hs with
       |tok _ _ _ _ _ hr bL hu ht' hn RU=>
        have hv:=RU (q2.trans l1.symm);rw[a1]at hv;subst hv;subst q2;have GI:∀c∈es++es2,c.length=HM:=fun c hc=>(Bc.1 hc).elim (bL c) (fun h=>(F0 q1 c h).trans U3.symm);obtain⟨olds,o1,o2⟩:=OL.of_rep hr bL;have Jh:=o2.app n2;rw[<-Df]at Jh;have dM:es.length<=cap:=by omega
        by_cases hm:es2.length=0
        .obtain rfl:=Aw hm;have L8:=hI.objs r;rw[e0]at L8
         obtain⟨k1,k2⟩:=hI.upd r (.tok HM (es.length+([]:List (List AV)).length)) (g.ρ r) (g.ln r) (g.tk r) (g.own r) g.S w none ⟨rfl,rfl,rfl,Ao _⟩ (fun _ _ _=>rfl) (fun b e=>by cases e) (fun _ _ h=>h) (fun _ _ h=>.inl h) (fun b o e=>by cases e)
          (fun b _ e=>⟨(hI.loc r b hl e).1,.inl ⟨hl,e⟩⟩) aa1 (fun _=>⟨rfl,Ao _,fun _=>rfl,fun _=>rfl⟩) (fun hg IJ=>by
           obtain⟨u1,u2,u3,u4⟩:=Bh g r (g.ρ r) (g.ln r) (g.tk r) (g.own r) g.S;rw[BX,HH];exact L8.same IJ (fun i hi=>DA aa1 i hi) hg u1 u2 u3 u4 (fun b _ _=>⟨rfl,fun _ h=>h⟩))
         refine⟨_,w,_,_,_,IT hT w ht FG a a2 es.length cap c2 dM,hk,k1,k2,?_⟩
         grind [AY.tok,AY.le]
        .by_cases LR:es.length+es2.length<=cap
         .rcases a3 with ⟨e1,_⟩ | ⟨e1,b,E,Ej,off,rfl,e3,⟨fz,e4,efz⟩,e5,e6⟩
          .omega
          .rcases m4 with h | ⟨ba,rfl,I0⟩
           .omega
           .obtain⟨i,z,i1,i2,i3,i4,i5⟩:=HT hT FG;have Xv:(es.length+es2.length)*HM<=cap*HM:=Bx _ LR;have zB:news.length=es2.length*HM:=by simp_all
            have tB:i.size=HM:=i3.trans U3.symm;have Ct:=UG (P:=P) t ty e i (hT.slice ht) i1 b off es.length cap Ej e4 efz ba es2.length c2 news (by simp_all) I0 m2 LR (by grind);rw[tB]at Ct;have E2:∀j u,olds[j]?=some u->w.cell? ⟨b,off+j,none⟩=some u:=by
             obtain⟨p1,p2,a',c',p3,p4⟩:=o1;cases p3;intro j u hj;rcases p4 with h | ⟨b',h,h'⟩
             .simp_all
             .cases h
              have:=h' j u hj
              rwa [Addr.add_lit]at this
            obtain⟨p1,p2,p3⟩:=qN e4 e5 e1 LR zB o1.1 E2;generalize hnewd:Ej.toList.take (off+es.length*HM)++news++Ej.toList.drop (off+es.length*HM+news.length)=new at Ct p1 p2 p3;have EN:=setRow_heap w b Ej new.toArray E fz e4;have xg:=(hI.loc r b hl e3).1
            obtain⟨k1,k2⟩:=hI.upd r (.tok HM (es.length+es2.length)) (.slice (some ⟨b,off,none⟩) (es.length+es2.length) cap) (es.length+es2.length) (g.tk r) (g.own r) (g.more b (off+(es.length+es2.length)*HM)) (w.setRow b new.toArray) (some b)
             ⟨rfl,rfl,rfl,by simp_all⟩ (fun k _ D8=>setRow_other w b k _ (fun e=>D8 (by rw[e]))) (fun b' e=>by simp_all) (fun _ _ h=>.inl h)
             (fun b' o hs=>hs.elim .inl (fun hs=>.inr ⟨by simp_all,.inr ⟨hl,by simp_all⟩⟩))
             (fun b' o e hs=>by
              cases e
              refine⟨?_,fun es ck he=>by simp_all⟩;rw[Gc EN,Gc e4];simp_all) (fun b' _ e=>by
              simp_all) aa1 (fun _=>⟨rfl,by omega,fun e=>(by simp_all),fun e=>by omega⟩) (fun hg IJ=>by
              obtain⟨u1,u2,u3,u4⟩:=Bh g r (.slice (some ⟨b,off,none⟩) (es.length+es2.length) cap) (es.length+es2.length) (g.tk r) (g.own r) (g.more b (off+(es.length+es2.length)*HM));exact⟨u3.trans t1,u2,_,cap,u1,  .inr ⟨LR,b,E,_,off,rfl,u4.trans e3,⟨fz,EN,efz.imp id fun h=>by simp_all⟩,by omega,fun o ho=>by
               rcases ho with ho | ⟨_,ho⟩
               all_goals grind⟩⟩)
            have Ef:=AY.slice_off (g:=g.upd r (.slice (some ⟨b,off,none⟩) (es.length+es2.length) cap) (es.length+es2.length) (g.tk r) (g.own r) (g.more b (off+(es.length+es2.length)*HM))) (U:=Az (AC h r (.tok HM (es.length+es2.length)))) (cap:=cap) (es:=es++es2) EN GI (by simp_all) (by
             rw[Ay,show new.toArray.toList=new from rfl,p2];exact Jh.mono k2.keeps (fun _ h=>h) (fun _ h=>h.elim)) (fun o ho=>.inr ⟨rfl,by simp_all⟩)
            rw[Ay]at Ef;exact⟨_,_,_,_,_,Ct,hk,k1,k2,.tok _ r HM _ _ Ef GI (by unfold Az;rw[AS];simp) (by simp[Gh.upd,t1]) (by simp[Gh.upd]) (fun _=>by simp[Gh.upd])⟩
         .have lB:cap<es.length+es2.length:=by omega
          have ha:a=none->cap=0:=by
           rintro rfl
           rcases a3 with ⟨e1,_⟩ | ⟨_,b,_,_,_,e2,_⟩
           .obtain⟨p1,p2,a',c',p3,p4⟩:=o1<;>grind
           simp_all
          obtain⟨nc,rest,r1,r2,r3⟩:=H7 hT w (ty:=ty) ht FG hz (by rw[<-U3];exact o1) rfl ha ⟨m1,m2,a2,c2,rfl,m4⟩ rfl aa0 lB q3 q4;have EN:=Hj w.drew (.cells (olds++news++rest).toArray e (0,0)) (b:=w.heap.size) rfl
          obtain⟨k1,k2⟩:=hI.upd r (.tok HM (es.length+es2.length)) (.slice (some ⟨w.heap.size,0,none⟩) (es.length+es2.length) nc) (es.length+es2.length) (g.tk r) (some w.heap.size) (g.more w.heap.size ((es.length+es2.length)*HM))
           (w.drew.alloc (.cells (olds++news++rest).toArray e (0,0))) none
           ⟨rfl,rfl,rfl,by simp_all⟩ (fun k hk' _=>by rw[heap_alloc_old _ _ (by exact hk')];rfl) (fun b' e=>by cases e) (fun _ _ h=>.inl h)
           (fun b' o hs=>hs.elim .inl (fun hs=>.inr ⟨by simp_all,.inl aa0⟩))
           (fun b' o e=>by cases e) (fun b' _ e=>by simp_all) aa1 (fun _=>⟨rfl,by omega,fun e=>(by simp_all),fun e=>by omega⟩) (fun hg IJ=>by
            obtain⟨u1,u2,u3,u4⟩:=Bh g r (.slice (some ⟨w.heap.size,0,none⟩) (es.length+es2.length) nc) (es.length+es2.length) (g.tk r) (some w.heap.size) (g.more w.heap.size ((es.length+es2.length)*HM));exact⟨u3.trans t1,u2,_,nc,u1,.inr ⟨r2,w.heap.size,e,_,0,rfl,u4,.of EN,by simp_all,fun o ho=>by
             rcases ho with ho | ⟨_,ho⟩
             .have:=hI.slt _ _ ho;omega
             .omega⟩⟩)
          have Ef:=AY.slice_row (g:=g.upd r (.slice (some ⟨w.heap.size,0,none⟩) (es.length+es2.length) nc) (es.length+es2.length) (g.tk r) (some w.heap.size) (g.more w.heap.size ((es.length+es2.length)*HM))) (U:=Az (AC h r (.tok HM (es.length+es2.length)))) (cap:=nc) (es:=es++es2) EN GI (by simp_all) (by
           rw[Ay,show(olds++news++rest).toArray.toList=olds++news++rest from rfl,JN (by rw[Ay,o1.1,m1,U3,Mi])];exact Jh.mono k2.keeps (fun _ h=>h) (fun _ h=>h.elim)) (fun o ho=>.inr ⟨rfl,by simp_all⟩)
          rw[Ay]at Ef;exact⟨_,_,_,_,_,r1,hk,k1,k2,.tok _ r HM _ _ Ef GI (by grind [Az,AS]) (by grind [Gh.upd]) (by simp[Gh.upd]) (fun _=>by simp[Gh.upd])⟩
      simp_all
     simp_all
    .rename_i r n;have ho:=hI.objs r;split at hk
     .rename_i sz es e0;split at hk
      .rename_i U3;obtain U3:=AW U3;obtain⟨⟨q1,q2,q3,q4⟩,hk⟩:=hk;rw[U3]at q1;obtain⟨news,n1,n2⟩:=h6 (F0 q1);obtain⟨m1,m2,a2,c2,rfl,m4⟩:=n1;obtain⟨hv,olds,o1,o2⟩:=VE hI e0 hs q2.symm;have L8:=ho;rw[e0]at ho;obtain⟨t1,l1,al,a3⟩:=ho;have hl:(h r).live:=by rw[e0];trivial
       subst hv;have GI:∀c∈es++es2,c.length=sz:=fun c hc=>(Bc.1 hc).elim (al c) (fun h=>(F0 q1 c h).trans U3.symm);have Jh:=o2.app n2;rw[<-Df]at Jh;obtain⟨a,cap,hρ,dM,ha⟩:∃a cap,g.ρ r=.slice a es.length cap/\es.length<=cap/\(a=none->cap=0):=by
        grind
       by_cases hm:es2.length=0
       .obtain rfl:=Aw hm;rw[e0]at L8
        obtain⟨k1,k2⟩:=hI.upd r (.arr sz (es++[])) (g.ρ r) (g.ln r) (g.tk r) (g.own r) g.S w none ⟨rfl,rfl,rfl,Ao _⟩ (fun _ _ _=>rfl) (fun b e=>by cases e) (fun _ _ h=>h) (fun _ _ h=>.inl h) (fun b o e=>by cases e)
         (fun b _ e=>⟨(hI.loc r b hl e).1,.inl ⟨hl,e⟩⟩) aa1 (fun _=>⟨rfl,Ao _,fun _=>rfl,fun _=>rfl⟩) (fun hg IJ=>by
          obtain⟨u1,u2,u3,u4⟩:=Bh g r (g.ρ r) (g.ln r) (g.tk r) (g.own r) g.S;rw[DV];exact L8.same IJ (fun i hi=>DA aa1 i hi) hg u1 u2 u3 u4 (fun b _ _=>⟨rfl,fun _ h=>h⟩))
        refine⟨g.ρ r,w,_,_,_,?_,hk,k1,k2,?_⟩
        .rw[hρ];exact IT hT w ht FG a a2 es.length cap c2 dM
        grind [AY.le]
       .by_cases LR:es.length+es2.length<=cap
        .rcases a3 with ⟨rfl,e2,e3⟩ | ⟨b,Mk,E,Ej,e1,e2,e3,e4,e5,e6,e7⟩
         .grind
         .rw[e1]at hρ;simp only[Value.slice.injEq,true_and]at hρ;obtain⟨rfl,rfl⟩:=hρ;rcases m4 with h | ⟨ba,rfl,I0⟩
          .omega
          .obtain⟨i,z,i1,i2,i3,i4,i5⟩:=HT hT FG;have Xv:(es.length+es2.length)*sz<=Mk*sz:=Bx _ LR;have zB:news.length=es2.length*sz:=by simp_all
           have tB:i.size=sz:=i3.trans U3.symm;have Ct:=QM (P:=P) t ty e i (hT.slice ht) i1 b es.length Mk Ej e4 ba es2.length c2 news (by simp_all) I0 m2 LR (by grind);rw[tB]at Ct;have E2:∀j u,olds[j]?=some u->w.cell? ⟨b,j,none⟩=some u:=by
            obtain⟨p1,p2,a',c',p3,p4⟩:=o1<;>grind [Addr.add_lit]
           obtain⟨p1,p2,p3⟩:=nq e4 e5 e3 LR zB o1.1 E2;generalize hnewd:Ej.toList.take (es.length*sz)++news++Ej.toList.drop (es.length*sz+news.length)=new at Ct p1 p2 p3;have EN:=setRow_heap w b Ej new.toArray E (0,0) e4;have xg:=(hI.loc r b hl e2).1
           obtain⟨k1,k2⟩:=hI.upd r (.arr sz (es++es2)) (.slice (some ⟨b,0,none⟩) (es.length+es2.length) Mk) (es.length+es2.length) (g.tk r) (g.own r) g.S (w.setRow b new.toArray) (some b)
            ⟨rfl,rfl,rfl,by simp_all⟩ (fun k _ D8=>setRow_other w b k _ (fun e=>D8 (by rw[e]))) (fun b' e=>by simp_all) (fun _ _ h=>h) (fun _ _ h=>.inl h)
            (fun b' o e hs=>by simp_all) (fun b' _ e=>by
             simp_all) aa1 (fun _=>⟨rfl,by omega,fun e=>(by simp_all),fun e=>by omega⟩) (fun hg IJ=>by
             obtain⟨u1,u2,u3,u4⟩:=Bh g r (.slice (some ⟨b,0,none⟩) (es.length+es2.length) Mk) (es.length+es2.length) (g.tk r) (g.own r) g.S;refine⟨u3.trans t1,by simp_all,GI,.inr ⟨b,Mk,E,_,by simp_all,u4.trans e2,by simp_all,EN,by omega,?_,e7⟩⟩;rw[Ay,show new.toArray.toList=new from rfl,p2];exact Jh.mono IJ (fun _ h=>h) (fun _ h=>h.elim))
           rw[e1];exact⟨_,_,_,_,_,Ct,hk,k1,k2,.msl _ r _ _ _ (by unfold Az;rw[AS];simp) (by simp[Gh.upd,t1]) (by simp[Gh.upd]) (.inr ⟨_,rfl⟩) (fun _=>by simp[Gh.upd])⟩
        .have lB:cap<es.length+es2.length:=by omega
         obtain⟨nc,rest,r1,r2,r3⟩:=H7 hT w (ty:=ty) ht FG hz (by rw[<-U3];exact o1) hρ ha ⟨m1,m2,a2,c2,rfl,m4⟩ rfl aa0 lB q3 q4;have EN:=Hj w.drew (.cells (olds++news++rest).toArray e (0,0)) (b:=w.heap.size) rfl
         obtain⟨k1,k2⟩:=hI.upd r (.arr sz (es++es2)) (.slice (some ⟨w.heap.size,0,none⟩) (es.length+es2.length) nc) (es.length+es2.length) (g.tk r) (some w.heap.size) g.S
          (w.drew.alloc (.cells (olds++news++rest).toArray e (0,0))) none
          ⟨rfl,rfl,rfl,by simp_all⟩ (fun k hk' _=>by rw[heap_alloc_old _ _ (by exact hk')];rfl) (fun b' e=>by cases e) (fun _ _ h=>h) (fun _ _ h=>.inl h)
          (fun b' o e=>by cases e) (fun b' _ e=>by simp_all) aa1 (fun _=>⟨rfl,by omega,fun e=>(by simp_all),fun e=>by omega⟩) (fun hg IJ=>by
           obtain⟨u1,u2,u3,u4⟩:=Bh g r (.slice (some ⟨w.heap.size,0,none⟩) (es.length+es2.length) nc) (es.length+es2.length) (g.tk r) (some w.heap.size) g.S;refine⟨u3.trans t1,by simp_all,GI,.inr ⟨w.heap.size,nc,e,_,by simp_all,u4,by simp_all,EN,by simp_all,?_,fun o ho=>by have:=hI.slt _ _ ho;omega⟩⟩;rw[Ay,show(olds++news++rest).toArray.toList=olds++news++rest from rfl,JN (by rw[Ay,o1.1,m1,U3,Mi])];exact Jh.mono IJ (fun _ h=>h) (fun _ h=>h.elim))
         exact⟨_,_,_,_,_,r1,hk,k1,k2,.msl _ r _ _ _ (by grind [Az,AS]) (by grind [Gh.upd]) (by simp[Gh.upd]) (.inr ⟨_,rfl⟩) (fun _=>by simp[Gh.upd])⟩
      simp_all
     simp_all
    simp_all
 simp_all
theorem fZ(hT:BY P cx.T){d:Option Nat}{s t:Nat}{x:AV}(hx:AY g w (Az h) x vx)(hk:bq cx d h s t x K):NU P w0 g0 h0 h g w (convert s t vx) K:=by
 unfold bq at hk;split at hk
 .rename_i e b hs ht;split at hk
  .rename_i d he;generalize Kk cx d=d1 at hk;split at hk
   .rename_i hd;obtain rfl:=hx.v_eq;have Ct:=run_bytes_of_string (P:=P) w s t e b (hT.string hs) (hT.slice ht) (hT.int he);have KH:b.size<=grownCap w b.size 0 e:=grownCap_ge w b.size 0 e;generalize grownCap w b.size 0 e=cap at Ct KH;have CD:(K7 b).length=b.size:=by
     simp_all
    have hbl:b.data.toList.length=b.size:=by simp_all
    have dT:(bytesRow b cap).size=cap:=by
     show(b.data.map _++Array.replicate _ _).size=cap;simp_all
    have tV:(bytesRow b cap).toList.take ((K7 b).length*1)=b.data.toList.map fun c=>Value.int .u8 c.toNat:=by
     show(b.data.map _++Array.replicate _ _).toList.take _=_;simp_all
    have hfl:(K7 b).flatten=(b.data.toList.map fun c=>Value.int .u8 c.toNat).map AV.v:=by
     rw[B2]
     have:∀l:List UInt8,(l.map fun c=>[AV.v (.int .u8 c.toNat)]).flatten=l.map (AV.v ∘ fun c=>Value.int .u8 c.toNat):=fun l=>by
      induction l<;>simp_all
     simp_all
    have Xw:∀l:List UInt8,G9 ((l.map fun c=>Value.int .u8 c.toNat).map AV.v)=true:=fun l=>by
     induction l with
     |nil=>rfl
     |cons c l ih=>exact ih
    have hr:Ca g w Fs (K7 b).flatten ((bytesRow b cap).toList.take ((K7 b).length*1)):=by
     grind [Ca.vals]
    have hl:∀cs∈K7 b,cs.length=1:=fun cs hc=>by grind
    generalize bytesRow b cap=vs at Ct dT hr;rw[<-CD]at Ct KH;generalize K7 b=es at *
    have EN:(w.drew.alloc (.cells vs e (vs.size,vs.size+1))).heap[w.heap.size]?=some (.cells vs e (vs.size,vs.size+1)):=Hj w.drew _ rfl
    have vg:=hI.upd d1 (.tok 1 es.length) (.slice (some ⟨w.heap.size,0,none⟩) es.length cap) es.length true (some w.heap.size) (g.more w.heap.size (es.length*1)) (w.drew.alloc (.cells vs e (vs.size,vs.size+1))) none
     ⟨rfl,rfl,rfl,by simp_all⟩ (fun k hk' _=>by rw[heap_alloc_old _ _ (by exact hk')];rfl) (fun b e=>by cases e) (fun _ _ h=>.inl h)
     (fun b o hb=>by
      rcases hb with hb | ⟨rfl,_⟩<;>simp_all) (fun b o e=>by cases e)
     (fun b _ e=>by simp_all) aa1 (fun hu=>absurd hd hu) (fun hg IJ=>by
      obtain⟨u1,u2,u3,u4⟩:=Bh g d1 (.slice (some ⟨w.heap.size,0,none⟩) es.length cap) es.length true (some w.heap.size) (g.more w.heap.size (es.length*1));exact⟨u3,u2,_,cap,u1,.inr ⟨KH,w.heap.size,e,vs,0,rfl,u4,⟨_,EN,.inr (Ao _)⟩,by omega,fun o ho=>by
       rcases ho with ho | ⟨_,ho⟩
       .have:=hI.slt _ _ ho;omega
       .omega⟩⟩)
    obtain⟨k1,k2⟩:=vg;refine⟨_,_,_,_,_,Ct,hk,k1,k2,.tok _ d1 1 es _ (AY.slice_row EN hl KH (hr.mono k2.keeps (fun _ h=>h) (fun _ h=>h.elim)) (fun o ho=>.inr ⟨rfl,ho⟩)) hl (by grind [Az,AS]) ?_ ?_ ?_⟩<;>simp[Gh.upd]
   simp_all
  simp_all
 grind [Br.does,Yw]
end
end Go.Eng
