/- Lemmas 7. -/
import Derived.Test.YteaiieomnhbmgaaGreatDoorBA06
import Derived.Laws.IdiomStrings
namespace Go.Eng
variable {Ei:Array Value}{E:TypeId}{vx:Value}{olds:List Value}{K:HK}{es:C0}{x:Value}{cx:Cx}{α:Type}{U:Nat->Prop}{e:Nat}{T:GF}{g:Gh}(n:Nat)
theorem NC{α:Type}:∀(cs:List α) (o:Nat) (vs:List α),o+vs.length<=cs.length->over cs o vs=cs.take o++vs++cs.drop (o+vs.length)
 | [],o,vs,h=>by
  simp at h;obtain⟨rfl,rfl⟩:=h
  rfl
 |c::cs,o+1,vs,h=>by
  rw[over,NC cs o vs (by grind)]
  grind
 |c::cs,0,[],h=>by simp[over]
 |c::cs,0,v::vs,h=>by
  rw[over,NC cs 0 vs (by simp_all)];simp
theorem Xz(cs:List α)(o n:Nat)(vs:List α)(h:o+vs.length<=n)(hn:n<=cs.length):(over cs o vs).take n=over (cs.take n) o vs:=by
 apply Da
 grind [Gy]
theorem MM{n:Nat}:∀{es:List (List α)},(∀c∈es,c.length=n)->∀{i:Nat} {c:List α},es[i]?=some c->∀(o:Nat) (vs:List α),o+vs.length<=n ->
  (es.set i (over c o vs)).flatten=over es.flatten (i*n+o) vs
 | [],_,i,c,h,_,_,_=>by simp_all
 |d::es,hl,i,c,h,o,vs,Jr=>by
  have hd:=hl d (Af ..);have hfl:=Dv (es:=d::es) (n:=n) hl;have E3:=(Bf.1 h).1;have Afe:i*n+o+vs.length<=(d::es).flatten.length:=by
   rw[hfl]
   have:=Bn n (show i+1<=(d::es).length from E3)
   grind
  have hcl:=hl c (AB h);apply Da;intro j;rw[Gy _ _ _ _ Afe];have Ot:∀e∈(d::es).set i (over c o vs),e.length=n:=fun e he=>by
   rcases List.mem_or_eq_of_mem_set he with he | rfl
   .grind
   .rw[F4];exact hcl
  by_cases hn:n=0
  .subst hn;have h1:=Dv Ot;simp_all
  .have hdm:j=j / n*n+j % n:=by rw[Nat.mul_comm];exact(Nat.div_add_mod j n).symm
   have Aax:j % n<n:=Nat.mod_lt _ ch
   by_cases hj:j / n<(d::es).length
   .have g1:(d::es)[j / n]?=some ((d::es)[j / n]):=AY hj;have g2:((d::es).set i (over c o vs))[j / n]?=some (if i=j / n then over c o vs else(d::es)[j / n]):=by
     grind
    have f1:=Fe hl g1 Aax;have f2:=Fe Ot g2 Aax;rw[<-hdm]at f1 f2;rw[f1,f2];split
    .rename_i e;rw[e]at h;rw[g1]at h;cases h;rw[Gy _ _ _ _ ch];have e2:i*n+o<=j↔o<=j % n:=by rw[e];omega
     have e3:j<i*n+o+vs.length↔j % n<o+vs.length:=by rw[e];omega
     simp only[e2,e3];split
     .congr 1;rw[e];omega
     .rfl
    .rename_i e
     have:¬(i*n+o<=j/\j<i*n+o+vs.length):=by
      rintro⟨q1,q2⟩
      apply e;have a1:i*n<=j:=by omega
      have a2:j<(i+1)*n:=by grind
      have:=(Nat.le_div_iff_mul_le ch).2 a1
      have:=(Nat.div_lt_iff_lt_mul ch).2 a2
      omega
     grind
   .have hge:(d::es).length*n<=j:=by
     have:=Nat.not_lt.1 hj
     have:=(Nat.le_div_iff_mul_le ch).1 this
     omega
    have:¬(i*n+o<=j/\j<i*n+o+vs.length):=by omega
    rw[Az this,List.getElem?_eq_none (by rw[Dv Ot,Kd];exact hge),List.getElem?_eq_none ch]
theorem Qi{P:Program}(hT:Ci P T)(w:World){t b off:Nat}(hd:(T t).d≠.other)(hs:x.cells.toList.length=(T t).size)(h1:∀v∈x.cells.toList,v.oneCell'=true)(hb:w.heap[b]?=some (.cells Ei E (0,0)))(Jr:off+x.cells.toList.length<=Ei.size) :
  (Instr.storeAt t (.pointer (some ⟨b,off,none⟩)) x).run P w=.ok () (w.setRow b (over Ei.toList off x.cells.toList).toArray):=by
 have KR:=run_storeCells_at P b off E x.cells.toList 0 Ei w hb ch h1;simp only[HB]at KR;have dR : x.cells.size=(T t).size:=by omega
 rw[NC _ _ _ ch];simp only[Instr.storeAt,Sem.run_bind,Instr.sureAddr,Sem.run_pure,Result.andThen_ok,storeVar,hT.size w hd,dR,ne_eq,not_true_eq_false,if_false];exact KR
section
variable {P:Program}{w0:World}{g0:Gh}{h0 h:Nat->HO}{g:Gh}{w:World}(hI:CV w0 g0 h0 h g w)
include hI
theorem jd{d:Nat}(hd:h d=.free)(h1:h 1001=.free)(hn:d≠1001){vs:Array Value}(hv:vs=#[.pointer none,.slice none 0 0]) :
  ∃g',CV w0 g0 h0 (AL (AL h 1001 (.bbf 0)) d (.bld (.slice (.id 1001 1) []))) g' (w.alloc (.cells vs ZY (0,0)))/\Le h g w (AL (AL h 1001 (.bbf 0)) d (.bld (.slice (.id 1001 1) []))) g' (w.alloc (.cells vs ZY (0,0))) /\
   Ba g' (w.alloc (.cells vs ZY (0,0))) (AI (AL (AL h 1001 (.bbf 0)) d (.bld (.slice (.id 1001 1) [])))) (.ref d 0) (.pointer (some ⟨w.heap.size,0,none⟩)):=by
 obtain⟨k1,k2⟩:=hI.upd 1001 (.bbf 0) (.slice none 0 0) 0 true none g.S w none ⟨rfl,rfl,rfl,Ap _⟩ (fun _ _ _=>rfl) (fun b e=>by cases e) (fun _ _ h=>h) (fun _ _ h=>.inl h) (fun b o e=>by cases e)
  (fun b _ e=>by cases e) B0 (fun hu=>absurd h1 hu) (fun _ _=>⟨by simp[Gh.upd],by simp[Gh.upd],.inl ⟨rfl,by simp[Gh.upd],by simp[Gh.upd]⟩⟩)
 obtain⟨m1,m2⟩:=k1.newOwn (d:=d) (by grind [BW]) (.bld (.slice (.id 1001 1) [])) (.cells vs ZY (0,0)) (.pointer (some ⟨w.heap.size,0,none⟩)) 0 false w ⟨rfl,rfl,rfl,rfl⟩ B0
  (fun _ _=>by
   subst hv;refine⟨by simp[Gh.upd],w.heap.size,.pointer none,.slice none 0 0,by simp[Gh.upd],by simp[Gh.upd],heap_alloc_new w _,.inl rfl,?_,fun o hs=>?_⟩
   .refine .tok _ 1001 1 [] _ (.snil _ _ _) B0 ?_ ?_ (Al _) (fun _=>?_)
    .grind [AI,BW,A0]
    .simp[Gh.upd,Ne.symm hn]
    .simp[Gh.upd,Ne.symm hn]
   .have:=hI.slt _ _ hs;omega)
 exact⟨_,m1,k2.trans m2,.ref _ d 0 w.heap.size (by grind [AI,A0]) (by simp[Gh.upd]) (by simp[Gh.upd])⟩
theorem iV(hT:Ci P T){d:Option Nat}{e:Nat}(hk:TE T d h e K):Oc P w0 g0 h0 h g w (Instr.alloc e true (.tuple #[])) K:=by
 unfold TE at hk;split at hk
 .simp_all
 .split at hk
  .rename_i hd;split at hk
   .simp_all
   .rename_i Ek;split at hk
    .rename_i he;obtain rfl:=AZ he;split at hk
     .rename_i h1 hn hz;obtain⟨z,z1,z2,_⟩:=Ng hT (w:=w) Ek;have hv:z.cells=#[.pointer none,.slice none 0 0]:=by grind
      obtain⟨g',k1,k2,k3⟩:=jd hI hd h1 (fun e=>by simp_all) hv;refine⟨_,_,g',_,_,?_,hk,k1,k2,k3⟩;simp[Instr.alloc,z1,newVar,newRow]
     simp_all
    split at hk
    .rename_i ha;obtain⟨z,z1,z2,_⟩:=Ng hT (w:=w) Ek;have hr:Cs g w (AI h) ((T e).zc.map .v) z.cells.toList:=by grind [Cs.vals]
     obtain⟨g',k1,k2,k3⟩:=Sp hI hd (vs:=z.cells) e hr;refine⟨_,_,g',_,_,?_,hk,k1,k2,k3⟩;simp[Instr.alloc,z1,newVar,newRow]
    simp_all
  simp_all
theorem Qp{cs:List AV}{vs:List Value}(hr:Cs g w (AI h) cs vs):Cs g w Fp (cs.map (str h)) vs:=by
 refine⟨by rw[BK];exact hr.1,hr.2.1,fun i av x h1 h2=>?_⟩;rw[BH,Cr]at h1;obtain⟨a,a1,rfl⟩:=h1;exact(hr.2.2 i a x a1 h2).str hI.objs
theorem rh{d:Option Nat}{e:Nat}{x:AV}(hx:Ba g w (AI h) x vx)(hk:je cx d h e x K):Oc P w0 g0 h0 h g w (Instr.box e vx) K:=by
 unfold je at hk;split at hk
 .simp_all
 .split at hk
  .rename_i hd;split at hk
   .simp_all
   .obtain⟨cs,hk,hn,hr⟩:=Nl hx hk;split at hk
    .obtain⟨g',k1,k2,k3⟩:=oD hI hd (vs:=vx.cells) e (Qp hI hr);exact⟨_,_,g',_,_,rfl,hk,k1,k2,k3⟩
    .obtain⟨g',k1,k2,k3⟩:=Sp hI hd (vs:=vx.cells) e hr;exact⟨_,_,g',_,_,rfl,hk,k1,k2,k3⟩
  simp_all
theorem CV.write{r b:Nat}(hl:(h r).live)(ho:g.own r=some b)(o' : HO)(hb:w.heap[b]?=some (.cells Ei E (0,0)))(new:Array Value)(n:Nat)(ow:Option Nat)(S' : Nat->Nat->Prop)(Ek:o'≠.free)(hn:n=g.ln r)(how:∀b',ow=some b'->b'=b)(hS:∀b o,g.S b o->S' b o)(hSn:∀b' o,S' b' o->g.S b' o\/b'=b)(AhW:∀o,g.S b o->new[o]?=Ei[o]?)(Ml:KG g (g.upd r (g.ρ r) n (g.tk r) ow S') (AI h)->Eu g w (g.upd r (g.ρ r) n (g.tk r) ow S') (w.setRow b new)->(w.setRow b new).heap[b]?=some (.cells new E (0,0)) ->
   DR (g.upd r (g.ρ r) n (g.tk r) ow S') (w.setRow b new) (AI (AL h r o')) r o') :
  CV w0 g0 h0 (AL h r o') (g.upd r (g.ρ r) n (g.tk r) ow S') (w.setRow b new)/\Le h g w (AL h r o') (g.upd r (g.ρ r) n (g.tk r) ow S') (w.setRow b new):=by
 have EE:=setRow_heap w b Ei new E (0,0) hb;have E3:=(hI.loc r b hl ho).1
 refine hI.upd r o' _ _ _ _ _ _ (some b) ⟨rfl,rfl,rfl,by simp_all⟩ (fun k hk Ek=>setRow_other w b k new (fun e=>Ek (by rw[e]))) (fun b' e=>by simp_all) hS (fun b' o hs=>?_)
  (fun b' o e hs=>?_) (fun b' _ e=>?_) Ek (fun _=>⟨rfl,by omega,fun _=>rfl,fun _=>rfl⟩) (fun hg hk=>Ml hg hk EE)
 all_goals grind [F0]
theorem li(hT:Ci P cx.T){t:Nat}{p x:AV}{vp:Value}(hp:Ba g w (AI h) p vp)(hx:Ba g w (AI h) x vx)(hk:OT cx h t p x K) :
  lE P w0 g0 h0 h g w (Instr.storeAt t vp vx) K:=by
 unfold OT at hk;split at hk
 .simp_all
 .rename_i hd;have h5:=Nl hx hk
  clear hk
  obtain⟨vs,hk,hn,hr⟩:=h5;have Dd:vx.cells.toList.length=vs.length:=hr.1;split at hk
  .rename_i r off;have ho:=hI.objs r;split at hk
   .rename_i cs e;obtain⟨Jr,hk⟩:=hk;rw[e]at ho;obtain⟨t0,b,E,Ei,a1,a2,a3,a4,a5⟩:=ho;cases hp with
    |ref _ _ _ b' hu ht YR=>
     rw[a2]at YR;cases YR;have hcs:Ei.toList.length=cs.length:=a4.1;have CQ:=Qi hT w (t:=t) (off:=off) (x:=vx) hd ch hr.2.1 a3 (by simp_all);have hl:(h r).live:=by rw[e];trivial
     have wU:=a4.over hr off Jr;split at hk
     .obtain⟨k1,k2⟩:=hI.write hl a1 (.ro ((over cs off vs).map (str h))) a3 (over Ei.toList off vx.cells.toList).toArray (g.ln r) none (g.more b cs.length) B0 rfl (fun _ e=>by cases e) (fun _ _ h=>.inl h)
       (fun b' o hs=>hs.elim .inl (fun hs=>.inr hs.1)) (fun o hs=>absurd hs (a5 o)) (fun hg HF EE=>by
        obtain⟨u1,u2,u3,u4⟩:=Bl g r (g.ρ r) (g.ln r) (g.tk r) none (g.more b cs.length);refine⟨u3.trans t0,b,u1.trans a2,Ba.cptr_row EE ?_ (fun o ho=>.inr ⟨rfl,?_⟩)⟩
        .exact(Qp hI wU).mono HF (fun _ h=>h) (fun _ h=>h.elim)
        grind [F4])
      exact⟨_,_,_,CQ,hk,k1,k2⟩
     .obtain⟨k1,k2⟩:=hI.write hl a1 (.cells (over cs off vs)) a3 (over Ei.toList off vx.cells.toList).toArray (g.ln r) (g.own r) g.S B0 rfl (fun b' e=>by simp_all) (fun _ _ h=>h)
       (fun b' o hs=>.inl hs) (fun o hs=>absurd hs (a5 o)) (fun hg HF EE=>by
        obtain⟨u1,u2,u3,u4⟩:=Bl g r (g.ρ r) (g.ln r) (g.tk r) (g.own r) g.S;exact⟨u3.trans t0,b,E,_,u4.trans a1,u1.trans a2,EE,wU.mono HF (fun i hi=>DL B0 i hi) hg,a5⟩)
      exact⟨_,_,_,CQ,hk,k1,k2⟩
   simp_all
  .rename_i r n sz i off;have ho:=hI.objs r;split at hk
   .rename_i HE es e;rw[e]at ho;split at hk
    .rename_i hz;obtain rfl:=AZ hz;obtain⟨hnl,cs,hi,Jr,hk⟩:=hk;obtain⟨t1,l1,al,a1⟩:=ho;have E3:=(Bf.1 hi).1;rcases a1 with ⟨rfl,_⟩ | ⟨b,cap,E,Ei,e1,e2,e3,e4,e5,e6,e7⟩
     .simp_all
     .cases hp with
      |eref _ _ _ _ _ _ b' MA hu ht qE YR=>
       have YR:=YR (hnl.trans l1.symm);rw[e1]at YR;simp only[Value.slice.injEq,Dc,Addr.mk.injEq]at YR;obtain⟨⟨rfl,_,_⟩,_,_⟩:=YR;have hcl:=al cs (AB hi);have YN:i*sz+sz<=es.length*sz:=by
        have:=Bn sz (show i+1<=es.length from E3)
        grind
       have uN:es.length*sz<=cap*sz:=Bn sz e3;have CQ:=Qi hT w (t:=t) (off:=i*sz+off) (x:=vx) hd ch hr.2.1 e4 ch;have hl:(h r).live:=by rw[e];trivial
       have Aa5 : ∀c∈es.set i (over cs off (vs.map (str h))),c.length=sz:=fun c hc=>by
        rcases List.mem_or_eq_of_mem_set hc with hc | rfl
        .simp_all
        .rw[F4];exact hcl
       have hfl:=MM al hi off (vs.map (str h)) (by simp_all);have rV:Ei.toList.length=cap*sz:=by omega
       have sc:((over Ei.toList (i*sz+off) vx.cells.toList).toArray.toList.take ((es.set i (over cs off (vs.map (str h)))).length*sz))=over (Ei.toList.take (es.length*sz)) (i*sz+off) vx.cells.toList:=by
        rw[Kd];exact Xz _ _ _ _ ch ch
       have wU:Cs g w Fp (es.set i (over cs off (vs.map (str h)))).flatten ((over Ei.toList (i*sz+off) vx.cells.toList).toArray.toList.take ((es.set i (over cs off (vs.map (str h)))).length*sz)):=by
        rw[sc,hfl];exact e6.over (Qp hI hr) _ (by rw[BK,Dv al];omega)
       split at hk
       .rename_i j m;have nO:∃x0,vx.cells.toList=[x0]:=by
         revert Dd
         cases vx.cells.toList with
         |nil=>grind
         |cons x0 l=>simp_all
        obtain⟨x0,nO⟩:=nO;have En:=hr.2.2 0 (.msl j m) x0 rfl (by grind)
        obtain⟨k1,k2⟩:=hI.write hl e2 (.hol sz (es.set i (over cs off [.junk])) i off (.msl j m)) e4 (over Ei.toList (i*sz+off) vx.cells.toList).toArray (g.ln r) (g.own r) g.S B0 rfl (fun b' e=>by simp_all) (fun _ _ h=>h)
         (fun b' o hs=>.inl hs) (fun o hs=>absurd hs (e7 o)) (fun hg HF EE=>by
          obtain⟨u1,u2,u3,u4⟩:=Bl g r (g.ρ r) (g.ln r) (g.tk r) (g.own r) g.S;have Akc:i*sz+off<es.length*sz:=by grind
          refine⟨u3.trans t1,u2.trans (by simp_all),Aa5,b,cap,E,_,?_,u4.trans e2,by simp_all,EE,?_,wU.mono HF (fun _ h=>h) (fun _ h=>h.elim),e7,by simp_all,x0,?_,En.mono HF (fun i hi=>DL B0 i hi) hg⟩
          .simp_all
          .simp only[RM,F4,Array.length_toList];exact e5
          .rw[<-CN,nO,Gy _ _ _ _ (by grind),Ay ⟨Ap _,by grind⟩,IW];rfl)
        exact⟨_,_,_,CQ,hk,k1,k2⟩
       .obtain⟨k1,k2⟩:=hI.write hl e2 (.arr sz (es.set i (over cs off (vs.map (str h))))) e4 (over Ei.toList (i*sz+off) vx.cells.toList).toArray (g.ln r) (g.own r) g.S B0 rfl (fun b' e=>by simp_all) (fun _ _ h=>h)
         (fun b' o hs=>.inl hs) (fun o hs=>absurd hs (e7 o)) (fun hg HF EE=>by
          obtain⟨u1,u2,u3,u4⟩:=Bl g r (g.ρ r) (g.ln r) (g.tk r) (g.own r) g.S;refine⟨u3.trans t1,u2.trans (by simp_all),Aa5,.inr ⟨b,cap,E,_,?_,u4.trans e2,by simp_all,EE,?_,wU.mono HF (fun _ h=>h) (fun _ h=>h.elim),e7⟩⟩
          all_goals grind [F4])
        exact⟨_,_,_,CQ,hk,k1,k2⟩
    simp_all
   simp_all
  simp_all
end
theorem kz(c vs:List α)(h:vs.length=c.length):over c 0 vs=vs:=by
 grind [NC]
theorem H4[Inhabited α](z:List α)(hz:z≠[]):(List.replicate n z).flatten=(List.range (n*z.length)).map fun k=>z[k % z.length]!:=by
 have hl:∀c∈List.replicate n z,c.length=z.length:=fun c hc=>by simp_all
 have AaE:0<z.length:=Jj.2 hz;apply Da;intro k
 by_cases hk:k<n*z.length
 all_goals grind [Nat.mul_comm,Nat.div_add_mod,Nat.mod_lt,Nat.div_lt_iff_lt_mul,Fe,Dv,List.length_map,List.length_range]
section
variable {P:Program}{w0:World}{g0:Gh}{h0 h:Nat->HO}{g:Gh}{w:World}(hI:CV w0 g0 h0 h g w)
include hI
theorem aA{n sz:Nat}{t:Nat->AV}{ρ:Operand->Value}(ht:∀x:Operand,Ba g w (AI h) (ev t x) (ρ x)) :
  ∀{ps:List (Nat×Operand)} {es:C0} {xs:Array Value} {K:C0->Prop},es.length=n->(∀c∈es,c.length=sz)->Cs g w Fp es.flatten xs.toList->RU n sz h es t ps K ->
   ∃FG ZB,K FG/\FG.length=n/\(∀c∈FG,c.length=sz)/\Cs g w Fp FG.flatten ZB.toList/\Instr.fill (fun i=>some (i*sz,sz)) xs (ps.map fun(i,x)=>(i,ρ x))=some ZB
 | [],es,xs,K,hn,hl,h,hk=>⟨es,xs,hk,hn,hl,h,rfl⟩
 |(i,x)::ps,es,xs,K,hn,hl,h,hk=>by
  unfold RU at hk;split at hk
  .rename_i hi;have hi:i<n:=F6 hi;have h5:=Nl (ht x) hk
   clear hk
   obtain⟨VW,hk,hna,hr⟩:=h5;have Fg:(ρ x).cells.size=sz:=by rw[<-hna];simpa using hr.1
   have Ou:=Qp hI hr;obtain⟨c,hc⟩:∃c,es[i]?=some c:=⟨_,AY ch⟩;have hcl:=hl c (AB hc);have Jr:i*sz+sz<=es.flatten.length:=by
    rw[Dv hl,hn]
    have:=Bn sz (show i+1<=n from hi)
    grind
   have hfl:=MM hl hc 0 (VW.map (str ‹Nat->HO›)) (by simp_all);rw[kz _ _ (by simp_all),HB]at hfl;have EE:=h.over Ou (i*sz) (by simp_all);have sd:xs.size=es.flatten.length:=by have:=h.1;omega
   have e:=Om (ρ x).cells.toList 0 (i*sz) xs (by simp_all);simp only[HB]at e;rw[<-e,<-hfl]at EE;obtain⟨FG,ZB,k1,k2,k3,k4,k5⟩:=aA ht (es:=es.set i (VW.map (str _))) (by simp_all) (fun c' hc'=>by
    grind) EE hk
   refine⟨FG,ZB,k1,k2,k3,k4,?_⟩;simp only[BB,Instr.fill]
   grind [Array.toList_zipIdx]
  simp_all
theorem TO(hT:Ci P cx.T){d:Option Nat}{ty n:Nat}{t:Nat->AV}{ρ:Operand->Value}(ht:∀x:Operand,Ba g w (AI h) (ev t x) (ρ x)){ps:Array (Nat×Operand)}(hk:IJ cx d h ty n t ps.toList K):Oc P w0 g0 h0 h g w (Instr.buildSlice ty n (ps.map fun(i,x)=>(i,ρ x))) K:=by
 unfold IJ at hk;split at hk
 .rename_i e hs;split at hk
  .rename_i YP aV;have aV:=AZ aV;split at hk
   .simp_all
   .rename_i m hm;split at hk
    .rename_i Jr;have Jr:=F6 Jr;have w8:(cx.T e).zc≠[]:=fun e0=>by simp_all
     have hlr:∀c∈List.replicate n ((cx.T e).zc.map AV.v),c.length=(cx.T e).size:=fun c hc=>by simp_all
     have Aap:Cs g w Fp (List.replicate n ((cx.T e).zc.map AV.v)).flatten ((Array.range (n*(cx.T e).size)).map fun k=>(cx.T e).zc.toArray[k % (cx.T e).zc.toArray.size]!).toList:=by
      have e1:((Array.range (n*(cx.T e).size)).map fun k=>(cx.T e).zc.toArray[k % (cx.T e).zc.toArray.size]!).toList=(List.replicate n (cx.T e).zc).flatten:=by
       rw[H4 n _ w8];simp_all
      have e2:(List.replicate n ((cx.T e).zc.map AV.v)).flatten=(List.replicate n (cx.T e).zc).flatten.map AV.v:=by
       simp_all
      rw[e1,e2];refine Cs.vals ?_;have Gd:∀l:List AV,(∀a∈l,one a=true)->GS l=true:=by
       intro l
       induction l<;>grind [GS]
      grind [Ni]
     obtain⟨FG,ZB,k1,k2,k3,k4,k5⟩:=aA hI ht (by simp_all) hlr Aap hk;have sd:ZB.size=n*(cx.T e).size:=by
      have:=k4.1
      grind [Dv]
     obtain⟨g',av,h',q1,q2,q3,q4⟩:=Kz hI k1 (vs:=ZB) (cap:=n) e k3 ch sd (by
      grind [Array.length_toList]) w ⟨rfl,rfl,rfl,rfl⟩
     rw[k2]at q4;refine⟨_,_,g',av,h',?_,q1,q2,q3,q4⟩;obtain⟨z,z1,z2⟩:=X0 hT (w:=w) hm;have Fg:=hT.size1 w hm;have e3:(Array.map (fun x:Nat×Operand=>match x with | (i,x)=>(i,ρ x)) ps).toList=ps.toList.map fun(i,x)=>(i,ρ x):=by simp
     have Afm:¬(n*(m+1)>2 ^ 24):=by simp_all
     simp only[Instr.buildSlice,Sem.run_bind,run_underlying (hT.slice hs),Result.andThen_ok,Fg,Az Afm];rw[e3];rw[hm]at k5
     by_cases h0:n*(m+1)=0
     .have hn0:n=0:=by
       grind
      subst hn0;have er:Array.range 0=#[]:=rfl;simp only[Nat.zero_mul,er,List.map_toArray,HA]at k5;simp only[Nat.zero_mul,if_true,er,List.map_toArray,HA,k5];simp[newRow]
     .rw[z2]at k5;simp only[Array.toArray_toList]at k5;simp only[Az h0,Sem.run_bind,z1,Result.andThen_ok,Sem.run_pure,k5];simp[newRow]
    simp_all
  simp_all
 simp_all
end
theorem FN{sz:Nat}:∀{es:C0},Bi sz es->∀c∈es,c.length=sz
 | [],_,c,h=>by cases h
 |d::es,h,c,hc=>by
  rcases AU.1 hc with rfl | hc
  .exact h.1
  .exact FN h.2 c hc
def Pa(w:World)(x:Value)(n sz:Nat)(news:List Value):Prop:=
 news.length=n*sz/\(∀v∈news,v.oneCell'=true)/\∃(a:Option Addr) (c:Nat),x=.slice a n c/\(n=0\/∃b:Addr,a=some b/\∀j u,news[j]?=some u->w.cell? (b.add j)=some u)
theorem Pa.of_rep{w:World}{sz:Nat}(h:Ba g w U (.slice .none es) x)(hl:∀c∈es,c.length=sz) :
  ∃news,Pa w x es.length sz news/\Cs g w Fp es.flatten news:=by
 cases h with
 |snil _ a cap=>exact⟨[],⟨by simp,by simp,a,cap,rfl,.inl rfl⟩,by simp,by simp,fun i av x h1 h2=>by simp_all⟩
 |slice _ _ b off HE cap val hc SL DN En=>
  have hf:=Dv hl;have key:∀j,j<es.length*sz->∃cs,es[j / sz]?=some cs/\es.flatten[j]?=cs[j % sz]?/\j % sz<cs.length/\HE=sz/\j=j / sz*sz+j % sz:=by
   intro j hj
   grind [Nat.pos_of_ne_zero,Nat.div_add_mod,Nat.div_lt_iff_lt_mul,Nat.mod_lt,Fe]
  have Af1:∀j,j<es.length*sz->∃av,es.flatten[j]?=some av/\w.cell? ⟨b,off+j,none⟩=some (val (j / sz) (j % sz))/\(val (j / sz) (j % sz)).oneCell'=true/\Ba g w Fp av (val (j / sz) (j % sz)):=by
   intro j hj;obtain⟨cs,k1,k2,k3,rfl,k5⟩:=key j hj;have wF:cs[j % HE]?=some cs[j % HE]:=AY k3;obtain⟨_,c2,c3⟩:=DN _ _ _ _ k1 wF;rw[Nat.add_assoc,<-k5]at c2;exact⟨_,k2.trans wF,c2,c3,En _ _ _ _ k1 wF⟩
  refine⟨(List.range (es.length*sz)).map fun j=>val (j / sz) (j % sz),⟨by simp,fun v hv=>?_,some ⟨b,off,none⟩,cap,rfl,.inr ⟨_,rfl,fun j u hu=>?_⟩⟩,by simp_all,fun v hv=>?_,fun i av x h1 h2=>?_⟩
  .grind
  .obtain⟨hj,rfl⟩:=Wi hu;rw[Addr.add_lit];simp_all
  all_goals grind
section
variable {P:Program}{T:GF}(hT:Ci P T)
include hT
theorem HM{n:Nat}(hs:(T e).size=n+1):∃i z,P.info? e=some i/\i.zero=some z/\i.size=(T e).size/\i.bytes=(T e).bytes/\(T e).zc=z.cells.toList:=by
 rcases hT e with h | h
 .rw[h]at hs;cases hs
 grind [lm,TI.zc_cells]
theorem I3(w:World){t ty k:Nat}(ht:(T t).d=.slice e)(hk:(T e).size=k+1)(a a' : Option Addr)(n cap c:Nat)(hc:n<=cap) :
  (Builtin.append_ #[t,t] ty #[.slice a n cap,.slice a' 0 c]).run P w=.ok (.slice a n cap) w:=by
 have hu:=hT.slice ht;cases a<;>cases a'<;>simp[Builtin.append_,run_underlying hu,hT.size1 w hk,Builtin.lenOf,hc,Builtin.firstCells,loadCells,loadCellsFrom,storeCells]
theorem H5(w:World){t ty k:Nat}(ht:(T t).d=.slice e)(hk:(T e).size=k+1)(hz:(T e).zc.length=(T e).size){s:Value}{n m cap c:Nat}{news:List Value}{a a' : Option Addr}(hso:Pa w s n (T e).size olds)(hs:s=.slice a n cap)(MQ:a=none->cap=0)(lC:Pa w x m (T e).size news)(hx:x=.slice a' m c)(hm:0<m)(hg:cap<n+m)(hb:(n+m)*(T e).bytes<=140737488355328)(h63:n+m<=9223372036854775807) :
  ∃nc rest,(Builtin.append_ #[t,t] ty #[s,x]).run P w=.ok (.slice (some ⟨w.heap.size,0,none⟩) (n+m) nc) (w.drew.alloc (.cells (olds++news++rest).toArray e (0,0)))/\n+m<=nc /\
   (olds++news++rest).length=nc*(T e).size:=by
 obtain⟨i,z,i1,i2,i3,i4,i5⟩:=HM hT hk;have hu:=hT.slice ht;obtain⟨n1,n2,a1,c1,n3,n4⟩:=lC;subst hx;cases n3;rcases n4 with h | ⟨b,rfl,Jc⟩
 .omega
 .have aV:z.cells.size=(T e).size:=by simp_all
  have gF:∀(nc:Nat) (pre:List Value),pre.length=(n+m)*(T e).size->n+m<=nc->(pre++(Builtin.zeroCells z.cells (nc-(n+m))).toList).length=nc*(T e).size:=by
   intro nc pre hp Jr;have e1:(Builtin.zeroCells z.cells (nc-(n+m))).toList.length=(nc-(n+m))*(T e).size:=by grind [size_zeroCells]
   rw[Ak,e1,hp,<-Kn];simp_all
  obtain⟨o1,o2,a2,c2,o3,o4⟩:=hso;subst hs;cases o3;cases a with
  |none=>
   obtain rfl:=MQ rfl;have hn0:n=0:=by
    simp_all
   subst hn0;have ho:olds=[]:=AT ch;subst ho;have hr:=run_append_nil (P:=P) w t ty e i z hu i1 i2 b m c news (by simp_all) Jc hm ch (by grind);refine⟨grownCap w m 0 e,(Builtin.zeroCells z.cells (grownCap w m 0 e-m)).toList,?_,by rw[ET];exact grownCap_ge w m 0 e,?_⟩
   .rw[hr,ET]
    congr 3
    simp_all
   .have:=gF (grownCap w m 0 e) news (by simp_all) (by rw[ET];exact grownCap_ge w m 0 e)
    simp_all
  |some b'=>
   have Hu:∀j u,olds[j]?=some u->w.cell? (b'.add j)=some u:=by
    grind
   have hr:=run_append_grow (P:=P) w t ty e i z hu i1 i2 b' n cap olds (by simp_all) Hu b m c news (by simp_all) Jc hg ch (by rw[i4];exact growslice_fits hg hb);refine⟨grownCap w (n+m) cap e,(Builtin.zeroCells z.cells (grownCap w (n+m) cap e-(n+m))).toList,?_,grownCap_ge w (n+m) cap e,gF _ _ (by grind) (grownCap_ge w (n+m) cap e)⟩;rw[hr]
   congr 3
   simp_all
end
theorem Cs.app{w:World}{VW bs:List AV}{xs ys:List Value}(h:Cs g w U VW xs)(k:Cs g w U bs ys):Cs g w U (VW++bs) (xs++ys):=by
 refine⟨by simp[h.1,k.1],fun x hx=>(Bh.1 hx).elim (h.2.1 x) (k.2.1 x),fun i av x h1 h2=>?_⟩
 by_cases hi:i<VW.length
 .rw[D1 hi]at h1;rw[D1 (by rw[h.1];exact hi)]at h2;exact h.2.2 i av x h1 h2
 .rw[BR ch]at h1;rw[BR (by rw[h.1];omega),h.1]at h2;exact k.2.2 _ av x h1 h2
theorem lj(P:Program)(g o:Nat)(t:TypeId)(fz:Nat×Nat)(vs:List Value):∀(i:Nat) (Ei:Array Value) (w:World),w.heap[g]?=some (.cells Ei t fz)->(fz=(0,0)\/Ei.size<=fz.1)->o+i+vs.length<=Ei.size->(∀v∈vs,v.oneCell'=true) ->
  (storeCells ⟨g,o,none⟩ vs i).run P w=.ok () (w.setRow g (Ei.toList.take (o+i)++vs++Ei.toList.drop (o+i+vs.length)).toArray):=by
 induction vs with
 |nil=>
  intro i Ei w hg _ _ _;have e:(Ei.toList.take (o+i)++[]++Ei.toList.drop (o+i+([]:List Value).length)).toArray=Ei:=by simp
  rw[e,setRow_self w g Ei t fz hg];rfl
 |cons v rest ih=>
  intro i Ei w hg hf hl h1;simp only[AA]at hl;have hi:o+i<Ei.size:=by omega
  have ha:(⟨g,o,none⟩:Addr).add i=⟨g,o+i,none⟩:=Addr.add_lit ..;have hc:w.cell? ⟨g,o+i,none⟩=some Ei[o+i]:=by grind [World.cell?]
  have hz:w.frozen? ⟨g,o+i,none⟩=false:=by
   grind [World.frozen?]
  have h2:(store ((⟨g,o,none⟩:Addr).add i) v).run P w=.ok () (w.setRow g (Ei.setIfInBounds (o+i) v)):=by
   grind [run_store,setCell_eq_setRow]
  have h3:=ih (i+1) (Ei.setIfInBounds (o+i) v) (w.setRow g (Ei.setIfInBounds (o+i) v)) (setRow_heap w g Ei _ t _ hg) (by simp_all) (by grind) fun x hx=>h1 x (Ao _ hx);have e:(Ei.setIfInBounds (o+i) v).toList.take (o+(i+1))++rest++(Ei.setIfInBounds (o+i) v).toList.drop (o+(i+1)+rest.length)=Ei.toList.take (o+i)++v::rest++Ei.toList.drop (o+i+(v::rest).length):=by
   simpa[Array.toList_setIfInBounds,Nat.add_assoc]using list_seg_step Ei.toList (o+i) v rest ch
  rw[storeCells,Sem.run_bind,h2,Result.andThen_ok,h3,setRow_setRow,e]
section
variable {P:Program}{w0:World}{g0:Gh}{h0 h:Nat->HO}{g:Gh}{w:World}(hI:CV w0 g0 h0 h g w)
include hI
omit hI in
theorem Rr(t ty e:TypeId)(i:TypeInfo)(ht:P.underlying t=some (.slice e))(hi:P.info? e=some i)(g OM ft:Nat)(Ei:Array Value)(hg:w.heap[g]?=some (.cells Ei E (0,0)))(a:Addr)(m c:Nat)(news:List Value)(hl:news.length=m*i.size)(Jc:∀j u,news[j]?=some u->w.cell? (a.add j)=some u)(h1:∀u∈news,u.oneCell'=true)(L9:OM+m<=ft)(rZ:OM*i.size+news.length<=Ei.size) :
  (Builtin.append_ #[t,t] ty #[.slice (some ⟨g,0,none⟩) OM ft,.slice (some a) m c]).run P w =
   .ok (.slice (some ⟨g,0,none⟩) (OM+m) ft) (w.setRow g (Ei.toList.take (OM*i.size)++news++Ei.toList.drop (OM*i.size+news.length)).toArray):=by
 have hf:=run_firstCells_some (P:=P) w i.size m a m c news hl Jc;have KR:=run_storeCells_at P g (OM*i.size) E news 0 Ei w hg ch h1;simp only[HB]at KR;simp[Builtin.append_,run_underlying ht,sizeOf,typeInfo,hi,Builtin.lenOf,L9,hf,Addr.add_lit,KR]
omit hI in
theorem Vq(t ty e:TypeId)(i:TypeInfo)(ht:P.underlying t=some (.slice e))(hi:P.info? e=some i)(g off OM ft:Nat)(Ei:Array Value){fz:Nat×Nat}(hg:w.heap[g]?=some (.cells Ei E fz))(hfz:fz=(0,0)\/Ei.size<=fz.1)(a:Addr)(m c:Nat)(news:List Value)(hl:news.length=m*i.size)(Jc:∀j u,news[j]?=some u->w.cell? (a.add j)=some u)(h1:∀u∈news,u.oneCell'=true)(L9:OM+m<=ft)(rZ:off+OM*i.size+news.length<=Ei.size) :
  (Builtin.append_ #[t,t] ty #[.slice (some ⟨g,off,none⟩) OM ft,.slice (some a) m c]).run P w =
   .ok (.slice (some ⟨g,off,none⟩) (OM+m) ft) (w.setRow g (Ei.toList.take (off+OM*i.size)++news++Ei.toList.drop (off+OM*i.size+news.length)).toArray):=by
 have hf:=run_firstCells_some (P:=P) w i.size m a m c news hl Jc;have KR:=lj P g (off+OM*i.size) E fz news 0 Ei w hg hfz ch h1;simp only[HB]at KR;simp[Builtin.append_,run_underlying ht,sizeOf,typeInfo,hi,Builtin.lenOf,L9,hf,Addr.add_lit,KR]
omit hI in
theorem ti{b off n m sz cap:Nat}{fz:Nat×Nat}{news:List Value}(hb:w.heap[b]?=some (.cells Ei E fz))(rV:Ei.size=off+cap*sz)(hn:n<=cap)(hm:n+m<=cap)(hnl:news.length=m*sz)(hol:olds.length=n*sz)(Hu:∀j u,olds[j]?=some u->w.cell? ⟨b,off+j,none⟩=some u) :
  (Ei.toList.take (off+n*sz)++news++Ei.toList.drop (off+n*sz+news.length)).length=off+cap*sz /\
  ((Ei.toList.take (off+n*sz)++news++Ei.toList.drop (off+n*sz+news.length)).drop off).take ((n+m)*sz)=olds++news /\
  ∀o,o<off+n*sz->(Ei.toList.take (off+n*sz)++news++Ei.toList.drop (off+n*sz+news.length)).toArray[o]?=Ei[o]?:=by
 have hcl:Ei.toList.length=off+cap*sz:=by omega
 have YN:(n+m)*sz<=cap*sz:=Bn _ hm;have uN:n*sz<=cap*sz:=Bn _ hn;rw[Kn]at YN;have PM:(Ei.toList.take (off+n*sz)).drop off=olds:=by
  apply Da;intro j
  by_cases hj:j<n*sz
  .rw[FW,SC ch]
   grind [F0]
  simp_all
 have htl:(Ei.toList.take (off+n*sz)).length=off+n*sz:=by simp_all
 refine⟨?_,?_,fun o ho=>?_⟩
 .grind
 .rw[ER,List.drop_append_of_le_length ch,PM,<-ER,Ke (by grind)]
 grind
omit hI in
theorem px{b n m sz cap:Nat}{news:List Value}(hb:w.heap[b]?=some (.cells Ei E (0,0)))(rV:Ei.size=cap*sz)(hn:n<=cap)(hm:n+m<=cap)(hnl:news.length=m*sz)(hol:olds.length=n*sz)(Hu:∀j u,olds[j]?=some u->w.cell? ⟨b,j,none⟩=some u) :
  (Ei.toList.take (n*sz)++news++Ei.toList.drop (n*sz+news.length)).length=cap*sz /\
  (Ei.toList.take (n*sz)++news++Ei.toList.drop (n*sz+news.length)).take ((n+m)*sz)=olds++news /\
  ∀o,o<n*sz->(Ei.toList.take (n*sz)++news++Ei.toList.drop (n*sz+news.length)).toArray[o]?=Ei[o]?:=by
 have hcl:Ei.toList.length=cap*sz:=by omega
 have YN:(n+m)*sz<=cap*sz:=Bn _ hm;have uN:n*sz<=cap*sz:=Bn _ hn;rw[Kn]at YN;have PM:Ei.toList.take (n*sz)=olds:=by
  apply Da
  grind [F0]
 have htl:(Ei.toList.take (n*sz)).length=n*sz:=by simp_all
 refine⟨?_,?_,fun o ho=>?_⟩
 all_goals grind [Nat.add_mul]
theorem WF{r n sz:Nat}(he:h r=.arr sz es)(hx:Ba g w (AI h) (.msl r n) x)(hn:n=es.length) :
  x=g.ρ r/\∃news,Pa w x es.length sz news/\Cs g w Fp es.flatten news:=by
 have ho:=hI.objs r;rw[he]at ho;obtain⟨t1,l1,al,a1⟩:=ho;cases hx with
 |msl _ _ _ a cap hu ht qE ha SM=>
  have e:=SM (hn.trans l1.symm);refine⟨e,?_⟩;rw[e];rcases a1 with ⟨rfl,e2,e3⟩ | ⟨b,MA,E,vs,e1,e2,e3,e4,e5,e6,e7⟩
  .exact⟨[],⟨by simp,by simp,none,0,e2,.inl rfl⟩,by simp,by simp,fun i av x h1 h2=>by simp_all⟩
  .have rV:vs.toList.length=MA*sz:=by omega
   have Jr:es.length*sz<=vs.toList.length:=by rw[rV];exact Bn _ e3
   refine⟨vs.toList.take (es.length*sz),⟨by simp_all,e6.2.1,_,_,e1,.inr ⟨_,rfl,fun j u hj=>?_⟩⟩,e6⟩
   grind [Addr.add_lit,F0]
theorem jt{sz:Nat}{x:AV}{K:C0->Prop}(hx:Ba g w (AI h) x vx)(hk:LC h x K) :
  ∃es,K es/\((∀c∈es,c.length=sz)->∃news,Pa w vx es.length sz news/\Cs g w Fp es.flatten news):=by
 unfold LC at hk;split at hk
 .exact⟨_,hk,fun hl=>Pa.of_rep hx.slice_none hl⟩
 .obtain rfl:=hx.v_eq;exact⟨[],hk,fun _=>⟨[],⟨by simp,by simp,none,0,rfl,.inl rfl⟩,by simp,by simp,fun i av x h1 h2=>by simp_all⟩⟩
 .rename_i r n;split at hk
  .rename_i HE es e;obtain⟨hn,hk⟩:=hk;refine⟨es,hk,fun hl=>?_⟩;obtain⟨_,news,n1,n2⟩:=WF hI e hx hn;refine⟨news,?_,n2⟩
   have:news.length=es.length*sz:=by rw[n2.1,Dv hl]
   exact⟨this,n1.2.1,n1.2.2⟩
  simp_all
 simp_all
theorem ki{d:Option Nat}{sz:Nat}(hk:E4 cx d h sz [] K) :
  ∃g' av h',K av h'/\CV w0 g0 h0 h' g' w/\Le h g w h' g' w/\Ba g' w (AI h') av (.slice none 0 0):=by
 have base:∀(d:Nat) (o' : HO),h d=.free->o'≠.free->(∀g' : Gh,g'.ρ d=.slice none 0 0->g'.ln d=0->g'.tk d=true->g'.own d=none->DR g' w (AI (AL h d o')) d o') ->
   CV w0 g0 h0 (AL h d o') (g.upd d (.slice none 0 0) 0 true none g.S) w/\Le h g w (AL h d o') (g.upd d (.slice none 0 0) 0 true none g.S) w:=by
  intro d o' hd Ek Ml;refine hI.upd d o' _ _ _ _ _ w none ⟨rfl,rfl,rfl,Ap _⟩ (fun _ _ _=>rfl) (fun b e=>by cases e) (fun _ _ h=>h) (fun _ _ h=>.inl h) (fun b o e=>by cases e) (fun b _ e=>by cases e) Ek (fun hu=>absurd hd hu) (fun _ _=>?_)
  grind [Bl]
 unfold E4 at hk;split at hk
 .simp_all
 .rename_i d;generalize KL cx d=d1 at hk;split at hk
  .rename_i hd;split at hk
   .obtain⟨k1,k2⟩:=base d1 (.arr sz []) hd B0 (fun g' u1 u2 u3 u4=>⟨u3,u2,by simp,.inl ⟨rfl,u1,u4⟩⟩);exact⟨_,_,_,hk,k1,k2,.msl _ d1 0 none 0 (by grind [AI,A0]) (by simp[Gh.upd]) (Al _) (.inl rfl) (fun _=>by simp[Gh.upd])⟩
   .obtain⟨k1,k2⟩:=base d1 (.tok sz 0) hd B0 (fun g' u1 u2 u3 u4=>⟨u3,u2,none,0,u1,.inl ⟨rfl,u4⟩⟩);exact⟨_,_,_,hk,k1,k2,.tok _ d1 sz [] _ (.snil _ _ _) B0 (by grind [AI,A0]) (by simp[Gh.upd]) (Al _) (fun _=>by simp[Gh.upd])⟩
  simp_all
theorem de(hT:Ci P cx.T){d:Option Nat}{t ty:Nat}{s x:AV}{vs:Value}(hs:Ba g w (AI h) s vs)(hx:Ba g w (AI h) x vx)(hk:Ix cx d h t s x K) :
  Oc P w0 g0 h0 h g w (Builtin.append_ #[t,t] ty #[vs,vx]) K:=by
 unfold Ix at hk;split at hk
 .rename_i e ht;split at hk
  .simp_all
  .rename_i hz;have hz:=AZ hz;split at hk
   .simp_all
   .rename_i k Fg;have h5:=jt hI (sz:=(cx.T e).size) hx hk
    clear hk
    obtain⟨es2,hk,h6⟩:=h5;split at hk
    .obtain⟨⟨q1,q2,q3⟩,hk⟩:=hk;obtain rfl:=hs.v_eq;obtain⟨news,n1,n2⟩:=h6 (FN q1);obtain⟨m1,m2,a,c,rfl,m4⟩:=n1
     by_cases hm:es2.length=0
     .obtain rfl:=AT hm;obtain⟨g',av,h',k1,k2,k3,k4⟩:=ki hI hk;exact⟨_,w,g',av,h',I3 hT w ht Fg none a 0 0 c (Ap _),k1,k2,k3,k4⟩
     .obtain⟨nc,rest,r1,r2,r3⟩:=H5 hT w (ty:=ty) ht Fg hz (olds:=[]) (a:=none) (n:=0) (cap:=0) ⟨by simp,by simp,none,0,rfl,.inl rfl⟩ rfl (fun _=>rfl) ⟨m1,m2,a,c,rfl,m4⟩ rfl ch ch (by simp_all) ch;obtain⟨g',av,h',k1,k2,k3,k4⟩:=Kz hI hk (vs:=([]++news++rest).toArray) (cap:=nc) e (FN q1) ch ch (by
       simp_all) w.drew ⟨rfl,rfl,rfl,rfl⟩
      rw[ET]at r1;exact⟨_,_,g',av,h',r1,k1,k2,k3,k4⟩
    .rename_i HE es;split at hk
     .rename_i VS;obtain VS:=AZ VS;obtain⟨⟨q1,q2,q3,q4⟩,hk⟩:=hk;obtain⟨news,n1,n2⟩:=h6 (FN q1);obtain⟨m1,m2,a2,c2,rfl,m4⟩:=n1;cases hs with
      |full _ _ _ _ hr r4 SM=>
       obtain⟨a,rfl⟩:=SM;have Gd:∀c∈es++es2,c.length=(cx.T e).size:=fun c hc=>(Bh.1 hc).elim (fun h=>(r4 c h).trans VS) (FN q1 c);obtain⟨olds,o1,o2⟩:=Pa.of_rep hr (sz:=(cx.T e).size) (fun c hc=>(r4 c hc).trans VS);have hrl:=o2.app n2;rw[<-CR]at hrl;have ha:a=none->es.length=0:=by
        rintro rfl
        obtain⟨p1,p2,a',c',p3,p4⟩:=o1<;>grind
       obtain⟨nc,rest,r1,r2,r3⟩:=H5 hT w (ty:=ty) ht Fg hz o1 rfl ha ⟨m1,m2,a2,c2,rfl,m4⟩ rfl q2 ch q3 q4;obtain⟨g',av,h',k1,k2,k3,k4⟩:=Kz hI hk (vs:=(olds++news++rest).toArray) (cap:=nc) e Gd (by simp_all) ch (by
        rw[show(olds++news++rest).toArray.toList=olds++news++rest from rfl,Ke (by rw[Ak,Ak,o1.1,m1,Kn])];exact hrl) w.drew ⟨rfl,rfl,rfl,rfl⟩
       rw[Ak]at k4;exact⟨_,_,g',av,h',r1,k1,k2,k3,k4⟩
     simp_all
    .rename_i r HE es;have ho:=hI.objs r;split at hk
     .rename_i sz n e0;rw[e0]at ho;split at hk
      .rename_i VS AfB;obtain rfl:=AZ AfB;obtain VS:=AZ VS;obtain⟨⟨q1,q2,q3,q4⟩,hk⟩:=hk;rw[VS]at q1;obtain⟨news,n1,n2⟩:=h6 (FN q1);obtain⟨m1,m2,a2,c2,rfl,m4⟩:=n1;obtain⟨t1,l1,a,cap,a1,a3⟩:=ho;have hl:(h r).live:=by rw[e0];trivial
       have Gd:∀c∈es++es2,es.length=n->True:=fun _ _ _=>trivial;cases hs with
       |tok _ _ _ _ _ hr r4 hu ht' hn SM=>
        have hv:=SM (q2.trans l1.symm);rw[a1]at hv;subst hv;subst q2;have Gd:∀c∈es++es2,c.length=HE:=fun c hc=>(Bh.1 hc).elim (r4 c) (fun h=>(FN q1 c h).trans VS.symm);obtain⟨olds,o1,o2⟩:=Pa.of_rep hr r4;have hrl:=o2.app n2;rw[<-CR]at hrl;have gA:es.length<=cap:=by omega
        by_cases hm:es2.length=0
        .obtain rfl:=AT hm;have Ml:=hI.objs r;rw[e0]at Ml
         obtain⟨k1,k2⟩:=hI.upd r (.tok HE (es.length+([]:C0).length)) (g.ρ r) (g.ln r) (g.tk r) (g.own r) g.S w none ⟨rfl,rfl,rfl,Ap _⟩ (fun _ _ _=>rfl) (fun b e=>by cases e) (fun _ _ h=>h) (fun _ _ h=>.inl h) (fun b o e=>by cases e)
          (fun b _ e=>⟨(hI.loc r b hl e).1,.inl ⟨hl,e⟩⟩) B0 (fun _=>⟨rfl,Ap _,fun _=>rfl,fun _=>rfl⟩) (fun hg HF=>by
           obtain⟨u1,u2,u3,u4⟩:=Bl g r (g.ρ r) (g.ln r) (g.tk r) (g.own r) g.S;rw[AE,HB];exact Ml.same HF (fun i hi=>DL B0 i hi) hg u1 u2 u3 u4 (fun b _ _=>⟨rfl,fun _ h=>h⟩))
         refine⟨_,w,_,_,_,I3 hT w ht Fg a a2 es.length cap c2 gA,hk,k1,k2,?_⟩
         grind [Ba.tok,Ba.le]
        .by_cases L9:es.length+es2.length<=cap
         .rcases a3 with ⟨e1,_⟩ | ⟨e1,b,E,Ei,off,rfl,e3,⟨fz,e4,efz⟩,e5,e6⟩
          .omega
          .rcases m4 with h | ⟨ba,rfl,Jc⟩
           .omega
           .obtain⟨i,z,i1,i2,i3,i4,i5⟩:=HM hT Fg;have YN:(es.length+es2.length)*HE<=cap*HE:=Bn _ L9;have aQ:news.length=es2.length*HE:=by simp_all
            have wP:i.size=HE:=i3.trans VS.symm;have CQ:=Vq (P:=P) t ty e i (hT.slice ht) i1 b off es.length cap Ei e4 efz ba es2.length c2 news (by simp_all) Jc m2 L9 (by grind);rw[wP]at CQ;have Hu:∀j u,olds[j]?=some u->w.cell? ⟨b,off+j,none⟩=some u:=by
             obtain⟨p1,p2,a',c',p3,p4⟩:=o1;cases p3;intro j u hj;rcases p4 with h | ⟨b',h,h'⟩
             .simp_all
             .cases h
              have:=h' j u hj
              rwa [Addr.add_lit]at this
            obtain⟨p1,p2,p3⟩:=ti e4 e5 e1 L9 aQ o1.1 Hu;generalize hnewd:Ei.toList.take (off+es.length*HE)++news++Ei.toList.drop (off+es.length*HE+news.length)=new at CQ p1 p2 p3;have EE:=setRow_heap w b Ei new.toArray E fz e4;have Aa8:=(hI.loc r b hl e3).1
            obtain⟨k1,k2⟩:=hI.upd r (.tok HE (es.length+es2.length)) (.slice (some ⟨b,off,none⟩) (es.length+es2.length) cap) (es.length+es2.length) (g.tk r) (g.own r) (g.more b (off+(es.length+es2.length)*HE)) (w.setRow b new.toArray) (some b)
             ⟨rfl,rfl,rfl,by simp_all⟩ (fun k _ Ek=>setRow_other w b k _ (fun e=>Ek (by rw[e]))) (fun b' e=>by simp_all) (fun _ _ h=>.inl h)
             (fun b' o hs=>hs.elim .inl (fun hs=>.inr ⟨by simp_all,.inr ⟨hl,by simp_all⟩⟩))
             (fun b' o e hs=>by
              cases e
              refine⟨?_,fun es ck he=>by simp_all⟩;rw[F0 EE,F0 e4];simp_all) (fun b' _ e=>by
              simp_all) B0 (fun _=>⟨rfl,by omega,fun e=>(by simp_all),fun e=>by omega⟩) (fun hg HF=>by
              obtain⟨u1,u2,u3,u4⟩:=Bl g r (.slice (some ⟨b,off,none⟩) (es.length+es2.length) cap) (es.length+es2.length) (g.tk r) (g.own r) (g.more b (off+(es.length+es2.length)*HE));exact⟨u3.trans t1,u2,_,cap,u1,  .inr ⟨L9,b,E,_,off,rfl,u4.trans e3,⟨fz,EE,efz.imp id fun h=>by simp_all⟩,by omega,fun o ho=>by
               rcases ho with ho | ⟨_,ho⟩
               all_goals grind⟩⟩)
            have En:=Ba.slice_off (g:=g.upd r (.slice (some ⟨b,off,none⟩) (es.length+es2.length) cap) (es.length+es2.length) (g.tk r) (g.own r) (g.more b (off+(es.length+es2.length)*HE))) (U:=AI (AL h r (.tok HE (es.length+es2.length)))) (cap:=cap) (es:=es++es2) EE Gd (by simp_all) (by
             rw[Ak,show new.toArray.toList=new from rfl,p2];exact hrl.mono k2.keeps (fun _ h=>h) (fun _ h=>h.elim)) (fun o ho=>.inr ⟨rfl,by simp_all⟩)
            rw[Ak]at En;exact⟨_,_,_,_,_,CQ,hk,k1,k2,.tok _ r HE _ _ En Gd (by unfold AI;rw[A0];simp) (by simp[Gh.upd,t1]) (by simp[Gh.upd]) (fun _=>by simp[Gh.upd])⟩
         .have nE:cap<es.length+es2.length:=by omega
          have ha:a=none->cap=0:=by
           rintro rfl
           rcases a3 with ⟨e1,_⟩ | ⟨_,b,_,_,_,e2,_⟩
           .obtain⟨p1,p2,a',c',p3,p4⟩:=o1<;>grind
           simp_all
          obtain⟨nc,rest,r1,r2,r3⟩:=H5 hT w (ty:=ty) ht Fg hz (by rw[<-VS];exact o1) rfl ha ⟨m1,m2,a2,c2,rfl,m4⟩ rfl ch nE q3 q4;have EE:=Gx w.drew (.cells (olds++news++rest).toArray e (0,0)) (b:=w.heap.size) rfl
          obtain⟨k1,k2⟩:=hI.upd r (.tok HE (es.length+es2.length)) (.slice (some ⟨w.heap.size,0,none⟩) (es.length+es2.length) nc) (es.length+es2.length) (g.tk r) (some w.heap.size) (g.more w.heap.size ((es.length+es2.length)*HE))
           (w.drew.alloc (.cells (olds++news++rest).toArray e (0,0))) none
           ⟨rfl,rfl,rfl,by simp_all⟩ (fun k hk' _=>by rw[heap_alloc_old _ _ (by exact hk')];rfl) (fun b' e=>by cases e) (fun _ _ h=>.inl h)
           (fun b' o hs=>hs.elim .inl (fun hs=>.inr ⟨by simp_all,.inl ch⟩))
           (fun b' o e=>by cases e) (fun b' _ e=>by simp_all) B0 (fun _=>⟨rfl,by omega,fun e=>(by simp_all),fun e=>by omega⟩) (fun hg HF=>by
            obtain⟨u1,u2,u3,u4⟩:=Bl g r (.slice (some ⟨w.heap.size,0,none⟩) (es.length+es2.length) nc) (es.length+es2.length) (g.tk r) (some w.heap.size) (g.more w.heap.size ((es.length+es2.length)*HE));exact⟨u3.trans t1,u2,_,nc,u1,.inr ⟨r2,w.heap.size,e,_,0,rfl,u4,.of EE,by simp_all,fun o ho=>by
             rcases ho with ho | ⟨_,ho⟩
             .have:=hI.slt _ _ ho;omega
             .omega⟩⟩)
          have En:=Ba.slice_row (g:=g.upd r (.slice (some ⟨w.heap.size,0,none⟩) (es.length+es2.length) nc) (es.length+es2.length) (g.tk r) (some w.heap.size) (g.more w.heap.size ((es.length+es2.length)*HE))) (U:=AI (AL h r (.tok HE (es.length+es2.length)))) (cap:=nc) (es:=es++es2) EE Gd (by simp_all) (by
           rw[Ak,show(olds++news++rest).toArray.toList=olds++news++rest from rfl,Ke (by rw[Ak,o1.1,m1,VS,Kn])];exact hrl.mono k2.keeps (fun _ h=>h) (fun _ h=>h.elim)) (fun o ho=>.inr ⟨rfl,by simp_all⟩)
          rw[Ak]at En;exact⟨_,_,_,_,_,r1,hk,k1,k2,.tok _ r HE _ _ En Gd (by grind [AI,A0]) (by grind [Gh.upd]) (by simp[Gh.upd]) (fun _=>by simp[Gh.upd])⟩
      simp_all
     simp_all
    .rename_i r n;have ho:=hI.objs r;split at hk
     .rename_i sz es e0;split at hk
      .rename_i VS;obtain VS:=AZ VS;obtain⟨⟨q1,q2,q3,q4⟩,hk⟩:=hk;rw[VS]at q1;obtain⟨news,n1,n2⟩:=h6 (FN q1);obtain⟨m1,m2,a2,c2,rfl,m4⟩:=n1;obtain⟨hv,olds,o1,o2⟩:=WF hI e0 hs q2.symm;have Ml:=ho;rw[e0]at ho;obtain⟨t1,l1,al,a3⟩:=ho;have hl:(h r).live:=by rw[e0];trivial
       subst hv;have Gd:∀c∈es++es2,c.length=sz:=fun c hc=>(Bh.1 hc).elim (al c) (fun h=>(FN q1 c h).trans VS.symm);have hrl:=o2.app n2;rw[<-CR]at hrl;obtain⟨a,cap,hρ,gA,ha⟩:∃a cap,g.ρ r=.slice a es.length cap/\es.length<=cap/\(a=none->cap=0):=by
        grind
       by_cases hm:es2.length=0
       .obtain rfl:=AT hm;rw[e0]at Ml
        obtain⟨k1,k2⟩:=hI.upd r (.arr sz (es++[])) (g.ρ r) (g.ln r) (g.tk r) (g.own r) g.S w none ⟨rfl,rfl,rfl,Ap _⟩ (fun _ _ _=>rfl) (fun b e=>by cases e) (fun _ _ h=>h) (fun _ _ h=>.inl h) (fun b o e=>by cases e)
         (fun b _ e=>⟨(hI.loc r b hl e).1,.inl ⟨hl,e⟩⟩) B0 (fun _=>⟨rfl,Ap _,fun _=>rfl,fun _=>rfl⟩) (fun hg HF=>by
          obtain⟨u1,u2,u3,u4⟩:=Bl g r (g.ρ r) (g.ln r) (g.tk r) (g.own r) g.S;rw[BG];exact Ml.same HF (fun i hi=>DL B0 i hi) hg u1 u2 u3 u4 (fun b _ _=>⟨rfl,fun _ h=>h⟩))
        refine⟨g.ρ r,w,_,_,_,?_,hk,k1,k2,?_⟩
        .rw[hρ];exact I3 hT w ht Fg a a2 es.length cap c2 gA
        grind [Ba.le]
       .by_cases L9:es.length+es2.length<=cap
        .rcases a3 with ⟨rfl,e2,e3⟩ | ⟨b,MA,E,Ei,e1,e2,e3,e4,e5,e6,e7⟩
         .grind
         .rw[e1]at hρ;simp only[Value.slice.injEq,true_and]at hρ;obtain⟨rfl,rfl⟩:=hρ;rcases m4 with h | ⟨ba,rfl,Jc⟩
          .omega
          .obtain⟨i,z,i1,i2,i3,i4,i5⟩:=HM hT Fg;have YN:(es.length+es2.length)*sz<=MA*sz:=Bn _ L9;have aQ:news.length=es2.length*sz:=by simp_all
           have wP:i.size=sz:=i3.trans VS.symm;have CQ:=Rr (P:=P) t ty e i (hT.slice ht) i1 b es.length MA Ei e4 ba es2.length c2 news (by simp_all) Jc m2 L9 (by grind);rw[wP]at CQ;have Hu:∀j u,olds[j]?=some u->w.cell? ⟨b,j,none⟩=some u:=by
            obtain⟨p1,p2,a',c',p3,p4⟩:=o1<;>grind [Addr.add_lit]
           obtain⟨p1,p2,p3⟩:=px e4 e5 e3 L9 aQ o1.1 Hu;generalize hnewd:Ei.toList.take (es.length*sz)++news++Ei.toList.drop (es.length*sz+news.length)=new at CQ p1 p2 p3;have EE:=setRow_heap w b Ei new.toArray E (0,0) e4;have Aa8:=(hI.loc r b hl e2).1
           obtain⟨k1,k2⟩:=hI.upd r (.arr sz (es++es2)) (.slice (some ⟨b,0,none⟩) (es.length+es2.length) MA) (es.length+es2.length) (g.tk r) (g.own r) g.S (w.setRow b new.toArray) (some b)
            ⟨rfl,rfl,rfl,by simp_all⟩ (fun k _ Ek=>setRow_other w b k _ (fun e=>Ek (by rw[e]))) (fun b' e=>by simp_all) (fun _ _ h=>h) (fun _ _ h=>.inl h)
            (fun b' o e hs=>by simp_all) (fun b' _ e=>by
             simp_all) B0 (fun _=>⟨rfl,by omega,fun e=>(by simp_all),fun e=>by omega⟩) (fun hg HF=>by
             obtain⟨u1,u2,u3,u4⟩:=Bl g r (.slice (some ⟨b,0,none⟩) (es.length+es2.length) MA) (es.length+es2.length) (g.tk r) (g.own r) g.S;refine⟨u3.trans t1,by simp_all,Gd,.inr ⟨b,MA,E,_,by simp_all,u4.trans e2,by simp_all,EE,by omega,?_,e7⟩⟩;rw[Ak,show new.toArray.toList=new from rfl,p2];exact hrl.mono HF (fun _ h=>h) (fun _ h=>h.elim))
           rw[e1];exact⟨_,_,_,_,_,CQ,hk,k1,k2,.msl _ r _ _ _ (by unfold AI;rw[A0];simp) (by simp[Gh.upd,t1]) (by simp[Gh.upd]) (.inr ⟨_,rfl⟩) (fun _=>by simp[Gh.upd])⟩
        .have nE:cap<es.length+es2.length:=by omega
         obtain⟨nc,rest,r1,r2,r3⟩:=H5 hT w (ty:=ty) ht Fg hz (by rw[<-VS];exact o1) hρ ha ⟨m1,m2,a2,c2,rfl,m4⟩ rfl ch nE q3 q4;have EE:=Gx w.drew (.cells (olds++news++rest).toArray e (0,0)) (b:=w.heap.size) rfl
         obtain⟨k1,k2⟩:=hI.upd r (.arr sz (es++es2)) (.slice (some ⟨w.heap.size,0,none⟩) (es.length+es2.length) nc) (es.length+es2.length) (g.tk r) (some w.heap.size) g.S
          (w.drew.alloc (.cells (olds++news++rest).toArray e (0,0))) none
          ⟨rfl,rfl,rfl,by simp_all⟩ (fun k hk' _=>by rw[heap_alloc_old _ _ (by exact hk')];rfl) (fun b' e=>by cases e) (fun _ _ h=>h) (fun _ _ h=>.inl h)
          (fun b' o e=>by cases e) (fun b' _ e=>by simp_all) B0 (fun _=>⟨rfl,by omega,fun e=>(by simp_all),fun e=>by omega⟩) (fun hg HF=>by
           obtain⟨u1,u2,u3,u4⟩:=Bl g r (.slice (some ⟨w.heap.size,0,none⟩) (es.length+es2.length) nc) (es.length+es2.length) (g.tk r) (some w.heap.size) g.S;refine⟨u3.trans t1,by simp_all,Gd,.inr ⟨w.heap.size,nc,e,_,by simp_all,u4,by simp_all,EE,by simp_all,?_,fun o ho=>by have:=hI.slt _ _ ho;omega⟩⟩;rw[Ak,show(olds++news++rest).toArray.toList=olds++news++rest from rfl,Ke (by rw[Ak,o1.1,m1,VS,Kn])];exact hrl.mono HF (fun _ h=>h) (fun _ h=>h.elim))
         exact⟨_,_,_,_,_,r1,hk,k1,k2,.msl _ r _ _ _ (by grind [AI,A0]) (by grind [Gh.upd]) (by simp[Gh.upd]) (.inr ⟨_,rfl⟩) (fun _=>by simp[Gh.upd])⟩
      simp_all
     simp_all
    simp_all
 simp_all
theorem jp(hT:Ci P cx.T){d:Option Nat}{s t:Nat}{x:AV}(hx:Ba g w (AI h) x vx)(hk:dz cx d h s t x K):Oc P w0 g0 h0 h g w (convert s t vx) K:=by
 unfold dz at hk;split at hk
 .rename_i e b hs ht;split at hk
  .rename_i d he;generalize KL cx d=d1 at hk;split at hk
   .rename_i hd;obtain rfl:=hx.v_eq;have CQ:=run_bytes_of_string (P:=P) w s t e b (hT.string hs) (hT.slice ht) (hT.int he);have MQ:b.size<=grownCap w b.size 0 e:=grownCap_ge w b.size 0 e;generalize grownCap w b.size 0 e=cap at CQ MQ;have Dd:(Lu b).length=b.size:=by
     simp_all
    have hbl:b.data.toList.length=b.size:=by simp_all
    have gG:(bytesRow b cap).size=cap:=by
     show(b.data.map _++Array.replicate _ _).size=cap;simp_all
    have sc:(bytesRow b cap).toList.take ((Lu b).length*1)=b.data.toList.map fun c=>Value.int .u8 c.toNat:=by
     show(b.data.map _++Array.replicate _ _).toList.take _=_;simp_all
    have hfl:(Lu b).flatten=(b.data.toList.map fun c=>Value.int .u8 c.toNat).map AV.v:=by
     rw[Br]
     have:∀l:List UInt8,(l.map fun c=>[AV.v (.int .u8 c.toNat)]).flatten=l.map (AV.v ∘ fun c=>Value.int .u8 c.toNat):=fun l=>by
      induction l<;>simp_all
     simp_all
    have YP:∀l:List UInt8,GS ((l.map fun c=>Value.int .u8 c.toNat).map AV.v)=true:=fun l=>by
     induction l with
     |nil=>rfl
     |cons c l ih=>exact ih
    have hr:Cs g w Fp (Lu b).flatten ((bytesRow b cap).toList.take ((Lu b).length*1)):=by
     grind [Cs.vals]
    have hl:∀cs∈Lu b,cs.length=1:=fun cs hc=>by grind
    generalize bytesRow b cap=vs at CQ gG hr;rw[<-Dd]at CQ MQ;generalize Lu b=es at *
    have EE:(w.drew.alloc (.cells vs e (vs.size,vs.size+1))).heap[w.heap.size]?=some (.cells vs e (vs.size,vs.size+1)):=Gx w.drew _ rfl
    have yO:=hI.upd d1 (.tok 1 es.length) (.slice (some ⟨w.heap.size,0,none⟩) es.length cap) es.length true (some w.heap.size) (g.more w.heap.size (es.length*1)) (w.drew.alloc (.cells vs e (vs.size,vs.size+1))) none
     ⟨rfl,rfl,rfl,by simp_all⟩ (fun k hk' _=>by rw[heap_alloc_old _ _ (by exact hk')];rfl) (fun b e=>by cases e) (fun _ _ h=>.inl h)
     (fun b o hb=>by
      rcases hb with hb | ⟨rfl,_⟩<;>simp_all) (fun b o e=>by cases e)
     (fun b _ e=>by simp_all) B0 (fun hu=>absurd hd hu) (fun hg HF=>by
      obtain⟨u1,u2,u3,u4⟩:=Bl g d1 (.slice (some ⟨w.heap.size,0,none⟩) es.length cap) es.length true (some w.heap.size) (g.more w.heap.size (es.length*1));exact⟨u3,u2,_,cap,u1,.inr ⟨MQ,w.heap.size,e,vs,0,rfl,u4,⟨_,EE,.inr (Ap _)⟩,by omega,fun o ho=>by
       rcases ho with ho | ⟨_,ho⟩
       .have:=hI.slt _ _ ho;omega
       .omega⟩⟩)
    obtain⟨k1,k2⟩:=yO;refine⟨_,_,_,_,_,CQ,hk,k1,k2,.tok _ d1 1 es _ (Ba.slice_row EE hl MQ (hr.mono k2.keeps (fun _ h=>h) (fun _ h=>h.elim)) (fun o ho=>.inr ⟨rfl,ho⟩)) hl (by grind [AI,A0]) ?_ ?_ ?_⟩<;>simp[Gh.upd]
   simp_all
  simp_all
 grind [Bw.does,ae]
end
end Go.Eng
