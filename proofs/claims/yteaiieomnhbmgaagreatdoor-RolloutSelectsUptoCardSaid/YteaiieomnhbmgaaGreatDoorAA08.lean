/- Lemmas 8. -/
import Derived.Test.YteaiieomnhbmgaaGreatDoorAA07
import Derived.Maps.RangeRun
namespace Go.Eng
variable {ρ:Operand->Value}{es:C0}{hi:Option Operand}{vx:Value}{K:HK}{a:Option Addr}{cx:Cx}{x:AV}{T:GK}
section
variable {P:Program}{w0:World}{g0:Gh}{h0 h:Nat->HO}{g:Gh}{w:World}(hI:CU w0 g0 h0 h g w)
include hI
theorem Oo{d sz n:Nat}(hd:h d=.free)(hl:∀c∈es,c.length=sz)(hn:es.length=n)(hr:Ba g w FD (.slice .none es) (.slice a n n)) :
  ∃g',CU w0 g0 h0 (AO h d (.tok sz n)) g' w/\Le h g w (AO h d (.tok sz n)) g' w/\Ba g' w (AJ (AO h d (.tok sz n))) (.slice (.id d sz) es) (.slice a n n):=by
 obtain⟨k1,k2⟩:=hI.upd d (.tok sz n) (.slice a n n) n true none g.S w none ⟨rfl,rfl,rfl,Ao _⟩ (fun _ _ _=>rfl) (fun b e=>by cases e) (fun _ _ h=>h) (fun _ _ h=>.inl h) (fun b o e=>by cases e) (fun b _ e=>by cases e) Cl
  (fun hu=>absurd hd hu) (fun _ _=>by
   obtain⟨u1,u2,u3,u4⟩:=Bo g d (.slice a n n) n true none g.S;exact⟨u3,u2,a,n,u1,.inl ⟨rfl,u4⟩⟩)
 exact⟨_,k1,k2,.tok _ d sz es _ (((hr.up (AJ h)).le k2)) hl (by unfold AJ;rw[A5];simp) (by simp[Gh.upd]) (by simp[Gh.upd,hn]) (fun _=>by simp[Gh.upd])⟩
theorem cS{d:Option Nat}(hx:Ba g w (AJ h) x vx)(hk:OT cx d h x K):∃g' av h',K av h'/\CU w0 g0 h0 h' g' w/\Le h g w h' g' w/\Ba g' w (AJ h') av vx:=by
 have plain:K x h->∃g' av h',K av h'/\CU w0 g0 h0 h' g' w/\Le h g w h' g' w/\Ba g' w (AJ h') av vx:=fun hk=>⟨g,x,h,hk,hI,.refl _ _ _,hx⟩;unfold OT at hk;split at hk
 .simp_all
 .rename_i d;split at hk
  .rename_i sz _;split at hk
   .refine⟨g,unT x,h,hk,hI,.refl _ _ _,?_⟩;cases x with
    |slice tk es=>exact(Ba.slice_none hx).up _
    |_=>exact hx
   .split at hk
    .split at hk
     .rename_i hd;obtain rfl:=hx.v_eq;obtain⟨g',k1,k2,k3⟩:=Oo hI (sz:=sz) (es:=[]) (a:=none) hd Cl rfl (.snil _ _ _)<;>grind
     simp_all
    simp_all
  .split at hk
   .rename_i sz _;split at hk
    .split at hk
     .rename_i hd;obtain rfl:=hx.v_eq
      obtain⟨k1,k2⟩:=hI.upd d (.arr sz []) (.slice none 0 0) 0 true none g.S w none ⟨rfl,rfl,rfl,Ao _⟩ (fun _ _ _=>rfl) (fun b e=>by cases e) (fun _ _ h=>h) (fun _ _ h=>.inl h) (fun b o e=>by cases e) (fun b _ e=>by cases e) Cl
       (fun hu=>absurd hd hu) (fun _ _=>by
        obtain⟨u1,u2,u3,u4⟩:=Bo g d (.slice none 0 0) 0 true none g.S;exact⟨u3,u2,by simp,.inl ⟨rfl,u1,u4⟩⟩)
      exact⟨_,_,_,hk,k1,k2,.msl _ d 0 none 0 (by unfold AJ;rw[A5];simp) (by simp[Gh.upd]) (Aj _) (.inl rfl) (fun _=>by simp[Gh.upd])⟩
     simp_all
    simp_all
   simp_all
theorem aY{mku:List Nat}{d:Option Nat}{ty:Nat}(hk:KU T mku d h ty K):N2 P w0 g0 h0 h g w (Instr.makeMap ty none) K:=by
 unfold KU at hk;split at hk
 .simp_all
 .rename_i d;split at hk
  .rename_i hd;split at hk
   .split at hk
    .rename_i sh _;split at hk
     .obtain⟨k1,k2⟩:=hI.newOwn hd (.mapU sh []) (.map #[] 0) (.map (some w.heap.size)) 0 false w ⟨rfl,rfl,rfl,rfl⟩ Cl (fun hg IN=>by
       obtain⟨u1,u2,u3,u4⟩:=Bo g d (.map (some w.heap.size)) 0 false (some w.heap.size) g.S;exact⟨u3,w.heap.size,#[],0,u4,u1,GC w _ rfl,⟨rfl,by simp,by simp,by simp,by simp,by simp⟩,by simp,fun o ho=>by have:=hI.slt _ _ ho;omega⟩)
      refine⟨_,_,_,_,_,?_,hk,k1,k2,.mref _ d w.heap.size (by grind [AJ,A5]) ?_ ?_⟩
      .simp[Instr.makeMap]
      all_goals grind [Gh.upd]
     .obtain⟨k1,k2⟩:=hI.newOwn hd (.map sh []) (.map #[] 0) (.map (some w.heap.size)) 0 false w ⟨rfl,rfl,rfl,rfl⟩ Cl (fun hg IN=>by
       obtain⟨u1,u2,u3,u4⟩:=Bo g d (.map (some w.heap.size)) 0 false (some w.heap.size) g.S;exact⟨u3,w.heap.size,#[],0,u4,u1,GC w _ rfl,⟨rfl,by simp,by simp,by simp,by simp,by simp⟩,by simp,fun o ho=>by have:=hI.slt _ _ ho;omega⟩)
      refine⟨_,_,_,_,_,?_,hk,k1,k2,.mref _ d w.heap.size (by grind [AJ,A5]) ?_ ?_⟩
      .simp[Instr.makeMap]
      all_goals grind [Gh.upd]
    simp_all
   simp_all
  simp_all
omit hI in
theorem Ba.sub{sz l m:Nat}{x:Value}{n cap:Nat}(hr:Ba g w FD (.slice .none es) x)(hx:x=.slice a n cap)(hl:∀c∈es,c.length=sz)(h1:l<=m)(h2:m<=es.length)(c' : Nat)(hc:m-l<=c')(a' : Option Addr)(ha:a'=a.map (·.add (l*sz))\/(m=l/\a'=a)):Ba g w FD (.slice .none ((es.take m).drop l)) (.slice a' (m-l) c'):=by
 subst hx;have Dr:((es.take m).drop l).length=m-l:=B0
 by_cases h0:m-l=0
 .grind [snil]
 .cases hr with
  |snil=>simp_all
  |slice _ _ b off HJ cap val hc' Sx DM Ey=>
   have hz:HJ=sz:=by
    have:(0:Nat)<es.length:=ch
    have h3:=Sx 0 es[0] (A0 this);simp_all
   subst hz;have ha' : a'=some ⟨b,off+l*HJ,none⟩:=by
    grind [Addr.add_lit]
   subst ha';rw[<-Dr];have FW:∀(i:Nat) (cs:List AV),((es.take m).drop l)[i]?=some cs->es[l+i]?=some cs:=fun i cs h=>by
    grind
   refine .slice _ _ b (off+l*HJ) HJ c' (fun i j=>val (l+i) j) ch (fun i cs h=>Sx _ _ (FW i cs h)) (fun i cs j av h1 h2=>?_) (fun i cs j av h1 h2=>Ey _ _ _ _ (FW i cs h1) h2)
   grind
omit hI in
theorem KY{t:Nat->AV}(ht:∀x:Operand,Ba g w (AJ h) (ev t x) (ρ x)){o:Option Operand}{i:Option Int}(hk:CT t o=some i):o.map ρ=i.map fun n=>.int .i64 n:=by
 cases o<;>grind [CT,Ba.v_eq]
omit hI in
theorem U8(b:Bool)(len cap:Nat)(lo hi mx:Option Int)(qF:mx=none\/hi≠none)(h0:0<=lo.getD 0)(h1:lo.getD 0<=hi.getD len)(h2:hi.getD len<=mx.getD cap)(h3:mx.getD cap<=cap) :
  (Instr.sliceBounds b len cap (lo.map fun n=>.int .i64 n) (hi.map fun n=>.int .i64 n) (mx.map fun n=>.int .i64 n)).run P w=.ok ((lo.getD 0).toNat,(hi.getD len).toNat,(mx.getD cap).toNat) w:=by
 have e1:∀n:Int,0<=n->(n.toNat:Int)=n:=fun n hn=>Int.toNat_of_nonneg hn;cases mx with
 |none=>
  cases hi with
  |none=>
   cases lo with
   |none=>simp[Instr.sliceBounds]
   |some l=>
    simp only[EH,L9]at h0 h1 h2;simp[Instr.sliceBounds,run_sliceBound,h0,h1]
  |some hh=>
   simp only[EH,L9]at h1 h2;have hh0:0<=hh:=ch
   cases lo with
   |none=>simp[Instr.sliceBounds,run_sliceBound,hh0,h2]
   |some l=>
    simp only[EH]at h0 h1;simp[Instr.sliceBounds,run_sliceBound,h0,h1,h2,hh0,e1]
 |some m=>
  cases hi with
  |none=>simp_all
  |some hh=>
   simp only[EH]at h1 h2 h3;have hh0:0<=hh:=ch
   have hm0:0<=m:=ch
   cases lo with
   |none=>simp[Instr.sliceBounds,run_sliceBound,h2,h3,hh0,hm0,e1]
   |some l=>
    simp only[EH]at h0 h1;simp[Instr.sliceBounds,run_sliceBound,h0,h1,h2,h3,hh0,hm0,e1]
omit hI in
theorem E7(hT:Ca P T){ty e k:Nat}(ht:(T ty).d=.slice e)(hk:(T e).size=k+1)(a:Option Addr)(len cap:Nat)(lo hi mx:Option Int)(qF:mx=none\/hi≠none)(h0:0<=lo.getD 0)(h1:lo.getD 0<=hi.getD len)(h2:hi.getD len<=mx.getD cap)(h3:mx.getD cap<=cap) :
  (Instr.sliceAt ty (.slice a len cap) (lo.map fun n=>.int .i64 n) (hi.map fun n=>.int .i64 n) (mx.map fun n=>.int .i64 n)).run P w =
   .ok (.slice (if(mx.getD cap).toNat=(lo.getD 0).toNat then a else a.map (·.add ((lo.getD 0).toNat*(T e).size))) ((hi.getD len).toNat-(lo.getD 0).toNat) ((mx.getD cap).toNat-(lo.getD 0).toNat)) w:=by
 have hu:=hT.slice ht;have hb:=U8 (P:=P) (w:=w) true len cap lo hi mx qF h0 h1 h2 h3;simp only[Instr.sliceAt,Sem.run_bind,run_underlying hu,Result.andThen_ok,Instr.slice,hb,hT.size1 w hk,Sem.run_pure];rw[hk]
theorem CU.moveO(r r2:Nat)(Ef:r2≠r)(hf:h r2=.free)(hl:(h r).live){ob:Option Nat}(ho:∀c,ob=some c->g.own r=some c)(o' : HO)(x:Value)(n:Nat)(t:Bool)(hn:o'≠.free)
  (Ma:EF g w (g.upd r2 x n t ob g.S) w->DR (g.upd r2 x n t ob g.S) w (AJ (AO (AO h r .dead) r2 o')) r2 o') :
  CU w0 g0 h0 (AO (AO h r .dead) r2 o') (g.upd r2 x n t ob g.S) w/\Le h g w (AO (AO h r .dead) r2 o') (g.upd r2 x n t ob g.S) w:=by
 have ny:Kr g (g.upd r2 x n t ob g.S) (AJ h):=by
  intro i hi;have e:i≠r2:=fun e=>hi B0
  grind [Gh.upd]
 have hK:EF g w (g.upd r2 x n t ob g.S) w:=fun b o hb=>⟨hb,rfl,fun _ _ h=>h⟩;have Mh:∀i,AJ h i->AJ (AO (AO h r .dead) r2 o') i:=fun i hi=>DG hn i (DG Cl i hi);have key:∀i,i≠r2->(AO (AO h r .dead) r2 o' i).live->i≠r/\(h i).live:=fun i h2 hl=>by
  rw[BR _ _ _ _ h2]at hl
  by_cases e:i=r
  .subst e;rw[A5]at hl;exact hl.elim
  grind [BR]
 have own:∀i,i≠r2->(g.upd r2 x n t ob g.S).own i=g.own i:=fun i e=>by simp[Gh.upd,e]
 have o8:(g.upd r2 x n t ob g.S).own r2=ob:=by simp[Gh.upd]
 refine⟨⟨hI.os,hI.tape,hI.output,hI.size,hI.frame,hI.slt,fun i=>?_,fun i j c hi hj ei ej=>?_,fun i c hi ei=>?_,hI.sg,hI.glob.keep hK⟩,ny,Mh,hK⟩
 .by_cases e:i=r2
  .grind [A5]
  .rw[BR _ _ _ _ e]
   by_cases e1:i=r
   .subst e1;rw[A5];trivial
   .rw[BR _ _ _ _ e1];exact(hI.objs i).same hK Mh ny (by simp[Gh.upd,e]) (by simp[Gh.upd,e]) (by simp[Gh.upd,e]) B0 (fun b hl hb=>⟨rfl,fun k hk=>hk⟩)
 .grind [CU.inj]
 .by_cases e1:i=r2
  .subst e1;rw[o8]at ei;exact hI.loc r _ hl (ho _ ei)
  .rw[own i e1]at ei;exact hI.loc i c (key i e1 hi).2 ei
theorem bO(hT:Ca P cx.T){d:Option Nat}{ty:Nat}{t:Nat->AV}(ht:∀x:Operand,Ba g w (AJ h) (ev t x) (ρ x)){lo mx:Option Operand}(hx:Ba g w (AJ h) x vx)(hk:U5 cx d h ty x (CT t lo) hi mx K):N2 P w0 g0 h0 h g w (Instr.sliceAt ty vx (lo.map ρ) (hi.map ρ) (mx.map ρ)) K:=by
 unfold U5 at hk;split at hk
 .rename_i d H9 e1;rw[KY ht e1];split at hk
  .rename_i e hs;split at hk
   .simp_all
   .rename_i k FE;split at hk
    .rename_i r sz es;split at hk
     .rename_i HJ n e0;split at hk
      .rename_i hd;split at hk
       .rename_i q1 q2;obtain rfl:=A3 q1;have q2:=A3 q2;obtain⟨⟨rfl,h1,h2⟩,hk⟩:=hk;have hl:(h r).live:=by rw[e0];trivial
        have Ef:Ku cx d≠r:=fun e=>by simp_all
        have ho:=hI.objs r;rw[e0]at ho;obtain⟨t1,l1,a,cap,a1,a3⟩:=ho;have hr:=hx.slice_none;cases hx with
        |tok _ _ _ _ _ zA sj hu ht' hn Sy=>
         have hv:=Sy l1.symm;rw[a1]at hv;subst hv;have ge:es.length<=cap:=ch
         have CP:=E7 (P:=P) (w:=w) hT hs FE a es.length cap (some H9) none none (.inl rfl) h1 h2 B0 Cl;simp only[EH,L9,E0]at CP;have Dr:(es.drop H9.toNat).length=es.length-H9.toNat:=G1;have nR:=Ba.sub (c':=cap-H9.toNat) hr rfl sj (l:=H9.toNat) (m:=es.length) ch (Ao _) ch (if cap=H9.toNat then a else a.map (·.add (H9.toNat*(cx.T e).size))) (by
          grind)
         rw[Cf]at nR
         have fin:∀ob:Option Nat,(∀c,ob=some c->g.own r=some c)->(es.length-H9.toNat=cap-H9.toNat/\ob=none\/es.length-H9.toNat<=cap-H9.toNat/\∃b E vs off,(if cap=H9.toNat then a else a.map (·.add (H9.toNat*(cx.T e).size)))=some ⟨b,off,none⟩/\ob=some b/\RC w b vs E/\vs.size=off+(cap-H9.toNat)*HJ/\∀o,g.S b o->o<off+(es.length-H9.toNat)*HJ) ->
           N2 P w0 g0 h0 h g w (Instr.sliceAt ty (.slice a es.length cap) ((some H9).map fun n=>.int .i64 n) ((none:Option Operand).map ρ) ((none:Option Operand).map ρ)) K:=fun ob ho hob=>by
          obtain⟨k1,k2⟩:=hI.moveO r (Ku cx d) Ef hd hl ho (.tok HJ (es.drop H9.toNat).length) (.slice (if cap=H9.toNat then a else a.map (·.add (H9.toNat*(cx.T e).size))) (es.length-H9.toNat) (cap-H9.toNat)) (es.length-H9.toNat) true Cl (fun IN=>by
           obtain⟨u1,u2,u3,u4⟩:=Bo g (Ku cx d) (.slice (if cap=H9.toNat then a else a.map (·.add (H9.toNat*(cx.T e).size))) (es.length-H9.toNat) (cap-H9.toNat)) (es.length-H9.toNat) true ob g.S;refine⟨u3,u2.trans Dr.symm,_,_,by rw[Dr];exact u1,?_⟩;rw[Dr,u4];exact hob)
          exact⟨_,w,_,_,_,CP,hk,k1,k2,.tok _ _ _ _ _ (((nR.mono k2.keeps (fun _ h=>h) (fun _ h=>h.elim))).up _) (fun c hc=>sj c (Iy hc)) (by grind [AJ,A5]) (by simp[Gh.upd]) (by simp[Gh.upd]) (fun _=>by simp[Gh.upd])⟩
         rcases a3 with ⟨e1,e2⟩ | ⟨e1,b,E,vs,off,rfl,e3,e4,e5,e6⟩
         .exact fin none (fun c h=>by cases h) (.inl ⟨by omega,rfl⟩)
         .by_cases hc:cap=H9.toNat
          .exact fin none (fun c h=>by cases h) (.inl ⟨by omega,rfl⟩)
          .refine fin (some b) (fun c h=>by simp_all) (.inr ⟨by omega,b,E,vs,off+H9.toNat*HJ,?_,rfl,e4,?_,fun o ho=>?_⟩)
           .grind [Addr.add_lit]
           .rw[e5,Nat.sub_mul]
            have:=Bl HJ (show H9.toNat<=cap by omega)
            omega
           grind [Nat.sub_mul]
       simp_all
      simp_all
     simp_all
    simp_all
  simp_all
 simp_all
omit hI in
theorem Oa{sz:Nat}:∀{es:C0},(∀cs∈es,cs.length=sz)->∀k,(es.take k).flatten=es.flatten.take (k*sz)
 | [],_,k=>by simp
 |c::es,hl,0=>by simp
 |c::es,hl,k+1=>by
  have h1:=hl c (Ah ..);have h2:c.length<=k*sz+sz:=ch
  rw[List.take_succ_cons,BZ,BZ,Oa (fun x hx=>hl x (Am _ hx)) k,List.take_append,h1,Nat.succ_mul,
   As h2,show k*sz+sz-sz=k*sz by omega]
omit hI in
theorem Ck.takeE{U:Nat->Prop}{sz k:Nat}{vs:List Value}(hl:∀cs∈es,cs.length=sz)(hk:k<=es.length)(h:Ck g w U es.flatten (vs.take (es.length*sz))):Ck g w U (es.take k).flatten (vs.take (k*sz)):=by
 have e:vs.take (k*sz)=(vs.take (es.length*sz)).take (k*sz):=by
  grind [Nat.mul_le_mul_right]
 rw[Oa hl,e];refine⟨by rw[AF (l:=vs.take (es.length*sz)),h.1,AF],fun x hx=>h.2.1 x (CF hx),fun i av x q1 q2=>?_⟩;have hi:i<k*sz:=by
  grind
 rw[List.getElem?_take,Ax hi]at q1 q2;exact h.2.2 i av x q1 q2
theorem gR(hT:Ca P cx.T){d:Option Nat}{ty:Nat}{t:Nat->AV}(ht:∀x:Operand,Ba g w (AJ h) (ev t x) (ρ x))(hx:Ba g w (AJ h) x vx)(hk:pj cx d h ty x (CT t hi) K):N2 P w0 g0 h0 h g w (Instr.sliceAt ty vx none (hi.map ρ) none) K:=by
 unfold pj at hk;split at hk
 .rename_i d OH e1;rw[KY ht e1];split at hk
  .rename_i e hs;split at hk
   .simp_all
   .rename_i k FE;split at hk
    .rename_i r n;split at hk
     .rename_i sz es e0;split at hk
      .rename_i hd;split at hk
       .rename_i q1 q3;have q1:=A3 q1;obtain⟨⟨rfl,h1,h2⟩,hk⟩:=hk;have hl:(h r).live:=by rw[e0];trivial
        have Ef:Ku cx d≠r:=fun e=>by simp_all
        have ho:=hI.objs r;rw[e0]at ho;obtain⟨t1,l1,al,a2⟩:=ho;have Dr:(es.take OH.toNat).length=OH.toNat:=B0
        cases hx with
        |msl _ _ _ a cap hu ht' qG ha Sy=>
         have hv:=Sy l1.symm;have Py:es.length<=cap:=by
          grind
         have CP:=E7 (P:=P) (w:=w) hT hs FE a es.length cap none (some OH) none (.inl rfl) Cl B0 aa0 Cl;have RP:(if cap-(0:Nat)=0 then a else a.map (·.add (0*(cx.T e).size)))=a:=by
          grind [Addr.add]
         simp only[EH,L9,E0,Int.toNat_zero,Nat.sub_zero]at CP RP;have key:∃a',(Instr.sliceAt ty (.slice a es.length cap) ((none:Option Int).map fun n=>.int .i64 n) ((some OH).map fun n=>.int .i64 n) ((none:Option Int).map fun n=>.int .i64 n)).run P w=.ok (.slice a' OH.toNat cap) w/\(a'=a):=⟨_,CP,by omega⟩;obtain⟨a',CP,rfl⟩:=key;have hval:Ba (g.upd (Ku cx d) (.slice a' OH.toNat cap) OH.toNat true (g.own r) g.S) w (AJ (AO (AO h r .dead) (Ku cx d) (.arr sz (es.take OH.toNat)))) (.msl (Ku cx d) OH.toNat) (.slice a' OH.toNat cap):=
          .msl _ _ _ _ _ (by grind [AJ,A5]) (by simp[Gh.upd]) (by simp[Gh.upd]) (ha.elim (fun e=>.inl ch) .inr) (fun _=>by simp[Gh.upd])
         obtain⟨k1,k2⟩:=hI.moveO r (Ku cx d) Ef hd hl (ob:=g.own r) (fun c h=>h) (.arr sz (es.take OH.toNat)) (.slice a' OH.toNat cap) OH.toNat true Cl (fun IN=>by
          obtain⟨u1,u2,u3,u4⟩:=Bo g (Ku cx d) (.slice a' OH.toNat cap) OH.toNat true (g.own r) g.S;refine⟨u3,u2.trans Dr.symm,fun c hc=>al c (CF hc),?_⟩;rcases a2 with ⟨b1,b2,b3⟩ | ⟨b,Mn,E,vs,b1,b2,b3,b4,b5,b6,b7⟩
          .simp_all
          .rw[b1]at hv;cases hv;refine .inr ⟨b,cap,E,vs,by simp_all,u4.trans b2,by omega,b4,b5,?_,b7⟩;rw[Dr];exact(Ck.takeE al ch b6).mono IN (fun _ h=>h) (fun _ h=>h.elim))
         exact⟨_,w,_,_,_,CP,hk,k1,k2,hval⟩
       simp_all
      simp_all
     simp_all
    simp_all
  simp_all
 simp_all
theorem Xn(hT:Ca P cx.T){d:Option Nat}{ty:Nat}{t:Nat->AV}(ht:∀x:Operand,Ba g w (AJ h) (ev t x) (ρ x)){lo mx:Option Operand}(hx:Ba g w (AJ h) x vx)(hk:Io cx d h ty x (CT t lo) (CT t hi) (CT t mx) K):N2 P w0 g0 h0 h g w (Instr.sliceAt ty vx (lo.map ρ) (hi.map ρ) (mx.map ρ)) K:=by
 unfold Io at hk;split at hk
 .rename_i H9 OH vg e1 e2 e3;rw[KY ht e1,KY ht e2,KY ht e3];split at hk
  .rename_i hs;split at hk
   .rename_i s;obtain⟨⟨h1,h2,h3⟩,hk⟩:=hk;obtain rfl:=hx.v_eq;have hb:=U8 (P:=P) (w:=w) false s.size s.size H9 OH none (.inl rfl) h1 h2 B0 Cl;refine(Bv.val (x:=.string (s.extract (H9.getD 0).toNat (OH.getD s.size).toNat)) ?_ hk).does hI;simp only[Instr.sliceAt,Sem.run_bind,run_underlying (hT.string hs),Result.andThen_ok,Instr.slice];simp_all
   simp_all
  .rename_i e hs;split at hk
   .simp_all
   .rename_i k FE;split at hk
    .rename_i tk es;have hr:=hx.slice_none;obtain⟨a,cap,hv,Py⟩:∃a cap,vx=.slice a es.length cap/\es.length<=cap:=by
      grind [cases Ba]
     subst hv;split at hk
     .obtain⟨⟨h1,h2,h3⟩,hl,hk⟩:=hk;have CP:=E7 (P:=P) (w:=w) hT hs FE a es.length cap H9 OH none (.inl rfl) h1 h2 aa0 Cl;refine Bv.does hI ⟨_,_,CP,hk,(Ba.sub (c':=cap-(H9.getD 0).toNat) hr rfl hl (l:=(H9.getD 0).toNat) (m:=(OH.getD es.length).toNat) ch ch ch _ ?_).up _⟩
      grind
     .rename_i m;split at hk
      .rename_i d hh;split at hk
       .obtain⟨⟨h1,h2,rfl,h3⟩,hl,hk⟩:=hk;have CP:=E7 (P:=P) (w:=w) hT hs FE a es.length cap H9 (some m) (some m) (.inr Cl) h1 h2 Cl aa0;simp only[EH]at CP;have Dr:((es.take m.toNat).drop (H9.getD 0).toNat).length=m.toNat-(H9.getD 0).toNat:=B0
        refine Bv.does hI ⟨_,_,CP,hk,.full _ _ _ _ ((Ba.sub (c':=m.toNat-(H9.getD 0).toNat) hr rfl hl (l:=(H9.getD 0).toNat) (m:=m.toNat) ch ch ch _ ?_).up _) (fun c hc=>hl c (CF (Iy hc))) ⟨_,by rw[Dr]⟩⟩
        grind
       split at hk
       .rename_i hd;obtain⟨⟨h1,h2,rfl,h3⟩,hl,hk⟩:=hk;have CP:=E7 (P:=P) (w:=w) hT hs FE a es.length cap H9 (some m) (some m) (.inr Cl) h1 h2 Cl aa0;simp only[EH]at CP
        obtain⟨g',k1,k2,k3⟩:=Oo hI (sz:=(cx.T e).size) (n:=m.toNat-(H9.getD 0).toNat) hd (es:=(es.take m.toNat).drop (H9.getD 0).toNat) (fun c hc=>hl c (CF (Iy hc))) B0
         (Ba.sub (c':=m.toNat-(H9.getD 0).toNat) hr rfl hl (l:=(H9.getD 0).toNat) (m:=m.toNat) ch ch ch (if m.toNat=(H9.getD 0).toNat then a else a.map (·.add ((H9.getD 0).toNat*(cx.T e).size))) (by
          grind))
        exact⟨_,w,g',_,_,CP,hk,k1,k2,k3⟩
       simp_all
      simp_all
    .obtain⟨⟨h1,h2,h3⟩,h4,hk⟩:=hk;obtain rfl:=hx.v_eq;have CP:=E7 (P:=P) (w:=w) hT hs FE none 0 0 H9 OH vg h4 ch B0 B0 B0
     grind [Bv.does,Bv.val]
    .rename_i r n;split at hk
     .rename_i sz es e0;split at hk
      .rename_i Vw;obtain rfl:=A3 Vw;obtain⟨⟨h1,h2,h3,h4,h5⟩,hk⟩:=hk;have ho:=hI.objs r;rw[e0]at ho;obtain⟨t1,l1,al,a3⟩:=ho;have hl:(h r).live:=by rw[e0];trivial
       have Ab6:vg=none\/OH≠none:=h5.imp id (fun q=>q.2);cases hx with
       |msl _ _ _ a cap hu ht' hn ha Sy=>
        have hv:=Sy (h1.trans l1.symm);subst h1;have qF:∀c:Nat,es.length<=c->OH.getD es.length<=vg.getD c/\vg.getD c<=c:=fun c hc=>by
         rcases h5 with h5 | ⟨h5,Ef⟩
         .grind
         .obtain⟨m,hm⟩:=Option.ne_none_iff_exists'.1 Ef<;>grind
        rcases a3 with ⟨rfl,q2,q3⟩ | ⟨b,Mn,E,vs,q1,q2,q3,q4,q5,q6,q7⟩
        .rw[q2]at hv;cases hv;have CP:=E7 (P:=P) (w:=w) hT hs FE none 0 0 H9 OH vg Ab6 h2 h3 (qF 0 Cl).1 (qF 0 Cl).2
         obtain⟨k1,k2⟩:=hI.upd r .dead (g.ρ r) (g.ln r) (g.tk r) (g.own r) g.S w none ⟨rfl,rfl,rfl,Ao _⟩ (fun _ _ _=>rfl) (fun b e=>by cases e) (fun _ _ h=>h) (fun _ _ h=>.inl h) (fun b o e=>by cases e) (fun b hh _=>by cases hh) Cl
          (fun _=>⟨rfl,Ao _,fun _=>rfl,fun _=>rfl⟩) (fun _ _=>trivial)
         refine⟨_,w,_,_,_,CP,hk,k1,k2,?_⟩
         grind [Ba.snil]
        .rw[q1]at hv;cases hv;have CP:=E7 (P:=P) (w:=w) hT hs FE (some ⟨b,0,none⟩) es.length cap H9 OH vg Ab6 h2 h3 (qF _ q3).1 (qF _ q3).2;have AaC:=(hI.loc r b hl q2).1
         obtain⟨k1,k2⟩:=hI.upd r .dead (g.ρ r) (g.ln r) (g.tk r) (g.own r) (g.more b (es.length*(cx.T e).size)) w none ⟨rfl,rfl,rfl,Ao _⟩ (fun _ _ _=>rfl) (fun b e=>by cases e) (fun _ _ h=>.inl h)
          (fun b' o hs=>hs.elim .inl (fun hs=>.inr ⟨by omega,.inr ⟨hl,by simp_all⟩⟩)) (fun b o e=>by cases e) (fun b hh _=>by cases hh) Cl
          (fun _=>⟨rfl,Ao _,fun _=>rfl,fun _=>rfl⟩) (fun _ _=>trivial)
         have Ey:=Ba.slice_row (g:=g.upd r (g.ρ r) (g.ln r) (g.tk r) (g.own r) (g.more b (es.length*(cx.T e).size))) (U:=FD) q4 al q3 (q6.mono k2.keeps (fun _ h=>h) (fun _ h=>h.elim)) (fun o ho=>.inr ⟨rfl,ho⟩);have Akq:=qF _ q3;refine⟨_,w,_,_,_,CP,hk,k1,k2,(Ba.sub (c':=(vg.getD cap).toNat-(H9.getD 0).toNat) Ey rfl al (l:=(H9.getD 0).toNat) (m:=(OH.getD es.length).toNat) ch ch ch _ ?_).up _⟩
         grind
      simp_all
     simp_all
    simp_all
  simp_all
 simp_all
theorem VN(hT:Ca P cx.T){d:Option Nat}{ty:Nat}{n c:AV}{vn vc:Value}(hn:Ba g w (AJ h) n vn)(hc:Ba g w (AJ h) c vc)(hk:JK cx d h ty n c K) :
  N2 P w0 g0 h0 h g w (Instr.makeSlice ty vn vc) K:=by
 unfold JK at hk;split at hk
 .rename_i e n c hs;obtain rfl:=hn.v_eq;obtain rfl:=hc.v_eq;split at hk
  .rename_i Ys;split at hk
   .rename_i aG;have aG:=A3 aG;split at hk
    .simp_all
    .rename_i k FE;obtain⟨⟨h1,h2,h3,h4⟩,hk⟩:=hk;obtain⟨i,z,i1,i2,i3,i4,i5⟩:=HQ hT FE;have xn:(cx.T e).zc≠[]:=fun e0=>by simp_all
     have wn:IntKind.i64.wrap n=n:=Nv ⟨by omega,by omega⟩;have wc:IntKind.i64.wrap c=c:=Nv ⟨by omega,by omega⟩;have Gl:∀l:List AV,(∀a∈l,one a=true)->GT l=true:=by
      intro l
      induction l<;>grind [GT]
     have xf:((Array.range (c.toNat*(cx.T e).size)).map fun k=>z.cells[k % z.cells.size]!).toList=(List.replicate c.toNat (cx.T e).zc).flatten:=by
      rw[H4 c.toNat _ xn,aG,i5];have e6:z.cells.size=(cx.T e).size:=B0
      simp[e6,Array.getElem!_eq_getD]
     have hzs:(cx.T e).zc.length=(cx.T e).size:=aG;have hlr:∀c'∈List.replicate c.toNat (cx.T e).zc,c'.length=(cx.T e).size:=fun c' hc=>by simp_all
     have AfE : ∀c'∈List.replicate n.toNat ((cx.T e).zc.map AV.v),c'.length=(cx.T e).size:=fun c' hc=>by simp_all
     have Akn:∀c'∈List.replicate n.toNat (cx.T e).zc,c'.length=(cx.T e).size:=fun c' hc=>by simp_all
     obtain⟨g',av,h',q1,q2,q3,q4⟩:=Ki hI hk (vs:=(Array.range (c.toNat*(cx.T e).size)).map fun k=>z.cells[k % z.cells.size]!) (cap:=c.toNat) e AfE aa0 Cl (by
      rw[xf,Cu];have e1:(List.replicate n.toNat ((cx.T e).zc.map AV.v)).flatten=(List.replicate n.toNat (cx.T e).zc).flatten.map AV.v:=by
       simp_all
      have e2:(List.replicate c.toNat (cx.T e).zc).flatten.take (n.toNat*(cx.T e).size)=(List.replicate n.toNat (cx.T e).zc).flatten:=by
       obtain⟨m,hm⟩:∃m,c.toNat=n.toNat+m:=⟨c.toNat-n.toNat,by omega⟩;rw[hm,<-List.replicate_append_replicate,Ci,JY B0]
      grind [Ck.vals,M0]) w ⟨rfl,rfl,rfl,rfl⟩
     rw[Cu]at q4;refine⟨_,_,g',av,h',?_,q1,q2,q3,q4⟩;have hb0:¬((cx.T e).bytes*c>2 ^ 48):=aa0
     have nE:((decide (c<0)||decide (((cx.T e).bytes:Int)*c>2 ^ 48))||decide (n<0)||decide (n>c))=false:=by
      grind
     simp only[Instr.makeSlice,Sem.run_bind,run_underlying (hT.slice hs),Result.andThen_ok,asInt,asIntOf,Sem.run_pure,typeInfo,run_program,i1,i4,wn,wc,nE,OJ,if_false,run_askRoom,hT.size1 w FE]
     by_cases hz:c.toNat*(k+1)=0
     .have hc0:c.toNat=0:=by
       simp_all
      rw[hc0];simp only[Nat.zero_mul,if_true];simp only[show Array.range 0=#[]from rfl,Array.map_empty];simp[newRow]
     .simp only[AA hz,Sem.run_bind,zeroValue,typeInfo,run_program,i1,i2,Result.andThen_ok,Sem.run_pure];rw[FE];simp[newRow]
   simp_all
  simp_all
 simp_all
end
end Go.Eng
namespace Go.Eng
open Go.ChangeMaps (setBlock)
variable {BU:List (Value×AV)}{es:Array MapEntry}{sh:E1}{vx:Value}{α β:Type}{f:α->β}{l:List α}{ck:Nat}{w:World}{k x y:Value}{a:AV}{K:HK}{r:Nat}{o':Obj}{j:Nat}{v:AV}{T:GK}
theorem VR{o:Obj}(h:w.heap[r]?=some o):(setBlock w r o').heap[r]?=some o':=by
 grind [setBlock]
theorem Vc{k:Nat}(h:k≠r):(setBlock w r o').heap[k]?=w.heap[k]?:=by
 grind [setBlock]
theorem VS(w:World)(r:Nat)(o' : Obj):(setBlock w r o').heap.size=w.heap.size:=by simp[setBlock]
theorem PP(h:(l.map f).Nodup):l.Nodup:=by
 induction l<;>grind
theorem WW(h:(l.map f).Nodup){i:Nat}{a b:α}(ha:l[i]?=some a)(hb:l[j]?=some b)(he:f a=f b):i=j:=by
 induction l generalizing i j<;>grind
open Classical in
theorem Nh{b:AV}(h:(k,b)∈BU):EV BU k a=BU.map fun p=>if p.1=k then(k,a)else p:=Ax ⟨b,h⟩
open Classical in
theorem Im(h:∀b,(k,b)∉BU):EV BU k a=BU++[(k,a)]:=AA (fun⟨b,e⟩=>h b e)
theorem WT(f:AV->AV)(h:Hq sh es ck BU):Hq sh es ck (BU.map fun p=>(p.1,f p.2)):=by
 obtain⟨h1,h2,h3,h4,h5,h6⟩:=h;refine⟨by simp_all,fun i kv e q1 q2=>?_,fun kv jA=>?_,?_,h5,h6⟩
 all_goals grind
theorem PI(h:Hq sh es ck BU)(hj:BU[j]?=some (x,a)) :
  Hq sh (es.modify j fun e=>{ e with key:=x,val:=y }) ck (EV BU x v) /\
   ∀(i:Nat) (kv:Value×AV) (e:MapEntry),(EV BU x v)[i]?=some kv->(es.modify j fun e=>{ e with key:=x,val:=y })[i]?=some e ->
    (kv.2=v/\e.val=y)\/(BU[i]?=some kv/\es[i]?=some e):=by
 classical
 rw[Nh (AG hj)];obtain⟨h1,h2,h3,h4,h5,h6⟩:=h;have hm:∀i e,(es.modify j fun e=>{ e with key:=x,val:=y })[i]?=some e->∃e0,es[i]?=some e0/\e.born=e0.born/\(if i=j then e.key=x/\e.val=y else e=e0):=by
  grind
 have hk:∀i kv,(BU.map fun p=>if p.1=x then(x,v)else p)[i]?=some kv->∃p,BU[i]?=some p/\kv.1=p.1/\(if i=j then kv.2=v else kv=p):=by
  intro i kv jA;rw[B1]at jA;obtain⟨p,q1,q2⟩:=Cj.1 jA;refine⟨p,q1,?_⟩
  grind [WW]
 have Ai3:(BU.map fun p=>if p.1=x then(x,v)else p).map (·.1)=BU.map (·.1):=by
  rw[Bw];apply CC
  grind
 refine⟨⟨by grind,fun i kv e q1 q2=>?_,fun kv jA=>?_,by grind,fun i e q=>?_,fun i i' e e' q q' hb=>?_⟩,fun i kv e q1 q2=>?_⟩
 all_goals grind
theorem UE(h:Hq sh es ck BU)(hx:YV sh x=true)(hn:∀a,(x,a)∉BU) :
  Hq sh (es.push { key:=x,val:=y,born:=ck }) (ck+1) (EV BU x v) /\
   ∀(i:Nat) (kv:Value×AV) (e:MapEntry),(EV BU x v)[i]?=some kv->(es.push { key:=x,val:=y,born:=ck })[i]?=some e ->
    (kv.2=v/\e.val=y)\/(BU[i]?=some kv/\es[i]?=some e):=by
 rw[Im hn];obtain⟨h1,h2,h3,h4,h5,h6⟩:=h;have hm:∀i e,(es.push { key:=x,val:=y,born:=ck })[i]?=some e->(es[i]?=some e/\i<es.size)\/(i=es.size/\e={ key:=x,val:=y,born:=ck }):=by
  grind
 have hk:∀i kv,(BU++[(x,v)])[i]?=some kv->(BU[i]?=some kv/\i<es.size)\/(i=es.size/\kv=(x,v)):=by
  grind
 refine⟨⟨by grind,fun i kv e q1 q2=>?_,fun kv jA=>?_,?_,fun i e q=>?_,fun i i' e e' q q' hb=>?_⟩,fun i kv e q1 q2=>?_⟩
 all_goals grind
section
variable {P:Program}{w0:World}{g0:Gh}{h0 h:Nat->HO}{g:Gh}{w:World}(hI:CU w0 g0 h0 h g w)
include hI
theorem CU.swap{r b:Nat}(hl:(h r).live)(ho:g.own r=some b)(hn:∀o,¬g.S b o)(o' : HO){ob:Obj}(hb:w.heap[b]?=some ob)(gL : Obj)(w1:World)(Uo:w1.heap=w.heap/\w1.os=w.os/\w1.tape=w.tape/\w1.output=w.output)(Ef:o'≠.free)
  (Ma:Kr g (g.upd r (g.ρ r) (g.ln r) (g.tk r) (g.own r) g.S) (AJ h)->EF g w (g.upd r (g.ρ r) (g.ln r) (g.tk r) (g.own r) g.S) (setBlock w1 b gL)->(setBlock w1 b gL).heap[b]?=some gL ->
   (∀k,k≠b->(setBlock w1 b gL).heap[k]?=w.heap[k]?) ->
   DR (g.upd r (g.ρ r) (g.ln r) (g.tk r) (g.own r) g.S) (setBlock w1 b gL) (AJ (AO h r o')) r o') :
  CU w0 g0 h0 (AO h r o') (g.upd r (g.ρ r) (g.ln r) (g.tk r) (g.own r) g.S) (setBlock w1 b gL)/\Le h g w (AO h r o') (g.upd r (g.ρ r) (g.ln r) (g.tk r) (g.own r) g.S) (setBlock w1 b gL):=by
 have EU:=(hI.loc r b hl ho).1;have EO:(setBlock w1 b gL).heap[b]?=some gL:=VR (by rw[Uo.1];exact hb);have dC:∀k,k≠b->(setBlock w1 b gL).heap[k]?=w.heap[k]?:=fun k hk=>by grind [Vc]
 refine hI.upd r o' _ _ _ _ _ _ (some b) ⟨Uo.2.1,Uo.2.2.1,Uo.2.2.2,by grind [VS]⟩ (fun k _ Ef=>dC k (fun e=>Ef (by rw[e]))) (fun b' e=>by simp_all) (fun _ _ h=>h) (fun _ _ h=>.inl h)
  (fun b' o e hs=>by simp_all) (fun b' _ e=>?_) Ef (fun _=>⟨rfl,Ao _,fun _=>rfl,fun _=>rfl⟩) (fun hg hk=>Ma hg hk EO dC)
 grind
theorem NS(hT:Ca P T){ty:Nat}{m k x:AV}{vm vk:Value}(hm:Ba g w (AJ h) m vm)(hk' : Ba g w (AJ h) k vk)(hx:Ba g w (AJ h) x vx)(hk:Hm T h ty m k x K) :
  lE P w0 g0 h0 h g w (Instr.mapUpdate ty vm vk vx) K:=by
 unfold Hm at hk;split at hk
 .rename_i r;split at hk
  .rename_i sh BU e0;obtain⟨kt,e,k1,k2,k3,k4⟩:=M9 hk' hk;have ho:=hI.objs r;rw[e0]at ho;obtain⟨t1,b,es,ck,a1,a2,a3,a4,a5,a6⟩:=ho;have hl:(h r).live:=by rw[e0];trivial
   cases hm with
   |mref _ _ b' hu ht hp=>
    rw[a2]at hp;cases hp;have nS:=hT.map k1;have FW:=run_getObj_map (P:=P) w b es ck a3;have Oe:∀o',(setObj b o').run P w=.ok () (setBlock w b o'):=fun o'=>by grind [setObj,Sem.run,setBlock]
    have Uj:=fun bb=>MU hT k2 w bb k3;obtain⟨res,r1,r2⟩:=Ox hT k2 w k3 es.toList a4.shape;have sr:=Ba.str hI.objs hx;rcases r2 with ⟨rfl,hn⟩ | ⟨j,en,rfl,hj,hkey⟩
    .obtain⟨m1,m2⟩:=UE a4 (x:=vk) (v:=str h x) (y:=vx) k3 (fun a=>a4.none hn a);obtain⟨i1,i2⟩:=CU.swap hI hl a1 a6 (.map sh (EV BU vk (str h x))) a3 (.map (es.push { key:=vk,val:=vx,born:=ck }) (ck+1)) w ⟨rfl,rfl,rfl,rfl⟩ Cl (fun hg IN EO dC=>by
      obtain⟨u1,u2,u3,u4⟩:=Bo g r (g.ρ r) (g.ln r) (g.tk r) (g.own r) g.S;refine⟨u3.trans t1,b,_,_,u4.trans a1,u1.trans a2,EO,m1,fun i kv e q1 q2=>?_,a6⟩;rcases m2 i kv e q1 q2 with ⟨p1,p2⟩ | ⟨p1,p2⟩
      .rw[p1,p2];exact sr.mono IN (fun _ h=>h) (fun _ h=>h.elim)
      .exact(a5 i kv e p1 p2).mono IN (fun _ h=>h) (fun _ h=>h.elim))
     refine⟨_,_,_,?_,k4,i1,i2⟩;simp[Instr.mapUpdate,run_underlying nS,FW,Uj,r1,Oe]
    .obtain⟨a,q1,q2⟩:=a4.some hj hkey;obtain⟨m1,m2⟩:=PI a4 (x:=vk) (v:=str h x) (y:=vx) q1;obtain⟨i1,i2⟩:=CU.swap hI hl a1 a6 (.map sh (EV BU vk (str h x))) a3 (.map (es.modify j fun e=>{ e with key:=vk,val:=vx }) ck) w ⟨rfl,rfl,rfl,rfl⟩ Cl (fun hg IN EO dC=>by
      obtain⟨u1,u2,u3,u4⟩:=Bo g r (g.ρ r) (g.ln r) (g.tk r) (g.own r) g.S;refine⟨u3.trans t1,b,_,_,u4.trans a1,u1.trans a2,EO,m1,fun i kv e q1 q2=>?_,a6⟩;rcases m2 i kv e q1 q2 with ⟨p1,p2⟩ | ⟨p1,p2⟩
      .rw[p1,p2];exact sr.mono IN (fun _ h=>h) (fun _ h=>h.elim)
      .exact(a5 i kv e p1 p2).mono IN (fun _ h=>h) (fun _ h=>h.elim))
     refine⟨_,_,_,?_,k4,i1,i2⟩;have hj' : es[j]?=some en:=B0
     have KP:=Si (P:=P) w k3;simp[Instr.mapUpdate,run_underlying nS,FW,Uj,r1,Oe,hj',hkey,KP]
  .rename_i sh BU e0;obtain⟨kt,e,k1,k2,k3,k4⟩:=M9 hk' hk;have ho:=hI.objs r;rw[e0]at ho;obtain⟨t1,b,es,ck,a1,a2,a3,a4,a5,a6⟩:=ho;have hl:(h r).live:=by rw[e0];trivial
   cases hm with
   |mref _ _ b' hu ht hp=>
    rw[a2]at hp;cases hp;have nS:=hT.map k1;have FW:=run_getObj_map (P:=P) w b es ck a3;have Oe:∀o',(setObj b o').run P w=.ok () (setBlock w b o'):=fun o'=>by grind [setObj,Sem.run,setBlock]
    have Uj:=fun bb=>MU hT k2 w bb k3;obtain⟨res,r1,r2⟩:=Ox hT k2 w k3 es.toList a4.shape;rcases r2 with ⟨rfl,hn⟩ | ⟨j,en,rfl,hj,hkey⟩
    .obtain⟨m1,m2⟩:=UE a4 (x:=vk) (v:=x) (y:=vx) k3 (fun a=>a4.none hn a);obtain⟨i1,i2⟩:=CU.swap hI hl a1 a6 (.mapU sh (EV BU vk (x))) a3 (.map (es.push { key:=vk,val:=vx,born:=ck }) (ck+1)) w ⟨rfl,rfl,rfl,rfl⟩ Cl (fun hg IN EO dC=>by
      obtain⟨u1,u2,u3,u4⟩:=Bo g r (g.ρ r) (g.ln r) (g.tk r) (g.own r) g.S;have Mh:∀i,AJ h i->AJ (AO h r (.mapU sh (EV BU vk x))) i:=fun i hi=>DG Cl i hi;refine⟨u3.trans t1,b,_,_,u4.trans a1,u1.trans a2,EO,m1,fun i kv e q1 q2=>?_,a6⟩
      grind [Ba.mono])
     refine⟨_,_,_,?_,k4,i1,i2⟩;simp[Instr.mapUpdate,run_underlying nS,FW,Uj,r1,Oe]
    .obtain⟨a,q1,q2⟩:=a4.some hj hkey;obtain⟨m1,m2⟩:=PI a4 (x:=vk) (v:=x) (y:=vx) q1;obtain⟨i1,i2⟩:=CU.swap hI hl a1 a6 (.mapU sh (EV BU vk (x))) a3 (.map (es.modify j fun e=>{ e with key:=vk,val:=vx }) ck) w ⟨rfl,rfl,rfl,rfl⟩ Cl (fun hg IN EO dC=>by
      obtain⟨u1,u2,u3,u4⟩:=Bo g r (g.ρ r) (g.ln r) (g.tk r) (g.own r) g.S;have Mh:∀i,AJ h i->AJ (AO h r (.mapU sh (EV BU vk x))) i:=fun i hi=>DG Cl i hi;refine⟨u3.trans t1,b,_,_,u4.trans a1,u1.trans a2,EO,m1,fun i kv e q1 q2=>?_,a6⟩
      grind [Ba.mono])
     refine⟨_,_,_,?_,k4,i1,i2⟩;have hj' : es[j]?=some en:=B0
     have KP:=Si (P:=P) w k3;simp[Instr.mapUpdate,run_underlying nS,FW,Uj,r1,Oe,hj',hkey,KP]
  simp_all
 simp_all
theorem Oq{d b:Nat}{ck:Nat}(hd:h d=.free)(hS:g.S b 0)(hb:w.heap[b]?=some (.map es ck))(hm:Hq sh es ck BU)(hv:∀(i:Nat) (kv:Value×AV) (e:MapEntry),BU[i]?=some kv->es[i]?=some e->Ba g w FD kv.2 e.val) :
  ∃g',CU w0 g0 h0 (AO h d (.iter BU BU none)) g' (w.alloc (.mapIter (some b) ck #[] ck))/\Le h g w (AO h d (.iter BU BU none)) g' (w.alloc (.mapIter (some b) ck #[] ck)) /\
   Ba g' (w.alloc (.mapIter (some b) ck #[] ck)) (AJ (AO h d (.iter BU BU none))) (.ref d 0) (.pointer (some ⟨w.heap.size,0,none⟩)):=by
 obtain⟨k1,k2⟩:=hI.newOwn hd (.iter BU BU none) (.mapIter (some b) ck #[] ck) (.pointer (some ⟨w.heap.size,0,none⟩)) 0 false w ⟨rfl,rfl,rfl,rfl⟩ Cl (fun hg hk=>by
  obtain⟨u1,u2,u3,u4⟩:=Bo g d (.pointer (some ⟨w.heap.size,0,none⟩)) 0 false (some w.heap.size) g.S;obtain⟨c1,c2,c3⟩:=hk b 0 hS
  exact⟨u3,w.heap.size,b,ck,#[],ck,es,ck,u4,u1,GC w _ rfl,c1,c3 es ck hb,⟨sh,hm⟩,rfl,rfl,fun i kv e q1 q2=>(hv i kv e q1 q2).mono hk (fun _ h=>h) (fun _ h=>h.elim),
   ⟨PP hm.2.2.2.1,fun _ h=>h⟩,fun i kv e q1 q2=>by simp[List.mem_of_getElem? q1],trivial,fun o ho=>by have:=hI.slt _ _ ho;omega⟩)
 refine⟨_,k1,k2,.ref _ d 0 w.heap.size (by unfold AJ;rw[A5];simp) ?_ ?_⟩<;>simp[Gh.upd]
theorem RW{r b:Nat}{ck:Nat}(e0:h r=.map sh BU)(a1:g.own r=some b)(a2:g.ρ r=.map (some b))(a3:w.heap[b]?=some (.map es ck))(a4:Hq sh es ck BU)(a5:∀(i:Nat) (kv:Value×AV) (e:MapEntry),BU[i]?=some kv->es[i]?=some e->Ba g w FD kv.2 e.val)(t1:g.tk r=false) :
  ∃g',CU w0 g0 h0 (AO h r (.rom sh BU)) g' w/\Le h g w (AO h r (.rom sh BU)) g' w/\g'.S b 0:=by
 have hl:(h r).live:=by rw[e0];trivial
 have EU:=(hI.loc r b hl a1).1
 obtain⟨k1,k2⟩:=hI.upd r (.rom sh BU) (g.ρ r) (g.ln r) (g.tk r) none (g.more b 1) w none ⟨rfl,rfl,rfl,Ao _⟩ (fun _ _ _=>rfl) (fun b e=>by cases e) (fun _ _ h=>.inl h)
  (fun b' o hs=>hs.elim .inl (fun hs=>.inr ⟨by omega,.inr ⟨hl,by simp_all⟩⟩)) (fun b o e=>by cases e) (fun b hh _=>by cases hh) Cl
  (fun _=>⟨rfl,Ao _,fun _=>rfl,fun _=>rfl⟩) (fun hg hk=>by
   obtain⟨u1,u2,u3,u4⟩:=Bo g r (g.ρ r) (g.ln r) (g.tk r) none (g.more b 1);exact⟨u3.trans t1,b,u1.trans a2,.cmap _ sh BU b es ck (.inr ⟨rfl,VY⟩) a3 a4 (fun i kv e q1 q2=>(a5 i kv e q1 q2).mono hk (fun _ h=>h) (fun _ h=>h.elim))⟩)
 exact⟨_,k1,k2,.inr ⟨rfl,VY⟩⟩
theorem YD{r b:Nat}{ck:Nat}(e0:h r=.mapU sh BU)(a1:g.own r=some b)(a2:g.ρ r=.map (some b))(a3:w.heap[b]?=some (.map es ck))(a4:Hq sh es ck BU)(a5:∀(i:Nat) (kv:Value×AV) (e:MapEntry),BU[i]?=some kv->es[i]?=some e->Ba g w (AJ h) kv.2 e.val)(t1:g.tk r=false) :
  ∃g',CU w0 g0 h0 (AO h r (.rom sh (SG h BU))) g' w/\Le h g w (AO h r (.rom sh (SG h BU))) g' w/\g'.S b 0:=by
 have hl:(h r).live:=by rw[e0];trivial
 have EU:=(hI.loc r b hl a1).1
 obtain⟨k1,k2⟩:=hI.upd r (.rom sh (SG h BU)) (g.ρ r) (g.ln r) (g.tk r) none (g.more b 1) w none ⟨rfl,rfl,rfl,Ao _⟩ (fun _ _ _=>rfl) (fun b e=>by cases e) (fun _ _ h=>.inl h)
  (fun b' o hs=>hs.elim .inl (fun hs=>.inr ⟨by omega,.inr ⟨hl,by simp_all⟩⟩)) (fun b o e=>by cases e) (fun b hh _=>by cases hh) Cl
  (fun _=>⟨rfl,Ao _,fun _=>rfl,fun _=>rfl⟩) (fun hg hk=>by
   obtain⟨u1,u2,u3,u4⟩:=Bo g r (g.ρ r) (g.ln r) (g.tk r) none (g.more b 1);refine⟨u3.trans t1,b,u1.trans a2,.cmap _ sh _ b es ck (.inr ⟨rfl,VY⟩) a3 (WT _ a4) (fun i kv e q1 q2=>?_)⟩;unfold SG at q1;rw[B1]at q1;obtain⟨p,q3,rfl⟩:=Cj.1 q1;exact((a5 i p e q3 q2).str hI.objs).mono hk (fun _ h=>h) (fun _ h=>h.elim))
 exact⟨_,k1,k2,.inr ⟨rfl,VY⟩⟩
theorem kL(hT:Ca P T){ty kt e:Nat}(ht:(T ty).d=.map kt e){d:Option Nat}{x:AV}(hx:Ba g w (AJ h) x vx)(hk:eG d h x K) :
  N2 P w0 g0 h0 h g w (Instr.range ty vx) K:=by
 have hu:=hT.map ht;unfold eG at hk;split at hk
 .simp_all
 .rename_i d;split at hk
  .rename_i hd;have CP:∀b es ck,w.heap[b]?=some (.map es ck)->(Instr.range ty (.map (some b))).run P w=.ok (.pointer (some ⟨w.heap.size,0,none⟩)) (w.alloc (.mapIter (some b) ck #[] ck)):=fun b es ck hb=>by
    simp[Instr.range,run_underlying hu,run_getObj_map (P:=P) w b es ck hb]
   split at hk
   .cases hx with
    |cmap _ _ _ b es ck hS hb hm hv=>
     obtain⟨g',k1,k2,k3⟩:=Oq hI hd hS hb hm hv;exact⟨_,_,_,_,_,CP _ _ _ hb,hk,k1,k2,k3⟩
   .rename_i r;have ho:=hI.objs r;cases hx with
    |mref _ _ b nS ht' hp=>
     split at hk
     .rename_i sh BU e0;rw[e0]at ho;obtain⟨_,b',a1,a2⟩:=ho;rw[a1]at hp;cases hp;cases a2 with
      |cmap _ _ _ _ es ck hS hb hm hv=>
       obtain⟨g',k1,k2,k3⟩:=Oq hI hd hS hb hm hv;exact⟨_,_,_,_,_,CP _ _ _ hb,hk,k1,k2,k3⟩
     .rename_i sh BU e0;rw[e0]at ho;obtain⟨t1,b',es,ck,a1,a2,a3,a4,a5,a6⟩:=ho;rw[a2]at hp;cases hp;obtain⟨g1,i1,i2,i3⟩:=RW hI e0 a1 a2 a3 a4 a5 t1;have Ef:d≠r:=fun e=>by simp_all
      obtain⟨g',k1,k2,k3⟩:=Oq i1 (by rw[BR _ _ _ _ Ef];exact hd) i3 a3 a4 (fun i kv e q1 q2=>(a5 i kv e q1 q2).mono i2.keeps (fun _ h=>h) (fun _ h=>h.elim));exact⟨_,_,_,_,_,CP _ _ _ a3,hk,k1,i2.trans k2,k3⟩
     simp_all
   simp_all
  simp_all
theorem oJ{ty:TypeId}{x:AV}(hx:Ba g w (AJ h) x vx)(hk:oH h x K):N2 P w0 g0 h0 h g w (Instr.next vx false ty) K:=by
 unfold oH at hk;split at hk
 .rename_i r;split at hk
  .rename_i all rem Ep e0;have ho:=hI.objs r;rw[e0]at ho;obtain⟨t1,b,mb,Kp,seen,st,es,ck,a1,a2,a3,a4,a5,⟨sh,a6⟩,a7,a8,a9,Zs,fp,a12,vM⟩:=ho;have hl:(h r).live:=by rw[e0];trivial
   cases hx with
   |ref _ _ _ b' hu ht hp=>
    rw[a2]at hp;cases hp;have EU:∀e∈es.toList,e.born<Kp:=fun e he=>by
     obtain⟨i,hi⟩:=En.1 he
     have:=a6.2.2.2.2.1 i e B0
     omega
    rcases run_next_at (P:=P) w ty b mb Kp st seen es ck a3 a5 EU ch with ⟨q1,q2⟩ | ⟨e,q1,w1,q2,q3⟩
    .have AfU:rem=[]:=by
      apply L6.2;intro kv jA;obtain⟨i,hi⟩:=En.1 (Zs.2 kv jA);have hil:i<es.size:=by rw[a6.1];grind
      have hb:=(fp i kv es[i] hi B0).1 jA;have hm:es[i]∈leftOf es seen:=by grind [leftOf]
      simp_all
     exact⟨_,w,g,_,h,q2,hk.1 AfU,hI,.refl _ _ _,.tup _ _ _ rfl (fun i av x h1 h2=>by
      grind [Ba.v])⟩
    .have hq:e∈es/\e.born∉seen:=by grind [leftOf]
     obtain⟨i,hi⟩:=Array.mem_iff_getElem?.1 hq.1;have hil:i<all.length:=by rw[<-a6.1];grind
     have hai:all[i]?=some all[i]:=A0 hil;have lz:=(fp i _ e hai hi).2 hq.2;obtain⟨s1,s2,hs⟩:=List.append_of_mem lz;have I6:rem.Perm (all[i]::(s1++s2)):=B0
     have aD:(all[i]::(s1++s2)).Nodup:=I6.nodup_iff.1 Zs.1;have hr:=a9 i _ e hai hi;have hkey:=a6.2.1 i _ e hai hi;have Uo:w1.heap=w.heap/\w1.os=w.os/\w1.tape=w.tape/\w1.output=w.output:=by rcases q2 with rfl | rfl<;>exact⟨rfl,rfl,rfl,rfl⟩
     obtain⟨k1,k2⟩:=CU.swap hI hl a1 vM (.iter all (s1++s2) (some all[i])) a3 (.mapIter (some mb) Kp (seen.push e.born) ck) w1 Uo Cl (fun hg IN EO dC=>by
      obtain⟨u1,u2,u3,u4⟩:=Bo g r (g.ρ r) (g.ln r) (g.tk r) (g.own r) g.S;obtain⟨c1,c2,c3⟩:=IN mb 0 a4
      refine⟨u3.trans t1,b,mb,Kp,_,ck,es,ck,u4.trans a1,u1.trans a2,EO,c1,c3 _ _ a5,⟨sh,a6⟩,a7,rfl,fun i kv e p q=>(a9 i kv e p q).mono IN (fun _ h=>h) (fun _ h=>h.elim),
       ⟨(HN.1 aD).2,fun kv jA=>Zs.2 kv (I6.mem_iff.2 (Am _ jA))⟩,fun j kv e' p q=>?_,⟨i,e,hai,hi,by simp⟩,vM⟩
      rw[Array.mem_push];have h1:=fp j kv e' p q;rw[I6.mem_iff,AZ]at h1;constructor
      .intro jA hc;rcases hc with hc | hc
       .simp_all
       .obtain rfl:=a6.2.2.2.2.2 j i e' e q hi hc<;>simp_all
      .intro hc;rcases h1.2 (fun hm=>hc (.inl hm))with e2 | e2
       .have:j=i:=WW (f:=fun x=>x) (l:=all) (by simpa using PP a6.2.2.2.1) p hai e2
        simp_all
       omega)
     refine⟨_,_,_,_,_,q3,hk.2 all[i] (s1++s2) I6,k1,k2,.tup _ _ _ rfl (fun j av x h1 h2=>?_)⟩
     match j,h1,h2 with
     |0,h1,h2=>grind [Ba.v]
     |1,h1,h2=>grind [Ba.v]
     |2,h1,h2=>simp at h1 h2;grind [Ba.le,Ba.up]
  simp_all
 simp_all
end
end Go.Eng
namespace Go.Eng
variable {F:(AV->Prop)->Prop}{a:AV}{α:Type}(T:GK)(cx:Cx)(o:Oper)(op:BinOp)(s:Nat)(st:St)(f:Nat)(R:List Nat)(k:IntKind)(w:Option Nat)(K:HK)(x:AV)
def Gj(F:(AV->Prop)->Prop):Prop:=∀K,F K->∃v,K v/\∀K',K' v->F K'
theorem CW(v:AV):Gj (fun K=>K v):=fun _ h=>⟨v,h,fun _ h=>h⟩
theorem DO{p:Prop}(h:Gj F):Gj (fun K=>p/\F K):=fun K ⟨hp,hk⟩=>
 let ⟨v,h1,h2⟩:=h K hk
 ⟨v,h1,fun K' h'=>⟨hp,h2 K' h'⟩⟩
theorem Cn:Gj (fun _=>False):=fun _ h=>h.elim
theorem Xb(p:Prop):Gj (I2 p):=fun K h=>by
 by_cases hp:p
 .exact⟨_,h.1 hp,fun K' h'=>⟨fun _=>h',fun hn=>absurd hp hn⟩⟩
 .exact⟨_,h.2 hp,fun K' h'=>⟨fun q=>absurd q hp,fun _=>h'⟩⟩
theorem bN(h:Gj F):Gj (fun K=>F (kd K)):=fun K hk=>by
 obtain⟨v,h1,h2⟩:=h _ hk;unfold kd at h1;split at h1
 .exact⟨_,h1,fun K' h'=>h2 _ h'⟩
 .exact⟨_,h1,fun K' h'=>h2 _ h'⟩
 simp_all
theorem P0{F:α->(AV->Prop)->Prop}(h:∀x,Gj (F x)):Gj (fun K=>∃x,F x K):=fun K ⟨x,hk⟩=>
 let ⟨v,h1,h2⟩:=h x K hk
 ⟨v,h1,fun K' h'=>⟨x,h2 K' h'⟩⟩
theorem K7(t:Nat)(cs:List AV):Gj (L0 T t cs):=by
 have head:Gj (LX cs):=by unfold LX;cases cs with | nil=>exact Cn | cons a _=>exact CW a
 unfold L0;split
 .exact DO (CW _)
 .exact DO (CW _)
 .cases cs with
  |nil=>exact Cn
  |cons a _=>
   intro K h;simp only[LX]at h⊢;split at h
   .rename_i b;cases b<;>grind
   simp_all
 all_goals grind [Cn]
theorem gO(t:Nat)(x y:AV)(hx:∀tk es,x≠.slice tk es):Gj (zj T t x y):=by
 unfold zj
 repeat' split
 all_goals first | exact Cn | exact CW _ | exact Xb _ | simp_all | simp_all
theorem UY(a b:Int):Gj (Vd op k a b):=by
 unfold Vd;split<;>first | exact Cn | exact DO (CW _)
theorem eh(a b:Int):Gj (Tr op k a b):=by
 unfold Tr
 repeat' split
 all_goals first | exact Cn | exact DO (CW _) | (unfold XP;split<;>first | exact CW _ | exact DO (CW _) | grind [UY])
theorem pg(t:Nat)(x y:AV)(hx:∀tk es,x≠.slice tk es):Gj (Tx T op t x y):=by
 unfold Tx
 repeat' split
 all_goals first | exact Cn | exact Xb _ | exact eh _ _ _ _ | exact UY _ _ _ _ | exact DO (CW _) | exact gO _ _ _ _ hx | exact bN (gO _ _ _ _ hx)
theorem kD(t:Nat)(Y:Operand)(x y:AV)(hx:∀tk es,x≠.slice tk es):Gj (ZD T op t Y x y):=by
 unfold ZD
 repeat' split
 all_goals first | exact Cn | exact CW _ | grind [pg]
theorem kE(t:Nat)(x:AV):Gj (Wx T s t x):=by
 unfold Wx
 repeat' split
 all_goals first | exact Cn | exact CW _ | exact DO (CW _) | exact P0 fun _=>DO (CW _)
theorem eD:Gj (TZ T s f x):=by
 unfold TZ
 repeat' split
 all_goals first | exact Cn | exact CW _
theorem bL:Gj (Pl T s f x):=by
 unfold Pl
 repeat' split
 all_goals first | exact Cn | exact K7 _ _ _
theorem UX(t:Nat)(x ix:AV):Gj (JG T t x ix):=by
 unfold JG
 repeat' split
 all_goals first | exact Cn | exact DO (CW _) | exact P0 fun _=>DO (DO (CW _))
theorem eF(t:Nat)(x ix:AV):Gj (Ut T t x ix):=by
 unfold Ut
 repeat' split
 all_goals first | exact Cn | exact DO (K7 _ _ _) | exact P0 fun _=>DO (CW _)
theorem YL(i:Nat):Gj (Mw x i):=by
 unfold Mw
 repeat' split
 all_goals first | exact Cn | exact CW _
theorem pi:Gj (KV x):=by
 unfold KV
 repeat' split
 all_goals first | exact Cn | exact CW _
theorem kF(c a b:AV):Gj (bJ c a b):=by
 unfold bJ
 repeat' split
 all_goals first | exact Cn | exact CW _
theorem tn(f:Int->Int->Int)(x y:AV):Gj (sO f x y):=by
 unfold sO
 repeat' split
 all_goals first | exact Cn | exact CW _
theorem kG(op:UnOp)(x:AV):Gj (ca op x):=by
 unfold ca
 repeat' split
 all_goals first | exact Cn | exact CW _ | exact bN (CW _) | exact DO (CW _)
def uB(F:(α->Prop)->Prop):Prop:=∀K,F K->∃v,K v/\∀K',K' v->F K'
theorem bK(n:Nat)(a:AV):uB (Hj n a):=by
 intro K h;unfold Hj at h⊢
 grind
theorem UV(pl:Nat->Option (Nat×Nat))(t:Nat->AV):∀(ps:List (Nat×Operand)) (cs:List AV),uB (KO pl cs t ps)
 | [],cs=>fun K h=>⟨cs,h,fun _ h=>h⟩
 |(i,x)::r,cs=>by
  intro K h;unfold KO at h;split at h
  .simp_all
  .rename_i o n e;obtain⟨vs,h1,h2⟩:=bK _ _ _ h;split at h1
   .rename_i hb;obtain⟨c,h3,h4⟩:=UV pl t r _ _ h1<;>grind [KO]
   simp_all
theorem eu(ty:Nat)(t:Nat->AV)(ps:List (Nat×Operand)):Gj (QC T ty t ps):=by
 unfold QC
 repeat' split
 all_goals first
  |exact Cn
  |exact fun K h=>let ⟨c,h1,h2⟩:=UV _ _ _ _ _ h;⟨_,h1,fun K' h'=>h2 _ h'⟩
def eff(h:Nat->HO)(e:Option (Nat×HO)):Nat->HO:=match e with | none=>h | some (r,o)=>AO h r o
structure Alike(o:Oper)(R:List Nat)(st st2:St):Prop where
 t:∀x∈o.op.operands,ev st2.t x=ev st.t x
 h:∀r∈R,st2.h r=st.h r
def De:Prop:=
 ∃v e,K v (eff st.h e)/\(∀r o',e=some (r,o')->w=some r/\r∈R)/\∀st2,Alike o R st st2->∀K' : HK,K' v (eff st2.h e)->FZ cx true o st2 K'
def Td(r:Nat):Prop:=match w with | none=>False | some x=>x=r\/(10000000<=x/\(x % 10000000=r\/x / 10000000=r))\/x=XN
def Il(h:Nat->HO):List (Nat×HO)->Nat->HO
 | []=>h
 |p::l=>Il (AO h p.1 p.2) l
def SI:Prop:=
 ∃v e,K v (Il st.h e)/\(∀r o',(r,o')∈e->Td w r/\r∈R)/\∀st2,Alike o R st st2->∀K' : HK,K' v (Il st2.h e)->FZ cx true o st2 K'
section
variable {cx:Cx}{o:Oper}{st:St}{R:List Nat}{w:Option Nat}{K:HK}
theorem De.pick(hF:Gj F)(h:F fun v=>K v st.h)(h2:∀st2,Alike o R st st2->∀K' : HK,F (fun v=>K' v st2.h)->FZ cx true o st2 K'):De cx o st R w K:=
 let ⟨v,h1,h3⟩:=hF _ h
 ⟨v,none,h1,fun _ _ e=>(by cases e),fun st2 ha K' hk=>h2 st2 ha K' (h3 _ hk)⟩
theorem bi{cs:List AV}(h:a∈cs):∀r∈aI a,r∈su cs:=by
 induction cs with
 |nil=>cases h
 |cons c cs ih=>
  intro r hr;rcases AZ.1 h with rfl | h
  .exact CE _ hr
  .exact Cv _ (ih h r hr)
theorem ox{cs:List AV}(h:a∈cs):∀r∈Yu a,r∈xo cs:=by
 induction cs with
 |nil=>cases h
 |cons c cs ih=>
  intro r hr;rcases AZ.1 h with rfl | h
  .exact CE _ hr
  .exact Cv _ (ih h r hr)
theorem bh{cs:List AV}(h:a∈cs):∀r∈aH a,r∈Up cs:=by
 induction cs with
 |nil=>cases h
 |cons c cs ih=>
  intro r hr;rcases AZ.1 h with rfl | h
  .exact CE _ hr
  .exact Cv _ (ih h r hr)
theorem WG(a:AV):∀r∈aI a,r∈Yu a:=by cases a<;>simp[aI,Yu]
theorem Rt{h h2:Nat->HO}(e:∀r∈aI a,h2 r=h r):str0 h2 a=str0 h a:=by
 cases a<;>simp only[str0]
 all_goals grind [aI]
theorem Xt{h h2:Nat->HO}(e:∀r∈Yu a,h2 r=h r):str h2 a=str h a:=by
 cases a with
 |agg cs=>simp only[str];exact Aa _ (CC fun c hc=>Rt fun r hr=>e r (bi hc r hr))
 |clo f cs=>simp only[str];exact Aa _ (CC fun c hc=>Rt fun r hr=>e r (bi hc r hr))
 |_=>exact Rt (fun r hr=>e r (WG _ r hr))
theorem nV(a:AV):∀r∈Yu a,r∈aH a:=by
 cases a with
 |agg cs=>
  intro r hr;simp only[aH,Yu]at *
  induction cs with
  |nil=>exact hr
  |cons c cs ih=>
   rcases Bh.1 hr with h | h
   .exact CE _ (WG c r h)
   .exact Cv _ (ih h)
 |_=>exact fun r hr=>hr
theorem La{h h2:Nat->HO}(e:∀r∈aH a,h2 r=h r):str h2 a=str h a:=Xt fun r hr=>e r (nV a r hr)
theorem Ru{h h2:Nat->HO}{l:List AV}(e:∀r∈Up l,h2 r=h r):l.map (str h2)=l.map (str h):=
 CC fun _ ha=>La fun r hr=>e r (bh ha r hr)
theorem pF{h h2:Nat->HO}(e:∀r∈aH a,h2 r=h r):rsv h2 a=rsv h a:=by
 cases a<;>simp only[rsv]
 all_goals grind [aH,Yu,aI]
theorem N9{n:Nat}{K:List AV->Prop}(hk:Hj n a K):∃cs,K cs/\(∀K' : List AV->Prop,K' cs->Hj n a K')/\∀h h2:Nat->HO,(∀r∈aH a,h2 r=h r)->cs.map (str h2)=cs.map (str h):=by
 have single:K [a]->(∀K' : List AV->Prop,K' [a]->Hj n a K')->∃cs,K cs/\(∀K' : List AV->Prop,K' cs->Hj n a K')/\∀h h2:Nat->HO,(∀r∈aH a,h2 r=h r)->cs.map (str h2)=cs.map (str h):=
  fun h1 h2=>⟨[a],h1,h2,fun h h2 e=>by simp[La e]⟩
 unfold Hj at hk;split at hk
 .rename_i cs;split at hk
  .rename_i hn;refine⟨cs,hk,fun K' h=>by grind [Hj],fun h h2 e=>CC fun c hc=>Xt fun r hr=>e r (ox hc r hr)⟩
  simp_all
 .rename_i hna;split at hk
  .rename_i h1;split at hk
   .refine single hk fun K' h=>?_
    grind [Hj]
   simp_all
  simp_all
theorem T0{n sz:Nat}{t:Nat->AV}:∀{ps:List (Nat×Operand)} {es:C0} {h:Nat->HO} {K:C0->Prop},RJ n sz h es t ps K ->
  ∃FR,K FR/\∀(t2:Nat->AV) (h2:Nat->HO),(∀r∈Up (ps.map fun p=>ev t p.2),h2 r=h r)->(∀p∈ps,ev t2 p.2=ev t p.2)->∀K' : C0->Prop,K' FR->RJ n sz h2 es t2 ps K'
 | [],es,h,K,hk=>⟨es,hk,fun _ _ _ _ _ h=>h⟩
 |(i,x)::r,es,h,K,hk=>by
  unfold RJ at hk;split at hk
  .rename_i hb;obtain⟨cs,c1,c2,c3⟩:=N9 hk;obtain⟨FR,e1,e2⟩:=T0 c1;refine⟨FR,e1,fun t2 h2 hh ht K' hk'=>?_⟩;unfold RJ;rw[hb,ht (i,x) (Ah ..)];refine c2 _ ?_;rw[c3 h h2 (fun r hr=>hh r (CE _ hr))];exact e2 t2 h2 (fun r hr=>hh r (Cv _ hr)) (fun p hp=>ht p (Am _ hp)) K' hk'
  simp_all
theorem Iu{d:Option Nat}{h:Nat->HO}{sz:Nat}{es:C0}(hk:Fb cx d h sz es K) :
  ∃d',d.map (Ku cx)=some d'/\∃v x,K v (AO h d' x)/\∀h2:Nat->HO,h2 d'=h d'->∀K' : HK,K' v (AO h2 d' x)->Fb cx d h2 sz es K':=by
 unfold Fb at hk;split at hk
 all_goals grind [Fb]
theorem dh{h:Nat->HO}{x:AV}{K:C0->Prop}(hk:Ls h x K):∃es,K es/\∀h2:Nat->HO,(∀r n,x=.msl r n->h2 r=h r)->∀K' : C0->Prop,K' es->Ls h2 x K':=by
 unfold Ls at hk
 grind [Ls]
end
end Go.Eng
