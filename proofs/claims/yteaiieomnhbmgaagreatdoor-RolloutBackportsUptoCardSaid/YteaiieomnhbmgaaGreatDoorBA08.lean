/- Lemmas 8. -/
import Derived.Test.YteaiieomnhbmgaaGreatDoorBA07
import Derived.Maps.RangeRun
namespace Go.Eng
variable {ρ:Operand->Value}{es:C0}{hi:Option Operand}{vx:Value}{K:HK}{a:Option Addr}{cx:Cx}{x:AV}{T:GF}
section
variable {P:Program}{w0:World}{g0:Gh}{h0 h:Nat->HO}{g:Gh}{w:World}(hI:CV w0 g0 h0 h g w)
include hI
theorem OG{d sz n:Nat}(hd:h d=.free)(hl:∀c∈es,c.length=sz)(hn:es.length=n)(hr:Ba g w Fp (.slice .none es) (.slice a n n)) :
  ∃g',CV w0 g0 h0 (AL h d (.tok sz n)) g' w/\Le h g w (AL h d (.tok sz n)) g' w/\Ba g' w (AI (AL h d (.tok sz n))) (.slice (.id d sz) es) (.slice a n n):=by
 obtain⟨k1,k2⟩:=hI.upd d (.tok sz n) (.slice a n n) n true none g.S w none ⟨rfl,rfl,rfl,Ap _⟩ (fun _ _ _=>rfl) (fun b e=>by cases e) (fun _ _ h=>h) (fun _ _ h=>.inl h) (fun b o e=>by cases e) (fun b _ e=>by cases e) B0
  (fun hu=>absurd hd hu) (fun _ _=>by
   obtain⟨u1,u2,u3,u4⟩:=Bl g d (.slice a n n) n true none g.S;exact⟨u3,u2,a,n,u1,.inl ⟨rfl,u4⟩⟩)
 exact⟨_,k1,k2,.tok _ d sz es _ (((hr.up (AI h)).le k2)) hl (by unfold AI;rw[A0];simp) (by simp[Gh.upd]) (by simp[Gh.upd,hn]) (fun _=>by simp[Gh.upd])⟩
theorem dg{d:Option Nat}(hx:Ba g w (AI h) x vx)(hk:Pg cx d h x K):∃g' av h',K av h'/\CV w0 g0 h0 h' g' w/\Le h g w h' g' w/\Ba g' w (AI h') av vx:=by
 have plain:K x h->∃g' av h',K av h'/\CV w0 g0 h0 h' g' w/\Le h g w h' g' w/\Ba g' w (AI h') av vx:=fun hk=>⟨g,x,h,hk,hI,.refl _ _ _,hx⟩;unfold Pg at hk;split at hk
 .simp_all
 .rename_i d;split at hk
  .rename_i sz _;split at hk
   .refine⟨g,unT x,h,hk,hI,.refl _ _ _,?_⟩;cases x with
    |slice tk es=>exact(Ba.slice_none hx).up _
    |_=>exact hx
   .split at hk
    .split at hk
     .rename_i hd;obtain rfl:=hx.v_eq;obtain⟨g',k1,k2,k3⟩:=OG hI (sz:=sz) (es:=[]) (a:=none) hd B0 rfl (.snil _ _ _)<;>grind
     simp_all
    simp_all
  .split at hk
   .rename_i sz _;split at hk
    .split at hk
     .rename_i hd;obtain rfl:=hx.v_eq
      obtain⟨k1,k2⟩:=hI.upd d (.arr sz []) (.slice none 0 0) 0 true none g.S w none ⟨rfl,rfl,rfl,Ap _⟩ (fun _ _ _=>rfl) (fun b e=>by cases e) (fun _ _ h=>h) (fun _ _ h=>.inl h) (fun b o e=>by cases e) (fun b _ e=>by cases e) B0
       (fun hu=>absurd hd hu) (fun _ _=>by
        obtain⟨u1,u2,u3,u4⟩:=Bl g d (.slice none 0 0) 0 true none g.S;exact⟨u3,u2,by simp,.inl ⟨rfl,u1,u4⟩⟩)
      exact⟨_,_,_,hk,k1,k2,.msl _ d 0 none 0 (by unfold AI;rw[A0];simp) (by simp[Gh.upd]) (Al _) (.inl rfl) (fun _=>by simp[Gh.upd])⟩
     simp_all
    simp_all
   simp_all
theorem bt{mku:List Nat}{d:Option Nat}{ty:Nat}(hk:Ld T mku d h ty K):Oc P w0 g0 h0 h g w (Instr.makeMap ty none) K:=by
 unfold Ld at hk;split at hk
 .simp_all
 .rename_i d;split at hk
  .rename_i hd;split at hk
   .split at hk
    .rename_i sh _;split at hk
     .obtain⟨k1,k2⟩:=hI.newOwn hd (.mapU sh []) (.map #[] 0) (.map (some w.heap.size)) 0 false w ⟨rfl,rfl,rfl,rfl⟩ B0 (fun hg HF=>by
       obtain⟨u1,u2,u3,u4⟩:=Bl g d (.map (some w.heap.size)) 0 false (some w.heap.size) g.S;exact⟨u3,w.heap.size,#[],0,u4,u1,Gx w _ rfl,⟨rfl,by simp,by simp,by simp,by simp,by simp⟩,by simp,fun o ho=>by have:=hI.slt _ _ ho;omega⟩)
      refine⟨_,_,_,_,_,?_,hk,k1,k2,.mref _ d w.heap.size (by grind [AI,A0]) ?_ ?_⟩
      .simp[Instr.makeMap]
      all_goals grind [Gh.upd]
     .obtain⟨k1,k2⟩:=hI.newOwn hd (.map sh []) (.map #[] 0) (.map (some w.heap.size)) 0 false w ⟨rfl,rfl,rfl,rfl⟩ B0 (fun hg HF=>by
       obtain⟨u1,u2,u3,u4⟩:=Bl g d (.map (some w.heap.size)) 0 false (some w.heap.size) g.S;exact⟨u3,w.heap.size,#[],0,u4,u1,Gx w _ rfl,⟨rfl,by simp,by simp,by simp,by simp,by simp⟩,by simp,fun o ho=>by have:=hI.slt _ _ ho;omega⟩)
      refine⟨_,_,_,_,_,?_,hk,k1,k2,.mref _ d w.heap.size (by grind [AI,A0]) ?_ ?_⟩
      .simp[Instr.makeMap]
      all_goals grind [Gh.upd]
    simp_all
   simp_all
  simp_all
omit hI in
theorem Ba.sub{sz l m:Nat}{x:Value}{n cap:Nat}(hr:Ba g w Fp (.slice .none es) x)(hx:x=.slice a n cap)(hl:∀c∈es,c.length=sz)(h1:l<=m)(h2:m<=es.length)(c' : Nat)(hc:m-l<=c')(a' : Option Addr)(ha:a'=a.map (·.add (l*sz))\/(m=l/\a'=a)):Ba g w Fp (.slice .none ((es.take m).drop l)) (.slice a' (m-l) c'):=by
 subst hx;have Dd:((es.take m).drop l).length=m-l:=by simp_all
 by_cases h0:m-l=0
 .grind [snil]
 .cases hr with
  |snil=>simp_all
  |slice _ _ b off HE cap val hc' SL DN En=>
   have hz:HE=sz:=by
    have:(0:Nat)<es.length:=by omega
    have h3:=SL 0 es[0] (AY this);simp_all
   subst hz;have ha' : a'=some ⟨b,off+l*HE,none⟩:=by
    grind [Addr.add_lit]
   subst ha';rw[<-Dd];have FQ:∀(i:Nat) (cs:List AV),((es.take m).drop l)[i]?=some cs->es[l+i]?=some cs:=fun i cs h=>by
    grind
   refine .slice _ _ b (off+l*HE) HE c' (fun i j=>val (l+i) j) ch (fun i cs h=>SL _ _ (FQ i cs h)) (fun i cs j av h1 h2=>?_) (fun i cs j av h1 h2=>En _ _ _ _ (FQ i cs h1) h2)
   grind
omit hI in
theorem Lk{t:Nat->AV}(ht:∀x:Operand,Ba g w (AI h) (ev t x) (ρ x)){o:Option Operand}{i:Option Int}(hk:CU t o=some i):o.map ρ=i.map fun n=>.int .i64 n:=by
 cases o<;>grind [CU,Ba.v_eq]
omit hI in
theorem Vr(b:Bool)(len cap:Nat)(lo hi mx:Option Int)(qD:mx=none\/hi≠none)(h0:0<=lo.getD 0)(h1:lo.getD 0<=hi.getD len)(h2:hi.getD len<=mx.getD cap)(h3:mx.getD cap<=cap) :
  (Instr.sliceBounds b len cap (lo.map fun n=>.int .i64 n) (hi.map fun n=>.int .i64 n) (mx.map fun n=>.int .i64 n)).run P w=.ok ((lo.getD 0).toNat,(hi.getD len).toNat,(mx.getD cap).toNat) w:=by
 have e1:∀n:Int,0<=n->(n.toNat:Int)=n:=fun n hn=>Int.toNat_of_nonneg hn;cases mx with
 |none=>
  cases hi with
  |none=>
   cases lo with
   |none=>simp[Instr.sliceBounds]
   |some l=>
    simp only[Ew,Mj]at h0 h1 h2;simp[Instr.sliceBounds,run_sliceBound,h0,h1]
  |some hh=>
   simp only[Ew,Mj]at h1 h2;have hh0:0<=hh:=by omega
   cases lo with
   |none=>simp[Instr.sliceBounds,run_sliceBound,hh0,h2]
   |some l=>
    simp only[Ew]at h0 h1;simp[Instr.sliceBounds,run_sliceBound,h0,h1,h2,hh0,e1]
 |some m=>
  cases hi with
  |none=>simp_all
  |some hh=>
   simp only[Ew]at h1 h2 h3;have hh0:0<=hh:=by omega
   have nF:0<=m:=by omega
   cases lo with
   |none=>simp[Instr.sliceBounds,run_sliceBound,h2,h3,hh0,nF,e1]
   |some l=>
    simp only[Ew]at h0 h1;simp[Instr.sliceBounds,run_sliceBound,h0,h1,h2,h3,hh0,nF,e1]
omit hI in
theorem EY(hT:Ci P T){ty e k:Nat}(ht:(T ty).d=.slice e)(hk:(T e).size=k+1)(a:Option Addr)(len cap:Nat)(lo hi mx:Option Int)(qD:mx=none\/hi≠none)(h0:0<=lo.getD 0)(h1:lo.getD 0<=hi.getD len)(h2:hi.getD len<=mx.getD cap)(h3:mx.getD cap<=cap) :
  (Instr.sliceAt ty (.slice a len cap) (lo.map fun n=>.int .i64 n) (hi.map fun n=>.int .i64 n) (mx.map fun n=>.int .i64 n)).run P w =
   .ok (.slice (if(mx.getD cap).toNat=(lo.getD 0).toNat then a else a.map (·.add ((lo.getD 0).toNat*(T e).size))) ((hi.getD len).toNat-(lo.getD 0).toNat) ((mx.getD cap).toNat-(lo.getD 0).toNat)) w:=by
 have hu:=hT.slice ht;have hb:=Vr (P:=P) (w:=w) true len cap lo hi mx qD h0 h1 h2 h3;simp only[Instr.sliceAt,Sem.run_bind,run_underlying hu,Result.andThen_ok,Instr.slice,hb,hT.size1 w hk,Sem.run_pure];rw[hk]
theorem CV.moveO(r r2:Nat)(Ek:r2≠r)(hf:h r2=.free)(hl:(h r).live){ob:Option Nat}(ho:∀c,ob=some c->g.own r=some c)(o' : HO)(x:Value)(n:Nat)(t:Bool)(hn:o'≠.free)
  (Ml:Eu g w (g.upd r2 x n t ob g.S) w->DR (g.upd r2 x n t ob g.S) w (AI (AL (AL h r .dead) r2 o')) r2 o') :
  CV w0 g0 h0 (AL (AL h r .dead) r2 o') (g.upd r2 x n t ob g.S) w/\Le h g w (AL (AL h r .dead) r2 o') (g.upd r2 x n t ob g.S) w:=by
 have np:KG g (g.upd r2 x n t ob g.S) (AI h):=by
  intro i hi;have e:i≠r2:=fun e=>hi (by simp_all)
  grind [Gh.upd]
 have hK:Eu g w (g.upd r2 x n t ob g.S) w:=fun b o hb=>⟨hb,rfl,fun _ _ h=>h⟩;have Ms:∀i,AI h i->AI (AL (AL h r .dead) r2 o') i:=fun i hi=>DL hn i (DL B0 i hi);have key:∀i,i≠r2->(AL (AL h r .dead) r2 o' i).live->i≠r/\(h i).live:=fun i h2 hl=>by
  rw[BW _ _ _ _ h2]at hl
  by_cases e:i=r
  .subst e;rw[A0]at hl;exact hl.elim
  grind [BW]
 have own:∀i,i≠r2->(g.upd r2 x n t ob g.S).own i=g.own i:=fun i e=>by simp[Gh.upd,e]
 have oZ:(g.upd r2 x n t ob g.S).own r2=ob:=by simp[Gh.upd]
 refine⟨⟨hI.os,hI.tape,hI.output,hI.size,hI.frame,hI.slt,fun i=>?_,fun i j c hi hj ei ej=>?_,fun i c hi ei=>?_,hI.sg,hI.glob.keep hK⟩,np,Ms,hK⟩
 .by_cases e:i=r2
  .grind [A0]
  .rw[BW _ _ _ _ e]
   by_cases e1:i=r
   .subst e1;rw[A0];trivial
   .rw[BW _ _ _ _ e1];exact(hI.objs i).same hK Ms np (by simp[Gh.upd,e]) (by simp[Gh.upd,e]) (by simp[Gh.upd,e]) (by simp_all) (fun b hl hb=>⟨rfl,fun k hk=>hk⟩)
 .grind [CV.inj]
 .by_cases e1:i=r2
  .subst e1;rw[oZ]at ei;exact hI.loc r _ hl (ho _ ei)
  .rw[own i e1]at ei;exact hI.loc i c (key i e1 hi).2 ei
theorem cd(hT:Ci P cx.T){d:Option Nat}{ty:Nat}{t:Nat->AV}(ht:∀x:Operand,Ba g w (AI h) (ev t x) (ρ x)){lo mx:Option Operand}(hx:Ba g w (AI h) x vx)(hk:Vn cx d h ty x (CU t lo) hi mx K):Oc P w0 g0 h0 h g w (Instr.sliceAt ty vx (lo.map ρ) (hi.map ρ) (mx.map ρ)) K:=by
 unfold Vn at hk;split at hk
 .rename_i d Ie e1;rw[Lk ht e1];split at hk
  .rename_i e hs;split at hk
   .simp_all
   .rename_i k Fg;split at hk
    .rename_i r sz es;split at hk
     .rename_i HE n e0;split at hk
      .rename_i hd;split at hk
       .rename_i q1 q2;obtain rfl:=AZ q1;have q2:=AZ q2;obtain⟨⟨rfl,h1,h2⟩,hk⟩:=hk;have hl:(h r).live:=by rw[e0];trivial
        have Ek:KL cx d≠r:=fun e=>by simp_all
        have ho:=hI.objs r;rw[e0]at ho;obtain⟨t1,l1,a,cap,a1,a3⟩:=ho;have hr:=hx.slice_none;cases hx with
        |tok _ _ _ _ _ yV r4 hu ht' hn SM=>
         have hv:=SM l1.symm;rw[a1]at hv;subst hv;have gA:es.length<=cap:=by omega
         have CQ:=EY (P:=P) (w:=w) hT hs Fg a es.length cap (some Ie) none none (.inl rfl) h1 h2 (by simp_all) B0;simp only[Ew,Mj,Dq]at CQ;have Dd:(es.drop Ie.toNat).length=es.length-Ie.toNat:=DE;have AaN:=Ba.sub (c':=cap-Ie.toNat) hr rfl r4 (l:=Ie.toNat) (m:=es.length) ch (Ap _) ch (if cap=Ie.toNat then a else a.map (·.add (Ie.toNat*(cx.T e).size))) (by
          grind)
         rw[CA]at AaN
         have fin:∀ob:Option Nat,(∀c,ob=some c->g.own r=some c)->(es.length-Ie.toNat=cap-Ie.toNat/\ob=none\/es.length-Ie.toNat<=cap-Ie.toNat/\∃b E vs off,(if cap=Ie.toNat then a else a.map (·.add (Ie.toNat*(cx.T e).size)))=some ⟨b,off,none⟩/\ob=some b/\RO w b vs E/\vs.size=off+(cap-Ie.toNat)*HE/\∀o,g.S b o->o<off+(es.length-Ie.toNat)*HE) ->
           Oc P w0 g0 h0 h g w (Instr.sliceAt ty (.slice a es.length cap) ((some Ie).map fun n=>.int .i64 n) ((none:Option Operand).map ρ) ((none:Option Operand).map ρ)) K:=fun ob ho hob=>by
          obtain⟨k1,k2⟩:=hI.moveO r (KL cx d) Ek hd hl ho (.tok HE (es.drop Ie.toNat).length) (.slice (if cap=Ie.toNat then a else a.map (·.add (Ie.toNat*(cx.T e).size))) (es.length-Ie.toNat) (cap-Ie.toNat)) (es.length-Ie.toNat) true B0 (fun HF=>by
           obtain⟨u1,u2,u3,u4⟩:=Bl g (KL cx d) (.slice (if cap=Ie.toNat then a else a.map (·.add (Ie.toNat*(cx.T e).size))) (es.length-Ie.toNat) (cap-Ie.toNat)) (es.length-Ie.toNat) true ob g.S;refine⟨u3,u2.trans Dd.symm,_,_,by rw[Dd];exact u1,?_⟩;rw[Dd,u4];exact hob)
          exact⟨_,w,_,_,_,CQ,hk,k1,k2,.tok _ _ _ _ _ (((AaN.mono k2.keeps (fun _ h=>h) (fun _ h=>h.elim))).up _) (fun c hc=>r4 c (IF hc)) (by grind [AI,A0]) (by simp[Gh.upd]) (by simp[Gh.upd]) (fun _=>by simp[Gh.upd])⟩
         rcases a3 with ⟨e1,e2⟩ | ⟨e1,b,E,vs,off,rfl,e3,e4,e5,e6⟩
         .exact fin none (fun c h=>by cases h) (.inl ⟨by omega,rfl⟩)
         .by_cases hc:cap=Ie.toNat
          .exact fin none (fun c h=>by cases h) (.inl ⟨by omega,rfl⟩)
          .refine fin (some b) (fun c h=>by simp_all) (.inr ⟨by omega,b,E,vs,off+Ie.toNat*HE,?_,rfl,e4,?_,fun o ho=>?_⟩)
           .grind [Addr.add_lit]
           .rw[e5,Nat.sub_mul]
            have:=Bn HE (show Ie.toNat<=cap by omega)
            omega
           grind [Nat.sub_mul]
       simp_all
      simp_all
     simp_all
    simp_all
  simp_all
 simp_all
omit hI in
theorem Ok{sz:Nat}:∀{es:C0},(∀cs∈es,cs.length=sz)->∀k,(es.take k).flatten=es.flatten.take (k*sz)
 | [],_,k=>by simp
 |c::es,hl,0=>by simp
 |c::es,hl,k+1=>by
  have h1:=hl c (Af ..);have h2:c.length<=k*sz+sz:=by omega
  rw[List.take_succ_cons,Cz,Cz,Ok (fun x hx=>hl x (Ao _ hx)) k,List.take_append,h1,Nat.succ_mul,
   Au h2,show k*sz+sz-sz=k*sz by omega]
omit hI in
theorem Cs.takeE{U:Nat->Prop}{sz k:Nat}{vs:List Value}(hl:∀cs∈es,cs.length=sz)(hk:k<=es.length)(h:Cs g w U es.flatten (vs.take (es.length*sz))):Cs g w U (es.take k).flatten (vs.take (k*sz)):=by
 have e:vs.take (k*sz)=(vs.take (es.length*sz)).take (k*sz):=by
  grind [Nat.mul_le_mul_right]
 rw[Ok hl,e];refine⟨by rw[AD (l:=vs.take (es.length*sz)),h.1,AD],fun x hx=>h.2.1 x (Db hx),fun i av x q1 q2=>?_⟩;have hi:i<k*sz:=by
  grind
 rw[List.getElem?_take,Ay hi]at q1 q2;exact h.2.2 i av x q1 q2
theorem ib(hT:Ci P cx.T){d:Option Nat}{ty:Nat}{t:Nat->AV}(ht:∀x:Operand,Ba g w (AI h) (ev t x) (ρ x))(hx:Ba g w (AI h) x vx)(hk:pe cx d h ty x (CU t hi) K):Oc P w0 g0 h0 h g w (Instr.sliceAt ty vx none (hi.map ρ) none) K:=by
 unfold pe at hk;split at hk
 .rename_i d OW e1;rw[Lk ht e1];split at hk
  .rename_i e hs;split at hk
   .simp_all
   .rename_i k Fg;split at hk
    .rename_i r n;split at hk
     .rename_i sz es e0;split at hk
      .rename_i hd;split at hk
       .rename_i q1 q3;have q1:=AZ q1;obtain⟨⟨rfl,h1,h2⟩,hk⟩:=hk;have hl:(h r).live:=by rw[e0];trivial
        have Ek:KL cx d≠r:=fun e=>by simp_all
        have ho:=hI.objs r;rw[e0]at ho;obtain⟨t1,l1,al,a2⟩:=ho;have Dd:(es.take OW.toNat).length=OW.toNat:=by simp_all
        cases hx with
        |msl _ _ _ a cap hu ht' qE ha SM=>
         have hv:=SM l1.symm;have MQ:es.length<=cap:=by
          grind
         have CQ:=EY (P:=P) (w:=w) hT hs Fg a es.length cap none (some OW) none (.inl rfl) B0 (by simp_all) (by grind) B0;have Sc:(if cap-(0:Nat)=0 then a else a.map (·.add (0*(cx.T e).size)))=a:=by
          grind [Addr.add]
         simp only[Ew,Mj,Dq,Int.toNat_zero,Nat.sub_zero]at CQ Sc;have key:∃a',(Instr.sliceAt ty (.slice a es.length cap) ((none:Option Int).map fun n=>.int .i64 n) ((some OW).map fun n=>.int .i64 n) ((none:Option Int).map fun n=>.int .i64 n)).run P w=.ok (.slice a' OW.toNat cap) w/\(a'=a):=⟨_,CQ,by omega⟩;obtain⟨a',CQ,rfl⟩:=key;have hval:Ba (g.upd (KL cx d) (.slice a' OW.toNat cap) OW.toNat true (g.own r) g.S) w (AI (AL (AL h r .dead) (KL cx d) (.arr sz (es.take OW.toNat)))) (.msl (KL cx d) OW.toNat) (.slice a' OW.toNat cap):=
          .msl _ _ _ _ _ (by grind [AI,A0]) (by simp[Gh.upd]) (by simp[Gh.upd]) (ha.elim (fun e=>.inl ch) .inr) (fun _=>by simp[Gh.upd])
         obtain⟨k1,k2⟩:=hI.moveO r (KL cx d) Ek hd hl (ob:=g.own r) (fun c h=>h) (.arr sz (es.take OW.toNat)) (.slice a' OW.toNat cap) OW.toNat true B0 (fun HF=>by
          obtain⟨u1,u2,u3,u4⟩:=Bl g (KL cx d) (.slice a' OW.toNat cap) OW.toNat true (g.own r) g.S;refine⟨u3,u2.trans Dd.symm,fun c hc=>al c (Db hc),?_⟩;rcases a2 with ⟨b1,b2,b3⟩ | ⟨b,MA,E,vs,b1,b2,b3,b4,b5,b6,b7⟩
          .simp_all
          .rw[b1]at hv;cases hv;refine .inr ⟨b,cap,E,vs,by simp_all,u4.trans b2,by omega,b4,b5,?_,b7⟩;rw[Dd];exact(Cs.takeE al ch b6).mono HF (fun _ h=>h) (fun _ h=>h.elim))
         exact⟨_,w,_,_,_,CQ,hk,k1,k2,hval⟩
       simp_all
      simp_all
     simp_all
    simp_all
  simp_all
 simp_all
theorem XM(hT:Ci P cx.T){d:Option Nat}{ty:Nat}{t:Nat->AV}(ht:∀x:Operand,Ba g w (AI h) (ev t x) (ρ x)){lo mx:Option Operand}(hx:Ba g w (AI h) x vx)(hk:Iu cx d h ty x (CU t lo) (CU t hi) (CU t mx) K):Oc P w0 g0 h0 h g w (Instr.sliceAt ty vx (lo.map ρ) (hi.map ρ) (mx.map ρ)) K:=by
 unfold Iu at hk;split at hk
 .rename_i Ie OW u6 e1 e2 e3;rw[Lk ht e1,Lk ht e2,Lk ht e3];split at hk
  .rename_i hs;split at hk
   .rename_i s;obtain⟨⟨h1,h2,h3⟩,hk⟩:=hk;obtain rfl:=hx.v_eq;have hb:=Vr (P:=P) (w:=w) false s.size s.size Ie OW none (.inl rfl) h1 h2 (by simp_all) B0;refine(Bw.val (x:=.string (s.extract (Ie.getD 0).toNat (OW.getD s.size).toNat)) ?_ hk).does hI;simp only[Instr.sliceAt,Sem.run_bind,run_underlying (hT.string hs),Result.andThen_ok,Instr.slice];simp_all
   simp_all
  .rename_i e hs;split at hk
   .simp_all
   .rename_i k Fg;split at hk
    .rename_i tk es;have hr:=hx.slice_none;obtain⟨a,cap,hv,MQ⟩:∃a cap,vx=.slice a es.length cap/\es.length<=cap:=by
      grind [cases Ba]
     subst hv;split at hk
     .obtain⟨⟨h1,h2,h3⟩,hl,hk⟩:=hk;have CQ:=EY (P:=P) (w:=w) hT hs Fg a es.length cap Ie OW none (.inl rfl) h1 h2 (by grind) B0;refine Bw.does hI ⟨_,_,CQ,hk,(Ba.sub (c':=cap-(Ie.getD 0).toNat) hr rfl hl (l:=(Ie.getD 0).toNat) (m:=(OW.getD es.length).toNat) ch ch ch _ ?_).up _⟩
      grind
     .rename_i m;split at hk
      .rename_i d hh;split at hk
       .obtain⟨⟨h1,h2,rfl,h3⟩,hl,hk⟩:=hk;have CQ:=EY (P:=P) (w:=w) hT hs Fg a es.length cap Ie (some m) (some m) (.inr B0) h1 h2 B0 (by grind);simp only[Ew]at CQ;have Dd:((es.take m.toNat).drop (Ie.getD 0).toNat).length=m.toNat-(Ie.getD 0).toNat:=by simp_all
        refine Bw.does hI ⟨_,_,CQ,hk,.full _ _ _ _ ((Ba.sub (c':=m.toNat-(Ie.getD 0).toNat) hr rfl hl (l:=(Ie.getD 0).toNat) (m:=m.toNat) ch ch ch _ ?_).up _) (fun c hc=>hl c (Db (IF hc))) ⟨_,by rw[Dd]⟩⟩
        grind
       split at hk
       .rename_i hd;obtain⟨⟨h1,h2,rfl,h3⟩,hl,hk⟩:=hk;have CQ:=EY (P:=P) (w:=w) hT hs Fg a es.length cap Ie (some m) (some m) (.inr B0) h1 h2 B0 (by grind);simp only[Ew]at CQ
        obtain⟨g',k1,k2,k3⟩:=OG hI (sz:=(cx.T e).size) (n:=m.toNat-(Ie.getD 0).toNat) hd (es:=(es.take m.toNat).drop (Ie.getD 0).toNat) (fun c hc=>hl c (Db (IF hc))) (by simp_all)
         (Ba.sub (c':=m.toNat-(Ie.getD 0).toNat) hr rfl hl (l:=(Ie.getD 0).toNat) (m:=m.toNat) ch ch ch (if m.toNat=(Ie.getD 0).toNat then a else a.map (·.add ((Ie.getD 0).toNat*(cx.T e).size))) (by
          grind))
        exact⟨_,w,g',_,_,CQ,hk,k1,k2,k3⟩
       simp_all
      simp_all
    .obtain⟨⟨h1,h2,h3⟩,h4,hk⟩:=hk;obtain rfl:=hx.v_eq;have CQ:=EY (P:=P) (w:=w) hT hs Fg none 0 0 Ie OW u6 h4 ch (by simp_all) (by simp_all) (by simp_all)
     grind [Bw.does,Bw.val]
    .rename_i r n;split at hk
     .rename_i sz es e0;split at hk
      .rename_i VS;obtain rfl:=AZ VS;obtain⟨⟨h1,h2,h3,h4,h5⟩,hk⟩:=hk;have ho:=hI.objs r;rw[e0]at ho;obtain⟨t1,l1,al,a3⟩:=ho;have hl:(h r).live:=by rw[e0];trivial
       have Aay:u6=none\/OW≠none:=h5.imp id (fun q=>q.2);cases hx with
       |msl _ _ _ a cap hu ht' hn ha SM=>
        have hv:=SM (h1.trans l1.symm);subst h1;have qD:∀c:Nat,es.length<=c->OW.getD es.length<=u6.getD c/\u6.getD c<=c:=fun c hc=>by
         rcases h5 with h5 | ⟨h5,Ek⟩
         .grind
         .obtain⟨m,hm⟩:=Option.ne_none_iff_exists'.1 Ek<;>grind
        rcases a3 with ⟨rfl,q2,q3⟩ | ⟨b,MA,E,vs,q1,q2,q3,q4,q5,q6,q7⟩
        .rw[q2]at hv;cases hv;have CQ:=EY (P:=P) (w:=w) hT hs Fg none 0 0 Ie OW u6 Aay h2 h3 (qD 0 B0).1 (qD 0 B0).2
         obtain⟨k1,k2⟩:=hI.upd r .dead (g.ρ r) (g.ln r) (g.tk r) (g.own r) g.S w none ⟨rfl,rfl,rfl,Ap _⟩ (fun _ _ _=>rfl) (fun b e=>by cases e) (fun _ _ h=>h) (fun _ _ h=>.inl h) (fun b o e=>by cases e) (fun b hh _=>by cases hh) B0
          (fun _=>⟨rfl,Ap _,fun _=>rfl,fun _=>rfl⟩) (fun _ _=>trivial)
         refine⟨_,w,_,_,_,CQ,hk,k1,k2,?_⟩
         grind [Ba.snil]
        .rw[q1]at hv;cases hv;have CQ:=EY (P:=P) (w:=w) hT hs Fg (some ⟨b,0,none⟩) es.length cap Ie OW u6 Aay h2 h3 (qD _ q3).1 (qD _ q3).2;have Aa8:=(hI.loc r b hl q2).1
         obtain⟨k1,k2⟩:=hI.upd r .dead (g.ρ r) (g.ln r) (g.tk r) (g.own r) (g.more b (es.length*(cx.T e).size)) w none ⟨rfl,rfl,rfl,Ap _⟩ (fun _ _ _=>rfl) (fun b e=>by cases e) (fun _ _ h=>.inl h)
          (fun b' o hs=>hs.elim .inl (fun hs=>.inr ⟨by omega,.inr ⟨hl,by simp_all⟩⟩)) (fun b o e=>by cases e) (fun b hh _=>by cases hh) B0
          (fun _=>⟨rfl,Ap _,fun _=>rfl,fun _=>rfl⟩) (fun _ _=>trivial)
         have En:=Ba.slice_row (g:=g.upd r (g.ρ r) (g.ln r) (g.tk r) (g.own r) (g.more b (es.length*(cx.T e).size))) (U:=Fp) q4 al q3 (q6.mono k2.keeps (fun _ h=>h) (fun _ h=>h.elim)) (fun o ho=>.inr ⟨rfl,ho⟩);have Ake:=qD _ q3;refine⟨_,w,_,_,_,CQ,hk,k1,k2,(Ba.sub (c':=(u6.getD cap).toNat-(Ie.getD 0).toNat) En rfl al (l:=(Ie.getD 0).toNat) (m:=(OW.getD es.length).toNat) ch ch ch _ ?_).up _⟩
         grind
      simp_all
     simp_all
    simp_all
  simp_all
 simp_all
theorem Wh(hT:Ci P cx.T){d:Option Nat}{ty:Nat}{n c:AV}{vn vc:Value}(hn:Ba g w (AI h) n vn)(hc:Ba g w (AI h) c vc)(hk:JU cx d h ty n c K) :
  Oc P w0 g0 h0 h g w (Instr.makeSlice ty vn vc) K:=by
 unfold JU at hk;split at hk
 .rename_i e n c hs;obtain rfl:=hn.v_eq;obtain rfl:=hc.v_eq;split at hk
  .rename_i YP;split at hk
   .rename_i aV;have aV:=AZ aV;split at hk
    .simp_all
    .rename_i k Fg;obtain⟨⟨h1,h2,h3,h4⟩,hk⟩:=hk;obtain⟨i,z,i1,i2,i3,i4,i5⟩:=HM hT Fg;have w8:(cx.T e).zc≠[]:=fun e0=>by simp_all
     have wn:IntKind.i64.wrap n=n:=NJ ⟨by omega,by omega⟩;have wc:IntKind.i64.wrap c=c:=NJ ⟨by omega,by omega⟩;have Gd:∀l:List AV,(∀a∈l,one a=true)->GS l=true:=by
      intro l
      induction l<;>grind [GS]
     have wV:((Array.range (c.toNat*(cx.T e).size)).map fun k=>z.cells[k % z.cells.size]!).toList=(List.replicate c.toNat (cx.T e).zc).flatten:=by
      rw[H4 c.toNat _ w8,aV,i5];have e6:z.cells.size=(cx.T e).size:=by simp_all
      simp[e6,Array.getElem!_eq_getD]
     have hzs:(cx.T e).zc.length=(cx.T e).size:=aV;have hlr:∀c'∈List.replicate c.toNat (cx.T e).zc,c'.length=(cx.T e).size:=fun c' hc=>by simp_all
     have Aff : ∀c'∈List.replicate n.toNat ((cx.T e).zc.map AV.v),c'.length=(cx.T e).size:=fun c' hc=>by simp_all
     have Akb:∀c'∈List.replicate n.toNat (cx.T e).zc,c'.length=(cx.T e).size:=fun c' hc=>by simp_all
     obtain⟨g',av,h',q1,q2,q3,q4⟩:=Kz hI hk (vs:=(Array.range (c.toNat*(cx.T e).size)).map fun k=>z.cells[k % z.cells.size]!) (cap:=c.toNat) e Aff (by grind) B0 (by
      rw[wV,CO];have e1:(List.replicate n.toNat ((cx.T e).zc.map AV.v)).flatten=(List.replicate n.toNat (cx.T e).zc).flatten.map AV.v:=by
       simp_all
      have e2:(List.replicate c.toNat (cx.T e).zc).flatten.take (n.toNat*(cx.T e).size)=(List.replicate n.toNat (cx.T e).zc).flatten:=by
       obtain⟨m,hm⟩:∃m,c.toNat=n.toNat+m:=⟨c.toNat-n.toNat,by omega⟩;rw[hm,<-List.replicate_append_replicate,CR,Ke (by simp_all)]
      grind [Cs.vals,Ni]) w ⟨rfl,rfl,rfl,rfl⟩
     rw[CO]at q4;refine⟨_,_,g',av,h',?_,q1,q2,q3,q4⟩;have hb0:¬((cx.T e).bytes*c>2 ^ 48):=by grind
     have nw:((decide (c<0)||decide (((cx.T e).bytes:Int)*c>2 ^ 48))||decide (n<0)||decide (n>c))=false:=by
      grind
     simp only[Instr.makeSlice,Sem.run_bind,run_underlying (hT.slice hs),Result.andThen_ok,asInt,asIntOf,Sem.run_pure,typeInfo,run_program,i1,i4,wn,wc,nw,Kh,if_false,run_askRoom,hT.size1 w Fg]
     by_cases hz:c.toNat*(k+1)=0
     .have wH:c.toNat=0:=by
       simp_all
      rw[wH];simp only[Nat.zero_mul,if_true];simp only[show Array.range 0=#[]from rfl,Array.map_empty];simp[newRow]
     .simp only[Az hz,Sem.run_bind,zeroValue,typeInfo,run_program,i1,i2,Result.andThen_ok,Sem.run_pure];rw[Fg];simp[newRow]
   simp_all
  simp_all
 simp_all
end
end Go.Eng
namespace Go.Eng
open Go.ChangeMaps (setBlock)
variable {B1:List (Value×AV)}{es:Array MapEntry}{sh:EU}{vx:Value}{α β:Type}{f:α->β}{l:List α}{ck:Nat}{w:World}{k x y:Value}{a:AV}{K:HK}{r:Nat}{o':Obj}{j:Nat}{v:AV}{T:GF}
theorem Wj{o:Obj}(h:w.heap[r]?=some o):(setBlock w r o').heap[r]?=some o':=by
 grind [setBlock]
theorem Vy{k:Nat}(h:k≠r):(setBlock w r o').heap[k]?=w.heap[k]?:=by
 grind [setBlock]
theorem Wl(w:World)(r:Nat)(o' : Obj):(setBlock w r o').heap.size=w.heap.size:=by simp[setBlock]
theorem PX(h:(l.map f).Nodup):l.Nodup:=by
 induction l<;>grind
theorem Xu(h:(l.map f).Nodup){i:Nat}{a b:α}(ha:l[i]?=some a)(hb:l[j]?=some b)(he:f a=f b):i=j:=by
 induction l generalizing i j<;>grind
open Classical in
theorem Nv{b:AV}(h:(k,b)∈B1):EM B1 k a=B1.map fun p=>if p.1=k then(k,a)else p:=Ay ⟨b,h⟩
open Classical in
theorem Ir(h:∀b,(k,b)∉B1):EM B1 k a=B1++[(k,a)]:=Az (fun⟨b,e⟩=>h b e)
theorem Xq(f:AV->AV)(h:Hm sh es ck B1):Hm sh es ck (B1.map fun p=>(p.1,f p.2)):=by
 obtain⟨h1,h2,h3,h4,h5,h6⟩:=h;refine⟨by simp_all,fun i kv e q1 q2=>?_,fun kv jM=>?_,?_,h5,h6⟩
 all_goals grind
theorem PT(h:Hm sh es ck B1)(hj:B1[j]?=some (x,a)) :
  Hm sh (es.modify j fun e=>{ e with key:=x,val:=y }) ck (EM B1 x v) /\
   ∀(i:Nat) (kv:Value×AV) (e:MapEntry),(EM B1 x v)[i]?=some kv->(es.modify j fun e=>{ e with key:=x,val:=y })[i]?=some e ->
    (kv.2=v/\e.val=y)\/(B1[i]?=some kv/\es[i]?=some e):=by
 classical
 rw[Nv (AB hj)];obtain⟨h1,h2,h3,h4,h5,h6⟩:=h;have hm:∀i e,(es.modify j fun e=>{ e with key:=x,val:=y })[i]?=some e->∃e0,es[i]?=some e0/\e.born=e0.born/\(if i=j then e.key=x/\e.val=y else e=e0):=by
  grind
 have hk:∀i kv,(B1.map fun p=>if p.1=x then(x,v)else p)[i]?=some kv->∃p,B1[i]?=some p/\kv.1=p.1/\(if i=j then kv.2=v else kv=p):=by
  intro i kv jM;rw[BH]at jM;obtain⟨p,q1,q2⟩:=Cr.1 jM;refine⟨p,q1,?_⟩
  grind [Xu]
 have AhX:(B1.map fun p=>if p.1=x then(x,v)else p).map (·.1)=B1.map (·.1):=by
  rw[Br];apply BZ
  grind
 refine⟨⟨by grind,fun i kv e q1 q2=>?_,fun kv jM=>?_,by grind,fun i e q=>?_,fun i i' e e' q q' hb=>?_⟩,fun i kv e q1 q2=>?_⟩
 all_goals grind
theorem UW(h:Hm sh es ck B1)(hx:Zl sh x=true)(hn:∀a,(x,a)∉B1) :
  Hm sh (es.push { key:=x,val:=y,born:=ck }) (ck+1) (EM B1 x v) /\
   ∀(i:Nat) (kv:Value×AV) (e:MapEntry),(EM B1 x v)[i]?=some kv->(es.push { key:=x,val:=y,born:=ck })[i]?=some e ->
    (kv.2=v/\e.val=y)\/(B1[i]?=some kv/\es[i]?=some e):=by
 rw[Ir hn];obtain⟨h1,h2,h3,h4,h5,h6⟩:=h;have hm:∀i e,(es.push { key:=x,val:=y,born:=ck })[i]?=some e->(es[i]?=some e/\i<es.size)\/(i=es.size/\e={ key:=x,val:=y,born:=ck }):=by
  grind
 have hk:∀i kv,(B1++[(x,v)])[i]?=some kv->(B1[i]?=some kv/\i<es.size)\/(i=es.size/\kv=(x,v)):=by
  grind
 refine⟨⟨by grind,fun i kv e q1 q2=>?_,fun kv jM=>?_,?_,fun i e q=>?_,fun i i' e e' q q' hb=>?_⟩,fun i kv e q1 q2=>?_⟩
 all_goals grind
section
variable {P:Program}{w0:World}{g0:Gh}{h0 h:Nat->HO}{g:Gh}{w:World}(hI:CV w0 g0 h0 h g w)
include hI
theorem CV.swap{r b:Nat}(hl:(h r).live)(ho:g.own r=some b)(hn:∀o,¬g.S b o)(o' : HO){ob:Obj}(hb:w.heap[b]?=some ob)(gW : Obj)(w1:World)(UB:w1.heap=w.heap/\w1.os=w.os/\w1.tape=w.tape/\w1.output=w.output)(Ek:o'≠.free)
  (Ml:KG g (g.upd r (g.ρ r) (g.ln r) (g.tk r) (g.own r) g.S) (AI h)->Eu g w (g.upd r (g.ρ r) (g.ln r) (g.tk r) (g.own r) g.S) (setBlock w1 b gW)->(setBlock w1 b gW).heap[b]?=some gW ->
   (∀k,k≠b->(setBlock w1 b gW).heap[k]?=w.heap[k]?) ->
   DR (g.upd r (g.ρ r) (g.ln r) (g.tk r) (g.own r) g.S) (setBlock w1 b gW) (AI (AL h r o')) r o') :
  CV w0 g0 h0 (AL h r o') (g.upd r (g.ρ r) (g.ln r) (g.tk r) (g.own r) g.S) (setBlock w1 b gW)/\Le h g w (AL h r o') (g.upd r (g.ρ r) (g.ln r) (g.tk r) (g.own r) g.S) (setBlock w1 b gW):=by
 have E3:=(hI.loc r b hl ho).1;have EE:(setBlock w1 b gW).heap[b]?=some gW:=Wj (by rw[UB.1];exact hb);have dP:∀k,k≠b->(setBlock w1 b gW).heap[k]?=w.heap[k]?:=fun k hk=>by grind [Vy]
 refine hI.upd r o' _ _ _ _ _ _ (some b) ⟨UB.2.1,UB.2.2.1,UB.2.2.2,by grind [Wl]⟩ (fun k _ Ek=>dP k (fun e=>Ek (by rw[e]))) (fun b' e=>by simp_all) (fun _ _ h=>h) (fun _ _ h=>.inl h)
  (fun b' o e hs=>by simp_all) (fun b' _ e=>?_) Ek (fun _=>⟨rfl,Ap _,fun _=>rfl,fun _=>rfl⟩) (fun hg hk=>Ml hg hk EE dP)
 grind
theorem N1(hT:Ci P T){ty:Nat}{m k x:AV}{vm vk:Value}(hm:Ba g w (AI h) m vm)(hk' : Ba g w (AI h) k vk)(hx:Ba g w (AI h) x vx)(hk:Hj T h ty m k x K) :
  lE P w0 g0 h0 h g w (Instr.mapUpdate ty vm vk vx) K:=by
 unfold Hj at hk;split at hk
 .rename_i r;split at hk
  .rename_i sh B1 e0;obtain⟨kt,e,k1,k2,k3,k4⟩:=Nq hk' hk;have ho:=hI.objs r;rw[e0]at ho;obtain⟨t1,b,es,ck,a1,a2,a3,a4,a5,a6⟩:=ho;have hl:(h r).live:=by rw[e0];trivial
   cases hm with
   |mref _ _ b' hu ht hp=>
    rw[a2]at hp;cases hp;have nN:=hT.map k1;have FQ:=run_getObj_map (P:=P) w b es ck a3;have Ot:∀o',(setObj b o').run P w=.ok () (setBlock w b o'):=fun o'=>by grind [setObj,Sem.run,setBlock]
    have Uw:=fun bb=>M9 hT k2 w bb k3;obtain⟨res,r1,r2⟩:=ON hT k2 w k3 es.toList a4.shape;have sd:=Ba.str hI.objs hx;rcases r2 with ⟨rfl,hn⟩ | ⟨j,en,rfl,hj,hkey⟩
    .obtain⟨m1,m2⟩:=UW a4 (x:=vk) (v:=str h x) (y:=vx) k3 (fun a=>a4.none hn a);obtain⟨i1,i2⟩:=CV.swap hI hl a1 a6 (.map sh (EM B1 vk (str h x))) a3 (.map (es.push { key:=vk,val:=vx,born:=ck }) (ck+1)) w ⟨rfl,rfl,rfl,rfl⟩ B0 (fun hg HF EE dP=>by
      obtain⟨u1,u2,u3,u4⟩:=Bl g r (g.ρ r) (g.ln r) (g.tk r) (g.own r) g.S;refine⟨u3.trans t1,b,_,_,u4.trans a1,u1.trans a2,EE,m1,fun i kv e q1 q2=>?_,a6⟩;rcases m2 i kv e q1 q2 with ⟨p1,p2⟩ | ⟨p1,p2⟩
      .rw[p1,p2];exact sd.mono HF (fun _ h=>h) (fun _ h=>h.elim)
      .exact(a5 i kv e p1 p2).mono HF (fun _ h=>h) (fun _ h=>h.elim))
     refine⟨_,_,_,?_,k4,i1,i2⟩;simp[Instr.mapUpdate,run_underlying nN,FQ,Uw,r1,Ot]
    .obtain⟨a,q1,q2⟩:=a4.some hj hkey;obtain⟨m1,m2⟩:=PT a4 (x:=vk) (v:=str h x) (y:=vx) q1;obtain⟨i1,i2⟩:=CV.swap hI hl a1 a6 (.map sh (EM B1 vk (str h x))) a3 (.map (es.modify j fun e=>{ e with key:=vk,val:=vx }) ck) w ⟨rfl,rfl,rfl,rfl⟩ B0 (fun hg HF EE dP=>by
      obtain⟨u1,u2,u3,u4⟩:=Bl g r (g.ρ r) (g.ln r) (g.tk r) (g.own r) g.S;refine⟨u3.trans t1,b,_,_,u4.trans a1,u1.trans a2,EE,m1,fun i kv e q1 q2=>?_,a6⟩;rcases m2 i kv e q1 q2 with ⟨p1,p2⟩ | ⟨p1,p2⟩
      .rw[p1,p2];exact sd.mono HF (fun _ h=>h) (fun _ h=>h.elim)
      .exact(a5 i kv e p1 p2).mono HF (fun _ h=>h) (fun _ h=>h.elim))
     refine⟨_,_,_,?_,k4,i1,i2⟩;have hj' : es[j]?=some en:=by simp_all
     have KR:=Sx (P:=P) w k3;simp[Instr.mapUpdate,run_underlying nN,FQ,Uw,r1,Ot,hj',hkey,KR]
  .rename_i sh B1 e0;obtain⟨kt,e,k1,k2,k3,k4⟩:=Nq hk' hk;have ho:=hI.objs r;rw[e0]at ho;obtain⟨t1,b,es,ck,a1,a2,a3,a4,a5,a6⟩:=ho;have hl:(h r).live:=by rw[e0];trivial
   cases hm with
   |mref _ _ b' hu ht hp=>
    rw[a2]at hp;cases hp;have nN:=hT.map k1;have FQ:=run_getObj_map (P:=P) w b es ck a3;have Ot:∀o',(setObj b o').run P w=.ok () (setBlock w b o'):=fun o'=>by grind [setObj,Sem.run,setBlock]
    have Uw:=fun bb=>M9 hT k2 w bb k3;obtain⟨res,r1,r2⟩:=ON hT k2 w k3 es.toList a4.shape;rcases r2 with ⟨rfl,hn⟩ | ⟨j,en,rfl,hj,hkey⟩
    .obtain⟨m1,m2⟩:=UW a4 (x:=vk) (v:=x) (y:=vx) k3 (fun a=>a4.none hn a);obtain⟨i1,i2⟩:=CV.swap hI hl a1 a6 (.mapU sh (EM B1 vk (x))) a3 (.map (es.push { key:=vk,val:=vx,born:=ck }) (ck+1)) w ⟨rfl,rfl,rfl,rfl⟩ B0 (fun hg HF EE dP=>by
      obtain⟨u1,u2,u3,u4⟩:=Bl g r (g.ρ r) (g.ln r) (g.tk r) (g.own r) g.S;have Ms:∀i,AI h i->AI (AL h r (.mapU sh (EM B1 vk x))) i:=fun i hi=>DL B0 i hi;refine⟨u3.trans t1,b,_,_,u4.trans a1,u1.trans a2,EE,m1,fun i kv e q1 q2=>?_,a6⟩
      grind [Ba.mono])
     refine⟨_,_,_,?_,k4,i1,i2⟩;simp[Instr.mapUpdate,run_underlying nN,FQ,Uw,r1,Ot]
    .obtain⟨a,q1,q2⟩:=a4.some hj hkey;obtain⟨m1,m2⟩:=PT a4 (x:=vk) (v:=x) (y:=vx) q1;obtain⟨i1,i2⟩:=CV.swap hI hl a1 a6 (.mapU sh (EM B1 vk (x))) a3 (.map (es.modify j fun e=>{ e with key:=vk,val:=vx }) ck) w ⟨rfl,rfl,rfl,rfl⟩ B0 (fun hg HF EE dP=>by
      obtain⟨u1,u2,u3,u4⟩:=Bl g r (g.ρ r) (g.ln r) (g.tk r) (g.own r) g.S;have Ms:∀i,AI h i->AI (AL h r (.mapU sh (EM B1 vk x))) i:=fun i hi=>DL B0 i hi;refine⟨u3.trans t1,b,_,_,u4.trans a1,u1.trans a2,EE,m1,fun i kv e q1 q2=>?_,a6⟩
      grind [Ba.mono])
     refine⟨_,_,_,?_,k4,i1,i2⟩;have hj' : es[j]?=some en:=by simp_all
     have KR:=Sx (P:=P) w k3;simp[Instr.mapUpdate,run_underlying nN,FQ,Uw,r1,Ot,hj',hkey,KR]
  simp_all
 simp_all
theorem OH{d b:Nat}{ck:Nat}(hd:h d=.free)(hS:g.S b 0)(hb:w.heap[b]?=some (.map es ck))(hm:Hm sh es ck B1)(hv:∀(i:Nat) (kv:Value×AV) (e:MapEntry),B1[i]?=some kv->es[i]?=some e->Ba g w Fp kv.2 e.val) :
  ∃g',CV w0 g0 h0 (AL h d (.iter B1 B1 none)) g' (w.alloc (.mapIter (some b) ck #[] ck))/\Le h g w (AL h d (.iter B1 B1 none)) g' (w.alloc (.mapIter (some b) ck #[] ck)) /\
   Ba g' (w.alloc (.mapIter (some b) ck #[] ck)) (AI (AL h d (.iter B1 B1 none))) (.ref d 0) (.pointer (some ⟨w.heap.size,0,none⟩)):=by
 obtain⟨k1,k2⟩:=hI.newOwn hd (.iter B1 B1 none) (.mapIter (some b) ck #[] ck) (.pointer (some ⟨w.heap.size,0,none⟩)) 0 false w ⟨rfl,rfl,rfl,rfl⟩ B0 (fun hg hk=>by
  obtain⟨u1,u2,u3,u4⟩:=Bl g d (.pointer (some ⟨w.heap.size,0,none⟩)) 0 false (some w.heap.size) g.S;obtain⟨c1,c2,c3⟩:=hk b 0 hS
  exact⟨u3,w.heap.size,b,ck,#[],ck,es,ck,u4,u1,Gx w _ rfl,c1,c3 es ck hb,⟨sh,hm⟩,rfl,rfl,fun i kv e q1 q2=>(hv i kv e q1 q2).mono hk (fun _ h=>h) (fun _ h=>h.elim),
   ⟨PX hm.2.2.2.1,fun _ h=>h⟩,fun i kv e q1 q2=>by simp[List.mem_of_getElem? q1],trivial,fun o ho=>by have:=hI.slt _ _ ho;omega⟩)
 refine⟨_,k1,k2,.ref _ d 0 w.heap.size (by unfold AI;rw[A0];simp) ?_ ?_⟩<;>simp[Gh.upd]
theorem Sj{r b:Nat}{ck:Nat}(e0:h r=.map sh B1)(a1:g.own r=some b)(a2:g.ρ r=.map (some b))(a3:w.heap[b]?=some (.map es ck))(a4:Hm sh es ck B1)(a5:∀(i:Nat) (kv:Value×AV) (e:MapEntry),B1[i]?=some kv->es[i]?=some e->Ba g w Fp kv.2 e.val)(t1:g.tk r=false) :
  ∃g',CV w0 g0 h0 (AL h r (.rom sh B1)) g' w/\Le h g w (AL h r (.rom sh B1)) g' w/\g'.S b 0:=by
 have hl:(h r).live:=by rw[e0];trivial
 have E3:=(hI.loc r b hl a1).1
 obtain⟨k1,k2⟩:=hI.upd r (.rom sh B1) (g.ρ r) (g.ln r) (g.tk r) none (g.more b 1) w none ⟨rfl,rfl,rfl,Ap _⟩ (fun _ _ _=>rfl) (fun b e=>by cases e) (fun _ _ h=>.inl h)
  (fun b' o hs=>hs.elim .inl (fun hs=>.inr ⟨by omega,.inr ⟨hl,by simp_all⟩⟩)) (fun b o e=>by cases e) (fun b hh _=>by cases hh) B0
  (fun _=>⟨rfl,Ap _,fun _=>rfl,fun _=>rfl⟩) (fun hg hk=>by
   obtain⟨u1,u2,u3,u4⟩:=Bl g r (g.ρ r) (g.ln r) (g.tk r) none (g.more b 1);exact⟨u3.trans t1,b,u1.trans a2,.cmap _ sh B1 b es ck (.inr ⟨rfl,Ww⟩) a3 a4 (fun i kv e q1 q2=>(a5 i kv e q1 q2).mono hk (fun _ h=>h) (fun _ h=>h.elim))⟩)
 exact⟨_,k1,k2,.inr ⟨rfl,Ww⟩⟩
theorem Y3{r b:Nat}{ck:Nat}(e0:h r=.mapU sh B1)(a1:g.own r=some b)(a2:g.ρ r=.map (some b))(a3:w.heap[b]?=some (.map es ck))(a4:Hm sh es ck B1)(a5:∀(i:Nat) (kv:Value×AV) (e:MapEntry),B1[i]?=some kv->es[i]?=some e->Ba g w (AI h) kv.2 e.val)(t1:g.tk r=false) :
  ∃g',CV w0 g0 h0 (AL h r (.rom sh (SW h B1))) g' w/\Le h g w (AL h r (.rom sh (SW h B1))) g' w/\g'.S b 0:=by
 have hl:(h r).live:=by rw[e0];trivial
 have E3:=(hI.loc r b hl a1).1
 obtain⟨k1,k2⟩:=hI.upd r (.rom sh (SW h B1)) (g.ρ r) (g.ln r) (g.tk r) none (g.more b 1) w none ⟨rfl,rfl,rfl,Ap _⟩ (fun _ _ _=>rfl) (fun b e=>by cases e) (fun _ _ h=>.inl h)
  (fun b' o hs=>hs.elim .inl (fun hs=>.inr ⟨by omega,.inr ⟨hl,by simp_all⟩⟩)) (fun b o e=>by cases e) (fun b hh _=>by cases hh) B0
  (fun _=>⟨rfl,Ap _,fun _=>rfl,fun _=>rfl⟩) (fun hg hk=>by
   obtain⟨u1,u2,u3,u4⟩:=Bl g r (g.ρ r) (g.ln r) (g.tk r) none (g.more b 1);refine⟨u3.trans t1,b,u1.trans a2,.cmap _ sh _ b es ck (.inr ⟨rfl,Ww⟩) a3 (Xq _ a4) (fun i kv e q1 q2=>?_)⟩;unfold SW at q1;rw[BH]at q1;obtain⟨p,q3,rfl⟩:=Cr.1 q1;exact((a5 i p e q3 q2).str hI.objs).mono hk (fun _ h=>h) (fun _ h=>h.elim))
 exact⟨_,k1,k2,.inr ⟨rfl,Ww⟩⟩
theorem kR(hT:Ci P T){ty kt e:Nat}(ht:(T ty).d=.map kt e){d:Option Nat}{x:AV}(hx:Ba g w (AI h) x vx)(hk:fh d h x K) :
  Oc P w0 g0 h0 h g w (Instr.range ty vx) K:=by
 have hu:=hT.map ht;unfold fh at hk;split at hk
 .simp_all
 .rename_i d;split at hk
  .rename_i hd;have CQ:∀b es ck,w.heap[b]?=some (.map es ck)->(Instr.range ty (.map (some b))).run P w=.ok (.pointer (some ⟨w.heap.size,0,none⟩)) (w.alloc (.mapIter (some b) ck #[] ck)):=fun b es ck hb=>by
    simp[Instr.range,run_underlying hu,run_getObj_map (P:=P) w b es ck hb]
   split at hk
   .cases hx with
    |cmap _ _ _ b es ck hS hb hm hv=>
     obtain⟨g',k1,k2,k3⟩:=OH hI hd hS hb hm hv;exact⟨_,_,_,_,_,CQ _ _ _ hb,hk,k1,k2,k3⟩
   .rename_i r;have ho:=hI.objs r;cases hx with
    |mref _ _ b nN ht' hp=>
     split at hk
     .rename_i sh B1 e0;rw[e0]at ho;obtain⟨_,b',a1,a2⟩:=ho;rw[a1]at hp;cases hp;cases a2 with
      |cmap _ _ _ _ es ck hS hb hm hv=>
       obtain⟨g',k1,k2,k3⟩:=OH hI hd hS hb hm hv;exact⟨_,_,_,_,_,CQ _ _ _ hb,hk,k1,k2,k3⟩
     .rename_i sh B1 e0;rw[e0]at ho;obtain⟨t1,b',es,ck,a1,a2,a3,a4,a5,a6⟩:=ho;rw[a2]at hp;cases hp;obtain⟨g1,i1,i2,i3⟩:=Sj hI e0 a1 a2 a3 a4 a5 t1;have Ek:d≠r:=fun e=>by simp_all
      obtain⟨g',k1,k2,k3⟩:=OH i1 (by rw[BW _ _ _ _ Ek];exact hd) i3 a3 a4 (fun i kv e q1 q2=>(a5 i kv e q1 q2).mono i2.keeps (fun _ h=>h) (fun _ h=>h.elim));exact⟨_,_,_,_,_,CQ _ _ _ a3,hk,k1,i2.trans k2,k3⟩
     simp_all
   simp_all
  simp_all
theorem oF{ty:TypeId}{x:AV}(hx:Ba g w (AI h) x vx)(hk:oE h x K):Oc P w0 g0 h0 h g w (Instr.next vx false ty) K:=by
 unfold oE at hk;split at hk
 .rename_i r;split at hk
  .rename_i all rem Ei e0;have ho:=hI.objs r;rw[e0]at ho;obtain⟨t1,b,mb,KE,seen,st,es,ck,a1,a2,a3,a4,a5,⟨sh,a6⟩,a7,a8,a9,ZM,fO,a12,vF⟩:=ho;have hl:(h r).live:=by rw[e0];trivial
   cases hx with
   |ref _ _ _ b' hu ht hp=>
    rw[a2]at hp;cases hp;have E3:∀e∈es.toList,e.born<KE:=fun e he=>by
     obtain⟨i,hi⟩:=Ee.1 he
     have:=a6.2.2.2.2.1 i e (by simp_all)
     omega
    rcases run_next_at (P:=P) w ty b mb KE st seen es ck a3 a5 E3 ch with ⟨q1,q2⟩ | ⟨e,q1,w1,q2,q3⟩
    .have AfA:rem=[]:=by
      apply Mf.2;intro kv jM;obtain⟨i,hi⟩:=Ee.1 (ZM.2 kv jM);have lA:i<es.size:=by rw[a6.1];grind
      have hb:=(fO i kv es[i] hi (by simp_all)).1 jM;have hm:es[i]∈leftOf es seen:=by grind [leftOf]
      simp_all
     exact⟨_,w,g,_,h,q2,hk.1 AfA,hI,.refl _ _ _,.tup _ _ _ rfl (fun i av x h1 h2=>by
      grind [Ba.v])⟩
    .have hq:e∈es/\e.born∉seen:=by grind [leftOf]
     obtain⟨i,hi⟩:=Array.mem_iff_getElem?.1 hq.1;have lA:i<all.length:=by rw[<-a6.1];grind
     have hai:all[i]?=some all[i]:=AY lA;have lB:=(fO i _ e hai hi).2 hq.2;obtain⟨s1,s2,hs⟩:=List.append_of_mem lB;have Jd:rem.Perm (all[i]::(s1++s2)):=by simp_all
     have VR:(all[i]::(s1++s2)).Nodup:=Jd.nodup_iff.1 ZM.1;have hr:=a9 i _ e hai hi;have hkey:=a6.2.1 i _ e hai hi;have UB:w1.heap=w.heap/\w1.os=w.os/\w1.tape=w.tape/\w1.output=w.output:=by rcases q2 with rfl | rfl<;>exact⟨rfl,rfl,rfl,rfl⟩
     obtain⟨k1,k2⟩:=CV.swap hI hl a1 vF (.iter all (s1++s2) (some all[i])) a3 (.mapIter (some mb) KE (seen.push e.born) ck) w1 UB B0 (fun hg HF EE dP=>by
      obtain⟨u1,u2,u3,u4⟩:=Bl g r (g.ρ r) (g.ln r) (g.tk r) (g.own r) g.S;obtain⟨c1,c2,c3⟩:=HF mb 0 a4
      refine⟨u3.trans t1,b,mb,KE,_,ck,es,ck,u4.trans a1,u1.trans a2,EE,c1,c3 _ _ a5,⟨sh,a6⟩,a7,rfl,fun i kv e p q=>(a9 i kv e p q).mono HF (fun _ h=>h) (fun _ h=>h.elim),
       ⟨(HI.1 VR).2,fun kv jM=>ZM.2 kv (Jd.mem_iff.2 (Ao _ jM))⟩,fun j kv e' p q=>?_,⟨i,e,hai,hi,by simp⟩,vF⟩
      rw[Array.mem_push];have h1:=fO j kv e' p q;rw[Jd.mem_iff,AU]at h1;constructor
      .intro jM hc;rcases hc with hc | hc
       .simp_all
       .obtain rfl:=a6.2.2.2.2.2 j i e' e q hi hc<;>simp_all
      .intro hc;rcases h1.2 (fun hm=>hc (.inl hm))with e2 | e2
       .have:j=i:=Xu (f:=fun x=>x) (l:=all) (by simpa using PX a6.2.2.2.1) p hai e2
        simp_all
       omega)
     refine⟨_,_,_,_,_,q3,hk.2 all[i] (s1++s2) Jd,k1,k2,.tup _ _ _ rfl (fun j av x h1 h2=>?_)⟩
     match j,h1,h2 with
     |0,h1,h2=>grind [Ba.v]
     |1,h1,h2=>grind [Ba.v]
     |2,h1,h2=>simp at h1 h2;grind [Ba.le,Ba.up]
  simp_all
 simp_all
end
end Go.Eng
namespace Go.Eng
variable {F:(AV->Prop)->Prop}{a:AV}{α:Type}(T:GF)(cx:Cx)(o:Oper)(op:BinOp)(s:Nat)(st:St)(f:Nat)(R:List Nat)(k:IntKind)(w:Option Nat)(K:HK)(x:AV)
def Ga(F:(AV->Prop)->Prop):Prop:=∀K,F K->∃v,K v/\∀K',K' v->F K'
theorem CW(v:AV):Ga (fun K=>K v):=fun _ h=>⟨v,h,fun _ h=>h⟩
theorem DO{p:Prop}(h:Ga F):Ga (fun K=>p/\F K):=fun K ⟨hp,hk⟩=>
 let ⟨v,h1,h2⟩:=h K hk
 ⟨v,h1,fun K' h'=>⟨hp,h2 K' h'⟩⟩
theorem Ct:Ga (fun _=>False):=fun _ h=>h.elim
theorem XA(p:Prop):Ga (I9 p):=fun K h=>by
 by_cases hp:p
 .exact⟨_,h.1 hp,fun K' h'=>⟨fun _=>h',fun hn=>absurd hp hn⟩⟩
 .exact⟨_,h.2 hp,fun K' h'=>⟨fun q=>absurd q hp,fun _=>h'⟩⟩
theorem cc(h:Ga F):Ga (fun K=>F (ko K)):=fun K hk=>by
 obtain⟨v,h1,h2⟩:=h _ hk;unfold ko at h1;split at h1
 .exact⟨_,h1,fun K' h'=>h2 _ h'⟩
 .exact⟨_,h1,fun K' h'=>h2 _ h'⟩
 simp_all
theorem Qd{F:α->(AV->Prop)->Prop}(h:∀x,Ga (F x)):Ga (fun K=>∃x,F x K):=fun K ⟨x,hk⟩=>
 let ⟨v,h1,h2⟩:=h x K hk
 ⟨v,h1,fun K' h'=>⟨x,h2 K' h'⟩⟩
theorem Lo(t:Nat)(cs:List AV):Ga (Mb T t cs):=by
 have head:Ga (L8 cs):=by unfold L8;cases cs with | nil=>exact Ct | cons a _=>exact CW a
 unfold Mb;split
 .exact DO (CW _)
 .exact DO (CW _)
 .cases cs with
  |nil=>exact Ct
  |cons a _=>
   intro K h;simp only[L8]at h⊢;split at h
   .rename_i b;cases b<;>grind
   simp_all
 all_goals grind [Ct]
theorem g8(t:Nat)(x y:AV)(hx:∀tk es,x≠.slice tk es):Ga (yK T t x y):=by
 unfold yK
 repeat' split
 all_goals first | exact Ct | exact CW _ | exact XA _ | simp_all | simp_all
theorem Vh(a b:Int):Ga (Vz op k a b):=by
 unfold Vz;split<;>first | exact Ct | exact DO (CW _)
theorem fb(a b:Int):Ga (TG op k a b):=by
 unfold TG
 repeat' split
 all_goals first | exact Ct | exact DO (CW _) | (unfold Yc;split<;>first | exact CW _ | exact DO (CW _) | grind [Vh])
theorem o9(t:Nat)(x y:AV)(hx:∀tk es,x≠.slice tk es):Ga (TK T op t x y):=by
 unfold TK
 repeat' split
 all_goals first | exact Ct | exact XA _ | exact fb _ _ _ _ | exact Vh _ _ _ _ | exact DO (CW _) | exact g8 _ _ _ _ hx | exact cc (g8 _ _ _ _ hx)
theorem kL(t:Nat)(Y:Operand)(x y:AV)(hx:∀tk es,x≠.slice tk es):Ga (ZX T op t Y x y):=by
 unfold ZX
 repeat' split
 all_goals first | exact Ct | exact CW _ | grind [o9]
theorem kM(t:Nat)(x:AV):Ga (WS T s t x):=by
 unfold WS
 repeat' split
 all_goals first | exact Ct | exact CW _ | exact DO (CW _) | exact Qd fun _=>DO (CW _)
theorem fe:Ga (Ud T s f x):=by
 unfold Ud
 repeat' split
 all_goals first | exact Ct | exact CW _
theorem bZ:Ga (PA T s f x):=by
 unfold PA
 repeat' split
 all_goals first | exact Ct | exact Lo _ _ _
theorem Vg(t:Nat)(x ix:AV):Ga (JQ T t x ix):=by
 unfold JQ
 repeat' split
 all_goals first | exact Ct | exact DO (CW _) | exact Qd fun _=>DO (DO (CW _))
theorem ff(t:Nat)(x ix:AV):Ga (UH T t x ix):=by
 unfold UH
 repeat' split
 all_goals first | exact Ct | exact DO (Lo _ _ _) | exact Qd fun _=>DO (CW _)
theorem Zb(i:Nat):Ga (MK x i):=by
 unfold MK
 repeat' split
 all_goals first | exact Ct | exact CW _
theorem pd:Ga (Lh x):=by
 unfold Lh
 repeat' split
 all_goals first | exact Ct | exact CW _
theorem kN(c a b:AV):Ga (bX c a b):=by
 unfold bX
 repeat' split
 all_goals first | exact Ct | exact CW _
theorem s9(f:Int->Int->Int)(x y:AV):Ga (sI f x y):=by
 unfold sI
 repeat' split
 all_goals first | exact Ct | exact CW _
theorem kO(op:UnOp)(x:AV):Ga (cw op x):=by
 unfold cw
 repeat' split
 all_goals first | exact Ct | exact CW _ | exact cc (CW _) | exact DO (CW _)
def un(F:(α->Prop)->Prop):Prop:=∀K,F K->∃v,K v/\∀K',K' v->F K'
theorem bY(n:Nat)(a:AV):un (Hf n a):=by
 intro K h;unfold Hf at h⊢
 grind
theorem Ve(pl:Nat->Option (Nat×Nat))(t:Nat->AV):∀(ps:List (Nat×Operand)) (cs:List AV),un (K8 pl cs t ps)
 | [],cs=>fun K h=>⟨cs,h,fun _ h=>h⟩
 |(i,x)::r,cs=>by
  intro K h;unfold K8 at h;split at h
  .simp_all
  .rename_i o n e;obtain⟨vs,h1,h2⟩:=bY _ _ _ h;split at h1
   .rename_i hb;obtain⟨c,h3,h4⟩:=Ve pl t r _ _ h1<;>grind [K8]
   simp_all
theorem fc(ty:Nat)(t:Nat->AV)(ps:List (Nat×Operand)):Ga (QF T ty t ps):=by
 unfold QF
 repeat' split
 all_goals first
  |exact Ct
  |exact fun K h=>let ⟨c,h1,h2⟩:=Ve _ _ _ _ _ h;⟨_,h1,fun K' h'=>h2 _ h'⟩
def eff(h:Nat->HO)(e:Option (Nat×HO)):Nat->HO:=match e with | none=>h | some (r,o)=>AL h r o
structure Alike(o:Oper)(R:List Nat)(st st2:St):Prop where
 t:∀x∈o.op.operands,ev st2.t x=ev st.t x
 h:∀r∈R,st2.h r=st.h r
def Df:Prop:=
 ∃v e,K v (eff st.h e)/\(∀r o',e=some (r,o')->w=some r/\r∈R)/\∀st2,Alike o R st st2->∀K' : HK,K' v (eff st2.h e)->FS cx true o st2 K'
def Tu(r:Nat):Prop:=match w with | none=>False | some x=>x=r\/(10000000<=x/\(x % 10000000=r\/x / 10000000=r))\/x=Ya
def Ip(h:Nat->HO):List (Nat×HO)->Nat->HO
 | []=>h
 |p::l=>Ip (AL h p.1 p.2) l
def SZ:Prop:=
 ∃v e,K v (Ip st.h e)/\(∀r o',(r,o')∈e->Tu w r/\r∈R)/\∀st2,Alike o R st st2->∀K' : HK,K' v (Ip st2.h e)->FS cx true o st2 K'
section
variable {cx:Cx}{o:Oper}{st:St}{R:List Nat}{w:Option Nat}{K:HK}
theorem Df.pick(hF:Ga F)(h:F fun v=>K v st.h)(h2:∀st2,Alike o R st st2->∀K' : HK,F (fun v=>K' v st2.h)->FS cx true o st2 K'):Df cx o st R w K:=
 let ⟨v,h1,h3⟩:=hF _ h
 ⟨v,none,h1,fun _ _ e=>(by cases e),fun st2 ha K' hk=>h2 st2 ha K' (h3 _ hk)⟩
theorem bz{cs:List AV}(h:a∈cs):∀r∈aX a,r∈se cs:=by
 induction cs with
 |nil=>cases h
 |cons c cs ih=>
  intro r hr;rcases AU.1 h with rfl | h
  .exact Cv _ hr
  .exact CE _ (ih h r hr)
theorem ot{cs:List AV}(h:a∈cs):∀r∈YS a,r∈w9 cs:=by
 induction cs with
 |nil=>cases h
 |cons c cs ih=>
  intro r hr;rcases AU.1 h with rfl | h
  .exact Cv _ hr
  .exact CE _ (ih h r hr)
theorem bx{cs:List AV}(h:a∈cs):∀r∈aW a,r∈UC cs:=by
 induction cs with
 |nil=>cases h
 |cons c cs ih=>
  intro r hr;rcases AU.1 h with rfl | h
  .exact Cv _ hr
  .exact CE _ (ih h r hr)
theorem Xb(a:AV):∀r∈aX a,r∈YS a:=by cases a<;>simp[aX,YS]
theorem Rz{h h2:Nat->HO}(e:∀r∈aX a,h2 r=h r):str0 h2 a=str0 h a:=by
 cases a<;>simp only[str0]
 all_goals grind [aX]
theorem XQ{h h2:Nat->HO}(e:∀r∈YS a,h2 r=h r):str h2 a=str h a:=by
 cases a with
 |agg cs=>simp only[str];exact Aa _ (BZ fun c hc=>Rz fun r hr=>e r (bz hc r hr))
 |clo f cs=>simp only[str];exact Aa _ (BZ fun c hc=>Rz fun r hr=>e r (bz hc r hr))
 |_=>exact Rz (fun r hr=>e r (Xb _ r hr))
theorem nQ(a:AV):∀r∈YS a,r∈aW a:=by
 cases a with
 |agg cs=>
  intro r hr;simp only[aW,YS]at *
  induction cs with
  |nil=>exact hr
  |cons c cs ih=>
   rcases Bh.1 hr with h | h
   .exact Cv _ (Xb c r h)
   .exact CE _ (ih h)
 |_=>exact fun r hr=>hr
theorem Lr{h h2:Nat->HO}(e:∀r∈aW a,h2 r=h r):str h2 a=str h a:=XQ fun r hr=>e r (nQ a r hr)
theorem RA{h h2:Nat->HO}{l:List AV}(e:∀r∈UC l,h2 r=h r):l.map (str h2)=l.map (str h):=
 BZ fun _ ha=>Lr fun r hr=>e r (bx ha r hr)
theorem pz{h h2:Nat->HO}(e:∀r∈aW a,h2 r=h r):rsv h2 a=rsv h a:=by
 cases a<;>simp only[rsv]
 all_goals grind [aW,YS,aX]
theorem Oh{n:Nat}{K:List AV->Prop}(hk:Hf n a K):∃cs,K cs/\(∀K' : List AV->Prop,K' cs->Hf n a K')/\∀h h2:Nat->HO,(∀r∈aW a,h2 r=h r)->cs.map (str h2)=cs.map (str h):=by
 have single:K [a]->(∀K' : List AV->Prop,K' [a]->Hf n a K')->∃cs,K cs/\(∀K' : List AV->Prop,K' cs->Hf n a K')/\∀h h2:Nat->HO,(∀r∈aW a,h2 r=h r)->cs.map (str h2)=cs.map (str h):=
  fun h1 h2=>⟨[a],h1,h2,fun h h2 e=>by simp[Lr e]⟩
 unfold Hf at hk;split at hk
 .rename_i cs;split at hk
  .rename_i hn;refine⟨cs,hk,fun K' h=>by grind [Hf],fun h h2 e=>BZ fun c hc=>XQ fun r hr=>e r (ot hc r hr)⟩
  simp_all
 .rename_i hna;split at hk
  .rename_i h1;split at hk
   .refine single hk fun K' h=>?_
    grind [Hf]
   simp_all
  simp_all
theorem Ue{n sz:Nat}{t:Nat->AV}:∀{ps:List (Nat×Operand)} {es:C0} {h:Nat->HO} {K:C0->Prop},RU n sz h es t ps K ->
  ∃FG,K FG/\∀(t2:Nat->AV) (h2:Nat->HO),(∀r∈UC (ps.map fun p=>ev t p.2),h2 r=h r)->(∀p∈ps,ev t2 p.2=ev t p.2)->∀K' : C0->Prop,K' FG->RU n sz h2 es t2 ps K'
 | [],es,h,K,hk=>⟨es,hk,fun _ _ _ _ _ h=>h⟩
 |(i,x)::r,es,h,K,hk=>by
  unfold RU at hk;split at hk
  .rename_i hb;obtain⟨cs,c1,c2,c3⟩:=Oh hk;obtain⟨FG,e1,e2⟩:=Ue c1;refine⟨FG,e1,fun t2 h2 hh ht K' hk'=>?_⟩;unfold RU;rw[hb,ht (i,x) (Af ..)];refine c2 _ ?_;rw[c3 h h2 (fun r hr=>hh r (Cv _ hr))];exact e2 t2 h2 (fun r hr=>hh r (CE _ hr)) (fun p hp=>ht p (Ao _ hp)) K' hk'
  simp_all
theorem IA{d:Option Nat}{h:Nat->HO}{sz:Nat}{es:C0}(hk:E4 cx d h sz es K) :
  ∃d',d.map (KL cx)=some d'/\∃v x,K v (AL h d' x)/\∀h2:Nat->HO,h2 d'=h d'->∀K' : HK,K' v (AL h2 d' x)->E4 cx d h2 sz es K':=by
 unfold E4 at hk;split at hk
 all_goals grind [E4]
theorem dA{h:Nat->HO}{x:AV}{K:C0->Prop}(hk:LC h x K):∃es,K es/\∀h2:Nat->HO,(∀r n,x=.msl r n->h2 r=h r)->∀K' : C0->Prop,K' es->LC h2 x K':=by
 unfold LC at hk
 grind [LC]
end
end Go.Eng
