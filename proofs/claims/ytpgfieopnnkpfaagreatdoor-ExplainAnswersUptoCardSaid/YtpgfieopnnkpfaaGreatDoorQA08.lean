/- Lemmas 8. -/
import Derived.Test.YtpgfieopnnkpfaaGreatDoorQA07
import Derived.Maps.RangeRun
namespace Go.Eng
variable {ρ:Operand->Value}{es:List (List AV)}{hi:Option Operand}{vx:Value}{K:HK}{a:Option Addr}{cx:Cx}{x:AV}{T:GB}
section
variable {P:Program}{w0:World}{g0:Gh}{h0 h:Nat->HO}{g:Gh}{w:World}(hI:Cv w0 g0 h0 h g w)
include hI
theorem NP{d sz n:Nat}(hd:h d=.free)(hl:∀c∈es,c.length=sz)(hn:es.length=n)(hr:A5 g w EZ (.slice .none es) (.slice a n n)) :
  ∃g',Cv w0 g0 h0 (AJ h d (.tok sz n)) g' w/\Le h g w (AJ h d (.tok sz n)) g' w/\A5 g' w (used (AJ h d (.tok sz n))) (.slice (.id d sz) es) (.slice a n n):=by
 obtain⟨k1,k2⟩:=hI.upd d (.tok sz n) (.slice a n n) n true none g.S w none ⟨rfl,rfl,rfl,Aq _⟩ (fun _ _ _=>rfl) (fun b e=>by cases e) (fun _ _ h=>h) (fun _ _ h=>.inl h) (fun b o e=>by cases e) (fun b _ e=>by cases e) aa1
  (fun hu=>absurd hd hu) (fun _ _=>by
   obtain⟨u1,u2,u3,u4⟩:=Bi g d (.slice a n n) n true none g.S;exact⟨u3,u2,a,n,u1,.inl ⟨rfl,u4⟩⟩)
 exact⟨_,k1,k2,.tok _ d sz es _ (((hr.up (used h)).le k2)) hl (by unfold used;rw[AX];simp) (by simp[Gh.upd]) (by simp[Gh.upd,hn]) (fun _=>by simp[Gh.upd])⟩
theorem ZO{d:Option Nat}(hx:A5 g w (used h) x vx)(hk:Oa cx d h x K):∃g' av h',K av h'/\Cv w0 g0 h0 h' g' w/\Le h g w h' g' w/\A5 g' w (used h') av vx:=by
 have plain:K x h->∃g' av h',K av h'/\Cv w0 g0 h0 h' g' w/\Le h g w h' g' w/\A5 g' w (used h') av vx:=fun hk=>⟨g,x,h,hk,hI,.refl _ _ _,hx⟩;unfold Oa at hk;split at hk
 .simp_all
 .rename_i d;split at hk
  .rename_i sz _;split at hk
   .refine⟨g,unT x,h,hk,hI,.refl _ _ _,?_⟩;cases x with
    |slice tk es=>exact(A5.slice_none hx).up _
    |_=>exact hx
   .split at hk
    .split at hk
     .rename_i hd;obtain rfl:=hx.v_eq;obtain⟨g',k1,k2,k3⟩:=NP hI (sz:=sz) (es:=[]) (a:=none) hd aa1 rfl (.snil _ _ _)<;>grind
     simp_all
    simp_all
  .split at hk
   .rename_i sz _;split at hk
    .split at hk
     .rename_i hd;obtain rfl:=hx.v_eq
      obtain⟨k1,k2⟩:=hI.upd d (.arr sz []) (.slice none 0 0) 0 true none g.S w none ⟨rfl,rfl,rfl,Aq _⟩ (fun _ _ _=>rfl) (fun b e=>by cases e) (fun _ _ h=>h) (fun _ _ h=>.inl h) (fun b o e=>by cases e) (fun b _ e=>by cases e) aa1
       (fun hu=>absurd hd hu) (fun _ _=>by
        obtain⟨u1,u2,u3,u4⟩:=Bi g d (.slice none 0 0) 0 true none g.S;exact⟨u3,u2,by simp,.inl ⟨rfl,u1,u4⟩⟩)
      exact⟨_,_,_,hk,k1,k2,.msl _ d 0 none 0 (by unfold used;rw[AX];simp) (by simp[Gh.upd]) (Ao _) (.inl rfl) (fun _=>by simp[Gh.upd])⟩
     simp_all
    simp_all
   simp_all
theorem YL{mku:List Nat}{d:Option Nat}{ty:Nat}(hk:Kk T mku d h ty K):Nk P w0 g0 h0 h g w (Instr.makeMap ty none) K:=by
 unfold Kk at hk;split at hk
 .simp_all
 .rename_i d;split at hk
  .rename_i hd;split at hk
   .split at hk
    .rename_i sh _;split at hk
     .obtain⟨k1,k2⟩:=hI.newOwn hd (.mapU sh []) (.map #[] 0) (.map (some w.heap.size)) 0 false w ⟨rfl,rfl,rfl,rfl⟩ aa1 (fun hg HP=>by
       obtain⟨u1,u2,u3,u4⟩:=Bi g d (.map (some w.heap.size)) 0 false (some w.heap.size) g.S;exact⟨u3,w.heap.size,#[],0,u4,u1,GX w _ rfl,⟨rfl,by simp,by simp,by simp,by simp,by simp⟩,by simp,fun o ho=>by have:=hI.slt _ _ ho;omega⟩)
      refine⟨_,_,_,_,_,?_,hk,k1,k2,.mref _ d w.heap.size (by grind [used,AX]) ?_ ?_⟩
      .simp[Instr.makeMap]
      all_goals grind [Gh.upd]
     .obtain⟨k1,k2⟩:=hI.newOwn hd (.map sh []) (.map #[] 0) (.map (some w.heap.size)) 0 false w ⟨rfl,rfl,rfl,rfl⟩ aa1 (fun hg HP=>by
       obtain⟨u1,u2,u3,u4⟩:=Bi g d (.map (some w.heap.size)) 0 false (some w.heap.size) g.S;exact⟨u3,w.heap.size,#[],0,u4,u1,GX w _ rfl,⟨rfl,by simp,by simp,by simp,by simp,by simp⟩,by simp,fun o ho=>by have:=hI.slt _ _ ho;omega⟩)
      refine⟨_,_,_,_,_,?_,hk,k1,k2,.mref _ d w.heap.size (by grind [used,AX]) ?_ ?_⟩
      .simp[Instr.makeMap]
      all_goals grind [Gh.upd]
    simp_all
   simp_all
  simp_all
omit hI in
theorem A5.sub{sz l m:Nat}{x:Value}{n cap:Nat}(hr:A5 g w EZ (.slice .none es) x)(hx:x=.slice a n cap)(hl:∀c∈es,c.length=sz)(h1:l<=m)(h2:m<=es.length)(c' : Nat)(hc:m-l<=c')(a' : Option Addr)(ha:a'=a.map (·.add (l*sz))\/(m=l/\a'=a)):A5 g w EZ (.slice .none ((es.take m).drop l)) (.slice a' (m-l) c'):=by
 subst hx;have Cy:((es.take m).drop l).length=m-l:=by simp_all
 by_cases h0:m-l=0
 .grind [snil]
 .cases hr with
  |snil=>simp_all
  |slice _ _ b off Ho cap val hc' T1 CY DS=>
   have hz:Ho=sz:=by
    have:(0:Nat)<es.length:=by omega
    have h3:=T1 0 es[0] (AI this);simp_all
   subst hz;have ha' : a'=some ⟨b,off+l*Ho,none⟩:=by
    grind [Addr.add_lit]
   subst ha';rw[<-Cy];have GR:∀(i:Nat) (cs:List AV),((es.take m).drop l)[i]?=some cs->es[l+i]?=some cs:=fun i cs h=>by
    grind
   refine .slice _ _ b (off+l*Ho) Ho c' (fun i j=>val (l+i) j) aa0 (fun i cs h=>T1 _ _ (GR i cs h)) (fun i cs j av h1 h2=>?_) (fun i cs j av h1 h2=>DS _ _ _ _ (GR i cs h1) h2)
   grind
omit hI in
theorem Ks{t:Nat->AV}(ht:∀x:Operand,A5 g w (used h) (ev t x) (ρ x)){o:Option Operand}{i:Option Int}(hk:Ct t o=some i):o.map ρ=i.map fun n=>.int .i64 n:=by
 cases o<;>grind [Ct,A5.v_eq]
omit hI in
theorem Tu(b:Bool)(len cap:Nat)(lo hi mx:Option Int)(pH:mx=none\/hi≠none)(h0:0<=lo.getD 0)(h1:lo.getD 0<=hi.getD len)(h2:hi.getD len<=mx.getD cap)(h3:mx.getD cap<=cap) :
  (Instr.sliceBounds b len cap (lo.map fun n=>.int .i64 n) (hi.map fun n=>.int .i64 n) (mx.map fun n=>.int .i64 n)).run P w=.ok ((lo.getD 0).toNat,(hi.getD len).toNat,(mx.getD cap).toNat) w:=by
 have e1:∀n:Int,0<=n->(n.toNat:Int)=n:=fun n hn=>IG hn;cases mx with
 |none=>
  cases hi with
  |none=>
   cases lo with
   |none=>simp[Instr.sliceBounds]
   |some l=>
    simp only[CB,Ln]at h0 h1 h2;simp[Instr.sliceBounds,run_sliceBound,h0,h1]
  |some hh=>
   simp only[CB,Ln]at h1 h2;have uZ:0<=hh:=by omega
   cases lo with
   |none=>simp[Instr.sliceBounds,run_sliceBound,uZ,h2]
   |some l=>
    simp only[CB]at h0 h1;simp[Instr.sliceBounds,run_sliceBound,h0,h1,h2,uZ,e1]
 |some m=>
  cases hi with
  |none=>simp_all
  |some hh=>
   simp only[CB]at h1 h2 h3;have uZ:0<=hh:=by omega
   have hm0:0<=m:=by omega
   cases lo with
   |none=>simp[Instr.sliceBounds,run_sliceBound,h2,h3,uZ,hm0,e1]
   |some l=>
    simp only[CB]at h0 h1;simp[Instr.sliceBounds,run_sliceBound,h0,h1,h2,h3,uZ,hm0,e1]
omit hI in
theorem EC(hT:BY P T){ty e k:Nat}(ht:(T ty).d=.slice e)(hk:(T e).size=k+1)(a:Option Addr)(len cap:Nat)(lo hi mx:Option Int)(pH:mx=none\/hi≠none)(h0:0<=lo.getD 0)(h1:lo.getD 0<=hi.getD len)(h2:hi.getD len<=mx.getD cap)(h3:mx.getD cap<=cap) :
  (Instr.sliceAt ty (.slice a len cap) (lo.map fun n=>.int .i64 n) (hi.map fun n=>.int .i64 n) (mx.map fun n=>.int .i64 n)).run P w =
   .ok (.slice (if(mx.getD cap).toNat=(lo.getD 0).toNat then a else a.map (·.add ((lo.getD 0).toNat*(T e).size))) ((hi.getD len).toNat-(lo.getD 0).toNat) ((mx.getD cap).toNat-(lo.getD 0).toNat)) w:=by
 have hu:=hT.slice ht;have hb:=Tu (P:=P) (w:=w) true len cap lo hi mx pH h0 h1 h2 h3;simp only[Instr.sliceAt,Sem.run_bind,run_underlying hu,Result.andThen_ok,Instr.slice,hb,hT.size1 w hk,Sem.run_pure];rw[hk]
theorem Cv.moveO(r r2:Nat)(Fi:r2≠r)(hf:h r2=.free)(hl:(h r).live){ob:Option Nat}(ho:∀c,ob=some c->g.own r=some c)(o' : HO)(x:Value)(n:Nat)(t:Bool)(hn:o'≠.free)
  (Lq:ED g w (g.upd r2 x n t ob g.S) w->DB (g.upd r2 x n t ob g.S) w (used (AJ (AJ h r .dead) r2 o')) r2 o') :
  Cv w0 g0 h0 (AJ (AJ h r .dead) r2 o') (g.upd r2 x n t ob g.S) w/\Le h g w (AJ (AJ h r .dead) r2 o') (g.upd r2 x n t ob g.S) w:=by
 have jx:JS g (g.upd r2 x n t ob g.S) (used h):=by
  intro i hi;have e:i≠r2:=fun e=>hi (by simp_all)
  grind [Gh.upd]
 have hK:ED g w (g.upd r2 x n t ob g.S) w:=fun b o hb=>⟨hb,rfl,fun _ _ h=>h⟩;have Ij:∀i,used h i->used (AJ (AJ h r .dead) r2 o') i:=fun i hi=>Do hn i (Do aa1 i hi);have key:∀i,i≠r2->(AJ (AJ h r .dead) r2 o' i).live->i≠r/\(h i).live:=fun i h2 hl=>by
  rw[BK _ _ _ _ h2]at hl
  by_cases e:i=r
  .subst e;rw[AX]at hl;exact hl.elim
  grind [BK]
 have own:∀i,i≠r2->(g.upd r2 x n t ob g.S).own i=g.own i:=fun i e=>by simp[Gh.upd,e]
 have kS:(g.upd r2 x n t ob g.S).own r2=ob:=by simp[Gh.upd]
 refine⟨⟨hI.os,hI.tape,hI.output,hI.size,hI.frame,hI.slt,fun i=>?_,fun i j c hi hj ei ej=>?_,fun i c hi ei=>?_,hI.sg,hI.glob.keep hK⟩,jx,Ij,hK⟩
 .by_cases e:i=r2
  .grind [AX]
  .rw[BK _ _ _ _ e]
   by_cases e1:i=r
   .subst e1;rw[AX];trivial
   .rw[BK _ _ _ _ e1];exact(hI.objs i).same hK Ij jx (by simp[Gh.upd,e]) (by simp[Gh.upd,e]) (by simp[Gh.upd,e]) (by simp_all) (fun b hl hb=>⟨rfl,fun k hk=>hk⟩)
 .grind [Cv.inj]
 .by_cases e1:i=r2
  .subst e1;rw[kS]at ei;exact hI.loc r _ hl (ho _ ei)
  .rw[own i e1]at ei;exact hI.loc i c (key i e1 hi).2 ei
theorem Ze(hT:BY P cx.T){d:Option Nat}{ty:Nat}{t:Nat->AV}(ht:∀x:Operand,A5 g w (used h) (ev t x) (ρ x)){lo mx:Option Operand}(hx:A5 g w (used h) x vx)(hk:Tr cx d h ty x (Ct t lo) hi mx K):Nk P w0 g0 h0 h g w (Instr.sliceAt ty vx (lo.map ρ) (hi.map ρ) (mx.map ρ)) K:=by
 unfold Tr at hk;split at hk
 .rename_i d HQ e1;rw[Ks ht e1];split at hk
  .rename_i e hs;split at hk
   .simp_all
   .rename_i k FM;split at hk
    .rename_i r sz es;split at hk
     .rename_i Ho n e0;split at hk
      .rename_i hd;split at hk
       .rename_i q1 q2;obtain rfl:=AT q1;have q2:=AT q2;obtain⟨⟨rfl,h1,h2⟩,hk⟩:=hk;have hl:(h r).live:=by rw[e0];trivial
        have Fi:JW cx d≠r:=fun e=>by simp_all
        have ho:=hI.objs r;rw[e0]at ho;obtain⟨t1,l1,a,cap,a1,a3⟩:=ho;have hr:=hx.slice_none;cases hx with
        |tok _ _ _ _ _ sN nT hu ZE hn Q0=>
         have hv:=Q0 l1.symm;rw[a1]at hv;subst hv;have ct:es.length<=cap:=by omega
         have Cm:=EC (P:=P) (w:=w) hT hs FM a es.length cap (some HQ) none none (.inl rfl) h1 h2 (by simp_all) aa1;simp only[CB,Ln,Cj]at Cm;have Cy:(es.drop HQ.toNat).length=es.length-HQ.toNat:=Ru;have ff:=A5.sub (c':=cap-HQ.toNat) hr rfl nT (l:=HQ.toNat) (m:=es.length) aa0 (Aq _) aa0 (if cap=HQ.toNat then a else a.map (·.add (HQ.toNat*(cx.T e).size))) (by
          grind)
         rw[Ec]at ff
         have fin:∀ob:Option Nat,(∀c,ob=some c->g.own r=some c)->(es.length-HQ.toNat=cap-HQ.toNat/\ob=none\/es.length-HQ.toNat<=cap-HQ.toNat/\∃b E vs off,(if cap=HQ.toNat then a else a.map (·.add (HQ.toNat*(cx.T e).size)))=some ⟨b,off,none⟩/\ob=some b/\Qj w b vs E/\vs.size=off+(cap-HQ.toNat)*Ho/\∀o,g.S b o->o<off+(es.length-HQ.toNat)*Ho) ->
           Nk P w0 g0 h0 h g w (Instr.sliceAt ty (.slice a es.length cap) ((some HQ).map fun n=>.int .i64 n) ((none:Option Operand).map ρ) ((none:Option Operand).map ρ)) K:=fun ob ho vr=>by
          obtain⟨k1,k2⟩:=hI.moveO r (JW cx d) Fi hd hl ho (.tok Ho (es.drop HQ.toNat).length) (.slice (if cap=HQ.toNat then a else a.map (·.add (HQ.toNat*(cx.T e).size))) (es.length-HQ.toNat) (cap-HQ.toNat)) (es.length-HQ.toNat) true aa1 (fun HP=>by
           obtain⟨u1,u2,u3,u4⟩:=Bi g (JW cx d) (.slice (if cap=HQ.toNat then a else a.map (·.add (HQ.toNat*(cx.T e).size))) (es.length-HQ.toNat) (cap-HQ.toNat)) (es.length-HQ.toNat) true ob g.S;refine⟨u3,u2.trans Cy.symm,_,_,by rw[Cy];exact u1,?_⟩;rw[Cy,u4];exact vr)
          exact⟨_,w,_,_,_,Cm,hk,k1,k2,.tok _ _ _ _ _ (((ff.mono k2.keeps (fun _ h=>h) (fun _ h=>h.elim))).up _) (fun c hc=>nT c (H9 hc)) (by grind [used,AX]) (by simp[Gh.upd]) (by simp[Gh.upd]) (fun _=>by simp[Gh.upd])⟩
         rcases a3 with ⟨e1,e2⟩ | ⟨e1,b,E,vs,off,rfl,e3,e4,e5,e6⟩
         .exact fin none (fun c h=>by cases h) (.inl ⟨by omega,rfl⟩)
         .by_cases hc:cap=HQ.toNat
          .exact fin none (fun c h=>by cases h) (.inl ⟨by omega,rfl⟩)
          .refine fin (some b) (fun c h=>by simp_all) (.inr ⟨by omega,b,E,vs,off+HQ.toNat*Ho,?_,rfl,e4,?_,fun o ho=>?_⟩)
           .grind [Addr.add_lit]
           .rw[e5,Nat.sub_mul]
            have:=By Ho (show HQ.toNat<=cap by omega)
            omega
           grind [Nat.sub_mul]
       simp_all
      simp_all
     simp_all
    simp_all
  simp_all
 simp_all
omit hI in
theorem Nv{sz:Nat}:∀{es:List (List AV)},(∀cs∈es,cs.length=sz)->∀k,(es.take k).flatten=es.flatten.take (k*sz)
 | [],_,k=>by simp
 |c::es,hl,0=>by simp
 |c::es,hl,k+1=>by
  have h1:=hl c (Ai ..);have h2:c.length<=k*sz+sz:=by omega
  rw[List.take_succ_cons,Dp,Dp,Nv (fun x hx=>hl x (At _ hx)) k,List.take_append,h1,Nat.succ_mul,
   AK h2,show k*sz+sz-sz=k*sz by omega]
omit hI in
theorem B2.takeE{U:Nat->Prop}{sz k:Nat}{vs:List Value}(hl:∀cs∈es,cs.length=sz)(hk:k<=es.length)(h:B2 g w U es.flatten (vs.take (es.length*sz))):B2 g w U (es.take k).flatten (vs.take (k*sz)):=by
 have e:vs.take (k*sz)=(vs.take (es.length*sz)).take (k*sz):=by
  grind [Nat.mul_le_mul_right]
 rw[Nv hl,e];refine⟨by rw[AC (l:=vs.take (es.length*sz)),h.1,AC],fun x hx=>h.2.1 x (CV hx),fun i av x q1 q2=>?_⟩;have hi:i<k*sz:=by
  grind
 rw[N3,AE hi]at q1 q2;exact h.2.2 i av x q1 q2
theorem cW(hT:BY P cx.T){d:Option Nat}{ty:Nat}{t:Nat->AV}(ht:∀x:Operand,A5 g w (used h) (ev t x) (ρ x))(hx:A5 g w (used h) x vx)(hk:lg cx d h ty x (Ct t hi) K):Nk P w0 g0 h0 h g w (Instr.sliceAt ty vx none (hi.map ρ) none) K:=by
 unfold lg at hk;split at hk
 .rename_i d N0 e1;rw[Ks ht e1];split at hk
  .rename_i e hs;split at hk
   .simp_all
   .rename_i k FM;split at hk
    .rename_i r n;split at hk
     .rename_i sz es e0;split at hk
      .rename_i hd;split at hk
       .rename_i q1 q3;have q1:=AT q1;obtain⟨⟨rfl,h1,h2⟩,hk⟩:=hk;have hl:(h r).live:=by rw[e0];trivial
        have Fi:JW cx d≠r:=fun e=>by simp_all
        have ho:=hI.objs r;rw[e0]at ho;obtain⟨t1,l1,al,a2⟩:=ho;have Cy:(es.take N0.toNat).length=N0.toNat:=by simp_all
        cases hx with
        |msl _ _ _ a cap hu ZE l6 ha Q0=>
         have hv:=Q0 l1.symm;have NC:es.length<=cap:=by
          grind
         have Cm:=EC (P:=P) (w:=w) hT hs FM a es.length cap none (some N0) none (.inl rfl) aa1 (by simp_all) (by grind) aa1;have j6:(if cap-(0:Nat)=0 then a else a.map (·.add (0*(cx.T e).size)))=a:=by
          grind [Addr.add]
         simp only[CB,Ln,Cj,Int.toNat_zero,Nat.sub_zero]at Cm j6;have key:∃a',(Instr.sliceAt ty (.slice a es.length cap) ((none:Option Int).map fun n=>.int .i64 n) ((some N0).map fun n=>.int .i64 n) ((none:Option Int).map fun n=>.int .i64 n)).run P w=.ok (.slice a' N0.toNat cap) w/\(a'=a):=⟨_,Cm,by omega⟩;obtain⟨a',Cm,rfl⟩:=key;have Lr:A5 (g.upd (JW cx d) (.slice a' N0.toNat cap) N0.toNat true (g.own r) g.S) w (used (AJ (AJ h r .dead) (JW cx d) (.arr sz (es.take N0.toNat)))) (.msl (JW cx d) N0.toNat) (.slice a' N0.toNat cap):=
          .msl _ _ _ _ _ (by grind [used,AX]) (by simp[Gh.upd]) (by simp[Gh.upd]) (ha.elim (fun e=>.inl aa0) .inr) (fun _=>by simp[Gh.upd])
         obtain⟨k1,k2⟩:=hI.moveO r (JW cx d) Fi hd hl (ob:=g.own r) (fun c h=>h) (.arr sz (es.take N0.toNat)) (.slice a' N0.toNat cap) N0.toNat true aa1 (fun HP=>by
          obtain⟨u1,u2,u3,u4⟩:=Bi g (JW cx d) (.slice a' N0.toNat cap) N0.toNat true (g.own r) g.S;refine⟨u3,u2.trans Cy.symm,fun c hc=>al c (CV hc),?_⟩;rcases a2 with ⟨b1,b2,b3⟩ | ⟨b,MU,E,vs,b1,b2,b3,b4,b5,b6,b7⟩
          .simp_all
          .rw[b1]at hv;cases hv;refine .inr ⟨b,cap,E,vs,by simp_all,u4.trans b2,by omega,b4,b5,?_,b7⟩;rw[Cy];exact(B2.takeE al aa0 b6).mono HP (fun _ h=>h) (fun _ h=>h.elim))
         exact⟨_,w,_,_,_,Cm,hk,k1,k2,Lr⟩
       simp_all
      simp_all
     simp_all
    simp_all
  simp_all
 simp_all
theorem Vr(hT:BY P cx.T){d:Option Nat}{ty:Nat}{t:Nat->AV}(ht:∀x:Operand,A5 g w (used h) (ev t x) (ρ x)){lo mx:Option Operand}(hx:A5 g w (used h) x vx)(hk:H2 cx d h ty x (Ct t lo) (Ct t hi) (Ct t mx) K):Nk P w0 g0 h0 h g w (Instr.sliceAt ty vx (lo.map ρ) (hi.map ρ) (mx.map ρ)) K:=by
 unfold H2 at hk;split at hk
 .rename_i HQ N0 pQ e1 e2 e3;rw[Ks ht e1,Ks ht e2,Ks ht e3];split at hk
  .rename_i hs;split at hk
   .rename_i s;obtain⟨⟨h1,h2,h3⟩,hk⟩:=hk;obtain rfl:=hx.v_eq;have hb:=Tu (P:=P) (w:=w) false s.size s.size HQ N0 none (.inl rfl) h1 h2 (by simp_all) aa1;refine(Bp.val (x:=.string (s.extract (HQ.getD 0).toNat (N0.getD s.size).toNat)) ?_ hk).does hI;simp only[Instr.sliceAt,Sem.run_bind,run_underlying (hT.string hs),Result.andThen_ok,Instr.slice];simp_all
   simp_all
  .rename_i e hs;split at hk
   .simp_all
   .rename_i k FM;split at hk
    .rename_i tk es;have hr:=hx.slice_none;obtain⟨a,cap,hv,NC⟩:∃a cap,vx=.slice a es.length cap/\es.length<=cap:=by
      grind [cases A5]
     subst hv;split at hk
     .obtain⟨⟨h1,h2,h3⟩,hl,hk⟩:=hk;have Cm:=EC (P:=P) (w:=w) hT hs FM a es.length cap HQ N0 none (.inl rfl) h1 h2 (by grind) aa1;refine Bp.does hI ⟨_,_,Cm,hk,(A5.sub (c':=cap-(HQ.getD 0).toNat) hr rfl hl (l:=(HQ.getD 0).toNat) (m:=(N0.getD es.length).toNat) aa0 aa0 aa0 _ ?_).up _⟩
      grind
     .rename_i m;split at hk
      .rename_i d hh;split at hk
       .obtain⟨⟨h1,h2,rfl,h3⟩,hl,hk⟩:=hk;have Cm:=EC (P:=P) (w:=w) hT hs FM a es.length cap HQ (some m) (some m) (.inr aa1) h1 h2 aa1 (by grind);simp only[CB]at Cm;have Cy:((es.take m.toNat).drop (HQ.getD 0).toNat).length=m.toNat-(HQ.getD 0).toNat:=by simp_all
        refine Bp.does hI ⟨_,_,Cm,hk,.full _ _ _ _ ((A5.sub (c':=m.toNat-(HQ.getD 0).toNat) hr rfl hl (l:=(HQ.getD 0).toNat) (m:=m.toNat) aa0 aa0 aa0 _ ?_).up _) (fun c hc=>hl c (CV (H9 hc))) ⟨_,by rw[Cy]⟩⟩
        grind
       split at hk
       .rename_i hd;obtain⟨⟨h1,h2,rfl,h3⟩,hl,hk⟩:=hk;have Cm:=EC (P:=P) (w:=w) hT hs FM a es.length cap HQ (some m) (some m) (.inr aa1) h1 h2 aa1 (by grind);simp only[CB]at Cm
        obtain⟨g',k1,k2,k3⟩:=NP hI (sz:=(cx.T e).size) (n:=m.toNat-(HQ.getD 0).toNat) hd (es:=(es.take m.toNat).drop (HQ.getD 0).toNat) (fun c hc=>hl c (CV (H9 hc))) (by simp_all)
         (A5.sub (c':=m.toNat-(HQ.getD 0).toNat) hr rfl hl (l:=(HQ.getD 0).toNat) (m:=m.toNat) aa0 aa0 aa0 (if m.toNat=(HQ.getD 0).toNat then a else a.map (·.add ((HQ.getD 0).toNat*(cx.T e).size))) (by
          grind))
        exact⟨_,w,g',_,_,Cm,hk,k1,k2,k3⟩
       simp_all
      simp_all
    .obtain⟨⟨h1,h2,h3⟩,h4,hk⟩:=hk;obtain rfl:=hx.v_eq;have Cm:=EC (P:=P) (w:=w) hT hs FM none 0 0 HQ N0 pQ h4 aa0 (by simp_all) (by simp_all) (by simp_all)
     grind [Bp.does,Bp.val]
    .rename_i r n;split at hk
     .rename_i sz es e0;split at hk
      .rename_i TP;obtain rfl:=AT TP;obtain⟨⟨h1,h2,h3,h4,h5⟩,hk⟩:=hk;have ho:=hI.objs r;rw[e0]at ho;obtain⟨t1,l1,al,a3⟩:=ho;have hl:(h r).live:=by rw[e0];trivial
       have vh:pQ=none\/N0≠none:=h5.imp id (fun q=>q.2);cases hx with
       |msl _ _ _ a cap hu ZE hn ha Q0=>
        have hv:=Q0 (h1.trans l1.symm);subst h1;have pH:∀c:Nat,es.length<=c->N0.getD es.length<=pQ.getD c/\pQ.getD c<=c:=fun c hc=>by
         rcases h5 with h5 | ⟨h5,Fi⟩
         .grind
         .obtain⟨m,hm⟩:=Option.ne_none_iff_exists'.1 Fi<;>grind
        rcases a3 with ⟨rfl,q2,q3⟩ | ⟨b,MU,E,vs,q1,q2,q3,q4,q5,q6,q7⟩
        .rw[q2]at hv;cases hv;have Cm:=EC (P:=P) (w:=w) hT hs FM none 0 0 HQ N0 pQ vh h2 h3 (pH 0 aa1).1 (pH 0 aa1).2
         obtain⟨k1,k2⟩:=hI.upd r .dead (g.ρ r) (g.ln r) (g.tk r) (g.own r) g.S w none ⟨rfl,rfl,rfl,Aq _⟩ (fun _ _ _=>rfl) (fun b e=>by cases e) (fun _ _ h=>h) (fun _ _ h=>.inl h) (fun b o e=>by cases e) (fun b hh _=>by cases hh) aa1
          (fun _=>⟨rfl,Aq _,fun _=>rfl,fun _=>rfl⟩) (fun _ _=>trivial)
         refine⟨_,w,_,_,_,Cm,hk,k1,k2,?_⟩
         grind [A5.snil]
        .rw[q1]at hv;cases hv;have Cm:=EC (P:=P) (w:=w) hT hs FM (some ⟨b,0,none⟩) es.length cap HQ N0 pQ vh h2 h3 (pH _ q3).1 (pH _ q3).2;have uB:=(hI.loc r b hl q2).1
         obtain⟨k1,k2⟩:=hI.upd r .dead (g.ρ r) (g.ln r) (g.tk r) (g.own r) (g.more b (es.length*(cx.T e).size)) w none ⟨rfl,rfl,rfl,Aq _⟩ (fun _ _ _=>rfl) (fun b e=>by cases e) (fun _ _ h=>.inl h)
          (fun b' o hs=>hs.elim .inl (fun hs=>.inr ⟨by omega,.inr ⟨hl,by simp_all⟩⟩)) (fun b o e=>by cases e) (fun b hh _=>by cases hh) aa1
          (fun _=>⟨rfl,Aq _,fun _=>rfl,fun _=>rfl⟩) (fun _ _=>trivial)
         have DS:=A5.slice_row (g:=g.upd r (g.ρ r) (g.ln r) (g.tk r) (g.own r) (g.more b (es.length*(cx.T e).size))) (U:=EZ) q4 al q3 (q6.mono k2.keeps (fun _ h=>h) (fun _ h=>h.elim)) (fun o ho=>.inr ⟨rfl,ho⟩);have Afe:=pH _ q3;refine⟨_,w,_,_,_,Cm,hk,k1,k2,(A5.sub (c':=(pQ.getD cap).toNat-(HQ.getD 0).toNat) DS rfl al (l:=(HQ.getD 0).toNat) (m:=(N0.getD es.length).toNat) aa0 aa0 aa0 _ ?_).up _⟩
         grind
      simp_all
     simp_all
    simp_all
  simp_all
 simp_all
theorem T9(hT:BY P cx.T){d:Option Nat}{ty:Nat}{n c:AV}{vn vc:Value}(hn:A5 g w (used h) n vn)(hc:A5 g w (used h) c vc)(hk:Je cx d h ty n c K) :
  Nk P w0 g0 h0 h g w (Instr.makeSlice ty vn vc) K:=by
 unfold Je at hk;split at hk
 .rename_i e n c hs;obtain rfl:=hn.v_eq;obtain rfl:=hc.v_eq;split at hk
  .rename_i Wz;split at hk
   .rename_i gU;have gU:=AT gU;split at hk
    .simp_all
    .rename_i k FM;obtain⟨⟨h1,h2,h3,h4⟩,hk⟩:=hk;obtain⟨i,z,i1,i2,i3,i4,i5⟩:=Hs hT FM;have ry:(cx.T e).zc≠[]:=fun e0=>by simp_all
     have wn:IntKind.i64.wrap n=n:=MP ⟨by omega,by omega⟩;have wc:IntKind.i64.wrap c=c:=MP ⟨by omega,by omega⟩;have Hy:∀l:List AV,(∀a∈l,Xm a=true)->GN l=true:=by
      intro l
      induction l<;>grind [GN]
     have rm:((Array.range (c.toNat*(cx.T e).size)).map fun k=>z.cells[k % z.cells.size]!).toList=(List.replicate c.toNat (cx.T e).zc).flatten:=by
      rw[HG c.toNat _ ry,gU,i5];have e6:z.cells.size=(cx.T e).size:=by simp_all
      simp[e6,Array.getElem!_eq_getD]
     have hzs:(cx.T e).zc.length=(cx.T e).size:=gU;have wS:∀c'∈List.replicate c.toNat (cx.T e).zc,c'.length=(cx.T e).size:=fun c' hc=>by simp_all
     have zW : ∀c'∈List.replicate n.toNat ((cx.T e).zc.map AV.v),c'.length=(cx.T e).size:=fun c' hc=>by simp_all
     have Afb:∀c'∈List.replicate n.toNat (cx.T e).zc,c'.length=(cx.T e).size:=fun c' hc=>by simp_all
     obtain⟨g',av,h',q1,q2,q3,q4⟩:=JM hI hk (vs:=(Array.range (c.toNat*(cx.T e).size)).map fun k=>z.cells[k % z.cells.size]!) (cap:=c.toNat) e zW (by grind) aa1 (by
      rw[rm,FY];have e1:(List.replicate n.toNat ((cx.T e).zc.map AV.v)).flatten=(List.replicate n.toNat (cx.T e).zc).flatten.map AV.v:=by
       simp_all
      have e2:(List.replicate c.toNat (cx.T e).zc).flatten.take (n.toNat*(cx.T e).size)=(List.replicate n.toNat (cx.T e).zc).flatten:=by
       obtain⟨m,hm⟩:∃m,c.toNat=n.toNat+m:=⟨c.toNat-n.toNat,by omega⟩;rw[hm,<-List.replicate_append_replicate,Eu,MS (by simp_all)]
      grind [B2.vals,Ml]) w ⟨rfl,rfl,rfl,rfl⟩
     rw[FY]at q4;refine⟨_,_,g',av,h',?_,q1,q2,q3,q4⟩;have hb0:¬((cx.T e).bytes*c>2 ^ 48):=by grind
     have jN:((decide (c<0)||decide (((cx.T e).bytes:Int)*c>2 ^ 48))||decide (n<0)||decide (n>c))=false:=by
      grind
     simp only[Instr.makeSlice,Sem.run_bind,run_underlying (hT.slice hs),Result.andThen_ok,asInt,asIntOf,Sem.run_pure,typeInfo,run_program,i1,i4,wn,wc,jN,D4,LU,run_askRoom,hT.size1 w FM]
     by_cases hz:c.toNat*(k+1)=0
     .have Wu:c.toNat=0:=by
       simp_all
      rw[Wu];simp only[Nat.zero_mul,Qx];simp only[show Array.range 0=#[]from rfl,Array.map_empty];simp[newRow]
     .simp only[Aw hz,Sem.run_bind,zeroValue,typeInfo,run_program,i1,i2,Result.andThen_ok,Sem.run_pure];rw[FM];simp[newRow]
   simp_all
  simp_all
 simp_all
end
end Go.Eng
namespace Go.Eng
open Go.ChangeMaps (setBlock)
variable {BN:List (Value×AV)}{es:Array MapEntry}{sh:EE}{vx:Value}{α β:Type}{f:α->β}{l:List α}{ck:Nat}{w:World}{k x y:Value}{a:AV}{K:HK}{r:Nat}{o':Obj}{j:Nat}{v:AV}{T:GB}
theorem Uf{o:Obj}(h:w.heap[r]?=some o):(setBlock w r o').heap[r]?=some o':=by
 grind [setBlock]
theorem Tz{k:Nat}(h:k≠r):(setBlock w r o').heap[k]?=w.heap[k]?:=by
 grind [setBlock]
theorem Ug(w:World)(r:Nat)(o' : Obj):(setBlock w r o').heap.size=w.heap.size:=by simp[setBlock]
theorem OQ(h:(l.map f).Nodup):l.Nodup:=by
 induction l<;>grind
theorem U8(h:(l.map f).Nodup){i:Nat}{a b:α}(ha:l[i]?=some a)(hb:l[j]?=some b)(he:f a=f b):i=j:=by
 induction l generalizing i j<;>grind
open Classical in
theorem PK{b:AV}(h:(k,b)∈BN):FI BN k a=BN.map fun p=>if p.1=k then(k,a)else p:=AE ⟨b,h⟩
open Classical in
theorem PJ(h:∀b,(k,b)∉BN):FI BN k a=BN++[(k,a)]:=Aw (fun⟨b,e⟩=>h b e)
theorem U4(f:AV->AV)(h:Ha sh es ck BN):Ha sh es ck (BN.map fun p=>(p.1,f p.2)):=by
 obtain⟨h1,h2,h3,h4,h5,h6⟩:=h;refine⟨by simp_all,fun i kv e q1 q2=>?_,fun kv eY=>?_,?_,h5,h6⟩
 all_goals grind
theorem OM(h:Ha sh es ck BN)(hj:BN[j]?=some (x,a)) :
  Ha sh (es.modify j fun e=>{ e with key:=x,val:=y }) ck (FI BN x v) /\
   ∀(i:Nat) (kv:Value×AV) (e:MapEntry),(FI BN x v)[i]?=some kv->(es.modify j fun e=>{ e with key:=x,val:=y })[i]?=some e ->
    (kv.2=v/\e.val=y)\/(BN[i]?=some kv/\es[i]?=some e):=by
 classical
 rw[PK (AO hj)];obtain⟨h1,h2,h3,h4,h5,h6⟩:=h;have hm:∀i e,(es.modify j fun e=>{ e with key:=x,val:=y })[i]?=some e->∃e0,es[i]?=some e0/\e.born=e0.born/\(if i=j then e.key=x/\e.val=y else e=e0):=by
  grind
 have hk:∀i kv,(BN.map fun p=>if p.1=x then(x,v)else p)[i]?=some kv->∃p,BN[i]?=some p/\kv.1=p.1/\(if i=j then kv.2=v else kv=p):=by
  intro i kv eY;rw[BX]at eY;obtain⟨p,q1,q2⟩:=CD.1 eY;refine⟨p,q1,?_⟩
  grind [U8]
 have Ac6:(BN.map fun p=>if p.1=x then(x,v)else p).map (·.1)=BN.map (·.1):=by
  rw[Cf];apply Cd
  grind
 refine⟨⟨by grind,fun i kv e q1 q2=>?_,fun kv eY=>?_,by grind,fun i e q=>?_,fun i i' e e' q q' hb=>?_⟩,fun i kv e q1 q2=>?_⟩
 all_goals grind
theorem S0(h:Ha sh es ck BN)(hx:W3 sh x=true)(hn:∀a,(x,a)∉BN) :
  Ha sh (es.push { key:=x,val:=y,born:=ck }) (ck+1) (FI BN x v) /\
   ∀(i:Nat) (kv:Value×AV) (e:MapEntry),(FI BN x v)[i]?=some kv->(es.push { key:=x,val:=y,born:=ck })[i]?=some e ->
    (kv.2=v/\e.val=y)\/(BN[i]?=some kv/\es[i]?=some e):=by
 rw[PJ hn];obtain⟨h1,h2,h3,h4,h5,h6⟩:=h;have hm:∀i e,(es.push { key:=x,val:=y,born:=ck })[i]?=some e->(es[i]?=some e/\i<es.size)\/(i=es.size/\e={ key:=x,val:=y,born:=ck }):=by
  grind
 have hk:∀i kv,(BN++[(x,v)])[i]?=some kv->(BN[i]?=some kv/\i<es.size)\/(i=es.size/\kv=(x,v)):=by
  grind
 refine⟨⟨by grind,fun i kv e q1 q2=>?_,fun kv eY=>?_,?_,fun i e q=>?_,fun i i' e e' q q' hb=>?_⟩,fun i kv e q1 q2=>?_⟩
 all_goals grind
section
variable {P:Program}{w0:World}{g0:Gh}{h0 h:Nat->HO}{g:Gh}{w:World}(hI:Cv w0 g0 h0 h g w)
include hI
theorem Cv.swap{r b:Nat}(hl:(h r).live)(ho:g.own r=some b)(hn:∀o,¬g.S b o)(o' : HO){ob:Obj}(hb:w.heap[b]?=some ob)(cO : Obj)(w1:World)(UR:w1.heap=w.heap/\w1.os=w.os/\w1.tape=w.tape/\w1.output=w.output)(Fi:o'≠.free)
  (Lq:JS g (g.upd r (g.ρ r) (g.ln r) (g.tk r) (g.own r) g.S) (used h)->ED g w (g.upd r (g.ρ r) (g.ln r) (g.tk r) (g.own r) g.S) (setBlock w1 b cO)->(setBlock w1 b cO).heap[b]?=some cO ->
   (∀k,k≠b->(setBlock w1 b cO).heap[k]?=w.heap[k]?) ->
   DB (g.upd r (g.ρ r) (g.ln r) (g.tk r) (g.own r) g.S) (setBlock w1 b cO) (used (AJ h r o')) r o') :
  Cv w0 g0 h0 (AJ h r o') (g.upd r (g.ρ r) (g.ln r) (g.tk r) (g.own r) g.S) (setBlock w1 b cO)/\Le h g w (AJ h r o') (g.upd r (g.ρ r) (g.ln r) (g.tk r) (g.own r) g.S) (setBlock w1 b cO):=by
 have Fp:=(hI.loc r b hl ho).1;have Et:(setBlock w1 b cO).heap[b]?=some cO:=Uf (by rw[UR.1];exact hb);have aK:∀k,k≠b->(setBlock w1 b cO).heap[k]?=w.heap[k]?:=fun k hk=>by grind [Tz]
 refine hI.upd r o' _ _ _ _ _ _ (some b) ⟨UR.2.1,UR.2.2.1,UR.2.2.2,by grind [Ug]⟩ (fun k _ Fi=>aK k (fun e=>Fi (by rw[e]))) (fun b' e=>by simp_all) (fun _ _ h=>h) (fun _ _ h=>.inl h)
  (fun b' o e hs=>by simp_all) (fun b' _ e=>?_) Fi (fun _=>⟨rfl,Aq _,fun _=>rfl,fun _=>rfl⟩) (fun hg hk=>Lq hg hk Et aK)
 grind
theorem Na(hT:BY P T){ty:Nat}{m k x:AV}{vm vk:Value}(hm:A5 g w (used h) m vm)(hk' : A5 g w (used h) k vk)(hx:A5 g w (used h) x vx)(hk:G7 T h ty m k x K) :
  gZ P w0 g0 h0 h g w (Instr.mapUpdate ty vm vk vx) K:=by
 unfold G7 at hk;split at hk
 .rename_i r;split at hk
  .rename_i sh BN e0;obtain⟨kt,e,k1,k2,k3,k4⟩:=Mz hk' hk;have ho:=hI.objs r;rw[e0]at ho;obtain⟨t1,b,es,ck,a1,a2,a3,a4,a5,a6⟩:=ho;have hl:(h r).live:=by rw[e0];trivial
   cases hm with
   |mref _ _ b' hu ht hp=>
    rw[a2]at hp;cases hp;have fg:=hT.map k1;have GR:=run_getObj_map (P:=P) w b es ck a3;have WA:∀o',(setObj b o').run P w=.ok () (setBlock w b o'):=fun o'=>by grind [setObj,Sem.run,setBlock]
    have M8:=fun bb=>Mg hT k2 w bb k3;obtain⟨Gz,r1,r2⟩:=NT hT k2 w k3 es.toList a4.shape;have nZ:=A5.str hI.objs hx;rcases r2 with ⟨rfl,hn⟩ | ⟨j,en,rfl,hj,Wx⟩
    .obtain⟨m1,m2⟩:=S0 a4 (x:=vk) (v:=str h x) (y:=vx) k3 (fun a=>a4.none hn a);obtain⟨i1,i2⟩:=Cv.swap hI hl a1 a6 (.map sh (FI BN vk (str h x))) a3 (.map (es.push { key:=vk,val:=vx,born:=ck }) (ck+1)) w ⟨rfl,rfl,rfl,rfl⟩ aa1 (fun hg HP Et aK=>by
      obtain⟨u1,u2,u3,u4⟩:=Bi g r (g.ρ r) (g.ln r) (g.tk r) (g.own r) g.S;refine⟨u3.trans t1,b,_,_,u4.trans a1,u1.trans a2,Et,m1,fun i kv e q1 q2=>?_,a6⟩;rcases m2 i kv e q1 q2 with ⟨p1,p2⟩ | ⟨p1,p2⟩
      .rw[p1,p2];exact nZ.mono HP (fun _ h=>h) (fun _ h=>h.elim)
      .exact(a5 i kv e p1 p2).mono HP (fun _ h=>h) (fun _ h=>h.elim))
     refine⟨_,_,_,?_,k4,i1,i2⟩;simp[Instr.mapUpdate,run_underlying fg,GR,M8,r1,WA]
    .obtain⟨a,q1,q2⟩:=a4.some hj Wx;obtain⟨m1,m2⟩:=OM a4 (x:=vk) (v:=str h x) (y:=vx) q1;obtain⟨i1,i2⟩:=Cv.swap hI hl a1 a6 (.map sh (FI BN vk (str h x))) a3 (.map (es.modify j fun e=>{ e with key:=vk,val:=vx }) ck) w ⟨rfl,rfl,rfl,rfl⟩ aa1 (fun hg HP Et aK=>by
      obtain⟨u1,u2,u3,u4⟩:=Bi g r (g.ρ r) (g.ln r) (g.tk r) (g.own r) g.S;refine⟨u3.trans t1,b,_,_,u4.trans a1,u1.trans a2,Et,m1,fun i kv e q1 q2=>?_,a6⟩;rcases m2 i kv e q1 q2 with ⟨p1,p2⟩ | ⟨p1,p2⟩
      .rw[p1,p2];exact nZ.mono HP (fun _ h=>h) (fun _ h=>h.elim)
      .exact(a5 i kv e p1 p2).mono HP (fun _ h=>h) (fun _ h=>h.elim))
     refine⟨_,_,_,?_,k4,i1,i2⟩;have sJ : es[j]?=some en:=by simp_all
     have IC:=QM (P:=P) w k3;simp[Instr.mapUpdate,run_underlying fg,GR,M8,r1,WA,sJ,Wx,IC]
  .rename_i sh BN e0;obtain⟨kt,e,k1,k2,k3,k4⟩:=Mz hk' hk;have ho:=hI.objs r;rw[e0]at ho;obtain⟨t1,b,es,ck,a1,a2,a3,a4,a5,a6⟩:=ho;have hl:(h r).live:=by rw[e0];trivial
   cases hm with
   |mref _ _ b' hu ht hp=>
    rw[a2]at hp;cases hp;have fg:=hT.map k1;have GR:=run_getObj_map (P:=P) w b es ck a3;have WA:∀o',(setObj b o').run P w=.ok () (setBlock w b o'):=fun o'=>by grind [setObj,Sem.run,setBlock]
    have M8:=fun bb=>Mg hT k2 w bb k3;obtain⟨Gz,r1,r2⟩:=NT hT k2 w k3 es.toList a4.shape;rcases r2 with ⟨rfl,hn⟩ | ⟨j,en,rfl,hj,Wx⟩
    .obtain⟨m1,m2⟩:=S0 a4 (x:=vk) (v:=x) (y:=vx) k3 (fun a=>a4.none hn a);obtain⟨i1,i2⟩:=Cv.swap hI hl a1 a6 (.mapU sh (FI BN vk (x))) a3 (.map (es.push { key:=vk,val:=vx,born:=ck }) (ck+1)) w ⟨rfl,rfl,rfl,rfl⟩ aa1 (fun hg HP Et aK=>by
      obtain⟨u1,u2,u3,u4⟩:=Bi g r (g.ρ r) (g.ln r) (g.tk r) (g.own r) g.S;have Ij:∀i,used h i->used (AJ h r (.mapU sh (FI BN vk x))) i:=fun i hi=>Do aa1 i hi;refine⟨u3.trans t1,b,_,_,u4.trans a1,u1.trans a2,Et,m1,fun i kv e q1 q2=>?_,a6⟩
      grind [A5.mono])
     refine⟨_,_,_,?_,k4,i1,i2⟩;simp[Instr.mapUpdate,run_underlying fg,GR,M8,r1,WA]
    .obtain⟨a,q1,q2⟩:=a4.some hj Wx;obtain⟨m1,m2⟩:=OM a4 (x:=vk) (v:=x) (y:=vx) q1;obtain⟨i1,i2⟩:=Cv.swap hI hl a1 a6 (.mapU sh (FI BN vk (x))) a3 (.map (es.modify j fun e=>{ e with key:=vk,val:=vx }) ck) w ⟨rfl,rfl,rfl,rfl⟩ aa1 (fun hg HP Et aK=>by
      obtain⟨u1,u2,u3,u4⟩:=Bi g r (g.ρ r) (g.ln r) (g.tk r) (g.own r) g.S;have Ij:∀i,used h i->used (AJ h r (.mapU sh (FI BN vk x))) i:=fun i hi=>Do aa1 i hi;refine⟨u3.trans t1,b,_,_,u4.trans a1,u1.trans a2,Et,m1,fun i kv e q1 q2=>?_,a6⟩
      grind [A5.mono])
     refine⟨_,_,_,?_,k4,i1,i2⟩;have sJ : es[j]?=some en:=by simp_all
     have IC:=QM (P:=P) w k3;simp[Instr.mapUpdate,run_underlying fg,GR,M8,r1,WA,sJ,Wx,IC]
  simp_all
 simp_all
theorem NQ{d b:Nat}{ck:Nat}(hd:h d=.free)(hS:g.S b 0)(hb:w.heap[b]?=some (.map es ck))(hm:Ha sh es ck BN)(hv:∀(i:Nat) (kv:Value×AV) (e:MapEntry),BN[i]?=some kv->es[i]?=some e->A5 g w EZ kv.2 e.val) :
  ∃g',Cv w0 g0 h0 (AJ h d (.iter BN BN none)) g' (w.alloc (.mapIter (some b) ck #[] ck))/\Le h g w (AJ h d (.iter BN BN none)) g' (w.alloc (.mapIter (some b) ck #[] ck)) /\
   A5 g' (w.alloc (.mapIter (some b) ck #[] ck)) (used (AJ h d (.iter BN BN none))) (.ref d 0) (.pointer (some ⟨w.heap.size,0,none⟩)):=by
 obtain⟨k1,k2⟩:=hI.newOwn hd (.iter BN BN none) (.mapIter (some b) ck #[] ck) (.pointer (some ⟨w.heap.size,0,none⟩)) 0 false w ⟨rfl,rfl,rfl,rfl⟩ aa1 (fun hg hk=>by
  obtain⟨u1,u2,u3,u4⟩:=Bi g d (.pointer (some ⟨w.heap.size,0,none⟩)) 0 false (some w.heap.size) g.S;obtain⟨c1,c2,c3⟩:=hk b 0 hS
  exact⟨u3,w.heap.size,b,ck,#[],ck,es,ck,u4,u1,GX w _ rfl,c1,c3 es ck hb,⟨sh,hm⟩,rfl,rfl,fun i kv e q1 q2=>(hv i kv e q1 q2).mono hk (fun _ h=>h) (fun _ h=>h.elim),
   ⟨OQ hm.2.2.2.1,fun _ h=>h⟩,fun i kv e q1 q2=>by simp[List.mem_of_getElem? q1],trivial,fun o ho=>by have:=hI.slt _ _ ho;omega⟩)
 refine⟨_,k1,k2,.ref _ d 0 w.heap.size (by unfold used;rw[AX];simp) ?_ ?_⟩<;>simp[Gh.upd]
theorem QC{r b:Nat}{ck:Nat}(e0:h r=.map sh BN)(a1:g.own r=some b)(a2:g.ρ r=.map (some b))(a3:w.heap[b]?=some (.map es ck))(a4:Ha sh es ck BN)(a5:∀(i:Nat) (kv:Value×AV) (e:MapEntry),BN[i]?=some kv->es[i]?=some e->A5 g w EZ kv.2 e.val)(t1:g.tk r=false) :
  ∃g',Cv w0 g0 h0 (AJ h r (.rom sh BN)) g' w/\Le h g w (AJ h r (.rom sh BN)) g' w/\g'.S b 0:=by
 have hl:(h r).live:=by rw[e0];trivial
 have Fp:=(hI.loc r b hl a1).1
 obtain⟨k1,k2⟩:=hI.upd r (.rom sh BN) (g.ρ r) (g.ln r) (g.tk r) none (g.more b 1) w none ⟨rfl,rfl,rfl,Aq _⟩ (fun _ _ _=>rfl) (fun b e=>by cases e) (fun _ _ h=>.inl h)
  (fun b' o hs=>hs.elim .inl (fun hs=>.inr ⟨by omega,.inr ⟨hl,by simp_all⟩⟩)) (fun b o e=>by cases e) (fun b hh _=>by cases hh) aa1
  (fun _=>⟨rfl,Aq _,fun _=>rfl,fun _=>rfl⟩) (fun hg hk=>by
   obtain⟨u1,u2,u3,u4⟩:=Bi g r (g.ρ r) (g.ln r) (g.tk r) none (g.more b 1);exact⟨u3.trans t1,b,u1.trans a2,.cmap _ sh BN b es ck (.inr ⟨rfl,Uk⟩) a3 a4 (fun i kv e q1 q2=>(a5 i kv e q1 q2).mono hk (fun _ h=>h) (fun _ h=>h.elim))⟩)
 exact⟨_,k1,k2,.inr ⟨rfl,Uk⟩⟩
theorem WL{r b:Nat}{ck:Nat}(e0:h r=.mapU sh BN)(a1:g.own r=some b)(a2:g.ρ r=.map (some b))(a3:w.heap[b]?=some (.map es ck))(a4:Ha sh es ck BN)(a5:∀(i:Nat) (kv:Value×AV) (e:MapEntry),BN[i]?=some kv->es[i]?=some e->A5 g w (used h) kv.2 e.val)(t1:g.tk r=false) :
  ∃g',Cv w0 g0 h0 (AJ h r (.rom sh (Zt h BN))) g' w/\Le h g w (AJ h r (.rom sh (Zt h BN))) g' w/\g'.S b 0:=by
 have hl:(h r).live:=by rw[e0];trivial
 have Fp:=(hI.loc r b hl a1).1
 obtain⟨k1,k2⟩:=hI.upd r (.rom sh (Zt h BN)) (g.ρ r) (g.ln r) (g.tk r) none (g.more b 1) w none ⟨rfl,rfl,rfl,Aq _⟩ (fun _ _ _=>rfl) (fun b e=>by cases e) (fun _ _ h=>.inl h)
  (fun b' o hs=>hs.elim .inl (fun hs=>.inr ⟨by omega,.inr ⟨hl,by simp_all⟩⟩)) (fun b o e=>by cases e) (fun b hh _=>by cases hh) aa1
  (fun _=>⟨rfl,Aq _,fun _=>rfl,fun _=>rfl⟩) (fun hg hk=>by
   obtain⟨u1,u2,u3,u4⟩:=Bi g r (g.ρ r) (g.ln r) (g.tk r) none (g.more b 1);refine⟨u3.trans t1,b,u1.trans a2,.cmap _ sh _ b es ck (.inr ⟨rfl,Uk⟩) a3 (U4 _ a4) (fun i kv e q1 q2=>?_)⟩;unfold Zt at q1;rw[BX]at q1;obtain⟨p,q3,rfl⟩:=CD.1 q1;exact((a5 i p e q3 q2).str hI.objs).mono hk (fun _ h=>h) (fun _ h=>h.elim))
 exact⟨_,k1,k2,.inr ⟨rfl,Uk⟩⟩
theorem gi(hT:BY P T){ty kt e:Nat}(ht:(T ty).d=.map kt e){d:Option Nat}{x:AV}(hx:A5 g w (used h) x vx)(hk:bv d h x K) :
  Nk P w0 g0 h0 h g w (Instr.range ty vx) K:=by
 have hu:=hT.map ht;unfold bv at hk;split at hk
 .simp_all
 .rename_i d;split at hk
  .rename_i hd;have Cm:∀b es ck,w.heap[b]?=some (.map es ck)->(Instr.range ty (.map (some b))).run P w=.ok (.pointer (some ⟨w.heap.size,0,none⟩)) (w.alloc (.mapIter (some b) ck #[] ck)):=fun b es ck hb=>by
    simp[Instr.range,run_underlying hu,run_getObj_map (P:=P) w b es ck hb]
   split at hk
   .cases hx with
    |cmap _ _ _ b es ck hS hb hm hv=>
     obtain⟨g',k1,k2,k3⟩:=NQ hI hd hS hb hm hv;exact⟨_,_,_,_,_,Cm _ _ _ hb,hk,k1,k2,k3⟩
   .rename_i r;have ho:=hI.objs r;cases hx with
    |mref _ _ b fg ZE hp=>
     split at hk
     .rename_i sh BN e0;rw[e0]at ho;obtain⟨_,b',a1,a2⟩:=ho;rw[a1]at hp;cases hp;cases a2 with
      |cmap _ _ _ _ es ck hS hb hm hv=>
       obtain⟨g',k1,k2,k3⟩:=NQ hI hd hS hb hm hv;exact⟨_,_,_,_,_,Cm _ _ _ hb,hk,k1,k2,k3⟩
     .rename_i sh BN e0;rw[e0]at ho;obtain⟨t1,b',es,ck,a1,a2,a3,a4,a5,a6⟩:=ho;rw[a2]at hp;cases hp;obtain⟨g1,i1,i2,i3⟩:=QC hI e0 a1 a2 a3 a4 a5 t1;have Fi:d≠r:=fun e=>by simp_all
      obtain⟨g',k1,k2,k3⟩:=NQ i1 (by rw[BK _ _ _ _ Fi];exact hd) i3 a3 a4 (fun i kv e q1 q2=>(a5 i kv e q1 q2).mono i2.keeps (fun _ h=>h) (fun _ h=>h.elim));exact⟨_,_,_,_,_,Cm _ _ _ a3,hk,k1,i2.trans k2,k3⟩
     simp_all
   simp_all
  simp_all
theorem kK{ty:TypeId}{x:AV}(hx:A5 g w (used h) x vx)(hk:kJ h x K):Nk P w0 g0 h0 h g w (Instr.next vx false ty) K:=by
 unfold kJ at hk;split at hk
 .rename_i r;split at hk
  .rename_i all rem D1 e0;have ho:=hI.objs r;rw[e0]at ho;obtain⟨t1,b,mb,JP,seen,st,es,ck,a1,a2,a3,a4,a5,⟨sh,a6⟩,a7,a8,a9,Xu,bL,a12,pZ⟩:=ho;have hl:(h r).live:=by rw[e0];trivial
   cases hx with
   |ref _ _ _ b' hu ht hp=>
    rw[a2]at hp;cases hp;have Fp:∀e∈es.toList,e.born<JP:=fun e he=>by
     obtain⟨i,hi⟩:=EK.1 he
     have:=a6.2.2.2.2.1 i e (by simp_all)
     omega
    rcases run_next_at (P:=P) w ty b mb JP st seen es ck a3 a5 Fp aa0 with ⟨q1,q2⟩ | ⟨e,q1,w1,q2,q3⟩
    .have Aaa:rem=[]:=by
      apply List.eq_nil_iff_forall_not_mem.2;intro kv eY;obtain⟨i,hi⟩:=EK.1 (Xu.2 kv eY);have TZ:i<es.size:=by rw[a6.1];grind
      have hb:=(bL i kv es[i] hi (by simp_all)).1 eY;have hm:es[i]∈leftOf es seen:=by grind [leftOf]
      simp_all
     exact⟨_,w,g,_,h,q2,hk.1 Aaa,hI,.refl _ _ _,.tup _ _ _ rfl (fun i av x h1 h2=>by
      grind [A5.v])⟩
    .have hq:e∈es/\e.born∉seen:=by grind [leftOf]
     obtain⟨i,hi⟩:=Array.mem_iff_getElem?.1 hq.1;have TZ:i<all.length:=by rw[<-a6.1];grind
     have uw:all[i]?=some all[i]:=AI TZ;have Pf:=(bL i _ e uw hi).2 hq.2;obtain⟨s1,s2,hs⟩:=List.append_of_mem Pf;have JI:rem.Perm (all[i]::(s1++s2)):=by simp_all
     have l7:(all[i]::(s1++s2)).Nodup:=JI.nodup_iff.1 Xu.1;have hr:=a9 i _ e uw hi;have Wx:=a6.2.1 i _ e uw hi;have UR:w1.heap=w.heap/\w1.os=w.os/\w1.tape=w.tape/\w1.output=w.output:=by rcases q2 with rfl | rfl<;>exact⟨rfl,rfl,rfl,rfl⟩
     obtain⟨k1,k2⟩:=Cv.swap hI hl a1 pZ (.iter all (s1++s2) (some all[i])) a3 (.mapIter (some mb) JP (seen.push e.born) ck) w1 UR aa1 (fun hg HP Et aK=>by
      obtain⟨u1,u2,u3,u4⟩:=Bi g r (g.ρ r) (g.ln r) (g.tk r) (g.own r) g.S;obtain⟨c1,c2,c3⟩:=HP mb 0 a4
      refine⟨u3.trans t1,b,mb,JP,_,ck,es,ck,u4.trans a1,u1.trans a2,Et,c1,c3 _ _ a5,⟨sh,a6⟩,a7,rfl,fun i kv e p q=>(a9 i kv e p q).mono HP (fun _ h=>h) (fun _ h=>h.elim),
       ⟨(Gq.1 l7).2,fun kv eY=>Xu.2 kv (JI.mem_iff.2 (At _ eY))⟩,fun j kv e' p q=>?_,⟨i,e,uw,hi,by simp⟩,pZ⟩
      rw[Array.mem_push];have h1:=bL j kv e' p q;rw[JI.mem_iff,AN]at h1;constructor
      .intro eY hc;rcases hc with hc | hc
       .simp_all
       .obtain rfl:=a6.2.2.2.2.2 j i e' e q hi hc<;>simp_all
      .intro hc;rcases h1.2 (fun hm=>hc (.inl hm))with e2 | e2
       .have:j=i:=U8 (f:=fun x=>x) (l:=all) (by simpa using OQ a6.2.2.2.1) p uw e2
        simp_all
       omega)
     refine⟨_,_,_,_,_,q3,hk.2 all[i] (s1++s2) JI,k1,k2,.tup _ _ _ rfl (fun j av x h1 h2=>?_)⟩
     match j,h1,h2 with
     |0,h1,h2=>grind [A5.v]
     |1,h1,h2=>grind [A5.v]
     |2,h1,h2=>simp at h1 h2;grind [A5.le,A5.up]
  simp_all
 simp_all
end
end Go.Eng
namespace Go.Eng
variable {F:(AV->Prop)->Prop}{a:AV}{α:Type}(T:GB)(cx:Cx)(o:Oper)(op:BinOp)(s:Nat)(st:St)(f:Nat)(R:List Nat)(k:IntKind)(w:Option Nat)(K:HK)(x:AV)
def F4(F:(AV->Prop)->Prop):Prop:=∀K,F K->∃v,K v/\∀K',K' v->F K'
theorem CA(v:AV):F4 (fun K=>K v):=fun _ h=>⟨v,h,fun _ h=>h⟩
theorem Du{p:Prop}(h:F4 F):F4 (fun K=>p/\F K):=fun K ⟨hp,hk⟩=>
 let ⟨v,h1,h2⟩:=h K hk
 ⟨v,h1,fun K' h'=>⟨hp,h2 K' h'⟩⟩
theorem B5:F4 (fun _=>False):=fun _ h=>h.elim
theorem Ve(p:Prop):F4 (Iy p):=fun K h=>by
 by_cases hp:p
 .exact⟨_,h.1 hp,fun K' h'=>⟨fun _=>h',fun hn=>absurd hp hn⟩⟩
 .exact⟨_,h.2 hp,fun K' h'=>⟨fun q=>absurd q hp,fun _=>h'⟩⟩
theorem Y9(h:F4 F):F4 (fun K=>F (fK K)):=fun K hk=>by
 obtain⟨v,h1,h2⟩:=h _ hk;unfold fK at h1;split at h1
 .exact⟨_,h1,fun K' h'=>h2 _ h'⟩
 .exact⟨_,h1,fun K' h'=>h2 _ h'⟩
 simp_all
theorem OY{F:α->(AV->Prop)->Prop}(h:∀x,F4 (F x)):F4 (fun K=>∃x,F x K):=fun K ⟨x,hk⟩=>
 let ⟨v,h1,h2⟩:=h x K hk
 ⟨v,h1,fun K' h'=>⟨x,h2 K' h'⟩⟩
theorem Kv(t:Nat)(cs:List AV):F4 (Lh T t cs):=by
 have head:F4 (Ld cs):=by unfold Ld;cases cs with | nil=>exact B5 | cons a _=>exact CA a
 unfold Lh;split
 .exact Du (CA _)
 .exact Du (CA _)
 .cases cs with
  |nil=>exact B5
  |cons a _=>
   intro K h;simp only[Ld]at h⊢;split at h
   .rename_i b;cases b<;>grind
   simp_all
 all_goals grind [B5]
theorem cR(t:Nat)(x y:AV)(hx:∀tk es,x≠.slice tk es):F4 (sv T t x y):=by
 unfold sv
 repeat' split
 all_goals first | exact B5 | exact CA _ | exact Ve _ | simp_all | simp_all
theorem Tf(a b:Int):F4 (TA op k a b):=by
 unfold TA;split<;>first | exact B5 | exact Du (CA _)
theorem bq(a b:Int):F4 (RB op k a b):=by
 unfold RB
 repeat' split
 all_goals first | exact B5 | exact Du (CA _) | (unfold VS;split<;>first | exact CA _ | exact Du (CA _) | grind [Tf])
theorem kY(t:Nat)(x y:AV)(hx:∀tk es,x≠.slice tk es):F4 (RG T op t x y):=by
 unfold RG
 repeat' split
 all_goals first | exact B5 | exact Ve _ | exact bq _ _ _ _ | exact Tf _ _ _ _ | exact Du (CA _) | exact cR _ _ _ _ hx | exact Y9 (cR _ _ _ _ hx)
theorem fV(t:Nat)(Y:Operand)(x y:AV)(hx:∀tk es,x≠.slice tk es):F4 (XI T op t Y x y):=by
 unfold XI
 repeat' split
 all_goals first | exact B5 | exact CA _ | grind [kY]
theorem fW(t:Nat)(x:AV):F4 (UC T s t x):=by
 unfold UC
 repeat' split
 all_goals first | exact B5 | exact CA _ | exact Du (CA _) | exact OY fun _=>Du (CA _)
theorem bt:F4 (Sb T s f x):=by
 unfold Sb
 repeat' split
 all_goals first | exact B5 | exact CA _
theorem Y7:F4 (Ot T s f x):=by
 unfold Ot
 repeat' split
 all_goals first | exact B5 | exact Kv _ _ _
theorem Te(t:Nat)(x ix:AV):F4 (Jc T t x ix):=by
 unfold Jc
 repeat' split
 all_goals first | exact B5 | exact Du (CA _) | exact OY fun _=>Du (Du (CA _))
theorem bu(t:Nat)(x ix:AV):F4 (SL T t x ix):=by
 unfold SL
 repeat' split
 all_goals first | exact B5 | exact Du (Kv _ _ _) | exact OY fun _=>Du (CA _)
theorem WT(i:Nat):F4 (LF x i):=by
 unfold LF
 repeat' split
 all_goals first | exact B5 | exact CA _
theorem la:F4 (Ko x):=by
 unfold Ko
 repeat' split
 all_goals first | exact B5 | exact CA _
theorem fX(c a b:AV):F4 (Y5 c a b):=by
 unfold Y5
 repeat' split
 all_goals first | exact B5 | exact CA _
theorem oJ(f:Int->Int->Int)(x y:AV):F4 (oz f x y):=by
 unfold oz
 repeat' split
 all_goals first | exact B5 | exact CA _
theorem fY(op:UnOp)(x:AV):F4 (Zx op x):=by
 unfold Zx
 repeat' split
 all_goals first | exact B5 | exact CA _ | exact Y9 (CA _) | exact Du (CA _)
def pn(F:(α->Prop)->Prop):Prop:=∀K,F K->∃v,K v/\∀K',K' v->F K'
theorem Y6(n:Nat)(a:AV):pn (G6 n a):=by
 intro K h;unfold G6 at h⊢
 grind
theorem Tc(pl:Nat->Option (Nat×Nat))(t:Nat->AV):∀(ps:List (Nat×Operand)) (cs:List AV),pn (Kd pl cs t ps)
 | [],cs=>fun K h=>⟨cs,h,fun _ h=>h⟩
 |(i,x)::r,cs=>by
  intro K h;unfold Kd at h;split at h
  .simp_all
  .rename_i o n e;obtain⟨vs,h1,h2⟩:=Y6 _ _ _ h;split at h1
   .rename_i hb;obtain⟨c,h3,h4⟩:=Tc pl t r _ _ h1<;>grind [Kd]
   simp_all
theorem br(ty:Nat)(t:Nat->AV)(ps:List (Nat×Operand)):F4 (Pm T ty t ps):=by
 unfold Pm
 repeat' split
 all_goals first
  |exact B5
  |exact fun K h=>let ⟨c,h1,h2⟩:=Tc _ _ _ _ _ h;⟨_,h1,fun K' h'=>h2 _ h'⟩
def eff(h:Nat->HO)(e:Option (Nat×HO)):Nat->HO:=match e with | none=>h | some (r,o)=>AJ h r o
structure Alike(o:Oper)(R:List Nat)(st st2:St):Prop where
 t:∀x∈o.op.operands,ev st2.t x=ev st.t x
 h:∀r∈R,st2.h r=st.h r
def CH:Prop:=
 ∃v e,K v (eff st.h e)/\(∀r o',e=some (r,o')->w=some r/\r∈R)/\∀st2,Alike o R st st2->∀K' : HK,K' v (eff st2.h e)->FL cx true o st2 K'
def Rr(r:Nat):Prop:=match w with | none=>False | some x=>x=r\/(10000000<=x/\(x % 10000000=r\/x / 10000000=r))\/x=VO
def HU(h:Nat->HO):List (Nat×HO)->Nat->HO
 | []=>h
 |p::l=>HU (AJ h p.1 p.2) l
def Q5:Prop:=
 ∃v e,K v (HU st.h e)/\(∀r o',(r,o')∈e->Rr w r/\r∈R)/\∀st2,Alike o R st st2->∀K' : HK,K' v (HU st2.h e)->FL cx true o st2 K'
section
variable {cx:Cx}{o:Oper}{st:St}{R:List Nat}{w:Option Nat}{K:HK}
theorem CH.pick(hF:F4 F)(h:F fun v=>K v st.h)(h2:∀st2,Alike o R st st2->∀K' : HK,F (fun v=>K' v st2.h)->FL cx true o st2 K'):CH cx o st R w K:=
 let ⟨v,h1,h3⟩:=hF _ h
 ⟨v,none,h1,fun _ _ e=>(by cases e),fun st2 ha K' hk=>h2 st2 ha K' (h3 _ hk)⟩
theorem YQ{cs:List AV}(h:a∈cs):∀r∈Yo a,r∈n8 cs:=by
 induction cs with
 |nil=>cases h
 |cons c cs ih=>
  intro r hr;rcases AN.1 h with rfl | h
  .exact Bh _ hr
  .exact Bj _ (ih h r hr)
theorem kB{cs:List AV}(h:a∈cs):∀r∈WB a,r∈rz cs:=by
 induction cs with
 |nil=>cases h
 |cons c cs ih=>
  intro r hr;rcases AN.1 h with rfl | h
  .exact Bh _ hr
  .exact Bj _ (ih h r hr)
theorem YP{cs:List AV}(h:a∈cs):∀r∈Yn a,r∈SE cs:=by
 induction cs with
 |nil=>cases h
 |cons c cs ih=>
  intro r hr;rcases AN.1 h with rfl | h
  .exact Bh _ hr
  .exact Bj _ (ih h r hr)
theorem US(a:AV):∀r∈Yo a,r∈WB a:=by cases a<;>simp[Yo,WB]
theorem Qb{h h2:Nat->HO}(e:∀r∈Yo a,h2 r=h r):str0 h2 a=str0 h a:=by
 cases a<;>simp only[str0]
 all_goals grind [Yo]
theorem Vx{h h2:Nat->HO}(e:∀r∈WB a,h2 r=h r):str h2 a=str h a:=by
 cases a with
 |agg cs=>simp only[str];exact Aa _ (Cd fun c hc=>Qb fun r hr=>e r (YQ hc r hr))
 |clo f cs=>simp only[str];exact Aa _ (Cd fun c hc=>Qb fun r hr=>e r (YQ hc r hr))
 |_=>exact Qb (fun r hr=>e r (US _ r hr))
theorem ka(a:AV):∀r∈WB a,r∈Yn a:=by
 cases a with
 |agg cs=>
  intro r hr;simp only[Yn,WB]at *
  induction cs with
  |nil=>exact hr
  |cons c cs ih=>
   rcases Bz.1 hr with h | h
   .exact Bh _ (US c r h)
   .exact Bj _ (ih h)
 |_=>exact fun r hr=>hr
theorem Kz{h h2:Nat->HO}(e:∀r∈Yn a,h2 r=h r):str h2 a=str h a:=Vx fun r hr=>e r (ka a r hr)
theorem Qc{h h2:Nat->HO}{l:List AV}(e:∀r∈SE l,h2 r=h r):l.map (str h2)=l.map (str h):=
 Cd fun _ ha=>Kz fun r hr=>e r (YP ha r hr)
theorem ly{h h2:Nat->HO}(e:∀r∈Yn a,h2 r=h r):rsv h2 a=rsv h a:=by
 cases a<;>simp only[rsv]
 all_goals grind [Yn,WB,Yo]
theorem Nt{n:Nat}{K:List AV->Prop}(hk:G6 n a K):∃cs,K cs/\(∀K' : List AV->Prop,K' cs->G6 n a K')/\∀h h2:Nat->HO,(∀r∈Yn a,h2 r=h r)->cs.map (str h2)=cs.map (str h):=by
 have single:K [a]->(∀K' : List AV->Prop,K' [a]->G6 n a K')->∃cs,K cs/\(∀K' : List AV->Prop,K' cs->G6 n a K')/\∀h h2:Nat->HO,(∀r∈Yn a,h2 r=h r)->cs.map (str h2)=cs.map (str h):=
  fun h1 h2=>⟨[a],h1,h2,fun h h2 e=>by simp[Kz e]⟩
 unfold G6 at hk;split at hk
 .rename_i cs;split at hk
  .rename_i hn;refine⟨cs,hk,fun K' h=>by grind [G6],fun h h2 e=>Cd fun c hc=>Vx fun r hr=>e r (kB hc r hr)⟩
  simp_all
 .rename_i hna;split at hk
  .rename_i h1;split at hk
   .refine single hk fun K' h=>?_
    grind [G6]
   simp_all
  simp_all
theorem Sc{n sz:Nat}{t:Nat->AV}:∀{ps:List (Nat×Operand)} {es:List (List AV)} {h:Nat->HO} {K:List (List AV)->Prop},Qo n sz h es t ps K ->
  ∃F6,K F6/\∀(t2:Nat->AV) (h2:Nat->HO),(∀r∈SE (ps.map fun p=>ev t p.2),h2 r=h r)->(∀p∈ps,ev t2 p.2=ev t p.2)->∀K' : List (List AV)->Prop,K' F6->Qo n sz h2 es t2 ps K'
 | [],es,h,K,hk=>⟨es,hk,fun _ _ _ _ _ h=>h⟩
 |(i,x)::r,es,h,K,hk=>by
  unfold Qo at hk;split at hk
  .rename_i hb;obtain⟨cs,c1,c2,c3⟩:=Nt hk;obtain⟨F6,e1,e2⟩:=Sc c1;refine⟨F6,e1,fun t2 h2 hh ht K' hk'=>?_⟩;unfold Qo;rw[hb,ht (i,x) (Ai ..)];refine c2 _ ?_;rw[c3 h h2 (fun r hr=>hh r (Bh _ hr))];exact e2 t2 h2 (fun r hr=>hh r (Bj _ hr)) (fun p hp=>ht p (At _ hp)) K' hk'
  simp_all
theorem H5{d:Option Nat}{h:Nat->HO}{sz:Nat}{es:List (List AV)}(hk:EI cx d h sz es K) :
  ∃d',d.map (JW cx)=some d'/\∃v x,K v (AJ h d' x)/\∀h2:Nat->HO,h2 d'=h d'->∀K' : HK,K' v (AJ h2 d' x)->EI cx d h2 sz es K':=by
 unfold EI at hk;split at hk
 all_goals grind [EI]
theorem ai{h:Nat->HO}{x:AV}{K:List (List AV)->Prop}(hk:KH h x K):∃es,K es/\∀h2:Nat->HO,(∀r n,x=.msl r n->h2 r=h r)->∀K' : List (List AV)->Prop,K' es->KH h2 x K':=by
 unfold KH at hk
 grind [KH]
end
end Go.Eng
