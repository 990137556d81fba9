/- Lemmas 9. -/
import Derived.Test.YtkjhcikodmiceaaGreatDoorUA08
import Derived.Maps.RangeRun
namespace Go.Eng
variable {ρ:Operand->Value}{es:List (List AV)}{hi:Option Operand}{vx:Value}{K:HK}{a:Option Addr}{cx:Cx}{x:AV}{T:FY}
section
variable {P:Program}{w0:World}{g0:Gh}{h0 h:Nat->HO}{g:Gh}{w:World}(hI:Cm w0 g0 h0 h g w)
include hI
theorem M4{d sz n:Nat}(hd:h d=.free)(hl:∀c∈es,c.length=sz)(hn:es.length=n)(hr:AT g w ES (.slice .none es) (.slice a n n)) :
  ∃g',Cm w0 g0 h0 (Az h d (.tok sz n)) g' w/\Le h g w (Az h d (.tok sz n)) g' w/\AT g' w (Aw (Az h d (.tok sz n))) (.slice (.id d sz) es) (.slice a n n):=by
 obtain⟨k1,k2⟩:=hI.upd d (.tok sz n) (.slice a n n) n true none g.S w none ⟨rfl,rfl,rfl,Ai _⟩ (fun _ _ _=>rfl) (fun b e=>by cases e) (fun _ _ h=>h) (fun _ _ h=>.inl h) (fun b o e=>by cases e) (fun b _ e=>by cases e) B0
  (fun hu=>absurd hd hu) (fun _ _=>by
   obtain⟨u1,u2,u3,u4⟩:=Ba g d (.slice a n n) n true none g.S;exact⟨u3,u2,a,n,u1,.inl ⟨rfl,u4⟩⟩)
 exact⟨_,k1,k2,.tok _ d sz es _ (((hr.up (Aw h)).le k2)) hl (by unfold Aw;rw[AM];simp) (by simp[Gh.upd]) (by simp[Gh.upd,hn]) (fun _=>by simp[Gh.upd])⟩
theorem Yl{d:Option Nat}(hx:AT g w (Aw h) x vx)(hk:Ns cx d h x K):∃g' av h',K av h'/\Cm w0 g0 h0 h' g' w/\Le h g w h' g' w/\AT g' w (Aw h') av vx:=by
 have plain:K x h->∃g' av h',K av h'/\Cm w0 g0 h0 h' g' w/\Le h g w h' g' w/\AT g' w (Aw h') av vx:=fun hk=>⟨g,x,h,hk,hI,.refl _ _ _,hx⟩;unfold Ns at hk;split at hk
 .simp_all
 .rename_i d;split at hk
  .rename_i sz _;split at hk
   .refine⟨g,unT x,h,hk,hI,.refl _ _ _,?_⟩;cases x with
    |slice tk es=>exact(AT.slice_none hx).up _
    |_=>exact hx
   .split at hk
    .split at hk
     .rename_i hd;obtain rfl:=hx.v_eq;obtain⟨g',k1,k2,k3⟩:=M4 hI (sz:=sz) (es:=[]) (a:=none) hd B0 rfl (.snil _ _ _)<;>grind
     simp_all
    simp_all
  .split at hk
   .rename_i sz _;split at hk
    .split at hk
     .rename_i hd;obtain rfl:=hx.v_eq
      obtain⟨k1,k2⟩:=hI.upd d (.arr sz []) (.slice none 0 0) 0 true none g.S w none ⟨rfl,rfl,rfl,Ai _⟩ (fun _ _ _=>rfl) (fun b e=>by cases e) (fun _ _ h=>h) (fun _ _ h=>.inl h) (fun b o e=>by cases e) (fun b _ e=>by cases e) B0
       (fun hu=>absurd hd hu) (fun _ _=>by
        obtain⟨u1,u2,u3,u4⟩:=Ba g d (.slice none 0 0) 0 true none g.S;exact⟨u3,u2,by simp,.inl ⟨rfl,u1,u4⟩⟩)
      exact⟨_,_,_,hk,k1,k2,.msl _ d 0 none 0 (by unfold Aw;rw[AM];simp) (by simp[Gh.upd]) (Ar _) (.inl rfl) (fun _=>by simp[Gh.upd])⟩
     simp_all
    simp_all
   simp_all
theorem Xm{mku:List Nat}{d:Option Nat}{ty:Nat}(hk:JC T mku d h ty K):MD P w0 g0 h0 h g w (Instr.makeMap ty none) K:=by
 unfold JC at hk;split at hk
 .simp_all
 .rename_i d;split at hk
  .rename_i hd;split at hk
   .split at hk
    .rename_i sh _;split at hk
     .obtain⟨k1,k2⟩:=hI.newOwn hd (.mapU sh []) (.map #[] 0) (.map (some w.heap.size)) 0 false w ⟨rfl,rfl,rfl,rfl⟩ B0 (fun hg HJ=>by
       obtain⟨u1,u2,u3,u4⟩:=Ba g d (.map (some w.heap.size)) 0 false (some w.heap.size) g.S;exact⟨u3,w.heap.size,#[],0,u4,u1,Gs w _ rfl,⟨rfl,by simp,by simp,by simp,by simp,by simp⟩,by simp,fun o ho=>by have:=hI.slt _ _ ho;omega⟩)
      refine⟨_,_,_,_,_,?_,hk,k1,k2,.mref _ d w.heap.size (by grind [Aw,AM]) ?_ ?_⟩
      .simp[Instr.makeMap]
      all_goals grind [Gh.upd]
     .obtain⟨k1,k2⟩:=hI.newOwn hd (.map sh []) (.map #[] 0) (.map (some w.heap.size)) 0 false w ⟨rfl,rfl,rfl,rfl⟩ B0 (fun hg HJ=>by
       obtain⟨u1,u2,u3,u4⟩:=Ba g d (.map (some w.heap.size)) 0 false (some w.heap.size) g.S;exact⟨u3,w.heap.size,#[],0,u4,u1,Gs w _ rfl,⟨rfl,by simp,by simp,by simp,by simp,by simp⟩,by simp,fun o ho=>by have:=hI.slt _ _ ho;omega⟩)
      refine⟨_,_,_,_,_,?_,hk,k1,k2,.mref _ d w.heap.size (by grind [Aw,AM]) ?_ ?_⟩
      .simp[Instr.makeMap]
      all_goals grind [Gh.upd]
    simp_all
   simp_all
  simp_all
omit hI in
theorem AT.sub{sz l m:Nat}{x:Value}{n cap:Nat}(hr:AT g w ES (.slice .none es) x)(hx:x=.slice a n cap)(hl:∀c∈es,c.length=sz)(h1:l<=m)(h2:m<=es.length)(c' : Nat)(hc:m-l<=c')(a' : Option Addr)(ha:a'=a.map (·.add (l*sz))\/(m=l/\a'=a)):AT g w ES (.slice .none ((es.take m).drop l)) (.slice a' (m-l) c'):=by
 subst hx;have B5:((es.take m).drop l).length=m-l:=by simp_all
 by_cases h0:m-l=0
 .grind [snil]
 .cases hr with
  |snil=>simp_all
  |slice _ _ b off GW cap val wj Qp CZ DH=>
   have hz:GW=sz:=by
    have:(0:Nat)<es.length:=by omega
    have h3:=Qp 0 es[0] (AK this);simp_all
   subst hz;have ha' : a'=some ⟨b,off+l*GW,none⟩:=by
    grind [Addr.add_lit]
   subst ha';rw[<-B5];have EV:∀(i:Nat) (cs:List AV),((es.take m).drop l)[i]?=some cs->es[l+i]?=some cs:=fun i cs h=>by
    grind
   refine .slice _ _ b (off+l*GW) GW c' (fun i j=>val (l+i) j) ch (fun i cs h=>Qp _ _ (EV i cs h)) (fun i cs j av h1 h2=>?_) (fun i cs j av h1 h2=>DH _ _ _ _ (EV i cs h1) h2)
   grind
omit hI in
theorem JF{t:Nat->AV}(ht:∀x:Operand,AT g w (Aw h) (ev t x) (ρ x)){o:Option Operand}{i:Option Int}(hk:Ce t o=some i):o.map ρ=i.map fun n=>.int .i64 n:=by
 cases o<;>grind [Ce,AT.v_eq]
omit hI in
theorem SK(b:Bool)(len cap:Nat)(lo hi mx:Option Int)(mI:mx=none\/hi≠none)(h0:0<=lo.getD 0)(h1:lo.getD 0<=hi.getD len)(h2:hi.getD len<=mx.getD cap)(h3:mx.getD cap<=cap) :
  (Instr.sliceBounds b len cap (lo.map fun n=>.int .i64 n) (hi.map fun n=>.int .i64 n) (mx.map fun n=>.int .i64 n)).run P w=.ok ((lo.getD 0).toNat,(hi.getD len).toNat,(mx.getD cap).toNat) w:=by
 have e1:∀n:Int,0<=n->(n.toNat:Int)=n:=fun n hn=>Int.toNat_of_nonneg hn;cases mx with
 |none=>
  cases hi with
  |none=>
   cases lo with
   |none=>simp[Instr.sliceBounds]
   |some l=>
    simp only[DR,KE]at h0 h1 h2;simp[Instr.sliceBounds,run_sliceBound,h0,h1]
  |some hh=>
   simp only[DR,KE]at h1 h2;have rx:0<=hh:=by omega
   cases lo with
   |none=>simp[Instr.sliceBounds,run_sliceBound,rx,h2]
   |some l=>
    simp only[DR]at h0 h1;simp[Instr.sliceBounds,run_sliceBound,h0,h1,h2,rx,e1]
 |some m=>
  cases hi with
  |none=>simp_all
  |some hh=>
   simp only[DR]at h1 h2 h3;have rx:0<=hh:=by omega
   have tY:0<=m:=by omega
   cases lo with
   |none=>simp[Instr.sliceBounds,run_sliceBound,h2,h3,rx,tY,e1]
   |some l=>
    simp only[DR]at h0 h1;simp[Instr.sliceBounds,run_sliceBound,h0,h1,h2,h3,rx,tY,e1]
omit hI in
theorem Ef(hT:BQ P T){ty e k:Nat}(ht:(T ty).d=.slice e)(hk:(T e).size=k+1)(a:Option Addr)(len cap:Nat)(lo hi mx:Option Int)(mI:mx=none\/hi≠none)(h0:0<=lo.getD 0)(h1:lo.getD 0<=hi.getD len)(h2:hi.getD len<=mx.getD cap)(h3:mx.getD cap<=cap) :
  (Instr.sliceAt ty (.slice a len cap) (lo.map fun n=>.int .i64 n) (hi.map fun n=>.int .i64 n) (mx.map fun n=>.int .i64 n)).run P w =
   .ok (.slice (if(mx.getD cap).toNat=(lo.getD 0).toNat then a else a.map (·.add ((lo.getD 0).toNat*(T e).size))) ((hi.getD len).toNat-(lo.getD 0).toNat) ((mx.getD cap).toNat-(lo.getD 0).toNat)) w:=by
 have hu:=hT.slice ht;have hb:=SK (P:=P) (w:=w) true len cap lo hi mx mI h0 h1 h2 h3;simp only[Instr.sliceAt,Sem.run_bind,run_underlying hu,Result.andThen_ok,Instr.slice,hb,hT.size1 w hk,Sem.run_pure];rw[hk]
theorem Cm.moveO(r r2:Nat)(DT:r2≠r)(hf:h r2=.free)(hl:(h r).live){ob:Option Nat}(ho:∀c,ob=some c->g.own r=some c)(o' : HO)(x:Value)(n:Nat)(t:Bool)(hn:o'≠.free)
  (KH:En g w (g.upd r2 x n t ob g.S) w->Do (g.upd r2 x n t ob g.S) w (Aw (Az (Az h r .dead) r2 o')) r2 o') :
  Cm w0 g0 h0 (Az (Az h r .dead) r2 o') (g.upd r2 x n t ob g.S) w/\Le h g w (Az (Az h r .dead) r2 o') (g.upd r2 x n t ob g.S) w:=by
 have gc:I4 g (g.upd r2 x n t ob g.S) (Aw h):=by
  intro i hi;have e:i≠r2:=fun e=>hi (by simp_all)
  grind [Gh.upd]
 have hK:En g w (g.upd r2 x n t ob g.S) w:=fun b o hb=>⟨hb,rfl,fun _ _ h=>h⟩;have Mf:∀i,Aw h i->Aw (Az (Az h r .dead) r2 o') i:=fun i hi=>CW hn i (CW B0 i hi);have key:∀i,i≠r2->(Az (Az h r .dead) r2 o' i).live->i≠r/\(h i).live:=fun i h2 hl=>by
  rw[BB _ _ _ _ h2]at hl
  by_cases e:i=r
  .subst e;rw[AM]at hl;exact hl.elim
  grind [BB]
 have own:∀i,i≠r2->(g.upd r2 x n t ob g.S).own i=g.own i:=fun i e=>by simp[Gh.upd,e]
 have ip:(g.upd r2 x n t ob g.S).own r2=ob:=by simp[Gh.upd]
 refine⟨⟨hI.os,hI.tape,hI.output,hI.size,hI.frame,hI.slt,fun i=>?_,fun i j c hi hj ei ej=>?_,fun i c hi ei=>?_,hI.sg,hI.glob.keep hK⟩,gc,Mf,hK⟩
 .by_cases e:i=r2
  .grind [AM]
  .rw[BB _ _ _ _ e]
   by_cases e1:i=r
   .subst e1;rw[AM];trivial
   .rw[BB _ _ _ _ e1];exact(hI.objs i).same hK Mf gc (by simp[Gh.upd,e]) (by simp[Gh.upd,e]) (by simp[Gh.upd,e]) (by simp_all) (fun b hl hb=>⟨rfl,fun k hk=>hk⟩)
 .grind [Cm.inj]
 .by_cases e1:i=r2
  .subst e1;rw[ip]at ei;exact hI.loc r _ hl (ho _ ei)
  .rw[own i e1]at ei;exact hI.loc i c (key i e1 hi).2 ei
theorem XN(hT:BQ P cx.T){d:Option Nat}{ty:Nat}{t:Nat->AV}(ht:∀x:Operand,AT g w (Aw h) (ev t x) (ρ x)){lo mx:Option Operand}(hx:AT g w (Aw h) x vx)(hk:SH cx d h ty x (Ce t lo) hi mx K):MD P w0 g0 h0 h g w (Instr.sliceAt ty vx (lo.map ρ) (hi.map ρ) (mx.map ρ)) K:=by
 unfold SH at hk;split at hk
 .rename_i d Hh e1;rw[JF ht e1];split at hk
  .rename_i e hs;split at hk
   .simp_all
   .rename_i k Fi;split at hk
    .rename_i r sz es;split at hk
     .rename_i GW n e0;split at hk
      .rename_i hd;split at hk
       .rename_i q1 q2;obtain rfl:=AL q1;have q2:=AL q2;obtain⟨⟨rfl,h1,h2⟩,hk⟩:=hk;have hl:(h r).live:=by rw[e0];trivial
        have DT:I8 cx d≠r:=fun e=>by simp_all
        have ho:=hI.objs r;rw[e0]at ho;obtain⟨t1,l1,a,cap,a1,a3⟩:=ho;have hr:=hx.slice_none;cases hx with
        |tok _ _ _ _ _ zU kO hu ht' hn Qq=>
         have hv:=Qq l1.symm;rw[a1]at hv;subst hv;have ao:es.length<=cap:=by omega
         have Ca:=Ef (P:=P) (w:=w) hT hs Fi a es.length cap (some Hh) none none (.inl rfl) h1 h2 (by simp_all) B0;simp only[DR,KE,FI]at Ca;have B5:(es.drop Hh.toNat).length=es.length-Hh.toNat:=QO;have kQ:=AT.sub (c':=cap-Hh.toNat) hr rfl kO (l:=Hh.toNat) (m:=es.length) ch (Ai _) ch (if cap=Hh.toNat then a else a.map (·.add (Hh.toNat*(cx.T e).size))) (by
          grind)
         rw[KD]at kQ
         have fin:∀ob:Option Nat,(∀c,ob=some c->g.own r=some c)->(es.length-Hh.toNat=cap-Hh.toNat/\ob=none\/es.length-Hh.toNat<=cap-Hh.toNat/\∃b E vs off,(if cap=Hh.toNat then a else a.map (·.add (Hh.toNat*(cx.T e).size)))=some ⟨b,off,none⟩/\ob=some b/\PD w b vs E/\vs.size=off+(cap-Hh.toNat)*GW/\∀o,g.S b o->o<off+(es.length-Hh.toNat)*GW) ->
           MD P w0 g0 h0 h g w (Instr.sliceAt ty (.slice a es.length cap) ((some Hh).map fun n=>.int .i64 n) ((none:Option Operand).map ρ) ((none:Option Operand).map ρ)) K:=fun ob ho rM=>by
          obtain⟨k1,k2⟩:=hI.moveO r (I8 cx d) DT hd hl ho (.tok GW (es.drop Hh.toNat).length) (.slice (if cap=Hh.toNat then a else a.map (·.add (Hh.toNat*(cx.T e).size))) (es.length-Hh.toNat) (cap-Hh.toNat)) (es.length-Hh.toNat) true B0 (fun HJ=>by
           obtain⟨u1,u2,u3,u4⟩:=Ba g (I8 cx d) (.slice (if cap=Hh.toNat then a else a.map (·.add (Hh.toNat*(cx.T e).size))) (es.length-Hh.toNat) (cap-Hh.toNat)) (es.length-Hh.toNat) true ob g.S;refine⟨u3,u2.trans B5.symm,_,_,by rw[B5];exact u1,?_⟩;rw[B5,u4];exact rM)
          exact⟨_,w,_,_,_,Ca,hk,k1,k2,.tok _ _ _ _ _ (((kQ.mono k2.keeps (fun _ h=>h) (fun _ h=>h.elim))).up _) (fun c hc=>kO c (FK hc)) (by grind [Aw,AM]) (by simp[Gh.upd]) (by simp[Gh.upd]) (fun _=>by simp[Gh.upd])⟩
         rcases a3 with ⟨e1,e2⟩ | ⟨e1,b,E,vs,off,rfl,e3,e4,e5,e6⟩
         .exact fin none (fun c h=>by cases h) (.inl ⟨by omega,rfl⟩)
         .by_cases hc:cap=Hh.toNat
          .exact fin none (fun c h=>by cases h) (.inl ⟨by omega,rfl⟩)
          .refine fin (some b) (fun c h=>by simp_all) (.inr ⟨by omega,b,E,vs,off+Hh.toNat*GW,?_,rfl,e4,?_,fun o ho=>?_⟩)
           .grind [Addr.add_lit]
           .rw[e5,Nat.sub_mul]
            have:=Bq GW (show Hh.toNat<=cap by omega)
            omega
           grind [Nat.sub_mul]
       simp_all
      simp_all
     simp_all
    simp_all
  simp_all
 simp_all
omit hI in
theorem MO{sz:Nat}:∀{es:List (List AV)},(∀cs∈es,cs.length=sz)->∀k,(es.take k).flatten=es.flatten.take (k*sz)
 | [],_,k=>by simp
 |c::es,hl,0=>by simp
 |c::es,hl,k+1=>by
  have h1:=hl c (Ad ..);have h2:c.length<=k*sz+sz:=by omega
  rw[List.take_succ_cons,BW,BW,MO (fun x hx=>hl x (Af _ hx)) k,List.take_append,h1,Nat.succ_mul,
   Bd h2,show k*sz+sz-sz=k*sz by omega]
omit hI in
theorem BR.takeE{U:Nat->Prop}{sz k:Nat}{vs:List Value}(hl:∀cs∈es,cs.length=sz)(hk:k<=es.length)(h:BR g w U es.flatten (vs.take (es.length*sz))):BR g w U (es.take k).flatten (vs.take (k*sz)):=by
 have e:vs.take (k*sz)=(vs.take (es.length*sz)).take (k*sz):=by
  grind [Nat.mul_le_mul_right]
 rw[MO hl,e];refine⟨by rw[CB (l:=vs.take (es.length*sz)),h.1,CB],fun x hx=>h.2.1 x (EI hx),fun i av x q1 q2=>?_⟩;have hi:i<k*sz:=by
  grind
 rw[Nj,A1 hi]at q1 q2;exact h.2.2 i av x q1 q2
theorem aT(hT:BQ P cx.T){d:Option Nat}{ty:Nat}{t:Nat->AV}(ht:∀x:Operand,AT g w (Aw h) (ev t x) (ρ x))(hx:AT g w (Aw h) x vx)(hk:iz cx d h ty x (Ce t hi) K):MD P w0 g0 h0 h g w (Instr.sliceAt ty vx none (hi.map ρ) none) K:=by
 unfold iz at hk;split at hk
 .rename_i d Ng e1;rw[JF ht e1];split at hk
  .rename_i e hs;split at hk
   .simp_all
   .rename_i k Fi;split at hk
    .rename_i r n;split at hk
     .rename_i sz es e0;split at hk
      .rename_i hd;split at hk
       .rename_i q1 q3;have q1:=AL q1;obtain⟨⟨rfl,h1,h2⟩,hk⟩:=hk;have hl:(h r).live:=by rw[e0];trivial
        have DT:I8 cx d≠r:=fun e=>by simp_all
        have ho:=hI.objs r;rw[e0]at ho;obtain⟨t1,l1,al,a2⟩:=ho;have B5:(es.take Ng.toNat).length=Ng.toNat:=by simp_all
        cases hx with
        |msl _ _ _ a cap hu ht' au ha Qq=>
         have hv:=Qq l1.symm;have KG:es.length<=cap:=by
          grind
         have Ca:=Ef (P:=P) (w:=w) hT hs Fi a es.length cap none (some Ng) none (.inl rfl) B0 (by simp_all) (by grind) B0;have PP:(if cap-(0:Nat)=0 then a else a.map (·.add (0*(cx.T e).size)))=a:=by
          grind [Addr.add]
         simp only[DR,KE,FI,Int.toNat_zero,Nat.sub_zero]at Ca PP;have key:∃a',(Instr.sliceAt ty (.slice a es.length cap) ((none:Option Int).map fun n=>.int .i64 n) ((some Ng).map fun n=>.int .i64 n) ((none:Option Int).map fun n=>.int .i64 n)).run P w=.ok (.slice a' Ng.toNat cap) w/\(a'=a):=⟨_,Ca,by omega⟩;obtain⟨a',Ca,rfl⟩:=key;have hval:AT (g.upd (I8 cx d) (.slice a' Ng.toNat cap) Ng.toNat true (g.own r) g.S) w (Aw (Az (Az h r .dead) (I8 cx d) (.arr sz (es.take Ng.toNat)))) (.msl (I8 cx d) Ng.toNat) (.slice a' Ng.toNat cap):=
          .msl _ _ _ _ _ (by grind [Aw,AM]) (by simp[Gh.upd]) (by simp[Gh.upd]) (ha.elim (fun e=>.inl ch) .inr) (fun _=>by simp[Gh.upd])
         obtain⟨k1,k2⟩:=hI.moveO r (I8 cx d) DT hd hl (ob:=g.own r) (fun c h=>h) (.arr sz (es.take Ng.toNat)) (.slice a' Ng.toNat cap) Ng.toNat true B0 (fun HJ=>by
          obtain⟨u1,u2,u3,u4⟩:=Ba g (I8 cx d) (.slice a' Ng.toNat cap) Ng.toNat true (g.own r) g.S;refine⟨u3,u2.trans B5.symm,fun c hc=>al c (EI hc),?_⟩;rcases a2 with ⟨b1,b2,b3⟩ | ⟨b,Md,E,vs,b1,b2,b3,b4,b5,b6,b7⟩
          .simp_all
          .rw[b1]at hv;cases hv;refine .inr ⟨b,cap,E,vs,by simp_all,u4.trans b2,by omega,b4,b5,?_,b7⟩;rw[B5];exact(BR.takeE al ch b6).mono HJ (fun _ h=>h) (fun _ h=>h.elim))
         exact⟨_,w,_,_,_,Ca,hk,k1,k2,hval⟩
       simp_all
      simp_all
     simp_all
    simp_all
  simp_all
 simp_all
theorem UB(hT:BQ P cx.T){d:Option Nat}{ty:Nat}{t:Nat->AV}(ht:∀x:Operand,AT g w (Aw h) (ev t x) (ρ x)){lo mx:Option Operand}(hx:AT g w (Aw h) x vx)(hk:Hr cx d h ty x (Ce t lo) (Ce t hi) (Ce t mx) K):MD P w0 g0 h0 h g w (Instr.sliceAt ty vx (lo.map ρ) (hi.map ρ) (mx.map ρ)) K:=by
 unfold Hr at hk;split at hk
 .rename_i Hh Ng mX e1 e2 e3;rw[JF ht e1,JF ht e2,JF ht e3];split at hk
  .rename_i hs;split at hk
   .rename_i s;obtain⟨⟨h1,h2,h3⟩,hk⟩:=hk;obtain rfl:=hx.v_eq;have hb:=SK (P:=P) (w:=w) false s.size s.size Hh Ng none (.inl rfl) h1 h2 (by simp_all) B0;refine(Bh.val (x:=.string (s.extract (Hh.getD 0).toNat (Ng.getD s.size).toNat)) ?_ hk).does hI;simp only[Instr.sliceAt,Sem.run_bind,run_underlying (hT.string hs),Result.andThen_ok,Instr.slice];simp_all
   simp_all
  .rename_i e hs;split at hk
   .simp_all
   .rename_i k Fi;split at hk
    .rename_i tk es;have hr:=hx.slice_none;obtain⟨a,cap,hv,KG⟩:∃a cap,vx=.slice a es.length cap/\es.length<=cap:=by
      grind [cases AT]
     subst hv;split at hk
     .obtain⟨⟨h1,h2,h3⟩,hl,hk⟩:=hk;have Ca:=Ef (P:=P) (w:=w) hT hs Fi a es.length cap Hh Ng none (.inl rfl) h1 h2 (by grind) B0;refine Bh.does hI ⟨_,_,Ca,hk,(AT.sub (c':=cap-(Hh.getD 0).toNat) hr rfl hl (l:=(Hh.getD 0).toNat) (m:=(Ng.getD es.length).toNat) ch ch ch _ ?_).up _⟩
      grind
     .rename_i m;split at hk
      .rename_i d hh;split at hk
       .obtain⟨⟨h1,h2,rfl,h3⟩,hl,hk⟩:=hk;have Ca:=Ef (P:=P) (w:=w) hT hs Fi a es.length cap Hh (some m) (some m) (.inr B0) h1 h2 B0 (by grind);simp only[DR]at Ca;have B5:((es.take m.toNat).drop (Hh.getD 0).toNat).length=m.toNat-(Hh.getD 0).toNat:=by simp_all
        refine Bh.does hI ⟨_,_,Ca,hk,.full _ _ _ _ ((AT.sub (c':=m.toNat-(Hh.getD 0).toNat) hr rfl hl (l:=(Hh.getD 0).toNat) (m:=m.toNat) ch ch ch _ ?_).up _) (fun c hc=>hl c (EI (FK hc))) ⟨_,by rw[B5]⟩⟩
        grind
       split at hk
       .rename_i hd;obtain⟨⟨h1,h2,rfl,h3⟩,hl,hk⟩:=hk;have Ca:=Ef (P:=P) (w:=w) hT hs Fi a es.length cap Hh (some m) (some m) (.inr B0) h1 h2 B0 (by grind);simp only[DR]at Ca
        obtain⟨g',k1,k2,k3⟩:=M4 hI (sz:=(cx.T e).size) (n:=m.toNat-(Hh.getD 0).toNat) hd (es:=(es.take m.toNat).drop (Hh.getD 0).toNat) (fun c hc=>hl c (EI (FK hc))) (by simp_all)
         (AT.sub (c':=m.toNat-(Hh.getD 0).toNat) hr rfl hl (l:=(Hh.getD 0).toNat) (m:=m.toNat) ch ch ch (if m.toNat=(Hh.getD 0).toNat then a else a.map (·.add ((Hh.getD 0).toNat*(cx.T e).size))) (by
          grind))
        exact⟨_,w,g',_,_,Ca,hk,k1,k2,k3⟩
       simp_all
      simp_all
    .obtain⟨⟨h1,h2,h3⟩,h4,hk⟩:=hk;obtain rfl:=hx.v_eq;have Ca:=Ef (P:=P) (w:=w) hT hs Fi none 0 0 Hh Ng mX h4 ch (by simp_all) (by simp_all) (by simp_all)
     grind [Bh.does,Bh.val]
    .rename_i r n;split at hk
     .rename_i sz es e0;split at hk
      .rename_i Tc;obtain rfl:=AL Tc;obtain⟨⟨h1,h2,h3,h4,h5⟩,hk⟩:=hk;have ho:=hI.objs r;rw[e0]at ho;obtain⟨t1,l1,al,a3⟩:=ho;have hl:(h r).live:=by rw[e0];trivial
       have rJ:mX=none\/Ng≠none:=h5.imp id (fun q=>q.2);cases hx with
       |msl _ _ _ a cap hu ht' hn ha Qq=>
        have hv:=Qq (h1.trans l1.symm);subst h1;have mI:∀c:Nat,es.length<=c->Ng.getD es.length<=mX.getD c/\mX.getD c<=c:=fun c hc=>by
         rcases h5 with h5 | ⟨h5,DT⟩
         .grind
         .obtain⟨m,hm⟩:=Option.ne_none_iff_exists'.1 DT<;>grind
        rcases a3 with ⟨rfl,q2,q3⟩ | ⟨b,Md,E,vs,q1,q2,q3,q4,q5,q6,q7⟩
        .rw[q2]at hv;cases hv;have Ca:=Ef (P:=P) (w:=w) hT hs Fi none 0 0 Hh Ng mX rJ h2 h3 (mI 0 B0).1 (mI 0 B0).2
         obtain⟨k1,k2⟩:=hI.upd r .dead (g.ρ r) (g.ln r) (g.tk r) (g.own r) g.S w none ⟨rfl,rfl,rfl,Ai _⟩ (fun _ _ _=>rfl) (fun b e=>by cases e) (fun _ _ h=>h) (fun _ _ h=>.inl h) (fun b o e=>by cases e) (fun b hh _=>by cases hh) B0
          (fun _=>⟨rfl,Ai _,fun _=>rfl,fun _=>rfl⟩) (fun _ _=>trivial)
         refine⟨_,w,_,_,_,Ca,hk,k1,k2,?_⟩
         grind [AT.snil]
        .rw[q1]at hv;cases hv;have Ca:=Ef (P:=P) (w:=w) hT hs Fi (some ⟨b,0,none⟩) es.length cap Hh Ng mX rJ h2 h3 (mI _ q3).1 (mI _ q3).2;have rf:=(hI.loc r b hl q2).1
         obtain⟨k1,k2⟩:=hI.upd r .dead (g.ρ r) (g.ln r) (g.tk r) (g.own r) (g.more b (es.length*(cx.T e).size)) w none ⟨rfl,rfl,rfl,Ai _⟩ (fun _ _ _=>rfl) (fun b e=>by cases e) (fun _ _ h=>.inl h)
          (fun b' o hs=>hs.elim .inl (fun hs=>.inr ⟨by omega,.inr ⟨hl,by simp_all⟩⟩)) (fun b o e=>by cases e) (fun b hh _=>by cases hh) B0
          (fun _=>⟨rfl,Ai _,fun _=>rfl,fun _=>rfl⟩) (fun _ _=>trivial)
         have DH:=AT.slice_row (g:=g.upd r (g.ρ r) (g.ln r) (g.tk r) (g.own r) (g.more b (es.length*(cx.T e).size))) (U:=ES) q4 al q3 (q6.mono k2.keeps (fun _ h=>h) (fun _ h=>h.elim)) (fun o ho=>.inr ⟨rfl,ho⟩);have Ac5:=mI _ q3;refine⟨_,w,_,_,_,Ca,hk,k1,k2,(AT.sub (c':=(mX.getD cap).toNat-(Hh.getD 0).toNat) DH rfl al (l:=(Hh.getD 0).toNat) (m:=(Ng.getD es.length).toNat) ch ch ch _ ?_).up _⟩
         grind
      simp_all
     simp_all
    simp_all
  simp_all
 simp_all
theorem Tu(hT:BQ P cx.T){d:Option Nat}{ty:Nat}{n c:AV}{vn vc:Value}(hn:AT g w (Aw h) n vn)(hc:AT g w (Aw h) c vc)(hk:IA cx d h ty n c K) :
  MD P w0 g0 h0 h g w (Instr.makeSlice ty vn vc) K:=by
 unfold IA at hk;split at hk
 .rename_i e n c hs;obtain rfl:=hn.v_eq;obtain rfl:=hc.v_eq;split at hk
  .rename_i Vp;split at hk
   .rename_i V3;have V3:=AL V3;split at hk
    .simp_all
    .rename_i k Fi;obtain⟨⟨h1,h2,h3,h4⟩,hk⟩:=hk;obtain⟨i,z,i1,i2,i3,i4,i5⟩:=FZ hT Fi;have kV:(cx.T e).zc≠[]:=fun e0=>by simp_all
     have wn:IntKind.i64.wrap n=n:=Ma ⟨by omega,by omega⟩;have wc:IntKind.i64.wrap c=c:=Ma ⟨by omega,by omega⟩;have Gr:∀l:List AV,(∀a∈l,one a=true)->Gd l=true:=by
      intro l
      induction l<;>grind [Gd]
     have oH:((Array.range (c.toNat*(cx.T e).size)).map fun k=>z.cells[k % z.cells.size]!).toList=(List.replicate c.toNat (cx.T e).zc).flatten:=by
      rw[Hb c.toNat _ kV,V3,i5];have e6:z.cells.size=(cx.T e).size:=by simp_all
      simp[e6,Array.getElem!_eq_getD]
     have hzs:(cx.T e).zc.length=(cx.T e).size:=V3;have tX:∀c'∈List.replicate c.toNat (cx.T e).zc,c'.length=(cx.T e).size:=fun c' hc=>by simp_all
     have wL : ∀c'∈List.replicate n.toNat ((cx.T e).zc.map AV.v),c'.length=(cx.T e).size:=fun c' hc=>by simp_all
     have Ac1:∀c'∈List.replicate n.toNat (cx.T e).zc,c'.length=(cx.T e).size:=fun c' hc=>by simp_all
     obtain⟨g',av,h',q1,q2,q3,q4⟩:=IZ hI hk (vs:=(Array.range (c.toNat*(cx.T e).size)).map fun k=>z.cells[k % z.cells.size]!) (cap:=c.toNat) e wL (by grind) B0 (by
      rw[oH,List.length_replicate];have e1:(List.replicate n.toNat ((cx.T e).zc.map AV.v)).flatten=(List.replicate n.toNat (cx.T e).zc).flatten.map AV.v:=by
       simp_all
      have e2:(List.replicate c.toNat (cx.T e).zc).flatten.take (n.toNat*(cx.T e).size)=(List.replicate n.toNat (cx.T e).zc).flatten:=by
       obtain⟨m,hm⟩:∃m,c.toNat=n.toNat+m:=⟨c.toNat-n.toNat,by omega⟩;rw[hm,<-List.replicate_append_replicate,CA,Mc (by simp_all)]
      grind [BR.vals,LI]) w ⟨rfl,rfl,rfl,rfl⟩
     rw[List.length_replicate]at q4;refine⟨_,_,g',av,h',?_,q1,q2,q3,q4⟩;have zf:¬((cx.T e).bytes*c>2 ^ 48):=by grind
     have WV:((decide (c<0)||decide (((cx.T e).bytes:Int)*c>2 ^ 48))||decide (n<0)||decide (n>c))=false:=by
      grind
     simp only[Instr.makeSlice,Sem.run_bind,run_underlying (hT.slice hs),Result.andThen_ok,asInt,asIntOf,Sem.run_pure,typeInfo,run_program,i1,i4,wn,wc,WV,Ni,if_false,run_askRoom,hT.size1 w Fi]
     by_cases hz:c.toNat*(k+1)=0
     .have rh:c.toNat=0:=by
       simp_all
      rw[rh];simp only[Nat.zero_mul,if_true];simp only[show Array.range 0=#[]from rfl,Array.map_empty];simp[newRow]
     .simp only[AO hz,Sem.run_bind,zeroValue,typeInfo,run_program,i1,i2,Result.andThen_ok,Sem.run_pure];rw[Fi];simp[newRow]
   simp_all
  simp_all
 simp_all
end
end Go.Eng
namespace Go.Eng
open Go.ChangeMaps (setBlock)
variable {BF:List (Value×AV)}{es:Array MapEntry}{sh:D7}{vx:Value}{α β:Type}{f:α->β}{l:List α}{ck:Nat}{w:World}{k x y:Value}{a:AV}{K:HK}{r:Nat}{o':Obj}{j:Nat}{v:AV}{T:FY}
theorem TB{o:Obj}(h:w.heap[r]?=some o):(setBlock w r o').heap[r]?=some o':=by
 grind [setBlock]
theorem SN{k:Nat}(h:k≠r):(setBlock w r o').heap[k]?=w.heap[k]?:=by
 grind [setBlock]
theorem TC(w:World)(r:Nat)(o' : Obj):(setBlock w r o').heap.size=w.heap.size:=by simp[setBlock]
theorem N7(h:(l.map f).Nodup):l.Nodup:=by
 induction l<;>grind
theorem Uq(h:(l.map f).Nodup){i:Nat}{a b:α}(ha:l[i]?=some a)(hb:l[j]?=some b)(he:f a=f b):i=j:=by
 induction l generalizing i j<;>grind
open Classical in
theorem OY{b:AV}(h:(k,b)∈BF):Ej BF k a=BF.map fun p=>if p.1=k then(k,a)else p:=A1 ⟨b,h⟩
open Classical in
theorem JD(h:∀b,(k,b)∉BF):Ej BF k a=BF++[(k,a)]:=AO (fun⟨b,e⟩=>h b e)
theorem Uo(f:AV->AV)(h:GJ sh es ck BF):GJ sh es ck (BF.map fun p=>(p.1,f p.2)):=by
 obtain⟨h1,h2,h3,h4,h5,h6⟩:=h;refine⟨by simp_all,fun i kv e q1 q2=>?_,fun kv cw=>?_,?_,h5,h6⟩
 all_goals grind
theorem N3(h:GJ sh es ck BF)(hj:BF[j]?=some (x,a)) :
  GJ sh (es.modify j fun e=>{ e with key:=x,val:=y }) ck (Ej BF x v) /\
   ∀(i:Nat) (kv:Value×AV) (e:MapEntry),(Ej BF x v)[i]?=some kv->(es.modify j fun e=>{ e with key:=x,val:=y })[i]?=some e ->
    (kv.2=v/\e.val=y)\/(BF[i]?=some kv/\es[i]?=some e):=by
 classical
 rw[OY (Aq hj)];obtain⟨h1,h2,h3,h4,h5,h6⟩:=h;have hm:∀i e,(es.modify j fun e=>{ e with key:=x,val:=y })[i]?=some e->∃e0,es[i]?=some e0/\e.born=e0.born/\(if i=j then e.key=x/\e.val=y else e=e0):=by
  grind
 have hk:∀i kv,(BF.map fun p=>if p.1=x then(x,v)else p)[i]?=some kv->∃p,BF[i]?=some p/\kv.1=p.1/\(if i=j then kv.2=v else kv=p):=by
  intro i kv cw;rw[BC]at cw;obtain⟨p,q1,q2⟩:=B4.1 cw;refine⟨p,q1,?_⟩
  grind [Uq]
 have zA:(BF.map fun p=>if p.1=x then(x,v)else p).map (·.1)=BF.map (·.1):=by
  rw[Bx];apply BK
  grind
 refine⟨⟨by grind,fun i kv e q1 q2=>?_,fun kv cw=>?_,by grind,fun i e q=>?_,fun i i' e e' q q' hb=>?_⟩,fun i kv e q1 q2=>?_⟩
 all_goals grind
theorem Sh(h:GJ sh es ck BF)(hx:VN sh x=true)(hn:∀a,(x,a)∉BF) :
  GJ sh (es.push { key:=x,val:=y,born:=ck }) (ck+1) (Ej BF x v) /\
   ∀(i:Nat) (kv:Value×AV) (e:MapEntry),(Ej BF x v)[i]?=some kv->(es.push { key:=x,val:=y,born:=ck })[i]?=some e ->
    (kv.2=v/\e.val=y)\/(BF[i]?=some kv/\es[i]?=some e):=by
 rw[JD hn];obtain⟨h1,h2,h3,h4,h5,h6⟩:=h;have hm:∀i e,(es.push { key:=x,val:=y,born:=ck })[i]?=some e->(es[i]?=some e/\i<es.size)\/(i=es.size/\e={ key:=x,val:=y,born:=ck }):=by
  grind
 have hk:∀i kv,(BF++[(x,v)])[i]?=some kv->(BF[i]?=some kv/\i<es.size)\/(i=es.size/\kv=(x,v)):=by
  grind
 refine⟨⟨by grind,fun i kv e q1 q2=>?_,fun kv cw=>?_,?_,fun i e q=>?_,fun i i' e e' q q' hb=>?_⟩,fun i kv e q1 q2=>?_⟩
 all_goals grind
section
variable {P:Program}{w0:World}{g0:Gh}{h0 h:Nat->HO}{g:Gh}{w:World}(hI:Cm w0 g0 h0 h g w)
include hI
theorem Cm.swap{r b:Nat}(hl:(h r).live)(ho:g.own r=some b)(hn:∀o,¬g.S b o)(o' : HO){ob:Obj}(hb:w.heap[b]?=some ob)(aM : Obj)(w1:World)(RR:w1.heap=w.heap/\w1.os=w.os/\w1.tape=w.tape/\w1.output=w.output)(DT:o'≠.free)
  (KH:I4 g (g.upd r (g.ρ r) (g.ln r) (g.tk r) (g.own r) g.S) (Aw h)->En g w (g.upd r (g.ρ r) (g.ln r) (g.tk r) (g.own r) g.S) (setBlock w1 b aM)->(setBlock w1 b aM).heap[b]?=some aM ->
   (∀k,k≠b->(setBlock w1 b aM).heap[k]?=w.heap[k]?) ->
   Do (g.upd r (g.ρ r) (g.ln r) (g.tk r) (g.own r) g.S) (setBlock w1 b aM) (Aw (Az h r o')) r o') :
  Cm w0 g0 h0 (Az h r o') (g.upd r (g.ρ r) (g.ln r) (g.tk r) (g.own r) g.S) (setBlock w1 b aM)/\Le h g w (Az h r o') (g.upd r (g.ρ r) (g.ln r) (g.tk r) (g.own r) g.S) (setBlock w1 b aM):=by
 have Ez:=(hI.loc r b hl ho).1;have D8:(setBlock w1 b aM).heap[b]?=some aM:=TB (by rw[RR.1];exact hb);have YS:∀k,k≠b->(setBlock w1 b aM).heap[k]?=w.heap[k]?:=fun k hk=>by grind [SN]
 refine hI.upd r o' _ _ _ _ _ _ (some b) ⟨RR.2.1,RR.2.2.1,RR.2.2.2,by grind [TC]⟩ (fun k _ DT=>YS k (fun e=>DT (by rw[e]))) (fun b' e=>by simp_all) (fun _ _ h=>h) (fun _ _ h=>.inl h)
  (fun b' o e hs=>by simp_all) (fun b' _ e=>?_) DT (fun _=>⟨rfl,Ai _,fun _=>rfl,fun _=>rfl⟩) (fun hg hk=>KH hg hk D8 YS)
 grind
theorem Mt(hT:BQ P T){ty:Nat}{m k x:AV}{vm vk:Value}(hm:AT g w (Aw h) m vm)(hk' : AT g w (Aw h) k vk)(hx:AT g w (Aw h) x vx)(hk:GD T h ty m k x K) :
  d9 P w0 g0 h0 h g w (Instr.mapUpdate ty vm vk vx) K:=by
 unfold GD at hk;split at hk
 .rename_i r;split at hk
  .rename_i sh BF e0;obtain⟨kt,e,k1,k2,k3,k4⟩:=LR hk' hk;have ho:=hI.objs r;rw[e0]at ho;obtain⟨t1,b,es,ck,a1,a2,a3,a4,a5,a6⟩:=ho;have hl:(h r).live:=by rw[e0];trivial
   cases hm with
   |mref _ _ b' hu ht hp=>
    rw[a2]at hp;cases hp;have gC:=hT.map k1;have EV:=run_getObj_map (P:=P) w b es ck a3;have MS:∀o',(setObj b o').run P w=.ok () (setBlock w b o'):=fun o'=>by grind [setObj,Sem.run,setBlock]
    have WU:=fun bb=>LB hT k2 w bb k3;obtain⟨res,r1,r2⟩:=M9 hT k2 w k3 es.toList a4.shape;have kS:=AT.str hI.objs hx;rcases r2 with ⟨rfl,hn⟩ | ⟨j,en,rfl,hj,hkey⟩
    .obtain⟨m1,m2⟩:=Sh a4 (x:=vk) (v:=str h x) (y:=vx) k3 (fun a=>a4.none hn a);obtain⟨i1,i2⟩:=Cm.swap hI hl a1 a6 (.map sh (Ej BF vk (str h x))) a3 (.map (es.push { key:=vk,val:=vx,born:=ck }) (ck+1)) w ⟨rfl,rfl,rfl,rfl⟩ B0 (fun hg HJ D8 YS=>by
      obtain⟨u1,u2,u3,u4⟩:=Ba g r (g.ρ r) (g.ln r) (g.tk r) (g.own r) g.S;refine⟨u3.trans t1,b,_,_,u4.trans a1,u1.trans a2,D8,m1,fun i kv e q1 q2=>?_,a6⟩;rcases m2 i kv e q1 q2 with ⟨p1,p2⟩ | ⟨p1,p2⟩
      .rw[p1,p2];exact kS.mono HJ (fun _ h=>h) (fun _ h=>h.elim)
      .exact(a5 i kv e p1 p2).mono HJ (fun _ h=>h) (fun _ h=>h.elim))
     refine⟨_,_,_,?_,k4,i1,i2⟩;simp[Instr.mapUpdate,run_underlying gC,EV,WU,r1,MS]
    .obtain⟨a,q1,q2⟩:=a4.some hj hkey;obtain⟨m1,m2⟩:=N3 a4 (x:=vk) (v:=str h x) (y:=vx) q1;obtain⟨i1,i2⟩:=Cm.swap hI hl a1 a6 (.map sh (Ej BF vk (str h x))) a3 (.map (es.modify j fun e=>{ e with key:=vk,val:=vx }) ck) w ⟨rfl,rfl,rfl,rfl⟩ B0 (fun hg HJ D8 YS=>by
      obtain⟨u1,u2,u3,u4⟩:=Ba g r (g.ρ r) (g.ln r) (g.tk r) (g.own r) g.S;refine⟨u3.trans t1,b,_,_,u4.trans a1,u1.trans a2,D8,m1,fun i kv e q1 q2=>?_,a6⟩;rcases m2 i kv e q1 q2 with ⟨p1,p2⟩ | ⟨p1,p2⟩
      .rw[p1,p2];exact kS.mono HJ (fun _ h=>h) (fun _ h=>h.elim)
      .exact(a5 i kv e p1 p2).mono HJ (fun _ h=>h) (fun _ h=>h.elim))
     refine⟨_,_,_,?_,k4,i1,i2⟩;have tT : es[j]?=some en:=by simp_all
     have HF:=Qd (P:=P) w k3;simp[Instr.mapUpdate,run_underlying gC,EV,WU,r1,MS,tT,hkey,HF]
  .rename_i sh BF e0;obtain⟨kt,e,k1,k2,k3,k4⟩:=LR hk' hk;have ho:=hI.objs r;rw[e0]at ho;obtain⟨t1,b,es,ck,a1,a2,a3,a4,a5,a6⟩:=ho;have hl:(h r).live:=by rw[e0];trivial
   cases hm with
   |mref _ _ b' hu ht hp=>
    rw[a2]at hp;cases hp;have gC:=hT.map k1;have EV:=run_getObj_map (P:=P) w b es ck a3;have MS:∀o',(setObj b o').run P w=.ok () (setBlock w b o'):=fun o'=>by grind [setObj,Sem.run,setBlock]
    have WU:=fun bb=>LB hT k2 w bb k3;obtain⟨res,r1,r2⟩:=M9 hT k2 w k3 es.toList a4.shape;rcases r2 with ⟨rfl,hn⟩ | ⟨j,en,rfl,hj,hkey⟩
    .obtain⟨m1,m2⟩:=Sh a4 (x:=vk) (v:=x) (y:=vx) k3 (fun a=>a4.none hn a);obtain⟨i1,i2⟩:=Cm.swap hI hl a1 a6 (.mapU sh (Ej BF vk (x))) a3 (.map (es.push { key:=vk,val:=vx,born:=ck }) (ck+1)) w ⟨rfl,rfl,rfl,rfl⟩ B0 (fun hg HJ D8 YS=>by
      obtain⟨u1,u2,u3,u4⟩:=Ba g r (g.ρ r) (g.ln r) (g.tk r) (g.own r) g.S;have Mf:∀i,Aw h i->Aw (Az h r (.mapU sh (Ej BF vk x))) i:=fun i hi=>CW B0 i hi;refine⟨u3.trans t1,b,_,_,u4.trans a1,u1.trans a2,D8,m1,fun i kv e q1 q2=>?_,a6⟩
      grind [AT.mono])
     refine⟨_,_,_,?_,k4,i1,i2⟩;simp[Instr.mapUpdate,run_underlying gC,EV,WU,r1,MS]
    .obtain⟨a,q1,q2⟩:=a4.some hj hkey;obtain⟨m1,m2⟩:=N3 a4 (x:=vk) (v:=x) (y:=vx) q1;obtain⟨i1,i2⟩:=Cm.swap hI hl a1 a6 (.mapU sh (Ej BF vk (x))) a3 (.map (es.modify j fun e=>{ e with key:=vk,val:=vx }) ck) w ⟨rfl,rfl,rfl,rfl⟩ B0 (fun hg HJ D8 YS=>by
      obtain⟨u1,u2,u3,u4⟩:=Ba g r (g.ρ r) (g.ln r) (g.tk r) (g.own r) g.S;have Mf:∀i,Aw h i->Aw (Az h r (.mapU sh (Ej BF vk x))) i:=fun i hi=>CW B0 i hi;refine⟨u3.trans t1,b,_,_,u4.trans a1,u1.trans a2,D8,m1,fun i kv e q1 q2=>?_,a6⟩
      grind [AT.mono])
     refine⟨_,_,_,?_,k4,i1,i2⟩;have tT : es[j]?=some en:=by simp_all
     have HF:=Qd (P:=P) w k3;simp[Instr.mapUpdate,run_underlying gC,EV,WU,r1,MS,tT,hkey,HF]
  simp_all
 simp_all
theorem M5{d b:Nat}{ck:Nat}(hd:h d=.free)(hS:g.S b 0)(hb:w.heap[b]?=some (.map es ck))(hm:GJ sh es ck BF)(hv:∀(i:Nat) (kv:Value×AV) (e:MapEntry),BF[i]?=some kv->es[i]?=some e->AT g w ES kv.2 e.val) :
  ∃g',Cm w0 g0 h0 (Az h d (.iter BF BF none)) g' (w.alloc (.mapIter (some b) ck #[] ck))/\Le h g w (Az h d (.iter BF BF none)) g' (w.alloc (.mapIter (some b) ck #[] ck)) /\
   AT g' (w.alloc (.mapIter (some b) ck #[] ck)) (Aw (Az h d (.iter BF BF none))) (.ref d 0) (.pointer (some ⟨w.heap.size,0,none⟩)):=by
 obtain⟨k1,k2⟩:=hI.newOwn hd (.iter BF BF none) (.mapIter (some b) ck #[] ck) (.pointer (some ⟨w.heap.size,0,none⟩)) 0 false w ⟨rfl,rfl,rfl,rfl⟩ B0 (fun hg hk=>by
  obtain⟨u1,u2,u3,u4⟩:=Ba g d (.pointer (some ⟨w.heap.size,0,none⟩)) 0 false (some w.heap.size) g.S;obtain⟨c1,c2,c3⟩:=hk b 0 hS
  exact⟨u3,w.heap.size,b,ck,#[],ck,es,ck,u4,u1,Gs w _ rfl,c1,c3 es ck hb,⟨sh,hm⟩,rfl,rfl,fun i kv e q1 q2=>(hv i kv e q1 q2).mono hk (fun _ h=>h) (fun _ h=>h.elim),
   ⟨N7 hm.2.2.2.1,fun _ h=>h⟩,fun i kv e q1 q2=>by simp[List.mem_of_getElem? q1],trivial,fun o ho=>by have:=hI.slt _ _ ho;omega⟩)
 refine⟨_,k1,k2,.ref _ d 0 w.heap.size (by unfold Aw;rw[AM];simp) ?_ ?_⟩<;>simp[Gh.upd]
theorem PV{r b:Nat}{ck:Nat}(e0:h r=.map sh BF)(a1:g.own r=some b)(a2:g.ρ r=.map (some b))(a3:w.heap[b]?=some (.map es ck))(a4:GJ sh es ck BF)(a5:∀(i:Nat) (kv:Value×AV) (e:MapEntry),BF[i]?=some kv->es[i]?=some e->AT g w ES kv.2 e.val)(t1:g.tk r=false) :
  ∃g',Cm w0 g0 h0 (Az h r (.rom sh BF)) g' w/\Le h g w (Az h r (.rom sh BF)) g' w/\g'.S b 0:=by
 have hl:(h r).live:=by rw[e0];trivial
 have Ez:=(hI.loc r b hl a1).1
 obtain⟨k1,k2⟩:=hI.upd r (.rom sh BF) (g.ρ r) (g.ln r) (g.tk r) none (g.more b 1) w none ⟨rfl,rfl,rfl,Ai _⟩ (fun _ _ _=>rfl) (fun b e=>by cases e) (fun _ _ h=>.inl h)
  (fun b' o hs=>hs.elim .inl (fun hs=>.inr ⟨by omega,.inr ⟨hl,by simp_all⟩⟩)) (fun b o e=>by cases e) (fun b hh _=>by cases hh) B0
  (fun _=>⟨rfl,Ai _,fun _=>rfl,fun _=>rfl⟩) (fun hg hk=>by
   obtain⟨u1,u2,u3,u4⟩:=Ba g r (g.ρ r) (g.ln r) (g.tk r) none (g.more b 1);exact⟨u3.trans t1,b,u1.trans a2,.cmap _ sh BF b es ck (.inr ⟨rfl,TG⟩) a3 a4 (fun i kv e q1 q2=>(a5 i kv e q1 q2).mono hk (fun _ h=>h) (fun _ h=>h.elim))⟩)
 exact⟨_,k1,k2,.inr ⟨rfl,TG⟩⟩
theorem VB{r b:Nat}{ck:Nat}(e0:h r=.mapU sh BF)(a1:g.own r=some b)(a2:g.ρ r=.map (some b))(a3:w.heap[b]?=some (.map es ck))(a4:GJ sh es ck BF)(a5:∀(i:Nat) (kv:Value×AV) (e:MapEntry),BF[i]?=some kv->es[i]?=some e->AT g w (Aw h) kv.2 e.val)(t1:g.tk r=false) :
  ∃g',Cm w0 g0 h0 (Az h r (.rom sh (Qw h BF))) g' w/\Le h g w (Az h r (.rom sh (Qw h BF))) g' w/\g'.S b 0:=by
 have hl:(h r).live:=by rw[e0];trivial
 have Ez:=(hI.loc r b hl a1).1
 obtain⟨k1,k2⟩:=hI.upd r (.rom sh (Qw h BF)) (g.ρ r) (g.ln r) (g.tk r) none (g.more b 1) w none ⟨rfl,rfl,rfl,Ai _⟩ (fun _ _ _=>rfl) (fun b e=>by cases e) (fun _ _ h=>.inl h)
  (fun b' o hs=>hs.elim .inl (fun hs=>.inr ⟨by omega,.inr ⟨hl,by simp_all⟩⟩)) (fun b o e=>by cases e) (fun b hh _=>by cases hh) B0
  (fun _=>⟨rfl,Ai _,fun _=>rfl,fun _=>rfl⟩) (fun hg hk=>by
   obtain⟨u1,u2,u3,u4⟩:=Ba g r (g.ρ r) (g.ln r) (g.tk r) none (g.more b 1);refine⟨u3.trans t1,b,u1.trans a2,.cmap _ sh _ b es ck (.inr ⟨rfl,TG⟩) a3 (Uo _ a4) (fun i kv e q1 q2=>?_)⟩;unfold Qw at q1;rw[BC]at q1;obtain⟨p,q3,rfl⟩:=B4.1 q1;exact((a5 i p e q3 q2).str hI.objs).mono hk (fun _ h=>h) (fun _ h=>h.elim))
 exact⟨_,k1,k2,.inr ⟨rfl,TG⟩⟩
theorem dD(hT:BQ P T){ty kt e:Nat}(ht:(T ty).d=.map kt e){d:Option Nat}{x:AV}(hx:AT g w (Aw h) x vx)(hk:Zu d h x K) :
  MD P w0 g0 h0 h g w (Instr.range ty vx) K:=by
 have hu:=hT.map ht;unfold Zu at hk;split at hk
 .simp_all
 .rename_i d;split at hk
  .rename_i hd;have Ca:∀b es ck,w.heap[b]?=some (.map es ck)->(Instr.range ty (.map (some b))).run P w=.ok (.pointer (some ⟨w.heap.size,0,none⟩)) (w.alloc (.mapIter (some b) ck #[] ck)):=fun b es ck hb=>by
    simp[Instr.range,run_underlying hu,run_getObj_map (P:=P) w b es ck hb]
   split at hk
   .cases hx with
    |cmap _ _ _ b es ck hS hb hm hv=>
     obtain⟨g',k1,k2,k3⟩:=M5 hI hd hS hb hm hv;exact⟨_,_,_,_,_,Ca _ _ _ hb,hk,k1,k2,k3⟩
   .rename_i r;have ho:=hI.objs r;cases hx with
    |mref _ _ b gC ht' hp=>
     split at hk
     .rename_i sh BF e0;rw[e0]at ho;obtain⟨_,b',a1,a2⟩:=ho;rw[a1]at hp;cases hp;cases a2 with
      |cmap _ _ _ _ es ck hS hb hm hv=>
       obtain⟨g',k1,k2,k3⟩:=M5 hI hd hS hb hm hv;exact⟨_,_,_,_,_,Ca _ _ _ hb,hk,k1,k2,k3⟩
     .rename_i sh BF e0;rw[e0]at ho;obtain⟨t1,b',es,ck,a1,a2,a3,a4,a5,a6⟩:=ho;rw[a2]at hp;cases hp;obtain⟨g1,i1,i2,i3⟩:=PV hI e0 a1 a2 a3 a4 a5 t1;have DT:d≠r:=fun e=>by simp_all
      obtain⟨g',k1,k2,k3⟩:=M5 i1 (by rw[BB _ _ _ _ DT];exact hd) i3 a3 a4 (fun i kv e q1 q2=>(a5 i kv e q1 q2).mono i2.keeps (fun _ h=>h) (fun _ h=>h.elim));exact⟨_,_,_,_,_,Ca _ _ _ a3,hk,k1,i2.trans k2,k3⟩
     simp_all
   simp_all
  simp_all
theorem g9{ty:TypeId}{x:AV}(hx:AT g w (Aw h) x vx)(hk:g8 h x K):MD P w0 g0 h0 h g w (Instr.next vx false ty) K:=by
 unfold g8 at hk;split at hk
 .rename_i r;split at hk
  .rename_i all rem DD e0;have ho:=hI.objs r;rw[e0]at ho;obtain⟨t1,b,mb,I2,seen,st,es,ck,a1,a2,a3,a4,a5,⟨sh,a6⟩,a7,a8,a9,V8,ZM,a12,nk⟩:=ho;have hl:(h r).live:=by rw[e0];trivial
   cases hx with
   |ref _ _ _ b' hu ht hp=>
    rw[a2]at hp;cases hp;have Ez:∀e∈es.toList,e.born<I2:=fun e he=>by
     obtain⟨i,hi⟩:=DA.1 he
     have:=a6.2.2.2.2.1 i e (by simp_all)
     omega
    rcases run_next_at (P:=P) w ty b mb I2 st seen es ck a3 a5 Ez ch with ⟨q1,q2⟩ | ⟨e,q1,w1,q2,q3⟩
    .have xe:rem=[]:=by
      apply KB.2;intro kv cw;obtain⟨i,hi⟩:=DA.1 (V8.2 kv cw);have tR:i<es.size:=by rw[a6.1];grind
      have hb:=(ZM i kv es[i] hi (by simp_all)).1 cw;have hm:es[i]∈leftOf es seen:=by grind [leftOf]
      simp_all
     exact⟨_,w,g,_,h,q2,hk.1 xe,hI,.refl _ _ _,.tup _ _ _ rfl (fun i av x h1 h2=>by
      grind [AT.v])⟩
    .have hq:e∈es/\e.born∉seen:=by grind [leftOf]
     obtain⟨i,hi⟩:=Array.mem_iff_getElem?.1 hq.1;have tR:i<all.length:=by rw[<-a6.1];grind
     have rb:all[i]?=some all[i]:=AK tR;have ox:=(ZM i _ e rb hi).2 hq.2;obtain⟨s1,s2,hs⟩:=List.append_of_mem ox;have H7:rem.Perm (all[i]::(s1++s2)):=by simp_all
     have RP:(all[i]::(s1++s2)).Nodup:=H7.nodup_iff.1 V8.1;have hr:=a9 i _ e rb hi;have hkey:=a6.2.1 i _ e rb hi;have RR:w1.heap=w.heap/\w1.os=w.os/\w1.tape=w.tape/\w1.output=w.output:=by rcases q2 with rfl | rfl<;>exact⟨rfl,rfl,rfl,rfl⟩
     obtain⟨k1,k2⟩:=Cm.swap hI hl a1 nk (.iter all (s1++s2) (some all[i])) a3 (.mapIter (some mb) I2 (seen.push e.born) ck) w1 RR B0 (fun hg HJ D8 YS=>by
      obtain⟨u1,u2,u3,u4⟩:=Ba g r (g.ρ r) (g.ln r) (g.tk r) (g.own r) g.S;obtain⟨c1,c2,c3⟩:=HJ mb 0 a4
      refine⟨u3.trans t1,b,mb,I2,_,ck,es,ck,u4.trans a1,u1.trans a2,D8,c1,c3 _ _ a5,⟨sh,a6⟩,a7,rfl,fun i kv e p q=>(a9 i kv e p q).mono HJ (fun _ h=>h) (fun _ h=>h.elim),
       ⟨(FG.1 RP).2,fun kv cw=>V8.2 kv (H7.mem_iff.2 (Af _ cw))⟩,fun j kv e' p q=>?_,⟨i,e,rb,hi,by simp⟩,nk⟩
      rw[Array.mem_push];have h1:=ZM j kv e' p q;rw[H7.mem_iff,AA]at h1;constructor
      .intro cw hc;rcases hc with hc | hc
       .simp_all
       .obtain rfl:=a6.2.2.2.2.2 j i e' e q hi hc<;>simp_all
      .intro hc;rcases h1.2 (fun hm=>hc (.inl hm))with e2 | e2
       .have:j=i:=Uq (f:=fun x=>x) (l:=all) (by simpa using N7 a6.2.2.2.1) p rb e2
        simp_all
       omega)
     refine⟨_,_,_,_,_,q3,hk.2 all[i] (s1++s2) H7,k1,k2,.tup _ _ _ rfl (fun j av x h1 h2=>?_)⟩
     match j,h1,h2 with
     |0,h1,h2=>grind [AT.v]
     |1,h1,h2=>grind [AT.v]
     |2,h1,h2=>simp at h1 h2;grind [AT.le,AT.up]
  simp_all
 simp_all
end
end Go.Eng
namespace Go.Eng
variable {F:(AV->Prop)->Prop}{a:AV}{α:Type}(T:FY)(cx:Cx)(o:Oper)(op:BinOp)(s:Nat)(st:St)(f:Nat)(R:List Nat)(k:IntKind)(w:Option Nat)(K:HK)(x:AV)
def Fw(F:(AV->Prop)->Prop):Prop:=∀K,F K->∃v,K v/\∀K',K' v->F K'
theorem Ch(v:AV):Fw (fun K=>K v):=fun _ h=>⟨v,h,fun _ h=>h⟩
theorem Da{p:Prop}(h:Fw F):Fw (fun K=>p/\F K):=fun K ⟨hp,hk⟩=>
 let ⟨v,h1,h2⟩:=h K hk
 ⟨v,h1,fun K' h'=>⟨hp,h2 K' h'⟩⟩
theorem BV:Fw (fun _=>False):=fun _ h=>h.elim
theorem Ux(p:Prop):Fw (H4 p):=fun K h=>by
 by_cases hp:p
 .exact⟨_,h.1 hp,fun K' h'=>⟨fun _=>h',fun hn=>absurd hp hn⟩⟩
 .exact⟨_,h.2 hp,fun K' h'=>⟨fun q=>absurd q hp,fun _=>h'⟩⟩
theorem XM(h:Fw F):Fw (fun K=>F (df K)):=fun K hk=>by
 obtain⟨v,h1,h2⟩:=h _ hk;unfold df at h1;split at h1
 .exact⟨_,h1,fun K' h'=>h2 _ h'⟩
 .exact⟨_,h1,fun K' h'=>h2 _ h'⟩
 simp_all
theorem Oh{F:α->(AV->Prop)->Prop}(h:∀x,Fw (F x)):Fw (fun K=>∃x,F x K):=fun K ⟨x,hk⟩=>
 let ⟨v,h1,h2⟩:=h x K hk
 ⟨v,h1,fun K' h'=>⟨x,h2 K' h'⟩⟩
theorem JI(t:Nat)(cs:List AV):Fw (Kx T t cs):=by
 have head:Fw (K9 cs):=by unfold K9;cases cs with | nil=>exact BV | cons a _=>exact Ch a
 unfold Kx;split
 .exact Da (Ch _)
 .exact Da (Ch _)
 .cases cs with
  |nil=>exact BV
  |cons a _=>
   intro K h;simp only[K9]at h⊢;split at h
   .rename_i b;cases b<;>grind
   simp_all
 all_goals grind [BV]
theorem aP(t:Nat)(x y:AV)(hx:∀tk es,x≠.slice tk es):Fw (pH T t x y):=by
 unfold pH
 repeat' split
 all_goals first | exact BV | exact Ch _ | exact Ux _ | simp_all | simp_all
theorem Sz(a b:Int):Fw (SO op k a b):=by
 unfold SO;split<;>first | exact BV | exact Da (Ch _)
theorem Zp(a b:Int):Fw (QV op k a b):=by
 unfold QV
 repeat' split
 all_goals first | exact BV | exact Da (Ch _) | (unfold UZ;split<;>first | exact Ch _ | exact Da (Ch _) | grind [Sz])
theorem iv(t:Nat)(x y:AV)(hx:∀tk es,x≠.slice tk es):Fw (QY T op t x y):=by
 unfold QY
 repeat' split
 all_goals first | exact BV | exact Ux _ | exact Zp _ _ _ _ | exact Sz _ _ _ _ | exact Da (Ch _) | exact aP _ _ _ _ hx | exact XM (aP _ _ _ _ hx)
theorem dx(t:Nat)(Y:Operand)(x y:AV)(hx:∀tk es,x≠.slice tk es):Fw (Wh T op t Y x y):=by
 unfold Wh
 repeat' split
 all_goals first | exact BV | exact Ch _ | grind [iv]
theorem dy(t:Nat)(x:AV):Fw (T3 T s t x):=by
 unfold T3
 repeat' split
 all_goals first | exact BV | exact Ch _ | exact Da (Ch _) | exact Oh fun _=>Da (Ch _)
theorem Zs:Fw (Ru T s f x):=by
 unfold Ru
 repeat' split
 all_goals first | exact BV | exact Ch _
theorem XK:Fw (NM T s f x):=by
 unfold NM
 repeat' split
 all_goals first | exact BV | exact JI _ _ _
theorem Sy(t:Nat)(x ix:AV):Fw (Ix T t x ix):=by
 unfold Ix
 repeat' split
 all_goals first | exact BV | exact Da (Ch _) | exact Oh fun _=>Da (Da (Ch _))
theorem Zt(t:Nat)(x ix:AV):Fw (RW T t x ix):=by
 unfold RW
 repeat' split
 all_goals first | exact BV | exact Da (JI _ _ _) | exact Oh fun _=>Da (Ch _)
theorem VG(i:Nat):Fw (KX x i):=by
 unfold KX
 repeat' split
 all_goals first | exact BV | exact Ch _
theorem iy:Fw (JE x):=by
 unfold JE
 repeat' split
 all_goals first | exact BV | exact Ch _
theorem dz(c a b:AV):Fw (XI c a b):=by
 unfold XI
 repeat' split
 all_goals first | exact BV | exact Ch _
theorem lG(f:Int->Int->Int)(x y:AV):Fw (ll f x y):=by
 unfold ll
 repeat' split
 all_goals first | exact BV | exact Ch _
theorem dA(op:UnOp)(x:AV):Fw (XW op x):=by
 unfold XW
 repeat' split
 all_goals first | exact BV | exact Ch _ | exact XM (Ch _) | exact Da (Ch _)
def mi(F:(α->Prop)->Prop):Prop:=∀K,F K->∃v,K v/\∀K',K' v->F K'
theorem XJ(n:Nat)(a:AV):mi (GC n a):=by
 intro K h;unfold GC at h⊢
 grind
theorem Sw(pl:Nat->Option (Nat×Nat))(t:Nat->AV):∀(ps:List (Nat×Operand)) (cs:List AV),mi (Jt pl cs t ps)
 | [],cs=>fun K h=>⟨cs,h,fun _ h=>h⟩
 |(i,x)::r,cs=>by
  intro K h;unfold Jt at h;split at h
  .simp_all
  .rename_i o n e;obtain⟨vs,h1,h2⟩:=XJ _ _ _ h;split at h1
   .rename_i hb;obtain⟨c,h3,h4⟩:=Sw pl t r _ _ h1<;>grind [Jt]
   simp_all
theorem Zq(ty:Nat)(t:Nat->AV)(ps:List (Nat×Operand)):Fw (OF T ty t ps):=by
 unfold OF
 repeat' split
 all_goals first
  |exact BV
  |exact fun K h=>let ⟨c,h1,h2⟩:=Sw _ _ _ _ _ h;⟨_,h1,fun K' h'=>h2 _ h'⟩
def yV(h:Nat->HO)(e:Option (Nat×HO)):Nat->HO:=match e with | none=>h | some (r,o)=>Az h r o
structure Alike(o:Oper)(R:List Nat)(st st2:St):Prop where
 t:∀x∈o.op.operands,ev st2.t x=ev st.t x
 h:∀r∈R,st2.h r=st.h r
def Cs:Prop:=
 ∃v e,K v (yV st.h e)/\(∀r o',e=some (r,o')->w=some r/\r∈R)/\∀st2,Alike o R st st2->∀K' : HK,K' v (yV st2.h e)->Fg cx true o st2 K'
def QN(r:Nat):Prop:=match w with | none=>False | some x=>x=r\/(10000000<=x/\(x % 10000000=r\/x / 10000000=r))\/x=UW
def Hm(h:Nat->HO):List (Nat×HO)->Nat->HO
 | []=>h
 |p::l=>Hm (Az h p.1 p.2) l
def Qy:Prop:=
 ∃v e,K v (Hm st.h e)/\(∀r o',(r,o')∈e->QN w r/\r∈R)/\∀st2,Alike o R st st2->∀K' : HK,K' v (Hm st2.h e)->Fg cx true o st2 K'
section
variable {cx:Cx}{o:Oper}{st:St}{R:List Nat}{w:Option Nat}{K:HK}
theorem Cs.pick(hF:Fw F)(h:F fun v=>K v st.h)(h2:∀st2,Alike o R st st2->∀K' : HK,F (fun v=>K' v st2.h)->Fg cx true o st2 K'):Cs cx o st R w K:=
 let ⟨v,h1,h3⟩:=hF _ h
 ⟨v,none,h1,fun _ _ e=>(by cases e),fun st2 ha K' hk=>h2 st2 ha K' (h3 _ hk)⟩
theorem Xr{cs:List AV}(h:a∈cs):∀r∈W6 a,r∈kW cs:=by
 induction cs with
 |nil=>cases h
 |cons c cs ih=>
  intro r hr;rcases AA.1 h with rfl | h
  .exact Bj _ hr
  .exact BP _ (ih h r hr)
theorem gS{cs:List AV}(h:a∈cs):∀r∈Vr a,r∈oM cs:=by
 induction cs with
 |nil=>cases h
 |cons c cs ih=>
  intro r hr;rcases AA.1 h with rfl | h
  .exact Bj _ hr
  .exact BP _ (ih h r hr)
theorem Xq{cs:List AV}(h:a∈cs):∀r∈W5 a,r∈RS cs:=by
 induction cs with
 |nil=>cases h
 |cons c cs ih=>
  intro r hr;rcases AA.1 h with rfl | h
  .exact Bj _ hr
  .exact BP _ (ih h r hr)
theorem Ue(a:AV):∀r∈W6 a,r∈Vr a:=by cases a<;>simp[W6,Vr]
theorem Pu{h h2:Nat->HO}(e:∀r∈W6 a,h2 r=h r):str0 h2 a=str0 h a:=by
 cases a<;>simp only[str0]
 all_goals grind [W6]
theorem UH{h h2:Nat->HO}(e:∀r∈Vr a,h2 r=h r):str h2 a=str h a:=by
 cases a with
 |agg cs=>simp only[str];exact Aa _ (BK fun c hc=>Pu fun r hr=>e r (Xr hc r hr))
 |clo f cs=>simp only[str];exact Aa _ (BK fun c hc=>Pu fun r hr=>e r (Xr hc r hr))
 |_=>exact Pu (fun r hr=>e r (Ue _ r hr))
theorem gF(a:AV):∀r∈Vr a,r∈W5 a:=by
 cases a with
 |agg cs=>
  intro r hr;simp only[W5,Vr]at *
  induction cs with
  |nil=>exact hr
  |cons c cs ih=>
   rcases Bc.1 hr with h | h
   .exact Bj _ (Ue c r h)
   .exact BP _ (ih h)
 |_=>exact fun r hr=>hr
theorem JM{h h2:Nat->HO}(e:∀r∈W5 a,h2 r=h r):str h2 a=str h a:=UH fun r hr=>e r (gF a r hr)
theorem Pv{h h2:Nat->HO}{l:List AV}(e:∀r∈RS l,h2 r=h r):l.map (str h2)=l.map (str h):=
 BK fun _ ha=>JM fun r hr=>e r (Xq ha r hr)
theorem iN{h h2:Nat->HO}(e:∀r∈W5 a,h2 r=h r):rsv h2 a=rsv h a:=by
 cases a<;>simp only[rsv]
 all_goals grind [W5,Vr,W6]
theorem ML{n:Nat}{K:List AV->Prop}(hk:GC n a K):∃cs,K cs/\(∀K' : List AV->Prop,K' cs->GC n a K')/\∀h h2:Nat->HO,(∀r∈W5 a,h2 r=h r)->cs.map (str h2)=cs.map (str h):=by
 have single:K [a]->(∀K' : List AV->Prop,K' [a]->GC n a K')->∃cs,K cs/\(∀K' : List AV->Prop,K' cs->GC n a K')/\∀h h2:Nat->HO,(∀r∈W5 a,h2 r=h r)->cs.map (str h2)=cs.map (str h):=
  fun h1 h2=>⟨[a],h1,h2,fun h h2 e=>by simp[JM e]⟩
 unfold GC at hk;split at hk
 .rename_i cs;split at hk
  .rename_i hn;refine⟨cs,hk,fun K' h=>by grind [GC],fun h h2 e=>BK fun c hc=>UH fun r hr=>e r (gS hc r hr)⟩
  simp_all
 .rename_i zI;split at hk
  .rename_i h1;split at hk
   .refine single hk fun K' h=>?_
    grind [GC]
   simp_all
  simp_all
theorem Rv{n sz:Nat}{t:Nat->AV}:∀{ps:List (Nat×Operand)} {es:List (List AV)} {h:Nat->HO} {K:List (List AV)->Prop},PL n sz h es t ps K ->
  ∃EZ,K EZ/\∀(t2:Nat->AV) (h2:Nat->HO),(∀r∈RS (ps.map fun p=>ev t p.2),h2 r=h r)->(∀p∈ps,ev t2 p.2=ev t p.2)->∀K' : List (List AV)->Prop,K' EZ->PL n sz h2 es t2 ps K'
 | [],es,h,K,hk=>⟨es,hk,fun _ _ _ _ _ h=>h⟩
 |(i,x)::r,es,h,K,hk=>by
  unfold PL at hk;split at hk
  .rename_i hb;obtain⟨cs,c1,c2,c3⟩:=ML hk;obtain⟨EZ,e1,e2⟩:=Rv c1;refine⟨EZ,e1,fun t2 h2 hh ht K' hk'=>?_⟩;unfold PL;rw[hb,ht (i,x) (Ad ..)];refine c2 _ ?_;rw[c3 h h2 (fun r hr=>hh r (Bj _ hr))];exact e2 t2 h2 (fun r hr=>hh r (BP _ hr)) (fun p hp=>ht p (Af _ hp)) K' hk'
  simp_all
theorem Hx{d:Option Nat}{h:Nat->HO}{sz:Nat}{es:List (List AV)}(hk:Ek cx d h sz es K) :
  ∃d',d.map (I8 cx)=some d'/\∃v x,K v (Az h d' x)/\∀h2:Nat->HO,h2 d'=h d'->∀K' : HK,K' v (Az h2 d' x)->Ek cx d h2 sz es K':=by
 unfold Ek at hk;split at hk
 all_goals grind [Ek]
theorem YA{h:Nat->HO}{x:AV}{K:List (List AV)->Prop}(hk:JZ h x K):∃es,K es/\∀h2:Nat->HO,(∀r n,x=.msl r n->h2 r=h r)->∀K' : List (List AV)->Prop,K' es->JZ h2 x K':=by
 unfold JZ at hk
 grind [JZ]
end
end Go.Eng
