/- Lemmas 10. -/
import Derived.Test.YtjhkbdgingfbaaaGreatDoorHA09
import Derived.Maps.RangeRun
namespace Go.Eng
variable {ρ:Operand->Value}{es:List (List AV)}{hi:Option Operand}{vx:Value}{K:HK}{a:Option Addr}{cx:Cx}{x:AV}{T:GV}
section
variable {P:Program}{w0:World}{g0:Gh}{h0 h:Nat->HO}{g:Gh}{w:World}(hI:Dr w0 g0 h0 h g w)
include hI
theorem OJ{d sz n:Nat}(hd:h d=.free)(hl:∀c∈es,c.length=sz)(hn:es.length=n)(hr:Br g w Fq (.slice .none es) (.slice a n n)) :
  ∃g',Dr w0 g0 h0 (AR h d (.tok sz n)) g' w/\Le h g w (AR h d (.tok sz n)) g' w/\Br g' w (AN (AR h d (.tok sz n))) (.slice (.id d sz) es) (.slice a n n):=by
 obtain⟨k1,k2⟩:=hI.upd d (.tok sz n) (.slice a n n) n true none g.S w none ⟨rfl,rfl,rfl,Ai _⟩ (fun _ _ _=>rfl) (fun b e=>by cases e) (fun _ _ h=>h) (fun _ _ h=>.inl h) (fun b o e=>by cases e) (fun b _ e=>by cases e) B0
  (fun hu=>absurd hd hu) (fun _ _=>by
   obtain⟨u1,u2,u3,u4⟩:=Bq g d (.slice a n n) n true none g.S;exact⟨u3,u2,a,n,u1,.inl ⟨rfl,u4⟩⟩)
 exact⟨_,k1,k2,.tok _ d sz es _ (((hr.up (AN h)).le k2)) hl (by unfold AN;rw[A3];simp) (by simp[Gh.upd]) (by simp[Gh.upd,hn]) (fun _=>by simp[Gh.upd])⟩
theorem bV{d:Option Nat}(hx:Br g w (AN h) x vx)(hk:Ph cx d h x K):∃g' av h',K av h'/\Dr w0 g0 h0 h' g' w/\Le h g w h' g' w/\Br g' w (AN h') av vx:=by
 have plain:K x h->∃g' av h',K av h'/\Dr w0 g0 h0 h' g' w/\Le h g w h' g' w/\Br g' w (AN h') av vx:=fun hk=>⟨g,x,h,hk,hI,.refl _ _ _,hx⟩;unfold Ph at hk;split at hk
 .exact plain hk
 .rename_i d;split at hk
  .rename_i sz _;split at hk
   .refine⟨g,unT x,h,hk,hI,.refl _ _ _,?_⟩;cases x with
    |slice tk es=>exact(Br.slice_none hx).up _
    |_=>exact hx
   .split at hk
    .split at hk
     .rename_i hd;obtain rfl:=hx.v_eq;obtain⟨g',k1,k2,k3⟩:=OJ hI (sz:=sz) (es:=[]) (a:=none) hd B0 rfl (.snil _ _ _);exact⟨g',_,_,hk,k1,k2,k3⟩
     .exact hk.elim
    .exact plain hk
  .split at hk
   .rename_i sz _;split at hk
    .split at hk
     .rename_i hd;obtain rfl:=hx.v_eq
      obtain⟨k1,k2⟩:=hI.upd d (.arr sz []) (.slice none 0 0) 0 true none g.S w none ⟨rfl,rfl,rfl,Ai _⟩ (fun _ _ _=>rfl) (fun b e=>by cases e) (fun _ _ h=>h) (fun _ _ h=>.inl h) (fun b o e=>by cases e) (fun b _ e=>by cases e) B0
       (fun hu=>absurd hd hu) (fun _ _=>by
        obtain⟨u1,u2,u3,u4⟩:=Bq g d (.slice none 0 0) 0 true none g.S;exact⟨u3,u2,by simp,.inl ⟨rfl,u1,u4⟩⟩)
      exact⟨_,_,_,hk,k1,k2,.msl _ d 0 none 0 (by unfold AN;rw[A3];simp) (by simp[Gh.upd]) (AE _) (.inl rfl) (fun _=>by simp[Gh.upd])⟩
     .exact hk.elim
    .exact plain hk
   .exact plain hk
theorem aG{mku:List Nat}{d:Option Nat}{ty:Nat}(hk:Lw T mku d h ty K):Ok P w0 g0 h0 h g w (Instr.makeMap ty none) K:=by
 unfold Lw at hk;split at hk
 .exact hk.elim
 .rename_i d;split at hk
  .rename_i hd;split at hk
   .split at hk
    .rename_i sh _;split at hk
     .obtain⟨k1,k2⟩:=hI.newOwn hd (.mapU sh []) (.map #[] 0) (.map (some w.heap.size)) 0 false w ⟨rfl,rfl,rfl,rfl⟩ B0 (fun hg Io=>by
       obtain⟨u1,u2,u3,u4⟩:=Bq g d (.map (some w.heap.size)) 0 false (some w.heap.size) g.S;exact⟨u3,w.heap.size,#[],0,u4,u1,Ho w _ rfl,⟨rfl,by simp,by simp,by simp,by simp,by simp⟩,by simp,fun o ho=>by have:=hI.slt _ _ ho;omega⟩)
      refine⟨_,_,_,_,_,?_,hk,k1,k2,.mref _ d w.heap.size (by unfold AN;rw[A3];simp) ?_ ?_⟩
      .simp[Instr.makeMap]
      .simp[Gh.upd]
      .simp[Gh.upd]
     .obtain⟨k1,k2⟩:=hI.newOwn hd (.map sh []) (.map #[] 0) (.map (some w.heap.size)) 0 false w ⟨rfl,rfl,rfl,rfl⟩ B0 (fun hg Io=>by
       obtain⟨u1,u2,u3,u4⟩:=Bq g d (.map (some w.heap.size)) 0 false (some w.heap.size) g.S;exact⟨u3,w.heap.size,#[],0,u4,u1,Ho w _ rfl,⟨rfl,by simp,by simp,by simp,by simp,by simp⟩,by simp,fun o ho=>by have:=hI.slt _ _ ho;omega⟩)
      refine⟨_,_,_,_,_,?_,hk,k1,k2,.mref _ d w.heap.size (by unfold AN;rw[A3];simp) ?_ ?_⟩
      .simp[Instr.makeMap]
      .simp[Gh.upd]
      .simp[Gh.upd]
    .exact hk.elim
   .exact hk.elim
  .exact hk.elim
omit hI in
theorem Br.sub{sz l m:Nat}{x:Value}{n cap:Nat}(hr:Br g w Fq (.slice .none es) x)(hx:x=.slice a n cap)(hl:∀c∈es,c.length=sz)(h1:l<=m)(h2:m<=es.length)(c' : Nat)(hc:m-l<=c')(a' : Option Addr)(ha:a'=a.map (·.add (l*sz))\/(m=l/\a'=a)):Br g w Fq (.slice .none ((es.take m).drop l)) (.slice a' (m-l) c'):=by
 subst hx;have Ca:((es.take m).drop l).length=m-l:=by rw[DP,AA];omega
 by_cases h0:m-l=0
 .have:(es.take m).drop l=[]:=AL ch
  rw[this,h0];exact .snil _ _ _
 .cases hr with
  |snil=>simp at h2;omega
  |slice _ _ b off GW cap val tD QN Dg D8=>
   have hz:GW=sz:=by
    have:(0:Nat)<es.length:=by omega
    have h3:=QN 0 es[0] (At this);rw[<-h3];exact hl _ (Aq this)
   subst hz;have ha' : a'=some ⟨b,off+l*GW,none⟩:=by
    rcases ha with h | ⟨h,_⟩
    .rw[h];simp[Addr.add_lit]
    .omega
   subst ha';rw[<-Ca];have E1:∀(i:Nat) (cs:List AV),((es.take m).drop l)[i]?=some cs->es[l+i]?=some cs:=fun i cs h=>by
    rw[CA]at h
    by_cases hi:l+i<m
    .rwa [BI hi]at h
    .rw[AQ (by rw[AA];omega)]at h;cases h
   refine .slice _ _ b (off+l*GW) GW c' (fun i j=>val (l+i) j) (by rw[Ca];exact hc) (fun i cs h=>QN _ _ (E1 i cs h)) (fun i cs j av h1 h2=>?_) (fun i cs j av h1 h2=>D8 _ _ _ _ (E1 i cs h1) h2)
   have:=Dg _ _ _ _ (E1 i cs h1) h2
   rwa [show off+(l+i)*GW+j=off+l*GW+i*GW+j by rw[E8];omega]at this
omit hI in
theorem LF{t:Nat->AV}(ht:∀x:Operand,Br g w (AN h) (ev t x) (ρ x)){o:Option Operand}{i:Option Int}(hk:Cf t o=some i):o.map ρ=i.map fun n=>.int .i64 n:=by
 cases o with
 |none=>cases hk;rfl
 |some x=>
  unfold Cf at hk;dsimp only at hk;split at hk
  .rename_i n e;cases hk
   have:=ht x
   rw[e]at this;simp[this.v_eq]
  .cases hk
omit hI in
theorem Va(b:Bool)(len cap:Nat)(lo hi mx:Option Int)(qf:mx=none\/hi≠none)(h0:0<=lo.getD 0)(h1:lo.getD 0<=hi.getD len)(h2:hi.getD len<=mx.getD cap)(h3:mx.getD cap<=cap) :
  (Instr.sliceBounds b len cap (lo.map fun n=>.int .i64 n) (hi.map fun n=>.int .i64 n) (mx.map fun n=>.int .i64 n)).run P w=.ok ((lo.getD 0).toNat,(hi.getD len).toNat,(mx.getD cap).toNat) w:=by
 have e1:∀n:Int,0<=n->(n.toNat:Int)=n:=fun n hn=>Int.toNat_of_nonneg hn;cases mx with
 |none=>
  cases hi with
  |none=>
   cases lo with
   |none=>simp[Instr.sliceBounds]
   |some l=>
    simp only[CB,Ed]at h0 h1 h2;simp[Instr.sliceBounds,run_sliceBound,h0,h1]
  |some hh=>
   simp only[CB,Ed]at h1 h2;have xM:0<=hh:=by omega
   cases lo with
   |none=>simp[Instr.sliceBounds,run_sliceBound,xM,h2]
   |some l=>
    simp only[CB]at h0 h1;simp[Instr.sliceBounds,run_sliceBound,h0,h1,h2,xM,e1]
 |some m=>
  cases hi with
  |none=>simp at qf
  |some hh=>
   simp only[CB]at h1 h2 h3;have xM:0<=hh:=by omega
   have vG:0<=m:=by omega
   cases lo with
   |none=>simp[Instr.sliceBounds,run_sliceBound,h2,h3,xM,vG,e1]
   |some l=>
    simp only[CB]at h0 h1;simp[Instr.sliceBounds,run_sliceBound,h0,h1,h2,h3,xM,vG,e1]
omit hI in
theorem E5(hT:Ci P T){ty e k:Nat}(ht:(T ty).d=.slice e)(hk:(T e).size=k+1)(a:Option Addr)(len cap:Nat)(lo hi mx:Option Int)(qf:mx=none\/hi≠none)(h0:0<=lo.getD 0)(h1:lo.getD 0<=hi.getD len)(h2:hi.getD len<=mx.getD cap)(h3:mx.getD cap<=cap) :
  (Instr.sliceAt ty (.slice a len cap) (lo.map fun n=>.int .i64 n) (hi.map fun n=>.int .i64 n) (mx.map fun n=>.int .i64 n)).run P w =
   .ok (.slice (if(mx.getD cap).toNat=(lo.getD 0).toNat then a else a.map (·.add ((lo.getD 0).toNat*(T e).size))) ((hi.getD len).toNat-(lo.getD 0).toNat) ((mx.getD cap).toNat-(lo.getD 0).toNat)) w:=by
 have hu:=hT.slice ht;have hb:=Va (P:=P) (w:=w) true len cap lo hi mx qf h0 h1 h2 h3;simp only[Instr.sliceAt,Sem.run_bind,run_underlying hu,Result.andThen_ok,Instr.slice,hb,hT.size1 w hk,Sem.run_pure];rw[hk]
theorem Dr.moveO(r r2:Nat)(Dv:r2≠r)(hf:h r2=.free)(hl:(h r).live){ob:Option Nat}(ho:∀c,ob=some c->g.own r=some c)(o' : HO)(x:Value)(n:Nat)(t:Bool)(hn:o'≠.free)
  (JX:EV g w (g.upd r2 x n t ob g.S) w->DR (g.upd r2 x n t ob g.S) w (AN (AR (AR h r .dead) r2 o')) r2 o') :
  Dr w0 g0 h0 (AR (AR h r .dead) r2 o') (g.upd r2 x n t ob g.S) w/\Le h g w (AR (AR h r .dead) r2 o') (g.upd r2 x n t ob g.S) w:=by
 have kd:KI g (g.upd r2 x n t ob g.S) (AN h):=by
  intro i hi;have e:i≠r2:=fun e=>hi (by rw[e];exact hf);refine⟨by simp[Gh.upd,e],by simp[Gh.upd,e],fun _=>by simp[Gh.upd,e],fun _=>by simp[Gh.upd,e]⟩
 have hK:EV g w (g.upd r2 x n t ob g.S) w:=fun b o hb=>⟨hb,rfl,fun _ _ h=>h⟩;have L9:∀i,AN h i->AN (AR (AR h r .dead) r2 o') i:=fun i hi=>DV hn i (DV B0 i hi);have key:∀i,i≠r2->(AR (AR h r .dead) r2 o' i).live->i≠r/\(h i).live:=fun i h2 hl=>by
  rw[BR _ _ _ _ h2]at hl
  by_cases e:i=r
  .subst e;rw[A3]at hl;exact hl.elim
  .rw[BR _ _ _ _ e]at hl;exact⟨e,hl⟩
 have own:∀i,i≠r2->(g.upd r2 x n t ob g.S).own i=g.own i:=fun i e=>by simp[Gh.upd,e]
 have UT:(g.upd r2 x n t ob g.S).own r2=ob:=by simp[Gh.upd]
 refine⟨⟨hI.os,hI.tape,hI.output,hI.size,hI.frame,hI.slt,fun i=>?_,fun i j c hi hj ei ej=>?_,fun i c hi ei=>?_,hI.sg,hI.glob.keep hK⟩,kd,L9,hK⟩
 .by_cases e:i=r2
  .subst e;rw[A3];exact JX hK
  .rw[BR _ _ _ _ e]
   by_cases e1:i=r
   .subst e1;rw[A3];trivial
   .rw[BR _ _ _ _ e1];exact(hI.objs i).same hK L9 kd (by simp[Gh.upd,e]) (by simp[Gh.upd,e]) (by simp[Gh.upd,e]) (by simp[Gh.upd,e]) (fun b hl hb=>⟨rfl,fun k hk=>hk⟩)
 .by_cases e1:i=r2<;>by_cases e2:j=r2
  .exact e1.trans e2.symm
  .subst e1;rw[UT]at ei;rw[own j e2]at ej;obtain⟨a1,a2⟩:=key j e2 hj;exact absurd (hI.inj j r _ a2 hl ej (ho _ ei)) a1
  .subst e2;rw[UT]at ej;rw[own i e1]at ei;obtain⟨a1,a2⟩:=key i e1 hi;exact absurd (hI.inj i r _ a2 hl ei (ho _ ej)) a1
  .rw[own i e1]at ei;rw[own j e2]at ej;exact hI.inj i j c (key i e1 hi).2 (key j e2 hj).2 ei ej
 .by_cases e1:i=r2
  .subst e1;rw[UT]at ei;exact hI.loc r _ hl (ho _ ei)
  .rw[own i e1]at ei;exact hI.loc i c (key i e1 hi).2 ei
theorem bu(hT:Ci P cx.T){d:Option Nat}{ty:Nat}{t:Nat->AV}(ht:∀x:Operand,Br g w (AN h) (ev t x) (ρ x)){lo mx:Option Operand}(hx:Br g w (AN h) x vx)(hk:U6 cx d h ty x (Cf t lo) hi mx K):Ok P w0 g0 h0 h g w (Instr.sliceAt ty vx (lo.map ρ) (hi.map ρ) (mx.map ρ)) K:=by
 unfold U6 at hk;split at hk
 .rename_i d Ia e1;rw[LF ht e1];split at hk
  .rename_i e hs;split at hk
   .exact hk.elim
   .rename_i k D5;split at hk
    .rename_i r sz es;split at hk
     .rename_i GW n e0;split at hk
      .rename_i hd;split at hk
       .rename_i q1 q2;obtain rfl:=AM q1;have q2:=AM q2;obtain⟨⟨rfl,h1,h2⟩,hk⟩:=hk;have hl:(h r).live:=by rw[e0];trivial
        have Dv:Ki cx d≠r:=fun e=>by rw[e,e0]at hd;cases hd
        have ho:=hI.objs r;rw[e0]at ho;obtain⟨t1,l1,a,cap,a1,a3⟩:=ho;have hr:=hx.slice_none;cases hx with
        |tok _ _ _ _ _ SH Y1 hu ht' hn ME=>
         have hv:=ME l1.symm;rw[a1]at hv;subst hv;have eG:es.length<=cap:=by rcases a3 with ⟨e1,_⟩ | ⟨e1,_⟩<;>omega
         have CI:=E5 (P:=P) (w:=w) hT hs D5 a es.length cap (some Ia) none none (.inl rfl) h1 h2 (by simp only[Ed];omega) B0;simp only[CB,Ed,BE]at CI;have Ca:(es.drop Ia.toNat).length=es.length-Ia.toNat:=DP;have mv:=Br.sub (c':=cap-Ia.toNat) hr rfl Y1 (l:=Ia.toNat) (m:=es.length) ch (Ai _) ch (if cap=Ia.toNat then a else a.map (·.add (Ia.toNat*(cx.T e).size))) (by
          split
          .exact .inr ⟨by omega,rfl⟩
          .rw[q2];exact .inl rfl)
         rw[CK]at mv
         have fin:∀ob:Option Nat,(∀c,ob=some c->g.own r=some c)->(es.length-Ia.toNat=cap-Ia.toNat/\ob=none\/es.length-Ia.toNat<=cap-Ia.toNat/\∃b E vs off,(if cap=Ia.toNat then a else a.map (·.add (Ia.toNat*(cx.T e).size)))=some ⟨b,off,none⟩/\ob=some b/\RQ w b vs E/\vs.size=off+(cap-Ia.toNat)*GW/\∀o,g.S b o->o<off+(es.length-Ia.toNat)*GW) ->
           Ok P w0 g0 h0 h g w (Instr.sliceAt ty (.slice a es.length cap) ((some Ia).map fun n=>.int .i64 n) ((none:Option Operand).map ρ) ((none:Option Operand).map ρ)) K:=fun ob ho af=>by
          obtain⟨k1,k2⟩:=hI.moveO r (Ki cx d) Dv hd hl ho (.tok GW (es.drop Ia.toNat).length) (.slice (if cap=Ia.toNat then a else a.map (·.add (Ia.toNat*(cx.T e).size))) (es.length-Ia.toNat) (cap-Ia.toNat)) (es.length-Ia.toNat) true B0 (fun Io=>by
           obtain⟨u1,u2,u3,u4⟩:=Bq g (Ki cx d) (.slice (if cap=Ia.toNat then a else a.map (·.add (Ia.toNat*(cx.T e).size))) (es.length-Ia.toNat) (cap-Ia.toNat)) (es.length-Ia.toNat) true ob g.S;refine⟨u3,u2.trans Ca.symm,_,_,by rw[Ca];exact u1,?_⟩;rw[Ca,u4];exact af)
          exact⟨_,w,_,_,_,CI,hk,k1,k2,.tok _ _ _ _ _ (((mv.mono k2.keeps (fun _ h=>h) (fun _ h=>h.elim))).up _) (fun c hc=>Y1 c (IV hc)) (by unfold AN;rw[A3];simp) (by simp[Gh.upd]) (by simp[Gh.upd]) (fun _=>by simp[Gh.upd])⟩
         rcases a3 with ⟨e1,e2⟩ | ⟨e1,b,E,vs,off,rfl,e3,e4,e5,e6⟩
         .exact fin none (fun c h=>by cases h) (.inl ⟨by omega,rfl⟩)
         .by_cases hc:cap=Ia.toNat
          .exact fin none (fun c h=>by cases h) (.inl ⟨by omega,rfl⟩)
          .refine fin (some b) (fun c h=>by cases h;exact e3) (.inr ⟨by omega,b,E,vs,off+Ia.toNat*GW,?_,rfl,e4,?_,fun o ho=>?_⟩)
           .rw[Ah hc];simp[Addr.add_lit,q2]
           .rw[e5,Nat.sub_mul]
            have:=Bh GW (show Ia.toNat<=cap by omega)
            omega
           .have:=e6 o ho
            rw[Nat.sub_mul]
            have:=Bh GW (show Ia.toNat<=es.length by omega)
            omega
       .exact hk.elim
      .exact hk.elim
     .exact hk.elim
    .exact hk.elim
  .exact hk.elim
 .exact hk.elim
omit hI in
theorem Ow{sz:Nat}:∀{es:List (List AV)},(∀cs∈es,cs.length=sz)->∀k,(es.take k).flatten=es.flatten.take (k*sz)
 | [],_,k=>by simp
 |c::es,hl,0=>by simp
 |c::es,hl,k+1=>by
  have h1:=hl c (Ab ..);have h2:c.length<=k*sz+sz:=by omega
  rw[Jy,Bu,Bu,Ow (fun x hx=>hl x (Ae _ hx)) k,List.take_append,h1,Ec,
   AB h2,show k*sz+sz-sz=k*sz by omega]
omit hI in
theorem CJ.takeE{U:Nat->Prop}{sz k:Nat}{vs:List Value}(hl:∀cs∈es,cs.length=sz)(hk:k<=es.length)(h:CJ g w U es.flatten (vs.take (es.length*sz))):CJ g w U (es.take k).flatten (vs.take (k*sz)):=by
 have e:vs.take (k*sz)=(vs.take (es.length*sz)).take (k*sz):=by
  rw[La,Nat.min_eq_left (Bh _ hk)]
 rw[Ow hl,e];refine⟨by rw[AA (l:=vs.take (es.length*sz)),h.1,AA],fun x hx=>h.2.1 x (DG hx),fun i av x q1 q2=>?_⟩;have hi:i<k*sz:=by
  rcases BT i (k*sz)with q | q
  .exact q
  .rw[Gn,Ah ch]at q1;cases q1
 rw[Gn,As hi]at q1 q2;exact h.2.2 i av x q1 q2
theorem fB(hT:Ci P cx.T){d:Option Nat}{ty:Nat}{t:Nat->AV}(ht:∀x:Operand,Br g w (AN h) (ev t x) (ρ x))(hx:Br g w (AN h) x vx)(hk:nG cx d h ty x (Cf t hi) K):Ok P w0 g0 h0 h g w (Instr.sliceAt ty vx none (hi.map ρ) none) K:=by
 unfold nG at hk;split at hk
 .rename_i d MJ e1;rw[LF ht e1];split at hk
  .rename_i e hs;split at hk
   .exact hk.elim
   .rename_i k D5;split at hk
    .rename_i r n;split at hk
     .rename_i sz es e0;split at hk
      .rename_i hd;split at hk
       .rename_i q1 q3;have q1:=AM q1;obtain⟨⟨rfl,h1,h2⟩,hk⟩:=hk;have hl:(h r).live:=by rw[e0];trivial
        have Dv:Ki cx d≠r:=fun e=>by rw[e,e0]at hd;cases hd
        have ho:=hI.objs r;rw[e0]at ho;obtain⟨t1,l1,al,a2⟩:=ho;have Ca:(es.take MJ.toNat).length=MJ.toNat:=by rw[AA];omega
        cases hx with
        |msl _ _ _ a cap hu ht' ae ha ME=>
         have hv:=ME l1.symm;have KO:es.length<=cap:=by
          rcases a2 with ⟨b1,_,_⟩ | ⟨b,Ln,E,vs,b1,_,b3,_⟩
          .subst b1;exact AE _
          .rw[b1]at hv;cases hv;exact b3
         have CI:=E5 (P:=P) (w:=w) hT hs D5 a es.length cap none (some MJ) none (.inl rfl) B0 (by simp only[Ed,CB];exact h1) (by simp only[CB,Ed];omega) B0;have Mu:(if cap-(0:Nat)=0 then a else a.map (·.add (0*(cx.T e).size)))=a:=by
          rw[HT];split
          .rfl
          .rcases ha with e3 | ⟨b,rfl⟩
           .cases a with
            |none=>rfl
            |some a=>simp[Addr.add]
           .rfl
         simp only[CB,Ed,BE,Int.toNat_zero,Nat.sub_zero]at CI Mu;have key:∃a',(Instr.sliceAt ty (.slice a es.length cap) ((none:Option Int).map fun n=>.int .i64 n) ((some MJ).map fun n=>.int .i64 n) ((none:Option Int).map fun n=>.int .i64 n)).run P w=.ok (.slice a' MJ.toNat cap) w/\(a'=a):=⟨_,CI,by first | exact Mu | (split<;>first | rfl | exact Mu | (simp_all))⟩
         obtain⟨a',CI,rfl⟩:=key;have Kj:Br (g.upd (Ki cx d) (.slice a' MJ.toNat cap) MJ.toNat true (g.own r) g.S) w (AN (AR (AR h r .dead) (Ki cx d) (.arr sz (es.take MJ.toNat)))) (.msl (Ki cx d) MJ.toNat) (.slice a' MJ.toNat cap):=
          .msl _ _ _ _ _ (by unfold AN;rw[A3];simp) (by simp[Gh.upd]) (by simp[Gh.upd]) (ha.elim (fun e=>.inl ch) .inr) (fun _=>by simp[Gh.upd])
         obtain⟨k1,k2⟩:=hI.moveO r (Ki cx d) Dv hd hl (ob:=g.own r) (fun c h=>h) (.arr sz (es.take MJ.toNat)) (.slice a' MJ.toNat cap) MJ.toNat true B0 (fun Io=>by
          obtain⟨u1,u2,u3,u4⟩:=Bq g (Ki cx d) (.slice a' MJ.toNat cap) MJ.toNat true (g.own r) g.S;refine⟨u3,u2.trans Ca.symm,fun c hc=>al c (DG hc),?_⟩;rcases a2 with ⟨b1,b2,b3⟩ | ⟨b,Ln,E,vs,b1,b2,b3,b4,b5,b6,b7⟩
          .subst b1;rw[b2]at hv;cases hv;have h0:MJ.toNat=0:=by simp only[Ax]at h2;omega
           exact .inl ⟨List.take_nil,by rw[u1,h0],u4.trans b3⟩
          .rw[b1]at hv;cases hv;refine .inr ⟨b,cap,E,vs,by rw[Ca];exact u1,u4.trans b2,by rw[Ca];omega,b4,b5,?_,b7⟩;rw[Ca];exact(CJ.takeE al ch b6).mono Io (fun _ h=>h) (fun _ h=>h.elim))
         exact⟨_,w,_,_,_,CI,hk,k1,k2,Kj⟩
       .exact hk.elim
      .exact hk.elim
     .exact hk.elim
    .exact hk.elim
  .exact hk.elim
 .exact hk.elim
theorem Xe(hT:Ci P cx.T){d:Option Nat}{ty:Nat}{t:Nat->AV}(ht:∀x:Operand,Br g w (AN h) (ev t x) (ρ x)){lo mx:Option Operand}(hx:Br g w (AN h) x vx)(hk:GT cx d h ty x (Cf t lo) (Cf t hi) (Cf t mx) K):Ok P w0 g0 h0 h g w (Instr.sliceAt ty vx (lo.map ρ) (hi.map ρ) (mx.map ρ)) K:=by
 unfold GT at hk;split at hk
 .rename_i Ia MJ r9 e1 e2 e3;rw[LF ht e1,LF ht e2,LF ht e3];split at hk
  .rename_i hs;split at hk
   .rename_i s;obtain⟨⟨h1,h2,h3⟩,hk⟩:=hk;obtain rfl:=hx.v_eq;have hb:=Va (P:=P) (w:=w) false s.size s.size Ia MJ none (.inl rfl) h1 h2 (by simpa using h3) B0;refine(BF.val (x:=.string (s.extract (Ia.getD 0).toNat (MJ.getD s.size).toNat)) ?_ hk).does hI;simp only[Instr.sliceAt,Sem.run_bind,run_underlying (hT.string hs),Result.andThen_ok,Instr.slice];simp only[Option.map_none,Pa,CM,FZ]at hb⊢;simp only[Sem.run_bind,hb,Result.andThen_ok,Sem.run_pure]
   .exact hk.elim
  .rename_i e hs;split at hk
   .exact hk.elim
   .rename_i k D5;split at hk
    .rename_i tk es;have hr:=hx.slice_none;obtain⟨a,cap,hv,KO⟩:∃a cap,vx=.slice a es.length cap/\es.length<=cap:=by
      cases hr with
      |snil _ a cap=>exact⟨a,cap,rfl,AE _⟩
      |slice _ _ b off sz cap val hc=>exact⟨_,cap,rfl,hc⟩
     subst hv;split at hk
     .obtain⟨⟨h1,h2,h3⟩,hl,hk⟩:=hk;have CI:=E5 (P:=P) (w:=w) hT hs D5 a es.length cap Ia MJ none (.inl rfl) h1 h2 (by simp only[Ed];omega) B0;refine BF.does hI ⟨_,_,CI,hk,(Br.sub (c':=cap-(Ia.getD 0).toNat) hr rfl hl (l:=(Ia.getD 0).toNat) (m:=(MJ.getD es.length).toNat) ch ch (by simp;omega) _ ?_).up _⟩;split
      .rename_i e;simp only[Ed,BE]at e;exact .inr ⟨by omega,rfl⟩
      .exact .inl rfl
     .rename_i m;split at hk
      .rename_i d hh;split at hk
       .obtain⟨⟨h1,h2,rfl,h3⟩,hl,hk⟩:=hk;have CI:=E5 (P:=P) (w:=w) hT hs D5 a es.length cap Ia (some m) (some m) (.inr B0) h1 h2 B0 (by simp only[CB];omega);simp only[CB]at CI;have Ca:((es.take m.toNat).drop (Ia.getD 0).toNat).length=m.toNat-(Ia.getD 0).toNat:=by rw[DP,AA];omega
        refine BF.does hI ⟨_,_,CI,hk,.full _ _ _ _ ((Br.sub (c':=m.toNat-(Ia.getD 0).toNat) hr rfl hl (l:=(Ia.getD 0).toNat) (m:=m.toNat) ch ch ch _ ?_).up _) (fun c hc=>hl c (DG (IV hc))) ⟨_,by rw[Ca]⟩⟩;split
        .rename_i e;exact .inr ⟨e,rfl⟩
        .exact .inl rfl
       split at hk
       .rename_i hd;obtain⟨⟨h1,h2,rfl,h3⟩,hl,hk⟩:=hk;have CI:=E5 (P:=P) (w:=w) hT hs D5 a es.length cap Ia (some m) (some m) (.inr B0) h1 h2 B0 (by simp only[CB];omega);simp only[CB]at CI
        obtain⟨g',k1,k2,k3⟩:=OJ hI (sz:=(cx.T e).size) (n:=m.toNat-(Ia.getD 0).toNat) hd (es:=(es.take m.toNat).drop (Ia.getD 0).toNat) (fun c hc=>hl c (DG (IV hc))) (by rw[DP,AA];omega)
         (Br.sub (c':=m.toNat-(Ia.getD 0).toNat) hr rfl hl (l:=(Ia.getD 0).toNat) (m:=m.toNat) ch ch ch (if m.toNat=(Ia.getD 0).toNat then a else a.map (·.add ((Ia.getD 0).toNat*(cx.T e).size))) (by
          split
          .rename_i e;exact .inr ⟨e,rfl⟩
          .exact .inl rfl))
        exact⟨_,w,g',_,_,CI,hk,k1,k2,k3⟩
       .exact hk.elim
      .exact hk.elim
    .obtain⟨⟨h1,h2,h3⟩,h4,hk⟩:=hk;obtain rfl:=hx.v_eq;have CI:=E5 (P:=P) (w:=w) hT hs D5 none 0 0 Ia MJ r9 h4 ch (by simp only[Jc]at *;omega) (by simp only[Jc]at *;omega) (by simp only[Jc]at *;omega);refine BF.does hI (BF.val (x:=.slice none 0 0) ?_ hk);rw[CI];simp only[h1,Jc,h2,h3];simp
    .rename_i r n;split at hk
     .rename_i sz es e0;split at hk
      .rename_i Sd;obtain rfl:=AM Sd;obtain⟨⟨h1,h2,h3,h4,h5⟩,hk⟩:=hk;have ho:=hI.objs r;rw[e0]at ho;obtain⟨t1,l1,al,a3⟩:=ho;have hl:(h r).live:=by rw[e0];trivial
       have x7:r9=none\/MJ≠none:=h5.imp id (fun q=>q.2);cases hx with
       |msl _ _ _ a cap hu ht' hn ha ME=>
        have hv:=ME (h1.trans l1.symm);subst h1;have qf:∀c:Nat,es.length<=c->MJ.getD es.length<=r9.getD c/\r9.getD c<=c:=fun c hc=>by
         rcases h5 with h5 | ⟨h5,Dv⟩
         .rw[h5];simp only[Ed];omega
         .obtain⟨m,hm⟩:=Option.ne_none_iff_exists'.1 Dv;rw[h5,hm];rw[hm]at h3 h4;simp only[CB]at h3 h4⊢;omega
        rcases a3 with ⟨rfl,q2,q3⟩ | ⟨b,Ln,E,vs,q1,q2,q3,q4,q5,q6,q7⟩
        .rw[q2]at hv;cases hv;have CI:=E5 (P:=P) (w:=w) hT hs D5 none 0 0 Ia MJ r9 x7 h2 h3 (qf 0 B0).1 (qf 0 B0).2
         obtain⟨k1,k2⟩:=hI.upd r .dead (g.ρ r) (g.ln r) (g.tk r) (g.own r) g.S w none ⟨rfl,rfl,rfl,Ai _⟩ (fun _ _ _=>rfl) (fun b e=>by cases e) (fun _ _ h=>h) (fun _ _ h=>.inl h) (fun b o e=>by cases e) (fun b hh _=>by cases hh) B0
          (fun _=>⟨rfl,Ai _,fun _=>rfl,fun _=>rfl⟩) (fun _ _=>trivial)
         refine⟨_,w,_,_,_,CI,hk,k1,k2,?_⟩;have z1:((Ia.getD 0).toNat)=0:=by simp only[Ax,Jc]at h3 h4;omega
         have z2:((MJ.getD (([]:List (List AV)).length:Int)).toNat)=0:=by simp only[Ax,Jc]at h3 h4⊢;omega
         simp only[List.take_nil,List.drop_nil];have z3:((MJ.getD ((0:Nat):Int)).toNat)=0:=z2;rw[z1,z3];exact .snil _ _ _
        .rw[q1]at hv;cases hv;have CI:=E5 (P:=P) (w:=w) hT hs D5 (some ⟨b,0,none⟩) es.length cap Ia MJ r9 x7 h2 h3 (qf _ q3).1 (qf _ q3).2;have ig:=(hI.loc r b hl q2).1
         obtain⟨k1,k2⟩:=hI.upd r .dead (g.ρ r) (g.ln r) (g.tk r) (g.own r) (g.more b (es.length*(cx.T e).size)) w none ⟨rfl,rfl,rfl,Ai _⟩ (fun _ _ _=>rfl) (fun b e=>by cases e) (fun _ _ h=>.inl h)
          (fun b' o hs=>hs.elim .inl (fun hs=>.inr ⟨by rw[hs.1];exact ig,.inr ⟨hl,by rw[hs.1];exact q2⟩⟩)) (fun b o e=>by cases e) (fun b hh _=>by cases hh) B0
          (fun _=>⟨rfl,Ai _,fun _=>rfl,fun _=>rfl⟩) (fun _ _=>trivial)
         have D8:=Br.slice_row (g:=g.upd r (g.ρ r) (g.ln r) (g.tk r) (g.own r) (g.more b (es.length*(cx.T e).size))) (U:=Fq) q4 al q3 (q6.mono k2.keeps (fun _ h=>h) (fun _ h=>h.elim)) (fun o ho=>.inr ⟨rfl,ho⟩);have Agg:=qf _ q3;refine⟨_,w,_,_,_,CI,hk,k1,k2,(Br.sub (c':=(r9.getD cap).toNat-(Ia.getD 0).toNat) D8 rfl al (l:=(Ia.getD 0).toNat) (m:=(MJ.getD es.length).toNat) ch ch ch _ ?_).up _⟩;split
         .rename_i e;exact .inr ⟨by omega,rfl⟩
         .exact .inl rfl
      .exact hk.elim
     .exact hk.elim
    .exact hk.elim
  .exact hk.elim
 .exact hk.elim
theorem VT(hT:Ci P cx.T){d:Option Nat}{ty:Nat}{n c:AV}{vn vc:Value}(hn:Br g w (AN h) n vn)(hc:Br g w (AN h) c vc)(hk:J0 cx d h ty n c K) :
  Ok P w0 g0 h0 h g w (Instr.makeSlice ty vn vc) K:=by
 unfold J0 at hk;split at hk
 .rename_i e n c hs;obtain rfl:=hn.v_eq;obtain rfl:=hc.v_eq;split at hk
  .rename_i PJ;split at hk
   .rename_i QQ;have QQ:=AM QQ;split at hk
    .exact hk.elim
    .rename_i k D5;obtain⟨⟨h1,h2,h3,h4⟩,hk⟩:=hk;obtain⟨i,z,i1,i2,i3,i4,i5⟩:=H1 hT D5;have qq:(cx.T e).zc≠[]:=fun e0=>by rw[e0]at QQ;rw[D5]at QQ;cases QQ
     have wn:IntKind.i64.wrap n=n:=NP ⟨by omega,by omega⟩;have wc:IntKind.i64.wrap c=c:=NP ⟨by omega,by omega⟩;have FN:∀l:List AV,(∀a∈l,one a=true)->G7 l=true:=by
      intro l
      induction l with
      |nil=>intro _;rfl
      |cons a l ih=>intro h;simp[G7,h a (List.mem_cons_self ..),ih (fun b hb=>h b (List.mem_cons_of_mem _ hb))]
     have ua:((Array.range (c.toNat*(cx.T e).size)).map fun k=>z.cells[k % z.cells.size]!).toList=(List.replicate c.toNat (cx.T e).zc).flatten:=by
      rw[Ig c.toNat _ qq,QQ,i5];have e6:z.cells.size=(cx.T e).size:=by rw[<-QQ,i5];simp
      simp[e6,Array.getElem!_eq_getD]
     have hzs:(cx.T e).zc.length=(cx.T e).size:=QQ;have zN:∀c'∈List.replicate c.toNat (cx.T e).zc,c'.length=(cx.T e).size:=fun c' hc=>by rw[Ck hc];exact QQ
     have AbQ : ∀c'∈List.replicate n.toNat ((cx.T e).zc.map AV.v),c'.length=(cx.T e).size:=fun c' hc=>by rw[Ck hc,AS];exact QQ
     have AbR:∀c'∈List.replicate n.toNat (cx.T e).zc,c'.length=(cx.T e).size:=fun c' hc=>by rw[Ck hc];exact QQ
     obtain⟨g',av,h',q1,q2,q3,q4⟩:=KB hI hk (vs:=(Array.range (c.toNat*(cx.T e).size)).map fun k=>z.cells[k % z.cells.size]!) (cap:=c.toNat) e AbQ (by rw[Bv];omega) B0 (by
      rw[ua,Bv];have e1:(List.replicate n.toNat ((cx.T e).zc.map AV.v)).flatten=(List.replicate n.toNat (cx.T e).zc).flatten.map AV.v:=by
       rw[Tr,List.map_replicate]
      have e2:(List.replicate c.toNat (cx.T e).zc).flatten.take (n.toNat*(cx.T e).size)=(List.replicate n.toNat (cx.T e).zc).flatten:=by
       obtain⟨m,hm⟩:∃m,c.toNat=n.toNat+m:=⟨c.toNat-n.toNat,by omega⟩;rw[hm,<-List.replicate_append_replicate,Cs,Ev (by rw[Dm AbR,Bv])]
      rw[e1,e2];refine CJ.vals (FN _ (fun a ha=>?_));obtain⟨x,hx,rfl⟩:=Ak.1 ha;obtain⟨l,hl,hx⟩:=DQ.1 hx;rw[Ck hl]at hx;exact Nr PJ _ (Ak.2 ⟨x,hx,rfl⟩)) w ⟨rfl,rfl,rfl,rfl⟩
     rw[Bv]at q4;refine⟨_,_,g',av,h',?_,q1,q2,q3,q4⟩;have xy:¬((cx.T e).bytes*c>2 ^ 48):=by rw[Int.mul_comm];omega
     have mf:((decide (c<0)||decide (((cx.T e).bytes:Int)*c>2 ^ 48))||decide (n<0)||decide (n>c))=false:=by
      simp only[MK,Hk];exact⟨⟨⟨by omega,xy⟩,by omega⟩,by omega⟩
     simp only[Instr.makeSlice,Sem.run_bind,run_underlying (hT.slice hs),Result.andThen_ok,asInt,asIntOf,Sem.run_pure,typeInfo,run_program,i1,i4,wn,wc,mf,CM,FZ,run_askRoom,hT.size1 w D5]
     by_cases hz:c.toNat*(k+1)=0
     .have pZ:c.toNat=0:=by
       rcases Nat.mul_eq_zero.1 hz with h | h
       .exact h
       .cases h
      rw[pZ];simp only[HT,OD];simp only[show Array.range 0=#[]from rfl,Array.map_empty];simp[newRow]
     .simp only[Ah hz,Sem.run_bind,zeroValue,typeInfo,run_program,i1,i2,Result.andThen_ok,Sem.run_pure];rw[D5];simp[newRow]
   .exact hk.elim
  .exact hk.elim
 .exact hk.elim
end
end Go.Eng
namespace Go.Eng
open Go.ChangeMaps (setBlock)
variable {B7:List (Value×AV)}{es:Array MapEntry}{sh:EN}{vx:Value}{α β:Type}{f:α->β}{l:List α}{ck:Nat}{w:World}{k x y:Value}{a:AV}{K:HK}{r:Nat}{o':Obj}{j:Nat}{v:AV}{T:GV}
theorem VU{o:Obj}(h:w.heap[r]?=some o):(setBlock w r o').heap[r]?=some o':=by
 have:=(Be.1 h).1
 simp[setBlock,this]
theorem Vd{k:Nat}(h:k≠r):(setBlock w r o').heap[k]?=w.heap[k]?:=by
 simp[setBlock,Ne.symm h]
theorem Oi(w:World)(r:Nat)(o' : Obj):(setBlock w r o').heap.size=w.heap.size:=by simp[setBlock]
theorem PS(h:(l.map f).Nodup):l.Nodup:=by
 induction l with
 |nil=>exact Fz
 |cons c l ih=>
  rw[AK,CN]at h;exact CN.2 ⟨fun hc=>h.1 (Ak.2 ⟨c,hc,rfl⟩),ih h.2⟩
theorem WP(h:(l.map f).Nodup){i:Nat}{a b:α}(ha:l[i]?=some a)(hb:l[j]?=some b)(he:f a=f b):i=j:=by
 induction l generalizing i j with
 |nil=>simp at ha
 |cons c l ih=>
  rw[AK,CN]at h;cases i with
  |zero=>
   cases j with
   |zero=>rfl
   |succ j=>
    simp only[A4,Bk,EH]at ha hb;exact absurd (Ak.2 ⟨b,Av hb,by rw[<-he,ha]⟩) h.1
  |succ i=>
   cases j with
   |zero=>
    simp only[A4,Bk,EH]at ha hb;exact absurd (Ak.2 ⟨a,Av ha,by rw[he,hb]⟩) h.1
   |succ j=>exact Aa (·+1) (ih h.2 ha hb)
open Classical in
theorem Rd{b:AV}(h:(k,b)∈B7):Ff B7 k a=B7.map fun p=>if p.1=k then(k,a)else p:=As ⟨b,h⟩
open Classical in
theorem NF(h:∀b,(k,b)∉B7):Ff B7 k a=B7++[(k,a)]:=Ah (fun⟨b,e⟩=>h b e)
theorem WK(f:AV->AV)(h:HE sh es ck B7):HE sh es ck (B7.map fun p=>(p.1,f p.2)):=by
 obtain⟨h1,h2,h3,h4,h5,h6⟩:=h;refine⟨by simp[h1],fun i kv e q1 q2=>?_,fun kv Qp=>?_,?_,h5,h6⟩
 .rw[Aw]at q1;obtain⟨p,q3,rfl⟩:=AD.1 q1;exact h2 i p e q3 q2
 .obtain⟨p,hp,rfl⟩:=Ak.1 Qp;exact h3 p hp
 .rw[Bw];exact h4
theorem PN(h:HE sh es ck B7)(hj:B7[j]?=some (x,a)) :
  HE sh (es.modify j fun e=>{ e with key:=x,val:=y }) ck (Ff B7 x v) /\
   ∀(i:Nat) (kv:Value×AV) (e:MapEntry),(Ff B7 x v)[i]?=some kv->(es.modify j fun e=>{ e with key:=x,val:=y })[i]?=some e ->
    (kv.2=v/\e.val=y)\/(B7[i]?=some kv/\es[i]?=some e):=by
 classical
 rw[Rd (Av hj)];obtain⟨h1,h2,h3,h4,h5,h6⟩:=h;have hm:∀i e,(es.modify j fun e=>{ e with key:=x,val:=y })[i]?=some e->∃e0,es[i]?=some e0/\e.born=e0.born/\(if i=j then e.key=x/\e.val=y else e=e0):=by
  intro i e he;rw[Array.getElem?_modify]at he;split at he
  .rename_i e1;subst e1;obtain⟨e0,q1,q2⟩:=AD.1 he;exact⟨e0,q1,by rw[<-q2],by rw[As rfl,<-q2];exact⟨rfl,rfl⟩⟩
  .rename_i e1;exact⟨e,he,rfl,by rw[Ah (fun q=>e1 q.symm)]⟩
 have hk:∀i kv,(B7.map fun p=>if p.1=x then(x,v)else p)[i]?=some kv->∃p,B7[i]?=some p/\kv.1=p.1/\(if i=j then kv.2=v else kv=p):=by
  intro i kv Qp;rw[Aw]at Qp;obtain⟨p,q1,q2⟩:=AD.1 Qp;refine⟨p,q1,?_⟩
  by_cases e:p.1=x
  .rw[As e]at q2;subst q2
   have:=WP h4 q1 hj e
   exact⟨e.symm,by rw[As this]⟩
  .rw[Ah e]at q2;subst q2;refine⟨rfl,?_⟩;rw[Ah];intro e2;subst e2;rw[q1]at hj;cases hj;exact e rfl
 have xX:(B7.map fun p=>if p.1=x then(x,v)else p).map (·.1)=B7.map (·.1):=by
  rw[Bw];apply Ba;intro p _;simp only[Function.comp];split
  .rename_i e;exact e.symm
  .rfl
 refine⟨⟨by simp[h1],fun i kv e q1 q2=>?_,fun kv Qp=>?_,by rw[xX];exact h4,fun i e q=>?_,fun i i' e e' q q' hb=>?_⟩,fun i kv e q1 q2=>?_⟩
 .obtain⟨p,p1,p2,p3⟩:=hk i kv q1;obtain⟨e0,r1,r2,r3⟩:=hm i e q2
  have:=h2 i p e0 p1 r1
  split at r3
  .rename_i ij;subst ij;rw[hj]at p1;cases p1;rw[r3.1,p2]
  .rw[r3,p2];exact this
 .obtain⟨i,hi⟩:=Cg.1 Qp;obtain⟨p,p1,p2,p3⟩:=hk i kv hi;rw[p2];exact h3 p (Av p1)
 .obtain⟨e0,r1,r2,_⟩:=hm i e q;rw[r2];exact h5 i e0 r1
 .obtain⟨e0,r1,r2,_⟩:=hm i e q;obtain⟨e1,s1,s2,_⟩:=hm i' e' q';exact h6 i i' e0 e1 r1 s1 (by rw[<-r2,<-s2];exact hb)
 .obtain⟨p,p1,p2,p3⟩:=hk i kv q1;obtain⟨e0,r1,r2,r3⟩:=hm i e q2;split at r3
  .rename_i ij;rw[As ij]at p3;exact .inl ⟨p3,r3.2⟩
  .rename_i ij;rw[Ah ij]at p3;exact .inr ⟨by rw[p3];exact p1,by rw[r3];exact r1⟩
theorem UG(h:HE sh es ck B7)(hx:Xd sh x=true)(hn:∀a,(x,a)∉B7) :
  HE sh (es.push { key:=x,val:=y,born:=ck }) (ck+1) (Ff B7 x v) /\
   ∀(i:Nat) (kv:Value×AV) (e:MapEntry),(Ff B7 x v)[i]?=some kv->(es.push { key:=x,val:=y,born:=ck })[i]?=some e ->
    (kv.2=v/\e.val=y)\/(B7[i]?=some kv/\es[i]?=some e):=by
 rw[NF hn];obtain⟨h1,h2,h3,h4,h5,h6⟩:=h;have hm:∀i e,(es.push { key:=x,val:=y,born:=ck })[i]?=some e->(es[i]?=some e/\i<es.size)\/(i=es.size/\e={ key:=x,val:=y,born:=ck }):=by
  intro i e he;rw[Array.getElem?_push]at he;split at he
  .rename_i q;cases he;exact .inr ⟨q,rfl⟩
  .exact .inl ⟨he,(Be.1 he).1⟩
 have hk:∀i kv,(B7++[(x,v)])[i]?=some kv->(B7[i]?=some kv/\i<es.size)\/(i=es.size/\kv=(x,v)):=by
  intro i kv Qp;rw[ML]at Qp;split at Qp
  .rename_i q;exact .inl ⟨Qp,by omega⟩
  .rename_i q
   have:i-B7.length=0:=by
    have:=(Ar.1 Qp).1
    simp at this;omega
   rw[this]at Qp;simp at Qp;exact .inr ⟨by omega,Qp.symm⟩
 refine⟨⟨by simp[h1],fun i kv e q1 q2=>?_,fun kv Qp=>?_,?_,fun i e q=>?_,fun i i' e e' q q' hb=>?_⟩,fun i kv e q1 q2=>?_⟩
 .rcases hk i kv q1 with ⟨p1,p2⟩ | ⟨p1,p2⟩<;>rcases hm i e q2 with ⟨r1,r2⟩ | ⟨r1,r2⟩
  .exact h2 i kv e p1 r1
  .omega
  .omega
  .rw[p2,r2]
 .rcases AT.1 Qp with q | q
  .exact h3 kv q
  .rw[Aj.1 q];exact hx
 .rw[Az,GK];refine⟨h4,by simp,fun a ha b hb e=>?_⟩;simp only[AK,Eb,Aj]at hb;obtain⟨p,p1,p2⟩:=Ak.1 ha;refine hn p.2 ?_
  have:p=(x,p.2):=by rw[<-hb,<-e,<-p2]
  rw[<-this];exact p1
 .rcases hm i e q with ⟨r1,_⟩ | ⟨_,r2⟩
  .have:=h5 i e r1;omega
  .rw[r2];exact Gf _
 .rcases hm i e q with ⟨r1,_⟩ | ⟨r1,r2⟩<;>rcases hm i' e' q' with ⟨s1,_⟩ | ⟨s1,s2⟩
  .exact h6 i i' e e' r1 s1 hb
  .have:=h5 i e r1;rw[s2]at hb;dsimp only at hb;omega
  .have:=h5 i' e' s1;rw[r2]at hb;dsimp only at hb;omega
  .omega
 .rcases hk i kv q1 with ⟨p1,p2⟩ | ⟨p1,p2⟩<;>rcases hm i e q2 with ⟨r1,r2⟩ | ⟨r1,r2⟩
  .exact .inr ⟨p1,r1⟩
  .omega
  .omega
  .exact .inl ⟨by rw[p2],by rw[r2]⟩
section
variable {P:Program}{w0:World}{g0:Gh}{h0 h:Nat->HO}{g:Gh}{w:World}(hI:Dr w0 g0 h0 h g w)
include hI
theorem Dr.swap{r b:Nat}(hl:(h r).live)(ho:g.own r=some b)(hn:∀o,¬g.S b o)(o' : HO){ob:Obj}(hb:w.heap[b]?=some ob)(ob' : Obj)(w1:World)(LN:w1.heap=w.heap/\w1.os=w.os/\w1.tape=w.tape/\w1.output=w.output)(Dv:o'≠.free)
  (JX:KI g (g.upd r (g.ρ r) (g.ln r) (g.tk r) (g.own r) g.S) (AN h)->EV g w (g.upd r (g.ρ r) (g.ln r) (g.tk r) (g.own r) g.S) (setBlock w1 b ob')->(setBlock w1 b ob').heap[b]?=some ob' ->
   (∀k,k≠b->(setBlock w1 b ob').heap[k]?=w.heap[k]?) ->
   DR (g.upd r (g.ρ r) (g.ln r) (g.tk r) (g.own r) g.S) (setBlock w1 b ob') (AN (AR h r o')) r o') :
  Dr w0 g0 h0 (AR h r o') (g.upd r (g.ρ r) (g.ln r) (g.tk r) (g.own r) g.S) (setBlock w1 b ob')/\Le h g w (AR h r o') (g.upd r (g.ρ r) (g.ln r) (g.tk r) (g.own r) g.S) (setBlock w1 b ob'):=by
 have Dx:=(hI.loc r b hl ho).1;have ER:(setBlock w1 b ob').heap[b]?=some ob':=VU (by rw[LN.1];exact hb);have cL:∀k,k≠b->(setBlock w1 b ob').heap[k]?=w.heap[k]?:=fun k hk=>by rw[Vd hk,LN.1]
 refine hI.upd r o' _ _ _ _ _ _ (some b) ⟨LN.2.1,LN.2.2.1,LN.2.2.2,by rw[Oi,LN.1];exact Ai _⟩ (fun k _ Dv=>cL k (fun e=>Dv (by rw[e]))) (fun b' e=>by cases e;exact⟨hl,ho⟩) (fun _ _ h=>h) (fun _ _ h=>.inl h)
  (fun b' o e hs=>by cases e;exact absurd hs (hn o)) (fun b' _ e=>?_) Dv (fun _=>⟨rfl,Ai _,fun _=>rfl,fun _=>rfl⟩) (fun hg hk=>JX hg hk ER cL)
 rw[ho]at e;cases e;exact⟨by rw[Oi,LN.1];exact Dx,.inl ⟨hl,ho⟩⟩
theorem Od(hT:Ci P T){ty:Nat}{m k x:AV}{vm vk:Value}(hm:Br g w (AN h) m vm)(hk' : Br g w (AN h) k vk)(hx:Br g w (AN h) x vx)(hk:HB T h ty m k x K) :
  ku P w0 g0 h0 h g w (Instr.mapUpdate ty vm vk vx) K:=by
 unfold HB at hk;split at hk
 .rename_i r;split at hk
  .rename_i sh B7 e0;obtain⟨kt,e,k1,k2,k3,k4⟩:=NC hk' hk;have ho:=hI.objs r;rw[e0]at ho;obtain⟨t1,b,es,ck,a1,a2,a3,a4,a5,a6⟩:=ho;have hl:(h r).live:=by rw[e0];trivial
   cases hm with
   |mref _ _ b' hu ht hp=>
    rw[a2]at hp;cases hp;have my:=hT.map k1;have E1:=run_getObj_map (P:=P) w b es ck a3;have OC:∀o',(setObj b o').run P w=.ok () (setBlock w b o'):=fun o'=>by simp[setObj,Sem.run,a3,setBlock]
    have Vu:=fun bb=>Nm hT k2 w bb k3;obtain⟨res,r1,r2⟩:=OQ hT k2 w k3 es.toList a4.shape;have oZ:=Br.str hI.objs hx;rcases r2 with ⟨rfl,hn⟩ | ⟨j,en,rfl,hj,hkey⟩
    .obtain⟨m1,m2⟩:=UG a4 (x:=vk) (v:=str h x) (y:=vx) k3 (fun a=>a4.none hn a);obtain⟨i1,i2⟩:=Dr.swap hI hl a1 a6 (.map sh (Ff B7 vk (str h x))) a3 (.map (es.push { key:=vk,val:=vx,born:=ck }) (ck+1)) w ⟨rfl,rfl,rfl,rfl⟩ B0 (fun hg Io ER cL=>by
      obtain⟨u1,u2,u3,u4⟩:=Bq g r (g.ρ r) (g.ln r) (g.tk r) (g.own r) g.S;refine⟨u3.trans t1,b,_,_,u4.trans a1,u1.trans a2,ER,m1,fun i kv e q1 q2=>?_,a6⟩;rcases m2 i kv e q1 q2 with ⟨p1,p2⟩ | ⟨p1,p2⟩
      .rw[p1,p2];exact oZ.mono Io (fun _ h=>h) (fun _ h=>h.elim)
      .exact(a5 i kv e p1 p2).mono Io (fun _ h=>h) (fun _ h=>h.elim))
     refine⟨_,_,_,?_,k4,i1,i2⟩;simp[Instr.mapUpdate,run_underlying my,E1,Vu,r1,OC]
    .obtain⟨a,q1,q2⟩:=a4.some hj hkey;obtain⟨m1,m2⟩:=PN a4 (x:=vk) (v:=str h x) (y:=vx) q1;obtain⟨i1,i2⟩:=Dr.swap hI hl a1 a6 (.map sh (Ff B7 vk (str h x))) a3 (.map (es.modify j fun e=>{ e with key:=vk,val:=vx }) ck) w ⟨rfl,rfl,rfl,rfl⟩ B0 (fun hg Io ER cL=>by
      obtain⟨u1,u2,u3,u4⟩:=Bq g r (g.ρ r) (g.ln r) (g.tk r) (g.own r) g.S;refine⟨u3.trans t1,b,_,_,u4.trans a1,u1.trans a2,ER,m1,fun i kv e q1 q2=>?_,a6⟩;rcases m2 i kv e q1 q2 with ⟨p1,p2⟩ | ⟨p1,p2⟩
      .rw[p1,p2];exact oZ.mono Io (fun _ h=>h) (fun _ h=>h.elim)
      .exact(a5 i kv e p1 p2).mono Io (fun _ h=>h) (fun _ h=>h.elim))
     refine⟨_,_,_,?_,k4,i1,i2⟩;have tT : es[j]?=some en:=by simpa using hj
     have Il:=Sv (P:=P) w k3;simp[Instr.mapUpdate,run_underlying my,E1,Vu,r1,OC,tT,hkey,Il]
  .rename_i sh B7 e0;obtain⟨kt,e,k1,k2,k3,k4⟩:=NC hk' hk;have ho:=hI.objs r;rw[e0]at ho;obtain⟨t1,b,es,ck,a1,a2,a3,a4,a5,a6⟩:=ho;have hl:(h r).live:=by rw[e0];trivial
   cases hm with
   |mref _ _ b' hu ht hp=>
    rw[a2]at hp;cases hp;have my:=hT.map k1;have E1:=run_getObj_map (P:=P) w b es ck a3;have OC:∀o',(setObj b o').run P w=.ok () (setBlock w b o'):=fun o'=>by simp[setObj,Sem.run,a3,setBlock]
    have Vu:=fun bb=>Nm hT k2 w bb k3;obtain⟨res,r1,r2⟩:=OQ hT k2 w k3 es.toList a4.shape;rcases r2 with ⟨rfl,hn⟩ | ⟨j,en,rfl,hj,hkey⟩
    .obtain⟨m1,m2⟩:=UG a4 (x:=vk) (v:=x) (y:=vx) k3 (fun a=>a4.none hn a);obtain⟨i1,i2⟩:=Dr.swap hI hl a1 a6 (.mapU sh (Ff B7 vk (x))) a3 (.map (es.push { key:=vk,val:=vx,born:=ck }) (ck+1)) w ⟨rfl,rfl,rfl,rfl⟩ B0 (fun hg Io ER cL=>by
      obtain⟨u1,u2,u3,u4⟩:=Bq g r (g.ρ r) (g.ln r) (g.tk r) (g.own r) g.S;have L9:∀i,AN h i->AN (AR h r (.mapU sh (Ff B7 vk x))) i:=fun i hi=>DV B0 i hi;refine⟨u3.trans t1,b,_,_,u4.trans a1,u1.trans a2,ER,m1,fun i kv e q1 q2=>?_,a6⟩;rcases m2 i kv e q1 q2 with ⟨p1,p2⟩ | ⟨p1,p2⟩
      .rw[p1,p2];exact hx.mono Io L9 hg
      .exact(a5 i kv e p1 p2).mono Io L9 hg)
     refine⟨_,_,_,?_,k4,i1,i2⟩;simp[Instr.mapUpdate,run_underlying my,E1,Vu,r1,OC]
    .obtain⟨a,q1,q2⟩:=a4.some hj hkey;obtain⟨m1,m2⟩:=PN a4 (x:=vk) (v:=x) (y:=vx) q1;obtain⟨i1,i2⟩:=Dr.swap hI hl a1 a6 (.mapU sh (Ff B7 vk (x))) a3 (.map (es.modify j fun e=>{ e with key:=vk,val:=vx }) ck) w ⟨rfl,rfl,rfl,rfl⟩ B0 (fun hg Io ER cL=>by
      obtain⟨u1,u2,u3,u4⟩:=Bq g r (g.ρ r) (g.ln r) (g.tk r) (g.own r) g.S;have L9:∀i,AN h i->AN (AR h r (.mapU sh (Ff B7 vk x))) i:=fun i hi=>DV B0 i hi;refine⟨u3.trans t1,b,_,_,u4.trans a1,u1.trans a2,ER,m1,fun i kv e q1 q2=>?_,a6⟩;rcases m2 i kv e q1 q2 with ⟨p1,p2⟩ | ⟨p1,p2⟩
      .rw[p1,p2];exact hx.mono Io L9 hg
      .exact(a5 i kv e p1 p2).mono Io L9 hg)
     refine⟨_,_,_,?_,k4,i1,i2⟩;have tT : es[j]?=some en:=by simpa using hj
     have Il:=Sv (P:=P) w k3;simp[Instr.mapUpdate,run_underlying my,E1,Vu,r1,OC,tT,hkey,Il]
  .exact hk.elim
 .exact hk.elim
theorem OK{d b:Nat}{ck:Nat}(hd:h d=.free)(hS:g.S b 0)(hb:w.heap[b]?=some (.map es ck))(hm:HE sh es ck B7)(hv:∀(i:Nat) (kv:Value×AV) (e:MapEntry),B7[i]?=some kv->es[i]?=some e->Br g w Fq kv.2 e.val) :
  ∃g',Dr w0 g0 h0 (AR h d (.iter B7 B7 none)) g' (w.alloc (.mapIter (some b) ck #[] ck))/\Le h g w (AR h d (.iter B7 B7 none)) g' (w.alloc (.mapIter (some b) ck #[] ck)) /\
   Br g' (w.alloc (.mapIter (some b) ck #[] ck)) (AN (AR h d (.iter B7 B7 none))) (.ref d 0) (.pointer (some ⟨w.heap.size,0,none⟩)):=by
 obtain⟨k1,k2⟩:=hI.newOwn hd (.iter B7 B7 none) (.mapIter (some b) ck #[] ck) (.pointer (some ⟨w.heap.size,0,none⟩)) 0 false w ⟨rfl,rfl,rfl,rfl⟩ B0 (fun hg hk=>by
  obtain⟨u1,u2,u3,u4⟩:=Bq g d (.pointer (some ⟨w.heap.size,0,none⟩)) 0 false (some w.heap.size) g.S;obtain⟨c1,c2,c3⟩:=hk b 0 hS
  exact⟨u3,w.heap.size,b,ck,#[],ck,es,ck,u4,u1,Ho w _ rfl,c1,c3 es ck hb,⟨sh,hm⟩,rfl,rfl,fun i kv e q1 q2=>(hv i kv e q1 q2).mono hk (fun _ h=>h) (fun _ h=>h.elim),
   ⟨PS hm.2.2.2.1,fun _ h=>h⟩,fun i kv e q1 q2=>by simp[List.mem_of_getElem? q1],trivial,fun o ho=>by have:=hI.slt _ _ ho;omega⟩)
 refine⟨_,k1,k2,.ref _ d 0 w.heap.size (by unfold AN;rw[A3];simp) ?_ ?_⟩<;>simp[Gh.upd]
theorem Sj{r b:Nat}{ck:Nat}(e0:h r=.map sh B7)(a1:g.own r=some b)(a2:g.ρ r=.map (some b))(a3:w.heap[b]?=some (.map es ck))(a4:HE sh es ck B7)(a5:∀(i:Nat) (kv:Value×AV) (e:MapEntry),B7[i]?=some kv->es[i]?=some e->Br g w Fq kv.2 e.val)(t1:g.tk r=false) :
  ∃g',Dr w0 g0 h0 (AR h r (.rom sh B7)) g' w/\Le h g w (AR h r (.rom sh B7)) g' w/\g'.S b 0:=by
 have hl:(h r).live:=by rw[e0];trivial
 have Dx:=(hI.loc r b hl a1).1
 obtain⟨k1,k2⟩:=hI.upd r (.rom sh B7) (g.ρ r) (g.ln r) (g.tk r) none (g.more b 1) w none ⟨rfl,rfl,rfl,Ai _⟩ (fun _ _ _=>rfl) (fun b e=>by cases e) (fun _ _ h=>.inl h)
  (fun b' o hs=>hs.elim .inl (fun hs=>.inr ⟨by rw[hs.1];exact Dx,.inr ⟨hl,by rw[hs.1];exact a1⟩⟩)) (fun b o e=>by cases e) (fun b hh _=>by cases hh) B0
  (fun _=>⟨rfl,Ai _,fun _=>rfl,fun _=>rfl⟩) (fun hg hk=>by
   obtain⟨u1,u2,u3,u4⟩:=Bq g r (g.ρ r) (g.ln r) (g.tk r) none (g.more b 1);exact⟨u3.trans t1,b,u1.trans a2,.cmap _ sh B7 b es ck (.inr ⟨rfl,V1⟩) a3 a4 (fun i kv e q1 q2=>(a5 i kv e q1 q2).mono hk (fun _ h=>h) (fun _ h=>h.elim))⟩)
 exact⟨_,k1,k2,.inr ⟨rfl,V1⟩⟩
theorem Yw{r b:Nat}{ck:Nat}(e0:h r=.mapU sh B7)(a1:g.own r=some b)(a2:g.ρ r=.map (some b))(a3:w.heap[b]?=some (.map es ck))(a4:HE sh es ck B7)(a5:∀(i:Nat) (kv:Value×AV) (e:MapEntry),B7[i]?=some kv->es[i]?=some e->Br g w (AN h) kv.2 e.val)(t1:g.tk r=false) :
  ∃g',Dr w0 g0 h0 (AR h r (.rom sh (SQ h B7))) g' w/\Le h g w (AR h r (.rom sh (SQ h B7))) g' w/\g'.S b 0:=by
 have hl:(h r).live:=by rw[e0];trivial
 have Dx:=(hI.loc r b hl a1).1
 obtain⟨k1,k2⟩:=hI.upd r (.rom sh (SQ h B7)) (g.ρ r) (g.ln r) (g.tk r) none (g.more b 1) w none ⟨rfl,rfl,rfl,Ai _⟩ (fun _ _ _=>rfl) (fun b e=>by cases e) (fun _ _ h=>.inl h)
  (fun b' o hs=>hs.elim .inl (fun hs=>.inr ⟨by rw[hs.1];exact Dx,.inr ⟨hl,by rw[hs.1];exact a1⟩⟩)) (fun b o e=>by cases e) (fun b hh _=>by cases hh) B0
  (fun _=>⟨rfl,Ai _,fun _=>rfl,fun _=>rfl⟩) (fun hg hk=>by
   obtain⟨u1,u2,u3,u4⟩:=Bq g r (g.ρ r) (g.ln r) (g.tk r) none (g.more b 1);refine⟨u3.trans t1,b,u1.trans a2,.cmap _ sh _ b es ck (.inr ⟨rfl,V1⟩) a3 (WK _ a4) (fun i kv e q1 q2=>?_)⟩;unfold SQ at q1;rw[Aw]at q1;obtain⟨p,q3,rfl⟩:=AD.1 q1;exact((a5 i p e q3 q2).str hI.objs).mono hk (fun _ h=>h) (fun _ h=>h.elim))
 exact⟨_,k1,k2,.inr ⟨rfl,V1⟩⟩
theorem jC(hT:Ci P T){ty kt e:Nat}(ht:(T ty).d=.map kt e){d:Option Nat}{x:AV}(hx:Br g w (AN h) x vx)(hk:dC d h x K) :
  Ok P w0 g0 h0 h g w (Instr.range ty vx) K:=by
 have hu:=hT.map ht;unfold dC at hk;split at hk
 .exact hk.elim
 .rename_i d;split at hk
  .rename_i hd;have CI:∀b es ck,w.heap[b]?=some (.map es ck)->(Instr.range ty (.map (some b))).run P w=.ok (.pointer (some ⟨w.heap.size,0,none⟩)) (w.alloc (.mapIter (some b) ck #[] ck)):=fun b es ck hb=>by
    simp[Instr.range,run_underlying hu,run_getObj_map (P:=P) w b es ck hb]
   split at hk
   .cases hx with
    |cmap _ _ _ b es ck hS hb hm hv=>
     obtain⟨g',k1,k2,k3⟩:=OK hI hd hS hb hm hv;exact⟨_,_,_,_,_,CI _ _ _ hb,hk,k1,k2,k3⟩
   .rename_i r;have ho:=hI.objs r;cases hx with
    |mref _ _ b my ht' hp=>
     split at hk
     .rename_i sh B7 e0;rw[e0]at ho;obtain⟨_,b',a1,a2⟩:=ho;rw[a1]at hp;cases hp;cases a2 with
      |cmap _ _ _ _ es ck hS hb hm hv=>
       obtain⟨g',k1,k2,k3⟩:=OK hI hd hS hb hm hv;exact⟨_,_,_,_,_,CI _ _ _ hb,hk,k1,k2,k3⟩
     .rename_i sh B7 e0;rw[e0]at ho;obtain⟨t1,b',es,ck,a1,a2,a3,a4,a5,a6⟩:=ho;rw[a2]at hp;cases hp;obtain⟨g1,i1,i2,i3⟩:=Sj hI e0 a1 a2 a3 a4 a5 t1;have Dv:d≠r:=fun e=>by rw[e,e0]at hd;cases hd
      obtain⟨g',k1,k2,k3⟩:=OK i1 (by rw[BR _ _ _ _ Dv];exact hd) i3 a3 a4 (fun i kv e q1 q2=>(a5 i kv e q1 q2).mono i2.keeps (fun _ h=>h) (fun _ h=>h.elim));exact⟨_,_,_,_,_,CI _ _ _ a3,hk,k1,i2.trans k2,k3⟩
     .exact hk.elim
   .exact hk.elim
  .exact hk.elim
theorem m6{ty:TypeId}{x:AV}(hx:Br g w (AN h) x vx)(hk:m5 h x K):Ok P w0 g0 h0 h g w (Instr.next vx false ty) K:=by
 unfold m5 at hk;split at hk
 .rename_i r;split at hk
  .rename_i all rem Db e0;have ho:=hI.objs r;rw[e0]at ho;obtain⟨t1,b,mb,KG,seen,st,es,ck,a1,a2,a3,a4,a5,⟨sh,a6⟩,a7,a8,a9,Y9,dR,a12,sA⟩:=ho;have hl:(h r).live:=by rw[e0];trivial
   cases hx with
   |ref _ _ _ b' hu ht hp=>
    rw[a2]at hp;cases hp;have Dx:∀e∈es.toList,e.born<KG:=fun e he=>by
     obtain⟨i,hi⟩:=Cg.1 he
     have:=a6.2.2.2.2.1 i e (by simpa using hi)
     omega
    rcases run_next_at (P:=P) w ty b mb KG st seen es ck a3 a5 Dx ch with ⟨q1,q2⟩ | ⟨e,q1,w1,q2,q3⟩
    .have Aca:rem=[]:=by
      apply Mz.2;intro kv Qp;obtain⟨i,hi⟩:=Cg.1 (Y9.2 kv Qp);have xQ:i<es.size:=by rw[a6.1];exact(Ar.1 hi).1
      have hb:=(dR i kv es[i] hi (by simp[xQ])).1 Qp;have hm:es[i]∈leftOf es seen:=by simp[leftOf,hb]
      have:=Array.size_pos_of_mem hm
      omega
     exact⟨_,w,g,_,h,q2,hk.1 Aca,hI,.refl _ _ _,.tup _ _ _ rfl (fun i av x h1 h2=>by
      match i,h1,h2 with
      |0,h1,h2=>simp at h1 h2;subst h1;subst h2;exact .v _ _)⟩
    .have hq:e∈es/\e.born∉seen:=by simpa[leftOf]using q1
     obtain⟨i,hi⟩:=Array.mem_iff_getElem?.1 hq.1;have xQ:i<all.length:=by rw[<-a6.1];exact(Be.1 hi).1
     have vC:all[i]?=some all[i]:=At xQ;have kk:=(dR i _ e vC hi).2 hq.2;obtain⟨s1,s2,hs⟩:=List.append_of_mem kk;have Kx:rem.Perm (all[i]::(s1++s2)):=by rw[hs];exact List.perm_middle
     have PI:(all[i]::(s1++s2)).Nodup:=Kx.nodup_iff.1 Y9.1;have hr:=a9 i _ e vC hi;have hkey:=a6.2.1 i _ e vC hi;have LN:w1.heap=w.heap/\w1.os=w.os/\w1.tape=w.tape/\w1.output=w.output:=by rcases q2 with rfl | rfl<;>exact⟨rfl,rfl,rfl,rfl⟩
     obtain⟨k1,k2⟩:=Dr.swap hI hl a1 sA (.iter all (s1++s2) (some all[i])) a3 (.mapIter (some mb) KG (seen.push e.born) ck) w1 LN B0 (fun hg Io ER cL=>by
      obtain⟨u1,u2,u3,u4⟩:=Bq g r (g.ρ r) (g.ln r) (g.tk r) (g.own r) g.S;obtain⟨c1,c2,c3⟩:=Io mb 0 a4
      refine⟨u3.trans t1,b,mb,KG,_,ck,es,ck,u4.trans a1,u1.trans a2,ER,c1,c3 _ _ a5,⟨sh,a6⟩,a7,rfl,fun i kv e p q=>(a9 i kv e p q).mono Io (fun _ h=>h) (fun _ h=>h.elim),
       ⟨(CN.1 PI).2,fun kv Qp=>Y9.2 kv (Kx.mem_iff.2 (Ae _ Qp))⟩,fun j kv e' p q=>?_,⟨i,e,vC,hi,by simp⟩,sA⟩
      rw[Array.mem_push];have h1:=dR j kv e' p q;rw[Kx.mem_iff,Ay]at h1;constructor
      .intro Qp hc;rcases hc with hc | hc
       .exact(h1.1 (.inr Qp)) hc
       .obtain rfl:=a6.2.2.2.2.2 j i e' e q hi hc;rw[vC]at p;cases p;exact(CN.1 PI).1 Qp
      .intro hc;rcases h1.2 (fun hm=>hc (.inl hm))with e2 | e2
       .have:j=i:=WP (f:=fun x=>x) (l:=all) (by simpa using PS a6.2.2.2.1) p vC e2
        subst this;rw[hi]at q;cases q;exact absurd (.inr rfl) hc
       .exact e2)
     refine⟨_,_,_,_,_,q3,hk.2 all[i] (s1++s2) Kx,k1,k2,.tup _ _ _ rfl (fun j av x h1 h2=>?_)⟩
     match j,h1,h2 with
     |0,h1,h2=>simp at h1 h2;subst h1;subst h2;exact .v _ _
     |1,h1,h2=>simp at h1 h2;subst h1;subst h2;rw[hkey];exact .v _ _
     |2,h1,h2=>simp at h1 h2;subst h1;subst h2;exact(hr.up _).le k2
  .exact hk.elim
 .exact hk.elim
end
end Go.Eng
