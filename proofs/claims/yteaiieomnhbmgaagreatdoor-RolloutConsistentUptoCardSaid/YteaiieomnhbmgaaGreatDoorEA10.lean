/- Lemmas 10. -/
import Derived.Test.YteaiieomnhbmgaaGreatDoorEA09
import Derived.Maps.RangeRun
namespace Go.Eng
variable {ρ:Operand->Value}{es:List (List AV)}{hi:Option Operand}{vx:Value}{K:HK}{a:Option Addr}{cx:Cx}{x:AV}{T:G2}
section
variable {P:Program}{w0:World}{g0:Gh}{h0 h:Nat->HO}{g:Gh}{w:World}(hI:D2 w0 g0 h0 h g w)
include hI
theorem Pf{d sz n:Nat}(hd:h d=.free)(hl:∀c∈es,c.length=sz)(hn:es.length=n)(hr:BO g w Fx (.slice .none es) (.slice a n n)) :
  ∃g',D2 w0 g0 h0 (A2 h d (.tok sz n)) g' w/\Le h g w (A2 h d (.tok sz n)) g' w/\BO g' w (AS (A2 h d (.tok sz n))) (.slice (.id d sz) es) (.slice a n n):=by
 obtain⟨k1,k2⟩:=hI.upd d (.tok sz n) (.slice a n n) n true none g.S w none ⟨rfl,rfl,rfl,Ak _⟩ (fun _ _ _=>rfl) (fun b e=>by cases e) (fun _ _ h=>h) (fun _ _ h=>.inl h) (fun b o e=>by cases e) (fun b _ e=>by cases e) B0
  (fun hu=>absurd hd hu) (fun _ _=>by
   obtain⟨u1,u2,u3,u4⟩:=BI g d (.slice a n n) n true none g.S;exact⟨u3,u2,a,n,u1,.inl ⟨rfl,u4⟩⟩)
 exact⟨_,k1,k2,.tok _ d sz es _ (((hr.up (AS h)).le k2)) hl (by unfold AS;rw[Bl];simp) (by simp[Gh.upd]) (by simp[Gh.upd,hn]) (fun _=>by simp[Gh.upd])⟩
theorem cE{d:Option Nat}(hx:BO g w (AS h) x vx)(hk:PJ cx d h x K):∃g' av h',K av h'/\D2 w0 g0 h0 h' g' w/\Le h g w h' g' w/\BO g' w (AS h') av vx:=by
 have plain:K x h->∃g' av h',K av h'/\D2 w0 g0 h0 h' g' w/\Le h g w h' g' w/\BO g' w (AS h') av vx:=fun hk=>⟨g,x,h,hk,hI,.refl _ _ _,hx⟩;unfold PJ at hk;split at hk
 .exact plain hk
 .rename_i d;split at hk
  .rename_i sz _;split at hk
   .refine⟨g,unT x,h,hk,hI,.refl _ _ _,?_⟩;cases x with
    |slice tk es=>exact(BO.slice_none hx).up _
    |_=>exact hx
   .split at hk
    .split at hk
     .rename_i hd;obtain rfl:=hx.v_eq;obtain⟨g',k1,k2,k3⟩:=Pf hI (sz:=sz) (es:=[]) (a:=none) hd B0 rfl (.snil _ _ _);exact⟨g',_,_,hk,k1,k2,k3⟩
     .exact hk.elim
    .exact plain hk
  .split at hk
   .rename_i sz _;split at hk
    .split at hk
     .rename_i hd;obtain rfl:=hx.v_eq
      obtain⟨k1,k2⟩:=hI.upd d (.arr sz []) (.slice none 0 0) 0 true none g.S w none ⟨rfl,rfl,rfl,Ak _⟩ (fun _ _ _=>rfl) (fun b e=>by cases e) (fun _ _ h=>h) (fun _ _ h=>.inl h) (fun b o e=>by cases e) (fun b _ e=>by cases e) B0
       (fun hu=>absurd hd hu) (fun _ _=>by
        obtain⟨u1,u2,u3,u4⟩:=BI g d (.slice none 0 0) 0 true none g.S;exact⟨u3,u2,by simp,.inl ⟨rfl,u1,u4⟩⟩)
      exact⟨_,_,_,hk,k1,k2,.msl _ d 0 none 0 (by unfold AS;rw[Bl];simp) (by simp[Gh.upd]) (AA _) (.inl rfl) (fun _=>by simp[Gh.upd])⟩
     .exact hk.elim
    .exact plain hk
   .exact plain hk
theorem bf{mku:List Nat}{d:Option Nat}{ty:Nat}(hk:LI T mku d h ty K):OI P w0 g0 h0 h g w (Instr.makeMap ty none) K:=by
 unfold LI at hk;split at hk
 .exact hk.elim
 .rename_i d;split at hk
  .rename_i hd;split at hk
   .split at hk
    .rename_i sh _;split at hk
     .obtain⟨k1,k2⟩:=hI.newOwn hd (.mapU sh []) (.map #[] 0) (.map (some w.heap.size)) 0 false w ⟨rfl,rfl,rfl,rfl⟩ B0 (fun hg IJ=>by
       obtain⟨u1,u2,u3,u4⟩:=BI g d (.map (some w.heap.size)) 0 false (some w.heap.size) g.S;exact⟨u3,w.heap.size,#[],0,u4,u1,GT w _ rfl,⟨rfl,by simp,by simp,by simp,by simp,by simp⟩,by simp,fun o ho=>by have:=hI.slt _ _ ho;omega⟩)
      refine⟨_,_,_,_,_,?_,hk,k1,k2,.mref _ d w.heap.size (by unfold AS;rw[Bl];simp) ?_ ?_⟩
      .simp[Instr.makeMap]
      .simp[Gh.upd]
      .simp[Gh.upd]
     .obtain⟨k1,k2⟩:=hI.newOwn hd (.map sh []) (.map #[] 0) (.map (some w.heap.size)) 0 false w ⟨rfl,rfl,rfl,rfl⟩ B0 (fun hg IJ=>by
       obtain⟨u1,u2,u3,u4⟩:=BI g d (.map (some w.heap.size)) 0 false (some w.heap.size) g.S;exact⟨u3,w.heap.size,#[],0,u4,u1,GT w _ rfl,⟨rfl,by simp,by simp,by simp,by simp,by simp⟩,by simp,fun o ho=>by have:=hI.slt _ _ ho;omega⟩)
      refine⟨_,_,_,_,_,?_,hk,k1,k2,.mref _ d w.heap.size (by unfold AS;rw[Bl];simp) ?_ ?_⟩
      .simp[Instr.makeMap]
      .simp[Gh.upd]
      .simp[Gh.upd]
    .exact hk.elim
   .exact hk.elim
  .exact hk.elim
omit hI in
theorem BO.sub{sz l m:Nat}{x:Value}{n cap:Nat}(hr:BO g w Fx (.slice .none es) x)(hx:x=.slice a n cap)(hl:∀c∈es,c.length=sz)(h1:l<=m)(h2:m<=es.length)(c' : Nat)(hc:m-l<=c')(a' : Option Addr)(ha:a'=a.map (·.add (l*sz))\/(m=l/\a'=a)):BO g w Fx (.slice .none ((es.take m).drop l)) (.slice a' (m-l) c'):=by
 subst hx;have CP:((es.take m).drop l).length=m-l:=by rw[Di,Aw];omega
 by_cases h0:m-l=0
 .have:(es.take m).drop l=[]:=AQ ch
  rw[this,h0];exact .snil _ _ _
 .cases hr with
  |snil=>simp at h2;omega
  |slice _ _ b off G3 cap val uB Ry DT Ez=>
   have hz:G3=sz:=by
    have:(0:Nat)<es.length:=by omega
    have h3:=Ry 0 es[0] (AB this);rw[<-h3];exact hl _ (Al this)
   subst hz;have ha' : a'=some ⟨b,off+l*G3,none⟩:=by
    rcases ha with h | ⟨h,_⟩
    .rw[h];simp[Addr.add_lit]
    .omega
   subst ha';rw[<-CP];have FH:∀(i:Nat) (cs:List AV),((es.take m).drop l)[i]?=some cs->es[l+i]?=some cs:=fun i cs h=>by
    rw[DV]at h
    by_cases hi:l+i<m
    .rwa [BS hi]at h
    .rw[A9 (by rw[Aw];omega)]at h;cases h
   refine .slice _ _ b (off+l*G3) G3 c' (fun i j=>val (l+i) j) (by rw[CP];exact hc) (fun i cs h=>Ry _ _ (FH i cs h)) (fun i cs j av h1 h2=>?_) (fun i cs j av h1 h2=>Ez _ _ _ _ (FH i cs h1) h2)
   have:=DT _ _ _ _ (FH i cs h1) h2
   rwa [show off+(l+i)*G3+j=off+l*G3+i*G3+j by rw[FE];omega]at this
omit hI in
theorem LO{t:Nat->AV}(ht:∀x:Operand,BO g w (AS h) (ev t x) (ρ x)){o:Option Operand}{i:Option Int}(hk:Co t o=some i):o.map ρ=i.map fun n=>.int .i64 n:=by
 cases o with
 |none=>cases hk;rfl
 |some x=>
  unfold Co at hk;dsimp only at hk;split at hk
  .rename_i n e;cases hk
   have:=ht x
   rw[e]at this;simp[this.v_eq]
  .cases hk
omit hI in
theorem VK(b:Bool)(len cap:Nat)(lo hi mx:Option Int)(mD:mx=none\/hi≠none)(h0:0<=lo.getD 0)(h1:lo.getD 0<=hi.getD len)(h2:hi.getD len<=mx.getD cap)(h3:mx.getD cap<=cap) :
  (Instr.sliceBounds b len cap (lo.map fun n=>.int .i64 n) (hi.map fun n=>.int .i64 n) (mx.map fun n=>.int .i64 n)).run P w=.ok ((lo.getD 0).toNat,(hi.getD len).toNat,(mx.getD cap).toNat) w:=by
 have e1:∀n:Int,0<=n->(n.toNat:Int)=n:=fun n hn=>Int.toNat_of_nonneg hn;cases mx with
 |none=>
  cases hi with
  |none=>
   cases lo with
   |none=>simp[Instr.sliceBounds]
   |some l=>
    simp only[CM,Em]at h0 h1 h2;simp[Instr.sliceBounds,run_sliceBound,h0,h1]
  |some hh=>
   simp only[CM,Em]at h1 h2;have yq:0<=hh:=by omega
   cases lo with
   |none=>simp[Instr.sliceBounds,run_sliceBound,yq,h2]
   |some l=>
    simp only[CM]at h0 h1;simp[Instr.sliceBounds,run_sliceBound,h0,h1,h2,yq,e1]
 |some m=>
  cases hi with
  |none=>simp at mD
  |some hh=>
   simp only[CM]at h1 h2 h3;have yq:0<=hh:=by omega
   have hm0:0<=m:=by omega
   cases lo with
   |none=>simp[Instr.sliceBounds,run_sliceBound,h2,h3,yq,hm0,e1]
   |some l=>
    simp only[CM]at h0 h1;simp[Instr.sliceBounds,run_sliceBound,h0,h1,h2,h3,yq,hm0,e1]
omit hI in
theorem Fe(hT:CK P T){ty e k:Nat}(ht:(T ty).d=.slice e)(hk:(T e).size=k+1)(a:Option Addr)(len cap:Nat)(lo hi mx:Option Int)(mD:mx=none\/hi≠none)(h0:0<=lo.getD 0)(h1:lo.getD 0<=hi.getD len)(h2:hi.getD len<=mx.getD cap)(h3:mx.getD cap<=cap) :
  (Instr.sliceAt ty (.slice a len cap) (lo.map fun n=>.int .i64 n) (hi.map fun n=>.int .i64 n) (mx.map fun n=>.int .i64 n)).run P w =
   .ok (.slice (if(mx.getD cap).toNat=(lo.getD 0).toNat then a else a.map (·.add ((lo.getD 0).toNat*(T e).size))) ((hi.getD len).toNat-(lo.getD 0).toNat) ((mx.getD cap).toNat-(lo.getD 0).toNat)) w:=by
 have hu:=hT.slice ht;have hb:=VK (P:=P) (w:=w) true len cap lo hi mx mD h0 h1 h2 h3;simp only[Instr.sliceAt,Sem.run_bind,run_underlying hu,Result.andThen_ok,Instr.slice,hb,hT.size1 w hk,Sem.run_pure];rw[hk]
theorem D2.moveO(r r2:Nat)(DD:r2≠r)(hf:h r2=.free)(hl:(h r).live){ob:Option Nat}(ho:∀c,ob=some c->g.own r=some c)(o' : HO)(x:Value)(n:Nat)(t:Bool)(hn:o'≠.free)
  (Kg:EN g w (g.upd r2 x n t ob g.S) w->Ew (g.upd r2 x n t ob g.S) w (AS (A2 (A2 h r .dead) r2 o')) r2 o') :
  D2 w0 g0 h0 (A2 (A2 h r .dead) r2 o') (g.upd r2 x n t ob g.S) w/\Le h g w (A2 (A2 h r .dead) r2 o') (g.upd r2 x n t ob g.S) w:=by
 have kG:KZ g (g.upd r2 x n t ob g.S) (AS h):=by
  intro i hi;have e:i≠r2:=fun e=>hi (by rw[e];exact hf);refine⟨by simp[Gh.upd,e],by simp[Gh.upd,e],fun _=>by simp[Gh.upd,e],fun _=>by simp[Gh.upd,e]⟩
 have hK:EN g w (g.upd r2 x n t ob g.S) w:=fun b o hb=>⟨hb,rfl,fun _ _ h=>h⟩;have Lq:∀i,AS h i->AS (A2 (A2 h r .dead) r2 o') i:=fun i hi=>D7 hn i (D7 B0 i hi);have key:∀i,i≠r2->(A2 (A2 h r .dead) r2 o' i).live->i≠r/\(h i).live:=fun i h2 hl=>by
  rw[Cb _ _ _ _ h2]at hl
  by_cases e:i=r
  .subst e;rw[Bl]at hl;exact hl.elim
  .rw[Cb _ _ _ _ e]at hl;exact⟨e,hl⟩
 have own:∀i,i≠r2->(g.upd r2 x n t ob g.S).own i=g.own i:=fun i e=>by simp[Gh.upd,e]
 have Vx:(g.upd r2 x n t ob g.S).own r2=ob:=by simp[Gh.upd]
 refine⟨⟨hI.os,hI.tape,hI.output,hI.size,hI.frame,hI.slt,fun i=>?_,fun i j c hi hj ei ej=>?_,fun i c hi ei=>?_,hI.sg,hI.glob.keep hK⟩,kG,Lq,hK⟩
 .by_cases e:i=r2
  .subst e;rw[Bl];exact Kg hK
  .rw[Cb _ _ _ _ e]
   by_cases e1:i=r
   .subst e1;rw[Bl];trivial
   .rw[Cb _ _ _ _ e1];exact(hI.objs i).same hK Lq kG (by simp[Gh.upd,e]) (by simp[Gh.upd,e]) (by simp[Gh.upd,e]) (by simp[Gh.upd,e]) (fun b hl hb=>⟨rfl,fun k hk=>hk⟩)
 .by_cases e1:i=r2<;>by_cases e2:j=r2
  .exact e1.trans e2.symm
  .subst e1;rw[Vx]at ei;rw[own j e2]at ej;obtain⟨a1,a2⟩:=key j e2 hj;exact absurd (hI.inj j r _ a2 hl ej (ho _ ei)) a1
  .subst e2;rw[Vx]at ej;rw[own i e1]at ei;obtain⟨a1,a2⟩:=key i e1 hi;exact absurd (hI.inj i r _ a2 hl ei (ho _ ej)) a1
  .rw[own i e1]at ei;rw[own j e2]at ej;exact hI.inj i j c (key i e1 hi).2 (key j e2 hj).2 ei ej
 .by_cases e1:i=r2
  .subst e1;rw[Vx]at ei;exact hI.loc r _ hl (ho _ ei)
  .rw[own i e1]at ei;exact hI.loc i c (key i e1 hi).2 ei
theorem bP(hT:CK P cx.T){d:Option Nat}{ty:Nat}{t:Nat->AV}(ht:∀x:Operand,BO g w (AS h) (ev t x) (ρ x)){lo mx:Option Operand}(hx:BO g w (AS h) x vx)(hk:VG cx d h ty x (Co t lo) hi mx K):OI P w0 g0 h0 h g w (Instr.sliceAt ty vx (lo.map ρ) (hi.map ρ) (mx.map ρ)) K:=by
 unfold VG at hk;split at hk
 .rename_i d Iu e1;rw[LO ht e1];split at hk
  .rename_i e hs;split at hk
   .exact hk.elim
   .rename_i k ET;split at hk
    .rename_i r sz es;split at hk
     .rename_i G3 n e0;split at hk
      .rename_i hd;split at hk
       .rename_i q1 q2;obtain rfl:=AM q1;have q2:=AM q2;obtain⟨⟨rfl,h1,h2⟩,hk⟩:=hk;have hl:(h r).live:=by rw[e0];trivial
        have DD:KC cx d≠r:=fun e=>by rw[e,e0]at hd;cases hd
        have ho:=hI.objs r;rw[e0]at ho;obtain⟨t1,l1,a,cap,a1,a3⟩:=ho;have hr:=hx.slice_none;cases hx with
        |tok _ _ _ _ _ wY Zw hu ht' hn MM=>
         have hv:=MM l1.symm;rw[a1]at hv;subst hv;have fO:es.length<=cap:=by rcases a3 with ⟨e1,_⟩ | ⟨e1,_⟩<;>omega
         have CV:=Fe (P:=P) (w:=w) hT hs ET a es.length cap (some Iu) none none (.inl rfl) h1 h2 (by simp only[Em];omega) B0;simp only[CM,Em,Ch]at CV;have CP:(es.drop Iu.toNat).length=es.length-Iu.toNat:=Di;have mK:=BO.sub (c':=cap-Iu.toNat) hr rfl Zw (l:=Iu.toNat) (m:=es.length) ch (Ak _) ch (if cap=Iu.toNat then a else a.map (·.add (Iu.toNat*(cx.T e).size))) (by
          split
          .exact .inr ⟨by omega,rfl⟩
          .rw[q2];exact .inl rfl)
         rw[B9]at mK
         have fin:∀ob:Option Nat,(∀c,ob=some c->g.own r=some c)->(es.length-Iu.toNat=cap-Iu.toNat/\ob=none\/es.length-Iu.toNat<=cap-Iu.toNat/\∃b E vs off,(if cap=Iu.toNat then a else a.map (·.add (Iu.toNat*(cx.T e).size)))=some ⟨b,off,none⟩/\ob=some b/\Sp w b vs E/\vs.size=off+(cap-Iu.toNat)*G3/\∀o,g.S b o->o<off+(es.length-Iu.toNat)*G3) ->
           OI P w0 g0 h0 h g w (Instr.sliceAt ty (.slice a es.length cap) ((some Iu).map fun n=>.int .i64 n) ((none:Option Operand).map ρ) ((none:Option Operand).map ρ)) K:=fun ob ho yG=>by
          obtain⟨k1,k2⟩:=hI.moveO r (KC cx d) DD hd hl ho (.tok G3 (es.drop Iu.toNat).length) (.slice (if cap=Iu.toNat then a else a.map (·.add (Iu.toNat*(cx.T e).size))) (es.length-Iu.toNat) (cap-Iu.toNat)) (es.length-Iu.toNat) true B0 (fun IJ=>by
           obtain⟨u1,u2,u3,u4⟩:=BI g (KC cx d) (.slice (if cap=Iu.toNat then a else a.map (·.add (Iu.toNat*(cx.T e).size))) (es.length-Iu.toNat) (cap-Iu.toNat)) (es.length-Iu.toNat) true ob g.S;refine⟨u3,u2.trans CP.symm,_,_,by rw[CP];exact u1,?_⟩;rw[CP,u4];exact yG)
          exact⟨_,w,_,_,_,CV,hk,k1,k2,.tok _ _ _ _ _ (((mK.mono k2.keeps (fun _ h=>h) (fun _ h=>h.elim))).up _) (fun c hc=>Zw c (Ja hc)) (by unfold AS;rw[Bl];simp) (by simp[Gh.upd]) (by simp[Gh.upd]) (fun _=>by simp[Gh.upd])⟩
         rcases a3 with ⟨e1,e2⟩ | ⟨e1,b,E,vs,off,rfl,e3,e4,e5,e6⟩
         .exact fin none (fun c h=>by cases h) (.inl ⟨by omega,rfl⟩)
         .by_cases hc:cap=Iu.toNat
          .exact fin none (fun c h=>by cases h) (.inl ⟨by omega,rfl⟩)
          .refine fin (some b) (fun c h=>by cases h;exact e3) (.inr ⟨by omega,b,E,vs,off+Iu.toNat*G3,?_,rfl,e4,?_,fun o ho=>?_⟩)
           .rw[Aj hc];simp[Addr.add_lit,q2]
           .rw[e5,Nat.sub_mul]
            have:=Bh G3 (show Iu.toNat<=cap by omega)
            omega
           .have:=e6 o ho
            rw[Nat.sub_mul]
            have:=Bh G3 (show Iu.toNat<=es.length by omega)
            omega
       .exact hk.elim
      .exact hk.elim
     .exact hk.elim
    .exact hk.elim
  .exact hk.elim
 .exact hk.elim
omit hI in
theorem OU{sz:Nat}:∀{es:List (List AV)},(∀cs∈es,cs.length=sz)->∀k,(es.take k).flatten=es.flatten.take (k*sz)
 | [],_,k=>by simp
 |c::es,hl,0=>by simp
 |c::es,hl,k+1=>by
  have h1:=hl c (Ab ..);have h2:c.length<=k*sz+sz:=by omega
  rw[JM,BC,BC,OU (fun x hx=>hl x (Ah _ hx)) k,List.take_append,h1,Ea,
   At h2,show k*sz+sz-sz=k*sz by omega]
omit hI in
theorem CU.takeE{U:Nat->Prop}{sz k:Nat}{vs:List Value}(hl:∀cs∈es,cs.length=sz)(hk:k<=es.length)(h:CU g w U es.flatten (vs.take (es.length*sz))):CU g w U (es.take k).flatten (vs.take (k*sz)):=by
 have e:vs.take (k*sz)=(vs.take (es.length*sz)).take (k*sz):=by
  rw[PA,WJ (Bh _ hk)]
 rw[OU hl,e];refine⟨by rw[Aw (l:=vs.take (es.length*sz)),h.1,Aw],fun x hx=>h.2.1 x (CT hx),fun i av x q1 q2=>?_⟩;have hi:i<k*sz:=by
  rcases B4 i (k*sz)with q | q
  .exact q
  .rw[KA,Aj ch]at q1;cases q1
 rw[KA,Ao hi]at q1 q2;exact h.2.2 i av x q1 q2
theorem gF(hT:CK P cx.T){d:Option Nat}{ty:Nat}{t:Nat->AV}(ht:∀x:Operand,BO g w (AS h) (ev t x) (ρ x))(hx:BO g w (AS h) x vx)(hk:nU cx d h ty x (Co t hi) K):OI P w0 g0 h0 h g w (Instr.sliceAt ty vx none (hi.map ρ) none) K:=by
 unfold nU at hk;split at hk
 .rename_i d MR e1;rw[LO ht e1];split at hk
  .rename_i e hs;split at hk
   .exact hk.elim
   .rename_i k ET;split at hk
    .rename_i r n;split at hk
     .rename_i sz es e0;split at hk
      .rename_i hd;split at hk
       .rename_i q1 q3;have q1:=AM q1;obtain⟨⟨rfl,h1,h2⟩,hk⟩:=hk;have hl:(h r).live:=by rw[e0];trivial
        have DD:KC cx d≠r:=fun e=>by rw[e,e0]at hd;cases hd
        have ho:=hI.objs r;rw[e0]at ho;obtain⟨t1,l1,al,a2⟩:=ho;have CP:(es.take MR.toNat).length=MR.toNat:=by rw[Aw];omega
        cases hx with
        |msl _ _ _ a cap hu ht' aP ha MM=>
         have hv:=MM l1.symm;have Mh:es.length<=cap:=by
          rcases a2 with ⟨b1,_,_⟩ | ⟨b,L6,E,vs,b1,_,b3,_⟩
          .subst b1;exact AA _
          .rw[b1]at hv;cases hv;exact b3
         have CV:=Fe (P:=P) (w:=w) hT hs ET a es.length cap none (some MR) none (.inl rfl) B0 (by simp only[Em,CM];exact h1) (by simp only[CM,Em];omega) B0;have ME:(if cap-(0:Nat)=0 then a else a.map (·.add (0*(cx.T e).size)))=a:=by
          rw[Lw];split
          .rfl
          .rcases ha with e3 | ⟨b,rfl⟩
           .cases a with
            |none=>rfl
            |some a=>simp[Addr.add]
           .rfl
         simp only[CM,Em,Ch,Int.toNat_zero,Nat.sub_zero]at CV ME;have key:∃a',(Instr.sliceAt ty (.slice a es.length cap) ((none:Option Int).map fun n=>.int .i64 n) ((some MR).map fun n=>.int .i64 n) ((none:Option Int).map fun n=>.int .i64 n)).run P w=.ok (.slice a' MR.toNat cap) w/\(a'=a):=⟨_,CV,by first | exact ME | (split<;>first | rfl | exact ME | (simp_all))⟩
         obtain⟨a',CV,rfl⟩:=key;have hval:BO (g.upd (KC cx d) (.slice a' MR.toNat cap) MR.toNat true (g.own r) g.S) w (AS (A2 (A2 h r .dead) (KC cx d) (.arr sz (es.take MR.toNat)))) (.msl (KC cx d) MR.toNat) (.slice a' MR.toNat cap):=
          .msl _ _ _ _ _ (by unfold AS;rw[Bl];simp) (by simp[Gh.upd]) (by simp[Gh.upd]) (ha.elim (fun e=>.inl ch) .inr) (fun _=>by simp[Gh.upd])
         obtain⟨k1,k2⟩:=hI.moveO r (KC cx d) DD hd hl (ob:=g.own r) (fun c h=>h) (.arr sz (es.take MR.toNat)) (.slice a' MR.toNat cap) MR.toNat true B0 (fun IJ=>by
          obtain⟨u1,u2,u3,u4⟩:=BI g (KC cx d) (.slice a' MR.toNat cap) MR.toNat true (g.own r) g.S;refine⟨u3,u2.trans CP.symm,fun c hc=>al c (CT hc),?_⟩;rcases a2 with ⟨b1,b2,b3⟩ | ⟨b,L6,E,vs,b1,b2,b3,b4,b5,b6,b7⟩
          .subst b1;rw[b2]at hv;cases hv;have h0:MR.toNat=0:=by simp only[Au]at h2;omega
           exact .inl ⟨List.take_nil,by rw[u1,h0],u4.trans b3⟩
          .rw[b1]at hv;cases hv;refine .inr ⟨b,cap,E,vs,by rw[CP];exact u1,u4.trans b2,by rw[CP];omega,b4,b5,?_,b7⟩;rw[CP];exact(CU.takeE al ch b6).mono IJ (fun _ h=>h) (fun _ h=>h.elim))
         exact⟨_,w,_,_,_,CV,hk,k1,k2,hval⟩
       .exact hk.elim
      .exact hk.elim
     .exact hk.elim
    .exact hk.elim
  .exact hk.elim
 .exact hk.elim
theorem XT(hT:CK P cx.T){d:Option Nat}{ty:Nat}{t:Nat->AV}(ht:∀x:Operand,BO g w (AS h) (ev t x) (ρ x)){lo mx:Option Operand}(hx:BO g w (AS h) x vx)(hk:GZ cx d h ty x (Co t lo) (Co t hi) (Co t mx) K):OI P w0 g0 h0 h g w (Instr.sliceAt ty vx (lo.map ρ) (hi.map ρ) (mx.map ρ)) K:=by
 unfold GZ at hk;split at hk
 .rename_i Iu MR s9 e1 e2 e3;rw[LO ht e1,LO ht e2,LO ht e3];split at hk
  .rename_i hs;split at hk
   .rename_i s;obtain⟨⟨h1,h2,h3⟩,hk⟩:=hk;obtain rfl:=hx.v_eq;have hb:=VK (P:=P) (w:=w) false s.size s.size Iu MR none (.inl rfl) h1 h2 (by simpa using h3) B0;refine(BQ.val (x:=.string (s.extract (Iu.getD 0).toNat (MR.getD s.size).toNat)) ?_ hk).does hI;simp only[Instr.sliceAt,Sem.run_bind,run_underlying (hT.string hs),Result.andThen_ok,Instr.slice];simp only[Option.map_none,PD,Do,Gu]at hb⊢;simp only[Sem.run_bind,hb,Result.andThen_ok,Sem.run_pure]
   .exact hk.elim
  .rename_i e hs;split at hk
   .exact hk.elim
   .rename_i k ET;split at hk
    .rename_i tk es;have hr:=hx.slice_none;obtain⟨a,cap,hv,Mh⟩:∃a cap,vx=.slice a es.length cap/\es.length<=cap:=by
      cases hr with
      |snil _ a cap=>exact⟨a,cap,rfl,AA _⟩
      |slice _ _ b off sz cap val hc=>exact⟨_,cap,rfl,hc⟩
     subst hv;split at hk
     .obtain⟨⟨h1,h2,h3⟩,hl,hk⟩:=hk;have CV:=Fe (P:=P) (w:=w) hT hs ET a es.length cap Iu MR none (.inl rfl) h1 h2 (by simp only[Em];omega) B0;refine BQ.does hI ⟨_,_,CV,hk,(BO.sub (c':=cap-(Iu.getD 0).toNat) hr rfl hl (l:=(Iu.getD 0).toNat) (m:=(MR.getD es.length).toNat) ch ch (by simp;omega) _ ?_).up _⟩;split
      .rename_i e;simp only[Em,Ch]at e;exact .inr ⟨by omega,rfl⟩
      .exact .inl rfl
     .rename_i m;split at hk
      .rename_i d hh;split at hk
       .obtain⟨⟨h1,h2,rfl,h3⟩,hl,hk⟩:=hk;have CV:=Fe (P:=P) (w:=w) hT hs ET a es.length cap Iu (some m) (some m) (.inr B0) h1 h2 B0 (by simp only[CM];omega);simp only[CM]at CV;have CP:((es.take m.toNat).drop (Iu.getD 0).toNat).length=m.toNat-(Iu.getD 0).toNat:=by rw[Di,Aw];omega
        refine BQ.does hI ⟨_,_,CV,hk,.full _ _ _ _ ((BO.sub (c':=m.toNat-(Iu.getD 0).toNat) hr rfl hl (l:=(Iu.getD 0).toNat) (m:=m.toNat) ch ch ch _ ?_).up _) (fun c hc=>hl c (CT (Ja hc))) ⟨_,by rw[CP]⟩⟩;split
        .rename_i e;exact .inr ⟨e,rfl⟩
        .exact .inl rfl
       split at hk
       .rename_i hd;obtain⟨⟨h1,h2,rfl,h3⟩,hl,hk⟩:=hk;have CV:=Fe (P:=P) (w:=w) hT hs ET a es.length cap Iu (some m) (some m) (.inr B0) h1 h2 B0 (by simp only[CM];omega);simp only[CM]at CV
        obtain⟨g',k1,k2,k3⟩:=Pf hI (sz:=(cx.T e).size) (n:=m.toNat-(Iu.getD 0).toNat) hd (es:=(es.take m.toNat).drop (Iu.getD 0).toNat) (fun c hc=>hl c (CT (Ja hc))) (by rw[Di,Aw];omega)
         (BO.sub (c':=m.toNat-(Iu.getD 0).toNat) hr rfl hl (l:=(Iu.getD 0).toNat) (m:=m.toNat) ch ch ch (if m.toNat=(Iu.getD 0).toNat then a else a.map (·.add ((Iu.getD 0).toNat*(cx.T e).size))) (by
          split
          .rename_i e;exact .inr ⟨e,rfl⟩
          .exact .inl rfl))
        exact⟨_,w,g',_,_,CV,hk,k1,k2,k3⟩
       .exact hk.elim
      .exact hk.elim
    .obtain⟨⟨h1,h2,h3⟩,h4,hk⟩:=hk;obtain rfl:=hx.v_eq;have CV:=Fe (P:=P) (w:=w) hT hs ET none 0 0 Iu MR s9 h4 ch (by simp only[Jt]at *;omega) (by simp only[Jt]at *;omega) (by simp only[Jt]at *;omega);refine BQ.does hI (BQ.val (x:=.slice none 0 0) ?_ hk);rw[CV];simp only[h1,Jt,h2,h3];simp
    .rename_i r n;split at hk
     .rename_i sz es e0;split at hk
      .rename_i SG;obtain rfl:=AM SG;obtain⟨⟨h1,h2,h3,h4,h5⟩,hk⟩:=hk;have ho:=hI.objs r;rw[e0]at ho;obtain⟨t1,l1,al,a3⟩:=ho;have hl:(h r).live:=by rw[e0];trivial
       have yE:s9=none\/MR≠none:=h5.imp id (fun q=>q.2);cases hx with
       |msl _ _ _ a cap hu ht' hn ha MM=>
        have hv:=MM (h1.trans l1.symm);subst h1;have mD:∀c:Nat,es.length<=c->MR.getD es.length<=s9.getD c/\s9.getD c<=c:=fun c hc=>by
         rcases h5 with h5 | ⟨h5,DD⟩
         .rw[h5];simp only[Em];omega
         .obtain⟨m,hm⟩:=Option.ne_none_iff_exists'.1 DD;rw[h5,hm];rw[hm]at h3 h4;simp only[CM]at h3 h4⊢;omega
        rcases a3 with ⟨rfl,q2,q3⟩ | ⟨b,L6,E,vs,q1,q2,q3,q4,q5,q6,q7⟩
        .rw[q2]at hv;cases hv;have CV:=Fe (P:=P) (w:=w) hT hs ET none 0 0 Iu MR s9 yE h2 h3 (mD 0 B0).1 (mD 0 B0).2
         obtain⟨k1,k2⟩:=hI.upd r .dead (g.ρ r) (g.ln r) (g.tk r) (g.own r) g.S w none ⟨rfl,rfl,rfl,Ak _⟩ (fun _ _ _=>rfl) (fun b e=>by cases e) (fun _ _ h=>h) (fun _ _ h=>.inl h) (fun b o e=>by cases e) (fun b hh _=>by cases hh) B0
          (fun _=>⟨rfl,Ak _,fun _=>rfl,fun _=>rfl⟩) (fun _ _=>trivial)
         refine⟨_,w,_,_,_,CV,hk,k1,k2,?_⟩;have z1:((Iu.getD 0).toNat)=0:=by simp only[Au,Jt]at h3 h4;omega
         have z2:((MR.getD (([]:List (List AV)).length:Int)).toNat)=0:=by simp only[Au,Jt]at h3 h4⊢;omega
         simp only[List.take_nil,List.drop_nil];have z3:((MR.getD ((0:Nat):Int)).toNat)=0:=z2;rw[z1,z3];exact .snil _ _ _
        .rw[q1]at hv;cases hv;have CV:=Fe (P:=P) (w:=w) hT hs ET (some ⟨b,0,none⟩) es.length cap Iu MR s9 yE h2 h3 (mD _ q3).1 (mD _ q3).2;have ja:=(hI.loc r b hl q2).1
         obtain⟨k1,k2⟩:=hI.upd r .dead (g.ρ r) (g.ln r) (g.tk r) (g.own r) (g.more b (es.length*(cx.T e).size)) w none ⟨rfl,rfl,rfl,Ak _⟩ (fun _ _ _=>rfl) (fun b e=>by cases e) (fun _ _ h=>.inl h)
          (fun b' o hs=>hs.elim .inl (fun hs=>.inr ⟨by rw[hs.1];exact ja,.inr ⟨hl,by rw[hs.1];exact q2⟩⟩)) (fun b o e=>by cases e) (fun b hh _=>by cases hh) B0
          (fun _=>⟨rfl,Ak _,fun _=>rfl,fun _=>rfl⟩) (fun _ _=>trivial)
         have Ez:=BO.slice_row (g:=g.upd r (g.ρ r) (g.ln r) (g.tk r) (g.own r) (g.more b (es.length*(cx.T e).size))) (U:=Fx) q4 al q3 (q6.mono k2.keeps (fun _ h=>h) (fun _ h=>h.elim)) (fun o ho=>.inr ⟨rfl,ho⟩);have Ahu:=mD _ q3;refine⟨_,w,_,_,_,CV,hk,k1,k2,(BO.sub (c':=(s9.getD cap).toNat-(Iu.getD 0).toNat) Ez rfl al (l:=(Iu.getD 0).toNat) (m:=(MR.getD es.length).toNat) ch ch ch _ ?_).up _⟩;split
         .rename_i e;exact .inr ⟨by omega,rfl⟩
         .exact .inl rfl
      .exact hk.elim
     .exact hk.elim
    .exact hk.elim
  .exact hk.elim
 .exact hk.elim
theorem Wz(hT:CK P cx.T){d:Option Nat}{ty:Nat}{n c:AV}{vn vc:Value}(hn:BO g w (AS h) n vn)(hc:BO g w (AS h) c vc)(hk:Kl cx d h ty n c K) :
  OI P w0 g0 h0 h g w (Instr.makeSlice ty vn vc) K:=by
 unfold Kl at hk;split at hk
 .rename_i e n c hs;obtain rfl:=hn.v_eq;obtain rfl:=hc.v_eq;split at hk
  .rename_i Qr;split at hk
   .rename_i Oc;have Oc:=AM Oc;split at hk
    .exact hk.elim
    .rename_i k ET;obtain⟨⟨h1,h2,h3,h4⟩,hk⟩:=hk;obtain⟨i,z,i1,i2,i3,i4,i5⟩:=Ij hT ET;have uY:(cx.T e).zc≠[]:=fun e0=>by rw[e0]at Oc;rw[ET]at Oc;cases Oc
     have wn:IntKind.i64.wrap n=n:=N8 ⟨by omega,by omega⟩;have wc:IntKind.i64.wrap c=c:=N8 ⟨by omega,by omega⟩;have GE:∀l:List AV,(∀a∈l,one a=true)->Hh l=true:=by
      intro l
      induction l with
      |nil=>intro _;rfl
      |cons a l ih=>intro h;simp[Hh,h a (List.mem_cons_self ..),ih (fun b hb=>h b (List.mem_cons_of_mem _ hb))]
     have uS:((Array.range (c.toNat*(cx.T e).size)).map fun k=>z.cells[k % z.cells.size]!).toList=(List.replicate c.toNat (cx.T e).zc).flatten:=by
      rw[IB c.toNat _ uY,Oc,i5];have e6:z.cells.size=(cx.T e).size:=by rw[<-Oc,i5];simp
      simp[e6,Array.getElem!_eq_getD]
     have hzs:(cx.T e).zc.length=(cx.T e).size:=Oc;have hlr:∀c'∈List.replicate c.toNat (cx.T e).zc,c'.length=(cx.T e).size:=fun c' hc=>by rw[Ct hc];exact Oc
     have AcR : ∀c'∈List.replicate n.toNat ((cx.T e).zc.map AV.v),c'.length=(cx.T e).size:=fun c' hc=>by rw[Ct hc,Bb];exact Oc
     have AcS:∀c'∈List.replicate n.toNat (cx.T e).zc,c'.length=(cx.T e).size:=fun c' hc=>by rw[Ct hc];exact Oc
     obtain⟨g',av,h',q1,q2,q3,q4⟩:=KR hI hk (vs:=(Array.range (c.toNat*(cx.T e).size)).map fun k=>z.cells[k % z.cells.size]!) (cap:=c.toNat) e AcR (by rw[BV];omega) B0 (by
      rw[uS,BV];have e1:(List.replicate n.toNat ((cx.T e).zc.map AV.v)).flatten=(List.replicate n.toNat (cx.T e).zc).flatten.map AV.v:=by
       rw[T9,List.map_replicate]
      have e2:(List.replicate c.toNat (cx.T e).zc).flatten.take (n.toNat*(cx.T e).size)=(List.replicate n.toNat (cx.T e).zc).flatten:=by
       obtain⟨m,hm⟩:∃m,c.toNat=n.toNat+m:=⟨c.toNat-n.toNat,by omega⟩;rw[hm,<-List.replicate_append_replicate,Ci,FX (by rw[Dx AcS,BV])]
      rw[e1,e2];refine CU.vals (GE _ (fun a ha=>?_));obtain⟨x,hx,rfl⟩:=Ai.1 ha;obtain⟨l,hl,hx⟩:=D3.1 hx;rw[Ct hl]at hx;exact NG Qr _ (Ai.2 ⟨x,hx,rfl⟩)) w ⟨rfl,rfl,rfl,rfl⟩
     rw[BV]at q4;refine⟨_,_,g',av,h',?_,q1,q2,q3,q4⟩;have hb0:¬((cx.T e).bytes*c>2 ^ 48):=by rw[Int.mul_comm];omega
     have aH:((decide (c<0)||decide (((cx.T e).bytes:Int)*c>2 ^ 48))||decide (n<0)||decide (n>c))=false:=by
      simp only[Bool.or_eq_false_iff,Hy];exact⟨⟨⟨by omega,hb0⟩,by omega⟩,by omega⟩
     simp only[Instr.makeSlice,Sem.run_bind,run_underlying (hT.slice hs),Result.andThen_ok,asInt,asIntOf,Sem.run_pure,typeInfo,run_program,i1,i4,wn,wc,aH,Do,Gu,run_askRoom,hT.size1 w ET]
     by_cases hz:c.toNat*(k+1)=0
     .have ye:c.toNat=0:=by
       rcases Nat.mul_eq_zero.1 hz with h | h
       .exact h
       .cases h
      rw[ye];simp only[Lw,SJ];simp only[show Array.range 0=#[]from rfl,Array.map_empty];simp[newRow]
     .simp only[Aj hz,Sem.run_bind,zeroValue,typeInfo,run_program,i1,i2,Result.andThen_ok,Sem.run_pure];rw[ET];simp[newRow]
   .exact hk.elim
  .exact hk.elim
 .exact hk.elim
end
end Go.Eng
namespace Go.Eng
open Go.ChangeMaps (setBlock)
variable {Cc:List (Value×AV)}{es:Array MapEntry}{sh:E9}{vx:Value}{α β:Type}{f:α->β}{l:List α}{ck:Nat}{w:World}{k x y:Value}{a:AV}{K:HK}{r:Nat}{o':Obj}{j:Nat}{v:AV}{T:G2}
theorem WA{o:Obj}(h:w.heap[r]?=some o):(setBlock w r o').heap[r]?=some o':=by
 have:=(Bu.1 h).1
 simp[setBlock,this]
theorem VM{k:Nat}(h:k≠r):(setBlock w r o').heap[k]?=w.heap[k]?:=by
 simp[setBlock,Ne.symm h]
theorem OG(w:World)(r:Nat)(o' : Obj):(setBlock w r o').heap.size=w.heap.size:=by simp[setBlock]
theorem QC(h:(l.map f).Nodup):l.Nodup:=by
 induction l with
 |nil=>exact FD
 |cons c l ih=>
  rw[AL,Dk]at h;exact Dk.2 ⟨fun hc=>h.1 (Ai.2 ⟨c,hc,rfl⟩),ih h.2⟩
theorem XF(h:(l.map f).Nodup){i:Nat}{a b:α}(ha:l[i]?=some a)(hb:l[j]?=some b)(he:f a=f b):i=j:=by
 induction l generalizing i j with
 |nil=>simp at ha
 |cons c l ih=>
  rw[AL,Dk]at h;cases i with
  |zero=>
   cases j with
   |zero=>rfl
   |succ j=>
    simp only[Be,Bz,Hs]at ha hb;exact absurd (Ai.2 ⟨b,Az hb,by rw[<-he,ha]⟩) h.1
  |succ i=>
   cases j with
   |zero=>
    simp only[Be,Bz,Hs]at ha hb;exact absurd (Ai.2 ⟨a,Az ha,by rw[he,hb]⟩) h.1
   |succ j=>exact Aa (·+1) (ih h.2 ha hb)
open Classical in
theorem NX{b:AV}(h:(k,b)∈Cc):E4 Cc k a=Cc.map fun p=>if p.1=k then(k,a)else p:=Ao ⟨b,h⟩
open Classical in
theorem IY(h:∀b,(k,b)∉Cc):E4 Cc k a=Cc++[(k,a)]:=Aj (fun⟨b,e⟩=>h b e)
theorem XC(f:AV->AV)(h:HX sh es ck Cc):HX sh es ck (Cc.map fun p=>(p.1,f p.2)):=by
 obtain⟨h1,h2,h3,h4,h5,h6⟩:=h;refine⟨by simp[h1],fun i kv e q1 q2=>?_,fun kv Rd=>?_,?_,h5,h6⟩
 .rw[AH]at q1;obtain⟨p,q3,rfl⟩:=AW.1 q1;exact h2 i p e q3 q2
 .obtain⟨p,hp,rfl⟩:=Ai.1 Rd;exact h3 p hp
 .rw[Br];exact h4
theorem Qx(h:HX sh es ck Cc)(hj:Cc[j]?=some (x,a)) :
  HX sh (es.modify j fun e=>{ e with key:=x,val:=y }) ck (E4 Cc x v) /\
   ∀(i:Nat) (kv:Value×AV) (e:MapEntry),(E4 Cc x v)[i]?=some kv->(es.modify j fun e=>{ e with key:=x,val:=y })[i]?=some e ->
    (kv.2=v/\e.val=y)\/(Cc[i]?=some kv/\es[i]?=some e):=by
 classical
 rw[NX (Az hj)];obtain⟨h1,h2,h3,h4,h5,h6⟩:=h;have hm:∀i e,(es.modify j fun e=>{ e with key:=x,val:=y })[i]?=some e->∃e0,es[i]?=some e0/\e.born=e0.born/\(if i=j then e.key=x/\e.val=y else e=e0):=by
  intro i e he;rw[Array.getElem?_modify]at he;split at he
  .rename_i e1;subst e1;obtain⟨e0,q1,q2⟩:=AW.1 he;exact⟨e0,q1,by rw[<-q2],by rw[Ao rfl,<-q2];exact⟨rfl,rfl⟩⟩
  .rename_i e1;exact⟨e,he,rfl,by rw[Aj (fun q=>e1 q.symm)]⟩
 have hk:∀i kv,(Cc.map fun p=>if p.1=x then(x,v)else p)[i]?=some kv->∃p,Cc[i]?=some p/\kv.1=p.1/\(if i=j then kv.2=v else kv=p):=by
  intro i kv Rd;rw[AH]at Rd;obtain⟨p,q1,q2⟩:=AW.1 Rd;refine⟨p,q1,?_⟩
  by_cases e:p.1=x
  .rw[Ao e]at q2;subst q2
   have:=XF h4 q1 hj e
   exact⟨e.symm,by rw[Ao this]⟩
  .rw[Aj e]at q2;subst q2;refine⟨rfl,?_⟩;rw[Aj];intro e2;subst e2;rw[q1]at hj;cases hj;exact e rfl
 have yA:(Cc.map fun p=>if p.1=x then(x,v)else p).map (·.1)=Cc.map (·.1):=by
  rw[Br];apply Bi;intro p _;simp only[Function.comp];split
  .rename_i e;exact e.symm
  .rfl
 refine⟨⟨by simp[h1],fun i kv e q1 q2=>?_,fun kv Rd=>?_,by rw[yA];exact h4,fun i e q=>?_,fun i i' e e' q q' hb=>?_⟩,fun i kv e q1 q2=>?_⟩
 .obtain⟨p,p1,p2,p3⟩:=hk i kv q1;obtain⟨e0,r1,r2,r3⟩:=hm i e q2
  have:=h2 i p e0 p1 r1
  split at r3
  .rename_i ij;subst ij;rw[hj]at p1;cases p1;rw[r3.1,p2]
  .rw[r3,p2];exact this
 .obtain⟨i,hi⟩:=Cp.1 Rd;obtain⟨p,p1,p2,p3⟩:=hk i kv hi;rw[p2];exact h3 p (Az p1)
 .obtain⟨e0,r1,r2,_⟩:=hm i e q;rw[r2];exact h5 i e0 r1
 .obtain⟨e0,r1,r2,_⟩:=hm i e q;obtain⟨e1,s1,s2,_⟩:=hm i' e' q';exact h6 i i' e0 e1 r1 s1 (by rw[<-r2,<-s2];exact hb)
 .obtain⟨p,p1,p2,p3⟩:=hk i kv q1;obtain⟨e0,r1,r2,r3⟩:=hm i e q2;split at r3
  .rename_i ij;rw[Ao ij]at p3;exact .inl ⟨p3,r3.2⟩
  .rename_i ij;rw[Aj ij]at p3;exact .inr ⟨by rw[p3];exact p1,by rw[r3];exact r1⟩
theorem Vk(h:HX sh es ck Cc)(hx:XO sh x=true)(hn:∀a,(x,a)∉Cc) :
  HX sh (es.push { key:=x,val:=y,born:=ck }) (ck+1) (E4 Cc x v) /\
   ∀(i:Nat) (kv:Value×AV) (e:MapEntry),(E4 Cc x v)[i]?=some kv->(es.push { key:=x,val:=y,born:=ck })[i]?=some e ->
    (kv.2=v/\e.val=y)\/(Cc[i]?=some kv/\es[i]?=some e):=by
 rw[IY hn];obtain⟨h1,h2,h3,h4,h5,h6⟩:=h;have hm:∀i e,(es.push { key:=x,val:=y,born:=ck })[i]?=some e->(es[i]?=some e/\i<es.size)\/(i=es.size/\e={ key:=x,val:=y,born:=ck }):=by
  intro i e he;rw[Array.getElem?_push]at he;split at he
  .rename_i q;cases he;exact .inr ⟨q,rfl⟩
  .exact .inl ⟨he,(Bu.1 he).1⟩
 have hk:∀i kv,(Cc++[(x,v)])[i]?=some kv->(Cc[i]?=some kv/\i<es.size)\/(i=es.size/\kv=(x,v)):=by
  intro i kv Rd;rw[MU]at Rd;split at Rd
  .rename_i q;exact .inl ⟨Rd,by omega⟩
  .rename_i q
   have:i-Cc.length=0:=by
    have:=(Ay.1 Rd).1
    simp at this;omega
   rw[this]at Rd;simp at Rd;exact .inr ⟨by omega,Rd.symm⟩
 refine⟨⟨by simp[h1],fun i kv e q1 q2=>?_,fun kv Rd=>?_,?_,fun i e q=>?_,fun i i' e e' q q' hb=>?_⟩,fun i kv e q1 q2=>?_⟩
 .rcases hk i kv q1 with ⟨p1,p2⟩ | ⟨p1,p2⟩<;>rcases hm i e q2 with ⟨r1,r2⟩ | ⟨r1,r2⟩
  .exact h2 i kv e p1 r1
  .omega
  .omega
  .rw[p2,r2]
 .rcases AP.1 Rd with q | q
  .exact h3 kv q
  .rw[Aq.1 q];exact hx
 .rw[As,FQ];refine⟨h4,by simp,fun a ha b hb e=>?_⟩;simp only[AL,E7,Aq]at hb;obtain⟨p,p1,p2⟩:=Ai.1 ha;refine hn p.2 ?_
  have:p=(x,p.2):=by rw[<-hb,<-e,<-p2]
  rw[<-this];exact p1
 .rcases hm i e q with ⟨r1,_⟩ | ⟨_,r2⟩
  .have:=h5 i e r1;omega
  .rw[r2];exact Gj _
 .rcases hm i e q with ⟨r1,_⟩ | ⟨r1,r2⟩<;>rcases hm i' e' q' with ⟨s1,_⟩ | ⟨s1,s2⟩
  .exact h6 i i' e e' r1 s1 hb
  .have:=h5 i e r1;rw[s2]at hb;dsimp only at hb;omega
  .have:=h5 i' e' s1;rw[r2]at hb;dsimp only at hb;omega
  .omega
 .rcases hk i kv q1 with ⟨p1,p2⟩ | ⟨p1,p2⟩<;>rcases hm i e q2 with ⟨r1,r2⟩ | ⟨r1,r2⟩
  .exact .inr ⟨p1,r1⟩
  .omega
  .omega
  .exact .inl ⟨by rw[p2],by rw[r2]⟩
section
variable {P:Program}{w0:World}{g0:Gh}{h0 h:Nat->HO}{g:Gh}{w:World}(hI:D2 w0 g0 h0 h g w)
include hI
theorem D2.swap{r b:Nat}(hl:(h r).live)(ho:g.own r=some b)(hn:∀o,¬g.S b o)(o' : HO){ob:Obj}(hb:w.heap[b]?=some ob)(gw : Obj)(w1:World)(LZ:w1.heap=w.heap/\w1.os=w.os/\w1.tape=w.tape/\w1.output=w.output)(DD:o'≠.free)
  (Kg:KZ g (g.upd r (g.ρ r) (g.ln r) (g.tk r) (g.own r) g.S) (AS h)->EN g w (g.upd r (g.ρ r) (g.ln r) (g.tk r) (g.own r) g.S) (setBlock w1 b gw)->(setBlock w1 b gw).heap[b]?=some gw ->
   (∀k,k≠b->(setBlock w1 b gw).heap[k]?=w.heap[k]?) ->
   Ew (g.upd r (g.ρ r) (g.ln r) (g.tk r) (g.own r) g.S) (setBlock w1 b gw) (AS (A2 h r o')) r o') :
  D2 w0 g0 h0 (A2 h r o') (g.upd r (g.ρ r) (g.ln r) (g.tk r) (g.own r) g.S) (setBlock w1 b gw)/\Le h g w (A2 h r o') (g.upd r (g.ρ r) (g.ln r) (g.tk r) (g.own r) g.S) (setBlock w1 b gw):=by
 have DE:=(hI.loc r b hl ho).1;have ES:(setBlock w1 b gw).heap[b]?=some gw:=WA (by rw[LZ.1];exact hb);have du:∀k,k≠b->(setBlock w1 b gw).heap[k]?=w.heap[k]?:=fun k hk=>by rw[VM hk,LZ.1]
 refine hI.upd r o' _ _ _ _ _ _ (some b) ⟨LZ.2.1,LZ.2.2.1,LZ.2.2.2,by rw[OG,LZ.1];exact Ak _⟩ (fun k _ DD=>du k (fun e=>DD (by rw[e]))) (fun b' e=>by cases e;exact⟨hl,ho⟩) (fun _ _ h=>h) (fun _ _ h=>.inl h)
  (fun b' o e hs=>by cases e;exact absurd hs (hn o)) (fun b' _ e=>?_) DD (fun _=>⟨rfl,Ak _,fun _=>rfl,fun _=>rfl⟩) (fun hg hk=>Kg hg hk ES du)
 rw[ho]at e;cases e;exact⟨by rw[OG,LZ.1];exact DE,.inl ⟨hl,ho⟩⟩
theorem Ox(hT:CK P T){ty:Nat}{m k x:AV}{vm vk:Value}(hm:BO g w (AS h) m vm)(hk' : BO g w (AS h) k vk)(hx:BO g w (AS h) x vx)(hk:HP T h ty m k x K) :
  kQ P w0 g0 h0 h g w (Instr.mapUpdate ty vm vk vx) K:=by
 unfold HP at hk;split at hk
 .rename_i r;split at hk
  .rename_i sh Cc e0;obtain⟨kt,e,k1,k2,k3,k4⟩:=NU hk' hk;have ho:=hI.objs r;rw[e0]at ho;obtain⟨t1,b,es,ck,a1,a2,a3,a4,a5,a6⟩:=ho;have hl:(h r).live:=by rw[e0];trivial
   cases hm with
   |mref _ _ b' hu ht hp=>
    rw[a2]at hp;cases hp;have mM:=hT.map k1;have FH:=run_getObj_map (P:=P) w b es ck a3;have OX:∀o',(setObj b o').run P w=.ok () (setBlock w b o'):=fun o'=>by simp[setObj,Sem.run,a3,setBlock]
    have Wb:=fun bb=>Ny hT k2 w bb k3;obtain⟨res,r1,r2⟩:=Pm hT k2 w k3 es.toList a4.shape;have py:=BO.str hI.objs hx;rcases r2 with ⟨rfl,hn⟩ | ⟨j,en,rfl,hj,hkey⟩
    .obtain⟨m1,m2⟩:=Vk a4 (x:=vk) (v:=str h x) (y:=vx) k3 (fun a=>a4.none hn a);obtain⟨i1,i2⟩:=D2.swap hI hl a1 a6 (.map sh (E4 Cc vk (str h x))) a3 (.map (es.push { key:=vk,val:=vx,born:=ck }) (ck+1)) w ⟨rfl,rfl,rfl,rfl⟩ B0 (fun hg IJ ES du=>by
      obtain⟨u1,u2,u3,u4⟩:=BI g r (g.ρ r) (g.ln r) (g.tk r) (g.own r) g.S;refine⟨u3.trans t1,b,_,_,u4.trans a1,u1.trans a2,ES,m1,fun i kv e q1 q2=>?_,a6⟩;rcases m2 i kv e q1 q2 with ⟨p1,p2⟩ | ⟨p1,p2⟩
      .rw[p1,p2];exact py.mono IJ (fun _ h=>h) (fun _ h=>h.elim)
      .exact(a5 i kv e p1 p2).mono IJ (fun _ h=>h) (fun _ h=>h.elim))
     refine⟨_,_,_,?_,k4,i1,i2⟩;simp[Instr.mapUpdate,run_underlying mM,FH,Wb,r1,OX]
    .obtain⟨a,q1,q2⟩:=a4.some hj hkey;obtain⟨m1,m2⟩:=Qx a4 (x:=vk) (v:=str h x) (y:=vx) q1;obtain⟨i1,i2⟩:=D2.swap hI hl a1 a6 (.map sh (E4 Cc vk (str h x))) a3 (.map (es.modify j fun e=>{ e with key:=vk,val:=vx }) ck) w ⟨rfl,rfl,rfl,rfl⟩ B0 (fun hg IJ ES du=>by
      obtain⟨u1,u2,u3,u4⟩:=BI g r (g.ρ r) (g.ln r) (g.tk r) (g.own r) g.S;refine⟨u3.trans t1,b,_,_,u4.trans a1,u1.trans a2,ES,m1,fun i kv e q1 q2=>?_,a6⟩;rcases m2 i kv e q1 q2 with ⟨p1,p2⟩ | ⟨p1,p2⟩
      .rw[p1,p2];exact py.mono IJ (fun _ h=>h) (fun _ h=>h.elim)
      .exact(a5 i kv e p1 p2).mono IJ (fun _ h=>h) (fun _ h=>h.elim))
     refine⟨_,_,_,?_,k4,i1,i2⟩;have uK : es[j]?=some en:=by simpa using hj
     have Kh:=Tc (P:=P) w k3;simp[Instr.mapUpdate,run_underlying mM,FH,Wb,r1,OX,uK,hkey,Kh]
  .rename_i sh Cc e0;obtain⟨kt,e,k1,k2,k3,k4⟩:=NU hk' hk;have ho:=hI.objs r;rw[e0]at ho;obtain⟨t1,b,es,ck,a1,a2,a3,a4,a5,a6⟩:=ho;have hl:(h r).live:=by rw[e0];trivial
   cases hm with
   |mref _ _ b' hu ht hp=>
    rw[a2]at hp;cases hp;have mM:=hT.map k1;have FH:=run_getObj_map (P:=P) w b es ck a3;have OX:∀o',(setObj b o').run P w=.ok () (setBlock w b o'):=fun o'=>by simp[setObj,Sem.run,a3,setBlock]
    have Wb:=fun bb=>Ny hT k2 w bb k3;obtain⟨res,r1,r2⟩:=Pm hT k2 w k3 es.toList a4.shape;rcases r2 with ⟨rfl,hn⟩ | ⟨j,en,rfl,hj,hkey⟩
    .obtain⟨m1,m2⟩:=Vk a4 (x:=vk) (v:=x) (y:=vx) k3 (fun a=>a4.none hn a);obtain⟨i1,i2⟩:=D2.swap hI hl a1 a6 (.mapU sh (E4 Cc vk (x))) a3 (.map (es.push { key:=vk,val:=vx,born:=ck }) (ck+1)) w ⟨rfl,rfl,rfl,rfl⟩ B0 (fun hg IJ ES du=>by
      obtain⟨u1,u2,u3,u4⟩:=BI g r (g.ρ r) (g.ln r) (g.tk r) (g.own r) g.S;have Lq:∀i,AS h i->AS (A2 h r (.mapU sh (E4 Cc vk x))) i:=fun i hi=>D7 B0 i hi;refine⟨u3.trans t1,b,_,_,u4.trans a1,u1.trans a2,ES,m1,fun i kv e q1 q2=>?_,a6⟩;rcases m2 i kv e q1 q2 with ⟨p1,p2⟩ | ⟨p1,p2⟩
      .rw[p1,p2];exact hx.mono IJ Lq hg
      .exact(a5 i kv e p1 p2).mono IJ Lq hg)
     refine⟨_,_,_,?_,k4,i1,i2⟩;simp[Instr.mapUpdate,run_underlying mM,FH,Wb,r1,OX]
    .obtain⟨a,q1,q2⟩:=a4.some hj hkey;obtain⟨m1,m2⟩:=Qx a4 (x:=vk) (v:=x) (y:=vx) q1;obtain⟨i1,i2⟩:=D2.swap hI hl a1 a6 (.mapU sh (E4 Cc vk (x))) a3 (.map (es.modify j fun e=>{ e with key:=vk,val:=vx }) ck) w ⟨rfl,rfl,rfl,rfl⟩ B0 (fun hg IJ ES du=>by
      obtain⟨u1,u2,u3,u4⟩:=BI g r (g.ρ r) (g.ln r) (g.tk r) (g.own r) g.S;have Lq:∀i,AS h i->AS (A2 h r (.mapU sh (E4 Cc vk x))) i:=fun i hi=>D7 B0 i hi;refine⟨u3.trans t1,b,_,_,u4.trans a1,u1.trans a2,ES,m1,fun i kv e q1 q2=>?_,a6⟩;rcases m2 i kv e q1 q2 with ⟨p1,p2⟩ | ⟨p1,p2⟩
      .rw[p1,p2];exact hx.mono IJ Lq hg
      .exact(a5 i kv e p1 p2).mono IJ Lq hg)
     refine⟨_,_,_,?_,k4,i1,i2⟩;have uK : es[j]?=some en:=by simpa using hj
     have Kh:=Tc (P:=P) w k3;simp[Instr.mapUpdate,run_underlying mM,FH,Wb,r1,OX,uK,hkey,Kh]
  .exact hk.elim
 .exact hk.elim
theorem Pg{d b:Nat}{ck:Nat}(hd:h d=.free)(hS:g.S b 0)(hb:w.heap[b]?=some (.map es ck))(hm:HX sh es ck Cc)(hv:∀(i:Nat) (kv:Value×AV) (e:MapEntry),Cc[i]?=some kv->es[i]?=some e->BO g w Fx kv.2 e.val) :
  ∃g',D2 w0 g0 h0 (A2 h d (.iter Cc Cc none)) g' (w.alloc (.mapIter (some b) ck #[] ck))/\Le h g w (A2 h d (.iter Cc Cc none)) g' (w.alloc (.mapIter (some b) ck #[] ck)) /\
   BO g' (w.alloc (.mapIter (some b) ck #[] ck)) (AS (A2 h d (.iter Cc Cc none))) (.ref d 0) (.pointer (some ⟨w.heap.size,0,none⟩)):=by
 obtain⟨k1,k2⟩:=hI.newOwn hd (.iter Cc Cc none) (.mapIter (some b) ck #[] ck) (.pointer (some ⟨w.heap.size,0,none⟩)) 0 false w ⟨rfl,rfl,rfl,rfl⟩ B0 (fun hg hk=>by
  obtain⟨u1,u2,u3,u4⟩:=BI g d (.pointer (some ⟨w.heap.size,0,none⟩)) 0 false (some w.heap.size) g.S;obtain⟨c1,c2,c3⟩:=hk b 0 hS
  exact⟨u3,w.heap.size,b,ck,#[],ck,es,ck,u4,u1,GT w _ rfl,c1,c3 es ck hb,⟨sh,hm⟩,rfl,rfl,fun i kv e q1 q2=>(hv i kv e q1 q2).mono hk (fun _ h=>h) (fun _ h=>h.elim),
   ⟨QC hm.2.2.2.1,fun _ h=>h⟩,fun i kv e q1 q2=>by simp[List.mem_of_getElem? q1],trivial,fun o ho=>by have:=hI.slt _ _ ho;omega⟩)
 refine⟨_,k1,k2,.ref _ d 0 w.heap.size (by unfold AS;rw[Bl];simp) ?_ ?_⟩<;>simp[Gh.upd]
theorem SQ{r b:Nat}{ck:Nat}(e0:h r=.map sh Cc)(a1:g.own r=some b)(a2:g.ρ r=.map (some b))(a3:w.heap[b]?=some (.map es ck))(a4:HX sh es ck Cc)(a5:∀(i:Nat) (kv:Value×AV) (e:MapEntry),Cc[i]?=some kv->es[i]?=some e->BO g w Fx kv.2 e.val)(t1:g.tk r=false) :
  ∃g',D2 w0 g0 h0 (A2 h r (.rom sh Cc)) g' w/\Le h g w (A2 h r (.rom sh Cc)) g' w/\g'.S b 0:=by
 have hl:(h r).live:=by rw[e0];trivial
 have DE:=(hI.loc r b hl a1).1
 obtain⟨k1,k2⟩:=hI.upd r (.rom sh Cc) (g.ρ r) (g.ln r) (g.tk r) none (g.more b 1) w none ⟨rfl,rfl,rfl,Ak _⟩ (fun _ _ _=>rfl) (fun b e=>by cases e) (fun _ _ h=>.inl h)
  (fun b' o hs=>hs.elim .inl (fun hs=>.inr ⟨by rw[hs.1];exact DE,.inr ⟨hl,by rw[hs.1];exact a1⟩⟩)) (fun b o e=>by cases e) (fun b hh _=>by cases hh) B0
  (fun _=>⟨rfl,Ak _,fun _=>rfl,fun _=>rfl⟩) (fun hg hk=>by
   obtain⟨u1,u2,u3,u4⟩:=BI g r (g.ρ r) (g.ln r) (g.tk r) none (g.more b 1);exact⟨u3.trans t1,b,u1.trans a2,.cmap _ sh Cc b es ck (.inr ⟨rfl,WK⟩) a3 a4 (fun i kv e q1 q2=>(a5 i kv e q1 q2).mono hk (fun _ h=>h) (fun _ h=>h.elim))⟩)
 exact⟨_,k1,k2,.inr ⟨rfl,WK⟩⟩
theorem Y3{r b:Nat}{ck:Nat}(e0:h r=.mapU sh Cc)(a1:g.own r=some b)(a2:g.ρ r=.map (some b))(a3:w.heap[b]?=some (.map es ck))(a4:HX sh es ck Cc)(a5:∀(i:Nat) (kv:Value×AV) (e:MapEntry),Cc[i]?=some kv->es[i]?=some e->BO g w (AS h) kv.2 e.val)(t1:g.tk r=false) :
  ∃g',D2 w0 g0 h0 (A2 h r (.rom sh (Tz h Cc))) g' w/\Le h g w (A2 h r (.rom sh (Tz h Cc))) g' w/\g'.S b 0:=by
 have hl:(h r).live:=by rw[e0];trivial
 have DE:=(hI.loc r b hl a1).1
 obtain⟨k1,k2⟩:=hI.upd r (.rom sh (Tz h Cc)) (g.ρ r) (g.ln r) (g.tk r) none (g.more b 1) w none ⟨rfl,rfl,rfl,Ak _⟩ (fun _ _ _=>rfl) (fun b e=>by cases e) (fun _ _ h=>.inl h)
  (fun b' o hs=>hs.elim .inl (fun hs=>.inr ⟨by rw[hs.1];exact DE,.inr ⟨hl,by rw[hs.1];exact a1⟩⟩)) (fun b o e=>by cases e) (fun b hh _=>by cases hh) B0
  (fun _=>⟨rfl,Ak _,fun _=>rfl,fun _=>rfl⟩) (fun hg hk=>by
   obtain⟨u1,u2,u3,u4⟩:=BI g r (g.ρ r) (g.ln r) (g.tk r) none (g.more b 1);refine⟨u3.trans t1,b,u1.trans a2,.cmap _ sh _ b es ck (.inr ⟨rfl,WK⟩) a3 (XC _ a4) (fun i kv e q1 q2=>?_)⟩;unfold Tz at q1;rw[AH]at q1;obtain⟨p,q3,rfl⟩:=AW.1 q1;exact((a5 i p e q3 q2).str hI.objs).mono hk (fun _ h=>h) (fun _ h=>h.elim))
 exact⟨_,k1,k2,.inr ⟨rfl,WK⟩⟩
theorem ka(hT:CK P T){ty kt e:Nat}(ht:(T ty).d=.map kt e){d:Option Nat}{x:AV}(hx:BO g w (AS h) x vx)(hk:dV d h x K) :
  OI P w0 g0 h0 h g w (Instr.range ty vx) K:=by
 have hu:=hT.map ht;unfold dV at hk;split at hk
 .exact hk.elim
 .rename_i d;split at hk
  .rename_i hd;have CV:∀b es ck,w.heap[b]?=some (.map es ck)->(Instr.range ty (.map (some b))).run P w=.ok (.pointer (some ⟨w.heap.size,0,none⟩)) (w.alloc (.mapIter (some b) ck #[] ck)):=fun b es ck hb=>by
    simp[Instr.range,run_underlying hu,run_getObj_map (P:=P) w b es ck hb]
   split at hk
   .cases hx with
    |cmap _ _ _ b es ck hS hb hm hv=>
     obtain⟨g',k1,k2,k3⟩:=Pg hI hd hS hb hm hv;exact⟨_,_,_,_,_,CV _ _ _ hb,hk,k1,k2,k3⟩
   .rename_i r;have ho:=hI.objs r;cases hx with
    |mref _ _ b mM ht' hp=>
     split at hk
     .rename_i sh Cc e0;rw[e0]at ho;obtain⟨_,b',a1,a2⟩:=ho;rw[a1]at hp;cases hp;cases a2 with
      |cmap _ _ _ _ es ck hS hb hm hv=>
       obtain⟨g',k1,k2,k3⟩:=Pg hI hd hS hb hm hv;exact⟨_,_,_,_,_,CV _ _ _ hb,hk,k1,k2,k3⟩
     .rename_i sh Cc e0;rw[e0]at ho;obtain⟨t1,b',es,ck,a1,a2,a3,a4,a5,a6⟩:=ho;rw[a2]at hp;cases hp;obtain⟨g1,i1,i2,i3⟩:=SQ hI e0 a1 a2 a3 a4 a5 t1;have DD:d≠r:=fun e=>by rw[e,e0]at hd;cases hd
      obtain⟨g',k1,k2,k3⟩:=Pg i1 (by rw[Cb _ _ _ _ DD];exact hd) i3 a3 a4 (fun i kv e q1 q2=>(a5 i kv e q1 q2).mono i2.keeps (fun _ h=>h) (fun _ h=>h.elim));exact⟨_,_,_,_,_,CV _ _ _ a3,hk,k1,i2.trans k2,k3⟩
     .exact hk.elim
   .exact hk.elim
  .exact hk.elim
theorem ns{ty:TypeId}{x:AV}(hx:BO g w (AS h) x vx)(hk:nq h x K):OI P w0 g0 h0 h g w (Instr.next vx false ty) K:=by
 unfold nq at hk;split at hk
 .rename_i r;split at hk
  .rename_i all rem EI e0;have ho:=hI.objs r;rw[e0]at ho;obtain⟨t1,b,mb,KX,seen,st,es,ck,a1,a2,a3,a4,a5,⟨sh,a6⟩,a7,a8,a9,ZH,eU,a12,tE⟩:=ho;have hl:(h r).live:=by rw[e0];trivial
   cases hx with
   |ref _ _ _ b' hu ht hp=>
    rw[a2]at hp;cases hp;have DE:∀e∈es.toList,e.born<KX:=fun e he=>by
     obtain⟨i,hi⟩:=Cp.1 he
     have:=a6.2.2.2.2.1 i e (by simpa using hi)
     omega
    rcases run_next_at (P:=P) w ty b mb KX st seen es ck a3 a5 DE ch with ⟨q1,q2⟩ | ⟨e,q1,w1,q2,q3⟩
    .have Ada:rem=[]:=by
      apply MK.2;intro kv Rd;obtain⟨i,hi⟩:=Cp.1 (ZH.2 kv Rd);have hil:i<es.size:=by rw[a6.1];exact(Ay.1 hi).1
      have hb:=(eU i kv es[i] hi (by simp[hil])).1 Rd;have hm:es[i]∈leftOf es seen:=by simp[leftOf,hb]
      have:=Array.size_pos_of_mem hm
      omega
     exact⟨_,w,g,_,h,q2,hk.1 Ada,hI,.refl _ _ _,.tup _ _ _ rfl (fun i av x h1 h2=>by
      match i,h1,h2 with
      |0,h1,h2=>simp at h1 h2;subst h1;subst h2;exact .v _ _)⟩
    .have hq:e∈es/\e.born∉seen:=by simpa[leftOf]using q1
     obtain⟨i,hi⟩:=Array.mem_iff_getElem?.1 hq.1;have hil:i<all.length:=by rw[<-a6.1];exact(Bu.1 hi).1
     have wP:all[i]?=some all[i]:=AB hil;have pn:=(eU i _ e wP hi).2 hq.2;obtain⟨s1,s2,hs⟩:=List.append_of_mem pn;have JH:rem.Perm (all[i]::(s1++s2)):=by rw[hs];exact List.perm_middle
     have SD:(all[i]::(s1++s2)).Nodup:=JH.nodup_iff.1 ZH.1;have hr:=a9 i _ e wP hi;have hkey:=a6.2.1 i _ e wP hi;have LZ:w1.heap=w.heap/\w1.os=w.os/\w1.tape=w.tape/\w1.output=w.output:=by rcases q2 with rfl | rfl<;>exact⟨rfl,rfl,rfl,rfl⟩
     obtain⟨k1,k2⟩:=D2.swap hI hl a1 tE (.iter all (s1++s2) (some all[i])) a3 (.mapIter (some mb) KX (seen.push e.born) ck) w1 LZ B0 (fun hg IJ ES du=>by
      obtain⟨u1,u2,u3,u4⟩:=BI g r (g.ρ r) (g.ln r) (g.tk r) (g.own r) g.S;obtain⟨c1,c2,c3⟩:=IJ mb 0 a4
      refine⟨u3.trans t1,b,mb,KX,_,ck,es,ck,u4.trans a1,u1.trans a2,ES,c1,c3 _ _ a5,⟨sh,a6⟩,a7,rfl,fun i kv e p q=>(a9 i kv e p q).mono IJ (fun _ h=>h) (fun _ h=>h.elim),
       ⟨(Dk.1 SD).2,fun kv Rd=>ZH.2 kv (JH.mem_iff.2 (Ah _ Rd))⟩,fun j kv e' p q=>?_,⟨i,e,wP,hi,by simp⟩,tE⟩
      rw[Array.mem_push];have h1:=eU j kv e' p q;rw[JH.mem_iff,AC]at h1;constructor
      .intro Rd hc;rcases hc with hc | hc
       .exact(h1.1 (.inr Rd)) hc
       .obtain rfl:=a6.2.2.2.2.2 j i e' e q hi hc;rw[wP]at p;cases p;exact(Dk.1 SD).1 Rd
      .intro hc;rcases h1.2 (fun hm=>hc (.inl hm))with e2 | e2
       .have:j=i:=XF (f:=fun x=>x) (l:=all) (by simpa using QC a6.2.2.2.1) p wP e2
        subst this;rw[hi]at q;cases q;exact absurd (.inr rfl) hc
       .exact e2)
     refine⟨_,_,_,_,_,q3,hk.2 all[i] (s1++s2) JH,k1,k2,.tup _ _ _ rfl (fun j av x h1 h2=>?_)⟩
     match j,h1,h2 with
     |0,h1,h2=>simp at h1 h2;subst h1;subst h2;exact .v _ _
     |1,h1,h2=>simp at h1 h2;subst h1;subst h2;rw[hkey];exact .v _ _
     |2,h1,h2=>simp at h1 h2;subst h1;subst h2;exact(hr.up _).le k2
  .exact hk.elim
 .exact hk.elim
end
end Go.Eng
