/- Lemmas for the claims of this seat, without a condition: part 10 (EngS, EngT). -/
import Derived.Test.YteaiieomnhbmgaaGreatDoorA09
import Derived.Maps.RangeRun
namespace Go.Eng
variable {ρ:Operand->Value}{es:List (List AV)}{hi:Option Operand}{vx:Value}{K:HK}{a:Option Addr}{cx:Cx}{x:AV}{T:GU}
section
variable {P:Program}{w0:World}{g0:Gh}{h0 h:Nat->HO}{g:Gh}{w:World}(hI:DX w0 g0 h0 h g w)
include hI
theorem OG{d sz n:Nat}(hd:h d=.free)(hl:∀c∈es,c.length=sz)(hn:es.length=n)(hr:BM g w Fw (.slice .none es) (.slice a n n)) :
  ∃g',DX w0 g0 h0 (A0 h d (.tok sz n)) g' w/\Le h g w (A0 h d (.tok sz n)) g' w/\BM g' w (AQ (A0 h d (.tok sz n))) (.slice (.id d sz) es) (.slice a n n):=by
 obtain⟨k1,k2⟩:=hI.upd d (.tok sz n) (.slice a n n) n true none g.S w none ⟨rfl,rfl,rfl,Aj _⟩ (fun _ _ _=>rfl) (fun b e=>by cases e) (fun _ _ h=>h) (fun _ _ h=>.inl h) (fun b o e=>by cases e) (fun b _ e=>by cases e) B0
  (fun hu=>absurd hd hu) (fun _ _=>by
   obtain⟨u1,u2,u3,u4⟩:=BG g d (.slice a n n) n true none g.S;exact⟨u3,u2,a,n,u1,.inl ⟨rfl,u4⟩⟩)
 exact⟨_,k1,k2,.tok _ d sz es _ (((hr.up (AQ h)).le k2)) hl (by unfold AQ;rw[Bj];simp) (by simp[Gh.upd]) (by simp[Gh.upd,hn]) (fun _=>by simp[Gh.upd])⟩
theorem bM{d:Option Nat}(hx:BM g w (AQ h) x vx)(hk:Pe cx d h x K):∃g' av h',K av h'/\DX w0 g0 h0 h' g' w/\Le h g w h' g' w/\BM g' w (AQ h') av vx:=by
 have plain:K x h->∃g' av h',K av h'/\DX w0 g0 h0 h' g' w/\Le h g w h' g' w/\BM g' w (AQ h') av vx:=fun hk=>⟨g,x,h,hk,hI,.refl _ _ _,hx⟩;unfold Pe at hk;split at hk
 .exact plain hk
 .rename_i d;split at hk
  .rename_i sz _;split at hk
   .refine⟨g,unT x,h,hk,hI,.refl _ _ _,?_⟩;cases x with
    |slice tk es=>exact(BM.slice_none hx).up _
    |_=>exact hx
   .split at hk
    .split at hk
     .rename_i hd;obtain rfl:=hx.v_eq;obtain⟨g',k1,k2,k3⟩:=OG hI (sz:=sz) (es:=[]) (a:=none) hd B0 rfl (.snil _ _ _);exact⟨g',_,_,hk,k1,k2,k3⟩
     .exact hk.elim
    .exact plain hk
  .split at hk
   .rename_i sz _;split at hk
    .split at hk
     .rename_i hd;obtain rfl:=hx.v_eq
      obtain⟨k1,k2⟩:=hI.upd d (.arr sz []) (.slice none 0 0) 0 true none g.S w none ⟨rfl,rfl,rfl,Aj _⟩ (fun _ _ _=>rfl) (fun b e=>by cases e) (fun _ _ h=>h) (fun _ _ h=>.inl h) (fun b o e=>by cases e) (fun b _ e=>by cases e) B0
       (fun hu=>absurd hd hu) (fun _ _=>by
        obtain⟨u1,u2,u3,u4⟩:=BG g d (.slice none 0 0) 0 true none g.S;exact⟨u3,u2,by simp,.inl ⟨rfl,u1,u4⟩⟩)
      exact⟨_,_,_,hk,k1,k2,.msl _ d 0 none 0 (by unfold AQ;rw[Bj];simp) (by simp[Gh.upd]) (AE _) (.inl rfl) (fun _=>by simp[Gh.upd])⟩
     .exact hk.elim
    .exact plain hk
   .exact plain hk
theorem ap{mku:List Nat}{d:Option Nat}{ty:Nat}(hk:Lt T mku d h ty K):Og P w0 g0 h0 h g w (Instr.makeMap ty none) K:=by
 unfold Lt at hk;split at hk
 .exact hk.elim
 .rename_i d;split at hk
  .rename_i hd;split at hk
   .split at hk
    .rename_i sh _;split at hk
     .obtain⟨k1,k2⟩:=hI.newOwn hd (.mapU sh []) (.map #[] 0) (.map (some w.heap.size)) 0 false w ⟨rfl,rfl,rfl,rfl⟩ B0 (fun hg Ix=>by
       obtain⟨u1,u2,u3,u4⟩:=BG g d (.map (some w.heap.size)) 0 false (some w.heap.size) g.S;exact⟨u3,w.heap.size,#[],0,u4,u1,GL w _ rfl,⟨rfl,by simp,by simp,by simp,by simp,by simp⟩,by simp,fun o ho=>by have:=hI.slt _ _ ho;omega⟩)
      refine⟨_,_,_,_,_,?_,hk,k1,k2,.mref _ d w.heap.size (by unfold AQ;rw[Bj];simp) ?_ ?_⟩
      .simp[Instr.makeMap]
      .simp[Gh.upd]
      .simp[Gh.upd]
     .obtain⟨k1,k2⟩:=hI.newOwn hd (.map sh []) (.map #[] 0) (.map (some w.heap.size)) 0 false w ⟨rfl,rfl,rfl,rfl⟩ B0 (fun hg Ix=>by
       obtain⟨u1,u2,u3,u4⟩:=BG g d (.map (some w.heap.size)) 0 false (some w.heap.size) g.S;exact⟨u3,w.heap.size,#[],0,u4,u1,GL w _ rfl,⟨rfl,by simp,by simp,by simp,by simp,by simp⟩,by simp,fun o ho=>by have:=hI.slt _ _ ho;omega⟩)
      refine⟨_,_,_,_,_,?_,hk,k1,k2,.mref _ d w.heap.size (by unfold AQ;rw[Bj];simp) ?_ ?_⟩
      .simp[Instr.makeMap]
      .simp[Gh.upd]
      .simp[Gh.upd]
    .exact hk.elim
   .exact hk.elim
  .exact hk.elim
omit hI in
theorem BM.sub{sz l m:Nat}{x:Value}{n cap:Nat}(hr:BM g w Fw (.slice .none es) x)(hx:x=.slice a n cap)(hl:∀c∈es,c.length=sz)(h1:l<=m)(h2:m<=es.length)(c' : Nat)(hc:m-l<=c')(a' : Option Addr)(ha:a'=a.map (·.add (l*sz))\/(m=l/\a'=a)):BM g w Fw (.slice .none ((es.take m).drop l)) (.slice a' (m-l) c'):=by
 subst hx;have CL:((es.take m).drop l).length=m-l:=by rw[Dc,Av];omega
 by_cases h0:m-l=0
 .have:(es.take m).drop l=[]:=AP ch
  rw[this,h0];exact .snil _ _ _
 .cases hr with
  |snil=>simp at h2;omega
  |slice _ _ b off GV cap val ti QU DN Es =>
   have hz:GV=sz:=by
    have:(0:Nat)<es.length:=by omega
    have h3:=QU 0 es[0] (Ay this);rw[<-h3];exact hl _ (Aq this)
   subst hz;have ha' : a'=some ⟨b,off+l*GV,none⟩:=by
    rcases ha with h | ⟨h,_⟩
    .rw[h];simp[Addr.add_lit]
    .omega
   subst ha';rw[<-CL];have Fz:∀(i:Nat) (cs:List AV),((es.take m).drop l)[i]?=some cs->es[l+i]?=some cs:=fun i cs h=>by
    rw[DP]at h
    by_cases hi:l+i<m
    .rwa [BR hi]at h
    .rw[A6 (by rw[Av];omega)]at h;cases h
   refine .slice _ _ b (off+l*GV) GV c' (fun i j=>val (l+i) j) (by rw[CL];exact hc) (fun i cs h=>QU _ _ (Fz i cs h)) (fun i cs j av h1 h2=>?_) (fun i cs j av h1 h2=>Es _ _ _ _ (Fz i cs h1) h2)
   have:=DN _ _ _ _ (Fz i cs h1) h2
   rwa [show off+(l+i)*GV+j=off+l*GV+i*GV+j by rw[Fv];omega]at this
omit hI in
theorem Ly{t:Nat->AV}(ht:∀x:Operand,BM g w (AQ h) (ev t x) (ρ x)){o:Option Operand}{i:Option Int}(hk:Ci t o=some i):o.map ρ=i.map fun n=>.int .i64 n:=by
 cases o with
 |none=>cases hk;rfl
 |some x =>
  unfold Ci at hk;dsimp only at hk;split at hk
  .rename_i n e;cases hk
   have:=ht x
   rw[e]at this;simp[this.v_eq]
  .cases hk
omit hI in
theorem Ve(b:Bool)(len cap:Nat)(lo hi mx:Option Int)(lB:mx=none\/hi≠none)(h0:0<=lo.getD 0)(h1:lo.getD 0<=hi.getD len)(h2:hi.getD len<=mx.getD cap)(h3:mx.getD cap<=cap) :
  (Instr.sliceBounds b len cap (lo.map fun n=>.int .i64 n) (hi.map fun n=>.int .i64 n) (mx.map fun n=>.int .i64 n)).run P w=.ok ((lo.getD 0).toNat,(hi.getD len).toNat,(mx.getD cap).toNat) w:=by
 have e1:∀n:Int,0<=n->(n.toNat:Int)=n:=fun n hn=>Int.toNat_of_nonneg hn;cases mx with
 |none =>
  cases hi with
  |none =>
   cases lo with
   |none=>simp[Instr.sliceBounds]
   |some l =>
    simp only[CH,Eg]at h0 h1 h2;simp[Instr.sliceBounds,run_sliceBound,h0,h1]
  |some hh =>
   simp only[CH,Eg]at h1 h2;have xf:0<=hh:=by omega
   cases lo with
   |none=>simp[Instr.sliceBounds,run_sliceBound,xf,h2]
   |some l =>
    simp only[CH]at h0 h1;simp[Instr.sliceBounds,run_sliceBound,h0,h1,h2,xf,e1]
 |some m =>
  cases hi with
  |none=>simp at lB
  |some hh =>
   simp only[CH]at h1 h2 h3;have xf:0<=hh:=by omega
   have zH:0<=m:=by omega
   cases lo with
   |none=>simp[Instr.sliceBounds,run_sliceBound,h2,h3,xf,zH,e1]
   |some l =>
    simp only[CH]at h0 h1;simp[Instr.sliceBounds,run_sliceBound,h0,h1,h2,h3,xf,zH,e1]
omit hI in
theorem E6(hT:CF P T){ty e k:Nat}(ht:(T ty).d=.slice e)(hk:(T e).size=k+1)(a:Option Addr)(len cap:Nat)(lo hi mx:Option Int)(lB:mx=none\/hi≠none)(h0:0<=lo.getD 0)(h1:lo.getD 0<=hi.getD len)(h2:hi.getD len<=mx.getD cap)(h3:mx.getD cap<=cap) :
  (Instr.sliceAt ty (.slice a len cap) (lo.map fun n=>.int .i64 n) (hi.map fun n=>.int .i64 n) (mx.map fun n=>.int .i64 n)).run P w =
   .ok (.slice (if(mx.getD cap).toNat=(lo.getD 0).toNat then a else a.map (·.add ((lo.getD 0).toNat*(T e).size))) ((hi.getD len).toNat-(lo.getD 0).toNat) ((mx.getD cap).toNat-(lo.getD 0).toNat)) w:=by
 have hu:=hT.slice ht;have hb:=Ve (P:=P) (w:=w) true len cap lo hi mx lB h0 h1 h2 h3;simp only[Instr.sliceAt,Sem.run_bind,run_underlying hu,Result.andThen_ok,Instr.slice,hb,hT.size1 w hk,Sem.run_pure];rw[hk]
theorem DX.moveO(r r2:Nat)(Dy:r2≠r)(hf:h r2=.free)(hl:(h r).live){ob:Option Nat}(ho:∀c,ob=some c->g.own r=some c)(o' : HO)(x:Value)(n:Nat)(t:Bool)(hn:o'≠.free)
  (J6:EH g w (g.upd r2 x n t ob g.S) w->Ep (g.upd r2 x n t ob g.S) w (AQ (A0 (A0 h r .dead) r2 o')) r2 o') :
  DX w0 g0 h0 (A0 (A0 h r .dead) r2 o') (g.upd r2 x n t ob g.S) w/\Le h g w (A0 (A0 h r .dead) r2 o') (g.upd r2 x n t ob g.S) w:=by
 have jI:KN g (g.upd r2 x n t ob g.S) (AQ h):=by
  intro i hi;have e:i≠r2:=fun e=>hi (by rw[e];exact hf);refine⟨by simp[Gh.upd,e],by simp[Gh.upd,e],fun _=>by simp[Gh.upd,e],fun _=>by simp[Gh.upd,e]⟩
 have hK:EH g w (g.upd r2 x n t ob g.S) w:=fun b o hb=>⟨hb,rfl,fun _ _ h=>h⟩;have K8:∀i,AQ h i->AQ (A0 (A0 h r .dead) r2 o') i:=fun i hi=>D3 hn i (D3 B0 i hi);have key:∀i,i≠r2->(A0 (A0 h r .dead) r2 o' i).live->i≠r/\(h i).live:=fun i h2 hl=>by
  rw[B6 _ _ _ _ h2]at hl
  by_cases e:i=r
  .subst e;rw[Bj]at hl;exact hl.elim
  .rw[B6 _ _ _ _ e]at hl;exact⟨e,hl⟩
 have own:∀i,i≠r2->(g.upd r2 x n t ob g.S).own i=g.own i:=fun i e=>by simp[Gh.upd,e]
 have U2:(g.upd r2 x n t ob g.S).own r2=ob:=by simp[Gh.upd]
 refine⟨⟨hI.os,hI.tape,hI.output,hI.size,hI.frame,hI.slt,fun i=>?_,fun i j c hi hj ei ej=>?_,fun i c hi ei=>?_,hI.sg,hI.glob.keep hK⟩,jI,K8,hK⟩
 .by_cases e:i=r2
  .subst e;rw[Bj];exact J6 hK
  .rw[B6 _ _ _ _ e]
   by_cases e1:i=r
   .subst e1;rw[Bj];trivial
   .rw[B6 _ _ _ _ e1];exact(hI.objs i).same hK K8 jI (by simp[Gh.upd,e]) (by simp[Gh.upd,e]) (by simp[Gh.upd,e]) (by simp[Gh.upd,e]) (fun b hl hb=>⟨rfl,fun k hk=>hk⟩)
 .by_cases e1:i=r2<;>by_cases e2:j=r2
  .exact e1.trans e2.symm
  .subst e1;rw[U2]at ei;rw[own j e2]at ej;obtain⟨a1,a2⟩:=key j e2 hj;exact absurd (hI.inj j r _ a2 hl ej (ho _ ei)) a1
  .subst e2;rw[U2]at ej;rw[own i e1]at ei;obtain⟨a1,a2⟩:=key i e1 hi;exact absurd (hI.inj i r _ a2 hl ei (ho _ ej)) a1
  .rw[own i e1]at ei;rw[own j e2]at ej;exact hI.inj i j c (key i e1 hi).2 (key j e2 hj).2 ei ej
 .by_cases e1:i=r2
  .subst e1;rw[U2]at ei;exact hI.loc r _ hl (ho _ ei)
  .rw[own i e1]at ei;exact hI.loc i c (key i e1 hi).2 ei
theorem aW(hT:CF P cx.T){d:Option Nat}{ty:Nat}{t:Nat->AV}(ht:∀x:Operand,BM g w (AQ h) (ev t x) (ρ x)){lo mx:Option Operand}(hx:BM g w (AQ h) x vx)(hk:Va cx d h ty x (Ci t lo) hi mx K):Og P w0 g0 h0 h g w (Instr.sliceAt ty vx (lo.map ρ) (hi.map ρ) (mx.map ρ)) K:=by
 unfold Va at hk;split at hk
 .rename_i d Ik e1;rw[Ly ht e1];split at hk
  .rename_i e hs;split at hk
   .exact hk.elim
   .rename_i k EM;split at hk
    .rename_i r sz es;split at hk
     .rename_i GV n e0;split at hk
      .rename_i hd;split at hk
       .rename_i q1 q2;obtain rfl:=AK q1;have q2:=AK q2;obtain⟨⟨rfl,h1,h2⟩,hk⟩:=hk;have hl:(h r).live:=by rw[e0];trivial
        have Dy:Ks cx d≠r:=fun e=>by rw[e,e0]at hd;cases hd
        have ho:=hI.objs r;rw[e0]at ho;obtain⟨t1,l1,a,cap,a1,a3⟩:=ho;have hr:=hx.slice_none;cases hx with
        |tok _ _ _ _ _ vH YW hu ht' hn Mw =>
         have hv:=Mw l1.symm;rw[a1]at hv;subst hv;have eD:es.length<=cap:=by rcases a3 with ⟨e1,_⟩ | ⟨e1,_⟩<;>omega
         have CP:=E6 (P:=P) (w:=w) hT hs EM a es.length cap (some Ik) none none (.inl rfl) h1 h2 (by simp only[Eg];omega) B0;simp only[CH,Eg,Cb]at CP;have CL:(es.drop Ik.toNat).length=es.length-Ik.toNat:=Dc;have lK:=BM.sub (c':=cap-Ik.toNat) hr rfl YW (l:=Ik.toNat) (m:=es.length) ch (Aj _) ch (if cap=Ik.toNat then a else a.map (·.add (Ik.toNat*(cx.T e).size))) (by
          split
          .exact .inr ⟨by omega,rfl⟩
          .rw[q2];exact .inl rfl)
         rw[B4]at lK
         have fin:∀ob:Option Nat,(∀c,ob=some c->g.own r=some c)->(es.length-Ik.toNat=cap-Ik.toNat/\ob=none\/es.length-Ik.toNat<=cap-Ik.toNat/\∃b E vs off,(if cap=Ik.toNat then a else a.map (·.add (Ik.toNat*(cx.T e).size)))=some ⟨b,off,none⟩/\ob=some b/\RK w b vs E/\vs.size=off+(cap-Ik.toNat)*GV/\∀o,g.S b o->o<off+(es.length-Ik.toNat)*GV) ->
           Og P w0 g0 h0 h g w (Instr.sliceAt ty (.slice a es.length cap) ((some Ik).map fun n=>.int .i64 n) ((none:Option Operand).map ρ) ((none:Option Operand).map ρ)) K:=fun ob ho xu=>by
          obtain⟨k1,k2⟩:=hI.moveO r (Ks cx d) Dy hd hl ho (.tok GV (es.drop Ik.toNat).length) (.slice (if cap=Ik.toNat then a else a.map (·.add (Ik.toNat*(cx.T e).size))) (es.length-Ik.toNat) (cap-Ik.toNat)) (es.length-Ik.toNat) true B0 (fun Ix=>by
           obtain⟨u1,u2,u3,u4⟩:=BG g (Ks cx d) (.slice (if cap=Ik.toNat then a else a.map (·.add (Ik.toNat*(cx.T e).size))) (es.length-Ik.toNat) (cap-Ik.toNat)) (es.length-Ik.toNat) true ob g.S;refine⟨u3,u2.trans CL.symm,_,_,by rw[CL];exact u1,?_⟩;rw[CL,u4];exact xu)
          exact⟨_,w,_,_,_,CP,hk,k1,k2,.tok _ _ _ _ _ (((lK.mono k2.keeps (fun _ h=>h) (fun _ h=>h.elim))).up _) (fun c hc=>YW c (IX hc)) (by unfold AQ;rw[Bj];simp) (by simp[Gh.upd]) (by simp[Gh.upd]) (fun _=>by simp[Gh.upd])⟩
         rcases a3 with ⟨e1,e2⟩ | ⟨e1,b,E,vs,off,rfl,e3,e4,e5,e6⟩
         .exact fin none (fun c h=>by cases h) (.inl ⟨by omega,rfl⟩)
         .by_cases hc:cap=Ik.toNat
          .exact fin none (fun c h=>by cases h) (.inl ⟨by omega,rfl⟩)
          .refine fin (some b) (fun c h=>by cases h;exact e3) (.inr ⟨by omega,b,E,vs,off+Ik.toNat*GV,?_,rfl,e4,?_,fun o ho=>?_⟩)
           .rw[Ai hc];simp[Addr.add_lit,q2]
           .rw[e5,Nat.sub_mul]
            have:=Bg GV (show Ik.toNat<=cap by omega)
            omega
           .have:=e6 o ho
            rw[Nat.sub_mul]
            have:=Bg GV (show Ik.toNat<=es.length by omega)
            omega
       .exact hk.elim
      .exact hk.elim
     .exact hk.elim
    .exact hk.elim
  .exact hk.elim
 .exact hk.elim
omit hI in
theorem Ot{sz:Nat}:∀{es:List (List AV)},(∀cs∈es,cs.length=sz)->∀k,(es.take k).flatten=es.flatten.take (k*sz)
 | [],_,k=>by simp
 |c::es,hl,0=>by simp
 |c::es,hl,k+1=>by
  have h1:=hl c (Ab ..);have h2:c.length<=k*sz+sz:=by omega
  rw[Jz,BB,BB,Ot (fun x hx=>hl x (Ah _ hx)) k,List.take_append,h1,D5,
   As h2,show k*sz+sz-sz=k*sz by omega]
omit hI in
theorem CO.takeE{U:Nat->Prop}{sz k:Nat}{vs:List Value}(hl:∀cs∈es,cs.length=sz)(hk:k<=es.length)(h:CO g w U es.flatten (vs.take (es.length*sz))):CO g w U (es.take k).flatten (vs.take (k*sz)):=by
 have e:vs.take (k*sz)=(vs.take (es.length*sz)).take (k*sz):=by
  rw[OY,Wc (Bg _ hk)]
 rw[Ot hl,e];refine⟨by rw[Av (l:=vs.take (es.length*sz)),h.1,Av],fun x hx=>h.2.1 x (CY hx),fun i av x q1 q2=>?_⟩;have hi:i<k*sz:=by
  rcases DQ i (k*sz)with q | q
  .exact q
  .rw[Kp,Ai ch]at q1;cases q1
 rw[Kp,Al hi]at q1 q2;exact h.2.2 i av x q1 q2
theorem fD(hT:CF P cx.T){d:Option Nat}{ty:Nat}{t:Nat->AV}(ht:∀x:Operand,BM g w (AQ h) (ev t x) (ρ x))(hx:BM g w (AQ h) x vx)(hk:mR cx d h ty x (Ci t hi) K):Og P w0 g0 h0 h g w (Instr.sliceAt ty vx none (hi.map ρ) none) K:=by
 unfold mR at hk;split at hk
 .rename_i d MC e1;rw[Ly ht e1];split at hk
  .rename_i e hs;split at hk
   .exact hk.elim
   .rename_i k EM;split at hk
    .rename_i r n;split at hk
     .rename_i sz es e0;split at hk
      .rename_i hd;split at hk
       .rename_i q1 q3;have q1:=AK q1;obtain⟨⟨rfl,h1,h2⟩,hk⟩:=hk;have hl:(h r).live:=by rw[e0];trivial
        have Dy:Ks cx d≠r:=fun e=>by rw[e,e0]at hd;cases hd
        have ho:=hI.objs r;rw[e0]at ho;obtain⟨t1,l1,al,a2⟩:=ho;have CL:(es.take MC.toNat).length=MC.toNat:=by rw[Av];omega
        cases hx with
        |msl _ _ _ a cap hu ht' ZZ ha Mw =>
         have hv:=Mw l1.symm;have L1:es.length<=cap:=by
          rcases a2 with ⟨b1,_,_⟩ | ⟨b,LO,E,vs,b1,_,b3,_⟩
          .subst b1;exact AE _
          .rw[b1]at hv;cases hv;exact b3
         have CP:=E6 (P:=P) (w:=w) hT hs EM a es.length cap none (some MC) none (.inl rfl) B0 (by simp only[Eg,CH];exact h1) (by simp only[CH,Eg];omega) B0;have Mn:(if cap-(0:Nat)=0 then a else a.map (·.add (0*(cx.T e).size)))=a:=by
          rw[Lg];split
          .rfl
          .rcases ha with e3 | ⟨b,rfl⟩
           .cases a with
            |none=>rfl
            |some a=>simp[Addr.add]
           .rfl
         simp only[CH,Eg,Cb,Int.toNat_zero,Nat.sub_zero]at CP Mn;have key:∃a',(Instr.sliceAt ty (.slice a es.length cap) ((none:Option Int).map fun n=>.int .i64 n) ((some MC).map fun n=>.int .i64 n) ((none:Option Int).map fun n=>.int .i64 n)).run P w=.ok (.slice a' MC.toNat cap) w/\(a'=a):=⟨_,CP,by first | exact Mn | (split<;>first | rfl | exact Mn | (simp_all))⟩
         obtain⟨a',CP,rfl⟩:=key;have hval:BM (g.upd (Ks cx d) (.slice a' MC.toNat cap) MC.toNat true (g.own r) g.S) w (AQ (A0 (A0 h r .dead) (Ks cx d) (.arr sz (es.take MC.toNat)))) (.msl (Ks cx d) MC.toNat) (.slice a' MC.toNat cap) :=
          .msl _ _ _ _ _ (by unfold AQ;rw[Bj];simp) (by simp[Gh.upd]) (by simp[Gh.upd]) (ha.elim (fun e=>.inl ch) .inr) (fun _=>by simp[Gh.upd])
         obtain⟨k1,k2⟩:=hI.moveO r (Ks cx d) Dy hd hl (ob:=g.own r) (fun c h=>h) (.arr sz (es.take MC.toNat)) (.slice a' MC.toNat cap) MC.toNat true B0 (fun Ix=>by
          obtain⟨u1,u2,u3,u4⟩:=BG g (Ks cx d) (.slice a' MC.toNat cap) MC.toNat true (g.own r) g.S;refine⟨u3,u2.trans CL.symm,fun c hc=>al c (CY hc),?_⟩;rcases a2 with ⟨b1,b2,b3⟩ | ⟨b,LO,E,vs,b1,b2,b3,b4,b5,b6,b7⟩
          .subst b1;rw[b2]at hv;cases hv;have h0:MC.toNat=0:=by simp only[At]at h2;omega
           exact .inl ⟨List.take_nil,by rw[u1,h0],u4.trans b3⟩
          .rw[b1]at hv;cases hv;refine .inr ⟨b,cap,E,vs,by rw[CL];exact u1,u4.trans b2,by rw[CL];omega,b4,b5,?_,b7⟩;rw[CL];exact(CO.takeE al ch b6).mono Ix (fun _ h=>h) (fun _ h=>h.elim))
         exact⟨_,w,_,_,_,CP,hk,k1,k2,hval⟩
       .exact hk.elim
      .exact hk.elim
     .exact hk.elim
    .exact hk.elim
  .exact hk.elim
 .exact hk.elim
theorem Xo(hT:CF P cx.T){d:Option Nat}{ty:Nat}{t:Nat->AV}(ht:∀x:Operand,BM g w (AQ h) (ev t x) (ρ x)){lo mx:Option Operand}(hx:BM g w (AQ h) x vx)(hk:GS cx d h ty x (Ci t lo) (Ci t hi) (Ci t mx) K):Og P w0 g0 h0 h g w (Instr.sliceAt ty vx (lo.map ρ) (hi.map ρ) (mx.map ρ)) K:=by
 unfold GS at hk;split at hk
 .rename_i Ik MC rO e1 e2 e3;rw[Ly ht e1,Ly ht e2,Ly ht e3];split at hk
  .rename_i hs;split at hk
   .rename_i s;obtain⟨⟨h1,h2,h3⟩,hk⟩:=hk;obtain rfl:=hx.v_eq;have hb:=Ve (P:=P) (w:=w) false s.size s.size Ik MC none (.inl rfl) h1 h2 (by simpa using h3) B0;refine(BO.val (x:=.string (s.extract (Ik.getD 0).toNat (MC.getD s.size).toNat)) ?_ hk).does hI;simp only[Instr.sliceAt,Sem.run_bind,run_underlying (hT.string hs),Result.andThen_ok,Instr.slice];simp only[Option.map_none,OZ,Dh,Gl]at hb⊢;simp only[Sem.run_bind,hb,Result.andThen_ok,Sem.run_pure]
   .exact hk.elim
  .rename_i e hs;split at hk
   .exact hk.elim
   .rename_i k EM;split at hk
    .rename_i tk es;have hr:=hx.slice_none;obtain⟨a,cap,hv,L1⟩:∃a cap,vx=.slice a es.length cap/\es.length<=cap:=by
      cases hr with
      |snil _ a cap=>exact⟨a,cap,rfl,AE _⟩
      |slice _ _ b off sz cap val hc=>exact⟨_,cap,rfl,hc⟩
     subst hv;split at hk
     .obtain⟨⟨h1,h2,h3⟩,hl,hk⟩:=hk;have CP:=E6 (P:=P) (w:=w) hT hs EM a es.length cap Ik MC none (.inl rfl) h1 h2 (by simp only[Eg];omega) B0;refine BO.does hI ⟨_,_,CP,hk,(BM.sub (c':=cap-(Ik.getD 0).toNat) hr rfl hl (l:=(Ik.getD 0).toNat) (m:=(MC.getD es.length).toNat) ch ch (by simp;omega) _ ?_).up _⟩;split
      .rename_i e;simp only[Eg,Cb]at e;exact .inr ⟨by omega,rfl⟩
      .exact .inl rfl
     .rename_i m;split at hk
      .rename_i d hh;split at hk
       .obtain⟨⟨h1,h2,rfl,h3⟩,hl,hk⟩:=hk;have CP:=E6 (P:=P) (w:=w) hT hs EM a es.length cap Ik (some m) (some m) (.inr B0) h1 h2 B0 (by simp only[CH];omega);simp only[CH]at CP;have CL:((es.take m.toNat).drop (Ik.getD 0).toNat).length=m.toNat-(Ik.getD 0).toNat:=by rw[Dc,Av];omega
        refine BO.does hI ⟨_,_,CP,hk,.full _ _ _ _ ((BM.sub (c':=m.toNat-(Ik.getD 0).toNat) hr rfl hl (l:=(Ik.getD 0).toNat) (m:=m.toNat) ch ch ch _ ?_).up _) (fun c hc=>hl c (CY (IX hc))) ⟨_,by rw[CL]⟩⟩;split
        .rename_i e;exact .inr ⟨e,rfl⟩
        .exact .inl rfl
       split at hk
       .rename_i hd;obtain⟨⟨h1,h2,rfl,h3⟩,hl,hk⟩:=hk;have CP:=E6 (P:=P) (w:=w) hT hs EM a es.length cap Ik (some m) (some m) (.inr B0) h1 h2 B0 (by simp only[CH];omega);simp only[CH]at CP
        obtain⟨g',k1,k2,k3⟩:=OG hI (sz:=(cx.T e).size) (n:=m.toNat-(Ik.getD 0).toNat) hd (es:=(es.take m.toNat).drop (Ik.getD 0).toNat) (fun c hc=>hl c (CY (IX hc))) (by rw[Dc,Av];omega)
         (BM.sub (c':=m.toNat-(Ik.getD 0).toNat) hr rfl hl (l:=(Ik.getD 0).toNat) (m:=m.toNat) ch ch ch (if m.toNat=(Ik.getD 0).toNat then a else a.map (·.add ((Ik.getD 0).toNat*(cx.T e).size))) (by
          split
          .rename_i e;exact .inr ⟨e,rfl⟩
          .exact .inl rfl))
        exact⟨_,w,g',_,_,CP,hk,k1,k2,k3⟩
       .exact hk.elim
      .exact hk.elim
    .obtain⟨⟨h1,h2,h3⟩,h4,hk⟩:=hk;obtain rfl:=hx.v_eq;have CP:=E6 (P:=P) (w:=w) hT hs EM none 0 0 Ik MC rO h4 ch (by simp only[Jg]at *;omega) (by simp only[Jg]at *;omega) (by simp only[Jg]at *;omega);refine BO.does hI (BO.val (x:=.slice none 0 0) ?_ hk);rw[CP];simp only[h1,Jg,h2,h3];simp
    .rename_i r n;split at hk
     .rename_i sz es e0;split at hk
      .rename_i RZ;obtain rfl:=AK RZ;obtain⟨⟨h1,h2,h3,h4,h5⟩,hk⟩:=hk;have ho:=hI.objs r;rw[e0]at ho;obtain⟨t1,l1,al,a3⟩:=ho;have hl:(h r).live:=by rw[e0];trivial
       have xq:rO=none\/MC≠none:=h5.imp id (fun q=>q.2);cases hx with
       |msl _ _ _ a cap hu ht' hn ha Mw =>
        have hv:=Mw (h1.trans l1.symm);subst h1;have lB:∀c:Nat,es.length<=c->MC.getD es.length<=rO.getD c/\rO.getD c<=c:=fun c hc=>by
         rcases h5 with h5 | ⟨h5,Dy⟩
         .rw[h5];simp only[Eg];omega
         .obtain⟨m,hm⟩:=Option.ne_none_iff_exists'.1 Dy;rw[h5,hm];rw[hm]at h3 h4;simp only[CH]at h3 h4⊢;omega
        rcases a3 with ⟨rfl,q2,q3⟩ | ⟨b,LO,E,vs,q1,q2,q3,q4,q5,q6,q7⟩
        .rw[q2]at hv;cases hv;have CP:=E6 (P:=P) (w:=w) hT hs EM none 0 0 Ik MC rO xq h2 h3 (lB 0 B0).1 (lB 0 B0).2
         obtain⟨k1,k2⟩:=hI.upd r .dead (g.ρ r) (g.ln r) (g.tk r) (g.own r) g.S w none ⟨rfl,rfl,rfl,Aj _⟩ (fun _ _ _=>rfl) (fun b e=>by cases e) (fun _ _ h=>h) (fun _ _ h=>.inl h) (fun b o e=>by cases e) (fun b hh _=>by cases hh) B0
          (fun _=>⟨rfl,Aj _,fun _=>rfl,fun _=>rfl⟩) (fun _ _=>trivial)
         refine⟨_,w,_,_,_,CP,hk,k1,k2,?_⟩;have z1:((Ik.getD 0).toNat)=0:=by simp only[At,Jg]at h3 h4;omega
         have z2:((MC.getD (([]:List (List AV)).length:Int)).toNat)=0:=by simp only[At,Jg]at h3 h4⊢;omega
         simp only[List.take_nil,List.drop_nil];have z3:((MC.getD ((0:Nat):Int)).toNat)=0:=z2;rw[z1,z3];exact .snil _ _ _
        .rw[q1]at hv;cases hv;have CP:=E6 (P:=P) (w:=w) hT hs EM (some ⟨b,0,none⟩) es.length cap Ik MC rO xq h2 h3 (lB _ q3).1 (lB _ q3).2;have g9:=(hI.loc r b hl q2).1
         obtain⟨k1,k2⟩:=hI.upd r .dead (g.ρ r) (g.ln r) (g.tk r) (g.own r) (g.more b (es.length*(cx.T e).size)) w none ⟨rfl,rfl,rfl,Aj _⟩ (fun _ _ _=>rfl) (fun b e=>by cases e) (fun _ _ h=>.inl h)
          (fun b' o hs=>hs.elim .inl (fun hs=>.inr ⟨by rw[hs.1];exact g9,.inr ⟨hl,by rw[hs.1];exact q2⟩⟩)) (fun b o e=>by cases e) (fun b hh _=>by cases hh) B0
          (fun _=>⟨rfl,Aj _,fun _=>rfl,fun _=>rfl⟩) (fun _ _=>trivial)
         have Es:=BM.slice_row (g:=g.upd r (g.ρ r) (g.ln r) (g.tk r) (g.own r) (g.more b (es.length*(cx.T e).size))) (U:=Fw) q4 al q3 (q6.mono k2.keeps (fun _ h=>h) (fun _ h=>h.elim)) (fun o ho=>.inr ⟨rfl,ho⟩);have Agf:=lB _ q3;refine⟨_,w,_,_,_,CP,hk,k1,k2,(BM.sub (c':=(rO.getD cap).toNat-(Ik.getD 0).toNat) Es rfl al (l:=(Ik.getD 0).toNat) (m:=(MC.getD es.length).toNat) ch ch ch _ ?_).up _⟩;split
         .rename_i e;exact .inr ⟨by omega,rfl⟩
         .exact .inl rfl
      .exact hk.elim
     .exact hk.elim
    .exact hk.elim
  .exact hk.elim
 .exact hk.elim
theorem VT(hT:CF P cx.T){d:Option Nat}{ty:Nat}{n c:AV}{vn vc:Value}(hn:BM g w (AQ h) n vn)(hc:BM g w (AQ h) c vc)(hk:J9 cx d h ty n c K) :
  Og P w0 g0 h0 h g w (Instr.makeSlice ty vn vc) K:=by
 unfold J9 at hk;split at hk
 .rename_i e n c hs;obtain rfl:=hn.v_eq;obtain rfl:=hc.v_eq;split at hk
  .rename_i PP;split at hk
   .rename_i NP;have NP:=AK NP;split at hk
    .exact hk.elim
    .rename_i k EM;obtain⟨⟨h1,h2,h3,h4⟩,hk⟩:=hk;obtain⟨i,z,i1,i2,i3,i4,i5⟩:=H7 hT EM;have tN:(cx.T e).zc≠[]:=fun e0=>by rw[e0]at NP;rw[EM]at NP;cases NP
     have wn:IntKind.i64.wrap n=n:=NK ⟨by omega,by omega⟩;have wc:IntKind.i64.wrap c=c:=NK ⟨by omega,by omega⟩;have Gw:∀l:List AV,(∀a∈l,one a=true)->G9 l=true:=by
      intro l
      induction l with
      |nil=>intro _;rfl
      |cons a l ih=>intro h;simp[G9,h a (List.mem_cons_self ..),ih (fun b hb=>h b (List.mem_cons_of_mem _ hb))]
     have tH:((Array.range (c.toNat*(cx.T e).size)).map fun k=>z.cells[k % z.cells.size]!).toList=(List.replicate c.toNat (cx.T e).zc).flatten:=by
      rw[Iq c.toNat _ tN,NP,i5];have e6:z.cells.size=(cx.T e).size:=by rw[<-NP,i5];simp
      simp[e6,Array.getElem!_eq_getD]
     have hzs:(cx.T e).zc.length=(cx.T e).size:=NP;have zG:∀c'∈List.replicate c.toNat (cx.T e).zc,c'.length=(cx.T e).size:=fun c' hc=>by rw[Cp hc];exact NP
     have AbI : ∀c'∈List.replicate n.toNat ((cx.T e).zc.map AV.v),c'.length=(cx.T e).size:=fun c' hc=>by rw[Cp hc,A8];exact NP
     have AbJ:∀c'∈List.replicate n.toNat (cx.T e).zc,c'.length=(cx.T e).size:=fun c' hc=>by rw[Cp hc];exact NP
     obtain⟨g',av,h',q1,q2,q3,q4⟩:=KH hI hk (vs:=(Array.range (c.toNat*(cx.T e).size)).map fun k=>z.cells[k % z.cells.size]!) (cap:=c.toNat) e AbI (by rw[BT];omega) B0 (by
      rw[tH,BT];have e1:(List.replicate n.toNat ((cx.T e).zc.map AV.v)).flatten=(List.replicate n.toNat (cx.T e).zc).flatten.map AV.v:=by
       rw[TA,List.map_replicate]
      have e2:(List.replicate c.toNat (cx.T e).zc).flatten.take (n.toNat*(cx.T e).size)=(List.replicate n.toNat (cx.T e).zc).flatten:=by
       obtain⟨m,hm⟩:∃m,c.toNat=n.toNat+m:=⟨c.toNat-n.toNat,by omega⟩;rw[hm,<-List.replicate_append_replicate,Cc,FM (by rw[Dr AbJ,BT])]
      rw[e1,e2];refine CO.vals (Gw _ (fun a ha=>?_));obtain⟨x,hx,rfl⟩:=Ag.1 ha;obtain⟨l,hl,hx⟩:=DY.1 hx;rw[Cp hl]at hx;exact Nh PP _ (Ag.2 ⟨x,hx,rfl⟩)) w ⟨rfl,rfl,rfl,rfl⟩
     rw[BT]at q4;refine⟨_,_,g',av,h',?_,q1,q2,q3,q4⟩;have hb0:¬((cx.T e).bytes*c>2 ^ 48):=by rw[Int.mul_comm];omega
     have lu:((decide (c<0)||decide (((cx.T e).bytes:Int)*c>2 ^ 48))||decide (n<0)||decide (n>c))=false:=by
      simp only[Bool.or_eq_false_iff,Hq];exact⟨⟨⟨by omega,hb0⟩,by omega⟩,by omega⟩
     simp only[Instr.makeSlice,Sem.run_bind,run_underlying (hT.slice hs),Result.andThen_ok,asInt,asIntOf,Sem.run_pure,typeInfo,run_program,i1,i4,wn,wc,lu,Dh,Gl,run_askRoom,hT.size1 w EM]
     by_cases hz:c.toNat*(k+1)=0
     .have wZ:c.toNat=0:=by
       rcases Nat.mul_eq_zero.1 hz with h | h
       .exact h
       .cases h
      rw[wZ];simp only[Lg,Sc];simp only[show Array.range 0=#[]from rfl,Array.map_empty];simp[newRow]
     .simp only[Ai hz,Sem.run_bind,zeroValue,typeInfo,run_program,i1,i2,Result.andThen_ok,Sem.run_pure];rw[EM];simp[newRow]
   .exact hk.elim
  .exact hk.elim
 .exact hk.elim
end
end Go.Eng
namespace Go.Eng
open Go.ChangeMaps (setBlock)
variable {B7:List (Value×AV)}{es:Array MapEntry}{sh:E2}{vx:Value}{α β:Type}{f:α->β}{l:List α}{ck:Nat}{w:World}{k x y:Value}{a:AV}{K:HK}{r:Nat}{o':Obj}{j:Nat}{v:AV}{T:GU}
theorem VU{o:Obj}(h:w.heap[r]?=some o):(setBlock w r o').heap[r]?=some o':=by
 have:=(Bp.1 h).1
 simp[setBlock,this]
theorem Vg{k:Nat}(h:k≠r):(setBlock w r o').heap[k]?=w.heap[k]?:=by
 simp[setBlock,Ne.symm h]
theorem Od(w:World)(r:Nat)(o' : Obj):(setBlock w r o').heap.size=w.heap.size:=by simp[setBlock]
theorem PZ(h:(l.map f).Nodup):l.Nodup:=by
 induction l with
 |nil=>exact Fu
 |cons c l ih =>
  rw[AI,De]at h;exact De.2 ⟨fun hc=>h.1 (Ag.2 ⟨c,hc,rfl⟩),ih h.2⟩
theorem WZ(h:(l.map f).Nodup){i:Nat}{a b:α}(ha:l[i]?=some a)(hb:l[j]?=some b)(he:f a=f b):i=j:=by
 induction l generalizing i j with
 |nil=>simp at ha
 |cons c l ih =>
  rw[AI,De]at h;cases i with
  |zero =>
   cases j with
   |zero=>rfl
   |succ j =>
    simp only[Be,Bw,Hj]at ha hb;exact absurd (Ag.2 ⟨b,Aw hb,by rw[<-he,ha]⟩) h.1
  |succ i =>
   cases j with
   |zero =>
    simp only[Be,Bw,Hj]at ha hb;exact absurd (Ag.2 ⟨a,Aw ha,by rw[he,hb]⟩) h.1
   |succ j=>exact Aa (·+1) (ih h.2 ha hb)
open Classical in
theorem Ny{b:AV}(h:(k,b)∈B7):EX B7 k a=B7.map fun p=>if p.1=k then(k,a)else p:=Al ⟨b,h⟩
open Classical in
theorem IL(h:∀b,(k,b)∉B7):EX B7 k a=B7++[(k,a)]:=Ai (fun⟨b,e⟩=>h b e)
theorem WW(f:AV->AV)(h:HJ sh es ck B7):HJ sh es ck (B7.map fun p=>(p.1,f p.2)):=by
 obtain⟨h1,h2,h3,h4,h5,h6⟩:=h;refine⟨by simp[h1],fun i kv e q1 q2=>?_,fun kv QB=>?_,?_,h5,h6⟩
 .rw[AG]at q1;obtain⟨p,q3,rfl⟩:=AS.1 q1;exact h2 i p e q3 q2
 .obtain⟨p,hp,rfl⟩:=Ag.1 QB;exact h3 p hp
 .rw[Bo];exact h4
theorem PU(h:HJ sh es ck B7)(hj:B7[j]?=some (x,a)) :
  HJ sh (es.modify j fun e=>{ e with key:=x,val:=y }) ck (EX B7 x v) /\
   ∀(i:Nat) (kv:Value×AV) (e:MapEntry),(EX B7 x v)[i]?=some kv->(es.modify j fun e=>{ e with key:=x,val:=y })[i]?=some e ->
    (kv.2=v/\e.val=y)\/(B7[i]?=some kv/\es[i]?=some e):=by
 classical
 rw[Ny (Aw hj)];obtain⟨h1,h2,h3,h4,h5,h6⟩:=h;have hm:∀i e,(es.modify j fun e=>{ e with key:=x,val:=y })[i]?=some e->∃e0,es[i]?=some e0/\e.born=e0.born/\(if i=j then e.key=x/\e.val=y else e=e0):=by
  intro i e he;rw[Array.getElem?_modify]at he;split at he
  .rename_i e1;subst e1;obtain⟨e0,q1,q2⟩:=AS.1 he;exact⟨e0,q1,by rw[<-q2],by rw[Al rfl,<-q2];exact⟨rfl,rfl⟩⟩
  .rename_i e1;exact⟨e,he,rfl,by rw[Ai (fun q=>e1 q.symm)]⟩
 have hk:∀i kv,(B7.map fun p=>if p.1=x then(x,v)else p)[i]?=some kv->∃p,B7[i]?=some p/\kv.1=p.1/\(if i=j then kv.2=v else kv=p):=by
  intro i kv QB;rw[AG]at QB;obtain⟨p,q1,q2⟩:=AS.1 QB;refine⟨p,q1,?_⟩
  by_cases e:p.1=x
  .rw[Al e]at q2;subst q2
   have:=WZ h4 q1 hj e
   exact⟨e.symm,by rw[Al this]⟩
  .rw[Ai e]at q2;subst q2;refine⟨rfl,?_⟩;rw[Ai];intro e2;subst e2;rw[q1]at hj;cases hj;exact e rfl
 have xn:(B7.map fun p=>if p.1=x then(x,v)else p).map (·.1)=B7.map (·.1):=by
  rw[Bo];apply Bh;intro p _;simp only[Function.comp];split
  .rename_i e;exact e.symm
  .rfl
 refine⟨⟨by simp[h1],fun i kv e q1 q2=>?_,fun kv QB=>?_,by rw[xn];exact h4,fun i e q=>?_,fun i i' e e' q q' hb=>?_⟩,fun i kv e q1 q2=>?_⟩
 .obtain⟨p,p1,p2,p3⟩:=hk i kv q1;obtain⟨e0,r1,r2,r3⟩:=hm i e q2
  have:=h2 i p e0 p1 r1
  split at r3
  .rename_i ij;subst ij;rw[hj]at p1;cases p1;rw[r3.1,p2]
  .rw[r3,p2];exact this
 .obtain⟨i,hi⟩:=Ck.1 QB;obtain⟨p,p1,p2,p3⟩:=hk i kv hi;rw[p2];exact h3 p (Aw p1)
 .obtain⟨e0,r1,r2,_⟩:=hm i e q;rw[r2];exact h5 i e0 r1
 .obtain⟨e0,r1,r2,_⟩:=hm i e q;obtain⟨e1,s1,s2,_⟩:=hm i' e' q';exact h6 i i' e0 e1 r1 s1 (by rw[<-r2,<-s2];exact hb)
 .obtain⟨p,p1,p2,p3⟩:=hk i kv q1;obtain⟨e0,r1,r2,r3⟩:=hm i e q2;split at r3
  .rename_i ij;rw[Al ij]at p3;exact .inl ⟨p3,r3.2⟩
  .rename_i ij;rw[Ai ij]at p3;exact .inr ⟨by rw[p3];exact p1,by rw[r3];exact r1⟩
theorem UM(h:HJ sh es ck B7)(hx:Xj sh x=true)(hn:∀a,(x,a)∉B7) :
  HJ sh (es.push { key:=x,val:=y,born:=ck }) (ck+1) (EX B7 x v) /\
   ∀(i:Nat) (kv:Value×AV) (e:MapEntry),(EX B7 x v)[i]?=some kv->(es.push { key:=x,val:=y,born:=ck })[i]?=some e ->
    (kv.2=v/\e.val=y)\/(B7[i]?=some kv/\es[i]?=some e):=by
 rw[IL hn];obtain⟨h1,h2,h3,h4,h5,h6⟩:=h;have hm:∀i e,(es.push { key:=x,val:=y,born:=ck })[i]?=some e->(es[i]?=some e/\i<es.size)\/(i=es.size/\e={ key:=x,val:=y,born:=ck }):=by
  intro i e he;rw[Array.getElem?_push]at he;split at he
  .rename_i q;cases he;exact .inr ⟨q,rfl⟩
  .exact .inl ⟨he,(Bp.1 he).1⟩
 have hk:∀i kv,(B7++[(x,v)])[i]?=some kv->(B7[i]?=some kv/\i<es.size)\/(i=es.size/\kv=(x,v)):=by
  intro i kv QB;rw[ME]at QB;split at QB
  .rename_i q;exact .inl ⟨QB,by omega⟩
  .rename_i q
   have:i-B7.length=0:=by
    have:=(Au.1 QB).1
    simp at this;omega
   rw[this]at QB;simp at QB;exact .inr ⟨by omega,QB.symm⟩
 refine⟨⟨by simp[h1],fun i kv e q1 q2=>?_,fun kv QB=>?_,?_,fun i e q=>?_,fun i i' e e' q q' hb=>?_⟩,fun i kv e q1 q2=>?_⟩
 .rcases hk i kv q1 with ⟨p1,p2⟩ | ⟨p1,p2⟩<;>rcases hm i e q2 with ⟨r1,r2⟩ | ⟨r1,r2⟩
  .exact h2 i kv e p1 r1
  .omega
  .omega
  .rw[p2,r2]
 .rcases AO.1 QB with q | q
  .exact h3 kv q
  .rw[Ap.1 q];exact hx
 .rw[Ar,FG];refine⟨h4,by simp,fun a ha b hb e=>?_⟩;simp only[AI,E0,Ap]at hb;obtain⟨p,p1,p2⟩:=Ag.1 ha;refine hn p.2 ?_
  have:p=(x,p.2):=by rw[<-hb,<-e,<-p2]
  rw[<-this];exact p1
 .rcases hm i e q with ⟨r1,_⟩ | ⟨_,r2⟩
  .have:=h5 i e r1;omega
  .rw[r2];exact F8 _
 .rcases hm i e q with ⟨r1,_⟩ | ⟨r1,r2⟩<;>rcases hm i' e' q' with ⟨s1,_⟩ | ⟨s1,s2⟩
  .exact h6 i i' e e' r1 s1 hb
  .have:=h5 i e r1;rw[s2]at hb;dsimp only at hb;omega
  .have:=h5 i' e' s1;rw[r2]at hb;dsimp only at hb;omega
  .omega
 .rcases hk i kv q1 with ⟨p1,p2⟩ | ⟨p1,p2⟩<;>rcases hm i e q2 with ⟨r1,r2⟩ | ⟨r1,r2⟩
  .exact .inr ⟨p1,r1⟩
  .omega
  .omega
  .exact .inl ⟨by rw[p2],by rw[r2]⟩
section
variable {P:Program}{w0:World}{g0:Gh}{h0 h:Nat->HO}{g:Gh}{w:World}(hI:DX w0 g0 h0 h g w)
include hI
theorem DX.swap{r b:Nat}(hl:(h r).live)(ho:g.own r=some b)(hn:∀o,¬g.S b o)(o' : HO){ob:Obj}(hb:w.heap[b]?=some ob)(ft : Obj)(w1:World)(LG:w1.heap=w.heap/\w1.os=w.os/\w1.tape=w.tape/\w1.output=w.output)(Dy:o'≠.free)
  (J6:KN g (g.upd r (g.ρ r) (g.ln r) (g.tk r) (g.own r) g.S) (AQ h)->EH g w (g.upd r (g.ρ r) (g.ln r) (g.tk r) (g.own r) g.S) (setBlock w1 b ft)->(setBlock w1 b ft).heap[b]?=some ft ->
   (∀k,k≠b->(setBlock w1 b ft).heap[k]?=w.heap[k]?) ->
   Ep (g.upd r (g.ρ r) (g.ln r) (g.tk r) (g.own r) g.S) (setBlock w1 b ft) (AQ (A0 h r o')) r o') :
  DX w0 g0 h0 (A0 h r o') (g.upd r (g.ρ r) (g.ln r) (g.tk r) (g.own r) g.S) (setBlock w1 b ft)/\Le h g w (A0 h r o') (g.upd r (g.ρ r) (g.ln r) (g.tk r) (g.own r) g.S) (setBlock w1 b ft):=by
 have Dz:=(hI.loc r b hl ho).1;have EL:(setBlock w1 b ft).heap[b]?=some ft:=VU (by rw[LG.1];exact hb);have cG:∀k,k≠b->(setBlock w1 b ft).heap[k]?=w.heap[k]?:=fun k hk=>by rw[Vg hk,LG.1]
 refine hI.upd r o' _ _ _ _ _ _ (some b) ⟨LG.2.1,LG.2.2.1,LG.2.2.2,by rw[Od,LG.1];exact Aj _⟩ (fun k _ Dy=>cG k (fun e=>Dy (by rw[e]))) (fun b' e=>by cases e;exact⟨hl,ho⟩) (fun _ _ h=>h) (fun _ _ h=>.inl h)
  (fun b' o e hs=>by cases e;exact absurd hs (hn o)) (fun b' _ e=>?_) Dy (fun _=>⟨rfl,Aj _,fun _=>rfl,fun _=>rfl⟩) (fun hg hk=>J6 hg hk EL cG)
 rw[ho]at e;cases e;exact⟨by rw[Od,LG.1];exact Dz,.inl ⟨hl,ho⟩⟩
theorem N5(hT:CF P T){ty:Nat}{m k x:AV}{vm vk:Value}(hm:BM g w (AQ h) m vm)(hk' : BM g w (AQ h) k vk)(hx:BM g w (AQ h) x vx)(hk:HE T h ty m k x K) :
  jR P w0 g0 h0 h g w (Instr.mapUpdate ty vm vk vx) K:=by
 unfold HE at hk;split at hk
 .rename_i r;split at hk
  .rename_i sh B7 e0;obtain⟨kt,e,k1,k2,k3,k4⟩:=Nv hk' hk;have ho:=hI.objs r;rw[e0]at ho;obtain⟨t1,b,es,ck,a1,a2,a3,a4,a5,a6⟩:=ho;have hl:(h r).live:=by rw[e0];trivial
   cases hm with
   |mref _ _ b' hu ht hp =>
    rw[a2]at hp;cases hp;have lM:=hT.map k1;have Fz:=run_getObj_map (P:=P) w b es ck a3;have Ow:∀o',(setObj b o').run P w=.ok () (setBlock w b o'):=fun o'=>by simp[setObj,Sem.run,a3,setBlock]
    have Vv:=fun bb=>M9 hT k2 w bb k3;obtain⟨res,r1,r2⟩:=ON hT k2 w k3 es.toList a4.shape;have ot:=BM.str hI.objs hx;rcases r2 with ⟨rfl,hn⟩ | ⟨j,en,rfl,hj,hkey⟩
    .obtain⟨m1,m2⟩:=UM a4 (x:=vk) (v:=str h x) (y:=vx) k3 (fun a=>a4.none hn a);obtain⟨i1,i2⟩:=DX.swap hI hl a1 a6 (.map sh (EX B7 vk (str h x))) a3 (.map (es.push { key:=vk,val:=vx,born:=ck }) (ck+1)) w ⟨rfl,rfl,rfl,rfl⟩ B0 (fun hg Ix EL cG=>by
      obtain⟨u1,u2,u3,u4⟩:=BG g r (g.ρ r) (g.ln r) (g.tk r) (g.own r) g.S;refine⟨u3.trans t1,b,_,_,u4.trans a1,u1.trans a2,EL,m1,fun i kv e q1 q2=>?_,a6⟩;rcases m2 i kv e q1 q2 with ⟨p1,p2⟩ | ⟨p1,p2⟩
      .rw[p1,p2];exact ot.mono Ix (fun _ h=>h) (fun _ h=>h.elim)
      .exact(a5 i kv e p1 p2).mono Ix (fun _ h=>h) (fun _ h=>h.elim))
     refine⟨_,_,_,?_,k4,i1,i2⟩;simp[Instr.mapUpdate,run_underlying lM,Fz,Vv,r1,Ow]
    .obtain⟨a,q1,q2⟩:=a4.some hj hkey;obtain⟨m1,m2⟩:=PU a4 (x:=vk) (v:=str h x) (y:=vx) q1;obtain⟨i1,i2⟩:=DX.swap hI hl a1 a6 (.map sh (EX B7 vk (str h x))) a3 (.map (es.modify j fun e=>{ e with key:=vk,val:=vx }) ck) w ⟨rfl,rfl,rfl,rfl⟩ B0 (fun hg Ix EL cG=>by
      obtain⟨u1,u2,u3,u4⟩:=BG g r (g.ρ r) (g.ln r) (g.tk r) (g.own r) g.S;refine⟨u3.trans t1,b,_,_,u4.trans a1,u1.trans a2,EL,m1,fun i kv e q1 q2=>?_,a6⟩;rcases m2 i kv e q1 q2 with ⟨p1,p2⟩ | ⟨p1,p2⟩
      .rw[p1,p2];exact ot.mono Ix (fun _ h=>h) (fun _ h=>h.elim)
      .exact(a5 i kv e p1 p2).mono Ix (fun _ h=>h) (fun _ h=>h.elim))
     refine⟨_,_,_,?_,k4,i1,i2⟩;have tw : es[j]?=some en:=by simpa using hj
     have Ku:=Sw (P:=P) w k3;simp[Instr.mapUpdate,run_underlying lM,Fz,Vv,r1,Ow,tw,hkey,Ku]
  .rename_i sh B7 e0;obtain⟨kt,e,k1,k2,k3,k4⟩:=Nv hk' hk;have ho:=hI.objs r;rw[e0]at ho;obtain⟨t1,b,es,ck,a1,a2,a3,a4,a5,a6⟩:=ho;have hl:(h r).live:=by rw[e0];trivial
   cases hm with
   |mref _ _ b' hu ht hp =>
    rw[a2]at hp;cases hp;have lM:=hT.map k1;have Fz:=run_getObj_map (P:=P) w b es ck a3;have Ow:∀o',(setObj b o').run P w=.ok () (setBlock w b o'):=fun o'=>by simp[setObj,Sem.run,a3,setBlock]
    have Vv:=fun bb=>M9 hT k2 w bb k3;obtain⟨res,r1,r2⟩:=ON hT k2 w k3 es.toList a4.shape;rcases r2 with ⟨rfl,hn⟩ | ⟨j,en,rfl,hj,hkey⟩
    .obtain⟨m1,m2⟩:=UM a4 (x:=vk) (v:=x) (y:=vx) k3 (fun a=>a4.none hn a);obtain⟨i1,i2⟩:=DX.swap hI hl a1 a6 (.mapU sh (EX B7 vk (x))) a3 (.map (es.push { key:=vk,val:=vx,born:=ck }) (ck+1)) w ⟨rfl,rfl,rfl,rfl⟩ B0 (fun hg Ix EL cG=>by
      obtain⟨u1,u2,u3,u4⟩:=BG g r (g.ρ r) (g.ln r) (g.tk r) (g.own r) g.S;have K8:∀i,AQ h i->AQ (A0 h r (.mapU sh (EX B7 vk x))) i:=fun i hi=>D3 B0 i hi;refine⟨u3.trans t1,b,_,_,u4.trans a1,u1.trans a2,EL,m1,fun i kv e q1 q2=>?_,a6⟩;rcases m2 i kv e q1 q2 with ⟨p1,p2⟩ | ⟨p1,p2⟩
      .rw[p1,p2];exact hx.mono Ix K8 hg
      .exact(a5 i kv e p1 p2).mono Ix K8 hg)
     refine⟨_,_,_,?_,k4,i1,i2⟩;simp[Instr.mapUpdate,run_underlying lM,Fz,Vv,r1,Ow]
    .obtain⟨a,q1,q2⟩:=a4.some hj hkey;obtain⟨m1,m2⟩:=PU a4 (x:=vk) (v:=x) (y:=vx) q1;obtain⟨i1,i2⟩:=DX.swap hI hl a1 a6 (.mapU sh (EX B7 vk (x))) a3 (.map (es.modify j fun e=>{ e with key:=vk,val:=vx }) ck) w ⟨rfl,rfl,rfl,rfl⟩ B0 (fun hg Ix EL cG=>by
      obtain⟨u1,u2,u3,u4⟩:=BG g r (g.ρ r) (g.ln r) (g.tk r) (g.own r) g.S;have K8:∀i,AQ h i->AQ (A0 h r (.mapU sh (EX B7 vk x))) i:=fun i hi=>D3 B0 i hi;refine⟨u3.trans t1,b,_,_,u4.trans a1,u1.trans a2,EL,m1,fun i kv e q1 q2=>?_,a6⟩;rcases m2 i kv e q1 q2 with ⟨p1,p2⟩ | ⟨p1,p2⟩
      .rw[p1,p2];exact hx.mono Ix K8 hg
      .exact(a5 i kv e p1 p2).mono Ix K8 hg)
     refine⟨_,_,_,?_,k4,i1,i2⟩;have tw : es[j]?=some en:=by simpa using hj
     have Ku:=Sw (P:=P) w k3;simp[Instr.mapUpdate,run_underlying lM,Fz,Vv,r1,Ow,tw,hkey,Ku]
  .exact hk.elim
 .exact hk.elim
theorem OH{d b:Nat}{ck:Nat}(hd:h d=.free)(hS:g.S b 0)(hb:w.heap[b]?=some (.map es ck))(hm:HJ sh es ck B7)(hv:∀(i:Nat) (kv:Value×AV) (e:MapEntry),B7[i]?=some kv->es[i]?=some e->BM g w Fw kv.2 e.val) :
  ∃g',DX w0 g0 h0 (A0 h d (.iter B7 B7 none)) g' (w.alloc (.mapIter (some b) ck #[] ck))/\Le h g w (A0 h d (.iter B7 B7 none)) g' (w.alloc (.mapIter (some b) ck #[] ck)) /\
   BM g' (w.alloc (.mapIter (some b) ck #[] ck)) (AQ (A0 h d (.iter B7 B7 none))) (.ref d 0) (.pointer (some ⟨w.heap.size,0,none⟩)):=by
 obtain⟨k1,k2⟩:=hI.newOwn hd (.iter B7 B7 none) (.mapIter (some b) ck #[] ck) (.pointer (some ⟨w.heap.size,0,none⟩)) 0 false w ⟨rfl,rfl,rfl,rfl⟩ B0 (fun hg hk=>by
  obtain⟨u1,u2,u3,u4⟩:=BG g d (.pointer (some ⟨w.heap.size,0,none⟩)) 0 false (some w.heap.size) g.S;obtain⟨c1,c2,c3⟩:=hk b 0 hS
  exact⟨u3,w.heap.size,b,ck,#[],ck,es,ck,u4,u1,GL w _ rfl,c1,c3 es ck hb,⟨sh,hm⟩,rfl,rfl,fun i kv e q1 q2=>(hv i kv e q1 q2).mono hk (fun _ h=>h) (fun _ h=>h.elim),
   ⟨PZ hm.2.2.2.1,fun _ h=>h⟩,fun i kv e q1 q2=>by simp[List.mem_of_getElem? q1],trivial,fun o ho=>by have:=hI.slt _ _ ho;omega⟩)
 refine⟨_,k1,k2,.ref _ d 0 w.heap.size (by unfold AQ;rw[Bj];simp) ?_ ?_⟩<;>simp[Gh.upd]
theorem Sj{r b:Nat}{ck:Nat}(e0:h r=.map sh B7)(a1:g.own r=some b)(a2:g.ρ r=.map (some b))(a3:w.heap[b]?=some (.map es ck))(a4:HJ sh es ck B7)(a5:∀(i:Nat) (kv:Value×AV) (e:MapEntry),B7[i]?=some kv->es[i]?=some e->BM g w Fw kv.2 e.val)(t1:g.tk r=false) :
  ∃g',DX w0 g0 h0 (A0 h r (.rom sh B7)) g' w/\Le h g w (A0 h r (.rom sh B7)) g' w/\g'.S b 0:=by
 have hl:(h r).live:=by rw[e0];trivial
 have Dz:=(hI.loc r b hl a1).1
 obtain⟨k1,k2⟩:=hI.upd r (.rom sh B7) (g.ρ r) (g.ln r) (g.tk r) none (g.more b 1) w none ⟨rfl,rfl,rfl,Aj _⟩ (fun _ _ _=>rfl) (fun b e=>by cases e) (fun _ _ h=>.inl h)
  (fun b' o hs=>hs.elim .inl (fun hs=>.inr ⟨by rw[hs.1];exact Dz,.inr ⟨hl,by rw[hs.1];exact a1⟩⟩)) (fun b o e=>by cases e) (fun b hh _=>by cases hh) B0
  (fun _=>⟨rfl,Aj _,fun _=>rfl,fun _=>rfl⟩) (fun hg hk=>by
   obtain⟨u1,u2,u3,u4⟩:=BG g r (g.ρ r) (g.ln r) (g.tk r) none (g.more b 1);exact⟨u3.trans t1,b,u1.trans a2,.cmap _ sh B7 b es ck (.inr ⟨rfl,We⟩) a3 a4 (fun i kv e q1 q2=>(a5 i kv e q1 q2).mono hk (fun _ h=>h) (fun _ h=>h.elim))⟩)
 exact⟨_,k1,k2,.inr ⟨rfl,We⟩⟩
theorem Yv{r b:Nat}{ck:Nat}(e0:h r=.mapU sh B7)(a1:g.own r=some b)(a2:g.ρ r=.map (some b))(a3:w.heap[b]?=some (.map es ck))(a4:HJ sh es ck B7)(a5:∀(i:Nat) (kv:Value×AV) (e:MapEntry),B7[i]?=some kv->es[i]?=some e->BM g w (AQ h) kv.2 e.val)(t1:g.tk r=false) :
  ∃g',DX w0 g0 h0 (A0 h r (.rom sh (SQ h B7))) g' w/\Le h g w (A0 h r (.rom sh (SQ h B7))) g' w/\g'.S b 0:=by
 have hl:(h r).live:=by rw[e0];trivial
 have Dz:=(hI.loc r b hl a1).1
 obtain⟨k1,k2⟩:=hI.upd r (.rom sh (SQ h B7)) (g.ρ r) (g.ln r) (g.tk r) none (g.more b 1) w none ⟨rfl,rfl,rfl,Aj _⟩ (fun _ _ _=>rfl) (fun b e=>by cases e) (fun _ _ h=>.inl h)
  (fun b' o hs=>hs.elim .inl (fun hs=>.inr ⟨by rw[hs.1];exact Dz,.inr ⟨hl,by rw[hs.1];exact a1⟩⟩)) (fun b o e=>by cases e) (fun b hh _=>by cases hh) B0
  (fun _=>⟨rfl,Aj _,fun _=>rfl,fun _=>rfl⟩) (fun hg hk=>by
   obtain⟨u1,u2,u3,u4⟩:=BG g r (g.ρ r) (g.ln r) (g.tk r) none (g.more b 1);refine⟨u3.trans t1,b,u1.trans a2,.cmap _ sh _ b es ck (.inr ⟨rfl,We⟩) a3 (WW _ a4) (fun i kv e q1 q2=>?_)⟩;unfold SQ at q1;rw[AG]at q1;obtain⟨p,q3,rfl⟩:=AS.1 q1;exact((a5 i p e q3 q2).str hI.objs).mono hk (fun _ h=>h) (fun _ h=>h.elim))
 exact⟨_,k1,k2,.inr ⟨rfl,We⟩⟩
theorem jj(hT:CF P T){ty kt e:Nat}(ht:(T ty).d=.map kt e){d:Option Nat}{x:AV}(hx:BM g w (AQ h) x vx)(hk:dp d h x K) :
  Og P w0 g0 h0 h g w (Instr.range ty vx) K:=by
 have hu:=hT.map ht;unfold dp at hk;split at hk
 .exact hk.elim
 .rename_i d;split at hk
  .rename_i hd;have CP:∀b es ck,w.heap[b]?=some (.map es ck)->(Instr.range ty (.map (some b))).run P w=.ok (.pointer (some ⟨w.heap.size,0,none⟩)) (w.alloc (.mapIter (some b) ck #[] ck)):=fun b es ck hb=>by
    simp[Instr.range,run_underlying hu,run_getObj_map (P:=P) w b es ck hb]
   split at hk
   .cases hx with
    |cmap _ _ _ b es ck hS hb hm hv =>
     obtain⟨g',k1,k2,k3⟩:=OH hI hd hS hb hm hv;exact⟨_,_,_,_,_,CP _ _ _ hb,hk,k1,k2,k3⟩
   .rename_i r;have ho:=hI.objs r;cases hx with
    |mref _ _ b lM ht' hp =>
     split at hk
     .rename_i sh B7 e0;rw[e0]at ho;obtain⟨_,b',a1,a2⟩:=ho;rw[a1]at hp;cases hp;cases a2 with
      |cmap _ _ _ _ es ck hS hb hm hv =>
       obtain⟨g',k1,k2,k3⟩:=OH hI hd hS hb hm hv;exact⟨_,_,_,_,_,CP _ _ _ hb,hk,k1,k2,k3⟩
     .rename_i sh B7 e0;rw[e0]at ho;obtain⟨t1,b',es,ck,a1,a2,a3,a4,a5,a6⟩:=ho;rw[a2]at hp;cases hp;obtain⟨g1,i1,i2,i3⟩:=Sj hI e0 a1 a2 a3 a4 a5 t1;have Dy:d≠r:=fun e=>by rw[e,e0]at hd;cases hd
      obtain⟨g',k1,k2,k3⟩:=OH i1 (by rw[B6 _ _ _ _ Dy];exact hd) i3 a3 a4 (fun i kv e q1 q2=>(a5 i kv e q1 q2).mono i2.keeps (fun _ h=>h) (fun _ h=>h.elim));exact⟨_,_,_,_,_,CP _ _ _ a3,hk,k1,i2.trans k2,k3⟩
     .exact hk.elim
   .exact hk.elim
  .exact hk.elim
theorem mn{ty:TypeId}{x:AV}(hx:BM g w (AQ h) x vx)(hk:ml h x K):Og P w0 g0 h0 h g w (Instr.next vx false ty) K:=by
 unfold ml at hk;split at hk
 .rename_i r;split at hk
  .rename_i all rem EC e0;have ho:=hI.objs r;rw[e0]at ho;obtain⟨t1,b,mb,KL,seen,st,es,ck,a1,a2,a3,a4,a5,⟨sh,a6⟩,a7,a8,a9,Y9,dJ,a12,si⟩:=ho;have hl:(h r).live:=by rw[e0];trivial
   cases hx with
   |ref _ _ _ b' hu ht hp =>
    rw[a2]at hp;cases hp;have Dz:∀e∈es.toList,e.born<KL:=fun e he=>by
     obtain⟨i,hi⟩:=Ck.1 he
     have:=a6.2.2.2.2.1 i e (by simpa using hi)
     omega
    rcases run_next_at (P:=P) w ty b mb KL st seen es ck a3 a5 Dz ch with ⟨q1,q2⟩ | ⟨e,q1,w1,q2,q3⟩
    .have Ac1:rem=[]:=by
      apply Mt.2;intro kv QB;obtain⟨i,hi⟩:=Ck.1 (Y9.2 kv QB);have hil:i<es.size:=by rw[a6.1];exact(Au.1 hi).1
      have hb:=(dJ i kv es[i] hi (by simp[hil])).1 QB;have hm:es[i]∈leftOf es seen:=by simp[leftOf,hb]
      have:=Array.size_pos_of_mem hm
      omega
     exact⟨_,w,g,_,h,q2,hk.1 Ac1,hI,.refl _ _ _,.tup _ _ _ rfl (fun i av x h1 h2=>by
      match i,h1,h2 with
      |0,h1,h2=>simp at h1 h2;subst h1;subst h2;exact .v _ _)⟩
    .have hq:e∈es/\e.born∉seen:=by simpa[leftOf]using q1
     obtain⟨i,hi⟩:=Array.mem_iff_getElem?.1 hq.1;have hil:i<all.length:=by rw[<-a6.1];exact(Bp.1 hi).1
     have vw:all[i]?=some all[i]:=Ay hil;have oh:=(dJ i _ e vw hi).2 hq.2;obtain⟨s1,s2,hs⟩:=List.append_of_mem oh;have Ju:rem.Perm (all[i]::(s1++s2)):=by rw[hs];exact List.perm_middle
     have SI:(all[i]::(s1++s2)).Nodup:=Ju.nodup_iff.1 Y9.1;have hr:=a9 i _ e vw hi;have hkey:=a6.2.1 i _ e vw hi;have LG:w1.heap=w.heap/\w1.os=w.os/\w1.tape=w.tape/\w1.output=w.output:=by rcases q2 with rfl | rfl<;>exact⟨rfl,rfl,rfl,rfl⟩
     obtain⟨k1,k2⟩:=DX.swap hI hl a1 si (.iter all (s1++s2) (some all[i])) a3 (.mapIter (some mb) KL (seen.push e.born) ck) w1 LG B0 (fun hg Ix EL cG=>by
      obtain⟨u1,u2,u3,u4⟩:=BG g r (g.ρ r) (g.ln r) (g.tk r) (g.own r) g.S;obtain⟨c1,c2,c3⟩:=Ix mb 0 a4
      refine⟨u3.trans t1,b,mb,KL,_,ck,es,ck,u4.trans a1,u1.trans a2,EL,c1,c3 _ _ a5,⟨sh,a6⟩,a7,rfl,fun i kv e p q=>(a9 i kv e p q).mono Ix (fun _ h=>h) (fun _ h=>h.elim),
       ⟨(De.1 SI).2,fun kv QB=>Y9.2 kv (Ju.mem_iff.2 (Ah _ QB))⟩,fun j kv e' p q=>?_,⟨i,e,vw,hi,by simp⟩,si⟩
      rw[Array.mem_push];have h1:=dJ j kv e' p q;rw[Ju.mem_iff,Az]at h1;constructor
      .intro QB hc;rcases hc with hc | hc
       .exact(h1.1 (.inr QB)) hc
       .obtain rfl:=a6.2.2.2.2.2 j i e' e q hi hc;rw[vw]at p;cases p;exact(De.1 SI).1 QB
      .intro hc;rcases h1.2 (fun hm=>hc (.inl hm))with e2 | e2
       .have:j=i:=WZ (f:=fun x=>x) (l:=all) (by simpa using PZ a6.2.2.2.1) p vw e2
        subst this;rw[hi]at q;cases q;exact absurd (.inr rfl) hc
       .exact e2)
     refine⟨_,_,_,_,_,q3,hk.2 all[i] (s1++s2) Ju,k1,k2,.tup _ _ _ rfl (fun j av x h1 h2=>?_)⟩
     match j,h1,h2 with
     |0,h1,h2=>simp at h1 h2;subst h1;subst h2;exact .v _ _
     |1,h1,h2=>simp at h1 h2;subst h1;subst h2;rw[hkey];exact .v _ _
     |2,h1,h2=>simp at h1 h2;subst h1;subst h2;exact(hr.up _).le k2
  .exact hk.elim
 .exact hk.elim
end
end Go.Eng
