/- Lemmas 10. -/
import Derived.Test.YteaiieomnhbmgaaGreatDoorAA09
import Derived.Maps.RangeRun
namespace Go.Eng
variable {ρ:Operand->Value}{es:List (List AV)}{hi:Option Operand}{vx:Value}{K:HK}{a:Option Addr}{cx:Cx}{x:AV}{T:Ha}
section
variable {P:Program}{w0:World}{g0:Gh}{h0 h:Nat->HO}{g:Gh}{w:World}(hI:D7 w0 g0 h0 h g w)
include hI
theorem Pi{d sz n:Nat}(hd:h d=.free)(hl:∀c∈es,c.length=sz)(hn:es.length=n)(hr:BS g w FK (.slice .none es) (.slice a n n)) :
  ∃g',D7 w0 g0 h0 (A1 h d (.tok sz n)) g' w/\Le h g w (A1 h d (.tok sz n)) g' w/\BS g' w (AQ (A1 h d (.tok sz n))) (.slice (.id d sz) es) (.slice a n n):=by
 obtain⟨k1,k2⟩:=hI.upd d (.tok sz n) (.slice a n n) n true none g.S w none ⟨rfl,rfl,rfl,Ak _⟩ (fun _ _ _=>rfl) (fun b e=>by cases e) (fun _ _ h=>h) (fun _ _ h=>.inl h) (fun b o e=>by cases e) (fun b _ e=>by cases e) B0
  (fun hu=>absurd hd hu) (fun _ _=>by
   obtain⟨u1,u2,u3,u4⟩:=BJ g d (.slice a n n) n true none g.S;exact⟨u3,u2,a,n,u1,.inl ⟨rfl,u4⟩⟩)
 exact⟨_,k1,k2,.tok _ d sz es _ (((hr.up (AQ h)).le k2)) hl (by unfold AQ;rw[Bl];simp) (by simp[Gh.upd]) (by simp[Gh.upd,hn]) (fun _=>by simp[Gh.upd])⟩
theorem cN{d:Option Nat}(hx:BS g w (AQ h) x vx)(hk:PL cx d h x K):∃g' av h',K av h'/\D7 w0 g0 h0 h' g' w/\Le h g w h' g' w/\BS g' w (AQ h') av vx:=by
 have plain:K x h->∃g' av h',K av h'/\D7 w0 g0 h0 h' g' w/\Le h g w h' g' w/\BS g' w (AQ h') av vx:=fun hk=>⟨g,x,h,hk,hI,.refl _ _ _,hx⟩;unfold PL at hk;split at hk
 .exact plain hk
 .rename_i d;split at hk
  .rename_i sz _;split at hk
   .refine⟨g,unT x,h,hk,hI,.refl _ _ _,?_⟩;cases x with
    |slice tk es=>exact(BS.slice_none hx).up _
    |_=>exact hx
   .split at hk
    .split at hk
     .rename_i hd;obtain rfl:=hx.v_eq;obtain⟨g',k1,k2,k3⟩:=Pi hI (sz:=sz) (es:=[]) (a:=none) hd B0 rfl (.snil _ _ _);exact⟨g',_,_,hk,k1,k2,k3⟩
     .exact hk.elim
    .exact plain hk
  .split at hk
   .rename_i sz _;split at hk
    .split at hk
     .rename_i hd;obtain rfl:=hx.v_eq
      obtain⟨k1,k2⟩:=hI.upd d (.arr sz []) (.slice none 0 0) 0 true none g.S w none ⟨rfl,rfl,rfl,Ak _⟩ (fun _ _ _=>rfl) (fun b e=>by cases e) (fun _ _ h=>h) (fun _ _ h=>.inl h) (fun b o e=>by cases e) (fun b _ e=>by cases e) B0
       (fun hu=>absurd hd hu) (fun _ _=>by
        obtain⟨u1,u2,u3,u4⟩:=BJ g d (.slice none 0 0) 0 true none g.S;exact⟨u3,u2,by simp,.inl ⟨rfl,u1,u4⟩⟩)
      exact⟨_,_,_,hk,k1,k2,.msl _ d 0 none 0 (by unfold AQ;rw[Bl];simp) (by simp[Gh.upd]) (Ax _) (.inl rfl) (fun _=>by simp[Gh.upd])⟩
     .exact hk.elim
    .exact plain hk
   .exact plain hk
theorem bo{mku:List Nat}{d:Option Nat}{ty:Nat}(hk:LP T mku d h ty K):OM P w0 g0 h0 h g w (Instr.makeMap ty none) K:=by
 unfold LP at hk;split at hk
 .exact hk.elim
 .rename_i d;split at hk
  .rename_i hd;split at hk
   .split at hk
    .rename_i sh _;split at hk
     .obtain⟨k1,k2⟩:=hI.newOwn hd (.mapU sh []) (.map #[] 0) (.map (some w.heap.size)) 0 false w ⟨rfl,rfl,rfl,rfl⟩ B0 (fun hg IM=>by
       obtain⟨u1,u2,u3,u4⟩:=BJ g d (.map (some w.heap.size)) 0 false (some w.heap.size) g.S;exact⟨u3,w.heap.size,#[],0,u4,u1,G2 w _ rfl,⟨rfl,by simp,by simp,by simp,by simp,by simp⟩,by simp,fun o ho=>by have:=hI.slt _ _ ho;omega⟩)
      refine⟨_,_,_,_,_,?_,hk,k1,k2,.mref _ d w.heap.size (by unfold AQ;rw[Bl];simp) ?_ ?_⟩
      .simp[Instr.makeMap]
      .simp[Gh.upd]
      .simp[Gh.upd]
     .obtain⟨k1,k2⟩:=hI.newOwn hd (.map sh []) (.map #[] 0) (.map (some w.heap.size)) 0 false w ⟨rfl,rfl,rfl,rfl⟩ B0 (fun hg IM=>by
       obtain⟨u1,u2,u3,u4⟩:=BJ g d (.map (some w.heap.size)) 0 false (some w.heap.size) g.S;exact⟨u3,w.heap.size,#[],0,u4,u1,G2 w _ rfl,⟨rfl,by simp,by simp,by simp,by simp,by simp⟩,by simp,fun o ho=>by have:=hI.slt _ _ ho;omega⟩)
      refine⟨_,_,_,_,_,?_,hk,k1,k2,.mref _ d w.heap.size (by unfold AQ;rw[Bl];simp) ?_ ?_⟩
      .simp[Instr.makeMap]
      .simp[Gh.upd]
      .simp[Gh.upd]
    .exact hk.elim
   .exact hk.elim
  .exact hk.elim
omit hI in
theorem BS.sub{sz l m:Nat}{x:Value}{n cap:Nat}(hr:BS g w FK (.slice .none es) x)(hx:x=.slice a n cap)(hl:∀c∈es,c.length=sz)(h1:l<=m)(h2:m<=es.length)(c' : Nat)(hc:m-l<=c')(a' : Option Addr)(ha:a'=a.map (·.add (l*sz))\/(m=l/\a'=a)):BS g w FK (.slice .none ((es.take m).drop l)) (.slice a' (m-l) c'):=by
 subst hx;have CQ:((es.take m).drop l).length=m-l:=by rw[CK,Au];omega
 by_cases h0:m-l=0
 .have:(es.take m).drop l=[]:=AP ch
  rw[this,h0];exact .snil _ _ _
 .cases hr with
  |snil=>simp at h2;omega
  |slice _ _ b off Hb cap val uw RD DY EE=>
   have hz:Hb=sz:=by
    have:(0:Nat)<es.length:=by omega
    have h3:=RD 0 es[0] (Az this);rw[<-h3];exact hl _ (Aq this)
   subst hz;have ha' : a'=some ⟨b,off+l*Hb,none⟩:=by
    rcases ha with h | ⟨h,_⟩
    .rw[h];simp[Addr.add_lit]
    .omega
   subst ha';rw[<-CQ];have FN:∀(i:Nat) (cs:List AV),((es.take m).drop l)[i]?=some cs->es[l+i]?=some cs:=fun i cs h=>by
    rw[D0]at h
    by_cases hi:l+i<m
    .rwa [BW hi]at h
    .rw[A7 (by rw[Au];omega)]at h;cases h
   refine .slice _ _ b (off+l*Hb) Hb c' (fun i j=>val (l+i) j) (by rw[CQ];exact hc) (fun i cs h=>RD _ _ (FN i cs h)) (fun i cs j av h1 h2=>?_) (fun i cs j av h1 h2=>EE _ _ _ _ (FN i cs h1) h2)
   have:=DY _ _ _ _ (FN i cs h1) h2
   rwa [show off+(l+i)*Hb+j=off+l*Hb+i*Hb+j by rw[EU];omega]at this
omit hI in
theorem LW{t:Nat->AV}(ht:∀x:Operand,BS g w (AQ h) (ev t x) (ρ x)){o:Option Operand}{i:Option Int}(hk:Co t o=some i):o.map ρ=i.map fun n=>.int .i64 n:=by
 cases o with
 |none=>cases hk;rfl
 |some x=>
  unfold Co at hk;dsimp only at hk;split at hk
  .rename_i n e;cases hk
   have:=ht x
   rw[e]at this;simp[this.v_eq]
  .cases hk
omit hI in
theorem VQ(b:Bool)(len cap:Nat)(lo hi mx:Option Int)(mF:mx=none\/hi≠none)(h0:0<=lo.getD 0)(h1:lo.getD 0<=hi.getD len)(h2:hi.getD len<=mx.getD cap)(h3:mx.getD cap<=cap) :
  (Instr.sliceBounds b len cap (lo.map fun n=>.int .i64 n) (hi.map fun n=>.int .i64 n) (mx.map fun n=>.int .i64 n)).run P w=.ok ((lo.getD 0).toNat,(hi.getD len).toNat,(mx.getD cap).toNat) w:=by
 have e1:∀n:Int,0<=n->(n.toNat:Int)=n:=fun n hn=>Oj hn;cases mx with
 |none=>
  cases hi with
  |none=>
   cases lo with
   |none=>simp[Instr.sliceBounds]
   |some l=>
    simp only[CL,Er]at h0 h1 h2;simp[Instr.sliceBounds,run_sliceBound,h0,h1]
  |some hh=>
   simp only[CL,Er]at h1 h2;have yv:0<=hh:=by omega
   cases lo with
   |none=>simp[Instr.sliceBounds,run_sliceBound,yv,h2]
   |some l=>
    simp only[CL]at h0 h1;simp[Instr.sliceBounds,run_sliceBound,h0,h1,h2,yv,e1]
 |some m=>
  cases hi with
  |none=>simp at mF
  |some hh=>
   simp only[CL]at h1 h2 h3;have yv:0<=hh:=by omega
   have hm0:0<=m:=by omega
   cases lo with
   |none=>simp[Instr.sliceBounds,run_sliceBound,h2,h3,yv,hm0,e1]
   |some l=>
    simp only[CL]at h0 h1;simp[Instr.sliceBounds,run_sliceBound,h0,h1,h2,h3,yv,hm0,e1]
omit hI in
theorem Fm(hT:CI P T){ty e k:Nat}(ht:(T ty).d=.slice e)(hk:(T e).size=k+1)(a:Option Addr)(len cap:Nat)(lo hi mx:Option Int)(mF:mx=none\/hi≠none)(h0:0<=lo.getD 0)(h1:lo.getD 0<=hi.getD len)(h2:hi.getD len<=mx.getD cap)(h3:mx.getD cap<=cap) :
  (Instr.sliceAt ty (.slice a len cap) (lo.map fun n=>.int .i64 n) (hi.map fun n=>.int .i64 n) (mx.map fun n=>.int .i64 n)).run P w =
   .ok (.slice (if(mx.getD cap).toNat=(lo.getD 0).toNat then a else a.map (·.add ((lo.getD 0).toNat*(T e).size))) ((hi.getD len).toNat-(lo.getD 0).toNat) ((mx.getD cap).toNat-(lo.getD 0).toNat)) w:=by
 have hu:=hT.slice ht;have hb:=VQ (P:=P) (w:=w) true len cap lo hi mx mF h0 h1 h2 h3;simp only[Instr.sliceAt,Sem.run_bind,run_underlying hu,Result.andThen_ok,Instr.slice,hb,hT.size1 w hk,Sem.run_pure];rw[hk]
theorem D7.moveO(r r2:Nat)(DH:r2≠r)(hf:h r2=.free)(hl:(h r).live){ob:Option Nat}(ho:∀c,ob=some c->g.own r=some c)(o' : HO)(x:Value)(n:Nat)(t:Bool)(hn:o'≠.free)
  (Kn:ET g w (g.upd r2 x n t ob g.S) w->EC (g.upd r2 x n t ob g.S) w (AQ (A1 (A1 h r .dead) r2 o')) r2 o') :
  D7 w0 g0 h0 (A1 (A1 h r .dead) r2 o') (g.upd r2 x n t ob g.S) w/\Le h g w (A1 (A1 h r .dead) r2 o') (g.upd r2 x n t ob g.S) w:=by
 have kL:K9 g (g.upd r2 x n t ob g.S) (AQ h):=by
  intro i hi;have e:i≠r2:=fun e=>hi (by rw[e];exact hf);refine⟨by simp[Gh.upd,e],by simp[Gh.upd,e],fun _=>by simp[Gh.upd,e],fun _=>by simp[Gh.upd,e]⟩
 have hK:ET g w (g.upd r2 x n t ob g.S) w:=fun b o hb=>⟨hb,rfl,fun _ _ h=>h⟩;have Lu:∀i,AQ h i->AQ (A1 (A1 h r .dead) r2 o') i:=fun i hi=>Ee hn i (Ee B0 i hi);have key:∀i,i≠r2->(A1 (A1 h r .dead) r2 o' i).live->i≠r/\(h i).live:=fun i h2 hl=>by
  rw[Ca _ _ _ _ h2]at hl
  by_cases e:i=r
  .subst e;rw[Bl]at hl;exact hl.elim
  .rw[Ca _ _ _ _ e]at hl;exact⟨e,hl⟩
 have own:∀i,i≠r2->(g.upd r2 x n t ob g.S).own i=g.own i:=fun i e=>by simp[Gh.upd,e]
 have VE:(g.upd r2 x n t ob g.S).own r2=ob:=by simp[Gh.upd]
 refine⟨⟨hI.os,hI.tape,hI.output,hI.size,hI.frame,hI.slt,fun i=>?_,fun i j c hi hj ei ej=>?_,fun i c hi ei=>?_,hI.sg,hI.glob.keep hK⟩,kL,Lu,hK⟩
 .by_cases e:i=r2
  .subst e;rw[Bl];exact Kn hK
  .rw[Ca _ _ _ _ e]
   by_cases e1:i=r
   .subst e1;rw[Bl];trivial
   .rw[Ca _ _ _ _ e1];exact(hI.objs i).same hK Lu kL (by simp[Gh.upd,e]) (by simp[Gh.upd,e]) (by simp[Gh.upd,e]) (by simp[Gh.upd,e]) (fun b hl hb=>⟨rfl,fun k hk=>hk⟩)
 .by_cases e1:i=r2<;>by_cases e2:j=r2
  .exact e1.trans e2.symm
  .subst e1;rw[VE]at ei;rw[own j e2]at ej;obtain⟨a1,a2⟩:=key j e2 hj;exact absurd (hI.inj j r _ a2 hl ej (ho _ ei)) a1
  .subst e2;rw[VE]at ej;rw[own i e1]at ei;obtain⟨a1,a2⟩:=key i e1 hi;exact absurd (hI.inj i r _ a2 hl ei (ho _ ej)) a1
  .rw[own i e1]at ei;rw[own j e2]at ej;exact hI.inj i j c (key i e1 hi).2 (key j e2 hj).2 ei ej
 .by_cases e1:i=r2
  .subst e1;rw[VE]at ei;exact hI.loc r _ hl (ho _ ei)
  .rw[own i e1]at ei;exact hI.loc i c (key i e1 hi).2 ei
theorem bT(hT:CI P cx.T){d:Option Nat}{ty:Nat}{t:Nat->AV}(ht:∀x:Operand,BS g w (AQ h) (ev t x) (ρ x)){lo mx:Option Operand}(hx:BS g w (AQ h) x vx)(hk:VN cx d h ty x (Co t lo) hi mx K):OM P w0 g0 h0 h g w (Instr.sliceAt ty vx (lo.map ρ) (hi.map ρ) (mx.map ρ)) K:=by
 unfold VN at hk;split at hk
 .rename_i d Iz e1;rw[LW ht e1];split at hk
  .rename_i e hs;split at hk
   .exact hk.elim
   .rename_i k EZ;split at hk
    .rename_i r sz es;split at hk
     .rename_i Hb n e0;split at hk
      .rename_i hd;split at hk
       .rename_i q1 q2;obtain rfl:=AL q1;have q2:=AL q2;obtain⟨⟨rfl,h1,h2⟩,hk⟩:=hk;have hl:(h r).live:=by rw[e0];trivial
        have DH:KJ cx d≠r:=fun e=>by rw[e,e0]at hd;cases hd
        have ho:=hI.objs r;rw[e0]at ho;obtain⟨t1,l1,a,cap,a1,a3⟩:=ho;have hr:=hx.slice_none;cases hx with
        |tok _ _ _ _ _ wZ ZC hu ht' hn MS=>
         have hv:=MS l1.symm;rw[a1]at hv;subst hv;have fM:es.length<=cap:=by rcases a3 with ⟨e1,_⟩ | ⟨e1,_⟩<;>omega
         have C3:=Fm (P:=P) (w:=w) hT hs EZ a es.length cap (some Iz) none none (.inl rfl) h1 h2 (by simp only[Er];omega) B0;simp only[CL,Er,BL]at C3;have CQ:(es.drop Iz.toNat).length=es.length-Iz.toNat:=CK;have mM:=BS.sub (c':=cap-Iz.toNat) hr rfl ZC (l:=Iz.toNat) (m:=es.length) ch (Ak _) ch (if cap=Iz.toNat then a else a.map (·.add (Iz.toNat*(cx.T e).size))) (by
          split
          .exact .inr ⟨by omega,rfl⟩
          .rw[q2];exact .inl rfl)
         rw[B7]at mM
         have fin:∀ob:Option Nat,(∀c,ob=some c->g.own r=some c)->(es.length-Iz.toNat=cap-Iz.toNat/\ob=none\/es.length-Iz.toNat<=cap-Iz.toNat/\∃b E vs off,(if cap=Iz.toNat then a else a.map (·.add (Iz.toNat*(cx.T e).size)))=some ⟨b,off,none⟩/\ob=some b/\Sv w b vs E/\vs.size=off+(cap-Iz.toNat)*Hb/\∀o,g.S b o->o<off+(es.length-Iz.toNat)*Hb) ->
           OM P w0 g0 h0 h g w (Instr.sliceAt ty (.slice a es.length cap) ((some Iz).map fun n=>.int .i64 n) ((none:Option Operand).map ρ) ((none:Option Operand).map ρ)) K:=fun ob ho yK=>by
          obtain⟨k1,k2⟩:=hI.moveO r (KJ cx d) DH hd hl ho (.tok Hb (es.drop Iz.toNat).length) (.slice (if cap=Iz.toNat then a else a.map (·.add (Iz.toNat*(cx.T e).size))) (es.length-Iz.toNat) (cap-Iz.toNat)) (es.length-Iz.toNat) true B0 (fun IM=>by
           obtain⟨u1,u2,u3,u4⟩:=BJ g (KJ cx d) (.slice (if cap=Iz.toNat then a else a.map (·.add (Iz.toNat*(cx.T e).size))) (es.length-Iz.toNat) (cap-Iz.toNat)) (es.length-Iz.toNat) true ob g.S;refine⟨u3,u2.trans CQ.symm,_,_,by rw[CQ];exact u1,?_⟩;rw[CQ,u4];exact yK)
          exact⟨_,w,_,_,_,C3,hk,k1,k2,.tok _ _ _ _ _ (((mM.mono k2.keeps (fun _ h=>h) (fun _ h=>h.elim))).up _) (fun c hc=>ZC c (Jc hc)) (by unfold AQ;rw[Bl];simp) (by simp[Gh.upd]) (by simp[Gh.upd]) (fun _=>by simp[Gh.upd])⟩
         rcases a3 with ⟨e1,e2⟩ | ⟨e1,b,E,vs,off,rfl,e3,e4,e5,e6⟩
         .exact fin none (fun c h=>by cases h) (.inl ⟨by omega,rfl⟩)
         .by_cases hc:cap=Iz.toNat
          .exact fin none (fun c h=>by cases h) (.inl ⟨by omega,rfl⟩)
          .refine fin (some b) (fun c h=>by cases h;exact e3) (.inr ⟨by omega,b,E,vs,off+Iz.toNat*Hb,?_,rfl,e4,?_,fun o ho=>?_⟩)
           .rw[Aj hc];simp[Addr.add_lit,q2]
           .rw[e5,Nat.sub_mul]
            have:=A9 Hb (show Iz.toNat<=cap by omega)
            omega
           .have:=e6 o ho
            rw[Nat.sub_mul]
            have:=A9 Hb (show Iz.toNat<=es.length by omega)
            omega
       .exact hk.elim
      .exact hk.elim
     .exact hk.elim
    .exact hk.elim
  .exact hk.elim
 .exact hk.elim
omit hI in
theorem OX{sz:Nat}:∀{es:List (List AV)},(∀cs∈es,cs.length=sz)->∀k,(es.take k).flatten=es.flatten.take (k*sz)
 | [],_,k=>by simp
 |c::es,hl,0=>by simp
 |c::es,hl,k+1=>by
  have h1:=hl c (Ab ..);have h2:c.length<=k*sz+sz:=by omega
  rw[JQ,BD,BD,OX (fun x hx=>hl x (Ah _ hx)) k,List.take_append,h1,Eg,
   At h2,show k*sz+sz-sz=k*sz by omega]
omit hI in
theorem CY.takeE{U:Nat->Prop}{sz k:Nat}{vs:List Value}(hl:∀cs∈es,cs.length=sz)(hk:k<=es.length)(h:CY g w U es.flatten (vs.take (es.length*sz))):CY g w U (es.take k).flatten (vs.take (k*sz)):=by
 have e:vs.take (k*sz)=(vs.take (es.length*sz)).take (k*sz):=by
  rw[PE,KD (A9 _ hk)]
 rw[OX hl,e];refine⟨by rw[Au (l:=vs.take (es.length*sz)),h.1,Au],fun x hx=>h.2.1 x (CU hx),fun i av x q1 q2=>?_⟩;have hi:i<k*sz:=by
  rcases D1 i (k*sz)with q | q
  .exact q
  .rw[KH,Aj ch]at q1;cases q1
 rw[KH,Al hi]at q1 q2;exact h.2.2 i av x q1 q2
theorem gE(hT:CI P cx.T){d:Option Nat}{ty:Nat}{t:Nat->AV}(ht:∀x:Operand,BS g w (AQ h) (ev t x) (ρ x))(hx:BS g w (AQ h) x vx)(hk:nX cx d h ty x (Co t hi) K):OM P w0 g0 h0 h g w (Instr.sliceAt ty vx none (hi.map ρ) none) K:=by
 unfold nX at hk;split at hk
 .rename_i d MZ e1;rw[LW ht e1];split at hk
  .rename_i e hs;split at hk
   .exact hk.elim
   .rename_i k EZ;split at hk
    .rename_i r n;split at hk
     .rename_i sz es e0;split at hk
      .rename_i hd;split at hk
       .rename_i q1 q3;have q1:=AL q1;obtain⟨⟨rfl,h1,h2⟩,hk⟩:=hk;have hl:(h r).live:=by rw[e0];trivial
        have DH:KJ cx d≠r:=fun e=>by rw[e,e0]at hd;cases hd
        have ho:=hI.objs r;rw[e0]at ho;obtain⟨t1,l1,al,a2⟩:=ho;have CQ:(es.take MZ.toNat).length=MZ.toNat:=by rw[Au];omega
        cases hx with
        |msl _ _ _ a cap hu ht' aV ha MS=>
         have hv:=MS l1.symm;have Mm:es.length<=cap:=by
          rcases a2 with ⟨b1,_,_⟩ | ⟨b,Mb,E,vs,b1,_,b3,_⟩
          .subst b1;exact Ax _
          .rw[b1]at hv;cases hv;exact b3
         have C3:=Fm (P:=P) (w:=w) hT hs EZ a es.length cap none (some MZ) none (.inl rfl) B0 (by simp only[Er,CL];exact h1) (by simp only[CL,Er];omega) B0;have ML:(if cap-(0:Nat)=0 then a else a.map (·.add (0*(cx.T e).size)))=a:=by
          rw[Lz];split
          .rfl
          .rcases ha with e3 | ⟨b,rfl⟩
           .cases a with
            |none=>rfl
            |some a=>simp[Addr.add]
           .rfl
         simp only[CL,Er,BL,Int.toNat_zero,Nat.sub_zero]at C3 ML;have key:∃a',(Instr.sliceAt ty (.slice a es.length cap) ((none:Option Int).map fun n=>.int .i64 n) ((some MZ).map fun n=>.int .i64 n) ((none:Option Int).map fun n=>.int .i64 n)).run P w=.ok (.slice a' MZ.toNat cap) w/\(a'=a):=⟨_,C3,by first | exact ML | (split<;>first | rfl | exact ML | (simp_all))⟩
         obtain⟨a',C3,rfl⟩:=key;have hval:BS (g.upd (KJ cx d) (.slice a' MZ.toNat cap) MZ.toNat true (g.own r) g.S) w (AQ (A1 (A1 h r .dead) (KJ cx d) (.arr sz (es.take MZ.toNat)))) (.msl (KJ cx d) MZ.toNat) (.slice a' MZ.toNat cap):=
          .msl _ _ _ _ _ (by unfold AQ;rw[Bl];simp) (by simp[Gh.upd]) (by simp[Gh.upd]) (ha.elim (fun e=>.inl ch) .inr) (fun _=>by simp[Gh.upd])
         obtain⟨k1,k2⟩:=hI.moveO r (KJ cx d) DH hd hl (ob:=g.own r) (fun c h=>h) (.arr sz (es.take MZ.toNat)) (.slice a' MZ.toNat cap) MZ.toNat true B0 (fun IM=>by
          obtain⟨u1,u2,u3,u4⟩:=BJ g (KJ cx d) (.slice a' MZ.toNat cap) MZ.toNat true (g.own r) g.S;refine⟨u3,u2.trans CQ.symm,fun c hc=>al c (CU hc),?_⟩;rcases a2 with ⟨b1,b2,b3⟩ | ⟨b,Mb,E,vs,b1,b2,b3,b4,b5,b6,b7⟩
          .subst b1;rw[b2]at hv;cases hv;have h0:MZ.toNat=0:=by simp only[Ao]at h2;omega
           exact .inl ⟨List.take_nil,by rw[u1,h0],u4.trans b3⟩
          .rw[b1]at hv;cases hv;refine .inr ⟨b,cap,E,vs,by rw[CQ];exact u1,u4.trans b2,by rw[CQ];omega,b4,b5,?_,b7⟩;rw[CQ];exact(CY.takeE al ch b6).mono IM (fun _ h=>h) (fun _ h=>h.elim))
         exact⟨_,w,_,_,_,C3,hk,k1,k2,hval⟩
       .exact hk.elim
      .exact hk.elim
     .exact hk.elim
    .exact hk.elim
  .exact hk.elim
 .exact hk.elim
theorem X2(hT:CI P cx.T){d:Option Nat}{ty:Nat}{t:Nat->AV}(ht:∀x:Operand,BS g w (AQ h) (ev t x) (ρ x)){lo mx:Option Operand}(hx:BS g w (AQ h) x vx)(hk:G8 cx d h ty x (Co t lo) (Co t hi) (Co t mx) K):OM P w0 g0 h0 h g w (Instr.sliceAt ty vx (lo.map ρ) (hi.map ρ) (mx.map ρ)) K:=by
 unfold G8 at hk;split at hk
 .rename_i Iz MZ sZ e1 e2 e3;rw[LW ht e1,LW ht e2,LW ht e3];split at hk
  .rename_i hs;split at hk
   .rename_i s;obtain⟨⟨h1,h2,h3⟩,hk⟩:=hk;obtain rfl:=hx.v_eq;have hb:=VQ (P:=P) (w:=w) false s.size s.size Iz MZ none (.inl rfl) h1 h2 (by simpa using h3) B0;refine(BU.val (x:=.string (s.extract (Iz.getD 0).toNat (MZ.getD s.size).toNat)) ?_ hk).does hI;simp only[Instr.sliceAt,Sem.run_bind,run_underlying (hT.string hs),Result.andThen_ok,Instr.slice];simp only[Option.map_none,PF,Dp,GB]at hb⊢;simp only[Sem.run_bind,hb,Result.andThen_ok,Sem.run_pure]
   .exact hk.elim
  .rename_i e hs;split at hk
   .exact hk.elim
   .rename_i k EZ;split at hk
    .rename_i tk es;have hr:=hx.slice_none;obtain⟨a,cap,hv,Mm⟩:∃a cap,vx=.slice a es.length cap/\es.length<=cap:=by
      cases hr with
      |snil _ a cap=>exact⟨a,cap,rfl,Ax _⟩
      |slice _ _ b off sz cap val hc=>exact⟨_,cap,rfl,hc⟩
     subst hv;split at hk
     .obtain⟨⟨h1,h2,h3⟩,hl,hk⟩:=hk;have C3:=Fm (P:=P) (w:=w) hT hs EZ a es.length cap Iz MZ none (.inl rfl) h1 h2 (by simp only[Er];omega) B0;refine BU.does hI ⟨_,_,C3,hk,(BS.sub (c':=cap-(Iz.getD 0).toNat) hr rfl hl (l:=(Iz.getD 0).toNat) (m:=(MZ.getD es.length).toNat) ch ch (by simp;omega) _ ?_).up _⟩;split
      .rename_i e;simp only[Er,BL]at e;exact .inr ⟨by omega,rfl⟩
      .exact .inl rfl
     .rename_i m;split at hk
      .rename_i d hh;split at hk
       .obtain⟨⟨h1,h2,rfl,h3⟩,hl,hk⟩:=hk;have C3:=Fm (P:=P) (w:=w) hT hs EZ a es.length cap Iz (some m) (some m) (.inr B0) h1 h2 B0 (by simp only[CL];omega);simp only[CL]at C3;have CQ:((es.take m.toNat).drop (Iz.getD 0).toNat).length=m.toNat-(Iz.getD 0).toNat:=by rw[CK,Au];omega
        refine BU.does hI ⟨_,_,C3,hk,.full _ _ _ _ ((BS.sub (c':=m.toNat-(Iz.getD 0).toNat) hr rfl hl (l:=(Iz.getD 0).toNat) (m:=m.toNat) ch ch ch _ ?_).up _) (fun c hc=>hl c (CU (Jc hc))) ⟨_,by rw[CQ]⟩⟩;split
        .rename_i e;exact .inr ⟨e,rfl⟩
        .exact .inl rfl
       split at hk
       .rename_i hd;obtain⟨⟨h1,h2,rfl,h3⟩,hl,hk⟩:=hk;have C3:=Fm (P:=P) (w:=w) hT hs EZ a es.length cap Iz (some m) (some m) (.inr B0) h1 h2 B0 (by simp only[CL];omega);simp only[CL]at C3
        obtain⟨g',k1,k2,k3⟩:=Pi hI (sz:=(cx.T e).size) (n:=m.toNat-(Iz.getD 0).toNat) hd (es:=(es.take m.toNat).drop (Iz.getD 0).toNat) (fun c hc=>hl c (CU (Jc hc))) (by rw[CK,Au];omega)
         (BS.sub (c':=m.toNat-(Iz.getD 0).toNat) hr rfl hl (l:=(Iz.getD 0).toNat) (m:=m.toNat) ch ch ch (if m.toNat=(Iz.getD 0).toNat then a else a.map (·.add ((Iz.getD 0).toNat*(cx.T e).size))) (by
          split
          .rename_i e;exact .inr ⟨e,rfl⟩
          .exact .inl rfl))
        exact⟨_,w,g',_,_,C3,hk,k1,k2,k3⟩
       .exact hk.elim
      .exact hk.elim
    .obtain⟨⟨h1,h2,h3⟩,h4,hk⟩:=hk;obtain rfl:=hx.v_eq;have C3:=Fm (P:=P) (w:=w) hT hs EZ none 0 0 Iz MZ sZ h4 ch (by simp only[Jw]at *;omega) (by simp only[Jw]at *;omega) (by simp only[Jw]at *;omega);refine BU.does hI (BU.val (x:=.slice none 0 0) ?_ hk);rw[C3];simp only[h1,Jw,h2,h3];simp
    .rename_i r n;split at hk
     .rename_i sz es e0;split at hk
      .rename_i SM;obtain rfl:=AL SM;obtain⟨⟨h1,h2,h3,h4,h5⟩,hk⟩:=hk;have ho:=hI.objs r;rw[e0]at ho;obtain⟨t1,l1,al,a3⟩:=ho;have hl:(h r).live:=by rw[e0];trivial
       have yI:sZ=none\/MZ≠none:=h5.imp id (fun q=>q.2);cases hx with
       |msl _ _ _ a cap hu ht' hn ha MS=>
        have hv:=MS (h1.trans l1.symm);subst h1;have mF:∀c:Nat,es.length<=c->MZ.getD es.length<=sZ.getD c/\sZ.getD c<=c:=fun c hc=>by
         rcases h5 with h5 | ⟨h5,DH⟩
         .rw[h5];simp only[Er];omega
         .obtain⟨m,hm⟩:=Option.ne_none_iff_exists'.1 DH;rw[h5,hm];rw[hm]at h3 h4;simp only[CL]at h3 h4⊢;omega
        rcases a3 with ⟨rfl,q2,q3⟩ | ⟨b,Mb,E,vs,q1,q2,q3,q4,q5,q6,q7⟩
        .rw[q2]at hv;cases hv;have C3:=Fm (P:=P) (w:=w) hT hs EZ none 0 0 Iz MZ sZ yI h2 h3 (mF 0 B0).1 (mF 0 B0).2
         obtain⟨k1,k2⟩:=hI.upd r .dead (g.ρ r) (g.ln r) (g.tk r) (g.own r) g.S w none ⟨rfl,rfl,rfl,Ak _⟩ (fun _ _ _=>rfl) (fun b e=>by cases e) (fun _ _ h=>h) (fun _ _ h=>.inl h) (fun b o e=>by cases e) (fun b hh _=>by cases hh) B0
          (fun _=>⟨rfl,Ak _,fun _=>rfl,fun _=>rfl⟩) (fun _ _=>trivial)
         refine⟨_,w,_,_,_,C3,hk,k1,k2,?_⟩;have z1:((Iz.getD 0).toNat)=0:=by simp only[Ao,Jw]at h3 h4;omega
         have z2:((MZ.getD (([]:List (List AV)).length:Int)).toNat)=0:=by simp only[Ao,Jw]at h3 h4⊢;omega
         simp only[List.take_nil,List.drop_nil];have z3:((MZ.getD ((0:Nat):Int)).toNat)=0:=z2;rw[z1,z3];exact .snil _ _ _
        .rw[q1]at hv;cases hv;have C3:=Fm (P:=P) (w:=w) hT hs EZ (some ⟨b,0,none⟩) es.length cap Iz MZ sZ yI h2 h3 (mF _ q3).1 (mF _ q3).2;have iY:=(hI.loc r b hl q2).1
         obtain⟨k1,k2⟩:=hI.upd r .dead (g.ρ r) (g.ln r) (g.tk r) (g.own r) (g.more b (es.length*(cx.T e).size)) w none ⟨rfl,rfl,rfl,Ak _⟩ (fun _ _ _=>rfl) (fun b e=>by cases e) (fun _ _ h=>.inl h)
          (fun b' o hs=>hs.elim .inl (fun hs=>.inr ⟨by rw[hs.1];exact iY,.inr ⟨hl,by rw[hs.1];exact q2⟩⟩)) (fun b o e=>by cases e) (fun b hh _=>by cases hh) B0
          (fun _=>⟨rfl,Ak _,fun _=>rfl,fun _=>rfl⟩) (fun _ _=>trivial)
         have EE:=BS.slice_row (g:=g.upd r (g.ρ r) (g.ln r) (g.tk r) (g.own r) (g.more b (es.length*(cx.T e).size))) (U:=FK) q4 al q3 (q6.mono k2.keeps (fun _ h=>h) (fun _ h=>h.elim)) (fun o ho=>.inr ⟨rfl,ho⟩);have Ahn:=mF _ q3;refine⟨_,w,_,_,_,C3,hk,k1,k2,(BS.sub (c':=(sZ.getD cap).toNat-(Iz.getD 0).toNat) EE rfl al (l:=(Iz.getD 0).toNat) (m:=(MZ.getD es.length).toNat) ch ch ch _ ?_).up _⟩;split
         .rename_i e;exact .inr ⟨by omega,rfl⟩
         .exact .inl rfl
      .exact hk.elim
     .exact hk.elim
    .exact hk.elim
  .exact hk.elim
 .exact hk.elim
theorem WK(hT:CI P cx.T){d:Option Nat}{ty:Nat}{n c:AV}{vn vc:Value}(hn:BS g w (AQ h) n vn)(hc:BS g w (AQ h) c vc)(hk:Kq cx d h ty n c K) :
  OM P w0 g0 h0 h g w (Instr.makeSlice ty vn vc) K:=by
 unfold Kq at hk;split at hk
 .rename_i e n c hs;obtain rfl:=hn.v_eq;obtain rfl:=hc.v_eq;split at hk
  .rename_i Qt;split at hk
   .rename_i Oe;have Oe:=AL Oe;split at hk
    .exact hk.elim
    .rename_i k EZ;obtain⟨⟨h1,h2,h3,h4⟩,hk⟩:=hk;obtain⟨i,z,i1,i2,i3,i4,i5⟩:=Iq hT EZ;have uT:(cx.T e).zc≠[]:=fun e0=>by rw[e0]at Oe;rw[EZ]at Oe;cases Oe
     have wn:IntKind.i64.wrap n=n:=N9 ⟨by omega,by omega⟩;have wc:IntKind.i64.wrap c=c:=N9 ⟨by omega,by omega⟩;have GL:∀l:List AV,(∀a∈l,one a=true)->Hp l=true:=by
      intro l
      induction l with
      |nil=>intro _;rfl
      |cons a l ih=>intro h;simp[Hp,h a (List.mem_cons_self ..),ih (fun b hb=>h b (List.mem_cons_of_mem _ hb))]
     have uM:((Array.range (c.toNat*(cx.T e).size)).map fun k=>z.cells[k % z.cells.size]!).toList=(List.replicate c.toNat (cx.T e).zc).flatten:=by
      rw[IF c.toNat _ uT,Oe,i5];have e6:z.cells.size=(cx.T e).size:=by rw[<-Oe,i5];simp
      simp[e6,Array.getElem!_eq_getD]
     have hzs:(cx.T e).zc.length=(cx.T e).size:=Oe;have hlr:∀c'∈List.replicate c.toNat (cx.T e).zc,c'.length=(cx.T e).size:=fun c' hc=>by rw[Ct hc];exact Oe
     have AcU : ∀c'∈List.replicate n.toNat ((cx.T e).zc.map AV.v),c'.length=(cx.T e).size:=fun c' hc=>by rw[Ct hc,A8];exact Oe
     have AcV:∀c'∈List.replicate n.toNat (cx.T e).zc,c'.length=(cx.T e).size:=fun c' hc=>by rw[Ct hc];exact Oe
     obtain⟨g',av,h',q1,q2,q3,q4⟩:=KZ hI hk (vs:=(Array.range (c.toNat*(cx.T e).size)).map fun k=>z.cells[k % z.cells.size]!) (cap:=c.toNat) e AcU (by rw[BQ];omega) B0 (by
      rw[uM,BQ];have e1:(List.replicate n.toNat ((cx.T e).zc.map AV.v)).flatten=(List.replicate n.toNat (cx.T e).zc).flatten.map AV.v:=by
       rw[T9,List.map_replicate]
      have e2:(List.replicate c.toNat (cx.T e).zc).flatten.take (n.toNat*(cx.T e).size)=(List.replicate n.toNat (cx.T e).zc).flatten:=by
       obtain⟨m,hm⟩:∃m,c.toNat=n.toNat+m:=⟨c.toNat-n.toNat,by omega⟩;rw[hm,<-List.replicate_append_replicate,Ch,F2 (by rw[DA AcV,BQ])]
      rw[e1,e2];refine CY.vals (GL _ (fun a ha=>?_));obtain⟨x,hx,rfl⟩:=Ai.1 ha;obtain⟨l,hl,hx⟩:=D8.1 hx;rw[Ct hl]at hx;exact NI Qt _ (Ai.2 ⟨x,hx,rfl⟩)) w ⟨rfl,rfl,rfl,rfl⟩
     rw[BQ]at q4;refine⟨_,_,g',av,h',?_,q1,q2,q3,q4⟩;have hb0:¬((cx.T e).bytes*c>2 ^ 48):=by rw[Int.mul_comm];omega
     have mz:((decide (c<0)||decide (((cx.T e).bytes:Int)*c>2 ^ 48))||decide (n<0)||decide (n>c))=false:=by
      simp only[Bool.or_eq_false_iff,HE];exact⟨⟨⟨by omega,hb0⟩,by omega⟩,by omega⟩
     simp only[Instr.makeSlice,Sem.run_bind,run_underlying (hT.slice hs),Result.andThen_ok,asInt,asIntOf,Sem.run_pure,typeInfo,run_program,i1,i4,wn,wc,mz,Dp,GB,run_askRoom,hT.size1 w EZ]
     by_cases hz:c.toNat*(k+1)=0
     .have yg:c.toNat=0:=by
       rcases Nat.mul_eq_zero.1 hz with h | h
       .exact h
       .cases h
      rw[yg];simp only[Lz,SP];simp only[show Array.range 0=#[]from rfl,Array.map_empty];simp[newRow]
     .simp only[Aj hz,Sem.run_bind,zeroValue,typeInfo,run_program,i1,i2,Result.andThen_ok,Sem.run_pure];rw[EZ];simp[newRow]
   .exact hk.elim
  .exact hk.elim
 .exact hk.elim
end
end Go.Eng
namespace Go.Eng
open Go.ChangeMaps (setBlock)
variable {Cc:List (Value×AV)}{es:Array MapEntry}{sh:Fg}{vx:Value}{α β:Type}{f:α->β}{l:List α}{ck:Nat}{w:World}{k x y:Value}{a:AV}{K:HK}{r:Nat}{o':Obj}{j:Nat}{v:AV}{T:Ha}
theorem WM{o:Obj}(h:w.heap[r]?=some o):(setBlock w r o').heap[r]?=some o':=by
 have:=(Bv.1 h).1
 simp[setBlock,this]
theorem VS{k:Nat}(h:k≠r):(setBlock w r o').heap[k]?=w.heap[k]?:=by
 simp[setBlock,Ne.symm h]
theorem OI(w:World)(r:Nat)(o' : Obj):(setBlock w r o').heap.size=w.heap.size:=by simp[setBlock]
theorem QG(h:(l.map f).Nodup):l.Nodup:=by
 induction l with
 |nil=>exact FJ
 |cons c l ih=>
  rw[AK,Dm]at h;exact Dm.2 ⟨fun hc=>h.1 (Ai.2 ⟨c,hc,rfl⟩),ih h.2⟩
theorem XN(h:(l.map f).Nodup){i:Nat}{a b:α}(ha:l[i]?=some a)(hb:l[j]?=some b)(he:f a=f b):i=j:=by
 induction l generalizing i j with
 |nil=>simp at ha
 |cons c l ih=>
  rw[AK,Dm]at h;cases i with
  |zero=>
   cases j with
   |zero=>rfl
   |succ j=>
    simp only[Bf,BB,Hy]at ha hb;exact absurd (Ai.2 ⟨b,Aw hb,by rw[<-he,ha]⟩) h.1
  |succ i=>
   cases j with
   |zero=>
    simp only[Bf,BB,Hy]at ha hb;exact absurd (Ai.2 ⟨a,Aw ha,by rw[he,hb]⟩) h.1
   |succ j=>exact Aa (·+1) (ih h.2 ha hb)
open Classical in
theorem NY{b:AV}(h:(k,b)∈Cc):Fa Cc k a=Cc.map fun p=>if p.1=k then(k,a)else p:=Al ⟨b,h⟩
open Classical in
theorem I0(h:∀b,(k,b)∉Cc):Fa Cc k a=Cc++[(k,a)]:=Aj (fun⟨b,e⟩=>h b e)
theorem XK(f:AV->AV)(h:H3 sh es ck Cc):H3 sh es ck (Cc.map fun p=>(p.1,f p.2)):=by
 obtain⟨h1,h2,h3,h4,h5,h6⟩:=h;refine⟨by simp[h1],fun i kv e q1 q2=>?_,fun kv Rj=>?_,?_,h5,h6⟩
 .rw[AG]at q1;obtain⟨p,q3,rfl⟩:=AS.1 q1;exact h2 i p e q3 q2
 .obtain⟨p,hp,rfl⟩:=Ai.1 Rj;exact h3 p hp
 .rw[Bs];exact h4
theorem QA(h:H3 sh es ck Cc)(hj:Cc[j]?=some (x,a)) :
  H3 sh (es.modify j fun e=>{ e with key:=x,val:=y }) ck (Fa Cc x v) /\
   ∀(i:Nat) (kv:Value×AV) (e:MapEntry),(Fa Cc x v)[i]?=some kv->(es.modify j fun e=>{ e with key:=x,val:=y })[i]?=some e ->
    (kv.2=v/\e.val=y)\/(Cc[i]?=some kv/\es[i]?=some e):=by
 classical
 rw[NY (Aw hj)];obtain⟨h1,h2,h3,h4,h5,h6⟩:=h;have hm:∀i e,(es.modify j fun e=>{ e with key:=x,val:=y })[i]?=some e->∃e0,es[i]?=some e0/\e.born=e0.born/\(if i=j then e.key=x/\e.val=y else e=e0):=by
  intro i e he;rw[Array.getElem?_modify]at he;split at he
  .rename_i e1;subst e1;obtain⟨e0,q1,q2⟩:=AS.1 he;exact⟨e0,q1,by rw[<-q2],by rw[Al rfl,<-q2];exact⟨rfl,rfl⟩⟩
  .rename_i e1;exact⟨e,he,rfl,by rw[Aj (fun q=>e1 q.symm)]⟩
 have hk:∀i kv,(Cc.map fun p=>if p.1=x then(x,v)else p)[i]?=some kv->∃p,Cc[i]?=some p/\kv.1=p.1/\(if i=j then kv.2=v else kv=p):=by
  intro i kv Rj;rw[AG]at Rj;obtain⟨p,q1,q2⟩:=AS.1 Rj;refine⟨p,q1,?_⟩
  by_cases e:p.1=x
  .rw[Al e]at q2;subst q2
   have:=XN h4 q1 hj e
   exact⟨e.symm,by rw[Al this]⟩
  .rw[Aj e]at q2;subst q2;refine⟨rfl,?_⟩;rw[Aj];intro e2;subst e2;rw[q1]at hj;cases hj;exact e rfl
 have yF:(Cc.map fun p=>if p.1=x then(x,v)else p).map (·.1)=Cc.map (·.1):=by
  rw[Bs];apply Bi;intro p _;simp only[Function.comp];split
  .rename_i e;exact e.symm
  .rfl
 refine⟨⟨by simp[h1],fun i kv e q1 q2=>?_,fun kv Rj=>?_,by rw[yF];exact h4,fun i e q=>?_,fun i i' e e' q q' hb=>?_⟩,fun i kv e q1 q2=>?_⟩
 .obtain⟨p,p1,p2,p3⟩:=hk i kv q1;obtain⟨e0,r1,r2,r3⟩:=hm i e q2
  have:=h2 i p e0 p1 r1
  split at r3
  .rename_i ij;subst ij;rw[hj]at p1;cases p1;rw[r3.1,p2]
  .rw[r3,p2];exact this
 .obtain⟨i,hi⟩:=Cp.1 Rj;obtain⟨p,p1,p2,p3⟩:=hk i kv hi;rw[p2];exact h3 p (Aw p1)
 .obtain⟨e0,r1,r2,_⟩:=hm i e q;rw[r2];exact h5 i e0 r1
 .obtain⟨e0,r1,r2,_⟩:=hm i e q;obtain⟨e1,s1,s2,_⟩:=hm i' e' q';exact h6 i i' e0 e1 r1 s1 (by rw[<-r2,<-s2];exact hb)
 .obtain⟨p,p1,p2,p3⟩:=hk i kv q1;obtain⟨e0,r1,r2,r3⟩:=hm i e q2;split at r3
  .rename_i ij;rw[Al ij]at p3;exact .inl ⟨p3,r3.2⟩
  .rename_i ij;rw[Aj ij]at p3;exact .inr ⟨by rw[p3];exact p1,by rw[r3];exact r1⟩
theorem Vn(h:H3 sh es ck Cc)(hx:XX sh x=true)(hn:∀a,(x,a)∉Cc) :
  H3 sh (es.push { key:=x,val:=y,born:=ck }) (ck+1) (Fa Cc x v) /\
   ∀(i:Nat) (kv:Value×AV) (e:MapEntry),(Fa Cc x v)[i]?=some kv->(es.push { key:=x,val:=y,born:=ck })[i]?=some e ->
    (kv.2=v/\e.val=y)\/(Cc[i]?=some kv/\es[i]?=some e):=by
 rw[I0 hn];obtain⟨h1,h2,h3,h4,h5,h6⟩:=h;have hm:∀i e,(es.push { key:=x,val:=y,born:=ck })[i]?=some e->(es[i]?=some e/\i<es.size)\/(i=es.size/\e={ key:=x,val:=y,born:=ck }):=by
  intro i e he;rw[Array.getElem?_push]at he;split at he
  .rename_i q;cases he;exact .inr ⟨q,rfl⟩
  .exact .inl ⟨he,(Bv.1 he).1⟩
 have hk:∀i kv,(Cc++[(x,v)])[i]?=some kv->(Cc[i]?=some kv/\i<es.size)\/(i=es.size/\kv=(x,v)):=by
  intro i kv Rj;rw[M1]at Rj;split at Rj
  .rename_i q;exact .inl ⟨Rj,by omega⟩
  .rename_i q
   have:i-Cc.length=0:=by
    have:=(Av.1 Rj).1
    simp at this;omega
   rw[this]at Rj;simp at Rj;exact .inr ⟨by omega,Rj.symm⟩
 refine⟨⟨by simp[h1],fun i kv e q1 q2=>?_,fun kv Rj=>?_,?_,fun i e q=>?_,fun i i' e e' q q' hb=>?_⟩,fun i kv e q1 q2=>?_⟩
 .rcases hk i kv q1 with ⟨p1,p2⟩ | ⟨p1,p2⟩<;>rcases hm i e q2 with ⟨r1,r2⟩ | ⟨r1,r2⟩
  .exact h2 i kv e p1 r1
  .omega
  .omega
  .rw[p2,r2]
 .rcases AO.1 Rj with q | q
  .exact h3 kv q
  .rw[Ar.1 q];exact hx
 .rw[As,FW];refine⟨h4,by simp,fun a ha b hb e=>?_⟩;simp only[AK,Fe,Ar]at hb;obtain⟨p,p1,p2⟩:=Ai.1 ha;refine hn p.2 ?_
  have:p=(x,p.2):=by rw[<-hb,<-e,<-p2]
  rw[<-this];exact p1
 .rcases hm i e q with ⟨r1,_⟩ | ⟨_,r2⟩
  .have:=h5 i e r1;omega
  .rw[r2];exact Gq _
 .rcases hm i e q with ⟨r1,_⟩ | ⟨r1,r2⟩<;>rcases hm i' e' q' with ⟨s1,_⟩ | ⟨s1,s2⟩
  .exact h6 i i' e e' r1 s1 hb
  .have:=h5 i e r1;rw[s2]at hb;dsimp only at hb;omega
  .have:=h5 i' e' s1;rw[r2]at hb;dsimp only at hb;omega
  .omega
 .rcases hk i kv q1 with ⟨p1,p2⟩ | ⟨p1,p2⟩<;>rcases hm i e q2 with ⟨r1,r2⟩ | ⟨r1,r2⟩
  .exact .inr ⟨p1,r1⟩
  .omega
  .omega
  .exact .inl ⟨by rw[p2],by rw[r2]⟩
section
variable {P:Program}{w0:World}{g0:Gh}{h0 h:Nat->HO}{g:Gh}{w:World}(hI:D7 w0 g0 h0 h g w)
include hI
theorem D7.swap{r b:Nat}(hl:(h r).live)(ho:g.own r=some b)(hn:∀o,¬g.S b o)(o' : HO){ob:Obj}(hb:w.heap[b]?=some ob)(gv : Obj)(w1:World)(L4:w1.heap=w.heap/\w1.os=w.os/\w1.tape=w.tape/\w1.output=w.output)(DH:o'≠.free)
  (Kn:K9 g (g.upd r (g.ρ r) (g.ln r) (g.tk r) (g.own r) g.S) (AQ h)->ET g w (g.upd r (g.ρ r) (g.ln r) (g.tk r) (g.own r) g.S) (setBlock w1 b gv)->(setBlock w1 b gv).heap[b]?=some gv ->
   (∀k,k≠b->(setBlock w1 b gv).heap[k]?=w.heap[k]?) ->
   EC (g.upd r (g.ρ r) (g.ln r) (g.tk r) (g.own r) g.S) (setBlock w1 b gv) (AQ (A1 h r o')) r o') :
  D7 w0 g0 h0 (A1 h r o') (g.upd r (g.ρ r) (g.ln r) (g.tk r) (g.own r) g.S) (setBlock w1 b gv)/\Le h g w (A1 h r o') (g.upd r (g.ρ r) (g.ln r) (g.tk r) (g.own r) g.S) (setBlock w1 b gv):=by
 have Du:=(hI.loc r b hl ho).1;have EY:(setBlock w1 b gv).heap[b]?=some gv:=WM (by rw[L4.1];exact hb);have dG:∀k,k≠b->(setBlock w1 b gv).heap[k]?=w.heap[k]?:=fun k hk=>by rw[VS hk,L4.1]
 refine hI.upd r o' _ _ _ _ _ _ (some b) ⟨L4.2.1,L4.2.2.1,L4.2.2.2,by rw[OI,L4.1];exact Ak _⟩ (fun k _ DH=>dG k (fun e=>DH (by rw[e]))) (fun b' e=>by cases e;exact⟨hl,ho⟩) (fun _ _ h=>h) (fun _ _ h=>.inl h)
  (fun b' o e hs=>by cases e;exact absurd hs (hn o)) (fun b' _ e=>?_) DH (fun _=>⟨rfl,Ak _,fun _=>rfl,fun _=>rfl⟩) (fun hg hk=>Kn hg hk EY dG)
 rw[ho]at e;cases e;exact⟨by rw[OI,L4.1];exact Du,.inl ⟨hl,ho⟩⟩
theorem Oz(hT:CI P T){ty:Nat}{m k x:AV}{vm vk:Value}(hm:BS g w (AQ h) m vm)(hk' : BS g w (AQ h) k vk)(hx:BS g w (AQ h) x vx)(hk:HW T h ty m k x K) :
  kT P w0 g0 h0 h g w (Instr.mapUpdate ty vm vk vx) K:=by
 unfold HW at hk;split at hk
 .rename_i r;split at hk
  .rename_i sh Cc e0;obtain⟨kt,e,k1,k2,k3,k4⟩:=NV hk' hk;have ho:=hI.objs r;rw[e0]at ho;obtain⟨t1,b,es,ck,a1,a2,a3,a4,a5,a6⟩:=ho;have hl:(h r).live:=by rw[e0];trivial
   cases hm with
   |mref _ _ b' hu ht hp=>
    rw[a2]at hp;cases hp;have mO:=hT.map k1;have FN:=run_getObj_map (P:=P) w b es ck a3;have O0:∀o',(setObj b o').run P w=.ok () (setBlock w b o'):=fun o'=>by simp[setObj,Sem.run,a3,setBlock]
    have Wl:=fun bb=>NC hT k2 w bb k3;obtain⟨res,r1,r2⟩:=Pq hT k2 w k3 es.toList a4.shape;have pE:=BS.str hI.objs hx;rcases r2 with ⟨rfl,hn⟩ | ⟨j,en,rfl,hj,hkey⟩
    .obtain⟨m1,m2⟩:=Vn a4 (x:=vk) (v:=str h x) (y:=vx) k3 (fun a=>a4.none hn a);obtain⟨i1,i2⟩:=D7.swap hI hl a1 a6 (.map sh (Fa Cc vk (str h x))) a3 (.map (es.push { key:=vk,val:=vx,born:=ck }) (ck+1)) w ⟨rfl,rfl,rfl,rfl⟩ B0 (fun hg IM EY dG=>by
      obtain⟨u1,u2,u3,u4⟩:=BJ g r (g.ρ r) (g.ln r) (g.tk r) (g.own r) g.S;refine⟨u3.trans t1,b,_,_,u4.trans a1,u1.trans a2,EY,m1,fun i kv e q1 q2=>?_,a6⟩;rcases m2 i kv e q1 q2 with ⟨p1,p2⟩ | ⟨p1,p2⟩
      .rw[p1,p2];exact pE.mono IM (fun _ h=>h) (fun _ h=>h.elim)
      .exact(a5 i kv e p1 p2).mono IM (fun _ h=>h) (fun _ h=>h.elim))
     refine⟨_,_,_,?_,k4,i1,i2⟩;simp[Instr.mapUpdate,run_underlying mO,FN,Wl,r1,O0]
    .obtain⟨a,q1,q2⟩:=a4.some hj hkey;obtain⟨m1,m2⟩:=QA a4 (x:=vk) (v:=str h x) (y:=vx) q1;obtain⟨i1,i2⟩:=D7.swap hI hl a1 a6 (.map sh (Fa Cc vk (str h x))) a3 (.map (es.modify j fun e=>{ e with key:=vk,val:=vx }) ck) w ⟨rfl,rfl,rfl,rfl⟩ B0 (fun hg IM EY dG=>by
      obtain⟨u1,u2,u3,u4⟩:=BJ g r (g.ρ r) (g.ln r) (g.tk r) (g.own r) g.S;refine⟨u3.trans t1,b,_,_,u4.trans a1,u1.trans a2,EY,m1,fun i kv e q1 q2=>?_,a6⟩;rcases m2 i kv e q1 q2 with ⟨p1,p2⟩ | ⟨p1,p2⟩
      .rw[p1,p2];exact pE.mono IM (fun _ h=>h) (fun _ h=>h.elim)
      .exact(a5 i kv e p1 p2).mono IM (fun _ h=>h) (fun _ h=>h.elim))
     refine⟨_,_,_,?_,k4,i1,i2⟩;have uE : es[j]?=some en:=by simpa using hj
     have KL:=Th (P:=P) w k3;simp[Instr.mapUpdate,run_underlying mO,FN,Wl,r1,O0,uE,hkey,KL]
  .rename_i sh Cc e0;obtain⟨kt,e,k1,k2,k3,k4⟩:=NV hk' hk;have ho:=hI.objs r;rw[e0]at ho;obtain⟨t1,b,es,ck,a1,a2,a3,a4,a5,a6⟩:=ho;have hl:(h r).live:=by rw[e0];trivial
   cases hm with
   |mref _ _ b' hu ht hp=>
    rw[a2]at hp;cases hp;have mO:=hT.map k1;have FN:=run_getObj_map (P:=P) w b es ck a3;have O0:∀o',(setObj b o').run P w=.ok () (setBlock w b o'):=fun o'=>by simp[setObj,Sem.run,a3,setBlock]
    have Wl:=fun bb=>NC hT k2 w bb k3;obtain⟨res,r1,r2⟩:=Pq hT k2 w k3 es.toList a4.shape;rcases r2 with ⟨rfl,hn⟩ | ⟨j,en,rfl,hj,hkey⟩
    .obtain⟨m1,m2⟩:=Vn a4 (x:=vk) (v:=x) (y:=vx) k3 (fun a=>a4.none hn a);obtain⟨i1,i2⟩:=D7.swap hI hl a1 a6 (.mapU sh (Fa Cc vk (x))) a3 (.map (es.push { key:=vk,val:=vx,born:=ck }) (ck+1)) w ⟨rfl,rfl,rfl,rfl⟩ B0 (fun hg IM EY dG=>by
      obtain⟨u1,u2,u3,u4⟩:=BJ g r (g.ρ r) (g.ln r) (g.tk r) (g.own r) g.S;have Lu:∀i,AQ h i->AQ (A1 h r (.mapU sh (Fa Cc vk x))) i:=fun i hi=>Ee B0 i hi;refine⟨u3.trans t1,b,_,_,u4.trans a1,u1.trans a2,EY,m1,fun i kv e q1 q2=>?_,a6⟩;rcases m2 i kv e q1 q2 with ⟨p1,p2⟩ | ⟨p1,p2⟩
      .rw[p1,p2];exact hx.mono IM Lu hg
      .exact(a5 i kv e p1 p2).mono IM Lu hg)
     refine⟨_,_,_,?_,k4,i1,i2⟩;simp[Instr.mapUpdate,run_underlying mO,FN,Wl,r1,O0]
    .obtain⟨a,q1,q2⟩:=a4.some hj hkey;obtain⟨m1,m2⟩:=QA a4 (x:=vk) (v:=x) (y:=vx) q1;obtain⟨i1,i2⟩:=D7.swap hI hl a1 a6 (.mapU sh (Fa Cc vk (x))) a3 (.map (es.modify j fun e=>{ e with key:=vk,val:=vx }) ck) w ⟨rfl,rfl,rfl,rfl⟩ B0 (fun hg IM EY dG=>by
      obtain⟨u1,u2,u3,u4⟩:=BJ g r (g.ρ r) (g.ln r) (g.tk r) (g.own r) g.S;have Lu:∀i,AQ h i->AQ (A1 h r (.mapU sh (Fa Cc vk x))) i:=fun i hi=>Ee B0 i hi;refine⟨u3.trans t1,b,_,_,u4.trans a1,u1.trans a2,EY,m1,fun i kv e q1 q2=>?_,a6⟩;rcases m2 i kv e q1 q2 with ⟨p1,p2⟩ | ⟨p1,p2⟩
      .rw[p1,p2];exact hx.mono IM Lu hg
      .exact(a5 i kv e p1 p2).mono IM Lu hg)
     refine⟨_,_,_,?_,k4,i1,i2⟩;have uE : es[j]?=some en:=by simpa using hj
     have KL:=Th (P:=P) w k3;simp[Instr.mapUpdate,run_underlying mO,FN,Wl,r1,O0,uE,hkey,KL]
  .exact hk.elim
 .exact hk.elim
theorem Pj{d b:Nat}{ck:Nat}(hd:h d=.free)(hS:g.S b 0)(hb:w.heap[b]?=some (.map es ck))(hm:H3 sh es ck Cc)(hv:∀(i:Nat) (kv:Value×AV) (e:MapEntry),Cc[i]?=some kv->es[i]?=some e->BS g w FK kv.2 e.val) :
  ∃g',D7 w0 g0 h0 (A1 h d (.iter Cc Cc none)) g' (w.alloc (.mapIter (some b) ck #[] ck))/\Le h g w (A1 h d (.iter Cc Cc none)) g' (w.alloc (.mapIter (some b) ck #[] ck)) /\
   BS g' (w.alloc (.mapIter (some b) ck #[] ck)) (AQ (A1 h d (.iter Cc Cc none))) (.ref d 0) (.pointer (some ⟨w.heap.size,0,none⟩)):=by
 obtain⟨k1,k2⟩:=hI.newOwn hd (.iter Cc Cc none) (.mapIter (some b) ck #[] ck) (.pointer (some ⟨w.heap.size,0,none⟩)) 0 false w ⟨rfl,rfl,rfl,rfl⟩ B0 (fun hg hk=>by
  obtain⟨u1,u2,u3,u4⟩:=BJ g d (.pointer (some ⟨w.heap.size,0,none⟩)) 0 false (some w.heap.size) g.S;obtain⟨c1,c2,c3⟩:=hk b 0 hS
  exact⟨u3,w.heap.size,b,ck,#[],ck,es,ck,u4,u1,G2 w _ rfl,c1,c3 es ck hb,⟨sh,hm⟩,rfl,rfl,fun i kv e q1 q2=>(hv i kv e q1 q2).mono hk (fun _ h=>h) (fun _ h=>h.elim),
   ⟨QG hm.2.2.2.1,fun _ h=>h⟩,fun i kv e q1 q2=>by simp[List.mem_of_getElem? q1],trivial,fun o ho=>by have:=hI.slt _ _ ho;omega⟩)
 refine⟨_,k1,k2,.ref _ d 0 w.heap.size (by unfold AQ;rw[Bl];simp) ?_ ?_⟩<;>simp[Gh.upd]
theorem SZ{r b:Nat}{ck:Nat}(e0:h r=.map sh Cc)(a1:g.own r=some b)(a2:g.ρ r=.map (some b))(a3:w.heap[b]?=some (.map es ck))(a4:H3 sh es ck Cc)(a5:∀(i:Nat) (kv:Value×AV) (e:MapEntry),Cc[i]?=some kv->es[i]?=some e->BS g w FK kv.2 e.val)(t1:g.tk r=false) :
  ∃g',D7 w0 g0 h0 (A1 h r (.rom sh Cc)) g' w/\Le h g w (A1 h r (.rom sh Cc)) g' w/\g'.S b 0:=by
 have hl:(h r).live:=by rw[e0];trivial
 have Du:=(hI.loc r b hl a1).1
 obtain⟨k1,k2⟩:=hI.upd r (.rom sh Cc) (g.ρ r) (g.ln r) (g.tk r) none (g.more b 1) w none ⟨rfl,rfl,rfl,Ak _⟩ (fun _ _ _=>rfl) (fun b e=>by cases e) (fun _ _ h=>.inl h)
  (fun b' o hs=>hs.elim .inl (fun hs=>.inr ⟨by rw[hs.1];exact Du,.inr ⟨hl,by rw[hs.1];exact a1⟩⟩)) (fun b o e=>by cases e) (fun b hh _=>by cases hh) B0
  (fun _=>⟨rfl,Ak _,fun _=>rfl,fun _=>rfl⟩) (fun hg hk=>by
   obtain⟨u1,u2,u3,u4⟩:=BJ g r (g.ρ r) (g.ln r) (g.tk r) none (g.more b 1);exact⟨u3.trans t1,b,u1.trans a2,.cmap _ sh Cc b es ck (.inr ⟨rfl,WU⟩) a3 a4 (fun i kv e q1 q2=>(a5 i kv e q1 q2).mono hk (fun _ h=>h) (fun _ h=>h.elim))⟩)
 exact⟨_,k1,k2,.inr ⟨rfl,WU⟩⟩
theorem Y9{r b:Nat}{ck:Nat}(e0:h r=.mapU sh Cc)(a1:g.own r=some b)(a2:g.ρ r=.map (some b))(a3:w.heap[b]?=some (.map es ck))(a4:H3 sh es ck Cc)(a5:∀(i:Nat) (kv:Value×AV) (e:MapEntry),Cc[i]?=some kv->es[i]?=some e->BS g w (AQ h) kv.2 e.val)(t1:g.tk r=false) :
  ∃g',D7 w0 g0 h0 (A1 h r (.rom sh (TB h Cc))) g' w/\Le h g w (A1 h r (.rom sh (TB h Cc))) g' w/\g'.S b 0:=by
 have hl:(h r).live:=by rw[e0];trivial
 have Du:=(hI.loc r b hl a1).1
 obtain⟨k1,k2⟩:=hI.upd r (.rom sh (TB h Cc)) (g.ρ r) (g.ln r) (g.tk r) none (g.more b 1) w none ⟨rfl,rfl,rfl,Ak _⟩ (fun _ _ _=>rfl) (fun b e=>by cases e) (fun _ _ h=>.inl h)
  (fun b' o hs=>hs.elim .inl (fun hs=>.inr ⟨by rw[hs.1];exact Du,.inr ⟨hl,by rw[hs.1];exact a1⟩⟩)) (fun b o e=>by cases e) (fun b hh _=>by cases hh) B0
  (fun _=>⟨rfl,Ak _,fun _=>rfl,fun _=>rfl⟩) (fun hg hk=>by
   obtain⟨u1,u2,u3,u4⟩:=BJ g r (g.ρ r) (g.ln r) (g.tk r) none (g.more b 1);refine⟨u3.trans t1,b,u1.trans a2,.cmap _ sh _ b es ck (.inr ⟨rfl,WU⟩) a3 (XK _ a4) (fun i kv e q1 q2=>?_)⟩;unfold TB at q1;rw[AG]at q1;obtain⟨p,q3,rfl⟩:=AS.1 q1;exact((a5 i p e q3 q2).str hI.objs).mono hk (fun _ h=>h) (fun _ h=>h.elim))
 exact⟨_,k1,k2,.inr ⟨rfl,WU⟩⟩
theorem j9(hT:CI P T){ty kt e:Nat}(ht:(T ty).d=.map kt e){d:Option Nat}{x:AV}(hx:BS g w (AQ h) x vx)(hk:eu d h x K) :
  OM P w0 g0 h0 h g w (Instr.range ty vx) K:=by
 have hu:=hT.map ht;unfold eu at hk;split at hk
 .exact hk.elim
 .rename_i d;split at hk
  .rename_i hd;have C3:∀b es ck,w.heap[b]?=some (.map es ck)->(Instr.range ty (.map (some b))).run P w=.ok (.pointer (some ⟨w.heap.size,0,none⟩)) (w.alloc (.mapIter (some b) ck #[] ck)):=fun b es ck hb=>by
    simp[Instr.range,run_underlying hu,run_getObj_map (P:=P) w b es ck hb]
   split at hk
   .cases hx with
    |cmap _ _ _ b es ck hS hb hm hv=>
     obtain⟨g',k1,k2,k3⟩:=Pj hI hd hS hb hm hv;exact⟨_,_,_,_,_,C3 _ _ _ hb,hk,k1,k2,k3⟩
   .rename_i r;have ho:=hI.objs r;cases hx with
    |mref _ _ b mO ht' hp=>
     split at hk
     .rename_i sh Cc e0;rw[e0]at ho;obtain⟨_,b',a1,a2⟩:=ho;rw[a1]at hp;cases hp;cases a2 with
      |cmap _ _ _ _ es ck hS hb hm hv=>
       obtain⟨g',k1,k2,k3⟩:=Pj hI hd hS hb hm hv;exact⟨_,_,_,_,_,C3 _ _ _ hb,hk,k1,k2,k3⟩
     .rename_i sh Cc e0;rw[e0]at ho;obtain⟨t1,b',es,ck,a1,a2,a3,a4,a5,a6⟩:=ho;rw[a2]at hp;cases hp;obtain⟨g1,i1,i2,i3⟩:=SZ hI e0 a1 a2 a3 a4 a5 t1;have DH:d≠r:=fun e=>by rw[e,e0]at hd;cases hd
      obtain⟨g',k1,k2,k3⟩:=Pj i1 (by rw[Ca _ _ _ _ DH];exact hd) i3 a3 a4 (fun i kv e q1 q2=>(a5 i kv e q1 q2).mono i2.keeps (fun _ h=>h) (fun _ h=>h.elim));exact⟨_,_,_,_,_,C3 _ _ _ a3,hk,k1,i2.trans k2,k3⟩
     .exact hk.elim
   .exact hk.elim
  .exact hk.elim
theorem nw{ty:TypeId}{x:AV}(hx:BS g w (AQ h) x vx)(hk:nv h x K):OM P w0 g0 h0 h g w (Instr.next vx false ty) K:=by
 unfold nv at hk;split at hk
 .rename_i r;split at hk
  .rename_i all rem EN e0;have ho:=hI.objs r;rw[e0]at ho;obtain⟨t1,b,mb,K7,seen,st,es,ck,a1,a2,a3,a4,a5,⟨sh,a6⟩,a7,a8,a9,ZO,fb,a12,tA⟩:=ho;have hl:(h r).live:=by rw[e0];trivial
   cases hx with
   |ref _ _ _ b' hu ht hp=>
    rw[a2]at hp;cases hp;have Du:∀e∈es.toList,e.born<K7:=fun e he=>by
     obtain⟨i,hi⟩:=Cp.1 he
     have:=a6.2.2.2.2.1 i e (by simpa using hi)
     omega
    rcases run_next_at (P:=P) w ty b mb K7 st seen es ck a3 a5 Du ch with ⟨q1,q2⟩ | ⟨e,q1,w1,q2,q3⟩
    .have Ade:rem=[]:=by
      apply MQ.2;intro kv Rj;obtain⟨i,hi⟩:=Cp.1 (ZO.2 kv Rj);have hil:i<es.size:=by rw[a6.1];exact(Av.1 hi).1
      have hb:=(fb i kv es[i] hi (by simp[hil])).1 Rj;have hm:es[i]∈leftOf es seen:=by simp[leftOf,hb]
      have:=Array.size_pos_of_mem hm
      omega
     exact⟨_,w,g,_,h,q2,hk.1 Ade,hI,.refl _ _ _,.tup _ _ _ rfl (fun i av x h1 h2=>by
      match i,h1,h2 with
      |0,h1,h2=>simp at h1 h2;subst h1;subst h2;exact .v _ _)⟩
    .have hq:e∈es/\e.born∉seen:=by simpa[leftOf]using q1
     obtain⟨i,hi⟩:=Array.mem_iff_getElem?.1 hq.1;have hil:i<all.length:=by rw[<-a6.1];exact(Bv.1 hi).1
     have wQ:all[i]?=some all[i]:=Az hil;have px:=(fb i _ e wQ hi).2 hq.2;obtain⟨s1,s2,hs⟩:=List.append_of_mem px;have JJ:rem.Perm (all[i]::(s1++s2)):=by rw[hs];exact List.perm_middle
     have Tu:(all[i]::(s1++s2)).Nodup:=JJ.nodup_iff.1 ZO.1;have hr:=a9 i _ e wQ hi;have hkey:=a6.2.1 i _ e wQ hi;have L4:w1.heap=w.heap/\w1.os=w.os/\w1.tape=w.tape/\w1.output=w.output:=by rcases q2 with rfl | rfl<;>exact⟨rfl,rfl,rfl,rfl⟩
     obtain⟨k1,k2⟩:=D7.swap hI hl a1 tA (.iter all (s1++s2) (some all[i])) a3 (.mapIter (some mb) K7 (seen.push e.born) ck) w1 L4 B0 (fun hg IM EY dG=>by
      obtain⟨u1,u2,u3,u4⟩:=BJ g r (g.ρ r) (g.ln r) (g.tk r) (g.own r) g.S;obtain⟨c1,c2,c3⟩:=IM mb 0 a4
      refine⟨u3.trans t1,b,mb,K7,_,ck,es,ck,u4.trans a1,u1.trans a2,EY,c1,c3 _ _ a5,⟨sh,a6⟩,a7,rfl,fun i kv e p q=>(a9 i kv e p q).mono IM (fun _ h=>h) (fun _ h=>h.elim),
       ⟨(Dm.1 Tu).2,fun kv Rj=>ZO.2 kv (JJ.mem_iff.2 (Ah _ Rj))⟩,fun j kv e' p q=>?_,⟨i,e,wQ,hi,by simp⟩,tA⟩
      rw[Array.mem_push];have h1:=fb j kv e' p q;rw[JJ.mem_iff,AA]at h1;constructor
      .intro Rj hc;rcases hc with hc | hc
       .exact(h1.1 (.inr Rj)) hc
       .obtain rfl:=a6.2.2.2.2.2 j i e' e q hi hc;rw[wQ]at p;cases p;exact(Dm.1 Tu).1 Rj
      .intro hc;rcases h1.2 (fun hm=>hc (.inl hm))with e2 | e2
       .have:j=i:=XN (f:=fun x=>x) (l:=all) (by simpa using QG a6.2.2.2.1) p wQ e2
        subst this;rw[hi]at q;cases q;exact absurd (.inr rfl) hc
       .exact e2)
     refine⟨_,_,_,_,_,q3,hk.2 all[i] (s1++s2) JJ,k1,k2,.tup _ _ _ rfl (fun j av x h1 h2=>?_)⟩
     match j,h1,h2 with
     |0,h1,h2=>simp at h1 h2;subst h1;subst h2;exact .v _ _
     |1,h1,h2=>simp at h1 h2;subst h1;subst h2;rw[hkey];exact .v _ _
     |2,h1,h2=>simp at h1 h2;subst h1;subst h2;exact(hr.up _).le k2
  .exact hk.elim
 .exact hk.elim
end
end Go.Eng
